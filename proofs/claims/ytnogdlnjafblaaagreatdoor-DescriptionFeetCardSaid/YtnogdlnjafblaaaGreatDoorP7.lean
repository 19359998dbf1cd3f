/- Steps of the proof. -/
import Derived.Test.YtnogdlnjafblaaaGreatDoorG2
import Derived.Test.YtnogdlnjafblaaaGreatDoorP4
import Derived.Test.YtnogdlnjafblaaaGreatDoorP3
set_option linter.all false
set_option maxHeartbeats 40000000
set_option maxRecDepth 100000
open Go.Proofs.Tryz
noncomputable section
namespace Go.Kz
open Go Go.Proofs
abbrev Fl:=Int×Int×Int
abbrev Pm(α:Type):=List Tk->Nat->Except Fl (α×Nat)
def aQ{α β:Type}(x:Pm α)(f:α->Pm β):Pm β:=λl n=>match x l n with|.ok (a,n')=>f a l n' | .error e=>.error e
def dT{α:Type}(a:α):Pm α:=λ_ n=>.ok (a,n)
def lI(l:List Tk)(n:Nat):Int×Int:=if IL l n=(0,0)then(1,1)else IL l n
def iD{α:Type}(e:Int):Pm α:=λl n=>.error ((lI l n).1,(lI l n).2,e)
def lF(k:Int):Pm Tk:=λl n=>if (bK (λt=>decide (t.kind=k)) l n).1.2=true then .ok ((bK (λt=>decide (t.kind=k)) l n).1.1,(bK (λt=>decide (t.kind=k)) l n).2)else iD 15 l n
def lH(w:List UInt8):Pm Unit:=λl n=>if (bK (isWord 1 w) l n).1.2=true then .ok ((),(bK (isWord 1 w) l n).2)else iD 15 l n
def pP:Pm (List UInt8):=aQ (lF 1) λt=>dT t.text
def pT:Pm Int:=aQ (lF 2) λt=>dT t.num
def pU:Pm Unit:=aQ (lF 6) λ_=>dT ()
def wD:Pm CG:=aQ (lH [102,101,101,116]) λ_=>aQ (lF 3) λt=>dT t.cB
def placeOf(s:List UInt8):List (List UInt8)->Int
 | []=>-1
 |x::xs=>if x=s then 0 else if placeOf s xs<0 then -1 else placeOf s xs+1
def lY(names:List (List UInt8)):Pm Int:=λl n=>
 if (kW l n).2=false\/(kW l n).1.kind≠1 then iD 15 l n else
 if placeOf (kW l n).1.text names<0 then iD 10 l n else .ok (placeOf (kW l n).1.text names,n+1)
def mR:List Tk->List Int
 | []=>[]
 |t::r=>if t.kind=2 then t.num::mR r else []
def FI:Pm (List Int):=λl n=>.ok (mR (l.drop n),n+(mR (l.drop n)).length)
def iC:Pm bA:=aQ pP λnm=>aQ (lH [116,111,110,101]) λ_=>aQ pP λtn=>aQ wD λf=>aQ (lH [102,105,114,115,116]) λ_=>
 aQ pT λk=>aQ (lH [119,105,110,100]) λ_=>aQ FI λw=>aQ pU λ_=>dT ⟨nm,tn,f.1,f.2,k,w⟩
def nJ{α:Type}(w:List UInt8)(body:Pm α):Nat->List α->Pm (List α)
 |0,acc=>λ_ n=>.ok (acc,n)
 |f+1,acc=>λl n=>if (bK (isWord 1 w) l n).1.2=true then(match body l (bK (isWord 1 w) l n).2 with|.ok (a,n2)=>nJ w body f (acc++[a]) l n2|.error e=>.error e)else .ok (acc,n)
def nI{α:Type}(w:List UInt8)(body:Pm α):Pm (List α):=λl n=>nJ w body (l.length+1-n) [] l n
def dW(bM:List (List UInt8)):Pm fV:=aQ (lY bM) λi=>aQ pT λs=>aQ pU λ_=>dT ⟨i,s⟩
def kU(bM:List (List UInt8)):Pm kJ:=aQ pT λa=>aQ pT λb=>aQ pU λ_=>aQ (nI [100,114,97,119] (dW bM)) λds=>dT ⟨a,b,ds⟩
def fJ(bM:List (List UInt8)):Pm dL:=aQ pP λnm=>aQ wD λf=>aQ pU λ_=>aQ (nI [107,101,121,115] (kU bM)) λgs=>dT ⟨nm,f.1,f.2,gs⟩
def tV(w:List UInt8):Pm Bool:=λl n=>.ok (decide ((bK (isWord 1 w) l n).1.2=true),(bK (isWord 1 w) l n).2)
def iT(bM:List (List UInt8)):Pm b9:=aQ pP λnm=>aQ (tV [112,101,100,97,108]) λb=>aQ (lH [107,101,121,115]) λ_=>aQ pT λx=>aQ pT λy=>aQ pU λ_=>
 aQ (nI [115,116,111,112] (fJ bM)) λss=>dT ⟨nm,b,x,y,ss⟩
def gD(dY:List (List UInt8)):Pm eF:=aQ pP λnm=>aQ (lH [102,114,111,109]) λ_=>aQ (lY dY) λi=>aQ (lH [116,111]) λ_=>aQ (lY dY) λj=>
 aQ (lH [115,104,105,102,116]) λ_=>aQ pT λs=>aQ (tV [116,104,114,111,117,103,104]) λb=>aQ pU λ_=>dT ⟨nm,i,j,s,b⟩
def FK:Pm Unit:=λl n=>if n<l.length then iD 15 l n else .ok ((),n)
def jA:Pm eG:=aQ (lH [111,114,103,97,110]) λ_=>aQ pP λnm=>aQ pU λ_=>aQ (nI [114,97,110,107] iC) λrs=>
 aQ (nI [100,105,118,105,115,105,111,110] (iT (rs.map bA.name))) λds=>aQ (nI [99,111,117,112,108,101,114] (gD (ds.map b9.name))) λcs=>aQ FK λ_=>dT ⟨nm,rs,ds,cs⟩
def aRt(bM:List (List UInt8)):Pm dL:=aQ (lH [115,116,111,112]) λ_=>aQ (fJ bM) λs=>aQ FK λ_=>dT s
def aP{α:Type}(x:Pm α):Prop:=∀l n a n',n<=l.length->x l n=.ok (a,n')->n<=n'/\n'<=l.length
theorem aP.then'{α β:Type}{x:Pm α}{f:α->Pm β}(hx:aP x)(hf:∀a,aP (f a)):aP (aQ x f):=by
 intro l n b n' hn h;unfold aQ at h;split at h
 .rename_i a n1 h1;obtain⟨h2,h3⟩:=hx l n a n1 hn h1;obtain⟨h4,h5⟩:=hf a l n1 b n' h3 h;exact⟨xb,h5⟩
 .cases h
theorem aP.ret{α:Type}{a:α}:aP (dT a):=by
 intro l n b n' hn h;simp only[dT,yBj,yAc]at h;omega
theorem aBw(q:Tk->Bool)(l:List Tk)(n:Nat):n<=(bK q l n).2:=by
 unfold bK;split
 .split<;>simp
 .simp
theorem aP.take{k:Int}:aP (lF k):=by
 intro l n b n' hn h;unfold lF at h;split at h
 .simp only[yBj,yAc]at h;have:=aBw (λt=>decide (t.kind=k)) l n;have:=oX (λt=>decide (t.kind=k)) hn;omega
 .cases h
theorem aP.key{w:Bx}:aP (lH w):=by
 intro l n b n' hn h;unfold lH at h;split at h
 .simp only[yBj,yAc]at h;have:=aBw (isWord 1 w) l n;have:=oX (isWord 1 w) hn;omega
 .cases h
theorem aP.is{w:Bx}:aP (tV w):=by
 intro l n b n' hn h;simp only[tV,yBj,yAc]at h;have:=aBw (isWord 1 w) l n;have:=oX (isWord 1 w) hn;omega
theorem aP.index{w:List (List UInt8)}:aP (lY w):=by
 intro l n b n' hn h;unfold lY at h;split at h
 .cases h
 .rename_i h1;split at h
  .cases h
  .simp only[yBj,yAc]at h;have:n<l.length:=by
    rcases yBy n l.length with h2|h2
    .exact h2
    .exfalso;apply h1;left;simp[kW,h2]
   omega
theorem aFa:∀l:List Tk,(mR l).length<=l.length
 | []=>by simp[mR]
 |t::r=>by
  unfold mR;split
  .have:=aFa r;simp only[yAK];omega
  .simp
theorem aP.nD:aP FI:=by
 intro l n b n' hn h;simp only[FI,yBj,yAc]at h;have:=aFa (l.drop n);rw[yBe]at this;omega
theorem aP.many{α:Type}{w:Bx}{b:Pm α}(hb:aP b):aP (nI w b):=by
 have key:∀(f:Nat) (acc:List α),aP (nJ w b f acc):=by
  intro f
  induction f with
  |zero=>intro acc;exact aP.ret
  |succ f ih=>
   intro acc l n x n' hn h;unfold nJ at h;have h1:=aBw (isWord 1 w) l n;have h2:=oX (isWord 1 w) hn;split at h
   .split at h
    .rename_i a n2 h3;obtain⟨h4,h5⟩:=hb l _ a n2 h2 h3;obtain⟨h6,h7⟩:=ih _ l n2 x n' h5 h;exact⟨xb,h7⟩
    .cases h
   .simp only[yBj,yAc]at h;omega
 exact λl n x n' hn h=>key _ _ l n x n' hn h
theorem aP.done:aP FK:=by
 intro l n b n' hn h;unfold FK at h;split at h
 .cases h
 .simp only[yBj,yAc]at h;omega
theorem aP.name:aP pP:=aP.take.then' λ_=>.ret
theorem aP.num:aP pT:=aP.take.then' λ_=>.ret
theorem aP.eY:aP pU:=aP.take.then' λ_=>.ret
theorem aP.cB:aP wD:=aP.key.then' λ_=>aP.take.then' λ_=>.ret
theorem aP.bO:aP iC:=aP.name.then' λ_=>aP.key.then' λ_=>aP.name.then' λ_=>aP.cB.then' λ_=>aP.key.then' λ_=>aP.num.then' λ_=>aP.key.then' λ_=>aP.nD.then' λ_=>aP.eY.then' λ_=>.ret
theorem aP.draw{r:List (List UInt8)}:aP (dW r):=aP.index.then' λ_=>aP.num.then' λ_=>aP.eY.then' λ_=>.ret
theorem aP.cD{r:List (List UInt8)}:aP (kU r):=aP.num.then' λ_=>aP.num.then' λ_=>aP.eY.then' λ_=>aP.draw.many.then' λ_=>.ret
theorem aP.stop{r:List (List UInt8)}:aP (fJ r):=aP.name.then' λ_=>aP.cB.then' λ_=>aP.eY.then' λ_=>aP.cD.many.then' λ_=>.ret
theorem aP.div{r:List (List UInt8)}:aP (iT r):=aP.name.then' λ_=>aP.is.then' λ_=>aP.key.then' λ_=>aP.num.then' λ_=>aP.num.then' λ_=>aP.eY.then' λ_=>aP.stop.many.then' λ_=>.ret
theorem aP.cF{r:List (List UInt8)}:aP (gD r):=aP.name.then' λ_=>aP.key.then' λ_=>aP.index.then' λ_=>aP.key.then' λ_=>aP.index.then' λ_=>aP.key.then' λ_=>aP.num.then' λ_=>aP.is.then' λ_=>aP.eY.then' λ_=>.ret
structure Ls where
 n:Nat
 at_:Int×Int
 e:Int
abbrev Lm(α:Type):=List Tk->Ls->α×Ls
def cQ{α β:Type}(x:Lm α)(f:α->Lm β):Lm β:=λl s=>f (x l s).1 l (x l s).2
def rN{α:Type}(a:α):Lm α:=λ_ s=>(a,s)
def FL(e:Int):Lm Unit:=λl s=>((),if s.e≠0 then s else { s with at_:=aFm l s.n,e:=e })
where aFm (l:List Tk) (n:Nat):Int×Int:=match l[n]? with
 |some t=>(t.line,t.bR)
 |none=>match l.getLast? with|some t=>(t.line,t.bR)|none=>(1,1)
def wE(l:List Tk)(s:Ls):Int:=if s.e≠0 then 0 else match l[s.n]? with|some t=>t.kind|none=>0
def tW(w:List UInt8):Lm Bool:=λl s=>if wE l s=1/\(l.getD s.n bD).text=w then(true,{ s with n:=s.n+1 })else(false,s)
def wF(w:List UInt8):Lm Unit:=λl s=>if (tW w l s).1=true then((),(tW w l s).2)else FL 15 l (tW w l s).2
def wG(k:Int):Lm Tk:=λl s=>if wE l s≠k then(bD,(FL 15 l s).2)else(l.getD s.n bD,{ s with n:=s.n+1 })
def PG:Lm (List UInt8):=cQ (wG 1) λt=>rN t.text
def DC:Lm Int:=cQ (wG 2) λt=>rN t.num
def MV:Lm Unit:=cQ (wG 6) λ_=>rN ()
def ftL:Lm CG:=cQ (wF [102,101,101,116]) λ_=>cQ (wG 3) λt=>rN t.cB
def PH(names:List (List UInt8)):Lm Int:=λl s=>
 if wE l s=1/\0<=placeOf (l.getD s.n bD).text names then(placeOf (l.getD s.n bD).text names,{ s with n:=s.n+1 })
 else if wE l s=1 then(0,(wG 1 l (FL 10 l s).2).2)else(0,(wG 1 l s).2)
def X2:Nat->List Int->Lm (List Int)
 |0,acc=>rN acc
 |f+1,acc=>λl s=>if wE l s=2 then X2 f (acc++[(DC l s).1]) l (DC l s).2 else(acc,s)
def aBu:Lm (List Int):=λl s=>X2 (l.length+1-s.n) [] l s
def aK2:Lm bA:=cQ PG λnm=>cQ (wF [116,111,110,101]) λ_=>cQ PG λtn=>cQ ftL λf=>cQ (wF [102,105,114,115,116]) λ_=>
 cQ DC λk=>cQ (wF [119,105,110,100]) λ_=>cQ aBu λw=>cQ MV λ_=>rN ⟨nm,tn,f.1,f.2,k,w⟩
def K3{α:Type}(w:List UInt8)(body:Lm α):Nat->List α->Lm (List α)
 |0,acc=>rN acc
 |f+1,acc=>λl s=>if (tW w l s).1=true then K3 w body f (acc++[(body l (tW w l s).2).1]) l (body l (tW w l s).2).2 else(acc,(tW w l s).2)
def PI{α:Type}(w:List UInt8)(body:Lm α):Lm (List α):=λl s=>K3 w body (l.length+1-s.n) [] l s
def aK3(bM:List (List UInt8)):Lm fV:=cQ (PH bM) λi=>cQ DC λs=>cQ MV λ_=>rN ⟨i,s⟩
def aK4(bM:List (List UInt8)):Lm kJ:=cQ DC λa=>cQ DC λb=>cQ MV λ_=>cQ (PI [100,114,97,119] (aK3 bM)) λds=>rN ⟨a,b,ds⟩
def aK5(bM:List (List UInt8)):Lm dL:=cQ PG λnm=>cQ ftL λf=>cQ MV λ_=>cQ (PI [107,101,121,115] (aK4 bM)) λgs=>rN ⟨nm,f.1,f.2,gs⟩
def aK6(bM:List (List UInt8)):Lm b9:=cQ PG λnm=>cQ (tW [112,101,100,97,108]) λb=>cQ (wF [107,101,121,115]) λ_=>cQ DC λx=>cQ DC λy=>cQ MV λ_=>
 cQ (PI [115,116,111,112] (aK5 bM)) λss=>rN ⟨nm,b,x,y,ss⟩
def aK7(dY:List (List UInt8)):Lm eF:=cQ PG λnm=>cQ (wF [102,114,111,109]) λ_=>cQ (PH dY) λi=>cQ (wF [116,111]) λ_=>cQ (PH dY) λj=>
 cQ (wF [115,104,105,102,116]) λ_=>cQ DC λs=>cQ (tW [116,104,114,111,117,103,104]) λb=>cQ MV λ_=>rN ⟨nm,i,j,s,b⟩
def X3:Lm Unit:=λl s=>if s.n<l.length then FL 15 l s else((),s)
def aVX:Lm eG:=cQ (wF [111,114,103,97,110]) λ_=>cQ PG λnm=>cQ MV λ_=>cQ (PI [114,97,110,107] aK2) λrs=>
 cQ (PI [100,105,118,105,115,105,111,110] (aK6 (rs.map bA.name))) λds=>cQ (PI [99,111,117,112,108,101,114] (aK7 (ds.map b9.name))) λcs=>cQ X3 λ_=>rN ⟨nm,rs,ds,cs⟩
def XW(l:List Tk):Prop:=∀t∈l,0<t.kind/\0<t.line
def eS(n:Nat):Ls:=⟨n,(0,0),0⟩
structure dC {α:Type} (x:Pm α) (y:Lm α):Prop where
 ok:∀l n a n',XW l->n<=l.length->x l n=.ok (a,n')->y l (eS n)=(a,eS n')
 er:∀l n v,XW l->n<=l.length->x l n=.error v->(y l (eS n)).2.at_=(v.1,v.2.1)/\(y l (eS n)).2.e=v.2.2/\v.2.2≠0
 st:∀l s,s.e≠0->(y l s).2=s
theorem MW{l:List Tk}{s:Ls}{t:Tk}(he:s.e=0)(h:l[s.n]?=some t):wE l s=t.kind:=by simp[wE,he,h]
theorem X5{l:List Tk}{s:Ls}(h:l[s.n]?=none):wE l s=0:=by
 unfold wE;split
 .rfl
 .rw[h]
theorem X6{l:List Tk}{s:Ls}(h:s.e≠0):wE l s=0:=by simp[wE,h]
theorem aVY{l:List Tk}{n:Nat}(ht:XW l)(hn:n<=l.length):FL.aFm l n=lI l n:=by
 unfold FL.aFm lI IL;rcases yBy n l.length with h|h
 .have e:min n (l.length-1)=n:=by omega
  have h0:=(ht l[n] (yAm h)).2;rw[e,yAh h];simp only;rw[yAI (by intro hx;simp only[yAc]at hx;omega)]
 .have e:min n (l.length-1)=l.length-1:=by omega
  rw[yBp h,e];simp only;cases hl:l.getLast? with
  |none=>rw[List.getLast?_eq_none_iff]at hl;subst hl;rfl
  |some t=>
   rw[List.getLast?_eq_getElem?]at hl;rw[hl];have h0:=(ht t (yAE hl)).2;simp only;rw[yAI (by intro hx;simp only[yAc]at hx;omega)]
theorem aBv{e:Int}{l:List Tk}{s:Ls}(h:s.e≠0):FL e l s=((),s):=by simp[FL,h]
theorem L2{e:Int}{l:List Tk}{n:Nat}(ht:XW l)(hn:n<=l.length):(FL e l (eS n)).2=⟨n,lI l n,e⟩:=by
 simp only[FL,eS,ne_eq,yBt,yAN];rw[aVY ht hn]
theorem dC.ret{α:Type}{a:α}:dC (dT a) (rN a) where
 ok:=λl n b n' _ _ h=>by simp only[dT,yBj,yAc]at h;obtain⟨rfl,rfl⟩:=h;rfl
 er:=λl n v _ _ h=>xz
 st:=λ_ _ _=>rfl
theorem dC.then'{α β:Type}{x:Pm α}{y:Lm α}{f:α->Pm β}{g:α->Lm β}(hF:aP x)(h:dC x y)(k:∀a,dC (f a) (g a)):dC (aQ x f) (cQ y g) where
 ok:=λl n b n' ht hn hx=>by
  unfold aQ at hx;split at hx
  .rename_i a n1 h1;have:=h.ok l n a n1 ht hn h1;unfold cQ;rw[this];exact(k a).ok l n1 b n' ht (hF l n a n1 hn h1).2 hx
  .cases hx
 er:=λl n v ht hn hx=>by
  unfold aQ at hx;unfold cQ;split at hx
  .rename_i a n1 h1;rw[h.ok l n a n1 ht hn h1];exact(k a).er l n1 v ht (hF l n a n1 hn h1).2 hx
  .rename_i e h1;cases hx;obtain⟨h2,h3,h4⟩:=h.er l n v ht hn h1;rw[(k _).st l _ (by rw[h3];exact h4)];exact⟨h2,h3,h4⟩
 st:=λl s he=>by
  unfold cQ;have:=h.st l s he;rw[this];exact(k _).st l s he
theorem dC.take{k:Int}(hk:0<k):dC (lF k) (wG k) where
 ok:=λl n a n' ht hn h=>by
  unfold lF bK at h;cases hg:l[n]? with
  |none=>simp[hg,iD]at h
  |some t=>
   by_cases hq:t.kind=k
   .simp only[hg,hq,decide_true,yAM,yBj,yAc]at h;obtain⟨rfl,rfl⟩:=h;unfold wG;rw[MW (s:=eS n) rfl hg,yAI (by simp[hq])];simp[eS,List.getD,hg]
   .simp[hg,hq,iD]at h
 er:=λl n v ht hn h=>by
  unfold lF bK at h;have hk':wE l (eS n)≠k:=by
   cases hg:l[n]? with
   |none=>rw[X5 (s:=eS n) hg];omega
   |some t=>
    rw[MW (s:=eS n) rfl hg];intro hq;simp[hg,hq]at h
  have hv:v=((lI l n).1,(lI l n).2,15):=by
   cases hg:l[n]? with
   |none=>simp only[hg,yAx,yAN,iD,yBJ]at h;exact h.symm
   |some t=>
    have hq:¬t.kind=k:=by rw[MW (s:=eS n) rfl hg]at hk';exact hk'
    simp only[hg,hq,decide_false,yAx,yAN,iD,yBJ]at h;exact h.symm
  subst hv;unfold wG;rw[yAJ hk'];simp only[L2 ht hn];exact fq
 st:=λl s he=>by
  unfold wG;rw[X6 he,yAJ xb];simp only[aBv he]
theorem X7{w:Bx}{l:List Tk}{n:Nat}:tW w l (eS n)=((bK (isWord 1 w) l n).1.2,eS (bK (isWord 1 w) l n).2):=by
 unfold tW bK;cases hg:l[n]? with
 |none=>rw[X5 (s:=eS n) hg];simp
 |some t=>
  rw[MW (s:=eS n) rfl hg];simp only[eS,List.getD,hg,yBY,isWord]
  by_cases h1:t.kind=1
  .by_cases h2:t.text=w
   .simp[h1,h2]
   .simp[h1,h2]
  .simp[h1]
theorem aFn{w:Bx}{l:List Tk}{s:Ls}(h:s.e≠0):tW w l s=(false,s):=by
 unfold tW;rw[X6 h,yAI wz]
theorem dC.is{w:Bx}:dC (tV w) (tW w) where
 ok:=λl n a n' ht hn h=>by
  simp only[tV,yBj,yAc]at h;obtain⟨rfl,rfl⟩:=h;rw[X7];simp
 er:=λl n v _ _ h=>xz
 st:=λl s he=>by rw[aFn he]
theorem dC.key{w:Bx}:dC (lH w) (wF w) where
 ok:=λl n a n' ht hn h=>by
  unfold lH at h;split at h
  .rename_i h1;simp only[yBj,yAc,yBI]at h;unfold wF;rw[X7,yAJ h1,h]
  .cases h
 er:=λl n v ht hn h=>by
  unfold lH at h;split at h
  .cases h
  .rename_i h1;simp only[iD,yBJ]at h;subst h;have hT:bK (isWord 1 w) l n=((bD,false),n):=by
    exact fo
   unfold wF;rw[X7,yAI h1,hT];simp only[L2 ht hn];exact fq
 st:=λl s he=>by
  unfold wF;rw[aFn he];simp only[yAx,yAN,aBv he]
theorem dC.one{w:List (List UInt8)}:dC (lY w) (PH w) where
 ok:=λl n a n' ht hn h=>by
  unfold lY kW at h;cases hg:l[n]? with
  |none=>simp[hg,iD]at h
  |some t=>
   simp only[hg,yDN,false_or]at h;split at h
   .cases h
   .rename_i h1;split at h
    .cases h
    .rename_i h2;simp only[yBj,yAc]at h;obtain⟨rfl,rfl⟩:=h;unfold PH;rw[MW (s:=eS n) rfl hg];simp only[eS,List.getD,hg,yBY];rw[yAJ ⟨yb,xb⟩]
 er:=λl n v ht hn h=>by
  unfold lY kW at h;unfold PH;have tk:∀(s:Ls),(wG 1 l s).2=(if wE l s≠1 then(FL 15 l s).2 else { s with n:=s.n+1 }):=λs=>by
   unfold wG;split<;>rfl
  cases hg:l[n]? with
  |none=>
   simp only[hg,true_or,yAM,iD,yBJ]at h;subst h;rw[X5 (s:=eS n) hg,yAI wz,yAI wz,tk,X5 (s:=eS n) hg,yAJ wz];rw[L2 ht hn];exact fq
  |some t=>
   simp only[hg,yDN,false_or]at h;rw[tk,tk];rw[MW (s:=eS n) rfl hg];simp only[eS,List.getD,hg,yBY];split at h
   .rename_i h1;simp only[iD,yBJ]at h;subst h;rw[yAI (by simp[h1]),yAI h1,yAJ h1];have:=L2 (e:=15) ht hn;unfold eS at this;rw[this];exact fq
   .rename_i h1;split at h
    .rename_i h2;simp only[iD,yBJ]at h;subst h;rw[yAI xb,yAJ yb];have:=L2 (e:=10) ht hn;unfold eS at this;simp only[this];rw[yAJ (by rw[X6 wz];simp),aBv wz];exact fq
    .cases h
 st:=λl s he=>by
  unfold PH;rw[X6 he,yAI wz,yAI xl];exact(dC.take (k:=1) xl).st l s he
theorem dC.done:dC FK X3 where
 ok:=λl n a n' ht hn h=>by
  unfold FK at h;split at h
  .cases h
  .rename_i h1;simp only[yBj,yAc,yBI]at h;subst h;unfold X3;rw[yAI (by exact h1)]
 er:=λl n v ht hn h=>by
  unfold FK at h;split at h
  .rename_i h1;simp only[iD,yBJ]at h;subst h;unfold X3;rw[yAJ (by exact h1),L2 ht hn];exact fq
  .cases h
 st:=λl s he=>by
  unfold X3;split
  .rw[aBv he]
  .rfl
theorem dC.name:dC pP PG:=dC.then' .take (.take xl) λ_=>.ret
theorem dC.num:dC pT DC:=dC.then' .take (.take xl) λ_=>.ret
theorem dC.eY:dC pU MV:=dC.then' .take (.take xl) λ_=>.ret
theorem dC.cB:dC wD ftL:=dC.then' .key .key λ_=>dC.then' .take (.take xl) λ_=>.ret
theorem dC.nD:dC FI aBu where
 ok:=λl n a n' ht hn h=>by
  simp only[FI,yBj,yAc]at h;have key:∀(f n:Nat) (acc:List Int),n<=l.length->l.length-n<f->X2 f acc l (eS n)=(acc++mR (l.drop n),eS (n+(mR (l.drop n)).length)):=by
   intro f
   induction f with
   |zero=>intro n acc _ h;omega
   |succ f ih=>
    intro n acc hn hf;unfold X2;rcases yBy n l.length with hlt|hge
    .have hg:=yAh hlt;rw[MW (s:=eS n) rfl hg,yAq hlt];unfold mR
     by_cases hk:l[n].kind=2
     .have hnum:DC l (eS n)=(l[n].num,eS (n+1)):=by
       unfold DC cQ wG rN;rw[MW (s:=eS n) rfl hg,yAI (by simp[hk])];simp[eS,List.getD,hg]
      rw[yAJ hk,yAJ hk,hnum,ih (n+1) _ xb xb];simp[yCm,yCk]
     .rw[yAI hk,yAI hk];simp
    .rw[X5 (s:=eS n) (yBp hge),yAI xl,yAs hge];simp[mR]
  unfold aBu;rw[show(eS n).n=n from rfl,key _ n [] hn xb,<-h.1,<-h.2];rfl
 er:=λl n v _ _ h=>xz
 st:=λl s he=>by
  unfold aBu;cases l.length+1-s.n with
  |zero=>rfl
  |succ f=>
   unfold X2;rw[X6 he,yAI xl]
theorem dC.many{α:Type}{w:Bx}{b:Pm α}{c:Lm α}(hF:aP b)(h:dC b c):dC (nI w b) (PI w c):=by
 have st:∀(f:Nat) (acc:List α) l s,s.e≠0->(K3 w c f acc l s).2=s:=by
  intro f acc l s he;cases f with
  |zero=>rfl
  |succ f=>
   unfold K3;rw[aFn he];rfl
 refine⟨λl n a n' ht hn hx=>?_,λl n v ht hn hx=>?_,λl s he=>st _ _ _ _ he⟩
 .have key:∀(f n:Nat) (acc:List α) a n',n<=l.length->nJ w b f acc l n=.ok (a,n')->K3 w c f acc l (eS n)=(a,eS n'):=by
   intro f
   induction f with
   |zero=>intro n acc a n' _ h;simp only[nJ,yBj,yAc]at h;obtain⟨rfl,rfl⟩:=h;rfl
   |succ f ih=>
    intro n acc a n' hn hx;unfold nJ at hx;unfold K3;rw[X7];split at hx
    .rename_i h1;rw[yAJ h1];have hle:=oX (isWord 1 w) hn;split at hx
     .rename_i a2 n2 h2;simp only[h.ok l _ a2 n2 ht hle h2];exact ih n2 _ a n' (hF l _ a2 n2 hle h2).2 hx
     .cases hx
    .rename_i h1;rw[yAI h1];simp only[yBj,yAc]at hx;obtain⟨rfl,rfl⟩:=hx;have hT:(bK (isWord 1 w) l n).2=n:=by
      exact fo
     rw[hT]
  exact key _ n [] a n' hn hx
 .have key:∀(f n:Nat) (acc:List α),n<=l.length->nJ w b f acc l n=.error v->(K3 w c f acc l (eS n)).2.at_=(v.1,v.2.1)/\(K3 w c f acc l (eS n)).2.e=v.2.2/\v.2.2≠0:=by
   intro f
   induction f with
   |zero=>intro n acc _ h;cases h
   |succ f ih=>
    intro n acc hn hx;unfold nJ at hx;unfold K3;rw[X7];split at hx
    .rename_i h1;rw[yAJ h1];have hle:=oX (isWord 1 w) hn;split at hx
     .rename_i a2 n2 h2;simp only[h.ok l _ a2 n2 ht hle h2];exact ih n2 _ (hF l _ a2 n2 hle h2).2 hx
     .rename_i e h2;cases hx;obtain⟨h3,h4,h5⟩:=h.er l _ v ht hle h2;simp only;rw[st _ _ _ _ (by rw[h4];exact h5)];exact⟨h3,h4,h5⟩
    .cases hx
  exact key _ n [] hn hx
theorem dC.bO:dC iC aK2:=.then' .name .name λ_=>.then' .key .key λ_=>.then' .name .name λ_=>.then' .cB .cB λ_=>.then' .key .key λ_=>.then' .num .num λ_=>.then' .key .key λ_=>.then' .nD .nD λ_=>.then' .eY .eY λ_=>.ret
theorem dC.draw{r:List (List UInt8)}:dC (dW r) (aK3 r):=.then' .index .one λ_=>.then' .num .num λ_=>.then' .eY .eY λ_=>.ret
theorem dC.cD{r:List (List UInt8)}:dC (kU r) (aK4 r):=.then' .num .num λ_=>.then' .num .num λ_=>.then' .eY .eY λ_=>.then' aP.draw.many (.many .draw .draw) λ_=>.ret
theorem dC.stop{r:List (List UInt8)}:dC (fJ r) (aK5 r):=.then' .name .name λ_=>.then' .cB .cB λ_=>.then' .eY .eY λ_=>.then' aP.cD.many (.many .cD .cD) λ_=>.ret
theorem dC.div{r:List (List UInt8)}:dC (iT r) (aK6 r):=.then' .name .name λ_=>.then' .is .is λ_=>.then' .key .key λ_=>.then' .num .num λ_=>.then' .num .num λ_=>.then' .eY .eY λ_=>.then' aP.stop.many (.many .stop .stop) λ_=>.ret
theorem dC.cF{r:List (List UInt8)}:dC (gD r) (aK7 r):=.then' .name .name λ_=>.then' .key .key λ_=>.then' .index .one λ_=>.then' .key .key λ_=>.then' .index .one λ_=>.then' .key .key λ_=>.then' .num .num λ_=>.then' .is .is λ_=>.then' .eY .eY λ_=>.ret
theorem dC.fC:dC jA aVX:=.then' .key .key λ_=>.then' .name .name λ_=>.then' .eY .eY λ_=>.then' aP.bO.many (.many .bO .bO) λ_=>.then' aP.div.many (.many .div .div) λ_=>.then' aP.cF.many (.many .cF .cF) λ_=>.then' .done .done λ_=>.ret
def IT(v:Fl):Value:=.iface 204 (.agg #[.int .i64 v.1,.int .i64 v.2.1,.int .i64 v.2.2])
abbrev j6:=List PD->Option (PD×Pm PD)
def jE{α:Type}(x:Pm α)(f:α->PD):Pm PD:=aQ x λa=>dT (f a)
def oA(dec:j6)(args:List PD)(σ:List U)(p:PD)(σ':List U):Prop:=
 σ≠[]/\∃r F l n n',dec args=some (r,F)/\Rd σ r l n/\F l n=.ok (p,n')/\Rd σ' r l n'/\dH r σ σ'/\σ.length<=σ'.length
def nF(dec:j6)(args:List PD)(σ:List U)(v:Value)(σ':List U):Prop:=
 σ≠[]/\∃r F l n e,dec args=some (r,F)/\Rd σ r l n/\F l n=.error e/\v=IT e/\dH r σ σ'/\σ.length<=σ'.length
theorem aWx{dec:j6}{args:Bw}{σ σ' τ:Bv}{p:PD}{v:Value}(h:oA dec args σ p σ')(k:nF dec args σ v τ):False:=by
 obtain⟨_,r,F,l,n,n',h1,h2,h3,_⟩:=h;obtain⟨_,r1,F1,l1,n1,e,k1,k2,k3,_⟩:=k;rw[h1]at k1;simp only[yAb,yAc]at k1;obtain⟨rfl,rfl⟩:=k1;obtain⟨rfl,rfl⟩:=h2.uniq k2;rw[h3]at k3;cases k3
def PW(E:aE)(f:FuncId)(dec:j6):Prop:=∀args σ r F l n,dec args=some (r,F)->σ≠[]->Rd σ r l n->n<=l.length->l.length<=100000 ->
 lJ prog E f args σ (λp σ'=>oA dec args σ p.strip σ') (nF dec args σ)
def PC(E:aE)(f:FuncId)(dec:j6):Prop:=∃g q,E.ret f=some g/\E.aZ f=some q/\∀args σ r F l n,dec args=some (r,F)->σ≠[]->Rd σ r l n->n<=l.length->l.length<=100000 ->
 (∃p n' σ',F l n=.ok (p,n')/\g 0 args σ=some (p,σ')/\Rd σ' r l n'/\dH r σ σ'/\σ.length<=σ'.length) \/
 (∃e σ',F l n=.error e/\g 0 args σ=none/\q 0 args σ=some (IT e,σ')/\dH r σ σ'/\σ.length<=σ'.length)
theorem PC.of{E E0:aE}{f:FuncId}{dec:j6}(h:PW E0 f dec)(h1:E.ret f=some (iQ prog E0 f (oA dec)))(h2:E.aZ f=some (lU prog E0 f (nF dec))):PC E f dec:=by
 refine⟨_,_,h1,h2,λargs σ r F l n hd hs hr hn hl=>?_⟩;rcases(h args σ r F l n hd hs hr hn hl).both (λ_ _ _ _ a b=>aWx a b)with⟨p,σ',h3,_,r1,F1,l1,n1,n',k1,k2,k3,k4,k5,k6⟩ | ⟨h3,v,σ',h4,_,r1,F1,l1,n1,e,k1,k2,k3,rfl,k5,k6⟩
 .rw[hd]at k1;simp only[yAb,yAc]at k1;obtain⟨rfl,rfl⟩:=k1;obtain⟨rfl,rfl⟩:=hr.uniq k2;exact .inl ⟨p,n',σ',k3,h3,k4,k5,k6⟩
 .rw[hd]at k1;simp only[yAb,yAc]at k1;obtain⟨rfl,rfl⟩:=k1;obtain⟨rfl,rfl⟩:=hr.uniq k2;exact .inr ⟨e,σ',k3,h3,h4,k5,k6⟩
noncomputable def aE.eM(E:aE)(f:FuncId)(dec:j6):aE:=(E.add f (iQ prog E f (oA dec))).Q9 f (lU prog E f (nF dec))
theorem aH.eM{E:aE}(hE:aH prog E)(hP:prog.follows .mixedOrders=true){f:FuncId}{dec:j6}:aH prog (E.eM f dec):=aH.Q9 (hE.aWy hP) hE hP
theorem aF.eM{E:aE}(hU:aF E){f:FuncId}{dec:j6}:aF (E.eM f dec):=aF.iQ (E:=E) hU λ_ _ h=>h.1 rfl
section
def vW:j6:=λargs=>match args with
 | [.agg [.ptr b 0],.int .i64 e]=>some (.ptr b 0,iD e)
 |_=>none
def C1:j6:=λargs=>match args with
 | [.agg [.ptr b 0],.int .i64 k]=>some (.ptr b 0,jE (lF k) Em.tk.aA)
 |_=>none
theorem FO{α:Type}{x:Pm α}{f:α->PD}{l:List Tk}{n n':Nat}{a:α}(h:x l n=.ok (a,n')):jE x f l n=.ok (f a,n'):=by
 simp only[jE,aQ,h,dT]
theorem eJ{α:Type}{x:Pm α}{f:α->PD}{l:List Tk}{n:Nat}{e:Fl}(h:x l n=.error e):jE x f l n=.error e:=by
 simp only[jE,aQ,h]
theorem eE{α:Type}{x:Pm α}{f:α->PD}{l:List Tk}{n n':Nat}{p:PD}(h:jE x f l n=.ok (p,n')):∃a,x l n=.ok (a,n')/\p=f a:=by
 unfold jE aQ at h;split at h
 .rename_i a n1 h1;simp only[dT,yBj,yAc]at h;obtain⟨rfl,rfl⟩:=h;exact⟨a,h1,rfl⟩
 .cases h
theorem eD{α:Type}{x:Pm α}{f:α->PD}{l:List Tk}{n:Nat}{e:Fl}(h:jE x f l n=.error e):x l n=.error e:=by
 unfold jE aQ at h;split at h
 .cases h
 .rename_i e1 h1;cases h;exact h1
variable{E:aE}(hU:aF E)
include hU
set_option maxRecDepth 10000
theorem aS4(h0:E 95=none)(hA:E 134=some (dO RY)):PW E 95 vW:=by
 intro args σ r F l n hd hs hr hn hl;unfold vW at hd;split at hd
 rotate_left
 .cases hd
 rename_i b0 e;simp only[yAb,yAc]at hd;obtain⟨rfl,rfl⟩:=hd;have hat:=fun(τ:List U) fl=>aV3 (hr.more (τ:=τ)) hn hl fl
 obtain⟨a,b,hP⟩:∃a b,IL l n=(a,b):=⟨_,_,rfl⟩;rw[hP]at hat;have hpost:∀a' b' τ,lI l n=(a',b')->nF vW [.agg [.ptr b0 0],.int .i64 e] σ (IT (a',b',e)) (σ++τ):=λa' b' τ h=>⟨hs,.ptr b0 0,_,l,n,_,rfl,hr,by simp only[iD,h],rfl,dH.more,wz⟩
 obtain⟨q,hq⟩:=gn (σ.length);apply lJ.lL h0 func95 rfl
 focus(simp[show Tryz.f95.ntmps=_ from rfl,List.replicate];rfl)
 refine aD (A3 hq hA hat) ?_
 by_cases c1:a=0/\b=0
 .obtain⟨rfl,rfl⟩:=c1;have hp:=hpost 1 1 [.box (.agg [.ptr b0 0]),.box (.agg [.int .i64 1,.int .i64 1])] (by simp[lI,hP]);exact ga
 .have c2:(decide (a=0)&&decide (b=0))=false:=by simpa using c1
  have hp:=hpost a b [.box (.agg [.ptr b0 0]),.box (.agg [.int .i64 a,.int .i64 b])] (by simp[lI,hP,c1]);simp only[c2];exact ga
omit hU in
def RC(E:aE)(f:FuncId)(dec:List U->List PD->PD->(Tk->Bool)->Prop)(out:Tk×Bool->PD):Prop:=∃g,E.ret f=some g/\∀args σ r q l n,dec σ args r q->σ≠[]->Rd σ r l n->n<=l.length->l.length<=100000 ->
 ∃σ',g 0 args σ=some (out (bK q l n).1,σ')/\Rd σ' r l (bK q l n).2/\dH r σ σ'/\σ.length<=σ'.length
omit hU in
theorem RC.of{E0:aE}{f:FuncId}{dec:List U->List PD->PD->(Tk->Bool)->Prop}{out:Tk×Bool->PD}(h1:E.ret f=some (iZ prog E0 f (RQ dec out)))
  (h:∀args σ r q l n,dec σ args r q->σ≠[]->Rd σ r l n->n<=l.length->l.length<=100000->cH prog E0 0 (.inl f) args σ (RQ dec out args σ)):RC E f dec out:=by
 refine⟨_,h1,λargs σ r q l n hd hs hr hn hl=>?_⟩;obtain⟨p,σ',h2,h3⟩:=aAJ (h args σ r q l n hd hs hr hn hl);obtain⟨rfl,e1,e2,e3⟩:=h3.2 r q l n hd hr;exact⟨σ',h2,e1,e2,e3⟩
omit hU in
structure eQ (aR:List U) (r:PD) (l:List Tk) (σ:List U) (n:Nat) (K:List (Nat×U)):Prop where
 rd:Rd σ r l n
 le:n<=l.length
 kp:dH r aR σ
 len:aR.length<=σ.length
 ks:∀p∈K,σ[p.1]?=some p.2/\aR.length<=p.1
 nr:∀j,aR.length<=j->r≠.ptr j 0
omit hU in
theorem eQ.start{aR:Bv}{r:PD}{l:List Tk}{n:Nat}(h:Rd aR r l n)(hn:n<=l.length):eQ aR r l aR n []:=⟨h,hn,dH.aV2,yAk _,wz,λj hj=>h.ne hj⟩
omit hU in
theorem eQ.box{aR σ:Bv}{r:PD}{l:List Tk}{n:Nat}{K:List (Nat×U)}(h:eQ aR r l σ n K)(o:U):eQ aR r l (σ++[o]) n ((σ.length,o)::K):=
 ⟨h.rd.more,h.le,h.kp.trans dH.more,by have:=h.len;simp only[yAa];omega,λp hp=>by
  rcases yAS.1 hp with rfl|hp
  .exact⟨wz,h.len⟩
  .obtain⟨h1,h2⟩:=h.ks p hp;exact⟨Az,h2⟩,h.nr⟩
omit hU in
theorem eQ.call{aR σ σ':Bv}{r:PD}{l:List Tk}{n n':Nat}{K:List (Nat×U)}(h:eQ aR r l σ n K)(h1:Rd σ' r l n')(h2:n'<=l.length)(h3:dH r σ σ')(h4:σ.length<=σ'.length):eQ aR r l σ' n' K:=
 ⟨h1,h2,h.kp.trans h3,yBd h.len h4,λp hp=>⟨h3 _ _ (h.nr _ (h.ks p hp).2) (h.ks p hp).1,(h.ks p hp).2⟩,h.nr⟩
omit hU in
theorem eQ.set{aR σ:Bv}{r:PD}{l:List Tk}{n i:Nat}{o0 o:U}{K:List (Nat×U)}(K1 K2:List (Nat×U))(h:eQ aR r l σ n K)(hK:K=K1++(i,o0)::K2)(hne:∀p∈K1++K2,p.1≠i):eQ aR r l (σ.set i o) n (K1++(i,o)::K2):=by
 subst hK;obtain⟨hi,hi2⟩:=h.ks (i,o0) wz;have hl:=(yA.1 hi).1;refine⟨h.rd.set (h.nr i hi2),h.le,dH.new h.kp hi2,by rw[yAD];exact h.len,λp hp=>?_,h.nr⟩;rcases yBn.1 hp with hp|hp
 .exact bz
 .rcases yAS.1 hp with rfl|hp
  .exact⟨yAj hl,hi2⟩
  .exact bz
omit hU in
theorem eQ.ne{aR σ:Bv}{r:PD}{l:List Tk}{n:Nat}{K:List (Nat×U)}(h:eQ aR r l σ n K)(h0:aR≠[]):σ≠[]:=by
 have:=h.len;have:=yBu.2 h0;exact List.ne_nil_of_length_pos xb
omit hU in
theorem eQ.kM{dec:j6}{args:Bw}{aR σ:Bv}{r p:PD}{F:Pm PD}{l:List Tk}{n n':Nat}{K:List (Nat×U)}(h:eQ aR r l σ n' K)(h0:aR≠[])(hd:dec args=some (r,F))(hr:Rd aR r l n)(hF:F l n=.ok (p,n')):oA dec args aR p σ:=
 ⟨h0,r,F,l,n,n',hd,hr,hF,h.rd,h.kp,h.len⟩
omit hU in
theorem eQ.eI{dec:j6}{args:Bw}{aR σ σ':Bv}{r:PD}{F:Pm PD}{l:List Tk}{n n1:Nat}{e:Fl}{K:List (Nat×U)}(h:eQ aR r l σ n1 K)(h0:aR≠[])(hd:dec args=some (r,F))(hr:Rd aR r l n)(hF:F l n=.error e)(h3:dH r σ σ')(h4:σ.length<=σ'.length):nF dec args aR (IT e) σ':=
 ⟨h0,r,F,l,n,e,hd,hr,hF,rfl,h.kp.trans h3,yBd h.len h4⟩
omit hU in
theorem K6{q:Tk->Bool}{l:List Tk}{n:Nat}(h:(bK q l n).1.2=false):bK q l n=((bD,false),n):=by
 unfold bK at h ⊢;split
 .rename_i t ht;rw[ht]at h;simp only at h;split
  .rename_i h2;rw[yAJ h2]at h;cases h
  .rfl
 .rfl
theorem aS7(h0:E 127=none)(hT:RC E 132 OS nZ)(hF:PC E 95 vW):PW E 127 C1:=by
 intro args σ r F l n hd hs hr hn hl;unfold C1 at hd;split at hd
 rotate_left
 .cases hd
 rename_i b0 k;simp only[yAb,yAc]at hd;obtain⟨rfl,rfl⟩:=hd;obtain⟨gT,hgT,hT⟩:=hT;obtain⟨gF,qF,hgF,hqF,hF⟩:=hF;have hS:=((eQ.start hr hn).box (.box (.agg [.ptr b0 0]))).box DH;simp only[yAi,yAR,yAQ,yAa,yAK,yAL,yAp]at hS;obtain⟨σ3,t1,t2,t3,t4⟩:=hT [.ptr b0 0,.int .i64 k] _ (.ptr b0 0) _ l n ⟨k,rfl,rfl⟩ (hS.ne hs) hS.rd hn hl;have tl:=oX (λt=>decide (t.kind=k)) hn;have TG:=hS.call t2 tl t3 t4;obtain⟨X,hX⟩:∃X,bK (λt=>decide (t.kind=k)) l n=X:=⟨_,rfl⟩;rw[hX]at t1 TG;obtain⟨⟨t,ok⟩,n'⟩:=X;simp only at t1 TG;obtain⟨l0,a0,a1,a2,a3,a4⟩:=aB (TG.ks (σ.length,.box (.agg [.ptr b0 0])) wz).1;obtain⟨l1,b0',b1,b2,b3,b4⟩:=aB (TG.ks (σ.length+1,DH) wz).1;simp only[DH]at b0' b1;obtain⟨n1,n2,n3⟩:=bH σ3;cases ok with
 |true=>
  have hP:lF k l n=.ok (t,n'):=by simp[lF,hX]
  have j7:=(TG.box (.box (Em.tk.aA t))).set (i:=σ.length+1) (o0:=DH) (o:=.box (Em.tk.aA t)) [(σ3.length,.box (Em.tk.aA t))] [(σ.length,.box (.agg [.ptr b0 0]))] rfl xw;apply lJ.lL h0 func127 rfl
  focus(simp[show Tryz.f127.ntmps=_ from rfl,List.replicate];rfl)
  rw[b3]at j7;refine aD vw ?_
  right
  simp[l0,a0,a1,a2,a3,a4,l1,b0',b1,b2,b3,b4,n1,n2,n3];exact⟨_,_,⟨rfl,rfl⟩,j7.kM hs rfl hr (FO hP)⟩
 |false=>
  obtain⟨rfl,rfl⟩:t=bD/\n'=n:=by
   have:=K6 (q:=λt=>decide (t.kind=k)) (l:=l) (n:=n) (by rw[hX]);rw[hX]at this;simp only[yAc,yAW]at this;exact this
  have hP:lF k l n'=.error ((lI l n').1,(lI l n').2,15):=by simp[lF,hX,iD]
  have j7:=TG.box DH;rcases hF [.agg [.ptr b0 0],.int .i64 15] _ (.ptr b0 0) _ l n' rfl (j7.ne hs) j7.rd j7.le hl with⟨p,n2,fI,f1,_⟩ | ⟨e,fI,f1,f2,f3,f4,f5⟩
  .cases f1
  simp only[iD,yBJ]at f1;subst f1;have hpost:=j7.eI (dec:=C1) (args:=[.agg [.ptr b0 0],.int .i64 k]) hs rfl hr (eJ hP) f4 f5;simp only[DH]at f2 f3;simp only[bD]at t1;apply lJ.lL h0 func127 rfl
  focus(simp[show Tryz.f127.ntmps=_ from rfl,List.replicate];rfl)
  refine aD vw ?_
  first|refine WL.aZ 1 xe xe ?_|refine WL.dP 1 xe xe ?_
  repeat(first
   |(refine Fr.i ?_;simp only[aL,yAT,yAU];try rfl)
   |(refine By.i ?_;(focus(simp(disch:=first|omega|(simp;done)|(simp;omega)) [wrap_i64,wrap_u64,l0,a0,a1,a2,a3,a4];first|done|rfl|exact⟨rfl,rfl⟩)))
   |(refine By.i ?_;simp(disch:=first|omega|(simp;done)|(simp;omega)) [wrap_i64,wrap_u64,l0,a0,a1,a2,a3,a4];refine⟨xh,rfl⟩)
   |(refine Wt.i ?_;first|rfl|(focus(simp[l0,a0,a1,a2,a3,a4];done)))
   |(refine Ns.i ?_;(try simp only[yAl,yAQ,yAR,yAi,yAa,yAK,yAL,yAp,Nat.reduceAdd]);rfl)|rfl
   |(apply SL.pass;(focus(refine Wt.i ?_;rfl)))|apply SL.WI underlying204|apply SL.WJ underlying204|(apply SL.WK underlying20;(focus rfl))|(apply SL.WM underlying20;(focus rfl))
   |(apply tu;(focus rfl))|apply SL.move|apply SL.assign|apply SL.load|apply SL.fK|apply tu|apply tu|apply SL.binOp|apply SL.append|apply tu|apply SL.builtin|apply SL.fieldAddr
   |apply SL.indexAddr|apply SL.field|apply SL.extract|apply SL.fL|apply SL.pick|apply SL.store|apply SL.unOp|apply SL.convert|apply SL.index|apply SL.slice|apply SL.build|apply SL.nilCheck|apply SL.buildSlice
   |apply SL.box|apply SL.alloc|apply SL.makeFunc)
  apply SQ.nil;refine cT.call (.i xe) xe xe hgF hqF f2 f3 ?_;exact af
end
section
def tP:j6:=λargs=>match args with
 | [.agg [.ptr b 0],.str w]=>some (.ptr b 0,jE (lH w) λ_=>.aK [])
 |_=>none
def tQ:j6:=λargs=>match args with
 | [.agg [.ptr b 0]]=>some (.ptr b 0,jE pP .str)
 |_=>none
def C3:j6:=λargs=>match args with
 | [.agg [.ptr b 0]]=>some (.ptr b 0,jE pT (.int .i64))
 |_=>none
def tR:j6:=λargs=>match args with
 | [.agg [.ptr b 0]]=>some (.ptr b 0,jE pU λ_=>.aK [])
 |_=>none
def FA:j6:=λargs=>match args with
 | [.agg [.ptr b 0]]=>some (.ptr b 0,jE wD Em.mS.aA)
 |_=>none
theorem aFz(s:List UInt8):∀l,-1<=placeOf s l
 | []=>by simp[placeOf]
 |x::xs=>by
  have:=aFz s xs;unfold placeOf;split
  .omega
  .split<;>omega
def aAY:Nat->List PD->List U->Option (PD×List U):=entry (cV texts .text i64 λl v=>bJ (l.length<=1000000) (some (placeOf v l)))
theorem aWw{s:PD}{ns:List (List UInt8)}{v:Bx}(h:texts.dec s=some ns)(hl:ns.length<=1000000)(fl:Nat)(σ:List U):aAY fl [s,.str v] σ=some (.int .i64 (placeOf v ns),σ):=by
 have e2:Em.text.dec (.str v)=some v:=Em.cR rfl;unfold aAY entry cV;simp only[h,e2];rw[dN hl];rfl
def pL:j6:=λargs=>match args with
 | [.agg [.ptr b 0],s]=>(match texts.dec s with|some ns=>bJ (ns.length<=1000000) (some (.ptr b 0,jE (lY ns) (.int .i64)))|none=>none)
 |_=>none
variable{E:aE}(hU:aF E)
include hU
set_option maxRecDepth 10000
theorem aTd(h0:E 88=none)(hC:PC E 127 C1):PW E 88 tQ:=by
 intro args σ r F l n hd hs hr hn hl;unfold tQ at hd;split at hd
 rotate_left
 .cases hd
 rename_i b0;simp only[yAb,yAc]at hd;obtain⟨rfl,rfl⟩:=hd;obtain⟨ghC,qhC,hghC,hqhC,hC⟩:=hC;have hS:=(eQ.start hr hn).box (.box (.agg [.ptr b0 0]));apply lJ.lL h0 func88 rfl
 focus(simp[show Tryz.f88.ntmps=_ from rfl,List.replicate];rfl)
 refine aD trivial ?_;obtain⟨jN,jO,jP,jQ,jR,jS⟩:=aB (hS.ks (σ.length,.box (.agg [.ptr b0 0])) wz).1;rcases hC [.agg [.ptr b0 0],.int .i64 1] _ (.ptr b0 0) _ l n rfl (hS.ne hs) hS.rd hS.le hl with⟨p1,n1,σ1,f1,e1,r1,k1,q1⟩ | ⟨e,σ1,f1,e1,w1,k1,q1⟩
 rotate_left
 .have hE:pP l n=.error e:=by simp[pP,aQ,eD f1]
  have hpost:=hS.eI (dec:=tQ) (args:=[.agg [.ptr b0 0]]) hs rfl hr (eJ hE) k1 q1;exact td
 obtain⟨t,g1,rfl⟩:=eE f1;have h1:=hS.call r1 ((aP.take) _ _ _ _ hS.le g1).2 k1 q1
 try simp only[yAa,yAD,yAK,yAL]at q1
 obtain⟨iE,iF,iG,iH,iI,iJ⟩:=aB (h1.ks (σ.length,.box (.agg [.ptr b0 0])) wz).1;obtain⟨u1,v1,w1⟩:=bH σ1
 first|refine Wp.seq ?_|skip
 apply Wp.dE;refine bF vj ?_;apply SQ.nil;refine aD vl ?_;have hP:pP l n=.ok (t.text,n1):=by simp[pP,aQ,dT,g1]
 right
 exact gm
theorem aTg(h0:E 131=none)(hC:PC E 127 C1):PW E 131 C3:=by
 intro args σ r F l n hd hs hr hn hl;unfold C3 at hd;split at hd
 rotate_left
 .cases hd
 rename_i b0;simp only[yAb,yAc]at hd;obtain⟨rfl,rfl⟩:=hd;obtain⟨ghC,qhC,hghC,hqhC,hC⟩:=hC;have hS:=(eQ.start hr hn).box (.box (.agg [.ptr b0 0]));apply lJ.lL h0 func131 rfl
 focus(simp[show Tryz.f131.ntmps=_ from rfl,List.replicate];rfl)
 refine aD trivial ?_;obtain⟨jN,jO,jP,jQ,jR,jS⟩:=aB (hS.ks (σ.length,.box (.agg [.ptr b0 0])) wz).1;rcases hC [.agg [.ptr b0 0],.int .i64 2] _ (.ptr b0 0) _ l n rfl (hS.ne hs) hS.rd hS.le hl with⟨p1,n1,σ1,f1,e1,r1,k1,q1⟩ | ⟨e,σ1,f1,e1,w1,k1,q1⟩
 rotate_left
 .have hE:pT l n=.error e:=by simp[pT,aQ,eD f1]
  have hpost:=hS.eI (dec:=C3) (args:=[.agg [.ptr b0 0]]) hs rfl hr (eJ hE) k1 q1;exact td
 obtain⟨t,g1,rfl⟩:=eE f1;have h1:=hS.call r1 ((aP.take) _ _ _ _ hS.le g1).2 k1 q1
 try simp only[yAa,yAD,yAK,yAL]at q1
 obtain⟨iE,iF,iG,iH,iI,iJ⟩:=aB (h1.ks (σ.length,.box (.agg [.ptr b0 0])) wz).1;obtain⟨u1,v1,w1⟩:=bH σ1
 first|refine Wp.seq ?_|skip
 apply Wp.dE;refine bF vj ?_;apply SQ.nil;refine aD vl ?_;have hP:pT l n=.ok (t.num,n1):=by simp[pT,aQ,dT,g1]
 right
 exact gm
theorem aTj(h0:E 89=none)(hC:PC E 127 C1):PW E 89 tR:=by
 intro args σ r F l n hd hs hr hn hl;unfold tR at hd;split at hd
 rotate_left
 .cases hd
 rename_i b0;simp only[yAb,yAc]at hd;obtain⟨rfl,rfl⟩:=hd;obtain⟨ghC,qhC,hghC,hqhC,hC⟩:=hC;have hS:=(eQ.start hr hn).box (.box (.agg [.ptr b0 0]));apply lJ.lL h0 func89 rfl
 focus(simp[show Tryz.f89.ntmps=_ from rfl,List.replicate];rfl)
 refine aD trivial ?_;obtain⟨jN,jO,jP,jQ,jR,jS⟩:=aB (hS.ks (σ.length,.box (.agg [.ptr b0 0])) wz).1;rcases hC [.agg [.ptr b0 0],.int .i64 6] _ (.ptr b0 0) _ l n rfl (hS.ne hs) hS.rd hS.le hl with⟨p1,n1,σ1,f1,e1,r1,k1,q1⟩ | ⟨e,σ1,f1,e1,w1,k1,q1⟩
 rotate_left
 .have hE:pU l n=.error e:=by simp[pU,aQ,eD f1]
  have hpost:=hS.eI (dec:=tR) (args:=[.agg [.ptr b0 0]]) hs rfl hr (eJ hE) k1 q1;exact td
 obtain⟨t,g1,rfl⟩:=eE f1;have h1:=hS.call r1 ((aP.take) _ _ _ _ hS.le g1).2 k1 q1
 try simp only[yAa,yAD,yAK,yAL]at q1
 obtain⟨iE,iF,iG,iH,iI,iJ⟩:=aB (h1.ks (σ.length,.box (.agg [.ptr b0 0])) wz).1;obtain⟨u1,v1,w1⟩:=bH σ1
 first|refine Wp.seq ?_|skip
 apply Wp.dE;refine bF vj ?_;apply SQ.nil;refine aD vl ?_;have hP:pU l n=.ok ((),n1):=by simp[pU,aQ,dT,g1]
 right
 exact gm
theorem aTm(h0:E 130=none)(hK:PC E 87 tP)(hC:PC E 127 C1):PW E 130 FA:=by
 intro args σ r F l n hd hs hr hn hl;unfold FA at hd;split at hd
 rotate_left
 .cases hd
 rename_i b0;simp only[yAb,yAc]at hd;obtain⟨rfl,rfl⟩:=hd;obtain⟨ghK,qhK,hghK,hqhK,hK⟩:=hK;obtain⟨ghC,qhC,hghC,hqhC,hC⟩:=hC;have hS:=((eQ.start hr hn).box (.box (.agg [.ptr b0 0]))).box (.box (.agg [.int .i64 0,.int .i64 0]));simp only[yAi,yAR,yAQ,yAa,yAK,yAL,yAp]at hS;apply lJ.lL h0 func130 rfl
 focus(simp[show Tryz.f130.ntmps=_ from rfl,List.replicate];rfl)
 refine aD trivial ?_;obtain⟨jN,jO,jP,jQ,jR,jS⟩:=aB (hS.ks ((σ.length+1),.box (.agg [.int .i64 0,.int .i64 0])) wz).1;obtain⟨oY,oZ,o1,o2,o3,o4⟩:=aB (hS.ks (σ.length,.box (.agg [.ptr b0 0])) wz).1;rcases hK [.agg [.ptr b0 0],.str [102,101,101,116]] _ (.ptr b0 0) _ l n rfl (hS.ne hs) hS.rd hS.le hl with⟨p1,n1,σ1,f1,e1,r1,k1,q1⟩ | ⟨e,σ1,f1,e1,w1,k1,q1⟩
 rotate_left
 .have hE:wD l n=.error e:=by simp[wD,aQ,eD f1]
  have hpost:=hS.eI (dec:=FA) (args:=[.agg [.ptr b0 0]]) hs rfl hr (eJ hE) k1 q1
  first|refine WL.aZ 1 xe xe ?_|refine WL.dP 1 xe xe ?_
  refine bF (A12 jN jO jP jQ jR jS oY oZ o1 o2 o3 o4) ?_;apply SQ.nil;refine cT.call (.i xe) xe xe hghK hqhK e1 w1 ?_;exact af
 obtain⟨u,g1,rfl⟩:=eE f1;have h1:=hS.call r1 ((aP.key) _ _ _ _ hS.le g1).2 k1 q1
 try simp only[yAa,yAD,yAK,yAL]at q1
 obtain⟨iE,iF,iG,iH,iI,iJ⟩:=aB (h1.ks ((σ.length+1),.box (.agg [.int .i64 0,.int .i64 0])) wz).1;obtain⟨o5,o6,o7,o8,o9,pA⟩:=aB (h1.ks (σ.length,.box (.agg [.ptr b0 0])) wz).1;obtain⟨u1,v1,w1⟩:=bH σ1
 first|refine Wp.seq ?_|skip
 apply Wp.dE;refine bF (A20 hghK e1 jN jO jP jQ jR jS oY oZ o1 o2 o3 o4 iE iF iG iH iI (A10 iJ o5 o6 o7 o8 o9 pA u1 @v1 w1)) ?_;apply SQ.nil;refine aD ve ?_;obtain⟨pV,pW,pX,pY,pZ,qA⟩:=aB (h1.ks ((σ.length+1),.box (.agg [.int .i64 0,.int .i64 0])) wz).1;obtain⟨qB,qC,qD,qE,qG,qH⟩:=aB (h1.ks (σ.length,.box (.agg [.ptr b0 0])) wz).1;rcases hC [.agg [.ptr b0 0],.int .i64 3] _ (.ptr b0 0) _ l n1 rfl (h1.ne hs) h1.rd h1.le hl with⟨p3,n3,σ3,f3,e3,r3,k3,q3⟩ | ⟨e,σ3,f3,e3,w3,k3,q3⟩
 rotate_left
 .have hE:wD l n=.error e:=by simp[wD,aQ,g1,eD f3]
  have hpost:=h1.eI (dec:=FA) (args:=[.agg [.ptr b0 0]]) hs rfl hr (eJ hE) k3 q3
  first|refine WL.aZ 1 xe xe ?_|refine WL.dP 1 xe xe ?_
  refine bF (A12 pV pW pX pY pZ qA qB qC qD qE qG qH) ?_;apply SQ.nil;refine cT.call (.i xe) xe xe hghC hqhC e3 w3 ?_;exact af
 obtain⟨t,g3,rfl⟩:=eE f3;have h3:=h1.call r3 ((aP.take) _ _ _ _ h1.le g3).2 k3 q3
 try simp only[yAa,yAD,yAK,yAL]at q3
 obtain⟨rO,rP,rQ,rR,rS,rT⟩:=aB (h3.ks ((σ.length+1),.box (.agg [.int .i64 0,.int .i64 0])) wz).1;obtain⟨rU,rV,rW,rX,rY,rZ⟩:=aB (h3.ks (σ.length,.box (.agg [.ptr b0 0])) wz).1;obtain⟨u3,v3,w3⟩:=bH σ3
 first|refine Wp.seq ?_|skip
 apply Wp.dE;refine bF (A20 hghC e3 pV pW pX pY pZ qA qB qC qD qE qG qH rO rP rQ rR rS (A10 rT rU rV rW rX rY rZ u3 @v3 w3)) ?_;apply SQ.nil;have H3:=h3.set (i:=(σ.length+1)) (o0:=.box (.agg [.int .i64 0,.int .i64 0])) (o:=.box (Em.mS.aA t.cB)) [] [(σ.length,.box (.agg [.ptr b0 0]))] rfl xk;refine aD (A15 rO rP rQ rR rS rT rU rV rW rX rY rZ u3 @v3 w3) ?_;have hP:wD l n=.ok (t.cB,n3):=by simp[wD,aQ,dT,g1,g3]
 right
 simp[rO,rP,rQ,rR,rS,rT,rU,rV,rW,rX,rY,rZ,u3,v3,w3];exact⟨_,_,⟨rfl,rfl⟩,H3.kM hs rfl hr (FO hP)⟩
theorem aTa(h0:E 87=none)(hW:RC E 90 (E9 1) fW)(hX:PC E 95 vW):PW E 87 tP:=by
 intro args σ r F l n hd hs hr hn hl;unfold tP at hd;split at hd
 rotate_left
 .cases hd
 rename_i b0 w;simp only[yAb,yAc]at hd;obtain⟨rfl,rfl⟩:=hd;obtain⟨gW,hgW,hW⟩:=hW;obtain⟨gX,qX,hgX,hqX,hX⟩:=hX;have hS:=(eQ.start hr hn).box (.box (.agg [.ptr b0 0]));obtain⟨σ3,t1,t2,t3,t4⟩:=hW [.ptr b0 0,.str w] _ (.ptr b0 0) _ l n ⟨w,rfl,rfl⟩ (hS.ne hs) hS.rd hn hl;have h3:=hS.call t2 (oX _ hn) t3 t4;obtain⟨IQ,IS,FP,PM,M6,M7⟩:=aB (hS.ks (σ.length,.box (.agg [.ptr b0 0])) wz).1;obtain⟨x2l,x2a,x2b,x2c,x2d,x2e⟩:=aB (h3.ks (σ.length,.box (.agg [.ptr b0 0])) wz).1;obtain⟨Y,hY⟩:=gn (bK (isWord 1 w) l n);have hf:=K6 (q:=isWord 1 w) (l:=l) (n:=n);rw[hY]at t1 h3 hf;obtain⟨⟨t,ok⟩,n'⟩:=Y;simp only[fW]at t1 h3;cases ok with
 |true=>
  have hP:lH w l n=.ok ((),n'):=by simp[lH,hY]
  apply lJ.lL h0 func87 rfl
  focus(simp[show Tryz.f87.ntmps=_ from rfl,List.replicate];rfl)
  refine aD vz ?_
  right
  simp;exact⟨_,_,⟨rfl,rfl⟩,h3.kM hs rfl hr (FO hP)⟩
 |false=>
  obtain⟨rfl,rfl⟩:t=bD/\n'=n:=by
   have:=hf rfl;simp only[yAc,yAW]at this;exact this
  have hP:lH w l n'=.error ((lI l n').1,(lI l n').2,15):=by simp[lH,hY,iD]
  rcases hX [.agg [.ptr b0 0],.int .i64 15] _ (.ptr b0 0) _ l n' rfl (h3.ne hs) h3.rd h3.le hl with⟨p,n2,fI,f1,_⟩ | ⟨e,fI,f1,f2,f3,f4,f5⟩
  .cases f1
  simp only[iD,yBJ]at f1;subst f1;have hpost:=h3.eI (dec:=tP) (args:=[.agg [.ptr b0 0],.str w]) hs rfl hr (eJ hP) f4 f5;apply lJ.lL h0 func87 rfl
  focus(simp[show Tryz.f87.ntmps=_ from rfl,List.replicate];rfl)
  refine aD vz ?_
  first|refine WL.aZ 1 xe xe ?_|refine WL.dP 1 xe xe ?_
  refine bF (A3 x2l x2a x2b) ?_;apply SQ.nil;refine cT.call (.i xe) xe xe hgX hqX f2 f3 ?_;exact af
theorem aS2(h0:E 156=none)(l:List (List UInt8))(v:List UInt8)(hl:l.length<=1000000):aI prog E 156 [texts.aA l,.str v] (i64.aA (placeOf v l)):=by
 obtain⟨B,hB⟩:=gn (placeOf v l);rw[hB];refine aI.aU 19 h0 func156 (h:=?_);refine aD trivial ?_;refine Wp.eV (λm fr σ=>∃(i:Nat),∃gg:Nat->PD,(i+m=l.length/\(if placeOf v (l.drop i)<0 then -1 else placeOf v (l.drop i)+(i:Int))=B)/\fr=[texts.aA l,.str v,gg 2,gg 3,gg 4,gg 5,texts.aA l,.int .i64 l.length,.int .i64 i,gg 9,gg 10,gg 11,gg 12,gg 13,gg 14,gg 15,gg 16,gg 17,gg 18]/\σ=[]) ?_ (l.length) (by refine⟨0,?_⟩;exact cG (⟨xb,by rw[List.drop_zero,<-hB];split;(have:=aFz v l;omega);simp⟩))
 rintro m fr σ ⟨i,gg,hI,rfl,rfl⟩
 obtain⟨hm,hs⟩:=hI
 by_cases hi:i<l.length
 .have q1:(i:Int)<(l.length:Int):=by omega
  obtain⟨a,ha⟩:=gn (l[i]);have hc:l.drop i=a::l.drop (i+1):=yg;have hg:=aFz v (l.drop (i+1));rw[hc]at hs;unfold placeOf at hs
  by_cases hb:a=v
  .rw[yAJ hb]at hs;have gJ:B=(i:Int):=by rw[<-hs];simp
   clear hs;subst hb;refine aD (A3 q1 hi ha) ?_;exact aq
  .rw[yAI hb]at hs;have lR:¬v=a:=λh=>hb h.symm
   have hs2:(if placeOf v (l.drop (i+1))<0 then -1 else placeOf v (l.drop (i+1))+((i+1:Nat):Int))=B:=by
    rw[<-hs]
    by_cases h1:placeOf v (l.drop (i+1))<0
    .rw[yAJ h1,yAJ h1,yAJ xb]
    .rw[yAI h1,yAI h1,yAI xb];omega
   have VW:(v==a)=false:=by simpa using lR
   refine aD (A6 q1 hi ha hb lR VW) ?_;refine aM.normal (m-1) xb (by refine⟨i+1,?_⟩;exact cG (⟨xb,hs2⟩))
 .have q1:¬(i:Int)<(l.length:Int):=by omega
  rw[yAs xb]at hs;have gJ:B=-1:=by rw[<-hs];simp[placeOf]
  exact uh
theorem aTp(h0:E 133=none)(hN:E 154=some (dO MF))(hI:E 156=some aAY)(hK:RC E 157 SD fW)(hX:PC E 95 vW):PW E 133 pL:=by
 intro args σ r F l n hd hs hr hn hl;unfold pL at hd;split at hd
 rotate_left
 .cases hd
 rename_i b0 s;split at hd
 rotate_left
 .cases hd
 rename_i ns hns;obtain⟨hnl,hd⟩:=dF hd;have hdd:pL [.agg [.ptr b0 0],s]=some (.ptr b0 0,jE (lY ns) (.int .i64)):=by simp only[pL,hns];rw[dN hnl]
 simp only[yAb,yAc]at hd;obtain⟨rfl,rfl⟩:=hd;obtain⟨gK,hgK,hK⟩:=hK;obtain⟨gX,qX,hgX,hqX,hX⟩:=hX;have hS:=(eQ.start hr hn).box (.box (.agg [.ptr b0 0]));have hnx:=fun(τ:List U)=>aK8 (hr.more (τ:=τ)) hn hl 0
 obtain⟨IQ,IS,FP,PM,M6,M7⟩:=aB (hS.ks (σ.length,.box (.agg [.ptr b0 0])) wz).1;obtain⟨n1,n2,n3⟩:=bH (σ++[.box (.agg [.ptr b0 0])]);simp only[yAa,yAK,yAL,yAp,yAi,yAR,yAQ]at n1 n2 n3 FP M6 M7
 by_cases c1:n<l.length
 rotate_left
 .have K7:kW l n=(⟨0,[],0,(0,0),0,0⟩,false):=by simp[kW,c1,bD]
  rw[K7]at hnx;have hP:lY ns l n=.error ((lI l n).1,(lI l n).2,15):=by simp[lY,K7,iD]
  have j7:=hS.box DH;rcases hX [.agg [.ptr b0 0],.int .i64 15] _ (.ptr b0 0) _ l n rfl (j7.ne hs) j7.rd j7.le hl with⟨p,n2,fI,f1,_⟩ | ⟨e,fI,f1,f2,f3,f4,f5⟩
  .cases f1
  simp only[iD,yBJ]at f1;subst f1;have hpost:=j7.eI (dec:=pL) (args:=[.agg [.ptr b0 0],s]) hs hdd hr (eJ hP) f4 f5;simp only[DH,yAi,yAR,yAQ]at f2 f3;apply lJ.lL h0 func133 rfl
  focus(simp[show Tryz.f133.ntmps=_ from rfl,List.replicate];rfl)
  refine aD (A11 hN hnx IQ IS FP PM M6 M7 n1 n2 n3) ?_;exact tf
 obtain⟨t,ht⟩:=gn (l[n]);have K7:kW l n=(t,true):=by simp[kW,c1,ht]
 rw[K7]at hnx;have j7:=hS.box (.box (Em.tk.aA t));obtain⟨y1l,YG,YH,y1c,y1d,y1e⟩:=aB (j7.ks ((σ++[U.box (.agg [.ptr b0 0])]).length,.box (Em.tk.aA t)) wz).1;simp only[yAa,yAK,yAL,yAp,yAi,yAR,yAQ,FC]at y1l YG YH y1c y1d y1e
 by_cases c2:t.kind=1
 rotate_left
 .have hP:lY ns l n=.error ((lI l n).1,(lI l n).2,15):=by simp[lY,K7,iD,c2]
  rcases hX [.agg [.ptr b0 0],.int .i64 15] _ (.ptr b0 0) _ l n rfl (j7.ne hs) j7.rd j7.le hl with⟨p,n2,fI,f1,_⟩ | ⟨e,fI,f1,f2,f3,f4,f5⟩
  .cases f1
  simp only[iD,yBJ]at f1;subst f1;have hpost:=j7.eI (dec:=pL) (args:=[.agg [.ptr b0 0],s]) hs hdd hr (eJ hP) f4 f5;simp only[FC,yAi,yAR,yAQ]at f2 f3;apply lJ.lL h0 func133 rfl
  focus(simp[show Tryz.f133.ntmps=_ from rfl,List.replicate];rfl)
  refine aD (A18 hN hnx IQ IS FP PM M6 M7 n1 n2 n3 y1l YG YH y1c y1d y1e c2) ?_;exact tf
 obtain⟨k0,tx,nu,fe,li,co⟩:=t;simp only at c2;subst c2;simp only at hnx YG YH;have c2:True:=trivial;obtain⟨B,hB⟩:=gn (placeOf tx ns);have hIx:=λσ=>aWw (v:=tx) hns hnl 0 σ
 rw[hB]at hIx
 by_cases c3:B<0
 .have hP:lY ns l n=.error ((lI l n).1,(lI l n).2,10):=by simp[lY,K7,iD,hB,c3]
  rcases hX [.agg [.ptr b0 0],.int .i64 10] _ (.ptr b0 0) _ l n rfl (j7.ne hs) j7.rd j7.le hl with⟨p,n2,fI,f1,_⟩ | ⟨e,fI,f1,f2,f3,f4,f5⟩
  .cases f1
  simp only[iD,yBJ]at f1;subst f1;have hpost:=j7.eI (dec:=pL) (args:=[.agg [.ptr b0 0],s]) hs hdd hr (eJ hP) f4 f5;simp only[FC,yAi,yAR,yAQ]at f2 f3;apply lJ.lL h0 func133 rfl
  focus(simp[show Tryz.f133.ntmps=_ from rfl,List.replicate];rfl)
  refine aD (A20 hN hI hnx hIx IQ IS FP PM M6 M7 n1 n2 n3 y1l YG YH y1c y1d y1e c3) ?_;exact tf
 .have hP:lY ns l n=.ok (B,n+1):=by simp[lY,K7,hB,c3]
  obtain⟨j5,t1,t2,t3,t4⟩:=hK [.ptr b0 0] _ (.ptr b0 0) _ l n ⟨rfl,rfl⟩ (j7.ne hs) j7.rd hn hl;have hT:bK (λ_=>true) l n=((⟨1,tx,nu,fe,li,co⟩,true),n+1):=by simp[bK,c1,ht]
  rw[hT]at t1 t2;have h5:=j7.call t2 xb t3 t4;simp only[fW,FC,yAi,yAR,yAQ]at t1;apply lJ.lL h0 func133 rfl
  focus(simp[show Tryz.f133.ntmps=_ from rfl,List.replicate];rfl)
  refine aD (A20 hN hI hnx hIx hgK @t1 IQ IS FP PM M6 M7 n1 n2 n3 y1l YG YH y1c (A3 y1d y1e c3)) ?_
  right
  simp;exact⟨_,_,⟨rfl,rfl⟩,h5.kM hs hdd hr (FO hP)⟩
end
section
variable{E:aE}(hU:aF E)
include hU
set_option maxRecDepth 10000
theorem aZn(σ:List U)(ia ie:Nat):QN prog E 85 (.bL .nilIface) [.ptr ia 0,.ptr ie 0] σ σ:=by
 obtain⟨y,hy⟩:∃y,Tryz.f85.body=some y:=⟨_,rfl⟩;have key:∀y,Tryz.f85.body=some y->∀x z,y=.seq x z->Wp prog E none z 0 (PD.ptr ia 0::.ptr ie 0::.aK []::.aK []::.bL .nilIface::.aK []::.aK []::.bL .nilIface::List.replicate 18 (.aK [])) [] σ (λr=>(r.x=.normal\/r.x=.ret)/\r.ms=[]/\r.σ=σ):=by
  intro y hy x z e;obtain rfl:_=y:=yBr ((show Tryz.f85.body=some _ from rfl).symm.trans hy);cases e;simp only[List.replicate]
  repeat(first
   |(refine Fr.i ?_;simp only[aL,yAT,yAU];try rfl)|(refine By.i ?_;(focus(simp(disch:=first|omega|(simp;done)|(simp;omega)) [wrap_i64,wrap_u64];first|done|rfl|exact⟨rfl,rfl⟩)))
   |(refine By.i ?_;simp(disch:=first|omega|(simp;done)|(simp;omega)) [wrap_i64,wrap_u64];refine⟨xh,rfl⟩)
   |(refine Wt.i ?_;first|rfl|(focus(simp;done)))
   |(refine Ns.i ?_;(try simp only[yAl,yAQ,yAR,yAi,yAa,yAK,yAL,yAp,Nat.reduceAdd]);rfl)|rfl
   |(apply SL.pass;(focus(refine Wt.i ?_;rfl)))|(apply SL.OJ;(focus decide +kernel))|(apply tu;(focus decide +kernel))|apply SL.WI underlying204|apply SL.WJ underlying204
   |(apply SL.WK underlying20;(focus rfl))|(apply SL.WM underlying20;(focus rfl))|(apply tu;(focus rfl))|apply SL.move|apply SL.assign|apply SL.load|apply SL.fK|apply tu|apply tu
   |apply SL.binOp|apply SL.append|apply tu|apply SL.builtin|apply SL.fieldAddr|apply SL.indexAddr|apply SL.field|apply SL.extract|apply SL.fL|apply SL.pick|apply SL.store|apply SL.unOp|apply SL.convert
   |apply SL.index|apply SL.slice|apply SL.build|apply SL.nilCheck|apply SL.buildSlice|apply SL.box|apply SL.alloc|apply SL.makeFunc|apply SQ.nil|(apply WL.jU;(focus decide +kernel))
   |(apply WL.dW xd;(focus decide +kernel);(focus decide +kernel))|(apply WL.jG;(focus decide +kernel);(focus decide +kernel))|(apply WL.kE;(focus decide +kernel))
   |(apply WL.kC xd;(focus decide +kernel);(focus decide +kernel))|(apply tu;(focus decide +kernel);(focus decide +kernel))|(apply WL.kB xd;(focus decide +kernel);(focus decide +kernel))
   |(apply WL.kA xd;(focus decide +kernel);(focus decide +kernel))|(apply WL.lA xd;(focus decide +kernel);(focus decide +kernel))
   |(apply tu xd;(focus decide +kernel);(focus decide +kernel))|apply tu|(apply WL.ct;(focus rfl))|(apply WL.cf;(focus rfl))|refine aS.normal ?_|refine aS.ret ?_|refine aS.exit ?_
   |refine aO.normal ?_|refine aO.ret ?_|refine aO.here ?_|refine aO.there xl ?_|refine Wp.block ?_|refine Wp.skip ?_|refine Wp.ret ?_|refine Wp.exit ?_|refine aM.ret ?_|refine aM.exit ?_
   |refine tu ?_|refine tu ?_|refine tu ?_|refine Wp.seq (Wp.seq ?_)|refine Wp.seq (Wp.block ?_)|(refine Wp.seq ?_;apply WL.ct;(focus rfl))|(refine Wp.seq ?_;apply WL.cf;(focus rfl)))
  exact⟨.inl rfl,rfl,rfl⟩
 have hb:=hy;exact iq
theorem aZm(σ:List U)(ia ie:Nat)(l c e a b d:Int)(h1:σ[ia]?=some (.box (.agg [.int .i64 a,.int .i64 b])))(h2:σ[ie]?=some (.box (.int .i64 d)))(hne:ia≠ie) :
  QN prog E 85 (.iface 204 (.agg [.int .i64 l,.int .i64 c,.int .i64 e])) [.ptr ia 0,.ptr ie 0] σ
   (((σ.set ia (.box (.agg [.int .i64 l,.int .i64 c]))).set ie (.box (.int .i64 e)))++[.box (.agg [.int .i64 l,.int .i64 c,.int .i64 e])]):=by
 obtain⟨x,hx⟩:∃x,x=PD.iface 204 (.agg [.int .i64 l,.int .i64 c,.int .i64 e]):=⟨_,rfl⟩;obtain⟨l1,a0,a1,a2,a3,a4⟩:=aB h1;obtain⟨l2,b0,b1,b2,b3,b4⟩:=aB h2;obtain⟨n1,n2,n3⟩:=bH σ;have c1:∀y τ,(σ.set ia y++τ)[ie]?=some (.box (.int .i64 d)):=λy τ=>by rw[yAg (by rw[yAD];exact l2),yAd hne];exact h2
 have c2:∀y z τ,(σ.set ia y++τ).set ie z=(σ.set ia y).set ie z++τ:=λy z τ=>yCK _ _ (by rw[yAD];exact l2)
 have key:∀y,Tryz.f85.body=some y->∀x0 z,y=.seq x0 z->Wp prog E none z 0 (PD.ptr ia 0::.ptr ie 0::.aK []::.aK []::PD.iface 204 (.agg [.int .i64 l,.int .i64 c,.int .i64 e])::.aK []::.aK []::PD.iface 204 (.agg [.int .i64 l,.int .i64 c,.int .i64 e])::List.replicate 18 (.aK [])) [] σ (λr=>(r.x=.normal\/r.x=.ret)/\r.ms=[]/\r.σ=(((σ.set ia (.box (.agg [.int .i64 l,.int .i64 c]))).set ie (.box (.int .i64 e)))++[.box (.agg [.int .i64 l,.int .i64 c,.int .i64 e])])):=by
  intro y hy x z e;obtain rfl:_=y:=yBr ((show Tryz.f85.body=some _ from rfl).symm.trans hy);cases e;simp only[List.replicate]
  repeat(first
   |(refine Fr.i ?_;simp only[aL,yAT,yAU];try rfl)
   |(refine By.i ?_;(focus(simp(disch:=first|omega|(simp;done)|(simp;omega)) [wrap_i64,wrap_u64,n1,n2];first|done|rfl|exact⟨rfl,rfl⟩)))
   |(refine By.i ?_;simp(disch:=first|omega|(simp;done)|(simp;omega)) [wrap_i64,wrap_u64,n1,n2];refine⟨xh,rfl⟩)
   |(refine Wt.i ?_;first|rfl|(focus(simp[n1,n2];done)))
   |(refine Ns.i ?_;(try simp only[yAl,yAQ,yAR,yAi,yAa,yAK,yAL,yAp,Nat.reduceAdd]);rfl)|rfl
   |(apply SL.pass;(focus(refine Wt.i ?_;rfl)))|(apply SL.OJ;(focus decide +kernel))|(apply tu;(focus decide +kernel))|apply SL.WI underlying204|apply SL.WJ underlying204
   |(apply SL.WK underlying20;(focus rfl))|(apply SL.WM underlying20;(focus rfl))|(apply tu;(focus rfl))|apply SL.move|apply SL.assign|apply SL.load|apply SL.fK|apply tu|apply tu
   |apply SL.binOp|apply SL.append|apply tu|apply SL.builtin|apply SL.fieldAddr|apply SL.indexAddr|apply SL.field|apply SL.extract|apply SL.fL|apply SL.pick|apply SL.store|apply SL.unOp|apply SL.convert
   |apply SL.index|apply SL.slice|apply SL.build|apply SL.nilCheck|apply SL.buildSlice|apply SL.box|apply SL.alloc|apply SL.makeFunc|apply SQ.nil|(apply WL.jU;(focus decide +kernel))
   |(apply WL.dW xd;(focus decide +kernel);(focus decide +kernel))|(apply WL.jG;(focus decide +kernel);(focus decide +kernel))|(apply WL.kE;(focus decide +kernel))
   |(apply WL.kC xd;(focus decide +kernel);(focus decide +kernel))|(apply tu;(focus decide +kernel);(focus decide +kernel))|(apply WL.kB xd;(focus decide +kernel);(focus decide +kernel))
   |(apply WL.kA xd;(focus decide +kernel);(focus decide +kernel))|(apply WL.lA xd;(focus decide +kernel);(focus decide +kernel))
   |(apply tu xd;(focus decide +kernel);(focus decide +kernel))|apply tu|(apply WL.ct;(focus rfl))|(apply WL.cf;(focus rfl))|refine aS.normal ?_|refine aS.ret ?_|refine aS.exit ?_
   |refine aO.normal ?_|refine aO.ret ?_|refine aO.here ?_|refine aO.there xl ?_|refine Wp.block ?_|refine Wp.skip ?_|refine Wp.ret ?_|refine Wp.exit ?_|refine aM.ret ?_|refine aM.exit ?_
   |refine tu ?_|refine tu ?_|refine tu ?_|refine Wp.seq (Wp.seq ?_)|refine Wp.seq (Wp.block ?_)|(refine Wp.seq ?_;apply WL.ct;(focus rfl))|(refine Wp.seq ?_;apply WL.cf;(focus rfl)))
  refine Wp.aQw hU [(0,ia),(1,ie),(5,σ.length)] [(some σ.length,some ia)] xo ⟨⟨0,rfl⟩,⟨0,rfl⟩,⟨0,rfl⟩,trivial⟩ xg ⟨xb,trivial⟩ ?_
  repeat(first
   |(refine Fr.i ?_;simp only[aL,yAT,yAU];try rfl)
   |(refine By.i ?_;(focus(simp(disch:=first|omega|(simp;done)|(simp;omega)) [wrap_i64,wrap_u64,n1,n2,n3,a0,a1,a2,a3,a4,b0,b1,b2,b3,b4,c1,c2];first|done|rfl|exact⟨rfl,rfl⟩)))
   |(refine By.i ?_;simp(disch:=first|omega|(simp;done)|(simp;omega)) [wrap_i64,wrap_u64,n1,n2,n3,a0,a1,a2,a3,a4,b0,b1,b2,b3,b4,c1,c2];refine⟨xh,rfl⟩)
   |(refine Wt.i ?_;first|rfl|(focus(simp[n1,n2,n3,a0,a1,a2,a3,a4,b0,b1,b2,b3,b4,c1,c2];done)))
   |(refine Ns.i ?_;(try simp only[yAl,yAQ,yAR,yAi,yAa,yAK,yAL,yAp,Nat.reduceAdd]);rfl)|rfl
   |(apply SL.pass;(focus(refine Wt.i ?_;rfl)))|(apply SL.OJ;(focus decide +kernel))|(apply tu;(focus decide +kernel))|apply SL.WI underlying204|apply SL.WJ underlying204
   |(apply SL.WK underlying20;(focus rfl))|(apply SL.WM underlying20;(focus rfl))|(apply tu;(focus rfl))|apply SL.move|apply SL.assign|apply SL.load|apply SL.fK|apply tu|apply tu
   |apply SL.binOp|apply SL.append|apply tu|apply SL.builtin|apply SL.fieldAddr|apply SL.indexAddr|apply SL.field|apply SL.extract|apply SL.fL|apply SL.pick|apply SL.store|apply SL.unOp|apply SL.convert
   |apply SL.index|apply SL.slice|apply SL.build|apply SL.nilCheck|apply SL.buildSlice|apply SL.box|apply SL.alloc|apply SL.makeFunc)
  apply SQ.nil;exact⟨.inl rfl,rfl,rfl⟩
 exact iq
end
end Go.Kz
end
