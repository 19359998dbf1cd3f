/- Steps of the proof. -/
import Derived.Test.YtnogdlnjafblaaaGreatDoorI2
import Derived.Test.YtnogdlnjafblaaaGreatDoorH4
import Derived.Test.YtnogdlnjafblaaaGreatDoorH3
set_option linter.all false
set_option maxHeartbeats 40000000
set_option maxRecDepth 100000
open Go.Proofs.Tryz
noncomputable section
namespace Go.Kz
open Go Go.Proofs
abbrev Fl:=Int×Int×Int
abbrev Pm(α:Type):=List Tk->Nat->Except Fl (α×Nat)
def aR{α β:Type}(x:Pm α)(f:α->Pm β):Pm β:=λl n=>match x l n with|.ok (a,n')=>f a l n' | .error e=>.error e
def eG{α:Type}(a:α):Pm α:=λ_ n=>.ok (a,n)
def mM(l:List Tk)(n:Nat):Int×Int:=if K5 l n=(0,0)then(1,1)else K5 l n
def iY{α:Type}(e:Int):Pm α:=λl n=>.error ((mM l n).1,(mM l n).2,e)
def mJ(k:Int):Pm Tk:=λl n=>if (bS (λt=>decide (t.kind=k)) l n).1.2=true then .ok ((bS (λt=>decide (t.kind=k)) l n).1.1,(bS (λt=>decide (t.kind=k)) l n).2)else iY 15 l n
def mL(w:List UInt8):Pm Unit:=λl n=>if (bS (isWord 1 w) l n).1.2=true then .ok ((),(bS (isWord 1 w) l n).2)else iY 15 l n
def rE:Pm (List UInt8):=aR (mJ 1) λt=>eG t.text
def rH:Pm Int:=aR (mJ 2) λt=>eG t.num
def rI:Pm Unit:=aR (mJ 6) λ_=>eG ()
def yR:Pm KG:=aR (mL [102,101,101,116]) λ_=>aR (mJ 3) λt=>eG t.bB
def placeOf(s:List UInt8):List (List UInt8)->Int
 | []=>-1
 |x::xs=>if x=s then 0 else if placeOf s xs<0 then -1 else placeOf s xs+1
def nG(names:List (List UInt8)):Pm Int:=λl n=>
 if (lV l n).2=false\/(lV l n).1.kind≠1 then iY 15 l n else
 if placeOf (lV l n).1.text names<0 then iY 10 l n else .ok (placeOf (lV l n).1.text names,n+1)
def oF:List Tk->List Int
 | []=>[]
 |t::r=>if t.kind=2 then t.num::oF r else []
def HR:Pm (List Int):=λl n=>.ok (oF (l.drop n),n+(oF (l.drop n)).length)
def iX:Pm aX:=aR rE λnm=>aR (mL [116,111,110,101]) λ_=>aR rE λtn=>aR yR λf=>aR (mL [102,105,114,115,116]) λ_=>
 aR rH λk=>aR (mL [119,105,110,100]) λ_=>aR HR λw=>aR rI λ_=>eG ⟨nm,tn,f.1,f.2,k,w⟩
def oU{α:Type}(w:List UInt8)(body:Pm α):Nat->List α->Pm (List α)
 |0,acc=>λ_ n=>.ok (acc,n)
 |f+1,acc=>λl n=>if (bS (isWord 1 w) l n).1.2=true then(match body l (bS (isWord 1 w) l n).2 with|.ok (a,n2)=>oU w body f (acc++[a]) l n2|.error e=>.error e)else .ok (acc,n)
def oT{α:Type}(w:List UInt8)(body:Pm α):Pm (List α):=λl n=>oU w body (l.length+1-n) [] l n
def eI(aU:List (List UInt8)):Pm gU:=aR (nG aU) λi=>aR rH λs=>aR rI λ_=>eG ⟨i,s⟩
def lT(aU:List (List UInt8)):Pm jV:=aR rH λa=>aR rH λb=>aR rI λ_=>aR (oT [100,114,97,119] (eI aU)) λds=>eG ⟨a,b,ds⟩
def gB(aU:List (List UInt8)):Pm cM:=aR rE λnm=>aR yR λf=>aR rI λ_=>aR (oT [107,101,121,115] (lT aU)) λgs=>eG ⟨nm,f.1,f.2,gs⟩
def vW(w:List UInt8):Pm Bool:=λl n=>.ok (decide ((bS (isWord 1 w) l n).1.2=true),(bS (isWord 1 w) l n).2)
def jM(aU:List (List UInt8)):Pm bY:=aR rE λnm=>aR (vW [112,101,100,97,108]) λb=>aR (mL [107,101,121,115]) λ_=>aR rH λx=>aR rH λy=>aR rI λ_=>
 aR (oT [115,116,111,112] (gB aU)) λss=>eG ⟨nm,b,x,y,ss⟩
def iF(bR:List (List UInt8)):Pm dY:=aR rE λnm=>aR (mL [102,114,111,109]) λ_=>aR (nG bR) λi=>aR (mL [116,111]) λ_=>aR (nG bR) λj=>
 aR (mL [115,104,105,102,116]) λ_=>aR rH λs=>aR (vW [116,104,114,111,117,103,104]) λb=>aR rI λ_=>eG ⟨nm,i,j,s,b⟩
def HT:Pm Unit:=λl n=>if n<l.length then iY 15 l n else .ok ((),n)
def jX:Pm eK:=aR (mL [111,114,103,97,110]) λ_=>aR rE λnm=>aR rI λ_=>aR (oT [114,97,110,107] iX) λrs=>
 aR (oT [100,105,118,105,115,105,111,110] (jM (rs.map aX.name))) λds=>aR (oT [99,111,117,112,108,101,114] (iF (ds.map bY.name))) λcs=>aR HT λ_=>eG ⟨nm,rs,ds,cs⟩
def aVS(aU:List (List UInt8)):Pm cM:=aR (mL [115,116,111,112]) λ_=>aR (gB aU) λs=>aR HT λ_=>eG s
def aP{α:Type}(x:Pm α):Prop:=∀l n a n',n<=l.length->x l n=.ok (a,n')->n<=n'/\n'<=l.length
theorem aP.then'{α β:Type}{x:Pm α}{f:α->Pm β}(hx:aP x)(hf:∀a,aP (f a)):aP (aR x f):=by
 intro l n b n' hn h;unfold aR at h;split at h
 .rename_i a n1 h1;obtain⟨h2,h3⟩:=hx l n a n1 hn h1;obtain⟨h4,h5⟩:=hf a l n1 b n' h3 h;exact⟨ym,h5⟩
 .cases h
theorem aP.ret{α:Type}{a:α}:aP (eG a):=by
 intro l n b n' hn h;simp only[eG,yBn,yAc]at h;omega
theorem aDi(q:Tk->Bool)(l:List Tk)(n:Nat):n<=(bS q l n).2:=by
 unfold bS;split
 .split<;>simp
 .simp
theorem aP.take{k:Int}:aP (mJ k):=by
 intro l n b n' hn h;unfold mJ at h;split at h
 .simp only[yBn,yAc]at h;have:=aDi (λt=>decide (t.kind=k)) l n;have:=pY (λt=>decide (t.kind=k)) hn;omega
 .cases h
theorem aP.key{w:Dr}:aP (mL w):=by
 intro l n b n' hn h;unfold mL at h;split at h
 .simp only[yBn,yAc]at h;have:=aDi (isWord 1 w) l n;have:=pY (isWord 1 w) hn;omega
 .cases h
theorem aP.is{w:Dr}:aP (vW w):=by
 intro l n b n' hn h;simp only[vW,yBn,yAc]at h;have:=aDi (isWord 1 w) l n;have:=pY (isWord 1 w) hn;omega
theorem aP.index{w:List (List UInt8)}:aP (nG w):=by
 intro l n b n' hn h;unfold nG at h;split at h
 .cases h
 .rename_i h1;split at h
  .cases h
  .simp only[yBn,yAc]at h;have:n<l.length:=by
    rcases yBF n l.length with h2|h2
    .exact h2
    .exfalso;apply h1;left;simp[lV,h2]
   omega
theorem aHh:∀l:List Tk,(oF l).length<=l.length
 | []=>by simp[oF]
 |t::r=>by
  unfold oF;split
  .have:=aHh r;simp only[yAK];omega
  .simp
theorem aP.oA:aP HR:=by
 intro l n b n' hn h;simp only[HR,yBn,yAc]at h;have:=aHh (l.drop n);rw[yBf]at this;omega
theorem aP.many{α:Type}{w:Dr}{b:Pm α}(hb:aP b):aP (oT w b):=by
 have key:∀(f:Nat) (acc:List α),aP (oU w b f acc):=by
  intro f
  induction f with
  |zero=>intro acc;exact aP.ret
  |succ f ih=>
   intro acc l n x n' hn h;unfold oU at h;have h1:=aDi (isWord 1 w) l n;have h2:=pY (isWord 1 w) hn;split at h
   .split at h
    .rename_i a n2 h3;obtain⟨h4,h5⟩:=hb l _ a n2 h2 h3;obtain⟨h6,h7⟩:=ih _ l n2 x n' h5 h;exact⟨ym,h7⟩
    .cases h
   .simp only[yBn,yAc]at h;omega
 exact λl n x n' hn h=>key _ _ l n x n' hn h
theorem aP.done:aP HT:=by
 intro l n b n' hn h;unfold HT at h;split at h
 .cases h
 .simp only[yBn,yAc]at h;omega
theorem aP.name:aP rE:=aP.take.then' λ_=>.ret
theorem aP.num:aP rH:=aP.take.then' λ_=>.ret
theorem aP.fO:aP rI:=aP.take.then' λ_=>.ret
theorem aP.bB:aP yR:=aP.key.then' λ_=>aP.take.then' λ_=>.ret
theorem aP.bC:aP iX:=aP.name.then' λ_=>aP.key.then' λ_=>aP.name.then' λ_=>aP.bB.then' λ_=>aP.key.then' λ_=>aP.num.then' λ_=>aP.key.then' λ_=>aP.oA.then' λ_=>aP.fO.then' λ_=>.ret
theorem aP.draw{r:List (List UInt8)}:aP (eI r):=aP.index.then' λ_=>aP.num.then' λ_=>aP.fO.then' λ_=>.ret
theorem aP.cK{r:List (List UInt8)}:aP (lT r):=aP.num.then' λ_=>aP.num.then' λ_=>aP.fO.then' λ_=>aP.draw.many.then' λ_=>.ret
theorem aP.stop{r:List (List UInt8)}:aP (gB r):=aP.name.then' λ_=>aP.bB.then' λ_=>aP.fO.then' λ_=>aP.cK.many.then' λ_=>.ret
theorem aP.div{r:List (List UInt8)}:aP (jM r):=aP.name.then' λ_=>aP.is.then' λ_=>aP.key.then' λ_=>aP.num.then' λ_=>aP.num.then' λ_=>aP.fO.then' λ_=>aP.stop.many.then' λ_=>.ret
theorem aP.cC{r:List (List UInt8)}:aP (iF r):=aP.name.then' λ_=>aP.key.then' λ_=>aP.index.then' λ_=>aP.key.then' λ_=>aP.index.then' λ_=>aP.key.then' λ_=>aP.num.then' λ_=>aP.is.then' λ_=>aP.fO.then' λ_=>.ret
structure Ls where
 n:Nat
 at_:Int×Int
 e:Int
abbrev Lm(α:Type):=List Tk->Ls->α×Ls
def dD{α β:Type}(x:Lm α)(f:α->Lm β):Lm β:=λl s=>f (x l s).1 l (x l s).2
def s9{α:Type}(a:α):Lm α:=λ_ s=>(a,s)
def HU(e:Int):Lm Unit:=λl s=>((),if s.e≠0 then s else { s with at_:=aHt l s.n,e:=e })
where aHt (l:List Tk) (n:Nat):Int×Int:=match l[n]? with
 |some t=>(t.line,t.cA)
 |none=>match l.getLast? with|some t=>(t.line,t.cA)|none=>(1,1)
def yS(l:List Tk)(s:Ls):Int:=if s.e≠0 then 0 else match l[s.n]? with|some t=>t.kind|none=>0
def vX(w:List UInt8):Lm Bool:=λl s=>if yS l s=1/\(l.getD s.n bL).text=w then(true,{ s with n:=s.n+1 })else(false,s)
def yT(w:List UInt8):Lm Unit:=λl s=>if (vX w l s).1=true then((),(vX w l s).2)else HU 15 l (vX w l s).2
def yU(k:Int):Lm Tk:=λl s=>if yS l s≠k then(bL,(HU 15 l s).2)else(l.getD s.n bL,{ s with n:=s.n+1 })
def SK:Lm (List UInt8):=dD (yU 1) λt=>s9 t.text
def FJ:Lm Int:=dD (yU 2) λt=>s9 t.num
def P0:Lm Unit:=dD (yU 6) λ_=>s9 ()
def ftL:Lm KG:=dD (yT [102,101,101,116]) λ_=>dD (yU 3) λt=>s9 t.bB
def SM(names:List (List UInt8)):Lm Int:=λl s=>
 if yS l s=1/\0<=placeOf (l.getD s.n bL).text names then(placeOf (l.getD s.n bL).text names,{ s with n:=s.n+1 })
 else if yS l s=1 then(0,(yU 1 l (HU 10 l s).2).2)else(0,(yU 1 l s).2)
def aAI:Nat->List Int->Lm (List Int)
 |0,acc=>s9 acc
 |f+1,acc=>λl s=>if yS l s=2 then aAI f (acc++[(FJ l s).1]) l (FJ l s).2 else(acc,s)
def aDg:Lm (List Int):=λl s=>aAI (l.length+1-s.n) [] l s
def aNV:Lm aX:=dD SK λnm=>dD (yT [116,111,110,101]) λ_=>dD SK λtn=>dD ftL λf=>dD (yT [102,105,114,115,116]) λ_=>
 dD FJ λk=>dD (yT [119,105,110,100]) λ_=>dD aDg λw=>dD P0 λ_=>s9 ⟨nm,tn,f.1,f.2,k,w⟩
def NP{α:Type}(w:List UInt8)(body:Lm α):Nat->List α->Lm (List α)
 |0,acc=>s9 acc
 |f+1,acc=>λl s=>if (vX w l s).1=true then NP w body f (acc++[(body l (vX w l s).2).1]) l (body l (vX w l s).2).2 else(acc,(vX w l s).2)
def SN{α:Type}(w:List UInt8)(body:Lm α):Lm (List α):=λl s=>NP w body (l.length+1-s.n) [] l s
def aNW(aU:List (List UInt8)):Lm gU:=dD (SM aU) λi=>dD FJ λs=>dD P0 λ_=>s9 ⟨i,s⟩
def aNX(aU:List (List UInt8)):Lm jV:=dD FJ λa=>dD FJ λb=>dD P0 λ_=>dD (SN [100,114,97,119] (aNW aU)) λds=>s9 ⟨a,b,ds⟩
def aNY(aU:List (List UInt8)):Lm cM:=dD SK λnm=>dD ftL λf=>dD P0 λ_=>dD (SN [107,101,121,115] (aNX aU)) λgs=>s9 ⟨nm,f.1,f.2,gs⟩
def aNZ(aU:List (List UInt8)):Lm bY:=dD SK λnm=>dD (vX [112,101,100,97,108]) λb=>dD (yT [107,101,121,115]) λ_=>dD FJ λx=>dD FJ λy=>dD P0 λ_=>
 dD (SN [115,116,111,112] (aNY aU)) λss=>s9 ⟨nm,b,x,y,ss⟩
def aN0(bR:List (List UInt8)):Lm dY:=dD SK λnm=>dD (yT [102,114,111,109]) λ_=>dD (SM bR) λi=>dD (yT [116,111]) λ_=>dD (SM bR) λj=>
 dD (yT [115,104,105,102,116]) λ_=>dD FJ λs=>dD (vX [116,104,114,111,117,103,104]) λb=>dD P0 λ_=>s9 ⟨nm,i,j,s,b⟩
def aAJ:Lm Unit:=λl s=>if s.n<l.length then HU 15 l s else((),s)
def a0l:Lm eK:=dD (yT [111,114,103,97,110]) λ_=>dD SK λnm=>dD P0 λ_=>dD (SN [114,97,110,107] aNV) λrs=>
 dD (SN [100,105,118,105,115,105,111,110] (aNZ (rs.map aX.name))) λds=>dD (SN [99,111,117,112,108,101,114] (aN0 (ds.map bY.name))) λcs=>dD aAJ λ_=>s9 ⟨nm,rs,ds,cs⟩
def aAB(l:List Tk):Prop:=∀t∈l,0<t.kind/\0<t.line
def fI(n:Nat):Ls:=⟨n,(0,0),0⟩
structure dR {α:Type} (x:Pm α) (y:Lm α):Prop where
 ok:∀l n a n',aAB l->n<=l.length->x l n=.ok (a,n')->y l (fI n)=(a,fI n')
 er:∀l n v,aAB l->n<=l.length->x l n=.error v->(y l (fI n)).2.at_=(v.1,v.2.1)/\(y l (fI n)).2.e=v.2.2/\v.2.2≠0
 st:∀l s,s.e≠0->(y l s).2=s
theorem P1{l:List Tk}{s:Ls}{t:Tk}(he:s.e=0)(h:l[s.n]?=some t):yS l s=t.kind:=by simp[yS,he,h]
theorem aAK{l:List Tk}{s:Ls}(h:l[s.n]?=none):yS l s=0:=by
 unfold yS;split
 .rfl
 .rw[h]
theorem aAL{l:List Tk}{s:Ls}(h:s.e≠0):yS l s=0:=by simp[yS,h]
theorem a0m{l:List Tk}{n:Nat}(ht:aAB l)(hn:n<=l.length):HU.aHt l n=mM l n:=by
 unfold HU.aHt mM K5;rcases yBF n l.length with h|h
 .have e:min n (l.length-1)=n:=by omega
  have h0:=(ht l[n] (yAm h)).2;rw[e,yAh h];simp only;rw[yAI (by intro hx;simp only[yAc]at hx;omega)]
 .have e:min n (l.length-1)=l.length-1:=by omega
  rw[yBo h,e];simp only;cases hl:l.getLast? with
  |none=>rw[List.getLast?_eq_none_iff]at hl;subst hl;rfl
  |some t=>
   rw[List.getLast?_eq_getElem?]at hl;rw[hl];have h0:=(ht t (yAE hl)).2;simp only;rw[yAI (by intro hx;simp only[yAc]at hx;omega)]
theorem aDh{e:Int}{l:List Tk}{s:Ls}(h:s.e≠0):HU e l s=((),s):=by simp[HU,h]
theorem OZ{e:Int}{l:List Tk}{n:Nat}(ht:aAB l)(hn:n<=l.length):(HU e l (fI n)).2=⟨n,mM l n,e⟩:=by
 simp only[HU,fI,ne_eq,yBr,yAO];rw[a0m ht hn]
theorem dR.ret{α:Type}{a:α}:dR (eG a) (s9 a) where
 ok:=λl n b n' _ _ h=>by simp only[eG,yBn,yAc]at h;obtain⟨rfl,rfl⟩:=h;rfl
 er:=λl n v _ _ h=>zk
 st:=λ_ _ _=>rfl
theorem dR.then'{α β:Type}{x:Pm α}{y:Lm α}{f:α->Pm β}{g:α->Lm β}(hF:aP x)(h:dR x y)(k:∀a,dR (f a) (g a)):dR (aR x f) (dD y g) where
 ok:=λl n b n' ht hn hx=>by
  unfold aR at hx;split at hx
  .rename_i a n1 h1;have:=h.ok l n a n1 ht hn h1;unfold dD;rw[this];exact(k a).ok l n1 b n' ht (hF l n a n1 hn h1).2 hx
  .cases hx
 er:=λl n v ht hn hx=>by
  unfold aR at hx;unfold dD;split at hx
  .rename_i a n1 h1;rw[h.ok l n a n1 ht hn h1];exact(k a).er l n1 v ht (hF l n a n1 hn h1).2 hx
  .rename_i e h1;cases hx;obtain⟨h2,h3,h4⟩:=h.er l n v ht hn h1;rw[(k _).st l _ (by rw[h3];exact h4)];exact⟨h2,h3,h4⟩
 st:=λl s he=>by
  unfold dD;have:=h.st l s he;rw[this];exact(k _).st l s he
theorem dR.take{k:Int}(hk:0<k):dR (mJ k) (yU k) where
 ok:=λl n a n' ht hn h=>by
  unfold mJ bS at h;cases hg:l[n]? with
  |none=>simp[hg,iY]at h
  |some t=>
   by_cases hq:t.kind=k
   .simp only[hg,hq,decide_true,yAM,yBn,yAc]at h;obtain⟨rfl,rfl⟩:=h;unfold yU;rw[P1 (s:=fI n) rfl hg,yAI (by simp[hq])];simp[fI,List.getD,hg]
   .simp[hg,hq,iY]at h
 er:=λl n v ht hn h=>by
  unfold mJ bS at h;have hk':yS l (fI n)≠k:=by
   cases hg:l[n]? with
   |none=>rw[aAK (s:=fI n) hg];omega
   |some t=>
    rw[P1 (s:=fI n) rfl hg];intro hq;simp[hg,hq]at h
  have hv:v=((mM l n).1,(mM l n).2,15):=by
   cases hg:l[n]? with
   |none=>simp only[hg,yAx,yAO,iY,yBP]at h;exact h.symm
   |some t=>
    have hq:¬t.kind=k:=by rw[P1 (s:=fI n) rfl hg]at hk';exact hk'
    simp only[hg,hq,decide_false,yAx,yAO,iY,yBP]at h;exact h.symm
  subst hv;unfold yU;rw[yAJ hk'];simp only[OZ ht hn];exact ic
 st:=λl s he=>by
  unfold yU;rw[aAL he,yAJ ym];simp only[aDh he]
theorem aAM{w:Dr}{l:List Tk}{n:Nat}:vX w l (fI n)=((bS (isWord 1 w) l n).1.2,fI (bS (isWord 1 w) l n).2):=by
 unfold vX bS;cases hg:l[n]? with
 |none=>rw[aAK (s:=fI n) hg];simp
 |some t=>
  rw[P1 (s:=fI n) rfl hg];simp only[fI,List.getD,hg,yCa,isWord]
  by_cases h1:t.kind=1
  .by_cases h2:t.text=w
   .simp[h1,h2]
   .simp[h1,h2]
  .simp[h1]
theorem aHu{w:Dr}{l:List Tk}{s:Ls}(h:s.e≠0):vX w l s=(false,s):=by
 unfold vX;rw[aAL h,yAI yo]
theorem dR.is{w:Dr}:dR (vW w) (vX w) where
 ok:=λl n a n' ht hn h=>by
  simp only[vW,yBn,yAc]at h;obtain⟨rfl,rfl⟩:=h;rw[aAM];simp
 er:=λl n v _ _ h=>zk
 st:=λl s he=>by rw[aHu he]
theorem dR.key{w:Dr}:dR (mL w) (yT w) where
 ok:=λl n a n' ht hn h=>by
  unfold mL at h;split at h
  .rename_i h1;simp only[yBn,yAc,yBM]at h;unfold yT;rw[aAM,yAJ h1,h]
  .cases h
 er:=λl n v ht hn h=>by
  unfold mL at h;split at h
  .cases h
  .rename_i h1;simp only[iY,yBP]at h;subst h;have hT:bS (isWord 1 w) l n=((bL,false),n):=by
    exact gJ
   unfold yT;rw[aAM,yAI h1,hT];simp only[OZ ht hn];exact ic
 st:=λl s he=>by
  unfold yT;rw[aHu he];simp only[yAx,yAO,aDh he]
theorem dR.one{w:List (List UInt8)}:dR (nG w) (SM w) where
 ok:=λl n a n' ht hn h=>by
  unfold nG lV at h;cases hg:l[n]? with
  |none=>simp[hg,iY]at h
  |some t=>
   simp only[hg,yDH,false_or]at h;split at h
   .cases h
   .rename_i h1;split at h
    .cases h
    .rename_i h2;simp only[yBn,yAc]at h;obtain⟨rfl,rfl⟩:=h;unfold SM;rw[P1 (s:=fI n) rfl hg];simp only[fI,List.getD,hg,yCa];rw[yAJ ⟨zo,ym⟩]
 er:=λl n v ht hn h=>by
  unfold nG lV at h;unfold SM;have tk:∀(s:Ls),(yU 1 l s).2=(if yS l s≠1 then(HU 15 l s).2 else { s with n:=s.n+1 }):=λs=>by
   unfold yU;split<;>rfl
  cases hg:l[n]? with
  |none=>
   simp only[hg,true_or,yAM,iY,yBP]at h;subst h;rw[aAK (s:=fI n) hg,yAI yo,yAI yo,tk,aAK (s:=fI n) hg,yAJ yo];rw[OZ ht hn];exact ic
  |some t=>
   simp only[hg,yDH,false_or]at h;rw[tk,tk];rw[P1 (s:=fI n) rfl hg];simp only[fI,List.getD,hg,yCa];split at h
   .rename_i h1;simp only[iY,yBP]at h;subst h;rw[yAI (by simp[h1]),yAI h1,yAJ h1];have:=OZ (e:=15) ht hn;unfold fI at this;rw[this];exact ic
   .rename_i h1;split at h
    .rename_i h2;simp only[iY,yBP]at h;subst h;rw[yAI ym,yAJ zo];have:=OZ (e:=10) ht hn;unfold fI at this;simp only[this];rw[yAJ (by rw[aAL yo];simp),aDh yo];exact ic
    .cases h
 st:=λl s he=>by
  unfold SM;rw[aAL he,yAI yo,yAI yx];exact(dR.take (k:=1) yx).st l s he
theorem dR.done:dR HT aAJ where
 ok:=λl n a n' ht hn h=>by
  unfold HT at h;split at h
  .cases h
  .rename_i h1;simp only[yBn,yAc,yBM]at h;subst h;unfold aAJ;rw[yAI (by exact h1)]
 er:=λl n v ht hn h=>by
  unfold HT at h;split at h
  .rename_i h1;simp only[iY,yBP]at h;subst h;unfold aAJ;rw[yAJ (by exact h1),OZ ht hn];exact ic
  .cases h
 st:=λl s he=>by
  unfold aAJ;split
  .rw[aDh he]
  .rfl
theorem dR.name:dR rE SK:=dR.then' .take (.take yx) λ_=>.ret
theorem dR.num:dR rH FJ:=dR.then' .take (.take yx) λ_=>.ret
theorem dR.fO:dR rI P0:=dR.then' .take (.take yx) λ_=>.ret
theorem dR.bB:dR yR ftL:=dR.then' .key .key λ_=>dR.then' .take (.take yx) λ_=>.ret
theorem dR.oA:dR HR aDg where
 ok:=λl n a n' ht hn h=>by
  simp only[HR,yBn,yAc]at h;have key:∀(f n:Nat) (acc:List Int),n<=l.length->l.length-n<f->aAI f acc l (fI n)=(acc++oF (l.drop n),fI (n+(oF (l.drop n)).length)):=by
   intro f
   induction f with
   |zero=>intro n acc _ h;omega
   |succ f ih=>
    intro n acc hn hf;unfold aAI;rcases yBF n l.length with hlt|hge
    .have hg:=yAh hlt;rw[P1 (s:=fI n) rfl hg,yAq hlt];unfold oF
     by_cases hk:l[n].kind=2
     .have hnum:FJ l (fI n)=(l[n].num,fI (n+1)):=by
       unfold FJ dD yU s9;rw[P1 (s:=fI n) rfl hg,yAI (by simp[hk])];simp[fI,List.getD,hg]
      rw[yAJ hk,yAJ hk,hnum,ih (n+1) _ ym ym];simp[yCr,yCq]
     .rw[yAI hk,yAI hk];simp
    .rw[aAK (s:=fI n) (yBo hge),yAI yx,yAs hge];simp[oF]
  unfold aDg;rw[show(fI n).n=n from rfl,key _ n [] hn ym,<-h.1,<-h.2];rfl
 er:=λl n v _ _ h=>zk
 st:=λl s he=>by
  unfold aDg;cases l.length+1-s.n with
  |zero=>rfl
  |succ f=>
   unfold aAI;rw[aAL he,yAI yx]
theorem dR.many{α:Type}{w:Dr}{b:Pm α}{c:Lm α}(hF:aP b)(h:dR b c):dR (oT w b) (SN w c):=by
 have st:∀(f:Nat) (acc:List α) l s,s.e≠0->(NP w c f acc l s).2=s:=by
  intro f acc l s he;cases f with
  |zero=>rfl
  |succ f=>
   unfold NP;rw[aHu he];rfl
 refine⟨λl n a n' ht hn hx=>?_,λl n v ht hn hx=>?_,λl s he=>st _ _ _ _ he⟩
 .have key:∀(f n:Nat) (acc:List α) a n',n<=l.length->oU w b f acc l n=.ok (a,n')->NP w c f acc l (fI n)=(a,fI n'):=by
   intro f
   induction f with
   |zero=>intro n acc a n' _ h;simp only[oU,yBn,yAc]at h;obtain⟨rfl,rfl⟩:=h;rfl
   |succ f ih=>
    intro n acc a n' hn hx;unfold oU at hx;unfold NP;rw[aAM];split at hx
    .rename_i h1;rw[yAJ h1];have hle:=pY (isWord 1 w) hn;split at hx
     .rename_i a2 n2 h2;simp only[h.ok l _ a2 n2 ht hle h2];exact ih n2 _ a n' (hF l _ a2 n2 hle h2).2 hx
     .cases hx
    .rename_i h1;rw[yAI h1];simp only[yBn,yAc]at hx;obtain⟨rfl,rfl⟩:=hx;have hT:(bS (isWord 1 w) l n).2=n:=by
      exact gJ
     rw[hT]
  exact key _ n [] a n' hn hx
 .have key:∀(f n:Nat) (acc:List α),n<=l.length->oU w b f acc l n=.error v->(NP w c f acc l (fI n)).2.at_=(v.1,v.2.1)/\(NP w c f acc l (fI n)).2.e=v.2.2/\v.2.2≠0:=by
   intro f
   induction f with
   |zero=>intro n acc _ h;cases h
   |succ f ih=>
    intro n acc hn hx;unfold oU at hx;unfold NP;rw[aAM];split at hx
    .rename_i h1;rw[yAJ h1];have hle:=pY (isWord 1 w) hn;split at hx
     .rename_i a2 n2 h2;simp only[h.ok l _ a2 n2 ht hle h2];exact ih n2 _ (hF l _ a2 n2 hle h2).2 hx
     .rename_i e h2;cases hx;obtain⟨h3,h4,h5⟩:=h.er l _ v ht hle h2;simp only;rw[st _ _ _ _ (by rw[h4];exact h5)];exact⟨h3,h4,h5⟩
    .cases hx
  exact key _ n [] hn hx
theorem dR.bC:dR iX aNV:=.then' .name .name λ_=>.then' .key .key λ_=>.then' .name .name λ_=>.then' .bB .bB λ_=>.then' .key .key λ_=>.then' .num .num λ_=>.then' .key .key λ_=>.then' .oA .oA λ_=>.then' .fO .fO λ_=>.ret
theorem dR.draw{r:List (List UInt8)}:dR (eI r) (aNW r):=.then' .index .one λ_=>.then' .num .num λ_=>.then' .fO .fO λ_=>.ret
theorem dR.cK{r:List (List UInt8)}:dR (lT r) (aNX r):=.then' .num .num λ_=>.then' .num .num λ_=>.then' .fO .fO λ_=>.then' aP.draw.many (.many .draw .draw) λ_=>.ret
theorem dR.stop{r:List (List UInt8)}:dR (gB r) (aNY r):=.then' .name .name λ_=>.then' .bB .bB λ_=>.then' .fO .fO λ_=>.then' aP.cK.many (.many .cK .cK) λ_=>.ret
theorem dR.div{r:List (List UInt8)}:dR (jM r) (aNZ r):=.then' .name .name λ_=>.then' .is .is λ_=>.then' .key .key λ_=>.then' .num .num λ_=>.then' .num .num λ_=>.then' .fO .fO λ_=>.then' aP.stop.many (.many .stop .stop) λ_=>.ret
theorem dR.cC{r:List (List UInt8)}:dR (iF r) (aN0 r):=.then' .name .name λ_=>.then' .key .key λ_=>.then' .index .one λ_=>.then' .key .key λ_=>.then' .index .one λ_=>.then' .key .key λ_=>.then' .num .num λ_=>.then' .is .is λ_=>.then' .fO .fO λ_=>.ret
theorem dR.fE:dR jX a0l:=.then' .key .key λ_=>.then' .name .name λ_=>.then' .fO .fO λ_=>.then' aP.bC.many (.many .bC .bC) λ_=>.then' aP.div.many (.many .div .div) λ_=>.then' aP.cC.many (.many .cC .cC) λ_=>.then' .done .done λ_=>.ret
def LF(v:Fl):Value:=.iface 204 (.agg #[.int .i64 v.1,.int .i64 v.2.1,.int .i64 v.2.2])
abbrev kU:=List PD->Option (PD×Pm PD)
def jZ{α:Type}(x:Pm α)(f:α->PD):Pm PD:=aR x λa=>eG (f a)
def pB(dec:kU)(args:List PD)(σ:List U)(p:PD)(σ':List U):Prop:=
 σ≠[]/\∃r F l n n',dec args=some (r,F)/\Rd σ r l n/\F l n=.ok (p,n')/\Rd σ' r l n'/\dW r σ σ'/\σ.length<=σ'.length
def oQ(dec:kU)(args:List PD)(σ:List U)(v:Value)(σ':List U):Prop:=
 σ≠[]/\∃r F l n e,dec args=some (r,F)/\Rd σ r l n/\F l n=.error e/\v=LF e/\dW r σ σ'/\σ.length<=σ'.length
theorem a1n{dec:kU}{args:Dq}{σ σ' τ:Dp}{p:PD}{v:Value}(h:pB dec args σ p σ')(k:oQ dec args σ v τ):False:=by
 obtain⟨_,r,F,l,n,n',h1,h2,h3,_⟩:=h;obtain⟨_,r1,F1,l1,n1,e,k1,k2,k3,_⟩:=k;rw[h1]at k1;simp only[yAb,yAc]at k1;obtain⟨rfl,rfl⟩:=k1;obtain⟨rfl,rfl⟩:=h2.uniq k2;rw[h3]at k3;cases k3
def PW(E:aE)(f:FuncId)(dec:kU):Prop:=∀args σ r F l n,dec args=some (r,F)->σ≠[]->Rd σ r l n->n<=l.length->l.length<=100000 ->
 mN prog E f args σ (λp σ'=>pB dec args σ p.strip σ') (oQ dec args σ)
def PC(E:aE)(f:FuncId)(dec:kU):Prop:=∃g q,E.ret f=some g/\E.bD f=some q/\∀args σ r F l n,dec args=some (r,F)->σ≠[]->Rd σ r l n->n<=l.length->l.length<=100000 ->
 (∃p n' σ',F l n=.ok (p,n')/\g 0 args σ=some (p,σ')/\Rd σ' r l n'/\dW r σ σ'/\σ.length<=σ'.length) \/
 (∃e σ',F l n=.error e/\g 0 args σ=none/\q 0 args σ=some (LF e,σ')/\dW r σ σ'/\σ.length<=σ'.length)
theorem PC.of{E E0:aE}{f:FuncId}{dec:kU}(h:PW E0 f dec)(h1:E.ret f=some (jJ prog E0 f (pB dec)))(h2:E.bD f=some (mY prog E0 f (oQ dec))):PC E f dec:=by
 refine⟨_,_,h1,h2,λargs σ r F l n hd hs hr hn hl=>?_⟩;rcases(h args σ r F l n hd hs hr hn hl).both (λ_ _ _ _ a b=>a1n a b)with⟨p,σ',h3,_,r1,F1,l1,n1,n',k1,k2,k3,k4,k5,k6⟩ | ⟨h3,v,σ',h4,_,r1,F1,l1,n1,e,k1,k2,k3,rfl,k5,k6⟩
 .rw[hd]at k1;simp only[yAb,yAc]at k1;obtain⟨rfl,rfl⟩:=k1;obtain⟨rfl,rfl⟩:=hr.uniq k2;exact .inl ⟨p,n',σ',k3,h3,k4,k5,k6⟩
 .rw[hd]at k1;simp only[yAb,yAc]at k1;obtain⟨rfl,rfl⟩:=k1;obtain⟨rfl,rfl⟩:=hr.uniq k2;exact .inr ⟨e,σ',k3,h3,h4,k5,k6⟩
noncomputable def aE.fB(E:aE)(f:FuncId)(dec:kU):aE:=(E.add f (jJ prog E f (pB dec))).UJ f (mY prog E f (oQ dec))
theorem aF.fB{E:aE}(hE:aF prog E)(hP:prog.follows .mixedOrders=true){f:FuncId}{dec:kU}:aF prog (E.fB f dec):=aF.UJ (hE.a1o hP) hE hP
theorem aG.fB{E:aE}(hU:aG E){f:FuncId}{dec:kU}:aG (E.fB f dec):=aG.jJ (E:=E) hU λ_ _ h=>h.1 rfl
section
def yJ:kU:=λargs=>match args with
 | [.agg [.ptr b 0],.int .i64 e]=>some (.ptr b 0,iY e)
 |_=>none
def FA:kU:=λargs=>match args with
 | [.agg [.ptr b 0],.int .i64 k]=>some (.ptr b 0,jZ (mJ k) Em.tk.aA)
 |_=>none
theorem H7{α:Type}{x:Pm α}{f:α->PD}{l:List Tk}{n n':Nat}{a:α}(h:x l n=.ok (a,n')):jZ x f l n=.ok (f a,n'):=by
 simp only[jZ,aR,h,eG]
theorem eX{α:Type}{x:Pm α}{f:α->PD}{l:List Tk}{n:Nat}{e:Fl}(h:x l n=.error e):jZ x f l n=.error e:=by
 simp only[jZ,aR,h]
theorem eS{α:Type}{x:Pm α}{f:α->PD}{l:List Tk}{n n':Nat}{p:PD}(h:jZ x f l n=.ok (p,n')):∃a,x l n=.ok (a,n')/\p=f a:=by
 unfold jZ aR at h;split at h
 .rename_i a n1 h1;simp only[eG,yBn,yAc]at h;obtain⟨rfl,rfl⟩:=h;exact⟨a,h1,rfl⟩
 .cases h
theorem eR{α:Type}{x:Pm α}{f:α->PD}{l:List Tk}{n:Nat}{e:Fl}(h:jZ x f l n=.error e):x l n=.error e:=by
 unfold jZ aR at h;split at h
 .cases h
 .rename_i e1 h1;cases h;exact h1
variable{E:aE}(hU:aG E)
include hU
set_option maxRecDepth 10000
theorem aXt(h0:E 95=none)(hA:E 134=some (eD VE)):PW E 95 yJ:=by
 intro args σ r F l n hd hs hr hn hl;unfold yJ at hd;split at hd
 rotate_left
 .cases hd
 rename_i b0 e;simp only[yAb,yAc]at hd;obtain⟨rfl,rfl⟩:=hd;have hat:=fun(τ:List U) fl=>a0r (hr.more (τ:=τ)) hn hl fl
 obtain⟨a,b,hP⟩:∃a b,K5 l n=(a,b):=⟨_,_,rfl⟩;rw[hP]at hat;have hpost:∀a' b' τ,mM l n=(a',b')->oQ yJ [.agg [.ptr b0 0],.int .i64 e] σ (LF (a',b',e)) (σ++τ):=λa' b' τ h=>⟨hs,.ptr b0 0,_,l,n,_,rfl,hr,by simp only[iY,h],rfl,dW.more,yo⟩
 obtain⟨q,hq⟩:=gn (σ.length);apply mN.mR h0 func95 rfl
 focus(simp[show Tryz.f95.ntmps=_ from rfl,List.replicate];rfl)
 refine aD (A3 hq hA hat) ?_
 by_cases c1:a=0/\b=0
 .obtain⟨rfl,rfl⟩:=c1;have hp:=hpost 1 1 [.box (.agg [.ptr b0 0]),.box (.agg [.int .i64 1,.int .i64 1])] (by simp[mM,hP]);exact iq
 .have c2:(decide (a=0)&&decide (b=0))=false:=by simpa using c1
  have hp:=hpost a b [.box (.agg [.ptr b0 0]),.box (.agg [.int .i64 a,.int .i64 b])] (by simp[mM,hP,c1]);simp only[c2];exact iq
omit hU in
def RC(E:aE)(f:FuncId)(dec:List U->List PD->PD->(Tk->Bool)->Prop)(out:Tk×Bool->PD):Prop:=∃g,E.ret f=some g/\∀args σ r q l n,dec σ args r q->σ≠[]->Rd σ r l n->n<=l.length->l.length<=100000 ->
 ∃σ',g 0 args σ=some (out (bS q l n).1,σ')/\Rd σ' r l (bS q l n).2/\dW r σ σ'/\σ.length<=σ'.length
omit hU in
theorem RC.of{E0:aE}{f:FuncId}{dec:List U->List PD->PD->(Tk->Bool)->Prop}{out:Tk×Bool->PD}(h1:E.ret f=some (jU prog E0 f (RQ dec out)))
  (h:∀args σ r q l n,dec σ args r q->σ≠[]->Rd σ r l n->n<=l.length->l.length<=100000->cF prog E0 0 (.inl f) args σ (RQ dec out args σ)):RC E f dec out:=by
 refine⟨_,h1,λargs σ r q l n hd hs hr hn hl=>?_⟩;obtain⟨p,σ',h2,h3⟩:=aCm (h args σ r q l n hd hs hr hn hl);obtain⟨rfl,e1,e2,e3⟩:=h3.2 r q l n hd hr;exact⟨σ',h2,e1,e2,e3⟩
omit hU in
structure fG (aQ:List U) (r:PD) (l:List Tk) (σ:List U) (n:Nat) (K:List (Nat×U)):Prop where
 rd:Rd σ r l n
 le:n<=l.length
 kp:dW r aQ σ
 len:aQ.length<=σ.length
 ks:∀p∈K,σ[p.1]?=some p.2/\aQ.length<=p.1
 nr:∀j,aQ.length<=j->r≠.ptr j 0
omit hU in
theorem fG.start{aQ:Dp}{r:PD}{l:List Tk}{n:Nat}(h:Rd aQ r l n)(hn:n<=l.length):fG aQ r l aQ n []:=⟨h,hn,dW.a0q,yAk _,yo,λj hj=>h.ne hj⟩
omit hU in
theorem fG.box{aQ σ:Dp}{r:PD}{l:List Tk}{n:Nat}{K:List (Nat×U)}(h:fG aQ r l σ n K)(o:U):fG aQ r l (σ++[o]) n ((σ.length,o)::K):=
 ⟨h.rd.more,h.le,h.kp.trans dW.more,by have:=h.len;simp only[yAa];omega,λp hp=>by
  rcases yAS.1 hp with rfl|hp
  .exact⟨yo,h.len⟩
  .obtain⟨h1,h2⟩:=h.ks p hp;exact⟨Co,h2⟩,h.nr⟩
omit hU in
theorem fG.call{aQ σ σ':Dp}{r:PD}{l:List Tk}{n n':Nat}{K:List (Nat×U)}(h:fG aQ r l σ n K)(h1:Rd σ' r l n')(h2:n'<=l.length)(h3:dW r σ σ')(h4:σ.length<=σ'.length):fG aQ r l σ' n' K:=
 ⟨h1,h2,h.kp.trans h3,yBe h.len h4,λp hp=>⟨h3 _ _ (h.nr _ (h.ks p hp).2) (h.ks p hp).1,(h.ks p hp).2⟩,h.nr⟩
omit hU in
theorem fG.set{aQ σ:Dp}{r:PD}{l:List Tk}{n i:Nat}{o0 o:U}{K:List (Nat×U)}(K1 K2:List (Nat×U))(h:fG aQ r l σ n K)(hK:K=K1++(i,o0)::K2)(hne:∀p∈K1++K2,p.1≠i):fG aQ r l (σ.set i o) n (K1++(i,o)::K2):=by
 subst hK;obtain⟨hi,hi2⟩:=h.ks (i,o0) yo;have hl:=(yA.1 hi).1;refine⟨h.rd.set (h.nr i hi2),h.le,dW.new h.kp hi2,by rw[yAD];exact h.len,λp hp=>?_,h.nr⟩;rcases yBv.1 hp with hp|hp
 .exact cu
 .rcases yAS.1 hp with rfl|hp
  .exact⟨yAj hl,hi2⟩
  .exact cu
omit hU in
theorem fG.ne{aQ σ:Dp}{r:PD}{l:List Tk}{n:Nat}{K:List (Nat×U)}(h:fG aQ r l σ n K)(h0:aQ≠[]):σ≠[]:=by
 have:=h.len;have:=yBE.2 h0;exact List.ne_nil_of_length_pos ym
omit hU in
theorem fG.lK{dec:kU}{args:Dq}{aQ σ:Dp}{r p:PD}{F:Pm PD}{l:List Tk}{n n':Nat}{K:List (Nat×U)}(h:fG aQ r l σ n' K)(h0:aQ≠[])(hd:dec args=some (r,F))(hr:Rd aQ r l n)(hF:F l n=.ok (p,n')):pB dec args aQ p σ:=
 ⟨h0,r,F,l,n,n',hd,hr,hF,h.rd,h.kp,h.len⟩
omit hU in
theorem fG.eW{dec:kU}{args:Dq}{aQ σ σ':Dp}{r:PD}{F:Pm PD}{l:List Tk}{n n1:Nat}{e:Fl}{K:List (Nat×U)}(h:fG aQ r l σ n1 K)(h0:aQ≠[])(hd:dec args=some (r,F))(hr:Rd aQ r l n)(hF:F l n=.error e)(h3:dW r σ σ')(h4:σ.length<=σ'.length):oQ dec args aQ (LF e) σ':=
 ⟨h0,r,F,l,n,e,hd,hr,hF,rfl,h.kp.trans h3,yBe h.len h4⟩
omit hU in
theorem NY{q:Tk->Bool}{l:List Tk}{n:Nat}(h:(bS q l n).1.2=false):bS q l n=((bL,false),n):=by
 unfold bS at h ⊢;split
 .rename_i t ht;rw[ht]at h;simp only at h;split
  .rename_i h2;rw[yAJ h2]at h;cases h
  .rfl
 .rfl
theorem aXw(h0:E 127=none)(hT:RC E 132 RY pA)(hF:PC E 95 yJ):PW E 127 FA:=by
 intro args σ r F l n hd hs hr hn hl;unfold FA at hd;split at hd
 rotate_left
 .cases hd
 rename_i b0 k;simp only[yAb,yAc]at hd;obtain⟨rfl,rfl⟩:=hd;obtain⟨gT,hgT,hT⟩:=hT;obtain⟨gF,qF,hgF,hqF,hF⟩:=hF;have hS:=((fG.start hr hn).box (.box (.agg [.ptr b0 0]))).box FL;simp only[yAi,yAR,yAQ,yAa,yAK,yAL,yAp]at hS;obtain⟨σ3,t1,t2,t3,t4⟩:=hT [.ptr b0 0,.int .i64 k] _ (.ptr b0 0) _ l n ⟨k,rfl,rfl⟩ (hS.ne hs) hS.rd hn hl;have tl:=pY (λt=>decide (t.kind=k)) hn;have LB:=hS.call t2 tl t3 t4;obtain⟨X,hX⟩:∃X,bS (λt=>decide (t.kind=k)) l n=X:=⟨_,rfl⟩;rw[hX]at t1 LB;obtain⟨⟨t,ok⟩,n'⟩:=X;simp only at t1 LB;obtain⟨l0,a0,a1,a2,a3,a4⟩:=aB (LB.ks (σ.length,.box (.agg [.ptr b0 0])) yo).1;obtain⟨l1,b0',b1,b2,b3,b4⟩:=aB (LB.ks (σ.length+1,FL) yo).1;simp only[FL]at b0' b1;obtain⟨n1,n2,n3⟩:=bO σ3;cases ok with
 |true=>
  have hP:mJ k l n=.ok (t,n'):=by simp[mJ,hX]
  have kV:=(LB.box (.box (Em.tk.aA t))).set (i:=σ.length+1) (o0:=FL) (o:=.box (Em.tk.aA t)) [(σ3.length,.box (Em.tk.aA t))] [(σ.length,.box (.agg [.ptr b0 0]))] rfl zc;apply mN.mR h0 func127 rfl
  focus(simp[show Tryz.f127.ntmps=_ from rfl,List.replicate];rfl)
  rw[b3]at kV;refine aD xz ?_
  right
  simp[l0,a0,a1,a2,a3,a4,l1,b0',b1,b2,b3,b4,n1,n2,n3];exact⟨_,_,⟨rfl,rfl⟩,kV.lK hs rfl hr (H7 hP)⟩
 |false=>
  obtain⟨rfl,rfl⟩:t=bL/\n'=n:=by
   have:=NY (q:=λt=>decide (t.kind=k)) (l:=l) (n:=n) (by rw[hX]);rw[hX]at this;simp only[yAc,yAV]at this;exact this
  have hP:mJ k l n'=.error ((mM l n').1,(mM l n').2,15):=by simp[mJ,hX,iY]
  have kV:=LB.box FL;rcases hF [.agg [.ptr b0 0],.int .i64 15] _ (.ptr b0 0) _ l n' rfl (kV.ne hs) kV.rd kV.le hl with⟨p,n2,dL,f1,_⟩ | ⟨e,dL,f1,f2,f3,f4,f5⟩
  .cases f1
  simp only[iY,yBP]at f1;subst f1;have hpost:=kV.eW (dec:=FA) (args:=[.agg [.ptr b0 0],.int .i64 k]) hs rfl hr (eX hP) f4 f5;simp only[FL]at f2 f3;simp only[bL]at t1;apply mN.mR h0 func127 rfl
  focus(simp[show Tryz.f127.ntmps=_ from rfl,List.replicate];rfl)
  refine aD xz ?_
  first|refine WL.bD 1 yu yu ?_|refine WL.eE 1 yu yu ?_
  repeat(first
   |(refine Fr.i ?_;simp only[aM,yAT,yAU];try rfl)
   |(refine By.i ?_;(focus(simp(disch:=first|omega|(simp;done)|(simp;omega)) [wrap_i64,wrap_u64,l0,a0,a1,a2,a3,a4];first|done|rfl|exact⟨rfl,rfl⟩)))
   |(refine By.i ?_;simp(disch:=first|omega|(simp;done)|(simp;omega)) [wrap_i64,wrap_u64,l0,a0,a1,a2,a3,a4];refine⟨yw,rfl⟩)
   |(refine Wt.i ?_;first|rfl|(focus(simp[l0,a0,a1,a2,a3,a4];done)))
   |(refine Ns.i ?_;(try simp only[yAl,yAQ,yAR,yAi,yAa,yAK,yAL,yAp,Nat.reduceAdd]);rfl)|rfl
   |(apply SL.pass;(focus(refine Wt.i ?_;rfl)))|apply SL.ZQ underlying204|apply SL.ZR underlying204|(apply SL.ZS underlying20;(focus rfl))|(apply SL.ZT underlying20;(focus rfl))
   |(apply tu;(focus rfl))|apply SL.move|apply SL.assign|apply SL.load|apply SL.gC|apply tu|apply SL.make|apply SL.binOp|apply SL.append|apply tu|apply SL.builtin|apply SL.fieldAddr
   |apply SL.indexAddr|apply SL.field|apply SL.extract|apply SL.gD|apply SL.pick|apply SL.store|apply SL.unOp|apply SL.convert|apply SL.index|apply SL.slice|apply SL.build|apply SL.nilCheck|apply SL.buildSlice
   |apply SL.box|apply SL.alloc|apply SL.makeFunc)
  apply SQ.nil;refine dH.call (.i yu) yu yu hgF hqF f2 f3 ?_;exact af
end
section
def vO:kU:=λargs=>match args with
 | [.agg [.ptr b 0],.str w]=>some (.ptr b 0,jZ (mL w) λ_=>.aI [])
 |_=>none
def vP:kU:=λargs=>match args with
 | [.agg [.ptr b 0]]=>some (.ptr b 0,jZ rE .str)
 |_=>none
def FB:kU:=λargs=>match args with
 | [.agg [.ptr b 0]]=>some (.ptr b 0,jZ rH (.int .i64))
 |_=>none
def vQ:kU:=λargs=>match args with
 | [.agg [.ptr b 0]]=>some (.ptr b 0,jZ rI λ_=>.aI [])
 |_=>none
def HK:kU:=λargs=>match args with
 | [.agg [.ptr b 0]]=>some (.ptr b 0,jZ yR Em.pU.aA)
 |_=>none
theorem aHO(s:List UInt8):∀l,-1<=placeOf s l
 | []=>by simp[placeOf]
 |x::xs=>by
  have:=aHO s xs;unfold placeOf;split
  .omega
  .split<;>omega
def aCK:Nat->List PD->List U->Option (PD×List U):=entry (cU texts .text i64 λl v=>bE (l.length<=1000000) (some (placeOf v l)))
theorem a1m{s:PD}{ns:List (List UInt8)}{v:Dr}(h:texts.dec s=some ns)(hl:ns.length<=1000000)(fl:Nat)(σ:List U):aCK fl [s,.str v] σ=some (.int .i64 (placeOf v ns),σ):=by
 have e2:Em.text.dec (.str v)=some v:=Em.cJ rfl;unfold aCK entry cU;simp only[h,e2];rw[dC hl];rfl
def rB:kU:=λargs=>match args with
 | [.agg [.ptr b 0],s]=>(match texts.dec s with|some ns=>bE (ns.length<=1000000) (some (.ptr b 0,jZ (nG ns) (.int .i64)))|none=>none)
 |_=>none
variable{E:aE}(hU:aG E)
include hU
set_option maxRecDepth 10000
theorem aXC(h0:E 88=none)(hC:PC E 127 FA):PW E 88 vP:=by
 intro args σ r F l n hd hs hr hn hl;unfold vP at hd;split at hd
 rotate_left
 .cases hd
 rename_i b0;simp only[yAb,yAc]at hd;obtain⟨rfl,rfl⟩:=hd;obtain⟨ghC,qhC,hghC,hqhC,hC⟩:=hC;have hS:=(fG.start hr hn).box (.box (.agg [.ptr b0 0]));apply mN.mR h0 func88 rfl
 focus(simp[show Tryz.f88.ntmps=_ from rfl,List.replicate];rfl)
 refine aD trivial ?_;obtain⟨kF,kG,kH,kI,kJ,kK⟩:=aB (hS.ks (σ.length,.box (.agg [.ptr b0 0])) yo).1;rcases hC [.agg [.ptr b0 0],.int .i64 1] _ (.ptr b0 0) _ l n rfl (hS.ne hs) hS.rd hS.le hl with⟨p1,n1,σ1,f1,e1,r1,k1,q1⟩ | ⟨e,σ1,f1,e1,w1,k1,q1⟩
 rotate_left
 .have hE:rE l n=.error e:=by simp[rE,aR,eR f1]
  have hpost:=hS.eW (dec:=vP) (args:=[.agg [.ptr b0 0]]) hs rfl hr (eX hE) k1 q1;exact uy
 obtain⟨t,g1,rfl⟩:=eS f1;have h1:=hS.call r1 ((aP.take) _ _ _ _ hS.le g1).2 k1 q1
 try simp only[yAa,yAD,yAK,yAL]at q1
 obtain⟨iZ,jA,jB,jC,jD,jE⟩:=aB (h1.ks (σ.length,.box (.agg [.ptr b0 0])) yo).1;obtain⟨u1,v1,w1⟩:=bO σ1
 first|refine Wp.seq ?_|skip
 apply Wp.dU;refine bM xk ?_;apply SQ.nil;refine aD xl ?_;have hP:rE l n=.ok (t.text,n1):=by simp[rE,aR,eG,g1]
 right
 exact iw
theorem aXF(h0:E 131=none)(hC:PC E 127 FA):PW E 131 FB:=by
 intro args σ r F l n hd hs hr hn hl;unfold FB at hd;split at hd
 rotate_left
 .cases hd
 rename_i b0;simp only[yAb,yAc]at hd;obtain⟨rfl,rfl⟩:=hd;obtain⟨ghC,qhC,hghC,hqhC,hC⟩:=hC;have hS:=(fG.start hr hn).box (.box (.agg [.ptr b0 0]));apply mN.mR h0 func131 rfl
 focus(simp[show Tryz.f131.ntmps=_ from rfl,List.replicate];rfl)
 refine aD trivial ?_;obtain⟨kF,kG,kH,kI,kJ,kK⟩:=aB (hS.ks (σ.length,.box (.agg [.ptr b0 0])) yo).1;rcases hC [.agg [.ptr b0 0],.int .i64 2] _ (.ptr b0 0) _ l n rfl (hS.ne hs) hS.rd hS.le hl with⟨p1,n1,σ1,f1,e1,r1,k1,q1⟩ | ⟨e,σ1,f1,e1,w1,k1,q1⟩
 rotate_left
 .have hE:rH l n=.error e:=by simp[rH,aR,eR f1]
  have hpost:=hS.eW (dec:=FB) (args:=[.agg [.ptr b0 0]]) hs rfl hr (eX hE) k1 q1;exact uy
 obtain⟨t,g1,rfl⟩:=eS f1;have h1:=hS.call r1 ((aP.take) _ _ _ _ hS.le g1).2 k1 q1
 try simp only[yAa,yAD,yAK,yAL]at q1
 obtain⟨iZ,jA,jB,jC,jD,jE⟩:=aB (h1.ks (σ.length,.box (.agg [.ptr b0 0])) yo).1;obtain⟨u1,v1,w1⟩:=bO σ1
 first|refine Wp.seq ?_|skip
 apply Wp.dU;refine bM xk ?_;apply SQ.nil;refine aD xl ?_;have hP:rH l n=.ok (t.num,n1):=by simp[rH,aR,eG,g1]
 right
 exact iw
theorem aXI(h0:E 89=none)(hC:PC E 127 FA):PW E 89 vQ:=by
 intro args σ r F l n hd hs hr hn hl;unfold vQ at hd;split at hd
 rotate_left
 .cases hd
 rename_i b0;simp only[yAb,yAc]at hd;obtain⟨rfl,rfl⟩:=hd;obtain⟨ghC,qhC,hghC,hqhC,hC⟩:=hC;have hS:=(fG.start hr hn).box (.box (.agg [.ptr b0 0]));apply mN.mR h0 func89 rfl
 focus(simp[show Tryz.f89.ntmps=_ from rfl,List.replicate];rfl)
 refine aD trivial ?_;obtain⟨kF,kG,kH,kI,kJ,kK⟩:=aB (hS.ks (σ.length,.box (.agg [.ptr b0 0])) yo).1;rcases hC [.agg [.ptr b0 0],.int .i64 6] _ (.ptr b0 0) _ l n rfl (hS.ne hs) hS.rd hS.le hl with⟨p1,n1,σ1,f1,e1,r1,k1,q1⟩ | ⟨e,σ1,f1,e1,w1,k1,q1⟩
 rotate_left
 .have hE:rI l n=.error e:=by simp[rI,aR,eR f1]
  have hpost:=hS.eW (dec:=vQ) (args:=[.agg [.ptr b0 0]]) hs rfl hr (eX hE) k1 q1;exact uy
 obtain⟨t,g1,rfl⟩:=eS f1;have h1:=hS.call r1 ((aP.take) _ _ _ _ hS.le g1).2 k1 q1
 try simp only[yAa,yAD,yAK,yAL]at q1
 obtain⟨iZ,jA,jB,jC,jD,jE⟩:=aB (h1.ks (σ.length,.box (.agg [.ptr b0 0])) yo).1;obtain⟨u1,v1,w1⟩:=bO σ1
 first|refine Wp.seq ?_|skip
 apply Wp.dU;refine bM xk ?_;apply SQ.nil;refine aD xl ?_;have hP:rI l n=.ok ((),n1):=by simp[rI,aR,eG,g1]
 right
 exact iw
theorem aXL(h0:E 130=none)(hK:PC E 87 vO)(hC:PC E 127 FA):PW E 130 HK:=by
 intro args σ r F l n hd hs hr hn hl;unfold HK at hd;split at hd
 rotate_left
 .cases hd
 rename_i b0;simp only[yAb,yAc]at hd;obtain⟨rfl,rfl⟩:=hd;obtain⟨ghK,qhK,hghK,hqhK,hK⟩:=hK;obtain⟨ghC,qhC,hghC,hqhC,hC⟩:=hC;have hS:=((fG.start hr hn).box (.box (.agg [.ptr b0 0]))).box (.box (.agg [.int .i64 0,.int .i64 0]));simp only[yAi,yAR,yAQ,yAa,yAK,yAL,yAp]at hS;apply mN.mR h0 func130 rfl
 focus(simp[show Tryz.f130.ntmps=_ from rfl,List.replicate];rfl)
 refine aD trivial ?_;obtain⟨kF,kG,kH,kI,kJ,kK⟩:=aB (hS.ks ((σ.length+1),.box (.agg [.int .i64 0,.int .i64 0])) yo).1;obtain⟨pZ,qA,qB,qC,qD,qE⟩:=aB (hS.ks (σ.length,.box (.agg [.ptr b0 0])) yo).1;rcases hK [.agg [.ptr b0 0],.str [102,101,101,116]] _ (.ptr b0 0) _ l n rfl (hS.ne hs) hS.rd hS.le hl with⟨p1,n1,σ1,f1,e1,r1,k1,q1⟩ | ⟨e,σ1,f1,e1,w1,k1,q1⟩
 rotate_left
 .have hE:yR l n=.error e:=by simp[yR,aR,eR f1]
  have hpost:=hS.eW (dec:=HK) (args:=[.agg [.ptr b0 0]]) hs rfl hr (eX hE) k1 q1
  first|refine WL.bD 1 yu yu ?_|refine WL.eE 1 yu yu ?_
  refine bM (A12 kF kG kH kI kJ kK pZ qA qB qC qD qE) ?_;apply SQ.nil;refine dH.call (.i yu) yu yu hghK hqhK e1 w1 ?_;exact af
 obtain⟨u,g1,rfl⟩:=eS f1;have h1:=hS.call r1 ((aP.key) _ _ _ _ hS.le g1).2 k1 q1
 try simp only[yAa,yAD,yAK,yAL]at q1
 obtain⟨iZ,jA,jB,jC,jD,jE⟩:=aB (h1.ks ((σ.length+1),.box (.agg [.int .i64 0,.int .i64 0])) yo).1;obtain⟨qG,qH,qI,qJ,qK,qL⟩:=aB (h1.ks (σ.length,.box (.agg [.ptr b0 0])) yo).1;obtain⟨u1,v1,w1⟩:=bO σ1
 first|refine Wp.seq ?_|skip
 apply Wp.dU;refine bM (A20 hghK e1 kF kG kH kI kJ kK pZ qA qB qC qD qE iZ jA jB jC jD (A10 jE qG qH qI qJ qK qL u1 @v1 w1)) ?_;apply SQ.nil;refine aD xe ?_;obtain⟨rK,rL,rM,rN,rO,rP⟩:=aB (h1.ks ((σ.length+1),.box (.agg [.int .i64 0,.int .i64 0])) yo).1;obtain⟨rQ,rR,rS,rT,rU,rV⟩:=aB (h1.ks (σ.length,.box (.agg [.ptr b0 0])) yo).1;rcases hC [.agg [.ptr b0 0],.int .i64 3] _ (.ptr b0 0) _ l n1 rfl (h1.ne hs) h1.rd h1.le hl with⟨p3,n3,σ3,f3,e3,r3,k3,q3⟩ | ⟨e,σ3,f3,e3,w3,k3,q3⟩
 rotate_left
 .have hE:yR l n=.error e:=by simp[yR,aR,g1,eR f3]
  have hpost:=h1.eW (dec:=HK) (args:=[.agg [.ptr b0 0]]) hs rfl hr (eX hE) k3 q3
  first|refine WL.bD 1 yu yu ?_|refine WL.eE 1 yu yu ?_
  refine bM (A12 rK rL rM rN rO rP rQ rR rS rT rU rV) ?_;apply SQ.nil;refine dH.call (.i yu) yu yu hghC hqhC e3 w3 ?_;exact af
 obtain⟨t,g3,rfl⟩:=eS f3;have h3:=h1.call r3 ((aP.take) _ _ _ _ h1.le g3).2 k3 q3
 try simp only[yAa,yAD,yAK,yAL]at q3
 obtain⟨tE,tF,tG,tH,tI,tJ⟩:=aB (h3.ks ((σ.length+1),.box (.agg [.int .i64 0,.int .i64 0])) yo).1;obtain⟨tK,tL,tM,tN,tO,tP⟩:=aB (h3.ks (σ.length,.box (.agg [.ptr b0 0])) yo).1;obtain⟨u3,v3,w3⟩:=bO σ3
 first|refine Wp.seq ?_|skip
 apply Wp.dU;refine bM (A20 hghC e3 rK rL rM rN rO rP rQ rR rS rT rU rV tE tF tG tH tI (A10 tJ tK tL tM tN tO tP u3 @v3 w3)) ?_;apply SQ.nil;have H3:=h3.set (i:=(σ.length+1)) (o0:=.box (.agg [.int .i64 0,.int .i64 0])) (o:=.box (Em.pU.aA t.bB)) [] [(σ.length,.box (.agg [.ptr b0 0]))] rfl yz;refine aD (A15 tE tF tG tH tI tJ tK tL tM tN tO tP u3 @v3 w3) ?_;have hP:yR l n=.ok (t.bB,n3):=by simp[yR,aR,eG,g1,g3]
 right
 simp[tE,tF,tG,tH,tI,tJ,tK,tL,tM,tN,tO,tP,u3,v3,w3];exact⟨_,_,⟨rfl,rfl⟩,H3.lK hs rfl hr (H7 hP)⟩
theorem aXz(h0:E 87=none)(hW:RC E 90 (HJ 1) gY)(hX:PC E 95 yJ):PW E 87 vO:=by
 intro args σ r F l n hd hs hr hn hl;unfold vO at hd;split at hd
 rotate_left
 .cases hd
 rename_i b0 w;simp only[yAb,yAc]at hd;obtain⟨rfl,rfl⟩:=hd;obtain⟨gW,hgW,hW⟩:=hW;obtain⟨gX,qX,hgX,hqX,hX⟩:=hX;have hS:=(fG.start hr hn).box (.box (.agg [.ptr b0 0]));obtain⟨σ3,t1,t2,t3,t4⟩:=hW [.ptr b0 0,.str w] _ (.ptr b0 0) _ l n ⟨w,rfl,rfl⟩ (hS.ne hs) hS.rd hn hl;have h3:=hS.call t2 (pY _ hn) t3 t4;obtain⟨LC,LD,H8,SV,P9,QA⟩:=aB (hS.ks (σ.length,.box (.agg [.ptr b0 0])) yo).1;obtain⟨x2l,x2a,x2b,x2c,x2d,x2e⟩:=aB (h3.ks (σ.length,.box (.agg [.ptr b0 0])) yo).1;obtain⟨Y,hY⟩:=gn (bS (isWord 1 w) l n);have hf:=NY (q:=isWord 1 w) (l:=l) (n:=n);rw[hY]at t1 h3 hf;obtain⟨⟨t,ok⟩,n'⟩:=Y;simp only[gY]at t1 h3;cases ok with
 |true=>
  have hP:mL w l n=.ok ((),n'):=by simp[mL,hY]
  apply mN.mR h0 func87 rfl
  focus(simp[show Tryz.f87.ntmps=_ from rfl,List.replicate];rfl)
  refine aD ya ?_
  right
  simp;exact⟨_,_,⟨rfl,rfl⟩,h3.lK hs rfl hr (H7 hP)⟩
 |false=>
  obtain⟨rfl,rfl⟩:t=bL/\n'=n:=by
   have:=hf rfl;simp only[yAc,yAV]at this;exact this
  have hP:mL w l n'=.error ((mM l n').1,(mM l n').2,15):=by simp[mL,hY,iY]
  rcases hX [.agg [.ptr b0 0],.int .i64 15] _ (.ptr b0 0) _ l n' rfl (h3.ne hs) h3.rd h3.le hl with⟨p,n2,dL,f1,_⟩ | ⟨e,dL,f1,f2,f3,f4,f5⟩
  .cases f1
  simp only[iY,yBP]at f1;subst f1;have hpost:=h3.eW (dec:=vO) (args:=[.agg [.ptr b0 0],.str w]) hs rfl hr (eX hP) f4 f5;apply mN.mR h0 func87 rfl
  focus(simp[show Tryz.f87.ntmps=_ from rfl,List.replicate];rfl)
  refine aD ya ?_
  first|refine WL.bD 1 yu yu ?_|refine WL.eE 1 yu yu ?_
  refine bM (A3 x2l x2a x2b) ?_;apply SQ.nil;refine dH.call (.i yu) yu yu hgX hqX f2 f3 ?_;exact af
theorem aXr(h0:E 156=none)(l:List (List UInt8))(v:List UInt8)(hl:l.length<=1000000):aJ prog E 156 [texts.aA l,.str v] (i64.aA (placeOf v l)):=by
 obtain⟨B,hB⟩:=gn (placeOf v l);rw[hB];refine aJ.aV 19 h0 func156 (h:=?_);refine aD trivial ?_;refine Wp.dK (λm fr σ=>∃(i:Nat),∃gg:Nat->PD,(i+m=l.length/\(if placeOf v (l.drop i)<0 then -1 else placeOf v (l.drop i)+(i:Int))=B)/\fr=[texts.aA l,.str v,gg 2,gg 3,gg 4,gg 5,texts.aA l,.int .i64 l.length,.int .i64 i,gg 9,gg 10,gg 11,gg 12,gg 13,gg 14,gg 15,gg 16,gg 17,gg 18]/\σ=[]) ?_ (l.length) (by refine⟨0,?_⟩;exact bV (⟨ym,by rw[yDJ,<-hB];split;(have:=aHO v l;omega);simp⟩))
 rintro m fr σ ⟨i,gg,hI,rfl,rfl⟩
 obtain⟨hm,hs⟩:=hI
 by_cases hi:i<l.length
 .have q1:(i:Int)<(l.length:Int):=by omega
  obtain⟨a,ha⟩:=gn (l[i]);have hc:l.drop i=a::l.drop (i+1):=zq;have hg:=aHO v (l.drop (i+1));rw[hc]at hs;unfold placeOf at hs
  by_cases hb:a=v
  .rw[yAJ hb]at hs;have fZ:B=(i:Int):=by rw[<-hs];simp
   clear hs;subst hb;refine aD xd ?_;exact au
  .rw[yAI hb]at hs;have mW:¬v=a:=λh=>hb h.symm
   have hs2:(if placeOf v (l.drop (i+1))<0 then -1 else placeOf v (l.drop (i+1))+((i+1:Nat):Int))=B:=by
    rw[<-hs]
    by_cases h1:placeOf v (l.drop (i+1))<0
    .rw[yAJ h1,yAJ h1,yAJ ym]
    .rw[yAI h1,yAI h1,yAI ym];omega
   have Y7:(v==a)=false:=by simpa using mW
   refine aD (A6 q1 hi ha hb mW Y7) ?_;refine aL.normal (m-1) ym (by refine⟨i+1,?_⟩;exact bV (⟨ym,hs2⟩))
 .have q1:¬(i:Int)<(l.length:Int):=by omega
  rw[yAs ym]at hs;have fZ:B=-1:=by rw[<-hs];simp[placeOf]
  exact vm
theorem aXO(h0:E 133=none)(hN:E 154=some (eD PJ))(hI:E 156=some aCK)(hK:RC E 157 VL gY)(hX:PC E 95 yJ):PW E 133 rB:=by
 intro args σ r F l n hd hs hr hn hl;unfold rB at hd;split at hd
 rotate_left
 .cases hd
 rename_i b0 s;split at hd
 rotate_left
 .cases hd
 rename_i ns hns;obtain⟨hnl,hd⟩:=cX hd;have hdd:rB [.agg [.ptr b0 0],s]=some (.ptr b0 0,jZ (nG ns) (.int .i64)):=by simp only[rB,hns];rw[dC hnl]
 simp only[yAb,yAc]at hd;obtain⟨rfl,rfl⟩:=hd;obtain⟨gK,hgK,hK⟩:=hK;obtain⟨gX,qX,hgX,hqX,hX⟩:=hX;have hS:=(fG.start hr hn).box (.box (.agg [.ptr b0 0]));have hnx:=fun(τ:List U)=>aN1 (hr.more (τ:=τ)) hn hl 0
 obtain⟨LC,LD,H8,SV,P9,QA⟩:=aB (hS.ks (σ.length,.box (.agg [.ptr b0 0])) yo).1;obtain⟨n1,n2,n3⟩:=bO (σ++[.box (.agg [.ptr b0 0])]);simp only[yAa,yAK,yAL,yAp,yAi,yAR,yAQ]at n1 n2 n3 H8 P9 QA
 by_cases c1:n<l.length
 rotate_left
 .have NZ:lV l n=(⟨0,[],0,(0,0),0,0⟩,false):=by simp[lV,c1,bL]
  rw[NZ]at hnx;have hP:nG ns l n=.error ((mM l n).1,(mM l n).2,15):=by simp[nG,NZ,iY]
  have kV:=hS.box FL;rcases hX [.agg [.ptr b0 0],.int .i64 15] _ (.ptr b0 0) _ l n rfl (kV.ne hs) kV.rd kV.le hl with⟨p,n2,dL,f1,_⟩ | ⟨e,dL,f1,f2,f3,f4,f5⟩
  .cases f1
  simp only[iY,yBP]at f1;subst f1;have hpost:=kV.eW (dec:=rB) (args:=[.agg [.ptr b0 0],s]) hs hdd hr (eX hP) f4 f5;simp only[FL,yAi,yAR,yAQ]at f2 f3;apply mN.mR h0 func133 rfl
  focus(simp[show Tryz.f133.ntmps=_ from rfl,List.replicate];rfl)
  refine aD (A11 hN hnx LC LD H8 SV P9 QA n1 n2 n3) ?_;exact uz
 obtain⟨t,ht⟩:=gn (l[n]);have NZ:lV l n=(t,true):=by simp[lV,c1,ht]
 rw[NZ]at hnx;have kV:=hS.box (.box (Em.tk.aA t));obtain⟨y1l,y1a,y1b,y1c,y1d,y1e⟩:=aB (kV.ks ((σ++[U.box (.agg [.ptr b0 0])]).length,.box (Em.tk.aA t)) yo).1;simp only[yAa,yAK,yAL,yAp,yAi,yAR,yAQ,KP]at y1l y1a y1b y1c y1d y1e
 by_cases c2:t.kind=1
 rotate_left
 .have hP:nG ns l n=.error ((mM l n).1,(mM l n).2,15):=by simp[nG,NZ,iY,c2]
  rcases hX [.agg [.ptr b0 0],.int .i64 15] _ (.ptr b0 0) _ l n rfl (kV.ne hs) kV.rd kV.le hl with⟨p,n2,dL,f1,_⟩ | ⟨e,dL,f1,f2,f3,f4,f5⟩
  .cases f1
  simp only[iY,yBP]at f1;subst f1;have hpost:=kV.eW (dec:=rB) (args:=[.agg [.ptr b0 0],s]) hs hdd hr (eX hP) f4 f5;simp only[KP,yAi,yAR,yAQ]at f2 f3;apply mN.mR h0 func133 rfl
  focus(simp[show Tryz.f133.ntmps=_ from rfl,List.replicate];rfl)
  refine aD (A18 hN hnx LC LD H8 SV P9 QA n1 n2 n3 y1l y1a y1b y1c y1d y1e c2) ?_;exact uz
 obtain⟨k0,tx,nu,fe,li,co⟩:=t;simp only at c2;subst c2;simp only at hnx y1a y1b;have c2:True:=trivial;obtain⟨B,hB⟩:=gn (placeOf tx ns);have hIx:=λσ=>a1m (v:=tx) hns hnl 0 σ
 rw[hB]at hIx
 by_cases c3:B<0
 .have hP:nG ns l n=.error ((mM l n).1,(mM l n).2,10):=by simp[nG,NZ,iY,hB,c3]
  rcases hX [.agg [.ptr b0 0],.int .i64 10] _ (.ptr b0 0) _ l n rfl (kV.ne hs) kV.rd kV.le hl with⟨p,n2,dL,f1,_⟩ | ⟨e,dL,f1,f2,f3,f4,f5⟩
  .cases f1
  simp only[iY,yBP]at f1;subst f1;have hpost:=kV.eW (dec:=rB) (args:=[.agg [.ptr b0 0],s]) hs hdd hr (eX hP) f4 f5;simp only[KP,yAi,yAR,yAQ]at f2 f3;apply mN.mR h0 func133 rfl
  focus(simp[show Tryz.f133.ntmps=_ from rfl,List.replicate];rfl)
  refine aD (A20 hN hI hnx hIx LC LD H8 SV P9 QA n1 n2 n3 y1l y1a y1b y1c y1d y1e c3) ?_;exact uz
 .have hP:nG ns l n=.ok (B,n+1):=by simp[nG,NZ,hB,c3]
  obtain⟨kS,t1,t2,t3,t4⟩:=hK [.ptr b0 0] _ (.ptr b0 0) _ l n ⟨rfl,rfl⟩ (kV.ne hs) kV.rd hn hl;have hT:bS (λ_=>true) l n=((⟨1,tx,nu,fe,li,co⟩,true),n+1):=by simp[bS,c1,ht]
  rw[hT]at t1 t2;have h5:=kV.call t2 ym t3 t4;simp only[gY,KP,yAi,yAR,yAQ]at t1;apply mN.mR h0 func133 rfl
  focus(simp[show Tryz.f133.ntmps=_ from rfl,List.replicate];rfl)
  refine aD (A20 hN hI hnx hIx hgK @t1 LC LD H8 SV P9 QA n1 n2 n3 y1l y1a y1b y1c (A3 y1d y1e c3)) ?_
  right
  simp;exact⟨_,_,⟨rfl,rfl⟩,h5.lK hs hdd hr (H7 hP)⟩
end
section
variable{E:aE}(hU:aG E)
include hU
set_option maxRecDepth 10000
theorem a4k(σ:List U)(ia ie:Nat):TT prog E 85 (.bG .nilIface) [.ptr ia 0,.ptr ie 0] σ σ:=by
 obtain⟨y,hy⟩:∃y,Tryz.f85.body=some y:=⟨_,rfl⟩;have key:∀y,Tryz.f85.body=some y->∀x z,y=.seq x z->Wp prog E none z 0 (PD.ptr ia 0::.ptr ie 0::.aI []::.aI []::.bG .nilIface::.aI []::.aI []::.bG .nilIface::List.replicate 18 (.aI [])) [] σ (λr=>(r.x=.normal\/r.x=.ret)/\r.ms=[]/\r.σ=σ):=by
  intro y hy x z e;obtain rfl:_=y:=yBw ((show Tryz.f85.body=some _ from rfl).symm.trans hy);cases e;simp only[List.replicate]
  repeat(first
   |(refine Fr.i ?_;simp only[aM,yAT,yAU];try rfl)|(refine By.i ?_;(focus(simp(disch:=first|omega|(simp;done)|(simp;omega)) [wrap_i64,wrap_u64];first|done|rfl|exact⟨rfl,rfl⟩)))
   |(refine By.i ?_;simp(disch:=first|omega|(simp;done)|(simp;omega)) [wrap_i64,wrap_u64];refine⟨yw,rfl⟩)
   |(refine Wt.i ?_;first|rfl|(focus(simp;done)))
   |(refine Ns.i ?_;(try simp only[yAl,yAQ,yAR,yAi,yAa,yAK,yAL,yAp,Nat.reduceAdd]);rfl)|rfl
   |(apply SL.pass;(focus(refine Wt.i ?_;rfl)))|(apply SL.RI;(focus decide +kernel))|(apply tu;(focus decide +kernel))|apply SL.ZQ underlying204|apply SL.ZR underlying204
   |(apply SL.ZS underlying20;(focus rfl))|(apply SL.ZT underlying20;(focus rfl))|(apply tu;(focus rfl))|apply SL.move|apply SL.assign|apply SL.load|apply SL.gC|apply tu|apply SL.make
   |apply SL.binOp|apply SL.append|apply tu|apply SL.builtin|apply SL.fieldAddr|apply SL.indexAddr|apply SL.field|apply SL.extract|apply SL.gD|apply SL.pick|apply SL.store|apply SL.unOp|apply SL.convert
   |apply SL.index|apply SL.slice|apply SL.build|apply SL.nilCheck|apply SL.buildSlice|apply SL.box|apply SL.alloc|apply SL.makeFunc|apply SQ.nil|(apply WL.kN;(focus decide +kernel))
   |(apply WL.eI yq;(focus decide +kernel);(focus decide +kernel))|(apply WL.jP;(focus decide +kernel);(focus decide +kernel))|(apply WL.lC;(focus decide +kernel))
   |(apply WL.lA yq;(focus decide +kernel);(focus decide +kernel))|(apply WL.lB;(focus decide +kernel);(focus decide +kernel))|(apply WL.kZ yq;(focus decide +kernel);(focus decide +kernel))
   |(apply WL.kY yq;(focus decide +kernel);(focus decide +kernel))|(apply WL.lZ yq;(focus decide +kernel);(focus decide +kernel))
   |(apply tu yq;(focus decide +kernel);(focus decide +kernel))|apply tu|(apply WL.ct;(focus rfl))|(apply WL.cf;(focus rfl))|refine aS.normal ?_|refine aS.ret ?_|refine aS.exit ?_
   |refine aO.normal ?_|refine aO.ret ?_|refine aO.here ?_|refine aO.there yx ?_|refine Wp.block ?_|refine Wp.skip ?_|refine Wp.ret ?_|refine Wp.exit ?_|refine aL.ret ?_|refine aL.exit ?_
   |refine tu ?_|refine tu ?_|refine tu ?_|refine Wp.seq (Wp.seq ?_)|refine Wp.seq (Wp.block ?_)|(refine Wp.seq ?_;apply WL.ct;(focus rfl))|(refine Wp.seq ?_;apply WL.cf;(focus rfl)))
  exact⟨.inl rfl,rfl,rfl⟩
 have hb:=hy;exact jh
theorem a4j(σ:List U)(ia ie:Nat)(l c e a b d:Int)(h1:σ[ia]?=some (.box (.agg [.int .i64 a,.int .i64 b])))(h2:σ[ie]?=some (.box (.int .i64 d)))(hne:ia≠ie) :
  TT prog E 85 (.iface 204 (.agg [.int .i64 l,.int .i64 c,.int .i64 e])) [.ptr ia 0,.ptr ie 0] σ
   (((σ.set ia (.box (.agg [.int .i64 l,.int .i64 c]))).set ie (.box (.int .i64 e)))++[.box (.agg [.int .i64 l,.int .i64 c,.int .i64 e])]):=by
 obtain⟨x,hx⟩:∃x,x=PD.iface 204 (.agg [.int .i64 l,.int .i64 c,.int .i64 e]):=⟨_,rfl⟩;obtain⟨l1,a0,a1,a2,a3,a4⟩:=aB h1;obtain⟨l2,b0,b1,b2,b3,b4⟩:=aB h2;obtain⟨n1,n2,n3⟩:=bO σ;have c1:∀y τ,(σ.set ia y++τ)[ie]?=some (.box (.int .i64 d)):=λy τ=>by rw[yAg (by rw[yAD];exact l2),yAd hne];exact h2
 have c2:∀y z τ,(σ.set ia y++τ).set ie z=(σ.set ia y).set ie z++τ:=λy z τ=>yCI _ _ (by rw[yAD];exact l2)
 have key:∀y,Tryz.f85.body=some y->∀x0 z,y=.seq x0 z->Wp prog E none z 0 (PD.ptr ia 0::.ptr ie 0::.aI []::.aI []::PD.iface 204 (.agg [.int .i64 l,.int .i64 c,.int .i64 e])::.aI []::.aI []::PD.iface 204 (.agg [.int .i64 l,.int .i64 c,.int .i64 e])::List.replicate 18 (.aI [])) [] σ (λr=>(r.x=.normal\/r.x=.ret)/\r.ms=[]/\r.σ=(((σ.set ia (.box (.agg [.int .i64 l,.int .i64 c]))).set ie (.box (.int .i64 e)))++[.box (.agg [.int .i64 l,.int .i64 c,.int .i64 e])])):=by
  intro y hy x z e;obtain rfl:_=y:=yBw ((show Tryz.f85.body=some _ from rfl).symm.trans hy);cases e;simp only[List.replicate]
  repeat(first
   |(refine Fr.i ?_;simp only[aM,yAT,yAU];try rfl)
   |(refine By.i ?_;(focus(simp(disch:=first|omega|(simp;done)|(simp;omega)) [wrap_i64,wrap_u64,n1,n2];first|done|rfl|exact⟨rfl,rfl⟩)))
   |(refine By.i ?_;simp(disch:=first|omega|(simp;done)|(simp;omega)) [wrap_i64,wrap_u64,n1,n2];refine⟨yw,rfl⟩)
   |(refine Wt.i ?_;first|rfl|(focus(simp[n1,n2];done)))
   |(refine Ns.i ?_;(try simp only[yAl,yAQ,yAR,yAi,yAa,yAK,yAL,yAp,Nat.reduceAdd]);rfl)|rfl
   |(apply SL.pass;(focus(refine Wt.i ?_;rfl)))|(apply SL.RI;(focus decide +kernel))|(apply tu;(focus decide +kernel))|apply SL.ZQ underlying204|apply SL.ZR underlying204
   |(apply SL.ZS underlying20;(focus rfl))|(apply SL.ZT underlying20;(focus rfl))|(apply tu;(focus rfl))|apply SL.move|apply SL.assign|apply SL.load|apply SL.gC|apply tu|apply SL.make
   |apply SL.binOp|apply SL.append|apply tu|apply SL.builtin|apply SL.fieldAddr|apply SL.indexAddr|apply SL.field|apply SL.extract|apply SL.gD|apply SL.pick|apply SL.store|apply SL.unOp|apply SL.convert
   |apply SL.index|apply SL.slice|apply SL.build|apply SL.nilCheck|apply SL.buildSlice|apply SL.box|apply SL.alloc|apply SL.makeFunc|apply SQ.nil|(apply WL.kN;(focus decide +kernel))
   |(apply WL.eI yq;(focus decide +kernel);(focus decide +kernel))|(apply WL.jP;(focus decide +kernel);(focus decide +kernel))|(apply WL.lC;(focus decide +kernel))
   |(apply WL.lA yq;(focus decide +kernel);(focus decide +kernel))|(apply WL.lB;(focus decide +kernel);(focus decide +kernel))|(apply WL.kZ yq;(focus decide +kernel);(focus decide +kernel))
   |(apply WL.kY yq;(focus decide +kernel);(focus decide +kernel))|(apply WL.lZ yq;(focus decide +kernel);(focus decide +kernel))
   |(apply tu yq;(focus decide +kernel);(focus decide +kernel))|apply tu|(apply WL.ct;(focus rfl))|(apply WL.cf;(focus rfl))|refine aS.normal ?_|refine aS.ret ?_|refine aS.exit ?_
   |refine aO.normal ?_|refine aO.ret ?_|refine aO.here ?_|refine aO.there yx ?_|refine Wp.block ?_|refine Wp.skip ?_|refine Wp.ret ?_|refine Wp.exit ?_|refine aL.ret ?_|refine aL.exit ?_
   |refine tu ?_|refine tu ?_|refine tu ?_|refine Wp.seq (Wp.seq ?_)|refine Wp.seq (Wp.block ?_)|(refine Wp.seq ?_;apply WL.ct;(focus rfl))|(refine Wp.seq ?_;apply WL.cf;(focus rfl)))
  refine Wp.aUn hU [(0,ia),(1,ie),(5,σ.length)] [(some σ.length,some ia)] zb ⟨⟨0,rfl⟩,⟨0,rfl⟩,⟨0,rfl⟩,trivial⟩ yp ⟨ym,trivial⟩ ?_
  repeat(first
   |(refine Fr.i ?_;simp only[aM,yAT,yAU];try rfl)
   |(refine By.i ?_;(focus(simp(disch:=first|omega|(simp;done)|(simp;omega)) [wrap_i64,wrap_u64,n1,n2,n3,a0,a1,a2,a3,a4,b0,b1,b2,b3,b4,c1,c2];first|done|rfl|exact⟨rfl,rfl⟩)))
   |(refine By.i ?_;simp(disch:=first|omega|(simp;done)|(simp;omega)) [wrap_i64,wrap_u64,n1,n2,n3,a0,a1,a2,a3,a4,b0,b1,b2,b3,b4,c1,c2];refine⟨yw,rfl⟩)
   |(refine Wt.i ?_;first|rfl|(focus(simp[n1,n2,n3,a0,a1,a2,a3,a4,b0,b1,b2,b3,b4,c1,c2];done)))
   |(refine Ns.i ?_;(try simp only[yAl,yAQ,yAR,yAi,yAa,yAK,yAL,yAp,Nat.reduceAdd]);rfl)|rfl
   |(apply SL.pass;(focus(refine Wt.i ?_;rfl)))|(apply SL.RI;(focus decide +kernel))|(apply tu;(focus decide +kernel))|apply SL.ZQ underlying204|apply SL.ZR underlying204
   |(apply SL.ZS underlying20;(focus rfl))|(apply SL.ZT underlying20;(focus rfl))|(apply tu;(focus rfl))|apply SL.move|apply SL.assign|apply SL.load|apply SL.gC|apply tu|apply SL.make
   |apply SL.binOp|apply SL.append|apply tu|apply SL.builtin|apply SL.fieldAddr|apply SL.indexAddr|apply SL.field|apply SL.extract|apply SL.gD|apply SL.pick|apply SL.store|apply SL.unOp|apply SL.convert
   |apply SL.index|apply SL.slice|apply SL.build|apply SL.nilCheck|apply SL.buildSlice|apply SL.box|apply SL.alloc|apply SL.makeFunc)
  apply SQ.nil;exact⟨.inl rfl,rfl,rfl⟩
 exact jh
end
end Go.Kz
end
