/- Steps of the proof. -/
import Derived.Test.YtnogdlnjafblaaaGreatDoorH6
import Derived.Test.YtnogdlnjafblaaaGreatDoorH3
set_option linter.all false
set_option maxHeartbeats 40000000
set_option maxRecDepth 100000
open Go.Proofs.Tryz
noncomputable section
namespace Go.Kz
open Go Go.Proofs
section
theorem a0p{P:Program}{σ:Dp}{t e:TypeId}{k b s:Nat}{xs ys:Dq}{tk tok:Tok}(hu:P.underlying t=some (.slice e))(hi:qR P e=some (k,b))(hs:ys=[]\/s=k)(hr:iB σ tok e k xs.length)
  (hm:xs.length+ys.length<=100000000000000) (hb:(xs.length+ys.length)*b<=140737488355328) :
  ∃bP σ',dX P 0 σ t (.slice k xs tok) (.slice s ys tk)=some (.slice k (xs++ys) bP,σ')/\iB σ' bP e k (xs.length+ys.length):=by
 unfold qR at hi;split at hi
 .rename_i i h1;split at hi
  .rename_i z h2;split at hi
   .rename_i h3;simp only[yAb,yAc]at hi;obtain⟨rfl,rfl⟩:=hi;have hmm:xs.length+ys.length<=maxLen:=zy;have hs':ys.length=0\/s=i.size:=hs.imp (λh=>zn) (λh=>h)
    by_cases hy:ys=[]
    .subst hy;refine⟨tok,σ,?_,by simpa using hr⟩;simp only[dX,hu,h1,h2];rw[yAJ ⟨.inr trivial,hs',h3.2,h3.1,hmm,hb⟩,yAJ (show([]:List PD).length=0 from rfl),yAl]
    .have hy0:¬ys.length=0:=λh=>hy (yAf h)
     rcases hr with⟨hn,rfl⟩ | ⟨hpos,id,rfl,hid⟩
     .refine⟨.own σ.length,σ++[.own e i.size (xs.length+ys.length)],?_,.inr ⟨ym,_,rfl,yAB⟩⟩;simp only[dX,hu,h1,h2];rw[yAJ ⟨.inr trivial,hs',h3.2,h3.1,hmm,hb⟩,yAI hy0]
     .have hlt:=(yA.1 hid).1;refine⟨.own id,σ.set id (.own e i.size (xs.length+ys.length)),?_,.inr ⟨ym,id,rfl,by rw[yAj hlt]⟩⟩;simp only[dX,hu,h1,h2];rw[yAJ ⟨.inr trivial,hs',h3.2,h3.1,hmm,hb⟩,yAI hy0,yAJ ⟨yAF _,trivial⟩,hid];simp
   .cases hi
  .cases hi
 .cases hi
def Rd(σ:List U)(r:PD)(l:List Tk)(n:Nat):Prop:=(r=.cQ/\l=[]/\n=0)\/∃id,r=.ptr id 0/\σ[id]?=some (.box (.agg [dA.aA l,.int .i64 n]))
theorem Rd.uniq{σ:Dp}{r:PD}{l l':List Tk}{n n':Nat}(h:Rd σ r l n)(h':Rd σ r l' n'):l=l'/\n=n':=by
 rcases h with⟨rfl,rfl,rfl⟩ | ⟨id,rfl,h⟩
 .rcases h' with⟨_,rfl,rfl⟩ | ⟨id',e,_⟩
  .exact⟨rfl,rfl⟩
  .cases e
 .rcases h' with⟨e,_⟩ | ⟨id',e,h'⟩
  .cases e
  .cases e;rw[h]at h';simp only[yAb,U.box.injEq,PD.agg.injEq,yBx,PD.int.injEq,yBM,yAV]at h';exact⟨dA.inj h'.1,ym⟩
def dW(r:PD)(σ σ':List U):Prop:=∀(j:Nat) (q:U),r≠.ptr j 0->σ[j]?=some q->σ'[j]?=some q
theorem dW.a0q{r:PD}{σ:Dp}:dW r σ σ:=λ_ _ _ h=>h
theorem dW.trans{r:PD}{a b c:Dp}(h:dW r a b)(k:dW r b c):dW r a c:=λj q hj h1=>k j q hj (h j q hj h1)
theorem dW.more{r:PD}{σ τ:Dp}:dW r σ (σ++τ):=λj q _ h=>zp
theorem dW.set{id:Nat}{σ:Dp}{x:U}:dW (.ptr id 0) σ (σ.set id x):=λj q hj h=>by rw[yAd (λe=>hj (by rw[e]))];exact h
def lV(l:List Tk)(n:Nat):Tk×Bool:=match l[n]? with|some t=>(t,true)|none=>(bL,false)
def K5(l:List Tk)(n:Nat):Int×Int:=match l[min n (l.length-1)]? with|some t=>(t.line,t.cA)|none=>(0,0)
def PJ:List PD->Option PD
 | [.cI [s,.int .i64 n] 0]=>(match dA.dec s with|some l=>bE (s=dA.aA l/\0<=n/\n<=l.length/\l.length<=100000) (some ((Em.tk.iH .bool).aA (lV l n.toNat)))|none=>none)
 | [.cQ]=>some ((Em.tk.iH .bool).aA (bL,false))
 |_=>none
def VE:List PD->Option PD
 | [.cI [s,.int .i64 n] 0]=>(match dA.dec s with|some l=>bE (s=dA.aA l/\0<=n/\n<=l.length/\l.length<=100000) (some (Em.pos.aA (K5 l n.toNat)))|none=>none)
 | [.cQ]=>some (Em.pos.aA (0,0))
 |_=>none
def RS:List PD->Option PD
 | [.cI [s,.int .i64 n] 0]=>(match dA.dec s with|some l=>bE (s=dA.aA l/\0<=n/\n<=l.length/\l.length<=100000) (some (.int .i64 ((l.length:Int)-n)))|none=>none)
 | [.cQ]=>some (.int .i64 0)
 |_=>none
theorem aHv{σ:Dp}{id:Nat}{l:List Tk}{n:Nat}(h:σ[id]?=some (.box (.agg [dA.aA l,.int .i64 n]))):nY σ [.ptr id 0]=some [.cI [dA.aA l,.int .i64 n] 0]:=by
 simp only[nY,HC,h,PD.cells,yAX,yBA,dA.str];rfl
theorem aN1{σ:Dp}{r:PD}{l:List Tk}{n:Nat}(h:Rd σ r l n)(hn:n<=l.length)(hl:l.length<=100000)(fl:Nat):eD PJ fl [r] σ=some ((Em.tk.iH .bool).aA (lV l n),σ):=by
 rcases h with⟨rfl,rfl,rfl⟩ | ⟨id,rfl,h⟩
 .rfl
 .simp only[eD,aHv h,PJ,Em.OU];rw[dC ⟨trivial,ym,ym,hl⟩,yBk]
theorem a0r{σ:Dp}{r:PD}{l:List Tk}{n:Nat}(h:Rd σ r l n)(hn:n<=l.length)(hl:l.length<=100000)(fl:Nat):eD VE fl [r] σ=some (Em.pos.aA (K5 l n),σ):=by
 rcases h with⟨rfl,rfl,rfl⟩ | ⟨id,rfl,h⟩
 .rfl
 .simp only[eD,aHv h,VE,Em.OU];rw[dC ⟨trivial,ym,ym,hl⟩,yBk]
theorem left_at{σ:Dp}{r:PD}{l:List Tk}{n:Nat}(h:Rd σ r l n)(hn:n<=l.length)(hl:l.length<=100000)(fl:Nat):eD RS fl [r] σ=some (.int .i64 ((l.length:Int)-n),σ):=by
 rcases h with⟨rfl,rfl,rfl⟩ | ⟨id,rfl,h⟩
 .rfl
 .simp only[eD,aHv h,RS,Em.OU];rw[dC ⟨trivial,ym,ym,hl⟩]
@[simp] theorem a8N{cs:Dq}{off:Nat}:eO prog .eql 167 (.cI cs off) .cQ=some (.bool false):=by
  unfold eO sW mA;simp only[underlying167]
@[simp] theorem a8O:eO prog .eql 167 .cQ .cQ=some (.bool true):=by
  unfold eO sW mA;simp only[underlying167]
def isWord(k:Int)(w:List UInt8)(t:Tk):Bool:=decide (t.kind=k)&&decide (t.text=w)
def RT:List PD->Option PD
 | [x,.cI [.int .i64 k] 0]=>(match Em.tk.dec x with|some t=>bE (x=Em.tk.aA t) (some (.bool (decide (t.kind=k))))|none=>none)
 |_=>none
def RV(a:Int):List PD->Option PD
 | [x,.cI [.str w] 0]=>(match Em.tk.dec x with|some t=>bE (x=Em.tk.aA t) (some (.bool (isWord a w t)))|none=>none)
 |_=>none
def RU:List PD->Option PD
 | [x]=>(match Em.tk.dec x with|some t=>bE (x=Em.tk.aA t) (some (.bool true))|none=>none)
 |_=>none
variable{E:aE}(hU:aG E)
include hU
set_option maxRecDepth 10000
theorem aVx(h0:E 126=none)(l:List Tk)(hne:l≠[])(hl:l.length<=100000):aJ prog E 126 [dA.aA l] (dA.aA l):=by
 have hb:GY (.slice (sz 7 l) (l.map Em.tk.aA) .any)=some false:=by
  simp[GY,sz,hne]
 have hle:(l.length:Int)<=100000:=ym;obtain⟨tk1,σ1,ap1,ra1⟩:=a0p (P:=prog) (t:=29) (e:=36) (k:=7) (b:=64) (s:=sz 7 l) (xs:=[]) (ys:=l.map Em.tk.aA) (tk:=.any) (tok:=.full)
  (σ:=[]) underlying29 yp
  (by cases l<;>simp[sz]) (.inl ⟨rfl,rfl⟩) (by simp only[yAL,yAe];omega) (by simp only[yAL,yAe];omega)
 simp only[yAQ,yAL,yAp]at ap1 ra1;refine aJ.aV 8 h0 func126 (h:=?_);have hs:(PD.slice 7 (l.map Em.tk.aA) tk1).strip=dA.aA l:=Em.sT aSB;refine aD (A2 hb ap1) ?_;simp(disch:=first|omega|(simp;done)|(simp;omega)) [yAu,hs]<;>try rfl
theorem aVv(h0:E 126=none):aJ prog E 126 [.slice 0 [] .vJ] (dA.aA []):=by
 have hb:GY (.slice 0 [] .vJ)=some true:=rfl;refine aJ.aV 8 h0 func126 (h:=?_);refine aD hb ?_;exact aa
theorem aVw(h0:E 126=none):aJ prog E 126 [.slice 0 [] .vK] (dA.aA []):=by
 have hb:GY (.slice 0 [] .vK)=some false:=rfl;refine aJ.aV 8 h0 func126 (h:=?_);refine aD hb ?_;exact aa
theorem aVz(h0:E 154=none)(l:List Tk)(n:Nat)(hn:n<=l.length)(hl:l.length<=100000):aJ prog E 154 [.cI [dA.aA l,.int .i64 n] 0] ((Em.tk.iH .bool).aA (lV l n)):=by
 refine aJ.aV 29 h0 func154 (h:=?_)
 by_cases q1:n<l.length
 .have q2:(n:Int)<(l.length:Int):=by omega
  obtain⟨t,ht⟩:=gn (l[n]);have hN:lV l n=(t,true):=by simp[lV,q1,ht]
  have q3:¬l.length<=n:=ym;refine aD (A4 q1 q2 q3 ht) ?_;simp(disch:=first|omega|(simp;done)|(simp;omega)) [yAu,hN]<;>try rfl
 .have q2:¬(n:Int)<(l.length:Int):=by omega
  have hN:lV l n=(bL,false):=by simp[lV,q1]
  have q3:l.length<=n:=ym;refine aD (A3 q1 q2 q3) ?_;simp(disch:=first|omega|(simp;done)|(simp;omega)) [yAu,hN,bL]<;>try rfl
theorem aVA(h0:E 154=none):aJ prog E 154 [.cQ] ((Em.tk.iH .bool).aA (bL,false)):=by
 refine aJ.aV 29 h0 func154 (h:=?_);refine aD trivial ?_;simp(disch:=first|omega|(simp;done)|(simp;omega)) [yAu,bL]<;>try rfl
theorem aVC(h0:E 134=none)(l:List Tk)(n:Nat)(hn:n<=l.length)(hl:l.length<=100000):aJ prog E 134 [.cI [dA.aA l,.int .i64 n] 0] (Em.pos.aA (K5 l n)):=by
 refine aJ.aV 37 h0 func134 (h:=?_)
 by_cases q1:l=[]
 .subst q1;have hP:K5 [] n=(0,0):=rfl;refine aD trivial ?_;exact dm
 .have q2:0<l.length:=yBE.2 q1;have q3:¬(l.length:Int)=0:=ym;obtain⟨k,hk⟩:=gn (min n (l.length-1));have hkl:k<l.length:=ym;obtain⟨t,ht⟩:=gn (l[k]);have hP:K5 l n=(t.line,t.cA):=by simp[K5,hk,hkl,ht]
  by_cases q4:(l.length:Int)-1<(n:Int)
  .have hkk:(l.length:Int)-1=(k:Int):=by omega
   have q5:(k:Int)<(n:Int):=ym;refine aD (A7 q1 q3 q4 hkk q5 hkl ht) ?_;exact dm
  .have hkk:n=k:=by omega
   have q5:¬(l.length:Int)-1<(k:Int):=ym;subst hkk;refine aD (A5 q1 q3 q4 hkl ht) ?_;exact dm
theorem aVD(h0:E 134=none):aJ prog E 134 [.cQ] (Em.pos.aA (0,0)):=by
 refine aJ.aV 37 h0 func134 (h:=?_);exact vl
theorem aVF(h0:E 94=none)(l:List Tk)(n:Nat)(hn:n<=l.length)(hl:l.length<=100000):aJ prog E 94 [.cI [dA.aA l,.int .i64 n] 0] (.int .i64 ((l.length:Int)-n)):=by
 refine aJ.aV 15 h0 func94 (h:=?_);exact vl
theorem aVG(h0:E 94=none):aJ prog E 94 [.cQ] (.int .i64 0):=by
 refine aJ.aV 15 h0 func94 (h:=?_);exact vl
theorem aVI(h0:E 155=none)(t:Tk)(k:Int):aJ prog E 155 [Em.tk.aA t,.cI [.int .i64 k] 0] (Em.bool.aA (decide (t.kind=k))):=by
 refine aJ.aV 8 h0 func155 (h:=?_);exact vl
theorem aVK(h0:E 175=none)(t:Tk):aJ prog E 175 [Em.tk.aA t] (Em.bool.aA true):=by
 refine aJ.aV 3 h0 func175 (h:=?_);exact vl
theorem aVM(h0:E 129=none)(t:Tk)(w:List UInt8):aJ prog E 129 [Em.tk.aA t,.cI [.str w] 0] (Em.bool.aA (isWord 1 w t)):=by
 refine aJ.aV 13 h0 func129 (h:=?_)
 by_cases h:t.kind=1
 .refine aD @h ?_;simp(disch:=first|omega|(simp;done)|(simp;omega)) [yAu,isWord,h]<;>try rfl
  by_cases h2:t.text=w<;>simp[h2]
 .refine aD @h ?_;simp(disch:=first|omega|(simp;done)|(simp;omega)) [yAu,isWord,h]<;>try rfl
end
section
def P2(σ:List U)(g:PD)(q:Tk->Bool):Prop:=
 (∃b k,g=.func 155 [.ptr b 0]/\σ[b]?=some (.box (.int .i64 k))/\q=λt=>decide (t.kind=k)) \/
 (g=.func 175 []/\q=λ_=>true) \/
 (∃b w,g=.func 129 [.ptr b 0]/\σ[b]?=some (.box (.str w))/\q=isWord 1 w)
theorem P2.uniq{σ:Dp}{g:PD}{q q':Tk->Bool}(h:P2 σ g q)(h':P2 σ g q'):q=q':=by
 rcases h with⟨b,k,rfl,h1,rfl⟩ | ⟨rfl,rfl⟩ | ⟨b,k,rfl,h1,rfl⟩ <;>
 rcases h' with⟨b',k',e,h2,rfl⟩ | ⟨e,rfl⟩ | ⟨b',k',e,h2,rfl⟩ <;>
 first
  |rfl
  |(cases e;done)
  |(cases e;rw[h1]at h2;cases h2;rfl)
theorem Rd.more{σ τ:Dp}{r:PD}{l:List Tk}{n:Nat}(h:Rd σ r l n):Rd (σ++τ) r l n:=by
 rcases h with h | ⟨id,rfl,h⟩
 .exact .inl h
 .exact .inr ⟨id,rfl,zp⟩
def bS(q:Tk->Bool)(l:List Tk)(n:Nat):(Tk×Bool)×Nat:=match l[n]? with
 |some t=>if q t=true then((t,true),n+1)else((bL,false),n)
 |none=>((bL,false),n)
theorem pY(q:Tk->Bool){l:List Tk}{n:Nat}(h:n<=l.length):(bS q l n).2<=l.length:=by
 unfold bS;split
 .rename_i t ht;have:=(yA.1 ht).1;split
  .simp only;omega
  .exact h
 .exact h
def RQ(dec:List U->List PD->PD->(Tk->Bool)->Prop)(out:Tk×Bool->PD):List PD->List U->PD->List U->Prop:=λargs σ p σ'=>σ≠[]/\∀r q l n,dec σ args r q->Rd σ r l n->p=out (bS q l n).1/\Rd σ' r l (bS q l n).2/\dW r σ σ'/\σ.length<=σ'.length
def RX:List U->List PD->PD->(Tk->Bool)->Prop:=λσ args r q=>∃g,args=[r,g]/\P2 σ g q
def RY:List U->List PD->PD->(Tk->Bool)->Prop:=λ_ args r q=>∃k,args=[r,.int .i64 k]/\q=λt=>decide (t.kind=k)
def VL:List U->List PD->PD->(Tk->Bool)->Prop:=λ_ args r q=>args=[r]/\q=λ_=>true
def HJ(a:Int):List U->List PD->PD->(Tk->Bool)->Prop:=λ_ args r q=>∃w,args=[r,.str w]/\q=isWord a w
abbrev pA:Tk×Bool->PD:=(Em.tk.iH .bool).aA
def gY:Tk×Bool->PD:=λx=>.bool x.2
theorem a0n{E:aE}(h1:E 155=some (eD RT))(h2:E 175=some (eD RU))(h3:E 129=some (eD (RV 1)))
  {σ:Dp} {g:PD} {q:Tk->Bool} (h:P2 σ g q):∃fi cap gi,g=.func fi cap/\E fi=some gi/\∀(t:Tk) (τ:List U),gi 0 (.agg [.int .i64 t.kind,.str t.text,.int .i64 t.num,.int .i64 t.bB.1,.int .i64 t.bB.2,.int .i64 t.line,.int .i64 t.cA]::cap) (σ++τ)=some (.bool (q t),σ++τ):=by
 have up:∀(τ:List U) (b:Nat) (p:PD),σ[b]?=some (.box p)->(σ++τ)[b]?=some (.box p):=λτ b p h=>zp
 have ht:∀t:Tk,PD.strip (.agg [.int .i64 t.kind,.str t.text,.int .i64 t.num,.int .i64 t.bB.1,.int .i64 t.bB.2,.int .i64 t.line,.int .i64 t.cA])=Em.tk.aA t:=λt=>Em.tk.str t
 rcases h with⟨b,k,rfl,hb,rfl⟩ | ⟨rfl,rfl⟩ | ⟨b,k,rfl,hb,rfl⟩
 .refine⟨_,_,_,rfl,h1,λt τ=>?_⟩;have e:nY (σ++τ) [.agg [.int .i64 t.kind,.str t.text,.int .i64 t.num,.int .i64 t.bB.1,.int .i64 t.bB.2,.int .i64 t.line,.int .i64 t.cA],.ptr b 0]=some [Em.tk.aA t,.cI [.int .i64 k] 0]:=by
   simp only[nY,HC,up τ b _ hb,ht];rfl
  simp only[eD,e,RT,Em.OU];rw[dC trivial]
 .refine⟨_,_,_,rfl,h2,λt τ=>?_⟩;have e:nY (σ++τ) [.agg [.int .i64 t.kind,.str t.text,.int .i64 t.num,.int .i64 t.bB.1,.int .i64 t.bB.2,.int .i64 t.line,.int .i64 t.cA]]=some [Em.tk.aA t]:=by
   simp only[nY,HC,ht]
  simp only[eD,e,RU,Em.OU];rw[dC trivial]
 .refine⟨_,_,_,rfl,h3,λt τ=>?_⟩;have e:nY (σ++τ) [.agg [.int .i64 t.kind,.str t.text,.int .i64 t.num,.int .i64 t.bB.1,.int .i64 t.bB.2,.int .i64 t.line,.int .i64 t.cA],.ptr b 0]=some [Em.tk.aA t,.cI [.str k] 0]:=by
   simp only[nY,HC,up τ b _ hb,ht];rfl
  simp only[eD,e,RV,Em.OU];rw[dC trivial]
variable{E:aE}(hU:aG E)
include hU
set_option maxRecDepth 10000
theorem a0o(h0:E 128=none)(hN:E 154=some (eD PJ))(h1:E 155=some (eD RT))(h2:E 175=some (eD RU))(h3:E 129=some (eD (RV 1)))
  {σ:Dp} {r g:PD} {q:Tk->Bool} {l:List Tk} {n:Nat} (hs:σ≠[]) (ha:P2 σ g q) (h:Rd σ r l n) (hn:n<=l.length) (hl:l.length<=100000) :
  cF prog E 0 (.inl 128) [r,g] σ (RQ RX pA [r,g] σ):=by
 have hpost:∀p σ',p=pA (bS q l n).1->Rd σ' r l (bS q l n).2->dW r σ σ'->σ.length<=σ'.length->RQ RX pA [r,g] σ p σ':=by
  rintro p σ' rfl e1 e2 e3
  refine⟨hs,?_⟩
  rintro r' q' l' n' ⟨g',e,ha'⟩ h'
  simp only[yBx,yAV]at e;obtain⟨rfl,rfl⟩:=e;obtain rfl:=ha.uniq ha';obtain⟨rfl,rfl⟩:=h.uniq h';exact⟨rfl,e1,e2,e3⟩
 obtain⟨fi,cap,gi,rfl,hfi,hgi⟩:=a0n h1 h2 h3 ha;have hnx:=λτ=>aN1 (h.more (τ:=τ)) hn hl 0
 by_cases q1:n<l.length
 .obtain⟨t,ht⟩:=gn (l[n]);have hS:lV l n=(t,true):=by simp[lV,q1,ht]
  simp only[hS]at hnx;rcases h with⟨_,rfl,_⟩ | ⟨id,rfl,h⟩
  .simp at q1
  have hid:id<σ.length:=(yA.1 h).1;have hg':σ[id]=.box (.agg [dA.aA l,.int .i64 n]):=by rw[yAh hid]at h;simpa using h
  have aDj:∀x y:U,(σ++[x,y])[id]?=some (.box (.agg [dA.aA l,.int .i64 n])):=λx y=>by rw[yAg hid];exact h
  have j0:∀x y:U,(σ++[x,y])[σ.length]?=some x:=λx y=>yo
  have j1:∀x y:U,(σ++[x,y])[σ.length+1]?=some y:=λx y=>yo
  have s0:∀x y z:U,(σ++[x,y]).set σ.length z=σ++[z,y]:=λx y z=>yo
  have hln:∀x y:U,(σ++[x,y]).length=σ.length+2:=λx y=>yo
  cases hqt:q t with
  |false=>
   have hT:bS q l n=((bL,false),n):=by simp[bS,q1,ht,hqt]
   rw[hT]at hpost;have hfin:=λx y=>hpost _ (σ++[x,y]) rfl (.inr ⟨id,rfl,aDj x y⟩) dW.more yo
   refine cF.aV 30 h0 func128 (h:=?_);refine aD (A2 hN hnx) ?_
   first|refine Wp.seq ?_|skip
   apply Wp.dU;refine j9 (A3 hfi hgi hqt) ?_;apply SQ.nil;refine aD (A4 j0 j1 s0 hln) ?_;exact qe
  |true=>
   have hT:bS q l n=((t,true),n+1):=by simp[bS,q1,ht,hqt]
   rw[hT]at hpost;have e1:(n:Int)+1=((n+1:Nat):Int):=ym;have si:∀x y z:U,(σ++[x,y]).set id z=σ.set id z++[x,y]:=λx y z=>by rw[yCI _ _ hid]
   have k0:∀x y z:U,(σ.set id z++[x,y])[σ.length]?=some x:=λx y z=>by
    exact js
   have k1:∀x y z:U,(σ.set id z++[x,y])[σ.length+1]?=some y:=λx y z=>by
    exact js
   have t0:∀x y z u:U,(σ.set id z++[x,y]).set σ.length u=σ.set id z++[u,y]:=λx y z u=>by
    exact js
   have hfin:=λx y=>hpost _ (σ.set id (.box (.agg [dA.aA l,.int .i64 ((n:Int)+1)]))++[x,y]) rfl (.inr ⟨id,rfl,by rw[yAg (by rw[yAD];exact hid),yAj hid,e1]⟩) (dW.trans dW.set dW.more) yo
   refine cF.aV 30 h0 func128 (h:=?_);refine aD (A2 hN hnx) ?_
   first|refine Wp.seq ?_|skip
   apply Wp.dU;refine j9 (A3 hfi hgi hqt) ?_;apply SQ.nil;refine aD (A13 j0 j1 s0 hln aDj si k0 k1 @t0 @hid @h hg' q1) ?_;exact qe
 .have hS:lV l n=(bL,false):=by simp[lV,q1]
  simp only[hS]at hnx;have j0:∀x y:U,(σ++[x,y])[σ.length]?=some x:=λx y=>yo
  have s0:∀x y z:U,(σ++[x,y]).set σ.length z=σ++[z,y]:=λx y z=>yo
  have hln:∀x y:U,(σ++[x,y]).length=σ.length+2:=λx y=>yo
  have hT:bS q l n=((bL,false),n):=by simp[bS,q1]
  rw[hT]at hpost;have hfin:=λx y=>hpost _ (σ++[x,y]) rfl h.more dW.more yo
  refine cF.aV 30 h0 func128 (h:=?_);refine aD (A2 hN hnx) ?_
  first|refine Wp.seq ?_|skip
  apply Wp.dU;refine bM (A2 hfi hgi) ?_;apply SQ.nil;refine aD (A3 j0 s0 hln) ?_;exact qe
end
section
structure VK (E0:aE):Prop where
 u:aG E0
 a0:E0 128=none
 aN:E0 154=some (eD PJ)
 a1:E0 155=some (eD RT)
 a2:E0 175=some (eD RU)
 a3:E0 129=some (eD (RV 1))
theorem VK.get{E0:aE}(e:VK E0){σ:Dp}{r g:PD}{q:Tk->Bool}{l:List Tk}{n:Nat}(hs:σ≠[])(ha:P2 σ g q)(h:Rd σ r l n)(hn:n<=l.length)(hl:l.length<=100000) :
  ∃σ3,jU prog E0 128 (RQ RX pA) 0 [r,g] σ=some (pA (bS q l n).1,σ3)/\Rd σ3 r l (bS q l n).2/\dW r σ σ3/\σ.length<=σ3.length:=by
 obtain⟨p3,σ3,hp,hQ⟩:=aCm (a0o e.u e.a0 e.aN e.a1 e.a2 e.a3 hs ha h hn hl);obtain⟨rfl,e1,e2,e3⟩:=hQ.2 r q l n ⟨g,rfl,ha⟩ h;exact⟨σ3,hp,e1,e2,e3⟩
theorem aHP{dec:List U->List PD->PD->(Tk->Bool)->Prop}{out:Tk×Bool->PD}{args:Dq}{σ σ':Dp}{r p:PD}{q:Tk->Bool}{l:List Tk}{n:Nat}(hs:σ≠[])(hd:∀r' q',dec σ args r' q'->r=r'/\q=q')(h:Rd σ r l n)
  (e0:p=out (bS q l n).1) (e1:Rd σ' r l (bS q l n).2) (e2:dW r σ σ') (e3:σ.length<=σ'.length):RQ dec out args σ p σ':=by
 refine⟨hs,λr' q' l' n' hd' h'=>?_⟩;obtain⟨rfl,rfl⟩:=hd r' q' hd';obtain⟨rfl,rfl⟩:=h.uniq h';exact⟨e0,e1,e2,e3⟩
theorem Rd.ne{σ:Dp}{r:PD}{l:List Tk}{n j:Nat}(h:Rd σ r l n)(hj:σ.length<=j):r≠.ptr j 0:=by
 rcases h with⟨rfl,_⟩ | ⟨id,rfl,h⟩
 .simp
 .intro e;cases e;have:=(yA.1 h).1;omega
theorem Rd.set{σ:Dp}{r:PD}{l:List Tk}{n j:Nat}{x:U}(h:Rd σ r l n)(hj:r≠.ptr j 0):Rd (σ.set j x) r l n:=by
 rcases h with h | ⟨id,rfl,h⟩
 .exact .inl h
 .exact .inr ⟨id,rfl,by rw[yAd (λe=>hj (by rw[e]))];exact h⟩
theorem dW.new{r:PD}{σ σ':Dp}{j:Nat}{x:U}(h:dW r σ σ')(hj:σ.length<=j):dW r σ (σ'.set j x):=λi q hi h1=>by
 have hlt:=(yA.1 h1).1;rw[yAd ym];exact h i q hi h1
abbrev FL:U:=.box (.agg [.int .i64 0,.str [],.int .i64 0,.int .i64 0,.int .i64 0,.int .i64 0,.int .i64 0])
variable{E:aE}(hU:aG E)
include hU
set_option maxRecDepth 10000
theorem aXh{E0:aE}(e:VK E0)(h0:E 132=none)(h1:E 128=some (jU prog E0 128 (RQ RX pA))){σ:Dp}{r:PD}{l:List Tk}{n:Nat}(k:Int)(hs:σ≠[])(h:Rd σ r l n)(hn:n<=l.length)(hl:l.length<=100000) :
  cF prog E 0 (.inl 132) [r,.int .i64 k] σ (RQ RY pA [r,.int .i64 k] σ):=by
 obtain⟨σ3,hp,e1,e2,e3⟩:=e.get (σ:=σ++[.box (.int .i64 k),FL]) (g:=.func 155 [.ptr σ.length 0]) (q:=λt=>decide (t.kind=k)) yo (.inl ⟨σ.length,k,rfl,yo,rfl⟩) h.more hn hl;have hpost:=λx=>aHP (dec:=RY) (out:=pA) (args:=[r,.int .i64 k]) (σ':=σ3.set (σ.length+1) x) hs (by
  rintro r' q' ⟨k',e,rfl⟩
  simp only[yBx,PD.int.injEq,yBM,yAV]at e;obtain⟨rfl,rfl⟩:=e;exact⟨rfl,rfl⟩) h rfl (e1.set (h.ne ym)) (dW.new (dW.trans dW.more e2) ym) (by simp at e3 ⊢;omega)
 have hz:=e2 (σ.length+1) _ (h.ne ym) (show(σ++[.box (.int .i64 k),FL])[σ.length+1]?=some FL by simp);have hzl:=(yA.1 hz).1;have RH:σ3[σ.length+1]=FL:=by rw[yAh hzl]at hz;simpa using hz
 have hzs:∀x,(σ3.set (σ.length+1) x)[σ.length+1]?=some x:=λx=>yAj hzl
 obtain⟨X,hX⟩:∃X,(bS (λt=>decide (t.kind=k)) l n).1=X:=⟨_,rfl⟩;rw[hX]at hp hpost;refine cF.aV 11 h0 func132 (h:=?_);refine aD (A6 h1 hp hz RH hzl hzs) ?_;simp[hzs,hzl];exact⟨_,_,⟨rfl,rfl⟩,hpost _⟩
theorem aXk{E0:aE}(e:VK E0)(h0:E 157=none)(h1:E 128=some (jU prog E0 128 (RQ RX pA))){σ:Dp}{r:PD}{l:List Tk}{n:Nat}(hs:σ≠[])(h:Rd σ r l n)(hn:n<=l.length)(hl:l.length<=100000) :
  cF prog E 0 (.inl 157) [r] σ (RQ VL gY [r] σ):=by
 obtain⟨σ3,hp,e1,e2,e3⟩:=e.get (σ:=σ) (g:=.func 175 []) (q:=λ_=>true) hs (.inr (.inl ⟨rfl,rfl⟩)) h hn hl;have hpost:=λx=>aHP (dec:=VL) (out:=gY) (args:=[r]) (σ':=σ3++[x]) hs (by
  rintro r' q' ⟨e,rfl⟩
  simp only[yBx,yAV]at e;exact⟨e,rfl⟩) h rfl e1.more (dW.trans e2 dW.more) zc
 obtain⟨X,hX⟩:=gn ((bS (λ_=>true) l n).1);rw[hX]at hp hpost;refine cF.aV 11 h0 func157 (h:=?_);exact uj
theorem aXm{E0:aE}(e:VK E0)(h0:E 90=none)(h1:E 128=some (jU prog E0 128 (RQ RX pA))){σ:Dp}{r:PD}{l:List Tk}{n:Nat}(w:List UInt8)(hs:σ≠[])(h:Rd σ r l n)(hn:n<=l.length)(hl:l.length<=100000) :
  cF prog E 0 (.inl 90) [r,.str w] σ (RQ (HJ 1) gY [r,.str w] σ):=by
 obtain⟨σ3,hp,e1,e2,e3⟩:=e.get (σ:=σ++[.box (.str w)]) (g:=.func 129 [.ptr σ.length 0]) (q:=isWord 1 w) yo (.inr (.inr ⟨σ.length,w,rfl,yo,rfl⟩)) h.more hn hl;have hpost:=λx=>aHP (dec:=HJ 1) (out:=gY) (args:=[r,.str w]) (σ':=σ3++[x]) hs (by
  rintro r' q' ⟨w',e,rfl⟩
  simp only[yBx,PD.str.injEq,yAV]at e;obtain⟨rfl,rfl⟩:=e;exact⟨rfl,rfl⟩) h rfl e1.more (dW.trans dW.more (dW.trans e2 dW.more)) (by simp at e3 ⊢;omega)
 obtain⟨X,hX⟩:=gn ((bS (isWord 1 w) l n).1);rw[hX]at hp hpost;refine cF.aV 14 h0 func90 (h:=?_);exact uj
def aGp:List PD->List U->PD->List U->Prop:=λargs σ p σ'=>∃id,p=.ptr id 0/\σ.length<=id/\(∀s l,args=[s]->dA.dec s=some l->Rd σ' p l 0)/\(∃b,σ'[id]?=some b)/\∀(j:Nat) (q:U),σ[j]?=some q->σ'[j]?=some q
theorem aXp(h0:E 86=none)(h1:E 126=some (entry (aY dA dA λl=>bE (l.length<=100000) (some l)))){σ:Dp}{s:PD}{l:List Tk}(hd:dA.dec s=some l)(hl:l.length<=100000) :
  cF prog E 0 (.inl 86) [s] σ (aGp [s] σ):=by
 refine cF.aV 7 h0 func86 (h:=?_);refine aD (A3 h1 hl hd) ?_;simp;refine⟨_,_,⟨rfl,rfl⟩,σ.length,rfl,yAk _,λs' l' e hd'=>?_,⟨_,by simp;rfl⟩,λj q h=>zp⟩;simp only[yBx,yAV]at e;subst e;rw[hd]at hd';obtain rfl:=yBw hd';exact .inr ⟨σ.length,rfl,yo⟩
end
end Go.Kz
end
