/- Steps of the proof. -/
import Derived.Test.YtnogdlnjafblaaaGreatDoorP6
import Derived.Test.YtnogdlnjafblaaaGreatDoorP3
set_option linter.all false
set_option maxHeartbeats 40000000
set_option maxRecDepth 100000
open Go.Proofs.Tryz
noncomputable section
namespace Go.Kz
open Go Go.Proofs
section
theorem aV1{P:Program}{σ:Bv}{t e:TypeId}{k b s:Nat}{xs ys:Bw}{tk tok:Tok}(hu:P.underlying t=some (.slice e))(hi:J0 P e=some (k,b))(hs:ys=[]\/s=k)(hr:iL σ tok e k xs.length)
  (hm:xs.length+ys.length<=100000000000000) (hb:(xs.length+ys.length)*b<=140737488355328) :
  ∃bY σ',dV P 0 σ t (.slice k xs tok) (.slice s ys tk)=some (.slice k (xs++ys) bY,σ')/\iL σ' bY e k (xs.length+ys.length):=by
 unfold J0 at hi;split at hi
 .rename_i i h1;split at hi
  .rename_i z h2;split at hi
   .rename_i h3;simp only[yAb,yAc]at hi;obtain⟨rfl,rfl⟩:=hi;have hmm:xs.length+ys.length<=maxLen:=zx;have hs':ys.length=0\/s=i.size:=hs.imp (λh=>ya) (λh=>h)
    by_cases hy:ys=[]
    .subst hy;refine⟨tok,σ,?_,by simpa using hr⟩;simp only[dV,hu,h1,h2];rw[yAJ ⟨.inr trivial,hs',h3.2,h3.1,hmm,hb⟩,yAJ (show([]:List PD).length=0 from rfl),yAl]
    .have hy0:¬ys.length=0:=λh=>hy (yAf h)
     rcases hr with⟨hn,rfl⟩ | ⟨hpos,id,rfl,hid⟩
     .refine⟨.own σ.length,σ++[.own e i.size (xs.length+ys.length)],?_,.inr ⟨xb,_,rfl,yAB⟩⟩;simp only[dV,hu,h1,h2];rw[yAJ ⟨.inr trivial,hs',h3.2,h3.1,hmm,hb⟩,yAI hy0]
     .have hlt:=(yA.1 hid).1;refine⟨.own id,σ.set id (.own e i.size (xs.length+ys.length)),?_,.inr ⟨xb,id,rfl,by rw[yAj hlt]⟩⟩;simp only[dV,hu,h1,h2];rw[yAJ ⟨.inr trivial,hs',h3.2,h3.1,hmm,hb⟩,yAI hy0,yAJ ⟨yAF _,trivial⟩,hid];simp
   .cases hi
  .cases hi
 .cases hi
def Rd(σ:List U)(r:PD)(l:List Tk)(n:Nat):Prop:=(r=.dJ/\l=[]/\n=0)\/∃id,r=.ptr id 0/\σ[id]?=some (.box (.agg [cM.aA l,.int .i64 n]))
theorem Rd.uniq{σ:Bv}{r:PD}{l l':List Tk}{n n':Nat}(h:Rd σ r l n)(h':Rd σ r l' n'):l=l'/\n=n':=by
 rcases h with⟨rfl,rfl,rfl⟩ | ⟨id,rfl,h⟩
 .rcases h' with⟨_,rfl,rfl⟩ | ⟨id',e,_⟩
  .exact⟨rfl,rfl⟩
  .cases e
 .rcases h' with⟨e,_⟩ | ⟨id',e,h'⟩
  .cases e
  .cases e;rw[h]at h';simp only[yAb,U.box.injEq,PD.agg.injEq,yBs,PD.int.injEq,yBI,yAW]at h';exact⟨cM.inj h'.1,xb⟩
def dH(r:PD)(σ σ':List U):Prop:=∀(j:Nat) (q:U),r≠.ptr j 0->σ[j]?=some q->σ'[j]?=some q
theorem dH.aV2{r:PD}{σ:Bv}:dH r σ σ:=λ_ _ _ h=>h
theorem dH.trans{r:PD}{a b c:Bv}(h:dH r a b)(k:dH r b c):dH r a c:=λj q hj h1=>k j q hj (h j q hj h1)
theorem dH.more{r:PD}{σ τ:Bv}:dH r σ (σ++τ):=λj q _ h=>yc
theorem dH.set{id:Nat}{σ:Bv}{x:U}:dH (.ptr id 0) σ (σ.set id x):=λj q hj h=>by rw[yAd (λe=>hj (by rw[e]))];exact h
def kW(l:List Tk)(n:Nat):Tk×Bool:=match l[n]? with|some t=>(t,true)|none=>(bD,false)
def IL(l:List Tk)(n:Nat):Int×Int:=match l[min n (l.length-1)]? with|some t=>(t.line,t.bR)|none=>(0,0)
def MF:List PD->Option PD
 | [.cP [s,.int .i64 n] 0]=>(match cM.dec s with|some l=>bJ (s=cM.aA l/\0<=n/\n<=l.length/\l.length<=100000) (some ((Em.tk.gP .bool).aA (kW l n.toNat)))|none=>none)
 | [.dJ]=>some ((Em.tk.gP .bool).aA (bD,false))
 |_=>none
def RY:List PD->Option PD
 | [.cP [s,.int .i64 n] 0]=>(match cM.dec s with|some l=>bJ (s=cM.aA l/\0<=n/\n<=l.length/\l.length<=100000) (some (Em.pos.aA (IL l n.toNat)))|none=>none)
 | [.dJ]=>some (Em.pos.aA (0,0))
 |_=>none
def OM:List PD->Option PD
 | [.cP [s,.int .i64 n] 0]=>(match cM.dec s with|some l=>bJ (s=cM.aA l/\0<=n/\n<=l.length/\l.length<=100000) (some (.int .i64 ((l.length:Int)-n)))|none=>none)
 | [.dJ]=>some (.int .i64 0)
 |_=>none
theorem aFo{σ:Bv}{id:Nat}{l:List Tk}{n:Nat}(h:σ[id]?=some (.box (.agg [cM.aA l,.int .i64 n]))):mL σ [.ptr id 0]=some [.cP [cM.aA l,.int .i64 n] 0]:=by
 simp only[mL,E2,h,PD.cells,yB,yBP,cM.str];rfl
theorem aK8{σ:Bv}{r:PD}{l:List Tk}{n:Nat}(h:Rd σ r l n)(hn:n<=l.length)(hl:l.length<=100000)(fl:Nat):dO MF fl [r] σ=some ((Em.tk.gP .bool).aA (kW l n),σ):=by
 rcases h with⟨rfl,rfl,rfl⟩ | ⟨id,rfl,h⟩
 .rfl
 .simp only[dO,aFo h,MF,Em.Q5];rw[dN ⟨trivial,xb,xb,hl⟩,yBq]
theorem aV3{σ:Bv}{r:PD}{l:List Tk}{n:Nat}(h:Rd σ r l n)(hn:n<=l.length)(hl:l.length<=100000)(fl:Nat):dO RY fl [r] σ=some (Em.pos.aA (IL l n),σ):=by
 rcases h with⟨rfl,rfl,rfl⟩ | ⟨id,rfl,h⟩
 .rfl
 .simp only[dO,aFo h,RY,Em.Q5];rw[dN ⟨trivial,xb,xb,hl⟩,yBq]
theorem left_at{σ:Bv}{r:PD}{l:List Tk}{n:Nat}(h:Rd σ r l n)(hn:n<=l.length)(hl:l.length<=100000)(fl:Nat):dO OM fl [r] σ=some (.int .i64 ((l.length:Int)-n),σ):=by
 rcases h with⟨rfl,rfl,rfl⟩ | ⟨id,rfl,h⟩
 .rfl
 .simp only[dO,aFo h,OM,Em.Q5];rw[dN ⟨trivial,xb,xb,hl⟩]
@[simp] theorem a2h{cs:Bw}{off:Nat}:dZ prog .eql 167 (.cP cs off) .dJ=some (.bool false):=by
  unfold dZ rF lC;simp only[underlying167]
@[simp] theorem a2i:dZ prog .eql 167 .dJ .dJ=some (.bool true):=by
  unfold dZ rF lC;simp only[underlying167]
def isWord(k:Int)(w:List UInt8)(t:Tk):Bool:=decide (t.kind=k)&&decide (t.text=w)
def ON:List PD->Option PD
 | [x,.cP [.int .i64 k] 0]=>(match Em.tk.dec x with|some t=>bJ (x=Em.tk.aA t) (some (.bool (decide (t.kind=k))))|none=>none)
 |_=>none
def OP(a:Int):List PD->Option PD
 | [x,.cP [.str w] 0]=>(match Em.tk.dec x with|some t=>bJ (x=Em.tk.aA t) (some (.bool (isWord a w t)))|none=>none)
 |_=>none
def OO:List PD->Option PD
 | [x]=>(match Em.tk.dec x with|some t=>bJ (x=Em.tk.aA t) (some (.bool true))|none=>none)
 |_=>none
variable{E:aE}(hU:aF E)
include hU
set_option maxRecDepth 10000
theorem aQ8(h0:E 126=none)(l:List Tk)(hne:l≠[])(hl:l.length<=100000):aI prog E 126 [cM.aA l] (cM.aA l):=by
 have hb:EM (.slice (sz 7 l) (l.map Em.tk.aA) .any)=some false:=by
  simp[EM,sz,hne]
 have hle:(l.length:Int)<=100000:=xb;obtain⟨tk1,σ1,ap1,ra1⟩:=aV1 (P:=prog) (t:=29) (e:=36) (k:=7) (b:=64) (s:=sz 7 l) (xs:=[]) (ys:=l.map Em.tk.aA) (tk:=.any) (tok:=.full)
  (σ:=[]) underlying29 xg
  (by cases l<;>simp[sz]) (.inl ⟨rfl,rfl⟩) (by simp only[yAL,yAe];omega) (by simp only[yAL,yAe];omega)
 simp only[yAQ,yAL,yAp]at ap1 ra1;refine aI.aU 8 h0 func126 (h:=?_);have hs:(PD.slice 7 (l.map Em.tk.aA) tk1).strip=cM.aA l:=Em.JW aOJ;refine aD (A2 hb ap1) ?_;simp(disch:=first|omega|(simp;done)|(simp;omega)) [yAu,hs]<;>try rfl
theorem aQ6(h0:E 126=none):aI prog E 126 [.slice 0 [] .HX] (cM.aA []):=by
 have hb:EM (.slice 0 [] .HX)=some true:=rfl;refine aI.aU 8 h0 func126 (h:=?_);refine aD hb ?_;exact aa
theorem aQ7(h0:E 126=none):aI prog E 126 [.slice 0 [] .HY] (cM.aA []):=by
 have hb:EM (.slice 0 [] .HY)=some false:=rfl;refine aI.aU 8 h0 func126 (h:=?_);refine aD hb ?_;exact aa
theorem aRa(h0:E 154=none)(l:List Tk)(n:Nat)(hn:n<=l.length)(hl:l.length<=100000):aI prog E 154 [.cP [cM.aA l,.int .i64 n] 0] ((Em.tk.gP .bool).aA (kW l n)):=by
 refine aI.aU 29 h0 func154 (h:=?_)
 by_cases q1:n<l.length
 .have q2:(n:Int)<(l.length:Int):=by omega
  obtain⟨t,ht⟩:=gn (l[n]);have hN:kW l n=(t,true):=by simp[kW,q1,ht]
  have q3:¬l.length<=n:=xb;refine aD (A4 q1 q2 q3 ht) ?_;simp(disch:=first|omega|(simp;done)|(simp;omega)) [yAu,hN]<;>try rfl
 .have q2:¬(n:Int)<(l.length:Int):=by omega
  have hN:kW l n=(bD,false):=by simp[kW,q1]
  have q3:l.length<=n:=xb;refine aD (A3 q1 q2 q3) ?_;simp(disch:=first|omega|(simp;done)|(simp;omega)) [yAu,hN,bD]<;>try rfl
theorem aRb(h0:E 154=none):aI prog E 154 [.dJ] ((Em.tk.gP .bool).aA (bD,false)):=by
 refine aI.aU 29 h0 func154 (h:=?_);refine aD trivial ?_;simp(disch:=first|omega|(simp;done)|(simp;omega)) [yAu,bD]<;>try rfl
theorem aRd(h0:E 134=none)(l:List Tk)(n:Nat)(hn:n<=l.length)(hl:l.length<=100000):aI prog E 134 [.cP [cM.aA l,.int .i64 n] 0] (Em.pos.aA (IL l n)):=by
 refine aI.aU 37 h0 func134 (h:=?_)
 by_cases q1:l=[]
 .subst q1;have hP:IL [] n=(0,0):=rfl;refine aD trivial ?_;exact cq
 .have q2:0<l.length:=yBu.2 q1;have q3:¬(l.length:Int)=0:=xb;obtain⟨k,hk⟩:=gn (min n (l.length-1));have hkl:k<l.length:=xb;obtain⟨t,ht⟩:=gn (l[k]);have hP:IL l n=(t.line,t.bR):=by simp[IL,hk,hkl,ht]
  by_cases q4:(l.length:Int)-1<(n:Int)
  .have hkk:(l.length:Int)-1=(k:Int):=by omega
   have q5:(k:Int)<(n:Int):=xb;refine aD (A7 q1 q3 q4 hkk q5 hkl ht) ?_;exact cq
  .have hkk:n=k:=by omega
   have q5:¬(l.length:Int)-1<(k:Int):=xb;subst hkk;refine aD (A5 q1 q3 q4 hkl ht) ?_;exact cq
theorem aRe(h0:E 134=none):aI prog E 134 [.dJ] (Em.pos.aA (0,0)):=by
 refine aI.aU 37 h0 func134 (h:=?_);exact ue
theorem aRg(h0:E 94=none)(l:List Tk)(n:Nat)(hn:n<=l.length)(hl:l.length<=100000):aI prog E 94 [.cP [cM.aA l,.int .i64 n] 0] (.int .i64 ((l.length:Int)-n)):=by
 refine aI.aU 15 h0 func94 (h:=?_);exact ue
theorem aRh(h0:E 94=none):aI prog E 94 [.dJ] (.int .i64 0):=by
 refine aI.aU 15 h0 func94 (h:=?_);exact ue
theorem aRj(h0:E 155=none)(t:Tk)(k:Int):aI prog E 155 [Em.tk.aA t,.cP [.int .i64 k] 0] (Em.bool.aA (decide (t.kind=k))):=by
 refine aI.aU 8 h0 func155 (h:=?_);exact ue
theorem aRl(h0:E 175=none)(t:Tk):aI prog E 175 [Em.tk.aA t] (Em.bool.aA true):=by
 refine aI.aU 3 h0 func175 (h:=?_);exact ue
theorem aRn(h0:E 129=none)(t:Tk)(w:List UInt8):aI prog E 129 [Em.tk.aA t,.cP [.str w] 0] (Em.bool.aA (isWord 1 w t)):=by
 refine aI.aU 13 h0 func129 (h:=?_)
 by_cases h:t.kind=1
 .refine aD @h ?_;simp(disch:=first|omega|(simp;done)|(simp;omega)) [yAu,isWord,h]<;>try rfl
  by_cases h2:t.text=w<;>simp[h2]
 .refine aD @h ?_;simp(disch:=first|omega|(simp;done)|(simp;omega)) [yAu,isWord,h]<;>try rfl
end
section
def MY(σ:List U)(g:PD)(q:Tk->Bool):Prop:=
 (∃b k,g=.func 155 [.ptr b 0]/\σ[b]?=some (.box (.int .i64 k))/\q=λt=>decide (t.kind=k)) \/
 (g=.func 175 []/\q=λ_=>true) \/
 (∃b w,g=.func 129 [.ptr b 0]/\σ[b]?=some (.box (.str w))/\q=isWord 1 w)
theorem MY.uniq{σ:Bv}{g:PD}{q q':Tk->Bool}(h:MY σ g q)(h':MY σ g q'):q=q':=by
 rcases h with⟨b,k,rfl,h1,rfl⟩ | ⟨rfl,rfl⟩ | ⟨b,k,rfl,h1,rfl⟩ <;>
 rcases h' with⟨b',k',e,h2,rfl⟩ | ⟨e,rfl⟩ | ⟨b',k',e,h2,rfl⟩ <;>
 first
  |rfl
  |(cases e;done)
  |(cases e;rw[h1]at h2;cases h2;rfl)
theorem Rd.more{σ τ:Bv}{r:PD}{l:List Tk}{n:Nat}(h:Rd σ r l n):Rd (σ++τ) r l n:=by
 rcases h with h | ⟨id,rfl,h⟩
 .exact .inl h
 .exact .inr ⟨id,rfl,yc⟩
def bK(q:Tk->Bool)(l:List Tk)(n:Nat):(Tk×Bool)×Nat:=match l[n]? with
 |some t=>if q t=true then((t,true),n+1)else((bD,false),n)
 |none=>((bD,false),n)
theorem oX(q:Tk->Bool){l:List Tk}{n:Nat}(h:n<=l.length):(bK q l n).2<=l.length:=by
 unfold bK;split
 .rename_i t ht;have:=(yA.1 ht).1;split
  .simp only;omega
  .exact h
 .exact h
def RQ(dec:List U->List PD->PD->(Tk->Bool)->Prop)(out:Tk×Bool->PD):List PD->List U->PD->List U->Prop:=λargs σ p σ'=>σ≠[]/\∀r q l n,dec σ args r q->Rd σ r l n->p=out (bK q l n).1/\Rd σ' r l (bK q l n).2/\dH r σ σ'/\σ.length<=σ'.length
def OR:List U->List PD->PD->(Tk->Bool)->Prop:=λσ args r q=>∃g,args=[r,g]/\MY σ g q
def OS:List U->List PD->PD->(Tk->Bool)->Prop:=λ_ args r q=>∃k,args=[r,.int .i64 k]/\q=λt=>decide (t.kind=k)
def SD:List U->List PD->PD->(Tk->Bool)->Prop:=λ_ args r q=>args=[r]/\q=λ_=>true
def E9(a:Int):List U->List PD->PD->(Tk->Bool)->Prop:=λ_ args r q=>∃w,args=[r,.str w]/\q=isWord a w
abbrev nZ:Tk×Bool->PD:=(Em.tk.gP .bool).aA
def fW:Tk×Bool->PD:=λx=>.bool x.2
theorem aVZ{E:aE}(h1:E 155=some (dO ON))(h2:E 175=some (dO OO))(h3:E 129=some (dO (OP 1)))
  {σ:Bv} {g:PD} {q:Tk->Bool} (h:MY σ g q):∃fi cap gi,g=.func fi cap/\E fi=some gi/\∀(t:Tk) (τ:List U),gi 0 (.agg [.int .i64 t.kind,.str t.text,.int .i64 t.num,.int .i64 t.cB.1,.int .i64 t.cB.2,.int .i64 t.line,.int .i64 t.bR]::cap) (σ++τ)=some (.bool (q t),σ++τ):=by
 have up:∀(τ:List U) (b:Nat) (p:PD),σ[b]?=some (.box p)->(σ++τ)[b]?=some (.box p):=λτ b p h=>yc
 have ht:∀t:Tk,PD.strip (.agg [.int .i64 t.kind,.str t.text,.int .i64 t.num,.int .i64 t.cB.1,.int .i64 t.cB.2,.int .i64 t.line,.int .i64 t.bR])=Em.tk.aA t:=λt=>Em.tk.str t
 rcases h with⟨b,k,rfl,hb,rfl⟩ | ⟨rfl,rfl⟩ | ⟨b,k,rfl,hb,rfl⟩
 .refine⟨_,_,_,rfl,h1,λt τ=>?_⟩;have e:mL (σ++τ) [.agg [.int .i64 t.kind,.str t.text,.int .i64 t.num,.int .i64 t.cB.1,.int .i64 t.cB.2,.int .i64 t.line,.int .i64 t.bR],.ptr b 0]=some [Em.tk.aA t,.cP [.int .i64 k] 0]:=by
   simp only[mL,E2,up τ b _ hb,ht];rfl
  simp only[dO,e,ON,Em.Q5];rw[dN trivial]
 .refine⟨_,_,_,rfl,h2,λt τ=>?_⟩;have e:mL (σ++τ) [.agg [.int .i64 t.kind,.str t.text,.int .i64 t.num,.int .i64 t.cB.1,.int .i64 t.cB.2,.int .i64 t.line,.int .i64 t.bR]]=some [Em.tk.aA t]:=by
   simp only[mL,E2,ht]
  simp only[dO,e,OO,Em.Q5];rw[dN trivial]
 .refine⟨_,_,_,rfl,h3,λt τ=>?_⟩;have e:mL (σ++τ) [.agg [.int .i64 t.kind,.str t.text,.int .i64 t.num,.int .i64 t.cB.1,.int .i64 t.cB.2,.int .i64 t.line,.int .i64 t.bR],.ptr b 0]=some [Em.tk.aA t,.cP [.str k] 0]:=by
   simp only[mL,E2,up τ b _ hb,ht];rfl
  simp only[dO,e,OP,Em.Q5];rw[dN trivial]
variable{E:aE}(hU:aF E)
include hU
set_option maxRecDepth 10000
theorem aV0(h0:E 128=none)(hN:E 154=some (dO MF))(h1:E 155=some (dO ON))(h2:E 175=some (dO OO))(h3:E 129=some (dO (OP 1)))
  {σ:Bv} {r g:PD} {q:Tk->Bool} {l:List Tk} {n:Nat} (hs:σ≠[]) (ha:MY σ g q) (h:Rd σ r l n) (hn:n<=l.length) (hl:l.length<=100000) :
  cH prog E 0 (.inl 128) [r,g] σ (RQ OR nZ [r,g] σ):=by
 have hpost:∀p σ',p=nZ (bK q l n).1->Rd σ' r l (bK q l n).2->dH r σ σ'->σ.length<=σ'.length->RQ OR nZ [r,g] σ p σ':=by
  rintro p σ' rfl e1 e2 e3
  refine⟨hs,?_⟩
  rintro r' q' l' n' ⟨g',e,ha'⟩ h'
  simp only[yBs,yAW]at e;obtain⟨rfl,rfl⟩:=e;obtain rfl:=ha.uniq ha';obtain⟨rfl,rfl⟩:=h.uniq h';exact⟨rfl,e1,e2,e3⟩
 obtain⟨fi,cap,gi,rfl,hfi,hgi⟩:=aVZ h1 h2 h3 ha;have hnx:=λτ=>aK8 (h.more (τ:=τ)) hn hl 0
 by_cases q1:n<l.length
 .obtain⟨t,ht⟩:=gn (l[n]);have hS:kW l n=(t,true):=by simp[kW,q1,ht]
  simp only[hS]at hnx;rcases h with⟨_,rfl,_⟩ | ⟨id,rfl,h⟩
  .simp at q1
  have hid:id<σ.length:=(yA.1 h).1;have hg':σ[id]=.box (.agg [cM.aA l,.int .i64 n]):=by rw[yAh hid]at h;simpa using h
  have aBx:∀x y:U,(σ++[x,y])[id]?=some (.box (.agg [cM.aA l,.int .i64 n])):=λx y=>by rw[yAg hid];exact h
  have j0:∀x y:U,(σ++[x,y])[σ.length]?=some x:=λx y=>wz
  have j1:∀x y:U,(σ++[x,y])[σ.length+1]?=some y:=λx y=>wz
  have s0:∀x y z:U,(σ++[x,y]).set σ.length z=σ++[z,y]:=λx y z=>wz
  have hln:∀x y:U,(σ++[x,y]).length=σ.length+2:=λx y=>wz
  cases hqt:q t with
  |false=>
   have hT:bK q l n=((bD,false),n):=by simp[bK,q1,ht,hqt]
   rw[hT]at hpost;have hfin:=λx y=>hpost _ (σ++[x,y]) rfl (.inr ⟨id,rfl,aBx x y⟩) dH.more wz
   refine cH.aU 30 h0 func128 (h:=?_);refine aD (A2 hN hnx) ?_
   first|refine Wp.seq ?_|skip
   apply Wp.dE;refine jJ (A3 hfi hgi hqt) ?_;apply SQ.nil;refine aD (A4 j0 j1 s0 hln) ?_;exact oa
  |true=>
   have hT:bK q l n=((t,true),n+1):=by simp[bK,q1,ht,hqt]
   rw[hT]at hpost;have e1:(n:Int)+1=((n+1:Nat):Int):=xb;have si:∀x y z:U,(σ++[x,y]).set id z=σ.set id z++[x,y]:=λx y z=>by rw[yCK _ _ hid]
   have k0:∀x y z:U,(σ.set id z++[x,y])[σ.length]?=some x:=λx y z=>by
    exact jf
   have k1:∀x y z:U,(σ.set id z++[x,y])[σ.length+1]?=some y:=λx y z=>by
    exact jf
   have t0:∀x y z u:U,(σ.set id z++[x,y]).set σ.length u=σ.set id z++[u,y]:=λx y z u=>by
    exact jf
   have hfin:=λx y=>hpost _ (σ.set id (.box (.agg [cM.aA l,.int .i64 ((n:Int)+1)]))++[x,y]) rfl (.inr ⟨id,rfl,by rw[yAg (by rw[yAD];exact hid),yAj hid,e1]⟩) (dH.trans dH.set dH.more) wz
   refine cH.aU 30 h0 func128 (h:=?_);refine aD (A2 hN hnx) ?_
   first|refine Wp.seq ?_|skip
   apply Wp.dE;refine jJ (A3 hfi hgi hqt) ?_;apply SQ.nil;refine aD (A13 j0 j1 s0 hln aBx si k0 k1 @t0 @hid @h hg' q1) ?_;exact oa
 .have hS:kW l n=(bD,false):=by simp[kW,q1]
  simp only[hS]at hnx;have j0:∀x y:U,(σ++[x,y])[σ.length]?=some x:=λx y=>wz
  have s0:∀x y z:U,(σ++[x,y]).set σ.length z=σ++[z,y]:=λx y z=>wz
  have hln:∀x y:U,(σ++[x,y]).length=σ.length+2:=λx y=>wz
  have hT:bK q l n=((bD,false),n):=by simp[bK,q1]
  rw[hT]at hpost;have hfin:=λx y=>hpost _ (σ++[x,y]) rfl h.more dH.more wz
  refine cH.aU 30 h0 func128 (h:=?_);refine aD (A2 hN hnx) ?_
  first|refine Wp.seq ?_|skip
  apply Wp.dE;refine bF (A2 hfi hgi) ?_;apply SQ.nil;refine aD (A3 j0 s0 hln) ?_;exact oa
end
section
structure SC (E0:aE):Prop where
 u:aF E0
 a0:E0 128=none
 aN:E0 154=some (dO MF)
 a1:E0 155=some (dO ON)
 a2:E0 175=some (dO OO)
 a3:E0 129=some (dO (OP 1))
theorem SC.get{E0:aE}(e:SC E0){σ:Bv}{r g:PD}{q:Tk->Bool}{l:List Tk}{n:Nat}(hs:σ≠[])(ha:MY σ g q)(h:Rd σ r l n)(hn:n<=l.length)(hl:l.length<=100000) :
  ∃σ3,iZ prog E0 128 (RQ OR nZ) 0 [r,g] σ=some (nZ (bK q l n).1,σ3)/\Rd σ3 r l (bK q l n).2/\dH r σ σ3/\σ.length<=σ3.length:=by
 obtain⟨p3,σ3,hp,hQ⟩:=aAJ (aV0 e.u e.a0 e.aN e.a1 e.a2 e.a3 hs ha h hn hl);obtain⟨rfl,e1,e2,e3⟩:=hQ.2 r q l n ⟨g,rfl,ha⟩ h;exact⟨σ3,hp,e1,e2,e3⟩
theorem aFA{dec:List U->List PD->PD->(Tk->Bool)->Prop}{out:Tk×Bool->PD}{args:Bw}{σ σ':Bv}{r p:PD}{q:Tk->Bool}{l:List Tk}{n:Nat}(hs:σ≠[])(hd:∀r' q',dec σ args r' q'->r=r'/\q=q')(h:Rd σ r l n)
  (e0:p=out (bK q l n).1) (e1:Rd σ' r l (bK q l n).2) (e2:dH r σ σ') (e3:σ.length<=σ'.length):RQ dec out args σ p σ':=by
 refine⟨hs,λr' q' l' n' hd' h'=>?_⟩;obtain⟨rfl,rfl⟩:=hd r' q' hd';obtain⟨rfl,rfl⟩:=h.uniq h';exact⟨e0,e1,e2,e3⟩
theorem Rd.ne{σ:Bv}{r:PD}{l:List Tk}{n j:Nat}(h:Rd σ r l n)(hj:σ.length<=j):r≠.ptr j 0:=by
 rcases h with⟨rfl,_⟩ | ⟨id,rfl,h⟩
 .simp
 .intro e;cases e;have:=(yA.1 h).1;omega
theorem Rd.set{σ:Bv}{r:PD}{l:List Tk}{n j:Nat}{x:U}(h:Rd σ r l n)(hj:r≠.ptr j 0):Rd (σ.set j x) r l n:=by
 rcases h with h | ⟨id,rfl,h⟩
 .exact .inl h
 .exact .inr ⟨id,rfl,by rw[yAd (λe=>hj (by rw[e]))];exact h⟩
theorem dH.new{r:PD}{σ σ':Bv}{j:Nat}{x:U}(h:dH r σ σ')(hj:σ.length<=j):dH r σ (σ'.set j x):=λi q hi h1=>by
 have hlt:=(yA.1 h1).1;rw[yAd xb];exact h i q hi h1
abbrev DH:U:=.box (.agg [.int .i64 0,.str [],.int .i64 0,.int .i64 0,.int .i64 0,.int .i64 0,.int .i64 0])
variable{E:aE}(hU:aF E)
include hU
set_option maxRecDepth 10000
theorem aSS{E0:aE}(e:SC E0)(h0:E 132=none)(h1:E 128=some (iZ prog E0 128 (RQ OR nZ))){σ:Bv}{r:PD}{l:List Tk}{n:Nat}(k:Int)(hs:σ≠[])(h:Rd σ r l n)(hn:n<=l.length)(hl:l.length<=100000) :
  cH prog E 0 (.inl 132) [r,.int .i64 k] σ (RQ OS nZ [r,.int .i64 k] σ):=by
 obtain⟨σ3,hp,e1,e2,e3⟩:=e.get (σ:=σ++[.box (.int .i64 k),DH]) (g:=.func 155 [.ptr σ.length 0]) (q:=λt=>decide (t.kind=k)) wz (.inl ⟨σ.length,k,rfl,wz,rfl⟩) h.more hn hl;have hpost:=λx=>aFA (dec:=OS) (out:=nZ) (args:=[r,.int .i64 k]) (σ':=σ3.set (σ.length+1) x) hs (by
  rintro r' q' ⟨k',e,rfl⟩
  simp only[yBs,PD.int.injEq,yBI,yAW]at e;obtain⟨rfl,rfl⟩:=e;exact⟨rfl,rfl⟩) h rfl (e1.set (h.ne xb)) (dH.new (dH.trans dH.more e2) xb) (by simp at e3 ⊢;omega)
 have hz:=e2 (σ.length+1) _ (h.ne xb) (show(σ++[.box (.int .i64 k),DH])[σ.length+1]?=some DH by simp);have hzl:=(yA.1 hz).1;have OH:σ3[σ.length+1]=DH:=by rw[yAh hzl]at hz;simpa using hz
 have hzs:∀x,(σ3.set (σ.length+1) x)[σ.length+1]?=some x:=λx=>yAj hzl
 obtain⟨X,hX⟩:∃X,(bK (λt=>decide (t.kind=k)) l n).1=X:=⟨_,rfl⟩;rw[hX]at hp hpost;refine cH.aU 11 h0 func132 (h:=?_);refine aD (A6 h1 hp hz OH hzl hzs) ?_;simp[hzs,hzl];exact⟨_,_,⟨rfl,rfl⟩,hpost _⟩
theorem aSV{E0:aE}(e:SC E0)(h0:E 157=none)(h1:E 128=some (iZ prog E0 128 (RQ OR nZ))){σ:Bv}{r:PD}{l:List Tk}{n:Nat}(hs:σ≠[])(h:Rd σ r l n)(hn:n<=l.length)(hl:l.length<=100000) :
  cH prog E 0 (.inl 157) [r] σ (RQ SD fW [r] σ):=by
 obtain⟨σ3,hp,e1,e2,e3⟩:=e.get (σ:=σ) (g:=.func 175 []) (q:=λ_=>true) hs (.inr (.inl ⟨rfl,rfl⟩)) h hn hl;have hpost:=λx=>aFA (dec:=SD) (out:=fW) (args:=[r]) (σ':=σ3++[x]) hs (by
  rintro r' q' ⟨e,rfl⟩
  simp only[yBs,yAW]at e;exact⟨e,rfl⟩) h rfl e1.more (dH.trans e2 dH.more) xw
 obtain⟨X,hX⟩:=gn ((bK (λ_=>true) l n).1);rw[hX]at hp hpost;refine cH.aU 11 h0 func157 (h:=?_);exact ru
theorem aSX{E0:aE}(e:SC E0)(h0:E 90=none)(h1:E 128=some (iZ prog E0 128 (RQ OR nZ))){σ:Bv}{r:PD}{l:List Tk}{n:Nat}(w:List UInt8)(hs:σ≠[])(h:Rd σ r l n)(hn:n<=l.length)(hl:l.length<=100000) :
  cH prog E 0 (.inl 90) [r,.str w] σ (RQ (E9 1) fW [r,.str w] σ):=by
 obtain⟨σ3,hp,e1,e2,e3⟩:=e.get (σ:=σ++[.box (.str w)]) (g:=.func 129 [.ptr σ.length 0]) (q:=isWord 1 w) wz (.inr (.inr ⟨σ.length,w,rfl,wz,rfl⟩)) h.more hn hl;have hpost:=λx=>aFA (dec:=E9 1) (out:=fW) (args:=[r,.str w]) (σ':=σ3++[x]) hs (by
  rintro r' q' ⟨w',e,rfl⟩
  simp only[yBs,PD.str.injEq,yAW]at e;obtain⟨rfl,rfl⟩:=e;exact⟨rfl,rfl⟩) h rfl e1.more (dH.trans dH.more (dH.trans e2 dH.more)) (by simp at e3 ⊢;omega)
 obtain⟨X,hX⟩:=gn ((bK (isWord 1 w) l n).1);rw[hX]at hp hpost;refine cH.aU 14 h0 func90 (h:=?_);exact ru
def aEg:List PD->List U->PD->List U->Prop:=λargs σ p σ'=>∃id,p=.ptr id 0/\σ.length<=id/\(∀s l,args=[s]->cM.dec s=some l->Rd σ' p l 0)/\(∃b,σ'[id]?=some b)/\∀(j:Nat) (q:U),σ[j]?=some q->σ'[j]?=some q
theorem aS0(h0:E 86=none)(h1:E 126=some (entry (aX cM cM λl=>bJ (l.length<=100000) (some l)))){σ:Bv}{s:PD}{l:List Tk}(hd:cM.dec s=some l)(hl:l.length<=100000) :
  cH prog E 0 (.inl 86) [s] σ (aEg [s] σ):=by
 refine cH.aU 7 h0 func86 (h:=?_);refine aD (A3 h1 hl hd) ?_;simp;refine⟨_,_,⟨rfl,rfl⟩,σ.length,rfl,yAk _,λs' l' e hd'=>?_,⟨_,by simp;rfl⟩,λj q h=>yc⟩;simp only[yBs,yAW]at e;subst e;rw[hd]at hd';obtain rfl:=yBr hd';exact .inr ⟨σ.length,rfl,wz⟩
end
end Go.Kz
end
