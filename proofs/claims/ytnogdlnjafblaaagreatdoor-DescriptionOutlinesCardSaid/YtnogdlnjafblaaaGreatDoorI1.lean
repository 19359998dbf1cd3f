/- Steps of the proof. -/
import Derived.Test.YtnogdlnjafblaaaGreatDoorH6
set_option linter.all false
set_option maxHeartbeats 40000000
set_option maxRecDepth 100000
namespace Go.Kz
open Go Go.Proofs
def tl(t:List UInt8):Prop:=t=[]\/∃u,t=10::u
theorem a0b{n:Int}(h:mX n=true):cB n=false:=by
 unfold mX at h;unfold cB;simp only[yBi,yAr,yBC]at h;simp only[Bool.and_eq_false_iff,decide_eq_false_iff_not];omega
theorem aNy{p:G9}:(iS p).2=0->(iS p).1.kind=3:=by
 unfold iS;intro h;split
 .rename_i c;rw[yAJ c]at h;cases h
 .rename_i c;rw[yAI c]at h;split
  .rename_i c2;rw[yAJ c2]at h;cases h
  .rfl
theorem aNz{s:Dr}:(jK s).2=0->(jK s).1.kind=2:=by
 unfold jK;intro h;simp only at h ⊢;split
 .rename_i c;rw[yAJ c]at h;cases h
 .rfl
def Tk.place(t:Tk)(ln cA:Int):Tk:=⟨t.kind,t.text,t.num,t.bB,ln,cA⟩
def fF(t:Tk):List UInt8:=if t.kind=4 then [34]++t.text++[34]else if t.kind=6 then [10]else t.text
def NN:Option Int->List Tk->Dr
 |_,[]=>[]
 |k,t::r=>(if k.isSome/\t.kind≠6/\k≠some 6 then [32]else [])++(fF t++NN (some t.kind) r)
def K3(a b:Tk):Bool:=decide (a.kind=b.kind)&&(decide (a.text=b.text)&&(decide (a.num=b.num)&&decide (a.bB=b.bB)))
def rG:List Tk->List Tk->Bool
 | [],[]=>true
 |a::l,b::r=>K3 a b&&rG l r
 |_,_=>false
theorem aZ9(t:Tk):K3 t t=true:=by simp[K3]
def sp(r:List UInt8):Prop:=r=[]\/∃u,r=32::u
theorem a0a{r:Dr}(h:sp r):pk r 0=0\/pk r 0=32:=by
 rcases h with rfl | ⟨u,rfl⟩
 .exact .inl (RJ (yAk _))
 .exact .inr (by simp[pk])
theorem nF{b:UInt8}{r:Dr}:pk (b::r) 0=b.toNat:=by simp[pk]
theorem WG{b:UInt8}{r:Dr}{i:Nat}:pk (b::r) (i+1)=pk r i:=by simp[pk,List.getD]
theorem aAG(w r:List UInt8)(i:Nat):pk (w++r) (w.length+i)=pk r i:=by
 induction w with
 |nil=>simp
 |cons b w ih=>
  have:(b::w).length+i=(w.length+i)+1:=by rw[yAK];omega
  rw[yAR,this,WG,ih]
theorem SI(w r:List UInt8):pk (w++r) w.length=pk r 0:=aAG w r 0
theorem KY{w r:Dr}{i:Nat}(h:i<w.length):pk (w++r) i=pk w i:=by
 rw[pV Ae,pV h,List.getElem_append_left h]
theorem SJ{p:Int->Bool}{w r:Dr}(hw:∀b∈w,p b.toNat=true)(hr:r=[]\/p (pk r 0)=false):dV p (w++r)=w.length:=by
 induction w with
 |nil=>
  rcases hr with rfl|hr
  .rfl
  .cases r with
   |nil=>rfl
   |cons b r=>
    rw[nF]at hr;rw[yAQ,RL,yAI (by rw[hr];simp)];rfl
 |cons b w ih=>
  rw[yAR,RL,yAJ (hw b yo),ih λc hc=>hw c (by simp[hc]),yAK]
theorem aHp{p:Int->Bool}(hp:p 32=false){w r:Dr}(hw:∀b∈w,p b.toNat=true)(hr:sp r):dV p (w++r)=w.length:=by
 refine SJ hw ?_;rcases hr with rfl | ⟨u,rfl⟩
 .exact .inl rfl
 .exact .inr (by rw[nF];exact hp)
theorem aDf(u:Nat):fN (Lib.decDigits u)=u:=by
 induction u using Nat.strongRecOn with
 |ind u ih=>
  rw[Lib.decDigits];split
  .rename_i h;have:([UInt8.ofNat (48+u)]:List UInt8)=[]++[UInt8.ofNat (48+u)]:=rfl;rw[this,aCk];have e:(UInt8.ofNat (48+u)).toNat=48+u:=by
    rw[yDA];omega
   rw[e];simp[fN]
  .rename_i h;rw[aCk,ih (u/10) ym];have e:(UInt8.ofNat (48+u%10)).toNat=48+u%10:=by
    rw[yDA];omega
   rw[e];omega
theorem oV(u:Nat):gE (Lib.decDigits u):=by
 induction u using Nat.strongRecOn with
 |ind u ih=>
  have key:∀k,k<10->cB ((UInt8.ofNat (48+k)).toNat:Int)=true:=by
   intro k hk;have e:(UInt8.ofNat (48+k)).toNat=48+k:=by
    rw[yDA];omega
   rw[e];simp only[cB,yAr,yBC];omega
  rw[Lib.decDigits];split
  .rename_i h;intro b hb;simp only[yBY]at hb;subst hb;exact key u h
  .rename_i h;intro b hb;rcases yBv.1 hb with hb|hb
   .exact ih (u/10) ym b hb
   .simp only[yBY]at hb;subst hb;exact key _ (yBj _ yx)
theorem PV(u:Nat):0<(Lib.decDigits u).length:=by
 rw[Lib.decDigits];split
 .simp
 .rw[yAa,yBh];omega
theorem SG:∀(k u:Nat),u<10^(k+1)->(Lib.decDigits u).length<=k+1
 |0,u,h=>by
  rw[Lib.decDigits,dif_pos ym];simp
 |k+1,u,h=>by
  rw[Lib.decDigits];split
  .simp
  .rw[yAa,yBh];have:=SG k (u/10) (by
    rw[Nat.pow_succ]at h;exact Nat.div_lt_of_lt_mul (by rw[Nat.mul_comm];exact h))
   omega
theorem aNU{n:Int}(h:cB n=true):mX n=false:=by
 cases hl:mX n with
 |false=>rfl
 |true=>rw[a0b hl]at h;cases h
theorem aHj{b:UInt8}(h:cB b.toNat=true):48<=b.toNat/\b.toNat<=57:=by
 simp only[cB,yAr,yBC]at h;omega
theorem PZ{w:Dr}(h:gE w)(h0:0<w.length):cB (pk w 0)=true:=by
 rw[pV h0];exact h _ (yAm h0)
theorem aHi{w:Dr}(h:gE w)(h0:0<w.length):48<=pk w 0/\pk w 0<=57:=by
 rw[pV h0];exact aHj (h _ (yAm h0))
theorem KX(n:Nat):Lib.itoa (n:Int)=Lib.decDigits n:=by
 unfold Lib.itoa;rw[yAI ym,yBk]
theorem itoa_neg{n:Nat}(h:0<n):Lib.itoa (-(n:Int))=45::Lib.decDigits n:=by
 unfold Lib.itoa;rw[yAJ ym];simp
theorem aZM{w:Dr}(h1:mX (pk w 0)=true)(h2:∀b∈w,oM b.toNat=true)(h3:w.length<=32){r:Dr}(hr:sp r):dM (w++r)=(⟨1,w,0,(0,0),0,0⟩,(w.length:Int),0):=by
 have h0:0<w.length:=yCE λe=>by
  rw[yAf e]at h1
  revert h1
  decide
 have hsp:=aHp (p:=oM) yx h2 hr;unfold dM;rw[yAJ (by rw[KY h0];exact h1),hsp,yAI ym,yCQ];rfl
theorem a0c{w:Dr}(h:gE w):Lib.trimPrefix w [45]=w:=by
 unfold Lib.trimPrefix;rw[yAI];intro hp;cases w with
 |nil=>simp[Lib.hasPrefix,List.isPrefixOf]at hp
 |cons b w=>
  simp only[Lib.hasPrefix,List.isPrefixOf,yCg,yBI]at hp;subst hp;have:=h 45 yo
  revert this
  decide
theorem a0d{w:Dr}:Lib.trimPrefix (45::w) [45]=w:=by
 unfold Lib.trimPrefix;rw[yAJ (by simp[Lib.hasPrefix,List.isPrefixOf])];rfl
theorem aNB{n:Nat}(h:n<=1000000000){r:Dr}(hr:sp r):dM (Lib.decDigits n++r)=(⟨2,Lib.decDigits n,n,(0,0),0,0⟩,((Lib.decDigits n).length:Int),0):=by
 have hd:=oV n;have h0:=PV n;have hv:=aDf n;have hi:=KX n;obtain⟨D,hD⟩:=gn (Lib.decDigits n);rw[hD]at hd h0 hv hi ⊢;have hp:=PZ hd h0;have hb:=aHi hd h0;have hsp:=aHp (p:=cB) yx hd hr;have hparts:(cT (D++r)).2=0:=by
  unfold cT;simp only[hsp,SI];rcases a0a hr with h|h<;>rw[h]<;>rfl
 have hnum:jK D=(⟨2,D,n,(0,0),0,0⟩,0):=by
  unfold jK;simp only[a0c hd,hv];rw[yAI ym,yAI ym,hi]
 unfold dM;rw[yAI (by rw[KY h0,aNU hp];simp),yAJ (by rw[KY h0];exact hp),yAI (by rw[hparts];decide),hsp,yCQ rfl,hnum]
theorem aNC{n:Nat}(h:n<=1000000000)(h1:0<n){r:Dr}(hr:sp r):dM ((45::Lib.decDigits n)++r)=(⟨2,45::Lib.decDigits n,-(n:Int),(0,0),0,0⟩,((Lib.decDigits n).length:Int)+1,0):=by
 have hd:=oV n;have h0:=PV n;have hv:=aDf n;have hi:=itoa_neg h1;obtain⟨D,hD⟩:=gn (Lib.decDigits n);rw[hD]at hd h0 hv hi ⊢;have hp:=PZ hd h0;have hsp:=aHp (p:=cB) yx hd hr;have hnum:jK (45::D)=(⟨2,45::D,-(n:Int),(0,0),0,0⟩,0):=by
  unfold jK;simp only[a0d,hv,nF];rw[yAI ym,yAJ yu,hi]
 have e0:pk (45::D++r) 0=45:=by rw[yAR,nF];rfl
 have e1:pk (45::D++r) 1=pk D 0:=by rw[yAR,WG,KY h0]
 have e2:(45::D++r).drop 1=D++r:=rfl;have e3:(45::D++r).take (1+D.length)=45::D:=by
  rw[yCq];simp
 unfold dM;rw[yAI (by rw[e0];decide),yAI (by rw[e0];decide),yAJ ⟨e0,by rw[e1];exact hp⟩,e2,hsp,e3,hnum];simp only[yAc,yBM,yAV];omega
theorem a0e{A r:Dr}(hA:gE A):cT (A++39::r)=((A,[],[]),(A.length:Int)+1):=by
 have hsp:dV cB (A++39::r)=A.length:=SJ hA (.inr Ad);unfold cT;simp only[hsp,SI,nF,yCQ rfl];rw[yAJ yu]
theorem a0f{A B r:Dr}(hA:gE A)(hB:gE B)(h0:0<B.length):cT (A++47::(B++39::r))=(([],A,B),(A.length:Int)+1+B.length+1):=by
 have hsp:dV cB (A++47::(B++39::r))=A.length:=SJ hA (.inr Ad);have NM:dV cB (B++39::r)=B.length:=SJ hB (.inr Ad);have hdrop:(A++47::(B++39::r)).drop (A.length+1)=B++39::r:=by
  rw[<-yBq,yDG rfl];rfl
 have hp:pk (A++47::(B++39::r)) (A.length+1+B.length)=39:=by
  rw[yCr,aAG,yCq 1,WG,SI,nF];rfl
 unfold cT;simp only[hsp,SI,nF,yCQ rfl,hdrop,NM,hp];rw[yAI yx,yAI yx,yAJ yu,yAJ ⟨ym,trivial⟩]
theorem a0g{W A B r:Dr}(hW:gE W)(hA:gE A)(hB:gE B)(h1:0<A.length)(h0:0<B.length) :
  cT (W++45::(A++47::(B++39::r)))=((W,A,B),(W.length:Int)+1+A.length+1+B.length+1):=by
 have hsp:dV cB (W++45::(A++47::(B++39::r)))=W.length:=SJ hW (.inr Ad);have a0h:dV cB (A++47::(B++39::r))=A.length:=SJ hA (.inr Ad);have NM:dV cB (B++39::r)=B.length:=SJ hB (.inr Ad);have hdrop:(W++45::(A++47::(B++39::r))).drop (W.length+1)=A++47::(B++39::r):=by
  rw[<-yBq,yDG rfl];rfl
 have a0i:(W++45::(A++47::(B++39::r))).drop (W.length+1+A.length+1)=B++39::r:=by
  rw[yCr,<-yBq,hdrop,<-yBq,yDG rfl];rfl
 have nS:pk (W++45::(A++47::(B++39::r))) (W.length+1+A.length)=47:=by
  rw[yCr,aAG,yCq 1,WG,SI,nF];rfl
 have hp:pk (W++45::(A++47::(B++39::r))) (W.length+1+A.length+1+B.length)=39:=by
  have e:W.length+1+A.length+1+B.length=W.length+((A.length+(B.length+1))+1):=ym;rw[e,aAG,WG,aAG,WG,SI,nF];rfl
 unfold cT;simp only[hsp,SI,nF,yCQ rfl,hdrop,a0i,a0h,NM,hp,nS];rw[yAI yx,yAJ yu,yAJ ⟨ym,trivial,ym,trivial⟩]
theorem a0j{x y:Nat}(hg:x.gcd y=1)(hx:x<=1000000)(hy:y<=1000000):j8 x y=(((x:Int),(y:Int)),0):=by
 unfold j8;rw[hg,Nat.div_one,Nat.div_one,yAI ym]
theorem WH{n:Nat}(h:n<=1000000):rC (Lib.decDigits n):=.inr (by rw[aDf];exact h)
theorem aAH(n d:Nat):wv (Lib.decDigits n) d=n:=by
 unfold wv;rw[yAI (λe=>by have:=PV n;rw[e]at this;simp at this),aDf]
theorem aHq(d:Nat):wv [] d=d:=by
 unfold wv;rw[yAJ rfl]
theorem aHr{p:G9}{x y:Nat}(h1:rC p.1)(h2:rC p.2.1)(h3:rC p.2.2)(hy:wv p.2.2 1=y)(hx:wv p.1 0*y+wv p.2.1 0=x)(hg:x.gcd y=1)(hx6:x<=1000000)(hy6:y<=1000000)(hy0:0<y) :
  iS p=(⟨3,iI x y++[39],0,((x:Int),(y:Int)),0,0⟩,0):=by
 unfold iS;rw[hy,hx,a0j hg hx6 hy6,yAI (λh=>by
  rcases h with h|h
  .exact h ⟨h1,h2,h3⟩
  .omega),yAI yo]
 simp only[yBk]
theorem aHs{s:Dr}(h:cB (pk s 0)=true)(hp:0<(cT s).2):dM s=((iS (cT s).1).1,(cT s).2,(iS (cT s).1).2):=by
 unfold dM;rw[yAI (by rw[aNU h];simp),yAJ h,yAJ hp]
theorem aAD{x y:Nat}(hg:x.gcd y=1)(hx:x<=1000000)(hy:y<=1000000)(hy0:0<y)(r:List UInt8) :
  dM (iI x y++[39]++r)=(⟨3,iI x y++[39],0,((x:Int),(y:Int)),0,0⟩,((iI x y++[39]).length:Int),0)/\cB (pk (iI x y) 0)=true/\(iI x y).length<=40/\(0<(iI x y).length)/\∀b∈iI x y,b≠10:=by
 have hd:∀n,∀b∈Lib.decDigits n,b≠10:=λn b hb e=>by
  have:=oV n b hb;subst e
  revert this
  decide
 have hq:x/y<=1000000:=yBe (yCU _ _) hx;have hm:x%y<y:=yBj _ hy0;have hxy:=Nat.div_add_mod x y;have l1:=SG 6 (x/y) ym;have l2:=SG 6 (x%y) ym;have l3:=SG 6 y ym;have n1:=PV (x/y);have n2:=PV (x%y);have n3:=PV y
 by_cases c1:x%y=0
 .have hy1:y=1:=by
   have:x.gcd y=y:=by rw[yDm,Nat.gcd_rec,c1,Nat.gcd_zero_left]
   omega
  have hF:iI x y=Lib.decDigits (x/y):=by
   unfold iI;rw[yAJ c1,KX]
  have hpar:=a0e (A:=Lib.decDigits (x/y)) (r:=r) (oV _);have hfe:=aHr (p:=(Lib.decDigits (x/y),[],[])) (x:=x) (y:=y) (WH hq) (.inl rfl) (.inl rfl) (by rw[aHq,hy1]) (by
   simp only[aAH,aHq];rw[hy1];simp) hg hx hy hy0
  rw[hF]at hfe ⊢;refine⟨?_,PZ (oV _) n1,ym,n1,hd _⟩;have e:Lib.decDigits (x/y)++[39]++r=Lib.decDigits (x/y)++39::r:=yo;rw[e,aHs (by rw[KY n1];exact PZ (oV _) n1) Ct,hpar,hfe];simp
 .by_cases c2:x/y=0
  .have hF:iI x y=Lib.decDigits (x%y)++[47]++Lib.decDigits y:=by
    unfold iI;rw[yAI c1,yAJ c2,KX,KX]
   have hpar:=a0f (A:=Lib.decDigits (x%y)) (B:=Lib.decDigits y) (r:=r) (oV _) (oV _) n3;have hfe:=aHr (p:=([],Lib.decDigits (x%y),Lib.decDigits y)) (x:=x) (y:=y) (.inl rfl) (WH ym) (WH hy) (by rw[aAH]) (by
    simp only[aAH,aHq];rw[c2]at hxy;simpa using hxy) hg hx hy hy0
   rw[hF]at hfe ⊢;have hpl:∀t,pk (Lib.decDigits (x%y)++t) 0=pk (Lib.decDigits (x%y)) 0:=λt=>KY n2
   refine⟨?_,?_,?_,?_,?_⟩
   .have e:Lib.decDigits (x%y)++[47]++Lib.decDigits y++[39]++r=Lib.decDigits (x%y)++47::(Lib.decDigits y++39::r):=by simp
    rw[e,aHs (by rw[hpl];exact PZ (oV _) n2) Ct,hpar,hfe];simp only[yAa,yBh,yAc,yBM,yAV];omega
   .rw[yAi,hpl];exact PZ (oV _) n2
   .exact qp
   .exact qp
   .intro b hb;simp only[yBv,yBY]at hb;rcases hb with(hb|rfl)|hb
    .exact hd _ b hb
    .decide
    .exact hd _ b hb
  .have hF:iI x y=Lib.decDigits (x/y)++[45]++(Lib.decDigits (x%y)++[47]++Lib.decDigits y):=by
    unfold iI;rw[yAI c1,yAI c2,KX,KX,KX]
   have hpar:=a0g (W:=Lib.decDigits (x/y)) (A:=Lib.decDigits (x%y)) (B:=Lib.decDigits y) (r:=r) (oV _) (oV _) (oV _) n2 n3;have hfe:=aHr (p:=(Lib.decDigits (x/y),Lib.decDigits (x%y),Lib.decDigits y)) (x:=x) (y:=y) (WH hq) (WH ym) (WH hy) (by rw[aAH]) (by
    simp only[aAH];rw[Nat.mul_comm];exact hxy) hg hx hy hy0
   rw[hF]at hfe ⊢;have hpl:∀t,pk (Lib.decDigits (x/y)++t) 0=pk (Lib.decDigits (x/y)) 0:=λt=>KY n1
   refine⟨?_,?_,?_,?_,?_⟩
   .have e:Lib.decDigits (x/y)++[45]++(Lib.decDigits (x%y)++[47]++Lib.decDigits y)++[39]++r=Lib.decDigits (x/y)++45::(Lib.decDigits (x%y)++47::(Lib.decDigits y++39::r)):=by simp
    rw[e,aHs (by rw[hpl];exact PZ (oV _) n1) Ct,hpar,hfe];simp only[yAa,yBh,yAc,yBM,yAV];omega
   .rw[yAi,hpl];exact PZ (oV _) n1
   .exact qp
   .exact qp
   .intro b hb;simp only[yBv,yBY]at hb;rcases hb with(hb|rfl)|((hb|rfl)|hb)
    .exact hd _ b hb
    .decide
    .exact hd _ b hb
    .decide
    .exact hd _ b hb
structure pC (t:Tk):Prop where
 k6:t.kind≠6
 pos:0<(fF t).length
 len:(fF t).length<=202
 nl:∀b∈fF t,b≠10
 h0:pk (fF t) 0≠37/\pk (fF t) 0≠32/\pk (fF t) 0≠9
 tok:∀r,sp r->(dM (fF t++r)).2=(((fF t).length:Int),0)/\K3 (dM (fF t++r)).1 t=true
theorem SF{t:Tk}{w:Dr}(hi:fF t=w)(k6:t.kind≠6)(pos:0<w.length)(len:w.length<=202)(nl:∀b∈w,b≠10)(h0:pk w 0≠37/\pk w 0≠32/\pk w 0≠9)(tok:∀r,sp r->dM (w++r)=(t,(w.length:Int),0)):pC t:=by
 subst hi;exact⟨k6,pos,len,nl,h0,λr hr=>by rw[tok r hr];exact⟨rfl,aZ9 t⟩⟩
theorem a0k{n d:Nat}(hd:d≠0):(j8 n d).2≠0\/∃x y:Nat,j8 n d=(((x:Int),(y:Int)),0)/\x.gcd y=1/\x<=1000000/\y<=1000000/\0<y:=by
 have hg:0<n.gcd d:=yCE λe=>hd (yDX e)
 unfold j8;split
 .exact .inl yo
 .rename_i h;have hle:n.gcd d<=d:=Nat.gcd_le_right _ ym;exact .inr ⟨_,_,rfl,Nat.coprime_div_gcd_div_gcd hg,ym,ym,Nat.div_pos hle hg⟩
theorem aZI{p:G9}(h:(iS p).2=0):pC (iS p).1:=by
 obtain⟨t,ht⟩:=gn ((iS p).1);rw[ht];unfold iS at h ht;split at h
 .cases h
 .rename_i c1;rw[yAI c1]at ht;split at h
  .cases h
  .rename_i c2;rw[yAI c2]at ht;have hy:wv p.2.2 1≠0:=λe=>c1 (.inr e)
   rcases a0k (n:=wv p.1 0*wv p.2.2 1+wv p.2.1 0) hy with e | ⟨x,y,e,hg,hx,hy6,hy0⟩
   .exact absurd e c2
   .rw[e]at ht;simp only[yBk]at ht;obtain⟨_,f2,f3,f4,f5⟩:=aAD hg hx hy6 hy0 [];have SD:pk (iI x y++[39]) 0=pk (iI x y) 0:=KY f4;have hb:=aHj (b:=(iI x y)[0]'f4) (by rw[<-pV f4];exact f2);rw[<-pV f4]at hb;refine SF (w:=iI x y++[39]) (by rw[<-ht];rfl) (by rw[<-ht];simp) yo Ab ?_ (by rw[SD];omega) ?_
    .exact lY
    .intro r _;rw[<-ht,(aAD hg hx hy6 hy0 r).1]
theorem aZJ{w:Dr}(h:(jK w).2=0):pC (jK w).1:=by
 have hd:∀n,∀b∈Lib.decDigits n,b≠10:=λn b hb e=>by
  have:=oV n b hb;subst e
  revert this
  decide
 obtain⟨t,ht⟩:=gn ((jK w).1);rw[ht];unfold jK at h ht;simp only at h ht;obtain⟨v,hv⟩:=gn (fN (Lib.trimPrefix w [45]));rw[hv]at h ht;split at h
 .cases h
 .rename_i c;rw[yAI c]at ht;have l1:=SG 9 v ym;have n1:=PV v;have pos:∀t:Tk,t=⟨2,Lib.itoa (v:Int),(v:Int),(0,0),0,0⟩->pC t:=by
   intro t ht;have hb:=aHi (oV v) n1;rw[KX]at ht;exact SF (w:=Lib.decDigits v) (by rw[ht];rfl) (by rw[ht];simp) n1 ym (hd v) ym λr hr=>by rw[aNB ym hr,ht]
  split at ht
  .by_cases fQ:v=0
   .subst fQ;exact pos t (by rw[<-ht];rfl)
   .have hi:=itoa_neg (n:=v) ym;rw[hi]at ht;refine SF (w:=45::Lib.decDigits v) (by rw[<-ht];rfl) (by rw[<-ht];simp) yo (by rw[yAK];omega) ?_ Ad λr hr=>by rw[aNC ym ym hr,<-ht];simp
    exact tc
  .exact pos t ht.symm
theorem aNQ:∀ {a b c d:List Tk},rG a b=true->rG c d=true->rG (a++c) (b++d)=true
 | [],[],_,_,_,h=>h
 |x::a,y::b,c,d,h,h'=>by
  simp only[rG,yAr,yAR]at h ⊢;exact⟨h.1,aNQ h.2 h'⟩
 | [],_::_,_,_,h,_=>zk
 |_::_,[],_,_,h,_=>zk
theorem aHk:∀ {l r:List Tk},rG l r=true->l.length=r.length
 | [],[],_=>rfl
 |_::l,_::r,h=>by
  simp only[rG,yAr]at h;simp[aHk h.2]
 | [],_::_,h=>zk
 |_::_,[],h=>zk
theorem aZ8:∀s t:List UInt8,iE (s++10::t)=iE s++iE t:=by
 intro s t
 induction s with
 |nil=>simp[iE]
 |cons b r ih=>
  simp only[yAR,iE,ih];split
  .simp
  .cases h:iE r with
   |nil=>exact absurd h (aK9 r)
   |cons x xs=>simp
def lI:List Tk->Dr
 | []=>[]
 |t::r=>fF t++(if r=[]then []else 32::lI r)
inductive aAE:List Tk->Prop
 |nil:aAE []
 |cons {x:List Tk} {e:Tk} {rest:List Tk}:x≠[]->(∀t∈x,pC t)->e.kind=6->e.text=[10]->e.num=0->e.bB=(0,0)->aAE rest->aAE (x++e::rest)
theorem aHn{e:Tk}{rest:List Tk}(he:e.kind=6):∀ {x:List Tk} {k:Option Int},x≠[]->(∀t∈x,pC t) ->
  NN k (x++e::rest)=(if k.isSome/\k≠some 6 then [32]else [])++(lI x++10::NN (some 6) rest)
 | [],_,h,_=>absurd rfl h
 | [t],k,_,hg=>by
   have ht:=(hg t yo).k6;have ie:fF e=[10]:=by simp[fF,he]
   rw[yAR,yAQ,NN,NN,ie,he];simp[lI,ht]
 |t::u::x,k,_,hg=>by
  have ht:=(hg t yo).k6;have ih:=aHn (rest:=rest) he (x:=u::x) (k:=some t.kind) yo λt ht=>hg t (by simp[ht])
  have hl:lI (t::u::x)=fF t++(32::lI (u::x)):=rfl;rw[yAR,NN,ih,hl];simp[ht]
theorem aNR:∀ {x:List Tk},(∀t∈x,pC t)->∀b∈lI x,b≠10
 | [],_,b,hb=>by simp[lI]at hb
 |t::x,hg,b,hb=>by
  rw[lI]at hb;rcases yBv.1 hb with hb|hb
  .exact(hg t yo).nl b hb
  .split at hb
   .simp at hb
   .rcases yAS.1 hb with rfl|hb
    .decide
    .exact aNR (λt ht=>hg t (by simp[ht])) b hb
theorem aNS:∀ {w:Dr},(∀b∈w,b≠10)->iE w=[w]
 | [],_=>rfl
 |b::w,h=>by
  unfold iE;rw[yAI (h b yo),aNS λc hc=>h c (by simp[hc])]
theorem aNT:∀(n:Nat) (x:List Tk) (ln cA:Int) (out:List Tk),(lI x).length<n->(∀t∈x,pC t)->out.length+x.length<=19999 ->
  ∃x' c,kQ n (lI x) ln cA out=(out++x',c,0)/\rG x' x=true
 |0,_,_,_,_,h,_,_=>absurd h (yDu _)
 |n+1,[],ln,cA,out,_,_,_=>⟨[],cA,by unfold kQ;rw[yAJ (.inl rfl)];simp,rfl⟩
 |n+1,t::x,ln,cA,out,hn,hg,hl=>by
  have ht:=hg t yo;have hpos:=ht.pos;obtain⟨R,hR⟩:∃R,(if x=[]then []else 32::lI x)=R:=⟨_,rfl⟩;have hsp:sp R:=by
   rw[<-hR];split
   .exact .inl rfl
   .exact .inr ⟨_,rfl⟩
  rw[lI,hR]at hn;rw[lI,hR];obtain⟨k1,k2⟩:=ht.tok R hsp;obtain⟨h1,h2,h3⟩:=ht.h0;have O4:pk (fF t++R) 0=pk (fF t) 0:=KY hpos;rw[yAa]at hn;rw[yAK]at hl;have ke:(dM (fF t++R)).2.2=0:=by rw[k1]
  have kl:(dM (fF t++R)).2.1=((fF t).length:Int):=by rw[k1]
  unfold kQ;rw[yAI (λh=>by
   rcases h with h|h
   .rw[List.append_eq_nil_iff]at h;rw[h.1]at hpos;simp at hpos
   .exact h1 (by rw[<-O4];exact h)),yAI (by rw[O4];exact λh=>h.elim h2 h3),yAI (by rw[ke];simp),yAI ym,kl,yBk,yDG rfl]
  have hst:K3 { (dM (fF t++R)).1 with line:=ln,cA:=cA } t=true:=k2;obtain⟨u,hu⟩:∃u:Tk,{ (dM (fF t++R)).1 with line:=ln,cA:=cA }=u:=⟨_,rfl⟩;rw[hu]at hst ⊢;cases x with
  |nil=>
   rw[yAJ rfl]at hR;subst hR;obtain⟨m,rfl⟩:∃m,n=m+1:=⟨n-1,ym⟩;refine⟨[u],cA+((fF t).length:Int),?_,?_⟩
   .unfold kQ;rw[yAJ (.inl rfl)]
   .rw[rG,hst];rfl
  |cons v x=>
   rw[yAI yo]at hR;subst hR;rw[yAK]at hn;obtain⟨m,rfl⟩:∃m,n=m+1:=⟨n-1,ym⟩;obtain⟨x',c,e1,e2⟩:=aNT m (v::x) ln (cA+((fF t).length:Int)+1) (out++[u]) ym (λt ht=>hg t (by simp[ht])) Ab;refine⟨u::x',c,?_,by rw[rG,hst,e2];rfl⟩;unfold kQ;have hp:pk (32::lI (v::x)) 0=32:=by rw[nF];rfl
   rw[yAI (by rw[hp];simp),yAJ (.inl hp)];have hd:(32::lI (v::x):List UInt8).drop 1=lI (v::x):=rfl;rw[hd,e1,yAi];rfl
theorem aZX{l:List Tk}(h:aAE l):∀(ln:Int) (out:List Tk),out.length+l.length<=19999->∃b,vR (iE (NN (some 6) l)) ln out=(out++b,(0,0),0)/\rG b l=true:=by
 induction h with
 |nil=>
  intro ln out _;exact⟨[],by simp[NN,iE,vR,kQ],rfl⟩
 | @cons x e rest hx hg k1 k2 k3 k4 _ ih=>
   intro ln out hl;rw[yAa,yAK]at hl;have hw:=aHn (rest:=rest) k1 (k:=some 6) hx hg;rw[hw,yAI yo,yAQ,aZ8,aNS (aNR hg),yAR,yAQ];obtain⟨x',c,e1,e2⟩:=aNT ((lI x).length+1) x ln 1 out ym hg ym;have hxl:=aHk e2;have hx0:0<x.length:=yBE.2 hx;obtain⟨b,e3,e4⟩:=ih (ln+1) (out++x'++[⟨6,[10],0,(0,0),ln,((lI x).length:Int)+1⟩]) (by simp only[yAa,yBh];omega);refine⟨x'++⟨6,[10],0,(0,0),ln,((lI x).length:Int)+1⟩::b,?_,?_⟩
   .unfold vR;rw[e1];simp only[ne_eq,yBr,yAO];rw[yAI Ae,yAI Ae,e3];simp
   .refine aNQ e2 ?_;rw[rG,e4];simp[K3,k1,k2,k3,k4]
end Go.Kz
