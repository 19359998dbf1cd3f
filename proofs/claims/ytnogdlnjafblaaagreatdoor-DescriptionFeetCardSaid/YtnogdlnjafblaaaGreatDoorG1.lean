/- Steps of the proof. -/
import Derived.Test.YtnogdlnjafblaaaGreatDoorP6
set_option linter.all false
set_option maxHeartbeats 40000000
set_option maxRecDepth 100000
namespace Go.Kz
open Go Go.Proofs
def tl(t:List UInt8):Prop:=t=[]\/∃u,t=10::u
theorem aVN{n:Int}(h:lS n=true):bT n=false:=by
 unfold lS at h;unfold bT;simp only[yBf,yAr,yBx]at h;simp only[Bool.and_eq_false_iff,decide_eq_false_iff_not];omega
theorem aKF{p:EY}:(gZ p).2=0->(gZ p).1.kind=3:=by
 unfold gZ;intro h;split
 .rename_i c;rw[yAJ c]at h;cases h
 .rename_i c;rw[yAI c]at h;split
  .rename_i c2;rw[yAJ c2]at h;cases h
  .rfl
theorem aKG{s:Bx}:(iR s).2=0->(iR s).1.kind=2:=by
 unfold iR;intro h;simp only at h ⊢;split
 .rename_i c;rw[yAJ c]at h;cases h
 .rfl
def Tk.place(t:Tk)(ln bR:Int):Tk:=⟨t.kind,t.text,t.num,t.cB,ln,bR⟩
def eP(t:Tk):List UInt8:=if t.kind=4 then [34]++t.text++[34]else if t.kind=6 then [10]else t.text
def KZ:Option Int->List Tk->Bx
 |_,[]=>[]
 |k,t::r=>(if k.isSome/\t.kind≠6/\k≠some 6 then [32]else [])++(eP t++KZ (some t.kind) r)
def IJ(a b:Tk):Bool:=decide (a.kind=b.kind)&&(decide (a.text=b.text)&&(decide (a.num=b.num)&&decide (a.cB=b.cB)))
def pS:List Tk->List Tk->Bool
 | [],[]=>true
 |a::l,b::r=>IJ a b&&pS l r
 |_,_=>false
theorem aVL(t:Tk):IJ t t=true:=by simp[IJ]
def sp(r:List UInt8):Prop:=r=[]\/∃u,r=32::u
theorem aVM{r:Bx}(h:sp r):pk r 0=0\/pk r 0=32:=by
 rcases h with rfl | ⟨u,rfl⟩
 .exact .inl (OK (yAk _))
 .exact .inr (by simp[pk])
theorem lX{b:UInt8}{r:Bx}:pk (b::r) 0=b.toNat:=by simp[pk]
theorem TB{b:UInt8}{r:Bx}{i:Nat}:pk (b::r) (i+1)=pk r i:=by simp[pk,List.getD]
theorem X0(w r:List UInt8)(i:Nat):pk (w++r) (w.length+i)=pk r i:=by
 induction w with
 |nil=>simp
 |cons b w ih=>
  have:(b::w).length+i=(w.length+i)+1:=by rw[yAK];omega
  rw[yAR,this,TB,ih]
theorem PE(w r:List UInt8):pk (w++r) w.length=pk r 0:=X0 w r 0
theorem II{w r:Bx}{i:Nat}(h:i<w.length):pk (w++r) i=pk w i:=by
 rw[oT yo,oT h,List.getElem_append_left h]
theorem PF{p:Int->Bool}{w r:Bx}(hw:∀b∈w,p b.toNat=true)(hr:r=[]\/p (pk r 0)=false):dG p (w++r)=w.length:=by
 induction w with
 |nil=>
  rcases hr with rfl|hr
  .rfl
  .cases r with
   |nil=>rfl
   |cons b r=>
    rw[lX]at hr;rw[yAQ,OL,yAI (by rw[hr];simp)];rfl
 |cons b w ih=>
  rw[yAR,OL,yAJ (hw b wz),ih λc hc=>hw c (by simp[hc]),yAK]
theorem aFi{p:Int->Bool}(hp:p 32=false){w r:Bx}(hw:∀b∈w,p b.toNat=true)(hr:sp r):dG p (w++r)=w.length:=by
 refine PF hw ?_;rcases hr with rfl | ⟨u,rfl⟩
 .exact .inl rfl
 .exact .inr (by rw[lX];exact hp)
theorem aBt(u:Nat):eX (Lib.decDigits u)=u:=by
 induction u using Nat.strongRecOn with
 |ind u ih=>
  rw[Lib.decDigits];split
  .rename_i h;have:([UInt8.ofNat (48+u)]:List UInt8)=[]++[UInt8.ofNat (48+u)]:=rfl;rw[this,aAH];have e:(UInt8.ofNat (48+u)).toNat=48+u:=by
    rw[yDq];omega
   rw[e];simp[eX]
  .rename_i h;rw[aAH,ih (u/10) xb];have e:(UInt8.ofNat (48+u%10)).toNat=48+u%10:=by
    rw[yDq];omega
   rw[e];omega
theorem nK(u:Nat):fN (Lib.decDigits u):=by
 induction u using Nat.strongRecOn with
 |ind u ih=>
  have key:∀k,k<10->bT ((UInt8.ofNat (48+k)).toNat:Int)=true:=by
   intro k hk;have e:(UInt8.ofNat (48+k)).toNat=48+k:=by
    rw[yDq];omega
   rw[e];simp only[bT,yAr,yBx];omega
  rw[Lib.decDigits];split
  .rename_i h;intro b hb;simp only[yC]at hb;subst hb;exact key u h
  .rename_i h;intro b hb;rcases yBn.1 hb with hb|hb
   .exact ih (u/10) xb b hb
   .simp only[yC]at hb;subst hb;exact key _ (yBZ _ xl)
theorem MS(u:Nat):0<(Lib.decDigits u).length:=by
 rw[Lib.decDigits];split
 .simp
 .rw[yAa,yBb];omega
theorem O7:∀(k u:Nat),u<10^(k+1)->(Lib.decDigits u).length<=k+1
 |0,u,h=>by
  rw[Lib.decDigits,dif_pos xb];simp
 |k+1,u,h=>by
  rw[Lib.decDigits];split
  .simp
  .rw[yAa,yBb];have:=O7 k (u/10) (by
    rw[Nat.pow_succ]at h;exact Nat.div_lt_of_lt_mul (by rw[Nat.mul_comm];exact h))
   omega
theorem aK1{n:Int}(h:bT n=true):lS n=false:=by
 cases hl:lS n with
 |false=>rfl
 |true=>rw[aVN hl]at h;cases h
theorem aFc{b:UInt8}(h:bT b.toNat=true):48<=b.toNat/\b.toNat<=57:=by
 simp only[bT,yAr,yBx]at h;omega
theorem MU{w:Bx}(h:fN w)(h0:0<w.length):bT (pk w 0)=true:=by
 rw[oT h0];exact h _ (yAm h0)
theorem aFb{w:Bx}(h:fN w)(h0:0<w.length):48<=pk w 0/\pk w 0<=57:=by
 rw[oT h0];exact aFc (h _ (yAm h0))
theorem IH(n:Nat):Lib.itoa (n:Int)=Lib.decDigits n:=by
 unfold Lib.itoa;rw[yAI xb,yBq]
theorem itoa_neg{n:Nat}(h:0<n):Lib.itoa (-(n:Int))=45::Lib.decDigits n:=by
 unfold Lib.itoa;rw[yAJ xb];simp
theorem aVr{w:Bx}(h1:lS (pk w 0)=true)(h2:∀b∈w,mZ b.toNat=true)(h3:w.length<=32){r:Bx}(hr:sp r):cY (w++r)=(⟨1,w,0,(0,0),0,0⟩,(w.length:Int),0):=by
 have h0:0<w.length:=yCu λe=>by
  rw[yAf e]at h1
  revert h1
  decide
 have hsp:=aFi (p:=mZ) xl h2 hr;unfold cY;rw[yAJ (by rw[II h0];exact h1),hsp,yAI xb,yCD];rfl
theorem aVO{w:Bx}(h:fN w):Lib.trimPrefix w [45]=w:=by
 unfold Lib.trimPrefix;rw[yAI];intro hp;cases w with
 |nil=>simp[Lib.hasPrefix,List.isPrefixOf]at hp
 |cons b w=>
  simp only[Lib.hasPrefix,List.isPrefixOf,yCc,yBA]at hp;subst hp;have:=h 45 wz
  revert this
  decide
theorem aVP{w:Bx}:Lib.trimPrefix (45::w) [45]=w:=by
 unfold Lib.trimPrefix;rw[yAJ (by simp[Lib.hasPrefix,List.isPrefixOf])];rfl
theorem aKI{n:Nat}(h:n<=1000000000){r:Bx}(hr:sp r):cY (Lib.decDigits n++r)=(⟨2,Lib.decDigits n,n,(0,0),0,0⟩,((Lib.decDigits n).length:Int),0):=by
 have hd:=nK n;have h0:=MS n;have hv:=aBt n;have hi:=IH n;obtain⟨D,hD⟩:=gn (Lib.decDigits n);rw[hD]at hd h0 hv hi ⊢;have hp:=MU hd h0;have hb:=aFb hd h0;have hsp:=aFi (p:=bT) xl hd hr;have hparts:(cE (D++r)).2=0:=by
  unfold cE;simp only[hsp,PE];rcases aVM hr with h|h<;>rw[h]<;>rfl
 have hnum:iR D=(⟨2,D,n,(0,0),0,0⟩,0):=by
  unfold iR;simp only[aVO hd,hv];rw[yAI xb,yAI xb,hi]
 unfold cY;rw[yAI (by rw[II h0,aK1 hp];simp),yAJ (by rw[II h0];exact hp),yAI (by rw[hparts];decide),hsp,yCD rfl,hnum]
theorem aKJ{n:Nat}(h:n<=1000000000)(h1:0<n){r:Bx}(hr:sp r):cY ((45::Lib.decDigits n)++r)=(⟨2,45::Lib.decDigits n,-(n:Int),(0,0),0,0⟩,((Lib.decDigits n).length:Int)+1,0):=by
 have hd:=nK n;have h0:=MS n;have hv:=aBt n;have hi:=itoa_neg h1;obtain⟨D,hD⟩:=gn (Lib.decDigits n);rw[hD]at hd h0 hv hi ⊢;have hp:=MU hd h0;have hsp:=aFi (p:=bT) xl hd hr;have hnum:iR (45::D)=(⟨2,45::D,-(n:Int),(0,0),0,0⟩,0):=by
  unfold iR;simp only[aVP,hv,lX];rw[yAI xb,yAJ xe,hi]
 have e0:pk (45::D++r) 0=45:=by rw[yAR,lX];rfl
 have e1:pk (45::D++r) 1=pk D 0:=by rw[yAR,TB,II h0]
 have e2:(45::D++r).drop 1=D++r:=rfl;have e3:(45::D++r).take (1+D.length)=45::D:=by
  rw[yCk];simp
 unfold cY;rw[yAI (by rw[e0];decide),yAI (by rw[e0];decide),yAJ ⟨e0,by rw[e1];exact hp⟩,e2,hsp,e3,hnum];simp only[yAc,yBI,yAW];omega
theorem aVQ{A r:Bx}(hA:fN A):cE (A++39::r)=((A,[],[]),(A.length:Int)+1):=by
 have hsp:dG bT (A++39::r)=A.length:=PF hA (.inr ym);unfold cE;simp only[hsp,PE,lX,yCD rfl];rw[yAJ xe]
theorem aVR{A B r:Bx}(hA:fN A)(hB:fN B)(h0:0<B.length):cE (A++47::(B++39::r))=(([],A,B),(A.length:Int)+1+B.length+1):=by
 have hsp:dG bT (A++47::(B++39::r))=A.length:=PF hA (.inr ym);have KY:dG bT (B++39::r)=B.length:=PF hB (.inr ym);have hdrop:(A++47::(B++39::r)).drop (A.length+1)=B++39::r:=by
  rw[<-yBk,yDy rfl];rfl
 have hp:pk (A++47::(B++39::r)) (A.length+1+B.length)=39:=by
  rw[yCm,X0,yCk 1,TB,PE,lX];rfl
 unfold cE;simp only[hsp,PE,lX,yCD rfl,hdrop,KY,hp];rw[yAI xl,yAI xl,yAJ xe,yAJ ⟨xb,trivial⟩]
theorem aVS{W A B r:Bx}(hW:fN W)(hA:fN A)(hB:fN B)(h1:0<A.length)(h0:0<B.length) :
  cE (W++45::(A++47::(B++39::r)))=((W,A,B),(W.length:Int)+1+A.length+1+B.length+1):=by
 have hsp:dG bT (W++45::(A++47::(B++39::r)))=W.length:=PF hW (.inr ym);have aVT:dG bT (A++47::(B++39::r))=A.length:=PF hA (.inr ym);have KY:dG bT (B++39::r)=B.length:=PF hB (.inr ym);have hdrop:(W++45::(A++47::(B++39::r))).drop (W.length+1)=A++47::(B++39::r):=by
  rw[<-yBk,yDy rfl];rfl
 have aVU:(W++45::(A++47::(B++39::r))).drop (W.length+1+A.length+1)=B++39::r:=by
  rw[yCm,<-yBk,hdrop,<-yBk,yDy rfl];rfl
 have mH:pk (W++45::(A++47::(B++39::r))) (W.length+1+A.length)=47:=by
  rw[yCm,X0,yCk 1,TB,PE,lX];rfl
 have hp:pk (W++45::(A++47::(B++39::r))) (W.length+1+A.length+1+B.length)=39:=by
  have e:W.length+1+A.length+1+B.length=W.length+((A.length+(B.length+1))+1):=xb;rw[e,X0,TB,X0,TB,PE,lX];rfl
 unfold cE;simp only[hsp,PE,lX,yCD rfl,hdrop,aVU,aVT,KY,hp,mH];rw[yAI xl,yAJ xe,yAJ ⟨xb,trivial,xb,trivial⟩]
theorem aVV{x y:Nat}(hg:x.gcd y=1)(hx:x<=1000000)(hy:y<=1000000):jI x y=(((x:Int),(y:Int)),0):=by
 unfold jI;rw[hg,Nat.div_one,Nat.div_one,yAI xb]
theorem TC{n:Nat}(h:n<=1000000):pM (Lib.decDigits n):=.inr (by rw[aBt];exact h)
theorem X1(n d:Nat):wv (Lib.decDigits n) d=n:=by
 unfold wv;rw[yAI (λe=>by have:=MS n;rw[e]at this;simp at this),aBt]
theorem aFj(d:Nat):wv [] d=d:=by
 unfold wv;rw[yAJ rfl]
theorem aFk{p:EY}{x y:Nat}(h1:pM p.1)(h2:pM p.2.1)(h3:pM p.2.2)(hy:wv p.2.2 1=y)(hx:wv p.1 0*y+wv p.2.1 0=x)(hg:x.gcd y=1)(hx6:x<=1000000)(hy6:y<=1000000)(hy0:0<y) :
  gZ p=(⟨3,gH x y++[39],0,((x:Int),(y:Int)),0,0⟩,0):=by
 unfold gZ;rw[hy,hx,aVV hg hx6 hy6,yAI (λh=>by
  rcases h with h|h
  .exact h ⟨h1,h2,h3⟩
  .omega),yAI wz]
 simp only[yBq]
theorem aFl{s:Bx}(h:bT (pk s 0)=true)(hp:0<(cE s).2):cY s=((gZ (cE s).1).1,(cE s).2,(gZ (cE s).1).2):=by
 unfold cY;rw[yAI (by rw[aK1 h];simp),yAJ h,yAJ hp]
theorem OV{x y:Nat}(hg:x.gcd y=1)(hx:x<=1000000)(hy:y<=1000000)(hy0:0<y)(r:List UInt8) :
  cY (gH x y++[39]++r)=(⟨3,gH x y++[39],0,((x:Int),(y:Int)),0,0⟩,((gH x y++[39]).length:Int),0)/\bT (pk (gH x y) 0)=true/\(gH x y).length<=40/\(0<(gH x y).length)/\∀b∈gH x y,b≠10:=by
 have hd:∀n,∀b∈Lib.decDigits n,b≠10:=λn b hb e=>by
  have:=nK n b hb;subst e
  revert this
  decide
 have hq:x/y<=1000000:=yBd (yCH _ _) hx;have hm:x%y<y:=yBZ _ hy0;have hxy:=Nat.div_add_mod x y;have l1:=O7 6 (x/y) xb;have l2:=O7 6 (x%y) xb;have l3:=O7 6 y xb;have n1:=MS (x/y);have n2:=MS (x%y);have n3:=MS y
 by_cases c1:x%y=0
 .have hy1:y=1:=by
   have:x.gcd y=y:=by rw[yDc,Nat.gcd_rec,c1,Nat.gcd_zero_left]
   omega
  have hF:gH x y=Lib.decDigits (x/y):=by
   unfold gH;rw[yAJ c1,IH]
  have hpar:=aVQ (A:=Lib.decDigits (x/y)) (r:=r) (nK _);have hfe:=aFk (p:=(Lib.decDigits (x/y),[],[])) (x:=x) (y:=y) (TC hq) (.inl rfl) (.inl rfl) (by rw[aFj,hy1]) (by
   simp only[X1,aFj];rw[hy1];simp) hg hx hy hy0
  rw[hF]at hfe ⊢;refine⟨?_,MU (nK _) n1,xb,n1,hd _⟩;have e:Lib.decDigits (x/y)++[39]++r=Lib.decDigits (x/y)++39::r:=wz;rw[e,aFl (by rw[II n1];exact MU (nK _) n1) Bc,hpar,hfe];simp
 .by_cases c2:x/y=0
  .have hF:gH x y=Lib.decDigits (x%y)++[47]++Lib.decDigits y:=by
    unfold gH;rw[yAI c1,yAJ c2,IH,IH]
   have hpar:=aVR (A:=Lib.decDigits (x%y)) (B:=Lib.decDigits y) (r:=r) (nK _) (nK _) n3;have hfe:=aFk (p:=([],Lib.decDigits (x%y),Lib.decDigits y)) (x:=x) (y:=y) (.inl rfl) (TC xb) (TC hy) (by rw[X1]) (by
    simp only[X1,aFj];rw[c2]at hxy;simpa using hxy) hg hx hy hy0
   rw[hF]at hfe ⊢;have hpl:∀t,pk (Lib.decDigits (x%y)++t) 0=pk (Lib.decDigits (x%y)) 0:=λt=>II n2
   refine⟨?_,?_,?_,?_,?_⟩
   .have e:Lib.decDigits (x%y)++[47]++Lib.decDigits y++[39]++r=Lib.decDigits (x%y)++47::(Lib.decDigits y++39::r):=by simp
    rw[e,aFl (by rw[hpl];exact MU (nK _) n2) Bc,hpar,hfe];simp only[yAa,yBb,yAc,yBI,yAW];omega
   .rw[yAi,hpl];exact MU (nK _) n2
   .exact ow
   .exact ow
   .intro b hb;simp only[yBn,yC]at hb;rcases hb with(hb|rfl)|hb
    .exact hd _ b hb
    .decide
    .exact hd _ b hb
  .have hF:gH x y=Lib.decDigits (x/y)++[45]++(Lib.decDigits (x%y)++[47]++Lib.decDigits y):=by
    unfold gH;rw[yAI c1,yAI c2,IH,IH,IH]
   have hpar:=aVS (W:=Lib.decDigits (x/y)) (A:=Lib.decDigits (x%y)) (B:=Lib.decDigits y) (r:=r) (nK _) (nK _) (nK _) n2 n3;have hfe:=aFk (p:=(Lib.decDigits (x/y),Lib.decDigits (x%y),Lib.decDigits y)) (x:=x) (y:=y) (TC hq) (TC xb) (TC hy) (by rw[X1]) (by
    simp only[X1];rw[Nat.mul_comm];exact hxy) hg hx hy hy0
   rw[hF]at hfe ⊢;have hpl:∀t,pk (Lib.decDigits (x/y)++t) 0=pk (Lib.decDigits (x/y)) 0:=λt=>II n1
   refine⟨?_,?_,?_,?_,?_⟩
   .have e:Lib.decDigits (x/y)++[45]++(Lib.decDigits (x%y)++[47]++Lib.decDigits y)++[39]++r=Lib.decDigits (x/y)++45::(Lib.decDigits (x%y)++47::(Lib.decDigits y++39::r)):=by simp
    rw[e,aFl (by rw[hpl];exact MU (nK _) n1) Bc,hpar,hfe];simp only[yAa,yBb,yAc,yBI,yAW];omega
   .rw[yAi,hpl];exact MU (nK _) n1
   .exact ow
   .exact ow
   .intro b hb;simp only[yBn,yC]at hb;rcases hb with(hb|rfl)|((hb|rfl)|hb)
    .exact hd _ b hb
    .decide
    .exact hd _ b hb
    .decide
    .exact hd _ b hb
structure oC (t:Tk):Prop where
 k6:t.kind≠6
 pos:0<(eP t).length
 len:(eP t).length<=202
 nl:∀b∈eP t,b≠10
 h0:pk (eP t) 0≠37/\pk (eP t) 0≠32/\pk (eP t) 0≠9
 tok:∀r,sp r->(cY (eP t++r)).2=(((eP t).length:Int),0)/\IJ (cY (eP t++r)).1 t=true
theorem O6{t:Tk}{w:Bx}(hi:eP t=w)(k6:t.kind≠6)(pos:0<w.length)(len:w.length<=202)(nl:∀b∈w,b≠10)(h0:pk w 0≠37/\pk w 0≠32/\pk w 0≠9)(tok:∀r,sp r->cY (w++r)=(t,(w.length:Int),0)):oC t:=by
 subst hi;exact⟨k6,pos,len,nl,h0,λr hr=>by rw[tok r hr];exact⟨rfl,aVL t⟩⟩
theorem aVW{n d:Nat}(hd:d≠0):(jI n d).2≠0\/∃x y:Nat,jI n d=(((x:Int),(y:Int)),0)/\x.gcd y=1/\x<=1000000/\y<=1000000/\0<y:=by
 have hg:0<n.gcd d:=yCu λe=>hd (yDL e)
 unfold jI;split
 .exact .inl wz
 .rename_i h;have hle:n.gcd d<=d:=Nat.gcd_le_right _ xb;exact .inr ⟨_,_,rfl,Nat.coprime_div_gcd_div_gcd hg,xb,xb,Nat.div_pos hle hg⟩
theorem aVn{p:EY}(h:(gZ p).2=0):oC (gZ p).1:=by
 obtain⟨t,ht⟩:=gn ((gZ p).1);rw[ht];unfold gZ at h ht;split at h
 .cases h
 .rename_i c1;rw[yAI c1]at ht;split at h
  .cases h
  .rename_i c2;rw[yAI c2]at ht;have hy:wv p.2.2 1≠0:=λe=>c1 (.inr e)
   rcases aVW (n:=wv p.1 0*wv p.2.2 1+wv p.2.1 0) hy with e | ⟨x,y,e,hg,hx,hy6,hy0⟩
   .exact absurd e c2
   .rw[e]at ht;simp only[yBq]at ht;obtain⟨_,f2,f3,f4,f5⟩:=OV hg hx hy6 hy0 [];have O3:pk (gH x y++[39]) 0=pk (gH x y) 0:=II f4;have hb:=aFc (b:=(gH x y)[0]'f4) (by rw[<-oT f4];exact f2);rw[<-oT f4]at hb;refine O6 (w:=gH x y++[39]) (by rw[<-ht];rfl) (by rw[<-ht];simp) wz ye ?_ (by rw[O3];omega) ?_
    .exact ki
    .intro r _;rw[<-ht,(OV hg hx hy6 hy0 r).1]
theorem aVo{w:Bx}(h:(iR w).2=0):oC (iR w).1:=by
 have hd:∀n,∀b∈Lib.decDigits n,b≠10:=λn b hb e=>by
  have:=nK n b hb;subst e
  revert this
  decide
 obtain⟨t,ht⟩:=gn ((iR w).1);rw[ht];unfold iR at h ht;simp only at h ht;obtain⟨v,hv⟩:=gn (eX (Lib.trimPrefix w [45]));rw[hv]at h ht;split at h
 .cases h
 .rename_i c;rw[yAI c]at ht;have l1:=O7 9 v xb;have n1:=MS v;have pos:∀t:Tk,t=⟨2,Lib.itoa (v:Int),(v:Int),(0,0),0,0⟩->oC t:=by
   intro t ht;have hb:=aFb (nK v) n1;rw[IH]at ht;exact O6 (w:=Lib.decDigits v) (by rw[ht];rfl) (by rw[ht];simp) n1 xb (hd v) xb λr hr=>by rw[aKI xb hr,ht]
  split at ht
  .by_cases gV:v=0
   .subst gV;exact pos t (by rw[<-ht];rfl)
   .have hi:=itoa_neg (n:=v) xb;rw[hi]at ht;refine O6 (w:=45::Lib.decDigits v) (by rw[<-ht];rfl) (by rw[<-ht];simp) wz (by rw[yAK];omega) ?_ ym λr hr=>by rw[aKJ xb xb hr,<-ht];simp
    exact qp
  .exact pos t ht.symm
theorem aKX:∀ {a b c d:List Tk},pS a b=true->pS c d=true->pS (a++c) (b++d)=true
 | [],[],_,_,_,h=>h
 |x::a,y::b,c,d,h,h'=>by
  simp only[pS,yAr,yAR]at h ⊢;exact⟨h.1,aKX h.2 h'⟩
 | [],_::_,_,_,h,_=>xz
 |_::_,[],_,_,h,_=>xz
theorem aFd:∀ {l r:List Tk},pS l r=true->l.length=r.length
 | [],[],_=>rfl
 |_::l,_::r,h=>by
  simp only[pS,yAr]at h;simp[aFd h.2]
 | [],_::_,h=>xz
 |_::_,[],h=>xz
theorem aKr:∀s t:List UInt8,gB (s++10::t)=gB s++gB t:=by
 intro s t
 induction s with
 |nil=>simp[gB]
 |cons b r ih=>
  simp only[yAR,gB,ih];split
  .simp
  .cases h:gB r with
   |nil=>exact absurd h (aIL r)
   |cons x xs=>simp
def j4:List Tk->Bx
 | []=>[]
 |t::r=>eP t++(if r=[]then []else 32::j4 r)
inductive XY:List Tk->Prop
 |nil:XY []
 |cons {x:List Tk} {e:Tk} {rest:List Tk}:x≠[]->(∀t∈x,oC t)->e.kind=6->e.text=[10]->e.num=0->e.cB=(0,0)->XY rest->XY (x++e::rest)
theorem aFg{e:Tk}{rest:List Tk}(he:e.kind=6):∀ {x:List Tk} {k:Option Int},x≠[]->(∀t∈x,oC t) ->
  KZ k (x++e::rest)=(if k.isSome/\k≠some 6 then [32]else [])++(j4 x++10::KZ (some 6) rest)
 | [],_,h,_=>absurd rfl h
 | [t],k,_,hg=>by
   have ht:=(hg t wz).k6;have ie:eP e=[10]:=by simp[eP,he]
   rw[yAR,yAQ,KZ,KZ,ie,he];simp[j4,ht]
 |t::u::x,k,_,hg=>by
  have ht:=(hg t wz).k6;have ih:=aFg (rest:=rest) he (x:=u::x) (k:=some t.kind) wz λt ht=>hg t (by simp[ht])
  have hl:j4 (t::u::x)=eP t++(32::j4 (u::x)):=rfl;rw[yAR,KZ,ih,hl];simp[ht]
theorem aKY:∀ {x:List Tk},(∀t∈x,oC t)->∀b∈j4 x,b≠10
 | [],_,b,hb=>by simp[j4]at hb
 |t::x,hg,b,hb=>by
  rw[j4]at hb;rcases yBn.1 hb with hb|hb
  .exact(hg t wz).nl b hb
  .split at hb
   .simp at hb
   .rcases yAS.1 hb with rfl|hb
    .decide
    .exact aKY (λt ht=>hg t (by simp[ht])) b hb
theorem aKZ:∀ {w:Bx},(∀b∈w,b≠10)->gB w=[w]
 | [],_=>rfl
 |b::w,h=>by
  unfold gB;rw[yAI (h b wz),aKZ λc hc=>h c (by simp[hc])]
theorem aK0:∀(n:Nat) (x:List Tk) (ln bR:Int) (out:List Tk),(j4 x).length<n->(∀t∈x,oC t)->out.length+x.length<=19999 ->
  ∃x' c,jK n (j4 x) ln bR out=(out++x',c,0)/\pS x' x=true
 |0,_,_,_,_,h,_,_=>absurd h (yDk _)
 |n+1,[],ln,bR,out,_,_,_=>⟨[],bR,by unfold jK;rw[yAJ (.inl rfl)];simp,rfl⟩
 |n+1,t::x,ln,bR,out,hn,hg,hl=>by
  have ht:=hg t wz;have hpos:=ht.pos;obtain⟨R,hR⟩:∃R,(if x=[]then []else 32::j4 x)=R:=⟨_,rfl⟩;have hsp:sp R:=by
   rw[<-hR];split
   .exact .inl rfl
   .exact .inr ⟨_,rfl⟩
  rw[j4,hR]at hn;rw[j4,hR];obtain⟨k1,k2⟩:=ht.tok R hsp;obtain⟨h1,h2,h3⟩:=ht.h0;have L7:pk (eP t++R) 0=pk (eP t) 0:=II hpos;rw[yAa]at hn;rw[yAK]at hl;have ke:(cY (eP t++R)).2.2=0:=by rw[k1]
  have kl:(cY (eP t++R)).2.1=((eP t).length:Int):=by rw[k1]
  unfold jK;rw[yAI (λh=>by
   rcases h with h|h
   .rw[List.append_eq_nil_iff]at h;rw[h.1]at hpos;simp at hpos
   .exact h1 (by rw[<-L7];exact h)),yAI (by rw[L7];exact λh=>h.elim h2 h3),yAI (by rw[ke];simp),yAI xb,kl,yBq,yDy rfl]
  have hst:IJ { (cY (eP t++R)).1 with line:=ln,bR:=bR } t=true:=k2;obtain⟨u,hu⟩:∃u:Tk,{ (cY (eP t++R)).1 with line:=ln,bR:=bR }=u:=⟨_,rfl⟩;rw[hu]at hst ⊢;cases x with
  |nil=>
   rw[yAJ rfl]at hR;subst hR;obtain⟨m,rfl⟩:∃m,n=m+1:=⟨n-1,xb⟩;refine⟨[u],bR+((eP t).length:Int),?_,?_⟩
   .unfold jK;rw[yAJ (.inl rfl)]
   .rw[pS,hst];rfl
  |cons v x=>
   rw[yAI wz]at hR;subst hR;rw[yAK]at hn;obtain⟨m,rfl⟩:∃m,n=m+1:=⟨n-1,xb⟩;obtain⟨x',c,e1,e2⟩:=aK0 m (v::x) ln (bR+((eP t).length:Int)+1) (out++[u]) xb (λt ht=>hg t (by simp[ht])) ye;refine⟨u::x',c,?_,by rw[pS,hst,e2];rfl⟩;unfold jK;have hp:pk (32::j4 (v::x)) 0=32:=by rw[lX];rfl
   rw[yAI (by rw[hp];simp),yAJ (.inl hp)];have hd:(32::j4 (v::x):List UInt8).drop 1=j4 (v::x):=rfl;rw[hd,e1,yAi];rfl
theorem aVA{l:List Tk}(h:XY l):∀(ln:Int) (out:List Tk),out.length+l.length<=19999->∃b,oB (gB (KZ (some 6) l)) ln out=(out++b,(0,0),0)/\pS b l=true:=by
 induction h with
 |nil=>
  intro ln out _;exact⟨[],by simp[KZ,gB,oB,jK],rfl⟩
 | @cons x e rest hx hg k1 k2 k3 k4 _ ih=>
   intro ln out hl;rw[yAa,yAK]at hl;have hw:=aFg (rest:=rest) k1 (k:=some 6) hx hg;rw[hw,yAI wz,yAQ,aKr,aKZ (aKY hg),yAR,yAQ];obtain⟨x',c,e1,e2⟩:=aK0 ((j4 x).length+1) x ln 1 out xb hg xb;have hxl:=aFd e2;have hx0:0<x.length:=yBu.2 hx;obtain⟨b,e3,e4⟩:=ih (ln+1) (out++x'++[⟨6,[10],0,(0,0),ln,((j4 x).length:Int)+1⟩]) (by simp only[yAa,yBb];omega);refine⟨x'++⟨6,[10],0,(0,0),ln,((j4 x).length:Int)+1⟩::b,?_,?_⟩
   .unfold oB;rw[e1];simp only[ne_eq,yBt,yAN];rw[yAI yo,yAI yo,e3];simp
   .refine aKX e2 ?_;rw[pS,e4];simp[IJ,k1,k2,k3,k4]
end Go.Kz
