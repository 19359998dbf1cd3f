/- Steps of the proof. -/
import Derived.Test.YtnogdlnjafblaaaGreatDoorP7
import Derived.Test.YtnogdlnjafblaaaGreatDoorP3
set_option linter.all false
set_option maxHeartbeats 40000000
set_option maxRecDepth 100000
open Go.Proofs.Tryz
namespace Go.Kz
open Go Go.Proofs
structure fD (aR σ:List U) (tok:Tok) (e:TypeId) (k n:Nat):Prop where
 row:iL σ tok e k n
 ge:∀id,tok=.own id->aR.length<=id
theorem fD.nil{aR σ:Bv}{e:TypeId}{k:Nat}:fD aR σ .full e k 0:=⟨.inl ⟨rfl,rfl⟩,λ_ e=>xx⟩
theorem fD.more{aR σ τ:Bv}{tok:Tok}{e:TypeId}{k n:Nat}(h:fD aR σ tok e k n):fD aR (σ++τ) tok e k n:=⟨h.row.more,h.ge⟩
theorem fD.call{aR σ σ':Bv}{r:PD}{l:List Tk}{q:Nat}{K:List (Nat×U)}{tok:Tok}{e:TypeId}{k n:Nat}(h:fD aR σ tok e k n)(hS:eQ aR r l σ q K)(hk:dH r σ σ'):fD aR σ' tok e k n:=
 ⟨h.row.LQ λid _ e1 e2=>hk id _ (hS.nr id (h.ge id e1)) e2,h.ge⟩
theorem fD.set{aR σ:Bv}{r:PD}{l:List Tk}{q:Nat}{K:List (Nat×U)}{tok:Tok}{e:TypeId}{k n i:Nat}{p:PD}{o:U}(h:fD aR σ tok e k n)(hS:eQ aR r l σ q K)(hi:(i,U.box p)∈K):fD aR (σ.set i o) tok e k n:=
 ⟨SU h.row (hS.ks _ hi).1,h.ge⟩
theorem fD.push{P:Program}{aR σ:Bv}{r:PD}{l:List Tk}{q:Nat}{K:List (Nat×U)}{t e:TypeId}{k b s:Nat}{xs:Bw}{p:PD}{tk tok:Tok}(h:fD aR σ tok e k xs.length)(hS:eQ aR r l σ q K)(hK:∀p∈K,∃o,p.2=U.box o)(hK0:K≠[])
  (hu:P.underlying t=some (.slice e)) (hi:J0 P e=some (k,b)) (hs:xs=[]\/s=k) (hm:xs.length+1<=100000000000000) (hb:(xs.length+1)*b<=140737488355328) :
  ∃bY σ',dV P 0 σ t (.slice s xs tok) (.slice k [p] tk)=some (.slice k (xs++[p]) bY,σ')/\fD aR σ' bY e k (xs.length+1)/\eQ aR r l σ' q K /\
   ∀dU e2 k2 n2,(∀id,dU=.own id->tok≠.own id)->fD aR σ dU e2 k2 n2->fD aR σ' dU e2 k2 n2/\∀id,dU=.own id->bY≠.own id:=by
 obtain⟨bY,σ',h1,h2,h3,h4⟩:=JZ (tk:=tk) (p:=p) hu hi hs h.row hm hb;have hks:∀p∈K,σ'[p.1]?=some p.2/\aR.length<=p.1:=λp hp=>by
  exact js
 have hlen:aR.length<=σ'.length:=by
  obtain⟨x,K',rfl⟩:∃x K',K=x::K':=by
   exact qu
  obtain⟨a1,a2⟩:=hks x wz;have:=(yA.1 a1).1;omega
 refine⟨bY,σ',h1,⟨h2,λid e1=>?_⟩,⟨?_,hS.le,λj o hj ho=>?_,hlen,hks,hS.nr⟩,λdU e2 k2 n2 hd h5=>⟨⟨h5.row.LQ λid o e1 e3=>h3 id o (hd id e1) e3,h5.ge⟩,λid e1 e3=>?_⟩⟩
 .exact ri
 .exact mh
 .refine h3 _ _ (λe1=>?_) (hS.kp j o hj ho);have:=h.ge j e1;have:=(yA.1 ho).1;omega
 .exact eg
theorem IF{q:Tk->Bool}{l:List Tk}{n:Nat}(h:(bK q l n).1.2=true):∃t,l[n]?=some t/\q t=true/\bK q l n=((t,true),n+1):=by
 unfold bK at h ⊢;split
 .rename_i t ht;rw[ht]at h;simp only at h;split
  .rename_i h2;exact⟨t,ht,h2,rfl⟩
  .rename_i h2;rw[yAI h2]at h;cases h
 .rename_i ht;rw[ht]at h;cases h
theorem aWt{q:Tk->Bool}{l:List Tk}{n:Nat}{t:Tk}(h:(bK q l n).1.2=false)(ht:l[n]?=some t):q t=false:=by
 unfold bK at h;rw[ht]at h;simp only at h;split at h
 .cases h
 .rename_i h2;simpa using h2
theorem aWu{l:List Tk}{n:Nat}(h:(bK (λt=>decide (t.kind=2)) l n).1.2=true):∃t,bK (λt=>decide (t.kind=2)) l n=((t,true),n+1)/\n<l.length/\mR (l.drop n)=t.num::mR (l.drop (n+1)):=by
 obtain⟨t,h1,h2,h3⟩:=IF h;have hl:=(yA.1 h1).1;refine⟨t,h3,hl,?_⟩;rw[yAq hl];have h4:l[n]=t:=by
  rw[yAh hl]at h1;exact yBr h1
 rw[h4]
 conv=>lhs;unfold mR
 rw[yAJ Aj]
theorem aWv{l:List Tk}{n:Nat}(h:(bK (λt=>decide (t.kind=2)) l n).1.2=false):mR (l.drop n)=[]:=by
 rcases yBy n l.length with hl|hl
 .rw[yAq hl];have h4:=aWt h (yAh hl);unfold mR;rw[yAI (by simpa using h4)]
 .rw[yAs hl];rfl
def l8{α:Type}(w:List UInt8)(body:Pm α)(l:List Tk)(X:Except Fl (List α×Nat))(ac:List α)(nn:Nat):Prop:=ac.length<=nn/\∃f,X=nJ w body f ac l nn/\l.length+1<=f+nn
theorem l8.start{α:Type}{w:Bx}{body:Pm α}{l:List Tk}{n:Nat}:l8 w body l (nI w body l n) [] n:=⟨wz,l.length+1-n,rfl,xb⟩
theorem l8.ok{α:Type}{w:Bx}{body:Pm α}{l:List Tk}{X:Except Fl (List α×Nat)}{ac:List α}{nn n' n2:Nat}{t:Tk}{a:α}(h:l8 w body l X ac nn)(hn:nn<=l.length)(hF:aP body)(ht:bK (isWord 1 w) l nn=((t,true),n'))(hx:body l n'=.ok (a,n2)) :
  l8 w body l X (ac++[a]) n2/\nn<n2/\n2<=l.length:=by
 obtain⟨ha,f,rfl,hf⟩:=h;obtain⟨t',h1,_,h3⟩:=IF (q:=isWord 1 w) (l:=l) (n:=nn) (by rw[ht]);rw[ht]at h3;simp only[yAc]at h3;obtain⟨_,rfl⟩:=h3;have hl:=(yA.1 h1).1;obtain⟨h4,h5⟩:=hF l (nn+1) a n2 xb hx;obtain⟨f,rfl⟩:∃g,f=g+1:=⟨f-1,xb⟩;refine⟨⟨by simp only[yAa,yBb];omega,f,?_,xb⟩,xb,h5⟩
 conv=>lhs;unfold nJ
 rw[ht];simp only[yAM,hx]
theorem l8.er{α:Type}{w:Bx}{body:Pm α}{l:List Tk}{X:Except Fl (List α×Nat)}{ac:List α}{nn n':Nat}{t:Tk}{e:Fl}(h:l8 w body l X ac nn)(hn:nn<=l.length)(ht:bK (isWord 1 w) l nn=((t,true),n'))(hx:body l n'=.error e):X=.error e:=by
 obtain⟨ha,f,rfl,hf⟩:=h;obtain⟨f,rfl⟩:∃g,f=g+1:=⟨f-1,xb⟩;unfold nJ;rw[ht];simp only[yAM,hx]
theorem l8.stop{α:Type}{w:Bx}{body:Pm α}{l:List Tk}{X:Except Fl (List α×Nat)}{ac:List α}{nn:Nat}(h:l8 w body l X ac nn)(hn:nn<=l.length)(ht:(bK (isWord 1 w) l nn).1.2=false):X=.ok (ac,nn):=by
 obtain⟨ha,f,rfl,hf⟩:=h;obtain⟨f,rfl⟩:∃g,f=g+1:=⟨f-1,xb⟩;unfold nJ;rw[ht];rfl
section
set_option maxRecDepth 10000
variable{E:aE}(hU:aF E)
include hU
theorem aTI(h0:E 57=none)(l:List bA)(hl:l.length<=100000):aI prog E 57 [bM.aA l] (texts.aA (l.map bA.name)):=by
 refine aI.aU 19 h0 func57 (h:=?_);refine aD trivial ?_;refine Wp.eV (λm fr σ=>∃(i z:Nat) (tok:Tok) (σ1:List U),∃gg:Nat->PD,(i+m=l.length/\(i=0\/z=1)/\iL σ1 tok 9 1 i)/\fr=[gg 0,gg 1,gg 2,.slice z (((l.take i).map bA.name).map PD.str) tok,gg 4,gg 5,bM.aA l,.int .i64 l.length,.int .i64 i,gg 9,gg 10,gg 11,gg 12,gg 13,gg 14,gg 15,gg 16,gg 17,gg 18]/\σ=σ1) ?_ (l.length) (by refine⟨0,0,.full,[],?_⟩;exact cG (⟨xb,.inl rfl,.inl ⟨rfl,rfl⟩⟩))
 rintro m fr σ ⟨i,z,tok,σ1,gg,hI,rfl,rfl⟩
 obtain⟨hm,hz,hrow⟩:=hI;obtain⟨u1,v1,w1⟩:=bH σ
 by_cases hi:i<l.length
 .have q1:(i:Int)<(l.length:Int):=by omega
  obtain⟨a,ha⟩:=gn (l[i]);have htk:(l.take (i+1)).map bA.name=(l.take i).map bA.name++[a.name]:=by
   rw[yBV hi,yAH,ha];rfl
  obtain⟨a1,a2,a3,a4,a5,a6⟩:=a;have eH:=hrow.more (τ:=[.box (.agg [.str a1,.str a2,.int .i64 a3,.int .i64 a4,.int .i64 a5,.slice (sz 1 a6) (a6.map i64.aA) .any])]);obtain⟨A,hA⟩:=gn (((l.take i).map bA.name).map PD.str);have hAl:A.length=i:=by rw[<-hA,yAe,yAe,yAt];omega
  obtain⟨bY,fI,hap,hr',hkeep,hnew⟩:=JZ (P:=prog) (t:=55) (e:=9) (k:=1) (b:=16) (s:=z) (xs:=A) (p:=.str a1) (tk:=.any) (tok:=tok)
   underlying55 xg (hz.imp (λh=>yAf xb) id) (by rw[hAl];exact eH) xb xb
  rw[hAl]at hr';have hA2:((l.take (i+1)).map bA.name).map PD.str=A++[.str a1]:=by rw[htk,yAH,hA];rfl
  have hA3:=hA2;simp only[yBo,yD]at hA3;rw[hA];refine aD (A7 q1 hi ha u1 @v1 w1 hap) ?_;refine aM.normal (m-1) xb (by refine⟨i+1,1,bY,fI,?_⟩;exact jV (⟨xb,.inr rfl,hr'⟩) @hA3)
 .have q1:¬(i:Int)<(l.length:Int):=by omega
  obtain rfl:i=l.length:=xb;rw[yBz];have hst:(PD.slice z ((l.map bA.name).map PD.str) tok).strip=texts.aA (l.map bA.name):=by
   rw[PD.nQ,show((l.map bA.name).map PD.str).map PD.strip=(l.map bA.name).map PD.str by rw[yBo];rfl];rcases hz with h|h
   .have:l=[]:=yAf h;subst this;rfl
   .exact ck
  obtain⟨Y,hY⟩:=gn (PD.slice z ((l.map bA.name).map PD.str) tok);exact me
end
section
noncomputable def lW:j6:=λargs=>match args with
 | [.agg [.ptr b 0],s]=>(match texts.dec s with|some ns=>bJ (ns.length<=1000000) (some (.ptr b 0,jE (gD ns) Em.cF.aA))|none=>none)
 |_=>none
theorem aNq{b0:Nat}{s:PD}{ns:List (List UInt8)}(h:texts.dec s=some ns)(hl:ns.length<=1000000):pL [.agg [.ptr b0 0],s]=some (.ptr b0 0,jE (lY ns) (.int .i64)):=by
 simp only[pL,h];rw[dN hl]
variable{E:aE}(hU:aF E)
include hU
set_option maxRecDepth 10000
theorem aTE(h0:E 93=none)(hN:PC E 88 tQ)(hK:PC E 87 tP)(hI:PC E 133 pL)(hM:PC E 131 C3)(hD:PC E 89 tR)(hW:RC E 90 (E9 1) fW):PW E 93 lW:=by
 intro args σ r F l n hd hs hr hn hl;unfold lW at hd;split at hd
 rotate_left
 .cases hd
 rename_i b0 s;split at hd
 rotate_left
 .cases hd
 rename_i ns hns;obtain⟨hnl,hd⟩:=dF hd;have hdd:lW [.agg [.ptr b0 0],s]=some (.ptr b0 0,jE (gD ns) Em.cF.aA):=by simp only[lW,hns];rw[dN hnl]
 have hix:=aNq (b0:=b0) hns hnl;simp only[yAb,yAc]at hd;obtain⟨rfl,rfl⟩:=hd;obtain⟨ghN,qhN,hghN,hqhN,hN⟩:=hN;obtain⟨ghK,qhK,hghK,hqhK,hK⟩:=hK;obtain⟨ghI,qhI,hghI,hqhI,hI⟩:=hI;obtain⟨ghM,qhM,hghM,hqhM,hM⟩:=hM;obtain⟨ghD,qhD,hghD,hqhD,hD⟩:=hD;obtain⟨gW,hgW,hW⟩:=hW;have hS:=((eQ.start hr hn).box (.box (.agg [.ptr b0 0]))).box (.box (.agg [.str [],.int .i64 0,.int .i64 0,.int .i64 0,.bool false]));simp only[yAi,yAR,yAQ,yAa,yAK,yAL,yAp]at hS;apply lJ.lL h0 func93 rfl
 focus(simp[show Tryz.f93.ntmps=_ from rfl,List.replicate];rfl)
 refine aD trivial ?_;obtain⟨jN,jO,jP,jQ,jR,jS⟩:=aB (hS.ks ((σ.length+1),.box (.agg [.str [],.int .i64 0,.int .i64 0,.int .i64 0,.bool false])) wz).1;obtain⟨oY,oZ,o1,o2,o3,o4⟩:=aB (hS.ks (σ.length,.box (.agg [.ptr b0 0])) wz).1;rcases hN [.agg [.ptr b0 0]] _ (.ptr b0 0) _ l n rfl (hS.ne hs) hS.rd hS.le hl with⟨p1,n1,σ1,f1,e1,r1,k1,q1⟩ | ⟨e,σ1,f1,e1,w1,k1,q1⟩
 rotate_left
 .have hE:gD ns l n=.error e:=by simp[gD,aQ,eD f1]
  have hpost:=hS.eI (dec:=lW) (args:=[.agg [.ptr b0 0],s]) hs hdd hr (eJ hE) k1 q1;exact tc
 obtain⟨nm,g1,rfl⟩:=eE f1;have h1:=hS.call r1 ((aP.name) _ _ _ _ hS.le g1).2 k1 q1
 try simp only[yAa,yAD,yAK,yAL]at q1
 obtain⟨iE,iF,iG,iH,iI,iJ⟩:=aB (h1.ks ((σ.length+1),.box (.agg [.str [],.int .i64 0,.int .i64 0,.int .i64 0,.bool false])) wz).1;obtain⟨o5,o6,o7,o8,o9,pA⟩:=aB (h1.ks (σ.length,.box (.agg [.ptr b0 0])) wz).1;obtain⟨u1,v1,w1⟩:=bH σ1
 first|refine Wp.seq ?_|skip
 apply Wp.dE;refine bF vf ?_;apply SQ.nil;have H1:=h1.box (.box (.agg [.str nm,.int .i64 0,.int .i64 0,.int .i64 0,.bool false]));refine aD ve ?_;obtain⟨pV,pW,pX,pY,pZ,qA⟩:=aB (H1.ks (σ1.length,.box (.agg [.str nm,.int .i64 0,.int .i64 0,.int .i64 0,.bool false])) wz).1;obtain⟨qB,qC,qD,qE,qG,qH⟩:=aB (H1.ks ((σ.length+1),.box (.agg [.str [],.int .i64 0,.int .i64 0,.int .i64 0,.bool false])) wz).1;obtain⟨wI,wJ,wK,wL,wM,wN⟩:=aB (H1.ks (σ.length,.box (.agg [.ptr b0 0])) wz).1;rcases hK [.agg [.ptr b0 0],.str [102,114,111,109]] _ (.ptr b0 0) _ l n1 rfl (H1.ne hs) H1.rd H1.le hl with⟨p3,n3,σ3,f3,e3,r3,k3,q3⟩ | ⟨e,σ3,f3,e3,w3,k3,q3⟩
 rotate_left
 .have hE:gD ns l n=.error e:=by simp[gD,aQ,g1,eD f3]
  have hpost:=H1.eI (dec:=lW) (args:=[.agg [.ptr b0 0],s]) hs hdd hr (eJ hE) k3 q3;exact tq
 obtain⟨u1,g3,rfl⟩:=eE f3;have h3:=H1.call r3 ((aP.key) _ _ _ _ H1.le g3).2 k3 q3
 try simp only[yAa,yAD,yAK,yAL]at q3
 obtain⟨rO,rP,rQ,rR,rS,rT⟩:=aB (h3.ks (σ1.length,.box (.agg [.str nm,.int .i64 0,.int .i64 0,.int .i64 0,.bool false])) wz).1;obtain⟨rU,rV,rW,rX,rY,rZ⟩:=aB (h3.ks ((σ.length+1),.box (.agg [.str [],.int .i64 0,.int .i64 0,.int .i64 0,.bool false])) wz).1;obtain⟨FU,FV,FW,FX,FY,FZ⟩:=aB (h3.ks (σ.length,.box (.agg [.ptr b0 0])) wz).1;obtain⟨u3,v3,w3⟩:=bH σ3
 first|refine Wp.seq ?_|skip
 apply Wp.dE;refine bF we ?_;apply SQ.nil;refine aD wg ?_;obtain⟨wP,wQ,wR,wS,wU,wV⟩:=aB (h3.ks (σ1.length,.box (.agg [.str nm,.int .i64 0,.int .i64 0,.int .i64 0,.bool false])) wz).1;obtain⟨wW,wX,wY,wZ,xA,xB⟩:=aB (h3.ks ((σ.length+1),.box (.agg [.str [],.int .i64 0,.int .i64 0,.int .i64 0,.bool false])) wz).1;obtain⟨xC,xD,xE,xF,xG,xH⟩:=aB (h3.ks (σ.length,.box (.agg [.ptr b0 0])) wz).1;rcases hI [.agg [.ptr b0 0],s] _ (.ptr b0 0) _ l n3 hix (h3.ne hs) h3.rd h3.le hl with⟨p5,n5,j5,f5,e5,r5,k5,q5⟩ | ⟨e,j5,f5,e5,w5,k5,q5⟩
 rotate_left
 .have hE:gD ns l n=.error e:=by simp[gD,aQ,g1,g3,eD f5]
  have hpost:=h3.eI (dec:=lW) (args:=[.agg [.ptr b0 0],s]) hs hdd hr (eJ hE) k5 q5
  first|refine WL.aZ 2 xe xe ?_|refine WL.dP 2 xe xe ?_
  refine bF vm ?_;apply SQ.nil;refine cT.call (.i xe) xe xe hghI hqhI e5 w5 ?_;exact af
 obtain⟨ix,g5,rfl⟩:=eE f5;have h5:=h3.call r5 ((aP.index) _ _ _ _ h3.le g5).2 k5 q5
 try simp only[yAa,yAD,yAK,yAL]at q5
 obtain⟨xI,xJ,xK,xL,xM,xN⟩:=aB (h5.ks (σ1.length,.box (.agg [.str nm,.int .i64 0,.int .i64 0,.int .i64 0,.bool false])) wz).1;obtain⟨xO,xP,xQ,xR,xS,xT⟩:=aB (h5.ks ((σ.length+1),.box (.agg [.str [],.int .i64 0,.int .i64 0,.int .i64 0,.bool false])) wz).1;obtain⟨xU,xV,xW,xX,xY,xZ⟩:=aB (h5.ks (σ.length,.box (.agg [.ptr b0 0])) wz).1;obtain⟨u5,v5,w5⟩:=bH j5
 first|refine Wp.seq ?_|skip
 apply Wp.dE;refine bF (A20 hghI e5 wP wQ wR wS wU wV wW wX wY wZ xA xB xC xD xE xF xG (A20 xH xI xJ xK xL xM xN xO xP xQ xR xS xT xU xV xW xX xY xZ (A3 u5 @v5 w5))) ?_;apply SQ.nil;have H5:=h5.set (i:=σ1.length) (o0:=.box (.agg [.str nm,.int .i64 0,.int .i64 0,.int .i64 0,.bool false])) (o:=.box (.agg [.str nm,.int .i64 ix,.int .i64 0,.int .i64 0,.bool false])) [] [((σ.length+1),.box (.agg [.str [],.int .i64 0,.int .i64 0,.int .i64 0,.bool false])),(σ.length,.box (.agg [.ptr b0 0]))] rfl xk;refine aD vn ?_;obtain⟨qI,qJ,qK,qL,qM,qN⟩:=aB (H5.ks (σ1.length,.box (.agg [.str nm,.int .i64 ix,.int .i64 0,.int .i64 0,.bool false])) wz).1;obtain⟨qO,qP,qQ,qR,qS,qT⟩:=aB (H5.ks ((σ.length+1),.box (.agg [.str [],.int .i64 0,.int .i64 0,.int .i64 0,.bool false])) wz).1;obtain⟨sA,sB,sC,sD,sE,sF⟩:=aB (H5.ks (σ.length,.box (.agg [.ptr b0 0])) wz).1;rcases hK [.agg [.ptr b0 0],.str [116,111]] _ (.ptr b0 0) _ l n5 rfl (H5.ne hs) H5.rd H5.le hl with⟨p7,n7,C8,f7,e7,r7,k7,q7⟩ | ⟨e,C8,f7,e7,w7,k7,q7⟩
 rotate_left
 .have hE:gD ns l n=.error e:=by simp[gD,aQ,g1,g3,g5,eD f7]
  have hpost:=H5.eI (dec:=lW) (args:=[.agg [.ptr b0 0],s]) hs hdd hr (eJ hE) k7 q7;exact tv
 obtain⟨u2,g7,rfl⟩:=eE f7;have h7:=H5.call r7 ((aP.key) _ _ _ _ H5.le g7).2 k7 q7
 try simp only[yAa,yAD,yAK,yAL]at q7
 obtain⟨DJ,DK,DL,DM,DN,DO⟩:=aB (h7.ks (σ1.length,.box (.agg [.str nm,.int .i64 ix,.int .i64 0,.int .i64 0,.bool false])) wz).1;obtain⟨DP,DR,DS,DT,DU,DV⟩:=aB (h7.ks ((σ.length+1),.box (.agg [.str [],.int .i64 0,.int .i64 0,.int .i64 0,.bool false])) wz).1;obtain⟨DW,DX,DY,DZ,D0,D1⟩:=aB (h7.ks (σ.length,.box (.agg [.ptr b0 0])) wz).1;obtain⟨u7,v7,w7⟩:=bH C8
 first|refine Wp.seq ?_|skip
 apply Wp.dE;refine bF wh ?_;apply SQ.nil;refine aD wk ?_;obtain⟨sG,sH,sI,sJ,sK,sL⟩:=aB (h7.ks (σ1.length,.box (.agg [.str nm,.int .i64 ix,.int .i64 0,.int .i64 0,.bool false])) wz).1;obtain⟨sM,sN,sO,sP,sQ,sR⟩:=aB (h7.ks ((σ.length+1),.box (.agg [.str [],.int .i64 0,.int .i64 0,.int .i64 0,.bool false])) wz).1;obtain⟨sS,sT,sU,sV,sW,sX⟩:=aB (h7.ks (σ.length,.box (.agg [.ptr b0 0])) wz).1;rcases hI [.agg [.ptr b0 0],s] _ (.ptr b0 0) _ l n7 hix (h7.ne hs) h7.rd h7.le hl with⟨p9,n9,mQ,f9,e9,r9,k9,q9⟩ | ⟨e,mQ,f9,e9,w9,k9,q9⟩
 rotate_left
 .have hE:gD ns l n=.error e:=by simp[gD,aQ,g1,g3,g5,g7,eD f9]
  have hpost:=h7.eI (dec:=lW) (args:=[.agg [.ptr b0 0],s]) hs hdd hr (eJ hE) k9 q9
  first|refine WL.aZ 2 xe xe ?_|refine WL.dP 2 xe xe ?_
  refine bF vg ?_;apply SQ.nil;refine cT.call (.i xe) xe xe hghI hqhI e9 w9 ?_;exact af
 obtain⟨iy,g9,rfl⟩:=eE f9;have h9:=h7.call r9 ((aP.index) _ _ _ _ h7.le g9).2 k9 q9
 try simp only[yAa,yAD,yAK,yAL]at q9
 obtain⟨yF,yG,yH,yI,yJ,yK⟩:=aB (h9.ks (σ1.length,.box (.agg [.str nm,.int .i64 ix,.int .i64 0,.int .i64 0,.bool false])) wz).1;obtain⟨yL,yM,yN,yO,yP,yQ⟩:=aB (h9.ks ((σ.length+1),.box (.agg [.str [],.int .i64 0,.int .i64 0,.int .i64 0,.bool false])) wz).1;obtain⟨yR,yS,yT,yU,yV,yW⟩:=aB (h9.ks (σ.length,.box (.agg [.ptr b0 0])) wz).1;obtain⟨u9,v9,w9⟩:=bH mQ
 first|refine Wp.seq ?_|skip
 apply Wp.dE;refine bF (A20 hghI e9 sG sH sI sJ sK sL sM sN sO sP sQ sR sS sT sU sV sW (A20 sX yF yG yH yI yJ yK yL yM yN yO yP yQ yR yS yT yU yV yW (A3 u9 @v9 w9))) ?_;apply SQ.nil;have H9:=h9.set (i:=σ1.length) (o0:=.box (.agg [.str nm,.int .i64 ix,.int .i64 0,.int .i64 0,.bool false])) (o:=.box (.agg [.str nm,.int .i64 ix,.int .i64 iy,.int .i64 0,.bool false])) [] [((σ.length+1),.box (.agg [.str [],.int .i64 0,.int .i64 0,.int .i64 0,.bool false])),(σ.length,.box (.agg [.ptr b0 0]))] rfl xk;refine aD vh ?_;obtain⟨yX,yY,yZ,y0,y7,y8⟩:=aB (H9.ks (σ1.length,.box (.agg [.str nm,.int .i64 ix,.int .i64 iy,.int .i64 0,.bool false])) wz).1;obtain⟨y9,zA,zB,zC,zD,zE⟩:=aB (H9.ks ((σ.length+1),.box (.agg [.str [],.int .i64 0,.int .i64 0,.int .i64 0,.bool false])) wz).1;obtain⟨zF,zG,zH,zI,zJ,zK⟩:=aB (H9.ks (σ.length,.box (.agg [.ptr b0 0])) wz).1;rcases hK [.agg [.ptr b0 0],.str [115,104,105,102,116]] _ (.ptr b0 0) _ l n9 rfl (H9.ne hs) H9.rd H9.le hl with⟨p11,QI,HH,f11,tF,QJ,rB,nL⟩ | ⟨e,HH,f11,tF,nM,rB,nL⟩
 rotate_left
 .have hE:gD ns l n=.error e:=by simp[gD,aQ,g1,g3,g5,g7,g9,eD f11]
  have hpost:=H9.eI (dec:=lW) (args:=[.agg [.ptr b0 0],s]) hs hdd hr (eJ hE) rB nL
  first|refine WL.aZ 1 xe xe ?_|refine WL.dP 1 xe xe ?_
  refine bF (A18 yX yY yZ y0 y7 y8 y9 zA zB zC zD zE zF zG zH zI zJ zK) ?_;apply SQ.nil;refine cT.call (.i xe) xe xe hghK hqhK tF nM ?_;exact af
 obtain⟨u3,g11,rfl⟩:=eE f11;have h11:=H9.call QJ ((aP.key) _ _ _ _ H9.le g11).2 rB nL
 try simp only[yAa,yAD,yAK,yAL]at nL
 obtain⟨zL,zM,zN,zO,zP,zQ⟩:=aB (h11.ks (σ1.length,.box (.agg [.str nm,.int .i64 ix,.int .i64 iy,.int .i64 0,.bool false])) wz).1;obtain⟨zR,zS,zT,zU,zV,zW⟩:=aB (h11.ks ((σ.length+1),.box (.agg [.str [],.int .i64 0,.int .i64 0,.int .i64 0,.bool false])) wz).1;obtain⟨zX,zY,zZ,z7,z8,AA⟩:=aB (h11.ks (σ.length,.box (.agg [.ptr b0 0])) wz).1;obtain⟨HI,v11,nM⟩:=bH HH
 first|refine Wp.seq ?_|skip
 apply Wp.dE;refine bF (A20 hghK tF yX yY yZ y0 y7 y8 y9 zA zB zC zD zE zF zG zH zI zJ (A20 zK zL zM zN zO zP zQ zR zS zT zU zV zW zX zY zZ z7 z8 AA (A3 HI @v11 nM))) ?_;apply SQ.nil;refine aD vo ?_;obtain⟨AB,AD,AE,AF,AG,AH⟩:=aB (h11.ks (σ1.length,.box (.agg [.str nm,.int .i64 ix,.int .i64 iy,.int .i64 0,.bool false])) wz).1;obtain⟨tY,tZ,uA,uB,uC,uD⟩:=aB (h11.ks ((σ.length+1),.box (.agg [.str [],.int .i64 0,.int .i64 0,.int .i64 0,.bool false])) wz).1;obtain⟨AI,AJ,AK,AL,AM,AO⟩:=aB (h11.ks (σ.length,.box (.agg [.ptr b0 0])) wz).1;rcases hM [.agg [.ptr b0 0]] _ (.ptr b0 0) _ l QI rfl (h11.ne hs) h11.rd h11.le hl with⟨p13,pB,vH,f13,tG,QK,rC,nN⟩ | ⟨e,vH,f13,tG,nO,rC,nN⟩
 rotate_left
 .have hE:gD ns l n=.error e:=by simp[gD,aQ,g1,g3,g5,g7,g9,g11,eD f13]
  have hpost:=h11.eI (dec:=lW) (args:=[.agg [.ptr b0 0],s]) hs hdd hr (eJ hE) rC nN
  first|refine WL.aZ 1 xe xe ?_|refine WL.dP 1 xe xe ?_
  refine bF vp ?_;apply SQ.nil;refine cT.call (.i xe) xe xe hghM hqhM tG nO ?_;exact af
 obtain⟨sh,g13,rfl⟩:=eE f13;have jT:=h11.call QK ((aP.num) _ _ _ _ h11.le g13).2 rC nN
 try simp only[yAa,yAD,yAK,yAL]at nN
 obtain⟨uF,uG,uH,uI,uJ,uK⟩:=aB (jT.ks (σ1.length,.box (.agg [.str nm,.int .i64 ix,.int .i64 iy,.int .i64 0,.bool false])) wz).1;obtain⟨sY,sZ,s5,s6,s7,s8⟩:=aB (jT.ks ((σ.length+1),.box (.agg [.str [],.int .i64 0,.int .i64 0,.int .i64 0,.bool false])) wz).1;obtain⟨uL,uM,uN,uO,uP,uQ⟩:=aB (jT.ks (σ.length,.box (.agg [.ptr b0 0])) wz).1;obtain⟨HJ,HK,nO⟩:=bH vH
 first|refine Wp.seq ?_|skip
 apply Wp.dE;refine bF (A20 hghM tG AB AD AE AF AG AH tY tZ uA uB uC uD AI AJ AK AL AM (A20 AO uF uG uH uI uJ uK sY sZ s5 s6 s7 s8 uL uM uN uO uP uQ (A3 HJ HK nO))) ?_;apply SQ.nil;have NK:=jT.set (i:=σ1.length) (o0:=.box (.agg [.str nm,.int .i64 ix,.int .i64 iy,.int .i64 0,.bool false])) (o:=.box (.agg [.str nm,.int .i64 ix,.int .i64 iy,.int .i64 sh,.bool false])) [] [((σ.length+1),.box (.agg [.str [],.int .i64 0,.int .i64 0,.int .i64 0,.bool false])),(σ.length,.box (.agg [.ptr b0 0]))] rfl xk;obtain⟨qU,qV,qW,qY,qZ,rA⟩:=aB (NK.ks (σ1.length,.box (.agg [.str nm,.int .i64 ix,.int .i64 iy,.int .i64 sh,.bool false])) wz).1;obtain⟨AQ,AR,AS,AT,AU,AV⟩:=aB (NK.ks ((σ.length+1),.box (.agg [.str [],.int .i64 0,.int .i64 0,.int .i64 0,.bool false])) wz).1;obtain⟨AW,AX,AY,AZ,A0,A1⟩:=aB (NK.ks (σ.length,.box (.agg [.ptr b0 0])) wz).1;obtain⟨aZv,t16,r16,k16,q16⟩:=hW [.ptr b0 0,.str [116,104,114,111,117,103,104]] _ (.ptr b0 0) _ l pB ⟨_,rfl,rfl⟩ (NK.ne hs) NK.rd NK.le hl;have U5:=NK.call r16 (oX _ NK.le) k16 q16;obtain⟨X16,aND⟩:=gn (bK (isWord 1 [116,104,114,111,117,103,104]) l pB);rw[aND]at t16 U5;obtain⟨⟨a2t,th⟩,n16⟩:=X16;simp only[fW]at t16 U5;have g16:tV [116,104,114,111,117,103,104] l pB=.ok (th,n16):=by simp[tV,aND]
 try simp only[yAa,yAD,yAK,yAL]at q16
 obtain⟨s9,tA,tB,tC,tD,tE⟩:=aB (U5.ks (σ1.length,.box (.agg [.str nm,.int .i64 ix,.int .i64 iy,.int .i64 sh,.bool false])) wz).1;obtain⟨uR,uS,uT,uU,uV,uW⟩:=aB (U5.ks ((σ.length+1),.box (.agg [.str [],.int .i64 0,.int .i64 0,.int .i64 0,.bool false])) wz).1;obtain⟨uX,uY,uZ,u0,u6,vA⟩:=aB (U5.ks (σ.length,.box (.agg [.ptr b0 0])) wz).1;obtain⟨u16,v16,w16⟩:=bH aZv;have EL:=U5.set (i:=σ1.length) (o0:=.box (.agg [.str nm,.int .i64 ix,.int .i64 iy,.int .i64 sh,.bool false])) (o:=.box (.agg [.str nm,.int .i64 ix,.int .i64 iy,.int .i64 sh,.bool th])) [] [((σ.length+1),.box (.agg [.str [],.int .i64 0,.int .i64 0,.int .i64 0,.bool false])),(σ.length,.box (.agg [.ptr b0 0]))] rfl xk;obtain⟨IU,IV,IW,IX,IY,IZ⟩:=aB (EL.ks (σ1.length,.box (.agg [.str nm,.int .i64 ix,.int .i64 iy,.int .i64 sh,.bool th])) wz).1;obtain⟨I0,I1,I2,I3,I4,I5⟩:=aB (EL.ks ((σ.length+1),.box (.agg [.str [],.int .i64 0,.int .i64 0,.int .i64 0,.bool false])) wz).1;obtain⟨I6,I7,I8,I9,JA,JB⟩:=aB (EL.ks (σ.length,.box (.agg [.ptr b0 0])) wz).1;refine aD (A20 uF uG uH uI uJ uK sY sZ s5 s6 s7 s8 uL uM uN uO uP uQ HJ (A20 HK nO qU qV qW qY qZ rA AQ AR AS AT AU AV AW AX AY AZ A0 (A20 A1 hgW @t16 s9 tA tB tC tD tE uR uS uT uU uV uW uX uY uZ u0 (A20 u6 vA @u16 v16 w16 IU IV IW IX IY IZ I0 I1 I2 I3 I4 I5 I6 I7 (A4 I8 I9 JA JB))))) ?_;obtain⟨F2,F3,F4,F5,F6,F7⟩:=aB (EL.ks (σ1.length,.box (.agg [.str nm,.int .i64 ix,.int .i64 iy,.int .i64 sh,.bool th])) wz).1;obtain⟨F8,F9,GA,GB,GC,GD⟩:=aB (EL.ks ((σ.length+1),.box (.agg [.str [],.int .i64 0,.int .i64 0,.int .i64 0,.bool false])) wz).1;obtain⟨GF,GG,GH,GI,GJ,GK⟩:=aB (EL.ks (σ.length,.box (.agg [.ptr b0 0])) wz).1;rcases hD [.agg [.ptr b0 0]] _ (.ptr b0 0) _ l n16 rfl (EL.ne hs) EL.rd EL.le hl with⟨p19,n19,ZY,f19,QL,r19,LI,LJ⟩ | ⟨e,ZY,f19,QL,JQ,LI,LJ⟩
 rotate_left
 .have hE:gD ns l n=.error e:=by simp[gD,aQ,g1,g3,g5,g7,g9,g11,g13,g16,eD f19]
  have hpost:=EL.eI (dec:=lW) (args:=[.agg [.ptr b0 0],s]) hs hdd hr (eJ hE) LI LJ
  first|refine WL.aZ 1 xe xe ?_|refine WL.dP 1 xe xe ?_
  refine bF (A18 F2 F3 F4 F5 F6 F7 F8 F9 GA GB GC GD GF GG GH GI GJ GK) ?_;apply SQ.nil;refine cT.call (.i xe) xe xe hghD hqhD QL JQ ?_;exact af
 obtain⟨u4,g19,rfl⟩:=eE f19;have h19:=EL.call r19 ((aP.eY) _ _ _ _ EL.le g19).2 LI LJ
 try simp only[yAa,yAD,yAK,yAL]at LJ
 obtain⟨BT,BU,BV,BW,BX,BY⟩:=aB (h19.ks (σ1.length,.box (.agg [.str nm,.int .i64 ix,.int .i64 iy,.int .i64 sh,.bool th])) wz).1;obtain⟨D2,D3,D4,D5,D6,D7⟩:=aB (h19.ks ((σ.length+1),.box (.agg [.str [],.int .i64 0,.int .i64 0,.int .i64 0,.bool false])) wz).1;obtain⟨D8,D9,EA,EB,EC,ED⟩:=aB (h19.ks (σ.length,.box (.agg [.ptr b0 0])) wz).1;obtain⟨U2,U3,JQ⟩:=bH ZY
 first|refine Wp.seq ?_|skip
 apply Wp.dE;refine bF (A20 hghD QL F2 F3 F4 F5 F6 F7 F8 F9 GA GB GC GD GF GG GH GI GJ (A20 GK BT BU BV BW BX BY D2 D3 D4 D5 D6 D7 D8 D9 EA EB EC ED (A3 U2 U3 JQ))) ?_;apply SQ.nil;have CC:=h19.set (i:=(σ.length+1)) (o0:=.box (.agg [.str [],.int .i64 0,.int .i64 0,.int .i64 0,.bool false])) (o:=.box (.agg [.str nm,.int .i64 ix,.int .i64 iy,.int .i64 sh,.bool th])) [(σ1.length,.box (.agg [.str nm,.int .i64 ix,.int .i64 iy,.int .i64 sh,.bool th]))] [(σ.length,.box (.agg [.ptr b0 0]))] rfl xk;refine aD (A20 BT BU BV BW BX BY D2 D3 D4 D5 D6 D7 D8 D9 EA EB EC ED U2 (A2 U3 JQ)) ?_;have hP:gD ns l n=.ok (⟨nm,ix,iy,sh,th⟩,n19):=by simp[gD,aQ,dT,g1,g3,g5,g7,g9,g11,g13,g16,g19]
 right
 simp[BT,BU,BV,BW,BX,BY,D2,D3,D4,D5,D6,D7,D8,D9,EA,EB,EC,ED,U2,U3,JQ];exact⟨_,_,⟨rfl,rfl⟩,CC.kM hs hdd hr (FO hP)⟩
end
section
def oV:j6:=λargs=>match args with
 | [.agg [.ptr b 0]]=>some (.ptr b 0,jE iC Em.bO.aA)
 |_=>none
variable{E:aE}(hU:aF E)
include hU
set_option maxRecDepth 10000
theorem aTs(h0:E 91=none)(hN:PC E 88 tQ)(hK:PC E 87 tP)(hF:PC E 130 FA)(hM:PC E 131 C3)(hD:PC E 89 tR)(hT:RC E 132 OS nZ):PW E 91 oV:=by
 intro args aC r F l n hd hs hr hn hl;unfold oV at hd;split at hd
 rotate_left
 .cases hd
 rename_i b0;simp only[yAb,yAc]at hd;obtain⟨rfl,rfl⟩:=hd;obtain⟨ghN,qhN,hghN,hqhN,hN⟩:=hN;obtain⟨ghK,qhK,hghK,hqhK,hK⟩:=hK;obtain⟨ghF,qhF,hghF,hqhF,hF⟩:=hF;obtain⟨ghM,qhM,hghM,hqhM,hM⟩:=hM;obtain⟨ghD,qhD,hghD,hqhD,hD⟩:=hD;obtain⟨gT,hgT,hT⟩:=hT;have hS:=((eQ.start hr hn).box (.box (.agg [.ptr b0 0]))).box (.box (.agg [.str [],.str [],.int .i64 0,.int .i64 0,.int .i64 0,.slice 0 [] .full]));simp only[yAi,yAR,yAQ,yAa,yAK,yAL,yAp]at hS;apply lJ.lL h0 func91 rfl
 focus(simp[show Tryz.f91.ntmps=_ from rfl,List.replicate];rfl)
 refine aD trivial ?_;obtain⟨jN,jO,jP,jQ,jR,jS⟩:=aB (hS.ks ((aC.length+1),.box (.agg [.str [],.str [],.int .i64 0,.int .i64 0,.int .i64 0,.slice 0 [] .full])) wz).1;obtain⟨oY,oZ,o1,o2,o3,o4⟩:=aB (hS.ks (aC.length,.box (.agg [.ptr b0 0])) wz).1;rcases hN [.agg [.ptr b0 0]] _ (.ptr b0 0) _ l n rfl (hS.ne hs) hS.rd hS.le hl with⟨p1,n1,σ1,f1,e1,r1,k1,q1⟩ | ⟨e,σ1,f1,e1,w1,k1,q1⟩
 rotate_left
 .have hE:iC l n=.error e:=by simp[iC,aQ,eD f1]
  have hpost:=hS.eI (dec:=oV) (args:=[.agg [.ptr b0 0]]) hs rfl hr (eJ hE) k1 q1;exact tc
 obtain⟨nm,g1,rfl⟩:=eE f1;have h1:=hS.call r1 ((aP.name) _ _ _ _ hS.le g1).2 k1 q1
 try simp only[yAa,yAD,yAK,yAL]at q1
 obtain⟨iE,iF,iG,iH,iI,iJ⟩:=aB (h1.ks ((aC.length+1),.box (.agg [.str [],.str [],.int .i64 0,.int .i64 0,.int .i64 0,.slice 0 [] .full])) wz).1;obtain⟨o5,o6,o7,o8,o9,pA⟩:=aB (h1.ks (aC.length,.box (.agg [.ptr b0 0])) wz).1;obtain⟨u1,v1,w1⟩:=bH σ1
 first|refine Wp.seq ?_|skip
 apply Wp.dE;refine bF vf ?_;apply SQ.nil;have H1:=h1.box (.box (.agg [.str nm,.str [],.int .i64 0,.int .i64 0,.int .i64 0,.slice 0 [] .full]));refine aD ve ?_;obtain⟨pV,pW,pX,pY,pZ,qA⟩:=aB (H1.ks (σ1.length,.box (.agg [.str nm,.str [],.int .i64 0,.int .i64 0,.int .i64 0,.slice 0 [] .full])) wz).1;obtain⟨qB,qC,qD,qE,qG,qH⟩:=aB (H1.ks ((aC.length+1),.box (.agg [.str [],.str [],.int .i64 0,.int .i64 0,.int .i64 0,.slice 0 [] .full])) wz).1;obtain⟨wI,wJ,wK,wL,wM,wN⟩:=aB (H1.ks (aC.length,.box (.agg [.ptr b0 0])) wz).1;rcases hK [.agg [.ptr b0 0],.str [116,111,110,101]] _ (.ptr b0 0) _ l n1 rfl (H1.ne hs) H1.rd H1.le hl with⟨p3,n3,σ3,f3,e3,r3,k3,q3⟩ | ⟨e,σ3,f3,e3,w3,k3,q3⟩
 rotate_left
 .have hE:iC l n=.error e:=by simp[iC,aQ,g1,eD f3]
  have hpost:=H1.eI (dec:=oV) (args:=[.agg [.ptr b0 0]]) hs rfl hr (eJ hE) k3 q3;exact tq
 obtain⟨u1,g3,rfl⟩:=eE f3;have h3:=H1.call r3 ((aP.key) _ _ _ _ H1.le g3).2 k3 q3
 try simp only[yAa,yAD,yAK,yAL]at q3
 obtain⟨rO,rP,rQ,rR,rS,rT⟩:=aB (h3.ks (σ1.length,.box (.agg [.str nm,.str [],.int .i64 0,.int .i64 0,.int .i64 0,.slice 0 [] .full])) wz).1;obtain⟨rU,rV,rW,rX,rY,rZ⟩:=aB (h3.ks ((aC.length+1),.box (.agg [.str [],.str [],.int .i64 0,.int .i64 0,.int .i64 0,.slice 0 [] .full])) wz).1;obtain⟨FU,FV,FW,FX,FY,FZ⟩:=aB (h3.ks (aC.length,.box (.agg [.ptr b0 0])) wz).1;obtain⟨u3,v3,w3⟩:=bH σ3
 first|refine Wp.seq ?_|skip
 apply Wp.dE;refine bF we ?_;apply SQ.nil;refine aD wg ?_;obtain⟨wP,wQ,wR,wS,wU,wV⟩:=aB (h3.ks (σ1.length,.box (.agg [.str nm,.str [],.int .i64 0,.int .i64 0,.int .i64 0,.slice 0 [] .full])) wz).1;obtain⟨wW,wX,wY,wZ,xA,xB⟩:=aB (h3.ks ((aC.length+1),.box (.agg [.str [],.str [],.int .i64 0,.int .i64 0,.int .i64 0,.slice 0 [] .full])) wz).1;obtain⟨xC,xD,xE,xF,xG,xH⟩:=aB (h3.ks (aC.length,.box (.agg [.ptr b0 0])) wz).1;rcases hN [.agg [.ptr b0 0]] _ (.ptr b0 0) _ l n3 rfl (h3.ne hs) h3.rd h3.le hl with⟨p5,n5,j5,f5,e5,r5,k5,q5⟩ | ⟨e,j5,f5,e5,w5,k5,q5⟩
 rotate_left
 .have hE:iC l n=.error e:=by simp[iC,aQ,g1,g3,eD f5]
  have hpost:=h3.eI (dec:=oV) (args:=[.agg [.ptr b0 0]]) hs rfl hr (eJ hE) k5 q5
  first|refine WL.aZ 1 xe xe ?_|refine WL.dP 1 xe xe ?_
  refine bF vm ?_;apply SQ.nil;refine cT.call (.i xe) xe xe hghN hqhN e5 w5 ?_;exact af
 obtain⟨tn,g5,rfl⟩:=eE f5;have h5:=h3.call r5 ((aP.name) _ _ _ _ h3.le g5).2 k5 q5
 try simp only[yAa,yAD,yAK,yAL]at q5
 obtain⟨xI,xJ,xK,xL,xM,xN⟩:=aB (h5.ks (σ1.length,.box (.agg [.str nm,.str [],.int .i64 0,.int .i64 0,.int .i64 0,.slice 0 [] .full])) wz).1;obtain⟨xO,xP,xQ,xR,xS,xT⟩:=aB (h5.ks ((aC.length+1),.box (.agg [.str [],.str [],.int .i64 0,.int .i64 0,.int .i64 0,.slice 0 [] .full])) wz).1;obtain⟨xU,xV,xW,xX,xY,xZ⟩:=aB (h5.ks (aC.length,.box (.agg [.ptr b0 0])) wz).1;obtain⟨u5,v5,w5⟩:=bH j5
 first|refine Wp.seq ?_|skip
 apply Wp.dE;refine bF (A20 hghN e5 wP wQ wR wS wU wV wW wX wY wZ xA xB xC xD xE xF xG (A20 xH xI xJ xK xL xM xN xO xP xQ xR xS xT xU xV xW xX xY xZ (A3 u5 @v5 w5))) ?_;apply SQ.nil;have H5:=h5.set (i:=σ1.length) (o0:=.box (.agg [.str nm,.str [],.int .i64 0,.int .i64 0,.int .i64 0,.slice 0 [] .full])) (o:=.box (.agg [.str nm,.str tn,.int .i64 0,.int .i64 0,.int .i64 0,.slice 0 [] .full])) [] [((aC.length+1),.box (.agg [.str [],.str [],.int .i64 0,.int .i64 0,.int .i64 0,.slice 0 [] .full])),(aC.length,.box (.agg [.ptr b0 0]))] rfl xk;refine aD vn ?_;obtain⟨qI,qJ,qK,qL,qM,qN⟩:=aB (H5.ks (σ1.length,.box (.agg [.str nm,.str tn,.int .i64 0,.int .i64 0,.int .i64 0,.slice 0 [] .full])) wz).1;obtain⟨qO,qP,qQ,qR,qS,qT⟩:=aB (H5.ks ((aC.length+1),.box (.agg [.str [],.str [],.int .i64 0,.int .i64 0,.int .i64 0,.slice 0 [] .full])) wz).1;obtain⟨sA,sB,sC,sD,sE,sF⟩:=aB (H5.ks (aC.length,.box (.agg [.ptr b0 0])) wz).1;rcases hF [.agg [.ptr b0 0]] _ (.ptr b0 0) _ l n5 rfl (H5.ne hs) H5.rd H5.le hl with⟨p7,n7,C8,f7,e7,r7,k7,q7⟩ | ⟨e,C8,f7,e7,w7,k7,q7⟩
 rotate_left
 .have hE:iC l n=.error e:=by simp[iC,aQ,g1,g3,g5,eD f7]
  have hpost:=H5.eI (dec:=oV) (args:=[.agg [.ptr b0 0]]) hs rfl hr (eJ hE) k7 q7
  first|refine WL.aZ 1 xe xe ?_|refine WL.dP 1 xe xe ?_
  refine bF (A18 qI qJ qK qL qM qN qO qP qQ qR qS qT sA sB sC sD sE sF) ?_;apply SQ.nil;refine cT.call (.i xe) xe xe hghF hqhF e7 w7 ?_;exact af
 obtain⟨fe,g7,rfl⟩:=eE f7;have h7:=H5.call r7 ((aP.cB) _ _ _ _ H5.le g7).2 k7 q7
 try simp only[yAa,yAD,yAK,yAL]at q7
 obtain⟨DJ,DK,DL,DM,DN,DO⟩:=aB (h7.ks (σ1.length,.box (.agg [.str nm,.str tn,.int .i64 0,.int .i64 0,.int .i64 0,.slice 0 [] .full])) wz).1;obtain⟨DP,DR,DS,DT,DU,DV⟩:=aB (h7.ks ((aC.length+1),.box (.agg [.str [],.str [],.int .i64 0,.int .i64 0,.int .i64 0,.slice 0 [] .full])) wz).1;obtain⟨DW,DX,DY,DZ,D0,D1⟩:=aB (h7.ks (aC.length,.box (.agg [.ptr b0 0])) wz).1;obtain⟨u7,v7,w7⟩:=bH C8
 first|refine Wp.seq ?_|skip
 apply Wp.dE;refine bF (A20 hghF e7 qI qJ qK qL qM qN qO qP qQ qR qS qT sA sB sC sD sE (A20 sF DJ DK DL DM DN DO DP DR DS DT DU DV DW DX DY DZ D0 D1 (A3 u7 v7 w7))) ?_;apply SQ.nil;obtain⟨f1,f2⟩:=fe;have LM:=h7.set (i:=σ1.length) (o0:=.box (.agg [.str nm,.str tn,.int .i64 0,.int .i64 0,.int .i64 0,.slice 0 [] .full])) (o:=.box (.agg [.str nm,.str tn,.int .i64 f1,.int .i64 f2,.int .i64 0,.slice 0 [] .full])) [] [((aC.length+1),.box (.agg [.str [],.str [],.int .i64 0,.int .i64 0,.int .i64 0,.slice 0 [] .full])),(aC.length,.box (.agg [.ptr b0 0]))] rfl xk;refine aD (A20 DJ DK DL DM DN DO DP DR DS DT DU DV DW DX DY DZ D0 D1 u7 (A3 v7 w7 @aIG)) ?_;obtain⟨sG,sH,sI,sJ,sK,sL⟩:=aB (LM.ks (σ1.length,.box (.agg [.str nm,.str tn,.int .i64 f1,.int .i64 f2,.int .i64 0,.slice 0 [] .full])) wz).1;obtain⟨sM,sN,sO,sP,sQ,sR⟩:=aB (LM.ks ((aC.length+1),.box (.agg [.str [],.str [],.int .i64 0,.int .i64 0,.int .i64 0,.slice 0 [] .full])) wz).1;obtain⟨sS,sT,sU,sV,sW,sX⟩:=aB (LM.ks (aC.length,.box (.agg [.ptr b0 0])) wz).1;rcases hK [.agg [.ptr b0 0],.str [102,105,114,115,116]] _ (.ptr b0 0) _ l n7 rfl (LM.ne hs) LM.rd LM.le hl with⟨p9,n9,mQ,f9,e9,r9,k9,q9⟩ | ⟨e,mQ,f9,e9,w9,k9,q9⟩
 rotate_left
 .have hE:iC l n=.error e:=by simp[iC,aQ,g1,g3,g5,g7,eD f9]
  have hpost:=LM.eI (dec:=oV) (args:=[.agg [.ptr b0 0]]) hs rfl hr (eJ hE) k9 q9
  first|refine WL.aZ 1 xe xe ?_|refine WL.dP 1 xe xe ?_
  refine bF vg ?_;apply SQ.nil;refine cT.call (.i xe) xe xe hghK hqhK e9 w9 ?_;exact af
 obtain⟨u2,g9,rfl⟩:=eE f9;have h9:=LM.call r9 ((aP.key) _ _ _ _ LM.le g9).2 k9 q9
 try simp only[yAa,yAD,yAK,yAL]at q9
 obtain⟨yF,yG,yH,yI,yJ,yK⟩:=aB (h9.ks (σ1.length,.box (.agg [.str nm,.str tn,.int .i64 f1,.int .i64 f2,.int .i64 0,.slice 0 [] .full])) wz).1;obtain⟨yL,yM,yN,yO,yP,yQ⟩:=aB (h9.ks ((aC.length+1),.box (.agg [.str [],.str [],.int .i64 0,.int .i64 0,.int .i64 0,.slice 0 [] .full])) wz).1;obtain⟨yR,yS,yT,yU,yV,yW⟩:=aB (h9.ks (aC.length,.box (.agg [.ptr b0 0])) wz).1;obtain⟨u9,v9,w9⟩:=bH mQ
 first|refine Wp.seq ?_|skip
 apply Wp.dE;refine bF (A20 hghK e9 sG sH sI sJ sK sL sM sN sO sP sQ sR sS sT sU sV sW (A20 sX yF yG yH yI yJ yK yL yM yN yO yP yQ yR yS yT yU yV yW (A3 u9 @v9 w9))) ?_;apply SQ.nil;refine aD vh ?_;obtain⟨yX,yY,yZ,y0,y7,y8⟩:=aB (h9.ks (σ1.length,.box (.agg [.str nm,.str tn,.int .i64 f1,.int .i64 f2,.int .i64 0,.slice 0 [] .full])) wz).1;obtain⟨y9,zA,zB,zC,zD,zE⟩:=aB (h9.ks ((aC.length+1),.box (.agg [.str [],.str [],.int .i64 0,.int .i64 0,.int .i64 0,.slice 0 [] .full])) wz).1;obtain⟨zF,zG,zH,zI,zJ,zK⟩:=aB (h9.ks (aC.length,.box (.agg [.ptr b0 0])) wz).1;rcases hM [.agg [.ptr b0 0]] _ (.ptr b0 0) _ l n9 rfl (h9.ne hs) h9.rd h9.le hl with⟨p11,QI,HH,f11,tF,QJ,rB,nL⟩ | ⟨e,HH,f11,tF,nM,rB,nL⟩
 rotate_left
 .have hE:iC l n=.error e:=by simp[iC,aQ,g1,g3,g5,g7,g9,eD f11]
  have hpost:=h9.eI (dec:=oV) (args:=[.agg [.ptr b0 0]]) hs rfl hr (eJ hE) rB nL;exact tw
 obtain⟨k,g11,rfl⟩:=eE f11;have h11:=h9.call QJ ((aP.num) _ _ _ _ h9.le g11).2 rB nL
 try simp only[yAa,yAD,yAK,yAL]at nL
 obtain⟨zL,zM,zN,zO,zP,zQ⟩:=aB (h11.ks (σ1.length,.box (.agg [.str nm,.str tn,.int .i64 f1,.int .i64 f2,.int .i64 0,.slice 0 [] .full])) wz).1;obtain⟨zR,zS,zT,zU,zV,zW⟩:=aB (h11.ks ((aC.length+1),.box (.agg [.str [],.str [],.int .i64 0,.int .i64 0,.int .i64 0,.slice 0 [] .full])) wz).1;obtain⟨zX,zY,zZ,z7,z8,AA⟩:=aB (h11.ks (aC.length,.box (.agg [.ptr b0 0])) wz).1;obtain⟨HI,v11,nM⟩:=bH HH
 first|refine Wp.seq ?_|skip
 apply Wp.dE;refine bF wm ?_;apply SQ.nil;have gN:=h11.set (i:=σ1.length) (o0:=.box (.agg [.str nm,.str tn,.int .i64 f1,.int .i64 f2,.int .i64 0,.slice 0 [] .full])) (o:=.box (.agg [.str nm,.str tn,.int .i64 f1,.int .i64 f2,.int .i64 k,.slice 0 [] .full])) [] [((aC.length+1),.box (.agg [.str [],.str [],.int .i64 0,.int .i64 0,.int .i64 0,.slice 0 [] .full])),(aC.length,.box (.agg [.ptr b0 0]))] rfl xk;refine aD vo ?_;obtain⟨AB,AD,AE,AF,AG,AH⟩:=aB (gN.ks (σ1.length,.box (.agg [.str nm,.str tn,.int .i64 f1,.int .i64 f2,.int .i64 k,.slice 0 [] .full])) wz).1;obtain⟨tY,tZ,uA,uB,uC,uD⟩:=aB (gN.ks ((aC.length+1),.box (.agg [.str [],.str [],.int .i64 0,.int .i64 0,.int .i64 0,.slice 0 [] .full])) wz).1;obtain⟨AI,AJ,AK,AL,AM,AO⟩:=aB (gN.ks (aC.length,.box (.agg [.ptr b0 0])) wz).1;rcases hK [.agg [.ptr b0 0],.str [119,105,110,100]] _ (.ptr b0 0) _ l QI rfl (gN.ne hs) gN.rd gN.le hl with⟨p13,pB,vH,f13,tG,QK,rC,nN⟩ | ⟨e,vH,f13,tG,nO,rC,nN⟩
 rotate_left
 .have hE:iC l n=.error e:=by simp[iC,aQ,g1,g3,g5,g7,g9,g11,eD f13]
  have hpost:=gN.eI (dec:=oV) (args:=[.agg [.ptr b0 0]]) hs rfl hr (eJ hE) rC nN
  first|refine WL.aZ 1 xe xe ?_|refine WL.dP 1 xe xe ?_
  refine bF vp ?_;apply SQ.nil;refine cT.call (.i xe) xe xe hghK hqhK tG nO ?_;exact af
 obtain⟨u3,g13,rfl⟩:=eE f13;have jT:=gN.call QK ((aP.key) _ _ _ _ gN.le g13).2 rC nN
 try simp only[yAa,yAD,yAK,yAL]at nN
 obtain⟨uF,uG,uH,uI,uJ,uK⟩:=aB (jT.ks (σ1.length,.box (.agg [.str nm,.str tn,.int .i64 f1,.int .i64 f2,.int .i64 k,.slice 0 [] .full])) wz).1;obtain⟨sY,sZ,s5,s6,s7,s8⟩:=aB (jT.ks ((aC.length+1),.box (.agg [.str [],.str [],.int .i64 0,.int .i64 0,.int .i64 0,.slice 0 [] .full])) wz).1;obtain⟨uL,uM,uN,uO,uP,uQ⟩:=aB (jT.ks (aC.length,.box (.agg [.ptr b0 0])) wz).1;obtain⟨HJ,HK,nO⟩:=bH vH
 first|refine Wp.seq ?_|skip
 apply Wp.dE;refine bF (A20 hghK tG AB AD AE AF AG AH tY tZ uA uB uC uD AI AJ AK AL AM (A20 AO uF uG uH uI uJ uK sY sZ s5 s6 s7 s8 uL uM uN uO uP uQ (A3 HJ HK nO))) ?_;apply SQ.nil;refine aD wo ?_;obtain⟨mm,hmm⟩:=gn (σ1.length);simp only[hmm]at jT ⊢;refine Wp.eV (λm fr σ=>∃(ac:List Int) (z nn:Nat) (tok:Tok) (σ1:List U),∃gg:Nat->PD,(nn+m=l.length/\mR (l.drop pB)=ac++mR (l.drop nn)/\nn=pB+ac.length/\(ac=[]\/z=1)/\fD aC σ1 tok 3 1 ac.length/\eQ aC (.ptr b0 0) l σ1 nn [(mm,.box (.agg [.str nm,.str tn,.int .i64 f1,.int .i64 f2,.int .i64 k,.slice z (ac.map (PD.int .i64)) tok])),(aC.length+1,.box (.agg [.str [],.str [],.int .i64 0,.int .i64 0,.int .i64 0,.slice 0 [] .full])),(aC.length,.box (.agg [.ptr b0 0]))])/\fr=[gg 0,.ptr aC.length 0,.ptr (aC.length+1) 0,.ptr mm 0,gg 4,gg 5,gg 6,gg 7,gg 8,gg 9,gg 10,gg 11,gg 12,gg 13,gg 14,gg 15,gg 16,gg 17,gg 18,gg 19,gg 20,gg 21,gg 22,gg 23,gg 24,gg 25,gg 26,gg 27,gg 28,gg 29,gg 30,gg 31,gg 32,gg 33,gg 34,gg 35,gg 36,gg 37,gg 38,gg 39,gg 40,gg 41]/\σ=σ1) ?_ (l.length-pB) (by refine⟨[],0,pB,.full,vH,?_⟩;exact cG (⟨by have:=jT.le;omega,rfl,rfl,.inl rfl,.nil,jT⟩))
 rintro m fr σ ⟨ac,z,nn,tok,σ1,gg,hI,rfl,rfl⟩
 obtain⟨hm,hac,hnn,hz,hrow,hB⟩:=hI;obtain⟨qU,qV,qW,qY,qZ,rA⟩:=aB (hB.ks (mm,.box (.agg [.str nm,.str tn,.int .i64 f1,.int .i64 f2,.int .i64 k,.slice z (ac.map (PD.int .i64)) tok])) wz).1;obtain⟨AQ,AR,AS,AT,AU,AV⟩:=aB (hB.ks ((aC.length+1),.box (.agg [.str [],.str [],.int .i64 0,.int .i64 0,.int .i64 0,.slice 0 [] .full])) wz).1;obtain⟨AW,AX,AY,AZ,A0,A1⟩:=aB (hB.ks (aC.length,.box (.agg [.ptr b0 0])) wz).1;obtain⟨ua,va,wa⟩:=bH σ;obtain⟨σ2,t2,r2,k2,q2⟩:=hT [.ptr b0 0,.int .i64 2] _ (.ptr b0 0) _ l nn ⟨2,rfl,rfl⟩ (hB.ne hs) hB.rd hB.le hl;have CF:=hB.call r2 (oX _ hB.le) k2 q2;have eH:=hrow.call hB k2;cases c2:(bK (λt=>decide (t.kind=2)) l nn).1.2
 rotate_left
 .skip
  obtain⟨t,e2,hlt,hwi⟩:=aWu c2;rw[e2]at t2 CF;simp only[nZ]at t2 CF;have h23:=CF.box (.box (Em.tk.aA t));have nH:=eH.more (τ:=[.box (Em.tk.aA t)]);obtain⟨BA,BC,BD,BE,BF,BG⟩:=aB (CF.ks (mm,.box (.agg [.str nm,.str tn,.int .i64 f1,.int .i64 f2,.int .i64 k,.slice z (ac.map (PD.int .i64)) tok])) wz).1;obtain⟨BH,BI,BJ,BK,BL,BM⟩:=aB (CF.ks ((aC.length+1),.box (.agg [.str [],.str [],.int .i64 0,.int .i64 0,.int .i64 0,.slice 0 [] .full])) wz).1;obtain⟨BN,BO,BP,BQ,BR,BS⟩:=aB (CF.ks (aC.length,.box (.agg [.ptr b0 0])) wz).1;obtain⟨ub,vb,wb⟩:=bH σ2;obtain⟨s9,tA,tB,tC,tD,tE⟩:=aB (h23.ks (σ2.length,.box (Em.tk.aA t)) wz).1;obtain⟨uR,uS,uT,uU,uV,uW⟩:=aB (h23.ks (mm,.box (.agg [.str nm,.str tn,.int .i64 f1,.int .i64 f2,.int .i64 k,.slice z (ac.map (PD.int .i64)) tok])) wz).1;obtain⟨uX,uY,uZ,u0,u6,vA⟩:=aB (h23.ks ((aC.length+1),.box (.agg [.str [],.str [],.int .i64 0,.int .i64 0,.int .i64 0,.slice 0 [] .full])) wz).1;obtain⟨NB,NC,ND,NF,NG,NH⟩:=aB (h23.ks (aC.length,.box (.agg [.ptr b0 0])) wz).1;simp only[FC]at t2 s9 tA tB tC tD tE;rw[show ac.length=(ac.map (PD.int .i64)).length by simp]at nH;obtain⟨oH,fI,hap,vX,U6,_⟩:=nH.push (P:=prog) (t:=82) (b:=8) (s:=z) (xs:=ac.map (PD.int .i64)) (p:=.int .i64 t.num) (tk:=.any) h23 wz wz underlying82 xg (hz.imp (λh=>ya) id) (by rw[yAe];have:=hB.le;omega) (by rw[yAe];have:=hB.le;omega);simp only[FC]at hap;simp only[yAe]at vX;obtain⟨IU,IV,IW,IX,IY,IZ⟩:=aB (U6.ks (σ2.length,.box (Em.tk.aA t)) wz).1;obtain⟨I0,I1,I2,I3,I4,I5⟩:=aB (U6.ks (mm,.box (.agg [.str nm,.str tn,.int .i64 f1,.int .i64 f2,.int .i64 k,.slice z (ac.map (PD.int .i64)) tok])) wz).1;obtain⟨I6,I7,I8,I9,JA,JB⟩:=aB (U6.ks ((aC.length+1),.box (.agg [.str [],.str [],.int .i64 0,.int .i64 0,.int .i64 0,.slice 0 [] .full])) wz).1;obtain⟨TP,TQ,TR,TS,TT,TU⟩:=aB (U6.ks (aC.length,.box (.agg [.ptr b0 0])) wz).1;refine aD (A20 hgT @t2 hap qU qV qW qY qZ rA AQ AR AS AT AU AV AW AX AY AZ (A20 A0 A1 ua va wa BA BC BD BE BF BG BH BI BJ BK BL BM BN BO (A20 BP BQ BR BS ub vb wb s9 tA tB tC tD tE uR uS uT uU uV uW (A20 uX uY uZ u0 u6 vA NB NC ND NF NG NH IU IV IW IX IY IZ I0 (A17 I1 I2 I3 I4 I5 I6 I7 I8 I9 JA JB TP TQ TR TS TT TU))))) ?_;have gJ:=U6.set (i:=mm) (o:=.box (.agg [.str nm,.str tn,.int .i64 f1,.int .i64 f2,.int .i64 k,.slice 1 ((ac++[t.num]).map (PD.int .i64)) oH])) [(σ2.length,.box (Em.tk.aA t))] [(aC.length+1,.box (.agg [.str [],.str [],.int .i64 0,.int .i64 0,.int .i64 0,.slice 0 [] .full])),(aC.length,.box (.agg [.ptr b0 0]))] rfl xw;have hB3:eQ aC (.ptr b0 0) l _ _ _:=⟨gJ.rd,gJ.le,gJ.kp,gJ.len,λp hp=>gJ.ks p (yBE _ hp),gJ.nr⟩;refine aM.normal (m-1) xb ⟨ac++[t.num],1,nn+1,oH,_,cG (⟨xb,by rw[hac,hwi];simp,xw,.inr rfl,by simpa using vX.set U6 (yBE _ (yBa ..)),hB3⟩)⟩
 have e2:=K6 c2;have hW:=aWv c2;rw[hW,yAl]at hac;rw[e2]at t2 CF;simp only[nZ]at t2 CF;have gW:FI l pB=.ok (ac,nn):=by simp only[FI,hac,hnn]
 obtain⟨Y,hY⟩:=gn (PD.slice z (ac.map (PD.int .i64)) tok);have hYp:Y.plain=true:=by rw[<-hY];rfl
 have hYq:=hYp;unfold PD.plain at hYq;have hYs:Y.strip=mM.aA ac:=by
  rw[<-hY,PD.nQ,show(ac.map (PD.int .i64)).map PD.strip=ac.map (PD.int .i64) by rw[yBo];rfl];exact uk
 rw[hY]at CF qU qV qW qY qZ rA;obtain⟨F2,F3,F4,F5,F6,F7⟩:=aB (CF.ks (mm,.box (.agg [.str nm,.str tn,.int .i64 f1,.int .i64 f2,.int .i64 k,Y])) wz).1;obtain⟨F8,F9,GA,GB,GC,GD⟩:=aB (CF.ks ((aC.length+1),.box (.agg [.str [],.str [],.int .i64 0,.int .i64 0,.int .i64 0,.slice 0 [] .full])) wz).1;obtain⟨GF,GG,GH,GI,GJ,GK⟩:=aB (CF.ks (aC.length,.box (.agg [.ptr b0 0])) wz).1;obtain⟨ub,vb,wb⟩:=bH σ2;have h23:=CF.box (.box (.agg [.int .i64 0,.str [],.int .i64 0,.int .i64 0,.int .i64 0,.int .i64 0,.int .i64 0]));obtain⟨BT,BU,BV,BW,BX,BY⟩:=aB (h23.ks (σ2.length,.box (.agg [.int .i64 0,.str [],.int .i64 0,.int .i64 0,.int .i64 0,.int .i64 0,.int .i64 0])) wz).1;obtain⟨D2,D3,D4,D5,D6,D7⟩:=aB (h23.ks (mm,.box (.agg [.str nm,.str tn,.int .i64 f1,.int .i64 f2,.int .i64 k,Y])) wz).1;obtain⟨D8,D9,EA,EB,EC,ED⟩:=aB (h23.ks ((aC.length+1),.box (.agg [.str [],.str [],.int .i64 0,.int .i64 0,.int .i64 0,.slice 0 [] .full])) wz).1;obtain⟨TV,TW,TX,TY,TZ,T1⟩:=aB (h23.ks (aC.length,.box (.agg [.ptr b0 0])) wz).1;simp only[FC,bD]at t2 BT BU BV BW BX BY;refine aD (A20 hgT @t2 hYp hYq qU qV qW qY qZ rA AQ AR AS AT AU AV AW AX AY (A20 AZ A0 A1 ua va wa F2 F3 F4 F5 F6 F7 F8 F9 GA GB GC GD GF (A20 GG GH GI GJ GK ub vb wb BT BU BV BW BX BY D2 D3 D4 D5 D6 (A13 D7 D8 D9 EA EB EC ED TV TW TX TY TZ T1)))) ?_;obtain⟨GL,GM,GN,GO,GP,GQ⟩:=aB (h23.ks (σ2.length,.box (.agg [.int .i64 0,.str [],.int .i64 0,.int .i64 0,.int .i64 0,.int .i64 0,.int .i64 0])) wz).1;obtain⟨GR,GS,GU,GV,GW,GX⟩:=aB (h23.ks (mm,.box (.agg [.str nm,.str tn,.int .i64 f1,.int .i64 f2,.int .i64 k,Y])) wz).1;obtain⟨JC,JD,JE,JF,JG,JH⟩:=aB (h23.ks ((aC.length+1),.box (.agg [.str [],.str [],.int .i64 0,.int .i64 0,.int .i64 0,.slice 0 [] .full])) wz).1;obtain⟨P3,P4,P5,P6,P7,P8⟩:=aB (h23.ks (aC.length,.box (.agg [.ptr b0 0])) wz).1;rcases hD [.agg [.ptr b0 0]] _ (.ptr b0 0) _ l nn rfl (h23.ne hs) h23.rd h23.le hl with⟨p21,ZZ,Z0,f21,QM,r21,LK,LL⟩ | ⟨e,Z0,f21,QM,JR,LK,LL⟩
 rotate_left
 .have hE:iC l n=.error e:=by simp[iC,aQ,g1,g3,g5,g7,g9,g11,g13,gW,eD f21]
  have hpost:=h23.eI (dec:=oV) (args:=[.agg [.ptr b0 0]]) hs rfl hr (eJ hE) LK LL
  first|refine WL.aZ 1 xe xe ?_|refine WL.dP 1 xe xe ?_
  refine bF (A20 GL GM GN GO GP GQ GR GS GU GV GW GX JC JD JE JF JG JH P3 (A5 P4 P5 P6 P7 P8)) ?_;exact uv
 obtain⟨u9,g21,rfl⟩:=eE f21;have vI:=h23.call r21 ((aP.eY) _ _ _ _ h23.le g21).2 LK LL
 try simp only[yAa,yAD,yAK,yAL]at LL
 obtain⟨B0,B1,B2,B3,B4,B5⟩:=aB (vI.ks (σ2.length,.box (.agg [.int .i64 0,.str [],.int .i64 0,.int .i64 0,.int .i64 0,.int .i64 0,.int .i64 0])) wz).1;obtain⟨vB,vC,vD,vE,vF,vG⟩:=aB (vI.ks (mm,.box (.agg [.str nm,.str tn,.int .i64 f1,.int .i64 f2,.int .i64 k,Y])) wz).1;obtain⟨B6,B7,B8,B9,CA,CB⟩:=aB (vI.ks ((aC.length+1),.box (.agg [.str [],.str [],.int .i64 0,.int .i64 0,.int .i64 0,.slice 0 [] .full])) wz).1;obtain⟨JI,JK,JL,JM,JN,JO⟩:=aB (vI.ks (aC.length,.box (.agg [.ptr b0 0])) wz).1;obtain⟨U4,v21,JR⟩:=bH Z0
 first|refine Wp.seq ?_|skip
 apply Wp.dE;refine bF (A20 hghD QM GL GM GN GO GP GQ GR GS GU GV GW GX JC JD JE JF JG (A20 JH P3 P4 P5 P6 P7 P8 B0 B1 B2 B3 B4 B5 vB vC vD vE vF vG (A15 B6 B7 B8 B9 CA CB JI JK JL JM JN JO U4 @v21 JR))) ?_;apply SQ.nil;have CC:=vI.set (i:=(aC.length+1)) (o0:=.box (.agg [.str [],.str [],.int .i64 0,.int .i64 0,.int .i64 0,.slice 0 [] .full])) (o:=.box (.agg [.str nm,.str tn,.int .i64 f1,.int .i64 f2,.int .i64 k,Y])) [(σ2.length,.box (.agg [.int .i64 0,.str [],.int .i64 0,.int .i64 0,.int .i64 0,.int .i64 0,.int .i64 0])),(mm,.box (.agg [.str nm,.str tn,.int .i64 f1,.int .i64 f2,.int .i64 k,Y]))] [(aC.length,.box (.agg [.ptr b0 0]))] rfl xk;refine aD (A20 B0 B1 B2 B3 B4 B5 vB vC vD vE vF vG B6 B7 B8 B9 CA CB JI (A10 JK JL JM JN JO U4 @v21 JR hYp hYq)) ?_;have hP:iC l n=.ok (⟨nm,tn,f1,f2,k,ac⟩,ZZ):=by simp[iC,aQ,dT,g1,g3,g5,g7,g9,g11,g13,gW,g21]
 have hfin:(PD.agg [.str nm,.str tn,.int .i64 f1,.int .i64 f2,.int .i64 k,Y]).strip=Em.bO.aA ⟨nm,tn,f1,f2,k,ac⟩:=by simp only[PD.strip,PD.kP,hYs,WQ]
 right
 simp[B0,B1,B2,B3,B4,B5,vB,vC,vD,vE,vF,vG,B6,B7,B8,B9,CA,CB,JI,JK,JL,JM,JN,JO,U4,v21,JR,hYp,hYq];exact⟨_,_,⟨rfl,rfl⟩,CC.kM hs rfl hr (by rw[hfin];exact FO hP)⟩
end
end Go.Kz
