/- Steps of the proof. -/
import Derived.Test.YtnogdlnjafblaaaGreatDoorH7
import Derived.Test.YtnogdlnjafblaaaGreatDoorH3
set_option linter.all false
set_option maxHeartbeats 40000000
set_option maxRecDepth 100000
open Go.Proofs.Tryz
namespace Go.Kz
open Go Go.Proofs
structure fW (aQ σ:List U) (tok:Tok) (e:TypeId) (k n:Nat):Prop where
 row:iB σ tok e k n
 ge:∀id,tok=.own id->aQ.length<=id
theorem fW.nil{aQ σ:Dp}{e:TypeId}{k:Nat}:fW aQ σ .full e k 0:=⟨.inl ⟨rfl,rfl⟩,λ_ e=>zh⟩
theorem fW.more{aQ σ τ:Dp}{tok:Tok}{e:TypeId}{k n:Nat}(h:fW aQ σ tok e k n):fW aQ (σ++τ) tok e k n:=⟨h.row.more,h.ge⟩
theorem fW.call{aQ σ σ':Dp}{r:PD}{l:List Tk}{q:Nat}{K:List (Nat×U)}{tok:Tok}{e:TypeId}{k n:Nat}(h:fW aQ σ tok e k n)(hS:fG aQ r l σ q K)(hk:dW r σ σ'):fW aQ σ' tok e k n:=
 ⟨h.row.MM λid _ e1 e2=>hk id _ (hS.nr id (h.ge id e1)) e2,h.ge⟩
theorem fW.set{aQ σ:Dp}{r:PD}{l:List Tk}{q:Nat}{K:List (Nat×U)}{tok:Tok}{e:TypeId}{k n i:Nat}{p:PD}{o:U}(h:fW aQ σ tok e k n)(hS:fG aQ r l σ q K)(hi:(i,U.box p)∈K):fW aQ (σ.set i o) tok e k n:=
 ⟨VZ h.row (hS.ks _ hi).1,h.ge⟩
theorem fW.push{P:Program}{aQ σ:Dp}{r:PD}{l:List Tk}{q:Nat}{K:List (Nat×U)}{t e:TypeId}{k b s:Nat}{xs:Dq}{p:PD}{tk tok:Tok}(h:fW aQ σ tok e k xs.length)(hS:fG aQ r l σ q K)(hK:∀p∈K,∃o,p.2=U.box o)(hK0:K≠[])
  (hu:P.underlying t=some (.slice e)) (hi:qR P e=some (k,b)) (hs:xs=[]\/s=k) (hm:xs.length+1<=100000000000000) (hb:(xs.length+1)*b<=140737488355328) :
  ∃bP σ',dX P 0 σ t (.slice s xs tok) (.slice k [p] tk)=some (.slice k (xs++[p]) bP,σ')/\fW aQ σ' bP e k (xs.length+1)/\fG aQ r l σ' q K /\
   ∀eH e2 k2 n2,(∀id,eH=.own id->tok≠.own id)->fW aQ σ eH e2 k2 n2->fW aQ σ' eH e2 k2 n2/\∀id,eH=.own id->bP≠.own id:=by
 obtain⟨bP,σ',h1,h2,h3,h4⟩:=vD (tk:=tk) (p:=p) hu hi hs h.row hm hb;have hks:∀p∈K,σ'[p.1]?=some p.2/\aQ.length<=p.1:=λp hp=>by
  exact ku
 have hlen:aQ.length<=σ'.length:=by
  obtain⟨x,K',rfl⟩:∃x K',K=x::K':=by
   exact tj
  obtain⟨a1,a2⟩:=hks x yo;have:=(yA.1 a1).1;omega
 refine⟨bP,σ',h1,⟨h2,λid e1=>?_⟩,⟨?_,hS.le,λj o hj ho=>?_,hlen,hks,hS.nr⟩,λeH e2 k2 n2 hd h5=>⟨⟨h5.row.MM λid o e1 e3=>h3 id o (hd id e1) e3,h5.ge⟩,λid e1 e3=>?_⟩⟩
 .exact ue
 .exact oa
 .refine h3 _ _ (λe1=>?_) (hS.kp j o hj ho);have:=h.ge j e1;have:=(yA.1 ho).1;omega
 .exact fo
theorem KV{q:Tk->Bool}{l:List Tk}{n:Nat}(h:(bS q l n).1.2=true):∃t,l[n]?=some t/\q t=true/\bS q l n=((t,true),n+1):=by
 unfold bS at h ⊢;split
 .rename_i t ht;rw[ht]at h;simp only at h;split
  .rename_i h2;exact⟨t,ht,h2,rfl⟩
  .rename_i h2;rw[yAI h2]at h;cases h
 .rename_i ht;rw[ht]at h;cases h
theorem a1j{q:Tk->Bool}{l:List Tk}{n:Nat}{t:Tk}(h:(bS q l n).1.2=false)(ht:l[n]?=some t):q t=false:=by
 unfold bS at h;rw[ht]at h;simp only at h;split at h
 .cases h
 .rename_i h2;simpa using h2
theorem a1k{l:List Tk}{n:Nat}(h:(bS (λt=>decide (t.kind=2)) l n).1.2=true):∃t,bS (λt=>decide (t.kind=2)) l n=((t,true),n+1)/\n<l.length/\oF (l.drop n)=t.num::oF (l.drop (n+1)):=by
 obtain⟨t,h1,h2,h3⟩:=KV h;have hl:=(yA.1 h1).1;refine⟨t,h3,hl,?_⟩;rw[yAq hl];have h4:l[n]=t:=by
  rw[yAh hl]at h1;exact yBw h1
 rw[h4]
 conv=>lhs;unfold oF
 rw[yAJ Bv]
theorem a1l{l:List Tk}{n:Nat}(h:(bS (λt=>decide (t.kind=2)) l n).1.2=false):oF (l.drop n)=[]:=by
 rcases yBF n l.length with hl|hl
 .rw[yAq hl];have h4:=a1j h (yAh hl);unfold oF;rw[yAI (by simpa using h4)]
 .rw[yAs hl];rfl
def nI{α:Type}(w:List UInt8)(body:Pm α)(l:List Tk)(X:Except Fl (List α×Nat))(ac:List α)(nn:Nat):Prop:=ac.length<=nn/\∃f,X=oU w body f ac l nn/\l.length+1<=f+nn
theorem nI.start{α:Type}{w:Dr}{body:Pm α}{l:List Tk}{n:Nat}:nI w body l (oT w body l n) [] n:=⟨yo,l.length+1-n,rfl,ym⟩
theorem nI.ok{α:Type}{w:Dr}{body:Pm α}{l:List Tk}{X:Except Fl (List α×Nat)}{ac:List α}{nn n' n2:Nat}{t:Tk}{a:α}(h:nI w body l X ac nn)(hn:nn<=l.length)(hF:aP body)(ht:bS (isWord 1 w) l nn=((t,true),n'))(hx:body l n'=.ok (a,n2)) :
  nI w body l X (ac++[a]) n2/\nn<n2/\n2<=l.length:=by
 obtain⟨ha,f,rfl,hf⟩:=h;obtain⟨t',h1,_,h3⟩:=KV (q:=isWord 1 w) (l:=l) (n:=nn) (by rw[ht]);rw[ht]at h3;simp only[yAc]at h3;obtain⟨_,rfl⟩:=h3;have hl:=(yA.1 h1).1;obtain⟨h4,h5⟩:=hF l (nn+1) a n2 ym hx;obtain⟨f,rfl⟩:∃g,f=g+1:=⟨f-1,ym⟩;refine⟨⟨by simp only[yAa,yBh];omega,f,?_,ym⟩,ym,h5⟩
 conv=>lhs;unfold oU
 rw[ht];simp only[yAM,hx]
theorem nI.er{α:Type}{w:Dr}{body:Pm α}{l:List Tk}{X:Except Fl (List α×Nat)}{ac:List α}{nn n':Nat}{t:Tk}{e:Fl}(h:nI w body l X ac nn)(hn:nn<=l.length)(ht:bS (isWord 1 w) l nn=((t,true),n'))(hx:body l n'=.error e):X=.error e:=by
 obtain⟨ha,f,rfl,hf⟩:=h;obtain⟨f,rfl⟩:∃g,f=g+1:=⟨f-1,ym⟩;unfold oU;rw[ht];simp only[yAM,hx]
theorem nI.stop{α:Type}{w:Dr}{body:Pm α}{l:List Tk}{X:Except Fl (List α×Nat)}{ac:List α}{nn:Nat}(h:nI w body l X ac nn)(hn:nn<=l.length)(ht:(bS (isWord 1 w) l nn).1.2=false):X=.ok (ac,nn):=by
 obtain⟨ha,f,rfl,hf⟩:=h;obtain⟨f,rfl⟩:∃g,f=g+1:=⟨f-1,ym⟩;unfold oU;rw[ht];rfl
section
set_option maxRecDepth 10000
variable{E:aE}(hU:aG E)
include hU
theorem aX7(h0:E 57=none)(l:List aX)(hl:l.length<=100000):aJ prog E 57 [aU.aA l] (texts.aA (l.map aX.name)):=by
 refine aJ.aV 19 h0 func57 (h:=?_);refine aD trivial ?_;refine Wp.dK (λm fr σ=>∃(i z:Nat) (tok:Tok) (σ1:List U),∃gg:Nat->PD,(i+m=l.length/\(i=0\/z=1)/\iB σ1 tok 9 1 i)/\fr=[gg 0,gg 1,gg 2,.slice z (((l.take i).map aX.name).map PD.str) tok,gg 4,gg 5,aU.aA l,.int .i64 l.length,.int .i64 i,gg 9,gg 10,gg 11,gg 12,gg 13,gg 14,gg 15,gg 16,gg 17,gg 18]/\σ=σ1) ?_ (l.length) (by refine⟨0,0,.full,[],?_⟩;exact bV (⟨ym,.inl rfl,.inl ⟨rfl,rfl⟩⟩))
 rintro m fr σ ⟨i,z,tok,σ1,gg,hI,rfl,rfl⟩
 obtain⟨hm,hz,hrow⟩:=hI;obtain⟨u1,v1,w1⟩:=bO σ
 by_cases hi:i<l.length
 .have q1:(i:Int)<(l.length:Int):=by omega
  obtain⟨a,ha⟩:=gn (l[i]);have htk:(l.take (i+1)).map aX.name=(l.take i).map aX.name++[a.name]:=by
   rw[yBX hi,yAH,ha];rfl
  obtain⟨a1,a2,a3,a4,a5,a6⟩:=a;have dZ:=hrow.more (τ:=[.box (.agg [.str a1,.str a2,.int .i64 a3,.int .i64 a4,.int .i64 a5,.slice (sz 1 a6) (a6.map i64.aA) .any])]);obtain⟨A,hA⟩:=gn (((l.take i).map aX.name).map PD.str);have hAl:A.length=i:=by rw[<-hA,yAe,yAe,yAt];omega
  obtain⟨bP,dL,hap,hr',hkeep,hnew⟩:=vD (P:=prog) (t:=55) (e:=9) (k:=1) (b:=16) (s:=z) (xs:=A) (p:=.str a1) (tk:=.any) (tok:=tok)
   underlying55 yp (hz.imp (λh=>yAf ym) id) (by rw[hAl];exact dZ) ym ym
  rw[hAl]at hr';have hA2:((l.take (i+1)).map aX.name).map PD.str=A++[.str a1]:=by rw[htk,yAH,hA];rfl
  have hA3:=hA2;simp only[yBc,yCG]at hA3;rw[hA];refine aD (A7 q1 hi ha u1 @v1 w1 hap) ?_;refine aL.normal (m-1) ym (by refine⟨i+1,1,bP,dL,?_⟩;exact fL (⟨ym,.inr rfl,hr'⟩) @hA3)
 .have q1:¬(i:Int)<(l.length:Int):=by omega
  obtain rfl:i=l.length:=ym;rw[yBz];have hst:(PD.slice z ((l.map aX.name).map PD.str) tok).strip=texts.aA (l.map aX.name):=by
   rw[PD.lD,show((l.map aX.name).map PD.str).map PD.strip=(l.map aX.name).map PD.str by rw[yBc];rfl];rcases hz with h|h
   .have:l=[]:=yAf h;subst this;rfl
   .exact cz
  obtain⟨Y,hY⟩:=gn (PD.slice z ((l.map aX.name).map PD.str) tok);exact nw
end
section
noncomputable def nD:kU:=λargs=>match args with
 | [.agg [.ptr b 0],s]=>(match texts.dec s with|some ns=>bE (ns.length<=1000000) (some (.ptr b 0,jZ (iF ns) Em.cC.aA))|none=>none)
 |_=>none
theorem aQj{b0:Nat}{s:PD}{ns:List (List UInt8)}(h:texts.dec s=some ns)(hl:ns.length<=1000000):rB [.agg [.ptr b0 0],s]=some (.ptr b0 0,jZ (nG ns) (.int .i64)):=by
 simp only[rB,h];rw[dC hl]
variable{E:aE}(hU:aG E)
include hU
set_option maxRecDepth 10000
theorem aX3(h0:E 93=none)(hN:PC E 88 vP)(hK:PC E 87 vO)(hI:PC E 133 rB)(hM:PC E 131 FB)(hD:PC E 89 vQ)(hW:RC E 90 (HJ 1) gY):PW E 93 nD:=by
 intro args σ r F l n hd hs hr hn hl;unfold nD at hd;split at hd
 rotate_left
 .cases hd
 rename_i b0 s;split at hd
 rotate_left
 .cases hd
 rename_i ns hns;obtain⟨hnl,hd⟩:=cX hd;have hdd:nD [.agg [.ptr b0 0],s]=some (.ptr b0 0,jZ (iF ns) Em.cC.aA):=by simp only[nD,hns];rw[dC hnl]
 have hix:=aQj (b0:=b0) hns hnl;simp only[yAb,yAc]at hd;obtain⟨rfl,rfl⟩:=hd;obtain⟨ghN,qhN,hghN,hqhN,hN⟩:=hN;obtain⟨ghK,qhK,hghK,hqhK,hK⟩:=hK;obtain⟨ghI,qhI,hghI,hqhI,hI⟩:=hI;obtain⟨ghM,qhM,hghM,hqhM,hM⟩:=hM;obtain⟨ghD,qhD,hghD,hqhD,hD⟩:=hD;obtain⟨gW,hgW,hW⟩:=hW;have hS:=((fG.start hr hn).box (.box (.agg [.ptr b0 0]))).box (.box (.agg [.str [],.int .i64 0,.int .i64 0,.int .i64 0,.bool false]));simp only[yAi,yAR,yAQ,yAa,yAK,yAL,yAp]at hS;apply mN.mR h0 func93 rfl
 focus(simp[show Tryz.f93.ntmps=_ from rfl,List.replicate];rfl)
 refine aD trivial ?_;obtain⟨kF,kG,kH,kI,kJ,kK⟩:=aB (hS.ks ((σ.length+1),.box (.agg [.str [],.int .i64 0,.int .i64 0,.int .i64 0,.bool false])) yo).1;obtain⟨pZ,qA,qB,qC,qD,qE⟩:=aB (hS.ks (σ.length,.box (.agg [.ptr b0 0])) yo).1;rcases hN [.agg [.ptr b0 0]] _ (.ptr b0 0) _ l n rfl (hS.ne hs) hS.rd hS.le hl with⟨p1,n1,σ1,f1,e1,r1,k1,q1⟩ | ⟨e,σ1,f1,e1,w1,k1,q1⟩
 rotate_left
 .have hE:iF ns l n=.error e:=by simp[iF,aR,eR f1]
  have hpost:=hS.eW (dec:=nD) (args:=[.agg [.ptr b0 0],s]) hs hdd hr (eX hE) k1 q1;exact ux
 obtain⟨nm,g1,rfl⟩:=eS f1;have h1:=hS.call r1 ((aP.name) _ _ _ _ hS.le g1).2 k1 q1
 try simp only[yAa,yAD,yAK,yAL]at q1
 obtain⟨iZ,jA,jB,jC,jD,jE⟩:=aB (h1.ks ((σ.length+1),.box (.agg [.str [],.int .i64 0,.int .i64 0,.int .i64 0,.bool false])) yo).1;obtain⟨qG,qH,qI,qJ,qK,qL⟩:=aB (h1.ks (σ.length,.box (.agg [.ptr b0 0])) yo).1;obtain⟨u1,v1,w1⟩:=bO σ1
 first|refine Wp.seq ?_|skip
 apply Wp.dU;refine bM xg ?_;apply SQ.nil;have H1:=h1.box (.box (.agg [.str nm,.int .i64 0,.int .i64 0,.int .i64 0,.bool false]));refine aD xe ?_;obtain⟨rK,rL,rM,rN,rO,rP⟩:=aB (H1.ks (σ1.length,.box (.agg [.str nm,.int .i64 0,.int .i64 0,.int .i64 0,.bool false])) yo).1;obtain⟨rQ,rR,rS,rT,rU,rV⟩:=aB (H1.ks ((σ.length+1),.box (.agg [.str [],.int .i64 0,.int .i64 0,.int .i64 0,.bool false])) yo).1;obtain⟨y7,y8,y9,zA,zB,zC⟩:=aB (H1.ks (σ.length,.box (.agg [.ptr b0 0])) yo).1;rcases hK [.agg [.ptr b0 0],.str [102,114,111,109]] _ (.ptr b0 0) _ l n1 rfl (H1.ne hs) H1.rd H1.le hl with⟨p3,n3,σ3,f3,e3,r3,k3,q3⟩ | ⟨e,σ3,f3,e3,w3,k3,q3⟩
 rotate_left
 .have hE:iF ns l n=.error e:=by simp[iF,aR,g1,eR f3]
  have hpost:=H1.eW (dec:=nD) (args:=[.agg [.ptr b0 0],s]) hs hdd hr (eX hE) k3 q3;exact ve
 obtain⟨u1,g3,rfl⟩:=eS f3;have h3:=H1.call r3 ((aP.key) _ _ _ _ H1.le g3).2 k3 q3
 try simp only[yAa,yAD,yAK,yAL]at q3
 obtain⟨tE,tF,tG,tH,tI,tJ⟩:=aB (h3.ks (σ1.length,.box (.agg [.str nm,.int .i64 0,.int .i64 0,.int .i64 0,.bool false])) yo).1;obtain⟨tK,tL,tM,tN,tO,tP⟩:=aB (h3.ks ((σ.length+1),.box (.agg [.str [],.int .i64 0,.int .i64 0,.int .i64 0,.bool false])) yo).1;obtain⟨IB,IC,ID,IE,IF,IG⟩:=aB (h3.ks (σ.length,.box (.agg [.ptr b0 0])) yo).1;obtain⟨u3,v3,w3⟩:=bO σ3
 first|refine Wp.seq ?_|skip
 apply Wp.dU;refine bM yb ?_;apply SQ.nil;refine aD yc ?_;obtain⟨zD,zE,zF,zG,zH,zI⟩:=aB (h3.ks (σ1.length,.box (.agg [.str nm,.int .i64 0,.int .i64 0,.int .i64 0,.bool false])) yo).1;obtain⟨zJ,zK,zL,zM,zN,zO⟩:=aB (h3.ks ((σ.length+1),.box (.agg [.str [],.int .i64 0,.int .i64 0,.int .i64 0,.bool false])) yo).1;obtain⟨zP,zQ,zR,zS,zT,zU⟩:=aB (h3.ks (σ.length,.box (.agg [.ptr b0 0])) yo).1;rcases hI [.agg [.ptr b0 0],s] _ (.ptr b0 0) _ l n3 hix (h3.ne hs) h3.rd h3.le hl with⟨p5,n5,kS,f5,e5,r5,k5,q5⟩ | ⟨e,kS,f5,e5,w5,k5,q5⟩
 rotate_left
 .have hE:iF ns l n=.error e:=by simp[iF,aR,g1,g3,eR f5]
  have hpost:=h3.eW (dec:=nD) (args:=[.agg [.ptr b0 0],s]) hs hdd hr (eX hE) k5 q5
  first|refine WL.bD 2 yu yu ?_|refine WL.eE 2 yu yu ?_
  refine bM xm ?_;apply SQ.nil;refine dH.call (.i yu) yu yu hghI hqhI e5 w5 ?_;exact af
 obtain⟨ix,g5,rfl⟩:=eS f5;have h5:=h3.call r5 ((aP.index) _ _ _ _ h3.le g5).2 k5 q5
 try simp only[yAa,yAD,yAK,yAL]at q5
 obtain⟨zV,zW,zX,zY,zZ,z7⟩:=aB (h5.ks (σ1.length,.box (.agg [.str nm,.int .i64 0,.int .i64 0,.int .i64 0,.bool false])) yo).1;obtain⟨z8,AA,AB,AD,AE,AF⟩:=aB (h5.ks ((σ.length+1),.box (.agg [.str [],.int .i64 0,.int .i64 0,.int .i64 0,.bool false])) yo).1;obtain⟨AG,AH,AI,AJ,AK,AL⟩:=aB (h5.ks (σ.length,.box (.agg [.ptr b0 0])) yo).1;obtain⟨u5,v5,w5⟩:=bO kS
 first|refine Wp.seq ?_|skip
 apply Wp.dU;refine bM (A20 hghI e5 zD zE zF zG zH zI zJ zK zL zM zN zO zP zQ zR zS zT (A20 zU zV zW zX zY zZ z7 z8 AA AB AD AE AF AG AH AI AJ AK AL (A3 u5 @v5 w5))) ?_;apply SQ.nil;have H5:=h5.set (i:=σ1.length) (o0:=.box (.agg [.str nm,.int .i64 0,.int .i64 0,.int .i64 0,.bool false])) (o:=.box (.agg [.str nm,.int .i64 ix,.int .i64 0,.int .i64 0,.bool false])) [] [((σ.length+1),.box (.agg [.str [],.int .i64 0,.int .i64 0,.int .i64 0,.bool false])),(σ.length,.box (.agg [.ptr b0 0]))] rfl yz;refine aD xo ?_;obtain⟨rW,rX,rY,rZ,sA,sB⟩:=aB (H5.ks (σ1.length,.box (.agg [.str nm,.int .i64 ix,.int .i64 0,.int .i64 0,.bool false])) yo).1;obtain⟨sC,sD,sE,sF,sG,sH⟩:=aB (H5.ks ((σ.length+1),.box (.agg [.str [],.int .i64 0,.int .i64 0,.int .i64 0,.bool false])) yo).1;obtain⟨tQ,tR,tS,tT,tU,tV⟩:=aB (H5.ks (σ.length,.box (.agg [.ptr b0 0])) yo).1;rcases hK [.agg [.ptr b0 0],.str [116,111]] _ (.ptr b0 0) _ l n5 rfl (H5.ne hs) H5.rd H5.le hl with⟨p7,n7,FH,f7,e7,r7,k7,q7⟩ | ⟨e,FH,f7,e7,w7,k7,q7⟩
 rotate_left
 .have hE:iF ns l n=.error e:=by simp[iF,aR,g1,g3,g5,eR f7]
  have hpost:=H5.eW (dec:=nD) (args:=[.agg [.ptr b0 0],s]) hs hdd hr (eX hE) k7 q7;exact vf
 obtain⟨u2,g7,rfl⟩:=eS f7;have h7:=H5.call r7 ((aP.key) _ _ _ _ H5.le g7).2 k7 q7
 try simp only[yAa,yAD,yAK,yAL]at q7
 obtain⟨FN,FO,FP,FQ,FT,FU⟩:=aB (h7.ks (σ1.length,.box (.agg [.str nm,.int .i64 ix,.int .i64 0,.int .i64 0,.bool false])) yo).1;obtain⟨FV,FW,FX,FY,FZ,F0⟩:=aB (h7.ks ((σ.length+1),.box (.agg [.str [],.int .i64 0,.int .i64 0,.int .i64 0,.bool false])) yo).1;obtain⟨F2,F3,F4,F5,F6,F7⟩:=aB (h7.ks (σ.length,.box (.agg [.ptr b0 0])) yo).1;obtain⟨u7,v7,w7⟩:=bO FH
 first|refine Wp.seq ?_|skip
 apply Wp.dU;refine bM yd ?_;apply SQ.nil;refine aD ye ?_;obtain⟨tW,tX,tY,tZ,uA,uB⟩:=aB (h7.ks (σ1.length,.box (.agg [.str nm,.int .i64 ix,.int .i64 0,.int .i64 0,.bool false])) yo).1;obtain⟨uC,uD,uE,uF,uG,uH⟩:=aB (h7.ks ((σ.length+1),.box (.agg [.str [],.int .i64 0,.int .i64 0,.int .i64 0,.bool false])) yo).1;obtain⟨uI,uJ,uK,uL,uM,uN⟩:=aB (h7.ks (σ.length,.box (.agg [.ptr b0 0])) yo).1;rcases hI [.agg [.ptr b0 0],s] _ (.ptr b0 0) _ l n7 hix (h7.ne hs) h7.rd h7.le hl with⟨p9,n9,oD,f9,e9,r9,k9,q9⟩ | ⟨e,oD,f9,e9,w9,k9,q9⟩
 rotate_left
 .have hE:iF ns l n=.error e:=by simp[iF,aR,g1,g3,g5,g7,eR f9]
  have hpost:=h7.eW (dec:=nD) (args:=[.agg [.ptr b0 0],s]) hs hdd hr (eX hE) k9 q9
  first|refine WL.bD 2 yu yu ?_|refine WL.eE 2 yu yu ?_
  refine bM xh ?_;apply SQ.nil;refine dH.call (.i yu) yu yu hghI hqhI e9 w9 ?_;exact af
 obtain⟨iy,g9,rfl⟩:=eS f9;have h9:=h7.call r9 ((aP.index) _ _ _ _ h7.le g9).2 k9 q9
 try simp only[yAa,yAD,yAK,yAL]at q9
 obtain⟨AR,AS,AT,AU,AV,AW⟩:=aB (h9.ks (σ1.length,.box (.agg [.str nm,.int .i64 ix,.int .i64 0,.int .i64 0,.bool false])) yo).1;obtain⟨AX,AY,AZ,A0,A1,BA⟩:=aB (h9.ks ((σ.length+1),.box (.agg [.str [],.int .i64 0,.int .i64 0,.int .i64 0,.bool false])) yo).1;obtain⟨BC,BD,BE,BF,BG,BH⟩:=aB (h9.ks (σ.length,.box (.agg [.ptr b0 0])) yo).1;obtain⟨u9,v9,w9⟩:=bO oD
 first|refine Wp.seq ?_|skip
 apply Wp.dU;refine bM (A20 hghI e9 tW tX tY tZ uA uB uC uD uE uF uG uH uI uJ uK uL uM (A20 uN AR AS AT AU AV AW AX AY AZ A0 A1 BA BC BD BE BF BG BH (A3 u9 @v9 w9))) ?_;apply SQ.nil;have H9:=h9.set (i:=σ1.length) (o0:=.box (.agg [.str nm,.int .i64 ix,.int .i64 0,.int .i64 0,.bool false])) (o:=.box (.agg [.str nm,.int .i64 ix,.int .i64 iy,.int .i64 0,.bool false])) [] [((σ.length+1),.box (.agg [.str [],.int .i64 0,.int .i64 0,.int .i64 0,.bool false])),(σ.length,.box (.agg [.ptr b0 0]))] rfl yz;refine aD xj ?_;obtain⟨BI,BJ,BK,BL,BM,BN⟩:=aB (H9.ks (σ1.length,.box (.agg [.str nm,.int .i64 ix,.int .i64 iy,.int .i64 0,.bool false])) yo).1;obtain⟨BO,BP,BQ,BR,BS,BT⟩:=aB (H9.ks ((σ.length+1),.box (.agg [.str [],.int .i64 0,.int .i64 0,.int .i64 0,.bool false])) yo).1;obtain⟨BU,BV,BW,BY,BZ,B0⟩:=aB (H9.ks (σ.length,.box (.agg [.ptr b0 0])) yo).1;rcases hK [.agg [.ptr b0 0],.str [115,104,105,102,116]] _ (.ptr b0 0) _ l n9 rfl (H9.ne hs) H9.rd H9.le hl with⟨p11,TO,JY,f11,u6,TP,sO,oW⟩ | ⟨e,JY,f11,u6,oX,sO,oW⟩
 rotate_left
 .have hE:iF ns l n=.error e:=by simp[iF,aR,g1,g3,g5,g7,g9,eR f11]
  have hpost:=H9.eW (dec:=nD) (args:=[.agg [.ptr b0 0],s]) hs hdd hr (eX hE) sO oW
  first|refine WL.bD 1 yu yu ?_|refine WL.eE 1 yu yu ?_
  refine bM (A18 BI BJ BK BL BM BN BO BP BQ BR BS BT BU BV BW BY BZ B0) ?_;apply SQ.nil;refine dH.call (.i yu) yu yu hghK hqhK u6 oX ?_;exact af
 obtain⟨u3,g11,rfl⟩:=eS f11;have h11:=H9.call TP ((aP.key) _ _ _ _ H9.le g11).2 sO oW
 try simp only[yAa,yAD,yAK,yAL]at oW
 obtain⟨B1,B2,B3,B4,B5,B6⟩:=aB (h11.ks (σ1.length,.box (.agg [.str nm,.int .i64 ix,.int .i64 iy,.int .i64 0,.bool false])) yo).1;obtain⟨B7,B8,B9,CA,CB,CC⟩:=aB (h11.ks ((σ.length+1),.box (.agg [.str [],.int .i64 0,.int .i64 0,.int .i64 0,.bool false])) yo).1;obtain⟨CD,CE,CF,CG,CH,CI⟩:=aB (h11.ks (σ.length,.box (.agg [.ptr b0 0])) yo).1;obtain⟨JZ,v11,oX⟩:=bO JY
 first|refine Wp.seq ?_|skip
 apply Wp.dU;refine bM (A20 hghK u6 BI BJ BK BL BM BN BO BP BQ BR BS BT BU BV BW BY BZ (A20 B0 B1 B2 B3 B4 B5 B6 B7 B8 B9 CA CB CC CD CE CF CG CH CI (A3 JZ @v11 oX))) ?_;apply SQ.nil;refine aD xq ?_;obtain⟨CJ,CL,CM,CN,CO,CP⟩:=aB (h11.ks (σ1.length,.box (.agg [.str nm,.int .i64 ix,.int .i64 iy,.int .i64 0,.bool false])) yo).1;obtain⟨wD,wE,wF,wG,wH,wI⟩:=aB (h11.ks ((σ.length+1),.box (.agg [.str [],.int .i64 0,.int .i64 0,.int .i64 0,.bool false])) yo).1;obtain⟨CQ,CR,CS,CT,CU,CV⟩:=aB (h11.ks (σ.length,.box (.agg [.ptr b0 0])) yo).1;rcases hM [.agg [.ptr b0 0]] _ (.ptr b0 0) _ l TO rfl (h11.ne hs) h11.rd h11.le hl with⟨p13,qM,xQ,f13,vA,TQ,sP,oY⟩ | ⟨e,xQ,f13,vA,oZ,sP,oY⟩
 rotate_left
 .have hE:iF ns l n=.error e:=by simp[iF,aR,g1,g3,g5,g7,g9,g11,eR f13]
  have hpost:=h11.eW (dec:=nD) (args:=[.agg [.ptr b0 0],s]) hs hdd hr (eX hE) sP oY
  first|refine WL.bD 1 yu yu ?_|refine WL.eE 1 yu yu ?_
  refine bM xu ?_;apply SQ.nil;refine dH.call (.i yu) yu yu hghM hqhM vA oZ ?_;exact af
 obtain⟨sh,g13,rfl⟩:=eS f13;have kL:=h11.call TQ ((aP.num) _ _ _ _ h11.le g13).2 sP oY
 try simp only[yAa,yAD,yAK,yAL]at oY
 obtain⟨wK,wL,wM,wN,wP,wQ⟩:=aB (kL.ks (σ1.length,.box (.agg [.str nm,.int .i64 ix,.int .i64 iy,.int .i64 0,.bool false])) yo).1;obtain⟨uO,uP,uQ,uR,uS,uT⟩:=aB (kL.ks ((σ.length+1),.box (.agg [.str [],.int .i64 0,.int .i64 0,.int .i64 0,.bool false])) yo).1;obtain⟨wR,wS,wU,wV,wW,wX⟩:=aB (kL.ks (σ.length,.box (.agg [.ptr b0 0])) yo).1;obtain⟨J0,J1,oZ⟩:=bO xQ
 first|refine Wp.seq ?_|skip
 apply Wp.dU;refine bM (A20 hghM vA CJ CL CM CN CO CP wD wE wF wG wH wI CQ CR CS CT CU (A20 CV wK wL wM wN wP wQ uO uP uQ uR uS uT wR wS wU wV wW wX (A3 J0 J1 oZ))) ?_;apply SQ.nil;have QM:=kL.set (i:=σ1.length) (o0:=.box (.agg [.str nm,.int .i64 ix,.int .i64 iy,.int .i64 0,.bool false])) (o:=.box (.agg [.str nm,.int .i64 ix,.int .i64 iy,.int .i64 sh,.bool false])) [] [((σ.length+1),.box (.agg [.str [],.int .i64 0,.int .i64 0,.int .i64 0,.bool false])),(σ.length,.box (.agg [.ptr b0 0]))] rfl yz;obtain⟨sI,sJ,sK,sL,sM,sN⟩:=aB (QM.ks (σ1.length,.box (.agg [.str nm,.int .i64 ix,.int .i64 iy,.int .i64 sh,.bool false])) yo).1;obtain⟨CX,CY,CZ,C1,C3,C4⟩:=aB (QM.ks ((σ.length+1),.box (.agg [.str [],.int .i64 0,.int .i64 0,.int .i64 0,.bool false])) yo).1;obtain⟨C5,C6,C7,C8,C9,DC⟩:=aB (QM.ks (σ.length,.box (.agg [.ptr b0 0])) yo).1;obtain⟨a4s,t16,r16,k16,q16⟩:=hW [.ptr b0 0,.str [116,104,114,111,117,103,104]] _ (.ptr b0 0) _ l qM ⟨_,rfl,rfl⟩ (QM.ne hs) QM.rd QM.le hl;have YD:=QM.call r16 (pY _ QM.le) k16 q16;obtain⟨X16,aQw⟩:=gn (bS (isWord 1 [116,104,114,111,117,103,104]) l qM);rw[aQw]at t16 YD;obtain⟨⟨a81,th⟩,n16⟩:=X16;simp only[gY]at t16 YD;have g16:vW [116,104,114,111,117,103,104] l qM=.ok (th,n16):=by simp[vW,aQw]
 try simp only[yAa,yAD,yAK,yAL]at q16
 obtain⟨uU,uV,uW,uX,uY,uZ⟩:=aB (YD.ks (σ1.length,.box (.agg [.str nm,.int .i64 ix,.int .i64 iy,.int .i64 sh,.bool false])) yo).1;obtain⟨wY,wZ,xA,xB,xC,xD⟩:=aB (YD.ks ((σ.length+1),.box (.agg [.str [],.int .i64 0,.int .i64 0,.int .i64 0,.bool false])) yo).1;obtain⟨xE,xF,xG,xH,xI,xJ⟩:=aB (YD.ks (σ.length,.box (.agg [.ptr b0 0])) yo).1;obtain⟨u16,v16,w16⟩:=bO a4s;have GS:=YD.set (i:=σ1.length) (o0:=.box (.agg [.str nm,.int .i64 ix,.int .i64 iy,.int .i64 sh,.bool false])) (o:=.box (.agg [.str nm,.int .i64 ix,.int .i64 iy,.int .i64 sh,.bool th])) [] [((σ.length+1),.box (.agg [.str [],.int .i64 0,.int .i64 0,.int .i64 0,.bool false])),(σ.length,.box (.agg [.ptr b0 0]))] rfl yz;obtain⟨LG,LH,LI,LJ,LK,LL⟩:=aB (GS.ks (σ1.length,.box (.agg [.str nm,.int .i64 ix,.int .i64 iy,.int .i64 sh,.bool th])) yo).1;obtain⟨LM,LN,LO,LP,LQ,LR⟩:=aB (GS.ks ((σ.length+1),.box (.agg [.str [],.int .i64 0,.int .i64 0,.int .i64 0,.bool false])) yo).1;obtain⟨LU,LV,LW,LX,LY,LZ⟩:=aB (GS.ks (σ.length,.box (.agg [.ptr b0 0])) yo).1;refine aD (A20 wK wL wM wN wP wQ uO uP uQ uR uS uT wR wS wU wV wW wX J0 (A20 J1 oZ sI sJ sK sL sM sN CX CY CZ C1 C3 C4 C5 C6 C7 C8 C9 (A20 DC hgW @t16 uU uV uW uX uY uZ wY wZ xA xB xC xD xE xF xG xH (A20 xI xJ @u16 v16 w16 LG LH LI LJ LK LL LM LN LO LP LQ LR LU LV (A4 LW LX LY LZ))))) ?_;obtain⟨II,IJ,IK,IL,IM,IN⟩:=aB (GS.ks (σ1.length,.box (.agg [.str nm,.int .i64 ix,.int .i64 iy,.int .i64 sh,.bool th])) yo).1;obtain⟨IP,IQ,IS,IT,IU,IV⟩:=aB (GS.ks ((σ.length+1),.box (.agg [.str [],.int .i64 0,.int .i64 0,.int .i64 0,.bool false])) yo).1;obtain⟨IW,IX,IY,IZ,I0,I1⟩:=aB (GS.ks (σ.length,.box (.agg [.ptr b0 0])) yo).1;rcases hD [.agg [.ptr b0 0]] _ (.ptr b0 0) _ l n16 rfl (GS.ne hs) GS.rd GS.le hl with⟨p19,n19,aBv,f19,TR,r19,OC,OD⟩ | ⟨e,aBv,f19,TR,MD,OC,OD⟩
 rotate_left
 .have hE:iF ns l n=.error e:=by simp[iF,aR,g1,g3,g5,g7,g9,g11,g13,g16,eR f19]
  have hpost:=GS.eW (dec:=nD) (args:=[.agg [.ptr b0 0],s]) hs hdd hr (eX hE) OC OD
  first|refine WL.bD 1 yu yu ?_|refine WL.eE 1 yu yu ?_
  refine bM (A18 II IJ IK IL IM IN IP IQ IS IT IU IV IW IX IY IZ I0 I1) ?_;apply SQ.nil;refine dH.call (.i yu) yu yu hghD hqhD TR MD ?_;exact af
 obtain⟨u4,g19,rfl⟩:=eS f19;have h19:=GS.call r19 ((aP.fO) _ _ _ _ GS.le g19).2 OC OD
 try simp only[yAa,yAD,yAK,yAL]at OD
 obtain⟨DW,DY,DZ,D0,D1,D2⟩:=aB (h19.ks (σ1.length,.box (.agg [.str nm,.int .i64 ix,.int .i64 iy,.int .i64 sh,.bool th])) yo).1;obtain⟨F8,F9,GA,GB,GC,GD⟩:=aB (h19.ks ((σ.length+1),.box (.agg [.str [],.int .i64 0,.int .i64 0,.int .i64 0,.bool false])) yo).1;obtain⟨GF,GG,GH,GI,GJ,GK⟩:=aB (h19.ks (σ.length,.box (.agg [.ptr b0 0])) yo).1;obtain⟨YA,YB,MD⟩:=bO aBv
 first|refine Wp.seq ?_|skip
 apply Wp.dU;refine bM (A20 hghD TR II IJ IK IL IM IN IP IQ IS IT IU IV IW IX IY IZ I0 (A20 I1 DW DY DZ D0 D1 D2 F8 F9 GA GB GC GD GF GG GH GI GJ GK (A3 YA YB MD))) ?_;apply SQ.nil;have EF:=h19.set (i:=(σ.length+1)) (o0:=.box (.agg [.str [],.int .i64 0,.int .i64 0,.int .i64 0,.bool false])) (o:=.box (.agg [.str nm,.int .i64 ix,.int .i64 iy,.int .i64 sh,.bool th])) [(σ1.length,.box (.agg [.str nm,.int .i64 ix,.int .i64 iy,.int .i64 sh,.bool th]))] [(σ.length,.box (.agg [.ptr b0 0]))] rfl yz;refine aD (A20 DW DY DZ D0 D1 D2 F8 F9 GA GB GC GD GF GG GH GI GJ GK YA (A2 YB MD)) ?_;have hP:iF ns l n=.ok (⟨nm,ix,iy,sh,th⟩,n19):=by simp[iF,aR,eG,g1,g3,g5,g7,g9,g11,g13,g16,g19]
 right
 simp[DW,DY,DZ,D0,D1,D2,F8,F9,GA,GB,GC,GD,GF,GG,GH,GI,GJ,GK,YA,YB,MD];exact⟨_,_,⟨rfl,rfl⟩,EF.lK hs hdd hr (H7 hP)⟩
end
section
def pW:kU:=λargs=>match args with
 | [.agg [.ptr b 0]]=>some (.ptr b 0,jZ iX Em.bC.aA)
 |_=>none
variable{E:aE}(hU:aG E)
include hU
set_option maxRecDepth 10000
theorem aXR(h0:E 91=none)(hN:PC E 88 vP)(hK:PC E 87 vO)(hF:PC E 130 HK)(hM:PC E 131 FB)(hD:PC E 89 vQ)(hT:RC E 132 RY pA):PW E 91 pW:=by
 intro args aC r F l n hd hs hr hn hl;unfold pW at hd;split at hd
 rotate_left
 .cases hd
 rename_i b0;simp only[yAb,yAc]at hd;obtain⟨rfl,rfl⟩:=hd;obtain⟨ghN,qhN,hghN,hqhN,hN⟩:=hN;obtain⟨ghK,qhK,hghK,hqhK,hK⟩:=hK;obtain⟨ghF,qhF,hghF,hqhF,hF⟩:=hF;obtain⟨ghM,qhM,hghM,hqhM,hM⟩:=hM;obtain⟨ghD,qhD,hghD,hqhD,hD⟩:=hD;obtain⟨gT,hgT,hT⟩:=hT;have hS:=((fG.start hr hn).box (.box (.agg [.ptr b0 0]))).box (.box (.agg [.str [],.str [],.int .i64 0,.int .i64 0,.int .i64 0,.slice 0 [] .full]));simp only[yAi,yAR,yAQ,yAa,yAK,yAL,yAp]at hS;apply mN.mR h0 func91 rfl
 focus(simp[show Tryz.f91.ntmps=_ from rfl,List.replicate];rfl)
 refine aD trivial ?_;obtain⟨kF,kG,kH,kI,kJ,kK⟩:=aB (hS.ks ((aC.length+1),.box (.agg [.str [],.str [],.int .i64 0,.int .i64 0,.int .i64 0,.slice 0 [] .full])) yo).1;obtain⟨pZ,qA,qB,qC,qD,qE⟩:=aB (hS.ks (aC.length,.box (.agg [.ptr b0 0])) yo).1;rcases hN [.agg [.ptr b0 0]] _ (.ptr b0 0) _ l n rfl (hS.ne hs) hS.rd hS.le hl with⟨p1,n1,σ1,f1,e1,r1,k1,q1⟩ | ⟨e,σ1,f1,e1,w1,k1,q1⟩
 rotate_left
 .have hE:iX l n=.error e:=by simp[iX,aR,eR f1]
  have hpost:=hS.eW (dec:=pW) (args:=[.agg [.ptr b0 0]]) hs rfl hr (eX hE) k1 q1;exact ux
 obtain⟨nm,g1,rfl⟩:=eS f1;have h1:=hS.call r1 ((aP.name) _ _ _ _ hS.le g1).2 k1 q1
 try simp only[yAa,yAD,yAK,yAL]at q1
 obtain⟨iZ,jA,jB,jC,jD,jE⟩:=aB (h1.ks ((aC.length+1),.box (.agg [.str [],.str [],.int .i64 0,.int .i64 0,.int .i64 0,.slice 0 [] .full])) yo).1;obtain⟨qG,qH,qI,qJ,qK,qL⟩:=aB (h1.ks (aC.length,.box (.agg [.ptr b0 0])) yo).1;obtain⟨u1,v1,w1⟩:=bO σ1
 first|refine Wp.seq ?_|skip
 apply Wp.dU;refine bM xg ?_;apply SQ.nil;have H1:=h1.box (.box (.agg [.str nm,.str [],.int .i64 0,.int .i64 0,.int .i64 0,.slice 0 [] .full]));refine aD xe ?_;obtain⟨rK,rL,rM,rN,rO,rP⟩:=aB (H1.ks (σ1.length,.box (.agg [.str nm,.str [],.int .i64 0,.int .i64 0,.int .i64 0,.slice 0 [] .full])) yo).1;obtain⟨rQ,rR,rS,rT,rU,rV⟩:=aB (H1.ks ((aC.length+1),.box (.agg [.str [],.str [],.int .i64 0,.int .i64 0,.int .i64 0,.slice 0 [] .full])) yo).1;obtain⟨y7,y8,y9,zA,zB,zC⟩:=aB (H1.ks (aC.length,.box (.agg [.ptr b0 0])) yo).1;rcases hK [.agg [.ptr b0 0],.str [116,111,110,101]] _ (.ptr b0 0) _ l n1 rfl (H1.ne hs) H1.rd H1.le hl with⟨p3,n3,σ3,f3,e3,r3,k3,q3⟩ | ⟨e,σ3,f3,e3,w3,k3,q3⟩
 rotate_left
 .have hE:iX l n=.error e:=by simp[iX,aR,g1,eR f3]
  have hpost:=H1.eW (dec:=pW) (args:=[.agg [.ptr b0 0]]) hs rfl hr (eX hE) k3 q3;exact ve
 obtain⟨u1,g3,rfl⟩:=eS f3;have h3:=H1.call r3 ((aP.key) _ _ _ _ H1.le g3).2 k3 q3
 try simp only[yAa,yAD,yAK,yAL]at q3
 obtain⟨tE,tF,tG,tH,tI,tJ⟩:=aB (h3.ks (σ1.length,.box (.agg [.str nm,.str [],.int .i64 0,.int .i64 0,.int .i64 0,.slice 0 [] .full])) yo).1;obtain⟨tK,tL,tM,tN,tO,tP⟩:=aB (h3.ks ((aC.length+1),.box (.agg [.str [],.str [],.int .i64 0,.int .i64 0,.int .i64 0,.slice 0 [] .full])) yo).1;obtain⟨IB,IC,ID,IE,IF,IG⟩:=aB (h3.ks (aC.length,.box (.agg [.ptr b0 0])) yo).1;obtain⟨u3,v3,w3⟩:=bO σ3
 first|refine Wp.seq ?_|skip
 apply Wp.dU;refine bM yb ?_;apply SQ.nil;refine aD yc ?_;obtain⟨zD,zE,zF,zG,zH,zI⟩:=aB (h3.ks (σ1.length,.box (.agg [.str nm,.str [],.int .i64 0,.int .i64 0,.int .i64 0,.slice 0 [] .full])) yo).1;obtain⟨zJ,zK,zL,zM,zN,zO⟩:=aB (h3.ks ((aC.length+1),.box (.agg [.str [],.str [],.int .i64 0,.int .i64 0,.int .i64 0,.slice 0 [] .full])) yo).1;obtain⟨zP,zQ,zR,zS,zT,zU⟩:=aB (h3.ks (aC.length,.box (.agg [.ptr b0 0])) yo).1;rcases hN [.agg [.ptr b0 0]] _ (.ptr b0 0) _ l n3 rfl (h3.ne hs) h3.rd h3.le hl with⟨p5,n5,kS,f5,e5,r5,k5,q5⟩ | ⟨e,kS,f5,e5,w5,k5,q5⟩
 rotate_left
 .have hE:iX l n=.error e:=by simp[iX,aR,g1,g3,eR f5]
  have hpost:=h3.eW (dec:=pW) (args:=[.agg [.ptr b0 0]]) hs rfl hr (eX hE) k5 q5
  first|refine WL.bD 1 yu yu ?_|refine WL.eE 1 yu yu ?_
  refine bM xm ?_;apply SQ.nil;refine dH.call (.i yu) yu yu hghN hqhN e5 w5 ?_;exact af
 obtain⟨tn,g5,rfl⟩:=eS f5;have h5:=h3.call r5 ((aP.name) _ _ _ _ h3.le g5).2 k5 q5
 try simp only[yAa,yAD,yAK,yAL]at q5
 obtain⟨zV,zW,zX,zY,zZ,z7⟩:=aB (h5.ks (σ1.length,.box (.agg [.str nm,.str [],.int .i64 0,.int .i64 0,.int .i64 0,.slice 0 [] .full])) yo).1;obtain⟨z8,AA,AB,AD,AE,AF⟩:=aB (h5.ks ((aC.length+1),.box (.agg [.str [],.str [],.int .i64 0,.int .i64 0,.int .i64 0,.slice 0 [] .full])) yo).1;obtain⟨AG,AH,AI,AJ,AK,AL⟩:=aB (h5.ks (aC.length,.box (.agg [.ptr b0 0])) yo).1;obtain⟨u5,v5,w5⟩:=bO kS
 first|refine Wp.seq ?_|skip
 apply Wp.dU;refine bM (A20 hghN e5 zD zE zF zG zH zI zJ zK zL zM zN zO zP zQ zR zS zT (A20 zU zV zW zX zY zZ z7 z8 AA AB AD AE AF AG AH AI AJ AK AL (A3 u5 @v5 w5))) ?_;apply SQ.nil;have H5:=h5.set (i:=σ1.length) (o0:=.box (.agg [.str nm,.str [],.int .i64 0,.int .i64 0,.int .i64 0,.slice 0 [] .full])) (o:=.box (.agg [.str nm,.str tn,.int .i64 0,.int .i64 0,.int .i64 0,.slice 0 [] .full])) [] [((aC.length+1),.box (.agg [.str [],.str [],.int .i64 0,.int .i64 0,.int .i64 0,.slice 0 [] .full])),(aC.length,.box (.agg [.ptr b0 0]))] rfl yz;refine aD xo ?_;obtain⟨rW,rX,rY,rZ,sA,sB⟩:=aB (H5.ks (σ1.length,.box (.agg [.str nm,.str tn,.int .i64 0,.int .i64 0,.int .i64 0,.slice 0 [] .full])) yo).1;obtain⟨sC,sD,sE,sF,sG,sH⟩:=aB (H5.ks ((aC.length+1),.box (.agg [.str [],.str [],.int .i64 0,.int .i64 0,.int .i64 0,.slice 0 [] .full])) yo).1;obtain⟨tQ,tR,tS,tT,tU,tV⟩:=aB (H5.ks (aC.length,.box (.agg [.ptr b0 0])) yo).1;rcases hF [.agg [.ptr b0 0]] _ (.ptr b0 0) _ l n5 rfl (H5.ne hs) H5.rd H5.le hl with⟨p7,n7,FH,f7,e7,r7,k7,q7⟩ | ⟨e,FH,f7,e7,w7,k7,q7⟩
 rotate_left
 .have hE:iX l n=.error e:=by simp[iX,aR,g1,g3,g5,eR f7]
  have hpost:=H5.eW (dec:=pW) (args:=[.agg [.ptr b0 0]]) hs rfl hr (eX hE) k7 q7
  first|refine WL.bD 1 yu yu ?_|refine WL.eE 1 yu yu ?_
  refine bM (A18 rW rX rY rZ sA sB sC sD sE sF sG sH tQ tR tS tT tU tV) ?_;apply SQ.nil;refine dH.call (.i yu) yu yu hghF hqhF e7 w7 ?_;exact af
 obtain⟨fe,g7,rfl⟩:=eS f7;have h7:=H5.call r7 ((aP.bB) _ _ _ _ H5.le g7).2 k7 q7
 try simp only[yAa,yAD,yAK,yAL]at q7
 obtain⟨FN,FO,FP,FQ,FT,FU⟩:=aB (h7.ks (σ1.length,.box (.agg [.str nm,.str tn,.int .i64 0,.int .i64 0,.int .i64 0,.slice 0 [] .full])) yo).1;obtain⟨FV,FW,FX,FY,FZ,F0⟩:=aB (h7.ks ((aC.length+1),.box (.agg [.str [],.str [],.int .i64 0,.int .i64 0,.int .i64 0,.slice 0 [] .full])) yo).1;obtain⟨F2,F3,F4,F5,F6,F7⟩:=aB (h7.ks (aC.length,.box (.agg [.ptr b0 0])) yo).1;obtain⟨u7,v7,w7⟩:=bO FH
 first|refine Wp.seq ?_|skip
 apply Wp.dU;refine bM (A20 hghF e7 rW rX rY rZ sA sB sC sD sE sF sG sH tQ tR tS tT tU (A20 tV FN FO FP FQ FT FU FV FW FX FY FZ F0 F2 F3 F4 F5 F6 F7 (A3 u7 v7 w7))) ?_;apply SQ.nil;obtain⟨f1,f2⟩:=fe;have OG:=h7.set (i:=σ1.length) (o0:=.box (.agg [.str nm,.str tn,.int .i64 0,.int .i64 0,.int .i64 0,.slice 0 [] .full])) (o:=.box (.agg [.str nm,.str tn,.int .i64 f1,.int .i64 f2,.int .i64 0,.slice 0 [] .full])) [] [((aC.length+1),.box (.agg [.str [],.str [],.int .i64 0,.int .i64 0,.int .i64 0,.slice 0 [] .full])),(aC.length,.box (.agg [.ptr b0 0]))] rfl yz;refine aD (A20 FN FO FP FQ FT FU FV FW FX FY FZ F0 F2 F3 F4 F5 F6 F7 u7 (A3 v7 w7 @aK4)) ?_;obtain⟨tW,tX,tY,tZ,uA,uB⟩:=aB (OG.ks (σ1.length,.box (.agg [.str nm,.str tn,.int .i64 f1,.int .i64 f2,.int .i64 0,.slice 0 [] .full])) yo).1;obtain⟨uC,uD,uE,uF,uG,uH⟩:=aB (OG.ks ((aC.length+1),.box (.agg [.str [],.str [],.int .i64 0,.int .i64 0,.int .i64 0,.slice 0 [] .full])) yo).1;obtain⟨uI,uJ,uK,uL,uM,uN⟩:=aB (OG.ks (aC.length,.box (.agg [.ptr b0 0])) yo).1;rcases hK [.agg [.ptr b0 0],.str [102,105,114,115,116]] _ (.ptr b0 0) _ l n7 rfl (OG.ne hs) OG.rd OG.le hl with⟨p9,n9,oD,f9,e9,r9,k9,q9⟩ | ⟨e,oD,f9,e9,w9,k9,q9⟩
 rotate_left
 .have hE:iX l n=.error e:=by simp[iX,aR,g1,g3,g5,g7,eR f9]
  have hpost:=OG.eW (dec:=pW) (args:=[.agg [.ptr b0 0]]) hs rfl hr (eX hE) k9 q9
  first|refine WL.bD 1 yu yu ?_|refine WL.eE 1 yu yu ?_
  refine bM xh ?_;apply SQ.nil;refine dH.call (.i yu) yu yu hghK hqhK e9 w9 ?_;exact af
 obtain⟨u2,g9,rfl⟩:=eS f9;have h9:=OG.call r9 ((aP.key) _ _ _ _ OG.le g9).2 k9 q9
 try simp only[yAa,yAD,yAK,yAL]at q9
 obtain⟨AR,AS,AT,AU,AV,AW⟩:=aB (h9.ks (σ1.length,.box (.agg [.str nm,.str tn,.int .i64 f1,.int .i64 f2,.int .i64 0,.slice 0 [] .full])) yo).1;obtain⟨AX,AY,AZ,A0,A1,BA⟩:=aB (h9.ks ((aC.length+1),.box (.agg [.str [],.str [],.int .i64 0,.int .i64 0,.int .i64 0,.slice 0 [] .full])) yo).1;obtain⟨BC,BD,BE,BF,BG,BH⟩:=aB (h9.ks (aC.length,.box (.agg [.ptr b0 0])) yo).1;obtain⟨u9,v9,w9⟩:=bO oD
 first|refine Wp.seq ?_|skip
 apply Wp.dU;refine bM (A20 hghK e9 tW tX tY tZ uA uB uC uD uE uF uG uH uI uJ uK uL uM (A20 uN AR AS AT AU AV AW AX AY AZ A0 A1 BA BC BD BE BF BG BH (A3 u9 @v9 w9))) ?_;apply SQ.nil;refine aD xj ?_;obtain⟨BI,BJ,BK,BL,BM,BN⟩:=aB (h9.ks (σ1.length,.box (.agg [.str nm,.str tn,.int .i64 f1,.int .i64 f2,.int .i64 0,.slice 0 [] .full])) yo).1;obtain⟨BO,BP,BQ,BR,BS,BT⟩:=aB (h9.ks ((aC.length+1),.box (.agg [.str [],.str [],.int .i64 0,.int .i64 0,.int .i64 0,.slice 0 [] .full])) yo).1;obtain⟨BU,BV,BW,BY,BZ,B0⟩:=aB (h9.ks (aC.length,.box (.agg [.ptr b0 0])) yo).1;rcases hM [.agg [.ptr b0 0]] _ (.ptr b0 0) _ l n9 rfl (h9.ne hs) h9.rd h9.le hl with⟨p11,TO,JY,f11,u6,TP,sO,oW⟩ | ⟨e,JY,f11,u6,oX,sO,oW⟩
 rotate_left
 .have hE:iX l n=.error e:=by simp[iX,aR,g1,g3,g5,g7,g9,eR f11]
  have hpost:=h9.eW (dec:=pW) (args:=[.agg [.ptr b0 0]]) hs rfl hr (eX hE) sO oW;exact vg
 obtain⟨k,g11,rfl⟩:=eS f11;have h11:=h9.call TP ((aP.num) _ _ _ _ h9.le g11).2 sO oW
 try simp only[yAa,yAD,yAK,yAL]at oW
 obtain⟨B1,B2,B3,B4,B5,B6⟩:=aB (h11.ks (σ1.length,.box (.agg [.str nm,.str tn,.int .i64 f1,.int .i64 f2,.int .i64 0,.slice 0 [] .full])) yo).1;obtain⟨B7,B8,B9,CA,CB,CC⟩:=aB (h11.ks ((aC.length+1),.box (.agg [.str [],.str [],.int .i64 0,.int .i64 0,.int .i64 0,.slice 0 [] .full])) yo).1;obtain⟨CD,CE,CF,CG,CH,CI⟩:=aB (h11.ks (aC.length,.box (.agg [.ptr b0 0])) yo).1;obtain⟨JZ,v11,oX⟩:=bO JY
 first|refine Wp.seq ?_|skip
 apply Wp.dU;refine bM yf ?_;apply SQ.nil;have iK:=h11.set (i:=σ1.length) (o0:=.box (.agg [.str nm,.str tn,.int .i64 f1,.int .i64 f2,.int .i64 0,.slice 0 [] .full])) (o:=.box (.agg [.str nm,.str tn,.int .i64 f1,.int .i64 f2,.int .i64 k,.slice 0 [] .full])) [] [((aC.length+1),.box (.agg [.str [],.str [],.int .i64 0,.int .i64 0,.int .i64 0,.slice 0 [] .full])),(aC.length,.box (.agg [.ptr b0 0]))] rfl yz;refine aD xq ?_;obtain⟨CJ,CL,CM,CN,CO,CP⟩:=aB (iK.ks (σ1.length,.box (.agg [.str nm,.str tn,.int .i64 f1,.int .i64 f2,.int .i64 k,.slice 0 [] .full])) yo).1;obtain⟨wD,wE,wF,wG,wH,wI⟩:=aB (iK.ks ((aC.length+1),.box (.agg [.str [],.str [],.int .i64 0,.int .i64 0,.int .i64 0,.slice 0 [] .full])) yo).1;obtain⟨CQ,CR,CS,CT,CU,CV⟩:=aB (iK.ks (aC.length,.box (.agg [.ptr b0 0])) yo).1;rcases hK [.agg [.ptr b0 0],.str [119,105,110,100]] _ (.ptr b0 0) _ l TO rfl (iK.ne hs) iK.rd iK.le hl with⟨p13,qM,xQ,f13,vA,TQ,sP,oY⟩ | ⟨e,xQ,f13,vA,oZ,sP,oY⟩
 rotate_left
 .have hE:iX l n=.error e:=by simp[iX,aR,g1,g3,g5,g7,g9,g11,eR f13]
  have hpost:=iK.eW (dec:=pW) (args:=[.agg [.ptr b0 0]]) hs rfl hr (eX hE) sP oY
  first|refine WL.bD 1 yu yu ?_|refine WL.eE 1 yu yu ?_
  refine bM xu ?_;apply SQ.nil;refine dH.call (.i yu) yu yu hghK hqhK vA oZ ?_;exact af
 obtain⟨u3,g13,rfl⟩:=eS f13;have kL:=iK.call TQ ((aP.key) _ _ _ _ iK.le g13).2 sP oY
 try simp only[yAa,yAD,yAK,yAL]at oY
 obtain⟨wK,wL,wM,wN,wP,wQ⟩:=aB (kL.ks (σ1.length,.box (.agg [.str nm,.str tn,.int .i64 f1,.int .i64 f2,.int .i64 k,.slice 0 [] .full])) yo).1;obtain⟨uO,uP,uQ,uR,uS,uT⟩:=aB (kL.ks ((aC.length+1),.box (.agg [.str [],.str [],.int .i64 0,.int .i64 0,.int .i64 0,.slice 0 [] .full])) yo).1;obtain⟨wR,wS,wU,wV,wW,wX⟩:=aB (kL.ks (aC.length,.box (.agg [.ptr b0 0])) yo).1;obtain⟨J0,J1,oZ⟩:=bO xQ
 first|refine Wp.seq ?_|skip
 apply Wp.dU;refine bM (A20 hghK vA CJ CL CM CN CO CP wD wE wF wG wH wI CQ CR CS CT CU (A20 CV wK wL wM wN wP wQ uO uP uQ uR uS uT wR wS wU wV wW wX (A3 J0 J1 oZ))) ?_;apply SQ.nil;refine aD yg ?_;obtain⟨mm,hmm⟩:=gn (σ1.length);simp only[hmm]at kL ⊢;refine Wp.dK (λm fr σ=>∃(ac:List Int) (z nn:Nat) (tok:Tok) (σ1:List U),∃gg:Nat->PD,(nn+m=l.length/\oF (l.drop qM)=ac++oF (l.drop nn)/\nn=qM+ac.length/\(ac=[]\/z=1)/\fW aC σ1 tok 3 1 ac.length/\fG aC (.ptr b0 0) l σ1 nn [(mm,.box (.agg [.str nm,.str tn,.int .i64 f1,.int .i64 f2,.int .i64 k,.slice z (ac.map (PD.int .i64)) tok])),(aC.length+1,.box (.agg [.str [],.str [],.int .i64 0,.int .i64 0,.int .i64 0,.slice 0 [] .full])),(aC.length,.box (.agg [.ptr b0 0]))])/\fr=[gg 0,.ptr aC.length 0,.ptr (aC.length+1) 0,.ptr mm 0,gg 4,gg 5,gg 6,gg 7,gg 8,gg 9,gg 10,gg 11,gg 12,gg 13,gg 14,gg 15,gg 16,gg 17,gg 18,gg 19,gg 20,gg 21,gg 22,gg 23,gg 24,gg 25,gg 26,gg 27,gg 28,gg 29,gg 30,gg 31,gg 32,gg 33,gg 34,gg 35,gg 36,gg 37,gg 38,gg 39,gg 40,gg 41]/\σ=σ1) ?_ (l.length-qM) (by refine⟨[],0,qM,.full,xQ,?_⟩;exact bV (⟨by have:=kL.le;omega,rfl,rfl,.inl rfl,.nil,kL⟩))
 rintro m fr σ ⟨ac,z,nn,tok,σ1,gg,hI,rfl,rfl⟩
 obtain⟨hm,hac,hnn,hz,hrow,hB⟩:=hI;obtain⟨sI,sJ,sK,sL,sM,sN⟩:=aB (hB.ks (mm,.box (.agg [.str nm,.str tn,.int .i64 f1,.int .i64 f2,.int .i64 k,.slice z (ac.map (PD.int .i64)) tok])) yo).1;obtain⟨CX,CY,CZ,C1,C3,C4⟩:=aB (hB.ks ((aC.length+1),.box (.agg [.str [],.str [],.int .i64 0,.int .i64 0,.int .i64 0,.slice 0 [] .full])) yo).1;obtain⟨C5,C6,C7,C8,C9,DC⟩:=aB (hB.ks (aC.length,.box (.agg [.ptr b0 0])) yo).1;obtain⟨ua,va,wa⟩:=bO σ;obtain⟨σ2,t2,r2,k2,q2⟩:=hT [.ptr b0 0,.int .i64 2] _ (.ptr b0 0) _ l nn ⟨2,rfl,rfl⟩ (hB.ne hs) hB.rd hB.le hl;have EI:=hB.call r2 (pY _ hB.le) k2 q2;have dZ:=hrow.call hB k2;cases c2:(bS (λt=>decide (t.kind=2)) l nn).1.2
 rotate_left
 .skip
  obtain⟨t,e2,hlt,hwi⟩:=a1k c2;rw[e2]at t2 EI;simp only[pA]at t2 EI;have h23:=EI.box (.box (Em.tk.aA t));have oS:=dZ.more (τ:=[.box (Em.tk.aA t)]);obtain⟨DD,DE,DF,DG,DH,DI⟩:=aB (EI.ks (mm,.box (.agg [.str nm,.str tn,.int .i64 f1,.int .i64 f2,.int .i64 k,.slice z (ac.map (PD.int .i64)) tok])) yo).1;obtain⟨DJ,DK,DL,DM,DN,DO⟩:=aB (EI.ks ((aC.length+1),.box (.agg [.str [],.str [],.int .i64 0,.int .i64 0,.int .i64 0,.slice 0 [] .full])) yo).1;obtain⟨DP,DR,DS,DT,DU,DV⟩:=aB (EI.ks (aC.length,.box (.agg [.ptr b0 0])) yo).1;obtain⟨ub,vb,wb⟩:=bO σ2;obtain⟨uU,uV,uW,uX,uY,uZ⟩:=aB (h23.ks (σ2.length,.box (Em.tk.aA t)) yo).1;obtain⟨wY,wZ,xA,xB,xC,xD⟩:=aB (h23.ks (mm,.box (.agg [.str nm,.str tn,.int .i64 f1,.int .i64 f2,.int .i64 k,.slice z (ac.map (PD.int .i64)) tok])) yo).1;obtain⟨xE,xF,xG,xH,xI,xJ⟩:=aB (h23.ks ((aC.length+1),.box (.agg [.str [],.str [],.int .i64 0,.int .i64 0,.int .i64 0,.slice 0 [] .full])) yo).1;obtain⟨QE,QF,QG,QH,QI,QJ⟩:=aB (h23.ks (aC.length,.box (.agg [.ptr b0 0])) yo).1;simp only[KP]at t2 uU uV uW uX uY uZ;rw[show ac.length=(ac.map (PD.int .i64)).length by simp]at oS;obtain⟨pH,dL,hap,yK,YE,_⟩:=oS.push (P:=prog) (t:=82) (b:=8) (s:=z) (xs:=ac.map (PD.int .i64)) (p:=.int .i64 t.num) (tk:=.any) h23 yo yo underlying82 yp (hz.imp (λh=>zn) id) (by rw[yAe];have:=hB.le;omega) (by rw[yAe];have:=hB.le;omega);simp only[KP]at hap;simp only[yAe]at yK;obtain⟨LG,LH,LI,LJ,LK,LL⟩:=aB (YE.ks (σ2.length,.box (Em.tk.aA t)) yo).1;obtain⟨LM,LN,LO,LP,LQ,LR⟩:=aB (YE.ks (mm,.box (.agg [.str nm,.str tn,.int .i64 f1,.int .i64 f2,.int .i64 k,.slice z (ac.map (PD.int .i64)) tok])) yo).1;obtain⟨LU,LV,LW,LX,LY,LZ⟩:=aB (YE.ks ((aC.length+1),.box (.agg [.str [],.str [],.int .i64 0,.int .i64 0,.int .i64 0,.slice 0 [] .full])) yo).1;obtain⟨WV,WW,WX,WY,WZ,W0⟩:=aB (YE.ks (aC.length,.box (.agg [.ptr b0 0])) yo).1;refine aD (A20 hgT @t2 hap sI sJ sK sL sM sN CX CY CZ C1 C3 C4 C5 C6 C7 C8 (A20 C9 DC ua va wa DD DE DF DG DH DI DJ DK DL DM DN DO DP DR (A20 DS DT DU DV ub vb wb uU uV uW uX uY uZ wY wZ xA xB xC xD (A20 xE xF xG xH xI xJ QE QF QG QH QI QJ LG LH LI LJ LK LL LM (A17 LN LO LP LQ LR LU LV LW LX LY LZ WV WW WX WY WZ W0))))) ?_;have fZ:=YE.set (i:=mm) (o:=.box (.agg [.str nm,.str tn,.int .i64 f1,.int .i64 f2,.int .i64 k,.slice 1 ((ac++[t.num]).map (PD.int .i64)) pH])) [(σ2.length,.box (Em.tk.aA t))] [(aC.length+1,.box (.agg [.str [],.str [],.int .i64 0,.int .i64 0,.int .i64 0,.slice 0 [] .full])),(aC.length,.box (.agg [.ptr b0 0]))] rfl zc;have hB3:fG aC (.ptr b0 0) l _ _ _:=⟨fZ.rd,fZ.le,fZ.kp,fZ.len,λp hp=>fZ.ks p (yBB _ hp),fZ.nr⟩;refine aL.normal (m-1) ym ⟨ac++[t.num],1,nn+1,pH,_,bV (⟨ym,by rw[hac,hwi];simp,zc,.inr rfl,by simpa using yK.set YE (yBB _ (yAZ ..)),hB3⟩)⟩
 have e2:=NY c2;have hW:=a1l c2;rw[hW,yAl]at hac;rw[e2]at t2 EI;simp only[pA]at t2 EI;have gW:HR l qM=.ok (ac,nn):=by simp only[HR,hac,hnn]
 obtain⟨Y,hY⟩:=gn (PD.slice z (ac.map (PD.int .i64)) tok);have hYp:Y.plain=true:=Cq;have hYq:=hYp;unfold PD.plain at hYq;have hYs:Y.strip=nZ.aA ac:=by
  rw[<-hY,PD.lD,show(ac.map (PD.int .i64)).map PD.strip=ac.map (PD.int .i64) by rw[yBc];rfl];exact vr
 rw[hY]at EI sI sJ sK sL sM sN;obtain⟨II,IJ,IK,IL,IM,IN⟩:=aB (EI.ks (mm,.box (.agg [.str nm,.str tn,.int .i64 f1,.int .i64 f2,.int .i64 k,Y])) yo).1;obtain⟨IP,IQ,IS,IT,IU,IV⟩:=aB (EI.ks ((aC.length+1),.box (.agg [.str [],.str [],.int .i64 0,.int .i64 0,.int .i64 0,.slice 0 [] .full])) yo).1;obtain⟨IW,IX,IY,IZ,I0,I1⟩:=aB (EI.ks (aC.length,.box (.agg [.ptr b0 0])) yo).1;obtain⟨ub,vb,wb⟩:=bO σ2;have h23:=EI.box (.box (.agg [.int .i64 0,.str [],.int .i64 0,.int .i64 0,.int .i64 0,.int .i64 0,.int .i64 0]));obtain⟨DW,DY,DZ,D0,D1,D2⟩:=aB (h23.ks (σ2.length,.box (.agg [.int .i64 0,.str [],.int .i64 0,.int .i64 0,.int .i64 0,.int .i64 0,.int .i64 0])) yo).1;obtain⟨F8,F9,GA,GB,GC,GD⟩:=aB (h23.ks (mm,.box (.agg [.str nm,.str tn,.int .i64 f1,.int .i64 f2,.int .i64 k,Y])) yo).1;obtain⟨GF,GG,GH,GI,GJ,GK⟩:=aB (h23.ks ((aC.length+1),.box (.agg [.str [],.str [],.int .i64 0,.int .i64 0,.int .i64 0,.slice 0 [] .full])) yo).1;obtain⟨W1,W2,W3,W4,W5,W6⟩:=aB (h23.ks (aC.length,.box (.agg [.ptr b0 0])) yo).1;simp only[KP,bL]at t2 DW DY DZ D0 D1 D2;refine aD (A20 hgT @t2 hYp hYq sI sJ sK sL sM sN CX CY CZ C1 C3 C4 C5 C6 C7 (A20 C8 C9 DC ua va wa II IJ IK IL IM IN IP IQ IS IT IU IV IW (A20 IX IY IZ I0 I1 ub vb wb DW DY DZ D0 D1 D2 F8 F9 GA GB GC (A13 GD GF GG GH GI GJ GK W1 W2 W3 W4 W5 W6)))) ?_;obtain⟨I2,I3,I4,I5,I6,I7⟩:=aB (h23.ks (σ2.length,.box (.agg [.int .i64 0,.str [],.int .i64 0,.int .i64 0,.int .i64 0,.int .i64 0,.int .i64 0])) yo).1;obtain⟨I8,I9,JA,JB,JC,JD⟩:=aB (h23.ks (mm,.box (.agg [.str nm,.str tn,.int .i64 f1,.int .i64 f2,.int .i64 k,Y])) yo).1;obtain⟨L0,L1,L2,L3,L4,L5⟩:=aB (h23.ks ((aC.length+1),.box (.agg [.str [],.str [],.int .i64 0,.int .i64 0,.int .i64 0,.slice 0 [] .full])) yo).1;obtain⟨S8,S9,TA,TB,TC,TD⟩:=aB (h23.ks (aC.length,.box (.agg [.ptr b0 0])) yo).1;rcases hD [.agg [.ptr b0 0]] _ (.ptr b0 0) _ l nn rfl (h23.ne hs) h23.rd h23.le hl with⟨p21,n21,aBw,f21,TS,r21,OE,OF⟩ | ⟨e,aBw,f21,TS,ME,OE,OF⟩
 rotate_left
 .have hE:iX l n=.error e:=by simp[iX,aR,g1,g3,g5,g7,g9,g11,g13,gW,eR f21]
  have hpost:=h23.eW (dec:=pW) (args:=[.agg [.ptr b0 0]]) hs rfl hr (eX hE) OE OF
  first|refine WL.bD 1 yu yu ?_|refine WL.eE 1 yu yu ?_
  refine bM (A20 I2 I3 I4 I5 I6 I7 I8 I9 JA JB JC JD L0 L1 L2 L3 L4 L5 S8 (A5 S9 TA TB TC TD)) ?_;exact wk
 obtain⟨u9,g21,rfl⟩:=eS f21;have xR:=h23.call r21 ((aP.fO) _ _ _ _ h23.le g21).2 OE OF
 try simp only[yAa,yAD,yAK,yAL]at OF
 obtain⟨D3,D4,D5,D6,D7,D8⟩:=aB (xR.ks (σ2.length,.box (.agg [.int .i64 0,.str [],.int .i64 0,.int .i64 0,.int .i64 0,.int .i64 0,.int .i64 0])) yo).1;obtain⟨xK,xL,xM,xN,xO,xP⟩:=aB (xR.ks (mm,.box (.agg [.str nm,.str tn,.int .i64 f1,.int .i64 f2,.int .i64 k,Y])) yo).1;obtain⟨D9,EA,EB,EC,ED,EE⟩:=aB (xR.ks ((aC.length+1),.box (.agg [.str [],.str [],.int .i64 0,.int .i64 0,.int .i64 0,.slice 0 [] .full])) yo).1;obtain⟨L6,L7,L8,L9,MA,MB⟩:=aB (xR.ks (aC.length,.box (.agg [.ptr b0 0])) yo).1;obtain⟨YC,v21,ME⟩:=bO aBw
 first|refine Wp.seq ?_|skip
 apply Wp.dU;refine bM (A20 hghD TS I2 I3 I4 I5 I6 I7 I8 I9 JA JB JC JD L0 L1 L2 L3 L4 (A20 L5 S8 S9 TA TB TC TD D3 D4 D5 D6 D7 D8 xK xL xM xN xO xP (A15 D9 EA EB EC ED EE L6 L7 L8 L9 MA MB YC @v21 ME))) ?_;apply SQ.nil;have EF:=xR.set (i:=(aC.length+1)) (o0:=.box (.agg [.str [],.str [],.int .i64 0,.int .i64 0,.int .i64 0,.slice 0 [] .full])) (o:=.box (.agg [.str nm,.str tn,.int .i64 f1,.int .i64 f2,.int .i64 k,Y])) [(σ2.length,.box (.agg [.int .i64 0,.str [],.int .i64 0,.int .i64 0,.int .i64 0,.int .i64 0,.int .i64 0])),(mm,.box (.agg [.str nm,.str tn,.int .i64 f1,.int .i64 f2,.int .i64 k,Y]))] [(aC.length,.box (.agg [.ptr b0 0]))] rfl yz;refine aD (A20 D3 D4 D5 D6 D7 D8 xK xL xM xN xO xP D9 EA EB EC ED EE L6 (A10 L7 L8 L9 MA MB YC @v21 ME hYp hYq)) ?_;have hP:iX l n=.ok (⟨nm,tn,f1,f2,k,ac⟩,n21):=by simp[iX,aR,eG,g1,g3,g5,g7,g9,g11,g13,gW,g21]
 have hfin:(PD.agg [.str nm,.str tn,.int .i64 f1,.int .i64 f2,.int .i64 k,Y]).strip=Em.bC.aA ⟨nm,tn,f1,f2,k,ac⟩:=by simp only[PD.strip,PD.lP,hYs,RN]
 right
 simp[D3,D4,D5,D6,D7,D8,xK,xL,xM,xN,xO,xP,D9,EA,EB,EC,ED,EE,L6,L7,L8,L9,MA,MB,YC,v21,ME,hYp,hYq];exact⟨_,_,⟨rfl,rfl⟩,EF.lK hs rfl hr (by rw[hfin];exact H7 hP)⟩
end
end Go.Kz
