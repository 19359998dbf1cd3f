/- Steps of the proof. -/
import Derived.Test.YteegpeenjdgodaaGreatDoorH3
import Derived.Test.YteegpeenjdgodaaGreatDoorH1b
import Derived.Test.YteegpeenjdgodaaGreatDoorG3
import Derived.Test.YteegpeenjdgodaaGreatDoorG7
set_option linter.all false
set_option maxHeartbeats 40000000
set_option maxRecDepth 100000
open Go.Proofs.Tryz
namespace Go.Kz
open Go Go.Proofs
section
theorem XG{o:aP}(h:uY o)(w i:Int):uY (qI w i o):=⟨h.1,h.2.1,by show(o.aO.map _).length<=200;rw[yAe];exact h.2.2.1,h.2.2.2⟩
def W3(E:aE):Prop:=∀(way index:Int) (o:aP) (p:PD) (bJ:List aB) (lo iR iD iC:Nat) (ds:List (List PD)) (tS:Nat->Nat) (tss:Nat->List (List PD)) (tG:Nat->Nat->Nat) (tgs:Nat->Nat->List (List PD)) (tW:Nat->Nat->Nat->Nat),iI bJ lo o p iR iD iC ds tS tss tG tgs tW->lo<=bJ.length->gG o ->
    (∀c∈o.aO,(-1000000000<=c.dR/\c.dR<=1000000000)/\-1000000000<=c.dst/\c.dst<=1000000000) ->
    aL prog E 0 (.inl 83) [p,.int .i64 way,.int .i64 index] bJ (λq σ'=>∃b:Bool,q=.bool b/\(b=true->(∀c∈o.aO,wM way index c=true)/\iI σ' lo (qI way index o) p iR iD iC ds tS tss tG tgs tW/\bJ.length<=σ'.length/\∀id,id<lo->σ'[id]?=bJ[id]?)/\(b=false->(¬ ∀c∈o.aO,wM way index c=true)/\bJ.length<=σ'.length/\∀id,id<lo->σ'[id]?=bJ[id]?))
def W5(E:aE)(DV:List aB->PD->bD->Prop):Prop:=∀(d:bD) (τ:List aB),fY d->aL prog E 0 (.inl 77) [Em.div.aA d] τ (λp σ'=>DV σ' p d/\τ.length<=σ'.length/\∀id,id<τ.length->σ'[id]?=τ[id]?)
def WY(E:aE)(o0:List aB->PD->List bD->Prop)(DV:List aB->PD->bD->Prop):Prop:=∀(σ:List aB) (P c:PD) (l:List bD) (way:Int) (i:Nat) (d:bD),o0 σ P l->DV σ c d->(way=0/\i<=l.length\/(way=1\/way=2)/\i<l.length)->σ≠[] ->
 aL prog E 0 (.inl 84) [P,.int .i64 way,.int .i64 i,c] σ (λQ σ'=>cO Em.div 5 oJ σ' Q (bT l way i d)/\σ.length<=σ'.length/\∀(id:Nat) (y:aB),σ[id]?=some y->(∀n v cs,y≠.row 53 n v cs)->σ'[id]?=some y)
variable{E E1 E2 E3 E4 E5 E6:aE}(hU:aH E)
include hU
theorem aNo(h0:E 42=none)(h1:E 78=some AE)(h2:E 41=some (eT prog E1 41))
  (H2:KI E1)
  (h3:E 56=some sN) (h4:E 80=some (eT prog E2 80)) (U2:aH E2) (EN:E2 80=none) (EO:E2 56=some sN)
  {o0:List aB->PD->List bD->Prop} {DV:List aB->PD->bD->Prop} (h5:E 84=some (eT prog E3 84)) (H5:WY E3 o0 DV) (h7:E 83=some (eT prog E5 83)) (H7:W3 E5) (h8:E 77=some (eT prog E6 77)) (H8:W5 E6 DV) (h6:E 79=some (eT prog E4 79)) (H6:EK E4)
  (hIn:PJ (cO Em.aG 6 oI) o0 (cO Em.aK 5 mC))
  (o:aP) (x:bC) (ho:gG o) (hsh:uY o) (hx:fW x) (hf:iA x=0) (hk:4<=x.kind/\x.kind<=6) (hKeep:∀(σ σ2:List aB) (P:PD) (l:List bD),o0 σ P l->σ.length<=σ2.length->(∀id,id<σ.length->σ2[id]?=σ[id]?)->o0 σ2 P l) (hwr:∀c∈o.aO,(-1000000000<=c.dR/\c.dR<=1000000000)/\-1000000000<=c.dst/\c.dst<=1000000000) (hokr:(∀c∈o.aO,wM ((x.kind-1)%3) x.idx c=true)->dI { qI ((x.kind-1)%3) x.idx o with aD:=bT o.aD ((x.kind-1)%3) x.idx.toNat x.frame }) :
  aL prog E 0 (.inl 42) [Em.bM.aA o,Em.edit.aA x] [] (λp σ=>((x.idx<0\/(if (x.kind-1)%3=0 then(o.aD.length:Int)+1 else o.aD.length)<=x.idx)/\p=.aI [bK,.int .i64 10])\/((¬ ∀c∈o.aO,wM ((x.kind-1)%3) x.idx c=true)/\0<=x.idx/\¬(if (x.kind-1)%3=0 then(o.aD.length:Int)+1 else o.aD.length)<=x.idx/\p=.aI [bK,.int .i64 14])\/((∀c∈o.aO,wM ((x.kind-1)%3) x.idx c=true)/\0<=x.idx/\¬(if (x.kind-1)%3=0 then(o.aD.length:Int)+1 else o.aD.length)<=x.idx/\∃P1 P2 P3,p=.aI [if bH { qI ((x.kind-1)%3) x.idx o with aD:=bT o.aD ((x.kind-1)%3) x.idx.toNat x.frame }=0 then .agg [.str o.name,P1,P2,P3]else bX,.int .i64 (bH { qI ((x.kind-1)%3) x.idx o with aD:=bT o.aD ((x.kind-1)%3) x.idx.toNat x.frame })]/\cO Em.aG 6 oI σ P1 o.aM/\cO Em.div 5 oJ σ P2 (bT o.aD ((x.kind-1)%3) x.idx.toNat x.frame)/\cO Em.aK 5 mC σ P3 (o.aO.map (AL ((x.kind-1)%3) x.idx)))):=by
 have k1:=λfl σ=>HJ hx fl σ
 rw[hf]at k1;have k3:=λfl σ=>HK (x:=x) ⟨Ah,Ah⟩ fl σ
 have hth:(x.kind-1)/3=1:=Ah;rw[hth]at k3;obtain⟨wy,hwy⟩:=gn ((x.kind-1)%3);have HL:wy=0\/wy=1\/wy=2:=Ah;rw[hwy]at k3 hokr;rw[hwy];obtain⟨kd,dv,ix,nm,⟨rn,rt,ra,rb,rf,wd⟩,⟨fn,fp,flo,fhi,fs⟩,⟨sn,sa,sb,sg⟩,⟨cn,ca,cb,cs,ct⟩⟩:=x;obtain⟨on,rs,dd,cc⟩:=o;have k2:=(H2 ⟨on,rs,dd,cc⟩ ho [.box (Em.bM.aA ⟨on,rs,dd,cc⟩),.box (Em.edit.aA ⟨kd,dv,ix,nm,⟨rn,rt,ra,rb,rf,wd⟩,⟨fn,fp,flo,fhi,fs⟩,⟨sn,sa,sb,sg⟩,⟨cn,ca,cb,cs,ct⟩⟩),.box (.agg [.str [],.slice 0 [] .full,.slice 0 [] .full,.slice 0 [] .full])]).e0 Ai;obtain⟨p,σ1,k2,⟨iR,iD,iC,ds,tS,tss,tG,tgs,tW,hO⟩,hl1,hk1⟩:=k2;have hp:=hO.p;subst hp;have b0:=hk1 0 Ai;have b1:=hk1 1 Ai;have b2:=hk1 2 Ai;simp only[yBv,yBL]at b0 b1 b2;have k4:=(aNQ U2 EN EO on iR rs.length iD dd.length iC cc.length (σ1.set 0 (.box (.agg [.str on,Go.Kz.hd 6 iR rs.length,Go.Kz.hd 5 iD dd.length,Go.Kz.hd 5 iC cc.length]))) kd dv ix wy nm rn rt fn sn cn ra rb rf flo fhi sa sb ca cb cs fp ct (sz 1 wd) (sz 4 fs) (sz 3 sg) (wd.map i64.aA) (fs.map Em.stop.aA) (sg.map Em.eZ.aA) k3).e0 (λe=>by
  have:0<σ1.length:=(yA.1 b0).1;have h:=yAK List.length e;rw[yAD,yAQ]at h;omega)
 obtain⟨_,σ2,k4,rfl,L2,dL⟩:=k4;obtain⟨hR,hhR⟩:=gn (Go.Kz.hd 6 iR rs.length);obtain⟨hD,hhD⟩:=gn (Go.Kz.hd 5 iD dd.length);obtain⟨hC,hhC⟩:=gn (Go.Kz.hd 5 iC cc.length);have pR:hR.plain=true:=Az;have pD:hD.plain=true:=Ba;have pC:hC.plain=true:=Bb;have cR:hR.cells=[hR]:=Bw;have cD:hD.cells=[hD]:=Bx;have cC:hC.cells=[hC]:=Bz;unfold PD.plain at pR pD pC;unfold PD.cells at cR cD cC;simp only[hhR,hhD,hhC]at hO k2 k4 dL;simp only[cU,gF,aW]at k1 k2 k3 b0 b1 b2 hk hth hwy;simp only[cU,gF,aW];obtain⟨w0,z0⟩:=yA.1 b0;obtain⟨w1,z1⟩:=yA.1 b1;obtain⟨w2,z2⟩:=yA.1 b2;have hS:(σ1.set 0 (.box (.agg [.str on,hR,hD,hC]))).length=σ1.length:=yAD;have g0:σ2[0]?=some (.box (.agg [.str on,hR,hD,hC])):=by rw[dL,yAg Ah,yAj w0]
 have g1:=b1;rw[<-yAd (l:=σ1) (i:=0) (a:=.box (.agg [.str on,hR,hD,hC])) Ah,<-yAg (l₂:=L2) Ah,<-dL]at g1;have g2:=b2;rw[<-yAd (l:=σ1) (i:=0) (a:=.box (.agg [.str on,hR,hD,hC])) Ah,<-yAg (l₂:=L2) Ah,<-dL]at g2;obtain⟨v0,y0⟩:=yA.1 g0;obtain⟨v1,y1⟩:=yA.1 g1;obtain⟨v2,y2⟩:=yA.1 g2;have sO:¬kd=13:=Ah;clear hU;refine aL.aN 132 h0 func42 (h:=?_);refine aC zu ?_;have hcl:dd.length<=1000000:=ho.2.1.1;rcases HL with rfl|rfl|rfl
 .by_cases i1:ix<0
  .exact bg
  by_cases i2:(dd.length:Int)+1<=ix
  .exact bf
  obtain⟨i,rfl⟩:∃i:Nat,ix=i:=⟨ix.toNat,Ah⟩;rw[yBe]at hokr ⊢;have n2:σ2≠[]:=λe=>Ax
  have lN:σ1.length<=σ2.length:=Bq;have iB:iI σ2 3 ⟨on,rs,dd,cc⟩ (.agg [.str on,hR,hD,hC]) iR iD iC ds tS tss tG tgs tW:=by
   exact bw
  have k7:=(H7 0 i _ _ _ _ _ _ _ _ _ _ _ _ _ iB (yAV Cr lN) ho hwr).e0 n2;obtain⟨q7,σ3,k7,b,rfl,hbt,hbf⟩:=k7;cases b with
  |false=>
   exact au
  |true=>
  obtain⟨ow,wN,lO,cJ⟩:=hbt rfl;have u0:=(cJ 0 Ah).trans g0;have u1:=(cJ 1 Ah).trans g1;have u2:=(cJ 2 Ah).trans g2;obtain⟨r0,x0⟩:=yA.1 u0;obtain⟨r1,x1⟩:=yA.1 u1;obtain⟨r2,x2⟩:=yA.1 u2;refine aC zo ?_;obtain⟨l1,l2,l3⟩:=hIn _ _ _ _ _ _ _ _ _ _ _ _ _ wN (yAk _) (XG hsh _ _);simp only[qI]at l1 l2 l3;rw[yAe]at l3;simp only[hhR,hhD,hhC]at l1 l2 l3;have n3:σ3≠[]:=λe=>Bo
  have k8:=(H8 ⟨fn,fp,flo,fhi,fs⟩ σ3 hx.2.1).e0 n3;obtain⟨c,qF,k8,hDV,kT,eY⟩:=k8;have sP:qF≠[]:=λe=>Ds
  have rJ:=(eY 0 r0).trans u0;have oL:=(eY 1 r1).trans u1;have AG:=(eY 2 r2).trans u2;have k5:=(H5 qF hD c dd 0 i ⟨fn,fp,flo,fhi,fs⟩ (hKeep _ _ _ _ l2 kT eY) hDV (.inl ⟨rfl,Ah⟩) sP).e0 sP;obtain⟨Q,bU,k5,lQ,nW,dO⟩:=k5;have s0:=dO 0 _ rJ (λn v cs h=>Ap);have s1:=dO 1 _ oL (λn v cs h=>Ap);have s2:=dO 2 _ AG (λn v cs h=>Ap);obtain⟨f0,d0⟩:=yA.1 s0;obtain⟨f1,d1⟩:=yA.1 s1;obtain⟨f2,d2⟩:=yA.1 s2;have pQ:=lQ.plain;have cQ:=lQ.cells;unfold PD.plain at pQ;unfold PD.cells at cQ;have nY:=o6 (B:=[0,1]) h5 k5 nW (λid hi h=>by
   simp only[yBh,yBX,yC]at hi;rcases hi with rfl|rfl
   .rw[s0,rJ]
   .rw[s1,oL])
  have sQ:=o6 (B:=[0,1]) h8 k8 kT (λid _ h=>eY id h);simp only[lX,aW]at sQ;refine Wp.CL h8 ES n3 [(2,0),(3,1)] [0,1] [some 0,some 1] Ao ⟨⟨_,rfl⟩,⟨_,rfl⟩,trivial⟩ Ao Ch ?_;refine oU zy ?_;apply SQ.nil;have pN:∀R:TypeId->Prop,(∀t,R t->t≠53)->aY R σ3 bU:=λR hR id t n v cs hr hy=>dO id _ ((eY id (yA.1 hy).1).trans hy) (λn v cs h=>Bf)
  have kS:∀R,aY R bU (bU.set 0 (.box (.agg [.str on,hR,Q,hC]))):=λR=>aY.set s0 _
  have m1:=(l1.aQ (pN _ (λt h=>Be))).aQ (kS _);have m2:=lQ.aQ (kS _);have m3:=(l3.aQ (pN _ (λt h=>Be))).aQ (kS _);have nZ:=hokr ow;simp only[qI]at nZ ⊢;have n4:bU.set 0 (.box (.agg [.str on,hR,Q,hC]))≠[]:=λe=>by
   exact fu
  have k6:=(H6 _ on hR Q hC rs _ _ m1 m2 m3 nZ n4).e0 n4;obtain⟨q,wJ,k6,rfl,L5,rfl⟩:=k6;obtain⟨e,he⟩:=gn (bH ⟨on,rs,bT dd 0 i ⟨fn,fp,flo,fhi,fs⟩,cc.map (AL 0 i)⟩);exact aj
 .by_cases i1:ix<0
  .exact bg
  by_cases i2:(dd.length:Int)<=ix
  .exact bf
  obtain⟨i,rfl⟩:∃i:Nat,ix=i:=⟨ix.toNat,Ah⟩;rw[yBe]at hokr ⊢;have n2:σ2≠[]:=λe=>Ax
  have lN:σ1.length<=σ2.length:=Bq;have iB:iI σ2 3 ⟨on,rs,dd,cc⟩ (.agg [.str on,hR,hD,hC]) iR iD iC ds tS tss tG tgs tW:=by
   exact bw
  have k7:=(H7 1 i _ _ _ _ _ _ _ _ _ _ _ _ _ iB (yAV Cr lN) ho hwr).e0 n2;obtain⟨q7,σ3,k7,b,rfl,hbt,hbf⟩:=k7;cases b with
  |false=>
   exact au
  |true=>
  obtain⟨ow,wN,lO,cJ⟩:=hbt rfl;have u0:=(cJ 0 Ah).trans g0;have u1:=(cJ 1 Ah).trans g1;have u2:=(cJ 2 Ah).trans g2;obtain⟨r0,x0⟩:=yA.1 u0;obtain⟨r1,x1⟩:=yA.1 u1;obtain⟨r2,x2⟩:=yA.1 u2;refine aC zo ?_;obtain⟨l1,l2,l3⟩:=hIn _ _ _ _ _ _ _ _ _ _ _ _ _ wN (yAk _) (XG hsh _ _);simp only[qI]at l1 l2 l3;rw[yAe]at l3;simp only[hhR,hhD,hhC]at l1 l2 l3;have n3:σ3≠[]:=λe=>Bo
  have k8:=(H8 ⟨fn,fp,flo,fhi,fs⟩ σ3 hx.2.1).e0 n3;obtain⟨c,qF,k8,hDV,kT,eY⟩:=k8;have sP:qF≠[]:=λe=>Ds
  have rJ:=(eY 0 r0).trans u0;have oL:=(eY 1 r1).trans u1;have AG:=(eY 2 r2).trans u2;have k5:=(H5 qF hD c dd 1 i ⟨fn,fp,flo,fhi,fs⟩ (hKeep _ _ _ _ l2 kT eY) hDV (.inr ⟨.inl rfl,Ah⟩) sP).e0 sP;obtain⟨Q,bU,k5,lQ,nW,dO⟩:=k5;have s0:=dO 0 _ rJ (λn v cs h=>Ap);have s1:=dO 1 _ oL (λn v cs h=>Ap);have s2:=dO 2 _ AG (λn v cs h=>Ap);obtain⟨f0,d0⟩:=yA.1 s0;obtain⟨f1,d1⟩:=yA.1 s1;obtain⟨f2,d2⟩:=yA.1 s2;have pQ:=lQ.plain;have cQ:=lQ.cells;unfold PD.plain at pQ;unfold PD.cells at cQ;have nY:=o6 (B:=[0,1]) h5 k5 nW (λid hi h=>by
   simp only[yBh,yBX,yC]at hi;rcases hi with rfl|rfl
   .rw[s0,rJ]
   .rw[s1,oL])
  have sQ:=o6 (B:=[0,1]) h8 k8 kT (λid _ h=>eY id h);simp only[lX,aW]at sQ;refine Wp.CL h8 ES n3 [(2,0),(3,1)] [0,1] [some 0,some 1] Ao ⟨⟨_,rfl⟩,⟨_,rfl⟩,trivial⟩ Ao Ch ?_;refine oU zy ?_;apply SQ.nil;have pN:∀R:TypeId->Prop,(∀t,R t->t≠53)->aY R σ3 bU:=λR hR id t n v cs hr hy=>dO id _ ((eY id (yA.1 hy).1).trans hy) (λn v cs h=>Bf)
  have kS:∀R,aY R bU (bU.set 0 (.box (.agg [.str on,hR,Q,hC]))):=λR=>aY.set s0 _
  have m1:=(l1.aQ (pN _ (λt h=>Be))).aQ (kS _);have m2:=lQ.aQ (kS _);have m3:=(l3.aQ (pN _ (λt h=>Be))).aQ (kS _);have nZ:=hokr ow;simp only[qI]at nZ ⊢;have n4:bU.set 0 (.box (.agg [.str on,hR,Q,hC]))≠[]:=λe=>by
   exact fu
  have k6:=(H6 _ on hR Q hC rs _ _ m1 m2 m3 nZ n4).e0 n4;obtain⟨q,wJ,k6,rfl,L5,rfl⟩:=k6;obtain⟨e,he⟩:=gn (bH ⟨on,rs,bT dd 1 i ⟨fn,fp,flo,fhi,fs⟩,cc.map (AL 1 i)⟩);exact aj
 .by_cases i1:ix<0
  .exact bg
  by_cases i2:(dd.length:Int)<=ix
  .exact bf
  obtain⟨i,rfl⟩:∃i:Nat,ix=i:=⟨ix.toNat,Ah⟩;rw[yBe]at hokr ⊢;have n2:σ2≠[]:=λe=>Ax
  have lN:σ1.length<=σ2.length:=Bq;have iB:iI σ2 3 ⟨on,rs,dd,cc⟩ (.agg [.str on,hR,hD,hC]) iR iD iC ds tS tss tG tgs tW:=by
   exact bw
  have k7:=(H7 2 i _ _ _ _ _ _ _ _ _ _ _ _ _ iB (yAV Cr lN) ho hwr).e0 n2;obtain⟨q7,σ3,k7,b,rfl,hbt,hbf⟩:=k7;cases b with
  |false=>
   exact au
  |true=>
  obtain⟨ow,wN,lO,cJ⟩:=hbt rfl;have u0:=(cJ 0 Ah).trans g0;have u1:=(cJ 1 Ah).trans g1;have u2:=(cJ 2 Ah).trans g2;obtain⟨r0,x0⟩:=yA.1 u0;obtain⟨r1,x1⟩:=yA.1 u1;obtain⟨r2,x2⟩:=yA.1 u2;refine aC zo ?_;obtain⟨l1,l2,l3⟩:=hIn _ _ _ _ _ _ _ _ _ _ _ _ _ wN (yAk _) (XG hsh _ _);simp only[qI]at l1 l2 l3;rw[yAe]at l3;simp only[hhR,hhD,hhC]at l1 l2 l3;have n3:σ3≠[]:=λe=>Bo
  have k8:=(H8 ⟨fn,fp,flo,fhi,fs⟩ σ3 hx.2.1).e0 n3;obtain⟨c,qF,k8,hDV,kT,eY⟩:=k8;have sP:qF≠[]:=λe=>Ds
  have rJ:=(eY 0 r0).trans u0;have oL:=(eY 1 r1).trans u1;have AG:=(eY 2 r2).trans u2;have k5:=(H5 qF hD c dd 2 i ⟨fn,fp,flo,fhi,fs⟩ (hKeep _ _ _ _ l2 kT eY) hDV (.inr ⟨.inr rfl,Ah⟩) sP).e0 sP;obtain⟨Q,bU,k5,lQ,nW,dO⟩:=k5;have s0:=dO 0 _ rJ (λn v cs h=>Ap);have s1:=dO 1 _ oL (λn v cs h=>Ap);have s2:=dO 2 _ AG (λn v cs h=>Ap);obtain⟨f0,d0⟩:=yA.1 s0;obtain⟨f1,d1⟩:=yA.1 s1;obtain⟨f2,d2⟩:=yA.1 s2;have pQ:=lQ.plain;have cQ:=lQ.cells;unfold PD.plain at pQ;unfold PD.cells at cQ;have nY:=o6 (B:=[0,1]) h5 k5 nW (λid hi h=>by
   simp only[yBh,yBX,yC]at hi;rcases hi with rfl|rfl
   .rw[s0,rJ]
   .rw[s1,oL])
  have sQ:=o6 (B:=[0,1]) h8 k8 kT (λid _ h=>eY id h);simp only[lX,aW]at sQ;refine Wp.CL h8 ES n3 [(2,0),(3,1)] [0,1] [some 0,some 1] Ao ⟨⟨_,rfl⟩,⟨_,rfl⟩,trivial⟩ Ao Ch ?_;refine oU zy ?_;apply SQ.nil;have pN:∀R:TypeId->Prop,(∀t,R t->t≠53)->aY R σ3 bU:=λR hR id t n v cs hr hy=>dO id _ ((eY id (yA.1 hy).1).trans hy) (λn v cs h=>Bf)
  have kS:∀R,aY R bU (bU.set 0 (.box (.agg [.str on,hR,Q,hC]))):=λR=>aY.set s0 _
  have m1:=(l1.aQ (pN _ (λt h=>Be))).aQ (kS _);have m2:=lQ.aQ (kS _);have m3:=(l3.aQ (pN _ (λt h=>Be))).aQ (kS _);have nZ:=hokr ow;simp only[qI]at nZ ⊢;have n4:bU.set 0 (.box (.agg [.str on,hR,Q,hC]))≠[]:=λe=>by
   exact fu
  have k6:=(H6 _ on hR Q hC rs _ _ m1 m2 m3 nZ n4).e0 n4;obtain⟨q,wJ,k6,rfl,L5,rfl⟩:=k6;obtain⟨e,he⟩:=gn (bH ⟨on,rs,bT dd 2 i ⟨fn,fp,flo,fhi,fs⟩,cc.map (AL 2 i)⟩);exact aj
end
def fF{α β:Type}(P:α->β->Prop):List α->List β->Prop
 | [],[]=>True
 |a::l,b::m=>P a b/\fF P l m
 |_,_=>False
theorem fF.len{α β:Type}{P:α->β->Prop}:∀ {l:List α} {m:List β},fF P l m->l.length=m.length
 | [],[],_=>rfl
 |_::_,_::_,h=>by rw[yAT,yAT,h.2.len]
 | [],_::_,h=>h.elim
 |_::_,[],h=>h.elim
theorem fF.get{α β:Type}{P:α->β->Prop}:∀ {l:List α} {m:List β},fF P l m->∀i (h:i<l.length) (k:i<m.length),P l[i] m[i]
 | [],[],_,i,h,_=>absurd h (yBb i)
 |_::_,_::_,h,0,_,_=>h.1
 |_::_,_::_,h,i+1,a,b=>h.2.get i Cy Cz
 | [],_::_,h,_,_,_=>h.elim
 |_::_,[],h,_,_,_=>h.elim
theorem fF.of{α β:Type}{P:α->β->Prop}:∀ {l:List α} {m:List β},l.length=m.length->(∀i (h:i<l.length) (k:i<m.length),P l[i] m[i])->fF P l m
 | [],[],_,_=>trivial
 |_::_,_::_,h,k=>⟨k 0 (yDR _) (yDR _),fF.of Bh λi a b=>k (i+1) (Nat.succ_lt_succ a) (Nat.succ_lt_succ b)⟩
 | [],_::_,h,_=>Br
 |_::_,[],h,_=>Br
theorem fF.imp{α β:Type}{P Q:α->β->Prop}(hi:∀a b,P a b->Q a b):∀ {l:List α} {m:List β},fF P l m->fF Q l m
 | [],[],_=>trivial
 |_::_,_::_,h=>⟨hi _ _ h.1,h.2.imp hi⟩
 | [],_::_,h=>h.elim
 |_::_,[],h=>h.elim
theorem fF.app{α β:Type}{P:α->β->Prop}:∀ {l:List α} {m:List β} {l':List α} {m':List β},fF P l m->fF P l' m'->fF P (l++l') (m++m')
 | [],[],_,_,_,k=>k
 |_::_,_::_,_,_,h,k=>⟨h.1,h.2.app k⟩
 | [],_::_,_,_,h,_=>h.elim
 |_::_,[],_,_,h,_=>h.elim
theorem fF.take{α β:Type}{P:α->β->Prop}:∀ {l:List α} {m:List β} (i:Nat),fF P l m->fF P (l.take i) (m.take i)
 |_,_,0,_=>by simp[fF]
 | [],[],_+1,_=>by simp[fF]
 |_::_,_::_,i+1,h=>⟨h.1,h.2.take i⟩
 | [],_::_,_,h=>h.elim
 |_::_,[],_,h=>h.elim
theorem fF.drop{α β:Type}{P:α->β->Prop}:∀ {l:List α} {m:List β} (i:Nat),fF P l m->fF P (l.drop i) (m.drop i)
 |_,_,0,h=>Bh
 | [],[],_+1,_=>by simp[fF]
 |_::_,_::_,i+1,h=>by simpa using h.2.drop i
 | [],_::_,_,h=>h.elim
 |_::_,[],_,h=>h.elim
theorem fF.set{α β:Type}{P:α->β->Prop}{x:α}{y:β}(hx:P x y):∀ {l:List α} {m:List β} (i:Nat),fF P l m->fF P (l.set i x) (m.set i y)
 | [],[],_,_=>trivial
 |_::_,_::_,0,h=>⟨hx,h.2⟩
 |_::_,_::_,i+1,h=>⟨h.1,h.2.set hx i⟩
 | [],_::_,_,h=>h.elim
 |_::_,[],_,h=>h.elim
theorem fF.bT{α β:Type}{P:α->β->Prop}{l:List α}{m:List β}{x:α}{y:β}(h:fF P l m)(way:Int)(i:Nat)(hx:way≠1->P x y):fF P (bT l way i x) (bT m way i y):=by
 unfold Go.Kz.bT
 by_cases h0:way=0
 .rw[yAJ h0,yAJ h0];exact(h.take i).app ⟨hx Ah,h.drop i⟩
 .rw[yAI h0,yAI h0]
  by_cases h1:way=1
  .rw[yAJ h1,yAJ h1];exact(h.take i).app (h.drop (i+1))
  .rw[yAI h1,yAI h1];exact h.set (hx h1) i
theorem XE{sz:Nat}:∀(gs:List (List PD)) (i:Nat),(∀g∈gs,g.length=sz)->gs.flatten.take (i*sz)=(gs.take i).flatten
 |_,0,_=>Ai
 | [],_+1,_=>Ai
 |g::gs,i+1,h=>by
  have e1:(i+1)*sz=g.length+i*sz:=by rw[yBU,h g (yBc ..)];omega
  rw[yBq,e1,List.take_length_add_append,XE gs i λq hq=>h q (yBH _ hq)];rfl
theorem XF{sz:Nat}:∀(gs:List (List PD)) (i:Nat),(∀g∈gs,g.length=sz)->gs.flatten.drop (i*sz)=(gs.drop i).flatten
 |_,0,_=>Ai
 | [],_+1,_=>Ai
 |g::gs,i+1,h=>by
  have e1:(i+1)*sz=g.length+i*sz:=by rw[yBU,h g (yBc ..)];omega
  rw[yBq,e1,yEj,XF gs i λq hq=>h q (yBH _ hq)];rfl
theorem aNP{α:Type}{l:List α}{way:Int}{i:Nat}{x y:α}(h:y∈bT l way i x):y∈l\/(way≠1/\y=x):=by
 unfold bT at h;split at h
 .rename_i h0;rcases yBf.1 h with h|h
  .exact .inl (yAy h)
  .rcases yBh.1 h with h|h
   .exact .inr ⟨Ah,h⟩
   .exact .inl (yBi h)
 .split at h
  .exact vj
  .rename_i h1;rcases yCN h with h|h
   .exact .inl h
   .exact .inr ⟨h1,h⟩
theorem tQ.up{α:Type}{em:Em α}{σ:Gb}{L L':Nat}{g:Gc}{x:α}(h:tQ em σ L g x)(hl:L<=L'):tQ em σ L' g x:=λK=>by
 have h1:=h (K+(L' - L));rw[show K+(L' - L)+L=K+L' by omega]at h1;exact h1
theorem aY.mono{R R':TypeId->Prop}{σ σ':Gb}(h:aY R' σ σ')(hr:∀t,R t->R' t):aY R σ σ':=λid t n v cs ht=>h id t n v cs (hr t ht)
theorem cO.aR{α:Type}{em:Em α}{sz:Nat}{R:TypeId->Prop}{σ:Gb}{id e v:Nat}{gs:Fz}{l:List α}(dQ:σ[id]?=some (.row e sz v gs.flatten))(he:R e)(h1:sz≠1)(hl:∀g∈gs,g.length=sz)(hn:gs.length=l.length)
  (h:∀σ',aY R σ σ'->∀i (hi:i<l.length),tQ em σ' 7 (gs[i]' Ah) l[i]):cO em sz R σ (.aR id v 0 l.length sz) l:=
 ⟨rfl,rfl,λσ' hk K=>PB (L:=7) (hk _ _ _ _ _ he dQ) h1 hl Ah l rfl (λi hi=>h σ' hk i hi) K⟩
theorem cO.nil{α:Type}{em:Em α}{sz:Nat}{R:TypeId->Prop}{σ:Gb}:cO em sz R σ (.slice 0 [] .full) ([]:List α):=⟨rfl,rfl,λσ' _ K=>PA sz 0 σ' (K+6) .full⟩
def oK{α:Type}(em:Em α)(N:Nat)(R:TypeId->Prop)(σ:List aB)(g:List PD)(x:α):Prop:=∀σ',aY R σ σ'->tQ em σ' N g x
theorem oK.aQ{α:Type}{em:Em α}{N:Nat}{R:TypeId->Prop}{σ σ':Gb}{g:Gc}{x:α}(h:oK em N R σ g x)(k:aY R σ σ'):oK em N R σ' g x:=λτ eH=>h τ (k.trans eH)
def AI{α:Type}(em:Em α)(sz:Nat)(e:TypeId)(R:TypeId->Prop)(σ:List aB)(P:PD)(l:List α):Prop:=∃id gs,P=hd sz id l.length/\l.length<=200/\(∀g∈gs,g.length=sz)/\(0<l.length->σ[id]?=some (.row e sz 0 (List.flatten gs)))/\fF (oK em 7 R σ) gs l
theorem AI.aQ{α:Type}{em:Em α}{sz:Nat}{e:TypeId}{R:TypeId->Prop}{σ σ':Gb}{P:PD}{l:List α}(h:AI em sz e R σ P l)(k:aY (λt=>t=e\/R t) σ σ'):AI em sz e R σ' P l:=by
 obtain⟨id,gs,h1,h2,h3,h4,h5⟩:=h;exact⟨id,gs,h1,h2,h3,λhp=>k _ _ _ _ _ (.inl rfl) (h4 hp),h5.imp λa b h=>h.aQ (k.mono λ_=>.inr)⟩
theorem AI.G8{α:Type}{em:Em α}{sz:Nat}{e:TypeId}{R R':TypeId->Prop}{σ:Gb}{P:PD}{l:List α}(h:AI em sz e R σ P l)(h1:sz≠1)(hr:∀t,t=e\/R t->R' t):cO em sz R' σ P l:=by
 obtain⟨id,gs,rfl,h2,h3,h4,h5⟩:=h
 by_cases h0:l.length=0
 .obtain rfl:=yAf h0;exact cO.nil
 .rw[o5 Ah];exact cO.aR (h4 Ah) (hr _ (.inl rfl)) h1 h3 h5.len λσ' hk i hi=>h5.get i (by rw[h5.len];exact hi) hi σ' (hk.mono λt ht=>hr t (.inr ht))
def gI(e k:Nat):Nat->List PD->List aB->Option (PD×List aB):=Go.Kz.AK (xW e k) (Go.Kz.AK (wD e k) (z7 e k))
theorem PC{e k:Nat}(hk:1<k){n id i:Nat}{σ:Gb}{gs:Fz}{y:PD}(hn:n<=200)(hg:∀g∈gs,g.length=k)(hl:gs.length=n)(hr:0<n->σ[id]?=some (.row e k 0 gs.flatten))(hi:i<=n)(hy:y.cells.length=k) :
  ∃id' v σ1,gI e k 0 [hd k id n,.int .i64 i,.slice k [y] .full] σ=some (.aR id' v 0 (n+1) k,σ1)/\σ1[id']?=some (.row e k v (bT gs 0 i y.cells).flatten)/\σ.length<=σ1.length/\∀(j:Nat) (z:aB),σ[j]?=some z->(0<n->j≠id)->σ1[j]?=some z:=by
 have hls:(bT gs 0 i y.cells).flatten=gs.flatten.take (i*k)++y.cells++gs.flatten.drop (i*k):=by
  unfold bT;rw[yAJ rfl,XE gs i hg,XF gs i hg];simp
 have hlen:=nH gs hg;rw[hl]at hlen
 by_cases h0:n=0
 .subst h0;have:i=0:=Ah;subst this;refine⟨σ.length,0,σ++[.row e k 0 y.cells],?_,?_,Ai,λj z h _=>cE h⟩
  .unfold gI hd AK;rw[yAJ rfl];have a1:xW e k 0 [.slice 0 [] .full,.int .i64 ((0:Nat):Int),.slice k [y] .full] σ=none:=rfl;have a2:wD e k 0 [.slice 0 [] .full,.int .i64 ((0:Nat):Int),.slice k [y] .full] σ=none:=rfl;rw[a1,a2];unfold z7;simp only[Int.natCast_zero,hy,yBy,yAL]
  .rw[hls,yAf hl];simp
 .have hrr:=hr Ah;obtain⟨r1,r2⟩:=yA.1 hrr;have sE:hd k id n=.aR id 0 0 n k:=o5 Ah
  by_cases hin:i<n
  .refine⟨id,1,σ.set id (.row e k 1 (gs.flatten.take (i*k)++y.cells++gs.flatten.drop (i*k))),?_,?_,Ai,λj z h hz=>?_⟩
   .unfold gI AK;have a1:xW e k 0 [hd k id n,.int .i64 i,.slice k [y] .full] σ=some (.aR id 1 0 (n+1) k,σ.set id (.row e k 1 (gs.flatten.take (i*k)++y.cells++gs.flatten.drop (i*k)))):=by
     rw[sE];unfold xW;simp only[hrr];rw[yAJ (by simp[hlen,hin,hn];omega)];simp
    rw[a1]
   .rw[hls];exact yAj r1
   .exact ua
  .have:i=n:=by omega
   subst this;refine⟨id,1,σ.set id (.row e k 1 (gs.flatten++y.cells)),?_,?_,Ai,λj z h hz=>?_⟩
   .unfold gI AK;have a1:xW e k 0 [hd k id i,.int .i64 i,.slice k [y] .full] σ=none:=by
     rw[sE];unfold xW;simp only[hrr];rw[yAI Ai]
    have a2:wD e k 0 [hd k id i,.int .i64 i,.slice k [y] .full] σ=some (.aR id 1 0 (i+1) k,σ.set id (.row e k 1 (gs.flatten++y.cells))):=by
     rw[sE];unfold wD;simp only[hrr];rw[yAJ (by refine⟨?_,?_,?_,?_,?_,?_,?_,?_,?_,?_⟩<;>first|exact trivial|rfl|exact hy|exact hlen|omega)]
    rw[a1,a2]
   .rw[hls,yAz Ah,yCu Ah,yAl];exact yAj r1
   .exact ua
theorem PF{e k:Nat}(hk:1<k){n id i:Nat}{σ:Gb}{gs:Fz}(y:List PD)(hg:∀g∈gs,g.length=k)(hl:gs.length=n)(hr:σ[id]?=some (.row e k 0 gs.flatten))(hi:i<n) :
  ∃σ1,rH e k 0 [hd k id n,.int .i64 i,.int .i64 ((i:Int)+1)] σ=some (.aR id 1 0 (n-1) k,σ1)/\σ1[id]?=some (.row e k 1 (bT gs 1 i y).flatten)/\σ.length<=σ1.length/\∀(j:Nat) (z:aB),σ[j]?=some z->(0<n->j≠id)->σ1[j]?=some z:=by
 have hls:(bT gs 1 i y).flatten=gs.flatten.take (i*k)++gs.flatten.drop ((i+1)*k):=by
  unfold bT;rw[yAI Al,yAJ rfl,XE gs i hg,XF gs (i+1) hg];simp
 have hlen:=nH gs hg;rw[hl]at hlen;obtain⟨r1,r2⟩:=yA.1 hr;refine⟨σ.set id (.row e k 1 (gs.flatten.take (i*k)++gs.flatten.drop ((i+1)*k))),?_,?_,Ai,λj z h hz=>?_⟩
 .rw[o5 Ah];unfold rH;simp only[hr];rw[yAJ (by simp[hlen,hi];omega)];simp
 .rw[hls];exact yAj r1
 .exact ua
theorem PH{k:Nat}{gs:Fz}{y:Gc}(hg:∀g∈gs,g.length=k)(hy:y.length=k)(i:Nat)(hi:i<gs.length):dG gs.flatten (i*k) y=(bT gs 2 i y).flatten:=by
 have h:=wH (sz:=k) (new:=y) (j:=0) Ah gs i hi hg;have hgi:=hg _ (yAm hi);rw[yBo]at h;rw[h];unfold bT;rw[yAI Al,yAI Al]
 congr 2
 unfold dG;simp[hy,<-hgi]
theorem cO.row{α:Type}{em:Em α}{k:Nat}{e v id:Nat}{R R':TypeId->Prop}{σ σ':Gb}{gs:Fz}{l:List α}(hk:1<k)(dQ:σ'[id]?=some (.row e k v gs.flatten))(he:R' e)(hr:∀t,R t->R' t)(hK:aY R σ σ')(hg:∀g∈gs,g.length=k)(h:fF (oK em 7 R σ) gs l):cO em k R' σ' (.aR id v 0 l.length k) l:=
 cO.aR dQ he Ah hg h.len λτ eH i hi=>h.get i (by rw[h.len];exact hi) hi τ (hK.trans (eH.mono hr))
theorem u5{e k n id:Nat}{cs:Gc}{σ σ1:Gb}(hr:0<n->σ[id]?=some (.row e k 0 cs))(h:∀(j:Nat) (z:aB),σ[j]?=some z->(0<n->j≠id)->σ1[j]?=some z):∀(j:Nat) (z:aB),σ[j]?=some z->(∀n v cs,z≠.row e n v cs)->σ1[j]?=some z:=λj z hz ht=>h j z hz λhp e=>by
 subst e;rw[hr hp]at hz;exact ht _ _ _ (yAU hz).symm
theorem XD{α:Type}{em:Em α}{N k:Nat}{e v id:Nat}{R R':TypeId->Prop}{σ σ':Gb}{gs:Fz}{l:List α}(hk:1<k)(dQ:σ'[id]?=some (.row e k v gs.flatten))(he:R' e)(hr:∀t,R t->R' t)(hK:aY R σ σ')(hg:∀g∈gs,g.length=k)(h:fF (oK em N R σ) gs l) :
  ∀τ,aY R' σ' τ->∀K,(bF τ (K+(N+1)) (.aR id v 0 l.length k)).strip=(em.list k).aA l/\(bF τ (K+(N+1)) (.aR id v 0 l.length k)).bQ=true:=λτ eH K=>
 PB (L:=N) (eH _ _ _ _ _ he dQ) Ah hg (by rw[h.len];exact yAk _) l rfl (λi hi=>h.get i (by rw[h.len];exact hi) hi τ (hK.trans (eH.mono hr))) K
theorem HM{e:TypeId}{R:TypeId->Prop}(hR:∀t,R t->t≠e){σ σ':Gb}(h:∀(j:Nat) (z:aB),σ[j]?=some z->(∀n v cs,z≠.row e n v cs)->σ'[j]?=some z):aY R σ σ':=λid t n v cs ht hy=>h id _ hy λn v cs h=>by cases h;exact hR _ ht rfl
theorem PE{α:Type}(l:List α)(i:Nat)(x:α)(hi:i<=l.length):(bT l 0 i x).length=l.length+1:=by
 unfold bT;rw[yAJ rfl,yAa,yAT,yAt,yBg];omega
theorem PG{α:Type}(l:List α)(i:Nat)(x:α)(hi:i<l.length):(bT l 1 i x).length=l.length-1:=by
 unfold bT;rw[yAI Al,yAJ rfl,yAa,yAt,yBg];omega
theorem PI{α:Type}(l:List α)(i:Nat)(x:α):(bT l 2 i x).length=l.length:=by
 unfold bT;rw[yAI Al,yAI Al,yAD]
theorem u6{k:Nat}{gs:Fz}{way:Int}{i:Nat}{y:Gc}(hg:∀g∈gs,g.length=k)(hy:y.length=k):∀g∈bT gs way i y,g.length=k:=λg h=>by
 rcases aNP h with h | ⟨_,rfl⟩
 .exact hg g h
 .exact hy
section
abbrev qD:TypeId->Prop:=λt=>t=92\/t=89
abbrev rF:TypeId->Prop:=λt=>t=56\/t=92\/t=89
abbrev wK:TypeId->Prop:=λ_=>False
theorem aEf:CI Em.aG:=λd=>by
 rw[nN];refine .agg _ λc hc=>?_
 simp only[yBh,yBX,yC]at hc;rcases hc with rfl|rfl|rfl|rfl|rfl|rfl
 .exact .str _
 .exact .str _
 .exact .int _ _
 .exact .int _ _
 .exact .int _ _
 .exact aNw aNx 1 _
theorem Clean.calm{c:PD}(h:Clean c):Calm c:=λσ K=>⟨by rw[h.bF],by rw[h.bF];exact h.bQ⟩
theorem Clean.cells{cs:Gc}(h:Clean (.agg cs)):∀c∈cs,Clean c:=by
 cases h with
 |agg _ h=>exact h
theorem KK{α:Type}{em:Em α}(h:CI em)(x:α){g:Gc}(hg:em.aA x=.agg g)(σ:List aB):tQ em σ 1 g x:=by
 have hc:=h x;rw[hg]at hc;exact aNy (λc hm=>(hc.cells c hm).calm) (by rw[<-hg];exact em.str x) σ 0
def o7{α:Type}(em:Em α)(sz:Nat)(σ:List aB)(L:Nat)(P:PD)(l:List α):Prop:=∀K,(bF σ (K+L) P).strip=(em.list sz).aA l/\(bF σ (K+L) P).bQ=true
theorem o7.hd{α:Type}{em:Em α}{sz e id L:Nat}{σ:Gb}{gs:Fz}{l:List α}(h1:sz≠1)(hr:0<l.length->σ[id]?=some (.row e sz 0 gs.flatten))(hg:0<l.length->∀g∈gs,g.length=sz)(hl:0<l.length->gs.length=l.length)(hL:1<=L)
  (h:∀i (hi:i<l.length) (hi2:i<gs.length),tQ em σ L gs[i] l[i]):o7 em sz σ (L+1) (Go.Kz.hd sz id l.length) l:=λK=>by
 by_cases h0:l.length=0
 .obtain rfl:=yAf h0;obtain⟨M,rfl⟩:∃M,L=M+1:=⟨L-1,Ah⟩;exact PA sz 0 σ (K+M) .full
 .rw[o5 Ah];exact ku
theorem aEg{σ:Gb}{L:Nat}{P:PD}{g:iU}(h:o7 Em.draw 2 σ (L+1) P g.aX):tQ Em.eZ σ (L+1) [.int .i64 g.lo,.int .i64 g.hi,P] g:=λK=>by
 obtain⟨h1,h2⟩:=h K
 constructor
 .show PD.agg [.int .i64 g.lo,.int .i64 g.hi,PD.strip (bF σ (K+(L+1)) P)]=_
  rw[h1,MI]
 .show(true&&(true&&(PD.bQ (bF σ (K+(L+1)) P)&&true)))=true
  rw[h2];rfl
theorem XC{σ:Gb}{L:Nat}{P:PD}{s:bW}(h:o7 Em.eZ 3 σ (L+1) P s.aU):tQ Em.stop σ (L+1) [.str s.name,.int .i64 s.num,.int .i64 s.den,P] s:=λK=>by
 obtain⟨h1,h2⟩:=h K
 constructor
 .show PD.agg [.str s.name,.int .i64 s.num,.int .i64 s.den,PD.strip (bF σ (K+(L+1)) P)]=_
  rw[h1,pV]
 .show(true&&(true&&(true&&(PD.bQ (bF σ (K+(L+1)) P)&&true))))=true
  rw[h2];rfl
theorem aEc{σ:Gb}{L:Nat}{P:PD}{d:bD}(h:o7 Em.stop 4 σ (L+1) P d.stops):tQ Em.div σ (L+1) [.str d.name,.bool d.eE,.int .i64 d.low,.int .i64 d.high,P] d:=λK=>by
 obtain⟨h1,h2⟩:=h K
 constructor
 .show PD.agg [.str d.name,.bool d.eE,.int .i64 d.low,.int .i64 d.high,PD.strip (bF σ (K+(L+1)) P)]=_
  rw[h1,lX]
 .show(true&&(true&&(true&&(true&&(PD.bQ (bF σ (K+(L+1)) P)&&true)))))=true
  rw[h2];rfl
theorem aNz{σ:Gb}{lo:Nat}{ds:List dT}{id:Nat}(h:CJ σ lo ds id):o7 Em.draw 2 σ 2 (Go.Kz.hd 2 id ds.length) ds:=by
 refine o7.hd (L:=1) (gs:=ds.map λw=>[PD.int .i64 w.aG,.int .i64 w.shift]) Al (λhp=>(h hp).2) (λ_ g hg=>by obtain⟨w,_,rfl⟩:=yAw.1 hg;rfl) (λ_=>yAe ..) (yAk _) λi hi hi2=>?_
 rw[yBE];exact KK aEh _ DF σ
theorem aNA{α:Type}{l:List α}{x:α}(h:x∈l):∃i,∃hi:i<l.length,l[i]=x:=by
 obtain⟨i,hi,e⟩:=yCA h;exact⟨i,hi,e⟩
theorem zZ{n sz:Nat}{gs:Fz}(hl:gs.length=n)(h:∀i,i<n->∃g,gs[i]?=some g/\g.length=sz):∀g∈gs,g.length=sz:=λg hg=>by
 obtain⟨i,hi,rfl⟩:=aNA hg;obtain⟨q,h1,h2⟩:=h i Ah;rw[yAh hi,yAb]at h1;rw[h1];exact h2
theorem aEi{σ:Gb}{lo:Nat}{s:bW}{p:PD}{iG:Nat}{gs:Fz}{iW:Nat->Nat}(h:qG σ lo s p iG gs iW):o7 Em.eZ 3 σ 3 (Go.Kz.hd 3 iG s.aU.length) s.aU:=by
 refine o7.hd (L:=2) (gs:=gs) Al (λhp=>(h.row hp).2) (λ_=>zZ h.len λi hi=>⟨_,(h.at_ i hi).1,rfl⟩) (λ_=>h.len) Ah λi hi hi2=>?_
 have h1:=h.at_ i hi;have e:=(yA.1 h1.1).2;rw[e];exact aEg (L:=1) (aNz h1.2)
theorem aNB{σ:Gb}{lo:Nat}{d:bD}{p:PD}{iS:Nat}{ss:Fz}{tG:Nat->Nat}{tgs:Fy}{tW:Nat->Nat->Nat}(h:mD σ lo d p iS ss tG tgs tW):o7 Em.stop 4 σ 4 (Go.Kz.hd 4 iS d.stops.length) d.stops:=by
 refine o7.hd (L:=3) (gs:=ss) Al (λhp=>(h.row hp).2) (λ_=>zZ h.len λi hi=>⟨_,(h.at_ i hi).1,rfl⟩) (λ_=>h.len) Ah λi hi hi2=>?_
 have h1:=h.at_ i hi;have e:=(yA.1 h1.1).2;rw[e];exact XC (L:=2) (aEi h1.2)
theorem qG.kept{σ σ':Gb}{lo:Nat}{s:bW}{p:PD}{iG:Nat}{gs:Fz}{iW:Nat->Nat}(h:qG σ lo s p iG gs iW)(k:aY qD σ σ'):qG σ' lo s p iG gs iW:=by
 obtain⟨h1,h2,h3,h4,h5⟩:=h;exact⟨h1,h2,λhp=>⟨(h3 hp).1,k _ _ _ _ _ (.inl rfl) (h3 hp).2⟩,λg h=>⟨(h4 g h).1,λhp=>⟨((h4 g h).2 hp).1,k _ _ _ _ _ (.inr rfl) ((h4 g h).2 hp).2⟩⟩,h5⟩
theorem mD.kept{σ σ':Gb}{lo:Nat}{d:bD}{p:PD}{iS:Nat}{ss:Fz}{tG:Nat->Nat}{tgs:Fy}{tW:Nat->Nat->Nat}(h:mD σ lo d p iS ss tG tgs tW)(k:aY rF σ σ'):mD σ' lo d p iS ss tG tgs tW:=by
 obtain⟨h1,h2,h3,h4,h5⟩:=h;exact⟨h1,h2,λhp=>⟨(h3 hp).1,k _ _ _ _ _ (.inl rfl) (h3 hp).2⟩,λs h=>⟨(h4 s h).1,(h4 s h).2.kept (k.mono λ_=>.inr)⟩,h5⟩
def DV(σ:List aB)(c:PD)(d:bD):Prop:=∃h,c=.agg [.str d.name,.bool d.eE,.int .i64 d.low,.int .i64 d.high,h]/\(h=.slice 0 [] .full\/∃id m,h=.aR id 0 0 m 4)/\oK Em.div 7 rF σ [.str d.name,.bool d.eE,.int .i64 d.low,.int .i64 d.high,h] d
def SV(σ:List aB)(c:PD)(d:bW):Prop:=∃h,c=.agg [.str d.name,.int .i64 d.num,.int .i64 d.den,h]/\(h=.slice 0 [] .full\/∃id m,h=.aR id 0 0 m 3)/\oK Em.stop 6 qD σ [.str d.name,.int .i64 d.num,.int .i64 d.den,h] d
theorem aEj(k id n:Nat):Go.Kz.hd k id n=.slice 0 [] .full\/∃i m,Go.Kz.hd k id n=.aR i 0 0 m k:=by
 unfold Go.Kz.hd;split
 .exact .inl rfl
 .exact .inr ⟨_,_,rfl⟩
theorem mD.z6{σ:Gb}{lo:Nat}{d:bD}{p:PD}{iS:Nat}{ss:Fz}{tG:Nat->Nat}{tgs:Fy}{tW:Nat->Nat->Nat}(h:mD σ lo d p iS ss tG tgs tW):oK Em.div 7 rF σ [.str d.name,.bool d.eE,.int .i64 d.low,.int .i64 d.high,Go.Kz.hd 4 iS d.stops.length] d:=λσ' k=>(aEc (L:=3) (aNB (h.kept k))).up Ah
theorem qG.z6{σ:Gb}{lo:Nat}{s:bW}{p:PD}{iG:Nat}{gs:Fz}{iW:Nat->Nat}(h:qG σ lo s p iG gs iW):oK Em.stop 6 qD σ [.str s.name,.int .i64 s.num,.int .i64 s.den,Go.Kz.hd 3 iG s.aU.length] s:=λσ' k=>(XC (L:=2) (aEi (h.kept k))).up Ah
theorem mD.dv{σ:Gb}{lo:Nat}{d:bD}{p:PD}{iS:Nat}{ss:Fz}{tG:Nat->Nat}{tgs:Fy}{tW:Nat->Nat->Nat}(h:mD σ lo d p iS ss tG tgs tW):DV σ p d:=⟨_,h.p,aEj _ _ _,h.z6⟩
theorem qG.sv{σ:Gb}{lo:Nat}{s:bW}{p:PD}{iG:Nat}{gs:Fz}{iW:Nat->Nat}(h:qG σ lo s p iG gs iW):SV σ p s:=⟨_,h.p,aEj _ _ _,h.z6⟩
abbrev oZ:=AI Em.aG 6 48 wK
abbrev o0:=AI Em.div 5 53 rF
abbrev nV:=AI Em.aK 5 58 wK
theorem aNC{α:Type}{em:Em α}{f:α->Gc}(hf:∀x,em.aA x=.agg (f x))(l:List α):(l.map em.aA).flatMap PD.cells=(l.map f).flatten:=by
 induction l with
 |nil=>rfl
 |cons x l ih=>simp only[yAS,yBr,yBq,ih,hf];rfl
theorem aEk{α:Type}{em:Em α}{f:α->Gc}{sz e id:Nat}{σ:Gb}(hc:CI em)(hf:∀x,em.aA x=.agg (f x))(hs:∀x,(f x).length=sz)(l:List α)(hl:l.length<=200)(hr:0<l.length->σ[id]?=some (.row e sz 0 ((l.map em.aA).flatMap PD.cells))):AI em sz e wK σ (Go.Kz.hd sz id l.length) l:=by
 refine⟨id,l.map f,rfl,hl,λg hg=>by obtain⟨x,_,rfl⟩:=yAw.1 hg;exact hs x,λhp=>by rw[<-aNC hf];exact hr hp,fF.of (yAe ..) λi h1 h2 σ' _=>?_⟩;rw[yBE];exact(KK hc _ (hf _) σ').up Ah
theorem rI{σ:Gb}{lo:Nat}{o:aP}{p:PD}{iR iD iC:Nat}{ds:Fz}{tS:Nat->Nat}{tss:Fy}{tG:Nat->Nat->Nat}{tgs:Fx}{tW:Nat->Nat->Nat->Nat}(h:iI σ lo o p iR iD iC ds tS tss tG tgs tW)(hs:uY o):oZ σ (Go.Kz.hd 6 iR o.aM.length) o.aM/\o0 σ (Go.Kz.hd 5 iD o.aD.length) o.aD/\nV σ (Go.Kz.hd 5 iC o.aO.length) o.aO:=by
 refine⟨aEk aEf (λ_=>nN) (λ_=>rfl) _ hs.1 λhp=>(h.aG hp).2,⟨iD,ds,rfl,hs.2.1,zZ h.len λi hi=>⟨_,(h.at_ i hi).1,rfl⟩,λhp=>(h.row hp).2,fF.of h.len λi h1 h2=>?_⟩,aEk aEl (λ_=>DG) (λ_=>rfl) _ hs.2.2.1 λhp=>(h.aK hp).2⟩;have e:=(yA.1 (h.at_ i h2).1).2;rw[e];exact(h.at_ i h2).2.z6
theorem aEd{σ:Gb}{lo:Nat}{d:bD}{p:PD}{iS:Nat}{ss:Fz}{tG:Nat->Nat}{tgs:Fy}{tW:Nat->Nat->Nat}(h:mD σ lo d p iS ss tG tgs tW):(∀g∈ss,g.length=4)/\(0<d.stops.length->σ[iS]?=some (.row 56 4 0 ss.flatten))/\fF (oK Em.stop 6 qD σ) ss d.stops:=by
 refine⟨zZ h.len λi hi=>⟨_,(h.at_ i hi).1,rfl⟩,λhp=>(h.row hp).2,fF.of h.len λi h1 h2=>?_⟩;have e:=(yA.1 (h.at_ i h2).1).2;rw[e];exact(h.at_ i h2).2.z6
theorem oZ.o4{σ:Gb}{P:PD}{l:List bB}(h:oZ σ P l):cO Em.aG 6 oI σ P l:=h.G8 Al λt ht=>ht.elim id False.elim
theorem o0.o4{σ:Gb}{P:PD}{l:List bD}(h:o0 σ P l):cO Em.div 5 oJ σ P l:=h.G8 Al λt ht=>ht
theorem nV.o4{σ:Gb}{P:PD}{l:List bP}(h:nV σ P l):cO Em.aK 5 mC σ P l:=h.G8 Al λt ht=>ht.elim id False.elim
structure SIn (σ:List aB) (P:PD) (l:List bW):Prop where
 plain:P.plain=true
 cells:P.cells=[P]
 bF:∀σ',aY rF σ σ'->o7 Em.stop 4 σ' 7 P l
def W0(E:aE):Prop:=∀(σ:List aB) (id:Nat) (gs:List (List PD)) (c:PD) (l:List bW) (way:Int) (i:Nat) (d:bW),l.length<=200->(∀g∈gs,g.length=4)->(0<l.length->σ[id]?=some (.row 56 4 0 gs.flatten))->fF (oK Em.stop 6 qD σ) gs l->SV σ c d->(way=0/\i<=l.length\/(way=1\/way=2)/\i<l.length)->σ≠[] ->
 aL prog E 0 (.inl 85) [Go.Kz.hd 4 id l.length,.int .i64 way,.int .i64 i,c] σ (λQ σ'=>SIn σ' Q (bT l way i d)/\σ.length<=σ'.length/\∀(j:Nat) (z:aB),σ[j]?=some z->(0<l.length->j≠id)->σ'[j]?=some z)
variable{E E0:aE}(hU:aH E)
include hU
theorem aM9(h0:E 87=none)(h1:E 120=some (gI 58 5))(h2:E 121=some (rH 58 5)):WZ E nV:=by
 intro σ P l way i c hP hw dQ;obtain⟨id,gs,rfl,hn,hg,hr,hA⟩:=hP;obtain⟨nm,a,b,sh,th⟩:=c;have hy:oK Em.aK 7 wK σ [.str nm,.int .i64 a,.int .i64 b,.int .i64 sh,.bool th] ⟨nm,a,b,sh,th⟩:=λσ' _=>(KK aEl ⟨nm,a,b,sh,th⟩ rfl σ').up (show 1<=7 by decide)
 have qH:=hy;simp only[DG];have hAl:=λway:Int=>hA.bT way i (x:=[.str nm,.int .i64 a,.int .i64 b,.int .i64 sh,.bool th]) (y:=⟨nm,a,b,sh,th⟩) (λ_=>hy)
 have wL:=λway:Int=>hA.bT way i (x:=[.str nm,.int .i64 a,.int .i64 b,.int .i64 sh,.bool th]) (y:=⟨nm,a,b,sh,th⟩) (λ_=>qH)
 have hgl:=hA.len;rcases hw with⟨rfl,hi⟩ | ⟨rfl|rfl,hi⟩
 .obtain⟨id',v,σ1,e1,e2,e3,e4⟩:=PC (e:=58) (k:=5) Al (n:=l.length) (id:=id) (i:=i) (σ:=(σ++[aB.box (.agg [.str nm,.int .i64 a,.int .i64 b,.int .i64 sh,.bool th])])) (gs:=gs) (y:=.agg [.str nm,.int .i64 a,.int .i64 b,.int .i64 sh,.bool th]) hn hg hgl (λhp=>cE (hr hp)) hi rfl;refine(aND hU h0 h1 h2 (Go.Kz.hd 5 id l.length) _ 0 i nm a b sh th σ σ1 rfl ⟨Ah,Ah⟩ e1).mono ?_
  rintro p1 σ' ⟨rfl,rfl⟩
  have e6:∀(j:Nat) (z:aB),σ[j]?=some z->(0<l.length->j≠id)->σ'[j]?=some z:=λj z hz h=>e4 j z (cE hz) h
  have e5:=u5 hr e6;have hK:aY wK σ σ':=λ_ _ _ _ _ h=>h.elim
  have hL:=cO.row (R':=mC) Al e2 rfl (λ_ h=>h.elim) hK (u6 hg rfl) (hAl 0);rw[PE _ _ _ hi]at hL;exact ic
 .obtain⟨σ1,e1,e2,e3,e4⟩:=PF (e:=58) (k:=5) Al (n:=l.length) (id:=id) (i:=i) (σ:=(σ++[aB.box (.agg [.str nm,.int .i64 a,.int .i64 b,.int .i64 sh,.bool th])])) (gs:=gs) [.str nm,.int .i64 a,.int .i64 b,.int .i64 sh,.bool th] hg hgl (cE (hr Ah)) hi;refine(aNE hU h0 h1 h2 (Go.Kz.hd 5 id l.length) _ 1 i nm a b sh th σ σ1 rfl ⟨Ah,Ah⟩ e1).mono ?_
  rintro p1 σ' ⟨rfl,rfl⟩
  have e6:∀(j:Nat) (z:aB),σ[j]?=some z->(0<l.length->j≠id)->σ'[j]?=some z:=λj z hz h=>e4 j z (cE hz) h
  have e5:=u5 hr e6;have hK:aY wK σ σ':=λ_ _ _ _ _ h=>h.elim
  have hL:=cO.row (R':=mC) Al e2 rfl (λ_ h=>h.elim) hK (u6 hg rfl) (wL 1);rw[PG _ _ _ hi]at hL;exact ic
 .have hr':=hr Ah;rw[o5 Ah];obtain⟨r1,_⟩:=yA.1 hr';have hfl:=nH gs hg;refine(aNF hU h0 id l.length 2 i nm a b sh th σ _ rfl hi Ah hr' (by rw[hfl,hgl])).mono ?_
  rintro p1 σ' ⟨rfl,rfl⟩
  rw[PH hg rfl i Ah];have e6:∀(j:Nat) (z:aB),σ[j]?=some z->(0<l.length->j≠id)->(σ.set id (.row 58 5 0 (bT gs 2 i [.str nm,.int .i64 a,.int .i64 b,.int .i64 sh,.bool th]).flatten)++[aB.box (.agg [.str nm,.int .i64 a,.int .i64 b,.int .i64 sh,.bool th])])[j]?=some z:=λj z hz h=>by
   exact je
  have e5:=u5 hr e6;have hK:aY wK σ (σ.set id (.row 58 5 0 (bT gs 2 i [.str nm,.int .i64 a,.int .i64 b,.int .i64 sh,.bool th]).flatten)++[aB.box (.agg [.str nm,.int .i64 a,.int .i64 b,.int .i64 sh,.bool th])]):=λ_ _ _ _ _ h=>h.elim
  have hL:=cO.row (R':=mC) Al (cE (τ:=[aB.box (.agg [.str nm,.int .i64 a,.int .i64 b,.int .i64 sh,.bool th])]) (yAj r1)) rfl (λ_ h=>h.elim) hK (u6 hg rfl) (wL 2);exact oz
theorem aM5(h0:E 82=none)(h1:E 112=some (gI 48 6))(h2:E 113=some (rH 48 6)):WX E oZ:=by
 intro σ P l way i c hP hcR hw dQ;obtain⟨id,gs,rfl,hn,hg,hr,hA⟩:=hP;obtain⟨nm,tn,a,b,sh,w⟩:=c;have hx:(PD.slice (sz 1 w) (w.map i64.aA) .any).strip=.slice (sz 1 w) (w.map i64.aA) .any:=vA i64 1 w .any;have hy:oK Em.aG 7 wK σ [.str nm,.str tn,.int .i64 a,.int .i64 b,.int .i64 sh,.slice (sz 1 w) (w.map i64.aA) .any] ⟨nm,tn,a,b,sh,w⟩:=λσ' _=>(KK aEf ⟨nm,tn,a,b,sh,w⟩ rfl σ').up (show 1<=7 by decide)
 have qH:=hy;simp only[nN,aW];have hAl:=λway:Int=>hA.bT way i (x:=[.str nm,.str tn,.int .i64 a,.int .i64 b,.int .i64 sh,.slice (sz 1 w) (w.map i64.aA) .any]) (y:=⟨nm,tn,a,b,sh,w⟩) (λ_=>hy)
 have wL:=λway:Int=>hA.bT way i (x:=[.str nm,.str tn,.int .i64 a,.int .i64 b,.int .i64 sh,.slice (sz 1 w) (w.map i64.aA) .any]) (y:=⟨nm,tn,a,b,sh,w⟩) (λ_=>qH)
 have hgl:=hA.len;rcases hw with⟨rfl,hi⟩ | ⟨rfl|rfl,hi⟩
 .obtain⟨id',v,σ1,e1,e2,e3,e4⟩:=PC (e:=48) (k:=6) Al (n:=l.length) (id:=id) (i:=i) (σ:=(σ++[aB.box (.agg [.str nm,.str tn,.int .i64 a,.int .i64 b,.int .i64 sh,.slice (sz 1 w) (w.map i64.aA) .any])])) (gs:=gs) (y:=.agg [.str nm,.str tn,.int .i64 a,.int .i64 b,.int .i64 sh,.slice (sz 1 w) (w.map i64.aA) .any]) hn hg hgl (λhp=>cE (hr hp)) hi rfl;refine(aNG hU h0 h1 h2 (Go.Kz.hd 6 id l.length) _ 0 i nm tn a b sh (sz 1 w) (w.map i64.aA) hx σ σ1 rfl ⟨Ah,Ah⟩ e1).mono ?_
  rintro p1 σ' ⟨rfl,rfl⟩
  have e6:∀(j:Nat) (z:aB),σ[j]?=some z->(0<l.length->j≠id)->σ'[j]?=some z:=λj z hz h=>e4 j z (cE hz) h
  have e5:=u5 hr e6;have hK:aY wK σ σ':=λ_ _ _ _ _ h=>h.elim
  have hL:=cO.row (R':=oI) Al e2 rfl (λ_ h=>h.elim) hK (u6 hg rfl) (hAl 0);rw[PE _ _ _ hi]at hL;exact ic
 .obtain⟨σ1,e1,e2,e3,e4⟩:=PF (e:=48) (k:=6) Al (n:=l.length) (id:=id) (i:=i) (σ:=(σ++[aB.box (.agg [.str nm,.str tn,.int .i64 a,.int .i64 b,.int .i64 sh,.slice (sz 1 w) (w.map i64.aA) .any])])) (gs:=gs) [.str nm,.str tn,.int .i64 a,.int .i64 b,.int .i64 sh,.slice (sz 1 w) (w.map i64.aA) .any] hg hgl (cE (hr Ah)) hi;refine(aNH hU h0 h1 h2 (Go.Kz.hd 6 id l.length) _ 1 i nm tn a b sh (sz 1 w) (w.map i64.aA) hx σ σ1 rfl ⟨Ah,Ah⟩ e1).mono ?_
  rintro p1 σ' ⟨rfl,rfl⟩
  have e6:∀(j:Nat) (z:aB),σ[j]?=some z->(0<l.length->j≠id)->σ'[j]?=some z:=λj z hz h=>e4 j z (cE hz) h
  have e5:=u5 hr e6;have hK:aY wK σ σ':=λ_ _ _ _ _ h=>h.elim
  have hL:=cO.row (R':=oI) Al e2 rfl (λ_ h=>h.elim) hK (u6 hg rfl) (wL 1);rw[PG _ _ _ hi]at hL;exact ic
 .have hr':=hr Ah;rw[o5 Ah];obtain⟨r1,_⟩:=yA.1 hr';have hfl:=nH gs hg;refine(aNI hU h0 id l.length 2 i nm tn a b sh (sz 1 w) (w.map i64.aA) hx σ _ rfl hi Ah hr' (by rw[hfl,hgl])).mono ?_
  rintro p1 σ' ⟨rfl,rfl⟩
  rw[PH hg rfl i Ah];have e6:∀(j:Nat) (z:aB),σ[j]?=some z->(0<l.length->j≠id)->(σ.set id (.row 48 6 0 (bT gs 2 i [.str nm,.str tn,.int .i64 a,.int .i64 b,.int .i64 sh,.slice (sz 1 w) (w.map i64.aA) .any]).flatten)++[aB.box (.agg [.str nm,.str tn,.int .i64 a,.int .i64 b,.int .i64 sh,.slice (sz 1 w) (w.map i64.aA) .any])])[j]?=some z:=λj z hz h=>by
   exact je
  have e5:=u5 hr e6;have hK:aY wK σ (σ.set id (.row 48 6 0 (bT gs 2 i [.str nm,.str tn,.int .i64 a,.int .i64 b,.int .i64 sh,.slice (sz 1 w) (w.map i64.aA) .any]).flatten)++[aB.box (.agg [.str nm,.str tn,.int .i64 a,.int .i64 b,.int .i64 sh,.slice (sz 1 w) (w.map i64.aA) .any])]):=λ_ _ _ _ _ h=>h.elim
  have hL:=cO.row (R':=oI) Al (cE (τ:=[aB.box (.agg [.str nm,.str tn,.int .i64 a,.int .i64 b,.int .i64 sh,.slice (sz 1 w) (w.map i64.aA) .any])]) (yAj r1)) rfl (λ_ h=>h.elim) hK (u6 hg rfl) (wL 2);exact oz
theorem aM7(h0:E 84=none)(h1:E 114=some (gI 53 5))(h2:E 115=some (rH 53 5)):WY E o0 DV:=by
 intro σ P c l way i d hP hc hw dQ;obtain⟨id,gs,rfl,hn,hg,hr,hA⟩:=hP;obtain⟨h,rfl,hh,qH⟩:=hc;obtain⟨nm,pe,a,b,w⟩:=d;simp only at qH ⊢;have hy:oK Em.div 7 rF σ [.str nm,.bool pe,.int .i64 a,.int .i64 b,h.strip] ⟨nm,pe,a,b,w⟩:=by
  exact tf
 have hAl:=λway:Int=>hA.bT way i (x:=[.str nm,.bool pe,.int .i64 a,.int .i64 b,h.strip]) (y:=⟨nm,pe,a,b,w⟩) (λ_=>hy)
 have wL:=λway:Int=>hA.bT way i (x:=[.str nm,.bool pe,.int .i64 a,.int .i64 b,h]) (y:=⟨nm,pe,a,b,w⟩) (λ_=>qH)
 have hgl:=hA.len;rcases hw with⟨rfl,hi⟩ | ⟨rfl|rfl,hi⟩
 .obtain⟨id',v,σ1,e1,e2,e3,e4⟩:=PC (e:=53) (k:=5) Al (n:=l.length) (id:=id) (i:=i) (σ:=(σ++[aB.box (.agg [.str nm,.bool pe,.int .i64 a,.int .i64 b,h])])) (gs:=gs) (y:=.agg [.str nm,.bool pe,.int .i64 a,.int .i64 b,h.strip]) hn hg hgl (λhp=>cE (hr hp)) hi rfl;refine(aNJ hU h0 h1 h2 (Go.Kz.hd 5 id l.length) _ 0 i nm pe a b h hh σ σ1 rfl ⟨Ah,Ah⟩ e1).mono ?_
  rintro p1 σ' ⟨rfl,rfl⟩
  have e6:∀(j:Nat) (z:aB),σ[j]?=some z->(0<l.length->j≠id)->σ'[j]?=some z:=λj z hz h=>e4 j z (cE hz) h
  have e5:=u5 hr e6;have hK:aY rF σ σ':=HM (e:=53) Cj e5;have hL:=cO.row (R':=oJ) Al e2 (.inl rfl) (λ_ h=>.inr h) hK (u6 hg rfl) (hAl 0);rw[PE _ _ _ hi]at hL;exact ic
 .obtain⟨σ1,e1,e2,e3,e4⟩:=PF (e:=53) (k:=5) Al (n:=l.length) (id:=id) (i:=i) (σ:=(σ++[aB.box (.agg [.str nm,.bool pe,.int .i64 a,.int .i64 b,h])])) (gs:=gs) [.str nm,.bool pe,.int .i64 a,.int .i64 b,h] hg hgl (cE (hr Ah)) hi;refine(aNK hU h0 h1 h2 (Go.Kz.hd 5 id l.length) _ 1 i nm pe a b h hh σ σ1 rfl ⟨Ah,Ah⟩ e1).mono ?_
  rintro p1 σ' ⟨rfl,rfl⟩
  have e6:∀(j:Nat) (z:aB),σ[j]?=some z->(0<l.length->j≠id)->σ'[j]?=some z:=λj z hz h=>e4 j z (cE hz) h
  have e5:=u5 hr e6;have hK:aY rF σ σ':=HM (e:=53) Cj e5;have hL:=cO.row (R':=oJ) Al e2 (.inl rfl) (λ_ h=>.inr h) hK (u6 hg rfl) (wL 1);rw[PG _ _ _ hi]at hL;exact ic
 .have hr':=hr Ah;rw[o5 Ah];obtain⟨r1,_⟩:=yA.1 hr';have hfl:=nH gs hg;refine(aNL hU h0 id l.length 2 i nm pe a b h hh σ _ rfl hi Ah hr' (by rw[hfl,hgl])).mono ?_
  rintro p1 σ' ⟨rfl,rfl⟩
  rw[PH hg rfl i Ah];have e6:∀(j:Nat) (z:aB),σ[j]?=some z->(0<l.length->j≠id)->(σ.set id (.row 53 5 0 (bT gs 2 i [.str nm,.bool pe,.int .i64 a,.int .i64 b,h]).flatten)++[aB.box (.agg [.str nm,.bool pe,.int .i64 a,.int .i64 b,h])])[j]?=some z:=λj z hz h=>by
   exact je
  have e5:=u5 hr e6;have hK:aY rF σ (σ.set id (.row 53 5 0 (bT gs 2 i [.str nm,.bool pe,.int .i64 a,.int .i64 b,h]).flatten)++[aB.box (.agg [.str nm,.bool pe,.int .i64 a,.int .i64 b,h])]):=HM (e:=53) Cj e5;have hL:=cO.row (R':=oJ) Al (cE (τ:=[aB.box (.agg [.str nm,.bool pe,.int .i64 a,.int .i64 b,h])]) (yAj r1)) (.inl rfl) (λ_ h=>.inr h) hK (u6 hg rfl) (wL 2);exact oz
theorem aNb(h0:E 85=none)(h1:E 116=some (gI 56 4))(h2:E 117=some (rH 56 4)):W0 E:=by
 intro σ id gs c l way i d hn hg hr hA hc hw dQ;obtain⟨h,rfl,hh,qH⟩:=hc;obtain⟨nm,a,b,w⟩:=d;simp only at qH ⊢;have hy:oK Em.stop 6 qD σ [.str nm,.int .i64 a,.int .i64 b,h.strip] ⟨nm,a,b,w⟩:=by
  exact tf
 have hAl:=λway:Int=>hA.bT way i (x:=[.str nm,.int .i64 a,.int .i64 b,h.strip]) (y:=⟨nm,a,b,w⟩) (λ_=>hy)
 have wL:=λway:Int=>hA.bT way i (x:=[.str nm,.int .i64 a,.int .i64 b,h]) (y:=⟨nm,a,b,w⟩) (λ_=>qH)
 have hgl:=hA.len;rcases hw with⟨rfl,hi⟩ | ⟨rfl|rfl,hi⟩
 .obtain⟨id',v,σ1,e1,e2,e3,e4⟩:=PC (e:=56) (k:=4) Al (n:=l.length) (id:=id) (i:=i) (σ:=(σ++[aB.box (.agg [.str nm,.int .i64 a,.int .i64 b,h])])) (gs:=gs) (y:=.agg [.str nm,.int .i64 a,.int .i64 b,h.strip]) hn hg hgl (λhp=>cE (hr hp)) hi rfl;refine(aNM hU h0 h1 h2 (Go.Kz.hd 4 id l.length) _ 0 i nm a b h hh σ σ1 rfl ⟨Ah,Ah⟩ e1).mono ?_
  rintro p1 σ' ⟨rfl,rfl⟩
  have e6:∀(j:Nat) (z:aB),σ[j]?=some z->(0<l.length->j≠id)->σ'[j]?=some z:=λj z hz h=>e4 j z (cE hz) h
  have e5:=u5 hr e6;have hK:aY qD σ σ':=HM (e:=56) Cm e5;have hL:=XD (R':=rF) Al e2 (.inl rfl) (λ_ h=>.inr h) hK (u6 hg rfl) (hAl 0);rw[PE _ _ _ hi]at hL;rw[yAa]at e3;exact⟨⟨rfl,rfl,hL⟩,Ah,e6⟩
 .obtain⟨σ1,e1,e2,e3,e4⟩:=PF (e:=56) (k:=4) Al (n:=l.length) (id:=id) (i:=i) (σ:=(σ++[aB.box (.agg [.str nm,.int .i64 a,.int .i64 b,h])])) (gs:=gs) [.str nm,.int .i64 a,.int .i64 b,h] hg hgl (cE (hr Ah)) hi;refine(aNN hU h0 h1 h2 (Go.Kz.hd 4 id l.length) _ 1 i nm a b h hh σ σ1 rfl ⟨Ah,Ah⟩ e1).mono ?_
  rintro p1 σ' ⟨rfl,rfl⟩
  have e6:∀(j:Nat) (z:aB),σ[j]?=some z->(0<l.length->j≠id)->σ'[j]?=some z:=λj z hz h=>e4 j z (cE hz) h
  have e5:=u5 hr e6;have hK:aY qD σ σ':=HM (e:=56) Cm e5;have hL:=XD (R':=rF) Al e2 (.inl rfl) (λ_ h=>.inr h) hK (u6 hg rfl) (wL 1);rw[PG _ _ _ hi]at hL;rw[yAa]at e3;exact⟨⟨rfl,rfl,hL⟩,Ah,e6⟩
 .have hr':=hr Ah;rw[o5 Ah];obtain⟨r1,_⟩:=yA.1 hr';have hfl:=nH gs hg;refine(aNO hU h0 id l.length 2 i nm a b h hh σ _ rfl hi Ah hr' (by rw[hfl,hgl])).mono ?_
  rintro p1 σ' ⟨rfl,rfl⟩
  rw[PH hg rfl i Ah];have e6:∀(j:Nat) (z:aB),σ[j]?=some z->(0<l.length->j≠id)->(σ.set id (.row 56 4 0 (bT gs 2 i [.str nm,.int .i64 a,.int .i64 b,h]).flatten)++[aB.box (.agg [.str nm,.int .i64 a,.int .i64 b,h])])[j]?=some z:=λj z hz h=>by
   exact je
  have e5:=u5 hr e6;have hK:aY qD σ (σ.set id (.row 56 4 0 (bT gs 2 i [.str nm,.int .i64 a,.int .i64 b,h]).flatten)++[aB.box (.agg [.str nm,.int .i64 a,.int .i64 b,h])]):=HM (e:=56) Cm e5;have hL:=XD (R':=rF) Al (cE (τ:=[aB.box (.agg [.str nm,.int .i64 a,.int .i64 b,h])]) (yAj r1)) (.inl rfl) (λ_ h=>.inr h) hK (u6 hg rfl) (wL 2);rw[PI]at hL;exact⟨⟨rfl,rfl,hL⟩,by rw[yAa,yAD];omega,e6⟩
end
end Go.Kz
