/- Steps of the proof. -/
import Derived.Test.YteegpeenjdgodaaGreatDoorX1d
import Derived.Test.YteegpeenjdgodaaGreatDoorP3
import Derived.Test.YteegpeenjdgodaaGreatDoorP5d
set_option linter.all false
set_option maxHeartbeats 40000000
set_option maxRecDepth 100000
open Go.Proofs.Tryz
namespace Go.Kz
open Go Go.Proofs
section
theorem ZF{o:aV}(h:wW o)(w i:Int):wW (qW w i o):=⟨h.1,h.2.1,by show(o.aP.map _).length<=200;rw[yAe];exact h.2.2.1,h.2.2.2⟩
def Y5(E:aE):Prop:=∀(way index:Int) (o:aV) (p:PD) (aS:List aA) (lo iR iD iC:Nat) (ds:List (List PD)) (tS:Nat->Nat) (tss:Nat->List (List PD)) (tG:Nat->Nat->Nat) (tgs:Nat->Nat->List (List PD)) (tW:Nat->Nat->Nat->Nat),iY aS lo o p iR iD iC ds tS tss tG tgs tW->lo<=aS.length->eF o ->
    (∀c∈o.aP,(-1000000000<=c.dK/\c.dK<=1000000000)/\-1000000000<=c.dst/\c.dst<=1000000000) ->
    aK prog E 0 (.inl 83) [p,.int .i64 way,.int .i64 index] aS (λq σ'=>∃b:Bool,q=.bool b/\(b=true->(∀c∈o.aP,uC way index c=true)/\iY σ' lo (qW way index o) p iR iD iC ds tS tss tG tgs tW/\aS.length<=σ'.length/\∀id,id<lo->σ'[id]?=aS[id]?)/\(b=false->(¬ ∀c∈o.aP,uC way index c=true)/\aS.length<=σ'.length/\∀id,id<lo->σ'[id]?=aS[id]?))
def Y7(E:aE)(DV:List aA->PD->bI->Prop):Prop:=∀(d:bI) (τ:List aA),gT d->aK prog E 0 (.inl 77) [Em.div.aB d] τ (λp σ'=>DV σ' p d/\τ.length<=σ'.length/\∀id,id<τ.length->σ'[id]?=τ[id]?)
def Y1(E:aE)(qD:List aA->PD->List bI->Prop)(DV:List aA->PD->bI->Prop):Prop:=∀(σ:List aA) (P c:PD) (l:List bI) (way:Int) (i:Nat) (d:bI),qD σ P l->DV σ c d->(way=0/\i<=l.length\/(way=1\/way=2)/\i<l.length)->σ≠[] ->
 aK prog E 0 (.inl 84) [P,.int .i64 way,.int .i64 i,c] σ (λQ σ'=>cO Em.div 5 kO σ' Q (bP l way i d)/\σ.length<=σ'.length/\∀(id:Nat) (y:aA),σ[id]?=some y->(∀n v cs,y≠.row 53 n v cs)->σ'[id]?=some y)
variable{E E1 E2 E3 E4 E5 E6:aE}(hU:aJ E)
include hU
theorem aOi(h0:E 42=none)(h1:E 78=some CC)(h2:E 41=some (dI prog E1 41))
  (H2:ClnS E1)
  (h3:E 56=some sQ) (h4:E 80=some (dI prog E2 80)) (U2:aJ E2) (GI:E2 80=none) (GJ:E2 56=some sQ)
  {qD:List aA->PD->List bI->Prop} {DV:List aA->PD->bI->Prop} (h5:E 84=some (dI prog E3 84)) (H5:Y1 E3 qD DV) (h7:E 83=some (dI prog E5 83)) (H7:Y5 E5) (h8:E 77=some (dI prog E6 77)) (H8:Y7 E6 DV) (h6:E 79=some (dI prog E4 79)) (H6:GF E4)
  (hIn:lOz (cO Em.aL 6 kM) qD (cO Em.aZ 5 jH))
  (o:aV) (x:cF) (ho:eF o) (hsh:wW o) (hx:dW x) (hf:gX x=0) (hk:4<=x.kind/\x.kind<=6) (hKeep:∀(σ σ2:List aA) (P:PD) (l:List bI),qD σ P l->σ.length<=σ2.length->(∀id,id<σ.length->σ2[id]?=σ[id]?)->qD σ2 P l) (hwr:∀c∈o.aP,(-1000000000<=c.dK/\c.dK<=1000000000)/\-1000000000<=c.dst/\c.dst<=1000000000) (hokr:(∀c∈o.aP,uC ((x.kind-1)%3) x.idx c=true)->cL { qW ((x.kind-1)%3) x.idx o with aD:=bP o.aD ((x.kind-1)%3) x.idx.toNat x.frame }) :
  aK prog E 0 (.inl 42) [Em.bB.aB o,Em.edit.aB x] [] (λp σ=>((x.idx<0\/(if (x.kind-1)%3=0 then(o.aD.length:Int)+1 else o.aD.length)<=x.idx)/\p=.aH [bA,.int .i64 10])\/((¬ ∀c∈o.aP,uC ((x.kind-1)%3) x.idx c=true)/\0<=x.idx/\¬(if (x.kind-1)%3=0 then(o.aD.length:Int)+1 else o.aD.length)<=x.idx/\p=.aH [bA,.int .i64 14])\/((∀c∈o.aP,uC ((x.kind-1)%3) x.idx c=true)/\0<=x.idx/\¬(if (x.kind-1)%3=0 then(o.aD.length:Int)+1 else o.aD.length)<=x.idx/\∃P1 P2 P3,p=.aH [if bT { qW ((x.kind-1)%3) x.idx o with aD:=bP o.aD ((x.kind-1)%3) x.idx.toNat x.frame }=0 then .agg [.str o.name,P1,P2,P3]else bS,.int .i64 (bT { qW ((x.kind-1)%3) x.idx o with aD:=bP o.aD ((x.kind-1)%3) x.idx.toNat x.frame })]/\cO Em.aL 6 kM σ P1 o.aR/\cO Em.div 5 kO σ P2 (bP o.aD ((x.kind-1)%3) x.idx.toNat x.frame)/\cO Em.aZ 5 jH σ P3 (o.aP.map (zN ((x.kind-1)%3) x.idx)))):=by
 have k1:=λfl σ=>I8 hx fl σ
 rw[hf]at k1;have k3:=λfl σ=>GK (x:=x) ⟨Cj,Cj⟩ fl σ
 have hth:(x.kind-1)/3=1:=Cj;rw[hth]at k3;obtain⟨wy,hwy⟩:=gn ((x.kind-1)%3);have iF:wy=0\/wy=1\/wy=2:=Cj;rw[hwy]at k3 hokr;rw[hwy];obtain⟨kd,dv,ix,nm,⟨rn,rt,ra,rb,rf,wd⟩,⟨fn,fp,flo,fhi,fs⟩,⟨sn,sa,sb,sg⟩,⟨cn,ca,cb,cs,ct⟩⟩:=x;obtain⟨on,rs,dd,cc⟩:=o;have k2:=(H2 ⟨on,rs,dd,cc⟩ ho [.box (Em.bB.aB ⟨on,rs,dd,cc⟩),.box (Em.edit.aB ⟨kd,dv,ix,nm,⟨rn,rt,ra,rb,rf,wd⟩,⟨fn,fp,flo,fhi,fs⟩,⟨sn,sa,sb,sg⟩,⟨cn,ca,cb,cs,ct⟩⟩),.box (.agg [.str [],.slice 0 [] .full,.slice 0 [] .full,.slice 0 [] .full])]).e0 Ck;obtain⟨p,σ1,k2,⟨iR,iD,iC,ds,tS,tss,tG,tgs,tW,hO⟩,hl1,hk1⟩:=k2;have hp:=hO.p;subst hp;have b0:=hk1 0 Ck;have b1:=hk1 1 Ck;have b2:=hk1 2 Ck;simp only[yBj,yBz]at b0 b1 b2;have k4:=(aOI U2 GI GJ on iR rs.length iD dd.length iC cc.length (σ1.set 0 (.box (.agg [.str on,Go.Kz.hd 6 iR rs.length,Go.Kz.hd 5 iD dd.length,Go.Kz.hd 5 iC cc.length]))) kd dv ix wy nm rn rt fn sn cn ra rb rf flo fhi sa sb ca cb cs fp ct (sz 1 wd) (sz 4 fs) (sz 3 sg) (wd.map i64.aB) (fs.map Em.stop.aB) (sg.map Em.eZ.aB) k3).e0 (λe=>by
  have:0<σ1.length:=(yA.1 b0).1;have h:=yAL List.length e;rw[yAD,yAO]at h;omega)
 obtain⟨_,σ2,k4,rfl,L2,bO⟩:=k4;obtain⟨hR,hhR⟩:=gn (Go.Kz.hd 6 iR rs.length);obtain⟨hD,hhD⟩:=gn (Go.Kz.hd 5 iD dd.length);obtain⟨hC,hhC⟩:=gn (Go.Kz.hd 5 iC cc.length);have pR:hR.plain=true:=Da;have pD:hD.plain=true:=Db;have pC:hC.plain=true:=Dc;have cR:hR.cells=[hR]:=Ee;have cD:hD.cells=[hD]:=Ef;have cC:hC.cells=[hC]:=Eg;unfold PD.plain at pR pD pC;unfold PD.cells at cR cD cC;simp only[hhR,hhD,hhC]at hO k2 k4 bO;simp only[bZ,dT,aU]at k1 k2 k3 b0 b1 b2 hk hth hwy;simp only[bZ,dT,aU];obtain⟨w0,z0⟩:=yA.1 b0;obtain⟨w1,z1⟩:=yA.1 b1;obtain⟨w2,z2⟩:=yA.1 b2;have hS:(σ1.set 0 (.box (.agg [.str on,hR,hD,hC]))).length=σ1.length:=yAD;have g0:σ2[0]?=some (.box (.agg [.str on,hR,hD,hC])):=by rw[bO,yAg Cj,yAj w0]
 have g1:=b1;rw[<-yAd (l:=σ1) (i:=0) (a:=.box (.agg [.str on,hR,hD,hC])) Cj,<-yAg (l₂:=L2) Cj,<-bO]at g1;have g2:=b2;rw[<-yAd (l:=σ1) (i:=0) (a:=.box (.agg [.str on,hR,hD,hC])) Cj,<-yAg (l₂:=L2) Cj,<-bO]at g2;obtain⟨v0,y0⟩:=yA.1 g0;obtain⟨v1,y1⟩:=yA.1 g1;obtain⟨v2,y2⟩:=yA.1 g2;have uH:¬kd=13:=Cj;clear hU;refine aK.aG 132 h0 func42 (h:=?_);refine aC Br ?_;have hcl:dd.length<=1000000:=ho.2.1.1;rcases iF with rfl|rfl|rfl
 .by_cases i1:ix<0
  .exact bg
  by_cases i2:(dd.length:Int)+1<=ix
  .exact bf
  obtain⟨i,rfl⟩:∃i:Nat,ix=i:=⟨ix.toNat,Cj⟩;rw[yBp]at hokr ⊢;have n2:σ2≠[]:=λe=>Cy
  have fZ:σ1.length<=σ2.length:=Dw;have eL:iY σ2 3 ⟨on,rs,dd,cc⟩ (.agg [.str on,hR,hD,hC]) iR iD iC ds tS tss tG tgs tW:=by
   exact bz
  have k7:=(H7 0 i _ _ _ _ _ _ _ _ _ _ _ _ _ eL (yAQ Fb fZ) ho hwr).e0 n2;obtain⟨q7,σ3,k7,b,rfl,hbt,hbf⟩:=k7;cases b with
  |false=>
   exact au
  |true=>
  obtain⟨ow,qH,rQ,eH⟩:=hbt rfl;have u0:=(eH 0 Cj).trans g0;have u1:=(eH 1 Cj).trans g1;have u2:=(eH 2 Cj).trans g2;obtain⟨r0,x0⟩:=yA.1 u0;obtain⟨r1,x1⟩:=yA.1 u1;obtain⟨r2,x2⟩:=yA.1 u2;refine aC Bo ?_;obtain⟨l1,l2,l3⟩:=hIn _ _ _ _ _ _ _ _ _ _ _ _ _ qH (yAk _) (ZF hsh _ _);simp only[qW]at l1 l2 l3;rw[yAe]at l3;simp only[hhR,hhD,hhC]at l1 l2 l3;have n3:σ3≠[]:=λe=>Dv
  have k8:=(H8 ⟨fn,fp,flo,fhi,fs⟩ σ3 hx.2.1).e0 n3;obtain⟨c,rN,k8,hDV,mC,fV⟩:=k8;have uJ:rN≠[]:=λe=>Gi
  have sU:=(fV 0 r0).trans u0;have pP:=(fV 1 r1).trans u1;have CD:=(fV 2 r2).trans u2;have k5:=(H5 rN hD c dd 0 i ⟨fn,fp,flo,fhi,fs⟩ (hKeep _ _ _ _ l2 mC fV) hDV (.inl ⟨rfl,Cj⟩) uJ).e0 uJ;obtain⟨Q,bR,k5,lQ,jI,bU⟩:=k5;have s0:=bU 0 _ sU (λn v cs h=>Co);have s1:=bU 1 _ pP (λn v cs h=>Co);have s2:=bU 2 _ CD (λn v cs h=>Co);obtain⟨f0,d0⟩:=yA.1 s0;obtain⟨f1,d1⟩:=yA.1 s1;obtain⟨f2,d2⟩:=yA.1 s2;have pQ:=lQ.plain;have cQ:=lQ.cells;unfold PD.plain at pQ;unfold PD.cells at cQ;have o4:=pT (B:=[0,1]) h5 k5 jI (λid hi h=>by
   simp only[yBn,yBN,yBO]at hi;rcases hi with rfl|rfl
   .rw[s0,sU]
   .rw[s1,pP])
  have uK:=pT (B:=[0,1]) h8 k8 mC (λid _ h=>fV id h);simp only[nL,aU]at uK;refine Wp.D1 h8 DZ n3 [(2,0),(3,1)] [0,1] [some 0,some 1] Cp ⟨⟨_,rfl⟩,⟨_,rfl⟩,trivial⟩ Cp Ek ?_;refine oS Bu ?_;apply SQ.nil;have qZ:∀R:TypeId->Prop,(∀t,R t->t≠53)->aW R σ3 bR:=λR hR id t n v cs hr hy=>bU id _ ((fV id (yA.1 hy).1).trans hy) (λn v cs h=>Di)
  have kS:∀R,aW R bR (bR.set 0 (.box (.agg [.str on,hR,Q,hC]))):=λR=>aW.set s0 _
  have m1:=(l1.aM (qZ _ (λt h=>Df))).aM (kS _);have m2:=lQ.aM (kS _);have m3:=(l3.aM (qZ _ (λt h=>Df))).aM (kS _);have o6:=hokr ow;simp only[qW]at o6 ⊢;have n4:bR.set 0 (.box (.agg [.str on,hR,Q,hC]))≠[]:=λe=>by
   exact gu
  have k6:=(H6 _ on hR Q hC rs _ _ m1 m2 m3 o6 n4).e0 n4;obtain⟨q,eE,k6,rfl,L5,rfl⟩:=k6;obtain⟨e,he⟩:=gn (bT ⟨on,rs,bP dd 0 i ⟨fn,fp,flo,fhi,fs⟩,cc.map (zN 0 i)⟩);exact aj
 .by_cases i1:ix<0
  .exact bg
  by_cases i2:(dd.length:Int)<=ix
  .exact bf
  obtain⟨i,rfl⟩:∃i:Nat,ix=i:=⟨ix.toNat,Cj⟩;rw[yBp]at hokr ⊢;have n2:σ2≠[]:=λe=>Cy
  have fZ:σ1.length<=σ2.length:=Dw;have eL:iY σ2 3 ⟨on,rs,dd,cc⟩ (.agg [.str on,hR,hD,hC]) iR iD iC ds tS tss tG tgs tW:=by
   exact bz
  have k7:=(H7 1 i _ _ _ _ _ _ _ _ _ _ _ _ _ eL (yAQ Fb fZ) ho hwr).e0 n2;obtain⟨q7,σ3,k7,b,rfl,hbt,hbf⟩:=k7;cases b with
  |false=>
   exact au
  |true=>
  obtain⟨ow,qH,rQ,eH⟩:=hbt rfl;have u0:=(eH 0 Cj).trans g0;have u1:=(eH 1 Cj).trans g1;have u2:=(eH 2 Cj).trans g2;obtain⟨r0,x0⟩:=yA.1 u0;obtain⟨r1,x1⟩:=yA.1 u1;obtain⟨r2,x2⟩:=yA.1 u2;refine aC Bo ?_;obtain⟨l1,l2,l3⟩:=hIn _ _ _ _ _ _ _ _ _ _ _ _ _ qH (yAk _) (ZF hsh _ _);simp only[qW]at l1 l2 l3;rw[yAe]at l3;simp only[hhR,hhD,hhC]at l1 l2 l3;have n3:σ3≠[]:=λe=>Dv
  have k8:=(H8 ⟨fn,fp,flo,fhi,fs⟩ σ3 hx.2.1).e0 n3;obtain⟨c,rN,k8,hDV,mC,fV⟩:=k8;have uJ:rN≠[]:=λe=>Gi
  have sU:=(fV 0 r0).trans u0;have pP:=(fV 1 r1).trans u1;have CD:=(fV 2 r2).trans u2;have k5:=(H5 rN hD c dd 1 i ⟨fn,fp,flo,fhi,fs⟩ (hKeep _ _ _ _ l2 mC fV) hDV (.inr ⟨.inl rfl,Cj⟩) uJ).e0 uJ;obtain⟨Q,bR,k5,lQ,jI,bU⟩:=k5;have s0:=bU 0 _ sU (λn v cs h=>Co);have s1:=bU 1 _ pP (λn v cs h=>Co);have s2:=bU 2 _ CD (λn v cs h=>Co);obtain⟨f0,d0⟩:=yA.1 s0;obtain⟨f1,d1⟩:=yA.1 s1;obtain⟨f2,d2⟩:=yA.1 s2;have pQ:=lQ.plain;have cQ:=lQ.cells;unfold PD.plain at pQ;unfold PD.cells at cQ;have o4:=pT (B:=[0,1]) h5 k5 jI (λid hi h=>by
   simp only[yBn,yBN,yBO]at hi;rcases hi with rfl|rfl
   .rw[s0,sU]
   .rw[s1,pP])
  have uK:=pT (B:=[0,1]) h8 k8 mC (λid _ h=>fV id h);simp only[nL,aU]at uK;refine Wp.D1 h8 DZ n3 [(2,0),(3,1)] [0,1] [some 0,some 1] Cp ⟨⟨_,rfl⟩,⟨_,rfl⟩,trivial⟩ Cp Ek ?_;refine oS Bu ?_;apply SQ.nil;have qZ:∀R:TypeId->Prop,(∀t,R t->t≠53)->aW R σ3 bR:=λR hR id t n v cs hr hy=>bU id _ ((fV id (yA.1 hy).1).trans hy) (λn v cs h=>Di)
  have kS:∀R,aW R bR (bR.set 0 (.box (.agg [.str on,hR,Q,hC]))):=λR=>aW.set s0 _
  have m1:=(l1.aM (qZ _ (λt h=>Df))).aM (kS _);have m2:=lQ.aM (kS _);have m3:=(l3.aM (qZ _ (λt h=>Df))).aM (kS _);have o6:=hokr ow;simp only[qW]at o6 ⊢;have n4:bR.set 0 (.box (.agg [.str on,hR,Q,hC]))≠[]:=λe=>by
   exact gu
  have k6:=(H6 _ on hR Q hC rs _ _ m1 m2 m3 o6 n4).e0 n4;obtain⟨q,eE,k6,rfl,L5,rfl⟩:=k6;obtain⟨e,he⟩:=gn (bT ⟨on,rs,bP dd 1 i ⟨fn,fp,flo,fhi,fs⟩,cc.map (zN 1 i)⟩);exact aj
 .by_cases i1:ix<0
  .exact bg
  by_cases i2:(dd.length:Int)<=ix
  .exact bf
  obtain⟨i,rfl⟩:∃i:Nat,ix=i:=⟨ix.toNat,Cj⟩;rw[yBp]at hokr ⊢;have n2:σ2≠[]:=λe=>Cy
  have fZ:σ1.length<=σ2.length:=Dw;have eL:iY σ2 3 ⟨on,rs,dd,cc⟩ (.agg [.str on,hR,hD,hC]) iR iD iC ds tS tss tG tgs tW:=by
   exact bz
  have k7:=(H7 2 i _ _ _ _ _ _ _ _ _ _ _ _ _ eL (yAQ Fb fZ) ho hwr).e0 n2;obtain⟨q7,σ3,k7,b,rfl,hbt,hbf⟩:=k7;cases b with
  |false=>
   exact au
  |true=>
  obtain⟨ow,qH,rQ,eH⟩:=hbt rfl;have u0:=(eH 0 Cj).trans g0;have u1:=(eH 1 Cj).trans g1;have u2:=(eH 2 Cj).trans g2;obtain⟨r0,x0⟩:=yA.1 u0;obtain⟨r1,x1⟩:=yA.1 u1;obtain⟨r2,x2⟩:=yA.1 u2;refine aC Bo ?_;obtain⟨l1,l2,l3⟩:=hIn _ _ _ _ _ _ _ _ _ _ _ _ _ qH (yAk _) (ZF hsh _ _);simp only[qW]at l1 l2 l3;rw[yAe]at l3;simp only[hhR,hhD,hhC]at l1 l2 l3;have n3:σ3≠[]:=λe=>Dv
  have k8:=(H8 ⟨fn,fp,flo,fhi,fs⟩ σ3 hx.2.1).e0 n3;obtain⟨c,rN,k8,hDV,mC,fV⟩:=k8;have uJ:rN≠[]:=λe=>Gi
  have sU:=(fV 0 r0).trans u0;have pP:=(fV 1 r1).trans u1;have CD:=(fV 2 r2).trans u2;have k5:=(H5 rN hD c dd 2 i ⟨fn,fp,flo,fhi,fs⟩ (hKeep _ _ _ _ l2 mC fV) hDV (.inr ⟨.inr rfl,Cj⟩) uJ).e0 uJ;obtain⟨Q,bR,k5,lQ,jI,bU⟩:=k5;have s0:=bU 0 _ sU (λn v cs h=>Co);have s1:=bU 1 _ pP (λn v cs h=>Co);have s2:=bU 2 _ CD (λn v cs h=>Co);obtain⟨f0,d0⟩:=yA.1 s0;obtain⟨f1,d1⟩:=yA.1 s1;obtain⟨f2,d2⟩:=yA.1 s2;have pQ:=lQ.plain;have cQ:=lQ.cells;unfold PD.plain at pQ;unfold PD.cells at cQ;have o4:=pT (B:=[0,1]) h5 k5 jI (λid hi h=>by
   simp only[yBn,yBN,yBO]at hi;rcases hi with rfl|rfl
   .rw[s0,sU]
   .rw[s1,pP])
  have uK:=pT (B:=[0,1]) h8 k8 mC (λid _ h=>fV id h);simp only[nL,aU]at uK;refine Wp.D1 h8 DZ n3 [(2,0),(3,1)] [0,1] [some 0,some 1] Cp ⟨⟨_,rfl⟩,⟨_,rfl⟩,trivial⟩ Cp Ek ?_;refine oS Bu ?_;apply SQ.nil;have qZ:∀R:TypeId->Prop,(∀t,R t->t≠53)->aW R σ3 bR:=λR hR id t n v cs hr hy=>bU id _ ((fV id (yA.1 hy).1).trans hy) (λn v cs h=>Di)
  have kS:∀R,aW R bR (bR.set 0 (.box (.agg [.str on,hR,Q,hC]))):=λR=>aW.set s0 _
  have m1:=(l1.aM (qZ _ (λt h=>Df))).aM (kS _);have m2:=lQ.aM (kS _);have m3:=(l3.aM (qZ _ (λt h=>Df))).aM (kS _);have o6:=hokr ow;simp only[qW]at o6 ⊢;have n4:bR.set 0 (.box (.agg [.str on,hR,Q,hC]))≠[]:=λe=>by
   exact gu
  have k6:=(H6 _ on hR Q hC rs _ _ m1 m2 m3 o6 n4).e0 n4;obtain⟨q,eE,k6,rfl,L5,rfl⟩:=k6;obtain⟨e,he⟩:=gn (bT ⟨on,rs,bP dd 2 i ⟨fn,fp,flo,fhi,fs⟩,cc.map (zN 2 i)⟩);exact aj
end
def eV{α β:Type}(P:α->β->Prop):List α->List β->Prop
 | [],[]=>True
 |a::l,b::m=>P a b/\eV P l m
 |_,_=>False
theorem eV.len{α β:Type}{P:α->β->Prop}:∀ {l:List α} {m:List β},eV P l m->l.length=m.length
 | [],[],_=>rfl
 |_::_,_::_,h=>by rw[yAT,yAT,h.2.len]
 | [],_::_,h=>h.elim
 |_::_,[],h=>h.elim
theorem eV.get{α β:Type}{P:α->β->Prop}:∀ {l:List α} {m:List β},eV P l m->∀i (h:i<l.length) (k:i<m.length),P l[i] m[i]
 | [],[],_,i,h,_=>absurd h (yAZ i)
 |_::_,_::_,h,0,_,_=>h.1
 |_::_,_::_,h,i+1,a,b=>h.2.get i Fj Fk
 | [],_::_,h,_,_,_=>h.elim
 |_::_,[],h,_,_,_=>h.elim
theorem eV.of{α β:Type}{P:α->β->Prop}:∀ {l:List α} {m:List β},l.length=m.length->(∀i (h:i<l.length) (k:i<m.length),P l[i] m[i])->eV P l m
 | [],[],_,_=>trivial
 |_::_,_::_,h,k=>⟨k 0 (yDN _) (yDN _),eV.of Dl λi a b=>k (i+1) (Nat.succ_lt_succ a) (Nat.succ_lt_succ b)⟩
 | [],_::_,h,_=>Ea
 |_::_,[],h,_=>Ea
theorem eV.imp{α β:Type}{P Q:α->β->Prop}(hi:∀a b,P a b->Q a b):∀ {l:List α} {m:List β},eV P l m->eV Q l m
 | [],[],_=>trivial
 |_::_,_::_,h=>⟨hi _ _ h.1,h.2.imp hi⟩
 | [],_::_,h=>h.elim
 |_::_,[],h=>h.elim
theorem eV.app{α β:Type}{P:α->β->Prop}:∀ {l:List α} {m:List β} {l':List α} {m':List β},eV P l m->eV P l' m'->eV P (l++l') (m++m')
 | [],[],_,_,_,k=>k
 |_::_,_::_,_,_,h,k=>⟨h.1,h.2.app k⟩
 | [],_::_,_,_,h,_=>h.elim
 |_::_,[],_,_,h,_=>h.elim
theorem eV.take{α β:Type}{P:α->β->Prop}:∀ {l:List α} {m:List β} (i:Nat),eV P l m->eV P (l.take i) (m.take i)
 |_,_,0,_=>by simp[eV]
 | [],[],_+1,_=>by simp[eV]
 |_::_,_::_,i+1,h=>⟨h.1,h.2.take i⟩
 | [],_::_,_,h=>h.elim
 |_::_,[],_,h=>h.elim
theorem eV.drop{α β:Type}{P:α->β->Prop}:∀ {l:List α} {m:List β} (i:Nat),eV P l m->eV P (l.drop i) (m.drop i)
 |_,_,0,h=>Dl
 | [],[],_+1,_=>by simp[eV]
 |_::_,_::_,i+1,h=>by simpa using h.2.drop i
 | [],_::_,_,h=>h.elim
 |_::_,[],_,h=>h.elim
theorem eV.set{α β:Type}{P:α->β->Prop}{x:α}{y:β}(hx:P x y):∀ {l:List α} {m:List β} (i:Nat),eV P l m->eV P (l.set i x) (m.set i y)
 | [],[],_,_=>trivial
 |_::_,_::_,0,h=>⟨hx,h.2⟩
 |_::_,_::_,i+1,h=>⟨h.1,h.2.set hx i⟩
 | [],_::_,_,h=>h.elim
 |_::_,[],_,h=>h.elim
theorem eV.bP{α β:Type}{P:α->β->Prop}{l:List α}{m:List β}{x:α}{y:β}(h:eV P l m)(way:Int)(i:Nat)(hx:way≠1->P x y):eV P (bP l way i x) (bP m way i y):=by
 unfold Go.Kz.bP
 by_cases h0:way=0
 .rw[yAJ h0,yAJ h0];exact(h.take i).app ⟨hx Cj,h.drop i⟩
 .rw[yAI h0,yAI h0]
  by_cases h1:way=1
  .rw[yAJ h1,yAJ h1];exact(h.take i).app (h.drop (i+1))
  .rw[yAI h1,yAI h1];exact h.set (hx h1) i
theorem RX{sz:Nat}:∀(gs:List (List PD)) (i:Nat),(∀g∈gs,g.length=sz)->gs.flatten.take (i*sz)=(gs.take i).flatten
 |_,0,_=>Ck
 | [],_+1,_=>Ck
 |g::gs,i+1,h=>by
  have e1:(i+1)*sz=g.length+i*sz:=by rw[yBV,h g (yBf ..)];omega
  rw[yBB,e1,List.take_length_add_append,RX gs i λq hq=>h q (yCq _ hq)];rfl
theorem RY{sz:Nat}:∀(gs:List (List PD)) (i:Nat),(∀g∈gs,g.length=sz)->gs.flatten.drop (i*sz)=(gs.drop i).flatten
 |_,0,_=>Ck
 | [],_+1,_=>Ck
 |g::gs,i+1,h=>by
  have e1:(i+1)*sz=g.length+i*sz:=by rw[yBV,h g (yBf ..)];omega
  rw[yBB,e1,yEh,RY gs i λq hq=>h q (yCq _ hq)];rfl
theorem aOH{α:Type}{l:List α}{way:Int}{i:Nat}{x y:α}(h:y∈bP l way i x):y∈l\/(way≠1/\y=x):=by
 unfold bP at h;split at h
 .rename_i h0;rcases yBh.1 h with h|h
  .exact .inl (yAy h)
  .rcases yBn.1 h with h|h
   .exact .inr ⟨Cj,h⟩
   .exact .inl (yBd h)
 .split at h
  .exact yb
  .rename_i h1;rcases yCM h with h|h
   .exact .inl h
   .exact .inr ⟨h1,h⟩
theorem vM.up{α:Type}{em:Em α}{σ:Jp}{L L':Nat}{g:Jq}{x:α}(h:vM em σ L g x)(hl:L<=L'):vM em σ L' g x:=λK=>by
 have h1:=h (K+(L' - L));rw[show K+(L' - L)+L=K+L' by omega]at h1;exact h1
theorem aW.mono{R R':TypeId->Prop}{σ σ':Jp}(h:aW R' σ σ')(hr:∀t,R t->R' t):aW R σ σ':=λid t n v cs ht=>h id t n v cs (hr t ht)
theorem cO.aO{α:Type}{em:Em α}{sz:Nat}{R:TypeId->Prop}{σ:Jp}{id e v:Nat}{gs:Jn}{l:List α}(eQ:σ[id]?=some (.row e sz v gs.flatten))(he:R e)(h1:sz≠1)(hl:∀g∈gs,g.length=sz)(hn:gs.length=l.length)
  (h:∀σ',aW R σ σ'->∀i (hi:i<l.length),vM em σ' 7 (gs[i]' Cj) l[i]):cO em sz R σ (.aO id v 0 l.length sz) l:=
 ⟨rfl,rfl,λσ' hk K=>RM (L:=7) (hk _ _ _ _ _ he eQ) h1 hl Cj l rfl (λi hi=>h σ' hk i hi) K⟩
theorem cO.nil{α:Type}{em:Em α}{sz:Nat}{R:TypeId->Prop}{σ:Jp}:cO em sz R σ (.slice 0 [] .full) ([]:List α):=⟨rfl,rfl,λσ' _ K=>MO sz 0 σ' (K+6) .full⟩
def lN{α:Type}(em:Em α)(N:Nat)(R:TypeId->Prop)(σ:List aA)(g:List PD)(x:α):Prop:=∀σ',aW R σ σ'->vM em σ' N g x
theorem lN.aM{α:Type}{em:Em α}{N:Nat}{R:TypeId->Prop}{σ σ':Jp}{g:Jq}{x:α}(h:lN em N R σ g x)(k:aW R σ σ'):lN em N R σ' g x:=λτ eC=>h τ (k.trans eC)
def CE{α:Type}(em:Em α)(sz:Nat)(e:TypeId)(R:TypeId->Prop)(σ:List aA)(P:PD)(l:List α):Prop:=∃id gs,P=hd sz id l.length/\l.length<=200/\(∀g∈gs,g.length=sz)/\(0<l.length->σ[id]?=some (.row e sz 0 (List.flatten gs)))/\eV (lN em 7 R σ) gs l
theorem CE.aM{α:Type}{em:Em α}{sz:Nat}{e:TypeId}{R:TypeId->Prop}{σ σ':Jp}{P:PD}{l:List α}(h:CE em sz e R σ P l)(k:aW (λt=>t=e\/R t) σ σ'):CE em sz e R σ' P l:=by
 obtain⟨id,gs,h1,h2,h3,h4,h5⟩:=h;exact⟨id,gs,h1,h2,h3,λhp=>k _ _ _ _ _ (.inl rfl) (h4 hp),h5.imp λa b h=>h.aM (k.mono λ_=>.inr)⟩
theorem CE.oI{α:Type}{em:Em α}{sz:Nat}{e:TypeId}{R R':TypeId->Prop}{σ:Jp}{P:PD}{l:List α}(h:CE em sz e R σ P l)(h1:sz≠1)(hr:∀t,t=e\/R t->R' t):cO em sz R' σ P l:=by
 obtain⟨id,gs,rfl,h2,h3,h4,h5⟩:=h
 by_cases h0:l.length=0
 .obtain rfl:=yAf h0;exact cO.nil
 .rw[qF Cj];exact cO.aO (h4 Cj) (hr _ (.inl rfl)) h1 h3 h5.len λσ' hk i hi=>h5.get i (by rw[h5.len];exact hi) hi σ' (hk.mono λt ht=>hr t (.inr ht))
def gI(e k:Nat):Nat->List PD->List aA->Option (PD×List aA):=Go.Kz.CG (zU e k) (Go.Kz.CG (xU e k) (B7 e k))
theorem RQ{e k:Nat}(hk:1<k){n id i:Nat}{σ:Jp}{gs:Jn}{y:PD}(hn:n<=200)(hg:∀g∈gs,g.length=k)(hl:gs.length=n)(hr:0<n->σ[id]?=some (.row e k 0 gs.flatten))(hi:i<=n)(hy:y.cells.length=k) :
  ∃id' v σ1,gI e k 0 [hd k id n,.int .i64 i,.slice k [y] .full] σ=some (.aO id' v 0 (n+1) k,σ1)/\σ1[id']?=some (.row e k v (bP gs 0 i y.cells).flatten)/\σ.length<=σ1.length/\∀(j:Nat) (z:aA),σ[j]?=some z->(0<n->j≠id)->σ1[j]?=some z:=by
 have hls:(bP gs 0 i y.cells).flatten=gs.flatten.take (i*k)++y.cells++gs.flatten.drop (i*k):=by
  unfold bP;rw[yAJ rfl,RX gs i hg,RY gs i hg];simp
 have hlen:=lF gs hg;rw[hl]at hlen
 by_cases h0:n=0
 .subst h0;have:i=0:=Cj;subst this;refine⟨σ.length,0,σ++[.row e k 0 y.cells],?_,?_,Ck,λj z h _=>bG h⟩
  .unfold gI hd CG;rw[yAJ rfl];have a1:zU e k 0 [.slice 0 [] .full,.int .i64 ((0:Nat):Int),.slice k [y] .full] σ=none:=rfl;have a2:xU e k 0 [.slice 0 [] .full,.int .i64 ((0:Nat):Int),.slice k [y] .full] σ=none:=rfl;rw[a1,a2];unfold B7;simp only[Int.natCast_zero,hy,yBy,yAK]
  .rw[hls,yAf hl];simp
 .have hrr:=hr Cj;obtain⟨r1,r2⟩:=yA.1 hrr;have rL:hd k id n=.aO id 0 0 n k:=qF Cj
  by_cases hin:i<n
  .refine⟨id,1,σ.set id (.row e k 1 (gs.flatten.take (i*k)++y.cells++gs.flatten.drop (i*k))),?_,?_,Ck,λj z h hz=>?_⟩
   .unfold gI CG;have a1:zU e k 0 [hd k id n,.int .i64 i,.slice k [y] .full] σ=some (.aO id 1 0 (n+1) k,σ.set id (.row e k 1 (gs.flatten.take (i*k)++y.cells++gs.flatten.drop (i*k)))):=by
     rw[rL];unfold zU;simp only[hrr];rw[yAJ (by simp[hlen,hin,hn];omega)];simp
    rw[a1]
   .rw[hls];exact yAj r1
   .exact vn
  .have:i=n:=by omega
   subst this;refine⟨id,1,σ.set id (.row e k 1 (gs.flatten++y.cells)),?_,?_,Ck,λj z h hz=>?_⟩
   .unfold gI CG;have a1:zU e k 0 [hd k id i,.int .i64 i,.slice k [y] .full] σ=none:=by
     rw[rL];unfold zU;simp only[hrr];rw[yAI Ck]
    have a2:xU e k 0 [hd k id i,.int .i64 i,.slice k [y] .full] σ=some (.aO id 1 0 (i+1) k,σ.set id (.row e k 1 (gs.flatten++y.cells))):=by
     rw[rL];unfold xU;simp only[hrr];rw[yAJ (by refine⟨?_,?_,?_,?_,?_,?_,?_,?_,?_,?_⟩<;>first|exact trivial|rfl|exact hy|exact hlen|omega)]
    rw[a1,a2]
   .rw[hls,yAz Cj,yDl Cj,yAl];exact yAj r1
   .exact vn
theorem RS{e k:Nat}(hk:1<k){n id i:Nat}{σ:Jp}{gs:Jn}(y:List PD)(hg:∀g∈gs,g.length=k)(hl:gs.length=n)(hr:σ[id]?=some (.row e k 0 gs.flatten))(hi:i<n) :
  ∃σ1,uG e k 0 [hd k id n,.int .i64 i,.int .i64 ((i:Int)+1)] σ=some (.aO id 1 0 (n-1) k,σ1)/\σ1[id]?=some (.row e k 1 (bP gs 1 i y).flatten)/\σ.length<=σ1.length/\∀(j:Nat) (z:aA),σ[j]?=some z->(0<n->j≠id)->σ1[j]?=some z:=by
 have hls:(bP gs 1 i y).flatten=gs.flatten.take (i*k)++gs.flatten.drop ((i+1)*k):=by
  unfold bP;rw[yAI Cn,yAJ rfl,RX gs i hg,RY gs (i+1) hg];simp
 have hlen:=lF gs hg;rw[hl]at hlen;obtain⟨r1,r2⟩:=yA.1 hr;refine⟨σ.set id (.row e k 1 (gs.flatten.take (i*k)++gs.flatten.drop ((i+1)*k))),?_,?_,Ck,λj z h hz=>?_⟩
 .rw[qF Cj];unfold uG;simp only[hr];rw[yAJ (by simp[hlen,hi];omega)];simp
 .rw[hls];exact yAj r1
 .exact vn
theorem RU{k:Nat}{gs:Jn}{y:Jq}(hg:∀g∈gs,g.length=k)(hy:y.length=k)(i:Nat)(hi:i<gs.length):dF gs.flatten (i*k) y=(bP gs 2 i y).flatten:=by
 have h:=wY (sz:=k) (new:=y) (j:=0) Cj gs i hi hg;have hgi:=hg _ (yAm hi);rw[yBm]at h;rw[h];unfold bP;rw[yAI Cn,yAI Cn]
 congr 2
 unfold dF;simp[hy,<-hgi]
theorem cO.row{α:Type}{em:Em α}{k:Nat}{e v id:Nat}{R R':TypeId->Prop}{σ σ':Jp}{gs:Jn}{l:List α}(hk:1<k)(eQ:σ'[id]?=some (.row e k v gs.flatten))(he:R' e)(hr:∀t,R t->R' t)(hK:aW R σ σ')(hg:∀g∈gs,g.length=k)(h:eV (lN em 7 R σ) gs l):cO em k R' σ' (.aO id v 0 l.length k) l:=
 cO.aO eQ he Cj hg h.len λτ eC i hi=>h.get i (by rw[h.len];exact hi) hi τ (hK.trans (eC.mono hr))
theorem w6{e k n id:Nat}{cs:Jq}{σ σ1:Jp}(hr:0<n->σ[id]?=some (.row e k 0 cs))(h:∀(j:Nat) (z:aA),σ[j]?=some z->(0<n->j≠id)->σ1[j]?=some z):∀(j:Nat) (z:aA),σ[j]?=some z->(∀n v cs,z≠.row e n v cs)->σ1[j]?=some z:=λj z hz ht=>h j z hz λhp e=>by
 subst e;rw[hr hp]at hz;exact ht _ _ _ (yAR hz).symm
theorem RW{α:Type}{em:Em α}{N k:Nat}{e v id:Nat}{R R':TypeId->Prop}{σ σ':Jp}{gs:Jn}{l:List α}(hk:1<k)(eQ:σ'[id]?=some (.row e k v gs.flatten))(he:R' e)(hr:∀t,R t->R' t)(hK:aW R σ σ')(hg:∀g∈gs,g.length=k)(h:eV (lN em N R σ) gs l) :
  ∀τ,aW R' σ' τ->∀K,(bF τ (K+(N+1)) (.aO id v 0 l.length k)).strip=(em.list k).aB l/\(bF τ (K+(N+1)) (.aO id v 0 l.length k)).bY=true:=λτ eC K=>
 RM (L:=N) (eC _ _ _ _ _ he eQ) Cj hg (by rw[h.len];exact yAk _) l rfl (λi hi=>h.get i (by rw[h.len];exact hi) hi τ (hK.trans (eC.mono hr))) K
theorem JA{e:TypeId}{R:TypeId->Prop}(hR:∀t,R t->t≠e){σ σ':Jp}(h:∀(j:Nat) (z:aA),σ[j]?=some z->(∀n v cs,z≠.row e n v cs)->σ'[j]?=some z):aW R σ σ':=λid t n v cs ht hy=>h id _ hy λn v cs h=>by cases h;exact hR _ ht rfl
theorem RR{α:Type}(l:List α)(i:Nat)(x:α)(hi:i<=l.length):(bP l 0 i x).length=l.length+1:=by
 unfold bP;rw[yAJ rfl,yAa,yAT,yAt,yBa];omega
theorem RT{α:Type}(l:List α)(i:Nat)(x:α)(hi:i<l.length):(bP l 1 i x).length=l.length-1:=by
 unfold bP;rw[yAI Cn,yAJ rfl,yAa,yAt,yBa];omega
theorem RV{α:Type}(l:List α)(i:Nat)(x:α):(bP l 2 i x).length=l.length:=by
 unfold bP;rw[yAI Cn,yAI Cn,yAD]
theorem rP{k:Nat}{gs:Jn}{way:Int}{i:Nat}{y:Jq}(hg:∀g∈gs,g.length=k)(hy:y.length=k):∀g∈bP gs way i y,g.length=k:=λg h=>by
 rcases aOH h with h | ⟨_,rfl⟩
 .exact hg g h
 .exact hy
section
abbrev oJ:TypeId->Prop:=λt=>t=92\/t=89
abbrev j8:TypeId->Prop:=λt=>t=56\/t=92\/t=89
abbrev o5:TypeId->Prop:=λ_=>False
theorem RJ:w5 Em.aL:=λd=>by
 rw[oB];refine .agg _ λc hc=>?_
 simp only[yBn,yBN,yBO]at hc;rcases hc with rfl|rfl|rfl|rfl|rfl|rfl
 .exact .str _
 .exact .str _
 .exact iy
 .exact iy
 .exact iy
 .exact RL aOq 1 _
theorem Clean.calm{c:PD}(h:Clean c):Calm c:=λσ K=>⟨by rw[h.bF],by rw[h.bF];exact h.bY⟩
theorem Clean.cells{cs:Jq}(h:Clean (.agg cs)):∀c∈cs,Clean c:=by
 cases h with
 |agg _ h=>exact h
theorem zZ{α:Type}{em:Em α}(h:w5 em)(x:α){g:Jq}(hg:em.aB x=.agg g)(σ:List aA):vM em σ 1 g x:=by
 have hc:=h x;rw[hg]at hc;exact aOr (λc hm=>(hc.cells c hm).calm) (by rw[<-hg];exact em.str x) σ 0
def lO{α:Type}(em:Em α)(sz:Nat)(σ:List aA)(L:Nat)(P:PD)(l:List α):Prop:=∀K,(bF σ (K+L) P).strip=(em.list sz).aB l/\(bF σ (K+L) P).bY=true
theorem lO.hd{α:Type}{em:Em α}{sz e id L:Nat}{σ:Jp}{gs:Jn}{l:List α}(h1:sz≠1)(hr:0<l.length->σ[id]?=some (.row e sz 0 gs.flatten))(hg:0<l.length->∀g∈gs,g.length=sz)(hl:0<l.length->gs.length=l.length)(hL:1<=L)
  (h:∀i (hi:i<l.length) (hi2:i<gs.length),vM em σ L gs[i] l[i]):lO em sz σ (L+1) (Go.Kz.hd sz id l.length) l:=λK=>by
 by_cases h0:l.length=0
 .obtain rfl:=yAf h0;obtain⟨M,rfl⟩:∃M,L=M+1:=⟨L-1,Cj⟩;exact MO sz 0 σ (K+M) .full
 .rw[qF Cj];exact nq
theorem aFe{σ:Jp}{L:Nat}{P:PD}{g:jA}(h:lO Em.draw 2 σ (L+1) P g.aQ):vM Em.eZ σ (L+1) [.int .i64 g.lo,.int .i64 g.hi,P] g:=λK=>by
 obtain⟨h1,h2⟩:=h K
 constructor
 .show PD.agg [.int .i64 g.lo,.int .i64 g.hi,PD.strip (bF σ (K+(L+1)) P)]=_
  rw[h1,KH]
 .show(true&&(true&&(PD.bY (bF σ (K+(L+1)) P)&&true)))=true
  rw[h2];rfl
theorem RN{σ:Jp}{L:Nat}{P:PD}{s:cJ}(h:lO Em.eZ 3 σ (L+1) P s.aN):vM Em.stop σ (L+1) [.str s.name,.int .i64 s.num,.int .i64 s.den,P] s:=λK=>by
 obtain⟨h1,h2⟩:=h K
 constructor
 .show PD.agg [.str s.name,.int .i64 s.num,.int .i64 s.den,PD.strip (bF σ (K+(L+1)) P)]=_
  rw[h1,pZ]
 .show(true&&(true&&(true&&(PD.bY (bF σ (K+(L+1)) P)&&true))))=true
  rw[h2];rfl
theorem RI{σ:Jp}{L:Nat}{P:PD}{d:bI}(h:lO Em.stop 4 σ (L+1) P d.stops):vM Em.div σ (L+1) [.str d.name,.bool d.dO,.int .i64 d.low,.int .i64 d.high,P] d:=λK=>by
 obtain⟨h1,h2⟩:=h K
 constructor
 .show PD.agg [.str d.name,.bool d.dO,.int .i64 d.low,.int .i64 d.high,PD.strip (bF σ (K+(L+1)) P)]=_
  rw[h1,nL]
 .show(true&&(true&&(true&&(true&&(PD.bY (bF σ (K+(L+1)) P)&&true)))))=true
  rw[h2];rfl
theorem aOs{σ:Jp}{lo:Nat}{ds:List dL}{id:Nat}(h:D0 σ lo ds id):lO Em.draw 2 σ 2 (Go.Kz.hd 2 id ds.length) ds:=by
 refine lO.hd (L:=1) (gs:=ds.map λw=>[PD.int .i64 w.aL,.int .i64 w.shift]) Cn (λhp=>(h hp).2) (λ_ g hg=>by obtain⟨w,_,rfl⟩:=yAw.1 hg;rfl) (λ_=>yAe ..) (yAk _) λi hi hi2=>?_
 rw[yBq];exact zZ ZE _ EY σ
theorem aOt{α:Type}{l:List α}{x:α}(h:x∈l):∃i,∃hi:i<l.length,l[i]=x:=by
 obtain⟨i,hi,e⟩:=yBU h;exact⟨i,hi,e⟩
theorem uB{n sz:Nat}{gs:Jn}(hl:gs.length=n)(h:∀i,i<n->∃g,gs[i]?=some g/\g.length=sz):∀g∈gs,g.length=sz:=λg hg=>by
 obtain⟨i,hi,rfl⟩:=aOt hg;obtain⟨q,h1,h2⟩:=h i Cj;rw[yAh hi,yAb]at h1;rw[h1];exact h2
theorem aFf{σ:Jp}{lo:Nat}{s:cJ}{p:PD}{iG:Nat}{gs:Jn}{iW:Nat->Nat}(h:rO σ lo s p iG gs iW):lO Em.eZ 3 σ 3 (Go.Kz.hd 3 iG s.aN.length) s.aN:=by
 refine lO.hd (L:=2) (gs:=gs) Cn (λhp=>(h.row hp).2) (λ_=>uB h.len λi hi=>⟨_,(h.at_ i hi).1,rfl⟩) (λ_=>h.len) Cj λi hi hi2=>?_
 have h1:=h.at_ i hi;have e:=(yA.1 h1.1).2;rw[e];exact aFe (L:=1) (aOs h1.2)
theorem aOu{σ:Jp}{lo:Nat}{d:bI}{p:PD}{iS:Nat}{ss:Jn}{tG:Nat->Nat}{tgs:Jm}{tW:Nat->Nat->Nat}(h:mZ σ lo d p iS ss tG tgs tW):lO Em.stop 4 σ 4 (Go.Kz.hd 4 iS d.stops.length) d.stops:=by
 refine lO.hd (L:=3) (gs:=ss) Cn (λhp=>(h.row hp).2) (λ_=>uB h.len λi hi=>⟨_,(h.at_ i hi).1,rfl⟩) (λ_=>h.len) Cj λi hi hi2=>?_
 have h1:=h.at_ i hi;have e:=(yA.1 h1.1).2;rw[e];exact RN (L:=2) (aFf h1.2)
theorem rO.kept{σ σ':Jp}{lo:Nat}{s:cJ}{p:PD}{iG:Nat}{gs:Jn}{iW:Nat->Nat}(h:rO σ lo s p iG gs iW)(k:aW oJ σ σ'):rO σ' lo s p iG gs iW:=by
 obtain⟨h1,h2,h3,h4,h5⟩:=h;exact⟨h1,h2,λhp=>⟨(h3 hp).1,k _ _ _ _ _ (.inl rfl) (h3 hp).2⟩,λg h=>⟨(h4 g h).1,λhp=>⟨((h4 g h).2 hp).1,k _ _ _ _ _ (.inr rfl) ((h4 g h).2 hp).2⟩⟩,h5⟩
theorem mZ.kept{σ σ':Jp}{lo:Nat}{d:bI}{p:PD}{iS:Nat}{ss:Jn}{tG:Nat->Nat}{tgs:Jm}{tW:Nat->Nat->Nat}(h:mZ σ lo d p iS ss tG tgs tW)(k:aW j8 σ σ'):mZ σ' lo d p iS ss tG tgs tW:=by
 obtain⟨h1,h2,h3,h4,h5⟩:=h;exact⟨h1,h2,λhp=>⟨(h3 hp).1,k _ _ _ _ _ (.inl rfl) (h3 hp).2⟩,λs h=>⟨(h4 s h).1,(h4 s h).2.kept (k.mono λ_=>.inr)⟩,h5⟩
def DV(σ:List aA)(c:PD)(d:bI):Prop:=∃h,c=.agg [.str d.name,.bool d.dO,.int .i64 d.low,.int .i64 d.high,h]/\(h=.slice 0 [] .full\/∃id m,h=.aO id 0 0 m 4)/\lN Em.div 7 j8 σ [.str d.name,.bool d.dO,.int .i64 d.low,.int .i64 d.high,h] d
def SV(σ:List aA)(c:PD)(d:cJ):Prop:=∃h,c=.agg [.str d.name,.int .i64 d.num,.int .i64 d.den,h]/\(h=.slice 0 [] .full\/∃id m,h=.aO id 0 0 m 3)/\lN Em.stop 6 oJ σ [.str d.name,.int .i64 d.num,.int .i64 d.den,h] d
theorem aFg(k id n:Nat):Go.Kz.hd k id n=.slice 0 [] .full\/∃i m,Go.Kz.hd k id n=.aO i 0 0 m k:=by
 unfold Go.Kz.hd;split
 .exact .inl rfl
 .exact .inr ⟨_,_,rfl⟩
theorem mZ.wS{σ:Jp}{lo:Nat}{d:bI}{p:PD}{iS:Nat}{ss:Jn}{tG:Nat->Nat}{tgs:Jm}{tW:Nat->Nat->Nat}(h:mZ σ lo d p iS ss tG tgs tW):lN Em.div 7 j8 σ [.str d.name,.bool d.dO,.int .i64 d.low,.int .i64 d.high,Go.Kz.hd 4 iS d.stops.length] d:=λσ' k=>(RI (L:=3) (aOu (h.kept k))).up Cj
theorem rO.wS{σ:Jp}{lo:Nat}{s:cJ}{p:PD}{iG:Nat}{gs:Jn}{iW:Nat->Nat}(h:rO σ lo s p iG gs iW):lN Em.stop 6 oJ σ [.str s.name,.int .i64 s.num,.int .i64 s.den,Go.Kz.hd 3 iG s.aN.length] s:=λσ' k=>(RN (L:=2) (aFf (h.kept k))).up Cj
theorem mZ.dv{σ:Jp}{lo:Nat}{d:bI}{p:PD}{iS:Nat}{ss:Jn}{tG:Nat->Nat}{tgs:Jm}{tW:Nat->Nat->Nat}(h:mZ σ lo d p iS ss tG tgs tW):DV σ p d:=⟨_,h.p,aFg _ _ _,h.wS⟩
theorem rO.sv{σ:Jp}{lo:Nat}{s:cJ}{p:PD}{iG:Nat}{gs:Jn}{iW:Nat->Nat}(h:rO σ lo s p iG gs iW):SV σ p s:=⟨_,h.p,aFg _ _ _,h.wS⟩
abbrev qC:=CE Em.aL 6 48 o5
abbrev qD:=CE Em.div 5 53 j8
abbrev o0:=CE Em.aZ 5 58 o5
theorem aFh{α:Type}{em:Em α}{f:α->Jq}(hf:∀x,em.aB x=.agg (f x))(l:List α):(l.map em.aB).flatMap PD.cells=(l.map f).flatten:=by
 induction l with
 |nil=>rfl
 |cons x l ih=>simp only[yAW,yBw,yBB,ih,hf];rfl
theorem aFi{α:Type}{em:Em α}{f:α->Jq}{sz e id:Nat}{σ:Jp}(hc:w5 em)(hf:∀x,em.aB x=.agg (f x))(hs:∀x,(f x).length=sz)(l:List α)(hl:l.length<=200)(hr:0<l.length->σ[id]?=some (.row e sz 0 ((l.map em.aB).flatMap PD.cells))):CE em sz e o5 σ (Go.Kz.hd sz id l.length) l:=by
 refine⟨id,l.map f,rfl,hl,λg hg=>by obtain⟨x,_,rfl⟩:=yAw.1 hg;exact hs x,λhp=>by rw[<-aFh hf];exact hr hp,eV.of (yAe ..) λi h1 h2 σ' _=>?_⟩;rw[yBq];exact(zZ hc _ (hf _) σ').up Cj
theorem sS{σ:Jp}{lo:Nat}{o:aV}{p:PD}{iR iD iC:Nat}{ds:Jn}{tS:Nat->Nat}{tss:Jm}{tG:Nat->Nat->Nat}{tgs:Jl}{tW:Nat->Nat->Nat->Nat}(h:iY σ lo o p iR iD iC ds tS tss tG tgs tW)(hs:wW o):qC σ (Go.Kz.hd 6 iR o.aR.length) o.aR/\qD σ (Go.Kz.hd 5 iD o.aD.length) o.aD/\o0 σ (Go.Kz.hd 5 iC o.aP.length) o.aP:=by
 refine⟨aFi RJ (λ_=>oB) (λ_=>rfl) _ hs.1 λhp=>(h.aL hp).2,⟨iD,ds,rfl,hs.2.1,uB h.len λi hi=>⟨_,(h.at_ i hi).1,rfl⟩,λhp=>(h.row hp).2,eV.of h.len λi h1 h2=>?_⟩,aFi RO (λ_=>CX) (λ_=>rfl) _ hs.2.2.1 λhp=>(h.aZ hp).2⟩;exact ju
theorem aFc{σ:Jp}{lo:Nat}{d:bI}{p:PD}{iS:Nat}{ss:Jn}{tG:Nat->Nat}{tgs:Jm}{tW:Nat->Nat->Nat}(h:mZ σ lo d p iS ss tG tgs tW):(∀g∈ss,g.length=4)/\(0<d.stops.length->σ[iS]?=some (.row 56 4 0 ss.flatten))/\eV (lN Em.stop 6 oJ σ) ss d.stops:=by
 refine⟨uB h.len λi hi=>⟨_,(h.at_ i hi).1,rfl⟩,λhp=>(h.row hp).2,eV.of h.len λi h1 h2=>?_⟩;exact ju
theorem qC.qE{σ:Jp}{P:PD}{l:List bH}(h:qC σ P l):cO Em.aL 6 kM σ P l:=h.oI Cn λt ht=>ht.elim id False.elim
theorem qD.qE{σ:Jp}{P:PD}{l:List bI}(h:qD σ P l):cO Em.div 5 kO σ P l:=h.oI Cn λt ht=>ht
theorem o0.qE{σ:Jp}{P:PD}{l:List bX}(h:o0 σ P l):cO Em.aZ 5 jH σ P l:=h.oI Cn λt ht=>ht.elim id False.elim
structure SIn (σ:List aA) (P:PD) (l:List cJ):Prop where
 plain:P.plain=true
 cells:P.cells=[P]
 bF:∀σ',aW j8 σ σ'->lO Em.stop 4 σ' 7 P l
def Y3(E:aE):Prop:=∀(σ:List aA) (id:Nat) (gs:List (List PD)) (c:PD) (l:List cJ) (way:Int) (i:Nat) (d:cJ),l.length<=200->(∀g∈gs,g.length=4)->(0<l.length->σ[id]?=some (.row 56 4 0 gs.flatten))->eV (lN Em.stop 6 oJ σ) gs l->SV σ c d->(way=0/\i<=l.length\/(way=1\/way=2)/\i<l.length)->σ≠[] ->
 aK prog E 0 (.inl 85) [Go.Kz.hd 4 id l.length,.int .i64 way,.int .i64 i,c] σ (λQ σ'=>SIn σ' Q (bP l way i d)/\σ.length<=σ'.length/\∀(j:Nat) (z:aA),σ[j]?=some z->(0<l.length->j≠id)->σ'[j]?=some z)
variable{E E0:aE}(hU:aJ E)
include hU
theorem aN3(h0:E 87=none)(h1:E 120=some (gI 58 5))(h2:E 121=some (uG 58 5)):Y2 E o0:=by
 intro σ P l way i c hP hw eQ;obtain⟨id,gs,rfl,hn,hg,hr,hA⟩:=hP;obtain⟨nm,a,b,sh,th⟩:=c;have hy:lN Em.aZ 7 o5 σ [.str nm,.int .i64 a,.int .i64 b,.int .i64 sh,.bool th] ⟨nm,a,b,sh,th⟩:=λσ' _=>(zZ RO ⟨nm,a,b,sh,th⟩ rfl σ').up (show 1<=7 by decide)
 have pU:=hy;simp only[CX];have hAl:=λway:Int=>hA.bP way i (x:=[.str nm,.int .i64 a,.int .i64 b,.int .i64 sh,.bool th]) (y:=⟨nm,a,b,sh,th⟩) (λ_=>hy)
 have xX:=λway:Int=>hA.bP way i (x:=[.str nm,.int .i64 a,.int .i64 b,.int .i64 sh,.bool th]) (y:=⟨nm,a,b,sh,th⟩) (λ_=>pU)
 have hgl:=hA.len;rcases hw with⟨rfl,hi⟩ | ⟨rfl|rfl,hi⟩
 .obtain⟨id',v,σ1,e1,e2,e3,e4⟩:=RQ (e:=58) (k:=5) Cn (n:=l.length) (id:=id) (i:=i) (σ:=(σ++[aA.box (.agg [.str nm,.int .i64 a,.int .i64 b,.int .i64 sh,.bool th])])) (gs:=gs) (y:=.agg [.str nm,.int .i64 a,.int .i64 b,.int .i64 sh,.bool th]) hn hg hgl (λhp=>bG (hr hp)) hi rfl;refine(aOv hU h0 h1 h2 (Go.Kz.hd 5 id l.length) _ 0 i nm a b sh th σ σ1 rfl ⟨Cj,Cj⟩ e1).mono ?_
  rintro p1 σ' ⟨rfl,rfl⟩
  have e6:∀(j:Nat) (z:aA),σ[j]?=some z->(0<l.length->j≠id)->σ'[j]?=some z:=λj z hz h=>e4 j z (bG hz) h
  have e5:=w6 hr e6;have hK:aW o5 σ σ':=λ_ _ _ _ _ h=>h.elim
  have hL:=cO.row (R':=jH) Cn e2 rfl (λ_ h=>h.elim) hK (rP hg rfl) (hAl 0);rw[RR _ _ _ hi]at hL;exact jj
 .obtain⟨σ1,e1,e2,e3,e4⟩:=RS (e:=58) (k:=5) Cn (n:=l.length) (id:=id) (i:=i) (σ:=(σ++[aA.box (.agg [.str nm,.int .i64 a,.int .i64 b,.int .i64 sh,.bool th])])) (gs:=gs) [.str nm,.int .i64 a,.int .i64 b,.int .i64 sh,.bool th] hg hgl (bG (hr Cj)) hi;refine(aOw hU h0 h1 h2 (Go.Kz.hd 5 id l.length) _ 1 i nm a b sh th σ σ1 rfl ⟨Cj,Cj⟩ e1).mono ?_
  rintro p1 σ' ⟨rfl,rfl⟩
  have e6:∀(j:Nat) (z:aA),σ[j]?=some z->(0<l.length->j≠id)->σ'[j]?=some z:=λj z hz h=>e4 j z (bG hz) h
  have e5:=w6 hr e6;have hK:aW o5 σ σ':=λ_ _ _ _ _ h=>h.elim
  have hL:=cO.row (R':=jH) Cn e2 rfl (λ_ h=>h.elim) hK (rP hg rfl) (xX 1);rw[RT _ _ _ hi]at hL;exact jj
 .have hr':=hr Cj;rw[qF Cj];obtain⟨r1,_⟩:=yA.1 hr';have hfl:=lF gs hg;refine(aOx hU h0 id l.length 2 i nm a b sh th σ _ rfl hi Cj hr' (by rw[hfl,hgl])).mono ?_
  rintro p1 σ' ⟨rfl,rfl⟩
  rw[RU hg rfl i Cj];have e6:∀(j:Nat) (z:aA),σ[j]?=some z->(0<l.length->j≠id)->(σ.set id (.row 58 5 0 (bP gs 2 i [.str nm,.int .i64 a,.int .i64 b,.int .i64 sh,.bool th]).flatten)++[aA.box (.agg [.str nm,.int .i64 a,.int .i64 b,.int .i64 sh,.bool th])])[j]?=some z:=λj z hz h=>by
   exact kj
  have e5:=w6 hr e6;have hK:aW o5 σ (σ.set id (.row 58 5 0 (bP gs 2 i [.str nm,.int .i64 a,.int .i64 b,.int .i64 sh,.bool th]).flatten)++[aA.box (.agg [.str nm,.int .i64 a,.int .i64 b,.int .i64 sh,.bool th])]):=λ_ _ _ _ _ h=>h.elim
  have hL:=cO.row (R':=jH) Cn (bG (τ:=[aA.box (.agg [.str nm,.int .i64 a,.int .i64 b,.int .i64 sh,.bool th])]) (yAj r1)) rfl (λ_ h=>h.elim) hK (rP hg rfl) (xX 2);exact ru
theorem aNZ(h0:E 82=none)(h1:E 112=some (gI 48 6))(h2:E 113=some (uG 48 6)):Y0 E qC:=by
 intro σ P l way i c hP hcR hw eQ;obtain⟨id,gs,rfl,hn,hg,hr,hA⟩:=hP;obtain⟨nm,tn,a,b,sh,w⟩:=c;have hx:(PD.slice (sz 1 w) (w.map i64.aB) .any).strip=.slice (sz 1 w) (w.map i64.aB) .any:=uM i64 1 w .any;have hy:lN Em.aL 7 o5 σ [.str nm,.str tn,.int .i64 a,.int .i64 b,.int .i64 sh,.slice (sz 1 w) (w.map i64.aB) .any] ⟨nm,tn,a,b,sh,w⟩:=λσ' _=>(zZ RJ ⟨nm,tn,a,b,sh,w⟩ rfl σ').up (show 1<=7 by decide)
 have pU:=hy;simp only[oB,aU];have hAl:=λway:Int=>hA.bP way i (x:=[.str nm,.str tn,.int .i64 a,.int .i64 b,.int .i64 sh,.slice (sz 1 w) (w.map i64.aB) .any]) (y:=⟨nm,tn,a,b,sh,w⟩) (λ_=>hy)
 have xX:=λway:Int=>hA.bP way i (x:=[.str nm,.str tn,.int .i64 a,.int .i64 b,.int .i64 sh,.slice (sz 1 w) (w.map i64.aB) .any]) (y:=⟨nm,tn,a,b,sh,w⟩) (λ_=>pU)
 have hgl:=hA.len;rcases hw with⟨rfl,hi⟩ | ⟨rfl|rfl,hi⟩
 .obtain⟨id',v,σ1,e1,e2,e3,e4⟩:=RQ (e:=48) (k:=6) Cn (n:=l.length) (id:=id) (i:=i) (σ:=(σ++[aA.box (.agg [.str nm,.str tn,.int .i64 a,.int .i64 b,.int .i64 sh,.slice (sz 1 w) (w.map i64.aB) .any])])) (gs:=gs) (y:=.agg [.str nm,.str tn,.int .i64 a,.int .i64 b,.int .i64 sh,.slice (sz 1 w) (w.map i64.aB) .any]) hn hg hgl (λhp=>bG (hr hp)) hi rfl;refine(aOy hU h0 h1 h2 (Go.Kz.hd 6 id l.length) _ 0 i nm tn a b sh (sz 1 w) (w.map i64.aB) hx σ σ1 rfl ⟨Cj,Cj⟩ e1).mono ?_
  rintro p1 σ' ⟨rfl,rfl⟩
  have e6:∀(j:Nat) (z:aA),σ[j]?=some z->(0<l.length->j≠id)->σ'[j]?=some z:=λj z hz h=>e4 j z (bG hz) h
  have e5:=w6 hr e6;have hK:aW o5 σ σ':=λ_ _ _ _ _ h=>h.elim
  have hL:=cO.row (R':=kM) Cn e2 rfl (λ_ h=>h.elim) hK (rP hg rfl) (hAl 0);rw[RR _ _ _ hi]at hL;exact jj
 .obtain⟨σ1,e1,e2,e3,e4⟩:=RS (e:=48) (k:=6) Cn (n:=l.length) (id:=id) (i:=i) (σ:=(σ++[aA.box (.agg [.str nm,.str tn,.int .i64 a,.int .i64 b,.int .i64 sh,.slice (sz 1 w) (w.map i64.aB) .any])])) (gs:=gs) [.str nm,.str tn,.int .i64 a,.int .i64 b,.int .i64 sh,.slice (sz 1 w) (w.map i64.aB) .any] hg hgl (bG (hr Cj)) hi;refine(aOz hU h0 h1 h2 (Go.Kz.hd 6 id l.length) _ 1 i nm tn a b sh (sz 1 w) (w.map i64.aB) hx σ σ1 rfl ⟨Cj,Cj⟩ e1).mono ?_
  rintro p1 σ' ⟨rfl,rfl⟩
  have e6:∀(j:Nat) (z:aA),σ[j]?=some z->(0<l.length->j≠id)->σ'[j]?=some z:=λj z hz h=>e4 j z (bG hz) h
  have e5:=w6 hr e6;have hK:aW o5 σ σ':=λ_ _ _ _ _ h=>h.elim
  have hL:=cO.row (R':=kM) Cn e2 rfl (λ_ h=>h.elim) hK (rP hg rfl) (xX 1);rw[RT _ _ _ hi]at hL;exact jj
 .have hr':=hr Cj;rw[qF Cj];obtain⟨r1,_⟩:=yA.1 hr';have hfl:=lF gs hg;refine(aOA hU h0 id l.length 2 i nm tn a b sh (sz 1 w) (w.map i64.aB) hx σ _ rfl hi Cj hr' (by rw[hfl,hgl])).mono ?_
  rintro p1 σ' ⟨rfl,rfl⟩
  rw[RU hg rfl i Cj];have e6:∀(j:Nat) (z:aA),σ[j]?=some z->(0<l.length->j≠id)->(σ.set id (.row 48 6 0 (bP gs 2 i [.str nm,.str tn,.int .i64 a,.int .i64 b,.int .i64 sh,.slice (sz 1 w) (w.map i64.aB) .any]).flatten)++[aA.box (.agg [.str nm,.str tn,.int .i64 a,.int .i64 b,.int .i64 sh,.slice (sz 1 w) (w.map i64.aB) .any])])[j]?=some z:=λj z hz h=>by
   exact kj
  have e5:=w6 hr e6;have hK:aW o5 σ (σ.set id (.row 48 6 0 (bP gs 2 i [.str nm,.str tn,.int .i64 a,.int .i64 b,.int .i64 sh,.slice (sz 1 w) (w.map i64.aB) .any]).flatten)++[aA.box (.agg [.str nm,.str tn,.int .i64 a,.int .i64 b,.int .i64 sh,.slice (sz 1 w) (w.map i64.aB) .any])]):=λ_ _ _ _ _ h=>h.elim
  have hL:=cO.row (R':=kM) Cn (bG (τ:=[aA.box (.agg [.str nm,.str tn,.int .i64 a,.int .i64 b,.int .i64 sh,.slice (sz 1 w) (w.map i64.aB) .any])]) (yAj r1)) rfl (λ_ h=>h.elim) hK (rP hg rfl) (xX 2);exact ru
theorem aN1(h0:E 84=none)(h1:E 114=some (gI 53 5))(h2:E 115=some (uG 53 5)):Y1 E qD DV:=by
 intro σ P c l way i d hP hc hw eQ;obtain⟨id,gs,rfl,hn,hg,hr,hA⟩:=hP;obtain⟨h,rfl,hh,pU⟩:=hc;obtain⟨nm,pe,a,b,w⟩:=d;simp only at pU ⊢;have hy:lN Em.div 7 j8 σ [.str nm,.bool pe,.int .i64 a,.int .i64 b,h.strip] ⟨nm,pe,a,b,w⟩:=by
  exact vh
 have hAl:=λway:Int=>hA.bP way i (x:=[.str nm,.bool pe,.int .i64 a,.int .i64 b,h.strip]) (y:=⟨nm,pe,a,b,w⟩) (λ_=>hy)
 have xX:=λway:Int=>hA.bP way i (x:=[.str nm,.bool pe,.int .i64 a,.int .i64 b,h]) (y:=⟨nm,pe,a,b,w⟩) (λ_=>pU)
 have hgl:=hA.len;rcases hw with⟨rfl,hi⟩ | ⟨rfl|rfl,hi⟩
 .obtain⟨id',v,σ1,e1,e2,e3,e4⟩:=RQ (e:=53) (k:=5) Cn (n:=l.length) (id:=id) (i:=i) (σ:=(σ++[aA.box (.agg [.str nm,.bool pe,.int .i64 a,.int .i64 b,h])])) (gs:=gs) (y:=.agg [.str nm,.bool pe,.int .i64 a,.int .i64 b,h.strip]) hn hg hgl (λhp=>bG (hr hp)) hi rfl;refine(aOB hU h0 h1 h2 (Go.Kz.hd 5 id l.length) _ 0 i nm pe a b h hh σ σ1 rfl ⟨Cj,Cj⟩ e1).mono ?_
  rintro p1 σ' ⟨rfl,rfl⟩
  have e6:∀(j:Nat) (z:aA),σ[j]?=some z->(0<l.length->j≠id)->σ'[j]?=some z:=λj z hz h=>e4 j z (bG hz) h
  have e5:=w6 hr e6;have hK:aW j8 σ σ':=JA (e:=53) Eu e5;have hL:=cO.row (R':=kO) Cn e2 (.inl rfl) (λ_ h=>.inr h) hK (rP hg rfl) (hAl 0);rw[RR _ _ _ hi]at hL;exact jj
 .obtain⟨σ1,e1,e2,e3,e4⟩:=RS (e:=53) (k:=5) Cn (n:=l.length) (id:=id) (i:=i) (σ:=(σ++[aA.box (.agg [.str nm,.bool pe,.int .i64 a,.int .i64 b,h])])) (gs:=gs) [.str nm,.bool pe,.int .i64 a,.int .i64 b,h] hg hgl (bG (hr Cj)) hi;refine(aOC hU h0 h1 h2 (Go.Kz.hd 5 id l.length) _ 1 i nm pe a b h hh σ σ1 rfl ⟨Cj,Cj⟩ e1).mono ?_
  rintro p1 σ' ⟨rfl,rfl⟩
  have e6:∀(j:Nat) (z:aA),σ[j]?=some z->(0<l.length->j≠id)->σ'[j]?=some z:=λj z hz h=>e4 j z (bG hz) h
  have e5:=w6 hr e6;have hK:aW j8 σ σ':=JA (e:=53) Eu e5;have hL:=cO.row (R':=kO) Cn e2 (.inl rfl) (λ_ h=>.inr h) hK (rP hg rfl) (xX 1);rw[RT _ _ _ hi]at hL;exact jj
 .have hr':=hr Cj;rw[qF Cj];obtain⟨r1,_⟩:=yA.1 hr';have hfl:=lF gs hg;refine(aOD hU h0 id l.length 2 i nm pe a b h hh σ _ rfl hi Cj hr' (by rw[hfl,hgl])).mono ?_
  rintro p1 σ' ⟨rfl,rfl⟩
  rw[RU hg rfl i Cj];have e6:∀(j:Nat) (z:aA),σ[j]?=some z->(0<l.length->j≠id)->(σ.set id (.row 53 5 0 (bP gs 2 i [.str nm,.bool pe,.int .i64 a,.int .i64 b,h]).flatten)++[aA.box (.agg [.str nm,.bool pe,.int .i64 a,.int .i64 b,h])])[j]?=some z:=λj z hz h=>by
   exact kj
  have e5:=w6 hr e6;have hK:aW j8 σ (σ.set id (.row 53 5 0 (bP gs 2 i [.str nm,.bool pe,.int .i64 a,.int .i64 b,h]).flatten)++[aA.box (.agg [.str nm,.bool pe,.int .i64 a,.int .i64 b,h])]):=JA (e:=53) Eu e5;have hL:=cO.row (R':=kO) Cn (bG (τ:=[aA.box (.agg [.str nm,.bool pe,.int .i64 a,.int .i64 b,h])]) (yAj r1)) (.inl rfl) (λ_ h=>.inr h) hK (rP hg rfl) (xX 2);exact ru
theorem aN5(h0:E 85=none)(h1:E 116=some (gI 56 4))(h2:E 117=some (uG 56 4)):Y3 E:=by
 intro σ id gs c l way i d hn hg hr hA hc hw eQ;obtain⟨h,rfl,hh,pU⟩:=hc;obtain⟨nm,a,b,w⟩:=d;simp only at pU ⊢;have hy:lN Em.stop 6 oJ σ [.str nm,.int .i64 a,.int .i64 b,h.strip] ⟨nm,a,b,w⟩:=by
  exact vh
 have hAl:=λway:Int=>hA.bP way i (x:=[.str nm,.int .i64 a,.int .i64 b,h.strip]) (y:=⟨nm,a,b,w⟩) (λ_=>hy)
 have xX:=λway:Int=>hA.bP way i (x:=[.str nm,.int .i64 a,.int .i64 b,h]) (y:=⟨nm,a,b,w⟩) (λ_=>pU)
 have hgl:=hA.len;rcases hw with⟨rfl,hi⟩ | ⟨rfl|rfl,hi⟩
 .obtain⟨id',v,σ1,e1,e2,e3,e4⟩:=RQ (e:=56) (k:=4) Cn (n:=l.length) (id:=id) (i:=i) (σ:=(σ++[aA.box (.agg [.str nm,.int .i64 a,.int .i64 b,h])])) (gs:=gs) (y:=.agg [.str nm,.int .i64 a,.int .i64 b,h.strip]) hn hg hgl (λhp=>bG (hr hp)) hi rfl;refine(aOE hU h0 h1 h2 (Go.Kz.hd 4 id l.length) _ 0 i nm a b h hh σ σ1 rfl ⟨Cj,Cj⟩ e1).mono ?_
  rintro p1 σ' ⟨rfl,rfl⟩
  have e6:∀(j:Nat) (z:aA),σ[j]?=some z->(0<l.length->j≠id)->σ'[j]?=some z:=λj z hz h=>e4 j z (bG hz) h
  have e5:=w6 hr e6;have hK:aW oJ σ σ':=JA (e:=56) Ey e5;have hL:=RW (R':=j8) Cn e2 (.inl rfl) (λ_ h=>.inr h) hK (rP hg rfl) (hAl 0);rw[RR _ _ _ hi]at hL;rw[yAa]at e3;exact⟨⟨rfl,rfl,hL⟩,Cj,e6⟩
 .obtain⟨σ1,e1,e2,e3,e4⟩:=RS (e:=56) (k:=4) Cn (n:=l.length) (id:=id) (i:=i) (σ:=(σ++[aA.box (.agg [.str nm,.int .i64 a,.int .i64 b,h])])) (gs:=gs) [.str nm,.int .i64 a,.int .i64 b,h] hg hgl (bG (hr Cj)) hi;refine(aOF hU h0 h1 h2 (Go.Kz.hd 4 id l.length) _ 1 i nm a b h hh σ σ1 rfl ⟨Cj,Cj⟩ e1).mono ?_
  rintro p1 σ' ⟨rfl,rfl⟩
  have e6:∀(j:Nat) (z:aA),σ[j]?=some z->(0<l.length->j≠id)->σ'[j]?=some z:=λj z hz h=>e4 j z (bG hz) h
  have e5:=w6 hr e6;have hK:aW oJ σ σ':=JA (e:=56) Ey e5;have hL:=RW (R':=j8) Cn e2 (.inl rfl) (λ_ h=>.inr h) hK (rP hg rfl) (xX 1);rw[RT _ _ _ hi]at hL;rw[yAa]at e3;exact⟨⟨rfl,rfl,hL⟩,Cj,e6⟩
 .have hr':=hr Cj;rw[qF Cj];obtain⟨r1,_⟩:=yA.1 hr';have hfl:=lF gs hg;refine(aOG hU h0 id l.length 2 i nm a b h hh σ _ rfl hi Cj hr' (by rw[hfl,hgl])).mono ?_
  rintro p1 σ' ⟨rfl,rfl⟩
  rw[RU hg rfl i Cj];have e6:∀(j:Nat) (z:aA),σ[j]?=some z->(0<l.length->j≠id)->(σ.set id (.row 56 4 0 (bP gs 2 i [.str nm,.int .i64 a,.int .i64 b,h]).flatten)++[aA.box (.agg [.str nm,.int .i64 a,.int .i64 b,h])])[j]?=some z:=λj z hz h=>by
   exact kj
  have e5:=w6 hr e6;have hK:aW oJ σ (σ.set id (.row 56 4 0 (bP gs 2 i [.str nm,.int .i64 a,.int .i64 b,h]).flatten)++[aA.box (.agg [.str nm,.int .i64 a,.int .i64 b,h])]):=JA (e:=56) Ey e5;have hL:=RW (R':=j8) Cn (bG (τ:=[aA.box (.agg [.str nm,.int .i64 a,.int .i64 b,h])]) (yAj r1)) (.inl rfl) (λ_ h=>.inr h) hK (rP hg rfl) (xX 2);rw[RV]at hL;exact⟨⟨rfl,rfl,hL⟩,by rw[yAa,yAD];omega,e6⟩
end
end Go.Kz
