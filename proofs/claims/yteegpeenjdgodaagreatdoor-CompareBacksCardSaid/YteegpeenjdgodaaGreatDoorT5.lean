/- Steps of the proof. -/
import Derived.Test.YteegpeenjdgodaaGreatDoorT3
import Derived.Test.YteegpeenjdgodaaGreatDoorT1b
import Derived.Test.YteegpeenjdgodaaGreatDoorS3
import Derived.Test.YteegpeenjdgodaaGreatDoorS7
set_option linter.all false
set_option maxHeartbeats 40000000
set_option maxRecDepth 100000
open Go.Proofs.Tryz
namespace Go.Kz
open Go Go.Proofs
section
theorem YK{o:aY}(h:w6 o)(w i:Int):w6 (iZ w i o):=⟨h.1,h.2.1,by show(o.aL.map _).length<=200;rw[yAe];exact h.2.2.1,h.2.2.2⟩
def YB(E:aE):Prop:=∀(way index:Int) (o:aY) (p:PD) (aV:List aA) (lo iR iD iC:Nat) (ds:List (List PD)) (tS:Nat->Nat) (tss:Nat->List (List PD)) (tG:Nat->Nat->Nat) (tgs:Nat->Nat->List (List PD)) (tW:Nat->Nat->Nat->Nat),jC aV lo o p iR iD iC ds tS tss tG tgs tW->lo<=aV.length->fX o ->
    (∀c∈o.aL,(-1000000000<=c.dJ/\c.dJ<=1000000000)/\-1000000000<=c.dst/\c.dst<=1000000000) ->
    aK prog E 0 (.inl 83) [p,.int .i64 way,.int .i64 index] aV (λq σ'=>∃b:Bool,q=.bool b/\(b=true->(∀c∈o.aL,oX way index c=true)/\jC σ' lo (iZ way index o) p iR iD iC ds tS tss tG tgs tW/\aV.length<=σ'.length/\∀id,id<lo->σ'[id]?=aV[id]?)/\(b=false->(¬ ∀c∈o.aL,oX way index c=true)/\aV.length<=σ'.length/\∀id,id<lo->σ'[id]?=aV[id]?))
def YD(E:aE)(DV:List aA->PD->bO->Prop):Prop:=∀(d:bO) (τ:List aA),gV d->aK prog E 0 (.inl 77) [Em.div.aB d] τ (λp σ'=>DV σ' p d/\τ.length<=σ'.length/\∀id,id<τ.length->σ'[id]?=τ[id]?)
def X7(E:aE)(qE:List aA->PD->List bO->Prop)(DV:List aA->PD->bO->Prop):Prop:=∀(σ:List aA) (P c:PD) (l:List bO) (way:Int) (i:Nat) (d:bO),qE σ P l->DV σ c d->(way=0/\i<=l.length\/(way=1\/way=2)/\i<l.length)->σ≠[] ->
 aK prog E 0 (.inl 84) [P,.int .i64 way,.int .i64 i,c] σ (λQ σ'=>cX Em.div 5 kJ σ' Q (aS l way i d)/\σ.length<=σ'.length/\∀(id:Nat) (y:aA),σ[id]?=some y->(∀n v cs,y≠.row 53 n v cs)->σ'[id]?=some y)
variable{E E1 E2 E3 E4 E5 E6:aE}(hU:aJ E)
include hU
theorem aNK(h0:E 42=none)(h1:E 78=some B0)(h2:E 41=some (dO prog E1 41))
  (H2:ClnS E1)
  (h3:E 56=some sQ) (h4:E 80=some (dO prog E2 80)) (U2:aJ E2) (F8:E2 80=none) (F9:E2 56=some sQ)
  {qE:List aA->PD->List bO->Prop} {DV:List aA->PD->bO->Prop} (h5:E 84=some (dO prog E3 84)) (H5:X7 E3 qE DV) (h7:E 83=some (dO prog E5 83)) (H7:YB E5) (h8:E 77=some (dO prog E6 77)) (H8:YD E6 DV) (h6:E 79=some (dO prog E4 79)) (H6:F5 E4)
  (hIn:lMz (cX Em.aN 6 kI) qE (cX Em.bF 5 jJ))
  (o:aY) (x:bM) (ho:fX o) (hsh:w6 o) (hx:dT x) (hf:fS x=0) (hk:4<=x.kind/\x.kind<=6) (hKeep:∀(σ σ2:List aA) (P:PD) (l:List bO),qE σ P l->σ.length<=σ2.length->(∀id,id<σ.length->σ2[id]?=σ[id]?)->qE σ2 P l) (hwr:∀c∈o.aL,(-1000000000<=c.dJ/\c.dJ<=1000000000)/\-1000000000<=c.dst/\c.dst<=1000000000) (hokr:(∀c∈o.aL,oX ((x.kind-1)%3) x.idx c=true)->dP { iZ ((x.kind-1)%3) x.idx o with aD:=aS o.aD ((x.kind-1)%3) x.idx.toNat x.frame }) :
  aK prog E 0 (.inl 42) [Em.bY.aB o,Em.edit.aB x] [] (λp σ=>((x.idx<0\/(if (x.kind-1)%3=0 then(o.aD.length:Int)+1 else o.aD.length)<=x.idx)/\p=.aH [bE,.int .i64 10])\/((¬ ∀c∈o.aL,oX ((x.kind-1)%3) x.idx c=true)/\0<=x.idx/\¬(if (x.kind-1)%3=0 then(o.aD.length:Int)+1 else o.aD.length)<=x.idx/\p=.aH [bE,.int .i64 14])\/((∀c∈o.aL,oX ((x.kind-1)%3) x.idx c=true)/\0<=x.idx/\¬(if (x.kind-1)%3=0 then(o.aD.length:Int)+1 else o.aD.length)<=x.idx/\∃P1 P2 P3,p=.aH [if dG { iZ ((x.kind-1)%3) x.idx o with aD:=aS o.aD ((x.kind-1)%3) x.idx.toNat x.frame }=0 then .agg [.str o.name,P1,P2,P3]else bX,.int .i64 (dG { iZ ((x.kind-1)%3) x.idx o with aD:=aS o.aD ((x.kind-1)%3) x.idx.toNat x.frame })]/\cX Em.aN 6 kI σ P1 o.aQ/\cX Em.div 5 kJ σ P2 (aS o.aD ((x.kind-1)%3) x.idx.toNat x.frame)/\cX Em.bF 5 jJ σ P3 (o.aL.map (rL ((x.kind-1)%3) x.idx)))):=by
 have k1:=λfl σ=>IY hx fl σ
 rw[hf]at k1;have k3:=λfl σ=>GA (x:=x) ⟨Cd,Cd⟩ fl σ
 have hth:(x.kind-1)/3=1:=Cd;rw[hth]at k3;obtain⟨wy,hwy⟩:=gn ((x.kind-1)%3);have iI:wy=0\/wy=1\/wy=2:=Cd;rw[hwy]at k3 hokr;rw[hwy];obtain⟨kd,dv,ix,nm,⟨rn,rt,ra,rb,rf,wd⟩,⟨fn,fp,flo,fhi,fs⟩,⟨sn,sa,sb,sg⟩,⟨cn,ca,cb,cs,ct⟩⟩:=x;obtain⟨on,rs,dd,cc⟩:=o;have k2:=(H2 ⟨on,rs,dd,cc⟩ ho [.box (Em.bY.aB ⟨on,rs,dd,cc⟩),.box (Em.edit.aB ⟨kd,dv,ix,nm,⟨rn,rt,ra,rb,rf,wd⟩,⟨fn,fp,flo,fhi,fs⟩,⟨sn,sa,sb,sg⟩,⟨cn,ca,cb,cs,ct⟩⟩),.box (.agg [.str [],.slice 0 [] .full,.slice 0 [] .full,.slice 0 [] .full])]).e0 Ce;obtain⟨p,σ1,k2,⟨iR,iD,iC,ds,tS,tss,tG,tgs,tW,hO⟩,hl1,hk1⟩:=k2;have hp:=hO.p;subst hp;have b0:=hk1 0 Ce;have b1:=hk1 1 Ce;have b2:=hk1 2 Ce;simp only[yBi,yBB]at b0 b1 b2;have k4:=(aOa U2 F8 F9 on iR rs.length iD dd.length iC cc.length (σ1.set 0 (.box (.agg [.str on,Go.Kz.hd 6 iR rs.length,Go.Kz.hd 5 iD dd.length,Go.Kz.hd 5 iC cc.length]))) kd dv ix wy nm rn rt fn sn cn ra rb rf flo fhi sa sb ca cb cs fp ct (sz 1 wd) (sz 4 fs) (sz 3 sg) (wd.map i64.aB) (fs.map Em.stop.aB) (sg.map Em.fB.aB) k3).e0 (λe=>by
  have:0<σ1.length:=(yA.1 b0).1;have h:=yAL List.length e;rw[yAD,yAO]at h;omega)
 obtain⟨_,σ2,k4,rfl,L2,bT⟩:=k4;obtain⟨hR,hhR⟩:=gn (Go.Kz.hd 6 iR rs.length);obtain⟨hD,hhD⟩:=gn (Go.Kz.hd 5 iD dd.length);obtain⟨hC,hhC⟩:=gn (Go.Kz.hd 5 iC cc.length);have pR:hR.plain=true:=Cu;have pD:hD.plain=true:=Cv;have pC:hC.plain=true:=Cw;have cR:hR.cells=[hR]:=Ed;have cD:hD.cells=[hD]:=Ee;have cC:hC.cells=[hC]:=Ef;unfold PD.plain at pR pD pC;unfold PD.cells at cR cD cC;simp only[hhR,hhD,hhC]at hO k2 k4 bT;simp only[bZ,fE,bC]at k1 k2 k3 b0 b1 b2 hk hth hwy;simp only[bZ,fE,bC];obtain⟨w0,z0⟩:=yA.1 b0;obtain⟨w1,z1⟩:=yA.1 b1;obtain⟨w2,z2⟩:=yA.1 b2;have hS:(σ1.set 0 (.box (.agg [.str on,hR,hD,hC]))).length=σ1.length:=yAD;have g0:σ2[0]?=some (.box (.agg [.str on,hR,hD,hC])):=by rw[bT,yAg Cd,yAj w0]
 have g1:=b1;rw[<-yAd (l:=σ1) (i:=0) (a:=.box (.agg [.str on,hR,hD,hC])) Cd,<-yAg (l₂:=L2) Cd,<-bT]at g1;have g2:=b2;rw[<-yAd (l:=σ1) (i:=0) (a:=.box (.agg [.str on,hR,hD,hC])) Cd,<-yAg (l₂:=L2) Cd,<-bT]at g2;obtain⟨v0,y0⟩:=yA.1 g0;obtain⟨v1,y1⟩:=yA.1 g1;obtain⟨v2,y2⟩:=yA.1 g2;have uG:¬kd=13:=Cd;clear hU;refine aK.aG 132 h0 func42 (h:=?_);refine aC Bl ?_;have hcl:dd.length<=1000000:=ho.2.1.1;rcases iI with rfl|rfl|rfl
 .by_cases i1:ix<0
  .exact bh
  by_cases i2:(dd.length:Int)+1<=ix
  .exact bg
  obtain⟨i,rfl⟩:∃i:Nat,ix=i:=⟨ix.toNat,Cd⟩;rw[yBj]at hokr ⊢;have n2:σ2≠[]:=λe=>Cs
  have gC:σ1.length<=σ2.length:=Dr;have eP:jC σ2 3 ⟨on,rs,dd,cc⟩ (.agg [.str on,hR,hD,hC]) iR iD iC ds tS tss tG tgs tW:=by
   exact bz
  have k7:=(H7 0 i _ _ _ _ _ _ _ _ _ _ _ _ _ eP (yAQ Fa gC) ho hwr).e0 n2;obtain⟨q7,σ3,k7,b,rfl,hbt,hbf⟩:=k7;cases b with
  |false=>
   exact au
  |true=>
  obtain⟨ow,qI,rQ,eJ⟩:=hbt rfl;have u0:=(eJ 0 Cd).trans g0;have u1:=(eJ 1 Cd).trans g1;have u2:=(eJ 2 Cd).trans g2;obtain⟨r0,x0⟩:=yA.1 u0;obtain⟨r1,x1⟩:=yA.1 u1;obtain⟨r2,x2⟩:=yA.1 u2;refine aC Bi ?_;obtain⟨l1,l2,l3⟩:=hIn _ _ _ _ _ _ _ _ _ _ _ _ _ qI (yAk _) (YK hsh _ _);simp only[iZ]at l1 l2 l3;rw[yAe]at l3;simp only[hhR,hhD,hhC]at l1 l2 l3;have n3:σ3≠[]:=λe=>Dq
  have k8:=(H8 ⟨fn,fp,flo,fhi,fs⟩ σ3 hx.2.1).e0 n3;obtain⟨c,rN,k8,hDV,l8,fT⟩:=k8;have uI:rN≠[]:=λe=>Gc
  have sU:=(fT 0 r0).trans u0;have pO:=(fT 1 r1).trans u1;have B6:=(fT 2 r2).trans u2;have k5:=(H5 rN hD c dd 0 i ⟨fn,fp,flo,fhi,fs⟩ (hKeep _ _ _ _ l2 l8 fT) hDV (.inl ⟨rfl,Cd⟩) uI).e0 uI;obtain⟨Q,bW,k5,lQ,jK,cE⟩:=k5;have s0:=cE 0 _ sU (λn v cs h=>Ck);have s1:=cE 1 _ pO (λn v cs h=>Ck);have s2:=cE 2 _ B6 (λn v cs h=>Ck);obtain⟨f0,d0⟩:=yA.1 s0;obtain⟨f1,d1⟩:=yA.1 s1;obtain⟨f2,d2⟩:=yA.1 s2;have pQ:=lQ.plain;have cQ:=lQ.cells;unfold PD.plain at pQ;unfold PD.cells at cQ;have o5:=pP (B:=[0,1]) h5 k5 jK (λid hi h=>by
   simp only[yBl,yBN,yBO]at hi;rcases hi with rfl|rfl
   .rw[s0,sU]
   .rw[s1,pO])
  have uJ:=pP (B:=[0,1]) h8 k8 l8 (λid _ h=>fT id h);simp only[nJ,bC]at uJ;refine Wp.DT h8 DR n3 [(2,0),(3,1)] [0,1] [some 0,some 1] Cj ⟨⟨_,rfl⟩,⟨_,rfl⟩,trivial⟩ Cj Ek ?_;refine oQ Bo ?_;apply SQ.nil;have qZ:∀R:TypeId->Prop,(∀t,R t->t≠53)->aW R σ3 bW:=λR hR id t n v cs hr hy=>cE id _ ((fT id (yA.1 hy).1).trans hy) (λn v cs h=>De)
  have kS:∀R,aW R bW (bW.set 0 (.box (.agg [.str on,hR,Q,hC]))):=λR=>aW.set s0 _
  have m1:=(l1.aM (qZ _ (λt h=>Da))).aM (kS _);have m2:=lQ.aM (kS _);have m3:=(l3.aM (qZ _ (λt h=>Da))).aM (kS _);have o7:=hokr ow;simp only[iZ]at o7 ⊢;have n4:bW.set 0 (.box (.agg [.str on,hR,Q,hC]))≠[]:=λe=>by
   exact gp
  have k6:=(H6 _ on hR Q hC rs _ _ m1 m2 m3 o7 n4).e0 n4;obtain⟨q,eG,k6,rfl,L5,rfl⟩:=k6;obtain⟨e,he⟩:=gn (dG ⟨on,rs,aS dd 0 i ⟨fn,fp,flo,fhi,fs⟩,cc.map (rL 0 i)⟩);exact aj
 .by_cases i1:ix<0
  .exact bh
  by_cases i2:(dd.length:Int)<=ix
  .exact bg
  obtain⟨i,rfl⟩:∃i:Nat,ix=i:=⟨ix.toNat,Cd⟩;rw[yBj]at hokr ⊢;have n2:σ2≠[]:=λe=>Cs
  have gC:σ1.length<=σ2.length:=Dr;have eP:jC σ2 3 ⟨on,rs,dd,cc⟩ (.agg [.str on,hR,hD,hC]) iR iD iC ds tS tss tG tgs tW:=by
   exact bz
  have k7:=(H7 1 i _ _ _ _ _ _ _ _ _ _ _ _ _ eP (yAQ Fa gC) ho hwr).e0 n2;obtain⟨q7,σ3,k7,b,rfl,hbt,hbf⟩:=k7;cases b with
  |false=>
   exact au
  |true=>
  obtain⟨ow,qI,rQ,eJ⟩:=hbt rfl;have u0:=(eJ 0 Cd).trans g0;have u1:=(eJ 1 Cd).trans g1;have u2:=(eJ 2 Cd).trans g2;obtain⟨r0,x0⟩:=yA.1 u0;obtain⟨r1,x1⟩:=yA.1 u1;obtain⟨r2,x2⟩:=yA.1 u2;refine aC Bi ?_;obtain⟨l1,l2,l3⟩:=hIn _ _ _ _ _ _ _ _ _ _ _ _ _ qI (yAk _) (YK hsh _ _);simp only[iZ]at l1 l2 l3;rw[yAe]at l3;simp only[hhR,hhD,hhC]at l1 l2 l3;have n3:σ3≠[]:=λe=>Dq
  have k8:=(H8 ⟨fn,fp,flo,fhi,fs⟩ σ3 hx.2.1).e0 n3;obtain⟨c,rN,k8,hDV,l8,fT⟩:=k8;have uI:rN≠[]:=λe=>Gc
  have sU:=(fT 0 r0).trans u0;have pO:=(fT 1 r1).trans u1;have B6:=(fT 2 r2).trans u2;have k5:=(H5 rN hD c dd 1 i ⟨fn,fp,flo,fhi,fs⟩ (hKeep _ _ _ _ l2 l8 fT) hDV (.inr ⟨.inl rfl,Cd⟩) uI).e0 uI;obtain⟨Q,bW,k5,lQ,jK,cE⟩:=k5;have s0:=cE 0 _ sU (λn v cs h=>Ck);have s1:=cE 1 _ pO (λn v cs h=>Ck);have s2:=cE 2 _ B6 (λn v cs h=>Ck);obtain⟨f0,d0⟩:=yA.1 s0;obtain⟨f1,d1⟩:=yA.1 s1;obtain⟨f2,d2⟩:=yA.1 s2;have pQ:=lQ.plain;have cQ:=lQ.cells;unfold PD.plain at pQ;unfold PD.cells at cQ;have o5:=pP (B:=[0,1]) h5 k5 jK (λid hi h=>by
   simp only[yBl,yBN,yBO]at hi;rcases hi with rfl|rfl
   .rw[s0,sU]
   .rw[s1,pO])
  have uJ:=pP (B:=[0,1]) h8 k8 l8 (λid _ h=>fT id h);simp only[nJ,bC]at uJ;refine Wp.DT h8 DR n3 [(2,0),(3,1)] [0,1] [some 0,some 1] Cj ⟨⟨_,rfl⟩,⟨_,rfl⟩,trivial⟩ Cj Ek ?_;refine oQ Bo ?_;apply SQ.nil;have qZ:∀R:TypeId->Prop,(∀t,R t->t≠53)->aW R σ3 bW:=λR hR id t n v cs hr hy=>cE id _ ((fT id (yA.1 hy).1).trans hy) (λn v cs h=>De)
  have kS:∀R,aW R bW (bW.set 0 (.box (.agg [.str on,hR,Q,hC]))):=λR=>aW.set s0 _
  have m1:=(l1.aM (qZ _ (λt h=>Da))).aM (kS _);have m2:=lQ.aM (kS _);have m3:=(l3.aM (qZ _ (λt h=>Da))).aM (kS _);have o7:=hokr ow;simp only[iZ]at o7 ⊢;have n4:bW.set 0 (.box (.agg [.str on,hR,Q,hC]))≠[]:=λe=>by
   exact gp
  have k6:=(H6 _ on hR Q hC rs _ _ m1 m2 m3 o7 n4).e0 n4;obtain⟨q,eG,k6,rfl,L5,rfl⟩:=k6;obtain⟨e,he⟩:=gn (dG ⟨on,rs,aS dd 1 i ⟨fn,fp,flo,fhi,fs⟩,cc.map (rL 1 i)⟩);exact aj
 .by_cases i1:ix<0
  .exact bh
  by_cases i2:(dd.length:Int)<=ix
  .exact bg
  obtain⟨i,rfl⟩:∃i:Nat,ix=i:=⟨ix.toNat,Cd⟩;rw[yBj]at hokr ⊢;have n2:σ2≠[]:=λe=>Cs
  have gC:σ1.length<=σ2.length:=Dr;have eP:jC σ2 3 ⟨on,rs,dd,cc⟩ (.agg [.str on,hR,hD,hC]) iR iD iC ds tS tss tG tgs tW:=by
   exact bz
  have k7:=(H7 2 i _ _ _ _ _ _ _ _ _ _ _ _ _ eP (yAQ Fa gC) ho hwr).e0 n2;obtain⟨q7,σ3,k7,b,rfl,hbt,hbf⟩:=k7;cases b with
  |false=>
   exact au
  |true=>
  obtain⟨ow,qI,rQ,eJ⟩:=hbt rfl;have u0:=(eJ 0 Cd).trans g0;have u1:=(eJ 1 Cd).trans g1;have u2:=(eJ 2 Cd).trans g2;obtain⟨r0,x0⟩:=yA.1 u0;obtain⟨r1,x1⟩:=yA.1 u1;obtain⟨r2,x2⟩:=yA.1 u2;refine aC Bi ?_;obtain⟨l1,l2,l3⟩:=hIn _ _ _ _ _ _ _ _ _ _ _ _ _ qI (yAk _) (YK hsh _ _);simp only[iZ]at l1 l2 l3;rw[yAe]at l3;simp only[hhR,hhD,hhC]at l1 l2 l3;have n3:σ3≠[]:=λe=>Dq
  have k8:=(H8 ⟨fn,fp,flo,fhi,fs⟩ σ3 hx.2.1).e0 n3;obtain⟨c,rN,k8,hDV,l8,fT⟩:=k8;have uI:rN≠[]:=λe=>Gc
  have sU:=(fT 0 r0).trans u0;have pO:=(fT 1 r1).trans u1;have B6:=(fT 2 r2).trans u2;have k5:=(H5 rN hD c dd 2 i ⟨fn,fp,flo,fhi,fs⟩ (hKeep _ _ _ _ l2 l8 fT) hDV (.inr ⟨.inr rfl,Cd⟩) uI).e0 uI;obtain⟨Q,bW,k5,lQ,jK,cE⟩:=k5;have s0:=cE 0 _ sU (λn v cs h=>Ck);have s1:=cE 1 _ pO (λn v cs h=>Ck);have s2:=cE 2 _ B6 (λn v cs h=>Ck);obtain⟨f0,d0⟩:=yA.1 s0;obtain⟨f1,d1⟩:=yA.1 s1;obtain⟨f2,d2⟩:=yA.1 s2;have pQ:=lQ.plain;have cQ:=lQ.cells;unfold PD.plain at pQ;unfold PD.cells at cQ;have o5:=pP (B:=[0,1]) h5 k5 jK (λid hi h=>by
   simp only[yBl,yBN,yBO]at hi;rcases hi with rfl|rfl
   .rw[s0,sU]
   .rw[s1,pO])
  have uJ:=pP (B:=[0,1]) h8 k8 l8 (λid _ h=>fT id h);simp only[nJ,bC]at uJ;refine Wp.DT h8 DR n3 [(2,0),(3,1)] [0,1] [some 0,some 1] Cj ⟨⟨_,rfl⟩,⟨_,rfl⟩,trivial⟩ Cj Ek ?_;refine oQ Bo ?_;apply SQ.nil;have qZ:∀R:TypeId->Prop,(∀t,R t->t≠53)->aW R σ3 bW:=λR hR id t n v cs hr hy=>cE id _ ((fT id (yA.1 hy).1).trans hy) (λn v cs h=>De)
  have kS:∀R,aW R bW (bW.set 0 (.box (.agg [.str on,hR,Q,hC]))):=λR=>aW.set s0 _
  have m1:=(l1.aM (qZ _ (λt h=>Da))).aM (kS _);have m2:=lQ.aM (kS _);have m3:=(l3.aM (qZ _ (λt h=>Da))).aM (kS _);have o7:=hokr ow;simp only[iZ]at o7 ⊢;have n4:bW.set 0 (.box (.agg [.str on,hR,Q,hC]))≠[]:=λe=>by
   exact gp
  have k6:=(H6 _ on hR Q hC rs _ _ m1 m2 m3 o7 n4).e0 n4;obtain⟨q,eG,k6,rfl,L5,rfl⟩:=k6;obtain⟨e,he⟩:=gn (dG ⟨on,rs,aS dd 2 i ⟨fn,fp,flo,fhi,fs⟩,cc.map (rL 2 i)⟩);exact aj
end
def eX{α β:Type}(P:α->β->Prop):List α->List β->Prop
 | [],[]=>True
 |a::l,b::m=>P a b/\eX P l m
 |_,_=>False
theorem eX.len{α β:Type}{P:α->β->Prop}:∀ {l:List α} {m:List β},eX P l m->l.length=m.length
 | [],[],_=>rfl
 |_::_,_::_,h=>by rw[yAT,yAT,h.2.len]
 | [],_::_,h=>h.elim
 |_::_,[],h=>h.elim
theorem eX.get{α β:Type}{P:α->β->Prop}:∀ {l:List α} {m:List β},eX P l m->∀i (h:i<l.length) (k:i<m.length),P l[i] m[i]
 | [],[],_,i,h,_=>absurd h (yAZ i)
 |_::_,_::_,h,0,_,_=>h.1
 |_::_,_::_,h,i+1,a,b=>h.2.get i Fh Fi
 | [],_::_,h,_,_,_=>h.elim
 |_::_,[],h,_,_,_=>h.elim
theorem eX.of{α β:Type}{P:α->β->Prop}:∀ {l:List α} {m:List β},l.length=m.length->(∀i (h:i<l.length) (k:i<m.length),P l[i] m[i])->eX P l m
 | [],[],_,_=>trivial
 |_::_,_::_,h,k=>⟨k 0 (yDP _) (yDP _),eX.of Dg λi a b=>k (i+1) (Nat.succ_lt_succ a) (Nat.succ_lt_succ b)⟩
 | [],_::_,h,_=>Dw
 |_::_,[],h,_=>Dw
theorem eX.imp{α β:Type}{P Q:α->β->Prop}(hi:∀a b,P a b->Q a b):∀ {l:List α} {m:List β},eX P l m->eX Q l m
 | [],[],_=>trivial
 |_::_,_::_,h=>⟨hi _ _ h.1,h.2.imp hi⟩
 | [],_::_,h=>h.elim
 |_::_,[],h=>h.elim
theorem eX.app{α β:Type}{P:α->β->Prop}:∀ {l:List α} {m:List β} {l':List α} {m':List β},eX P l m->eX P l' m'->eX P (l++l') (m++m')
 | [],[],_,_,_,k=>k
 |_::_,_::_,_,_,h,k=>⟨h.1,h.2.app k⟩
 | [],_::_,_,_,h,_=>h.elim
 |_::_,[],_,_,h,_=>h.elim
theorem eX.take{α β:Type}{P:α->β->Prop}:∀ {l:List α} {m:List β} (i:Nat),eX P l m->eX P (l.take i) (m.take i)
 |_,_,0,_=>by simp[eX]
 | [],[],_+1,_=>by simp[eX]
 |_::_,_::_,i+1,h=>⟨h.1,h.2.take i⟩
 | [],_::_,_,h=>h.elim
 |_::_,[],_,h=>h.elim
theorem eX.drop{α β:Type}{P:α->β->Prop}:∀ {l:List α} {m:List β} (i:Nat),eX P l m->eX P (l.drop i) (m.drop i)
 |_,_,0,h=>Dg
 | [],[],_+1,_=>by simp[eX]
 |_::_,_::_,i+1,h=>by simpa using h.2.drop i
 | [],_::_,_,h=>h.elim
 |_::_,[],_,h=>h.elim
theorem eX.set{α β:Type}{P:α->β->Prop}{x:α}{y:β}(hx:P x y):∀ {l:List α} {m:List β} (i:Nat),eX P l m->eX P (l.set i x) (m.set i y)
 | [],[],_,_=>trivial
 |_::_,_::_,0,h=>⟨hx,h.2⟩
 |_::_,_::_,i+1,h=>⟨h.1,h.2.set hx i⟩
 | [],_::_,_,h=>h.elim
 |_::_,[],_,h=>h.elim
theorem eX.aS{α β:Type}{P:α->β->Prop}{l:List α}{m:List β}{x:α}{y:β}(h:eX P l m)(way:Int)(i:Nat)(hx:way≠1->P x y):eX P (aS l way i x) (aS m way i y):=by
 unfold Go.Kz.aS
 by_cases h0:way=0
 .rw[yAJ h0,yAJ h0];exact(h.take i).app ⟨hx Cd,h.drop i⟩
 .rw[yAI h0,yAI h0]
  by_cases h1:way=1
  .rw[yAJ h1,yAJ h1];exact(h.take i).app (h.drop (i+1))
  .rw[yAI h1,yAI h1];exact h.set (hx h1) i
theorem Q6{sz:Nat}:∀(gs:List (List PD)) (i:Nat),(∀g∈gs,g.length=sz)->gs.flatten.take (i*sz)=(gs.take i).flatten
 |_,0,_=>Ce
 | [],_+1,_=>Ce
 |g::gs,i+1,h=>by
  have e1:(i+1)*sz=g.length+i*sz:=by rw[yBU,h g (yBe ..)];omega
  rw[yBD,e1,List.take_length_add_append,Q6 gs i λq hq=>h q (yCn _ hq)];rfl
theorem Q7{sz:Nat}:∀(gs:List (List PD)) (i:Nat),(∀g∈gs,g.length=sz)->gs.flatten.drop (i*sz)=(gs.drop i).flatten
 |_,0,_=>Ce
 | [],_+1,_=>Ce
 |g::gs,i+1,h=>by
  have e1:(i+1)*sz=g.length+i*sz:=by rw[yBU,h g (yBe ..)];omega
  rw[yBD,e1,yEi,Q7 gs i λq hq=>h q (yCn _ hq)];rfl
theorem aN9{α:Type}{l:List α}{way:Int}{i:Nat}{x y:α}(h:y∈aS l way i x):y∈l\/(way≠1/\y=x):=by
 unfold aS at h;split at h
 .rename_i h0;rcases yBr.1 h with h|h
  .exact .inl (yAy h)
  .rcases yBl.1 h with h|h
   .exact .inr ⟨Cd,h⟩
   .exact .inl (yBd h)
 .split at h
  .exact xq
  .rename_i h1;rcases yCN h with h|h
   .exact .inl h
   .exact .inr ⟨h1,h⟩
theorem vN.up{α:Type}{em:Em α}{σ:Jj}{L L':Nat}{g:Jk}{x:α}(h:vN em σ L g x)(hl:L<=L'):vN em σ L' g x:=λK=>by
 have h1:=h (K+(L' - L));rw[show K+(L' - L)+L=K+L' by omega]at h1;exact h1
theorem aW.mono{R R':TypeId->Prop}{σ σ':Jj}(h:aW R' σ σ')(hr:∀t,R t->R' t):aW R σ σ':=λid t n v cs ht=>h id t n v cs (hr t ht)
theorem cX.aP{α:Type}{em:Em α}{sz:Nat}{R:TypeId->Prop}{σ:Jj}{id e v:Nat}{gs:Jh}{l:List α}(eT:σ[id]?=some (.row e sz v gs.flatten))(he:R e)(h1:sz≠1)(hl:∀g∈gs,g.length=sz)(hn:gs.length=l.length)
  (h:∀σ',aW R σ σ'->∀i (hi:i<l.length),vN em σ' 7 (gs[i]' Cd) l[i]):cX em sz R σ (.aP id v 0 l.length sz) l:=
 ⟨rfl,rfl,λσ' hk K=>QW (L:=7) (hk _ _ _ _ _ he eT) h1 hl Cd l rfl (λi hi=>h σ' hk i hi) K⟩
theorem cX.nil{α:Type}{em:Em α}{sz:Nat}{R:TypeId->Prop}{σ:Jj}:cX em sz R σ (.slice 0 [] .full) ([]:List α):=⟨rfl,rfl,λσ' _ K=>L7 sz 0 σ' (K+6) .full⟩
def lL{α:Type}(em:Em α)(N:Nat)(R:TypeId->Prop)(σ:List aA)(g:List PD)(x:α):Prop:=∀σ',aW R σ σ'->vN em σ' N g x
theorem lL.aM{α:Type}{em:Em α}{N:Nat}{R:TypeId->Prop}{σ σ':Jj}{g:Jk}{x:α}(h:lL em N R σ g x)(k:aW R σ σ'):lL em N R σ' g x:=λτ eF=>h τ (k.trans eF)
def B7{α:Type}(em:Em α)(sz:Nat)(e:TypeId)(R:TypeId->Prop)(σ:List aA)(P:PD)(l:List α):Prop:=∃id gs,P=hd sz id l.length/\l.length<=200/\(∀g∈gs,g.length=sz)/\(0<l.length->σ[id]?=some (.row e sz 0 (List.flatten gs)))/\eX (lL em 7 R σ) gs l
theorem B7.aM{α:Type}{em:Em α}{sz:Nat}{e:TypeId}{R:TypeId->Prop}{σ σ':Jj}{P:PD}{l:List α}(h:B7 em sz e R σ P l)(k:aW (λt=>t=e\/R t) σ σ'):B7 em sz e R σ' P l:=by
 obtain⟨id,gs,h1,h2,h3,h4,h5⟩:=h;exact⟨id,gs,h1,h2,h3,λhp=>k _ _ _ _ _ (.inl rfl) (h4 hp),h5.imp λa b h=>h.aM (k.mono λ_=>.inr)⟩
theorem B7.oI{α:Type}{em:Em α}{sz:Nat}{e:TypeId}{R R':TypeId->Prop}{σ:Jj}{P:PD}{l:List α}(h:B7 em sz e R σ P l)(h1:sz≠1)(hr:∀t,t=e\/R t->R' t):cX em sz R' σ P l:=by
 obtain⟨id,gs,rfl,h2,h3,h4,h5⟩:=h
 by_cases h0:l.length=0
 .obtain rfl:=yAf h0;exact cX.nil
 .rw[qG Cd];exact cX.aP (h4 Cd) (hr _ (.inl rfl)) h1 h3 h5.len λσ' hk i hi=>h5.get i (by rw[h5.len];exact hi) hi σ' (hk.mono λt ht=>hr t (.inr ht))
def gI(e k:Nat):Nat->List PD->List aA->Option (PD×List aA):=Go.Kz.B9 (zT e k) (Go.Kz.B9 (xY e k) (BU e k))
theorem QZ{e k:Nat}(hk:1<k){n id i:Nat}{σ:Jj}{gs:Jh}{y:PD}(hn:n<=200)(hg:∀g∈gs,g.length=k)(hl:gs.length=n)(hr:0<n->σ[id]?=some (.row e k 0 gs.flatten))(hi:i<=n)(hy:y.cells.length=k) :
  ∃id' v σ1,gI e k 0 [hd k id n,.int .i64 i,.slice k [y] .full] σ=some (.aP id' v 0 (n+1) k,σ1)/\σ1[id']?=some (.row e k v (aS gs 0 i y.cells).flatten)/\σ.length<=σ1.length/\∀(j:Nat) (z:aA),σ[j]?=some z->(0<n->j≠id)->σ1[j]?=some z:=by
 have hls:(aS gs 0 i y.cells).flatten=gs.flatten.take (i*k)++y.cells++gs.flatten.drop (i*k):=by
  unfold aS;rw[yAJ rfl,Q6 gs i hg,Q7 gs i hg];simp
 have hlen:=lA gs hg;rw[hl]at hlen
 by_cases h0:n=0
 .subst h0;have:i=0:=Cd;subst this;refine⟨σ.length,0,σ++[.row e k 0 y.cells],?_,?_,Ce,λj z h _=>bR h⟩
  .unfold gI hd B9;rw[yAJ rfl];have a1:zT e k 0 [.slice 0 [] .full,.int .i64 ((0:Nat):Int),.slice k [y] .full] σ=none:=rfl;have a2:xY e k 0 [.slice 0 [] .full,.int .i64 ((0:Nat):Int),.slice k [y] .full] σ=none:=rfl;rw[a1,a2];unfold BU;simp only[Int.natCast_zero,hy,yBA,yAK]
  .rw[hls,yAf hl];simp
 .have hrr:=hr Cd;obtain⟨r1,r2⟩:=yA.1 hrr;have rK:hd k id n=.aP id 0 0 n k:=qG Cd
  by_cases hin:i<n
  .refine⟨id,1,σ.set id (.row e k 1 (gs.flatten.take (i*k)++y.cells++gs.flatten.drop (i*k))),?_,?_,Ce,λj z h hz=>?_⟩
   .unfold gI B9;have a1:zT e k 0 [hd k id n,.int .i64 i,.slice k [y] .full] σ=some (.aP id 1 0 (n+1) k,σ.set id (.row e k 1 (gs.flatten.take (i*k)++y.cells++gs.flatten.drop (i*k)))):=by
     rw[rK];unfold zT;simp only[hrr];rw[yAJ (by simp[hlen,hin,hn];omega)];simp
    rw[a1]
   .rw[hls];exact yAj r1
   .exact uz
  .have:i=n:=by omega
   subst this;refine⟨id,1,σ.set id (.row e k 1 (gs.flatten++y.cells)),?_,?_,Ce,λj z h hz=>?_⟩
   .unfold gI B9;have a1:zT e k 0 [hd k id i,.int .i64 i,.slice k [y] .full] σ=none:=by
     rw[rK];unfold zT;simp only[hrr];rw[yAI Ce]
    have a2:xY e k 0 [hd k id i,.int .i64 i,.slice k [y] .full] σ=some (.aP id 1 0 (i+1) k,σ.set id (.row e k 1 (gs.flatten++y.cells))):=by
     rw[rK];unfold xY;simp only[hrr];rw[yAJ (by refine⟨?_,?_,?_,?_,?_,?_,?_,?_,?_,?_⟩<;>first|exact trivial|rfl|exact hy|exact hlen|omega)]
    rw[a1,a2]
   .rw[hls,yAz Cd,yCO Cd,yAl];exact yAj r1
   .exact uz
theorem Q1{e k:Nat}(hk:1<k){n id i:Nat}{σ:Jj}{gs:Jh}(y:List PD)(hg:∀g∈gs,g.length=k)(hl:gs.length=n)(hr:σ[id]?=some (.row e k 0 gs.flatten))(hi:i<n) :
  ∃σ1,sP e k 0 [hd k id n,.int .i64 i,.int .i64 ((i:Int)+1)] σ=some (.aP id 1 0 (n-1) k,σ1)/\σ1[id]?=some (.row e k 1 (aS gs 1 i y).flatten)/\σ.length<=σ1.length/\∀(j:Nat) (z:aA),σ[j]?=some z->(0<n->j≠id)->σ1[j]?=some z:=by
 have hls:(aS gs 1 i y).flatten=gs.flatten.take (i*k)++gs.flatten.drop ((i+1)*k):=by
  unfold aS;rw[yAI Ch,yAJ rfl,Q6 gs i hg,Q7 gs (i+1) hg];simp
 have hlen:=lA gs hg;rw[hl]at hlen;obtain⟨r1,r2⟩:=yA.1 hr;refine⟨σ.set id (.row e k 1 (gs.flatten.take (i*k)++gs.flatten.drop ((i+1)*k))),?_,?_,Ce,λj z h hz=>?_⟩
 .rw[qG Cd];unfold sP;simp only[hr];rw[yAJ (by simp[hlen,hi];omega)];simp
 .rw[hls];exact yAj r1
 .exact uz
theorem Q3{k:Nat}{gs:Jh}{y:Jk}(hg:∀g∈gs,g.length=k)(hy:y.length=k)(i:Nat)(hi:i<gs.length):dL gs.flatten (i*k) y=(aS gs 2 i y).flatten:=by
 have h:=w8 (sz:=k) (new:=y) (j:=0) Cd gs i hi hg;have hgi:=hg _ (yAm hi);rw[yBk]at h;rw[h];unfold aS;rw[yAI Ch,yAI Ch]
 congr 2
 unfold dL;simp[hy,<-hgi]
theorem cX.row{α:Type}{em:Em α}{k:Nat}{e v id:Nat}{R R':TypeId->Prop}{σ σ':Jj}{gs:Jh}{l:List α}(hk:1<k)(eT:σ'[id]?=some (.row e k v gs.flatten))(he:R' e)(hr:∀t,R t->R' t)(hK:aW R σ σ')(hg:∀g∈gs,g.length=k)(h:eX (lL em 7 R σ) gs l):cX em k R' σ' (.aP id v 0 l.length k) l:=
 cX.aP eT he Cd hg h.len λτ eF i hi=>h.get i (by rw[h.len];exact hi) hi τ (hK.trans (eF.mono hr))
theorem xB{e k n id:Nat}{cs:Jk}{σ σ1:Jj}(hr:0<n->σ[id]?=some (.row e k 0 cs))(h:∀(j:Nat) (z:aA),σ[j]?=some z->(0<n->j≠id)->σ1[j]?=some z):∀(j:Nat) (z:aA),σ[j]?=some z->(∀n v cs,z≠.row e n v cs)->σ1[j]?=some z:=λj z hz ht=>h j z hz λhp e=>by
 subst e;rw[hr hp]at hz;exact ht _ _ _ (yAS hz).symm
theorem Q5{α:Type}{em:Em α}{N k:Nat}{e v id:Nat}{R R':TypeId->Prop}{σ σ':Jj}{gs:Jh}{l:List α}(hk:1<k)(eT:σ'[id]?=some (.row e k v gs.flatten))(he:R' e)(hr:∀t,R t->R' t)(hK:aW R σ σ')(hg:∀g∈gs,g.length=k)(h:eX (lL em N R σ) gs l) :
  ∀τ,aW R' σ' τ->∀K,(bJ τ (K+(N+1)) (.aP id v 0 l.length k)).strip=(em.list k).aB l/\(bJ τ (K+(N+1)) (.aP id v 0 l.length k)).cI=true:=λτ eF K=>
 QW (L:=N) (eF _ _ _ _ _ he eT) Cd hg (by rw[h.len];exact yAk _) l rfl (λi hi=>h.get i (by rw[h.len];exact hi) hi τ (hK.trans (eF.mono hr))) K
theorem I0{e:TypeId}{R:TypeId->Prop}(hR:∀t,R t->t≠e){σ σ':Jj}(h:∀(j:Nat) (z:aA),σ[j]?=some z->(∀n v cs,z≠.row e n v cs)->σ'[j]?=some z):aW R σ σ':=λid t n v cs ht hy=>h id _ hy λn v cs h=>by cases h;exact hR _ ht rfl
theorem Q0{α:Type}(l:List α)(i:Nat)(x:α)(hi:i<=l.length):(aS l 0 i x).length=l.length+1:=by
 unfold aS;rw[yAJ rfl,yAa,yAT,yAt,yBa];omega
theorem Q2{α:Type}(l:List α)(i:Nat)(x:α)(hi:i<l.length):(aS l 1 i x).length=l.length-1:=by
 unfold aS;rw[yAI Ch,yAJ rfl,yAa,yAt,yBa];omega
theorem Q4{α:Type}(l:List α)(i:Nat)(x:α):(aS l 2 i x).length=l.length:=by
 unfold aS;rw[yAI Ch,yAI Ch,yAD]
theorem rP{k:Nat}{gs:Jh}{way:Int}{i:Nat}{y:Jk}(hg:∀g∈gs,g.length=k)(hy:y.length=k):∀g∈aS gs way i y,g.length=k:=λg h=>by
 rcases aN9 h with h | ⟨_,rfl⟩
 .exact hg g h
 .exact hy
section
abbrev oJ:TypeId->Prop:=λt=>t=92\/t=89
abbrev j5:TypeId->Prop:=λt=>t=56\/t=92\/t=89
abbrev o6:TypeId->Prop:=λ_=>False
theorem QU:xA Em.aN:=λd=>by
 rw[oA];refine .agg _ λc hc=>?_
 simp only[yBl,yBN,yBO]at hc;rcases hc with rfl|rfl|rfl|rfl|rfl|rfl
 .exact .str _
 .exact .str _
 .exact ja
 .exact ja
 .exact ja
 .exact QV aNS 1 _
theorem Clean.calm{c:PD}(h:Clean c):Calm c:=λσ K=>⟨by rw[h.bJ],by rw[h.bJ];exact h.cI⟩
theorem Clean.cells{cs:Jk}(h:Clean (.agg cs)):∀c∈cs,Clean c:=by
 cases h with
 |agg _ h=>exact h
theorem zX{α:Type}{em:Em α}(h:xA em)(x:α){g:Jk}(hg:em.aB x=.agg g)(σ:List aA):vN em σ 1 g x:=by
 have hc:=h x;rw[hg]at hc;exact aNT (λc hm=>(hc.cells c hm).calm) (by rw[<-hg];exact em.str x) σ 0
def lM{α:Type}(em:Em α)(sz:Nat)(σ:List aA)(L:Nat)(P:PD)(l:List α):Prop:=∀K,(bJ σ (K+L) P).strip=(em.list sz).aB l/\(bJ σ (K+L) P).cI=true
theorem lM.hd{α:Type}{em:Em α}{sz e id L:Nat}{σ:Jj}{gs:Jh}{l:List α}(h1:sz≠1)(hr:0<l.length->σ[id]?=some (.row e sz 0 gs.flatten))(hg:0<l.length->∀g∈gs,g.length=sz)(hl:0<l.length->gs.length=l.length)(hL:1<=L)
  (h:∀i (hi:i<l.length) (hi2:i<gs.length),vN em σ L gs[i] l[i]):lM em sz σ (L+1) (Go.Kz.hd sz id l.length) l:=λK=>by
 by_cases h0:l.length=0
 .obtain rfl:=yAf h0;obtain⟨M,rfl⟩:∃M,L=M+1:=⟨L-1,Cd⟩;exact L7 sz 0 σ (K+M) .full
 .rw[qG Cd];exact nj
theorem aED{σ:Jj}{L:Nat}{P:PD}{g:jE}(h:lM Em.draw 2 σ (L+1) P g.aR):vN Em.fB σ (L+1) [.int .i64 g.lo,.int .i64 g.hi,P] g:=λK=>by
 obtain⟨h1,h2⟩:=h K
 constructor
 .show PD.agg [.int .i64 g.lo,.int .i64 g.hi,PD.strip (bJ σ (K+(L+1)) P)]=_
  rw[h1,JX]
 .show(true&&(true&&(PD.cI (bJ σ (K+(L+1)) P)&&true)))=true
  rw[h2];rfl
theorem QX{σ:Jj}{L:Nat}{P:PD}{s:cO}(h:lM Em.fB 3 σ (L+1) P s.aO):vN Em.stop σ (L+1) [.str s.name,.int .i64 s.num,.int .i64 s.den,P] s:=λK=>by
 obtain⟨h1,h2⟩:=h K
 constructor
 .show PD.agg [.str s.name,.int .i64 s.num,.int .i64 s.den,PD.strip (bJ σ (K+(L+1)) P)]=_
  rw[h1,pZ]
 .show(true&&(true&&(true&&(PD.cI (bJ σ (K+(L+1)) P)&&true))))=true
  rw[h2];rfl
theorem QT{σ:Jj}{L:Nat}{P:PD}{d:bO}(h:lM Em.stop 4 σ (L+1) P d.stops):vN Em.div σ (L+1) [.str d.name,.bool d.dV,.int .i64 d.low,.int .i64 d.high,P] d:=λK=>by
 obtain⟨h1,h2⟩:=h K
 constructor
 .show PD.agg [.str d.name,.bool d.dV,.int .i64 d.low,.int .i64 d.high,PD.strip (bJ σ (K+(L+1)) P)]=_
  rw[h1,nJ]
 .show(true&&(true&&(true&&(true&&(PD.cI (bJ σ (K+(L+1)) P)&&true)))))=true
  rw[h2];rfl
theorem aNU{σ:Jj}{lo:Nat}{ds:List dQ}{id:Nat}(h:DS σ lo ds id):lM Em.draw 2 σ 2 (Go.Kz.hd 2 id ds.length) ds:=by
 refine lM.hd (L:=1) (gs:=ds.map λw=>[PD.int .i64 w.aN,.int .i64 w.shift]) Ch (λhp=>(h hp).2) (λ_ g hg=>by obtain⟨w,_,rfl⟩:=yAw.1 hg;rfl) (λ_=>yAe ..) (yAk _) λi hi hi2=>?_
 rw[yBp];exact zX YJ _ EU σ
theorem aNV{α:Type}{l:List α}{x:α}(h:x∈l):∃i,∃hi:i<l.length,l[i]=x:=by
 obtain⟨i,hi,e⟩:=yBT h;exact⟨i,hi,e⟩
theorem uC{n sz:Nat}{gs:Jh}(hl:gs.length=n)(h:∀i,i<n->∃g,gs[i]?=some g/\g.length=sz):∀g∈gs,g.length=sz:=λg hg=>by
 obtain⟨i,hi,rfl⟩:=aNV hg;obtain⟨q,h1,h2⟩:=h i Cd;rw[yAh hi,yAb]at h1;rw[h1];exact h2
theorem aEE{σ:Jj}{lo:Nat}{s:cO}{p:PD}{iG:Nat}{gs:Jh}{iW:Nat->Nat}(h:rO σ lo s p iG gs iW):lM Em.fB 3 σ 3 (Go.Kz.hd 3 iG s.aO.length) s.aO:=by
 refine lM.hd (L:=2) (gs:=gs) Ch (λhp=>(h.row hp).2) (λ_=>uC h.len λi hi=>⟨_,(h.at_ i hi).1,rfl⟩) (λ_=>h.len) Cd λi hi hi2=>?_
 have h1:=h.at_ i hi;have e:=(yA.1 h1.1).2;rw[e];exact aED (L:=1) (aNU h1.2)
theorem aNW{σ:Jj}{lo:Nat}{d:bO}{p:PD}{iS:Nat}{ss:Jh}{tG:Nat->Nat}{tgs:Jg}{tW:Nat->Nat->Nat}(h:mU σ lo d p iS ss tG tgs tW):lM Em.stop 4 σ 4 (Go.Kz.hd 4 iS d.stops.length) d.stops:=by
 refine lM.hd (L:=3) (gs:=ss) Ch (λhp=>(h.row hp).2) (λ_=>uC h.len λi hi=>⟨_,(h.at_ i hi).1,rfl⟩) (λ_=>h.len) Cd λi hi hi2=>?_
 have h1:=h.at_ i hi;have e:=(yA.1 h1.1).2;rw[e];exact QX (L:=2) (aEE h1.2)
theorem rO.kept{σ σ':Jj}{lo:Nat}{s:cO}{p:PD}{iG:Nat}{gs:Jh}{iW:Nat->Nat}(h:rO σ lo s p iG gs iW)(k:aW oJ σ σ'):rO σ' lo s p iG gs iW:=by
 obtain⟨h1,h2,h3,h4,h5⟩:=h;exact⟨h1,h2,λhp=>⟨(h3 hp).1,k _ _ _ _ _ (.inl rfl) (h3 hp).2⟩,λg h=>⟨(h4 g h).1,λhp=>⟨((h4 g h).2 hp).1,k _ _ _ _ _ (.inr rfl) ((h4 g h).2 hp).2⟩⟩,h5⟩
theorem mU.kept{σ σ':Jj}{lo:Nat}{d:bO}{p:PD}{iS:Nat}{ss:Jh}{tG:Nat->Nat}{tgs:Jg}{tW:Nat->Nat->Nat}(h:mU σ lo d p iS ss tG tgs tW)(k:aW j5 σ σ'):mU σ' lo d p iS ss tG tgs tW:=by
 obtain⟨h1,h2,h3,h4,h5⟩:=h;exact⟨h1,h2,λhp=>⟨(h3 hp).1,k _ _ _ _ _ (.inl rfl) (h3 hp).2⟩,λs h=>⟨(h4 s h).1,(h4 s h).2.kept (k.mono λ_=>.inr)⟩,h5⟩
def DV(σ:List aA)(c:PD)(d:bO):Prop:=∃h,c=.agg [.str d.name,.bool d.dV,.int .i64 d.low,.int .i64 d.high,h]/\(h=.slice 0 [] .full\/∃id m,h=.aP id 0 0 m 4)/\lL Em.div 7 j5 σ [.str d.name,.bool d.dV,.int .i64 d.low,.int .i64 d.high,h] d
def SV(σ:List aA)(c:PD)(d:cO):Prop:=∃h,c=.agg [.str d.name,.int .i64 d.num,.int .i64 d.den,h]/\(h=.slice 0 [] .full\/∃id m,h=.aP id 0 0 m 3)/\lL Em.stop 6 oJ σ [.str d.name,.int .i64 d.num,.int .i64 d.den,h] d
theorem aEF(k id n:Nat):Go.Kz.hd k id n=.slice 0 [] .full\/∃i m,Go.Kz.hd k id n=.aP i 0 0 m k:=by
 unfold Go.Kz.hd;split
 .exact .inl rfl
 .exact .inr ⟨_,_,rfl⟩
theorem mU.wV{σ:Jj}{lo:Nat}{d:bO}{p:PD}{iS:Nat}{ss:Jh}{tG:Nat->Nat}{tgs:Jg}{tW:Nat->Nat->Nat}(h:mU σ lo d p iS ss tG tgs tW):lL Em.div 7 j5 σ [.str d.name,.bool d.dV,.int .i64 d.low,.int .i64 d.high,Go.Kz.hd 4 iS d.stops.length] d:=λσ' k=>(QT (L:=3) (aNW (h.kept k))).up Cd
theorem rO.wV{σ:Jj}{lo:Nat}{s:cO}{p:PD}{iG:Nat}{gs:Jh}{iW:Nat->Nat}(h:rO σ lo s p iG gs iW):lL Em.stop 6 oJ σ [.str s.name,.int .i64 s.num,.int .i64 s.den,Go.Kz.hd 3 iG s.aO.length] s:=λσ' k=>(QX (L:=2) (aEE (h.kept k))).up Cd
theorem mU.dv{σ:Jj}{lo:Nat}{d:bO}{p:PD}{iS:Nat}{ss:Jh}{tG:Nat->Nat}{tgs:Jg}{tW:Nat->Nat->Nat}(h:mU σ lo d p iS ss tG tgs tW):DV σ p d:=⟨_,h.p,aEF _ _ _,h.wV⟩
theorem rO.sv{σ:Jj}{lo:Nat}{s:cO}{p:PD}{iG:Nat}{gs:Jh}{iW:Nat->Nat}(h:rO σ lo s p iG gs iW):SV σ p s:=⟨_,h.p,aEF _ _ _,h.wV⟩
abbrev qD:=B7 Em.aN 6 48 o6
abbrev qE:=B7 Em.div 5 53 j5
abbrev o4:=B7 Em.bF 5 58 o6
theorem aEG{α:Type}{em:Em α}{f:α->Jk}(hf:∀x,em.aB x=.agg (f x))(l:List α):(l.map em.aB).flatMap PD.cells=(l.map f).flatten:=by
 induction l with
 |nil=>rfl
 |cons x l ih=>simp only[yAV,yBx,yBD,ih,hf];rfl
theorem aEH{α:Type}{em:Em α}{f:α->Jk}{sz e id:Nat}{σ:Jj}(hc:xA em)(hf:∀x,em.aB x=.agg (f x))(hs:∀x,(f x).length=sz)(l:List α)(hl:l.length<=200)(hr:0<l.length->σ[id]?=some (.row e sz 0 ((l.map em.aB).flatMap PD.cells))):B7 em sz e o6 σ (Go.Kz.hd sz id l.length) l:=by
 refine⟨id,l.map f,rfl,hl,λg hg=>by obtain⟨x,_,rfl⟩:=yAw.1 hg;exact hs x,λhp=>by rw[<-aEG hf];exact hr hp,eX.of (yAe ..) λi h1 h2 σ' _=>?_⟩;rw[yBp];exact(zX hc _ (hf _) σ').up Cd
theorem sS{σ:Jj}{lo:Nat}{o:aY}{p:PD}{iR iD iC:Nat}{ds:Jh}{tS:Nat->Nat}{tss:Jg}{tG:Nat->Nat->Nat}{tgs:Jf}{tW:Nat->Nat->Nat->Nat}(h:jC σ lo o p iR iD iC ds tS tss tG tgs tW)(hs:w6 o):qD σ (Go.Kz.hd 6 iR o.aQ.length) o.aQ/\qE σ (Go.Kz.hd 5 iD o.aD.length) o.aD/\o4 σ (Go.Kz.hd 5 iC o.aL.length) o.aL:=by
 refine⟨aEH QU (λ_=>oA) (λ_=>rfl) _ hs.1 λhp=>(h.aN hp).2,⟨iD,ds,rfl,hs.2.1,uC h.len λi hi=>⟨_,(h.at_ i hi).1,rfl⟩,λhp=>(h.row hp).2,eX.of h.len λi h1 h2=>?_⟩,aEH QY (λ_=>CR) (λ_=>rfl) _ hs.2.2.1 λhp=>(h.bF hp).2⟩;exact jq
theorem aEB{σ:Jj}{lo:Nat}{d:bO}{p:PD}{iS:Nat}{ss:Jh}{tG:Nat->Nat}{tgs:Jg}{tW:Nat->Nat->Nat}(h:mU σ lo d p iS ss tG tgs tW):(∀g∈ss,g.length=4)/\(0<d.stops.length->σ[iS]?=some (.row 56 4 0 ss.flatten))/\eX (lL Em.stop 6 oJ σ) ss d.stops:=by
 refine⟨uC h.len λi hi=>⟨_,(h.at_ i hi).1,rfl⟩,λhp=>(h.row hp).2,eX.of h.len λi h1 h2=>?_⟩;exact jq
theorem qD.qF{σ:Jj}{P:PD}{l:List bP}(h:qD σ P l):cX Em.aN 6 kI σ P l:=h.oI Ch λt ht=>ht.elim id False.elim
theorem qE.qF{σ:Jj}{P:PD}{l:List bO}(h:qE σ P l):cX Em.div 5 kJ σ P l:=h.oI Ch λt ht=>ht
theorem o4.qF{σ:Jj}{P:PD}{l:List cJ}(h:o4 σ P l):cX Em.bF 5 jJ σ P l:=h.oI Ch λt ht=>ht.elim id False.elim
structure SIn (σ:List aA) (P:PD) (l:List cO):Prop where
 plain:P.plain=true
 cells:P.cells=[P]
 bJ:∀σ',aW j5 σ σ'->lM Em.stop 4 σ' 7 P l
def X9(E:aE):Prop:=∀(σ:List aA) (id:Nat) (gs:List (List PD)) (c:PD) (l:List cO) (way:Int) (i:Nat) (d:cO),l.length<=200->(∀g∈gs,g.length=4)->(0<l.length->σ[id]?=some (.row 56 4 0 gs.flatten))->eX (lL Em.stop 6 oJ σ) gs l->SV σ c d->(way=0/\i<=l.length\/(way=1\/way=2)/\i<l.length)->σ≠[] ->
 aK prog E 0 (.inl 85) [Go.Kz.hd 4 id l.length,.int .i64 way,.int .i64 i,c] σ (λQ σ'=>SIn σ' Q (aS l way i d)/\σ.length<=σ'.length/\∀(j:Nat) (z:aA),σ[j]?=some z->(0<l.length->j≠id)->σ'[j]?=some z)
variable{E E0:aE}(hU:aJ E)
include hU
theorem aNv(h0:E 87=none)(h1:E 120=some (gI 58 5))(h2:E 121=some (sP 58 5)):X8 E o4:=by
 intro σ P l way i c hP hw eT;obtain⟨id,gs,rfl,hn,hg,hr,hA⟩:=hP;obtain⟨nm,a,b,sh,th⟩:=c;have hy:lL Em.bF 7 o6 σ [.str nm,.int .i64 a,.int .i64 b,.int .i64 sh,.bool th] ⟨nm,a,b,sh,th⟩:=λσ' _=>(zX QY ⟨nm,a,b,sh,th⟩ rfl σ').up (show 1<=7 by decide)
 have pT:=hy;simp only[CR];have hAl:=λway:Int=>hA.aS way i (x:=[.str nm,.int .i64 a,.int .i64 b,.int .i64 sh,.bool th]) (y:=⟨nm,a,b,sh,th⟩) (λ_=>hy)
 have x7:=λway:Int=>hA.aS way i (x:=[.str nm,.int .i64 a,.int .i64 b,.int .i64 sh,.bool th]) (y:=⟨nm,a,b,sh,th⟩) (λ_=>pT)
 have hgl:=hA.len;rcases hw with⟨rfl,hi⟩ | ⟨rfl|rfl,hi⟩
 .obtain⟨id',v,σ1,e1,e2,e3,e4⟩:=QZ (e:=58) (k:=5) Ch (n:=l.length) (id:=id) (i:=i) (σ:=(σ++[aA.box (.agg [.str nm,.int .i64 a,.int .i64 b,.int .i64 sh,.bool th])])) (gs:=gs) (y:=.agg [.str nm,.int .i64 a,.int .i64 b,.int .i64 sh,.bool th]) hn hg hgl (λhp=>bR (hr hp)) hi rfl;refine(aNX hU h0 h1 h2 (Go.Kz.hd 5 id l.length) _ 0 i nm a b sh th σ σ1 rfl ⟨Cd,Cd⟩ e1).mono ?_
  rintro p1 σ' ⟨rfl,rfl⟩
  have e6:∀(j:Nat) (z:aA),σ[j]?=some z->(0<l.length->j≠id)->σ'[j]?=some z:=λj z hz h=>e4 j z (bR hz) h
  have e5:=xB hr e6;have hK:aW o6 σ σ':=λ_ _ _ _ _ h=>h.elim
  have hL:=cX.row (R':=jJ) Ch e2 rfl (λ_ h=>h.elim) hK (rP hg rfl) (hAl 0);rw[Q0 _ _ _ hi]at hL;exact jf
 .obtain⟨σ1,e1,e2,e3,e4⟩:=Q1 (e:=58) (k:=5) Ch (n:=l.length) (id:=id) (i:=i) (σ:=(σ++[aA.box (.agg [.str nm,.int .i64 a,.int .i64 b,.int .i64 sh,.bool th])])) (gs:=gs) [.str nm,.int .i64 a,.int .i64 b,.int .i64 sh,.bool th] hg hgl (bR (hr Cd)) hi;refine(aNY hU h0 h1 h2 (Go.Kz.hd 5 id l.length) _ 1 i nm a b sh th σ σ1 rfl ⟨Cd,Cd⟩ e1).mono ?_
  rintro p1 σ' ⟨rfl,rfl⟩
  have e6:∀(j:Nat) (z:aA),σ[j]?=some z->(0<l.length->j≠id)->σ'[j]?=some z:=λj z hz h=>e4 j z (bR hz) h
  have e5:=xB hr e6;have hK:aW o6 σ σ':=λ_ _ _ _ _ h=>h.elim
  have hL:=cX.row (R':=jJ) Ch e2 rfl (λ_ h=>h.elim) hK (rP hg rfl) (x7 1);rw[Q2 _ _ _ hi]at hL;exact jf
 .have hr':=hr Cd;rw[qG Cd];obtain⟨r1,_⟩:=yA.1 hr';have hfl:=lA gs hg;refine(aNZ hU h0 id l.length 2 i nm a b sh th σ _ rfl hi Cd hr' (by rw[hfl,hgl])).mono ?_
  rintro p1 σ' ⟨rfl,rfl⟩
  rw[Q3 hg rfl i Cd];have e6:∀(j:Nat) (z:aA),σ[j]?=some z->(0<l.length->j≠id)->(σ.set id (.row 58 5 0 (aS gs 2 i [.str nm,.int .i64 a,.int .i64 b,.int .i64 sh,.bool th]).flatten)++[aA.box (.agg [.str nm,.int .i64 a,.int .i64 b,.int .i64 sh,.bool th])])[j]?=some z:=λj z hz h=>by
   exact jy
  have e5:=xB hr e6;have hK:aW o6 σ (σ.set id (.row 58 5 0 (aS gs 2 i [.str nm,.int .i64 a,.int .i64 b,.int .i64 sh,.bool th]).flatten)++[aA.box (.agg [.str nm,.int .i64 a,.int .i64 b,.int .i64 sh,.bool th])]):=λ_ _ _ _ _ h=>h.elim
  have hL:=cX.row (R':=jJ) Ch (bR (τ:=[aA.box (.agg [.str nm,.int .i64 a,.int .i64 b,.int .i64 sh,.bool th])]) (yAj r1)) rfl (λ_ h=>h.elim) hK (rP hg rfl) (x7 2);exact qy
theorem aNr(h0:E 82=none)(h1:E 112=some (gI 48 6))(h2:E 113=some (sP 48 6)):X6 E qD:=by
 intro σ P l way i c hP hcR hw eT;obtain⟨id,gs,rfl,hn,hg,hr,hA⟩:=hP;obtain⟨nm,tn,a,b,sh,w⟩:=c;have hx:(PD.slice (sz 1 w) (w.map i64.aB) .any).strip=.slice (sz 1 w) (w.map i64.aB) .any:=vO i64 1 w .any;have hy:lL Em.aN 7 o6 σ [.str nm,.str tn,.int .i64 a,.int .i64 b,.int .i64 sh,.slice (sz 1 w) (w.map i64.aB) .any] ⟨nm,tn,a,b,sh,w⟩:=λσ' _=>(zX QU ⟨nm,tn,a,b,sh,w⟩ rfl σ').up (show 1<=7 by decide)
 have pT:=hy;simp only[oA,bC];have hAl:=λway:Int=>hA.aS way i (x:=[.str nm,.str tn,.int .i64 a,.int .i64 b,.int .i64 sh,.slice (sz 1 w) (w.map i64.aB) .any]) (y:=⟨nm,tn,a,b,sh,w⟩) (λ_=>hy)
 have x7:=λway:Int=>hA.aS way i (x:=[.str nm,.str tn,.int .i64 a,.int .i64 b,.int .i64 sh,.slice (sz 1 w) (w.map i64.aB) .any]) (y:=⟨nm,tn,a,b,sh,w⟩) (λ_=>pT)
 have hgl:=hA.len;rcases hw with⟨rfl,hi⟩ | ⟨rfl|rfl,hi⟩
 .obtain⟨id',v,σ1,e1,e2,e3,e4⟩:=QZ (e:=48) (k:=6) Ch (n:=l.length) (id:=id) (i:=i) (σ:=(σ++[aA.box (.agg [.str nm,.str tn,.int .i64 a,.int .i64 b,.int .i64 sh,.slice (sz 1 w) (w.map i64.aB) .any])])) (gs:=gs) (y:=.agg [.str nm,.str tn,.int .i64 a,.int .i64 b,.int .i64 sh,.slice (sz 1 w) (w.map i64.aB) .any]) hn hg hgl (λhp=>bR (hr hp)) hi rfl;refine(aN0 hU h0 h1 h2 (Go.Kz.hd 6 id l.length) _ 0 i nm tn a b sh (sz 1 w) (w.map i64.aB) hx σ σ1 rfl ⟨Cd,Cd⟩ e1).mono ?_
  rintro p1 σ' ⟨rfl,rfl⟩
  have e6:∀(j:Nat) (z:aA),σ[j]?=some z->(0<l.length->j≠id)->σ'[j]?=some z:=λj z hz h=>e4 j z (bR hz) h
  have e5:=xB hr e6;have hK:aW o6 σ σ':=λ_ _ _ _ _ h=>h.elim
  have hL:=cX.row (R':=kI) Ch e2 rfl (λ_ h=>h.elim) hK (rP hg rfl) (hAl 0);rw[Q0 _ _ _ hi]at hL;exact jf
 .obtain⟨σ1,e1,e2,e3,e4⟩:=Q1 (e:=48) (k:=6) Ch (n:=l.length) (id:=id) (i:=i) (σ:=(σ++[aA.box (.agg [.str nm,.str tn,.int .i64 a,.int .i64 b,.int .i64 sh,.slice (sz 1 w) (w.map i64.aB) .any])])) (gs:=gs) [.str nm,.str tn,.int .i64 a,.int .i64 b,.int .i64 sh,.slice (sz 1 w) (w.map i64.aB) .any] hg hgl (bR (hr Cd)) hi;refine(aN1 hU h0 h1 h2 (Go.Kz.hd 6 id l.length) _ 1 i nm tn a b sh (sz 1 w) (w.map i64.aB) hx σ σ1 rfl ⟨Cd,Cd⟩ e1).mono ?_
  rintro p1 σ' ⟨rfl,rfl⟩
  have e6:∀(j:Nat) (z:aA),σ[j]?=some z->(0<l.length->j≠id)->σ'[j]?=some z:=λj z hz h=>e4 j z (bR hz) h
  have e5:=xB hr e6;have hK:aW o6 σ σ':=λ_ _ _ _ _ h=>h.elim
  have hL:=cX.row (R':=kI) Ch e2 rfl (λ_ h=>h.elim) hK (rP hg rfl) (x7 1);rw[Q2 _ _ _ hi]at hL;exact jf
 .have hr':=hr Cd;rw[qG Cd];obtain⟨r1,_⟩:=yA.1 hr';have hfl:=lA gs hg;refine(aN2 hU h0 id l.length 2 i nm tn a b sh (sz 1 w) (w.map i64.aB) hx σ _ rfl hi Cd hr' (by rw[hfl,hgl])).mono ?_
  rintro p1 σ' ⟨rfl,rfl⟩
  rw[Q3 hg rfl i Cd];have e6:∀(j:Nat) (z:aA),σ[j]?=some z->(0<l.length->j≠id)->(σ.set id (.row 48 6 0 (aS gs 2 i [.str nm,.str tn,.int .i64 a,.int .i64 b,.int .i64 sh,.slice (sz 1 w) (w.map i64.aB) .any]).flatten)++[aA.box (.agg [.str nm,.str tn,.int .i64 a,.int .i64 b,.int .i64 sh,.slice (sz 1 w) (w.map i64.aB) .any])])[j]?=some z:=λj z hz h=>by
   exact jy
  have e5:=xB hr e6;have hK:aW o6 σ (σ.set id (.row 48 6 0 (aS gs 2 i [.str nm,.str tn,.int .i64 a,.int .i64 b,.int .i64 sh,.slice (sz 1 w) (w.map i64.aB) .any]).flatten)++[aA.box (.agg [.str nm,.str tn,.int .i64 a,.int .i64 b,.int .i64 sh,.slice (sz 1 w) (w.map i64.aB) .any])]):=λ_ _ _ _ _ h=>h.elim
  have hL:=cX.row (R':=kI) Ch (bR (τ:=[aA.box (.agg [.str nm,.str tn,.int .i64 a,.int .i64 b,.int .i64 sh,.slice (sz 1 w) (w.map i64.aB) .any])]) (yAj r1)) rfl (λ_ h=>h.elim) hK (rP hg rfl) (x7 2);exact qy
theorem aNt(h0:E 84=none)(h1:E 114=some (gI 53 5))(h2:E 115=some (sP 53 5)):X7 E qE DV:=by
 intro σ P c l way i d hP hc hw eT;obtain⟨id,gs,rfl,hn,hg,hr,hA⟩:=hP;obtain⟨h,rfl,hh,pT⟩:=hc;obtain⟨nm,pe,a,b,w⟩:=d;simp only at pT ⊢;have hy:lL Em.div 7 j5 σ [.str nm,.bool pe,.int .i64 a,.int .i64 b,h.strip] ⟨nm,pe,a,b,w⟩:=by
  exact uu
 have hAl:=λway:Int=>hA.aS way i (x:=[.str nm,.bool pe,.int .i64 a,.int .i64 b,h.strip]) (y:=⟨nm,pe,a,b,w⟩) (λ_=>hy)
 have x7:=λway:Int=>hA.aS way i (x:=[.str nm,.bool pe,.int .i64 a,.int .i64 b,h]) (y:=⟨nm,pe,a,b,w⟩) (λ_=>pT)
 have hgl:=hA.len;rcases hw with⟨rfl,hi⟩ | ⟨rfl|rfl,hi⟩
 .obtain⟨id',v,σ1,e1,e2,e3,e4⟩:=QZ (e:=53) (k:=5) Ch (n:=l.length) (id:=id) (i:=i) (σ:=(σ++[aA.box (.agg [.str nm,.bool pe,.int .i64 a,.int .i64 b,h])])) (gs:=gs) (y:=.agg [.str nm,.bool pe,.int .i64 a,.int .i64 b,h.strip]) hn hg hgl (λhp=>bR (hr hp)) hi rfl;refine(aN3 hU h0 h1 h2 (Go.Kz.hd 5 id l.length) _ 0 i nm pe a b h hh σ σ1 rfl ⟨Cd,Cd⟩ e1).mono ?_
  rintro p1 σ' ⟨rfl,rfl⟩
  have e6:∀(j:Nat) (z:aA),σ[j]?=some z->(0<l.length->j≠id)->σ'[j]?=some z:=λj z hz h=>e4 j z (bR hz) h
  have e5:=xB hr e6;have hK:aW j5 σ σ':=I0 (e:=53) Et e5;have hL:=cX.row (R':=kJ) Ch e2 (.inl rfl) (λ_ h=>.inr h) hK (rP hg rfl) (hAl 0);rw[Q0 _ _ _ hi]at hL;exact jf
 .obtain⟨σ1,e1,e2,e3,e4⟩:=Q1 (e:=53) (k:=5) Ch (n:=l.length) (id:=id) (i:=i) (σ:=(σ++[aA.box (.agg [.str nm,.bool pe,.int .i64 a,.int .i64 b,h])])) (gs:=gs) [.str nm,.bool pe,.int .i64 a,.int .i64 b,h] hg hgl (bR (hr Cd)) hi;refine(aN4 hU h0 h1 h2 (Go.Kz.hd 5 id l.length) _ 1 i nm pe a b h hh σ σ1 rfl ⟨Cd,Cd⟩ e1).mono ?_
  rintro p1 σ' ⟨rfl,rfl⟩
  have e6:∀(j:Nat) (z:aA),σ[j]?=some z->(0<l.length->j≠id)->σ'[j]?=some z:=λj z hz h=>e4 j z (bR hz) h
  have e5:=xB hr e6;have hK:aW j5 σ σ':=I0 (e:=53) Et e5;have hL:=cX.row (R':=kJ) Ch e2 (.inl rfl) (λ_ h=>.inr h) hK (rP hg rfl) (x7 1);rw[Q2 _ _ _ hi]at hL;exact jf
 .have hr':=hr Cd;rw[qG Cd];obtain⟨r1,_⟩:=yA.1 hr';have hfl:=lA gs hg;refine(aN5 hU h0 id l.length 2 i nm pe a b h hh σ _ rfl hi Cd hr' (by rw[hfl,hgl])).mono ?_
  rintro p1 σ' ⟨rfl,rfl⟩
  rw[Q3 hg rfl i Cd];have e6:∀(j:Nat) (z:aA),σ[j]?=some z->(0<l.length->j≠id)->(σ.set id (.row 53 5 0 (aS gs 2 i [.str nm,.bool pe,.int .i64 a,.int .i64 b,h]).flatten)++[aA.box (.agg [.str nm,.bool pe,.int .i64 a,.int .i64 b,h])])[j]?=some z:=λj z hz h=>by
   exact jy
  have e5:=xB hr e6;have hK:aW j5 σ (σ.set id (.row 53 5 0 (aS gs 2 i [.str nm,.bool pe,.int .i64 a,.int .i64 b,h]).flatten)++[aA.box (.agg [.str nm,.bool pe,.int .i64 a,.int .i64 b,h])]):=I0 (e:=53) Et e5;have hL:=cX.row (R':=kJ) Ch (bR (τ:=[aA.box (.agg [.str nm,.bool pe,.int .i64 a,.int .i64 b,h])]) (yAj r1)) (.inl rfl) (λ_ h=>.inr h) hK (rP hg rfl) (x7 2);exact qy
theorem aNx(h0:E 85=none)(h1:E 116=some (gI 56 4))(h2:E 117=some (sP 56 4)):X9 E:=by
 intro σ id gs c l way i d hn hg hr hA hc hw eT;obtain⟨h,rfl,hh,pT⟩:=hc;obtain⟨nm,a,b,w⟩:=d;simp only at pT ⊢;have hy:lL Em.stop 6 oJ σ [.str nm,.int .i64 a,.int .i64 b,h.strip] ⟨nm,a,b,w⟩:=by
  exact uu
 have hAl:=λway:Int=>hA.aS way i (x:=[.str nm,.int .i64 a,.int .i64 b,h.strip]) (y:=⟨nm,a,b,w⟩) (λ_=>hy)
 have x7:=λway:Int=>hA.aS way i (x:=[.str nm,.int .i64 a,.int .i64 b,h]) (y:=⟨nm,a,b,w⟩) (λ_=>pT)
 have hgl:=hA.len;rcases hw with⟨rfl,hi⟩ | ⟨rfl|rfl,hi⟩
 .obtain⟨id',v,σ1,e1,e2,e3,e4⟩:=QZ (e:=56) (k:=4) Ch (n:=l.length) (id:=id) (i:=i) (σ:=(σ++[aA.box (.agg [.str nm,.int .i64 a,.int .i64 b,h])])) (gs:=gs) (y:=.agg [.str nm,.int .i64 a,.int .i64 b,h.strip]) hn hg hgl (λhp=>bR (hr hp)) hi rfl;refine(aN6 hU h0 h1 h2 (Go.Kz.hd 4 id l.length) _ 0 i nm a b h hh σ σ1 rfl ⟨Cd,Cd⟩ e1).mono ?_
  rintro p1 σ' ⟨rfl,rfl⟩
  have e6:∀(j:Nat) (z:aA),σ[j]?=some z->(0<l.length->j≠id)->σ'[j]?=some z:=λj z hz h=>e4 j z (bR hz) h
  have e5:=xB hr e6;have hK:aW oJ σ σ':=I0 (e:=56) Ex e5;have hL:=Q5 (R':=j5) Ch e2 (.inl rfl) (λ_ h=>.inr h) hK (rP hg rfl) (hAl 0);rw[Q0 _ _ _ hi]at hL;rw[yAa]at e3;exact⟨⟨rfl,rfl,hL⟩,Cd,e6⟩
 .obtain⟨σ1,e1,e2,e3,e4⟩:=Q1 (e:=56) (k:=4) Ch (n:=l.length) (id:=id) (i:=i) (σ:=(σ++[aA.box (.agg [.str nm,.int .i64 a,.int .i64 b,h])])) (gs:=gs) [.str nm,.int .i64 a,.int .i64 b,h] hg hgl (bR (hr Cd)) hi;refine(aN7 hU h0 h1 h2 (Go.Kz.hd 4 id l.length) _ 1 i nm a b h hh σ σ1 rfl ⟨Cd,Cd⟩ e1).mono ?_
  rintro p1 σ' ⟨rfl,rfl⟩
  have e6:∀(j:Nat) (z:aA),σ[j]?=some z->(0<l.length->j≠id)->σ'[j]?=some z:=λj z hz h=>e4 j z (bR hz) h
  have e5:=xB hr e6;have hK:aW oJ σ σ':=I0 (e:=56) Ex e5;have hL:=Q5 (R':=j5) Ch e2 (.inl rfl) (λ_ h=>.inr h) hK (rP hg rfl) (x7 1);rw[Q2 _ _ _ hi]at hL;rw[yAa]at e3;exact⟨⟨rfl,rfl,hL⟩,Cd,e6⟩
 .have hr':=hr Cd;rw[qG Cd];obtain⟨r1,_⟩:=yA.1 hr';have hfl:=lA gs hg;refine(aN8 hU h0 id l.length 2 i nm a b h hh σ _ rfl hi Cd hr' (by rw[hfl,hgl])).mono ?_
  rintro p1 σ' ⟨rfl,rfl⟩
  rw[Q3 hg rfl i Cd];have e6:∀(j:Nat) (z:aA),σ[j]?=some z->(0<l.length->j≠id)->(σ.set id (.row 56 4 0 (aS gs 2 i [.str nm,.int .i64 a,.int .i64 b,h]).flatten)++[aA.box (.agg [.str nm,.int .i64 a,.int .i64 b,h])])[j]?=some z:=λj z hz h=>by
   exact jy
  have e5:=xB hr e6;have hK:aW oJ σ (σ.set id (.row 56 4 0 (aS gs 2 i [.str nm,.int .i64 a,.int .i64 b,h]).flatten)++[aA.box (.agg [.str nm,.int .i64 a,.int .i64 b,h])]):=I0 (e:=56) Ex e5;have hL:=Q5 (R':=j5) Ch (bR (τ:=[aA.box (.agg [.str nm,.int .i64 a,.int .i64 b,h])]) (yAj r1)) (.inl rfl) (λ_ h=>.inr h) hK (rP hg rfl) (x7 2);rw[Q4]at hL;exact⟨⟨rfl,rfl,hL⟩,by rw[yAa,yAD];omega,e6⟩
end
end Go.Kz
