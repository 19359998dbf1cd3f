/- Steps of the proof. -/
import Derived.Test.YteegpeenjdgodaaGreatDoorU2
set_option linter.all false
set_option maxHeartbeats 40000000
set_option maxRecDepth 100000
open Go.Proofs.Tryz
namespace Go.Kz
open Go Go.Proofs
section
variable{E E1 E3 E5 Eo:aE}
theorem aI4(h0:E 18=none)(h1:E 43=some y9)(h2:E 44=some (gP prog E1 44))(H2:F0 E1)(h3:E 39=some y8)(h4:E 45=some DB)(h5:E 47=some (gP prog E3 47))(H5:BY E3 47 Em.aG 6 48 6 uL sV)(h7:E 46=some (gP prog E5 46))(H7:aBC E5)(h6:E 27=some (pL (oY prog Eo 27)))(H6:∀o,dP o->aI prog Eo 27 [Em.bH.aA o] (i64.aA (bS o)))
  (o:aM) (x:bJ) (ho:eV o) (hx:fO x) (hf:gQ x=0) (hk:1<=x.kind/\x.kind<=3) (hsm:o.aK.length<=900000) (hwr:∀d∈o.aD,∀s∈d.stops,∀g∈s.aO,∀w∈g.aT,-1000000000<=w.aG/\w.aG<=1000000000) (hokr:dP (FT ((x.kind-1)%3) x.idx x.aG o)) :
  aL prog E 0 (.inl 18) [Em.bH.aA o,Em.edit.aA x] [] (vF (¬mL ((x.kind-1)%3) x.idx o.aK.length) (((x.kind-1)%3)=1/\IY x.idx o) (FT ((x.kind-1)%3) x.idx x.aG o)):=by
 have hn:1<=x.kind/\x.kind<=13:=ye;have k1:=λfl σ=>GP (x:=x) ⟨hn,hx⟩ fl σ
 rw[hf,yAV rfl]at k1;have k3:=λfl σ=>GQ (x:=x) hn fl σ
 have hth:(x.kind-1)/3=0:=ye;rw[hth]at k3;obtain⟨wy,hwy⟩:=gn ((x.kind-1)%3);have iL:wy=0\/wy=1\/wy=2:=ye;rw[hwy]at k3 hokr;rw[hwy];have k2:=(H2 o ho [.box (Em.bH.aA o),.box (Em.edit.aA x),.box (.agg [.str [],.slice 0 [] .full,.slice 0 [] .full,.slice 0 [] .full])]).e0 yg;obtain⟨p,σ1,k2,⟨iR,iD,iC,ds,tS,tss,tG,tgs,tW,hO⟩,hl1,hk1⟩:=k2;have hp:=hO.p;subst hp;have b0:=hk1 0 yg;have b1:=hk1 1 yg;have b2:=hk1 2 yg;simp only[yBC,yBT]at b0 b1 b2;obtain⟨hR,hhR⟩:=gn (Go.Kz.hn 6 iR o.aK.length);obtain⟨hD,hhD⟩:=gn (Go.Kz.hb 5 iD (o.aD.length-1) o.aD.length);obtain⟨hC,hhC⟩:=gn (Go.Kz.hn 5 iC o.aR.length);have pR:hR.plain=true:=Aa;have pD:hD.plain=true:=zj;have pC:hC.plain=true:=Ab;have cR:hR.cells=[hR]:=Al;have cD:hD.cells=[hD]:=zq;have cC:hC.cells=[hC]:=Ag;unfold PD.plain at pR pD pC;unfold PD.cells at cR cD cC;simp only[hhR,hhD,hhC]at hO k2;obtain⟨OB,hOB⟩:=gn (σ1.length);have O9:3<=OB:=Bn;obtain⟨σ2,dB⟩:=gn (σ1++[aB.box (.agg [.str o.name,hR,hD,hC])]);have p6:gX σ2 3 o (.agg [.str o.name,hR,hD,hC]) iR iD iC ds tS tss tG tgs tW:=Ae;have p7:3<=σ2.length:=Bv;have BJ:σ2≠[]:=λe=>Ba
 have jS:∀x y:aB,(σ1++[x]).set OB y=σ1++[y]:=λx y=>Aj
 have jO:∀x:aB,(σ1++[x])[OB]?=some x:=λx=>Aj
 have c3:σ2[OB]?=some (.box (.agg [.str o.name,hR,hD,hC])):=Bo;have k4:=λfl σ=>PA wy x.idx (o.aK.length:Nat) fl σ
 have k7:=λhb=>(H7 x.idx (sS wy) hb o _ _ 3 iR iD iC ds tS tss tG tgs tW p6 p7 ho hwr).e0 BJ
 obtain⟨kd,dv,ix,nm,⟨rn,rt,ra,rb,rf,wd⟩,⟨fn,fp,flo,fhi,fs⟩,⟨sn,sa,sb,sg⟩,⟨cn,ca,cb,cs,ct⟩⟩:=x;obtain⟨on,rs,dd,cc⟩:=o;simp only[eI,iA,aV]at k1 k2 k3 b0 b1 b2 hk hwy;simp only[eI,iA,aV];have n1:¬kd<1:=ye;have n2:¬13<kd:=ye;have c0:=cL (τ:=[aB.box (.agg [.str on,hR,hD,hC])]) b0;have c1:=cL (τ:=[aB.box (.agg [.str on,hR,hD,hC])]) b1;have c2:=cL (τ:=[aB.box (.agg [.str on,hR,hD,hC])]) b2;simp only at dB c3;rw[dB]at c0 c1 c2;obtain⟨w0,z0⟩:=yA.1 c0;obtain⟨w1,z1⟩:=yA.1 c1;obtain⟨w2,z2⟩:=yA.1 c2;obtain⟨w3,z3⟩:=yA.1 c3
 by_cases hb:mL wy ix rs.length
 rotate_left
 .exact bf
 have km:=PC hb iL;simp only[km]at k4;obtain⟨i,rfl⟩:∃i:Nat,ix=i:=⟨ix.toNat,Dq⟩;have hw:=PE hb iL;have k7:=k7 (by rcases iL with rfl|rfl|rfl<;>decide);obtain⟨q7,σ3,k7,hs,rfl,hhs,GR,v8,iN,eN⟩:=k7;have u0:=eN 0 _ (λn v cs h=>yw) c0;have u1:=eN 1 _ (λn v cs h=>yw) c1;have u2:=eN 2 _ (λn v cs h=>yw) c2;have u3:=eN OB _ (λn v cs h=>yw) c3;obtain⟨v0,y0⟩:=yA.1 u0;obtain⟨v1,y1⟩:=yA.1 u1;obtain⟨v2,y2⟩:=yA.1 u2;obtain⟨v3,y3⟩:=yA.1 u3
 dsimp only at k7
 by_cases hcf:wy=1/\hs=true
 .exact cj
 have hV:=KR GR;simp only[lH]at hV;rw[yAe]at hV;simp only[hhR,hhD,hhC]at hV;have n3:σ3≠[]:=λe=>by rw[e]at u0;cases u0
 have k5:=(H5 σ3 hR rs wy i ⟨rn,rt,ra,rb,rf,wd⟩ hV.1 hsm hw).e0 n3;obtain⟨Q,gE,k5,⟨pQ,cQ,lQ⟩,vY,eR⟩:=k5;have s0:=(eR 0 v0).trans u0;have s1:=(eR 1 v1).trans u1;have s2:=(eR 2 v2).trans u2;have s3:=(eR OB v3).trans u3;have lQ:fP Em.aG 6 sV gE Q (dA rs wy i ⟨rn,rt,ra,rb,rf,wd⟩):=⟨pQ,cQ,lQ⟩;unfold PD.plain at pQ;unfold PD.cells at cQ;obtain⟨f0,d0⟩:=yA.1 s0;obtain⟨f1,d1⟩:=yA.1 s1;obtain⟨f2,d2⟩:=yA.1 s2;obtain⟨f3,d3⟩:=yA.1 s3;obtain⟨eM,iH⟩:=gn (gE.set OB (.box (.agg [.str on,Q,hD,hC])));have kS:∀R,cF R gE eM:=λR=>Dj
 have a5:eM[OB]?=some (.box (.agg [.str on,Q,hD,hC])):=Ek;have t2:eM[2]?=some (.box (.agg [.str [],.slice 0 [] .full,.slice 0 [] .full,.slice 0 [] .full])):=by rw[<-iH,yAd ye];exact s2
 have m1:=lQ.bF (kS _);have m2:=(hV.2.1.nE (R':=sW) yj (λt ht=>ht)).bF ((tI eR).trans (kS _));have m3:=(hV.2.2.nE (R':=sX) yj (λt ht=>ht.elim id False.elim)).bF ((tI eR).trans (kS _));simp only[oD,aV]at k5;have zU:=λfl=>JH (on:=on) m1 m2 m3 (H6 _ hokr) fl
 obtain⟨e,he⟩:=gn (bS (FT wy i ⟨rn,rt,ra,rb,rf,wd⟩ ⟨on,rs,dd,cc⟩));have k6:∀fl,pL (oY prog Eo 27) fl [.agg [.str on,Q,hD,hC]] eM=some (.int .i64 e,eM):=λfl=>Bg
 obtain⟨r5,x5⟩:=yA.1 a5;obtain⟨r2,x2⟩:=yA.1 t2;unfold vF;rw[he]
 by_cases hz:e=0
 .subst hz;rcases iL with rfl|rfl|rfl<;>cases hs<;>first|exact absurd ⟨rfl,rfl⟩ hcf|simp only[PF,PG,PH]at k7
  iterate 5
   have DW:=h0;refine aL.aN 166 h0 func18 (h:=?_);refine aC yc ?_;refine⟨.aP [.agg [.str on,Q,hD,hC],.int .i64 0],eM.set 2 (.box (.agg [.str on,Q,hD,hC])),?_,.inr (.inr ⟨λh=>h hb,(λh=>hcf ⟨h.1,hhs.2 h.2⟩),Q,hD,hC,rfl,m1.bF (cF.set t2 _),m2.bF (cF.set t2 _),m3.bF (cF.set t2 _)⟩)⟩;simp[eF,r2]
 .have jI:=hz;rcases iL with rfl|rfl|rfl<;>cases hs<;>first|exact absurd ⟨rfl,rfl⟩ hcf|simp only[PF,PG,PH]at k7
  iterate 5
   have DW:=h0;refine aL.aN 166 h0 func18 (h:=?_);refine aC yd ?_;refine⟨.aP [oZ,.int .i64 e],eM.set 2 (.box oZ),?_,.inr (.inr ⟨λh=>h hb,(λh=>hcf ⟨h.1,hhs.2 h.2⟩),Q,hD,hC,by rw[yAI hz],m1.bF (cF.set t2 _),m2.bF (cF.set t2 _),m3.bF (cF.set t2 _)⟩)⟩;simp[eF,r2,oZ]
end
section
variable{E E1 E3 E5 Eo:aE}
theorem aI6(h0:E 18=none)(h1:E 43=some y9)(h2:E 44=some (gP prog E1 44))(H2:F0 E1)(h3:E 39=some y8)(h4:E 45=some DB)(h5:E 49=some (gP prog E3 49))(H5:BY E3 49 Em.div 5 53 6 oI sW)(h7:E 48=some (gP prog E5 48))(H7:aBD E5)(h6:E 27=some (pL (oY prog Eo 27)))(H6:∀o,dP o->aI prog Eo 27 [Em.bH.aA o] (i64.aA (bS o)))
  (o:aM) (x:bJ) (ho:eV o) (hx:fO x) (hf:gQ x=0) (hk:4<=x.kind/\x.kind<=6) (hsm:o.aD.length<=900000) (hwr:∀c∈o.aR,(-1000000000<=c.dS/\c.dS<=1000000000)/\-1000000000<=c.dst/\c.dst<=1000000000) (hokr:dP (FV ((x.kind-1)%3) x.idx x.frame o)) :
  aL prog E 0 (.inl 18) [Em.bH.aA o,Em.edit.aA x] [] (vF (¬mL ((x.kind-1)%3) x.idx o.aD.length) (((x.kind-1)%3)=1/\I0 x.idx o) (FV ((x.kind-1)%3) x.idx x.frame o)):=by
 have hn:1<=x.kind/\x.kind<=13:=ye;have k1:=λfl σ=>GP (x:=x) ⟨hn,hx⟩ fl σ
 rw[hf,yAV rfl]at k1;have k3:=λfl σ=>GQ (x:=x) hn fl σ
 have hth:(x.kind-1)/3=1:=ye;rw[hth]at k3;obtain⟨wy,hwy⟩:=gn ((x.kind-1)%3);have iL:wy=0\/wy=1\/wy=2:=ye;rw[hwy]at k3 hokr;rw[hwy];have k2:=(H2 o ho [.box (Em.bH.aA o),.box (Em.edit.aA x),.box (.agg [.str [],.slice 0 [] .full,.slice 0 [] .full,.slice 0 [] .full])]).e0 yg;obtain⟨p,σ1,k2,⟨iR,iD,iC,ds,tS,tss,tG,tgs,tW,hO⟩,hl1,hk1⟩:=k2;have hp:=hO.p;subst hp;have b0:=hk1 0 yg;have b1:=hk1 1 yg;have b2:=hk1 2 yg;simp only[yBC,yBT]at b0 b1 b2;obtain⟨hR,hhR⟩:=gn (Go.Kz.hn 6 iR o.aK.length);obtain⟨hD,hhD⟩:=gn (Go.Kz.hb 5 iD (o.aD.length-1) o.aD.length);obtain⟨hC,hhC⟩:=gn (Go.Kz.hn 5 iC o.aR.length);have pR:hR.plain=true:=Aa;have pD:hD.plain=true:=zj;have pC:hC.plain=true:=Ab;have cR:hR.cells=[hR]:=Al;have cD:hD.cells=[hD]:=zq;have cC:hC.cells=[hC]:=Ag;unfold PD.plain at pR pD pC;unfold PD.cells at cR cD cC;simp only[hhR,hhD,hhC]at hO k2;obtain⟨OB,hOB⟩:=gn (σ1.length);have O9:3<=OB:=Bn;obtain⟨σ2,dB⟩:=gn (σ1++[aB.box (.agg [.str o.name,hR,hD,hC])]);have p6:gX σ2 3 o (.agg [.str o.name,hR,hD,hC]) iR iD iC ds tS tss tG tgs tW:=Ae;have p7:3<=σ2.length:=Bv;have BJ:σ2≠[]:=λe=>Ba
 have jS:∀x y:aB,(σ1++[x]).set OB y=σ1++[y]:=λx y=>Aj
 have jO:∀x:aB,(σ1++[x])[OB]?=some x:=λx=>Aj
 have c3:σ2[OB]?=some (.box (.agg [.str o.name,hR,hD,hC])):=Bo;have k4:=λfl σ=>PA wy x.idx (o.aD.length:Nat) fl σ
 have k7:=λhb=>(H7 x.idx (sS wy) hb o _ _ 3 iR iD iC ds tS tss tG tgs tW p6 p7 ho hwr).e0 BJ
 obtain⟨kd,dv,ix,nm,⟨rn,rt,ra,rb,rf,wd⟩,⟨fn,fp,flo,fhi,fs⟩,⟨sn,sa,sb,sg⟩,⟨cn,ca,cb,cs,ct⟩⟩:=x;obtain⟨on,rs,dd,cc⟩:=o;simp only[eI,iA,aV]at k1 k2 k3 b0 b1 b2 hk hwy;simp only[eI,iA,aV];have n1:¬kd<1:=ye;have n2:¬13<kd:=ye;have c0:=cL (τ:=[aB.box (.agg [.str on,hR,hD,hC])]) b0;have c1:=cL (τ:=[aB.box (.agg [.str on,hR,hD,hC])]) b1;have c2:=cL (τ:=[aB.box (.agg [.str on,hR,hD,hC])]) b2;simp only at dB c3;rw[dB]at c0 c1 c2;obtain⟨w0,z0⟩:=yA.1 c0;obtain⟨w1,z1⟩:=yA.1 c1;obtain⟨w2,z2⟩:=yA.1 c2;obtain⟨w3,z3⟩:=yA.1 c3
 by_cases hb:mL wy ix dd.length
 rotate_left
 .exact bf
 have km:=PC hb iL;simp only[km]at k4;obtain⟨i,rfl⟩:∃i:Nat,ix=i:=⟨ix.toNat,Dq⟩;have hw:=PE hb iL;have k7:=k7 (by rcases iL with rfl|rfl|rfl<;>decide);obtain⟨q7,σ3,k7,hs,rfl,hhs,GR,v8,iN,eN⟩:=k7;have u0:=eN 0 _ (λn v cs h=>yw) c0;have u1:=eN 1 _ (λn v cs h=>yw) c1;have u2:=eN 2 _ (λn v cs h=>yw) c2;have u3:=eN OB _ (λn v cs h=>yw) c3;obtain⟨v0,y0⟩:=yA.1 u0;obtain⟨v1,y1⟩:=yA.1 u1;obtain⟨v2,y2⟩:=yA.1 u2;obtain⟨v3,y3⟩:=yA.1 u3
 dsimp only at k7
 by_cases hcf:wy=1/\hs=true
 .exact cj
 have hV:=KR GR;simp only[w6]at hV;rw[yAe]at hV;simp only[hhR,hhD,hhC]at hV;have n3:σ3≠[]:=λe=>by rw[e]at u0;cases u0
 have k5:=(H5 σ3 hD dd wy i ⟨fn,fp,flo,fhi,fs⟩ hV.2.1 hsm hw).e0 n3;obtain⟨Q,gE,k5,⟨pQ,cQ,lQ⟩,vY,eR⟩:=k5;have s0:=(eR 0 v0).trans u0;have s1:=(eR 1 v1).trans u1;have s2:=(eR 2 v2).trans u2;have s3:=(eR OB v3).trans u3;have lQ:fP Em.div 5 sW gE Q (dA dd wy i ⟨fn,fp,flo,fhi,fs⟩):=⟨pQ,cQ,lQ⟩;unfold PD.plain at pQ;unfold PD.cells at cQ;obtain⟨f0,d0⟩:=yA.1 s0;obtain⟨f1,d1⟩:=yA.1 s1;obtain⟨f2,d2⟩:=yA.1 s2;obtain⟨f3,d3⟩:=yA.1 s3;obtain⟨eM,iH⟩:=gn (gE.set OB (.box (.agg [.str on,hR,Q,hC])));have kS:∀R,cF R gE eM:=λR=>Dj
 have a5:eM[OB]?=some (.box (.agg [.str on,hR,Q,hC])):=Ek;have t2:eM[2]?=some (.box (.agg [.str [],.slice 0 [] .full,.slice 0 [] .full,.slice 0 [] .full])):=by rw[<-iH,yAd ye];exact s2
 have m1:=(hV.1.nE (R':=sV) yj (λt ht=>ht.elim id False.elim)).bF ((tI eR).trans (kS _));have m2:=lQ.bF (kS _);have m3:=(hV.2.2.nE (R':=sX) yj (λt ht=>ht.elim id False.elim)).bF ((tI eR).trans (kS _));simp only[nN,aV]at k5;have zU:=λfl=>JH (on:=on) m1 m2 m3 (H6 _ hokr) fl
 obtain⟨e,he⟩:=gn (bS (FV wy i ⟨fn,fp,flo,fhi,fs⟩ ⟨on,rs,dd,cc⟩));have k6:∀fl,pL (oY prog Eo 27) fl [.agg [.str on,hR,Q,hC]] eM=some (.int .i64 e,eM):=λfl=>Bg
 obtain⟨r5,x5⟩:=yA.1 a5;obtain⟨r2,x2⟩:=yA.1 t2;unfold vF;rw[he]
 by_cases hz:e=0
 .subst hz;rcases iL with rfl|rfl|rfl<;>cases hs<;>first|exact absurd ⟨rfl,rfl⟩ hcf|simp only[PF,PG,PH]at k7
  iterate 5
   have DW:=h0;refine aL.aN 166 h0 func18 (h:=?_);refine aC yc ?_;refine⟨.aP [.agg [.str on,hR,Q,hC],.int .i64 0],eM.set 2 (.box (.agg [.str on,hR,Q,hC])),?_,.inr (.inr ⟨λh=>h hb,(λh=>hcf ⟨h.1,hhs.2 h.2⟩),hR,Q,hC,rfl,m1.bF (cF.set t2 _),m2.bF (cF.set t2 _),m3.bF (cF.set t2 _)⟩)⟩;simp[eF,r2]
 .have jI:=hz;rcases iL with rfl|rfl|rfl<;>cases hs<;>first|exact absurd ⟨rfl,rfl⟩ hcf|simp only[PF,PG,PH]at k7
  iterate 5
   have DW:=h0;refine aL.aN 166 h0 func18 (h:=?_);refine aC yd ?_;refine⟨.aP [oZ,.int .i64 e],eM.set 2 (.box oZ),?_,.inr (.inr ⟨λh=>h hb,(λh=>hcf ⟨h.1,hhs.2 h.2⟩),hR,Q,hC,by rw[yAI hz],m1.bF (cF.set t2 _),m2.bF (cF.set t2 _),m3.bF (cF.set t2 _)⟩)⟩;simp[eF,r2,oZ]
end
end Go.Kz
