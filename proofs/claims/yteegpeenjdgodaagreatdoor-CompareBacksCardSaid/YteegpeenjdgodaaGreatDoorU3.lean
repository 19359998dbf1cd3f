/- Steps of the proof. -/
import Derived.Test.YteegpeenjdgodaaGreatDoorU2
set_option linter.all false
set_option maxHeartbeats 40000000
set_option maxRecDepth 100000
open Go.Proofs.Tryz
namespace Go.Kz
open Go Go.Proofs
section
variable{E E1 E3 E5 Eo:aE}
theorem aKq(h0:E 18=none)(h1:E 43=some BR)(h2:E 44=some (dO prog E1 44))(H2:IL E1)(h3:E 39=some qW)(h4:E 45=some F0)(h5:E 47=some (dO prog E3 47))(H5:EI E3 47 Em.aN 6 48 6 o6 kI)(h7:E 46=some (dO prog E5 46))(H7:aDg E5)(h6:E 27=some (qC (pL prog Eo 27)))(H6:∀o,dP o->aI prog Eo 27 [Em.bY.aB o] (i64.aB (dG o)))
  (o:aY) (x:bM) (ho:fX o) (hx:dT x) (hf:fS x=0) (hk:1<=x.kind/\x.kind<=3) (hsm:o.aQ.length<=900000) (hwr:∀d∈o.aD,∀s∈d.stops,∀g∈s.aO,∀w∈g.aR,-1000000000<=w.aN/\w.aN<=1000000000) (hokr:dP (IF ((x.kind-1)%3) x.idx x.aN o)) :
  aK prog E 0 (.inl 18) [Em.bY.aB o,Em.edit.aB x] [] (xV (¬eI ((x.kind-1)%3) x.idx o.aQ.length) (((x.kind-1)%3)=1/\LI x.idx o) (IF ((x.kind-1)%3) x.idx x.aN o)):=by
 have hn:1<=x.kind/\x.kind<=13:=Cd;have k1:=λfl σ=>JQ (x:=x) ⟨hn,hx⟩ fl σ
 rw[hf,yAX rfl]at k1;have k3:=λfl σ=>GV (x:=x) hn fl σ
 have hth:(x.kind-1)/3=0:=Cd;rw[hth]at k3;obtain⟨wy,hwy⟩:=gn ((x.kind-1)%3);have iI:wy=0\/wy=1\/wy=2:=Cd;rw[hwy]at k3 hokr;rw[hwy];have k2:=(H2 o ho [.box (Em.bY.aB o),.box (Em.edit.aB x),.box (.agg [.str [],.slice 0 [] .full,.slice 0 [] .full,.slice 0 [] .full])]).e0 Ce;obtain⟨p,σ1,k2,⟨iR,iD,iC,ds,tS,tss,tG,tgs,tW,hO⟩,hl1,hk1⟩:=k2;have hp:=hO.p;subst hp;have b0:=hk1 0 Ce;have b1:=hk1 1 Ce;have b2:=hk1 2 Ce;simp only[yBi,yBB]at b0 b1 b2;obtain⟨hR,hhR⟩:=gn (Go.Kz.hn 6 iR o.aQ.length);obtain⟨hD,hhD⟩:=gn (Go.Kz.hb 5 iD (o.aD.length-1) o.aD.length);obtain⟨hC,hhC⟩:=gn (Go.Kz.hn 5 iC o.aL.length);have pR:hR.plain=true:=Dl;have pD:hD.plain=true:=Cy;have pC:hC.plain=true:=Dm;have cR:hR.cells=[hR]:=Eg;have cD:hD.cells=[hD]:=Db;have cC:hC.cells=[hC]:=Dv;unfold PD.plain at pR pD pC;unfold PD.cells at cR cD cC;simp only[hhR,hhD,hhC]at hO k2;obtain⟨OB,hOB⟩:=gn (σ1.length);have SK:3<=OB:=Fk;obtain⟨σ2,bT⟩:=gn (σ1++[aA.box (.agg [.str o.name,hR,hD,hC])]);have eP:jR σ2 3 o (.agg [.str o.name,hR,hD,hC]) iR iD iC ds tS tss tG tgs tW:=Dt;have gC:3<=σ2.length:=Ew;have D2:σ2≠[]:=λe=>Ey
 have jS:∀x y:aA,(σ1++[x]).set OB y=σ1++[y]:=λx y=>Dy
 have jO:∀x:aA,(σ1++[x])[OB]?=some x:=λx=>Dy
 have c3:σ2[OB]?=some (.box (.agg [.str o.name,hR,hD,hC])):=Fl;have k4:=λfl σ=>SM wy x.idx (o.aQ.length:Nat) fl σ
 have k7:=λhb=>(H7 x.idx (vK wy) hb o _ _ 3 iR iD iC ds tS tss tG tgs tW eP gC ho hwr).e0 D2
 obtain⟨kd,dv,ix,nm,⟨rn,rt,ra,rb,rf,wd⟩,⟨fn,fp,flo,fhi,fs⟩,⟨sn,sa,sb,sg⟩,⟨cn,ca,cb,cs,ct⟩⟩:=x;obtain⟨on,rs,dd,cc⟩:=o;simp only[bZ,fE,bC]at k1 k2 k3 b0 b1 b2 hk hwy;simp only[bZ,fE,bC];have n1:¬kd<1:=Cd;have n2:¬13<kd:=Cd;have c0:=bR (τ:=[aA.box (.agg [.str on,hR,hD,hC])]) b0;have c1:=bR (τ:=[aA.box (.agg [.str on,hR,hD,hC])]) b1;have c2:=bR (τ:=[aA.box (.agg [.str on,hR,hD,hC])]) b2;simp only at bT c3;rw[bT]at c0 c1 c2;obtain⟨w0,z0⟩:=yA.1 c0;obtain⟨w1,z1⟩:=yA.1 c1;obtain⟨w2,z2⟩:=yA.1 c2;obtain⟨w3,z3⟩:=yA.1 c3
 by_cases hb:eI wy ix rs.length
 rotate_left
 .exact cm
 have km:=SO hb iI;simp only[km]at k4;obtain⟨i,rfl⟩:∃i:Nat,ix=i:=⟨ix.toNat,Hw⟩;have hw:=SR hb iI;have k7:=k7 (by rcases iI with rfl|rfl|rfl<;>decide);obtain⟨q7,σ3,k7,hs,rfl,hhs,qI,rQ,eJ,tQ⟩:=k7;have u0:=tQ 0 _ (λn v cs h=>Ck) c0;have u1:=tQ 1 _ (λn v cs h=>Ck) c1;have u2:=tQ 2 _ (λn v cs h=>Ck) c2;have u3:=tQ OB _ (λn v cs h=>Ck) c3;obtain⟨v0,y0⟩:=yA.1 u0;obtain⟨v1,y1⟩:=yA.1 u1;obtain⟨v2,y2⟩:=yA.1 u2;obtain⟨v3,y3⟩:=yA.1 u3
 dsimp only at k7
 by_cases hcf:wy=1/\hs=true
 .exact dz
 have hV:=NP qI;simp only[mT]at hV;rw[yAe]at hV;simp only[hhR,hhD,hhC]at hV;have n3:σ3≠[]:=λe=>by rw[e]at u0;cases u0
 have k5:=(H5 σ3 hR rs wy i ⟨rn,rt,ra,rb,rf,wd⟩ hV.1 hsm hw).e0 n3;obtain⟨Q,bW,k5,⟨pQ,cQ,lQ⟩,jK,cE⟩:=k5;have s0:=(cE 0 v0).trans u0;have s1:=(cE 1 v1).trans u1;have s2:=(cE 2 v2).trans u2;have s3:=(cE OB v3).trans u3;have lQ:cX Em.aN 6 kI bW Q (aS rs wy i ⟨rn,rt,ra,rb,rf,wd⟩):=⟨pQ,cQ,lQ⟩;unfold PD.plain at pQ;unfold PD.cells at cQ;obtain⟨f0,d0⟩:=yA.1 s0;obtain⟨f1,d1⟩:=yA.1 s1;obtain⟨f2,d2⟩:=yA.1 s2;obtain⟨f3,d3⟩:=yA.1 s3;obtain⟨eG,j3⟩:=gn (bW.set OB (.box (.agg [.str on,Q,hD,hC])));have kS:∀R,aW R bW eG:=λR=>Hq
 have a5:eG[OB]?=some (.box (.agg [.str on,Q,hD,hC])):=Ja;have t2:eG[2]?=some (.box (.agg [.str [],.slice 0 [] .full,.slice 0 [] .full,.slice 0 [] .full])):=by rw[<-j3,yAd Cd];exact s2
 have m1:=lQ.aM (kS _);have m2:=(hV.2.1.oI (R':=kJ) Ch (λt ht=>ht)).aM ((wE cE).trans (kS _));have m3:=(hV.2.2.oI (R':=jJ) Ch (λt ht=>ht.elim id False.elim)).aM ((wE cE).trans (kS _));simp only[oA,bC]at k5;have CJ:=λfl=>F7 (on:=on) m1 m2 m3 (H6 _ hokr) fl
 obtain⟨e,he⟩:=gn (dG (IF wy i ⟨rn,rt,ra,rb,rf,wd⟩ ⟨on,rs,dd,cc⟩));have k6:∀fl,qC (pL prog Eo 27) fl [.agg [.str on,Q,hD,hC]] eG=some (.int .i64 e,eG):=λfl=>Fg
 obtain⟨r5,x5⟩:=yA.1 a5;obtain⟨r2,x2⟩:=yA.1 t2;unfold xV;rw[he]
 by_cases hz:e=0
 .subst hz;rcases iI with rfl|rfl|rfl<;>cases hs<;>first|exact absurd ⟨rfl,rfl⟩ hcf|simp only[SS,SU,SW]at k7
  iterate 5
   have CI:=h0;refine aK.aG 166 h0 func18 (h:=?_);refine aC Cb ?_;refine⟨.aH [.agg [.str on,Q,hD,hC],.int .i64 0],eG.set 2 (.box (.agg [.str on,Q,hD,hC])),?_,.inr (.inr ⟨λh=>h hb,(λh=>hcf ⟨h.1,hhs.2 h.2⟩),Q,hD,hC,rfl,m1.aM (aW.set t2 _),m2.aM (aW.set t2 _),m3.aM (aW.set t2 _)⟩)⟩;simp[bV,r2]
 .have l6:=hz;rcases iI with rfl|rfl|rfl<;>cases hs<;>first|exact absurd ⟨rfl,rfl⟩ hcf|simp only[SS,SU,SW]at k7
  iterate 5
   have CI:=h0;refine aK.aG 166 h0 func18 (h:=?_);refine aC Cc ?_;refine⟨.aH [bX,.int .i64 e],eG.set 2 (.box bX),?_,.inr (.inr ⟨λh=>h hb,(λh=>hcf ⟨h.1,hhs.2 h.2⟩),Q,hD,hC,Gb,m1.aM (aW.set t2 _),m2.aM (aW.set t2 _),m3.aM (aW.set t2 _)⟩)⟩;simp[bV,r2,bX]
end
section
variable{E E1 E3 E5 Eo:aE}
theorem aKs(h0:E 18=none)(h1:E 43=some BR)(h2:E 44=some (dO prog E1 44))(H2:IL E1)(h3:E 39=some qW)(h4:E 45=some F0)(h5:E 49=some (dO prog E3 49))(H5:EI E3 49 Em.div 5 53 6 j5 kJ)(h7:E 48=some (dO prog E5 48))(H7:aDh E5)(h6:E 27=some (qC (pL prog Eo 27)))(H6:∀o,dP o->aI prog Eo 27 [Em.bY.aB o] (i64.aB (dG o)))
  (o:aY) (x:bM) (ho:fX o) (hx:dT x) (hf:fS x=0) (hk:4<=x.kind/\x.kind<=6) (hsm:o.aD.length<=900000) (hwr:∀c∈o.aL,(-1000000000<=c.dJ/\c.dJ<=1000000000)/\-1000000000<=c.dst/\c.dst<=1000000000) (hokr:dP (IG ((x.kind-1)%3) x.idx x.frame o)) :
  aK prog E 0 (.inl 18) [Em.bY.aB o,Em.edit.aB x] [] (xV (¬eI ((x.kind-1)%3) x.idx o.aD.length) (((x.kind-1)%3)=1/\LK x.idx o) (IG ((x.kind-1)%3) x.idx x.frame o)):=by
 have hn:1<=x.kind/\x.kind<=13:=Cd;have k1:=λfl σ=>JQ (x:=x) ⟨hn,hx⟩ fl σ
 rw[hf,yAX rfl]at k1;have k3:=λfl σ=>GV (x:=x) hn fl σ
 have hth:(x.kind-1)/3=1:=Cd;rw[hth]at k3;obtain⟨wy,hwy⟩:=gn ((x.kind-1)%3);have iI:wy=0\/wy=1\/wy=2:=Cd;rw[hwy]at k3 hokr;rw[hwy];have k2:=(H2 o ho [.box (Em.bY.aB o),.box (Em.edit.aB x),.box (.agg [.str [],.slice 0 [] .full,.slice 0 [] .full,.slice 0 [] .full])]).e0 Ce;obtain⟨p,σ1,k2,⟨iR,iD,iC,ds,tS,tss,tG,tgs,tW,hO⟩,hl1,hk1⟩:=k2;have hp:=hO.p;subst hp;have b0:=hk1 0 Ce;have b1:=hk1 1 Ce;have b2:=hk1 2 Ce;simp only[yBi,yBB]at b0 b1 b2;obtain⟨hR,hhR⟩:=gn (Go.Kz.hn 6 iR o.aQ.length);obtain⟨hD,hhD⟩:=gn (Go.Kz.hb 5 iD (o.aD.length-1) o.aD.length);obtain⟨hC,hhC⟩:=gn (Go.Kz.hn 5 iC o.aL.length);have pR:hR.plain=true:=Dl;have pD:hD.plain=true:=Cy;have pC:hC.plain=true:=Dm;have cR:hR.cells=[hR]:=Eg;have cD:hD.cells=[hD]:=Db;have cC:hC.cells=[hC]:=Dv;unfold PD.plain at pR pD pC;unfold PD.cells at cR cD cC;simp only[hhR,hhD,hhC]at hO k2;obtain⟨OB,hOB⟩:=gn (σ1.length);have SK:3<=OB:=Fk;obtain⟨σ2,bT⟩:=gn (σ1++[aA.box (.agg [.str o.name,hR,hD,hC])]);have eP:jR σ2 3 o (.agg [.str o.name,hR,hD,hC]) iR iD iC ds tS tss tG tgs tW:=Dt;have gC:3<=σ2.length:=Ew;have D2:σ2≠[]:=λe=>Ey
 have jS:∀x y:aA,(σ1++[x]).set OB y=σ1++[y]:=λx y=>Dy
 have jO:∀x:aA,(σ1++[x])[OB]?=some x:=λx=>Dy
 have c3:σ2[OB]?=some (.box (.agg [.str o.name,hR,hD,hC])):=Fl;have k4:=λfl σ=>SM wy x.idx (o.aD.length:Nat) fl σ
 have k7:=λhb=>(H7 x.idx (vK wy) hb o _ _ 3 iR iD iC ds tS tss tG tgs tW eP gC ho hwr).e0 D2
 obtain⟨kd,dv,ix,nm,⟨rn,rt,ra,rb,rf,wd⟩,⟨fn,fp,flo,fhi,fs⟩,⟨sn,sa,sb,sg⟩,⟨cn,ca,cb,cs,ct⟩⟩:=x;obtain⟨on,rs,dd,cc⟩:=o;simp only[bZ,fE,bC]at k1 k2 k3 b0 b1 b2 hk hwy;simp only[bZ,fE,bC];have n1:¬kd<1:=Cd;have n2:¬13<kd:=Cd;have c0:=bR (τ:=[aA.box (.agg [.str on,hR,hD,hC])]) b0;have c1:=bR (τ:=[aA.box (.agg [.str on,hR,hD,hC])]) b1;have c2:=bR (τ:=[aA.box (.agg [.str on,hR,hD,hC])]) b2;simp only at bT c3;rw[bT]at c0 c1 c2;obtain⟨w0,z0⟩:=yA.1 c0;obtain⟨w1,z1⟩:=yA.1 c1;obtain⟨w2,z2⟩:=yA.1 c2;obtain⟨w3,z3⟩:=yA.1 c3
 by_cases hb:eI wy ix dd.length
 rotate_left
 .exact cm
 have km:=SO hb iI;simp only[km]at k4;obtain⟨i,rfl⟩:∃i:Nat,ix=i:=⟨ix.toNat,Hw⟩;have hw:=SR hb iI;have k7:=k7 (by rcases iI with rfl|rfl|rfl<;>decide);obtain⟨q7,σ3,k7,hs,rfl,hhs,qI,rQ,eJ,tQ⟩:=k7;have u0:=tQ 0 _ (λn v cs h=>Ck) c0;have u1:=tQ 1 _ (λn v cs h=>Ck) c1;have u2:=tQ 2 _ (λn v cs h=>Ck) c2;have u3:=tQ OB _ (λn v cs h=>Ck) c3;obtain⟨v0,y0⟩:=yA.1 u0;obtain⟨v1,y1⟩:=yA.1 u1;obtain⟨v2,y2⟩:=yA.1 u2;obtain⟨v3,y3⟩:=yA.1 u3
 dsimp only at k7
 by_cases hcf:wy=1/\hs=true
 .exact dz
 have hV:=NP qI;simp only[zO]at hV;rw[yAe]at hV;simp only[hhR,hhD,hhC]at hV;have n3:σ3≠[]:=λe=>by rw[e]at u0;cases u0
 have k5:=(H5 σ3 hD dd wy i ⟨fn,fp,flo,fhi,fs⟩ hV.2.1 hsm hw).e0 n3;obtain⟨Q,bW,k5,⟨pQ,cQ,lQ⟩,jK,cE⟩:=k5;have s0:=(cE 0 v0).trans u0;have s1:=(cE 1 v1).trans u1;have s2:=(cE 2 v2).trans u2;have s3:=(cE OB v3).trans u3;have lQ:cX Em.div 5 kJ bW Q (aS dd wy i ⟨fn,fp,flo,fhi,fs⟩):=⟨pQ,cQ,lQ⟩;unfold PD.plain at pQ;unfold PD.cells at cQ;obtain⟨f0,d0⟩:=yA.1 s0;obtain⟨f1,d1⟩:=yA.1 s1;obtain⟨f2,d2⟩:=yA.1 s2;obtain⟨f3,d3⟩:=yA.1 s3;obtain⟨eG,j3⟩:=gn (bW.set OB (.box (.agg [.str on,hR,Q,hC])));have kS:∀R,aW R bW eG:=λR=>Hq
 have a5:eG[OB]?=some (.box (.agg [.str on,hR,Q,hC])):=Ja;have t2:eG[2]?=some (.box (.agg [.str [],.slice 0 [] .full,.slice 0 [] .full,.slice 0 [] .full])):=by rw[<-j3,yAd Cd];exact s2
 have m1:=(hV.1.oI (R':=kI) Ch (λt ht=>ht.elim id False.elim)).aM ((wE cE).trans (kS _));have m2:=lQ.aM (kS _);have m3:=(hV.2.2.oI (R':=jJ) Ch (λt ht=>ht.elim id False.elim)).aM ((wE cE).trans (kS _));simp only[nJ,bC]at k5;have CJ:=λfl=>F7 (on:=on) m1 m2 m3 (H6 _ hokr) fl
 obtain⟨e,he⟩:=gn (dG (IG wy i ⟨fn,fp,flo,fhi,fs⟩ ⟨on,rs,dd,cc⟩));have k6:∀fl,qC (pL prog Eo 27) fl [.agg [.str on,hR,Q,hC]] eG=some (.int .i64 e,eG):=λfl=>Fg
 obtain⟨r5,x5⟩:=yA.1 a5;obtain⟨r2,x2⟩:=yA.1 t2;unfold xV;rw[he]
 by_cases hz:e=0
 .subst hz;rcases iI with rfl|rfl|rfl<;>cases hs<;>first|exact absurd ⟨rfl,rfl⟩ hcf|simp only[SS,SU,SW]at k7
  iterate 5
   have CI:=h0;refine aK.aG 166 h0 func18 (h:=?_);refine aC Cb ?_;refine⟨.aH [.agg [.str on,hR,Q,hC],.int .i64 0],eG.set 2 (.box (.agg [.str on,hR,Q,hC])),?_,.inr (.inr ⟨λh=>h hb,(λh=>hcf ⟨h.1,hhs.2 h.2⟩),hR,Q,hC,rfl,m1.aM (aW.set t2 _),m2.aM (aW.set t2 _),m3.aM (aW.set t2 _)⟩)⟩;simp[bV,r2]
 .have l6:=hz;rcases iI with rfl|rfl|rfl<;>cases hs<;>first|exact absurd ⟨rfl,rfl⟩ hcf|simp only[SS,SU,SW]at k7
  iterate 5
   have CI:=h0;refine aK.aG 166 h0 func18 (h:=?_);refine aC Cc ?_;refine⟨.aH [bX,.int .i64 e],eG.set 2 (.box bX),?_,.inr (.inr ⟨λh=>h hb,(λh=>hcf ⟨h.1,hhs.2 h.2⟩),hR,Q,hC,Gb,m1.aM (aW.set t2 _),m2.aM (aW.set t2 _),m3.aM (aW.set t2 _)⟩)⟩;simp[bV,r2,bX]
end
end Go.Kz
