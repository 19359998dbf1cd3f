/- Steps of the proof. -/
import Derived.Test.YteegpeenjdgodaaGreatDoorU2
import Derived.Test.YteegpeenjdgodaaGreatDoorT3
import Derived.Test.YteegpeenjdgodaaGreatDoorT5b
import Derived.Test.YteegpeenjdgodaaGreatDoorS9
import Derived.Test.YteegpeenjdgodaaGreatDoorS5b
import Derived.Test.YteegpeenjdgodaaGreatDoorS0
import Derived.Test.YteegpeenjdgodaaGreatDoorU3
import Derived.Test.YteegpeenjdgodaaGreatDoorS7
set_option linter.all false
set_option maxHeartbeats 40000000
set_option maxRecDepth 100000
open Go.Proofs.Tryz
noncomputable section
namespace Go.Kz
open Go Go.Proofs
section
theorem aSO{σ σ':Jj}{lo:Nat}{o:aY}{p:PD}{iR iD iC:Nat}{ds:Jh}{tS:Nat->Nat}{tss:Jg}{tG:Nat->Nat->Nat}{tgs:Jf}{tW:Nat->Nat->Nat->Nat}(hO:jR σ lo o p iR iD iC ds tS tss tG tgs tW)(d:Nat)(hd:d<o.aD.length)(Q:PD)(l:List cO)(hQ:∀τ,aW j5 σ' τ->lM Em.stop 4 τ 7 Q l)
  (hk:aW j5 σ σ') (hr:σ'[iD]?=some (.row 53 5 (o.aD.length-1) (ds.set d [.str o.aD[d].name,.bool o.aD[d].dV,.int .i64 o.aD[d].low,.int .i64 o.aD[d].high,Q]).flatten)) :
  cX Em.div 5 kJ σ' (Go.Kz.hb 5 iD (o.aD.length-1) o.aD.length) (o.aD.set d { o.aD[d]with stops:=l }):=by
 have hA:eX (lL Em.div 7 j5 σ') (ds.set d [.str o.aD[d].name,.bool o.aD[d].dV,.int .i64 o.aD[d].low,.int .i64 o.aD[d].high,Q]) (o.aD.set d { o.aD[d]with stops:=l }):=by
  refine eX.of (by rw[yAD,yAD,hO.len]) λi h1 h2=>?_
  rw[yAD]at h1 h2
  by_cases e:i=d
  .subst e;rw[yCU,yCU];exact λτ eF=>QT (d:={ o.aD[i]with stops:=l }) (L:=6) (hQ τ eF)
  .rw[yDO (yAU e),yDO (yAU e)];have e1:=(yA.1 (hO.at_ i h2).1).2;rw[e1];exact((hO.at_ i h2).2.kept hk).wV
 have h0:=cX.row (R:=j5) (R':=kJ) (v:=o.aD.length-1) Ch hr (.inl rfl) (λ_ h=>.inr h) (λ_ _ _ _ _ _ h=>h) (λg hg=>by
  rcases yCN hg with hg|rfl
  .exact uC hO.len (λi hi=>⟨_,(hO.at_ i hi).1,rfl⟩) g hg
  .rfl) hA
 rw[yAD]at h0;rw[BP Cd];exact h0
variable{E E1 E3 E5 Eo:aE}
theorem aKu(h0:E 18=none)(h1:E 43=some BR)(h2:E 44=some (dO prog E1 44))(H2:IL E1)(h3:E 39=some qW)(h4:E 45=some F0)(h5:E 50=some (dO prog E3 50))(H5:EI E3 50 Em.stop 4 56 5 oJ j5)(h6:E 27=some (qC (pL prog Eo 27)))(H6:∀o,dP o->aI prog Eo 27 [Em.bY.aB o] (i64.aB (dG o)))
  (o:aY) (x:bM) (ho:fX o) (hx:dT x) (hf:fS x=0) (hk:7<=x.kind/\x.kind<=9) (hsm:∀d∈o.aD,d.stops.length<=900000) (hokr:x.div.toNat<o.aD.length->dP (mV ((x.kind-1)%3) x.idx x.div x.stop o)) :
  aK prog E 0 (.inl 18) [Em.bY.aB o,Em.edit.aB x] [] (xV (¬((0<=x.div/\x.div<o.aD.length)/\eI ((x.kind-1)%3) x.idx (o.aD.getD x.div.toNat aU).stops.length)) (False) (mV ((x.kind-1)%3) x.idx x.div x.stop o)):=by
 have hn:1<=x.kind/\x.kind<=13:=Cd;have k1:=λfl σ=>JQ (x:=x) ⟨hn,hx⟩ fl σ
 rw[hf,yAX rfl]at k1;have k3:=λfl σ=>GV (x:=x) hn fl σ
 have hth:(x.kind-1)/3=2:=Cd;rw[hth]at k3;obtain⟨wy,hwy⟩:=gn ((x.kind-1)%3);have iI:wy=0\/wy=1\/wy=2:=Cd;rw[hwy]at k3 hokr;rw[hwy];have k2:=(H2 o ho [.box (Em.bY.aB o),.box (Em.edit.aB x),.box (.agg [.str [],.slice 0 [] .full,.slice 0 [] .full,.slice 0 [] .full])]).e0 Ce;obtain⟨p,σ1,k2,⟨iR,iD,iC,ds,tS,tss,tG,tgs,tW,hO⟩,hl1,hk1⟩:=k2;have hp:=hO.p;subst hp;have b0:=hk1 0 Ce;have b1:=hk1 1 Ce;have b2:=hk1 2 Ce;simp only[yBi,yBB]at b0 b1 b2;obtain⟨hR,hhR⟩:=gn (Go.Kz.hn 6 iR o.aQ.length);obtain⟨hD,hhD⟩:=gn (Go.Kz.hb 5 iD (o.aD.length-1) o.aD.length);obtain⟨hC,hhC⟩:=gn (Go.Kz.hn 5 iC o.aL.length);have pR:hR.plain=true:=Dl;have pD:hD.plain=true:=Cy;have pC:hC.plain=true:=Dm;have cR:hR.cells=[hR]:=Eg;have cD:hD.cells=[hD]:=Db;have cC:hC.cells=[hC]:=Dv;unfold PD.plain at pR pD pC;unfold PD.cells at cR cD cC;simp only[hhR,hhD,hhC]at hO k2;obtain⟨OB,hOB⟩:=gn (σ1.length);have SK:3<=OB:=Fk;obtain⟨σ2,bT⟩:=gn (σ1++[aA.box (.agg [.str o.name,hR,hD,hC])]);have eP:jR σ2 3 o (.agg [.str o.name,hR,hD,hC]) iR iD iC ds tS tss tG tgs tW:=Dt;have gC:3<=σ2.length:=Ew;have D2:σ2≠[]:=λe=>Ey
 have jS:∀x y:aA,(σ1++[x]).set OB y=σ1++[y]:=λx y=>Dy
 have jO:∀x:aA,(σ1++[x])[OB]?=some x:=λx=>Dy
 have c3:σ2[OB]?=some (.box (.agg [.str o.name,hR,hD,hC])):=Fl;obtain⟨kd,dv,ix,nm,⟨rn,rt,ra,rb,rf,wd⟩,⟨fn,fp,flo,fhi,fs⟩,⟨sn,sa,sb,sg⟩,⟨cn,ca,cb,cs,ct⟩⟩:=x;obtain⟨on,rs,dd,cc⟩:=o;simp only[bZ,fE,bC]at k1 k2 k3 b0 b1 b2 hk hwy;simp only[bZ,fE,bC];have n1:¬kd<1:=Cd;have n2:¬13<kd:=Cd;have c0:=bR (τ:=[aA.box (.agg [.str on,hR,hD,hC])]) b0;have c1:=bR (τ:=[aA.box (.agg [.str on,hR,hD,hC])]) b1;have c2:=bR (τ:=[aA.box (.agg [.str on,hR,hD,hC])]) b2;simp only at bT c3;rw[bT]at c0 c1 c2;obtain⟨w0,z0⟩:=yA.1 c0;obtain⟨w1,z1⟩:=yA.1 c1;obtain⟨w2,z2⟩:=yA.1 c2;obtain⟨w3,z3⟩:=yA.1 c3;have hoD:=hO.len
 by_cases q1:dv<0
 .have hz:=h0;refine aK.aG 166 h0 func18 (h:=?_);refine aC (A20 h1 k1 h2 k2 h3 k3 n1 n2 hOB jO jS bT c0 c1 c2 c3 w0 w1 w2 (A12 w3 @z0 z1 @z2 @z3 pR pD pC cR cD cC q1)) ?_;exact⟨.aH [bE,.int .i64 10],σ2.set 2 (.box bE),by simp[bV,w2,bE],.inl ⟨λh=>by have:=h.1.1;omega,rfl⟩⟩
 by_cases q2:(dd.length:Int)<=dv
 .have hz:=h0;refine aK.aG 166 h0 func18 (h:=?_);refine aC (A20 h1 k1 h2 k2 h3 k3 n1 n2 hOB jO jS bT c0 c1 c2 c3 w0 w1 w2 (A13 w3 @z0 z1 @z2 @z3 pR pD pC cR cD cC q1 q2)) ?_;exact⟨.aH [bE,.int .i64 10],σ2.set 2 (.box bE),by simp[bV,w2,bE],.inl ⟨λh=>by have:=h.1.2;omega,rfl⟩⟩
 obtain⟨d,rfl⟩:∃d:Nat,dv=d:=⟨dv.toNat,Cd⟩;have hd:d<dd.length:=Cd;have hge:dd.getD d aU=dd[d]:=by rw[yAA,yAh hd];rfl
 have hed:mV wy ix (d:Int) ⟨sn,sa,sb,sg⟩ ⟨on,rs,dd,cc⟩=⟨on,rs,dd.set d { dd[d]with stops:=aS dd[d].stops wy ix.toNat ⟨sn,sa,sb,sg⟩ },cc⟩:=by
  unfold mV;simp only[yBj,hge]
 have hokr:=hokr hd;simp only[yBj,hge]at hokr ⊢;rw[hed]at hokr ⊢;have hcl:dd[d].stops.length<=900000:=hsm _ (yAm hd);have hpos:(0:Int)<=(d:Int):=Cd;have hdq:(d:Int)<(dd.length:Int):=Cd;simp only[hpos,hdq,yBA,yCj];have k4:=λfl σ=>SM wy ix (dd[d].stops.length:Nat) fl σ
 have xd:(dd.map Em.div.aB)[d]?=some (Em.div.aB dd[d]):=by rw[yAo,yAh hd];rfl
 have xd2:=xd;obtain⟨sd,hsd⟩:=gn (dd[d])
 by_cases hb:eI wy ix dd[d].stops.length
 rotate_left
 .have km:=SN hb iI;simp only[km]at k4;refine aK.aG 166 h0 func18 (h:=?_);refine aC (A20 h1 k1 h2 k2 h3 k3 n1 n2 hOB jO jS bT c0 c1 c2 c3 w0 w1 w2 (A16 w3 @z0 z1 @z2 @z3 pR pD pC cR cD cC q1 q2 xd h4 k4)) ?_;exact⟨.aH [bE,.int .i64 10],σ2.set 2 (.box bE),by simp[bV,w2,bE],.inl ⟨hb,rfl⟩⟩
 have km:=SO hb iI;simp only[km]at k4;obtain⟨i,rfl⟩:∃i:Nat,ix=i:=⟨ix.toNat,Hw⟩;simp only[yBj]at hokr ⊢;have hDr:hD=.aP iD (dd.length-1) 0 dd.length 5:=by rw[<-hhD];exact BP (show 0<dd.length by omega)
 subst hDr;have xk:jH prog 32 (.aP iD (dd.length-1) 0 dd.length 5) (.int .i64 d)=some (.dM iD (dd.length-1) (d*5)):=by
  simp[jV,hd]
 have hDrow:=(eP.row (show 0<dd.length by omega)).2;have hDlo:=(eP.row (show 0<dd.length by omega)).1;have hDg:=(eP.at_ d hd).1;have hDV:=(eP.at_ d hd).2;simp only at hDrow hDg hDV;have uH:∀g∈ds,g.length=5:=uC eP.len λi hi=>⟨_,(eP.at_ i hi).1,rfl⟩
 have hdl:ds.length=dd.length:=eP.len;have hV:=NP eP;simp only[hhR,hhC]at hV;have hflat:=lA ds uH;have hgd:ds[d]' Cd=[.str dd[d].name,.bool dd[d].dV,.int .i64 dd[d].low,.int .i64 dd[d].high,Go.Kz.hq 4 (tS d) (dd[d].stops.length-1) dd[d].stops.length]:=(yA.1 hDg).2;have hat:=qX (sz:=5) ds d Cd uH;obtain⟨nY,hhS⟩:=gn (Go.Kz.hq 4 (tS d) (dd[d].stops.length-1) dd[d].stops.length);have hSV:=aSr hDV;rw[hhS]at hgd hSV;rw[hgd]at hat;have uK:(ds.flatten.drop (d*5+4)).take 1=[nY]:=by
  exact Ag
 have pS:nY.plain=true:=by rw[<-hhS];exact GX _ _ _ _
 have cS:nY.cells=[nY]:=by rw[<-hhS];exact GY _ _ _ _
 unfold PD.plain at pS;unfold PD.cells at cS;have fJ:d*5+4+1<=ds.flatten.length:=Cd;obtain⟨w9,x6⟩:=gn (ds.flatten);rw[x6]at hDrow uK fJ;have IZ:w9[d*5+4]' Cd=nY:=by
  exact fy
 obtain⟨uD,yD⟩:=yA.1 hDrow;have k5:=(H5 σ2 nY dd[d].stops wy i ⟨sn,sa,sb,sg⟩ hSV hcl (SR hb iI)).e0 D2;obtain⟨Q,bW,k5,⟨pQ,cQ,lQ⟩,jK,cE⟩:=k5;simp only[pZ,bC]at k5;have s0:=(cE 0 w0).trans c0;have s1:=(cE 1 w1).trans c1;have s2:=(cE 2 w2).trans c2;have s3:=(cE OB w3).trans c3;have sD:=(cE iD uD).trans hDrow;unfold PD.plain at pQ;unfold PD.cells at cQ;obtain⟨f0,d0⟩:=yA.1 s0;obtain⟨f1,d1⟩:=yA.1 s1;obtain⟨f2,d2⟩:=yA.1 s2;obtain⟨f3,d3⟩:=yA.1 s3;obtain⟨fD,dD⟩:=yA.1 sD;have hfs:=w8 (sz:=5) (new:=[Q]) (j:=3+1) Ce ds d Cd uH;rw[hgd]at hfs;have hset:dL [PD.str dd[d].name,.bool dd[d].dV,.int .i64 dd[d].low,.int .i64 dd[d].high,nY] (3+1) [Q]=[.str dd[d].name,.bool dd[d].dV,.int .i64 dd[d].low,.int .i64 dd[d].high,Q]:=rfl;rw[hset,x6]at hfs;simp only[dL,yAT,yAO,yAp,Nat.reduceAdd,yAi,yBt,yAW,yBW]at hfs;obtain⟨eG,j3⟩:=gn (bW.set iD (.row 53 5 (dd.length-1) (List.take (d*5+4) w9++Q::List.drop (d*5+4+1) w9)));have hr5:eG[iD]?=some (.row 53 5 (dd.length-1) (ds.set d [.str dd[d].name,.bool dd[d].dV,.int .i64 dd[d].low,.int .i64 dd[d].high,Q]).flatten):=by
  rw[<-j3,yAj fD,<-hfs]
 have kS:∀R:TypeId->Prop,(∀t,R t->t≠53)->aW R bW eG:=λR hR id t n v cs ht hy=>by
  rw[<-j3,yAd (λe=>by rw[<-e,sD]at hy;exact hR _ ht (aA.row.inj (yAS hy)).1.symm)];exact hy
 have a5:eG[OB]?=some (.box (.agg [.str on,hR,.aP iD (dd.length-1) 0 dd.length 5,hC])):=by rw[<-j3,yAd (λe=>by rw[e,s3]at sD;cases sD)];exact s3
 have t2:eG[2]?=some (.box (.agg [.str [],.slice 0 [] .full,.slice 0 [] .full,.slice 0 [] .full])):=by rw[<-j3,yAd (λe=>by rw[e,s2]at sD;cases sD)];exact s2
 have m1:=(hV.1.oI (R':=kI) Ch (λt ht=>ht.elim id False.elim)).aM ((wE cE).trans (kS kI (λt h=>Da)));have m2:=aSO (σ':=eG) eP d hd Q (aS dd[d].stops wy i ⟨sn,sa,sb,sg⟩) (λτ eF=>lQ τ ((kS j5 (λt h=>by rcases h with h|h|h<;>rw[h]<;>decide)).trans eF)) ((wE cE).trans (kS j5 (λt h=>by rcases h with h|h|h<;>rw[h]<;>decide))) hr5;have m3:=(hV.2.2.oI (R':=jJ) Ch (λt ht=>ht.elim id False.elim)).aM ((wE cE).trans (kS jJ (λt h=>Da)));simp only at m2;rw[show Go.Kz.hb 5 iD (dd.length-1) dd.length=.aP iD (dd.length-1) 0 dd.length 5 from BP Cd]at m2;have CJ:=λfl=>F7 (on:=on) m1 m2 m3 (H6 _ hokr) fl
 obtain⟨e,he⟩:=gn (dG (⟨on,rs,dd.set d { dd[d]with stops:=aS dd[d].stops wy i ⟨sn,sa,sb,sg⟩ },cc⟩));have k6:∀fl,qC (pL prog Eo 27) fl [.agg [.str on,hR,.aP iD (dd.length-1) 0 dd.length 5,hC]] eG=some (.int .i64 e,eG):=λfl=>Fg
 obtain⟨r5,x5⟩:=yA.1 a5;obtain⟨r2,x2⟩:=yA.1 t2;unfold xV;rw[he]
 by_cases hz:e=0
 .subst hz;rcases iI with rfl|rfl|rfl
  iterate 3
   have CI:=h0;refine aK.aG 166 h0 func18 (h:=?_);refine aAY (A20 h1 k1 h2 k2 h3 k3 n1 n2 hOB jO jS bT c0 c1 c2 c3 w0 w1 w2 (A20 w3 @z0 z1 @z2 @z3 pR pD pC cR cD cC q1 q2 xd h4 k4 xk hDrow uD (A20 yD fJ uK IZ pS cS h5 k5 s0 @s1 @s2 s3 sD @f0 @f1 @f2 @f3 fD @d0 (A20 @d1 @d2 @d3 dD pQ cQ j3 h6 k6 @a5 r5 x5 @t2 r2 x2 pR pD pC cR (A4 cD cC pQ cQ))))) ?_;refine⟨.aH [.agg [.str on,hR,.aP iD (dd.length-1) 0 dd.length 5,hC],.int .i64 0],eG.set 2 (.box (.agg [.str on,hR,.aP iD (dd.length-1) 0 dd.length 5,hC])),?_,.inr (.inr ⟨λh=>h hb,id,hR,.aP iD (dd.length-1) 0 dd.length 5,hC,rfl,m1.aM (aW.set t2 _),m2.aM (aW.set t2 _),m3.aM (aW.set t2 _)⟩)⟩;simp[bV,r2]
 .have l6:=hz;rcases iI with rfl|rfl|rfl
  iterate 3
   have CI:=h0;refine aK.aG 166 h0 func18 (h:=?_);refine aAY (A20 h1 k1 h2 k2 h3 k3 n1 n2 hOB jO jS bT c0 c1 c2 c3 w0 w1 w2 (A20 w3 @z0 z1 @z2 @z3 pR pD pC cR cD cC q1 q2 xd h4 k4 xk hDrow uD (A20 yD fJ uK IZ pS cS h5 k5 s0 @s1 @s2 s3 sD @f0 @f1 @f2 @f3 fD @d0 (A20 @d1 @d2 @d3 dD pQ cQ j3 h6 k6 @hz @a5 r5 x5 @t2 r2 x2 pR pD pC (A5 cR cD cC pQ cQ))))) ?_;refine⟨.aH [bX,.int .i64 e],eG.set 2 (.box bX),?_,.inr (.inr ⟨λh=>h hb,id,hR,.aP iD (dd.length-1) 0 dd.length 5,hC,Gb,m1.aM (aW.set t2 _),m2.aM (aW.set t2 _),m3.aM (aW.set t2 _)⟩)⟩;simp[bV,r2,bX]
end
section
def dZ(th hw:Int)(x:bM):bM:=⟨x.kind,if th=2 then x.div else 0,if th<4 then x.idx else 0,if th<4 then []else x.name,if th=0/\hw≠1 then x.aN else bB,if th=1/\hw≠1 then x.frame else aU,if th=2/\hw≠1 then x.stop else bA,if th=3/\hw≠1 then x.bF else bD⟩
theorem wF{th hw:Int}{x:bM}(h:dT x):dT (dZ th hw x):=by
 have n1:gU bB:=yAF _;have n2:gV aU:=⟨yAF _,λ_ h=>Ck⟩;have n3:jT bA:=⟨yAF _,λ_ h=>Ck⟩;obtain⟨h1,h2,h3⟩:=h;refine⟨?_,?_,?_⟩
 .unfold dZ;simp only;split
  .exact h1
  .exact n1
 .unfold dZ;simp only;split
  .exact h2
  .exact n2
 .unfold dZ;simp only;split
  .exact h3
  .exact n3
theorem aAE{x:bM}(h:1<=x.kind/\x.kind<=13):decide (x=dZ ((x.kind-1)/3) ((x.kind-1)%3) x)=decide (fS x=0):=by
 have hk:¬(x.kind<1\/13<x.kind):=Cd;unfold fS;rw[yAI hk];obtain⟨kd,dv,ix,nm,R,F,S,C⟩:=x;simp only at h;obtain⟨n,rfl⟩:∃n:Nat,kd=n+1:=⟨(kd-1).toNat,Cd⟩;have hn:n<13:=Cd;rw[yAu];have e:∀b:Bool,((if b=true then(0:Int)else 7)=0)↔b=true:=λb=>by cases b<;>decide
 rw[e];unfold mJ;rw[yCa]
 match n,hn with
 |0,_=>simp[dZ,o8,mJ];try(constructor<;>(intro h;simp_all))
 |1,_=>simp[dZ,o8,mJ];try(constructor<;>(intro h;simp_all))
 |2,_=>simp[dZ,o8,mJ];try(constructor<;>(intro h;simp_all))
 |3,_=>simp[dZ,o8,mJ];try(constructor<;>(intro h;simp_all))
 |4,_=>simp[dZ,o8,mJ];try(constructor<;>(intro h;simp_all))
 |5,_=>simp[dZ,o8,mJ];try(constructor<;>(intro h;simp_all))
 |6,_=>simp[dZ,o8,mJ];try(constructor<;>(intro h;simp_all))
 |7,_=>simp[dZ,o8,mJ];try(constructor<;>(intro h;simp_all))
 |8,_=>simp[dZ,o8,mJ];try(constructor<;>(intro h;simp_all))
 |9,_=>simp[dZ,o8,mJ];try(constructor<;>(intro h;simp_all))
 |10,_=>simp[dZ,o8,mJ];try(constructor<;>(intro h;simp_all))
 |11,_=>simp[dZ,o8,mJ];try(constructor<;>(intro h;simp_all))
 |12,_=>simp[dZ,o8,mJ];try(constructor<;>(intro h;simp_all))
variable{E:aE}(hU:aJ E)
include hU
theorem aJ0(h0:E 39=none)(x:bM)(h:EP x.kind):aI prog E 39 [Em.edit.aB x] ((i64.p7 i64).aB ((IntKind.i64.wrap (x.kind-1)).tdiv 3,(IntKind.i64.wrap (x.kind-1)).tmod 3)):=by
 obtain⟨kd,dv,ix,nm,⟨rn,rt,ra,rb,rf,wd⟩,⟨fn,fp,flo,fhi,fs⟩,⟨sn,sa,sb,sg⟩,⟨cn,ca,cb,cs,ct⟩⟩:=x;obtain⟨w,hw⟩:=gn (IntKind.i64.wrap (kd-1));have hr:-9223372036854775808<=w/\w<=9223372036854775807:=by rw[<-hw,yAP];omega
 have h1:IntKind.i64.wrap (w.tdiv 3)=w.tdiv 3:=by
  have h2:-9223372036854775808<=w.tdiv 3/\w.tdiv 3<=9223372036854775807:=by
   rcases Int.le_total 0 w with h|h
   .rw[yCX h];omega
   .have:=Int.neg_tdiv (-w) 3;rw[Int.neg_neg]at this;rw[this,yCX Cd];omega
  rw[yAP];omega
 have h3:IntKind.i64.wrap (w.tmod 3)=w.tmod 3:=by
  have h2:-3<w.tmod 3/\w.tmod 3<3:=by
   rcases Int.le_total 0 w with h|h
   .rw[yBX h];omega
   .have:=Int.neg_tmod (-w) 3;rw[Int.neg_neg]at this;rw[this,yBX Cd];omega
  rw[yAP];omega
 simp only[bZ,bC];rw[hw];refine aI.aG 12 h0 func39 (h:=?_);refine aC (A3 @hw h1 h3) ?_;exact ag
theorem aJ2(h0:E 45=none)(w i n:Int):aI prog E 45 [i64.aB w,i64.aB i,i64.aB n] (Em.bool.aB (CL w i n)):=by
 show aI _ _ _ [.int .i64 w,.int .i64 i,.int .i64 n] (.bool (CL w i n))
 unfold CL
 by_cases c1:i<0
 .rw[yAX (.inl c1)];refine aI.aG 23 h0 func45 (h:=?_);refine aC c1 ?_;exact ag
 by_cases c2:n<i
 .rw[yAX (.inr (.inl c2))];refine aI.aG 23 h0 func45 (h:=?_);refine aC (A2 c1 c2) ?_;exact ag
 by_cases c3:w=0
 .rw[yBc (by simp[c1,c2,c3])];exact Bd
 by_cases c4:i=n
 .rw[yAX (.inr (.inr ⟨c3,c4⟩))];subst c4;have hz:=h0;exact Bd
 .rw[yBc (by simp[c1,c2,c4])];have hz:=h0;refine aI.aG 23 h0 func45 (h:=?_);refine aC (A4 c1 c2 c3 c4) ?_;exact ag
theorem aJ4(h0:E 22=none)(h1:E 37=some (fP Em.aN gU))(h2:E 38=some (fP Em.div gV))(h3:E 57=some (fP Em.stop jT))(x y:bM)(hx:dT x)(hy:dT y) :
  aI prog E 22 [Em.edit.aB x,Em.edit.aB y] (Em.bool.aB (decide (x=y))):=by
 have k1:=λfl σ=>oC (a:=Em.aN) hx.1 hy.1 fl σ
 have k2:=λfl σ=>oC (a:=Em.div) hx.2.1 hy.2.1 fl σ
 have k3:=λfl σ=>oC (a:=Em.stop) hx.2.2 hy.2.2 fl σ
 obtain⟨kd,dv,ix,nm,R,F,S,C⟩:=x;obtain⟨kd',dv',ix',SY,R',F',S',C'⟩:=y;simp only at k1 k2 k3;obtain⟨b1,hb1⟩:∃b,decide (R=R')=b:=⟨_,rfl⟩;obtain⟨b2,hb2⟩:∃b,decide (F=F')=b:=⟨_,rfl⟩;obtain⟨b3,hb3⟩:∃b,decide (S=S')=b:=⟨_,rfl⟩;rw[hb1]at k1;rw[hb2]at k2;rw[hb3]at k3;have hD:decide ((⟨kd,dv,ix,nm,R,F,S,C⟩:bM)=⟨kd',dv',ix',SY,R',F',S',C'⟩)=(decide (kd=kd')&&decide (dv=dv')&&decide (ix=ix')&&decide (nm=SY)&&b1&&b2&&b3&&decide (C=C')):=by
  rw[<-hb1,<-hb2,<-hb3];simp only[bM.mk.injEq,Bool.decide_and,Bool.and_assoc]
 rw[hD];clear hb1 hb2 hb3 hD hx hy;obtain⟨rn,rt,ra,rb,rf,wd⟩:=R;obtain⟨fn,fp,flo,fhi,fs⟩:=F;obtain⟨sn,sa,sb,sg⟩:=S;obtain⟨cn,ca,cb,cs,ct⟩:=C;obtain⟨rn',rt',ra',rb',rf',wd'⟩:=R';obtain⟨fn',fp',aV4,aV5,fs'⟩:=F';obtain⟨sn',sa',sb',sg'⟩:=S';obtain⟨cn',ca',cb',cs',ct'⟩:=C';simp only[bZ,oA,nJ,pZ,bC]at k1 k2 k3 ⊢
 by_cases e1:kd=kd'
 rotate_left
 .have hz:=h0;refine aI.aG 59 h0 func22 (h:=?_);refine aC e1 ?_;simp(disch:=first|omega|(simp;done)|(simp;omega)) [yAu,e1]<;>try rfl
 by_cases e2:dv=dv'
 rotate_left
 .have hz:=h0;refine aI.aG 59 h0 func22 (h:=?_);refine aC (A2 e1 e2) ?_;simp(disch:=first|omega|(simp;done)|(simp;omega)) [yAu,e2]<;>try rfl
 by_cases e3:ix=ix'
 rotate_left
 .have hz:=h0;refine aI.aG 59 h0 func22 (h:=?_);refine aC (A3 e1 e2 e3) ?_;simp(disch:=first|omega|(simp;done)|(simp;omega)) [yAu,e3]<;>try rfl
 by_cases e4:nm=SY
 rotate_left
 .have f4:(nm==SY)=false:=by simpa using e4
  refine aI.aG 59 h0 func22 (h:=?_);refine aC (A5 e1 e2 e3 e4 @f4) ?_;simp(disch:=first|omega|(simp;done)|(simp;omega)) [yAu,e4]<;>try rfl
 cases b1 with
 |false=>
  have hz:=h0;refine aI.aG 59 h0 func22 (h:=?_);refine aC (A6 e1 e2 e3 e4 h1 k1) ?_;exact ag
 |true=>
 cases b2 with
 |false=>
  have hz:=h0;refine aI.aG 59 h0 func22 (h:=?_);refine aC (A8 e1 e2 e3 e4 h1 k1 h2 k2) ?_;exact ag
 |true=>
 cases b3 with
 |false=>
  have hz:=h0;refine aI.aG 59 h0 func22 (h:=?_);refine aC (A10 e1 e2 e3 e4 h1 k1 h2 k2 h3 k3) ?_;exact ag
 |true=>
 by_cases e5:cn=cn'
 rotate_left
 .have f5:(cn==cn')=false:=by simpa using e5
  refine aI.aG 59 h0 func22 (h:=?_);refine aC (A12 e1 e2 e3 e4 h1 k1 h2 k2 h3 k3 e5 @f5) ?_;simp(disch:=first|omega|(simp;done)|(simp;omega)) [yAu,e5]<;>try rfl
 subst e1 e2 e3 e4 e5;have hz:=h0;refine aI.aG 59 h0 func22 (h:=?_);refine aC (A6 h1 k1 h2 k2 h3 k3) ?_;simp(disch:=first|omega|(simp;done)|(simp;omega)) [yAu,cJ.mk.injEq]<;>try rfl
theorem aJ5(h0:E 43=none)(h1:E 39=some qW)(h2:E 22=some (fP Em.edit dT))(x:bM)(hk:1<=x.kind/\x.kind<=13)(hx:dT x):aI prog E 43 [Em.edit.aB x] (Em.bool.aB (decide (fS x=0))):=by
 rw[<-aAE hk];have k1:=λfl σ=>GV (x:=x) hk fl σ
 obtain⟨th,hth⟩:=gn ((x.kind-1)/3);obtain⟨wy,hwy⟩:=gn ((x.kind-1)%3);rw[hth,hwy]at k1 ⊢;have hs:(th=4/\wy=0)\/((th=0\/th=1\/th=2\/th=3)/\(wy=0\/wy=1\/wy=2)):=Cd;obtain⟨kd,dv,ix,nm,⟨rn,rt,ra,rb,rf,wd⟩,⟨fn,fp,flo,fhi,fs⟩,⟨sn,sa,sb,sg⟩,⟨cn,ca,cb,cs,ct⟩⟩:=x;clear hth hwy hk;rcases hs with⟨rfl,rfl⟩ | ⟨rfl|rfl|rfl|rfl,rfl|rfl|rfl⟩
 .have hK:=wF (th:=4) (hw:=0) hx;have k2:=λfl σ=>p6 (a:=Em.edit) (R:=dT) (p:=Em.edit.aB _) (q:=.agg [.int .i64 kd,.int .i64 0,.int .i64 0,.str nm,.str [],.str [],.int .i64 0,.int .i64 0,.int .i64 0,.slice 0 [] .full,.str [],.bool false,.int .i64 0,.int .i64 0,.slice 0 [] .full,.str [],.int .i64 0,.int .i64 0,.slice 0 [] .full,.str [],.int .i64 0,.int .i64 0,.int .i64 0,.bool false]) hx hK (Em.edit.str _) (rfl) fl σ
  obtain⟨B,hB⟩:∃b,decide ((⟨kd,dv,ix,nm,⟨rn,rt,ra,rb,rf,wd⟩,⟨fn,fp,flo,fhi,fs⟩,⟨sn,sa,sb,sg⟩,⟨cn,ca,cb,cs,ct⟩⟩:bM)=dZ 4 0 ⟨kd,dv,ix,nm,⟨rn,rt,ra,rb,rf,wd⟩,⟨fn,fp,flo,fhi,fs⟩,⟨sn,sa,sb,sg⟩,⟨cn,ca,cb,cs,ct⟩⟩)=b:=⟨_,rfl⟩;exact yg
 .have hK:=wF (th:=0) (hw:=0) hx;have k2:=λfl σ=>p6 (a:=Em.edit) (R:=dT) (p:=Em.edit.aB _) (q:=.agg [.int .i64 kd,.int .i64 0,.int .i64 ix,.str [],.str rn,.str rt,.int .i64 ra,.int .i64 rb,.int .i64 rf,.slice (sz 1 wd) (wd.map i64.aB) .any,.str [],.bool false,.int .i64 0,.int .i64 0,.slice 0 [] .full,.str [],.int .i64 0,.int .i64 0,.slice 0 [] .full,.str [],.int .i64 0,.int .i64 0,.int .i64 0,.bool false]) hx hK (Em.edit.str _) Fv fl σ
  obtain⟨B,hB⟩:∃b,decide ((⟨kd,dv,ix,nm,⟨rn,rt,ra,rb,rf,wd⟩,⟨fn,fp,flo,fhi,fs⟩,⟨sn,sa,sb,sg⟩,⟨cn,ca,cb,cs,ct⟩⟩:bM)=dZ 0 0 ⟨kd,dv,ix,nm,⟨rn,rt,ra,rb,rf,wd⟩,⟨fn,fp,flo,fhi,fs⟩,⟨sn,sa,sb,sg⟩,⟨cn,ca,cb,cs,ct⟩⟩)=b:=⟨_,rfl⟩;exact yg
 .have hK:=wF (th:=0) (hw:=1) hx;have k2:=λfl σ=>p6 (a:=Em.edit) (R:=dT) (p:=Em.edit.aB _) (q:=.agg [.int .i64 kd,.int .i64 0,.int .i64 ix,.str [],.str [],.str [],.int .i64 0,.int .i64 0,.int .i64 0,.slice 0 [] .full,.str [],.bool false,.int .i64 0,.int .i64 0,.slice 0 [] .full,.str [],.int .i64 0,.int .i64 0,.slice 0 [] .full,.str [],.int .i64 0,.int .i64 0,.int .i64 0,.bool false]) hx hK (Em.edit.str _) (rfl) fl σ
  obtain⟨B,hB⟩:∃b,decide ((⟨kd,dv,ix,nm,⟨rn,rt,ra,rb,rf,wd⟩,⟨fn,fp,flo,fhi,fs⟩,⟨sn,sa,sb,sg⟩,⟨cn,ca,cb,cs,ct⟩⟩:bM)=dZ 0 1 ⟨kd,dv,ix,nm,⟨rn,rt,ra,rb,rf,wd⟩,⟨fn,fp,flo,fhi,fs⟩,⟨sn,sa,sb,sg⟩,⟨cn,ca,cb,cs,ct⟩⟩)=b:=⟨_,rfl⟩;exact yg
 .have hK:=wF (th:=0) (hw:=2) hx;have k2:=λfl σ=>p6 (a:=Em.edit) (R:=dT) (p:=Em.edit.aB _) (q:=.agg [.int .i64 kd,.int .i64 0,.int .i64 ix,.str [],.str rn,.str rt,.int .i64 ra,.int .i64 rb,.int .i64 rf,.slice (sz 1 wd) (wd.map i64.aB) .any,.str [],.bool false,.int .i64 0,.int .i64 0,.slice 0 [] .full,.str [],.int .i64 0,.int .i64 0,.slice 0 [] .full,.str [],.int .i64 0,.int .i64 0,.int .i64 0,.bool false]) hx hK (Em.edit.str _) Fv fl σ
  obtain⟨B,hB⟩:∃b,decide ((⟨kd,dv,ix,nm,⟨rn,rt,ra,rb,rf,wd⟩,⟨fn,fp,flo,fhi,fs⟩,⟨sn,sa,sb,sg⟩,⟨cn,ca,cb,cs,ct⟩⟩:bM)=dZ 0 2 ⟨kd,dv,ix,nm,⟨rn,rt,ra,rb,rf,wd⟩,⟨fn,fp,flo,fhi,fs⟩,⟨sn,sa,sb,sg⟩,⟨cn,ca,cb,cs,ct⟩⟩)=b:=⟨_,rfl⟩;exact yg
 .have hK:=wF (th:=1) (hw:=0) hx;have k2:=λfl σ=>p6 (a:=Em.edit) (R:=dT) (p:=Em.edit.aB _) (q:=.agg [.int .i64 kd,.int .i64 0,.int .i64 ix,.str [],.str [],.str [],.int .i64 0,.int .i64 0,.int .i64 0,.slice 0 [] .full,.str fn,.bool fp,.int .i64 flo,.int .i64 fhi,.slice (sz 4 fs) (fs.map Em.stop.aB) .any,.str [],.int .i64 0,.int .i64 0,.slice 0 [] .full,.str [],.int .i64 0,.int .i64 0,.int .i64 0,.bool false]) hx hK (Em.edit.str _) Fm fl σ
  obtain⟨B,hB⟩:∃b,decide ((⟨kd,dv,ix,nm,⟨rn,rt,ra,rb,rf,wd⟩,⟨fn,fp,flo,fhi,fs⟩,⟨sn,sa,sb,sg⟩,⟨cn,ca,cb,cs,ct⟩⟩:bM)=dZ 1 0 ⟨kd,dv,ix,nm,⟨rn,rt,ra,rb,rf,wd⟩,⟨fn,fp,flo,fhi,fs⟩,⟨sn,sa,sb,sg⟩,⟨cn,ca,cb,cs,ct⟩⟩)=b:=⟨_,rfl⟩;exact yg
 .have hK:=wF (th:=1) (hw:=1) hx;have k2:=λfl σ=>p6 (a:=Em.edit) (R:=dT) (p:=Em.edit.aB _) (q:=.agg [.int .i64 kd,.int .i64 0,.int .i64 ix,.str [],.str [],.str [],.int .i64 0,.int .i64 0,.int .i64 0,.slice 0 [] .full,.str [],.bool false,.int .i64 0,.int .i64 0,.slice 0 [] .full,.str [],.int .i64 0,.int .i64 0,.slice 0 [] .full,.str [],.int .i64 0,.int .i64 0,.int .i64 0,.bool false]) hx hK (Em.edit.str _) (rfl) fl σ
  obtain⟨B,hB⟩:∃b,decide ((⟨kd,dv,ix,nm,⟨rn,rt,ra,rb,rf,wd⟩,⟨fn,fp,flo,fhi,fs⟩,⟨sn,sa,sb,sg⟩,⟨cn,ca,cb,cs,ct⟩⟩:bM)=dZ 1 1 ⟨kd,dv,ix,nm,⟨rn,rt,ra,rb,rf,wd⟩,⟨fn,fp,flo,fhi,fs⟩,⟨sn,sa,sb,sg⟩,⟨cn,ca,cb,cs,ct⟩⟩)=b:=⟨_,rfl⟩;exact yg
 .have hK:=wF (th:=1) (hw:=2) hx;have k2:=λfl σ=>p6 (a:=Em.edit) (R:=dT) (p:=Em.edit.aB _) (q:=.agg [.int .i64 kd,.int .i64 0,.int .i64 ix,.str [],.str [],.str [],.int .i64 0,.int .i64 0,.int .i64 0,.slice 0 [] .full,.str fn,.bool fp,.int .i64 flo,.int .i64 fhi,.slice (sz 4 fs) (fs.map Em.stop.aB) .any,.str [],.int .i64 0,.int .i64 0,.slice 0 [] .full,.str [],.int .i64 0,.int .i64 0,.int .i64 0,.bool false]) hx hK (Em.edit.str _) Fm fl σ
  obtain⟨B,hB⟩:∃b,decide ((⟨kd,dv,ix,nm,⟨rn,rt,ra,rb,rf,wd⟩,⟨fn,fp,flo,fhi,fs⟩,⟨sn,sa,sb,sg⟩,⟨cn,ca,cb,cs,ct⟩⟩:bM)=dZ 1 2 ⟨kd,dv,ix,nm,⟨rn,rt,ra,rb,rf,wd⟩,⟨fn,fp,flo,fhi,fs⟩,⟨sn,sa,sb,sg⟩,⟨cn,ca,cb,cs,ct⟩⟩)=b:=⟨_,rfl⟩;exact yg
 .have hK:=wF (th:=2) (hw:=0) hx;have k2:=λfl σ=>p6 (a:=Em.edit) (R:=dT) (p:=Em.edit.aB _) (q:=.agg [.int .i64 kd,.int .i64 dv,.int .i64 ix,.str [],.str [],.str [],.int .i64 0,.int .i64 0,.int .i64 0,.slice 0 [] .full,.str [],.bool false,.int .i64 0,.int .i64 0,.slice 0 [] .full,.str sn,.int .i64 sa,.int .i64 sb,.slice (sz 3 sg) (sg.map Em.fB.aB) .any,.str [],.int .i64 0,.int .i64 0,.int .i64 0,.bool false]) hx hK (Em.edit.str _) Fu fl σ
  obtain⟨B,hB⟩:∃b,decide ((⟨kd,dv,ix,nm,⟨rn,rt,ra,rb,rf,wd⟩,⟨fn,fp,flo,fhi,fs⟩,⟨sn,sa,sb,sg⟩,⟨cn,ca,cb,cs,ct⟩⟩:bM)=dZ 2 0 ⟨kd,dv,ix,nm,⟨rn,rt,ra,rb,rf,wd⟩,⟨fn,fp,flo,fhi,fs⟩,⟨sn,sa,sb,sg⟩,⟨cn,ca,cb,cs,ct⟩⟩)=b:=⟨_,rfl⟩;exact yg
 .have hK:=wF (th:=2) (hw:=1) hx;have k2:=λfl σ=>p6 (a:=Em.edit) (R:=dT) (p:=Em.edit.aB _) (q:=.agg [.int .i64 kd,.int .i64 dv,.int .i64 ix,.str [],.str [],.str [],.int .i64 0,.int .i64 0,.int .i64 0,.slice 0 [] .full,.str [],.bool false,.int .i64 0,.int .i64 0,.slice 0 [] .full,.str [],.int .i64 0,.int .i64 0,.slice 0 [] .full,.str [],.int .i64 0,.int .i64 0,.int .i64 0,.bool false]) hx hK (Em.edit.str _) (rfl) fl σ
  obtain⟨B,hB⟩:∃b,decide ((⟨kd,dv,ix,nm,⟨rn,rt,ra,rb,rf,wd⟩,⟨fn,fp,flo,fhi,fs⟩,⟨sn,sa,sb,sg⟩,⟨cn,ca,cb,cs,ct⟩⟩:bM)=dZ 2 1 ⟨kd,dv,ix,nm,⟨rn,rt,ra,rb,rf,wd⟩,⟨fn,fp,flo,fhi,fs⟩,⟨sn,sa,sb,sg⟩,⟨cn,ca,cb,cs,ct⟩⟩)=b:=⟨_,rfl⟩;exact yg
 .have hK:=wF (th:=2) (hw:=2) hx;have k2:=λfl σ=>p6 (a:=Em.edit) (R:=dT) (p:=Em.edit.aB _) (q:=.agg [.int .i64 kd,.int .i64 dv,.int .i64 ix,.str [],.str [],.str [],.int .i64 0,.int .i64 0,.int .i64 0,.slice 0 [] .full,.str [],.bool false,.int .i64 0,.int .i64 0,.slice 0 [] .full,.str sn,.int .i64 sa,.int .i64 sb,.slice (sz 3 sg) (sg.map Em.fB.aB) .any,.str [],.int .i64 0,.int .i64 0,.int .i64 0,.bool false]) hx hK (Em.edit.str _) Fu fl σ
  obtain⟨B,hB⟩:∃b,decide ((⟨kd,dv,ix,nm,⟨rn,rt,ra,rb,rf,wd⟩,⟨fn,fp,flo,fhi,fs⟩,⟨sn,sa,sb,sg⟩,⟨cn,ca,cb,cs,ct⟩⟩:bM)=dZ 2 2 ⟨kd,dv,ix,nm,⟨rn,rt,ra,rb,rf,wd⟩,⟨fn,fp,flo,fhi,fs⟩,⟨sn,sa,sb,sg⟩,⟨cn,ca,cb,cs,ct⟩⟩)=b:=⟨_,rfl⟩;exact yg
 .have hK:=wF (th:=3) (hw:=0) hx;have k2:=λfl σ=>p6 (a:=Em.edit) (R:=dT) (p:=Em.edit.aB _) (q:=.agg [.int .i64 kd,.int .i64 0,.int .i64 ix,.str [],.str [],.str [],.int .i64 0,.int .i64 0,.int .i64 0,.slice 0 [] .full,.str [],.bool false,.int .i64 0,.int .i64 0,.slice 0 [] .full,.str [],.int .i64 0,.int .i64 0,.slice 0 [] .full,.str cn,.int .i64 ca,.int .i64 cb,.int .i64 cs,.bool ct]) hx hK (Em.edit.str _) (rfl) fl σ
  obtain⟨B,hB⟩:∃b,decide ((⟨kd,dv,ix,nm,⟨rn,rt,ra,rb,rf,wd⟩,⟨fn,fp,flo,fhi,fs⟩,⟨sn,sa,sb,sg⟩,⟨cn,ca,cb,cs,ct⟩⟩:bM)=dZ 3 0 ⟨kd,dv,ix,nm,⟨rn,rt,ra,rb,rf,wd⟩,⟨fn,fp,flo,fhi,fs⟩,⟨sn,sa,sb,sg⟩,⟨cn,ca,cb,cs,ct⟩⟩)=b:=⟨_,rfl⟩;exact yg
 .have hK:=wF (th:=3) (hw:=1) hx;have k2:=λfl σ=>p6 (a:=Em.edit) (R:=dT) (p:=Em.edit.aB _) (q:=.agg [.int .i64 kd,.int .i64 0,.int .i64 ix,.str [],.str [],.str [],.int .i64 0,.int .i64 0,.int .i64 0,.slice 0 [] .full,.str [],.bool false,.int .i64 0,.int .i64 0,.slice 0 [] .full,.str [],.int .i64 0,.int .i64 0,.slice 0 [] .full,.str [],.int .i64 0,.int .i64 0,.int .i64 0,.bool false]) hx hK (Em.edit.str _) (rfl) fl σ
  obtain⟨B,hB⟩:∃b,decide ((⟨kd,dv,ix,nm,⟨rn,rt,ra,rb,rf,wd⟩,⟨fn,fp,flo,fhi,fs⟩,⟨sn,sa,sb,sg⟩,⟨cn,ca,cb,cs,ct⟩⟩:bM)=dZ 3 1 ⟨kd,dv,ix,nm,⟨rn,rt,ra,rb,rf,wd⟩,⟨fn,fp,flo,fhi,fs⟩,⟨sn,sa,sb,sg⟩,⟨cn,ca,cb,cs,ct⟩⟩)=b:=⟨_,rfl⟩;exact yg
 .have hK:=wF (th:=3) (hw:=2) hx;have k2:=λfl σ=>p6 (a:=Em.edit) (R:=dT) (p:=Em.edit.aB _) (q:=.agg [.int .i64 kd,.int .i64 0,.int .i64 ix,.str [],.str [],.str [],.int .i64 0,.int .i64 0,.int .i64 0,.slice 0 [] .full,.str [],.bool false,.int .i64 0,.int .i64 0,.slice 0 [] .full,.str [],.int .i64 0,.int .i64 0,.slice 0 [] .full,.str cn,.int .i64 ca,.int .i64 cb,.int .i64 cs,.bool ct]) hx hK (Em.edit.str _) (rfl) fl σ
  obtain⟨B,hB⟩:∃b,decide ((⟨kd,dv,ix,nm,⟨rn,rt,ra,rb,rf,wd⟩,⟨fn,fp,flo,fhi,fs⟩,⟨sn,sa,sb,sg⟩,⟨cn,ca,cb,cs,ct⟩⟩:bM)=dZ 3 2 ⟨kd,dv,ix,nm,⟨rn,rt,ra,rb,rf,wd⟩,⟨fn,fp,flo,fhi,fs⟩,⟨sn,sa,sb,sg⟩,⟨cn,ca,cb,cs,ct⟩⟩)=b:=⟨_,rfl⟩;exact yg
end
def P5:Nat->List PD->List aA->Option (PD×List aA):=entry (cU Em.aN Em.aN λr=>eL (gU r) (some r))
theorem aKy{E:aE}(hE:aF prog E)(h0:E 76=none:=by rfl):aF prog (E.add 76 P5):=
 aF.pick (f:=76) (aF.nQ (E:=E.add 109 (uF prog 46 1)) (f:=76) (a:=Em.aN) (r:=Em.aN) (F:=λr=>eL (gU r) (some r)) (aF.pick aDi hE rfl) bS λr z hz=>by
  obtain⟨h,e⟩:=gE hz;cases e;exact aKz (by unfold aE.add;rw[yAI Ch];exact h0) Ds r h) hE (by unfold aE.add;rw[yAJ rfl];rfl)
theorem aKA(e k:Nat):xX (gI e k):=by
 refine xX.or ?_ (xX.or ?_ ?_)
 .intro fl args σ p σ' h;unfold zT at h;exact gz
 .intro fl args σ p σ' h;unfold xY at h;exact gz
 .intro fl args σ p σ' h;unfold BU at h;split at h
  rotate_left
  .cases h
  split at h
  rotate_left
  .cases h
  simp only[yAb,yAc]at h;rw[<-h.2];simp
theorem P6{e k:Nat}{E:aE}(hU:aJ E){f:FuncId}:aJ (E.add f (gI e k)):=hU.aDj (aKA e k)
theorem P7{e k:Nat}{E:aE}(hU:aJ E){f:FuncId}:aJ (E.add f (sP e k)):=hU.aDj (by
 intro fl args σ p σ' h;unfold sP at h;split at h
 rotate_left
 .cases h
 split at h
 rotate_left
 .cases h
 rename_i hq;split at h
 rotate_left
 .cases h
 simp only[yAb,yAc]at h;rw[<-h.2];intro e;have h1:=yAL List.length e;rw[yAD,yAO]at h1;rw[yAf h1]at hq;cases hq)
theorem aKB{E:aE}(hU:aJ E)(h0:E 56=none)(x:bM)(h:1<=x.kind/\x.kind<=13):aI prog E 56 [Em.edit.aB x] ((i64.p7 i64).aB ((x.kind-1)/3,(x.kind-1)%3)):=by
 obtain⟨kd,hkd⟩:∃kd:Nat,x.kind=(kd:Int)+1:=⟨(x.kind-1).toNat,Cd⟩;obtain⟨p,σ,h1,h2⟩:=(aKC hU h0 kd Cd x.div x.idx x.name x.aN.name x.aN.j9 x.frame.name x.stop.name x.bF.name x.aN.num x.aN.den x.aN.first x.frame.low x.frame.high x.stop.num x.stop.den x.bF.dJ x.bF.dst x.bF.shift x.frame.dV x.bF.qM (sz 1 x.aN.mC) (sz 4 x.frame.stops) (sz 3 x.stop.aO) (x.aN.mC.map i64.aB) (x.frame.stops.map Em.stop.aB) (x.stop.aO.map Em.fB.aB)).ex;refine⟨p,σ,?_,?_⟩
 .rw[bZ,hkd];simp only[bC];exact h1
 .rw[h2,hkd,show(kd:Int)+1-1=(kd:Int) by omega,show(kd:Int)/3=((kd/3:Nat):Int) by omega,show(kd:Int)%3=((kd%3:Nat):Int) by omega];rfl
theorem aKD{E:aE}(hU:aJ E)(h0:E 78=none)(h1:E 56=some sQ)(h2:E 33=some (fP Em.aN gU))(h3:E 35=some (fP Em.div gV))(h4:E 72=some (fP Em.stop jT))(x:bM)(h:dT x) :
  aI prog E 78 [Em.edit.aB x] (i64.aB (fS x)):=by
 unfold fS
 by_cases hb:x.kind<1\/13<x.kind
 .rw[yAJ hb];exact aKE hU h0 x hb
 .rw[yAI hb];exact aKF hU h0 h1 h2 h3 h4 x ⟨Cd,Cd⟩ h
def VO:aE:=λ_=>none
theorem aKG:aF prog VO:=λ_ hg=>by cases hg
theorem aDk:aJ VO:=aJ.none
def VP:aE:=VO.add 70 (fP gJ JY)
theorem aKH:aF prog VP:=aKG.uT bS λx y hx hy=>aKI aDk rfl x y hx hy
theorem aDl:aJ VP:=aDk.entry
def VQ:aE:=VP.add 108 (fP gK yZ)
theorem aKJ:aF prog VQ:=aKH.uT bS λx y hx hy=>aKK aDl rfl x y hx hy
theorem aDm:aJ VQ:=aDl.entry
def VS:aE:=VQ.add 36 (fP qN N0)
theorem aKL:aF prog VS:=aKJ.uT bS λx y hx hy=>aKM aDm rfl x y hx hy
theorem aDn:aJ VS:=aDm.entry
def VT:aE:=VS.add 33 (fP Em.aN gU)
theorem aKN:aF prog VT:=aKL.uT bS λx y hx hy=>aKO aDn rfl rfl x y hx hy
theorem aDo:aJ VT:=aDn.entry
def VU:aE:=VT.add 32 (xL aQ N1 33)
theorem aKP:aF prog VU:=aKN.N5 bS λx y hx hy=>aKQ aDo rfl rfl x y hx hy
theorem aDp:aJ VU:=aDo.entry
def VV:aE:=VU.add 107 (fP Em.fB wH)
theorem aKR:aF prog VV:=aKP.uT bS λx y hx hy=>aKS aDp rfl rfl x y hx hy
theorem aDq:aJ VV:=aDp.entry
def VW:aE:=VV.add 106 (xL oP N2 107)
theorem aKT:aF prog VW:=aKR.N5 bS λx y hx hy=>aKU aDq rfl rfl x y hx hy
theorem aDr:aJ VW:=aDq.entry
def VX:aE:=VW.add 72 (fP Em.stop jT)
theorem aKV:aF prog VX:=aKT.uT bS λx y hx hy=>aKW aDr rfl rfl x y hx hy
theorem aDs:aJ VX:=aDr.entry
def VY:aE:=VX.add 71 (xL oB N3 72)
theorem aKX:aF prog VY:=aKV.N5 bS λx y hx hy=>aKY aDs rfl rfl x y hx hy
theorem aDt:aJ VY:=aDs.entry
def VZ:aE:=VY.add 35 (fP Em.div gV)
theorem aKZ:aF prog VZ:=aKX.uT bS λx y hx hy=>aK0 aDt rfl rfl x y hx hy
theorem aDu:aJ VZ:=aDt.entry
def V0:aE:=VZ.add 34 (xL tD N4 35)
theorem aK1:aF prog V0:=aKZ.N5 bS λx y hx hy=>aK2 aDu rfl rfl x y hx hy
theorem aDv:aJ V0:=aDu.entry
def V1:aE:=V0.add 14 (fP Em.bY fX)
theorem aK3:aF prog V1:=aK1.uT bS λx y hx hy=>aK4 aDv rfl rfl rfl rfl x y hx hy
theorem aDw:aJ V1:=aDv.entry
def V2:aE:=V1.add 92 P8
theorem aK5:aF prog V2:=aK3.nQ bS λx z hz=>by cases hz;exact aK6 aDw rfl x
theorem aDx:aJ V2:=aDw.entry
def V3:aE:=V2.add 60 F2
theorem aK7:aF prog V3:=aK5.nQ bS λx z hz=>by obtain⟨h,e⟩:=gE hz;cases e;exact aK8 aDx rfl rfl x h
theorem aDy:aJ V3:=aDx.entry
def V4:aE:=V3.add 96 IM
theorem aK9:aF prog V4:=aK7.nQ bS λx z hz=>by cases hz;exact aLa aDy rfl x.1 x.2
theorem aDz:aJ V4:=aDy.entry
def V5:aE:=V4.add 145 P9
theorem aLb:aF prog V5:=aK9.tE bS λx y z hz=>by
 obtain⟨h,e⟩:=gE hz;cases e;obtain⟨a,rfl⟩:∃a:Nat,x=a:=⟨x.toNat,Cd⟩;obtain⟨b,rfl⟩:∃b:Nat,y=b:=⟨y.toNat,Cd⟩;rw[yBj,yBj];exact aLc aDz rfl a b Cd Cd
theorem aDA:aJ V5:=aDz.entry
def V6:aE:=V5.add 146 QA
theorem aLd:aF prog V6:=aLb.nQ bS λx z hz=>by obtain⟨h,e⟩:=gE hz;cases e;exact aLe aDA rfl x h
theorem aDB:aJ V6:=aDA.entry
def V7:aE:=V6.add 124 QB
theorem aLf:aF prog V7:=aLd.nQ bS λx z hz=>by cases hz;exact aLg aDB rfl rfl rfl x.1 x.2
theorem aDC:aJ V7:=aDB.entry
def V8:aE:=V7.add 93 LV
theorem aLh:aF prog V8:=aLf.nQ bS λx z hz=>by cases hz;exact aLi aDC rfl rfl x.1 x.2
theorem aDD:aJ V8:=aDC.entry
def V9:aE:=V8.add 126 QC
theorem aLj:aF prog V9:=aLh.nQ bS λx z hz=>by cases hz;exact aLk aDD rfl x
theorem aDE:aJ V9:=aDD.entry
def WA:aE:=V9.add 147 QD
theorem aLl:aF prog WA:=aLj.aDF λl hl=>aLm aDE rfl rfl l hl
theorem aDG:aJ WA:=aDE.entry
def WB:aE:=WA.add 125 QE
theorem aLn:aF prog WB:=aLl.aDF λl hl=>aLo aDG rfl rfl l hl
theorem aDH:aJ WB:=aDG.entry
def WC:aE:=WB.add 95 QF
theorem aLp:aF prog WC:=aLn.nQ bS λx z hz=>by obtain⟨h,e⟩:=gE hz;cases e;exact aLq aDH rfl rfl x h
theorem aDI:aJ WC:=aDH.entry
def WD:aE:=WC.add 94 QG
theorem aLr:aF prog WD:=aLp.nQ bS λx z hz=>by cases hz;exact aLs aDI rfl x
theorem aDJ:aJ WD:=aDI.entry
def WE:aE:=WD.add 61 LW
theorem aLt:aF prog WE:=aLr.nQ bS λx z hz=>by obtain⟨h,e⟩:=gE hz;cases e;exact aLu aDJ rfl rfl rfl rfl rfl x h.1 h.2.1 h.2.2
theorem aDK:aJ WE:=aDJ.entry
def WG:aE:=WE.add 167 QH
theorem aLv:aF prog WG:=aLt.tE bS λx y z hz=>by obtain⟨h,e⟩:=gE hz;cases e;exact aLw aDK rfl x y h
theorem aDL:aJ WG:=aDK.entry
def WH:aE:=WG.add 148 QI
theorem aLx:aF prog WH:=aLv.tE bS λx y z hz=>by obtain⟨h,e⟩:=gE hz;cases e;exact aLy aDL rfl rfl x y h
theorem aDM:aJ WH:=aDL.entry
def WI:aE:=WH.add 128 QJ
theorem aLz:aF prog WI:=aLx.tE bS λx y z hz=>by obtain⟨h,e⟩:=gE hz;cases e;exact aLA aDM rfl rfl x.1 h.1 x.2.1 x.2.2 y h.2
theorem aDN:aJ WI:=aDM.entry
def WJ:aE:=WI.add 127 QK
theorem aLB:aF prog WJ:=aLz.nQ bS λx z hz=>by obtain⟨h,e⟩:=gE hz;cases e;exact aLC aDN rfl rfl rfl x.1 h.1 h.2 x.2.1 x.2.2
theorem aDO:aJ WJ:=aDN.entry
def WK:aE:=WJ.add 97 QL
theorem aLD:aF prog WK:=aLB.tE bS λx y z hz=>by obtain⟨h,e⟩:=gE hz;cases e;exact aLE aDO rfl rfl rfl rfl rfl x.1 h.1 x.2.1 x.2.2 y h.2.1 h.2.2
theorem aDP:aJ WK:=aDO.entry
def WM:aE:=WK.add 99 BV
theorem aLF:aF prog WM:=aLG aDP aLD rfl
theorem aDQ:aJ WM:=aDP.other (aLH)
def WN:aE:=WM.add 129 (vM λnm l=>.int .i64 (eZ (jZ nm) l 0))
theorem aLI:aF prog WN:=aLJ aDQ aLF rfl rfl
theorem aDR:aJ WN:=aDQ.other (aDS _)
def WO:aE:=WN.add 98 (vM λnm l=>.bool (l.any (jZ nm)))
theorem aLK:aF prog WO:=aLL aDR aLI rfl rfl
theorem aDT:aJ WO:=aDR.other (aDS _)
def WQ:aE:=WO.add 64 QM
theorem aLM:aF prog WQ:=aLK.tE bS λx y z hz=>by obtain⟨h,e⟩:=gE hz;cases e;exact aLN aDT rfl rfl rfl rfl x y h.1 h.2.1 h.2.2
theorem aDU:aJ WQ:=aDT.entry
def WR:aE:=WQ.add 62 xZ
theorem aLO:aF prog WR:=aLP aDU aLM rfl
theorem aDV:aJ WR:=aDU.other (aLQ)
def wZ:aE:=WR.add 63 QN
theorem VK:aF prog wZ:=aLO.tE bS λx y z hz=>by obtain⟨h,e⟩:=gE hz;cases e;exact aLR aDV rfl rfl rfl rfl x h.1 y h.2.2
theorem P4:aJ wZ:=aDV.entry
def WS:aE:=wZ.add 27 LX
theorem aLS:aF prog WS:=VK.nQ bS λx z hz=>by obtain⟨h,e⟩:=gE hz;cases e;exact VL P4 rfl rfl rfl rfl rfl rfl x h
theorem aDW:aJ WS:=P4.entry
def WT:aE:=WS.add 53 BW
theorem aLT:aF prog WT:=aLU aDW aLS rfl
theorem aDX:aJ WT:=aDW.other (aLV)
def WU:aE:=WT.add 52 DJ
theorem aLW:aF prog WU:=aLX aDX aLT rfl rfl
theorem aDY:aJ WU:=aDX.other (aLY)
def WV:aE:=WU.add 55 BY
theorem aLZ:aF prog WV:=aL0 aDY aLW rfl
theorem aDZ:aJ WV:=aDY.other (aL1)
def WW:aE:=WV.add 54 DK
theorem aL2:aF prog WW:=aL3 aDZ aLZ rfl rfl
theorem aD0:aJ WW:=aDZ.other (aL4)
def WX:aE:=WW.add 20 gCm
theorem aL5:aF prog WX:=aL2.tE bS λx y z hz=>by obtain⟨h,e⟩:=gE hz;cases e;exact aL6 aD0 rfl rfl rfl rfl x y h.1 h.2.1 h.2.2.1 h.2.2.2
theorem aD1:aJ WX:=aD0.entry
def WY:aE:=WX.add 88 (fP gK yZ)
theorem aL7:aF prog WY:=aL5.uT bS λx y hx hy=>aL8 aD1 rfl x y hx hy
theorem aD2:aJ WY:=aD1.entry
def WZ:aE:=WY.add 37 (fP Em.aN gU)
theorem aL9:aF prog WZ:=aL7.uT bS λx y hx hy=>aMa aD2 rfl x y hx hy
theorem aD3:aJ WZ:=aD2.entry
def W0:aE:=WZ.add 57 (fP Em.stop jT)
theorem aMb:aF prog W0:=aL9.uT bS λx y hx hy=>aMc aD3 rfl rfl x y hx hy
theorem aD4:aJ W0:=aD3.entry
def W2:aE:=W0.add 38 (fP Em.div gV)
theorem aMd:aF prog W2:=aMb.uT bS λx y hx hy=>aMe aD4 rfl rfl x y hx hy
theorem aD5:aJ W2:=aD4.entry
def W3:aE:=W2.add 15 (fP Em.bY fX)
theorem aMf:aF prog W3:=aMd.uT bS λx y hx hy=>aMg aD5 rfl rfl rfl x y hx hy
theorem aD6:aJ W3:=aD5.entry
def W4:aE:=W3.add 11 QO
theorem aMh:aF prog W4:=aMf.nQ bS λx z hz=>by cases hz;exact aHg aD6 rfl x
theorem aD7:aJ W4:=aD6.entry
def W5:aE:=W4.add 67 (entry (cU kB Em.dI λn=>eL (iB n) (some (pM n))))
theorem aMi:aF prog W5:=aMh.nQ bS λx z hz=>by obtain⟨h,e⟩:=gE hz;cases e;exact aMj aD7 rfl x h
theorem aD8:aJ W5:=aD7.entry
def W6:aE:=W5.add 68 (entry (cU kB Em.dI λn=>eL (iB n) (some (nW n))))
theorem aMk:aF prog W6:=aMi.nQ bS λx z hz=>by obtain⟨h,e⟩:=gE hz;cases e;exact aMl aD8 rfl x h
theorem aMm:aJ W6:=aD8.entry
def W7:aE:=W6.add 69 F3
theorem aMn:aF prog W7:=aF.pick aMo aMk (yAJ rfl)
theorem aD9:aJ W7:=aMm.entry
def W8:aE:=W7.add 30 QP
theorem aMp:aF prog W8:=aMn.tE bS λx y z hz=>by
 obtain⟨h,e⟩:=gE hz;cases e;obtain⟨a,rfl⟩:∃a:Nat,y=a:=⟨y.toNat,Cd⟩;rw[yBj];exact aMq aD9 rfl rfl x h.1 a Cd
theorem aEa:aJ W8:=aD9.entry
def W9:aE:=W8.add 31 LY
theorem aMr:aF prog W9:=aMp.aMs aEa rfl rfl rfl
theorem aEb:aJ W9:=aEa.entry
def XA:aE:=W9.add 13 BZ
theorem aMt:aF prog XA:=aMr.nQ bS λx z hz=>by obtain⟨h,e⟩:=gE hz;cases e;exact aMu aEb rfl rfl rfl x h.1 h.2
theorem aMv:aJ XA:=aEb.entry
def XB:aE:=XA.add 10 XC
theorem aMw:aF prog XB:=aF.pick aMx aMt (yAJ rfl)
theorem aMy:aJ XB:=aMv.entry
def XD:aE:=XB.add 76 P5
theorem aMz:aF prog XD:=aKy aMw
theorem aEc:aJ XD:=aMy.entry
def XE:aE:=XD.add 73 (jA 48 6)
theorem aMA:aF prog XE:=aMB aEc aMz rfl
theorem aEd:aJ XE:=IN aEc
def XF:aE:=XE.add 74 (jA 53 5)
theorem aMC:aF prog XF:=aMD aEd aMA rfl
theorem aEe:aJ XF:=IN aEd
def XG:aE:=XF.add 75 (jA 58 5)
theorem aME:aF prog XG:=aMF aEe aMC rfl
theorem aEf:aJ XG:=IN aEe
def XH:aE:=XG.add 110 (jA 56 4)
theorem aMG:aF prog XH:=aMH aEf aME rfl
theorem aEg:aJ XH:=IN aEf
def XI:aE:=XH.add 118 (jA 92 3)
theorem aMI:aF prog XI:=aMJ aEg aMG rfl
theorem aEh:aJ XI:=IN aEg
def DL:aE:=XI.add 119 (jA 89 2)
theorem aMK:aF prog DL:=aML aEh aMI rfl
theorem QQ:aJ DL:=IN aEh
noncomputable def F4:aE:=DL.add 86 (dO prog DL 86)
theorem aMM:aF prog F4:=aMK.pK bS _
theorem XJ:aJ F4:=QQ.e0
noncomputable def w5:aE:=F4.add 77 (dO prog F4 77)
theorem aEi:aF prog w5:=aMM.pK bS _
theorem aEj:aJ w5:=XJ.e0
noncomputable def XK:aE:=w5.add 41 (dO prog w5 41)
theorem aMN:aF prog XK:=aEi.pK bS _
theorem aEk:aJ XK:=aEj.e0
def IP:aE:=XK.add 111 LZ
theorem aMO:aF prog IP:=aMN.aBc bS λn w i z hz=>by obtain⟨h,e⟩:=gE hz;cases e;exact aMP aEk rfl n w i h
theorem aEl:aJ IP:=aEk.entry
noncomputable def IQ:aE:=IP.add 81 (dO prog IP 81)
theorem aMQ:aF prog IQ:=aMO.pK bS _
theorem aEm:aJ IQ:=aEl.e0
noncomputable def XL:aE:=IQ.add 83 (dO prog IQ 83)
theorem XM:aF prog XL:=aMQ.pK bS _
theorem XN:aJ XL:=aEm.e0
def XO:aE:=XL.add 112 (gI 48 6)
theorem XP:aF prog XO:=aF.DM (XM.L1 ⟨_,func112,rfl⟩ aEn) (aF.DM (aMR XN XM rfl) (aMS XN XM rfl))
theorem XQ:aJ XO:=P6 XN
def XR:aE:=XO.add 114 (gI 53 5)
theorem XS:aF prog XR:=aF.DM (XP.L1 ⟨_,func114,rfl⟩ aMT) (aF.DM (aMU XQ XP rfl) (aMV XQ XP rfl))
theorem XT:aJ XR:=P6 XQ
def XU:aE:=XR.add 120 (gI 58 5)
theorem XV:aF prog XU:=aF.DM (XS.L1 ⟨_,func120,rfl⟩ aMW) (aF.DM (aMX XT XS rfl) (aMY XT XS rfl))
theorem XW:aJ XU:=P6 XT
def XX:aE:=XU.add 116 (gI 56 4)
theorem aMZ:aF prog XX:=aF.DM (XV.L1 ⟨_,func116,rfl⟩ aM0) (aF.DM (aM1 XW XV rfl) (aM2 XW XV rfl))
theorem aM3:aJ XX:=P6 XW
def XY:aE:=XX.add 113 (sP 48 6)
theorem aM4:aF prog XY:=aMZ.L3 ⟨_,func113,rfl⟩ aM5
theorem aM6:aJ XY:=P7 aM3
def XZ:aE:=XY.add 115 (sP 53 5)
theorem aM7:aF prog XZ:=aM4.L3 ⟨_,func115,rfl⟩ aEo
theorem aM8:aJ XZ:=P7 aM6
def X1:aE:=XZ.add 121 (sP 58 5)
theorem aM9:aF prog X1:=aM7.L3 ⟨_,func121,rfl⟩ aNa
theorem aNb:aJ X1:=P7 aM8
def IS:aE:=X1.add 117 (sP 56 4)
theorem aNc:aF prog IS:=aM9.L3 ⟨_,func117,rfl⟩ aNd
theorem aEp:aJ IS:=P7 aNb
noncomputable def IT:aE:=IS.add 82 (dO prog IS 82)
theorem aNe:aF prog IT:=aNc.pK bS _
theorem aEq:aJ IT:=aEp.e0
noncomputable def IU:aE:=IT.add 84 (dO prog IT 84)
theorem aNf:aF prog IU:=aNe.pK bS _
theorem aEr:aJ IU:=aEq.e0
noncomputable def IV:aE:=IU.add 87 (dO prog IU 87)
theorem aNg:aF prog IV:=aNf.pK bS _
theorem aEs:aJ IV:=aEr.e0
noncomputable def X2:aE:=IV.add 85 (dO prog IV 85)
theorem aNh:aF prog X2:=aNg.pK bS _
theorem aEt:aJ X2:=aEs.e0
def X3:aE:=X2.add 56 sQ
theorem aNi:aF prog X3:=aNh.nQ bS λx z hz=>by obtain⟨h,e⟩:=gE hz;cases e;exact aKB aEt rfl x h
theorem aEu:aJ X3:=aEt.entry
def DN:aE:=X3.add 78 B0
theorem aNj:aF prog DN:=aNi.nQ bS λx z hz=>by obtain⟨h,e⟩:=gE hz;cases e;exact aKD aEu rfl rfl rfl rfl rfl x h
theorem L4:aJ DN:=aEu.entry
noncomputable def LM:aE:=DN.add 80 (dO prog DN 80)
theorem P0:aF prog LM:=aNj.pK bS _
theorem aC2:aJ LM:=L4.e0
noncomputable def DO:aE:=LM.add 27 (qC (pL prog wZ 27))
theorem aNk:aF prog DO:=aF.pick (f:=27) (VK.aDe bS 27) P0 Ds
theorem L6:F5 DO:=aNl (Eo:=wZ) rfl rfl λo ho=>VL P4 rfl rfl rfl rfl rfl rfl o ho
noncomputable def X4:aE:=LM.add 79 (dO prog DO 79)
theorem aEv:aF prog X4:=aF.pick (f:=79) (aNk.pK bS 79) P0 Ds
theorem aNm:aJ X4:=aC2.e0
def QR:aE:=X4.add 76 (zU P5)
theorem aNn:aF prog QR:=aF.le (aF.pick (f:=76) (g:=P5) P0 aEv rfl) aEv λfl args σ x h=>by
 unfold zU at h;split at h
 .exact h
 .cases h
theorem IW:aJ QR:=aNo aNm _
theorem IX:∀(o:aY) (ho:fX o) (τ:List aA),aK prog w5 0 (.inl 41) [Em.bY.aB o] τ (λp σ'=>(∃iR iD iC ds tS tss tG tgs tW,jC σ' τ.length o p iR iD iC ds tS tss tG tgs tW)/\τ.length<=σ'.length/\∀id,id<τ.length->σ'[id]?=τ[id]?):=λo ho τ=>
 aNp aEj (E0:=F4) rfl rfl rfl rfl rfl rfl (λd hd τ=>aEw XJ (E0:=DL) rfl rfl rfl (λs hs τ=>X5 QQ rfl rfl rfl s hs τ) d hd τ) o ho τ
theorem aNq:X6 IS qD:=aNr aEp rfl rfl rfl
theorem aNs:X7 IT qE DV:=aNt aEq rfl rfl rfl
theorem aNu:X8 IU o4:=aNv aEr rfl rfl rfl
theorem aNw:X9 IV:=aNx aEs rfl rfl rfl
theorem aNy:YA IP:=aNz aEl rfl rfl
theorem aNA:YB IQ:=aNB aEm rfl rfl
theorem aNC:YC DL:=aND QQ rfl rfl rfl
theorem aNE:YD F4 DV:=aNF XJ (E0:=DL) QQ rfl rfl rfl rfl rfl rfl
theorem aNG(o:aY)(x:bM)(ho:jP o)(hx:l7 x):RunT prog QR 42 [Em.bY.aB o,Em.edit.aB x] ((Em.bY.p7 i64).aB (cP o x)):=by
 have hok:=ho.dP;have hoO:=hok.fX;have hsh:=ho.short;obtain⟨b1,b2,b3,b4⟩:=ho.bounds;unfold cP
 by_cases hf:fS x≠0
 .rw[yAJ hf];obtain⟨p,σ,h1,h2⟩:=(aNH IW rfl rfl o x hx.dT hf).ex;exact xW h1 h2
 rw[yAI hf];have hf:fS x=0:=by simpa using hf
 have hk:1<=x.kind/\x.kind<=13:=by
  exact xo
 by_cases bK:x.kind=13
 .rw[yAJ bK];obtain⟨p,σ,h1,P1,P2,P3,h2,l1,l2,l3⟩:=(aNI IW (E1:=w5) (E4:=DO) rfl rfl rfl IX rfl L6 (λσ lo o p iR iD iC ds tS tss tG tgs tW hO _ hs=>⟨qD.qF (sS hO hs).1,qE.qF (sS hO hs).2.1,o4.qF (sS hO hs).2.2⟩) o x hoO hsh hx.dT hf bK (o0.dP ⟨hx.1,ho.2.aQ,ho.2.aD,ho.2.aL⟩ (show o.aQ.length<=1000000 by omega) (show o.aD.length<=1000000 by omega) (show o.aL.length<=1000000 by omega))).ex;exact II h1 h2 l1 l2 l3
 rw[yAI bK];have aVQ:1<=x.kind/\x.kind<=12:=Cd;obtain⟨wy,hwy⟩:=gn ((x.kind-1)%3)
 by_cases t0:(x.kind-1)/3=0
 .rw[yAJ t0];obtain⟨p,σ,h1,hp⟩:=(aNJ IW (E1:=w5) (E2:=DN) (E3:=IS) (E4:=DO) (E5:=IP) rfl rfl rfl IX rfl rfl L4 rfl rfl (qD:=qD) rfl aNq rfl aNy rfl rfl L6 (λσ lo o p iR iD iC ds tS tss tG tgs tW hO _ hs=>⟨(sS hO hs).1,qE.qF (sS hO hs).2.1,o4.qF (sS hO hs).2.2⟩) o x hoO hsh hx.dT hf Cd
   (λd hd s hs g hg w hw=>by have:=ho.aR d hd s hs g hg w hw;omega) (λ_=>(aEx ho.2 hx.2.1 _ _).dP (yAQ (F1 _ _ _ _) Cd) It (show o.aL.length<=1000000 by omega))).ex
  exact eu
 rw[yAI t0]
 by_cases t1:(x.kind-1)/3=1
 .rw[yAJ t1];obtain⟨p,σ,h1,hp⟩:=(aNK IW (E1:=w5) (E2:=DN) (E3:=IT) (E4:=DO) (E5:=IQ) (E6:=F4) rfl rfl rfl IX rfl rfl L4 rfl rfl (qE:=qE) (DV:=DV) rfl aNs rfl aNA rfl aNE rfl L6 (λσ lo o p iR iD iC ds tS tss tG tgs tW hO _ hs=>⟨qD.qF (sS hO hs).1,(sS hO hs).2.1,o4.qF (sS hO hs).2.2⟩) o x hoO hsh hx.dT hf Cd
   (λσ σ2 P l h _ hk=>h.aM λid t n v cs _ hy=>(hk id (yA.1 hy).1).trans hy) (λc hc=>by have:=ho.ends c hc;omega) (λ_=>(aEy ho.2 hx.2.2.1 _ _).dP (show o.aQ.length<=1000000 by omega) (yAQ (F1 _ _ _ _) Cd) Iu)).ex
  exact eu
 rw[yAI t1]
 by_cases t2:(x.kind-1)/3=2
 .rw[yAJ t2];obtain⟨p,σ,h1,hp⟩:=(aNL IW (E1:=w5) (E2:=DN) (E3:=IV) (E4:=DO) (E6:=DL) rfl rfl rfl IX rfl rfl L4 rfl rfl rfl aNw rfl aNC rfl L6 o x hoO hsh hx.dT hf Cd
   (λhd=>(VM ho.2 hx.2.2.2.1 _ _ _ hd (by have:=b4 _ (BT hd aU);omega)).dP (show o.aQ.length<=1000000 by omega) Im (show o.aL.length<=1000000 by omega))).ex
  rcases hp with⟨hb,h2⟩ | ⟨hb,P1,P2,P3,h2,l1,l2,l3⟩
  .rw[yAI hb];exact xW h1 h2
  .rw[yAJ hb];exact II h1 h2 l1 l2 l3
 rw[yAI t2];obtain⟨p,σ,h1,hp⟩:=(aNM IW (E1:=w5) (E2:=DN) (E3:=IU) (E4:=DO) rfl rfl rfl IX rfl rfl L4 rfl rfl (o4:=o4) rfl aNu rfl L6 (λσ lo o p iR iD iC ds tS tss tG tgs tW hO _ hs=>⟨qD.qF (sS hO hs).1,qE.qF (sS hO hs).2.1,(sS hO hs).2.2⟩) (λσ σ' P l h k _=>h.aM (k.mono λt ht=>ht.elim id False.elim)) o x hoO hsh hx.dT hf Cd
  ((VN ho.2 hx.2.2.2.2 _ _).dP (show o.aQ.length<=1000000 by omega) (show o.aD.length<=1000000 by omega) (yAQ (F1 _ _ _ _) Cd))).ex
 rw[hwy]at hp ⊢;rcases hp with⟨hb,h2⟩ | ⟨hb1,hb2,P1,P2,P3,h2,l1,l2,l3⟩
 .rw[yAI (λh:eI _ _ _=>by unfold eI at h;rcases hb with hb|hb<;>omega)];exact xW h1 h2
 .rw[yAJ (show eI _ _ _ from⟨hb1,Cd⟩)];exact II h1 h2 l1 l2 l3
theorem wW{n wy i:Int}(hw:wy=0\/wy=1\/wy=2):((dR n wy i).2=true↔¬(wy=1/\n=i))/\(¬(wy=1/\n=i)->(dR n wy i).1=BQ i (vK wy) n):=by
 unfold dR BQ vK;rcases hw with rfl|rfl|rfl
 .simp;split<;>simp
 .simp
  by_cases h1:n=i
  .simp[h1]
  .simp only[h1,yAN,yCz,true_implies]
   by_cases h2:i<n
   .rw[yAJ h2,yAJ Cd];exact⟨Ce,Co⟩
   .rw[yAI h2,yAI Cd];simp
 .simp
theorem aCZ{wy i:Int}{o:aY}(hw:wy=0\/wy=1\/wy=2):sK wy i o↔¬(wy=1/\LI i o):=by
 unfold sK LI
 constructor
 .rintro h ⟨h1,d,hd,s,hs,g,hg,ha⟩
  obtain⟨w,oK,LJ⟩:=yCm.1 ha;exact(wW hw).1.1 (h d hd s hs g hg w oK) ⟨h1,by simpa [wX]using LJ⟩
 .intro h d hd s hs g hg w oK;refine(wW hw).1.2 λ⟨h1,h2⟩=>h ⟨h1,d,hd,s,hs,g,hg,yCm.2 ⟨w,oK,by simp[wX,h2]⟩⟩
theorem aC0{wy i:Int}{o:aY}(hw:wy=0\/wy=1\/wy=2):(∀c∈o.aL,oX wy i c=true)↔¬(wy=1/\LK i o):=by
 unfold LK
 constructor
 .rintro h ⟨h1,ha⟩
  obtain⟨c,hc,hc2⟩:=yCm.1 ha;have h3:=h c hc;unfold oX at h3;rw[yAr]at h3;simp only[nV,yBv,yCa]at hc2;rcases hc2 with e|e
  .exact(wW hw).1.1 h3.1 ⟨h1,e⟩
  .exact(wW hw).1.1 h3.2 ⟨h1,e⟩
 .intro h c hc;unfold oX;rw[yAr];exact⟨(wW hw).1.2 λ⟨h1,h2⟩=>h ⟨h1,yCm.2 ⟨c,hc,by simp[nV,h2]⟩⟩,(wW hw).1.2 λ⟨h1,h2⟩=>h ⟨h1,yCm.2 ⟨c,hc,by simp[nV,h2]⟩⟩⟩
theorem aJT{wy i:Int}{r:bP}{o:aY}(hw:wy=0\/wy=1\/wy=2)(h:¬(wy=1/\LI i o)):IF wy i r o=sL wy i r o:=by
 unfold IF sL;have e:mT (mI i (vK wy)) o=eY wy i o:=by
  unfold mT eY
  congr 1
  refine yAG λd hd=>?_
  unfold xT oY
  congr 1
  refine yAG λs hs=>?_
  unfold zN sM
  congr 1
  refine yAG λg hg=>?_
  unfold FZ wY
  congr 1
  refine yAG λw oK=>?_
  unfold mI uE;rw[(wW hw).2 λ⟨h1,h2⟩=>h ⟨h1,d,hd,s,hs,g,hg,yCm.2 ⟨w,oK,by simp[wX,h2]⟩⟩]
 rw[e]
theorem aJU{wy i:Int}{r:bO}{o:aY}(hw:wy=0\/wy=1\/wy=2)(h:¬(wy=1/\LK i o)):IG wy i r o=sN wy i r o:=by
 unfold IG sN;have e:zO i (vK wy) o=iZ wy i o:=by
  unfold zO iZ
  congr 1
  refine yAG λc hc=>?_
  unfold oZ rL;rw[(wW hw).2 λ⟨h1,h2⟩=>h ⟨h1,yCm.2 ⟨c,hc,by simp[nV,h2]⟩⟩,(wW hw).2 λ⟨h1,h2⟩=>h ⟨h1,yCm.2 ⟨c,hc,by simp[nV,h2]⟩⟩]
 rw[e]
theorem aJV{f:dQ->dQ}{d:bO}(h:rM d):rM (xT f d):=by
 obtain⟨h1,h2,h3⟩:=h;refine⟨h1,by unfold xT;rw[yAe];exact h2,λs hs=>?_⟩;obtain⟨t,ht,rfl⟩:=yAw.1 hs;obtain⟨⟨k1,k2⟩,k3⟩:=h3 t ht;refine⟨⟨by unfold zN;rw[yAe];exact k1,λg hg=>?_⟩,k3⟩;obtain⟨q,hq,rfl⟩:=yAw.1 hg;have:=k2 q hq;unfold wH yZ FZ at *;rw[yAe];exact this
theorem aJW{o:aY}{r:bP}(h:o0 o)(hr:xU r)(wy i:Int):o0 (IF wy i r o):=⟨h.name,λq hq=>by
 rcases IH hq with hq|rfl
 .exact h.aQ q hq
 .exact hr,λd hd=>by
 obtain⟨t,ht,rfl⟩:=yAw.1 hd;exact aJV (h.aD t ht),h.aL⟩
theorem aJX{o:aY}{d:bO}(h:o0 o)(hr:rM d)(wy i:Int):o0 (IG wy i d o):=⟨h.name,h.aQ,λq hq=>by
 rcases IH hq with hq|rfl
 .exact h.aD q hq
 .exact hr,λc hc=>by
 obtain⟨t,ht,rfl⟩:=yAw.1 hc;exact h.aL t ht⟩
theorem LL{E:aE}{f:FuncId}{args:Jk}{p:PD}{σ:Jj}{bad conf:Prop}{EO:aY}(h:nO prog E 0 (.inl f) args [] p σ)(hp:xV bad conf EO p σ) :
  (bad/\RunT prog E f args ((Em.bY.p7 i64).aB (vL,10)))\/(¬bad/\conf/\RunT prog E f args ((Em.bY.p7 i64).aB (vL,14)))\/(¬bad/\¬conf/\RunT prog E f args ((Em.bY.p7 i64).aB (iQ EO))):=by
 obtain⟨n,r,d,c⟩:=EO;rcases hp with⟨hb,h2⟩ | ⟨hb,hc,h2⟩ | ⟨hb,hc,P1,P2,P3,h2,l1,l2,l3⟩
 .exact .inl ⟨hb,xW h h2⟩
 .exact .inr (.inl ⟨hb,hc,xW h h2⟩)
 .exact .inr (.inr ⟨hb,hc,II h h2 l1 l2 l3⟩)
def VF:aE:=LM
theorem aJY:aF prog VF:=P0
theorem aC1:aJ VF:=aC2
def VG:aE:=VF.add 39 qW
theorem aJZ:aF prog VG:=aJY.nQ bS λx z hz=>by obtain⟨h,e⟩:=gE hz;cases e;exact aJ0 aC1 rfl x h
theorem aC3:aJ VG:=aC1.entry
def VH:aE:=VG.add 45 F0
theorem aJ1:aF prog VH:=aJZ.aBc bS λw i n z hz=>by cases hz;exact aJ2 aC3 rfl w i n
theorem aC4:aJ VH:=aC3.entry
def VI:aE:=VH.add 22 (fP Em.edit dT)
theorem aJ3:aF prog VI:=aJ1.tE bS λx y z hz=>by obtain⟨h,e⟩:=gE hz;cases e;exact aJ4 aC4 rfl rfl rfl rfl x y h.1 h.2
theorem aC5:aJ VI:=aC4.entry
def BN:aE:=VI.add 43 BR
theorem aC6:aF prog BN:=aJ3.nQ bS λx z hz=>by obtain⟨h,e⟩:=gE hz;cases e;exact aJ5 aC5 rfl rfl rfl x h.1 h.2
theorem VJ:aJ BN:=aC5.entry
noncomputable def zP:aE:=BN.add 40 (dO prog BN 40)
theorem aJ6:aF prog zP:=aC6.pK bS _
theorem aC7:aJ zP:=VJ.e0
noncomputable def IJ:aE:=zP.add 44 (dO prog zP 44)
theorem aJ7:aF prog IJ:=aJ6.pK bS _
theorem aC8:aJ IJ:=aC7.e0
noncomputable def IK:aE:=IJ.add 46 (dO prog IJ 46)
theorem aJ8:aF prog IK:=aJ7.pK bS _
theorem aC9:aJ IK:=aC8.e0
noncomputable def LN:aE:=IK.add 48 (dO prog IK 48)
theorem aJ9:aF prog LN:=aJ8.pK bS _
theorem aDa:aJ LN:=aC9.e0
noncomputable def LO:aE:=LN.add 47 (dO prog LN 47)
theorem aKa:aF prog LO:=aJ9.pK bS _
theorem aDb:aJ LO:=aDa.e0
noncomputable def LP:aE:=LO.add 49 (dO prog LO 49)
theorem aKb:aF prog LP:=aKa.pK bS _
theorem aDc:aJ LP:=aDb.e0
noncomputable def LQ:aE:=LP.add 51 (dO prog LP 51)
theorem aKc:aF prog LQ:=aKb.pK bS _
theorem aKd:aJ LQ:=aDc.e0
noncomputable def aDd:aE:=LQ.add 50 (dO prog LQ 50)
theorem aKe:aF prog aDd:=aKc.pK bS _
noncomputable def zQ:aE:=aDd.add 27 (qC (pL prog wZ 27))
theorem aKf:aF prog zQ:=aF.pick (f:=27) (VK.aDe bS 27) aKe Ds
theorem aCY:aDf BN:=λd hd τ=>aKg VJ rfl d hd τ
theorem LR:IL zP:=λo ho τ=>aKh aC7 (E0:=BN) rfl rfl aCY o ho τ
theorem aKi:aDg IJ:=λfm b hb1 o p aV lo iR iD iC ds tS tss tG tgs tW hO hlo ho hb=>aKj aC8 rfl fm b hb1 o p aV lo iR iD iC ds tS tss tG tgs tW hO hlo ho hb
theorem aKk:aDh IK:=λfm b hb1 o p aV lo iR iD iC ds tS tss tG tgs tW hO hlo ho hb=>aKl aC9 rfl fm b hb1 o p aV lo iR iD iC ds tS tss tG tgs tW hO hlo ho hb
theorem LU:∀o,dP o->aI prog wZ 27 [Em.bY.aB o] (i64.aB (dG o)):=λo ho=>VL P4 rfl rfl rfl rfl rfl rfl o ho
theorem BS{o:aY}(h:jP o):fX o:=h.dP.fX
theorem aKm(o:aY)(x:bM)(ho:jP o)(hx:l7 x):RunT prog zQ 18 [Em.bY.aB o,Em.edit.aB x] ((Em.bY.p7 i64).aB (cP o x)):=by
 have hoO:=BS ho;obtain⟨b1,b2,b3,b4⟩:=ho.bounds;unfold cP
 by_cases hk:1<=x.kind/\x.kind<=13
 rotate_left
 .have hf:fS x=12:=by unfold fS;rw[yAJ Cd]
  rw[yAJ Dz,hf];obtain⟨p,σ,h1,h2⟩:=(aKn (E:=zQ) rfl o x hk).ex;exact xW h1 h2
 by_cases hf:fS x≠0
 .rw[yAJ hf];have hf7:fS x=7:=by
   unfold fS at hf ⊢;rw[yAI Cd]at hf ⊢;split
   .rename_i h;rw[yAJ h]at hf;exact absurd rfl hf
   .rfl
  rw[hf7];obtain⟨p,σ,h1,h2⟩:=(aKo (E:=zQ) rfl rfl o x hx.dT hk hf).ex;exact xW h1 h2
 rw[yAI hf];have hf:fS x=0:=by simpa using hf
 have hwy:(x.kind-1)%3=0\/(x.kind-1)%3=1\/(x.kind-1)%3=2:=Cd
 by_cases bK:x.kind=13
 .rw[yAJ bK];obtain⟨p,σ,h1,h2⟩:=(aKp (E:=zQ) (E1:=zP) (Eo:=wZ) rfl rfl rfl LR rfl rfl LU o x hoO hx.dT hf Cd (o0.dP ⟨hx.1,ho.2.aQ,ho.2.aD,ho.2.aL⟩ (show o.aQ.length<=1000000 by omega) (show o.aD.length<=1000000 by omega) (show o.aL.length<=1000000 by omega))).ex;rcases LL h1 h2 with h|h|h
  .exact h.1.elim
  .exact h.2.1.elim
  .exact h.2.2
 rw[yAI bK]
 by_cases t0:(x.kind-1)/3=0
 .rw[yAJ t0];obtain⟨p,σ,h1,h2⟩:=(aKq (E:=zQ) (E1:=zP) (E3:=LN) (E5:=IJ) (Eo:=wZ) rfl rfl rfl LR rfl rfl rfl (aKr aDa rfl) rfl aKi rfl LU o x hoO hx.dT hf Cd Cd (λd hd s hs g hg w hw=>by have:=ho.aR d hd s hs g hg w hw;omega)
   ((aJW ho.2 hx.2.1 _ _).dP (yAQ (F1 _ _ _ _) Cd) It (show o.aL.length<=1000000 by omega))).ex
  rcases LL h1 h2 with⟨hb,h⟩ | ⟨hb,hc,h⟩ | ⟨hb,hc,h⟩
  .rw[yAI hb];exact h
  .rw[yAJ (yDj.1 hb),yAI (λe=>(aCZ hwy).1 e hc)];exact h
  .rw[yAJ (yDj.1 hb),yAJ ((aCZ hwy).2 hc),<-aJT hwy hc];exact h
 rw[yAI t0]
 by_cases t1:(x.kind-1)/3=1
 .rw[yAJ t1];obtain⟨p,σ,h1,h2⟩:=(aKs (E:=zQ) (E1:=zP) (E3:=LO) (E5:=IK) (Eo:=wZ) rfl rfl rfl LR rfl rfl rfl (aKt aDb rfl) rfl aKk rfl LU o x hoO hx.dT hf Cd Cd (λc hc=>by have:=ho.ends c hc;omega)
   ((aJX ho.2 hx.2.2.1 _ _).dP (show o.aQ.length<=1000000 by omega) (yAQ (F1 _ _ _ _) Cd) Iu)).ex
  rcases LL h1 h2 with⟨hb,h⟩ | ⟨hb,hc,h⟩ | ⟨hb,hc,h⟩
  .rw[yAI hb];exact h
  .rw[yAJ (yDj.1 hb),yAI (λe=>(aC0 hwy).1 e hc)];exact h
  .rw[yAJ (yDj.1 hb),yAJ ((aC0 hwy).2 hc),<-aJU hwy hc];exact h
 rw[yAI t1]
 by_cases t2:(x.kind-1)/3=2
 .rw[yAJ t2];obtain⟨p,σ,h1,h2⟩:=(aKu (E:=zQ) (E1:=zP) (E3:=LQ) (Eo:=wZ) rfl rfl rfl LR rfl rfl rfl (aKv aKd rfl) rfl LU o x hoO hx.dT hf Cd (λd hd=>by have:=b4 d hd;omega)
   (λhd=>(VM ho.2 hx.2.2.2.1 _ _ _ hd (by have:=b4 _ (BT hd aU);omega)).dP (show o.aQ.length<=1000000 by omega) Im (show o.aL.length<=1000000 by omega))).ex
  exact mw
 rw[yAI t2];obtain⟨p,σ,h1,h2⟩:=(aKw (E:=zQ) (E1:=zP) (E3:=LP) (Eo:=wZ) rfl rfl rfl LR rfl rfl rfl (aKx aDc rfl) rfl LU o x hoO hx.dT hf Cd Cd
  ((VN ho.2 hx.2.2.2.2 _ _).dP (show o.aQ.length<=1000000 by omega) (show o.aD.length<=1000000 by omega) (yAQ (F1 _ _ _ _) Cd))).ex
 exact mw
structure tA where
 kind:Int
 div:Int
 idx:Int
 eK:pY
 extra:Int
def cF.eK:cF pY:=((cF.one JU).pair ((cF.one JV).pair (.one JW))).nH (λr=>(r.aQ,r.aD,r.aL)) (λx y h=>Cl)
def Em.change:Em tA:=.agg (((cF.one i64).pair ((cF.one i64).pair ((cF.one i64).pair (cF.eK.pair (.one kB))))).nH (λr=>(r.kind,r.div,r.idx,r.eK,r.extra)) (λx y h=>Cl))
theorem DI{c:tA}:Em.change.aB c=.agg [.int .i64 c.kind,.int .i64 c.div,.int .i64 c.idx,JU.aB c.eK.aQ,JV.aB c.eK.aD,JW.aB c.eK.aL,.int .u8 c.extra]:=rfl
def BL(c:tA):Prop:=EP c.kind/\yW c.eK/\nI c.eK=true/\iB c.extra
def nU:List UInt8:=[78,101,119]
def gT(k:Int):Int:=if k<1 then -1 else if (k-1)%3=1/\(k-1)/3<4 then -1 else(k-1)/3
def vJ(o:aY):bO:=o.aD.getD (o.aD.length-1) aU
def mS(w:Int)(o:aY)(x:bM):bM:=
 if w=0 then { x with aN:={ o.aQ.getD 0 bB with name:=nU } }
 else if w=1 then { x with frame:={ vJ o with name:=nU } }
 else if w=2 then(match (vJ o).stops with | []=>x|s::_=>{ x with stop:={ s with name:=nU } })
 else if w=3 then(match o.aL with | []=>x|c::_=>{ x with bF:={ c with name:=nU } })
 else if w=4 then { x with idx:=0,name:=nU }
 else x
def FY(c:tA)(x:bM):bM:=if (7<=c.kind/\c.kind<=9)\/c.extra%8=1 then { x with div:=c.div }else x
def qB(e:Int)(x:bM):bM:=
 if e=2 then { x with name:=[120] }
 else if e=3 then { x with aN:={ x.aN with mC:=[1] } }
 else if e=4 then { x with bF:={ x.bF with shift:=x.bF.shift+1 } }
 else if e=5 then { x with frame:={ x.frame with dV:=!x.frame.dV } }
 else x
def uB(c:tA):bM:=qB (c.extra%8) (FY c (mS (gT c.kind) (fW c.eK) ⟨c.kind,0,c.idx,[],bB,aU,bA,bD⟩))
theorem IE{p:pY}(hp:yW p)(hf:nI p=true):jP (fW p):=⟨aJQ p hp hf,(aJR p hf).dP.fit⟩
def BM:Nat->List PD->List aA->Option (PD×List aA):=entry (cU Em.div Em.div λd=>eL (gV d) (some d))
theorem PY{d:bO}(h:gV d)(fl:Nat)(σ:List aA):BM fl [Em.div.aB d] σ=some (Em.div.aB d,σ):=by
 have e1:=Em.dC (Em.div.str d);unfold BM entry cU;simp only[e1,fY h]
theorem aJS(d:bO)(hd:gV d):RunT prog BN 40 [Em.div.aB d] (Em.div.aB d):=by
 obtain⟨p,σ,h1,⟨iS,ss,tG,tgs,tW,rfl,hV,_,_⟩⟩:=(aCY d hd []).ex;have hl:cX Em.stop 4 j5 σ (Go.Kz.hb 4 iS (d.stops.length-1) d.stops.length) d.stops:=by
  refine BO.oI (e:=56) (R:=oJ) ⟨ss,?_,uC hV.len λi hi=>⟨_,(hV.at_ i hi).1,rfl⟩,eX.of hV.len λi h1 h2=>?_⟩ Ch (λt ht=>ht)
  .by_cases h0:d.stops=[]
   .have hd:ss=[]:=yAf (by rw[hV.len,h0];rfl);exact .inl ⟨hd,0,.full,by rw[h0];rfl⟩
   .have hp:0<d.stops.length:=yCl.2 h0;exact .inr ⟨λe=>by have:=hV.len;rw[e]at this;simp at this;omega,iS,d.stops.length-1,by rw[BP hp,hV.len],(hV.row hp).2⟩
  .have e:=(yA.1 (hV.at_ i h2).1).2;rw[e];exact λσ' k=>((hV.at_ i h2).2.wV σ' k).up Cd
 obtain⟨a1,a2⟩:=hl.bJ σ (λ_ _ _ _ _ _ h=>h) 11;refine⟨20,_,σ,h1,?_,?_⟩
 .show PD.agg [.str d.name,.bool d.dV,.int .i64 d.low,.int .i64 d.high,PD.strip (bJ σ 19 _)]=_
  rw[a1];rfl
 .show(true&&(true&&(true&&(true&&(PD.cI (bJ σ 19 _)&&true)))))=true
  rw[a2];rfl
theorem PZ{x:bM}(h:EP x.kind){Y:PD}(hY:Y.strip=Em.edit.aB x)(fl:Nat)(σ:List aA):qW fl [Y] σ=some (.aH [.int .i64 ((IntKind.i64.wrap (x.kind-1)).tdiv 3),.int .i64 ((IntKind.i64.wrap (x.kind-1)).tmod 3)],σ):=by
 have e1:=Em.dC hY;unfold qW entry cU;simp only[e1,fY h];rfl
end Go.Kz
end
