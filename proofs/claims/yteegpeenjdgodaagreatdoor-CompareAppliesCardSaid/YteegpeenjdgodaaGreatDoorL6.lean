/- Steps of the proof. -/
import Derived.Test.YteegpeenjdgodaaGreatDoorL1d
import Derived.Test.YteegpeenjdgodaaGreatDoorX1d
import Derived.Test.YteegpeenjdgodaaGreatDoorX8b
import Derived.Test.YteegpeenjdgodaaGreatDoorP9
import Derived.Test.YteegpeenjdgodaaGreatDoorP5d
import Derived.Test.YteegpeenjdgodaaGreatDoorL0
set_option linter.all false
set_option maxHeartbeats 40000000
set_option maxRecDepth 100000
open Go.Proofs.Tryz
noncomputable section
namespace Go.Kz
open Go Go.Proofs
section
theorem aTk{σ σ':Jp}{lo:Nat}{o:aV}{p:PD}{iR iD iC:Nat}{ds:Jn}{tS:Nat->Nat}{tss:Jm}{tG:Nat->Nat->Nat}{tgs:Jl}{tW:Nat->Nat->Nat->Nat}(hO:jN σ lo o p iR iD iC ds tS tss tG tgs tW)(d:Nat)(hd:d<o.aD.length)(Q:PD)(l:List cJ)(hQ:∀τ,aW j8 σ' τ->lO Em.stop 4 τ 7 Q l)
  (hk:aW j8 σ σ') (hr:σ'[iD]?=some (.row 53 5 (o.aD.length-1) (ds.set d [.str o.aD[d].name,.bool o.aD[d].dO,.int .i64 o.aD[d].low,.int .i64 o.aD[d].high,Q]).flatten)) :
  cO Em.div 5 kO σ' (Go.Kz.hb 5 iD (o.aD.length-1) o.aD.length) (o.aD.set d { o.aD[d]with stops:=l }):=by
 have hA:eV (lN Em.div 7 j8 σ') (ds.set d [.str o.aD[d].name,.bool o.aD[d].dO,.int .i64 o.aD[d].low,.int .i64 o.aD[d].high,Q]) (o.aD.set d { o.aD[d]with stops:=l }):=by
  refine eV.of (by rw[yAD,yAD,hO.len]) λi h1 h2=>?_
  rw[yAD]at h1 h2
  by_cases e:i=d
  .subst e;rw[yCT,yCT];exact λτ eC=>RI (d:={ o.aD[i]with stops:=l }) (L:=6) (hQ τ eC)
  .rw[yDM (yAU e),yDM (yAU e)];have e1:=(yA.1 (hO.at_ i h2).1).2;rw[e1];exact((hO.at_ i h2).2.kept hk).wS
 have h0:=cO.row (R:=j8) (R':=kO) (v:=o.aD.length-1) Cn hr (.inl rfl) (λ_ h=>.inr h) (λ_ _ _ _ _ _ h=>h) (λg hg=>by
  rcases yCM hg with hg|rfl
  .exact uB hO.len (λi hi=>⟨_,(hO.at_ i hi).1,rfl⟩) g hg
  .rfl) hA
 rw[yAD]at h0;rw[BV Cj];exact h0
variable{E E1 E3 E5 Eo:aE}
theorem aK2(h0:E 18=none)(h1:E 43=some BZ)(h2:E 44=some (dI prog E1 44))(H2:IW E1)(h3:E 39=some rM)(h4:E 45=some F9)(h5:E 50=some (dI prog E3 50))(H5:ER E3 50 Em.stop 4 56 5 oJ j8)(h6:E 27=some (qB (pM prog Eo 27)))(H6:∀o,cL o->aI prog Eo 27 [Em.bB.aB o] (i64.aB (bT o)))
  (o:aV) (x:cF) (ho:eF o) (hx:dW x) (hf:gX x=0) (hk:7<=x.kind/\x.kind<=9) (hsm:∀d∈o.aD,d.stops.length<=900000) (hokr:x.div.toNat<o.aD.length->cL (wX ((x.kind-1)%3) x.idx x.div x.stop o)) :
  aK prog E 0 (.inl 18) [Em.bB.aB o,Em.edit.aB x] [] (xR (¬((0<=x.div/\x.div<o.aD.length)/\fY ((x.kind-1)%3) x.idx (o.aD.getD x.div.toNat cX).stops.length)) (False) (wX ((x.kind-1)%3) x.idx x.div x.stop o)):=by
 have hn:1<=x.kind/\x.kind<=13:=Cj;have k1:=λfl σ=>J1 (x:=x) ⟨hn,hx⟩ fl σ
 rw[hf,yAX rfl]at k1;have k3:=λfl σ=>J2 (x:=x) hn fl σ
 have hth:(x.kind-1)/3=2:=Cj;rw[hth]at k3;obtain⟨wy,hwy⟩:=gn ((x.kind-1)%3);have iF:wy=0\/wy=1\/wy=2:=Cj;rw[hwy]at k3 hokr;rw[hwy];have k2:=(H2 o ho [.box (Em.bB.aB o),.box (Em.edit.aB x),.box (.agg [.str [],.slice 0 [] .full,.slice 0 [] .full,.slice 0 [] .full])]).e0 Ck;obtain⟨p,σ1,k2,⟨iR,iD,iC,ds,tS,tss,tG,tgs,tW,hO⟩,hl1,hk1⟩:=k2;have hp:=hO.p;subst hp;have b0:=hk1 0 Ck;have b1:=hk1 1 Ck;have b2:=hk1 2 Ck;simp only[yBj,yBz]at b0 b1 b2;obtain⟨hR,hhR⟩:=gn (Go.Kz.hn 6 iR o.aR.length);obtain⟨hD,hhD⟩:=gn (Go.Kz.hb 5 iD (o.aD.length-1) o.aD.length);obtain⟨hC,hhC⟩:=gn (Go.Kz.hn 5 iC o.aP.length);have pR:hR.plain=true:=Dr;have pD:hD.plain=true:=Dd;have pC:hC.plain=true:=Ds;have cR:hR.cells=[hR]:=Eh;have cD:hD.cells=[hD]:=Dg;have cC:hC.cells=[hC]:=Dz;unfold PD.plain at pR pD pC;unfold PD.cells at cR cD cC;simp only[hhR,hhD,hhC]at hO k2;obtain⟨OB,hOB⟩:=gn (σ1.length);have TJ:3<=OB:=Fo;obtain⟨σ2,bO⟩:=gn (σ1++[aA.box (.agg [.str o.name,hR,hD,hC])]);have eL:jN σ2 3 o (.agg [.str o.name,hR,hD,hC]) iR iD iC ds tS tss tG tgs tW:=Dx;have fZ:3<=σ2.length:=Ex;have D8:σ2≠[]:=λe=>Ez
 have jS:∀x y:aA,(σ1++[x]).set OB y=σ1++[y]:=λx y=>Ec
 have jO:∀x:aA,(σ1++[x])[OB]?=some x:=λx=>Ec
 have c3:σ2[OB]?=some (.box (.agg [.str o.name,hR,hD,hC])):=Fp;obtain⟨kd,dv,ix,nm,⟨rn,rt,ra,rb,rf,wd⟩,⟨fn,fp,flo,fhi,fs⟩,⟨sn,sa,sb,sg⟩,⟨cn,ca,cb,cs,ct⟩⟩:=x;obtain⟨on,rs,dd,cc⟩:=o;simp only[bZ,dT,aU]at k1 k2 k3 b0 b1 b2 hk hwy;simp only[bZ,dT,aU];have n1:¬kd<1:=Cj;have n2:¬13<kd:=Cj;have c0:=bG (τ:=[aA.box (.agg [.str on,hR,hD,hC])]) b0;have c1:=bG (τ:=[aA.box (.agg [.str on,hR,hD,hC])]) b1;have c2:=bG (τ:=[aA.box (.agg [.str on,hR,hD,hC])]) b2;simp only at bO c3;rw[bO]at c0 c1 c2;obtain⟨w0,z0⟩:=yA.1 c0;obtain⟨w1,z1⟩:=yA.1 c1;obtain⟨w2,z2⟩:=yA.1 c2;obtain⟨w3,z3⟩:=yA.1 c3;have hoD:=hO.len
 by_cases q1:dv<0
 .have hz:=h0;refine aK.aG 166 h0 func18 (h:=?_);refine aC (A20 h1 k1 h2 k2 h3 k3 n1 n2 hOB jO jS bO c0 c1 c2 c3 w0 w1 w2 (A12 w3 @z0 z1 @z2 @z3 pR pD pC cR cD cC q1)) ?_;exact⟨.aH [bA,.int .i64 10],σ2.set 2 (.box bA),by simp[bQ,w2,bA],.inl ⟨λh=>by have:=h.1.1;omega,rfl⟩⟩
 by_cases q2:(dd.length:Int)<=dv
 .have hz:=h0;refine aK.aG 166 h0 func18 (h:=?_);refine aC (A20 h1 k1 h2 k2 h3 k3 n1 n2 hOB jO jS bO c0 c1 c2 c3 w0 w1 w2 (A13 w3 @z0 z1 @z2 @z3 pR pD pC cR cD cC q1 q2)) ?_;exact⟨.aH [bA,.int .i64 10],σ2.set 2 (.box bA),by simp[bQ,w2,bA],.inl ⟨λh=>by have:=h.1.2;omega,rfl⟩⟩
 obtain⟨d,rfl⟩:∃d:Nat,dv=d:=⟨dv.toNat,Cj⟩;have hd:d<dd.length:=Cj;have hge:dd.getD d cX=dd[d]:=by rw[yAA,yAh hd];rfl
 have hed:wX wy ix (d:Int) ⟨sn,sa,sb,sg⟩ ⟨on,rs,dd,cc⟩=⟨on,rs,dd.set d { dd[d]with stops:=bP dd[d].stops wy ix.toNat ⟨sn,sa,sb,sg⟩ },cc⟩:=by
  unfold wX;simp only[yBp,hge]
 have hokr:=hokr hd;simp only[yBp,hge]at hokr ⊢;rw[hed]at hokr ⊢;have hcl:dd[d].stops.length<=900000:=hsm _ (yAm hd);have hpos:(0:Int)<=(d:Int):=Cj;have hdq:(d:Int)<(dd.length:Int):=Cj;simp only[hpos,hdq,yBy,yCe];have k4:=λfl σ=>TK wy ix (dd[d].stops.length:Nat) fl σ
 have xd:(dd.map Em.div.aB)[d]?=some (Em.div.aB dd[d]):=by rw[yAo,yAh hd];rfl
 have xd2:=xd;obtain⟨sd,hsd⟩:=gn (dd[d])
 by_cases hb:fY wy ix dd[d].stops.length
 rotate_left
 .have km:=TL hb iF;simp only[km]at k4;refine aK.aG 166 h0 func18 (h:=?_);refine aC (A20 h1 k1 h2 k2 h3 k3 n1 n2 hOB jO jS bO c0 c1 c2 c3 w0 w1 w2 (A16 w3 @z0 z1 @z2 @z3 pR pD pC cR cD cC q1 q2 xd h4 k4)) ?_;exact⟨.aH [bA,.int .i64 10],σ2.set 2 (.box bA),by simp[bQ,w2,bA],.inl ⟨hb,rfl⟩⟩
 have km:=TM hb iF;simp only[km]at k4;obtain⟨i,rfl⟩:∃i:Nat,ix=i:=⟨ix.toNat,Ic⟩;simp only[yBp]at hokr ⊢;have hDr:hD=.aO iD (dd.length-1) 0 dd.length 5:=by rw[<-hhD];exact BV (show 0<dd.length by omega)
 subst hDr;have xk:jD prog 32 (.aO iD (dd.length-1) 0 dd.length 5) (.int .i64 d)=some (.dG iD (dd.length-1) (d*5)):=by
  simp[jT,hd]
 have hDrow:=(eL.row (show 0<dd.length by omega)).2;have hDlo:=(eL.row (show 0<dd.length by omega)).1;have hDg:=(eL.at_ d hd).1;have hDV:=(eL.at_ d hd).2;simp only at hDrow hDg hDV;have uI:∀g∈ds,g.length=5:=uB eL.len λi hi=>⟨_,(eL.at_ i hi).1,rfl⟩
 have hdl:ds.length=dd.length:=eL.len;have hV:=N5 eL;simp only[hhR,hhC]at hV;have hflat:=lF ds uI;have hgd:ds[d]' Cj=[.str dd[d].name,.bool dd[d].dO,.int .i64 dd[d].low,.int .i64 dd[d].high,Go.Kz.hq 4 (tS d) (dd[d].stops.length-1) dd[d].stops.length]:=(yA.1 hDg).2;have hat:=qX (sz:=5) ds d Cj uI;obtain⟨nZ,hhS⟩:=gn (Go.Kz.hq 4 (tS d) (dd[d].stops.length-1) dd[d].stops.length);have hSV:=aSX hDV;rw[hhS]at hgd hSV;rw[hgd]at hat;have uL:(ds.flatten.drop (d*5+4)).take 1=[nZ]:=by
  exact Am
 have pS:nZ.plain=true:=by rw[<-hhS];exact G7 _ _ _ _
 have cS:nZ.cells=[nZ]:=by rw[<-hhS];exact G8 _ _ _ _
 unfold PD.plain at pS;unfold PD.cells at cS;have fG:d*5+4+1<=ds.flatten.length:=Cj;obtain⟨wZ,xW⟩:=gn (ds.flatten);rw[xW]at hDrow uL fG;have I9:wZ[d*5+4]' Cj=nZ:=by
  exact gh
 obtain⟨uD,yD⟩:=yA.1 hDrow;have k5:=(H5 σ2 nZ dd[d].stops wy i ⟨sn,sa,sb,sg⟩ hSV hcl (TN hb iF)).e0 D8;obtain⟨Q,bR,k5,⟨pQ,cQ,lQ⟩,jI,bU⟩:=k5;simp only[pZ,aU]at k5;have s0:=(bU 0 w0).trans c0;have s1:=(bU 1 w1).trans c1;have s2:=(bU 2 w2).trans c2;have s3:=(bU OB w3).trans c3;have sD:=(bU iD uD).trans hDrow;unfold PD.plain at pQ;unfold PD.cells at cQ;obtain⟨f0,d0⟩:=yA.1 s0;obtain⟨f1,d1⟩:=yA.1 s1;obtain⟨f2,d2⟩:=yA.1 s2;obtain⟨f3,d3⟩:=yA.1 s3;obtain⟨fD,dD⟩:=yA.1 sD;have hfs:=wY (sz:=5) (new:=[Q]) (j:=3+1) Ck ds d Cj uI;rw[hgd]at hfs;have hset:dF [PD.str dd[d].name,.bool dd[d].dO,.int .i64 dd[d].low,.int .i64 dd[d].high,nZ] (3+1) [Q]=[.str dd[d].name,.bool dd[d].dO,.int .i64 dd[d].low,.int .i64 dd[d].high,Q]:=rfl;rw[hset,xW]at hfs;simp only[dF,yAT,yAO,yAp,Nat.reduceAdd,yAi,yBs,yAV,yBX]at hfs;obtain⟨eE,jZ⟩:=gn (bR.set iD (.row 53 5 (dd.length-1) (List.take (d*5+4) wZ++Q::List.drop (d*5+4+1) wZ)));have hr5:eE[iD]?=some (.row 53 5 (dd.length-1) (ds.set d [.str dd[d].name,.bool dd[d].dO,.int .i64 dd[d].low,.int .i64 dd[d].high,Q]).flatten):=by
  rw[<-jZ,yAj fD,<-hfs]
 have kS:∀R:TypeId->Prop,(∀t,R t->t≠53)->aW R bR eE:=λR hR id t n v cs ht hy=>by
  rw[<-jZ,yAd (λe=>by rw[<-e,sD]at hy;exact hR _ ht (aA.row.inj (yAR hy)).1.symm)];exact hy
 have a5:eE[OB]?=some (.box (.agg [.str on,hR,.aO iD (dd.length-1) 0 dd.length 5,hC])):=by rw[<-jZ,yAd (λe=>by rw[e,s3]at sD;cases sD)];exact s3
 have t2:eE[2]?=some (.box (.agg [.str [],.slice 0 [] .full,.slice 0 [] .full,.slice 0 [] .full])):=by rw[<-jZ,yAd (λe=>by rw[e,s2]at sD;cases sD)];exact s2
 have m1:=(hV.1.oI (R':=kM) Cn (λt ht=>ht.elim id False.elim)).aM ((wC bU).trans (kS kM (λt h=>Df)));have m2:=aTk (σ':=eE) eL d hd Q (bP dd[d].stops wy i ⟨sn,sa,sb,sg⟩) (λτ eC=>lQ τ ((kS j8 (λt h=>by rcases h with h|h|h<;>rw[h]<;>decide)).trans eC)) ((wC bU).trans (kS j8 (λt h=>by rcases h with h|h|h<;>rw[h]<;>decide))) hr5;have m3:=(hV.2.2.oI (R':=jH) Cn (λt ht=>ht.elim id False.elim)).aM ((wC bU).trans (kS jH (λt h=>Df)));simp only at m2;rw[show Go.Kz.hb 5 iD (dd.length-1) dd.length=.aO iD (dd.length-1) 0 dd.length 5 from BV Cj]at m2;have CR:=λfl=>GH (on:=on) m1 m2 m3 (H6 _ hokr) fl
 obtain⟨e,he⟩:=gn (bT (⟨on,rs,dd.set d { dd[d]with stops:=bP dd[d].stops wy i ⟨sn,sa,sb,sg⟩ },cc⟩));have k6:∀fl,qB (pM prog Eo 27) fl [.agg [.str on,hR,.aO iD (dd.length-1) 0 dd.length 5,hC]] eE=some (.int .i64 e,eE):=λfl=>Fi
 obtain⟨r5,x5⟩:=yA.1 a5;obtain⟨r2,x2⟩:=yA.1 t2;unfold xR;rw[he]
 by_cases hz:e=0
 .subst hz;rcases iF with rfl|rfl|rfl
  iterate 3
   have CQ:=h0;refine aK.aG 166 h0 func18 (h:=?_);refine aBx (A20 h1 k1 h2 k2 h3 k3 n1 n2 hOB jO jS bO c0 c1 c2 c3 w0 w1 w2 (A20 w3 @z0 z1 @z2 @z3 pR pD pC cR cD cC q1 q2 xd h4 k4 xk hDrow uD (A20 yD fG uL I9 pS cS h5 k5 s0 @s1 @s2 s3 sD @f0 @f1 @f2 @f3 fD @d0 (A20 @d1 @d2 @d3 dD pQ cQ jZ h6 k6 @a5 r5 x5 @t2 r2 x2 pR pD pC cR (A4 cD cC pQ cQ))))) ?_;refine⟨.aH [.agg [.str on,hR,.aO iD (dd.length-1) 0 dd.length 5,hC],.int .i64 0],eE.set 2 (.box (.agg [.str on,hR,.aO iD (dd.length-1) 0 dd.length 5,hC])),?_,.inr (.inr ⟨λh=>h hb,id,hR,.aO iD (dd.length-1) 0 dd.length 5,hC,rfl,m1.aM (aW.set t2 _),m2.aM (aW.set t2 _),m3.aM (aW.set t2 _)⟩)⟩;simp[bQ,r2]
 .have mB:=hz;rcases iF with rfl|rfl|rfl
  iterate 3
   have CQ:=h0;refine aK.aG 166 h0 func18 (h:=?_);refine aBx (A20 h1 k1 h2 k2 h3 k3 n1 n2 hOB jO jS bO c0 c1 c2 c3 w0 w1 w2 (A20 w3 @z0 z1 @z2 @z3 pR pD pC cR cD cC q1 q2 xd h4 k4 xk hDrow uD (A20 yD fG uL I9 pS cS h5 k5 s0 @s1 @s2 s3 sD @f0 @f1 @f2 @f3 fD @d0 (A20 @d1 @d2 @d3 dD pQ cQ jZ h6 k6 @hz @a5 r5 x5 @t2 r2 x2 pR pD pC (A5 cR cD cC pQ cQ))))) ?_;refine⟨.aH [bS,.int .i64 e],eE.set 2 (.box bS),?_,.inr (.inr ⟨λh=>h hb,id,hR,.aO iD (dd.length-1) 0 dd.length 5,hC,Gg,m1.aM (aW.set t2 _),m2.aM (aW.set t2 _),m3.aM (aW.set t2 _)⟩)⟩;simp[bQ,r2,bS]
end
section
def jP(th hw:Int)(x:cF):cF:=⟨x.kind,if th=2 then x.div else 0,if th<4 then x.idx else 0,if th<4 then []else x.name,if th=0/\hw≠1 then x.aL else dV,if th=1/\hw≠1 then x.frame else cX,if th=2/\hw≠1 then x.stop else eD,if th=3/\hw≠1 then x.aZ else eU⟩
theorem wD{th hw:Int}{x:cF}(h:dW x):dW (jP th hw x):=by
 have n1:gS dV:=yAF _;have n2:gT cX:=⟨yAF _,λ_ h=>Co⟩;have n3:jQ eD:=⟨yAF _,λ_ h=>Co⟩;obtain⟨h1,h2,h3⟩:=h;refine⟨?_,?_,?_⟩
 .unfold jP;simp only;split
  .exact h1
  .exact n1
 .unfold jP;simp only;split
  .exact h2
  .exact n2
 .unfold jP;simp only;split
  .exact h3
  .exact n3
theorem aTl{x:cF}(h:1<=x.kind/\x.kind<=13):decide (x=jP ((x.kind-1)/3) ((x.kind-1)%3) x)=decide (gX x=0):=by
 have hk:¬(x.kind<1\/13<x.kind):=Cj;unfold gX;rw[yAI hk];obtain⟨kd,dv,ix,nm,R,F,S,C⟩:=x;simp only at h;obtain⟨n,rfl⟩:∃n:Nat,kd=n+1:=⟨(kd-1).toNat,Cj⟩;have hn:n<13:=Cj;rw[yAu];have e:∀b:Bool,((if b=true then(0:Int)else 7)=0)↔b=true:=λb=>by cases b<;>decide
 rw[e];unfold mN;rw[yCb]
 match n,hn with
 |0,_=>simp[jP,o7,mN];try(constructor<;>(intro h;simp_all))
 |1,_=>simp[jP,o7,mN];try(constructor<;>(intro h;simp_all))
 |2,_=>simp[jP,o7,mN];try(constructor<;>(intro h;simp_all))
 |3,_=>simp[jP,o7,mN];try(constructor<;>(intro h;simp_all))
 |4,_=>simp[jP,o7,mN];try(constructor<;>(intro h;simp_all))
 |5,_=>simp[jP,o7,mN];try(constructor<;>(intro h;simp_all))
 |6,_=>simp[jP,o7,mN];try(constructor<;>(intro h;simp_all))
 |7,_=>simp[jP,o7,mN];try(constructor<;>(intro h;simp_all))
 |8,_=>simp[jP,o7,mN];try(constructor<;>(intro h;simp_all))
 |9,_=>simp[jP,o7,mN];try(constructor<;>(intro h;simp_all))
 |10,_=>simp[jP,o7,mN];try(constructor<;>(intro h;simp_all))
 |11,_=>simp[jP,o7,mN];try(constructor<;>(intro h;simp_all))
 |12,_=>simp[jP,o7,mN];try(constructor<;>(intro h;simp_all))
variable{E:aE}(hU:aJ E)
include hU
theorem aKy(h0:E 39=none)(x:cF)(h:yQ x.kind):aI prog E 39 [Em.edit.aB x] ((i64.nT i64).aB ((IntKind.i64.wrap (x.kind-1)).tdiv 3,(IntKind.i64.wrap (x.kind-1)).tmod 3)):=by
 obtain⟨kd,dv,ix,nm,⟨rn,rt,ra,rb,rf,wd⟩,⟨fn,fp,flo,fhi,fs⟩,⟨sn,sa,sb,sg⟩,⟨cn,ca,cb,cs,ct⟩⟩:=x;obtain⟨w,hw⟩:=gn (IntKind.i64.wrap (kd-1));have hr:-9223372036854775808<=w/\w<=9223372036854775807:=by rw[<-hw,yAP];omega
 have h1:IntKind.i64.wrap (w.tdiv 3)=w.tdiv 3:=by
  have h2:-9223372036854775808<=w.tdiv 3/\w.tdiv 3<=9223372036854775807:=by
   rcases Int.le_total 0 w with h|h
   .rw[yCW h];omega
   .have:=Int.neg_tdiv (-w) 3;rw[Int.neg_neg]at this;rw[this,yCW Cj];omega
  rw[yAP];omega
 have h3:IntKind.i64.wrap (w.tmod 3)=w.tmod 3:=by
  have h2:-3<w.tmod 3/\w.tmod 3<3:=by
   rcases Int.le_total 0 w with h|h
   .rw[yBY h];omega
   .have:=Int.neg_tmod (-w) 3;rw[Int.neg_neg]at this;rw[this,yBY Cj];omega
  rw[yAP];omega
 simp only[bZ,aU];rw[hw];refine aI.aG 12 h0 func39 (h:=?_);refine aC (A3 @hw h1 h3) ?_;exact ag
theorem aKA(h0:E 45=none)(w i n:Int):aI prog E 45 [i64.aB w,i64.aB i,i64.aB n] (Em.bool.aB (CS w i n)):=by
 show aI _ _ _ [.int .i64 w,.int .i64 i,.int .i64 n] (.bool (CS w i n))
 unfold CS
 by_cases c1:i<0
 .rw[yAX (.inl c1)];refine aI.aG 23 h0 func45 (h:=?_);refine aC c1 ?_;exact ag
 by_cases c2:n<i
 .rw[yAX (.inr (.inl c2))];refine aI.aG 23 h0 func45 (h:=?_);refine aC (A2 c1 c2) ?_;exact ag
 by_cases c3:w=0
 .rw[yBe (by simp[c1,c2,c3])];exact Bj
 by_cases c4:i=n
 .rw[yAX (.inr (.inr ⟨c3,c4⟩))];subst c4;have hz:=h0;exact Bj
 .rw[yBe (by simp[c1,c2,c4])];have hz:=h0;refine aI.aG 23 h0 func45 (h:=?_);refine aC (A4 c1 c2 c3 c4) ?_;exact ag
theorem aTm(h0:E 19=none)(h1:E 15=some (fH Em.bB eF))(o:aV)(h:eF o):aI prog E 19 [Em.bB.aB o] (Em.bool.aB (decide (o=gE))):=by
 have k1:=λfl σ=>pH (a:=Em.bB) (R:=eF) (x:=o) (y:=gE) (q:=bA) h ⟨⟨yAF _,λ_ h=>Co⟩,⟨yAF _,λ_ h=>Co⟩,yAF _⟩ (Em.bB.str o) rfl fl σ
 obtain⟨on,rs,dd,cc⟩:=o;unfold bA at k1;simp only[dT,aU]at k1 ⊢;refine aI.aG 6 h0 func19 (h:=?_);refine aC (A2 h1 k1) ?_;exact ag
theorem aKC(h0:E 22=none)(h1:E 37=some (fH Em.aL gS))(h2:E 38=some (fH Em.div gT))(h3:E 57=some (fH Em.stop jQ))(x y:cF)(hx:dW x)(hy:dW y) :
  aI prog E 22 [Em.edit.aB x,Em.edit.aB y] (Em.bool.aB (decide (x=y))):=by
 have k1:=λfl σ=>oR (a:=Em.aL) hx.1 hy.1 fl σ
 have k2:=λfl σ=>oR (a:=Em.div) hx.2.1 hy.2.1 fl σ
 have k3:=λfl σ=>oR (a:=Em.stop) hx.2.2 hy.2.2 fl σ
 obtain⟨kd,dv,ix,nm,R,F,S,C⟩:=x;obtain⟨kd',dv',ix',TS,R',F',S',C'⟩:=y;simp only at k1 k2 k3;obtain⟨b1,hb1⟩:∃b,decide (R=R')=b:=⟨_,rfl⟩;obtain⟨b2,hb2⟩:∃b,decide (F=F')=b:=⟨_,rfl⟩;obtain⟨b3,hb3⟩:∃b,decide (S=S')=b:=⟨_,rfl⟩;rw[hb1]at k1;rw[hb2]at k2;rw[hb3]at k3;have hD:decide ((⟨kd,dv,ix,nm,R,F,S,C⟩:cF)=⟨kd',dv',ix',TS,R',F',S',C'⟩)=(decide (kd=kd')&&decide (dv=dv')&&decide (ix=ix')&&decide (nm=TS)&&b1&&b2&&b3&&decide (C=C')):=by
  rw[<-hb1,<-hb2,<-hb3];simp only[cF.mk.injEq,Bool.decide_and,Bool.and_assoc]
 rw[hD];clear hb1 hb2 hb3 hD hx hy;obtain⟨rn,rt,ra,rb,rf,wd⟩:=R;obtain⟨fn,fp,flo,fhi,fs⟩:=F;obtain⟨sn,sa,sb,sg⟩:=S;obtain⟨cn,ca,cb,cs,ct⟩:=C;obtain⟨rn',rt',ra',rb',rf',wd'⟩:=R';obtain⟨fn',fp',aWN,aWO,fs'⟩:=F';obtain⟨sn',sa',sb',sg'⟩:=S';obtain⟨cn',ca',cb',cs',ct'⟩:=C';simp only[bZ,oB,nL,pZ,aU]at k1 k2 k3 ⊢
 by_cases e1:kd=kd'
 rotate_left
 .have hz:=h0;refine aI.aG 59 h0 func22 (h:=?_);refine aC e1 ?_;simp(disch:=first|omega|(simp;done)|(simp;omega)) [yAu,e1]<;>try rfl
 by_cases e2:dv=dv'
 rotate_left
 .have hz:=h0;refine aI.aG 59 h0 func22 (h:=?_);refine aC (A2 e1 e2) ?_;simp(disch:=first|omega|(simp;done)|(simp;omega)) [yAu,e2]<;>try rfl
 by_cases e3:ix=ix'
 rotate_left
 .have hz:=h0;refine aI.aG 59 h0 func22 (h:=?_);refine aC (A3 e1 e2 e3) ?_;simp(disch:=first|omega|(simp;done)|(simp;omega)) [yAu,e3]<;>try rfl
 by_cases e4:nm=TS
 rotate_left
 .have f4:(nm==TS)=false:=by simpa using e4
  refine aI.aG 59 h0 func22 (h:=?_);refine aC (A5 e1 e2 e3 e4 @f4) ?_;simp(disch:=first|omega|(simp;done)|(simp;omega)) [yAu,e4]<;>try rfl
 cases b1 with
 |false=>
  have hz:=h0;refine aI.aG 59 h0 func22 (h:=?_);refine aC (A6 e1 e2 e3 e4 h1 k1) ?_;exact ag
 |true=>
 cases b2 with
 |false=>
  have hz:=h0;refine aI.aG 59 h0 func22 (h:=?_);refine aC (A8 e1 e2 e3 e4 h1 k1 h2 k2) ?_;exact ag
 |true=>
 cases b3 with
 |false=>
  have hz:=h0;refine aI.aG 59 h0 func22 (h:=?_);refine aC (A10 e1 e2 e3 e4 h1 k1 h2 k2 h3 k3) ?_;exact ag
 |true=>
 by_cases e5:cn=cn'
 rotate_left
 .have f5:(cn==cn')=false:=by simpa using e5
  refine aI.aG 59 h0 func22 (h:=?_);refine aC (A12 e1 e2 e3 e4 h1 k1 h2 k2 h3 k3 e5 @f5) ?_;simp(disch:=first|omega|(simp;done)|(simp;omega)) [yAu,e5]<;>try rfl
 subst e1 e2 e3 e4 e5;have hz:=h0;refine aI.aG 59 h0 func22 (h:=?_);refine aC (A6 h1 k1 h2 k2 h3 k3) ?_;simp(disch:=first|omega|(simp;done)|(simp;omega)) [yAu,bX.mk.injEq]<;>try rfl
theorem aKD(h0:E 43=none)(h1:E 39=some rM)(h2:E 22=some (fH Em.edit dW))(x:cF)(hk:1<=x.kind/\x.kind<=13)(hx:dW x):aI prog E 43 [Em.edit.aB x] (Em.bool.aB (decide (gX x=0))):=by
 rw[<-aTl hk];have k1:=λfl σ=>J2 (x:=x) hk fl σ
 obtain⟨th,hth⟩:=gn ((x.kind-1)/3);obtain⟨wy,hwy⟩:=gn ((x.kind-1)%3);rw[hth,hwy]at k1 ⊢;have hs:(th=4/\wy=0)\/((th=0\/th=1\/th=2\/th=3)/\(wy=0\/wy=1\/wy=2)):=Cj;obtain⟨kd,dv,ix,nm,⟨rn,rt,ra,rb,rf,wd⟩,⟨fn,fp,flo,fhi,fs⟩,⟨sn,sa,sb,sg⟩,⟨cn,ca,cb,cs,ct⟩⟩:=x;clear hth hwy hk;rcases hs with⟨rfl,rfl⟩ | ⟨rfl|rfl|rfl|rfl,rfl|rfl|rfl⟩
 .have hK:=wD (th:=4) (hw:=0) hx;have k2:=λfl σ=>pH (a:=Em.edit) (R:=dW) (p:=Em.edit.aB _) (q:=.agg [.int .i64 kd,.int .i64 0,.int .i64 0,.str nm,.str [],.str [],.int .i64 0,.int .i64 0,.int .i64 0,.slice 0 [] .full,.str [],.bool false,.int .i64 0,.int .i64 0,.slice 0 [] .full,.str [],.int .i64 0,.int .i64 0,.slice 0 [] .full,.str [],.int .i64 0,.int .i64 0,.int .i64 0,.bool false]) hx hK (Em.edit.str _) (rfl) fl σ
  obtain⟨B,hB⟩:∃b,decide ((⟨kd,dv,ix,nm,⟨rn,rt,ra,rb,rf,wd⟩,⟨fn,fp,flo,fhi,fs⟩,⟨sn,sa,sb,sg⟩,⟨cn,ca,cb,cs,ct⟩⟩:cF)=jP 4 0 ⟨kd,dv,ix,nm,⟨rn,rt,ra,rb,rf,wd⟩,⟨fn,fp,flo,fhi,fs⟩,⟨sn,sa,sb,sg⟩,⟨cn,ca,cb,cs,ct⟩⟩)=b:=⟨_,rfl⟩;exact yw
 .have hK:=wD (th:=0) (hw:=0) hx;have k2:=λfl σ=>pH (a:=Em.edit) (R:=dW) (p:=Em.edit.aB _) (q:=.agg [.int .i64 kd,.int .i64 0,.int .i64 ix,.str [],.str rn,.str rt,.int .i64 ra,.int .i64 rb,.int .i64 rf,.slice (sz 1 wd) (wd.map i64.aB) .any,.str [],.bool false,.int .i64 0,.int .i64 0,.slice 0 [] .full,.str [],.int .i64 0,.int .i64 0,.slice 0 [] .full,.str [],.int .i64 0,.int .i64 0,.int .i64 0,.bool false]) hx hK (Em.edit.str _) Ge fl σ
  obtain⟨B,hB⟩:∃b,decide ((⟨kd,dv,ix,nm,⟨rn,rt,ra,rb,rf,wd⟩,⟨fn,fp,flo,fhi,fs⟩,⟨sn,sa,sb,sg⟩,⟨cn,ca,cb,cs,ct⟩⟩:cF)=jP 0 0 ⟨kd,dv,ix,nm,⟨rn,rt,ra,rb,rf,wd⟩,⟨fn,fp,flo,fhi,fs⟩,⟨sn,sa,sb,sg⟩,⟨cn,ca,cb,cs,ct⟩⟩)=b:=⟨_,rfl⟩;exact yw
 .have hK:=wD (th:=0) (hw:=1) hx;have k2:=λfl σ=>pH (a:=Em.edit) (R:=dW) (p:=Em.edit.aB _) (q:=.agg [.int .i64 kd,.int .i64 0,.int .i64 ix,.str [],.str [],.str [],.int .i64 0,.int .i64 0,.int .i64 0,.slice 0 [] .full,.str [],.bool false,.int .i64 0,.int .i64 0,.slice 0 [] .full,.str [],.int .i64 0,.int .i64 0,.slice 0 [] .full,.str [],.int .i64 0,.int .i64 0,.int .i64 0,.bool false]) hx hK (Em.edit.str _) (rfl) fl σ
  obtain⟨B,hB⟩:∃b,decide ((⟨kd,dv,ix,nm,⟨rn,rt,ra,rb,rf,wd⟩,⟨fn,fp,flo,fhi,fs⟩,⟨sn,sa,sb,sg⟩,⟨cn,ca,cb,cs,ct⟩⟩:cF)=jP 0 1 ⟨kd,dv,ix,nm,⟨rn,rt,ra,rb,rf,wd⟩,⟨fn,fp,flo,fhi,fs⟩,⟨sn,sa,sb,sg⟩,⟨cn,ca,cb,cs,ct⟩⟩)=b:=⟨_,rfl⟩;exact yw
 .have hK:=wD (th:=0) (hw:=2) hx;have k2:=λfl σ=>pH (a:=Em.edit) (R:=dW) (p:=Em.edit.aB _) (q:=.agg [.int .i64 kd,.int .i64 0,.int .i64 ix,.str [],.str rn,.str rt,.int .i64 ra,.int .i64 rb,.int .i64 rf,.slice (sz 1 wd) (wd.map i64.aB) .any,.str [],.bool false,.int .i64 0,.int .i64 0,.slice 0 [] .full,.str [],.int .i64 0,.int .i64 0,.slice 0 [] .full,.str [],.int .i64 0,.int .i64 0,.int .i64 0,.bool false]) hx hK (Em.edit.str _) Ge fl σ
  obtain⟨B,hB⟩:∃b,decide ((⟨kd,dv,ix,nm,⟨rn,rt,ra,rb,rf,wd⟩,⟨fn,fp,flo,fhi,fs⟩,⟨sn,sa,sb,sg⟩,⟨cn,ca,cb,cs,ct⟩⟩:cF)=jP 0 2 ⟨kd,dv,ix,nm,⟨rn,rt,ra,rb,rf,wd⟩,⟨fn,fp,flo,fhi,fs⟩,⟨sn,sa,sb,sg⟩,⟨cn,ca,cb,cs,ct⟩⟩)=b:=⟨_,rfl⟩;exact yw
 .have hK:=wD (th:=1) (hw:=0) hx;have k2:=λfl σ=>pH (a:=Em.edit) (R:=dW) (p:=Em.edit.aB _) (q:=.agg [.int .i64 kd,.int .i64 0,.int .i64 ix,.str [],.str [],.str [],.int .i64 0,.int .i64 0,.int .i64 0,.slice 0 [] .full,.str fn,.bool fp,.int .i64 flo,.int .i64 fhi,.slice (sz 4 fs) (fs.map Em.stop.aB) .any,.str [],.int .i64 0,.int .i64 0,.slice 0 [] .full,.str [],.int .i64 0,.int .i64 0,.int .i64 0,.bool false]) hx hK (Em.edit.str _) Fs fl σ
  obtain⟨B,hB⟩:∃b,decide ((⟨kd,dv,ix,nm,⟨rn,rt,ra,rb,rf,wd⟩,⟨fn,fp,flo,fhi,fs⟩,⟨sn,sa,sb,sg⟩,⟨cn,ca,cb,cs,ct⟩⟩:cF)=jP 1 0 ⟨kd,dv,ix,nm,⟨rn,rt,ra,rb,rf,wd⟩,⟨fn,fp,flo,fhi,fs⟩,⟨sn,sa,sb,sg⟩,⟨cn,ca,cb,cs,ct⟩⟩)=b:=⟨_,rfl⟩;exact yw
 .have hK:=wD (th:=1) (hw:=1) hx;have k2:=λfl σ=>pH (a:=Em.edit) (R:=dW) (p:=Em.edit.aB _) (q:=.agg [.int .i64 kd,.int .i64 0,.int .i64 ix,.str [],.str [],.str [],.int .i64 0,.int .i64 0,.int .i64 0,.slice 0 [] .full,.str [],.bool false,.int .i64 0,.int .i64 0,.slice 0 [] .full,.str [],.int .i64 0,.int .i64 0,.slice 0 [] .full,.str [],.int .i64 0,.int .i64 0,.int .i64 0,.bool false]) hx hK (Em.edit.str _) (rfl) fl σ
  obtain⟨B,hB⟩:∃b,decide ((⟨kd,dv,ix,nm,⟨rn,rt,ra,rb,rf,wd⟩,⟨fn,fp,flo,fhi,fs⟩,⟨sn,sa,sb,sg⟩,⟨cn,ca,cb,cs,ct⟩⟩:cF)=jP 1 1 ⟨kd,dv,ix,nm,⟨rn,rt,ra,rb,rf,wd⟩,⟨fn,fp,flo,fhi,fs⟩,⟨sn,sa,sb,sg⟩,⟨cn,ca,cb,cs,ct⟩⟩)=b:=⟨_,rfl⟩;exact yw
 .have hK:=wD (th:=1) (hw:=2) hx;have k2:=λfl σ=>pH (a:=Em.edit) (R:=dW) (p:=Em.edit.aB _) (q:=.agg [.int .i64 kd,.int .i64 0,.int .i64 ix,.str [],.str [],.str [],.int .i64 0,.int .i64 0,.int .i64 0,.slice 0 [] .full,.str fn,.bool fp,.int .i64 flo,.int .i64 fhi,.slice (sz 4 fs) (fs.map Em.stop.aB) .any,.str [],.int .i64 0,.int .i64 0,.slice 0 [] .full,.str [],.int .i64 0,.int .i64 0,.int .i64 0,.bool false]) hx hK (Em.edit.str _) Fs fl σ
  obtain⟨B,hB⟩:∃b,decide ((⟨kd,dv,ix,nm,⟨rn,rt,ra,rb,rf,wd⟩,⟨fn,fp,flo,fhi,fs⟩,⟨sn,sa,sb,sg⟩,⟨cn,ca,cb,cs,ct⟩⟩:cF)=jP 1 2 ⟨kd,dv,ix,nm,⟨rn,rt,ra,rb,rf,wd⟩,⟨fn,fp,flo,fhi,fs⟩,⟨sn,sa,sb,sg⟩,⟨cn,ca,cb,cs,ct⟩⟩)=b:=⟨_,rfl⟩;exact yw
 .have hK:=wD (th:=2) (hw:=0) hx;have k2:=λfl σ=>pH (a:=Em.edit) (R:=dW) (p:=Em.edit.aB _) (q:=.agg [.int .i64 kd,.int .i64 dv,.int .i64 ix,.str [],.str [],.str [],.int .i64 0,.int .i64 0,.int .i64 0,.slice 0 [] .full,.str [],.bool false,.int .i64 0,.int .i64 0,.slice 0 [] .full,.str sn,.int .i64 sa,.int .i64 sb,.slice (sz 3 sg) (sg.map Em.eZ.aB) .any,.str [],.int .i64 0,.int .i64 0,.int .i64 0,.bool false]) hx hK (Em.edit.str _) Fz fl σ
  obtain⟨B,hB⟩:∃b,decide ((⟨kd,dv,ix,nm,⟨rn,rt,ra,rb,rf,wd⟩,⟨fn,fp,flo,fhi,fs⟩,⟨sn,sa,sb,sg⟩,⟨cn,ca,cb,cs,ct⟩⟩:cF)=jP 2 0 ⟨kd,dv,ix,nm,⟨rn,rt,ra,rb,rf,wd⟩,⟨fn,fp,flo,fhi,fs⟩,⟨sn,sa,sb,sg⟩,⟨cn,ca,cb,cs,ct⟩⟩)=b:=⟨_,rfl⟩;exact yw
 .have hK:=wD (th:=2) (hw:=1) hx;have k2:=λfl σ=>pH (a:=Em.edit) (R:=dW) (p:=Em.edit.aB _) (q:=.agg [.int .i64 kd,.int .i64 dv,.int .i64 ix,.str [],.str [],.str [],.int .i64 0,.int .i64 0,.int .i64 0,.slice 0 [] .full,.str [],.bool false,.int .i64 0,.int .i64 0,.slice 0 [] .full,.str [],.int .i64 0,.int .i64 0,.slice 0 [] .full,.str [],.int .i64 0,.int .i64 0,.int .i64 0,.bool false]) hx hK (Em.edit.str _) (rfl) fl σ
  obtain⟨B,hB⟩:∃b,decide ((⟨kd,dv,ix,nm,⟨rn,rt,ra,rb,rf,wd⟩,⟨fn,fp,flo,fhi,fs⟩,⟨sn,sa,sb,sg⟩,⟨cn,ca,cb,cs,ct⟩⟩:cF)=jP 2 1 ⟨kd,dv,ix,nm,⟨rn,rt,ra,rb,rf,wd⟩,⟨fn,fp,flo,fhi,fs⟩,⟨sn,sa,sb,sg⟩,⟨cn,ca,cb,cs,ct⟩⟩)=b:=⟨_,rfl⟩;exact yw
 .have hK:=wD (th:=2) (hw:=2) hx;have k2:=λfl σ=>pH (a:=Em.edit) (R:=dW) (p:=Em.edit.aB _) (q:=.agg [.int .i64 kd,.int .i64 dv,.int .i64 ix,.str [],.str [],.str [],.int .i64 0,.int .i64 0,.int .i64 0,.slice 0 [] .full,.str [],.bool false,.int .i64 0,.int .i64 0,.slice 0 [] .full,.str sn,.int .i64 sa,.int .i64 sb,.slice (sz 3 sg) (sg.map Em.eZ.aB) .any,.str [],.int .i64 0,.int .i64 0,.int .i64 0,.bool false]) hx hK (Em.edit.str _) Fz fl σ
  obtain⟨B,hB⟩:∃b,decide ((⟨kd,dv,ix,nm,⟨rn,rt,ra,rb,rf,wd⟩,⟨fn,fp,flo,fhi,fs⟩,⟨sn,sa,sb,sg⟩,⟨cn,ca,cb,cs,ct⟩⟩:cF)=jP 2 2 ⟨kd,dv,ix,nm,⟨rn,rt,ra,rb,rf,wd⟩,⟨fn,fp,flo,fhi,fs⟩,⟨sn,sa,sb,sg⟩,⟨cn,ca,cb,cs,ct⟩⟩)=b:=⟨_,rfl⟩;exact yw
 .have hK:=wD (th:=3) (hw:=0) hx;have k2:=λfl σ=>pH (a:=Em.edit) (R:=dW) (p:=Em.edit.aB _) (q:=.agg [.int .i64 kd,.int .i64 0,.int .i64 ix,.str [],.str [],.str [],.int .i64 0,.int .i64 0,.int .i64 0,.slice 0 [] .full,.str [],.bool false,.int .i64 0,.int .i64 0,.slice 0 [] .full,.str [],.int .i64 0,.int .i64 0,.slice 0 [] .full,.str cn,.int .i64 ca,.int .i64 cb,.int .i64 cs,.bool ct]) hx hK (Em.edit.str _) (rfl) fl σ
  obtain⟨B,hB⟩:∃b,decide ((⟨kd,dv,ix,nm,⟨rn,rt,ra,rb,rf,wd⟩,⟨fn,fp,flo,fhi,fs⟩,⟨sn,sa,sb,sg⟩,⟨cn,ca,cb,cs,ct⟩⟩:cF)=jP 3 0 ⟨kd,dv,ix,nm,⟨rn,rt,ra,rb,rf,wd⟩,⟨fn,fp,flo,fhi,fs⟩,⟨sn,sa,sb,sg⟩,⟨cn,ca,cb,cs,ct⟩⟩)=b:=⟨_,rfl⟩;exact yw
 .have hK:=wD (th:=3) (hw:=1) hx;have k2:=λfl σ=>pH (a:=Em.edit) (R:=dW) (p:=Em.edit.aB _) (q:=.agg [.int .i64 kd,.int .i64 0,.int .i64 ix,.str [],.str [],.str [],.int .i64 0,.int .i64 0,.int .i64 0,.slice 0 [] .full,.str [],.bool false,.int .i64 0,.int .i64 0,.slice 0 [] .full,.str [],.int .i64 0,.int .i64 0,.slice 0 [] .full,.str [],.int .i64 0,.int .i64 0,.int .i64 0,.bool false]) hx hK (Em.edit.str _) (rfl) fl σ
  obtain⟨B,hB⟩:∃b,decide ((⟨kd,dv,ix,nm,⟨rn,rt,ra,rb,rf,wd⟩,⟨fn,fp,flo,fhi,fs⟩,⟨sn,sa,sb,sg⟩,⟨cn,ca,cb,cs,ct⟩⟩:cF)=jP 3 1 ⟨kd,dv,ix,nm,⟨rn,rt,ra,rb,rf,wd⟩,⟨fn,fp,flo,fhi,fs⟩,⟨sn,sa,sb,sg⟩,⟨cn,ca,cb,cs,ct⟩⟩)=b:=⟨_,rfl⟩;exact yw
 .have hK:=wD (th:=3) (hw:=2) hx;have k2:=λfl σ=>pH (a:=Em.edit) (R:=dW) (p:=Em.edit.aB _) (q:=.agg [.int .i64 kd,.int .i64 0,.int .i64 ix,.str [],.str [],.str [],.int .i64 0,.int .i64 0,.int .i64 0,.slice 0 [] .full,.str [],.bool false,.int .i64 0,.int .i64 0,.slice 0 [] .full,.str [],.int .i64 0,.int .i64 0,.slice 0 [] .full,.str cn,.int .i64 ca,.int .i64 cb,.int .i64 cs,.bool ct]) hx hK (Em.edit.str _) (rfl) fl σ
  obtain⟨B,hB⟩:∃b,decide ((⟨kd,dv,ix,nm,⟨rn,rt,ra,rb,rf,wd⟩,⟨fn,fp,flo,fhi,fs⟩,⟨sn,sa,sb,sg⟩,⟨cn,ca,cb,cs,ct⟩⟩:cF)=jP 3 2 ⟨kd,dv,ix,nm,⟨rn,rt,ra,rb,rf,wd⟩,⟨fn,fp,flo,fhi,fs⟩,⟨sn,sa,sb,sg⟩,⟨cn,ca,cb,cs,ct⟩⟩)=b:=⟨_,rfl⟩;exact yw
end
end Go.Kz
end
