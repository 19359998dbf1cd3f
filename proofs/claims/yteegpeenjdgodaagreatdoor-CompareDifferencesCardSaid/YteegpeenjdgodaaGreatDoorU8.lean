/- Steps of the proof. -/
import Derived.Test.YteegpeenjdgodaaGreatDoorU2
import Derived.Test.YteegpeenjdgodaaGreatDoorT3
import Derived.Test.YteegpeenjdgodaaGreatDoorT5
import Derived.Test.YteegpeenjdgodaaGreatDoorS9
import Derived.Test.YteegpeenjdgodaaGreatDoorS5c
import Derived.Test.YteegpeenjdgodaaGreatDoorS0
import Derived.Test.YteegpeenjdgodaaGreatDoorU3
import Derived.Test.YteegpeenjdgodaaGreatDoorS7
set_option linter.all false
set_option maxHeartbeats 40000000
set_option maxRecDepth 100000
open Go.Proofs.Tryz
noncomputable section
namespace Go.Kz
open Go Go.Proofs
section
theorem aQi{σ σ':Ex}{lo:Nat}{o:aM}{p:PD}{iR iD iC:Nat}{ds:Eu}{tS:Nat->Nat}{tss:Et}{tG:Nat->Nat->Nat}{tgs:Es}{tW:Nat->Nat->Nat->Nat}(hO:gX σ lo o p iR iD iC ds tS tss tG tgs tW)(d:Nat)(hd:d<o.aD.length)(Q:PD)(l:List bU)(hQ:∀τ,cF oI σ' τ->mJ Em.stop 4 τ 7 Q l)
  (hk:cF oI σ σ') (hr:σ'[iD]?=some (.row 53 5 (o.aD.length-1) (ds.set d [.str o.aD[d].name,.bool o.aD[d].eG,.int .i64 o.aD[d].low,.int .i64 o.aD[d].high,Q]).flatten)) :
  fP Em.div 5 sW σ' (Go.Kz.hb 5 iD (o.aD.length-1) o.aD.length) (o.aD.set d { o.aD[d]with stops:=l }):=by
 have hA:eP (rQ Em.div 7 oI σ') (ds.set d [.str o.aD[d].name,.bool o.aD[d].eG,.int .i64 o.aD[d].low,.int .i64 o.aD[d].high,Q]) (o.aD.set d { o.aD[d]with stops:=l }):=by
  refine eP.of (by rw[yAD,yAD,hO.len]) λi h1 h2=>?_
  rw[yAD]at h1 h2
  by_cases e:i=d
  .subst e;rw[yDU,yDU];exact λτ dX=>UX (d:={ o.aD[i]with stops:=l }) (L:=6) (hQ τ dX)
  .rw[List.getElem_set_ne (yBb e),List.getElem_set_ne (yBb e)];have e1:=(yA.1 (hO.at_ i h2).1).2;rw[e1];exact((hO.at_ i h2).2.kept hk).DE
 have h0:=fP.row (R:=oI) (R':=sW) (v:=o.aD.length-1) yj hr (.inl rfl) (λ_ h=>.inr h) (λ_ _ _ _ _ _ h=>h) (λg hg=>by
  rcases yCP hg with hg|rfl
  .exact zH hO.len (λi hi=>⟨_,(hO.at_ i hi).1,rfl⟩) g hg
  .rfl) hA
 rw[yAD]at h0;rw[B0 ye];exact h0
variable{E E1 E3 E5 Eo:aE}
theorem aI8(h0:E 18=none)(h1:E 43=some y9)(h2:E 44=some (gP prog E1 44))(H2:F0 E1)(h3:E 39=some y8)(h4:E 45=some DB)(h5:E 50=some (gP prog E3 50))(H5:BY E3 50 Em.stop 4 56 5 BC oI)(h6:E 27=some (pL (oY prog Eo 27)))(H6:∀o,dP o->aI prog Eo 27 [Em.bH.aA o] (i64.aA (bS o)))
  (o:aM) (x:bJ) (ho:eV o) (hx:fO x) (hf:gQ x=0) (hk:7<=x.kind/\x.kind<=9) (hsm:∀d∈o.aD,d.stops.length<=900000) (hokr:x.div.toNat<o.aD.length->dP (xP ((x.kind-1)%3) x.idx x.div x.stop o)) :
  aL prog E 0 (.inl 18) [Em.bH.aA o,Em.edit.aA x] [] (vF (¬((0<=x.div/\x.div<o.aD.length)/\mL ((x.kind-1)%3) x.idx (o.aD.getD x.div.toNat cP).stops.length)) (False) (xP ((x.kind-1)%3) x.idx x.div x.stop o)):=by
 have hn:1<=x.kind/\x.kind<=13:=ye;have k1:=λfl σ=>GP (x:=x) ⟨hn,hx⟩ fl σ
 rw[hf,yAV rfl]at k1;have k3:=λfl σ=>GQ (x:=x) hn fl σ
 have hth:(x.kind-1)/3=2:=ye;rw[hth]at k3;obtain⟨wy,hwy⟩:=gn ((x.kind-1)%3);have iL:wy=0\/wy=1\/wy=2:=ye;rw[hwy]at k3 hokr;rw[hwy];have k2:=(H2 o ho [.box (Em.bH.aA o),.box (Em.edit.aA x),.box (.agg [.str [],.slice 0 [] .full,.slice 0 [] .full,.slice 0 [] .full])]).e0 yg;obtain⟨p,σ1,k2,⟨iR,iD,iC,ds,tS,tss,tG,tgs,tW,hO⟩,hl1,hk1⟩:=k2;have hp:=hO.p;subst hp;have b0:=hk1 0 yg;have b1:=hk1 1 yg;have b2:=hk1 2 yg;simp only[yBC,yBT]at b0 b1 b2;obtain⟨hR,hhR⟩:=gn (Go.Kz.hn 6 iR o.aK.length);obtain⟨hD,hhD⟩:=gn (Go.Kz.hb 5 iD (o.aD.length-1) o.aD.length);obtain⟨hC,hhC⟩:=gn (Go.Kz.hn 5 iC o.aR.length);have pR:hR.plain=true:=Aa;have pD:hD.plain=true:=zj;have pC:hC.plain=true:=Ab;have cR:hR.cells=[hR]:=Al;have cD:hD.cells=[hD]:=zq;have cC:hC.cells=[hC]:=Ag;unfold PD.plain at pR pD pC;unfold PD.cells at cR cD cC;simp only[hhR,hhD,hhC]at hO k2;obtain⟨OB,hOB⟩:=gn (σ1.length);have O9:3<=OB:=Bn;obtain⟨σ2,dB⟩:=gn (σ1++[aB.box (.agg [.str o.name,hR,hD,hC])]);have p6:gX σ2 3 o (.agg [.str o.name,hR,hD,hC]) iR iD iC ds tS tss tG tgs tW:=Ae;have p7:3<=σ2.length:=Bv;have BJ:σ2≠[]:=λe=>Ba
 have jS:∀x y:aB,(σ1++[x]).set OB y=σ1++[y]:=λx y=>Aj
 have jO:∀x:aB,(σ1++[x])[OB]?=some x:=λx=>Aj
 have c3:σ2[OB]?=some (.box (.agg [.str o.name,hR,hD,hC])):=Bo;obtain⟨kd,dv,ix,nm,⟨rn,rt,ra,rb,rf,wd⟩,⟨fn,fp,flo,fhi,fs⟩,⟨sn,sa,sb,sg⟩,⟨cn,ca,cb,cs,ct⟩⟩:=x;obtain⟨on,rs,dd,cc⟩:=o;simp only[eI,iA,aV]at k1 k2 k3 b0 b1 b2 hk hwy;simp only[eI,iA,aV];have n1:¬kd<1:=ye;have n2:¬13<kd:=ye;have c0:=cL (τ:=[aB.box (.agg [.str on,hR,hD,hC])]) b0;have c1:=cL (τ:=[aB.box (.agg [.str on,hR,hD,hC])]) b1;have c2:=cL (τ:=[aB.box (.agg [.str on,hR,hD,hC])]) b2;simp only at dB c3;rw[dB]at c0 c1 c2;obtain⟨w0,z0⟩:=yA.1 c0;obtain⟨w1,z1⟩:=yA.1 c1;obtain⟨w2,z2⟩:=yA.1 c2;obtain⟨w3,z3⟩:=yA.1 c3;have hoD:=hO.len
 by_cases q1:dv<0
 .have hz:=h0;refine aL.aN 166 h0 func18 (h:=?_);refine aC (A20 h1 k1 h2 k2 h3 k3 n1 n2 hOB jO jS dB c0 c1 c2 c3 w0 w1 w2 (A12 w3 @z0 z1 @z2 @z3 pR pD pC cR cD cC q1)) ?_;exact⟨.aP [fY,.int .i64 10],σ2.set 2 (.box fY),by simp[eF,w2,fY],.inl ⟨λh=>by have:=h.1.1;omega,rfl⟩⟩
 by_cases q2:(dd.length:Int)<=dv
 .have hz:=h0;refine aL.aN 166 h0 func18 (h:=?_);refine aC (A20 h1 k1 h2 k2 h3 k3 n1 n2 hOB jO jS dB c0 c1 c2 c3 w0 w1 w2 (A13 w3 @z0 z1 @z2 @z3 pR pD pC cR cD cC q1 q2)) ?_;exact⟨.aP [fY,.int .i64 10],σ2.set 2 (.box fY),by simp[eF,w2,fY],.inl ⟨λh=>by have:=h.1.2;omega,rfl⟩⟩
 obtain⟨d,rfl⟩:∃d:Nat,dv=d:=⟨dv.toNat,ye⟩;have hd:d<dd.length:=ye;have hge:dd.getD d cP=dd[d]:=by rw[yAA,yAh hd];rfl
 have hed:xP wy ix (d:Int) ⟨sn,sa,sb,sg⟩ ⟨on,rs,dd,cc⟩=⟨on,rs,dd.set d { dd[d]with stops:=dA dd[d].stops wy ix.toNat ⟨sn,sa,sb,sg⟩ },cc⟩:=by
  unfold xP;simp only[yBy,hge]
 have hokr:=hokr hd;simp only[yBy,hge]at hokr ⊢;rw[hed]at hokr ⊢;have hcl:dd[d].stops.length<=900000:=hsm _ (yAm hd);have hpos:(0:Int)<=(d:Int):=ye;have hdq:(d:Int)<(dd.length:Int):=ye;simp only[hpos,hdq,yBx,yCJ];have k4:=λfl σ=>PA wy ix (dd[d].stops.length:Nat) fl σ
 have xd:(dd.map Em.div.aA)[d]?=some (Em.div.aA dd[d]):=by rw[yAo,yAh hd];rfl
 have xd2:=xd;obtain⟨sd,hsd⟩:=gn (dd[d])
 by_cases hb:mL wy ix dd[d].stops.length
 rotate_left
 .have km:=PB hb iL;simp only[km]at k4;refine aL.aN 166 h0 func18 (h:=?_);refine aC (A20 h1 k1 h2 k2 h3 k3 n1 n2 hOB jO jS dB c0 c1 c2 c3 w0 w1 w2 (A16 w3 @z0 z1 @z2 @z3 pR pD pC cR cD cC q1 q2 xd h4 k4)) ?_;exact⟨.aP [fY,.int .i64 10],σ2.set 2 (.box fY),by simp[eF,w2,fY],.inl ⟨hb,rfl⟩⟩
 have km:=PC hb iL;simp only[km]at k4;obtain⟨i,rfl⟩:∃i:Nat,ix=i:=⟨ix.toNat,Dq⟩;simp only[yBy]at hokr ⊢;have hDr:hD=.aU iD (dd.length-1) 0 dd.length 5:=by rw[<-hhD];exact B0 (show 0<dd.length by omega)
 subst hDr;have xk:nP prog 32 (.aU iD (dd.length-1) 0 dd.length 5) (.int .i64 d)=some (.dH iD (dd.length-1) (d*5)):=by
  simp[oN,hd]
 have hDrow:=(p6.row (show 0<dd.length by omega)).2;have hDlo:=(p6.row (show 0<dd.length by omega)).1;have hDg:=(p6.at_ d hd).1;have hDV:=(p6.at_ d hd).2;simp only at hDrow hDg hDV;have GY:∀g∈ds,g.length=5:=zH p6.len λi hi=>⟨_,(p6.at_ i hi).1,rfl⟩
 have hdl:ds.length=dd.length:=p6.len;have hV:=KR p6;simp only[hhR,hhC]at hV;have hflat:=qT ds GY;have hgd:ds[d]' ye=[.str dd[d].name,.bool dd[d].eG,.int .i64 dd[d].low,.int .i64 dd[d].high,Go.Kz.hq 4 (tS d) (dd[d].stops.length-1) dd[d].stops.length]:=(yA.1 hDg).2;have hat:=vJ (sz:=5) ds d ye GY;obtain⟨xU,hhS⟩:=gn (Go.Kz.hq 4 (tS d) (dd[d].stops.length-1) dd[d].stops.length);have hSV:=aPT hDV;rw[hhS]at hgd hSV;rw[hgd]at hat;have PL:(ds.flatten.drop (d*5+4)).take 1=[xU]:=by
  have:=yAL (List.drop 4) hat;rw[yDQ,yBI]at this;exact bq
 have pS:xU.plain=true:=by rw[<-hhS];exact D1 _ _ _ _
 have cS:xU.cells=[xU]:=by rw[<-hhS];exact D2 _ _ _ _
 unfold PD.plain at pS;unfold PD.cells at cS;have nG:d*5+4+1<=ds.flatten.length:=ye;obtain⟨GV,D0⟩:=gn (ds.flatten);rw[D0]at hDrow PL nG;have aE3:GV[d*5+4]' ye=xU:=by
  have h1:=yAL (λl=>l[0]?) PL;simp only[yAv,yBl,yBt,yBC]at h1;rw[yAJ yj,yAh (show d*5+4<GV.length by omega)]at h1;exact yBe h1
 obtain⟨uD,yD⟩:=yA.1 hDrow;have k5:=(H5 σ2 xU dd[d].stops wy i ⟨sn,sa,sb,sg⟩ hSV hcl (PE hb iL)).e0 BJ;obtain⟨Q,gE,k5,⟨pQ,cQ,lQ⟩,vY,eR⟩:=k5;simp only[qE,aV]at k5;have s0:=(eR 0 w0).trans c0;have s1:=(eR 1 w1).trans c1;have s2:=(eR 2 w2).trans c2;have s3:=(eR OB w3).trans c3;have sD:=(eR iD uD).trans hDrow;unfold PD.plain at pQ;unfold PD.cells at cQ;obtain⟨f0,d0⟩:=yA.1 s0;obtain⟨f1,d1⟩:=yA.1 s1;obtain⟨f2,d2⟩:=yA.1 s2;obtain⟨f3,d3⟩:=yA.1 s3;obtain⟨fD,dD⟩:=yA.1 sD;have hfs:=zI (sz:=5) (new:=[Q]) (j:=3+1) yg ds d ye GY;rw[hgd]at hfs;have hset:eC [PD.str dd[d].name,.bool dd[d].eG,.int .i64 dd[d].low,.int .i64 dd[d].high,xU] (3+1) [Q]=[.str dd[d].name,.bool dd[d].eG,.int .i64 dd[d].low,.int .i64 dd[d].high,Q]:=rfl;rw[hset,D0]at hfs;simp only[eC,yAS,yAT,yAp,Nat.reduceAdd,yAi,yAQ,yAO,yBX]at hfs;obtain⟨eM,iH⟩:=gn (gE.set iD (.row 53 5 (dd.length-1) (List.take (d*5+4) GV++Q::List.drop (d*5+4+1) GV)));have hr5:eM[iD]?=some (.row 53 5 (dd.length-1) (ds.set d [.str dd[d].name,.bool dd[d].eG,.int .i64 dd[d].low,.int .i64 dd[d].high,Q]).flatten):=by
  rw[<-iH,yAj fD,<-hfs]
 have kS:∀R:TypeId->Prop,(∀t,R t->t≠53)->cF R gE eM:=λR hR id t n v cs ht hy=>by
  rw[<-iH,yAd (λe=>by rw[<-e,sD]at hy;exact hR _ ht (aB.row.inj (yBe hy)).1.symm)];exact hy
 have a5:eM[OB]?=some (.box (.agg [.str on,hR,.aU iD (dd.length-1) 0 dd.length 5,hC])):=by rw[<-iH,yAd (λe=>by rw[e,s3]at sD;cases sD)];exact s3
 have t2:eM[2]?=some (.box (.agg [.str [],.slice 0 [] .full,.slice 0 [] .full,.slice 0 [] .full])):=by rw[<-iH,yAd (λe=>by rw[e,s2]at sD;cases sD)];exact s2
 have m1:=(hV.1.nE (R':=sV) yj (λt ht=>ht.elim id False.elim)).bF ((tI eR).trans (kS sV (λt h=>by rw[h];decide)));have m2:=aQi (σ':=eM) p6 d hd Q (dA dd[d].stops wy i ⟨sn,sa,sb,sg⟩) (λτ dX=>lQ τ ((kS oI (λt h=>by rcases h with h|h|h<;>rw[h]<;>decide)).trans dX)) ((tI eR).trans (kS oI (λt h=>by rcases h with h|h|h<;>rw[h]<;>decide))) hr5;have m3:=(hV.2.2.nE (R':=sX) yj (λt ht=>ht.elim id False.elim)).bF ((tI eR).trans (kS sX (λt h=>by rw[h];decide)));simp only at m2;rw[show Go.Kz.hb 5 iD (dd.length-1) dd.length=.aU iD (dd.length-1) 0 dd.length 5 from B0 ye]at m2;have zU:=λfl=>JH (on:=on) m1 m2 m3 (H6 _ hokr) fl
 obtain⟨e,he⟩:=gn (bS (⟨on,rs,dd.set d { dd[d]with stops:=dA dd[d].stops wy i ⟨sn,sa,sb,sg⟩ },cc⟩));have k6:∀fl,pL (oY prog Eo 27) fl [.agg [.str on,hR,.aU iD (dd.length-1) 0 dd.length 5,hC]] eM=some (.int .i64 e,eM):=λfl=>Bg
 obtain⟨r5,x5⟩:=yA.1 a5;obtain⟨r2,x2⟩:=yA.1 t2;unfold vF;rw[he]
 by_cases hz:e=0
 .subst hz;rcases iL with rfl|rfl|rfl
  iterate 3
   have DW:=h0;refine aL.aN 166 h0 func18 (h:=?_);refine YW (A20 h1 k1 h2 k2 h3 k3 n1 n2 hOB jO jS dB c0 c1 c2 c3 w0 w1 w2 (A20 w3 @z0 z1 @z2 @z3 pR pD pC cR cD cC q1 q2 xd h4 k4 xk hDrow uD (A20 yD nG PL aE3 pS cS h5 k5 s0 @s1 @s2 s3 sD @f0 @f1 @f2 @f3 fD @d0 (A20 @d1 @d2 @d3 dD pQ cQ iH h6 k6 @a5 r5 x5 @t2 r2 x2 pR pD pC cR (A4 cD cC pQ cQ))))) ?_;refine⟨.aP [.agg [.str on,hR,.aU iD (dd.length-1) 0 dd.length 5,hC],.int .i64 0],eM.set 2 (.box (.agg [.str on,hR,.aU iD (dd.length-1) 0 dd.length 5,hC])),?_,.inr (.inr ⟨λh=>h hb,id,hR,.aU iD (dd.length-1) 0 dd.length 5,hC,rfl,m1.bF (cF.set t2 _),m2.bF (cF.set t2 _),m3.bF (cF.set t2 _)⟩)⟩;simp[eF,r2]
 .have jI:=hz;rcases iL with rfl|rfl|rfl
  iterate 3
   have DW:=h0;refine aL.aN 166 h0 func18 (h:=?_);refine YW (A20 h1 k1 h2 k2 h3 k3 n1 n2 hOB jO jS dB c0 c1 c2 c3 w0 w1 w2 (A20 w3 @z0 z1 @z2 @z3 pR pD pC cR cD cC q1 q2 xd h4 k4 xk hDrow uD (A20 yD nG PL aE3 pS cS h5 k5 s0 @s1 @s2 s3 sD @f0 @f1 @f2 @f3 fD @d0 (A20 @d1 @d2 @d3 dD pQ cQ iH h6 k6 @hz @a5 r5 x5 @t2 r2 x2 pR pD pC (A5 cR cD cC pQ cQ))))) ?_;refine⟨.aP [oZ,.int .i64 e],eM.set 2 (.box oZ),?_,.inr (.inr ⟨λh=>h hb,id,hR,.aU iD (dd.length-1) 0 dd.length 5,hC,by rw[yAI hz],m1.bF (cF.set t2 _),m2.bF (cF.set t2 _),m3.bF (cF.set t2 _)⟩)⟩;simp[eF,r2,oZ]
end
section
def gY(th hw:Int)(x:bJ):bJ:=⟨x.kind,if th=2 then x.div else 0,if th<4 then x.idx else 0,if th<4 then []else x.name,if th=0/\hw≠1 then x.aG else jN,if th=1/\hw≠1 then x.frame else cP,if th=2/\hw≠1 then x.stop else iX,if th=3/\hw≠1 then x.aJ else kB⟩
theorem tJ{th hw:Int}{x:bJ}(h:fO x):fO (gY th hw x):=by
 have n1:kG jN:=yAF _;have n2:mB cP:=⟨yAF _,λ_ h=>yw⟩;have n3:mA iX:=⟨yAF _,λ_ h=>yw⟩;obtain⟨h1,h2,h3⟩:=h;refine⟨?_,?_,?_⟩
 .unfold gY;simp only;split
  .exact h1
  .exact n1
 .unfold gY;simp only;split
  .exact h2
  .exact n2
 .unfold gY;simp only;split
  .exact h3
  .exact n3
theorem aQj{x:bJ}(h:1<=x.kind/\x.kind<=13):decide (x=gY ((x.kind-1)/3) ((x.kind-1)%3) x)=decide (gQ x=0):=by
 have hk:¬(x.kind<1\/13<x.kind):=ye;unfold gQ;rw[yAI hk];obtain⟨kd,dv,ix,nm,R,F,S,C⟩:=x;simp only at h;obtain⟨n,rfl⟩:∃n:Nat,kd=n+1:=⟨(kd-1).toNat,ye⟩;have hn:n<13:=ye;rw[yAu];have e:∀b:Bool,((if b=true then(0:Int)else 7)=0)↔b=true:=λb=>by cases b<;>decide
 rw[e];unfold qS;rw[yBY]
 match n,hn with
 |0,_=>simp[gY,rR,qS];try(constructor<;>(intro h;simp_all))
 |1,_=>simp[gY,rR,qS];try(constructor<;>(intro h;simp_all))
 |2,_=>simp[gY,rR,qS];try(constructor<;>(intro h;simp_all))
 |3,_=>simp[gY,rR,qS];try(constructor<;>(intro h;simp_all))
 |4,_=>simp[gY,rR,qS];try(constructor<;>(intro h;simp_all))
 |5,_=>simp[gY,rR,qS];try(constructor<;>(intro h;simp_all))
 |6,_=>simp[gY,rR,qS];try(constructor<;>(intro h;simp_all))
 |7,_=>simp[gY,rR,qS];try(constructor<;>(intro h;simp_all))
 |8,_=>simp[gY,rR,qS];try(constructor<;>(intro h;simp_all))
 |9,_=>simp[gY,rR,qS];try(constructor<;>(intro h;simp_all))
 |10,_=>simp[gY,rR,qS];try(constructor<;>(intro h;simp_all))
 |11,_=>simp[gY,rR,qS];try(constructor<;>(intro h;simp_all))
 |12,_=>simp[gY,rR,qS];try(constructor<;>(intro h;simp_all))
variable{E:aE}(hU:aH E)
include hU
theorem aIA(h0:E 39=none)(x:bJ)(h:VZ x.kind):aI prog E 39 [Em.edit.aA x] ((i64.rJ i64).aA ((IntKind.i64.wrap (x.kind-1)).tdiv 3,(IntKind.i64.wrap (x.kind-1)).tmod 3)):=by
 obtain⟨kd,dv,ix,nm,⟨rn,rt,ra,rb,rf,wd⟩,⟨fn,fp,flo,fhi,fs⟩,⟨sn,sa,sb,sg⟩,⟨cn,ca,cb,cs,ct⟩⟩:=x;obtain⟨w,hw⟩:=gn (IntKind.i64.wrap (kd-1));have hr:-9223372036854775808<=w/\w<=9223372036854775807:=by rw[<-hw,yAP];omega
 have h1:IntKind.i64.wrap (w.tdiv 3)=w.tdiv 3:=by
  have h2:-9223372036854775808<=w.tdiv 3/\w.tdiv 3<=9223372036854775807:=by
   rcases Int.le_total 0 w with h|h
   .rw[yEn h];omega
   .have:=Int.neg_tdiv (-w) 3;rw[Int.neg_neg]at this;rw[this,yEn ye];omega
  rw[yAP];omega
 have h3:IntKind.i64.wrap (w.tmod 3)=w.tmod 3:=by
  have h2:-3<w.tmod 3/\w.tmod 3<3:=by
   rcases Int.le_total 0 w with h|h
   .rw[yDz h];omega
   .have:=Int.neg_tmod (-w) 3;rw[Int.neg_neg]at this;rw[this,yDz ye];omega
  rw[yAP];omega
 simp only[eI,aV];rw[hw];refine aI.aN 12 h0 func39 (h:=?_);refine aC (A3 @hw h1 h3) ?_;exact aa
theorem aIC(h0:E 45=none)(w i n:Int):aI prog E 45 [i64.aA w,i64.aA i,i64.aA n] (Em.bool.aA (zV w i n)):=by
 show aI _ _ _ [.int .i64 w,.int .i64 i,.int .i64 n] (.bool (zV w i n))
 unfold zV
 by_cases c1:i<0
 .rw[yAV (.inl c1)];refine aI.aN 23 h0 func45 (h:=?_);refine aC c1 ?_;exact aa
 by_cases c2:n<i
 .rw[yAV (.inr (.inl c2))];refine aI.aN 23 h0 func45 (h:=?_);refine aC (A2 c1 c2) ?_;exact aa
 by_cases c3:w=0
 .rw[yBc (by simp[c1,c2,c3])];exact xj
 by_cases c4:i=n
 .rw[yAV (.inr (.inr ⟨c3,c4⟩))];subst c4;have hz:=h0;exact xj
 .rw[yBc (by simp[c1,c2,c4])];have hz:=h0;refine aI.aN 23 h0 func45 (h:=?_);refine aC (A4 c1 c2 c3 c4) ?_;exact aa
theorem aIE(h0:E 22=none)(h1:E 37=some (eZ Em.aG kG))(h2:E 38=some (eZ Em.div mB))(h3:E 57=some (eZ Em.stop mA))(x y:bJ)(hx:fO x)(hy:fO y) :
  aI prog E 22 [Em.edit.aA x,Em.edit.aA y] (Em.bool.aA (decide (x=y))):=by
 have k1:=λfl σ=>kW (a:=Em.aG) hx.1 hy.1 fl σ
 have k2:=λfl σ=>kW (a:=Em.div) hx.2.1 hy.2.1 fl σ
 have k3:=λfl σ=>kW (a:=Em.stop) hx.2.2 hy.2.2 fl σ
 obtain⟨kd,dv,ix,nm,R,F,S,C⟩:=x;obtain⟨XS,XT,XU,PM,R',F',S',C'⟩:=y;simp only at k1 k2 k3;obtain⟨b1,hb1⟩:∃b,decide (R=R')=b:=⟨_,rfl⟩;obtain⟨b2,hb2⟩:∃b,decide (F=F')=b:=⟨_,rfl⟩;obtain⟨b3,hb3⟩:∃b,decide (S=S')=b:=⟨_,rfl⟩;rw[hb1]at k1;rw[hb2]at k2;rw[hb3]at k3;have hD:decide ((⟨kd,dv,ix,nm,R,F,S,C⟩:bJ)=⟨XS,XT,XU,PM,R',F',S',C'⟩)=(decide (kd=XS)&&decide (dv=XT)&&decide (ix=XU)&&decide (nm=PM)&&b1&&b2&&b3&&decide (C=C')):=by
  rw[<-hb1,<-hb2,<-hb3];simp only[bJ.mk.injEq,Bool.decide_and,Bool.and_assoc]
 rw[hD];clear hb1 hb2 hb3 hD hx hy;obtain⟨rn,rt,ra,rb,rf,wd⟩:=R;obtain⟨fn,fp,flo,fhi,fs⟩:=F;obtain⟨sn,sa,sb,sg⟩:=S;obtain⟨cn,ca,cb,cs,ct⟩:=C;obtain⟨rn',rt',ra',rb',rf',wd'⟩:=R';obtain⟨fn',fp',aT4,aT5,fs'⟩:=F';obtain⟨sn',sa',sb',sg'⟩:=S';obtain⟨cn',ca',cb',cs',ct'⟩:=C';simp only[eI,oD,nN,qE,aV]at k1 k2 k3 ⊢
 by_cases e1:kd=XS
 rotate_left
 .have hz:=h0;refine aI.aN 59 h0 func22 (h:=?_);refine aC e1 ?_;simp(disch:=first|omega|(simp;done)|(simp;omega)) [yAu,e1]<;>try rfl
 by_cases e2:dv=XT
 rotate_left
 .have hz:=h0;refine aI.aN 59 h0 func22 (h:=?_);refine aC (A2 e1 e2) ?_;simp(disch:=first|omega|(simp;done)|(simp;omega)) [yAu,e2]<;>try rfl
 by_cases e3:ix=XU
 rotate_left
 .have hz:=h0;refine aI.aN 59 h0 func22 (h:=?_);refine aC (A3 e1 e2 e3) ?_;simp(disch:=first|omega|(simp;done)|(simp;omega)) [yAu,e3]<;>try rfl
 by_cases e4:nm=PM
 rotate_left
 .have f4:(nm==PM)=false:=by simpa using e4
  refine aI.aN 59 h0 func22 (h:=?_);refine aC (A5 e1 e2 e3 e4 @f4) ?_;simp(disch:=first|omega|(simp;done)|(simp;omega)) [yAu,e4]<;>try rfl
 cases b1 with
 |false=>
  have hz:=h0;refine aI.aN 59 h0 func22 (h:=?_);refine aC (A6 e1 e2 e3 e4 h1 k1) ?_;exact aa
 |true=>
 cases b2 with
 |false=>
  have hz:=h0;refine aI.aN 59 h0 func22 (h:=?_);refine aC (A8 e1 e2 e3 e4 h1 k1 h2 k2) ?_;exact aa
 |true=>
 cases b3 with
 |false=>
  have hz:=h0;refine aI.aN 59 h0 func22 (h:=?_);refine aC (A10 e1 e2 e3 e4 h1 k1 h2 k2 h3 k3) ?_;exact aa
 |true=>
 by_cases e5:cn=cn'
 rotate_left
 .have f5:(cn==cn')=false:=by simpa using e5
  refine aI.aN 59 h0 func22 (h:=?_);refine aC (A12 e1 e2 e3 e4 h1 k1 h2 k2 h3 k3 e5 @f5) ?_;simp(disch:=first|omega|(simp;done)|(simp;omega)) [yAu,e5]<;>try rfl
 subst e1 e2 e3 e4 e5;have hz:=h0;refine aI.aN 59 h0 func22 (h:=?_);refine aC (A6 h1 k1 h2 k2 h3 k3) ?_;simp(disch:=first|omega|(simp;done)|(simp;omega)) [yAu,bR.mk.injEq]<;>try rfl
theorem aIG(h0:E 43=none)(h1:E 39=some y8)(h2:E 22=some (eZ Em.edit fO))(x:bJ)(hk:1<=x.kind/\x.kind<=13)(hx:fO x):aI prog E 43 [Em.edit.aA x] (Em.bool.aA (decide (gQ x=0))):=by
 rw[<-aQj hk];have k1:=λfl σ=>GQ (x:=x) hk fl σ
 obtain⟨th,hth⟩:=gn ((x.kind-1)/3);obtain⟨wy,hwy⟩:=gn ((x.kind-1)%3);rw[hth,hwy]at k1 ⊢;have hs:(th=4/\wy=0)\/((th=0\/th=1\/th=2\/th=3)/\(wy=0\/wy=1\/wy=2)):=ye;obtain⟨kd,dv,ix,nm,⟨rn,rt,ra,rb,rf,wd⟩,⟨fn,fp,flo,fhi,fs⟩,⟨sn,sa,sb,sg⟩,⟨cn,ca,cb,cs,ct⟩⟩:=x;clear hth hwy hk;rcases hs with⟨rfl,rfl⟩ | ⟨rfl|rfl|rfl|rfl,rfl|rfl|rfl⟩
 .have hK:=tJ (th:=4) (hw:=0) hx;have k2:=λfl σ=>rA (a:=Em.edit) (R:=fO) (p:=Em.edit.aA _) (q:=.agg [.int .i64 kd,.int .i64 0,.int .i64 0,.str nm,.str [],.str [],.int .i64 0,.int .i64 0,.int .i64 0,.slice 0 [] .full,.str [],.bool false,.int .i64 0,.int .i64 0,.slice 0 [] .full,.str [],.int .i64 0,.int .i64 0,.slice 0 [] .full,.str [],.int .i64 0,.int .i64 0,.int .i64 0,.bool false]) hx hK (Em.edit.str _) (rfl) fl σ
  obtain⟨B,hB⟩:∃b,decide ((⟨kd,dv,ix,nm,⟨rn,rt,ra,rb,rf,wd⟩,⟨fn,fp,flo,fhi,fs⟩,⟨sn,sa,sb,sg⟩,⟨cn,ca,cb,cs,ct⟩⟩:bJ)=gY 4 0 ⟨kd,dv,ix,nm,⟨rn,rt,ra,rb,rf,wd⟩,⟨fn,fp,flo,fhi,fs⟩,⟨sn,sa,sb,sg⟩,⟨cn,ca,cb,cs,ct⟩⟩)=b:=⟨_,rfl⟩;exact uj
 .have hK:=tJ (th:=0) (hw:=0) hx;have k2:=λfl σ=>rA (a:=Em.edit) (R:=fO) (p:=Em.edit.aA _) (q:=.agg [.int .i64 kd,.int .i64 0,.int .i64 ix,.str [],.str rn,.str rt,.int .i64 ra,.int .i64 rb,.int .i64 rf,.slice (sz 1 wd) (wd.map i64.aA) .any,.str [],.bool false,.int .i64 0,.int .i64 0,.slice 0 [] .full,.str [],.int .i64 0,.int .i64 0,.slice 0 [] .full,.str [],.int .i64 0,.int .i64 0,.int .i64 0,.bool false]) hx hK (Em.edit.str _) Bz fl σ
  obtain⟨B,hB⟩:∃b,decide ((⟨kd,dv,ix,nm,⟨rn,rt,ra,rb,rf,wd⟩,⟨fn,fp,flo,fhi,fs⟩,⟨sn,sa,sb,sg⟩,⟨cn,ca,cb,cs,ct⟩⟩:bJ)=gY 0 0 ⟨kd,dv,ix,nm,⟨rn,rt,ra,rb,rf,wd⟩,⟨fn,fp,flo,fhi,fs⟩,⟨sn,sa,sb,sg⟩,⟨cn,ca,cb,cs,ct⟩⟩)=b:=⟨_,rfl⟩;exact uj
 .have hK:=tJ (th:=0) (hw:=1) hx;have k2:=λfl σ=>rA (a:=Em.edit) (R:=fO) (p:=Em.edit.aA _) (q:=.agg [.int .i64 kd,.int .i64 0,.int .i64 ix,.str [],.str [],.str [],.int .i64 0,.int .i64 0,.int .i64 0,.slice 0 [] .full,.str [],.bool false,.int .i64 0,.int .i64 0,.slice 0 [] .full,.str [],.int .i64 0,.int .i64 0,.slice 0 [] .full,.str [],.int .i64 0,.int .i64 0,.int .i64 0,.bool false]) hx hK (Em.edit.str _) (rfl) fl σ
  obtain⟨B,hB⟩:∃b,decide ((⟨kd,dv,ix,nm,⟨rn,rt,ra,rb,rf,wd⟩,⟨fn,fp,flo,fhi,fs⟩,⟨sn,sa,sb,sg⟩,⟨cn,ca,cb,cs,ct⟩⟩:bJ)=gY 0 1 ⟨kd,dv,ix,nm,⟨rn,rt,ra,rb,rf,wd⟩,⟨fn,fp,flo,fhi,fs⟩,⟨sn,sa,sb,sg⟩,⟨cn,ca,cb,cs,ct⟩⟩)=b:=⟨_,rfl⟩;exact uj
 .have hK:=tJ (th:=0) (hw:=2) hx;have k2:=λfl σ=>rA (a:=Em.edit) (R:=fO) (p:=Em.edit.aA _) (q:=.agg [.int .i64 kd,.int .i64 0,.int .i64 ix,.str [],.str rn,.str rt,.int .i64 ra,.int .i64 rb,.int .i64 rf,.slice (sz 1 wd) (wd.map i64.aA) .any,.str [],.bool false,.int .i64 0,.int .i64 0,.slice 0 [] .full,.str [],.int .i64 0,.int .i64 0,.slice 0 [] .full,.str [],.int .i64 0,.int .i64 0,.int .i64 0,.bool false]) hx hK (Em.edit.str _) Bz fl σ
  obtain⟨B,hB⟩:∃b,decide ((⟨kd,dv,ix,nm,⟨rn,rt,ra,rb,rf,wd⟩,⟨fn,fp,flo,fhi,fs⟩,⟨sn,sa,sb,sg⟩,⟨cn,ca,cb,cs,ct⟩⟩:bJ)=gY 0 2 ⟨kd,dv,ix,nm,⟨rn,rt,ra,rb,rf,wd⟩,⟨fn,fp,flo,fhi,fs⟩,⟨sn,sa,sb,sg⟩,⟨cn,ca,cb,cs,ct⟩⟩)=b:=⟨_,rfl⟩;exact uj
 .have hK:=tJ (th:=1) (hw:=0) hx;have k2:=λfl σ=>rA (a:=Em.edit) (R:=fO) (p:=Em.edit.aA _) (q:=.agg [.int .i64 kd,.int .i64 0,.int .i64 ix,.str [],.str [],.str [],.int .i64 0,.int .i64 0,.int .i64 0,.slice 0 [] .full,.str fn,.bool fp,.int .i64 flo,.int .i64 fhi,.slice (sz 4 fs) (fs.map Em.stop.aA) .any,.str [],.int .i64 0,.int .i64 0,.slice 0 [] .full,.str [],.int .i64 0,.int .i64 0,.int .i64 0,.bool false]) hx hK (Em.edit.str _) Bp fl σ
  obtain⟨B,hB⟩:∃b,decide ((⟨kd,dv,ix,nm,⟨rn,rt,ra,rb,rf,wd⟩,⟨fn,fp,flo,fhi,fs⟩,⟨sn,sa,sb,sg⟩,⟨cn,ca,cb,cs,ct⟩⟩:bJ)=gY 1 0 ⟨kd,dv,ix,nm,⟨rn,rt,ra,rb,rf,wd⟩,⟨fn,fp,flo,fhi,fs⟩,⟨sn,sa,sb,sg⟩,⟨cn,ca,cb,cs,ct⟩⟩)=b:=⟨_,rfl⟩;exact uj
 .have hK:=tJ (th:=1) (hw:=1) hx;have k2:=λfl σ=>rA (a:=Em.edit) (R:=fO) (p:=Em.edit.aA _) (q:=.agg [.int .i64 kd,.int .i64 0,.int .i64 ix,.str [],.str [],.str [],.int .i64 0,.int .i64 0,.int .i64 0,.slice 0 [] .full,.str [],.bool false,.int .i64 0,.int .i64 0,.slice 0 [] .full,.str [],.int .i64 0,.int .i64 0,.slice 0 [] .full,.str [],.int .i64 0,.int .i64 0,.int .i64 0,.bool false]) hx hK (Em.edit.str _) (rfl) fl σ
  obtain⟨B,hB⟩:∃b,decide ((⟨kd,dv,ix,nm,⟨rn,rt,ra,rb,rf,wd⟩,⟨fn,fp,flo,fhi,fs⟩,⟨sn,sa,sb,sg⟩,⟨cn,ca,cb,cs,ct⟩⟩:bJ)=gY 1 1 ⟨kd,dv,ix,nm,⟨rn,rt,ra,rb,rf,wd⟩,⟨fn,fp,flo,fhi,fs⟩,⟨sn,sa,sb,sg⟩,⟨cn,ca,cb,cs,ct⟩⟩)=b:=⟨_,rfl⟩;exact uj
 .have hK:=tJ (th:=1) (hw:=2) hx;have k2:=λfl σ=>rA (a:=Em.edit) (R:=fO) (p:=Em.edit.aA _) (q:=.agg [.int .i64 kd,.int .i64 0,.int .i64 ix,.str [],.str [],.str [],.int .i64 0,.int .i64 0,.int .i64 0,.slice 0 [] .full,.str fn,.bool fp,.int .i64 flo,.int .i64 fhi,.slice (sz 4 fs) (fs.map Em.stop.aA) .any,.str [],.int .i64 0,.int .i64 0,.slice 0 [] .full,.str [],.int .i64 0,.int .i64 0,.int .i64 0,.bool false]) hx hK (Em.edit.str _) Bp fl σ
  obtain⟨B,hB⟩:∃b,decide ((⟨kd,dv,ix,nm,⟨rn,rt,ra,rb,rf,wd⟩,⟨fn,fp,flo,fhi,fs⟩,⟨sn,sa,sb,sg⟩,⟨cn,ca,cb,cs,ct⟩⟩:bJ)=gY 1 2 ⟨kd,dv,ix,nm,⟨rn,rt,ra,rb,rf,wd⟩,⟨fn,fp,flo,fhi,fs⟩,⟨sn,sa,sb,sg⟩,⟨cn,ca,cb,cs,ct⟩⟩)=b:=⟨_,rfl⟩;exact uj
 .have hK:=tJ (th:=2) (hw:=0) hx;have k2:=λfl σ=>rA (a:=Em.edit) (R:=fO) (p:=Em.edit.aA _) (q:=.agg [.int .i64 kd,.int .i64 dv,.int .i64 ix,.str [],.str [],.str [],.int .i64 0,.int .i64 0,.int .i64 0,.slice 0 [] .full,.str [],.bool false,.int .i64 0,.int .i64 0,.slice 0 [] .full,.str sn,.int .i64 sa,.int .i64 sb,.slice (sz 3 sg) (sg.map Em.eU.aA) .any,.str [],.int .i64 0,.int .i64 0,.int .i64 0,.bool false]) hx hK (Em.edit.str _) Bw fl σ
  obtain⟨B,hB⟩:∃b,decide ((⟨kd,dv,ix,nm,⟨rn,rt,ra,rb,rf,wd⟩,⟨fn,fp,flo,fhi,fs⟩,⟨sn,sa,sb,sg⟩,⟨cn,ca,cb,cs,ct⟩⟩:bJ)=gY 2 0 ⟨kd,dv,ix,nm,⟨rn,rt,ra,rb,rf,wd⟩,⟨fn,fp,flo,fhi,fs⟩,⟨sn,sa,sb,sg⟩,⟨cn,ca,cb,cs,ct⟩⟩)=b:=⟨_,rfl⟩;exact uj
 .have hK:=tJ (th:=2) (hw:=1) hx;have k2:=λfl σ=>rA (a:=Em.edit) (R:=fO) (p:=Em.edit.aA _) (q:=.agg [.int .i64 kd,.int .i64 dv,.int .i64 ix,.str [],.str [],.str [],.int .i64 0,.int .i64 0,.int .i64 0,.slice 0 [] .full,.str [],.bool false,.int .i64 0,.int .i64 0,.slice 0 [] .full,.str [],.int .i64 0,.int .i64 0,.slice 0 [] .full,.str [],.int .i64 0,.int .i64 0,.int .i64 0,.bool false]) hx hK (Em.edit.str _) (rfl) fl σ
  obtain⟨B,hB⟩:∃b,decide ((⟨kd,dv,ix,nm,⟨rn,rt,ra,rb,rf,wd⟩,⟨fn,fp,flo,fhi,fs⟩,⟨sn,sa,sb,sg⟩,⟨cn,ca,cb,cs,ct⟩⟩:bJ)=gY 2 1 ⟨kd,dv,ix,nm,⟨rn,rt,ra,rb,rf,wd⟩,⟨fn,fp,flo,fhi,fs⟩,⟨sn,sa,sb,sg⟩,⟨cn,ca,cb,cs,ct⟩⟩)=b:=⟨_,rfl⟩;exact uj
 .have hK:=tJ (th:=2) (hw:=2) hx;have k2:=λfl σ=>rA (a:=Em.edit) (R:=fO) (p:=Em.edit.aA _) (q:=.agg [.int .i64 kd,.int .i64 dv,.int .i64 ix,.str [],.str [],.str [],.int .i64 0,.int .i64 0,.int .i64 0,.slice 0 [] .full,.str [],.bool false,.int .i64 0,.int .i64 0,.slice 0 [] .full,.str sn,.int .i64 sa,.int .i64 sb,.slice (sz 3 sg) (sg.map Em.eU.aA) .any,.str [],.int .i64 0,.int .i64 0,.int .i64 0,.bool false]) hx hK (Em.edit.str _) Bw fl σ
  obtain⟨B,hB⟩:∃b,decide ((⟨kd,dv,ix,nm,⟨rn,rt,ra,rb,rf,wd⟩,⟨fn,fp,flo,fhi,fs⟩,⟨sn,sa,sb,sg⟩,⟨cn,ca,cb,cs,ct⟩⟩:bJ)=gY 2 2 ⟨kd,dv,ix,nm,⟨rn,rt,ra,rb,rf,wd⟩,⟨fn,fp,flo,fhi,fs⟩,⟨sn,sa,sb,sg⟩,⟨cn,ca,cb,cs,ct⟩⟩)=b:=⟨_,rfl⟩;exact uj
 .have hK:=tJ (th:=3) (hw:=0) hx;have k2:=λfl σ=>rA (a:=Em.edit) (R:=fO) (p:=Em.edit.aA _) (q:=.agg [.int .i64 kd,.int .i64 0,.int .i64 ix,.str [],.str [],.str [],.int .i64 0,.int .i64 0,.int .i64 0,.slice 0 [] .full,.str [],.bool false,.int .i64 0,.int .i64 0,.slice 0 [] .full,.str [],.int .i64 0,.int .i64 0,.slice 0 [] .full,.str cn,.int .i64 ca,.int .i64 cb,.int .i64 cs,.bool ct]) hx hK (Em.edit.str _) (rfl) fl σ
  obtain⟨B,hB⟩:∃b,decide ((⟨kd,dv,ix,nm,⟨rn,rt,ra,rb,rf,wd⟩,⟨fn,fp,flo,fhi,fs⟩,⟨sn,sa,sb,sg⟩,⟨cn,ca,cb,cs,ct⟩⟩:bJ)=gY 3 0 ⟨kd,dv,ix,nm,⟨rn,rt,ra,rb,rf,wd⟩,⟨fn,fp,flo,fhi,fs⟩,⟨sn,sa,sb,sg⟩,⟨cn,ca,cb,cs,ct⟩⟩)=b:=⟨_,rfl⟩;exact uj
 .have hK:=tJ (th:=3) (hw:=1) hx;have k2:=λfl σ=>rA (a:=Em.edit) (R:=fO) (p:=Em.edit.aA _) (q:=.agg [.int .i64 kd,.int .i64 0,.int .i64 ix,.str [],.str [],.str [],.int .i64 0,.int .i64 0,.int .i64 0,.slice 0 [] .full,.str [],.bool false,.int .i64 0,.int .i64 0,.slice 0 [] .full,.str [],.int .i64 0,.int .i64 0,.slice 0 [] .full,.str [],.int .i64 0,.int .i64 0,.int .i64 0,.bool false]) hx hK (Em.edit.str _) (rfl) fl σ
  obtain⟨B,hB⟩:∃b,decide ((⟨kd,dv,ix,nm,⟨rn,rt,ra,rb,rf,wd⟩,⟨fn,fp,flo,fhi,fs⟩,⟨sn,sa,sb,sg⟩,⟨cn,ca,cb,cs,ct⟩⟩:bJ)=gY 3 1 ⟨kd,dv,ix,nm,⟨rn,rt,ra,rb,rf,wd⟩,⟨fn,fp,flo,fhi,fs⟩,⟨sn,sa,sb,sg⟩,⟨cn,ca,cb,cs,ct⟩⟩)=b:=⟨_,rfl⟩;exact uj
 .have hK:=tJ (th:=3) (hw:=2) hx;have k2:=λfl σ=>rA (a:=Em.edit) (R:=fO) (p:=Em.edit.aA _) (q:=.agg [.int .i64 kd,.int .i64 0,.int .i64 ix,.str [],.str [],.str [],.int .i64 0,.int .i64 0,.int .i64 0,.slice 0 [] .full,.str [],.bool false,.int .i64 0,.int .i64 0,.slice 0 [] .full,.str [],.int .i64 0,.int .i64 0,.slice 0 [] .full,.str cn,.int .i64 ca,.int .i64 cb,.int .i64 cs,.bool ct]) hx hK (Em.edit.str _) (rfl) fl σ
  obtain⟨B,hB⟩:∃b,decide ((⟨kd,dv,ix,nm,⟨rn,rt,ra,rb,rf,wd⟩,⟨fn,fp,flo,fhi,fs⟩,⟨sn,sa,sb,sg⟩,⟨cn,ca,cb,cs,ct⟩⟩:bJ)=gY 3 2 ⟨kd,dv,ix,nm,⟨rn,rt,ra,rb,rf,wd⟩,⟨fn,fp,flo,fhi,fs⟩,⟨sn,sa,sb,sg⟩,⟨cn,ca,cb,cs,ct⟩⟩)=b:=⟨_,rfl⟩;exact uj
end
def aBH:Nat->List PD->List aB->Option (PD×List aB):=entry (bZ Em.aG Em.aG λr=>dY (kG r) (some r))
theorem aJc{E:aE}(hE:aF prog E)(h0:E 76=none:=by rfl):aF prog (E.add 76 aBH):=
 aF.pick (f:=76) (aF.mV (E:=E.add 109 (rP prog 46 1)) (f:=76) (a:=Em.aG) (r:=Em.aG) (F:=λr=>dY (kG r) (some r)) (aF.pick aBI hE rfl) bK λr z hz=>by
  obtain⟨h,e⟩:=gA hz;cases e;exact aJd (by unfold aE.add;rw[yAI yj];exact h0) Bj r h) hE (by unfold aE.add;rw[yAJ rfl];rfl)
def S1:aE:=λ_=>none
theorem aJe:aF prog S1:=λ_ hg=>by cases hg
theorem aBJ:aH S1:=aH.none
def S2:aE:=S1.add 70 (eZ eS HA)
theorem aJf:aF prog S2:=aJe.r6 bK λx y hx hy=>aJg aBJ rfl x y hx hy
theorem aBK:aH S2:=aBJ.entry
def S3:aE:=S2.add 108 (eZ eT wG)
theorem aJh:aF prog S3:=aJf.r6 bK λx y hx hy=>aJi aBK rfl x y hx hy
theorem aBL:aH S3:=aBK.entry
def S4:aE:=S3.add 36 (eZ nO EC)
theorem aJj:aF prog S4:=aJh.r6 bK λx y hx hy=>aJk aBL rfl x y hx hy
theorem aBM:aH S4:=aBL.entry
def S5:aE:=S4.add 33 (eZ Em.aG kG)
theorem aJl:aF prog S5:=aJj.r6 bK λx y hx hy=>aJm aBM rfl rfl x y hx hy
theorem aBN:aH S5:=aBM.entry
def S6:aE:=S5.add 32 (rZ aK ED 33)
theorem aJn:aF prog S6:=aJl.K9 bK λx y hx hy=>aJo aBN rfl rfl x y hx hy
theorem aBO:aH S6:=aBN.entry
def S7:aE:=S6.add 107 (eZ Em.eU tN)
theorem aJp:aF prog S7:=aJn.r6 bK λx y hx hy=>aJq aBO rfl rfl x y hx hy
theorem aBP:aH S7:=aBO.entry
def S8:aE:=S7.add 106 (rZ mS K7 107)
theorem aJr:aF prog S8:=aJp.K9 bK λx y hx hy=>aJs aBP rfl rfl x y hx hy
theorem aBQ:aH S8:=aBP.entry
def S9:aE:=S8.add 72 (eZ Em.stop mA)
theorem aJt:aF prog S9:=aJr.r6 bK λx y hx hy=>aJu aBQ rfl rfl x y hx hy
theorem aBR:aH S9:=aBQ.entry
def TC:aE:=S9.add 71 (rZ l8 K8 72)
theorem aJv:aF prog TC:=aJt.K9 bK λx y hx hy=>aJw aBR rfl rfl x y hx hy
theorem aBS:aH TC:=aBR.entry
def TD:aE:=TC.add 35 (eZ Em.div mB)
theorem aJx:aF prog TD:=aJv.r6 bK λx y hx hy=>aJy aBS rfl rfl x y hx hy
theorem aBT:aH TD:=aBS.entry
def TF:aE:=TD.add 34 (rZ pE EE 35)
theorem aJz:aF prog TF:=aJx.K9 bK λx y hx hy=>aJA aBT rfl rfl x y hx hy
theorem aBU:aH TF:=aBT.entry
def TG:aE:=TF.add 14 (eZ Em.bH eV)
theorem aJB:aF prog TG:=aJz.r6 bK λx y hx hy=>aJC aBU rfl rfl rfl rfl x y hx hy
theorem aBV:aH TG:=aBU.entry
def TH:aE:=TG.add 92 NH
theorem aJD:aF prog TH:=aJB.mV bK λx z hz=>by cases hz;exact aJE aBV rfl x
theorem aBW:aH TH:=aBV.entry
def TI:aE:=TH.add 60 DC
theorem aJF:aF prog TI:=aJD.mV bK λx z hz=>by obtain⟨h,e⟩:=gA hz;cases e;exact aJG aBW rfl rfl x h
theorem aBX:aH TI:=aBW.entry
def TJ:aE:=TI.add 96 F1
theorem aJH:aF prog TJ:=aJF.mV bK λx z hz=>by cases hz;exact aJI aBX rfl x.1 x.2
theorem aBY:aH TJ:=aBX.entry
def TK:aE:=TJ.add 145 NI
theorem aJJ:aF prog TK:=aJH.r8 bK λx y z hz=>by
 obtain⟨h,e⟩:=gA hz;cases e;obtain⟨a,rfl⟩:∃a:Nat,x=a:=⟨x.toNat,ye⟩;obtain⟨b,rfl⟩:∃b:Nat,y=b:=⟨y.toNat,ye⟩;rw[yBy,yBy];exact aJK aBY rfl a b ye ye
theorem aBZ:aH TK:=aBY.entry
def TL:aE:=TK.add 146 NJ
theorem aJL:aF prog TL:=aJJ.mV bK λx z hz=>by obtain⟨h,e⟩:=gA hz;cases e;exact aJM aBZ rfl x h
theorem aB0:aH TL:=aBZ.entry
def TM:aE:=TL.add 124 NK
theorem aJN:aF prog TM:=aJL.mV bK λx z hz=>by cases hz;exact aJO aB0 rfl rfl rfl x.1 x.2
theorem aB1:aH TM:=aB0.entry
def TN:aE:=TM.add 93 JA
theorem aJP:aF prog TN:=aJN.mV bK λx z hz=>by cases hz;exact aJQ aB1 rfl rfl x.1 x.2
theorem aB2:aH TN:=aB1.entry
def TO:aE:=TN.add 126 NL
theorem aJR:aF prog TO:=aJP.mV bK λx z hz=>by cases hz;exact aJS aB2 rfl x
theorem aB3:aH TO:=aB2.entry
def TP:aE:=TO.add 147 NM
theorem aJT:aF prog TP:=aJR.aB4 λl hl=>aJU aB3 rfl rfl l hl
theorem aB5:aH TP:=aB3.entry
def TQ:aE:=TP.add 125 NN
theorem aJV:aF prog TQ:=aJT.aB4 λl hl=>aJW aB5 rfl rfl l hl
theorem aB6:aH TQ:=aB5.entry
def TR:aE:=TQ.add 95 NO
theorem aJX:aF prog TR:=aJV.mV bK λx z hz=>by obtain⟨h,e⟩:=gA hz;cases e;exact aJY aB6 rfl rfl x h
theorem aB7:aH TR:=aB6.entry
def TS:aE:=TR.add 94 NP
theorem aJZ:aF prog TS:=aJX.mV bK λx z hz=>by cases hz;exact aJ0 aB7 rfl x
theorem aB8:aH TS:=aB7.entry
def TT:aE:=TS.add 61 JB
theorem aJ1:aF prog TT:=aJZ.mV bK λx z hz=>by obtain⟨h,e⟩:=gA hz;cases e;exact aJ2 aB8 rfl rfl rfl rfl rfl x h.1 h.2.1 h.2.2
theorem aB9:aH TT:=aB8.entry
def TU:aE:=TT.add 167 NQ
theorem aJ3:aF prog TU:=aJ1.r8 bK λx y z hz=>by obtain⟨h,e⟩:=gA hz;cases e;exact aJ4 aB9 rfl x y h
theorem aCa:aH TU:=aB9.entry
def TV:aE:=TU.add 148 NR
theorem aJ5:aF prog TV:=aJ3.r8 bK λx y z hz=>by obtain⟨h,e⟩:=gA hz;cases e;exact aJ6 aCa rfl rfl x y h
theorem aCb:aH TV:=aCa.entry
def TW:aE:=TV.add 128 NS
theorem aJ7:aF prog TW:=aJ5.r8 bK λx y z hz=>by obtain⟨h,e⟩:=gA hz;cases e;exact aJ8 aCb rfl rfl x.1 h.1 x.2.1 x.2.2 y h.2
theorem aCc:aH TW:=aCb.entry
def TX:aE:=TW.add 127 NT
theorem aJ9:aF prog TX:=aJ7.mV bK λx z hz=>by obtain⟨h,e⟩:=gA hz;cases e;exact aKa aCc rfl rfl rfl x.1 h.1 h.2 x.2.1 x.2.2
theorem aCd:aH TX:=aCc.entry
def TY:aE:=TX.add 97 NU
theorem aKb:aF prog TY:=aJ9.r8 bK λx y z hz=>by obtain⟨h,e⟩:=gA hz;cases e;exact aKc aCd rfl rfl rfl rfl rfl x.1 h.1 x.2.1 x.2.2 y h.2.1 h.2.2
theorem aCe:aH TY:=aCd.entry
def TZ:aE:=TY.add 99 zA
theorem aKd:aF prog TZ:=aKe aCe aKb rfl
theorem aCf:aH TZ:=aCe.other (aKf)
def T1:aE:=TZ.add 129 (sU λnm l=>.int .i64 (dR (iE nm) l 0))
theorem aKg:aF prog T1:=aKh aCf aKd rfl rfl
theorem aCg:aH T1:=aCf.other (aCh _)
def T2:aE:=T1.add 98 (sU λnm l=>.bool (l.any (iE nm)))
theorem aKi:aF prog T2:=aKj aCg aKg rfl rfl
theorem aCi:aH T2:=aCg.other (aCh _)
def T3:aE:=T2.add 64 NV
theorem aKk:aF prog T3:=aKi.r8 bK λx y z hz=>by obtain⟨h,e⟩:=gA hz;cases e;exact aKl aCi rfl rfl rfl rfl x y h.1 h.2.1 h.2.2
theorem aCj:aH T3:=aCi.entry
def T4:aE:=T3.add 62 vI
theorem aKm:aF prog T4:=aKn aCj aKk rfl
theorem aCk:aH T4:=aCj.other (aKo)
def xB:aE:=T4.add 63 NW
theorem aBA:aF prog xB:=aKm.r8 bK λx y z hz=>by obtain⟨h,e⟩:=gA hz;cases e;exact aKp aCk rfl rfl rfl rfl x h.1 y h.2.2
theorem SZ:aH xB:=aCk.entry
def T5:aE:=xB.add 27 JC
theorem aKq:aF prog T5:=aBA.mV bK λx z hz=>by obtain⟨h,e⟩:=gA hz;cases e;exact aBE SZ rfl rfl rfl rfl rfl rfl x h
theorem aCl:aH T5:=SZ.entry
def T6:aE:=T5.add 53 zE
theorem aKr:aF prog T6:=aKs aCl aKq rfl
theorem aCm:aH T6:=aCl.other (aKt)
def T7:aE:=T6.add 52 BA
theorem aKu:aF prog T7:=aKv aCm aKr rfl rfl
theorem aCn:aH T7:=aCm.other (aKw)
def T8:aE:=T7.add 55 zF
theorem aKx:aF prog T8:=aKy aCn aKu rfl
theorem aCo:aH T8:=aCn.other (aKz)
def T9:aE:=T8.add 54 BB
theorem aKA:aF prog T9:=aKB aCo aKx rfl rfl
theorem aCp:aH T9:=aCo.other (aKC)
def UA:aE:=T9.add 20 gCm
theorem aKD:aF prog UA:=aKA.r8 bK λx y z hz=>by obtain⟨h,e⟩:=gA hz;cases e;exact aKE aCp rfl rfl rfl rfl x y h.1 h.2.1 h.2.2.1 h.2.2.2
theorem aCq:aH UA:=aCp.entry
def UB:aE:=UA.add 88 (eZ eT wG)
theorem aKF:aF prog UB:=aKD.r6 bK λx y hx hy=>aKG aCq rfl x y hx hy
theorem aCr:aH UB:=aCq.entry
def UC:aE:=UB.add 37 (eZ Em.aG kG)
theorem aKH:aF prog UC:=aKF.r6 bK λx y hx hy=>aKI aCr rfl x y hx hy
theorem aCs:aH UC:=aCr.entry
def UD:aE:=UC.add 57 (eZ Em.stop mA)
theorem aKJ:aF prog UD:=aKH.r6 bK λx y hx hy=>aKK aCs rfl rfl x y hx hy
theorem aCt:aH UD:=aCs.entry
def UE:aE:=UD.add 38 (eZ Em.div mB)
theorem aKL:aF prog UE:=aKJ.r6 bK λx y hx hy=>aKM aCt rfl rfl x y hx hy
theorem aCu:aH UE:=aCt.entry
def UF:aE:=UE.add 15 (eZ Em.bH eV)
theorem aKN:aF prog UF:=aKL.r6 bK λx y hx hy=>aKO aCu rfl rfl rfl x y hx hy
theorem aCv:aH UF:=aCu.entry
def UG:aE:=UF.add 11 NX
theorem aKP:aF prog UG:=aKN.mV bK λx z hz=>by cases hz;exact aFH aCv rfl x
theorem aCw:aH UG:=aCv.entry
def UH:aE:=UG.add 67 (entry (bZ iO Em.cH λn=>dY (gF n) (some (nU n))))
theorem aKQ:aF prog UH:=aKP.mV bK λx z hz=>by obtain⟨h,e⟩:=gA hz;cases e;exact aKR aCw rfl x h
theorem aCx:aH UH:=aCw.entry
def UI:aE:=UH.add 68 (entry (bZ iO Em.cH λn=>dY (gF n) (some (lV n))))
theorem aKS:aF prog UI:=aKQ.mV bK λx z hz=>by obtain⟨h,e⟩:=gA hz;cases e;exact aKT aCx rfl x h
theorem aKU:aH UI:=aCx.entry
def UJ:aE:=UI.add 69 DD
theorem aKV:aF prog UJ:=aF.pick aKW aKS (yAJ rfl)
theorem aCy:aH UJ:=aKU.entry
def UK:aE:=UJ.add 30 NY
theorem aKX:aF prog UK:=aKV.r8 bK λx y z hz=>by
 obtain⟨h,e⟩:=gA hz;cases e;obtain⟨a,rfl⟩:∃a:Nat,y=a:=⟨y.toNat,ye⟩;rw[yBy];exact aKY aCy rfl rfl x h.1 a ye
theorem aCz:aH UK:=aCy.entry
def UL:aE:=UK.add 31 JD
theorem aKZ:aF prog UL:=aKX.aK0 aCz rfl rfl rfl
theorem aCA:aH UL:=aCz.entry
def UM:aE:=UL.add 13 NZ
theorem aK1:aF prog UM:=aKZ.mV bK λx z hz=>by obtain⟨h,e⟩:=gA hz;cases e;exact aK2 aCA rfl rfl rfl x h.1 h.2
theorem aK3:aH UM:=aCA.entry
def I3:aE:=UM.add 10 UN
theorem SU:aF prog I3:=aF.pick aK4 aK1 (yAJ rfl)
theorem SV:aH I3:=aK3.entry
def UO:aE:=I3.add 76 aBH
theorem aK5:aF prog UO:=aJc SU
theorem aCB:aH UO:=SV.entry
def UP:aE:=UO.add 73 (iT 48 6)
theorem aK6:aF prog UP:=aK7 aCB aK5 rfl
theorem aCC:aH UP:=F2 aCB
def UQ:aE:=UP.add 74 (iT 53 5)
theorem aK8:aF prog UQ:=aK9 aCC aK6 rfl
theorem aCD:aH UQ:=F2 aCC
def UR:aE:=UQ.add 75 (iT 58 5)
theorem aLa:aF prog UR:=aLb aCD aK8 rfl
theorem aCE:aH UR:=F2 aCD
def US:aE:=UR.add 110 (iT 56 4)
theorem aLc:aF prog US:=aLd aCE aLa rfl
theorem aCF:aH US:=F2 aCE
def UT:aE:=US.add 118 (iT 92 3)
theorem aLe:aF prog UT:=aLf aCF aLc rfl
theorem aCG:aH UT:=F2 aCF
def JE:aE:=UT.add 119 (iT 89 2)
theorem aLg:aF prog JE:=aLh aCG aLe rfl
theorem aCH:aH JE:=F2 aCG
noncomputable def JF:aE:=JE.add 86 (gP prog JE 86)
theorem aLi:aF prog JF:=aLg.w9 bK _
theorem aCI:aH JF:=aCH.e0
noncomputable def JG:aE:=JF.add 77 (gP prog JF 77)
theorem aLj:aF prog JG:=aLi.w9 bK _
theorem aLk:aH JG:=aCI.e0
theorem aLl:∀(o:aM) (ho:eV o) (τ:List aB),aL prog JG 0 (.inl 41) [Em.bH.aA o] τ (λp σ'=>(∃iR iD iC ds tS tss tG tgs tW,F3 σ' τ.length o p iR iD iC ds tS tss tG tgs tW)/\τ.length<=σ'.length/\∀id,id<τ.length->σ'[id]?=τ[id]?):=λo ho τ=>
 aLm aLk (E0:=JF) rfl rfl rfl rfl rfl rfl (λd hd τ=>aLn aCI (E0:=JE) rfl rfl rfl (λs hs τ=>aLo aCH rfl rfl rfl s hs τ) d hd τ) o ho τ
theorem yY{n wy i:Int}(hw:wy=0\/wy=1\/wy=2):((yZ n wy i).2=true↔¬(wy=1/\n=i))/\(¬(wy=1/\n=i)->(yZ n wy i).1=y5 i (sS wy) n):=by
 unfold yZ y5 sS;rcases hw with rfl|rfl|rfl
 .simp;split<;>simp
 .simp
  by_cases h1:n=i
  .simp[h1]
  .simp only[h1,yAN,yCz,true_implies]
   by_cases h2:i<n
   .rw[yAJ h2,yAJ ye];exact⟨yg,zf⟩
   .rw[yAI h2,yAI ye];simp
 .simp
theorem aBl{wy i:Int}{o:aM}(hw:wy=0\/wy=1\/wy=2):NA wy i o↔¬(wy=1/\IY i o):=by
 unfold NA IY
 constructor
 .rintro h ⟨h1,d,hd,s,hs,g,hg,ha⟩
  obtain⟨w,oX,IZ⟩:=yCj.1 ha;exact(yY hw).1.1 (h d hd s hs g hg w oX) ⟨h1,by simpa [uI]using IZ⟩
 .intro h d hd s hs g hg w oX;refine(yY hw).1.2 λ⟨h1,h2⟩=>h ⟨h1,d,hd,s,hs,g,hg,yCj.2 ⟨w,oX,by simp[uI,h2]⟩⟩
theorem aBm{wy i:Int}{o:aM}(hw:wy=0\/wy=1\/wy=2):(∀c∈o.aR,NB wy i c=true)↔¬(wy=1/\I0 i o):=by
 unfold I0
 constructor
 .rintro h ⟨h1,ha⟩
  obtain⟨c,hc,hc2⟩:=yCj.1 ha;have h3:=h c hc;unfold NB at h3;rw[yAr]at h3;simp only[lU,yBp,yBY]at hc2;rcases hc2 with e|e
  .exact(yY hw).1.1 h3.1 ⟨h1,e⟩
  .exact(yY hw).1.1 h3.2 ⟨h1,e⟩
 .intro h c hc;unfold NB;rw[yAr];exact⟨(yY hw).1.2 λ⟨h1,h2⟩=>h ⟨h1,yCj.2 ⟨c,hc,by simp[lU,h2]⟩⟩,(yY hw).1.2 λ⟨h1,h2⟩=>h ⟨h1,yCj.2 ⟨c,hc,by simp[lU,h2]⟩⟩⟩
theorem aIs{wy i:Int}{r:bB}{o:aM}(hw:wy=0\/wy=1\/wy=2)(h:¬(wy=1/\IY i o)):FT wy i r o=wZ wy i r o:=by
 unfold FT wZ;have e:lH (kQ i (sS wy)) o=I1 wy i o:=by
  unfold lH I1
  congr 1
  refine yAG λd hd=>?_
  unfold vE FU
  congr 1
  refine yAG λs hs=>?_
  unfold w5 SN
  congr 1
  refine yAG λg hg=>?_
  unfold DA SO
  congr 1
  refine yAG λw oX=>?_
  unfold kQ SR;rw[(yY hw).2 λ⟨h1,h2⟩=>h ⟨h1,d,hd,s,hs,g,hg,yCj.2 ⟨w,oX,by simp[uI,h2]⟩⟩]
 rw[e]
theorem aIt{wy i:Int}{r:bD}{o:aM}(hw:wy=0\/wy=1\/wy=2)(h:¬(wy=1/\I0 i o)):FV wy i r o=uJ wy i r o:=by
 unfold FV uJ;have e:w6 i (sS wy) o=NC wy i o:=by
  unfold w6 NC
  congr 1
  refine yAG λc hc=>?_
  unfold mZ aBn;rw[(yY hw).2 λ⟨h1,h2⟩=>h ⟨h1,yCj.2 ⟨c,hc,by simp[lU,h2]⟩⟩,(yY hw).2 λ⟨h1,h2⟩=>h ⟨h1,yCj.2 ⟨c,hc,by simp[lU,h2]⟩⟩]
 rw[e]
theorem aIu{f:cT->cT}{d:bD}(h:rO d):rO (vE f d):=by
 obtain⟨h1,h2,h3⟩:=h;refine⟨h1,by unfold vE;rw[yAe];exact h2,λs hs=>?_⟩;obtain⟨t,ht,rfl⟩:=yAw.1 hs;obtain⟨⟨k1,k2⟩,k3⟩:=h3 t ht;refine⟨⟨by unfold w5;rw[yAe];exact k1,λg hg=>?_⟩,k3⟩;obtain⟨q,hq,rfl⟩:=yAw.1 hg;have:=k2 q hq;unfold tN wG DA at *;rw[yAe];exact this
theorem aIv{o:aM}{r:bB}(h:nT o)(hr:y6 r)(wy i:Int):nT (FT wy i r o):=⟨h.name,λq hq=>by
 rcases FW hq with hq|rfl
 .exact h.aK q hq
 .exact hr,λd hd=>by
 obtain⟨t,ht,rfl⟩:=yAw.1 hd;exact aIu (h.aD t ht),h.aR⟩
theorem aIw{o:aM}{d:bD}(h:nT o)(hr:rO d)(wy i:Int):nT (FV wy i d o):=⟨h.name,h.aK,λq hq=>by
 rcases FW hq with hq|rfl
 .exact h.aD q hq
 .exact hr,λc hc=>by
 obtain⟨t,ht,rfl⟩:=yAw.1 hc;exact h.aR t ht⟩
theorem I2{E:aE}{f:FuncId}{args:Ey}{p:PD}{σ:Ex}{bad conf:Prop}{EO:aM}(h:iI prog E 0 (.inl f) args [] p σ)(hp:vF bad conf EO p σ) :
  (bad/\RunT prog E f args ((Em.bH.rJ i64).aA (vH,10)))\/(¬bad/\conf/\RunT prog E f args ((Em.bH.rJ i64).aA (vH,14)))\/(¬bad/\¬conf/\RunT prog E f args ((Em.bH.rJ i64).aA (uK EO))):=by
 obtain⟨n,r,d,c⟩:=EO;rcases hp with⟨hb,h2⟩ | ⟨hb,hc,h2⟩ | ⟨hb,hc,P1,P2,P3,h2,l1,l2,l3⟩
 .exact .inl ⟨hb,ND h h2⟩
 .exact .inr (.inl ⟨hb,hc,ND h h2⟩)
 .exact .inr (.inr ⟨hb,hc,aIx h h2 l1 l2 l3⟩)
def SS:aE:=I3
theorem aIy:aF prog SS:=SU
theorem aBo:aH SS:=SV
def SW:aE:=SS.add 39 y8
theorem aIz:aF prog SW:=aIy.mV bK λx z hz=>by obtain⟨h,e⟩:=gA hz;cases e;exact aIA aBo rfl x h
theorem aBp:aH SW:=aBo.entry
def SX:aE:=SW.add 45 DB
theorem aIB:aF prog SX:=aIz.aF8 bK λw i n z hz=>by cases hz;exact aIC aBp rfl w i n
theorem aBq:aH SX:=aBp.entry
def SY:aE:=SX.add 22 (eZ Em.edit fO)
theorem aID:aF prog SY:=aIB.r8 bK λx y z hz=>by obtain⟨h,e⟩:=gA hz;cases e;exact aIE aBq rfl rfl rfl rfl x y h.1 h.2
theorem aBr:aH SY:=aBq.entry
def FX:aE:=SY.add 43 y9
theorem aIF:aF prog FX:=aID.mV bK λx z hz=>by obtain⟨h,e⟩:=gA hz;cases e;exact aIG aBr rfl rfl rfl x h.1 h.2
theorem aBs:aH FX:=aBr.entry
noncomputable def w8:aE:=FX.add 40 (gP prog FX 40)
theorem aIH:aF prog w8:=aIF.w9 bK _
theorem aBt:aH w8:=aBs.e0
noncomputable def FY:aE:=w8.add 44 (gP prog w8 44)
theorem aII:aF prog FY:=aIH.w9 bK _
theorem aBu:aH FY:=aBt.e0
noncomputable def FZ:aE:=FY.add 46 (gP prog FY 46)
theorem aIJ:aF prog FZ:=aII.w9 bK _
theorem aBv:aH FZ:=aBu.e0
noncomputable def I4:aE:=FZ.add 48 (gP prog FZ 48)
theorem aIK:aF prog I4:=aIJ.w9 bK _
theorem aBw:aH I4:=aBv.e0
noncomputable def I5:aE:=I4.add 47 (gP prog I4 47)
theorem aIL:aF prog I5:=aIK.w9 bK _
theorem aBx:aH I5:=aBw.e0
noncomputable def I6:aE:=I5.add 49 (gP prog I5 49)
theorem aIM:aF prog I6:=aIL.w9 bK _
theorem aBy:aH I6:=aBx.e0
noncomputable def I7:aE:=I6.add 51 (gP prog I6 51)
theorem aIN:aF prog I7:=aIM.w9 bK _
theorem aIO:aH I7:=aBy.e0
noncomputable def aBz:aE:=I7.add 50 (gP prog I7 50)
theorem aIP:aF prog aBz:=aIN.w9 bK _
noncomputable def xA:aE:=aBz.add 27 (pL (oY prog xB 27))
theorem aIQ:aF prog xA:=aF.pick (f:=27) (aBA.aIR bK 27) aIP Bj
theorem aIS:aBB FX:=λd hd τ=>aIT aBs rfl d hd τ
theorem I8:F0 w8:=λo ho τ=>aIU aBt (E0:=FX) rfl rfl aIS o ho τ
theorem aIV:aBC FY:=λfm b hb1 o p bP lo iR iD iC ds tS tss tG tgs tW hO hlo ho hb=>aIW aBu rfl fm b hb1 o p bP lo iR iD iC ds tS tss tG tgs tW hO hlo ho hb
theorem aIX:aBD FZ:=λfm b hb1 o p bP lo iR iD iC ds tS tss tG tgs tW hO hlo ho hb=>aIY aBv rfl fm b hb1 o p bP lo iR iD iC ds tS tss tG tgs tW hO hlo ho hb
theorem I9:∀o,dP o->aI prog xB 27 [Em.bH.aA o] (i64.aA (bS o)):=λo ho=>aBE SZ rfl rfl rfl rfl rfl rfl o ho
theorem aIZ{o:aM}(h:gK o):eV o:=h.dP.eV
theorem aI0(o:aM)(x:bJ)(ho:gK o)(hx:pM x):RunT prog xA 18 [Em.bH.aA o,Em.edit.aA x] ((Em.bH.rJ i64).aA (j8 o x)):=by
 have hoO:=aIZ ho;obtain⟨b1,b2,b3,b4⟩:=ho.bounds;unfold j8
 by_cases hk:1<=x.kind/\x.kind<=13
 rotate_left
 .have hf:gQ x=12:=by unfold gQ;rw[yAJ ye]
  rw[yAJ (by rw[hf];decide),hf];obtain⟨p,σ,h1,h2⟩:=(aI1 (E:=xA) rfl o x hk).ex;exact ND h1 h2
 by_cases hf:gQ x≠0
 .rw[yAJ hf];have hf7:gQ x=7:=by
   unfold gQ at hf ⊢;rw[yAI ye]at hf ⊢;split
   .rename_i h;rw[yAJ h]at hf;exact absurd rfl hf
   .rfl
  rw[hf7];obtain⟨p,σ,h1,h2⟩:=(aI2 (E:=xA) rfl rfl o x hx.fO hk hf).ex;exact ND h1 h2
 rw[yAI hf];have hf:gQ x=0:=by simpa using hf
 have hwy:(x.kind-1)%3=0\/(x.kind-1)%3=1\/(x.kind-1)%3=2:=ye
 by_cases A1:x.kind=13
 .rw[yAJ A1];obtain⟨p,σ,h1,h2⟩:=(aI3 (E:=xA) (E1:=w8) (Eo:=xB) rfl rfl rfl I8 rfl rfl I9 o x hoO hx.fO hf ye (nT.dP ⟨hx.1,ho.2.aK,ho.2.aD,ho.2.aR⟩ (show o.aK.length<=1000000 by omega) (show o.aD.length<=1000000 by omega) (show o.aR.length<=1000000 by omega))).ex;rcases I2 h1 h2 with h|h|h
  .exact h.1.elim
  .exact h.2.1.elim
  .exact h.2.2
 rw[yAI A1]
 by_cases t0:(x.kind-1)/3=0
 .rw[yAJ t0];obtain⟨p,σ,h1,h2⟩:=(aI4 (E:=xA) (E1:=w8) (E3:=I4) (E5:=FY) (Eo:=xB) rfl rfl rfl I8 rfl rfl rfl (aI5 aBw rfl) rfl aIV rfl I9 o x hoO hx.fO hf ye ye (λd hd s hs g hg w hw=>by have:=ho.aT d hd s hs g hg w hw;omega)
   ((aIv ho.2 hx.2.1 _ _).dP (yAW (NF _ _ _ _) ye) (by show(o.aD.map _).length<=1000000;rw[yAe];omega) (show o.aR.length<=1000000 by omega))).ex
  rcases I2 h1 h2 with⟨hb,h⟩ | ⟨hb,hc,h⟩ | ⟨hb,hc,h⟩
  .rw[yAI hb];exact h
  .rw[yAJ (yDf.1 hb),yAI (λe=>(aBl hwy).1 e hc)];exact h
  .rw[yAJ (yDf.1 hb),yAJ ((aBl hwy).2 hc),<-aIs hwy hc];exact h
 rw[yAI t0]
 by_cases t1:(x.kind-1)/3=1
 .rw[yAJ t1];obtain⟨p,σ,h1,h2⟩:=(aI6 (E:=xA) (E1:=w8) (E3:=I5) (E5:=FZ) (Eo:=xB) rfl rfl rfl I8 rfl rfl rfl (aI7 aBx rfl) rfl aIX rfl I9 o x hoO hx.fO hf ye ye (λc hc=>by have:=ho.ends c hc;omega)
   ((aIw ho.2 hx.2.2.1 _ _).dP (show o.aK.length<=1000000 by omega) (yAW (NF _ _ _ _) ye) (by show(o.aR.map _).length<=1000000;rw[yAe];omega))).ex
  rcases I2 h1 h2 with⟨hb,h⟩ | ⟨hb,hc,h⟩ | ⟨hb,hc,h⟩
  .rw[yAI hb];exact h
  .rw[yAJ (yDf.1 hb),yAI (λe=>(aBm hwy).1 e hc)];exact h
  .rw[yAJ (yDf.1 hb),yAJ ((aBm hwy).2 hc),<-aIt hwy hc];exact h
 rw[yAI t1]
 by_cases t2:(x.kind-1)/3=2
 .rw[yAJ t2];obtain⟨p,σ,h1,h2⟩:=(aI8 (E:=xA) (E1:=w8) (E3:=I7) (Eo:=xB) rfl rfl rfl I8 rfl rfl rfl (aI9 aIO rfl) rfl I9 o x hoO hx.fO hf ye (λd hd=>by have:=b4 d hd;omega)
   (λhd=>(aBF ho.2 hx.2.2.2.1 _ _ _ hd (by have:=b4 _ (NG hd cP);omega)).dP (show o.aK.length<=1000000 by omega) (by show(o.aD.set _ _).length<=1000000;rw[yAD];omega) (show o.aR.length<=1000000 by omega))).ex
  exact jg
 rw[yAI t2];obtain⟨p,σ,h1,h2⟩:=(aJa (E:=xA) (E1:=w8) (E3:=I6) (Eo:=xB) rfl rfl rfl I8 rfl rfl rfl (aJb aBy rfl) rfl I9 o x hoO hx.fO hf ye ye
  ((aBG ho.2 hx.2.2.2.2 _ _).dP (show o.aK.length<=1000000 by omega) (show o.aD.length<=1000000 by omega) (yAW (NF _ _ _ _) ye))).ex
 exact jg
structure aIp where
 kind:Int
 div:Int
 idx:Int
 pB:oC
 extra:Int
def bE.pB:bE oC:=((bE.one P6).pair ((bE.one P7).pair (.one P8))).lM (λr=>(r.aK,r.aD,r.aR)) (λx y h=>yo)
def Em.change:Em aIp:=.agg (((bE.one i64).pair ((bE.one i64).pair ((bE.one i64).pair (bE.pB.pair (.one iO))))).lM (λr=>(r.kind,r.div,r.idx,r.pB,r.extra)) (λx y h=>yo))
theorem aBk{p:oC}(hp:AB p)(hf:l7 p=true):gK (uH p):=⟨aIq p hp hf,(aIr p hf).dP.fit⟩
end Go.Kz
end
