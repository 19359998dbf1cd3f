/-
  Part D7 of the way: an interpreter over pure data, its soundness, walks through functions.
-/
import Derived.Test.YtefkonhamghgfaaGreatDoorD5
set_option linter.all false

set_option maxHeartbeats 40000000
open Go.Proofs.Tryz
namespace Go.Kz
open Go Go.Proofs
set_option maxRecDepth 100000
section
variable{E:aD}(hU:aI E)
include hU
theorem aMD(h0:E 13=none)(o:bY)(x:oZ)(ho:nP o)(hsm:Small o)(hT:tO o)(oU:o.cM.length<=8)(tZ:∀d∈o.cM,d.stops.length<=60)(hx:wT x)(hr:1<=o.aX.length)(hd:1<=o.cM.length)(hkd:7<=x.kind.toNat%16/\x.kind.toNat%16<=9) :
  aN prog E 0 (.inl 13) [Em.aT.U o,Em.oK.U x] [] (fun p1 σ1=>∃o',tO o'/\(bA σ1 20 p1).strip=Em.aT.U o'/\(bA σ1 20 p1).aY=true):=by
 obtain⟨nm,R,D,C⟩:=o
 obtain⟨k,a⟩:=x
 simp only[fH,wU,bJ]
 simp only at hr hd
 have hRl:(R.map Em.aR.U).length=R.length:=yAe _
 have hDl:(D.map Em.div.U).length=D.length:=yAe _
 have hCl:(C.map Em.aP.U).length=C.length:=yAe _
 have szR:sz 6 R=6:=cG (fun h=>by rw[h]at hr;simp at hr)
 have szD:sz 5 D=5:=cG (fun h=>by rw[h]at hd;simp at hd)
 have bR:R.length<=1000000:=ho.1.1
 have bD:D.length<=1000000:=ho.2.1.1
 have bC:C.length<=1000000:=ho.2.2
 rw[szR,szD]
 have f1:=fun(σ:List aB) (s:Nat)=>uA (P:=prog) (σ:=σ) (t:=32) (e:=66) (k:=6) (b:=80) (s:=s) (z:=6) (n:=275) (xs:=R.map Em.aR.U) rfl underlying32 (by kernel_rfl) (n7 (by kernel_rfl)) rfl (by omega) (by omega) (by omega)
 have f2:=fun(σ:List aB) (s:Nat)=>uA (P:=prog) (σ:=σ) (t:=33) (e:=71) (k:=5) (b:=64) (s:=s) (z:=5) (n:=275) (xs:=D.map Em.div.U) rfl underlying33 (by kernel_rfl) (n7 (by kernel_rfl)) rfl (by omega) (by omega) (by omega)
 rw[hRl,OA]at f1
 rw[hDl,OB]at f2
 obtain⟨gR,hgR⟩:=gn ((R.map fun r=>[PD.str r.name,.str r.jN,.int .i64 r.num,.int .i64 r.den,.int .i64 r.first,eD.U r.fJ]))
 obtain⟨gD,hgD⟩:=gn ((D.map fun r=>[PD.str r.name,.bool r.oL,.int .i64 r.low,.int .i64 r.high,j6.U r.stops]))
 rw[hgR]at f1
 rw[hgD]at f2
 obtain⟨cR,hcR⟩:=gn (gR.flatten)
 obtain⟨cD,hcD⟩:=gn (gD.flatten)
 rw[hcR]at f1
 rw[hcD]at f2
 obtain⟨tC,σ3,hap,hrC,hkC⟩:=OC (P:=prog) (t:=34) (e:=76) (k:=5) (b:=48) (s:=5) (z:=sz 5 C) (xs:=C.map Em.aP.U)
  (σ:=[.box (.agg [.str nm,.aF 3 0 0 R.length 6,.aF 4 0 0 D.length 5,.slice (sz 5 C) (C.map Em.aP.U) .any]),.box (.agg [.int .u8 k,.int .u8 a]),.box (.agg [.str [],.slice 0 [] .full,.slice 0 [] .full,.slice 0 [] .full]),.row 66 6 0 cR,.row 71 5 0 cD])
  underlying34 (by kernel_rfl) (if h:C=[]then .inl (by rw[h];rfl)else .inr (cG h)) (by omega) (by omega)
 simp only[ite_self]at hap
 have k0:=hkC 0 _ rfl
 have k1:=hkC 1 _ rfl
 have k2:=hkC 2 _ rfl
 have k3:=hkC 3 _ rfl
 have k4:=hkC 4 _ rfl
 obtain⟨l0,e0⟩:=yA.1 k0
 have grR:∀g∈gR,iX Em.aR iH 6 g:=fun g hg=>by
  rw[<-hgR]at hg
  obtain⟨r,hr,rfl⟩:=yAw.1 hg
  exact CQ _ _ _ _ _ (sz 1 r.fJ) r.fJ .any (if h:r.fJ=[]then .inl h else .inr (cG h)) (hT.2.1.2 r hr)
 have grD:∀g∈gD,iX Em.div kD 5 g:=fun g hg=>by
  rw[<-hgD]at hg
  obtain⟨r,hr,rfl⟩:=yAw.1 hg
  exact I8 _ _ _ _ (sz 4 r.stops) r.stops .any (if h:r.stops=[]then .inl h else .inr (cG h)) (hT.2.2.1.2 r hr)
 have lgR:gR.length=R.length:=by rw[<-hgR,yAe]
 have lgD:gD.length=D.length:=by rw[<-hgD,yAe]
 have hlR:cR.length=R.length*6:=by rw[<-hcR,oH gR fun g h=>(grR g h).1,lgR]
 have hlD:cD.length=D.length*5:=by rw[<-hcD,oH gD fun g h=>(grD g h).1,lgD]
 obtain⟨⟨hx0,hx1⟩,hx2,hx3⟩:=hx
 simp only at hx0 hx1 hx2 hx3
 obtain⟨k,rfl⟩:∃q:Nat,k=q:=⟨k.toNat,by omega⟩
 simp only[Int.toNat_natCast]at hkd
 obtain⟨a,rfl⟩:∃q:Nat,a=q:=⟨a.toNat,by omega⟩
 obtain⟨I,hI⟩:=gn (a%R.length)
 obtain⟨K,hK⟩:=gn (a%D.length)
 have iI:I<R.length:=hI▸Nat.mod_lt _ (by omega)
 have iK:K<D.length:=hK▸Nat.mod_lt _ (by omega)
 have t1:(a:Int).tmod (R.length:Int)=(I:Int):=by rw[<-hI];rfl
 have t2:(a:Int).tmod (D.length:Int)=(K:Int):=by rw[<-hK];rfl
 have w1:IntKind.i64.wrap (a:Int)=(a:Int):=by rw[IntKind.wrap_i64];omega
 have w2:IntKind.i64.wrap (I:Int)=(I:Int):=by rw[IntKind.wrap_i64];omega
 have w3:IntKind.i64.wrap (K:Int)=(K:Int):=by rw[IntKind.wrap_i64];omega
 have n1:¬R=[]:=fun h=>by rw[h]at hr;simp at hr
 have n2:¬D=[]:=fun h=>by rw[h]at hd;simp at hd
 have n3:¬R.length=0:=by omega
 have n4:¬D.length=0:=by omega
 have n5:¬(R.length:Int)=0:=by omega
 have n6:¬(D.length:Int)=0:=by omega
 obtain⟨dK,hdK⟩:=gn (D[K])
 obtain⟨d0,d1,d2,d3,ds⟩:=dK
 have gK:(cD.drop (K*5)).take 5=[.str d0,.bool d1,.int .i64 d2,.int .i64 d3,.slice (sz 4 ds) (ds.map Em.stop.U) .any]:=by
  rw[<-hcD,zW gD K (by omega) fun g h=>(grD g h).1]
  have:gD[K]'(by omega)=(fun r:cU=>[PD.str r.name,.bool r.oL,.int .i64 r.low,.int .i64 r.high,j6.U r.stops]) D[K]:=by
   subst hgD
   rw[List.getElem_map]
  rw[this,hdK]
  rfl
 have gl:K*5+5<=cD.length:=by omega
 obtain⟨bK,fT⟩:=gn (σ3.set 0 (.box (.agg [.str nm,.aF 3 0 0 R.length 6,.aF 4 0 0 D.length 5,.slice 5 (C.map Em.aP.U) tC])))
 have m0:bK[0]?=some (.box (.agg [.str nm,.aF 3 0 0 R.length 6,.aF 4 0 0 D.length 5,.slice 5 (C.map Em.aP.U) tC])):=by rw[<-fT];exact yAj l0
 have m1:bK[1]?=some (.box (.agg [.int .u8 k,.int .u8 a])):=by rw[<-fT,yAd (by decide)];exact k1
 have m2:bK[2]?=some (.box (.agg [.str [],.slice 0 [] .full,.slice 0 [] .full,.slice 0 [] .full])):=by rw[<-fT,yAd (by decide)];exact k2
 have m3:bK[3]?=some (.row 66 6 0 cR):=by rw[<-fT,yAd (by decide)];exact k3
 have m4:bK[4]?=some (.row 71 5 0 cD):=by rw[<-fT,yAd (by decide)];exact k4
 obtain⟨p0,q0⟩:=yA.1 m0
 obtain⟨p1,q1⟩:=yA.1 m1
 obtain⟨p4,q4⟩:=yA.1 m4
 have xk:lT prog 33 (.aF 4 0 0 D.length 5) (.int .i64 K)=some (.dQ 4 0 (K*5)):=by
  simp[mT,iK]
 have bS:ds.length<=1000000:=by
  have:=(ho.2.1.2 _ (hdK▸yAm iK)).1
  simpa using this
 obtain⟨B,hB⟩:=gn (bK.length)
 obtain⟨cS,hcS⟩:=gn ((ds.map fun r=>[PD.str r.name,.int .i64 r.num,.int .i64 r.den,jA.U r.fK]).flatten)
 obtain⟨SP,iJ,hsp,hkx,hSP⟩:∃SP iJ,dS prog 275 0 (bK++[.box (.agg [.str d0,.bool d1,.int .i64 d2,.int .i64 d3,.slice (sz 4 ds) (ds.map Em.stop.U) .any])]) 69 (.slice 4 [] .full) (.slice (sz 4 ds) (ds.map Em.stop.U) .any)=some (SP,iJ) /\
   (∀(id:Nat) (o:aB),(bK++[aB.box (.agg [.str d0,.bool d1,.int .i64 d2,.int .i64 d3,.slice (sz 4 ds) (ds.map Em.stop.U) .any])])[id]?=some o->iJ[id]?=some o) /\
   (ds=[]/\SP=.slice 4 [] .full\/0<ds.length/\SP=.aF (B+1) 0 0 ds.length 4/\iJ[B+1]?=some (.row 74 4 0 cS)):=by
  by_cases h:ds=[]
  ·subst h
   exact⟨_,_,OD (e:=74) (k:=4) (b:=56) rfl underlying69 (by kernel_rfl) (n7 (by kernel_rfl)),fun _ _ h=>h,.inl ⟨rfl,rfl⟩⟩
  ·have hp:0<ds.length:=List.length_pos_iff.2 h
   refine⟨_,_,uA (e:=74) (k:=4) (b:=56) rfl underlying69 (by kernel_rfl) (n7 (by kernel_rfl)) (cG h) (by rw[yAe];exact hp) (by rw[yAe];omega) (by rw[yAe];omega),fun _ _ h=>eK h,.inr ⟨hp,?_,?_⟩⟩
   ·rw[yAe,yAa,hB]
    rfl
   ·rw[OE,hcS,<-hB]
    have e1:bK.length+1=(bK++[aB.box (.agg [.str d0,.bool d1,.int .i64 d2,.int .i64 d3,.slice (sz 4 ds) (ds.map Em.stop.U) .any])]).length:=by simp
    rw[e1]
    exact yBb
 have u0:=hkx 0 _ (eK m0)
 have u1:=hkx 1 _ (eK m1)
 have u2:=hkx 2 _ (eK m2)
 have u3:=hkx 3 _ (eK m3)
 have u4:=hkx 4 _ (eK m4)
 have uB:=hkx B _ (by rw[<-hB];exact yBb)
 obtain⟨lB,eB⟩:=yA.1 uB
 obtain⟨cO,eL⟩:=gn (iJ.set B (.box (.agg [.str d0,.bool d1,.int .i64 d2,.int .i64 d3,SP])))
 have CR:4<B:=by omega
 have cq:SP.cells=[SP]:=by rcases hSP with⟨_,h⟩ | ⟨_,h,_⟩<;>subst h<;>rfl
 have pq:SP.plain=true:=by rcases hSP with⟨_,h⟩ | ⟨_,h,_⟩<;>subst h<;>rfl
 have UO:=pq
 have UP:=cq
 unfold PD.plain at pq
 unfold PD.cells at cq
 have xst:mC prog 0 iJ 69 (.ptr B 4) SP=some cO:=by
  rw[<-eL]
  rcases hSP with⟨_,h⟩ | ⟨_,h,_⟩<;>subst h<;>simp[mC,uB,PD.cells,PD.plain,PD.setCells,cX]
 have v0:cO[0]?=some (.box (.agg [.str nm,.aF 3 0 0 R.length 6,.aF 4 0 0 D.length 5,.slice 5 (C.map Em.aP.U) tC])):=by rw[<-eL,yAd (by omega)];exact u0
 have v1:cO[1]?=some (.box (.agg [.int .u8 k,.int .u8 a])):=by rw[<-eL,yAd (by omega)];exact u1
 have v2:cO[2]?=some (.box (.agg [.str [],.slice 0 [] .full,.slice 0 [] .full,.slice 0 [] .full])):=by rw[<-eL,yAd (by omega)];exact u2
 have v3:cO[3]?=some (.row 66 6 0 cR):=by rw[<-eL,yAd (by omega)];exact u3
 have v4:cO[4]?=some (.row 71 5 0 cD):=by rw[<-eL,yAd (by omega)];exact u4
 have vB:cO[B]?=some (.box (.agg [.str d0,.bool d1,.int .i64 d2,.int .i64 d3,SP])):=by rw[<-eL];exact yAj lB
 obtain⟨kk,hkk⟩:=gn (k%16)
 have ik:kk<16:=hkk▸Nat.mod_lt _ (by omega)
 have t3:(k:Int).tmod 16=(kk:Int):=by rw[<-hkk];rfl
 have w4:IntKind.u8.wrap (kk:Int)=(kk:Int):=by simp only[IntKind.wrap,IntKind.bits,IntKind.signed];simp;omega
 obtain⟨r0,y0⟩:=yA.1 v0
 obtain⟨r1,y1⟩:=yA.1 v1
 obtain⟨rB,yB⟩:=yA.1 vB
 apply aN.aK h0 func13 rfl
 focus(simp[show Tryz.f13.ntmps=_ from rfl,List.replicate];rfl)
 have gx:=An @f1 (An @f2 (An @hap (An @k0 (An @l0 (An @e0 (An @fT (An @m0 (An @m1 (An @m4 (An @t1 (An @t2 (An @w1 (An @w2 (An @w3 (An @n1 (An @n2 (An @n3 (An @n4 (An @n5 (An @n6 (An @hlD (An @gK (An @gl (An @iK (An @xk (An @iI (An @p0 (An @q0 (An @p1 (An @q1 (An @p4 (An @q4 (An @hB (An @hsp (An @uB (An @lB (An @eB (An @eL (An @pq (An @cq (An @v1 (An @t3 (An @w4 (An @r1 (@y1)))))))))))))))))))))))))))))))))))))))))))))
 refine aC ?_
 clear gx
 rw[hB]
 have CS:cV cO tC 76 5 C.length:=by
  rw[hCl]at hrC
  have h4:cV bK tC 76 5 C.length:=fT▸hrC.set k0 trivial
  have hx:cV iJ tC 76 5 C.length:=(h4.more (τ:=[_])).dH fun j o' ej hj=>hkx j o' hj
  exact eL▸hx.set uB trivial
 clear hkC hap hkx hsp f1 f2 e0 q0 q1 q4 eB k0 k1 k2 k3 k4 u0 u1 u2 u3 u4 uB xst
 refine Wp.mono (Q:=mQ 0 (x7 B K)) ?_ ?_
 ·have zR:R.length<=60:=hsm.rl
  have zD:D.length<=8:=oU
  have tD:kD ⟨d0,d1,d2,d3,ds⟩:=hT.2.2.1.2 _ (hdK▸yAm iK)
  have tFF:tF nm C d0 d2 d3:=⟨hT.1,hT.2.2.2.1,hT.2.2.2.2,tD.1,tD.2.1,tD.2.2.1⟩
  have zC:C.length<=60:=hsm.cl
  have okd:GG ds:=tD.2.2.2
  have zS:ds.length<=60:=by have:=tZ _ (hdK▸yAm iK);simpa using this
  have grS:∀g∈(ds.map fun r=>[PD.str r.name,.int .i64 r.num,.int .i64 r.den,jA.U r.fK]),iX Em.stop kP 4 g:=fun g hg=>by
   obtain⟨r,hr,rfl⟩:=yAw.1 hg
   exact GH _ _ _ (sz 3 r.fK) r.fK .any (if h:r.fK=[]then .inl h else .inr (cG h)) (okd.2 r hr)
  have vR:iY Em.aR iH 66 6 cO 3 R.length (.aF 3 0 0 R.length 6):=⟨0,gR,rfl,by rw[hcR];exact v3,by omega,by show gR.length<=70;omega,grR⟩
  have vD:iY Em.div kD 71 5 cO 4 D.length (.aF 4 0 0 D.length 5):=⟨0,gD,rfl,by rw[hcD];exact v4,by omega,by show gD.length<=10;omega,grD⟩
  have vS:SP=.slice 4 [] .full\/∃n,iY Em.stop kP 74 4 cO (B+1) n SP:=by
   rcases hSP with⟨_,h⟩ | ⟨h1,h2,h3⟩
   ·exact .inl h
   ·refine .inr ⟨ds.length,0,_,h2,?_,?_,?_,grS⟩
    ·rw[hcS,<-eL,yAd (by omega)]
     exact h3
    ·rw[yAe];exact yAk _
    ·rw[yAe];show ds.length<=70;omega
  have hF:fG cO B K nm (.aF 3 0 0 R.length 6) (.aF 4 0 0 D.length 5) SP C tC d0 d1 d2 d3:=⟨v0,v2,vB,CR,tFF,⟨_,vR⟩,.inr ⟨_,vD,iK⟩,vS⟩
  have hks:kk=0\/kk=1\/kk=2\/kk=3\/kk=4\/kk=5\/kk=6\/kk=7\/kk=8\/kk=9\/kk=10\/kk=11\/kk=12\/kk=13\/kk=14\/kk=15:=by omega
  obtain⟨j4,CT⟩:=gn (a%4)
  have CU:j4=0\/j4=1\/j4=2\/j4=3:=by omega
  have t4:(a:Int).tmod 4=(j4:Int):=by rw[<-CT];rfl
  have w5:IntKind.u8.wrap (j4:Int)=(j4:Int):=by simp only[IntKind.wrap,IntKind.bits,IntKind.signed];simp;omega
  obtain⟨j3,CV⟩:=gn (a%3)
  have I9:j3=0\/j3=1\/j3=2:=by omega
  have t5:(a:Int).tmod 3=(j3:Int):=by rw[<-CV];rfl
  have w6:IntKind.u8.wrap (j3:Int)=(j3:Int):=by simp only[IntKind.wrap,IntKind.bits,IntKind.signed];simp;omega
  obtain⟨j5,CW⟩:=gn (a%5)
  have UQ:j5<5:=by omega
  have t6:(a:Int).tmod 5=(j5:Int):=by rw[<-CW];rfl
  have w7:IntKind.u8.wrap (j5:Int)=(j5:Int):=by simp only[IntKind.wrap,IntKind.bits,IntKind.signed];simp;omega
  have w8:IntKind.i64.wrap (j5:Int)=(j5:Int):=by rw[IntKind.wrap_i64];omega
  obtain⟨rI,hrI⟩:=gn (R[I])
  obtain⟨x0,x1,x2,x3,x4,x5⟩:=rI
  have okII:iH ⟨x0,x1,x2,x3,x4,x5⟩:=hT.2.1.2 _ (hrI▸yAm iI)
  have eI:gR[I]'(by omega)=[.str x0,.str x1,.int .i64 x2,.int .i64 x3,.int .i64 x4,.slice (sz 1 x5) (x5.map i64.U) .any]:=by
   subst hgR
   rw[List.getElem_map,hrI]
   rfl
  rcases hks with h|h|h|h|h|h|h|h|h|h|h|h|h|h|h|h<;>subst h
  ·exact absurd hkd (by omega)
  ·exact absurd hkd (by omega)
  ·exact absurd hkd (by omega)
  ·exact absurd hkd (by omega)
  ·exact absurd hkd (by omega)
  ·exact absurd hkd (by omega)
  ·exact absurd hkd (by omega)
  ·rcases CU with h|h|h|h<;>subst h
   all_goals
    have gx:=An @vB (An @v1 (An @rB (An @yB (An @r1 (An @y1 (An @t4 (@w5)))))))
    refine aC ?_
    clear gx
    exact nF rfl (hF.UY rB ⟨tFF.1,tFF.2.1,tFF.2.2.1,by decide,tFF.2.2.2.2⟩ vS)
  ·rcases CU with h|h|h|h<;>subst h
   all_goals
    have gx:=An @vB (An @v1 (An @rB (An @yB (An @r1 (An @y1 (An @t4 (@w5)))))))
    refine aC ?_
    clear gx
    exact nF rfl (hF.UY rB ⟨tFF.1,tFF.2.1,tFF.2.2.1,tFF.2.2.2.1,⟨by decide,by decide⟩,⟨by decide,by decide⟩⟩ vS)
  ·rcases hSP with⟨_,h2⟩ | ⟨h1,h2,h3⟩
   ·subst h2
    have gx:=An @vB (An @rB (@yB))
    refine aC ?_
    clear gx
    exact nF rfl hF
   obtain⟨gS,hgS⟩:=gn ((ds.map fun r=>[PD.str r.name,.int .i64 r.num,.int .i64 r.den,jA.U r.fK]))
   rw[hgS]at hcS grS
   have lgS:gS.length=ds.length:=by rw[<-hgS,yAe]
   have v5:cO[B+1]?=some (.row 74 4 0 cS):=by rw[<-eL,yAd (by omega)];exact h3
   obtain⟨sZ,hsZ⟩:=gn (ds[0])
   obtain⟨z0,z1,z2,z3⟩:=sZ
   have okZ:kP ⟨z0,z1,z2,z3⟩:=okd.2 _ (hsZ▸yAm (by omega))
   have eZ:gS[0]?=some [.str z0,.int .i64 z1,.int .i64 z2,.slice (sz 3 z3) (z3.map Em.bL.U) .any]:=by
    subst hgS
    rw[yAo,yAh (by omega),hsZ]
    rfl
   subst h2
   have q8:0<(ds.length:Int):=by omega
   have hfl:=fun s:List UInt8=>zY (sz:=4) (new:=[.str s,.int .i64 z1,.int .i64 z2,.slice (sz 3 z3) (z3.map Em.bL.U) .any]) (j:=0) (by simp) gS 0 (by omega) fun g h=>(grS g h).1
   have hpf:∀s:List UInt8,cX (gS[0]'(by omega)) 0 [.str s,.int .i64 z1,.int .i64 z2,.slice (sz 3 z3) (z3.map Em.bL.U) .any]=[.str s,.int .i64 z1,.int .i64 z2,.slice (sz 3 z3) (z3.map Em.bL.U) .any]:=fun s=>by
    rw[(yA.1 eZ).2]
    rfl
   obtain⟨c2,hc2⟩:∃c:List UInt8->List PD,(fun s=>(gS.set 0 [.str s,.int .i64 z1,.int .i64 z2,.slice (sz 3 z3) (z3.map Em.bL.U) .any]).flatten)=c:=⟨_,rfl⟩
   have JA:∀s,cX cS 0 [.str s,.int .i64 z1,.int .i64 z2,.slice (sz 3 z3) (z3.map Em.bL.U) .any]=c2 s:=fun s=>by
    have:=hfl s
    rw[hpf s,Nat.zero_mul,hcS]at this
    rw[<-hc2]
    exact this
   simp only[cX,List.length_cons,List.length_nil,yAp,Nat.reduceAdd,List.take_zero,Nat.add_assoc,yAi,List.cons_append,List.nil_append]at JA
   have hlS:cS.length=ds.length*4:=by rw[<-hcS,oH gS fun g h=>(grS g h).1,lgS]
   have gl4:4<=cS.length:=by omega
   have DK:cS.take 4=[.str z0,.int .i64 z1,.int .i64 z2,.slice (sz 3 z3) (z3.map Em.bL.U) .any]:=by
    have h:=zW (sz:=4) gS 0 (by omega) fun g h=>(grS g h).1
    rw[Nat.zero_mul,List.drop_zero,hcS]at h
    rw[h]
    exact(yA.1 eZ).2
   have KF:lT prog 69 (.aF (B+1) 0 0 ds.length 4) (.int .i64 0)=some (.dQ (B+1) 0 0):=by
    simp[mT,h1]
   obtain⟨r5,y5⟩:=yA.1 v5
   have j0:∀x:aB,(cO++[x])[cO.length]?=some x:=fun x=>by simp
   have n0:∀x:aB,(cO++[x])[B+1]?=some (.row 74 4 0 cS):=fun x=>eK v5
   have aOS:∀(s:List UInt8) x,s.length<=10->fG (cO.set (B+1) (.row 74 4 0 (c2 s))++[x]) B K nm (.aF 3 0 0 R.length 6) (.aF 4 0 0 D.length 5) (.aF (B+1) 0 0 ds.length 4) C tC d0 d1 d2 d3:=fun s x JB=>by
    rw[<-hc2]
    refine fG.more (hF.aDf _ r5 (by rw[yBd];omega) (by rw[yBd];omega) fun g hg=>?_)
    rcases List.mem_or_eq_of_mem_set hg with h|h
    ·exact grS g h
    ·rw[h]
     exact GH s z1 z2 (sz 3 z3) z3 .any (if h:z3=[]then .inl h else .inr (cG h)) (okZ.name JB)
   rcases CU with h|h|h|h<;>subst h
   all_goals
    have gx:=An @vB (An @rB (An @yB (An @v1 (An @r1 (An @y1 (An @t4 (An @w5 (An @q8 (An @h1 (An @KF (An @v5 (An @r5 (An @y5 (An @gl4 (An @DK (An @JA (An @j0 (@n0))))))))))))))))))
    refine aC ?_
    clear gx
    exact nF rfl (aOS _ _ (by decide))
  ·exact absurd hkd (by omega)
  ·exact absurd hkd (by omega)
  ·exact absurd hkd (by omega)
  ·exact absurd hkd (by omega)
  ·exact absurd hkd (by omega)
  ·exact absurd hkd (by omega)
 intro r hr
 suffices G:∀r,x7 B K r->kI _ _ _ _ _ _ r from⟨fun k e=>G _ (hr.out k e),fun e=>G _ (hr.on e)⟩
 clear hr r
 rintro⟨x,fr,ms,σ⟩ ⟨nm,RP,DP,SP,C,tC,d0,d1,d2,d3,hp⟩
 obtain⟨e1,e2,⟨gg,e3⟩,⟨v0,v2,vB,x8,hC,hR,hD,hS⟩⟩:=hp
 simp only at e1 e2 e3 v0 v2 vB hR hD hS
 subst e1 e2 e3
 unfold CX
 have cq:SP.cells=[SP]:=by rcases hS with h | ⟨_,v,gs,h,_⟩<;>subst h<;>rfl
 have pq:SP.plain=true:=by rcases hS with h | ⟨_,v,gs,h,_⟩<;>subst h<;>rfl
 obtain⟨n,hR⟩:=hR
 have dO:=hR
 obtain⟨vr,gr,hRP,mF,qT,wD,JC⟩:=hR
 subst hRP
 obtain⟨r0,y0⟩:=yA.1 v0
 obtain⟨r2,y2⟩:=yA.1 v2
 obtain⟨rB,yB⟩:=yA.1 vB
 rcases hD with hD | ⟨nd,⟨vd,gd,hDP,k1,k2,k3,k4⟩,hK⟩
 ·subst hD
  refine kI.normal ?_
  have gx:=An @v0 (An @r0 (An @y0 (An @v2 (An @r2 (@y2)))))
  refine aC ?_
  clear gx
  obtain⟨σ2,hs2⟩:=gn (σ.set 2 (.box (.agg [.str nm,.aF 3 vr 0 n 6,.slice 0 [] .full,.slice 5 (C.map Em.aP.U) tC])))
  rw[hs2]
  have z2:σ2[2]?=some (.box (.agg [.str nm,.aF 3 vr 0 n 6,.slice 0 [] .full,.slice 5 (C.map Em.aP.U) tC])):=by rw[<-hs2];exact yAj r2
  obtain⟨s2,x2⟩:=yA.1 z2
  obtain⟨o,mK,jV⟩:=zZ (σ:=σ2) (nm:=nm) (RP:=.aF 3 vr 0 n 6) (DP:=.slice 0 [] .full) (C:=C) (tC:=tC) hC ⟨n,dO.dH (by rw[<-hs2];exact yAd (by decide))⟩ ⟨[],by simp,by simp,fun K=>JD 5 0 σ2 (K+4) .full⟩
  refine⟨_,σ2,?_,o,mK,jV⟩
  simp[fR,z2]
 ·subst hDP
  obtain⟨cs,hcs⟩:=gn (gd.flatten)
  rw[hcs]at k1
  have hlen:=oH (sz:=5) gd fun g h=>(k4 g h).1
  rw[hcs]at hlen
  have gl:K*5+5<=cs.length:=by omega
  have xk:lT prog 33 (.aF 4 vd 0 nd 5) (.int .i64 K)=some (.dQ 4 vd (K*5)):=by
   simp[mT,hK]
  have hfill:=zY (sz:=5) (new:=[.str d0,.bool d1,.int .i64 d2,.int .i64 d3,SP]) (j:=0) (by simp) gd K (by omega) fun g h=>(k4 g h).1
  have hone:cX gd[K] 0 [.str d0,.bool d1,.int .i64 d2,.int .i64 d3,SP]=[.str d0,.bool d1,.int .i64 d2,.int .i64 d3,SP]:=by
   have:(gd[K]).length=5:=(k4 _ (yAm (by omega))).1
   simp[cX,this]
  rw[hone,hcs]at hfill
  obtain⟨xR,nG⟩:=gn ((gd.set K [.str d0,.bool d1,.int .i64 d2,.int .i64 d3,SP]).flatten)
  rw[nG]at hfill
  simp only[cX,Nat.add_zero,List.length_cons,List.length_nil,yAp,Nat.reduceAdd,yAi,List.cons_append,List.nil_append]at hfill
  have p0:=pq
  have q0:=cq
  unfold PD.plain at pq
  unfold PD.cells at cq
  have hKi:(K:Int)<(nd:Int):=by omega
  obtain⟨l4,y4⟩:=yA.1 k1
  obtain⟨σ1,hs1⟩:=gn (σ.set 4 (.row 71 5 vd xR))
  have m0:σ1[0]?=some (.box (.agg [.str nm,.aF 3 vr 0 n 6,.aF 4 vd 0 nd 5,.slice 5 (C.map Em.aP.U) tC])):=by rw[<-hs1,yAd (by decide)];exact v0
  have m2:σ1[2]?=some (.box (.agg [.str [],.slice 0 [] .full,.slice 0 [] .full,.slice 0 [] .full])):=by rw[<-hs1,yAd (by decide)];exact v2
  obtain⟨a0,b0⟩:=yA.1 m0
  obtain⟨a2,b2⟩:=yA.1 m2
  refine kI.normal ?_
  have gx:=An @v0 (An @r0 (An @y0 (An @v2 (An @r2 (An @y2 (An @hKi (An @hK (An @xk (An @vB (An @rB (An @yB (An @pq (An @cq (An @gl (An @k1 (An @l4 (An @y4 (An @hfill (An @hs1 (An @m0 (An @m2 (An @a0 (An @b0 (An @a2 (@b2)))))))))))))))))))))))))
  refine aC ?_
  clear gx
  obtain⟨σ2,hs2⟩:=gn (σ1.set 2 (.box (.agg [.str nm,.aF 3 vr 0 n 6,.aF 4 vd 0 nd 5,.slice 5 (C.map Em.aP.U) tC])))
  rw[hs2]
  have z2:σ2[2]?=some (.box (.agg [.str nm,.aF 3 vr 0 n 6,.aF 4 vd 0 nd 5,.slice 5 (C.map Em.aP.U) tC])):=by rw[<-hs2];exact yAj a2
  obtain⟨s2,x2⟩:=yA.1 z2
  have hk:∀i,i≠2->i≠4->σ2[i]?=σ[i]?:=fun i h1 h2=>by rw[<-hs2,yAd (Ne.symm h1),<-hs1,yAd (Ne.symm h2)]
  have z4:σ2[4]?=some (.row 71 5 vd (gd.set K [.str d0,.bool d1,.int .i64 d2,.int .i64 d3,SP]).flatten):=by
   rw[<-hs2,yAd (by decide),<-hs1,nG]
   exact yAj l4
  obtain⟨o,mK,jV⟩:=zZ (σ:=σ2) (nm:=nm) (RP:=.aF 3 vr 0 n 6) (DP:=.aF 4 vd 0 nd 5) (C:=C) (tC:=tC) hC ⟨n,dO.dH (hk 3 (by decide) (by decide))⟩
   (OF (B:=B) z4 k2 hK k3 k4 ⟨hC.2.2.2.1,hC.2.2.2.2⟩ (hS.imp id fun⟨n,h⟩=>⟨n,h.dH (hk (B+1) (by omega) (by omega))⟩))
  refine⟨_,σ2,?_,o,mK,jV⟩
  simp[fR,z2]
end
end Go.Kz
