/-
  Part E1 of the way: an interpreter over pure data, its soundness, walks through functions.
-/
import Derived.Test.YtefkonhamghgfaaGreatDoorD9
import Derived.Test.YtefkonhamghgfaaGreatDoorP4
import Derived.Test.YtefkonhamghgfaaGreatDoorD8
import Derived.Test.YtefkonhamghgfaaGreatDoorD2
import Derived.Test.YtefkonhamghgfaaGreatDoorDB
set_option linter.all false

set_option maxHeartbeats 40000000
open Go.Proofs.Tryz
noncomputable section
namespace Go.Kz
open Go Go.Proofs
set_option maxRecDepth 100000
section
def dJ(τ σ:List aB):Prop:=τ.length<=σ.length/\∀i,i<τ.length->σ[i]?=τ[i]?
theorem dJ.refl(τ:List aB):dJ τ τ:=⟨yAk _,fun _ _=>rfl⟩
theorem dJ.trans{τ σ ρ:List aB}(h:dJ τ σ)(k:dJ σ ρ):dJ τ ρ:=⟨Nat.le_trans h.1 k.1,fun i hi=>(k.2 i (Nat.lt_of_lt_of_le hi h.1)).trans (h.2 i hi)⟩
theorem dJ.app(τ ρ:List aB):dJ τ (τ++ρ):=⟨by simp,fun i hi=>yAg hi⟩
theorem dJ.at{τ σ:List aB}(h:dJ τ σ){i:Nat}{x:aB}(hx:τ[i]?=some x):σ[i]?=some x:=(h.2 i (yA.1 hx).1).trans hx
def rD(σ:List aB)(k:Nat)(pJ:PD)(zK:Nat)(K:List Int)(tK:Tok)(O:List bY)(tO:Tok)(pP pQ:PD):Prop:=σ[k]?=some (.box (.agg [pJ,.slice zK (K.map i64.U) tK,.slice 4 (O.map Em.aT.U) tO,pP,pQ]))
theorem dJ.bx{τ σ:List aB}(h:dJ τ σ){k:Nat}{pJ:PD}{zK:Nat}{K:List Int}{tK:Tok}{O:List bY}{tO:Tok}{pP pQ:PD}(hb:rD τ k pJ zK K tK O tO pP pQ):rD σ k pJ zK K tK O tO pP pQ:=h.at hb
def lI(P:Program)(E:aD)(f:FuncId):Nat->List PD->List aB->Option (PD×List aB):=fun fl args σ=>match yD P E f fl args σ with|some r=>some (r.1.strip,r.2)|none=>none
theorem aE.CM{P:Program}{E:aD}(hE:aE P E)(hP:P.follows .mixedOrders=true)(f:FuncId):aE P (E.add f (lI P E f)):=
 hE.aDP hP fun fl args σ p σ' h c vs _ hv=>by
  unfold lI at h
  split at h
  rotate_left
  ·cases h
  rename_i r hr
  simp only[yAb,yAc]at h
  obtain⟨rfl,rfl⟩:=h
  unfold yD at hr
  split at hr
  rotate_left
  ·cases hr
  rename_i hx
  simp only[yAb]at hr
  have h1:=(Classical.choose_spec hx).1
  rw[hr]at h1
  exact⟨args,r.1,hv,h1,fun _ _ h=>h.strip⟩
theorem aI.eg{P:Program}{E E0:aD}(hU:aI E){f:FuncId}:aI (E.add f (lI P E0 f)):=hU.other fun args p h=>by
 unfold lI yD at h
 rw[dif_neg (fun hx=>hx.choose_spec.2 rfl)]at h
 cases h
theorem aN.eg{P:Program}{E:aD}{f:FuncId}{fl:Nat}{args:List PD}{σ σ':List aB}{p:PD}(h:aN P E fl (.inl f) args σ (fun q ρ=>q=p/\ρ=σ'))(kJ:σ≠[]):lI P E f fl args σ=some (p.strip,σ'):=by
 obtain⟨q,ρ,h1,rfl,rfl⟩:=h.es kJ
 unfold lI
 rw[h1]
theorem KH{P:Program}{E E0:aD}{f:FuncId}{args:List PD}{σ τ:List aB}{p:PD}(hE:E f=some (lI P E0 f))(h:∀fl,fl<=σ.length->aN P E0 fl (.inl f) args σ (fun q ρ=>q=p/\ρ=σ++τ))(kJ:σ≠[]):pT E 0 (.inl f) args σ=some (p.strip,σ++τ):=by
 have e:∀fl,fl<=σ.length->gE E fl (.inl f) args σ=some (p.strip,σ++τ):=fun fl hf=>by simp only[gE,hE,(h fl hf).eg kJ]
 unfold pT
 simp only[e 0 (yBf _)]
 rw[if_pos ⟨e _ (by omega),by simp⟩]
def zP:Nat->List PD->List aB->Option (PD×List aB):=fun _ args σ=>match args with
 | [.slice _ [] _]=>some (.slice 0 [] .full,σ)
 |_=>none
theorem DN(k:Nat):eA prog .eql 50 (.ptr k 0) .eN=some (.bool false):=by rfl
variable{E E1 E2:aD}(hU:aI E)
include hU
theorem aOT(h0:E 25=none)(fl:Nat){τ:List aB}{k:Nat}{pJ:PD}{zK:Nat}{K:List Int}{tK:Tok}{O:List bY}{tO:Tok}{pP pQ:PD}(hb:rD τ k pJ zK K tK O tO pP pQ) :
  aN prog E fl (.inl 25) [.ptr k 0] τ (fun p σ=>p=.int .i64 K.length/\σ=τ++[]):=by
 unfold rD at hb
 obtain⟨w,z⟩:=yA.1 hb
 apply aN.aK h0 func25 rfl
 focus(simp[show Tryz.f25.ntmps=_ from rfl,List.replicate];rfl)
 have gx:=An @DN (An @hb (An @w (@z)))
 refine aC ?_
 clear gx
 exact⟨_,_,rfl,rfl,by simp⟩
theorem aO3(h0:E 59=none)(fl:Nat){τ:List aB}{k:Nat}{pJ:PD}{zK:Nat}{K:List Int}{tK:Tok}{O:List bY}{tO:Tok}{pP pQ:PD}(hb:rD τ k pJ zK K tK O tO pP pQ)(n:Nat)(hn:O.length=n+1)(hl:n<=1000000)(o:bY)(ho:O[n]?=some o)(hfl:fl<=τ.length) :
  aN prog E fl (.inl 59) [.ptr k 0] τ (fun p σ=>p=Em.aT.U o/\σ=τ++[.box (Em.aT.U o)]):=by
 unfold rD at hb
 have hx:(O.map Em.aT.U)[n]?=some (Em.aT.U o):=by rw[yAo,ho];rfl
 obtain⟨xs,hxs⟩:=gn (O.map Em.aT.U)
 have hlen:xs.length=n+1:=by rw[<-hxs,yAe];exact hn
 rw[hxs]at hb hx
 have hn0:¬xs=[]:=fun e=>by rw[e]at hlen;cases hlen
 have hs:IntKind.i64.wrap (((n+1:Nat):Int)-1)=n:=by rw[IntKind.wrap_i64];omega
 have hs':IntKind.i64.wrap ((n:Int)+1-1)=n:=by rw[IntKind.wrap_i64];omega
 have e1:(n:Int)+1-1=n:=by omega
 have es:∀X Y,(τ++[aB.box X]).set τ.length (.box Y)=τ++[.box Y]:=fun X Y=>by simp
 have cY:∀X:aB,(τ++[X])[τ.length]?=some X:=fun X=>by simp
 have hbx:∀X:List aB,(τ++X)[k]?=some (.box (.agg [pJ,.slice zK (K.map i64.U) tK,.slice 4 xs tO,pP,pQ])):=fun X=>by rw[yAg (yA.1 hb).1];exact hb
 have hw:∀X:List aB,∃w:k<(τ++X).length,(τ++X)[k]=.box (.agg [pJ,.slice zK (K.map i64.U) tK,.slice 4 xs tO,pP,pQ]):=fun X=>yA.1 (hbx X)
 obtain⟨w,z⟩:=hw [.box (.agg [.str [],.slice 0 [] .full,.slice 0 [] .full,.slice 0 [] .full])]
 obtain⟨on,rs,ds,cs⟩:=o
 simp only[fH,bJ]at hx
 simp only[fH,bJ]
 obtain⟨v,y⟩:=yA.1 hx
 apply aN.aK h0 func59 rfl
 focus(simp[show Tryz.f59.ntmps=_ from rfl,List.replicate];rfl)
 have gx:=An @DN (An @hfl (An @hbx (An @w (An @z (An @hlen (An @hs (An @hs' (An @e1 (An @hx (An @v (An @y (An @hn0 (An @es (@cY))))))))))))))
 refine aC ?_
 clear gx
 exact⟨.agg [.str on,.slice (sz 6 rs) (rs.map Em.aR.U) .any,.slice (sz 5 ds) (ds.map Em.div.U) .any,.slice (sz 5 cs) (cs.map Em.aP.U) .any],τ++[.box (.agg [.str on,.slice (sz 6 rs) (rs.map Em.aR.U) .any,.slice (sz 5 ds) (ds.map Em.div.U) .any,.slice (sz 5 cs) (cs.map Em.aP.U) .any])],by simp[fR],rfl,rfl⟩
theorem aOV(h0:E 26=none)(h1:E 59=some (lI prog E1 59))(h2:E 63=some CL)(U1:aI E1)(h10:E1 59=none)(fl:Nat){τ:List aB}{k:Nat}{pJ:PD}{zK:Nat}{K:List Int}{tK:Tok}{O:List bY}{tO:Tok}{pP pQ:PD}(hb:rD τ k pJ zK K tK O tO pP pQ)(n:Nat)(hn:O.length=n+1)(hl:n<=1000000)(o:bY)(ho:O[n]?=some o)(hok:pM o)(hlen:(aW o).length<=1000000000)(hfl:fl<=τ.length) :
  aN prog E fl (.inl 26) [.ptr k 0] τ (fun p σ=>p=Em.aT.U o/\σ=τ++[.box (Em.aT.U o),.box (Em.aT.U o)]):=by
 have k1:=(aO3 U1 h10 fl ((dJ.app τ [aB.box (.agg [.str [],.slice 0 [] .full,.slice 0 [] .full,.slice 0 [] .full])]).bx hb) n hn hl o ho (by rw[yAa];omega)).eg (by simp)
 have k2:=fun σ=>aEn hok hlen fl σ
 rw[Em.aT.str o,yAi]at k1
 have hj:∀X Y:aB,(τ++[X,Y])[τ.length]?=some X:=fun X Y=>by simp
 have hj2:∀X Y Z:aB,(τ++[X,Y]).set τ.length Z=τ++[Z,Y]:=fun X Y Z=>by simp
 obtain⟨on,rs,ds,cs⟩:=o
 simp only[fH,bJ,List.cons_append,List.nil_append]at k1 k2
 simp only[fH,bJ]
 apply aN.aK h0 func26 rfl
 focus(simp[show Tryz.f26.ntmps=_ from rfl,List.replicate];rfl)
 have gx:=An @DN (An @hfl (An @h1 (An @k1 (An @h2 (An @k2 (An @hj (@hj2)))))))
 refine aC ?_
 clear gx
 exact⟨.agg [.str on,.slice (sz 6 rs) (rs.map Em.aR.U) .any,.slice (sz 5 ds) (ds.map Em.div.U) .any,.slice (sz 5 cs) (cs.map Em.aP.U) .any],τ++[.box (.agg [.str on,.slice (sz 6 rs) (rs.map Em.aR.U) .any,.slice (sz 5 ds) (ds.map Em.div.U) .any,.slice (sz 5 cs) (cs.map Em.aP.U) .any]),.box (.agg [.str on,.slice (sz 6 rs) (rs.map Em.aR.U) .any,.slice (sz 5 ds) (ds.map Em.div.U) .any,.slice (sz 5 cs) (cs.map Em.aP.U) .any])],by simp[fR],rfl,rfl⟩
theorem aOU(h0:E 55=none)(fl:Nat)(h1:E 89=some zP){τ:List aB}{k:Nat}{pJ:PD}{zK:Nat}{tK:Tok}{O:List bY}{tO:Tok}{pP pQ:PD}(hb:rD τ k pJ zK [] tK O tO pP pQ) :
  aN prog E fl (.inl 55) [.ptr k 0] τ (fun p σ=>p=.slice 0 [] .full/\σ=τ++[]):=by
 unfold rD at hb
 obtain⟨w,z⟩:=yA.1 hb
 have hC:∀σ k t,zP fl [.slice k [] t] σ=some (.slice 0 [] .full,σ):=fun σ k t=>rfl
 apply aN.aK h0 func55 rfl
 focus(simp[show Tryz.f55.ntmps=_ from rfl,List.replicate];rfl)
 have gx:=An @DN (An @hb (An @w (An @z (An @h1 (@hC)))))
 refine aC ?_
 clear gx
 exact⟨_,_,rfl,rfl,by simp⟩
theorem aMg(h0:E 57=none)(h1:E 18=some (lI prog E1 18))(U1:aI E1)(h10:E1 18=none)(fl:Nat){τ:List aB}{k j v:Nat}{J:List UInt8}{zK:Nat}{K:List Int}{tK:Tok}{O:List bY}{tO:Tok}{pP pQ:PD}(hb:rD τ k (.aF j v 0 J.length 1) zK K tK O tO pP pQ)
  (hJ:τ[j]?=some (.row 5 1 v (aG J))) (hn:J≠[]) (hl:J.length<=1000000000) :
  aN prog E fl (.inl 57) [.ptr k 0] τ (fun p σ=>p=.aF τ.length 0 0 J.length 1/\σ=τ++[.row 5 1 0 (aG J)]):=by
 unfold rD at hb
 obtain⟨w,z⟩:=yA.1 hb
 have k1:=(aDb U1 h10 fl J hn hl (.aF j v 0 J.length 1) τ (.inr ⟨j,v,rfl,hJ⟩)).eg (fun e=>by rw[e]at w;exact absurd w (Nat.not_lt_zero _))
 replace k1:=k1.trans (show _=some (PD.aF τ.length 0 0 J.length 1,τ++[.row 5 1 0 (aG J)])from rfl)
 apply aN.aK h0 func57 rfl
 focus(simp[show Tryz.f57.ntmps=_ from rfl,List.replicate];rfl)
 have gx:=An @DN (An @hb (An @w (An @z (An @h1 (@k1)))))
 refine aC ?_
 clear gx
 exact⟨_,_,rfl,rfl,rfl⟩
theorem aMd(h0:E 15=none)(h1:E 10=some CB)(h2:E 52=some (aO prog E1 52))(U1:aI E1)(g0:E1 52=none)(g1:E1 51=some CJ)(g2:E1 87=some (fV 5 xX))(g3:E1 63=some CL)(o:bY)(hok:pL o)(ho:jU o=0->pM o/\(aW o).length<=1000000)(τ:List aB)(iV:τ≠[]) :
  aN prog E 0 (.inl 15) [Em.aT.U o] τ (fun p σ=>dJ τ σ/\((jU o≠0/\p=.aH [.eN,.int .i64 (jU o)])\/(jU o=0/\∃k,p=.aH [.ptr k 0,.int .i64 0]/\CO σ k o))):=by
 have kC:=fun σ=>NV hok 0 σ
 by_cases he:jU o=0
 ·obtain⟨q1,q2⟩:=ho he
  obtain⟨p,σ,k1,k,rfl,hk,hN,hl,hf⟩:=(aO4 U1 g0 g1 g2 g3 o q1 q2 (τ++[.box (Em.aT.U o)])).st (by simp)
  have gr:dJ τ σ:=(dJ.app τ [.box (Em.aT.U o)]).trans ⟨hl,hf⟩
  rw[he]at kC
  obtain⟨on,rs,ds,cs⟩:=o
  simp only[fH,bJ]at kC k1
  simp only[fH,bJ]
  replace k1:=k1.trans (show _=some (PD.ptr k 0,σ)from rfl)
  apply aN.aK h0 func15 rfl
  focus(simp[show Tryz.f15.ntmps=_ from rfl,List.replicate];rfl)
  have gx:=An @h1 (An @kC (An @h2 (@k1)))
  refine aC ?_
  clear gx
  exact⟨_,_,rfl,gr,.inr ⟨he,k,rfl,hN⟩⟩
 ·obtain⟨e,ES⟩:=gn (jU o)
  rw[ES]at he kC ⊢
  obtain⟨on,rs,ds,cs⟩:=o
  simp only[fH,bJ]at kC
  simp only[fH,bJ]
  apply aN.aK h0 func15 rfl
  focus(simp[show Tryz.f15.ntmps=_ from rfl,List.replicate];rfl)
  have gx:=An @h1 (An @kC (@he))
  refine aC ?_
  clear gx
  exact⟨_,_,rfl,dJ.app _ _,.inl ⟨he,rfl⟩⟩
end
section
theorem xZ{τ:List aB}{i:Nat}{x:aB}(h:τ[i]?=some x)(ρ:List aB):(τ++ρ)[i]?=some x:=(dJ.app τ ρ).at h
variable{E E1:aD}(hU:aI E)
include hU
theorem aLM(h0:E 48=none)(h1:E 54=some (mB eD wV))(a b:bM)(hx:s9 a)(hy:s9 b):aS prog E 48 [Em.aR.U a,Em.aR.U b] (Em.bool.U (decide (a=b))):=by
 obtain⟨a0,a1,a2,a3,a4,a5⟩:=a
 obtain⟨b0,b1,b2,b3,b4,b5⟩:=b
 simp only[vT,bJ]
 apply aS.aK h0 func48 rfl
 focus(simp[show Tryz.f48.ntmps=_ from rfl,List.replicate];rfl)
 by_cases e0:a0=b0
 rotate_left
 ·have f0:(a0==b0)=false:=by simpa using e0
  have gx:=An @h1 (An @e0 (@f0))
  refine aC ?_
  clear gx
  simp(disch:=first|omega|(simp;done)|(simp;omega)) [yAu,bM.mk.injEq,e0]<;>try rfl
 by_cases e1:a1=b1
 rotate_left
 ·have f1:(a1==b1)=false:=by simpa using e1
  have gx:=An @h1 (An @e0 (An @e1 (@f1)))
  refine aC ?_
  clear gx
  simp(disch:=first|omega|(simp;done)|(simp;omega)) [yAu,bM.mk.injEq,e1]<;>try rfl
 by_cases e2:a2=b2
 rotate_left
 ·have gx:=An @h1 (An @e0 (An @e1 (@e2)))
  refine aC ?_
  clear gx
  simp(disch:=first|omega|(simp;done)|(simp;omega)) [yAu,bM.mk.injEq,e2]<;>try rfl
 by_cases e3:a3=b3
 rotate_left
 ·have gx:=An @h1 (An @e0 (An @e1 (An @e2 (@e3))))
  refine aC ?_
  clear gx
  simp(disch:=first|omega|(simp;done)|(simp;omega)) [yAu,bM.mk.injEq,e3]<;>try rfl
 by_cases e4:a4=b4
 rotate_left
 ·have gx:=An @h1 (An @e0 (An @e1 (An @e2 (An @e3 (@e4)))))
  refine aC ?_
  clear gx
  simp(disch:=first|omega|(simp;done)|(simp;omega)) [yAu,bM.mk.injEq,e4]<;>try rfl
 have l5:=fun fl σ=>wX (a:=eD) (R:=wV) (x:=a5) (y:=b5) (hx) (hy) fl σ
 simp only[bJ]at l5
 obtain⟨B5,hB5⟩:∃B,decide (a5=b5)=B:=⟨_,rfl⟩
 rw[hB5]at l5
 have gx:=An @h1 (An @e0 (An @e1 (An @e2 (An @e3 (An @e4 (@l5))))))
 refine aC ?_
 clear gx
 simp(disch:=first|omega|(simp;done)|(simp;omega)) [yAu,bM.mk.injEq,e0,e1,e2,e3,e4,hB5]<;>try rfl
theorem aLQ(h0:E 41=none)(h1:E 42=some (mB iE GZ))(a b:fY)(hx:yL a)(hy:yL b):aS prog E 41 [Em.bL.U a,Em.bL.U b] (Em.bool.U (decide (a=b))):=by
 obtain⟨a0,a1,a2⟩:=a
 obtain⟨b0,b1,b2⟩:=b
 simp only[GY,bJ]
 apply aS.aK h0 func41 rfl
 focus(simp[show Tryz.f41.ntmps=_ from rfl,List.replicate];rfl)
 by_cases e0:a0=b0
 rotate_left
 ·have gx:=An @h1 (@e0)
  refine aC ?_
  clear gx
  simp(disch:=first|omega|(simp;done)|(simp;omega)) [yAu,fY.mk.injEq,e0]<;>try rfl
 by_cases e1:a1=b1
 rotate_left
 ·have gx:=An @h1 (An @e0 (@e1))
  refine aC ?_
  clear gx
  simp(disch:=first|omega|(simp;done)|(simp;omega)) [yAu,fY.mk.injEq,e1]<;>try rfl
 have l2:=fun fl σ=>wX (a:=iE) (R:=GZ) (x:=a2) (y:=b2) (hx) (hy) fl σ
 simp only[bJ]at l2
 obtain⟨B2,eU⟩:∃B,decide (a2=b2)=B:=⟨_,rfl⟩
 rw[eU]at l2
 have gx:=An @h1 (An @e0 (An @e1 (@l2)))
 refine aC ?_
 clear gx
 simp(disch:=first|omega|(simp;done)|(simp;omega)) [yAu,fY.mk.injEq,e0,e1,eU]<;>try rfl
theorem aLX(h0:E 43=none)(h1:E 44=some (A4 jA KZ 41))(τ:List aB)(A:Nat)(hA:τ[A]?=some (.box (.func 41 [])))(a b:dG)(hx:wW a)(hy:wW b):aN prog E 0 (.inl 43) [Em.stop.U a,Em.stop.U b,.ptr A 0] τ (fun p σ=>p=.bool (decide (a=b))/\dJ τ σ):=by
 obtain⟨a0,a1,a2,a3⟩:=a
 obtain⟨b0,b1,b2,b3⟩:=b
 simp only[vU,bJ]
 have j0:∀x y:aB,(τ++[x,y])[τ.length]?=some x:=fun x y=>by simp
 have j1:∀x y:aB,(τ++[x,y])[τ.length+1]?=some y:=fun x y=>by simp
 have c0:∀x y:aB,(τ++[x,y])[A]?=_:=fun x y=>xZ hA [x,y]
 obtain⟨w,z⟩:=yA.1 (c0 (.box (.agg [.str a0,.int .i64 a1,.int .i64 a2,.slice (sz 3 a3) (a3.map Em.bL.U) .any])) (.box (.agg [.str b0,.int .i64 b1,.int .i64 b2,.slice (sz 3 b3) (b3.map Em.bL.U) .any])))
 obtain⟨w0,z0⟩:=yA.1 (j0 (.box (.agg [.str a0,.int .i64 a1,.int .i64 a2,.slice (sz 3 a3) (a3.map Em.bL.U) .any])) (.box (.agg [.str b0,.int .i64 b1,.int .i64 b2,.slice (sz 3 b3) (b3.map Em.bL.U) .any])))
 obtain⟨w1,z1⟩:=yA.1 (j1 (.box (.agg [.str a0,.int .i64 a1,.int .i64 a2,.slice (sz 3 a3) (a3.map Em.bL.U) .any])) (.box (.agg [.str b0,.int .i64 b1,.int .i64 b2,.slice (sz 3 b3) (b3.map Em.bL.U) .any])))
 apply aN.aK h0 func43 rfl
 focus(simp[show Tryz.f43.ntmps=_ from rfl,List.replicate];rfl)
 by_cases e0:a0=b0
 rotate_left
 ·have f0:(a0==b0)=false:=by simpa using e0
  have gx:=An @h1 (An @j0 (An @j1 (An @c0 (An @w (An @z (An @w0 (An @z0 (An @w1 (An @z1 (An @e0 (@f0)))))))))))
  refine aC ?_
  clear gx
  exact⟨_,_,rfl,by simp[dG.mk.injEq,e0],dJ.app _ _⟩
 by_cases e1:a1=b1
 rotate_left
 ·have gx:=An @h1 (An @j0 (An @j1 (An @c0 (An @w (An @z (An @w0 (An @z0 (An @w1 (An @z1 (An @e0 (@e1)))))))))))
  refine aC ?_
  clear gx
  exact⟨_,_,rfl,by simp[dG.mk.injEq,e1],dJ.app _ _⟩
 by_cases e2:a2=b2
 rotate_left
 ·have gx:=An @h1 (An @j0 (An @j1 (An @c0 (An @w (An @z (An @w0 (An @z0 (An @w1 (An @z1 (An @e0 (An @e1 (@e2))))))))))))
  refine aC ?_
  clear gx
  exact⟨_,_,rfl,by simp[dG.mk.injEq,e2],dJ.app _ _⟩
 have l3:=fun fl σ=>wX (a:=jA) (R:=KZ) (x:=a3) (y:=b3) hx hy fl σ
 simp only[bJ]at l3
 obtain⟨B4,x8⟩:∃B,decide (a3=b3)=B:=⟨_,rfl⟩
 rw[x8]at l3
 have gx:=An @h1 (An @G3 (An @j0 (An @j1 (An @c0 (An @w (An @z (An @w0 (An @z0 (An @w1 (An @z1 (An @e0 (An @e1 (An @e2 (@l3))))))))))))))
 refine aC ?_
 clear gx
 exact⟨_,_,rfl,by rw[<-x8];simp[dG.mk.injEq,e0,e1,e2],dJ.app _ _⟩
theorem aLY(h0:E 46=none)(h1:E 43=some (aO prog E1 43))(H1:∀(τ:List aB) (A:Nat) (hA:τ[A]?=some (.box (.func 41 []))) (a b:dG) (hx:wW a) (hy:wW b),aN prog E1 0 (.inl 43) [Em.stop.U a,Em.stop.U b,.ptr A 0] τ (fun p σ=>p=.bool (decide (a=b))/\dJ τ σ))(τ:List aB)(A:Nat)(hA:τ[A]?=some (.box (.func 41 [])))(l r:List dG)(hl:G1 l)(hr:G1 r) :
  aN prog E 0 (.inl 46) [j6.U l,j6.U r,.func 43 [.ptr A 0]] τ (fun p σ=>p=.bool (decide (l=r))/\dJ τ σ):=by
 have uG:=hl.1
 have mF:=hr.1
 apply aN.aK h0 func46 rfl
 focus(simp[show Tryz.f46.ntmps=_ from rfl,List.replicate];rfl)
 by_cases hq:l.length=r.length
 ·have eC:(l.length:Int)=(r.length:Int):=by omega
  obtain⟨Bq,hBq⟩:∃B,decide (l=r)=B:=⟨_,rfl⟩
  rw[hBq]
  have gx:=An @hq (@eC)
  refine aC ?_
  clear gx
  refine Wp.cJ (fun m fr σ=>∃(i:Nat) (σ1:List aB),∃gg:Nat->PD,(i+m=l.length/\decide (l.drop i=r.drop i)=Bq/\dJ τ σ1)/\fr=[j6.U l,j6.U r,.func 43 [.ptr A 0],gg 3,gg 4,gg 5,.bool false,gg 7,gg 8,gg 9,j6.U l,gg 11,gg 12,gg 13,gg 14,j6.U l,.int .i64 l.length,.int .i64 i,gg 18,gg 19,gg 20,gg 21,gg 22,gg 23,gg 24,gg 25,gg 26,gg 27,gg 28,gg 29,gg 30,gg 31]/\σ=σ1) ?_ (l.length) (by refine⟨0,τ,?_⟩;exact cW (⟨by omega,hBq,dJ.refl τ⟩) (by(first|rfl|(simp[hq];repeat(first|rfl|(apply And.intro)))|(simp[hq];done))) (by(first|rfl|(simp[hq];repeat(first|rfl|(apply And.intro)))|(simp[hq];done))))
  rintro m fr σ ⟨i,σ1,gg,hI,rfl,rfl⟩
  obtain⟨hm,hs,hg⟩:=hI
  by_cases hi:i<l.length
  ·have q1:(i:Int)<(l.length:Int):=by omega
   have hir:i<r.length:=by omega
   obtain⟨a,ha⟩:=gn (l[i])
   obtain⟨b,hb⟩:=gn (r[i])
   have dT:l.drop i=a::l.drop (i+1):=by rw[yAq hi,ha]
   have hc2:r.drop i=b::r.drop (i+1):=by rw[yAq hir,hb]
   rw[dT,hc2,A5]at hs
   have j0:∀x y:aB,(σ++[x,y])[σ.length]?=some x:=fun x y=>by simp
   have j1:∀x y:aB,(σ++[x,y])[σ.length+1]?=some y:=fun x y=>by simp
   have q2:(i:Int)<(r.length:Int):=by omega
   obtain⟨p,σ2,k1,rfl,g2⟩:=(H1 (σ++[.box (Em.stop.U a),.box (Em.stop.U b)]) A (xZ (hg.at hA) _) a b (hl.2 a (ha▸yAm hi)) (hr.2 b (hb▸yAm hir))).st (by simp)
   replace k1:=k1.trans (show _=some (PD.bool (decide (a=b)),σ2)from rfl)
   have zE:=(hg.trans (dJ.app _ _)).trans g2
   by_cases hab:a=b
   rotate_left
   ·rw[decide_eq_false hab,Bool.false_and]at hs
    rw[decide_eq_false hab]at k1
    simp only[vU,bJ]at k1
    have gx:=An @q1 (An @q2 (An @hi (An @hir (An @ha (An @hb (An @j0 (@j1)))))))
    refine aC ?_
    clear gx
    first|refine Wp.seq ?_|skip
    apply Wp.jQ
    have gx:=An @h1 (An @k1 (An @j0 (@j1)))
    refine iN ?_
    clear gx
    apply SQ.nil
    have gx:=@q1
    refine aC ?_
    clear gx
    refine⟨_,_,rfl,?_,zE⟩
    rw[<-hs]
    rfl
   ·rw[decide_eq_true hab,Bool.true_and]at hs
    rw[decide_eq_true hab]at k1
    simp only[vU,bJ]at k1
    have gx:=An @q1 (An @q2 (An @hi (An @hir (An @ha (An @hb (An @j0 (@j1)))))))
    refine aC ?_
    clear gx
    first|refine Wp.seq ?_|skip
    apply Wp.jQ
    have gx:=An @h1 (An @k1 (An @j0 (@j1)))
    refine iN ?_
    clear gx
    apply SQ.nil
    have gx:=@q1
    refine aC ?_
    clear gx
    refine bP.normal (m-1) (by omega) (by refine⟨i+1,σ2,?_⟩;exact bW (⟨by omega,hs,zE⟩))
  ·have q1:¬(i:Int)<(l.length:Int):=by omega
   rw[yAs (by omega),yAs (by omega)]at hs
   have q2:¬(i:Int)<(r.length:Int):=by omega
   have gx:=An @q1 (@q2)
   refine aC ?_
   clear gx
   refine⟨_,_,rfl,?_,hg⟩
   rw[<-hs]
   rfl
 ·have eC:¬(l.length:Int)=(r.length:Int):=by omega
  have hF:=A6 hq
  have gx:=An @hq (@eC)
  refine aC ?_
  clear gx
  refine⟨_,_,rfl,?_,dJ.refl τ⟩
  rw[hF]
  rfl
theorem aLZ(h0:E 45=none)(h1:E 46=some (aO prog E1 46))(H1:∀(τ:List aB) (A:Nat) (hA:τ[A]?=some (.box (.func 41 []))) (l r:List dG) (hl:G1 l) (hr:G1 r),aN prog E1 0 (.inl 46) [j6.U l,j6.U r,.func 43 [.ptr A 0]] τ (fun p σ=>p=.bool (decide (l=r))/\dJ τ σ))(τ:List aB)(A B:Nat)(hA:τ[A]?=some (.box (.func 41 [])))(hB:τ[B]?=some (.box (.func 43 [.ptr A 0])))(a b:cU)(hx:A3 a)(hy:A3 b):aN prog E 0 (.inl 45) [Em.div.U a,Em.div.U b,.ptr B 0] τ (fun p σ=>p=.bool (decide (a=b))/\dJ τ σ):=by
 obtain⟨a0,a1,a2,a3,a4⟩:=a
 obtain⟨b0,b1,b2,b3,b4⟩:=b
 simp only[A2,bJ]
 have j0:∀x y:aB,(τ++[x,y])[τ.length]?=some x:=fun x y=>by simp
 have j1:∀x y:aB,(τ++[x,y])[τ.length+1]?=some y:=fun x y=>by simp
 have c0:∀x y:aB,(τ++[x,y])[B]?=_:=fun x y=>xZ hB [x,y]
 obtain⟨w,z⟩:=yA.1 (c0 (.box (.agg [.str a0,.bool a1,.int .i64 a2,.int .i64 a3,.slice (sz 4 a4) (a4.map Em.stop.U) .any])) (.box (.agg [.str b0,.bool b1,.int .i64 b2,.int .i64 b3,.slice (sz 4 b4) (b4.map Em.stop.U) .any])))
 obtain⟨w0,z0⟩:=yA.1 (j0 (.box (.agg [.str a0,.bool a1,.int .i64 a2,.int .i64 a3,.slice (sz 4 a4) (a4.map Em.stop.U) .any])) (.box (.agg [.str b0,.bool b1,.int .i64 b2,.int .i64 b3,.slice (sz 4 b4) (b4.map Em.stop.U) .any])))
 obtain⟨w1,z1⟩:=yA.1 (j1 (.box (.agg [.str a0,.bool a1,.int .i64 a2,.int .i64 a3,.slice (sz 4 a4) (a4.map Em.stop.U) .any])) (.box (.agg [.str b0,.bool b1,.int .i64 b2,.int .i64 b3,.slice (sz 4 b4) (b4.map Em.stop.U) .any])))
 apply aN.aK h0 func45 rfl
 focus(simp[show Tryz.f45.ntmps=_ from rfl,List.replicate];rfl)
 by_cases e0:a0=b0
 rotate_left
 ·have f0:(a0==b0)=false:=by simpa using e0
  have gx:=An @h1 (An @j0 (An @j1 (An @c0 (An @w (An @z (An @w0 (An @z0 (An @w1 (An @z1 (An @e0 (@f0)))))))))))
  refine aC ?_
  clear gx
  exact⟨_,_,rfl,by simp[cU.mk.injEq,e0],dJ.app _ _⟩
 by_cases e1:a1=b1
 rotate_left
 ·have f1:(a1==b1)=false:=by simpa using e1
  have gx:=An @h1 (An @j0 (An @j1 (An @c0 (An @w (An @z (An @w0 (An @z0 (An @w1 (An @z1 (An @e0 (An @e1 (@f1))))))))))))
  refine aC ?_
  clear gx
  exact⟨_,_,rfl,by simp[cU.mk.injEq,e1],dJ.app _ _⟩
 by_cases e2:a2=b2
 rotate_left
 ·have gx:=An @h1 (An @j0 (An @j1 (An @c0 (An @w (An @z (An @w0 (An @z0 (An @w1 (An @z1 (An @e0 (An @e1 (@e2))))))))))))
  refine aC ?_
  clear gx
  exact⟨_,_,rfl,by simp[cU.mk.injEq,e2],dJ.app _ _⟩
 by_cases e3:a3=b3
 rotate_left
 ·have gx:=An @h1 (An @j0 (An @j1 (An @c0 (An @w (An @z (An @w0 (An @z0 (An @w1 (An @z1 (An @e0 (An @e1 (An @e2 (@e3)))))))))))))
  refine aC ?_
  clear gx
  exact⟨_,_,rfl,by simp[cU.mk.injEq,e3],dJ.app _ _⟩
 subst e0 e1 e2 e3
 obtain⟨p,σ,k1,rfl,gr⟩:=(H1 (τ++[aB.box (.agg [.str a0,.bool a1,.int .i64 a2,.int .i64 a3,.slice (sz 4 a4) (a4.map Em.stop.U) .any]),aB.box (.agg [.str a0,.bool a1,.int .i64 a2,.int .i64 a3,.slice (sz 4 b4) (b4.map Em.stop.U) .any])]) A (xZ hA _) a4 b4 hx hy).st (by simp)
 obtain⟨B4,x8⟩:∃B,decide (a4=b4)=B:=⟨_,rfl⟩
 rw[x8]at k1
 replace k1:=k1.trans (show _=some (PD.bool B4,σ)from rfl)
 simp only[bJ]at k1
 have gx:=An @h1 (An @j0 (An @j1 (An @c0 (An @w (An @z (An @w0 (An @z0 (An @w1 (An @z1 (@k1))))))))))
 refine aC ?_
 clear gx
 exact⟨_,_,rfl,by rw[<-x8];simp[cU.mk.injEq],(dJ.app _ _).trans gr⟩
theorem aL0(h0:E 49=none)(h1:E 45=some (aO prog E1 45))(H1:∀(τ:List aB) (A B:Nat) (hA:τ[A]?=some (.box (.func 41 []))) (hBx:τ[B]?=some (.box (.func 43 [.ptr A 0]))) (a b:cU) (hx:A3 a) (hy:A3 b),aN prog E1 0 (.inl 45) [Em.div.U a,Em.div.U b,.ptr B 0] τ (fun p σ=>p=.bool (decide (a=b))/\dJ τ σ))(τ:List aB)(A B:Nat)(hA:τ[A]?=some (.box (.func 41 [])))(hBx:τ[B]?=some (.box (.func 43 [.ptr A 0])))(l r:List cU)(hl:G2 l)(hr:G2 r) :
  aN prog E 0 (.inl 49) [n9.U l,n9.U r,.func 45 [.ptr B 0]] τ (fun p σ=>p=.bool (decide (l=r))/\dJ τ σ):=by
 have uG:=hl.1
 have mF:=hr.1
 apply aN.aK h0 func49 rfl
 focus(simp[show Tryz.f49.ntmps=_ from rfl,List.replicate];rfl)
 by_cases hq:l.length=r.length
 ·have eC:(l.length:Int)=(r.length:Int):=by omega
  obtain⟨Bq,hBq⟩:∃B,decide (l=r)=B:=⟨_,rfl⟩
  rw[hBq]
  have gx:=An @hq (@eC)
  refine aC ?_
  clear gx
  refine Wp.cJ (fun m fr σ=>∃(i:Nat) (σ1:List aB),∃gg:Nat->PD,(i+m=l.length/\decide (l.drop i=r.drop i)=Bq/\dJ τ σ1)/\fr=[n9.U l,n9.U r,.func 45 [.ptr B 0],gg 3,gg 4,gg 5,.bool false,gg 7,gg 8,gg 9,n9.U l,gg 11,gg 12,gg 13,gg 14,n9.U l,.int .i64 l.length,.int .i64 i,gg 18,gg 19,gg 20,gg 21,gg 22,gg 23,gg 24,gg 25,gg 26,gg 27,gg 28,gg 29,gg 30,gg 31]/\σ=σ1) ?_ (l.length) (by refine⟨0,τ,?_⟩;exact cW (⟨by omega,hBq,dJ.refl τ⟩) (by(first|rfl|(simp[hq];repeat(first|rfl|(apply And.intro)))|(simp[hq];done))) (by(first|rfl|(simp[hq];repeat(first|rfl|(apply And.intro)))|(simp[hq];done))))
  rintro m fr σ ⟨i,σ1,gg,hI,rfl,rfl⟩
  obtain⟨hm,hs,hg⟩:=hI
  by_cases hi:i<l.length
  ·have q1:(i:Int)<(l.length:Int):=by omega
   have hir:i<r.length:=by omega
   obtain⟨a,ha⟩:=gn (l[i])
   obtain⟨b,hb⟩:=gn (r[i])
   have dT:l.drop i=a::l.drop (i+1):=by rw[yAq hi,ha]
   have hc2:r.drop i=b::r.drop (i+1):=by rw[yAq hir,hb]
   rw[dT,hc2,A5]at hs
   have j0:∀x y:aB,(σ++[x,y])[σ.length]?=some x:=fun x y=>by simp
   have j1:∀x y:aB,(σ++[x,y])[σ.length+1]?=some y:=fun x y=>by simp
   have q2:(i:Int)<(r.length:Int):=by omega
   obtain⟨p,σ2,k1,rfl,g2⟩:=(H1 (σ++[.box (Em.div.U a),.box (Em.div.U b)]) A B (xZ (hg.at hA) _) (xZ (hg.at hBx) _) a b (hl.2 a (ha▸yAm hi)) (hr.2 b (hb▸yAm hir))).st (by simp)
   replace k1:=k1.trans (show _=some (PD.bool (decide (a=b)),σ2)from rfl)
   have zE:=(hg.trans (dJ.app _ _)).trans g2
   by_cases hab:a=b
   rotate_left
   ·rw[decide_eq_false hab,Bool.false_and]at hs
    rw[decide_eq_false hab]at k1
    simp only[A2,bJ]at k1
    have gx:=An @q1 (An @q2 (An @hi (An @hir (An @ha (An @hb (An @j0 (@j1)))))))
    refine aC ?_
    clear gx
    first|refine Wp.seq ?_|skip
    apply Wp.jQ
    have gx:=An @h1 (An @k1 (An @j0 (@j1)))
    refine iN ?_
    clear gx
    apply SQ.nil
    have gx:=@q1
    refine aC ?_
    clear gx
    refine⟨_,_,rfl,?_,zE⟩
    rw[<-hs]
    rfl
   ·rw[decide_eq_true hab,Bool.true_and]at hs
    rw[decide_eq_true hab]at k1
    simp only[A2,bJ]at k1
    have gx:=An @q1 (An @q2 (An @hi (An @hir (An @ha (An @hb (An @j0 (@j1)))))))
    refine aC ?_
    clear gx
    first|refine Wp.seq ?_|skip
    apply Wp.jQ
    have gx:=An @h1 (An @k1 (An @j0 (@j1)))
    refine iN ?_
    clear gx
    apply SQ.nil
    have gx:=@q1
    refine aC ?_
    clear gx
    refine bP.normal (m-1) (by omega) (by refine⟨i+1,σ2,?_⟩;exact bW (⟨by omega,hs,zE⟩))
  ·have q1:¬(i:Int)<(l.length:Int):=by omega
   rw[yAs (by omega),yAs (by omega)]at hs
   have q2:¬(i:Int)<(r.length:Int):=by omega
   have gx:=An @q1 (@q2)
   refine aC ?_
   clear gx
   refine⟨_,_,rfl,?_,hg⟩
   rw[<-hs]
   rfl
 ·have eC:¬(l.length:Int)=(r.length:Int):=by omega
  have hF:=A6 hq
  have gx:=An @hq (@eC)
  refine aC ?_
  clear gx
  refine⟨_,_,rfl,?_,dJ.refl τ⟩
  rw[hF]
  rfl
end
section
variable{E E1:aD}(hU:aI E)
include hU
theorem aL2(h0:E 12=none)(h1:E 47=some (A4 aX KY 48))(h2:E 49=some (aO prog E1 49))
  (H2:∀(τ:List aB) (A B:Nat) (hA:τ[A]?=some (.box (.func 41 []))) (hB:τ[B]?=some (.box (.func 43 [.ptr A 0]))) (l r:List cU) (hl:G2 l) (hr:G2 r),aN prog E1 0 (.inl 49) [n9.U l,n9.U r,.func 45 [.ptr B 0]] τ (fun p σ=>p=.bool (decide (l=r))/\dJ τ σ))
  (h3:E 50=some (mB lA G0)) (a b:bY) (hx:nP a) (hy:nP b):aS prog E 12 [Em.aT.U a,Em.aT.U b] (Em.bool.U (decide (a=b))):=by
 obtain⟨a0,a1,a2,a3⟩:=a
 obtain⟨b0,b1,b2,b3⟩:=b
 simp only[fH,bJ]
 by_cases e0:a0=b0
 rotate_left
 ·have f0:(a0==b0)=false:=by simpa using e0
  apply aS.aK h0 func12 rfl
  focus(simp[show Tryz.f12.ntmps=_ from rfl,List.replicate];rfl)
  have gx:=An @h1 (An @h2 (An @h3 (An @G3 (An @e0 (@f0)))))
  refine aC ?_
  clear gx
  simp(disch:=first|omega|(simp;done)|(simp;omega)) [yAu,bY.mk.injEq,e0]<;>try rfl
 subst e0
 have l1:=fun fl σ=>wX (a:=aX) (R:=KY) (x:=a1) (y:=b1) (hx.1) (hy.1) fl σ
 simp only[bJ]at l1
 by_cases e1:a1=b1
 rotate_left
 ·rw[decide_eq_false e1]at l1
  apply aS.aK h0 func12 rfl
  focus(simp[show Tryz.f12.ntmps=_ from rfl,List.replicate];rfl)
  have gx:=An @h1 (An @h2 (An @h3 (An @G3 (@l1))))
  refine aC ?_
  clear gx
  simp(disch:=first|omega|(simp;done)|(simp;omega)) [yAu,bY.mk.injEq,e1]<;>try rfl
 subst e1
 rw[decide_eq_true rfl]at l1
 obtain⟨p,σ,k2,rfl,gr⟩:=(H2 [.box (.agg [.str a0,.slice (sz 6 a1) (a1.map Em.aR.U) .any,.slice (sz 5 a2) (a2.map Em.div.U) .any,.slice (sz 5 a3) (a3.map Em.aP.U) .any]),.box (.agg [.str a0,.slice (sz 6 a1) (a1.map Em.aR.U) .any,.slice (sz 5 b2) (b2.map Em.div.U) .any,.slice (sz 5 b3) (b3.map Em.aP.U) .any]),.box (.func 41 []),.box (.func 43 [.ptr 2 0])] 2 3 rfl rfl a2 b2 hx.2.1 hy.2.1).st (by simp)
 replace k2:=k2.trans (show _=some (PD.bool (decide (a2=b2)),σ)from rfl)
 simp only[bJ]at k2
 have g0:=gr.at (i:=0) rfl
 have g1:=gr.at (i:=1) rfl
 obtain⟨w0,z0⟩:=yA.1 g0
 obtain⟨w1,z1⟩:=yA.1 g1
 by_cases e2:a2=b2
 rotate_left
 ·rw[decide_eq_false e2]at k2
  apply aS.aK h0 func12 rfl
  focus(simp[show Tryz.f12.ntmps=_ from rfl,List.replicate];rfl)
  have gx:=An @h1 (An @h2 (An @h3 (An @G3 (An @l1 (@k2)))))
  refine aC ?_
  clear gx
  simp(disch:=first|omega|(simp;done)|(simp;omega)) [yAu,bY.mk.injEq,e2]<;>try rfl
 rw[decide_eq_true e2]at k2
 have l3:=fun fl σ=>wX (a:=lA) (R:=G0) (x:=a3) (y:=b3) (hx.2.2) (hy.2.2) fl σ
 simp only[bJ]at l3
 obtain⟨B3,hB3⟩:∃B,decide (a3=b3)=B:=⟨_,rfl⟩
 rw[hB3]at l3
 apply aS.aK h0 func12 rfl
 focus(simp[show Tryz.f12.ntmps=_ from rfl,List.replicate];rfl)
 have gx:=An @h1 (An @h2 (An @h3 (An @G3 (An @l1 (An @k2 (An @g0 (An @w0 (An @z0 (An @g1 (An @w1 (An @z1 (@l3))))))))))))
 refine aC ?_
 clear gx
 simp(disch:=first|omega|(simp;done)|(simp;omega)) [yAu,bY.mk.injEq,e2,hB3]<;>try rfl
end
section
def IN:Nat->List PD->List aB->Option (PD×List aB):=entry (b9 Em.aT bH fun o=>dX ((aW o).length<=1000000) (some (aW o)))
theorem aC8{o:bY}(hl:(aW o).length<=1000000)(fl:Nat)(σ:List aB):IN fl [Em.aT.U o] σ=some (bH.U (aW o),σ):=by
 have e1:=Em.dC (Em.aT.str o)
 unfold IN entry b9
 simp only[e1,fB hl]
def NS:Nat->List PD->List aB->Option (PD×List aB):=entry (fQ i64 bH bH fun k l=>dX (eG k/\l.length<=1000000) (some (iW k l)))
theorem aO0{k:Int}{l:List UInt8}(hk:eG k)(hl:l.length<=1000000)(fl:Nat)(σ:List aB):NS fl [.int .i64 k,bH.U l] σ=some (bH.U (iW k l),σ):=by
 have e1:=Em.dC (i64.str k)
 have e2:=Em.dC (bH.str l)
 have e1':i64.dec (.int .i64 k)=some k:=e1
 unfold NS entry fQ
 simp only[e1',e2,fB (show eG k/\_ from⟨hk,hl⟩)]
def xY(σ:List aB)(k:Nat)(O:List bY)(tO:Tok)(pD pB:PD)(zK:Nat)(K:List Int)(tK:Tok)(N:List (List UInt8))(tN:Tok):Prop:=σ[k]?=some (.box (.agg [.slice 4 (O.map Em.aT.U) tO,pD,pB,.slice zK (K.map i64.U) tK,.slice 1 (N.map bH.U) tN]))
theorem aO1(o:bY):gG prog 127 1 [(0,Em.aT.U o)]=some (.slice 4 [Em.aT.U o] .full):=by kernel_rfl
theorem aO2(l:List UInt8):gG prog 129 1 [(0,bH.U l)]=some (.slice 1 [bH.U l] .full):=by kernel_rfl
variable{E E1 E2:aD}(hU:aI E)
include hU
theorem aMe(h0:E 16=none)(h1:E 7=some IN)(h2:E 53=some NS)(o:bY)(hl:(aW o).length<=1000000)(τ:List aB) :
  aN prog E 0 (.inl 16) [Em.aT.U o] τ (fun p σ=>∃k tO tN,p=.ptr k 0/\dJ τ σ/\xY σ k [o] tO (.slice 0 [] .full) (.slice 0 [] .full) 0 [] .full [iW 0 (aW o)] tN):=by
 have k1:=fun σ=>aC8 hl 0 σ
 have k2:=fun σ=>aO0 (k:=0) ⟨by decide,by decide⟩ hl 0 σ
 have n1:=aO1 o
 have n2:=aO2 (iW 0 (aW o))
 obtain⟨L,hL⟩:=gn (bH.U (aW o))
 have hpl:PD.plain (bH.U (iW 0 (aW o)))=true:=rfl
 have hst:PD.strip (bH.U (iW 0 (aW o)))=bH.U (iW 0 (aW o)):=bH.str _
 unfold xY
 simp only[List.map_cons,List.map_nil]
 obtain⟨M,hM⟩:=gn (bH.U (iW 0 (aW o)))
 rw[hL]at k1 k2
 rw[hM]at k2 n2 hpl hst ⊢
 have hcl:PD.cells M=[M]:=by rw[<-hM];rfl
 unfold PD.plain at hpl
 unfold PD.cells at hcl
 clear hL hM hl
 obtain⟨on,rs,ds,cs⟩:=o
 simp only[fH,bJ]at k1 n1
 simp only[fH,bJ]
 apply aN.aK h0 func16 rfl
 focus(simp[show Tryz.f16.ntmps=_ from rfl,List.replicate];rfl)
 have gx:=An @h1 (An @k1 (An @h2 (An @k2 (An @n1 (An @n2 (An @hpl (An @hcl (@hst))))))))
 refine aC ?_
 clear gx
 exact⟨_,_,rfl,τ.length+1,.full,.full,rfl,dJ.app _ _,by simp⟩
theorem aOX(h0:E 56=none)(fl:Nat){τ:List aB}{k:Nat}{O:List bY}{tO:Tok}{pD pB:PD}{zK:Nat}{K:List Int}{tK:Tok}{N:List (List UInt8)}{tN:Tok}(hb:xY τ k O tO pD pB zK K tK N tN)(n:Nat)(hn:O.length=n+1)(hl:n<=1000000)(o:bY)(ho:O[n]?=some o)(hfl:fl<=τ.length) :
  aN prog E fl (.inl 56) [.ptr k 0] τ (fun p σ=>p=Em.aT.U o/\σ=τ++[.box (Em.aT.U o)]):=by
 unfold xY at hb
 have hx:(O.map Em.aT.U)[n]?=some (Em.aT.U o):=by rw[yAo,ho];rfl
 obtain⟨xs,hxs⟩:=gn (O.map Em.aT.U)
 have hlen:xs.length=n+1:=by rw[<-hxs,yAe];exact hn
 rw[hxs]at hb hx
 have hn0:¬xs=[]:=fun e=>by rw[e]at hlen;cases hlen
 have hs:IntKind.i64.wrap (((n+1:Nat):Int)-1)=n:=by rw[IntKind.wrap_i64];omega
 have hs':IntKind.i64.wrap ((n:Int)+1-1)=n:=by rw[IntKind.wrap_i64];omega
 have e1:(n:Int)+1-1=n:=by omega
 obtain⟨M,hM⟩:=gn (N.map bH.U)
 rw[hM]at hb
 have es:∀X Y,(τ++[aB.box X]).set τ.length (.box Y)=τ++[.box Y]:=fun X Y=>by simp
 have cY:∀X:aB,(τ++[X])[τ.length]?=some X:=fun X=>by simp
 have hbx:∀X:List aB,(τ++X)[k]?=some (.box (.agg [.slice 4 xs tO,pD,pB,.slice zK (K.map i64.U) tK,.slice 1 M tN])):=fun X=>by rw[yAg (yA.1 hb).1];exact hb
 have hw:∀X:List aB,∃w:k<(τ++X).length,(τ++X)[k]=.box (.agg [.slice 4 xs tO,pD,pB,.slice zK (K.map i64.U) tK,.slice 1 M tN]):=fun X=>yA.1 (hbx X)
 obtain⟨w,z⟩:=hw [.box (.agg [.str [],.slice 0 [] .full,.slice 0 [] .full,.slice 0 [] .full])]
 obtain⟨on,rs,ds,cs⟩:=o
 simp only[fH,bJ]at hx
 simp only[fH,bJ]
 obtain⟨v,y⟩:=yA.1 hx
 apply aN.aK h0 func56 rfl
 focus(simp[show Tryz.f56.ntmps=_ from rfl,List.replicate];rfl)
 have gx:=An @hfl (An @hbx (An @w (An @z (An @hlen (An @hs (An @hs' (An @e1 (An @hx (An @v (An @y (An @hn0 (An @es (@cY)))))))))))))
 refine aC ?_
 clear gx
 exact⟨.agg [.str on,.slice (sz 6 rs) (rs.map Em.aR.U) .any,.slice (sz 5 ds) (ds.map Em.div.U) .any,.slice (sz 5 cs) (cs.map Em.aP.U) .any],τ++[.box (.agg [.str on,.slice (sz 6 rs) (rs.map Em.aR.U) .any,.slice (sz 5 ds) (ds.map Em.div.U) .any,.slice (sz 5 cs) (cs.map Em.aP.U) .any])],by simp[fR],rfl,rfl⟩
end
section
theorem aMx{l:List UInt8}{p q:PD}{σ:List aB}(hp:mH σ p=.slice 1 (aG l) .any)(hq:mH σ q=.slice 1 (aG l) .any)(hl:l.length<=1000000)(fl:Nat):fW sC fl [p,q] σ=some (.bool true,σ):=by
 unfold fW
 simp only[List.map_cons,List.map_nil,hp,hq,PD.eM,F9,Bool.and_self,if_true]
 have e:sC [.slice 1 (aG l) .any,.slice 1 (aG l) .any]=some (.bool true):=by
  unfold sC
  simp only[zU]
  rw[fB ⟨hl,trivial,.inr trivial,trivial⟩]
 rw[e]
 rfl
variable{E E1 E2 E3 E4 E5 E6:aD}(hU:aI E)
include hU
theorem aMh(h0:E 17=none)(h1:E 25=some (lI prog E1 25))(U1:aI E1)(n1:E1 25=none)
  (h2:E 55=some (lI prog E2 55)) (U2:aI E2) (n2:E2 55=none) (m2:E2 89=some zP)
  (h3:E 54=some (mB eD wV))
  (h4:E 26=some (lI prog E3 26)) (U3:aI E3) (n3:E3 26=none) (m3:E3 59=some (lI prog E4 59)) (k3:E3 63=some CL) (U4:aI E4) (n4:E4 59=none)
  (h5:E 56=some (lI prog E5 56)) (U5:aI E5) (n5:E5 56=none)
  (h6:E 12=some (mB Em.aT nP))
  (h7:E 57=some (lI prog E6 57)) (U6:aI E6) (n6:E6 57=none)
  (H7:∀(fl:Nat) {τ:List aB} {k j v:Nat} {J:List UInt8} {zK:Nat} {K:List Int} {tK:Tok} {O:List bY} {tO:Tok} {pP pQ:PD} (hb:rD τ k (.aF j v 0 J.length 1) zK K tK O tO pP pQ) (hJ:τ[j]?=some (.row 5 1 v (aG J))) (hn:J≠[]) (hl:J.length<=1000000000),aN prog E6 fl (.inl 57) [.ptr k 0] τ (fun p σ=>p=.aF τ.length 0 0 J.length 1/\σ=τ++[.row 5 1 0 (aG J)]))
  (h8:E 58=some (fV 5 rC)) (h9:E 11=some (fW sC))
  (o:bY) (hok:pM o) (hoO:nP o) (hlen:(aW o).length<=900000) (τ:List aB) (km ks:Nat) {tO tN:Tok} (hm:xY τ km [o] tO (.slice 0 [] .full) (.slice 0 [] .full) 0 [] .full [iW 0 (aW o)] tN) (hs:CO τ ks o) :
  aN prog E 0 (.inl 17) [.ptr km 0,.ptr ks 0] τ (fun p σ=>p=.bool true/\dJ τ σ):=by
 obtain⟨j,v,tS,hb,hJ⟩:=hs
 have hel:=aEm 0 (aW o)
 have hne:=UC 0 (aW o)
 have hb:rD τ ks (.aF j v 0 (iW 0 (aW o)).length 1) 0 [] .full [o] tS (.slice 0 [] .full) (.slice 0 [] .full):=hb
 obtain⟨L,hL⟩:=gn (iW 0 (aW o))
 rw[hL]at hel hne hb hJ hm
 clear hL
 have iV:τ≠[]:=fun e=>by
  have:=(yA.1 hm).1
  rw[e]at this
  exact absurd this (Nat.not_lt_zero _)
 have a1:=KH h1 (fun fl hf=>aOT U1 n1 fl hb) iV
 have a2:=KH h2 (fun fl hf=>aOU U2 n2 fl m2 hb) iV
 have a3:=KH h4 (fun fl hf=>aOV U3 n3 m3 k3 U4 n4 fl hb 0 rfl (by omega) o rfl hok (by omega) hf) iV
 obtain⟨σ3,C1⟩:=gn (τ++[aB.box (Em.aT.U o),.box (Em.aT.U o)])
 have g3:dJ τ σ3:=C1▸dJ.app _ _
 rw[C1]at a3
 have GU:=g3.at hm
 have aOW:σ3≠[]:=fun e=>by rw[<-C1]at e;simp at e
 have a4:=KH h5 (fun fl hf=>aOX U5 n5 fl (show xY σ3 km _ _ _ _ _ _ _ _ _ from GU) 0 rfl (by omega) o rfl hf) aOW
 obtain⟨bK,O4⟩:=gn (σ3++[aB.box (Em.aT.U o)])
 have KI:dJ τ bK:=g3.trans (O4▸dJ.app _ _)
 rw[O4]at a4
 have aOY:bK≠[]:=fun e=>by rw[<-O4]at e;simp at e
 have a5:=KH h7 (fun fl hf=>H7 fl (KI.bx hb) (KI.at hJ) hne (by omega)) aOY
 have KJ:=KI.at hm
 have KL:=xZ (KI.at hm) [aB.row 5 1 0 (aG L)]
 have c1:∀fl σ,fV 5 rC fl [.slice 1 [bH.U L] tN] σ=some (.aF σ.length 0 0 L.length 1,σ++[.row 5 1 0 (aG L)]):=fun fl σ=>by
  have hstr:PD.strip (.slice 1 [bH.U L] tN)=sB.U [L]:=by
   rw[PD.lG]
   simp only[List.map_cons,List.map_nil,bH.str]
   rfl
  have:=aDG (l:=[L]) fl hstr (by simpa using hne) (by simp;omega) (by simp) σ
  simpa using this
 have c2:∀σ,pT E 0 (.inl 58) [.slice 1 [bH.U L] tN] σ=some (.aF σ.length 0 0 L.length 1,σ++[.row 5 1 0 (aG L)]):=fun σ=>kQ h8 (fun fl=>c1 fl σ)
 have q0:∀fl σ,mB eD wV fl [.slice 0 [] .any,.slice 0 [] .full] σ=some (.bool true,σ):=fun fl σ=>X3 (x:=[]) (y:=[]) (by simp[wV]) (by simp[wV]) rfl rfl fl σ
 have q1:∀σ,pT E 0 (.inl 54) [.slice 0 [] .any,.slice 0 [] .full] σ=some (.bool true,σ):=fun σ=>by
  have:=kQ (fl:=0) (σ:=σ) (τ:=[]) h3 (fun fl=>by rw[yAl];exact q0 fl σ)
  simpa using this
 have GM:=fun fl σ=>wX (a:=Em.aT) (R:=nP) hoO hoO fl σ
 rw[decide_eq_true rfl]at GM
 have q2:∀σ,pT E 0 (.inl 12) [Em.aT.U o,Em.aT.U o] σ=some (.bool true,σ):=fun σ=>by
  have:=kQ (fl:=0) (σ:=σ) (τ:=[]) h6 (fun fl=>by rw[yAl];exact GM fl σ)
  simpa using this
 have r0:∀fl (σ:List aB),fW sC fl [.aF σ.length 0 0 L.length 1,.aF (σ.length+1) 0 0 L.length 1] (σ++[.row 5 1 0 (aG L),.row 5 1 0 (aG L)])=some (.bool true,σ++[.row 5 1 0 (aG L),.row 5 1 0 (aG L)]):=fun fl σ=>
  aOZ (by simp) (by simp) (by omega) fl
 have r1:∀σ:List aB,pT E 0 (.inl 11) [.aF σ.length 0 0 L.length 1,.aF (σ.length+1) 0 0 L.length 1] (σ++[.row 5 1 0 (aG L),.row 5 1 0 (aG L)])=some (.bool true,σ++[.row 5 1 0 (aG L),.row 5 1 0 (aG L)]):=fun σ=>by
  have:=kQ (fl:=0) (σ:=σ++[.row 5 1 0 (aG L),.row 5 1 0 (aG L)]) (τ:=[]) h9 (fun fl=>by rw[yAl];exact r0 fl σ)
  simpa using this
 have gfin:∀x y,dJ τ (bK++[x,y]):=fun x y=>KI.trans (dJ.app _ _)
 unfold xY at hm
 simp only[List.map_cons,List.map_nil]at hm GU KJ KL
 obtain⟨M,hM⟩:=gn (bH.U L)
 rw[hM]at GU KJ KL hm c1 c2
 obtain⟨w,z⟩:=yA.1 hm
 obtain⟨w3,z3⟩:=yA.1 GU
 obtain⟨w4,z4⟩:=yA.1 KJ
 obtain⟨w5,z5⟩:=yA.1 KL
 rw[Em.aT.str o]at a3 a4
 rw[yAl]at a1 a2
 replace a1:=a1.trans (show _=some (PD.int .i64 0,τ)from rfl)
 replace a2:=a2.trans (show _=some (PD.slice 0 [] .any,τ)from rfl)
 replace a5:=a5.trans (show _=some (PD.aF bK.length 0 0 L.length 1,bK++[.row 5 1 0 (aG L)])from rfl)
 clear hM hJ hb hok hoO GM q0 r0 c1 h1 h2 h4 h5 h7 h3 h6 h8 h9 C1 O4
 obtain⟨on,rs,ds,cs⟩:=o
 simp only[fH,bJ]at a3 a4 q2 hm GU KJ KL z z3 z4 z5
 apply aN.aK h0 func17 rfl
 focus(simp[show Tryz.f17.ntmps=_ from rfl,List.replicate];rfl)
 clear hU
 have gx:=@DN
 refine aC ?_
 clear gx
 refine Wp.AB (by decide +kernel) ?_
 have gx:=An @DN (An @a1 (An @hm (An @w (An @z (An @a2 (An @q1 (An @a3 (An @a4 (An @q2 (An @GU (An @w3 (@z3))))))))))))
 refine iN ?_
 clear gx
 apply SQ.nil
 have gx:=True.intro
 refine aC ?_
 clear gx
 refine Wp.seq (Wp.AB (by decide +kernel) ?_)
 have gx:=An @a5 (An @KJ (An @w4 (An @z4 (An @KL (An @w5 (An @z5 (An @c2 (@r1))))))))
 refine iN ?_
 clear gx
 apply SQ.nil
 have gx:=True.intro
 refine aC ?_
 clear gx
 exact⟨_,_,rfl,rfl,gfin _ _⟩
end
def Ext{α:Type}(d:iL α):Prop:=∀a r,(d ⟨a,false⟩).2.bad=false->d ⟨a++r,false⟩=((d ⟨a,false⟩).1,⟨(d ⟨a,false⟩).2.aJ++r,false⟩)
theorem aEA{s:fP}(h:s.bad=false):s=⟨s.aJ,false⟩:=by cases s;simp only at h;rw[h]
theorem pW:Ext aM:=fun a r h=>by
 unfold aM at h ⊢
 simp only[yAx,false_or]at h ⊢
 by_cases c:a.length<8
 ·rw[if_pos c]at h
  cases h
 ·rw[if_neg c,if_neg (by rw[yAa];omega)]
  simp only
  rw[List.take_append_of_le_length (by omega),List.drop_append_of_le_length (by omega)]
theorem GV:Ext iB:=fun a r h=>by
 unfold iB at h ⊢
 simp only at h ⊢
 have hb:(aM ⟨a,false⟩).2.bad=false:=by
  cases e:(aM ⟨a,false⟩).2.bad with
  |false=>rfl
  |true=>rw[if_pos (.inl e)]at h;cases h
 have hx:=pW a r hb
 rw[hx]
 by_cases c:(aM ⟨a,false⟩).2.bad=true\/(aM ⟨a,false⟩).1<0\/((aM ⟨a,false⟩).2.aJ.length:Int)<(aM ⟨a,false⟩).1
 ·rw[if_pos c]at h
  cases h
 ·rw[if_neg c]
  simp only[not_or]at c
  obtain⟨c1,c2,c3⟩:=c
  rw[if_neg (by simp only[not_or];exact⟨by simp,c2,by simp only[yAa];omega⟩)]
  simp only
  rw[List.take_append_of_le_length (by omega),List.drop_append_of_le_length (by omega)]
theorem aEB:Ext oR:=fun a r h=>by
 unfold oR at h ⊢
 simp only[Bool.or_eq_false_iff,decide_eq_false_iff_not]at h ⊢
 obtain⟨⟨h1,h2⟩,h3⟩:=h
 rw[pW a r h1]
 simp only[h1,Bool.false_or]
 rw[decide_eq_false h2,decide_eq_false h3]
 rfl
theorem Ext.seq{α β:Type}{d1:iL α}{d2:iL β}{e2:β->List UInt8}{R2:β->Prop}(h1:Ext d1)(h2:Ext d2)(r2:Rt d2 e2 R2):Ext (fun s=>((((d1 s).1,(d2 (d1 s).2).1),(d2 (d1 s).2).2):(α×β)×fP)):=fun a r h=>by
 simp only at h ⊢
 have hb:=(r2.bwd _ h).1
 have e1:=aEA hb
 rw[h1 a r hb]
 simp only
 have h':=h
 rw[e1]at h'
 rw[h2 _ r h',e1]
theorem Ext.map{α β:Type}{d:iL α}(h:Ext d)(f:α->β):Ext (fun s=>((f (d s).1,(d s).2):β×fP)):=fun a r hb=>by
 simp only at hb ⊢
 rw[h a r hb]
theorem aEC{α:Type}{d:iL α}{e:α->List UInt8}{R:α->Prop}(h:Ext d)(rt:Rt d e R):∀(k:Nat) (a r:List UInt8),(bG d k ⟨a,false⟩).2.bad=false->bG d k ⟨a++r,false⟩=((bG d k ⟨a,false⟩).1,⟨(bG d k ⟨a,false⟩).2.aJ++r,false⟩)
 |0,a,r,_=>rfl
 |k+1,a,r,hb=>by
  simp only[bG,yAx,if_false]at hb ⊢
  have cY:=(JW rt k _ hb).1
  have e1:=aEA cY
  rw[h a r cY]
  simp only
  have hb':=hb
  rw[e1]at hb'
  rw[aEC h rt k _ r hb',e1]
theorem Ext.list{α:Type}{d:iL α}{e:α->List UInt8}{R:α->Prop}(h:Ext d)(rt:Rt d e R):Ext (dList d):=fun a r hb=>by
 unfold dList at hb ⊢
 simp only at hb ⊢
 have cY:=(JW rt _ _ hb).1
 simp only[Bool.or_eq_false_iff]at cY
 rw[cY.1,cY.2]at hb ⊢
 rw[pW a r cY.1]
 simp only[cY.2,Bool.or_self]at hb ⊢
 exact aEC h rt _ _ r hb
theorem aED:Ext sD:=pW.seq pW cH
theorem aPh:Ext jD:=(GV.seq (GV.seq (aED.seq (pW.seq (pW.list cH) cH.list) (cH.seq cH.list)) (C4.seq (cH.seq cH.list))) (sI.seq (C4.seq (cH.seq cH.list)))).map (fun x=>bM.mk x.1 x.2.1 x.2.2.1.1 x.2.2.1.2 x.2.2.2.1 x.2.2.2.2)
theorem aPi:Ext jE:=(pW.seq pW cH).map (fun x=>fA.mk x.1 x.2)
theorem aPj:Ext jF:=(pW.seq (pW.seq (aPi.list C5) C5.list) (cH.seq C5.list)).map (fun x=>fY.mk x.1 x.2.1 x.2.2)
theorem aPk:Ext jG:=(GV.seq (aED.seq (aPj.list C6) C6.list) (C4.seq C6.list)).map (fun x=>dG.mk x.1 x.2.1.1 x.2.1.2 x.2.2)
theorem aPl:Ext jH:=(GV.seq (aEB.seq (pW.seq (pW.seq (aPk.list yG) yG.list) (cH.seq yG.list)) (cH.seq (cH.seq yG.list))) (yF.seq (cH.seq (cH.seq yG.list)))).map (fun x=>cU.mk x.1 x.2.1 x.2.2.1 x.2.2.2.1 x.2.2.2.2)
theorem aPm:Ext jI:=(GV.seq (pW.seq (pW.seq (pW.seq aEB yF) (cH.seq yF)) (cH.seq (cH.seq yF))) (cH.seq (cH.seq (cH.seq yF)))).map (fun x=>cF.mk x.1 x.2.1 x.2.2.1 x.2.2.2.1 x.2.2.2.2)
theorem aPn:Ext iG:=(GV.seq ((aPh.list GP).seq ((aPl.list C7).seq (aPm.list AG) AG.list) (C7.list.seq AG.list)) (GP.list.seq (C7.list.seq AG.list))).map (fun x=>bY.mk x.1 x.2.1 x.2.2.1 x.2.2.2)
theorem aMz{o:bY}(h:pM o)(n:Nat)(hn:n<(aW o).length):¬((iG ⟨(aW o).take n,false⟩).2.bad=false/\(iG ⟨(aW o).take n,false⟩).2.aJ=[]):=fun⟨h1,h2⟩=>by
 have hx:=aPn ((aW o).take n) ((aW o).drop n) h1
 have hw:=GD.fwd o [] h
 rw[yAl]at hw
 rw[List.take_append_drop,hw,h2]at hx
 have h3:(aW o).drop n=[]:=by
  have:=congrArg (fun q=>q.2.aJ) hx
  simpa using this.symm
 rw[List.drop_eq_nil_iff]at h3
 omega
theorem aDa{o:bY}(h:pM o)(b:UInt8):(iG ⟨aW o++[b],false⟩).2.aJ≠[]:=by
 rw[GD.fwd o [b] h]
 simp
theorem aC9{l:List UInt8}(h:¬((iG ⟨l,false⟩).2.bad=false/\(iG ⟨l,false⟩).2.aJ=[])):qH l=(⟨[],[],[],[]⟩,26):=by
 unfold qH
 rw[if_neg (fun e=>h ⟨e.1,e.2.1⟩)]
theorem iH.ok{r:bM}(h:iH r):s9 r/\N4 r/\(eT r).length<=400:=by
 obtain⟨h1,h2,h3,h4,h5,h6,h7⟩:=h
 refine⟨by show r.fJ.length<=1000000;omega,⟨kB (by omega),kB (by omega),⟨h3,h4⟩,h5,kB (by omega),h7⟩,?_⟩
 simp only[eT,pI,aZ,yAa,cT,uT,wJ]
 omega
theorem kP.ok{s:dG}(h:kP s):wW s/\N5 s/\(fE s).length<=600:=by
 obtain⟨h1,h2,h3,h4,h5⟩:=h
 refine⟨⟨by omega,fun g hg=>by have:=(h5 g hg).2;show g.nO.length<=1000000;omega⟩,⟨kB (by omega),⟨h2,h3⟩,kB (by omega),fun g hg=>(h5 g hg).1⟩,?_⟩
 have hge:∀g∈s.fK,(iT g).length<=100:=fun g hg'=>by
  have:=(h5 g hg').2
  have h16:(g.nO.flatMap jJ).length<=g.nO.length*16:=sE fun w _=>by simp[jJ,cT]
  simp only[iT,yAa,cT,uT]
  omega
 have hfl:=sE hge
 simp only[fE,pI,aZ,yAa,cT,uT]
 omega
theorem kD.ok{d:cU}(h:kD d):A3 d/\N6 d/\(eX d).length<=50000:=by
 obtain⟨h1,h2,h3,h4,h5⟩:=h
 refine⟨⟨by omega,fun s hs=>(h5 s hs).ok.1⟩,⟨kB (by omega),trivial,h2,h3,kB (by omega),fun s hs=>(h5 s hs).ok.2.1⟩,?_⟩
 have hfl:=sE (f:=fE) fun s hs=>(h5 s hs).ok.2.2
 simp only[eX,eW,aZ,yAa,cT,uT]
 omega
theorem N7.ok{c:cF}(h:N7 c):N8 c/\(fI c).length<=100:=by
 obtain⟨h1,h2,h3,h4⟩:=h
 refine⟨⟨kB (by omega),h2,h3,h4,trivial⟩,?_⟩
 simp only[fI,eW,aZ,yAa,cT]
 omega
theorem tO.ok{o:bY}(h:tO o):nP o/\pL o/\pM o/\(aW o).length<=600000:=by
 obtain⟨h1,⟨h2,h3⟩,⟨h4,h5⟩,h6,h7⟩:=h
 have f1:=sE (f:=eT) fun s hs=>(h3 s hs).ok.2.2
 have f2:=sE (f:=eX) fun s hs=>(h5 s hs).ok.2.2
 have f3:=sE (f:=fI) fun s hs=>(h7 s hs).ok.2
 refine⟨⟨⟨by omega,fun r hr=>(h3 r hr).ok.1⟩,⟨by omega,fun r hr=>(h5 r hr).ok.1⟩,by show o.iM.length<=1000000;omega⟩,?_,⟨kB (by omega),⟨kB (by omega),fun r hr=>(h3 r hr).ok.2.1⟩,⟨kB (by omega),fun r hr=>(h5 r hr).ok.2.1⟩,kB (by omega),fun r hr=>(h7 r hr).ok.1⟩,?_⟩
 ·refine⟨by show o.name.length<=100000;omega,⟨fun r hr=>?_,by show o.aX.length<=1000000;omega⟩,⟨by show o.cM.length<=1000000;omega,fun d hd=>?_⟩,by omega,fun c hc=>?_⟩
  ·obtain⟨a1,a2,_,_,_,a6,_⟩:=h3 r hr
   exact⟨by show r.fJ.length<=1000000;omega,by show r.name.length<=100000;omega,by show r.jN.length<=100000;omega⟩
  ·obtain⟨a1,_,_,a4,a5⟩:=h5 d hd
   refine⟨by show d.name.length<=100000;omega,by omega,fun s hs=>?_⟩
   obtain⟨b1,_,_,b4,b5⟩:=a5 s hs
   refine⟨⟨by omega,fun g hg=>?_⟩,by show s.name.length<=100000;omega⟩
   have:=(b5 g hg).2
   show g.nO.length<=1000000
   omega
  ·obtain⟨a1,_⟩:=h7 c hc
   show c.name.length<=100000
   omega
 ·simp only[aW,aZ,yAa,cT,uT]
  omega
theorem aMw(p:oJ)(hp:yJ p)(hf:mP p=true):tO (kN p):=by
 obtain⟨r1,r3,d1,d3,c3,s3⟩:=NX hf
 have ht:=(aMA p hp hf).1
 obtain⟨_,⟨_,q2⟩,⟨_,q3⟩,_,q4⟩:=ht
 refine⟨by show([79,114,103,97,110]:List UInt8).length<=10;decide,⟨by simp only[kN,NY];omega,fun r hr=>?_⟩,⟨by simp only[kN,I6];omega,fun d hd=>?_⟩,by simp only[kN,UK];omega,fun c hc=>?_⟩
 ·obtain⟨a1,a2,⟨a3,a4⟩,a5,a6,a7⟩:=q2 r hr
  obtain⟨x,hx,i,_,rfl⟩:=UL (yAk _) hr
  refine⟨by simp[oF],?_,a3,a4,a5,by simp[oF,uW];omega,a7⟩
  unfold oF zV
  simp only
  rw[yBa]
  have h:∀t∈GF,t.length<=10:=by decide
  cases e:GF[(x.jN%3).toNat]? with
  |none=>simp
  |some t=>exact h t (yBe e)
 ·obtain⟨a1,_,a3,a4,a5,a6⟩:=q3 d hd
  obtain⟨b,hb,i,_,rfl⟩:=NZ (yAk _) hd
  refine⟨by simp[oS],a3,a4,?_,fun s hs=>?_⟩
  ·have:=s3 b hb
   simp only[oS,tW,yAe,List.length_range]
   omega
  ·obtain⟨e1,⟨e2,e3⟩,e4,e5⟩:=a6 s hs
   obtain⟨x,hx,j,_,rfl⟩:=UM (yAk _) hs
   have hl:=UN (x.kind%6) (x.aR%(eY p.aX p.aX.length).length) (nD (gN x.bX) (oG (eY p.aX p.aX.length) (x.aR%(eY p.aX p.aX.length).length).toNat)) (36+b.low%12) (36+b.low%12+b.keys%9) (36+b.low%12+x.at_%(36+b.low%12+b.keys%9-(36+b.low%12)+1))
    ((x.aR%(eY p.aX p.aX.length).length+1)%(eY p.aX p.aX.length).length) (nD (gN x.bX) (oG (eY p.aX p.aX.length) ((x.aR%(eY p.aX p.aX.length).length+1)%(eY p.aX p.aX.length).length).toNat))
   exact⟨by simp[rG],e2,e3,Nat.le_trans hl.1 (by decide),fun g hg=>⟨e5 g hg,Nat.le_trans (hl.2 g hg) (by decide)⟩⟩
 ·obtain⟨a1,a2,a3,a4,_⟩:=q4 c hc
  obtain⟨i,hi,rfl⟩:=yAw.1 hc
  exact⟨by simp[tY],a2,a3,a4⟩
end Go.Kz
end
