import Derived.Test.YteegpeenjdgodaaGreatDoorG5c
import Derived.Test.YteegpeenjdgodaaGreatDoorG3
import Derived.Test.YteegpeenjdgodaaGreatDoorCards
import Derived.Test.YteegpeenjdgodaaGreatDoorTie
import Derived.SevenTiedAt
import Derived.Test.YteegpeenjdgodaaGreatDoorI8
import Derived.Test.YteegpeenjdgodaaGreatDoorG0
import Derived.Test.YteegpeenjdgodaaGreatDoorI4
import Derived.Test.YteegpeenjdgodaaGreatDoorI4b
import Derived.Test.YteegpeenjdgodaaGreatDoorI4c
set_option linter.all false
set_option maxHeartbeats 40000000
set_option maxRecDepth 100000
open Go.Proofs.Tryz
noncomputable section
namespace Go.Proofs.YteegpeenjdgodaaGreatDoor
open Go Go.Kz Go.ChangeShapes Go.WideShapes Go.ChangeAt Go.WideMaps Go.WideElems Go.RowKit
set_option maxRecDepth 100000
theorem own:ownKnob prog.godebug=none:=by kernel_rfl
theorem laidOut:laidOutB prog=true:=by kernel_rfl
abbrev FQ:List (String×DataW Unit):=[("math/bits.deBruijn32tab",Rows.laid_math_bits_deBruijn32tab),("math/bits.deBruijn64tab",Rows.laid_math_bits_deBruijn64tab),("internal/strconv.uint64pow10",Rows.laid_internal_strconv_uint64pow10)]
theorem aG9:(FQ.all fun x=>x.2.handleName?.isNone)=true:=by decide +kernel
def FW(g:Nat):List Int:=match xE g with|some (_,xs)=>xs|none=>[]
theorem aAm:xE 0=some (.u64,FW 0):=rfl
theorem aAn:xE 2=some (.u8,FW 2):=rfl
theorem aAo:xE 3=some (.u8,FW 3):=rfl
theorem RE{g:Nat}(h0:g≠0)(h2:g≠2)(h3:g≠3):xE g=none:=by unfold xE;rw[yAI h0,yAI h2,yAI h3]
theorem MG{g:Nat}(h:g≠1):FX g=none:=by unfold FX;rw[yAI h]
theorem RF{g:Nat}{k:IntKind}{xs:List Int}(h:xE g=some (k,xs))(hi:FX g=none):aAp g (xs.map (Value.int k)).toArray:=by
 refine⟨fun k' zs hk=>?_,fun k' hk=>?_⟩
 ·rw[h]at hk
  simp only[yAb,yAc]at hk
  obtain⟨rfl,rfl⟩:=hk
  rfl
 ·rw[hi]at hk
  cases hk
theorem jQ{W:World}(hs:W.ShapedOpen prog)(h:laidMetH prog FQ W):Gl (.start W):=by
 rw[MakeChecks.laidMetH_plain _ _ _ aG9]at h
 obtain⟨ps,hv,_,_⟩:=h
 obtain⟨Ta,fa,ha⟩:=RG (P:=prog) (nm:= "internal/strconv.uint64pow10") (k:=.u64) (xs:=FW 0) (g:=0) (n:=20) hv (List.Mem.tail _ (List.Mem.tail _ (List.Mem.head _))) (by kernel_rfl) (t:=254) (by kernel_rfl) underlying254 underlying226 (by kernel_rfl) (by kernel_rfl)
 obtain⟨Tb,fb,hb⟩:=RG (P:=prog) (nm:= "math/bits.deBruijn32tab") (k:=.u8) (xs:=FW 2) (g:=2) (n:=32) hv (List.Mem.head _) (by kernel_rfl) (t:=275) (by kernel_rfl) underlying275 underlying5 (by kernel_rfl) (by kernel_rfl)
 obtain⟨Tc,fc,hc⟩:=RG (P:=prog) (nm:= "math/bits.deBruijn64tab") (k:=.u8) (xs:=FW 3) (g:=3) (n:=64) hv (List.Mem.tail _ (List.Mem.head _)) (by kernel_rfl) (t:=276) (by kernel_rfl) underlying276 underlying5 (by kernel_rfl) (by kernel_rfl)
 obtain⟨m,T0,fz0,h0⟩:=aHa (g:=1) (t:=3) (k:=.i64) (zero:=#[.int .i64 0]) hs (by decide +kernel) (by kernel_rfl) rfl (by kernel_rfl) (by kernel_rfl) underlying3
 refine⟨?_,?_⟩
 ·intro g ds hg
  by_cases e0:g=0
  ·subst e0
   simp only[y8,aAm,yAb]at hg
   subst hg
   exact RH ha
  by_cases e2:g=2
  ·subst e2
   simp only[y8,aAn,yAb]at hg
   subst hg
   exact RH hb
  by_cases e3:g=3
  ·subst e3
   simp only[y8,aAo,yAb]at hg
   subst hg
   exact RH hc
  simp only[y8,RE e0 e2 e3]at hg
  cases hg
 ·intro g hg
  refine⟨?_,fun id hd=>hd.elim⟩
  by_cases e0:g=0
  ·subst e0
   exact⟨_,Ta,fa,ha,RF aAm (MG (by decide))⟩
  by_cases e2:g=2
  ·subst e2
   exact⟨_,Tb,fb,hb,RF aAn (MG (by decide))⟩
  by_cases e3:g=3
  ·subst e3
   exact⟨_,Tc,fc,hc,RF aAo (MG (by decide))⟩
  by_cases e1:g=1
  ·subst e1
   refine⟨_,T0,fz0,h0,?_,?_⟩
   ·intro k zs hk
    rw[RE e0 e2 e3]at hk
    cases hk
   ·intro k hk
    have:k=.i64:=by
     have:FX 1=some .i64:=rfl
     rw[this]at hk
     exact(yAU hk).symm
    subst this
    exact⟨m,rfl⟩
  unfold aAq at hg
  rw[RE e0 e2 e3,MG e1]at hg
  cases hg
noncomputable def aAi(os:Os):World:=World.doorLaid prog 400 os
theorem aG2(os:Os)(args:Array Value):laidMetH prog FQ ((aAi os).forCall (fun _ _=>0) ⟨#[],args,[]⟩).memory:=
 laidMetH_of_parts3 (fuel:=8) (laidMet_of_run' 8 (by kernel_rfl) (by kernel_rfl)) (by kernel_rfl) (by kernel_rfl)
theorem named:(prog.funcs.toList.all fun fn=>!(fn.name== "runtime.NumGoroutine"))=true:=by kernel_rfl
theorem names(f:FuncId)(fn:Func)(h:prog.funcs[f]?=some fn):(fn.name== "runtime.NumGoroutine")=false:=by
 have:=yAn.1 named fn (yCf.2 (yDD h))
 simpa using this
theorem aHb{d:Nat}{qs:Gc}(h:Typed prog (d+2) 101 qs):∃ws,qs=ws/\∃w0 w1 w2 w3 w4:Int,ws=[.int .u8 w0,.int .u8 w1,.int .u8 w2,.int .u8 w3,.int .u8 w4]/\gE w0/\gE w1/\gE w2/\gE w3/\gE w4:=by
 have hu:=underlying101
 unfold Typed at h
 rw[hu]at h
 simp only at h
 obtain⟨xs,hl,hx,rfl⟩:=h
 match xs,hl,hx with
 | [x0,x1,x2,x3,x4],_,hx=>
   obtain⟨a,rfl,wa⟩:=mJ underlying5 (hx x0 (by simp))
   obtain⟨b,rfl,wb⟩:=mJ underlying5 (hx x1 (by simp))
   obtain⟨c,rfl,wc⟩:=mJ underlying5 (hx x2 (by simp))
   obtain⟨e,rfl,we⟩:=mJ underlying5 (hx x3 (by simp))
   obtain⟨f,rfl,wf⟩:=mJ underlying5 (hx x4 (by simp))
   exact⟨_,rfl,a,b,c,e,f,rfl,wf_u8 wa,wf_u8 wb,wf_u8 wc,wf_u8 we,wf_u8 wf⟩
theorem wf_i8{z:Int}(hz:(Lit.int .i8 z).wf=true):-128<=z/\z<=127:=by
 simp only[Lit.wf,yAr,yCk]at hz
 exact hz
section
variable{d:Nat}{qs:Gc}
theorem aHc(h:Typed prog (d+3) 103 qs):∃x:mW,mI prog 103 qs=Em.xF.aA x/\BA x:=by
 obtain⟨q0,r0,rfl,h0,h⟩:=kF (FU underlying103 h)
 obtain⟨q1,r1,rfl,h1,h⟩:=kF h
 obtain⟨q2,r2,rfl,h2,h⟩:=kF h
 obtain⟨q3,r3,rfl,h3,h⟩:=kF h
 obtain⟨q4,r4,rfl,h4,h⟩:=kF h
 obtain rfl:=FV h
 obtain⟨a,rfl,wa⟩:=mJ underlying5 h0
 obtain⟨b,rfl,wb⟩:=mJ underlying5 h1
 obtain⟨c,rfl,wc⟩:=mJ underlying100 h2
 obtain⟨e,rfl,we⟩:=mJ underlying5 h3
 obtain⟨ws,rfl,hw⟩:=aHb h4
 obtain⟨w0,w1,w2,w3,w4,rfl,k0,k1,k2,k3,k4⟩:=hw
 exact⟨⟨a,b,c,e,w0,w1,w2,w3,w4⟩,DC (by kernel_rfl),wf_u8 wa,wf_u8 wb,wf_i8 wc,wf_u8 we,k0,k1,k2,k3,k4⟩
theorem aHd(h:Typed prog (d+2) 106 qs):∃x:o8,mI prog 106 qs=Em.pull.aA x/\DD x:=by
 obtain⟨q0,r0,rfl,h0,h⟩:=kF (FU underlying106 h)
 obtain⟨q1,r1,rfl,h1,h⟩:=kF h
 obtain⟨q2,r2,rfl,h2,h⟩:=kF h
 obtain⟨q3,r3,rfl,h3,h⟩:=kF h
 obtain rfl:=FV h
 obtain⟨a,rfl,wa⟩:=mJ underlying5 h0
 obtain⟨b,rfl,wb⟩:=mJ underlying5 h1
 obtain⟨c,rfl,wc⟩:=mJ underlying5 h2
 obtain⟨e,rfl,we⟩:=mJ underlying5 h3
 exact⟨⟨a,b,c,e⟩,DC (by kernel_rfl),wf_u8 wa,wf_u8 wb,wf_u8 wc,wf_u8 we⟩
theorem aHe(h:Typed prog (d+4) 95 qs):∃x:qV,mI prog 95 qs=Em.DE.aA x/\okB x:=by
 obtain⟨q0,r0,rfl,h0,h⟩:=kF (FU underlying95 h)
 obtain⟨q1,r1,rfl,h1,h⟩:=kF h
 obtain⟨q2,r2,rfl,h2,h⟩:=kF h
 obtain⟨q3,r3,rfl,h3,h⟩:=kF h
 obtain rfl:=FV h
 obtain⟨a,rfl,wa⟩:=mJ underlying5 h0
 obtain⟨b,rfl,wb⟩:=mJ underlying5 h1
 obtain⟨c,rfl⟩:=aAr underlying4 h2
 obtain⟨ys,rfl,_,hy⟩:=MH (em:=Em.pull) (R:=DD) underlying93 (k:=4) (by kernel_rfl) (fun x hx=>aHd hx) h3
 exact⟨⟨a,b,c,ys⟩,DC (by kernel_rfl),wf_u8 wa,wf_u8 wb,hy⟩
theorem aHf(h:Typed prog (d+2) 108 qs):∃x:rV,mI prog 108 qs=Em.link.aA x/\RI x:=by
 obtain⟨q0,r0,rfl,h0,h⟩:=kF (FU underlying108 h)
 obtain⟨q1,r1,rfl,h1,h⟩:=kF h
 obtain⟨q2,r2,rfl,h2,h⟩:=kF h
 obtain⟨q3,r3,rfl,h3,h⟩:=kF h
 obtain rfl:=FV h
 obtain⟨a,rfl,wa⟩:=mJ underlying5 h0
 obtain⟨b,rfl,wb⟩:=mJ underlying5 h1
 obtain⟨c,rfl,wc⟩:=mJ underlying100 h2
 obtain⟨e,rfl⟩:=aAr underlying4 h3
 exact⟨⟨a,b,c,e⟩,DC (by kernel_rfl),wf_u8 wa,wf_u8 wb,wf_i8 wc⟩
theorem aAk(h:Typed prog (d+6) 26 qs):∃x:oT,mI prog 26 qs=Em.dV.aA x/\xD x:=by
 obtain⟨q0,r0,rfl,h0,h⟩:=kF (FU underlying26 h)
 obtain⟨q1,r1,rfl,h1,h⟩:=kF h
 obtain⟨q2,r2,rfl,h2,h⟩:=kF h
 obtain rfl:=FV h
 obtain⟨xs,rfl,_,hx⟩:=MH (em:=Em.xF) (R:=BA) underlying22 (k:=9) (by kernel_rfl) (fun x hx=>aHc hx) h0
 obtain⟨ys,rfl,_,hy⟩:=MH (em:=Em.DE) (R:=okB) underlying23 (k:=4) (by kernel_rfl) (fun x hx=>aHe hx) h1
 obtain⟨zs,rfl,_,hz⟩:=MH (em:=Em.link) (R:=RI) underlying24 (k:=4) (by kernel_rfl) (fun x hx=>aHf hx) h2
 exact⟨⟨xs,ys,zs⟩,DC (by kernel_rfl),hx,hy,hz⟩
end
end Go.Proofs.YteegpeenjdgodaaGreatDoor
namespace Go.Proofs.YteegpeenjdgodaaGreatDoor
open Go Go.Kz Go.ChangeShapes Go.WideShapes Go.ChangeAt Go.WideMaps Go.WideElems Go.RowKit
set_option maxRecDepth 100000
theorem aG3{d:Nat}{qs:Gc}(h:Typed prog (d+7) 43 qs):∃c:rU,mI prog 43 qs=Em.change.aA c/\DB c.kind/\xD c.dV/\gE c.extra:=by
 obtain⟨q0,r0,rfl,h0,h⟩:=kF (FU underlying43 h)
 obtain⟨q1,r1,rfl,h1,h⟩:=kF h
 obtain⟨q2,r2,rfl,h2,h⟩:=kF h
 obtain⟨q3,r3,rfl,h3,h⟩:=kF h
 obtain⟨q4,r4,rfl,h4,h⟩:=kF h
 obtain rfl:=FV h
 obtain⟨a,rfl,wa⟩:=mJ underlying3 h0
 obtain⟨b,rfl,wb⟩:=mJ underlying3 h1
 obtain⟨c,rfl,wc⟩:=mJ underlying3 h2
 obtain⟨x,e,hx⟩:=aAk h3
 obtain⟨z,rfl,wz⟩:=mJ underlying5 h4
 have e2:PD.agg q3=.agg [IX.aA x.aM,IY.aA x.aD,IZ.aA x.aO]:=(DC (by kernel_rfl)).symm.trans e
 injection e2 with e2
 subst e2
 exact⟨⟨a,b,c,x,z⟩,DC (by kernel_rfl),wf_i64 wa,hx,wf_u8 wz⟩
end Go.Proofs.YteegpeenjdgodaaGreatDoor
namespace Go.Kz
open Go Go.Proofs
section
abbrev pOE:Em (aP×Int):=Em.bM.sA i64
abbrev L4:Em (List bC):=Em.edit.list 24
open Classical in
def IP:Nat->List PD->List aB->Option (PD×List aB):=entry (dZ Em.bM Em.edit pOE λo x=>dP (gY o/\jN x) (some (iJ o x)))
theorem aGZ{o:aP}{x:bC}(ho:gY o)(hx:jN x)(fl:Nat)(σ:List aB):IP fl [Em.bM.aA o,Em.edit.aA x] σ=some (.aI [Em.bM.aA (iJ o x).1,.int .i64 (iJ o x).2],σ):=by
 have e1:=Em.cM (Em.bM.str o);have e2:=Em.cM (Em.edit.str x);unfold IP entry dZ;simp only[e1,e2,eV (show gY o/\jN x from⟨ho,hx⟩)];rfl
def IQ:Nat->List PD->List aB->Option (PD×List aB):=entry (bZ Em.bM Em.bM λo=>dP (gY o) (some o))
theorem aGJ{o:aP}(ho:gY o)(fl:Nat)(σ:List aB):IQ fl [Em.bM.aA o] σ=some (Em.bM.aA o,σ):=by
 have e1:=Em.cM (Em.bM.str o);unfold IQ entry bZ;simp only[e1,eV ho]
theorem aTw(o:aP)(ho:gY o):RunT prog uX 41 [Em.bM.aA o] (Em.bM.aA o):=by
 obtain⟨p,σ,h1,⟨iR,iD,iC,ds,tS,tss,tG,tgs,tW,hO⟩,_,_⟩:=(HI o ho.dI.gG []).ex;obtain⟨l1,l2,l3⟩:=rI hO ho.short;refine⟨20,p,σ,h1,?_⟩;have:=hO.p;subst this;exact O9 (oZ.o4 l1) (o0.o4 l2) (nV.o4 l3) 11
def IV(o:aP)(x:bC):aP×Int:=if bH o=0 then iJ o x else(pM,bH o)
def C7:aP->List bC->Int->aP×Int×Int
 |o,[],_=>(o,0,0)
 |o,x::t,i=>if (iJ o x).2=0 then C7 (iJ o x).1 t (i+1)else(pM,i,(iJ o x).2)
def C8(o:aP)(l:List bC):aP×Int×Int:=if bH o=0 then(if l.length<=2000 then C7 o l 0 else(pM,0,4))else(pM,0,bH o)
theorem MC{o:aP}(hf:qE o)(h:(wG o).2=0):gY (wG o).1:=by
 unfold wG at h ⊢
 by_cases e:bH o=0
 .rw[yAJ e];exact⟨e,hf⟩
 .rw[yAI e]at h;exact absurd h e
theorem aGH{o:aP}{x:bC}(ho:gY o)(hx:jN x)(h:(iJ o x).2=0):gY (iJ o x).1:=by
 obtain⟨b1,b2,b3,b4⟩:=ho.bounds;unfold iJ at h ⊢;split at h
 .rename_i hf;exact absurd h hf
 rename_i hf;rw[yAI hf];split at h
 .rename_i AF;rw[yAJ AF];exact MC ⟨hx.1,ho.2.aM,ho.2.aD,ho.2.aO⟩ h
 rename_i AF;rw[yAI AF];split at h
 .rename_i t0;rw[yAJ t0];split at h
  .rename_i hi;rw[yAJ hi];split at h
   .rename_i hc;rw[yAJ hc];exact MC (aD4 ho.2 hx.2.1 _ _) h
   .exact gy
  .exact gy
 rename_i t0;rw[yAI t0];split at h
 .rename_i t1;rw[yAJ t1];split at h
  .rename_i hi;rw[yAJ hi];split at h
   .rename_i hc;rw[yAJ hc];exact MC (aD5 ho.2 hx.2.2.1 _ _) h
   .exact gy
  .exact gy
 rename_i t1;rw[yAI t1];split at h
 .rename_i t2;rw[yAJ t2];split at h
  .rename_i hi;rw[yAJ hi];exact MC (aD6 ho.2 hx.2.2.2.1 _ _ _ Ah (by have:=b4 _ (KH (show x.div.toNat<o.aD.length by omega) bS);omega)) h
  .exact gy
 rename_i t2;rw[yAI t2];split at h
 .rename_i hi;rw[yAJ hi];exact MC (aD7 ho.2 hx.2.2.2.2 _ _) h
 .exact gy
variable{E:aE}(hU:aH E)
include hU
theorem aSv(h0:E 23=none)(h1:E 27=some CA)(h2:E 42=some IP)(o:aP)(x:bC)(ho:dI o)(hx:jN x):aJ prog E 23 [Em.bM.aA o,Em.edit.aA x] (pOE.aA (IV o x)):=by
 have k1:=λfl σ=>FL ho fl σ
 have k2:=λhe fl σ=>aGZ (o:=o) (x:=x) ⟨he,ho.fit⟩ hx fl σ
 unfold IV;obtain⟨e,he⟩:=gn (bH o);rw[he]at k1 k2 ⊢;obtain⟨⟨o2,f⟩,hr⟩:∃r,iJ o x=r:=⟨_,rfl⟩;rw[hr]at k2 ⊢;obtain⟨kd,dv,ix,nm,⟨rn,rt,ra,rb,rf,wd⟩,⟨fn,fp,flo,fhi,fs⟩,⟨sn,sa,sb,sg⟩,⟨cn,ca,cb,cs,ct⟩⟩:=x;obtain⟨on,rs,dd,cc⟩:=o;obtain⟨on2,rs2,dd2,cc2⟩:=o2;simp only[cU,gF,aW]at k1 k2 ⊢
 by_cases hz:e=0
 .subst hz;have k2:=k2 rfl;refine aJ.aN 18 h0 func23 (h:=?_);refine aC (A4 h1 k1 h2 k2) ?_;exact ag
 .have l8:=h0;refine aJ.aN 18 h0 func23 (h:=?_);exact pg
theorem aSx(h0:E 17=none)(h1:E 27=some CA)(h2:E 42=some IP)(h3:E 41=some IQ)(o:aP)(l:List bC)(ho:dI o)(hx:∀x∈l,jN x)(hl:l.length<=1000000) :
  aJ prog E 17 [Em.bM.aA o,L4.aA l] ((Em.bM.R6 i64 i64).aA (C8 o l)):=by
 have k1:=λfl σ=>FL ho fl σ
 have k3:=λhe fl σ=>aGJ (o:=o) ⟨he,ho.fit⟩ fl σ
 unfold C8;obtain⟨e,he⟩:=gn (bH o);rw[he]at k1 k3 ⊢
 by_cases hz:e=0
 rotate_left
 .obtain⟨on,rs,dd,cc⟩:=o;simp only[gF,aW]at k1 ⊢;refine aJ.aN 42 h0 func17 (h:=?_);exact pg
 subst hz;have k3:=k3 rfl;have hR:gY o:=⟨he,ho.fit⟩
 by_cases c1:l.length<=2000
 rotate_left
 .have q1:(2000:Int)<(l.length:Int):=by omega
  obtain⟨on,rs,dd,cc⟩:=o;simp only[gF,aW]at k1 k3 ⊢;refine aJ.aN 42 h0 func17 (h:=?_);refine aC (A3 h1 k1 q1) ?_;simp(disch:=first|omega|(simp;done)|(simp;omega)) [yAu,c1,pM,sz]<;>try rfl
 have q1:¬(2000:Int)<(l.length:Int):=Ah;obtain⟨W,hW⟩:=gn (C7 o l 0);rw[yAJ rfl,yAJ c1,hW];obtain⟨on,rs,dd,cc⟩:=o;simp only[gF,aW]at k1 k3 ⊢;obtain⟨A,hA⟩:=gn (aB.box (.agg [.str on,.slice (sz 6 rs) (rs.map Em.aG.aA) .any,.slice (sz 5 dd) (dd.map Em.div.aA) .any,.slice (sz 5 cc) (cc.map Em.aK.aA) .any]));refine aJ.aN 42 h0 func17 (h:=?_);refine aC (A5 h1 k1 q1 h3 k3) ?_;refine Wp.cZ (λm fr σ=>∃(i:Nat) (q:aP) (σ1:List aB),∃gg:Nat->PD,(i+m=l.length/\gY q/\C7 q (l.drop i) (i:Int)=W/\σ1[1]?=some (.box (Em.bM.aA q)))/\fr=[gg 0,gg 1,.ptr 0 0,gg 3,.ptr 1 0,gg 5,gg 6,gg 7,gg 8,gg 9,gg 10,gg 11,gg 12,gg 13,gg 14,gg 15,gg 16,gg 17,gg 18,gg 19,gg 20,gg 21,.slice (sz 24 l) (l.map Em.edit.aA) .any,.int .i64 l.length,.int .i64 i,gg 25,gg 26,gg 27,gg 28,gg 29,gg 30,gg 31,gg 32,gg 33,gg 34,gg 35,gg 36,gg 37,gg 38,gg 39,gg 40,gg 41]/\σ=σ1) ?_ (l.length) (by refine⟨0,⟨on,rs,dd,cc⟩,[A,A],?_⟩;exact eS (⟨Ah,hR,hW,by rw[<-hA];rfl⟩) @hA)
 rintro m fr σ ⟨i,q,σ1,gg,hI,rfl,rfl⟩
 obtain⟨hm,hq,hs,g1⟩:=hI
 by_cases hi:i<l.length
 rotate_left
 .have q2:¬(i:Int)<(l.length:Int):=by omega
  rw[yAs Ah]at hs;unfold C7 at hs;obtain⟨w1,z1⟩:=yA.1 g1;obtain⟨qn,qr,qd,qc⟩:=q;simp only[gF,aW]at g1 z1;refine aC (A4 q2 @g1 w1 z1) ?_;subst hs;simp(disch:=first|omega|(simp;done)|(simp;omega)) [yAu,w1,sz]<;>try rfl
 have q2:(i:Int)<(l.length:Int):=Ah;obtain⟨x,hxe⟩:=gn (l[i]);have hxx:jN x:=hx x (by rw[<-hxe];exact yAm hi);have dY:l.drop i=x::l.drop (i+1):=by rw[yAq hi,hxe]
 rw[dY]at hs;unfold C7 at hs;have k2:=λfl σ=>aGZ hq hxx fl σ
 have hrt:=aGH hq hxx;obtain⟨⟨o2,f⟩,hr⟩:∃r,iJ q x=r:=⟨_,rfl⟩;rw[hr]at k2 hs hrt;simp only at k2 hs hrt;obtain⟨kd,dv,ix,nm,⟨rn,rt,ra,rb,rf,wd⟩,⟨fn,fp,flo,fhi,fs⟩,⟨sn,sa,sb,sg⟩,⟨cn,ca,cb,cs,ct⟩⟩:=x;obtain⟨qn,qr,qd,qc⟩:=q;obtain⟨on2,rs2,dd2,cc2⟩:=o2;simp only[cU,gF,aW]at k2 g1;have j1:∀z:aB,(σ++[z])[1]?=some (.box (.agg [.str qn,.slice (sz 6 qr) (qr.map Em.aG.aA) .any,.slice (sz 5 qd) (qd.map Em.div.aA) .any,.slice (sz 5 qc) (qc.map Em.aK.aA) .any])):=λz=>cE g1
 have j2:∀z:aB,(σ++[z])[σ.length]?=some z:=λz=>Ai
 have j3:∀z y:aB,(σ++[z]).set σ.length y=σ++[y]:=λz y=>Ai
 obtain⟨w1,z1⟩:=yA.1 g1
 by_cases hf:f=0
 .subst hf;rw[yAJ rfl]at hs;have LV:=hrt rfl;refine aC (A12 q2 hi hxe @g1 w1 z1 j1 j2 j3 h2 k2 @cU) ?_;refine bV.normal (m-1) Ah ⟨i+1,⟨on2,rs2,dd2,cc2⟩,_,cF (⟨Ah,LV,hs,cE (yAj w1)⟩)⟩
 .rw[yAI hf]at hs;refine aC (A13 q2 hi hxe @g1 w1 z1 j1 j2 j3 h2 k2 @cU hf) ?_;subst hs;have w2:1<(σ.set 1 (aB.box bX)).length:=by rw[yAD];exact w1
  simp(disch:=first|omega|(simp;done)|(simp;omega)) [yAu,pM,sz,w1]<;>try rfl
end
section
def Q1:Nat->List PD->List aB->Option (PD×List aB):=entry (dZ Em.bM Em.edit pOE λo x=>dP (dI o/\jN x) (some (IV o x)))
theorem aSL{o:aP}{x:bC}(ho:dI o)(hx:jN x)(fl:Nat)(σ:List aB):Q1 fl [Em.bM.aA o,Em.edit.aA x] σ=some (.aI [Em.bM.aA (IV o x).1,.int .i64 (IV o x).2],σ):=by
 have e1:=Em.cM (Em.bM.str o);have e2:=Em.cM (Em.edit.str x);unfold Q1 entry dZ;simp only[e1,e2,eV (show dI o/\jN x from⟨ho,hx⟩)];rfl
variable{E:aE}(hU:aH E)
include hU
end
section
variable{E:aE}(hU:aH E)
include hU
end
theorem aTx{E:aE}(hU:aH E)(h0:E 16=none)(h1:E 13=some AD)(h2:E 39=some wA)(h3:E 40=some zY)(c:rU)(hc:zX c):aJ prog E 16 [Em.change.aA c] (Em.edit.aA (sL c)):=by
 by_cases q0:(c.kind<1)\/(c.kind=2)\/(c.kind=5)\/(c.kind=8)
 .exact aTy hU h0 h1 h2 h3 c hc q0
 by_cases q1:(c.kind=11)\/(c.kind=1\/c.kind=3)\/(c.kind=4\/c.kind=6)
 .exact aTz hU h0 h1 h2 h3 c hc q1
 by_cases q2:(c.kind=7\/c.kind=9)\/(c.kind=10\/c.kind=12)\/(c.kind=13)
 .exact aTA hU h0 h1 h2 h3 c hc q2
 exact aTB hU h0 h1 h2 h3 c hc Ah
def Q6:Nat->List PD->List aB->Option (PD×List aB):=entry (bZ Em.change Em.edit λc=>dP (zX c) (some (sL c)))
theorem aSJ{c:rU}(h:zX c)(fl:Nat)(σ:List aB):Q6 fl [Em.change.aA c] σ=some (Em.edit.aA (sL c),σ):=by
 have e1:=Em.cM (Em.change.str c);unfold Q6 entry bZ;simp only[e1,eV h]
def Q2:Nat->List PD->List aB->Option (PD×List aB):=entry (dZ Em.bM L4 (Em.bM.R6 i64 i64) λo l=>dP (dI o/\(∀x∈l,jN x)/\l.length<=1000000) (some (C8 o l)))
theorem aSQ{o:aP}{l:List bC}{q:PD}(ho:dI o)(hx:∀x∈l,jN x)(hl:l.length<=1000000)(hq:q.strip=L4.aA l)(fl:Nat)(σ:List aB):Q2 fl [Em.bM.aA o,q] σ=some (.aI [Em.bM.aA (C8 o l).1,.int .i64 (C8 o l).2.1,.int .i64 (C8 o l).2.2],σ):=by
 have e1:=Em.cM (Em.bM.str o);have e2:=Em.cM hq;unfold Q2 entry dZ;simp only[e1,e2];rw[eV ⟨ho,hx,hl⟩];rfl
theorem MB:j8 mR:=show 3<=100000 by decide
theorem aTu:j8 [120]:=show 1<=100000 by decide
theorem yX:AV dK:=⟨yAF _,yAF _,yAF _⟩
theorem AX:vF bS:=⟨yAF _,yAF _,λ_ h=>Ap⟩
theorem yY:FE dN:=⟨⟨yAF _,λ_ h=>Ap⟩,yAF _⟩
theorem aTv{w:Int}{o:aP}{x:bC}(ho:qE o)(hx:jN x):jN (mB w o x):=by
 obtain⟨x1,x2,x3,x4,x5⟩:=hx;have hR:AV (o.aM.getD 0 dK):=by
  cases h:o.aM with
  |nil=>exact yX
  |cons a t=>exact ho.aM a (by rw[h];exact yBc ..)
 have hD:vF (tN o):=by
  unfold tN
  by_cases h:o.aD.length-1<o.aD.length
  .exact ho.aD _ (KH h bS)
  .rw[yAA,yBB Ah];exact AX
 unfold mB;split
 .exact⟨x1,⟨hR.1,MB,hR.2.2⟩,x3,x4,x5⟩
 split
 .exact⟨x1,x2,⟨MB,hD.2⟩,x4,x5⟩
 split
 .cases h:(tN o).stops with
  |nil=>exact⟨x1,x2,x3,x4,x5⟩
  |cons s t=>exact⟨x1,x2,x3,⟨(hD.2.2 s (by rw[h];exact yBc ..)).1,MB⟩,x5⟩
 split
 .cases h:o.aO with
  |nil=>exact⟨x1,x2,x3,x4,x5⟩
  |cons s t=>exact⟨x1,x2,x3,x4,MB⟩
 split
 .exact⟨MB,x2,x3,x4,x5⟩
 .exact⟨x1,x2,x3,x4,x5⟩
theorem aSK{c:rU}(h:zX c):jN (sL c):=by
 unfold sL;have h1:jN (mB (fV c.kind) (fE c.dV) ⟨c.kind,0,c.idx,[],dK,bS,dN,eD⟩):=aTv (G6 h.2.1 h.2.2.1).2 ⟨yAF _,yX,AX,yY,yAF _⟩;have h2:jN (EF c (mB (fV c.kind) (fE c.dV) ⟨c.kind,0,c.idx,[],dK,bS,dN,eD⟩)):=by
  unfold EF;split
  .exact h1
  .exact h1
 obtain⟨x1,x2,x3,x4,x5⟩:=h2;unfold oY;split
 .exact⟨aTu,x2,x3,x4,x5⟩
 split
 .exact⟨x1,⟨(show 1<=1000000 by decide),x2.2⟩,x3,x4,x5⟩
 split
 .exact⟨x1,x2,x3,x4,x5⟩
 split
 .exact⟨x1,x2,x3,x4,x5⟩
 .exact⟨x1,x2,x3,x4,x5⟩
def jP:aP->List bC->Option aP
 |o,[]=>some o
 |o,x::t=>if (iJ o x).2=0 then jP (iJ o x).1 t else none
theorem aS3(o:aP)(l m:List bC):jP o (l++m)=(jP o l).bind λq=>jP q m:=by
 induction l generalizing o with
 |nil=>rfl
 |cons x t ih=>
  simp only[yAR,jP];split
  .exact ih _
  .rfl
theorem aGO{o q:aP}{x:bC}(h:iJ o x=(q,0)):jP o [x]=some q:=by
 simp only[jP,h,yAL]
theorem A1{o q r:aP}{l m:List bC}(h:jP o l=some q)(k:jP q m=some r):jP o (l++m)=some r:=by
 rw[aS3,h];exact k
def oN(n:List UInt8):bC:=⟨13,0,0,n,dK,bS,dN,eD⟩
def qT(i:Nat):bC:=⟨11,0,i,[],dK,bS,dN,eD⟩
def oS(d i:Nat):bC:=⟨8,d,i,[],dK,bS,dN,eD⟩
def pU(i:Nat):bC:=⟨2,0,i,[],dK,bS,dN,eD⟩
def nM(i:Nat):bC:=⟨5,0,i,[],dK,bS,dN,eD⟩
def oR(i:Nat)(r:bB):bC:=⟨1,0,i,[],r,bS,dN,eD⟩
def w9(i:Nat)(d:bD):bC:=⟨6,0,i,[],dK,d,dN,eD⟩
def vM(i:Nat)(d:bD):bC:=⟨4,0,i,[],dK,d,dN,eD⟩
def qU(i:Nat)(c:bP):bC:=⟨10,0,i,[],dK,bS,dN,c⟩
theorem L8{o:aP}(h:bH o=0):wG o=(o,0):=yAJ h
theorem aS4(n:List UInt8):iA (oN n)=0:=rfl
theorem aS5(i:Nat):iA (qT i)=0:=rfl
theorem aS6(d i:Nat):iA (oS d i)=0:=rfl
theorem aS7(i:Nat):iA (pU i)=0:=rfl
theorem aS8(i:Nat):iA (nM i)=0:=rfl
theorem aS9(i:Nat)(r:bB):iA (oR i r)=0:=rfl
theorem aTa(i:Nat)(d:bD):iA (w9 i d)=0:=rfl
theorem aTb(i:Nat)(d:bD):iA (vM i d)=0:=rfl
theorem aTc(i:Nat)(c:bP):iA (qU i c)=0:=rfl
theorem aTd{o:aP}{n:Gd}(h:bH { o with name:=n }=0):iJ o (oN n)=({ o with name:=n },0):=by
 unfold iJ;rw[yAI (λk=>k (aS4 n)),yAJ (show(oN n).kind=13 from rfl)];exact L8 h
theorem aGP{o:aP}{x:bC}{w:Int}(hf:iA x=0)(h3:(x.kind-1)/3=3)(hw:(x.kind-1)%3=w)(hi:lM w x.idx o.aO.length)(h:bH (IG w x.idx x.aK o)=0):iJ o x=(IG w x.idx x.aK o,0):=by
 unfold iJ;rw[yAI (λk=>k hf),yAI Ah,yAI Ah,yAI Ah,yAI Ah,hw,yAJ hi];exact L8 h
theorem aTe{o:aP}{x:bC}{w:Int}(hf:iA x=0)(h3:(x.kind-1)/3=2)(hw:(x.kind-1)%3=w)(hi:(0<=x.div/\x.div<o.aD.length)/\lM w x.idx (o.aD.getD x.div.toNat bS).stops.length)(h:bH (uZ w x.idx x.div x.stop o)=0):iJ o x=(uZ w x.idx x.div x.stop o,0):=by
 unfold iJ;rw[yAI (λk=>k hf),yAI Ah,yAI Ah,yAI Ah,yAJ h3,hw,yAJ hi];exact L8 h
theorem aAc{o:aP}{x:bC}{w:Int}(hf:iA x=0)(h3:(x.kind-1)/3=1)(hw:(x.kind-1)%3=w)(hi:lM w x.idx o.aD.length)(hc:o.aO=[])(h:bH (yQ w x.idx x.frame o)=0):iJ o x=(yQ w x.idx x.frame o,0):=by
 unfold iJ;rw[yAI (λk=>k hf),yAI Ah,yAI Ah,yAJ h3,hw,yAJ hi,yAJ (λc h=>by rw[hc]at h;cases h)];exact L8 h
def yZ(o:aP):Prop:=∀d∈o.aD,d.stops=[]
theorem aGQ{o:aP}{x:bC}{w:Int}(hf:iA x=0)(h3:(x.kind-1)/3=0)(AF:x.kind≠13)(hw:(x.kind-1)%3=w)(hi:lM w x.idx o.aM.length)(hb:yZ o)(h:bH (CY w x.idx x.aG o)=0):iJ o x=(CY w x.idx x.aG o,0):=by
 unfold iJ;rw[yAI (λk=>k hf),yAI AF,yAJ h3,hw,yAJ hi,yAJ (show x6 w x.idx o from λd hd s hs=>by rw[hb d hd]at hs;cases hs)];exact L8 h
theorem aGR{w i:Int}{o:aP}(hb:yZ o):iL w i o=o:=by
 have:o.aD.map (qJ w i)=o.aD:=by
  rw[yAG (g:=id) λd hd=>by unfold qJ;rw[hb d hd];show({ d with stops:=[] }:bD)=d;rw[<-hb d hd],List.map_id]
 unfold iL;rw[this]
theorem aAd{w i:Int}{o:aP}(hc:o.aO=[]):qI w i o=o:=by
 obtain⟨n,r,d,c⟩:=o;subst hc;rfl
theorem aTf{α:Type}(l:List α)(x:α)(n:Nat)(h:n=l.length):bT l 0 n x=l++[x]:=by
 subst h;unfold bT;rw[yAJ rfl,yBQ,yCl]
def fP(f:Nat->bC):Nat->List bC
 |0=>[]
 |n+1=>f n::fP f n
theorem IW(f:Nat->bC)(n:Nat):(fP f n).length=n:=by
 induction n with
 |zero=>rfl
 |succ n ih=>rw[fP,yAT,ih]
theorem L9(S:Nat->aP)(f:Nat->bC):∀n,(∀k,k<n->iJ (S (k+1)) (f k)=(S k,0))->jP (S n) (fP f n)=some (S 0)
 |0,_=>rfl
 |n+1,h=>by
  rw[fP,jP,h n (Nat.lt_succ_self n),yAJ rfl];exact L9 S f n λk hk=>h k Ah
theorem aGS(S:Nat->aP)(l:List bC)(h:∀k (hk:k<l.length),iJ (S k) l[k]=(S (k+1),0)):∀k,k<=l.length->jP (S 0) (l.take k)=some (S k)
 |0,_=>rfl
 |k+1,hk=>by
  rw[yBC Ah];exact A1 (aGS S l h k Ah) (aGO (h k Ah))
theorem aAe(S:Nat->aP)(l:List bC)(h:∀k (hk:k<l.length),iJ (S k) l[k]=(S (k+1),0)):jP (S 0) l=some (S l.length):=by
 have:=aGS S l h l.length (yAk _)
 rwa [yBQ]at this
theorem Q8{α:Type}(l:List α)(x:α)(n:Nat)(h:n<l.length):bT (l.take (n+1)) 1 n x=l.take n:=by
 unfold bT;rw[yAI Al,yAJ rfl,yCj,yBK Ah,yCu Bv,yAl]
theorem aAf{α:Type}(l:List α)(n:Nat)(h:n<l.length):bT (l.take n) 0 n l[n]=l.take (n+1):=by
 rw[aTf _ _ _ Bv,yBC h]
theorem Q9{α β:Type}{f:α->β}{l:List α}(h:(l.map f).Nodup)(n:Nat):((l.take n).map f).Nodup:=by
 rw[yCP];exact List.Sublist.nodup (List.take_sublist ..) h
theorem aTg{o:aP}(h:bH o=0)(n:Nat):(o.aM.take n).length<=60/\(∀r∈o.aM.take n,nI r=0)/\((o.aM.take n).map bB.name).Nodup:=by
 obtain⟨_,⟨h1,h2,h3⟩,_⟩:=(gO o).1 h;exact⟨Bv,λr hr=>h2 r (yAy hr),Q9 h3 n⟩
theorem go_name{a:aP}{n:Gd}(h:bH a=0)(hn:eL n=true):bH { a with name:=n }=0:=by
 obtain⟨_,h2⟩:=(gO a).1 h;exact(gO _).2 ⟨hn,h2⟩
theorem go_coup{a:aP}(h:bH a=0)(n:Nat):bH { a with aO:=a.aO.take n }=0:=by
 obtain⟨h1,h2,h3,h4,h5,h6⟩:=(gO a).1 h;exact(gO _).2 ⟨h1,h2,h3,by show(a.aO.take n).length<=40;rw[yAt];omega,λc hc=>h5 c (yAy hc),Q9 h6 n⟩
theorem aTh{a:aP}(h:bH a=0):jP a (fP (λi=>qT i) a.aO.length)=some { a with aO:=[] }:=by
 have:=L9 (λk=>{ a with aO:=a.aO.take k }) (λi=>qT i) a.aO.length λk hk=>by
  have e:IG 1 (qT k).idx (qT k).aK { a with aO:=a.aO.take (k+1) }={ a with aO:=a.aO.take k }:=by
   show({ a with aO:=bT (a.aO.take (k+1)) 1 ((k:Int)).toNat eD }:aP)=_
   rw[yBe,Q8 _ _ _ hk]
  rw[aGP (w:=1) (aS5 k) rfl rfl ⟨yCe k,by show(k:Int)<((a.aO.take (k+1)).length:Int);rw[yAt];omega⟩ (by rw[e];exact go_coup h k),e]
 simp only[yBQ,yCQ]at this;exact this
theorem aTi{a b:aP}(h:bH b=0)(e:a={ b with aO:=[] }):jP a (b.aO.mapIdx λi c=>qU i c)=some b:=by
 subst e;have:=aAe (λk=>{ b with aO:=b.aO.take k }) (b.aO.mapIdx λi c=>qU i c) λk hk=>by
  rw[yBF]at hk;rw[yDg];have e:IG 0 (qU k b.aO[k]).idx (qU k b.aO[k]).aK { b with aO:=b.aO.take k }={ b with aO:=b.aO.take (k+1) }:=by
   show({ b with aO:=bT (b.aO.take k) 0 ((k:Int)).toNat b.aO[k] }:aP)=_
   rw[yBe,aAf _ _ hk]
  rw[aGP (w:=0) (aTc ..) rfl rfl ⟨yCe k,by show(k:Int)<((b.aO.take k).length:Int)+1;rw[yAt];omega⟩ (by rw[e];exact go_coup h (k+1)),e]
 simp only[yBF,yBQ,yCQ]at this;exact this
def xB(o:aP)(i:Nat)(l:List bW):aP:={ o with aD:=o.aD.set i { o.aD.getD i bS with stops:=l } }
theorem aTj{α:Type}(l:List α)(i:Nat)(x d:α)(h:i<l.length):(l.set i x).getD i d=x:=by
 rw[yAA,yAj h];rfl
theorem map_set{α β:Type}(f:α->β)(l:List α)(i:Nat)(x d:α)(h:f x=f (l.getD i d)):(l.set i x).map f=l.map f:=by
 rw[yCK]
 by_cases hi:i<l.length
 .rw[h,yAA,yAh hi];show(l.map f).set i (f l[i])=_
  rw[<-yBE f (h:=by rw[yAe];exact hi),yEk]
 .rw[yEg Bg]
theorem aTk{rs:List bB}{d:bD}(h:oA rs d=0)(n:Nat):oA rs { d with stops:=d.stops.take n }=0:=by
 obtain⟨h1,h2,h3,h4⟩:=(AW rs d).1 h;exact(AW _ _).2 ⟨h1,by show(d.stops.take n).length<=60;rw[yAt];omega,λs hs=>h3 s (yAy hs),Q9 h4 n⟩
theorem go_stop{o:aP}(h:bH o=0)(i n:Nat):bH (xB o i ((o.aD.getD i bS).stops.take n))=0:=by
 obtain⟨h1,h2,⟨⟨h3,FK⟩,h4,h5⟩,h6,h7,h8⟩:=(gO o).1 h;refine(gO _).2 ⟨h1,h2,⟨⟨?_,?_⟩,?_,?_⟩,h6,?_,h8⟩
 .show(o.aD.set ..).length≠0;rw[yAD];exact h3
 .show(o.aD.set ..).length<=8;rw[yAD];exact FK
 .intro d hd;rcases yCN hd with hd|rfl
  .exact h4 d hd
  .by_cases hi:i<o.aD.length
   .have:=h4 _ (KH hi bS);exact⟨this.1,aTk this.2 n⟩
   .exfalso
    have e:(xB o i ((o.aD.getD i bS).stops.take n)).aD=o.aD:=yEg Ah;have hh:=h4;rw[e]at hd;have:=(h4 _ hd).1;rw[show(o.aD.getD i bS)=bS from by rw[yAA,yBB Ah];rfl]at this;exact absurd (show eL []=true from this) Al
 .have e:=map_set bD.name o.aD i { o.aD.getD i bS with stops:=(o.aD.getD i bS).stops.take n } bS rfl;exact(yAK List.Nodup e).mpr h5
 .intro c hc;show QL (o.aD.set ..).length c
  rw[yAD];exact h7 c hc
theorem aTl{o:aP}(h:bH o=0){i:Nat}(hi:i<o.aD.length):jP o (fP (λk=>oS i k) (o.aD.getD i bS).stops.length)=some (xB o i []):=by
 have:=L9 (λk=>xB o i ((o.aD.getD i bS).stops.take k)) (λk=>oS i k) (o.aD.getD i bS).stops.length λk hk=>by
  have eg:∀l,(xB o i l).aD.getD i bS={ o.aD.getD i bS with stops:=l }:=λl=>aTj _ _ _ _ hi
  have e:uZ 1 (oS i k).idx (oS i k).div (oS i k).stop (xB o i ((o.aD.getD i bS).stops.take (k+1)))=xB o i ((o.aD.getD i bS).stops.take k):=by
   unfold uZ;rw[show(oS i k).div.toNat=i from yBe i,show(oS i k).idx.toNat=k from yBe k,eg];show({ o with aD:=(o.aD.set i _).set i { o.aD.getD i bS with stops:=bT ((o.aD.getD i bS).stops.take (k+1)) 1 k dN } }:aP)=_
   rw[List.set_set,Q8 _ _ _ hk];rfl
  refine(aTe (w:=1) (aS6 i k) rfl rfl ⟨⟨yCe i,?_⟩,yCe k,?_⟩ (by rw[e];exact go_stop h i k)).trans Da
  .show(i:Int)<((o.aD.set ..).length:Int)
   rw[yAD];omega
  .show(k:Int)<_
   rw[show(oS i k).div.toNat=i from yBe i,eg];show(k:Int)<(((o.aD.getD i bS).stops.take (k+1)).length:Int)
   rw[yAt];omega
 simp only[yBQ,yCQ]at this;have e:xB o i (o.aD.getD i bS).stops=o:=by
  unfold xB;show({ o with aD:=o.aD.set i (o.aD.getD i bS) }:aP)=o
  rw[yAA,yAh hi];show({ o with aD:=o.aD.set i o.aD[i] }:aP)=o
  rw[yEk]
 rwa [e]at this
def y5(d:bD):bD:={ d with stops:=[] }
def y6(o:aP)(i:Nat):aP:={ o with aD:=(o.aD.take i).map y5++o.aD.drop i }
theorem aGV{o:aP}{i:Nat}(hi:i<o.aD.length):(y6 o i).aD.getD i bS=o.aD[i]:=by
 unfold y6;rw[yAA,yBS (by rw[yAe,yAt];omega),yAe,yAt,yBK Ah,yCt,yBn,yBo,yAh hi];rfl
theorem aGW{o:aP}{i:Nat}(hi:i<o.aD.length):xB (y6 o i) i []=y6 o (i+1):=by
 unfold xB;rw[aGV hi];unfold y6;show({ o with aD:=((o.aD.take i).map y5++o.aD.drop i).set i (y5 o.aD[i]) }:aP)=_
 rw[yDx _ _ (by rw[yAe,yAt];omega),yAe,yAt,yBK Ah,yCt,yAq hi,yBu,yBC hi,yAH,yAi];rfl
theorem go_bareN{o:aP}(h:bH o=0):∀i,i<=o.aD.length->bH (y6 o i)=0
 |0,_=>h
 |i+1,hi=>by
  rw[<-aGW Ah];have:=go_stop (go_bareN h i Ah) i 0
  rwa [yCQ]at this
def oQ(o:aP):List (List bC):=o.aD.mapIdx λi d=>fP (λk=>oS i k) d.stops.length
theorem aGX{o:aP}(h:bH o=0):∀i,i<=o.aD.length->jP o ((oQ o).take i).flatten=some (y6 o i)
 |0,_=>rfl
 |i+1,hi=>by
  have hl:i<(oQ o).length:=by unfold oQ;rw[yBF];omega
  rw[yBC hl,List.flatten_append,yBq,List.flatten_nil,yAl];refine A1 (aGX h i Ah) ?_;have:=aTl (go_bareN h i Ah) (i:=i) (by unfold y6;rw[yAa,yAe,yAt,yBg];omega);rw[aGV Ah,aGW Ah]at this;rw[show(oQ o)[i]=fP (λk=>oS i k) o.aD[i].stops.length from by simp only[oQ,yDg]];exact this
theorem aGY(o:aP):y6 o o.aD.length={ o with aD:=o.aD.map y5 }:=by
 unfold y6;rw[yBQ,yCl,yAl]
theorem aTm(o:aP)(l:List bD)(h:o.aD=l.map y5):yZ o:=λd hd=>by
 rw[h]at hd;obtain⟨t,_,rfl⟩:=yAw.1 hd;rfl
theorem aTn{rs rs':List bB}{d:bD}(hb:d.stops=[])(h:oA rs d=0):oA rs' d=0:=by
 obtain⟨h1,h2,_⟩:=(AW rs d).1 h;exact(AW _ _).2 ⟨h1,h2,λs hs=>(by rw[hb]at hs;cases hs),by rw[hb];exact List.nodup_nil⟩
theorem go_rank{o b:aP}(h:bH o=0)(hB:yZ o)(hb:bH b=0)(n:Nat):bH { o with aM:=b.aM.take n }=0:=by
 obtain⟨h1,_,⟨h3,h4,h5⟩,h6⟩:=(gO o).1 h;exact(gO _).2 ⟨h1,aTg hb n,⟨h3,λd hd=>⟨(h4 d hd).1,aTn (hB d hd) (h4 d hd).2⟩,h5⟩,h6⟩
theorem aTo{o:aP}(h:bH o=0)(hB:yZ o):jP o (fP (λi=>pU i) o.aM.length)=some { o with aM:=[] }:=by
 have:=L9 (λk=>{ o with aM:=o.aM.take k }) (λi=>pU i) o.aM.length λk hk=>by
  have MA:yZ { o with aM:=o.aM.take (k+1) }:=hB;have e:CY 1 (pU k).idx (pU k).aG { o with aM:=o.aM.take (k+1) }={ o with aM:=o.aM.take k }:=by
   unfold CY;rw[aGR MA,show(pU k).idx.toNat=k from yBe k];show({ o with aM:=bT (o.aM.take (k+1)) 1 k dK }:aP)=_
   rw[Q8 _ _ _ hk]
  refine(aGQ (w:=1) (aS7 k) rfl (by show(2:Int)≠13;decide) rfl ⟨yCe k,?_⟩ MA (by rw[e];exact go_rank h hB h k)).trans Da;show(k:Int)<((o.aM.take (k+1)).length:Int)
  rw[yAt];omega
 simp only[yBQ,yCQ]at this;exact this
theorem aTp{o b:aP}(h:bH o=0)(hB:yZ o)(hb:bH b=0)(e:o.aM=[]):jP o (b.aM.mapIdx λi r=>oR i r)=some { o with aM:=b.aM }:=by
 have:=aAe (λk=>{ o with aM:=b.aM.take k }) (b.aM.mapIdx λi r=>oR i r) λk hk=>by
  rw[yBF]at hk;rw[yDg];have MA:yZ { o with aM:=b.aM.take k }:=hB;have e:CY 0 (oR k b.aM[k]).idx (oR k b.aM[k]).aG { o with aM:=b.aM.take k }={ o with aM:=b.aM.take (k+1) }:=by
   unfold CY;rw[aGR MA,show(oR k b.aM[k]).idx.toNat=k from yBe k];show({ o with aM:=bT (b.aM.take k) 0 k b.aM[k] }:aP)=_
   rw[aAf _ _ hk]
  refine(aGQ (w:=0) (aS9 ..) rfl (by show(1:Int)≠13;decide) rfl ⟨yCe k,?_⟩ MA (by rw[e];exact go_rank h hB hb (k+1))).trans Da;show(k:Int)<((b.aM.take k).length:Int)+1
  rw[yAt];omega
 simp only[yBF,yBQ,yCQ]at this;rw[<-this]
 congr 1
 obtain⟨_,_,_,_⟩:=o;subst e;rfl
theorem go_div{o b:aP}(h:bH o=0)(hc:o.aO=[])(hr:o.aM=b.aM)(hb:bH b=0)(n:Nat)(hn:0<n):bH { o with aD:=b.aD.take n }=0:=by
 obtain⟨h1,h2,_⟩:=(gO o).1 h;obtain⟨_,_,⟨⟨h3,FK⟩,h4,h5⟩,_⟩:=(gO b).1 hb;refine(gO _).2 ⟨h1,h2,⟨⟨?_,?_⟩,λd hd=>?_,Q9 h5 n⟩,?_,λc k=>?_,?_⟩
 .show(b.aD.take n).length≠0;rw[yAt];omega
 .show(b.aD.take n).length<=8;rw[yAt];omega
 .have:=h4 d (yAy hd);refine⟨this.1,?_⟩;show oA o.aM d=0
  rw[hr];exact this.2
 .show o.aO.length<=40;rw[hc];exact yAF _
 .exact absurd (show c∈o.aO from k) (by rw[hc];exact yBX)
 .show(o.aO.map _).Nodup;rw[hc];exact List.nodup_nil
theorem aTq{o:aP}(h:bH o=0)(hc:o.aO=[]):jP o (fP (λi=>nM (i+1)) (o.aD.length-1))=some { o with aD:=o.aD.take 1 }:=by
 have h0:=((gO o).1 h).2.2.1.1.1;have:=L9 (λk=>{ o with aD:=o.aD.take (k+1) }) (λi=>nM (i+1)) (o.aD.length-1) λk hk=>by
  have e:yQ 1 (nM (k+1)).idx (nM (k+1)).frame { o with aD:=o.aD.take (k+1+1) }={ o with aD:=o.aD.take (k+1) }:=by
   unfold yQ;rw[aAd (by exact hc),show(nM (k+1)).idx.toNat=k+1 from yBe (k+1)];show({ o with aD:=bT (o.aD.take (k+1+1)) 1 (k+1) bS }:aP)=_
   rw[Q8 _ _ _ Ah]
  refine(aAc (o:={ o with aD:=o.aD.take (k+1+1) }) (w:=1) (aS8 (k+1)) rfl rfl ⟨yCe (k+1),?_⟩ hc (by rw[e];exact go_div h hc rfl h (k+1) Ah)).trans Da;show((k+1:Nat):Int)<((o.aD.take (k+1+1)).length:Int)
  rw[yAt];omega
 simp only[yAp]at this
 rwa [show o.aD.length-1+1=o.aD.length from by omega,yBQ]at this
def oP(b:aP):List bC:=b.aD.mapIdx λi d=>if i=0 then w9 i d else vM i d
theorem aTr{o b:aP}(h:bH o=0)(hc:o.aO=[])(hr:o.aM=b.aM)(hb:bH b=0)(h1:o.aD.length=1):jP o (oP b)=some { o with aD:=b.aD }:=by
 have h0:=((gO b).1 hb).2.2.1.1.1;have:=aAe (λk=>if k=0 then o else { o with aD:=b.aD.take k }) (oP b) λk hk=>by
  have hk':k<b.aD.length:=by simpa [oP]using hk
  rw[show(oP b)[k]=if k=0 then w9 k b.aD[k]else vM k b.aD[k]from by simp only[oP,yDg]];rw[yAI (Nat.succ_ne_zero k)]
  by_cases hk0:k=0
  .subst hk0;rw[yAJ rfl,yAJ rfl];have e:yQ 2 (w9 0 b.aD[0]).idx (w9 0 b.aD[0]).frame o={ o with aD:=b.aD.take (0+1) }:=by
    unfold yQ;rw[aAd hc];show({ o with aD:=o.aD.set 0 b.aD[0] }:aP)=_
    obtain⟨x,hx⟩:=List.length_eq_one_iff.1 h1;rw[hx,yBu,yBC hk'];rfl
   refine(aAc (w:=2) (aTa ..) rfl rfl ⟨yCe 0,?_⟩ hc (by rw[e];exact go_div h hc hr hb (0+1) Ah)).trans Da;show(0:Int)<(o.aD.length:Int)
   omega
  .rw[yAI hk0,yAI hk0];have e:yQ 0 (vM k b.aD[k]).idx (vM k b.aD[k]).frame { o with aD:=b.aD.take k }={ o with aD:=b.aD.take (k+1) }:=by
    unfold yQ;rw[aAd (by exact hc),show(vM k b.aD[k]).idx.toNat=k from yBe k];show({ o with aD:=bT (b.aD.take k) 0 k b.aD[k] }:aP)=_
    rw[aAf _ _ hk']
   refine(aAc (o:={ o with aD:=b.aD.take k }) (w:=0) (aTb ..) rfl rfl ⟨yCe k,?_⟩ hc (by rw[e];exact go_div h hc hr hb (k+1) Ah)).trans Da;show(k:Int)<((b.aD.take k).length:Int)+1
   rw[yAt];omega
 rw[yAJ rfl]at this;rw[this];unfold oP;rw[yBF,yAI h0,yBQ]
def FN(a b:aP):Prop:=a.aM=b.aM/\a.aD=b.aD
instance (a b:aP):Decidable (FN a b):=inferInstanceAs (Decidable (_/\_))
def mV(a b:aP):List bC:=(oQ a).flatten++fP (λi=>pU i) a.aM.length++fP (λi=>nM (i+1)) (a.aD.length-1)++(b.aM.mapIdx λi r=>oR i r)++oP b
def nK(a b:aP):List bC:=
 if FN a b/\a.aO=b.aO then(if a.name=b.name then []else [oN b.name])
 else(if a.name=b.name then []else [oN b.name])++fP (λi=>qT i) a.aO.length++(if FN a b then []else mV a b)++(b.aO.mapIdx λi c=>qU i c)
theorem aTs{a b:aP}(ha:bH a=0)(hc:a.aO=[])(hb:bH b=0):jP a (mV a b)=some { a with aM:=b.aM,aD:=b.aD }:=by
 have hl:(oQ a).length=a.aD.length:=by unfold oQ;rw[yBF]
 have h1:=aGX ha a.aD.length (yAk _);have g1:=go_bareN ha a.aD.length (yAk _);rw[<-hl,yBQ]at h1;rw[hl,aGY]at h1;rw[aGY]at g1;have h0:=((gO a).1 ha).2.2.1.1.1;have hm:(a.aD.map y5).length=a.aD.length:=yAe ..;have b1:yZ { a with aD:=a.aD.map y5 }:=aTm _ _ rfl;have h2:=aTo g1 b1;have g2:=go_rank g1 b1 g1 0;rw[yCQ]at g2;have h3:=aTq g2 hc;have g3:=go_div g2 hc rfl g2 1 Al;have b3:yZ { a with aM:=[],aD:=(a.aD.map y5).take 1 }:=λd hd=>b1 d (yAy hd)
 have h4:=aTp g3 b3 hb rfl;have g4:=go_rank g3 b3 hb b.aM.length;rw[yBQ]at g4;have h5:=aTr (b:=b) g4 hc rfl hb (by show((a.aD.map y5).take 1).length=1;rw[yAt,hm];omega);have FK:=h3;rw[show({ a with aM:=[],aD:=a.aD.map y5 }:aP).aD.length=a.aD.length from hm]at FK;unfold mV;exact A1 (A1 (A1 (A1 h1 h2) FK) h4) h5
theorem aTt{a:aP}(ha:bH a=0){n:Gd}(hn:eL n=true):jP a (if a.name=n then []else [oN n])=some { a with name:=n }:=by
 split
 .rename_i h;subst h;rfl
 .exact aGO (aTd (go_name ha hn))
theorem aSP{a b:aP}(ha:bH a=0)(hb:bH b=0):jP a (nK a b)=some b:=by
 have hn:=((gO b).1 hb).1;have h1:=aTt ha hn;have g1:=go_name ha hn;unfold nK;split
 .rename_i h;rw[h1];obtain⟨_,_,_,_⟩:=a;obtain⟨_,_,_,_⟩:=b;obtain⟨⟨e1,e2⟩,e3⟩:=h;simp only at e1 e2 e3;subst e1 e2 e3;rfl
 .have h2:=aTh g1;have g2:=go_coup g1 0;rw[yCQ]at g2;have h3:jP { a with name:=b.name,aO:=[] } (if FN a b then []else mV a b)=some { b with aO:=[] }:=by
   split
   .rename_i h;obtain⟨_,_,_,_⟩:=a;obtain⟨_,_,_,_⟩:=b;obtain⟨e1,e2⟩:=h;simp only at e1 e2;subst e1 e2;rfl
   .exact aTs (b:=b) g2 rfl hb
  exact A1 (A1 (A1 h1 h2) h3) (aTi hb rfl)
theorem aSM(a:aP):nK a a=[]:=by
 unfold nK;rw[yAJ ⟨⟨rfl,rfl⟩,rfl⟩,yAJ rfl]
def rS(l:List bD):Nat:=(l.map λd=>d.stops.length).sum
def uG(o:aP):Nat:=o.aM.length+o.aD.length+o.aO.length+rS o.aD
theorem aGM(o:aP):(oQ o).flatten.length=rS o.aD:=by
 unfold oQ rS;rw[List.length_flatten]
 congr 1
 apply List.ext_getElem
 .simp
 .intro i h1 h2;simp[IW]
theorem aSN(a b:aP):(nK a b).length<=uG a+uG b+1:=by
 have hn:(if a.name=b.name then []else [oN b.name]).length<=1:=by split<;>simp
 unfold nK;split
 .omega
 .have hr:(if FN a b then []else mV a b).length<=rS a.aD+a.aM.length+a.aD.length+b.aM.length+b.aD.length:=by
   split
   .exact yAF _
   .unfold mV oP;simp only[yAa,aGM,IW,yBF];omega
  simp only[yAa,IW,yBF];unfold uG;omega
section
def pT{α:Type}(l:List α):Nat->List (Nat×α)
 |0=>[]
 |n+1=>match l[n]? with
  |some x=>(n,x)::pT l n
  |none=>pT l n
theorem AZ{α:Type}{l:List α}{n:Nat}(h:n<l.length):pT l (n+1)=(n,l[n])::pT l n:=by
 rw[pT,yAh h]
def IS:Nat->List PD->List aB->Option (PD×List aB):=λ_ args σ=>match args with
 | [.slice s xs tok]=>some (.func 89 [.ptr σ.length 0],σ++[.box (.slice s xs tok)])
 |_=>none
def IU:Nat->List PD->List aB->Option (PD×List aB):=λ_ args σ=>match args with
 | [.slice s xs tok]=>some (.func 123 [.ptr σ.length 0],σ++[.box (.slice s xs tok)])
 |_=>none
def IT:Nat->List PD->List aB->Option (PD×List aB):=λ_ args σ=>match args with
 | [.slice s xs tok]=>some (.func 122 [.ptr σ.length 0],σ++[.box (.slice s xs tok)])
 |_=>none
variable{E:aE}(hU:aH E)
include hU
theorem aSz(h0:E 58=none)(fl:Nat)(args:List PD)(σ:List aB)(p:PD)(σ':List aB)(h:IS fl args σ=some (p,σ')):jL prog E fl (.inl 58) args σ p σ':=by
 unfold IS at h;split at h
 .rename_i s xs tok;simp only[yAb,yAc]at h;obtain⟨rfl,rfl⟩:=h;have key:aL prog E fl (.inl 58) [.slice s xs tok] σ (λq σ1=>q=.func 89 [.ptr σ.length 0]/\σ1=σ++[.box (.slice s xs tok)]):=by
   apply aL.lY h0 func58 rfl
   focus(simp[show Tryz.f58.ntmps=_ from rfl,List.replicate];rfl)
   exact xe
  exact qp
 .cases h
theorem aSX(h0:E 89=none)(l:List bP)(hl:l.length<=1000000)(id:Nat) :
  Iter prog E 89 [.ptr id 0] (λσ=>σ[id]?=some (.box (.slice (sz 5 l) (l.map Em.aK.aA) .any))) ((pT l l.length).map λp=>[.int .i64 (p.1:Int),Em.aK.aA p.2]):=by
 intro fl yid σ σ2 hr;have hK:=hr.here;have key:aL prog E fl (.inl 89) (.yield yid::[.ptr id 0]) σ (λ_ σ'=>σ'=σ2):=by
  apply aL.lY h0 func89 rfl
  focus(simp[show Tryz.f89.ntmps=_ from rfl,List.replicate];rfl)
  refine aC hK ?_;refine Wp.cZ (λm fr σ=>∃(n:Nat) (xA:List aB),∃gg:Nat->PD,(n=m/\n<=l.length/\qA prog E fl yid (λσ=>σ[id]?=some (.box (.slice (sz 5 l) (l.map Em.aK.aA) .any))) ((pT l n).map λp=>[.int .i64 (p.1:Int),Em.aK.aA p.2]) xA σ2)/\fr=[.yield yid,.ptr id 0,.aI [],.int .i64 ((n:Int)-1),.slice (sz 5 l) (l.map Em.aK.aA) .any,.int .i64 l.length,gg 6,gg 7,gg 8,gg 9,gg 10,gg 11,gg 12,gg 13,gg 14,gg 15,gg 16,gg 17,gg 18]/\σ=xA) ?_ (l.length) ⟨l.length,_,cF (⟨rfl,yAk _,hr⟩)⟩
  rintro m fr σ ⟨n,xA,gg,hI,rfl,rfl⟩
  obtain⟨hm,hn,hr⟩:=hI;have q:=hr.here;cases n with
  |zero=>
   have e2:=hr.RV;subst e2;exact xe
  |succ n=>
   rw[AZ Ah]at hr;simp only[yAS]at hr;have h1:((n+1:Nat):Int)-1=(n:Int):=Ah;have h2:(n:Int) >= 0:=yCe n;have h3:n<l.length:=Ah;rw[h1];refine aC h2 ?_;refine Wp.seq ?_;refine Wp.RU 6 rfl ?_;refine kH (A4 h1 h2 h3 @q) ?_;apply SQ.nil;refine YQ (tg:=.inr yid) (args:=[.int .i64 n,Em.aK.aA l[n]]) rfl rfl ?_;exact xb
 exact qo
theorem aSD(h0:E 91=none)(fl:Nat)(args:List PD)(σ:List aB)(p:PD)(σ':List aB)(h:IU fl args σ=some (p,σ')):jL prog E fl (.inl 91) args σ p σ':=by
 unfold IU at h;split at h
 .rename_i s xs tok;simp only[yAb,yAc]at h;obtain⟨rfl,rfl⟩:=h;have key:aL prog E fl (.inl 91) [.slice s xs tok] σ (λq σ1=>q=.func 123 [.ptr σ.length 0]/\σ1=σ++[.box (.slice s xs tok)]):=by
   apply aL.lY h0 func91 rfl
   focus(simp[show Tryz.f91.ntmps=_ from rfl,List.replicate];rfl)
   exact xe
  exact qp
 .cases h
theorem aS1(h0:E 123=none)(l:List bB)(hl:l.length<=1000000)(id:Nat) :
  Iter prog E 123 [.ptr id 0] (λσ=>σ[id]?=some (.box (.slice (sz 6 l) (l.map Em.aG.aA) .any))) ((pT l l.length).map λp=>[.int .i64 (p.1:Int),Em.aG.aA p.2]):=by
 intro fl yid σ σ2 hr;have hK:=hr.here;have key:aL prog E fl (.inl 123) (.yield yid::[.ptr id 0]) σ (λ_ σ'=>σ'=σ2):=by
  apply aL.lY h0 func123 rfl
  focus(simp[show Tryz.f123.ntmps=_ from rfl,List.replicate];rfl)
  refine aC hK ?_;refine Wp.cZ (λm fr σ=>∃(n:Nat) (xA:List aB),∃gg:Nat->PD,(n=m/\n<=l.length/\qA prog E fl yid (λσ=>σ[id]?=some (.box (.slice (sz 6 l) (l.map Em.aG.aA) .any))) ((pT l n).map λp=>[.int .i64 (p.1:Int),Em.aG.aA p.2]) xA σ2)/\fr=[.yield yid,.ptr id 0,.aI [],.int .i64 ((n:Int)-1),.slice (sz 6 l) (l.map Em.aG.aA) .any,.int .i64 l.length,gg 6,gg 7,gg 8,gg 9,gg 10,gg 11,gg 12,gg 13,gg 14,gg 15,gg 16,gg 17,gg 18]/\σ=xA) ?_ (l.length) ⟨l.length,_,cF (⟨rfl,yAk _,hr⟩)⟩
  rintro m fr σ ⟨n,xA,gg,hI,rfl,rfl⟩
  obtain⟨hm,hn,hr⟩:=hI;have q:=hr.here;cases n with
  |zero=>
   have e2:=hr.RV;subst e2;exact xe
  |succ n=>
   rw[AZ Ah]at hr;simp only[yAS]at hr;have h1:((n+1:Nat):Int)-1=(n:Int):=Ah;have h2:(n:Int) >= 0:=yCe n;have h3:n<l.length:=Ah;rw[h1];refine aC h2 ?_;refine Wp.seq ?_;refine Wp.RU 6 rfl ?_;refine kH (A4 h1 h2 h3 @q) ?_;apply SQ.nil;refine YQ (tg:=.inr yid) (args:=[.int .i64 n,Em.aG.aA l[n]]) rfl rfl ?_;exact xb
 exact qo
theorem aSB(h0:E 90=none)(fl:Nat)(args:List PD)(σ:List aB)(p:PD)(σ':List aB)(h:IT fl args σ=some (p,σ')):jL prog E fl (.inl 90) args σ p σ':=by
 unfold IT at h;split at h
 .rename_i s xs tok;simp only[yAb,yAc]at h;obtain⟨rfl,rfl⟩:=h;have key:aL prog E fl (.inl 90) [.slice s xs tok] σ (λq σ1=>q=.func 122 [.ptr σ.length 0]/\σ1=σ++[.box (.slice s xs tok)]):=by
   apply aL.lY h0 func90 rfl
   focus(simp[show Tryz.f90.ntmps=_ from rfl,List.replicate];rfl)
   exact xe
  exact qp
 .cases h
theorem aS2(h0:E 122=none)(l:List bW)(hl:l.length<=1000000)(id:Nat) :
  Iter prog E 122 [.ptr id 0] (λσ=>σ[id]?=some (.box (.slice (sz 4 l) (l.map Em.stop.aA) .any))) ((pT l l.length).map λp=>[.int .i64 (p.1:Int),Em.stop.aA p.2]):=by
 intro fl yid σ σ2 hr;have hK:=hr.here;have key:aL prog E fl (.inl 122) (.yield yid::[.ptr id 0]) σ (λ_ σ'=>σ'=σ2):=by
  apply aL.lY h0 func122 rfl
  focus(simp[show Tryz.f122.ntmps=_ from rfl,List.replicate];rfl)
  refine aC hK ?_;refine Wp.cZ (λm fr σ=>∃(n:Nat) (xA:List aB),∃gg:Nat->PD,(n=m/\n<=l.length/\qA prog E fl yid (λσ=>σ[id]?=some (.box (.slice (sz 4 l) (l.map Em.stop.aA) .any))) ((pT l n).map λp=>[.int .i64 (p.1:Int),Em.stop.aA p.2]) xA σ2)/\fr=[.yield yid,.ptr id 0,.aI [],.int .i64 ((n:Int)-1),.slice (sz 4 l) (l.map Em.stop.aA) .any,.int .i64 l.length,gg 6,gg 7,gg 8,gg 9,gg 10,gg 11,gg 12,gg 13,gg 14,gg 15,gg 16,gg 17,gg 18]/\σ=xA) ?_ (l.length) ⟨l.length,_,cF (⟨rfl,yAk _,hr⟩)⟩
  rintro m fr σ ⟨n,xA,gg,hI,rfl,rfl⟩
  obtain⟨hm,hn,hr⟩:=hI;have q:=hr.here;cases n with
  |zero=>
   have e2:=hr.RV;subst e2;exact xe
  |succ n=>
   rw[AZ Ah]at hr;simp only[yAS]at hr;have h1:((n+1:Nat):Int)-1=(n:Int):=Ah;have h2:(n:Int) >= 0:=yCe n;have h3:n<l.length:=Ah;rw[h1];refine aC h2 ?_;refine Wp.seq ?_;refine Wp.RU 6 rfl ?_;refine kH (A4 h1 h2 h3 @q) ?_;apply SQ.nil;refine YQ (tg:=.inr yid) (args:=[.int .i64 n,Em.stop.aA l[n]]) rfl rfl ?_;exact xb
 exact qo
end
end Go.Kz
end
