/- Steps of the proof. -/
import Derived.Test.YteegpeenjdgodaaGreatDoorP5d
import Derived.Test.YteegpeenjdgodaaGreatDoorP3
import Derived.Test.YteegpeenjdgodaaGreatDoorCards
import Derived.Test.YteegpeenjdgodaaGreatDoorTie
import Derived.SevenTiedAt
import Derived.Test.YteegpeenjdgodaaGreatDoorL6d
import Derived.Test.YteegpeenjdgodaaGreatDoorL6e
import Derived.Test.YteegpeenjdgodaaGreatDoorL6f
import Derived.Test.YteegpeenjdgodaaGreatDoorL6g
import Derived.Test.YteegpeenjdgodaaGreatDoorL6h
import Derived.Test.YteegpeenjdgodaaGreatDoorL0
set_option linter.all false
set_option maxHeartbeats 40000000
set_option maxRecDepth 100000
open Go.Proofs.Tryz
noncomputable section
namespace Go.Proofs.YteegpeenjdgodaaGreatDoor
open Go Go.Kz Go.ChangeShapes Go.WideShapes Go.ChangeAt Go.WideMaps Go.WideElems Go.RowKit
set_option maxRecDepth 100000
theorem own:ownKnob prog.godebug=none:=by kernel_rfl
theorem laidOut:laidOutB prog=true:=by kernel_rfl
abbrev AS:List (String×DataW Unit):=[("math/bits.deBruijn32tab",Rows.laid_math_bits_deBruijn32tab),("math/bits.deBruijn64tab",Rows.laid_math_bits_deBruijn64tab),("internal/strconv.uint64pow10",Rows.laid_internal_strconv_uint64pow10)]
theorem aHJ:(AS.all fun x=>x.2.handleName?.isNone)=true:=by decide +kernel
def HF(g:Nat):List Int:=match yR g with|some (_,xs)=>xs|none=>[]
theorem aBk:yR 0=some (.u64,HF 0):=rfl
theorem aBl:yR 2=some (.u8,HF 2):=rfl
theorem aBm:yR 3=some (.u8,HF 3):=rfl
theorem T1{g:Nat}(h0:g≠0)(h2:g≠2)(h3:g≠3):yR g=none:=by unfold yR;rw[yAI h0,yAI h2,yAI h3]
theorem ON{g:Nat}(h:g≠1):HG g=none:=by unfold HG;rw[yAI h]
theorem T2{g:Nat}{k:IntKind}{xs:List Int}(h:yR g=some (k,xs))(hi:HG g=none):aBn g (xs.map (Value.int k)).toArray:=by
 refine⟨fun k' zs hk=>?_,fun k' hk=>?_⟩
 ·rw[h]at hk
  simp only[yAb,yAc]at hk
  obtain⟨rfl,rfl⟩:=hk
  rfl
 ·rw[hi]at hk
  cases hk
theorem kG{W:World}(hs:W.ShapedOpen prog)(h:laidMetH prog AS W):Gl (.start W):=by
 rw[MakeChecks.laidMetH_plain _ _ _ aHJ]at h
 obtain⟨ps,hv,_,_⟩:=h
 obtain⟨Ta,fa,ha⟩:=T3 (P:=prog) (nm:= "internal/strconv.uint64pow10") (k:=.u64) (xs:=HF 0) (g:=0) (n:=20) hv (List.Mem.tail _ (List.Mem.tail _ (List.Mem.head _))) (by kernel_rfl) (t:=254) (by kernel_rfl) underlying254 underlying226 (by kernel_rfl) (by kernel_rfl)
 obtain⟨Tb,fb,hb⟩:=T3 (P:=prog) (nm:= "math/bits.deBruijn32tab") (k:=.u8) (xs:=HF 2) (g:=2) (n:=32) hv (List.Mem.head _) (by kernel_rfl) (t:=275) (by kernel_rfl) underlying275 underlying5 (by kernel_rfl) (by kernel_rfl)
 obtain⟨Tc,fc,hc⟩:=T3 (P:=prog) (nm:= "math/bits.deBruijn64tab") (k:=.u8) (xs:=HF 3) (g:=3) (n:=64) hv (List.Mem.tail _ (List.Mem.head _)) (by kernel_rfl) (t:=276) (by kernel_rfl) underlying276 underlying5 (by kernel_rfl) (by kernel_rfl)
 obtain⟨m,T0,fz0,h0⟩:=aHK (g:=1) (t:=3) (k:=.i64) (zero:=#[.int .i64 0]) hs (by decide +kernel) (by kernel_rfl) rfl (by kernel_rfl) (by kernel_rfl) underlying3
 refine⟨?_,?_⟩
 ·intro g ds hg
  by_cases e0:g=0
  ·subst e0
   simp only[AT,aBk,yAb]at hg
   subst hg
   exact T4 ha
  by_cases e2:g=2
  ·subst e2
   simp only[AT,aBl,yAb]at hg
   subst hg
   exact T4 hb
  by_cases e3:g=3
  ·subst e3
   simp only[AT,aBm,yAb]at hg
   subst hg
   exact T4 hc
  simp only[AT,T1 e0 e2 e3]at hg
  cases hg
 ·intro g hg
  refine⟨?_,fun id hd=>hd.elim⟩
  by_cases e0:g=0
  ·subst e0
   exact⟨_,Ta,fa,ha,T2 aBk (ON (by decide))⟩
  by_cases e2:g=2
  ·subst e2
   exact⟨_,Tb,fb,hb,T2 aBl (ON (by decide))⟩
  by_cases e3:g=3
  ·subst e3
   exact⟨_,Tc,fc,hc,T2 aBm (ON (by decide))⟩
  by_cases e1:g=1
  ·subst e1
   refine⟨_,T0,fz0,h0,?_,?_⟩
   ·intro k zs hk
    rw[T1 e0 e2 e3]at hk
    cases hk
   ·intro k hk
    have:k=.i64:=by
     have:HG 1=some .i64:=rfl
     rw[this]at hk
     exact(yAR hk).symm
    subst this
    exact⟨m,rfl⟩
  unfold aBo at hg
  rw[T1 e0 e2 e3,ON e1]at hg
  cases hg
noncomputable def TY(os:Os):World:=World.doorLaid prog 400 os
theorem aBe(os:Os)(args:Array Value):laidMetH prog AS ((TY os).forCall (fun _ _=>0) ⟨#[],args,[]⟩).memory:=
 laidMetH_of_parts3 (fuel:=8) (laidMet_of_run' 8 (by kernel_rfl) (by kernel_rfl)) (by kernel_rfl) (by kernel_rfl)
theorem named:(prog.funcs.toList.all fun fn=>!(fn.name== "runtime.NumGoroutine"))=true:=by kernel_rfl
theorem names(f:FuncId)(fn:Func)(h:prog.funcs[f]?=some fn):(fn.name== "runtime.NumGoroutine")=false:=by
 have:=yAn.1 named fn (yCg.2 (yDn h))
 simpa using this
theorem aHL{d:Nat}{qs:Jq}(h:Typed prog (d+2) 101 qs):∃ws,qs=ws/\∃w0 w1 w2 w3 w4:Int,ws=[.int .u8 w0,.int .u8 w1,.int .u8 w2,.int .u8 w3,.int .u8 w4]/\gG w0/\gG w1/\gG w2/\gG w3/\gG w4:=by
 have hu:=underlying101
 unfold Typed at h
 rw[hu]at h
 simp only at h
 obtain⟨xs,hl,hx,rfl⟩:=h
 match xs,hl,hx with
 | [x0,x1,x2,x3,x4],_,hx=>
   obtain⟨a,rfl,wa⟩:=nJ underlying5 (hx x0 (by simp))
   obtain⟨b,rfl,wb⟩:=nJ underlying5 (hx x1 (by simp))
   obtain⟨c,rfl,wc⟩:=nJ underlying5 (hx x2 (by simp))
   obtain⟨e,rfl,we⟩:=nJ underlying5 (hx x3 (by simp))
   obtain⟨f,rfl,wf⟩:=nJ underlying5 (hx x4 (by simp))
   exact⟨_,rfl,a,b,c,e,f,rfl,wf_u8 wa,wf_u8 wb,wf_u8 wc,wf_u8 we,wf_u8 wf⟩
theorem wf_i8{z:Int}(hz:(Lit.int .i8 z).wf=true):-128<=z/\z<=127:=by
 simp only[Lit.wf,yAr,yCb]at hz
 exact hz
section
variable{d:Nat}{qs:Jq}
theorem aHM(h:Typed prog (d+3) 103 qs):∃x:oA,lZ prog 103 qs=Em.xG.aB x/\CV x:=by
 obtain⟨q0,r0,rfl,h0,h⟩:=l6 (HD underlying103 h)
 obtain⟨q1,r1,rfl,h1,h⟩:=l6 h
 obtain⟨q2,r2,rfl,h2,h⟩:=l6 h
 obtain⟨q3,r3,rfl,h3,h⟩:=l6 h
 obtain⟨q4,r4,rfl,h4,h⟩:=l6 h
 obtain rfl:=HE h
 obtain⟨a,rfl,wa⟩:=nJ underlying5 h0
 obtain⟨b,rfl,wb⟩:=nJ underlying5 h1
 obtain⟨c,rfl,wc⟩:=nJ underlying100 h2
 obtain⟨e,rfl,we⟩:=nJ underlying5 h3
 obtain⟨ws,rfl,hw⟩:=aHL h4
 obtain⟨w0,w1,w2,w3,w4,rfl,k0,k1,k2,k3,k4⟩:=hw
 exact⟨⟨a,b,c,e,w0,w1,w2,w3,w4⟩,EV (by kernel_rfl),wf_u8 wa,wf_u8 wb,wf_i8 wc,wf_u8 we,k0,k1,k2,k3,k4⟩
theorem aHN(h:Typed prog (d+2) 106 qs):∃x:qI,lZ prog 106 qs=Em.pull.aB x/\EW x:=by
 obtain⟨q0,r0,rfl,h0,h⟩:=l6 (HD underlying106 h)
 obtain⟨q1,r1,rfl,h1,h⟩:=l6 h
 obtain⟨q2,r2,rfl,h2,h⟩:=l6 h
 obtain⟨q3,r3,rfl,h3,h⟩:=l6 h
 obtain rfl:=HE h
 obtain⟨a,rfl,wa⟩:=nJ underlying5 h0
 obtain⟨b,rfl,wb⟩:=nJ underlying5 h1
 obtain⟨c,rfl,wc⟩:=nJ underlying5 h2
 obtain⟨e,rfl,we⟩:=nJ underlying5 h3
 exact⟨⟨a,b,c,e⟩,EV (by kernel_rfl),wf_u8 wa,wf_u8 wb,wf_u8 wc,wf_u8 we⟩
theorem aHO(h:Typed prog (d+4) 95 qs):∃x:r8,lZ prog 95 qs=Em.CW.aB x/\okB x:=by
 obtain⟨q0,r0,rfl,h0,h⟩:=l6 (HD underlying95 h)
 obtain⟨q1,r1,rfl,h1,h⟩:=l6 h
 obtain⟨q2,r2,rfl,h2,h⟩:=l6 h
 obtain⟨q3,r3,rfl,h3,h⟩:=l6 h
 obtain rfl:=HE h
 obtain⟨a,rfl,wa⟩:=nJ underlying5 h0
 obtain⟨b,rfl,wb⟩:=nJ underlying5 h1
 obtain⟨c,rfl⟩:=aBp underlying4 h2
 obtain⟨ys,rfl,_,hy⟩:=KG (em:=Em.pull) (R:=EW) underlying93 (k:=4) (by kernel_rfl) (fun x hx=>aHN hx) h3
 exact⟨⟨a,b,c,ys⟩,EV (by kernel_rfl),wf_u8 wa,wf_u8 wb,hy⟩
theorem aHP(h:Typed prog (d+2) 108 qs):∃x:tB,lZ prog 108 qs=Em.link.aB x/\T5 x:=by
 obtain⟨q0,r0,rfl,h0,h⟩:=l6 (HD underlying108 h)
 obtain⟨q1,r1,rfl,h1,h⟩:=l6 h
 obtain⟨q2,r2,rfl,h2,h⟩:=l6 h
 obtain⟨q3,r3,rfl,h3,h⟩:=l6 h
 obtain rfl:=HE h
 obtain⟨a,rfl,wa⟩:=nJ underlying5 h0
 obtain⟨b,rfl,wb⟩:=nJ underlying5 h1
 obtain⟨c,rfl,wc⟩:=nJ underlying100 h2
 obtain⟨e,rfl⟩:=aBp underlying4 h3
 exact⟨⟨a,b,c,e⟩,EV (by kernel_rfl),wf_u8 wa,wf_u8 wb,wf_i8 wc⟩
theorem TZ(h:Typed prog (d+6) 26 qs):∃x:pF,lZ prog 26 qs=Em.dQ.aB x/\tA x:=by
 obtain⟨q0,r0,rfl,h0,h⟩:=l6 (HD underlying26 h)
 obtain⟨q1,r1,rfl,h1,h⟩:=l6 h
 obtain⟨q2,r2,rfl,h2,h⟩:=l6 h
 obtain rfl:=HE h
 obtain⟨xs,rfl,_,hx⟩:=KG (em:=Em.xG) (R:=CV) underlying22 (k:=9) (by kernel_rfl) (fun x hx=>aHM hx) h0
 obtain⟨ys,rfl,_,hy⟩:=KG (em:=Em.CW) (R:=okB) underlying23 (k:=4) (by kernel_rfl) (fun x hx=>aHO hx) h1
 obtain⟨zs,rfl,_,hz⟩:=KG (em:=Em.link) (R:=T5) underlying24 (k:=4) (by kernel_rfl) (fun x hx=>aHP hx) h2
 exact⟨⟨xs,ys,zs⟩,EV (by kernel_rfl),hx,hy,hz⟩
end
end Go.Proofs.YteegpeenjdgodaaGreatDoor
namespace Go.Proofs.YteegpeenjdgodaaGreatDoor
open Go Go.Kz Go.ChangeShapes Go.WideShapes Go.ChangeAt Go.WideMaps Go.WideElems Go.RowKit
set_option maxRecDepth 100000
theorem aBf{d:Nat}{qs:Jq}(h:Typed prog (d+7) 43 qs):∃c:rE,lZ prog 43 qs=Em.change.aB c/\yQ c.kind/\tA c.dQ/\gG c.extra:=by
 obtain⟨q0,r0,rfl,h0,h⟩:=l6 (HD underlying43 h)
 obtain⟨q1,r1,rfl,h1,h⟩:=l6 h
 obtain⟨q2,r2,rfl,h2,h⟩:=l6 h
 obtain⟨q3,r3,rfl,h3,h⟩:=l6 h
 obtain⟨q4,r4,rfl,h4,h⟩:=l6 h
 obtain rfl:=HE h
 obtain⟨a,rfl,wa⟩:=nJ underlying3 h0
 obtain⟨b,rfl,wb⟩:=nJ underlying3 h1
 obtain⟨c,rfl,wc⟩:=nJ underlying3 h2
 obtain⟨x,e,hx⟩:=TZ h3
 obtain⟨z,rfl,wz⟩:=nJ underlying5 h4
 have e2:PD.agg q3=.agg [KD.aB x.aR,KE.aB x.aD,KF.aB x.aP]:=(EV (by kernel_rfl)).symm.trans e
 injection e2 with e2
 subst e2
 exact⟨⟨a,b,c,x,z⟩,EV (by kernel_rfl),wf_i64 wa,hx,wf_u8 wz⟩
end Go.Proofs.YteegpeenjdgodaaGreatDoor
namespace Go.Kz
open Go Go.Proofs
section
abbrev pOE:Em (aV×Int):=Em.bB.nT i64
abbrev OD:Em (List cF):=Em.edit.list 24
open Classical in
def AQ:Nat->List PD->List aA->Option (PD×List aA):=entry (eM Em.bB Em.edit pOE λo x=>dY (lA o/\kL x) (some (lB o x)))
theorem TV{o:aV}{x:cF}(ho:lA o)(hx:kL x)(fl:Nat)(σ:List aA):AQ fl [Em.bB.aB o,Em.edit.aB x] σ=some (.aH [Em.bB.aB (lB o x).1,.int .i64 (lB o x).2],σ):=by
 have e1:=Em.cT (Em.bB.str o);have e2:=Em.cT (Em.edit.str x);unfold AQ entry eM;simp only[e1,e2,fM (show lA o/\kL x from⟨ho,hx⟩)];rfl
def J6:Nat->List PD->List aA->Option (PD×List aA):=entry (cK Em.bB Em.bB λo=>dY (lA o) (some o))
theorem aHH{o:aV}(ho:lA o)(fl:Nat)(σ:List aA):J6 fl [Em.bB.aB o] σ=some (Em.bB.aB o,σ):=by
 have e1:=Em.cT (Em.bB.str o);unfold J6 entry cK;simp only[e1,fM ho]
theorem aTs(o:aV)(ho:lA o):RunT prog wV 41 [Em.bB.aB o] (Em.bB.aB o):=by
 obtain⟨p,σ,h1,⟨iR,iD,iC,ds,tS,tss,tG,tgs,tW,hO⟩,_,_⟩:=(I7 o ho.cL.eF []).ex;obtain⟨l1,l2,l3⟩:=sS hO ho.short;refine⟨20,p,σ,h1,?_⟩;have:=hO.p;subst this;exact RH (qC.qE l1) (qD.qE l2) (o0.qE l3) 11
def rZ(o:aV)(x:cF):aV×Int:=if bT o=0 then lB o x else(gE,bT o)
def yO:aV->List cF->Int->aV×Int×Int
 |o,[],_=>(o,0,0)
 |o,x::t,i=>if (lB o x).2=0 then yO (lB o x).1 t (i+1)else(gE,i,(lB o x).2)
def xF(o:aV)(l:List cF):aV×Int×Int:=if bT o=0 then(if l.length<=2000 then yO o l 0 else(gE,0,4))else(gE,0,bT o)
theorem OG{o:aV}(hf:oL o)(h:(uE o).2=0):lA (uE o).1:=by
 unfold uE at h ⊢
 by_cases e:bT o=0
 .rw[yAJ e];exact⟨e,hf⟩
 .rw[yAI e]at h;exact absurd h e
theorem aBc{o:aV}{x:cF}(ho:lA o)(hx:kL x)(h:(lB o x).2=0):lA (lB o x).1:=by
 obtain⟨b1,b2,b3,b4⟩:=ho.bounds;unfold lB at h ⊢;split at h
 .rename_i hf;exact absurd h hf
 rename_i hf;rw[yAI hf];split at h
 .rename_i eW;rw[yAJ eW];exact OG ⟨hx.1,ho.2.aR,ho.2.aD,ho.2.aP⟩ h
 rename_i eW;rw[yAI eW];split at h
 .rename_i t0;rw[yAJ t0];split at h
  .rename_i hi;rw[yAJ hi];split at h
   .rename_i hc;rw[yAJ hc];exact OG (aE8 ho.2 hx.2.1 _ _) h
   .exact ff
  .exact ff
 rename_i t0;rw[yAI t0];split at h
 .rename_i t1;rw[yAJ t1];split at h
  .rename_i hi;rw[yAJ hi];split at h
   .rename_i hc;rw[yAJ hc];exact OG (aE9 ho.2 hx.2.2.1 _ _) h
   .exact ff
  .exact ff
 rename_i t1;rw[yAI t1];split at h
 .rename_i t2;rw[yAJ t2];split at h
  .rename_i hi;rw[yAJ hi];exact OG (WJ ho.2 hx.2.2.2.1 _ _ _ Cj (by have:=b4 _ (ME (show x.div.toNat<o.aD.length by omega) cX);omega)) h
  .exact ff
 rename_i t2;rw[yAI t2];split at h
 .rename_i hi;rw[yAJ hi];exact OG (WK ho.2 hx.2.2.2.2 _ _) h
 .exact ff
variable{E:aE}(hU:aJ E)
include hU
theorem aTE(h0:E 23=none)(h1:E 27=some B9)(h2:E 42=some AQ)(o:aV)(x:cF)(ho:cL o)(hx:kL x):aI prog E 23 [Em.bB.aB o,Em.edit.aB x] (pOE.aB (rZ o x)):=by
 have k1:=λfl σ=>EM ho fl σ
 have k2:=λhe fl σ=>TV (o:=o) (x:=x) ⟨he,ho.fit⟩ hx fl σ
 unfold rZ;obtain⟨e,he⟩:=gn (bT o);rw[he]at k1 k2 ⊢;obtain⟨⟨o2,f⟩,hr⟩:∃r,lB o x=r:=⟨_,rfl⟩;rw[hr]at k2 ⊢;obtain⟨kd,dv,ix,nm,⟨rn,rt,ra,rb,rf,wd⟩,⟨fn,fp,flo,fhi,fs⟩,⟨sn,sa,sb,sg⟩,⟨cn,ca,cb,cs,ct⟩⟩:=x;obtain⟨on,rs,dd,cc⟩:=o;obtain⟨J7,J8,J9,KA⟩:=o2;simp only[bZ,dT,aU]at k1 k2 ⊢
 by_cases hz:e=0
 .subst hz;have k2:=k2 rfl;refine aI.aG 18 h0 func23 (h:=?_);refine aC (A4 h1 k1 h2 k2) ?_;exact ag
 .have mB:=h0;refine aI.aG 18 h0 func23 (h:=?_);exact rz
theorem aTG(h0:E 17=none)(h1:E 27=some B9)(h2:E 42=some AQ)(h3:E 41=some J6)(o:aV)(l:List cF)(ho:cL o)(hx:∀x∈l,kL x)(hl:l.length<=1000000) :
  aI prog E 17 [Em.bB.aB o,OD.aB l] ((Em.bB.UJ i64 i64).aB (xF o l)):=by
 have k1:=λfl σ=>EM ho fl σ
 have k3:=λhe fl σ=>aHH (o:=o) ⟨he,ho.fit⟩ fl σ
 unfold xF;obtain⟨e,he⟩:=gn (bT o);rw[he]at k1 k3 ⊢
 by_cases hz:e=0
 rotate_left
 .obtain⟨on,rs,dd,cc⟩:=o;simp only[dT,aU]at k1 ⊢;refine aI.aG 42 h0 func17 (h:=?_);exact rz
 subst hz;have k3:=k3 rfl;have hR:lA o:=⟨he,ho.fit⟩
 by_cases c1:l.length<=2000
 rotate_left
 .have q1:(2000:Int)<(l.length:Int):=by omega
  obtain⟨on,rs,dd,cc⟩:=o;simp only[dT,aU]at k1 k3 ⊢;refine aI.aG 42 h0 func17 (h:=?_);refine aC (A3 h1 k1 q1) ?_;simp(disch:=first|omega|(simp;done)|(simp;omega)) [yAu,c1,gE,sz]<;>try rfl
 have q1:¬(2000:Int)<(l.length:Int):=Cj;obtain⟨W,hW⟩:=gn (yO o l 0);rw[yAJ rfl,yAJ c1,hW];obtain⟨on,rs,dd,cc⟩:=o;simp only[dT,aU]at k1 k3 ⊢;obtain⟨A,hA⟩:=gn (aA.box (.agg [.str on,.slice (sz 6 rs) (rs.map Em.aL.aB) .any,.slice (sz 5 dd) (dd.map Em.div.aB) .any,.slice (sz 5 cc) (cc.map Em.aZ.aB) .any]));refine aI.aG 42 h0 func17 (h:=?_);refine aC (A5 h1 k1 q1 h3 k3) ?_;refine Wp.dJ (λm fr σ=>∃(i:Nat) (q:aV) (σ1:List aA),∃gg:Nat->PD,(i+m=l.length/\lA q/\yO q (l.drop i) (i:Int)=W/\σ1[1]?=some (.box (Em.bB.aB q)))/\fr=[gg 0,gg 1,.ptr 0 0,gg 3,.ptr 1 0,gg 5,gg 6,gg 7,gg 8,gg 9,gg 10,gg 11,gg 12,gg 13,gg 14,gg 15,gg 16,gg 17,gg 18,gg 19,gg 20,gg 21,.slice (sz 24 l) (l.map Em.edit.aB) .any,.int .i64 l.length,.int .i64 i,gg 25,gg 26,gg 27,gg 28,gg 29,gg 30,gg 31,gg 32,gg 33,gg 34,gg 35,gg 36,gg 37,gg 38,gg 39,gg 40,gg 41]/\σ=σ1) ?_ (l.length) (by refine⟨0,⟨on,rs,dd,cc⟩,[A,A],?_⟩;exact fQ (⟨Cj,hR,hW,by rw[<-hA];rfl⟩) @hA)
 rintro m fr σ ⟨i,q,σ1,gg,hI,rfl,rfl⟩
 obtain⟨hm,hq,hs,g1⟩:=hI
 by_cases hi:i<l.length
 rotate_left
 .have q2:¬(i:Int)<(l.length:Int):=by omega
  rw[yAs Cj]at hs;unfold yO at hs;obtain⟨w1,z1⟩:=yA.1 g1;obtain⟨qn,qr,qd,qc⟩:=q;simp only[dT,aU]at g1 z1;refine aC (A4 q2 @g1 w1 z1) ?_;subst hs;simp(disch:=first|omega|(simp;done)|(simp;omega)) [yAu,w1,sz]<;>try rfl
 have q2:(i:Int)<(l.length:Int):=Cj;obtain⟨x,hxe⟩:=gn (l[i]);have hxx:kL x:=hx x (by rw[<-hxe];exact yAm hi);have dX:l.drop i=x::l.drop (i+1):=by rw[yAq hi,hxe]
 rw[dX]at hs;unfold yO at hs;have k2:=λfl σ=>TV hq hxx fl σ
 have hrt:=aBc hq hxx;obtain⟨⟨o2,f⟩,hr⟩:∃r,lB q x=r:=⟨_,rfl⟩;rw[hr]at k2 hs hrt;simp only at k2 hs hrt;obtain⟨kd,dv,ix,nm,⟨rn,rt,ra,rb,rf,wd⟩,⟨fn,fp,flo,fhi,fs⟩,⟨sn,sa,sb,sg⟩,⟨cn,ca,cb,cs,ct⟩⟩:=x;obtain⟨qn,qr,qd,qc⟩:=q;obtain⟨J7,J8,J9,KA⟩:=o2;simp only[bZ,dT,aU]at k2 g1;have j1:∀z:aA,(σ++[z])[1]?=some (.box (.agg [.str qn,.slice (sz 6 qr) (qr.map Em.aL.aB) .any,.slice (sz 5 qd) (qd.map Em.div.aB) .any,.slice (sz 5 qc) (qc.map Em.aZ.aB) .any])):=λz=>bG g1
 have j2:∀z:aA,(σ++[z])[σ.length]?=some z:=λz=>Ck
 have j3:∀z y:aA,(σ++[z]).set σ.length y=σ++[y]:=λz y=>Ck
 obtain⟨w1,z1⟩:=yA.1 g1
 by_cases hf:f=0
 .subst hf;rw[yAJ rfl]at hs;have G4:=hrt rfl;refine aC (A12 q2 hi hxe @g1 w1 z1 j1 j2 j3 h2 k2 @bZ) ?_;refine bM.normal (m-1) Cj ⟨i+1,⟨J7,J8,J9,KA⟩,_,cE (⟨Cj,G4,hs,bG (yAj w1)⟩)⟩
 .rw[yAI hf]at hs;refine aC (A13 q2 hi hxe @g1 w1 z1 j1 j2 j3 h2 k2 @bZ hf) ?_;subst hs;have w2:1<(σ.set 1 (aA.box bS)).length:=by rw[yAD];exact w1
  simp(disch:=first|omega|(simp;done)|(simp;omega)) [yAu,gE,sz,w1]<;>try rfl
end
section
def N9:Nat->List PD->List aA->Option (PD×List aA):=entry (eM Em.bB Em.edit pOE λo x=>dY (cL o/\kL x) (some (rZ o x)))
theorem aBb{o:aV}{x:cF}(ho:cL o)(hx:kL x)(fl:Nat)(σ:List aA):N9 fl [Em.bB.aB o,Em.edit.aB x] σ=some (.aH [Em.bB.aB (rZ o x).1,.int .i64 (rZ o x).2],σ):=by
 have e1:=Em.cT (Em.bB.str o);have e2:=Em.cT (Em.edit.str x);unfold N9 entry eM;simp only[e1,e2,fM (show cL o/\kL x from⟨ho,hx⟩)];rfl
def AR:cF:=⟨0,0,0,[],dV,cX,eD,eU⟩
def aHG(o:aV)(x:cF):cF:=
 if x.kind=13 then⟨13,0,0,o.name,dV,cX,eD,eU⟩
 else if (x.kind-1)%3=0 then⟨x.kind+1,x.div,x.idx,[],dV,cX,eD,eU⟩
 else
  let k:=if (x.kind-1)%3=1 then x.kind-1 else x.kind
  if (x.kind-1)/3=0 then⟨k,x.div,x.idx,[],o.aR.getD x.idx.toNat dV,cX,eD,eU⟩
  else if (x.kind-1)/3=1 then⟨k,x.div,x.idx,[],dV,o.aD.getD x.idx.toNat cX,eD,eU⟩
  else if (x.kind-1)/3=2 then⟨k,x.div,x.idx,[],dV,cX,(o.aD.getD x.div.toNat cX).stops.getD x.idx.toNat eD,eU⟩
  else⟨k,x.div,x.idx,[],dV,cX,eD,o.aP.getD x.idx.toNat eU⟩
def HA(o:aV)(x:cF):cF×Int:=if (rZ o x).2=0 then(aHG o x,0)else(AR,(rZ o x).2)
theorem aTS{o:aV}{x:cF}(h:(lB o x).2=0):gX x=0/\(1<=x.kind/\x.kind<=13)/\(x.kind≠13 ->
  ((x.kind-1)/3=0->fY ((x.kind-1)%3) x.idx o.aR.length)/\((x.kind-1)/3=1->fY ((x.kind-1)%3) x.idx o.aD.length) /\
  ((x.kind-1)/3=2->(0<=x.div/\x.div<o.aD.length)/\fY ((x.kind-1)%3) x.idx (o.aD.getD x.div.toNat cX).stops.length)/\((x.kind-1)/3=3->fY ((x.kind-1)%3) x.idx o.aP.length)):=by
 have hf:gX x=0:=by
  apply yDF;intro e;unfold lB at h;rw[yAJ e]at h;exact e h
 have hk:1<=x.kind/\x.kind<=13:=by
  exact xz
 refine⟨hf,hk,λeW=>?_⟩;unfold lB at h;rw[yAI (by rw[hf];decide),yAI eW]at h;refine⟨λt=>?_,λt=>?_,λt=>?_,λt=>?_⟩
 .rw[yAJ t]at h;exact Ag
 .rw[yAI Cj,yAJ t]at h;exact Ag
 .rw[yAI Cj,yAI Cj,yAJ t]at h;exact Ag
 .rw[yAI Cj,yAI Cj,yAI Cj]at h;exact Ag
variable{E:aE}(hU:aJ E)
include hU
theorem aTI(h0:E 21=none)(h1:E 23=some N9)(h2:E 41=some J6)(h3:E 56=some sQ)(o:aV)(x:cF)(ho:cL o)(hx:kL x):aI prog E 21 [Em.bB.aB o,Em.edit.aB x] ((Em.edit.nT i64).aB (HA o x)):=by
 have k1:=λfl σ=>aBb (o:=o) (x:=x) ho hx fl σ
 unfold HA
 by_cases hz:(rZ o x).2=0
 rotate_left
 .rw[yAI hz];obtain⟨⟨o2,f⟩,hr⟩:∃r,rZ o x=r:=⟨_,rfl⟩;rw[hr]at k1 hz ⊢;simp only at k1 hz ⊢;obtain⟨kd,dv,ix,nm,⟨rn,rt,ra,rb,rf,wd⟩,⟨fn,fp,flo,fhi,fs⟩,⟨sn,sa,sb,sg⟩,⟨cn,ca,cb,cs,ct⟩⟩:=x;obtain⟨on,rs,dd,cc⟩:=o;obtain⟨J7,J8,J9,KA⟩:=o2;simp only[bZ,dT,aU]at k1 ⊢;refine aI.aG 96 h0 func21 (h:=?_);refine aC (A3 h1 k1 @hz) ?_;simp(disch:=first|omega|(simp;done)|(simp;omega)) [yAu,hz,AR,dV,cX,eD,eU,bZ,sz]<;>try rfl
 rw[yAJ hz];have he:bT o=0:=by
  unfold rZ at hz;split at hz
  .assumption
  .exact hz
 have hA:rZ o x=lB o x:=by unfold rZ;rw[yAJ he]
 rw[hA]at hz k1;obtain⟨hf,hk,hix⟩:=aTS hz;have hR:lA o:=⟨he,ho.fit⟩;have k2:=λfl σ=>aHH hR fl σ
 have k3:=λfl σ=>GK (x:=x) hk fl σ
 obtain⟨⟨o2,f⟩,hr⟩:∃r,lB o x=r:=⟨_,rfl⟩;rw[hr]at k1 hz;simp only at k1 hz;subst hz;obtain⟨J7,J8,J9,KA⟩:=o2;clear hr hA he ho hf hx hR;unfold aHG
 by_cases eW:x.kind=13
 .rw[yAJ eW];obtain⟨kd,dv,ix,nm,⟨rn,rt,ra,rb,rf,wd⟩,⟨fn,fp,flo,fhi,fs⟩,⟨sn,sa,sb,sg⟩,⟨cn,ca,cb,cs,ct⟩⟩:=x;obtain⟨on,rs,dd,cc⟩:=o;simp only[bZ,dT,aU]at k1 k2 k3 eW ⊢;subst eW;refine aI.aG 96 h0 func21 (h:=?_);refine aC (A2 h1 k1) ?_;simp(disch:=first|omega|(simp;done)|(simp;omega)) [yAu,dV,cX,eD,eU,bZ,sz]<;>try rfl
 rw[yAI eW];obtain⟨i0,i1,i2,i3⟩:=hix eW;obtain⟨th,hth⟩:=gn ((x.kind-1)/3);obtain⟨wy,hwy⟩:=gn ((x.kind-1)%3);have hs:(th=0\/th=1\/th=2\/th=3)/\(wy=0\/wy=1\/wy=2):=Cj;simp only[hth,hwy]at k3 i0 i1 i2 i3 ⊢;obtain⟨kd,dv,ix,nm,⟨rn,rt,ra,rb,rf,wd⟩,⟨fn,fp,flo,fhi,fs⟩,⟨sn,sa,sb,sg⟩,⟨cn,ca,cb,cs,ct⟩⟩:=x;obtain⟨on,rs,dd,cc⟩:=o;simp only[bZ,dT,aU]at k1 k2 k3 eW hk i0 i1 i2 i3 ⊢;have w1:IntKind.i64.wrap (kd+1)=kd+1:=Cq;have w2:IntKind.i64.wrap (kd-1)=kd-1:=Cq;clear hth hwy hk;obtain⟨hs1,hs2⟩:=hs;rcases hs2 with rfl|hs2
 .rcases hs1 with rfl|rfl|rfl|rfl
  .exact cv
  .exact cv
  .exact cv
  .exact cv
 rcases hs1 with rfl|rfl|rfl|rfl
 .have hb:=i0 rfl;unfold fY at hb;rw[yAI Cj]at hb;obtain⟨i,rfl⟩:∃i:Nat,ix=i:=⟨ix.toNat,Cj⟩;have hil:i<rs.length:=Cj;have hiq:(i:Int)<(rs.length:Int):=Cj;have hgi:rs.getD i dV=rs[i]:=Hl;obtain⟨⟨n1,n2,n3,n4,n5,n6⟩,hie⟩:∃q,rs[i]=q:=⟨_,rfl⟩;exact Ak
 .have hb:=i1 rfl;unfold fY at hb;rw[yAI Cj]at hb;obtain⟨i,rfl⟩:∃i:Nat,ix=i:=⟨ix.toNat,Cj⟩;have hil:i<dd.length:=Cj;have hiq:(i:Int)<(dd.length:Int):=Cj;have hgi:dd.getD i cX=dd[i]:=Hl;obtain⟨⟨n1,n2,n3,n4,n5⟩,hie⟩:∃q,dd[i]=q:=⟨_,rfl⟩;exact Ak
 .obtain⟨hd,hb⟩:=i2 rfl;obtain⟨d,rfl⟩:∃d:Nat,dv=d:=⟨dv.toNat,Cj⟩;have hdl:d<dd.length:=Cj;have hdq:(d:Int)<(dd.length:Int):=Cj;have hge:dd.getD d cX=dd[d]:=by rw[yAA,yAh hdl];rfl
  simp only[yBp,hge]at hb ⊢;obtain⟨⟨m1,m2,m3,m4,ss⟩,hde⟩:∃q,dd[d]=q:=⟨_,rfl⟩;rw[hde]at hb ⊢;simp only at hb ⊢;unfold fY at hb;rw[yAI Cj]at hb;obtain⟨i,rfl⟩:∃i:Nat,ix=i:=⟨ix.toNat,Cj⟩;have hil:i<ss.length:=Cj;have hiq:(i:Int)<(ss.length:Int):=Cj;have hgi:ss.getD i eD=ss[i]:=Hl;obtain⟨⟨n1,n2,n3,n4⟩,hie⟩:∃q,ss[i]=q:=⟨_,rfl⟩;rw[hie]at hgi;rcases hs2 with rfl|rfl
  .exact Al
  .exact Al
 .have hb:=i3 rfl;unfold fY at hb;rw[yAI Cj]at hb;obtain⟨i,rfl⟩:∃i:Nat,ix=i:=⟨ix.toNat,Cj⟩;have hil:i<cc.length:=Cj;have hiq:(i:Int)<(cc.length:Int):=Cj;have hgi:cc.getD i eU=cc[i]:=Hl;obtain⟨⟨n1,n2,n3,n4,n5⟩,hie⟩:∃q,cc[i]=q:=⟨_,rfl⟩;exact Ak
end
section
def TU:Nat->List PD->List aA->Option (PD×List aA):=entry (eM Em.bB Em.bB (OD.nT i64) λa b=>dY (cL a/\cL b/\(bT a≠0\/bT b≠0)) (some ([],if bT a≠0 then bT a else bT b)))
theorem aTT{a b:aV}(ha:cL a)(hb:cL b)(h:bT a≠0\/bT b≠0)(fl:Nat)(σ:List aA):TU fl [Em.bB.aB a,Em.bB.aB b] σ=some (.aH [.slice 0 [] .any,.int .i64 (if bT a≠0 then bT a else bT b)],σ):=by
 have e1:=Em.cT (Em.bB.str a);have e2:=Em.cT (Em.bB.str b);unfold TU entry eM;simp only[e1,e2];rw[fM ⟨ha,hb,h⟩];rfl
def N7:Nat->List PD->List aA->Option (PD×List aA):=entry (eM Em.bB Em.bB (S5.nT i64) λa b=>dY (cL a/\bT a≠0) (some ([],bT a)))
theorem aTU{a b:aV}(ha:cL a)(h:bT a≠0)(fl:Nat)(σ:List aA):N7 fl [Em.bB.aB a,Em.bB.aB b] σ=some (.aH [.slice 0 [] .any,.int .i64 (bT a)],σ):=by
 have e1:=Em.cT (Em.bB.str a);have e2:=Em.cT (Em.bB.str b);unfold N7 entry eM;simp only[e1,e2];rw[fM ⟨ha,h⟩];rfl
variable{E:aE}(hU:aJ E)
include hU
theorem aTo(h0:E 20=none)(h1:E 27=some B9)(a b:aV)(ha:cL a)(ea:bT a≠0):aI prog E 20 [Em.bB.aB a,Em.bB.aB b] ((S5.nT i64).aB ([],bT a)):=by
 have hA:=EM ha;obtain⟨e,he⟩:=gn (bT a);rw[he]at hA ea ⊢;obtain⟨an,ar,ad,ac⟩:=a;obtain⟨bn,br,bd,bc⟩:=b;simp only[dT,aU]at hA ⊢;refine aI.aG 73 h0 func20 (h:=?_);refine aC trivial ?_;refine Wp.loop ?_;refine aC (A3 h1 hA ea) ?_;exact nt
theorem aTL(h0:E 25=none)(h1:E 27=some B9)(a b:aV)(ha:cL a)(hb:cL b)(h:bT a≠0\/bT b≠0):aI prog E 25 [Em.bB.aB a,Em.bB.aB b] ((OD.nT i64).aB ([],if bT a≠0 then bT a else bT b)):=by
 have hA:=EM ha;have hB:=EM hb;obtain⟨e,he⟩:=gn (bT a);obtain⟨f,hf⟩:=gn (bT b);rw[he]at hA h ⊢;rw[hf]at hB h ⊢;obtain⟨an,ar,ad,ac⟩:=a;obtain⟨bn,br,bd,bc⟩:=b;simp only[dT,aU]at hA hB ⊢
 by_cases hz:e=0
 rotate_left
 .rw[yAJ hz];have DJ:=h0;refine aI.aG 93 h0 func25 (h:=?_);refine aC trivial ?_;refine Wp.loop ?_;refine aC (A3 h1 hA @hz) ?_;exact nt
 subst hz;have hz:f≠0:=h.resolve_left (λe=>e rfl);rw[yAI (λe=>e rfl)];refine aI.aG 93 h0 func25 (h:=?_);refine aC trivial ?_;refine Wp.loop ?_;refine aC (A2 h1 hA) ?_;refine Wp.loop ?_;refine aC (A3 h1 hB @hz) ?_;exact nt
end
theorem aTw{E:aE}(hU:aJ E)(h0:E 16=none)(h1:E 13=some zV)(h2:E 39=some rM)(h3:E 40=some BS)(c:rE)(hc:zJ c):aI prog E 16 [Em.change.aB c] (Em.edit.aB (sM c)):=by
 by_cases q0:(c.kind<1)\/(c.kind=2)\/(c.kind=5)\/(c.kind=8)
 .exact aTV hU h0 h1 h2 h3 c hc q0
 by_cases q1:(c.kind=11)\/(c.kind=1\/c.kind=3)\/(c.kind=4\/c.kind=6)
 .exact aTW hU h0 h1 h2 h3 c hc q1
 by_cases q2:(c.kind=7\/c.kind=9)\/(c.kind=10\/c.kind=12)\/(c.kind=13)
 .exact aTX hU h0 h1 h2 h3 c hc q2
 exact aTY hU h0 h1 h2 h3 c hc Cj
def N8:Nat->List PD->List aA->Option (PD×List aA):=entry (cK Em.change Em.edit λc=>dY (zJ c) (some (sM c)))
theorem aHC{c:rE}(h:zJ c)(fl:Nat)(σ:List aA):N8 fl [Em.change.aB c] σ=some (Em.edit.aB (sM c),σ):=by
 have e1:=Em.cT (Em.change.str c);unfold N8 entry cK;simp only[e1,fM h]
def OA:Nat->List PD->List aA->Option (PD×List aA):=entry (eM Em.bB OD (Em.bB.UJ i64 i64) λo l=>dY (cL o/\(∀x∈l,kL x)/\l.length<=1000000) (some (xF o l)))
theorem aA6{o:aV}{l:List cF}{q:PD}(ho:cL o)(hx:∀x∈l,kL x)(hl:l.length<=1000000)(hq:q.strip=OD.aB l)(fl:Nat)(σ:List aA):OA fl [Em.bB.aB o,q] σ=some (.aH [Em.bB.aB (xF o l).1,.int .i64 (xF o l).2.1,.int .i64 (xF o l).2.2],σ):=by
 have e1:=Em.cT (Em.bB.str o);have e2:=Em.cT hq;unfold OA entry eM;simp only[e1,e2];rw[fM ⟨ho,hx,hl⟩];rfl
def TT:Nat->List PD->List aA->Option (PD×List aA):=entry (eM Em.bB Em.edit (Em.edit.nT i64) λo x=>dY (cL o/\kL x) (some (HA o x)))
theorem aTN{o:aV}{x:cF}(ho:cL o)(hx:kL x)(fl:Nat)(σ:List aA):TT fl [Em.bB.aB o,Em.edit.aB x] σ=some (.aH [Em.edit.aB (HA o x).1,.int .i64 (HA o x).2],σ):=by
 have e1:=Em.cT (Em.bB.str o);have e2:=Em.cT (Em.edit.str x);unfold TT entry eM;simp only[e1,e2,fM (show cL o/\kL x from⟨ho,hx⟩)];rfl
def OC:Nat->List PD->List aA->Option (PD×List aA):=entry (cK Em.bB Em.bool λo=>dY (eF o) (some (decide (o=gE))))
theorem aHD{o:aV}(h:eF o)(fl:Nat)(σ:List aA):OC fl [Em.bB.aB o] σ=some (.bool (decide (o=gE)),σ):=by
 have e1:=Em.cT (Em.bB.str o);unfold OC entry cK;exact uc
theorem OE:lV nV:=show 3<=100000 by decide
theorem aTO:lV [120]:=show 1<=100000 by decide
theorem aA7:zP dV:=⟨yAF _,yAF _,yAF _⟩
theorem aA8:sP cX:=⟨yAF _,yAF _,λ_ h=>Co⟩
theorem aHE:GU eD:=⟨⟨yAF _,λ_ h=>Co⟩,yAF _⟩
theorem aA9:kL AR:=⟨yAF _,aA7,aA8,aHE,yAF _⟩
theorem aTP{w:Int}{o:aV}{x:cF}(ho:oL o)(hx:kL x):kL (mX w o x):=by
 obtain⟨x1,x2,x3,x4,x5⟩:=hx;have hR:zP (o.aR.getD 0 dV):=by
  cases h:o.aR with
  |nil=>exact aA7
  |cons a t=>exact ho.aR a (by rw[h];exact yBf ..)
 have hD:sP (vJ o):=by
  unfold vJ
  by_cases h:o.aD.length-1<o.aD.length
  .exact ho.aD _ (ME h cX)
  .rw[yAA,yBF Cj];exact aA8
 unfold mX;split
 .exact⟨x1,⟨hR.1,OE,hR.2.2⟩,x3,x4,x5⟩
 split
 .exact⟨x1,x2,⟨OE,hD.2⟩,x4,x5⟩
 split
 .cases h:(vJ o).stops with
  |nil=>exact⟨x1,x2,x3,x4,x5⟩
  |cons s t=>exact⟨x1,x2,x3,⟨(hD.2.2 s (by rw[h];exact yBf ..)).1,OE⟩,x5⟩
 split
 .cases h:o.aP with
  |nil=>exact⟨x1,x2,x3,x4,x5⟩
  |cons s t=>exact⟨x1,x2,x3,x4,OE⟩
 split
 .exact⟨OE,x2,x3,x4,x5⟩
 .exact⟨x1,x2,x3,x4,x5⟩
theorem aHF{c:rE}(h:zJ c):kL (sM c):=by
 unfold sM;have h1:kL (mX (gR c.kind) (fU c.dQ) ⟨c.kind,0,c.idx,[],dV,cX,eD,eU⟩):=aTP (F6 h.2.1 h.2.2.1).2 ⟨yAF _,aA7,aA8,aHE,yAF _⟩;have h2:kL (F5 c (mX (gR c.kind) (fU c.dQ) ⟨c.kind,0,c.idx,[],dV,cX,eD,eU⟩)):=by
  unfold F5;split
  .exact h1
  .exact h1
 obtain⟨x1,x2,x3,x4,x5⟩:=h2;unfold qA;split
 .exact⟨aTO,x2,x3,x4,x5⟩
 split
 .exact⟨x1,⟨(show 1<=1000000 by decide),x2.2⟩,x3,x4,x5⟩
 split
 .exact⟨x1,x2,x3,x4,x5⟩
 split
 .exact⟨x1,x2,x3,x4,x5⟩
 .exact⟨x1,x2,x3,x4,x5⟩
theorem aTQ(rs:List bH)(dd:List bI)(cc:List bX):bT ⟨[],rs,dd,cc⟩=8:=rfl
theorem OF{o:aV}(h:(uE o).2≠0):(uE o).1=gE:=by
 unfold uE at h ⊢;split
 .rename_i e;rw[yAJ e]at h;exact absurd rfl h
 .rfl
theorem aTR{o:aV}{x:cF}(h:(lB o x).2≠0):(lB o x).1=gE:=by
 unfold lB at h ⊢;split at h
 .rename_i h1;rw[yAJ h1]
 rename_i h1;rw[yAI h1];split at h
 .rename_i h1;rw[yAJ h1];exact OF h
 rename_i h1;rw[yAI h1];split at h
 .exact Ax
 rename_i h1;rw[yAI h1];split at h
 .exact Ax
 rename_i h1;rw[yAI h1];split at h
 .rename_i h1;rw[yAJ h1];exact iw
 rename_i h1;rw[yAI h1];exact iw
theorem aBa:cL gE:=aRo.cL (yAF _) (yAF _) (yAF _)
theorem aTn:aF prog (RC.add 20 N7):=aEC.rF bK λa b z hz=>by obtain⟨h,e⟩:=fO hz;cases e;exact aTo XS rfl rfl a b h.1 h.2
theorem aTp:aF prog (zT.add 18 AQ):=aKN.aDm bK λo x z hz=>by obtain⟨h,e⟩:=fO hz;cases e;exact aKU o x h.1 h.2
theorem aTq:aF prog (RG.add 42 AQ):=aNV.aDm bK λo x z hz=>by obtain⟨h,e⟩:=fO hz;cases e;exact aOe o x h.1 h.2
theorem aTr:aF prog (wV.add 41 J6):=aEU.aDl bK λo z hz=>by obtain⟨h,e⟩:=fO hz;cases e;exact aTs o h
theorem aTt:aF prog (BT.add 40 BS):=aDI.aDl bK λo z hz=>by obtain⟨h,e⟩:=fO hz;cases e;exact aKq o h
def Ar1:aE:=BT.add 40 BS
theorem aTu:aF prog Ar1:=aTt
theorem aHv:aJ Ar1:=WG.entry
def Ar2:aE:=Ar1.add 16 N8
theorem aTv:aF prog Ar2:=aTu.mR bK λx z hz=>by obtain⟨h,e⟩:=fO hz;cases e;exact aTw aHv rfl rfl rfl rfl x h
theorem aTx:aJ Ar2:=aHv.entry
def Ar3:aE:=Ar2.add 18 AQ
theorem aTy:aF prog Ar3:=aF.pick aTp aTv Dk
theorem aTz:aJ Ar3:=aTx.entry
def Ar4:aE:=Ar3.add 42 AQ
theorem aTA:aF prog Ar4:=aF.pick aTq aTy Dk
theorem aTB:aJ Ar4:=aTz.entry
def Ar5:aE:=Ar4.add 41 J6
theorem aTC:aF prog Ar5:=aF.pick aTr aTA Dk
theorem aHw:aJ Ar5:=aTB.entry
def Ar6:aE:=Ar5.add 23 N9
theorem aTD:aF prog Ar6:=aTC.rF bK λo x z hz=>by obtain⟨h,e⟩:=fO hz;cases e;exact aTE aHw rfl rfl rfl o x h.1 h.2
theorem aHx:aJ Ar6:=aHw.entry
def Ar7:aE:=Ar6.add 17 OA
theorem aTF:aF prog Ar7:=aTD.rF bK λo x z hz=>by obtain⟨h,e⟩:=fO hz;cases e;exact aTG aHx rfl rfl rfl rfl o x h.1 h.2.1 h.2.2
theorem aHy:aJ Ar7:=aHx.entry
def Ar8:aE:=Ar7.add 21 TT
theorem aTH:aF prog Ar8:=aTF.rF bK λo x z hz=>by obtain⟨h,e⟩:=fO hz;cases e;exact aTI aHy rfl rfl rfl rfl o x h.1 h.2
theorem aHz:aJ Ar8:=aHy.entry
def Ar9:aE:=Ar8.add 19 OC
theorem aTJ:aF prog Ar9:=aTH.mR bK λo z hz=>by obtain⟨h,e⟩:=fO hz;cases e;exact aTm aHz rfl rfl o h
theorem aHA:aJ Ar9:=aHz.entry
def aA5:aE:=Ar9.add 25 TU
theorem aTK:aF prog aA5:=aTJ.rF bK λa b z hz=>by obtain⟨h,e⟩:=fO hz;cases e;exact aTL aHA rfl rfl a b h.1 h.2.1 h.2.2
theorem aTM:aJ aA5:=aHA.entry
def aHB:aE:=aA5.add 20 N7
theorem aBh:aF prog aHB:=aF.pick aTn aTK Dk
theorem aBg:aJ aHB:=aTM.entry
end Go.Kz
end
