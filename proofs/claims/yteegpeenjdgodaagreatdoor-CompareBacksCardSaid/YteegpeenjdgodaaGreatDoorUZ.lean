import Derived.Test.YteegpeenjdgodaaGreatDoorS5b
import Derived.Test.YteegpeenjdgodaaGreatDoorS3
import Derived.Test.YteegpeenjdgodaaGreatDoorCards
import Derived.Test.YteegpeenjdgodaaGreatDoorTie
import Derived.SevenTiedAt
import Derived.Test.YteegpeenjdgodaaGreatDoorU8
import Derived.Test.YteegpeenjdgodaaGreatDoorS0
import Derived.Test.YteegpeenjdgodaaGreatDoorU4
import Derived.Test.YteegpeenjdgodaaGreatDoorU4c
import Derived.Test.YteegpeenjdgodaaGreatDoorU4d
import Derived.Test.YteegpeenjdgodaaGreatDoorU4b
import Derived.Test.YteegpeenjdgodaaGreatDoorU2
set_option linter.all false
set_option maxHeartbeats 40000000
set_option maxRecDepth 100000
open Go.Proofs.Tryz
noncomputable section
namespace Go.Proofs.YteegpeenjdgodaaGreatDoor
open Go Go.Kz Go.ChangeShapes Go.WideShapes Go.ChangeAt Go.WideMaps Go.WideElems Go.RowKit
set_option maxRecDepth 100000
theorem own:ownKnob prog.godebug=none:=by kernel_rfl
theorem laidOut:laidOutB prog=true:=by kernel_rfl
abbrev G2:List (String×DataW Unit):=[("math/bits.deBruijn32tab",Rows.laid_math_bits_deBruijn32tab),("math/bits.deBruijn64tab",Rows.laid_math_bits_deBruijn64tab),("internal/strconv.uint64pow10",Rows.laid_internal_strconv_uint64pow10)]
theorem aG8:(G2.all fun x=>x.2.handleName?.isNone)=true:=by decide +kernel
def G6(g:Nat):List Int:=match yX g with|some (_,xs)=>xs|none=>[]
theorem aAL:yX 0=some (.u64,G6 0):=rfl
theorem aAM:yX 2=some (.u8,G6 2):=rfl
theorem aAN:yX 3=some (.u8,G6 3):=rfl
theorem S4{g:Nat}(h0:g≠0)(h2:g≠2)(h3:g≠3):yX g=none:=by unfold yX;rw[yAI h0,yAI h2,yAI h3]
theorem NY{g:Nat}(h:g≠1):G7 g=none:=by unfold G7;rw[yAI h]
theorem S5{g:Nat}{k:IntKind}{xs:List Int}(h:yX g=some (k,xs))(hi:G7 g=none):aAO g (xs.map (Value.int k)).toArray:=by
 refine⟨fun k' zs hk=>?_,fun k' hk=>?_⟩
 ·rw[h]at hk
  simp only[yAb,yAc]at hk
  obtain⟨rfl,rfl⟩:=hk
  rfl
 ·rw[hi]at hk
  cases hk
theorem kM{W:World}(hs:W.ShapedOpen prog)(h:laidMetH prog G2 W):Gl (.start W):=by
 rw[MakeChecks.laidMetH_plain _ _ _ aG8]at h
 obtain⟨ps,hv,_,_⟩:=h
 obtain⟨Ta,fa,ha⟩:=S6 (P:=prog) (nm:= "internal/strconv.uint64pow10") (k:=.u64) (xs:=G6 0) (g:=0) (n:=20) hv (List.Mem.tail _ (List.Mem.tail _ (List.Mem.head _))) (by kernel_rfl) (t:=254) (by kernel_rfl) underlying254 underlying226 (by kernel_rfl) (by kernel_rfl)
 obtain⟨Tb,fb,hb⟩:=S6 (P:=prog) (nm:= "math/bits.deBruijn32tab") (k:=.u8) (xs:=G6 2) (g:=2) (n:=32) hv (List.Mem.head _) (by kernel_rfl) (t:=275) (by kernel_rfl) underlying275 underlying5 (by kernel_rfl) (by kernel_rfl)
 obtain⟨Tc,fc,hc⟩:=S6 (P:=prog) (nm:= "math/bits.deBruijn64tab") (k:=.u8) (xs:=G6 3) (g:=3) (n:=64) hv (List.Mem.tail _ (List.Mem.head _)) (by kernel_rfl) (t:=276) (by kernel_rfl) underlying276 underlying5 (by kernel_rfl) (by kernel_rfl)
 obtain⟨m,T0,fz0,h0⟩:=aG9 (g:=1) (t:=3) (k:=.i64) (zero:=#[.int .i64 0]) hs (by decide +kernel) (by kernel_rfl) rfl (by kernel_rfl) (by kernel_rfl) underlying3
 refine⟨?_,?_⟩
 ·intro g ds hg
  by_cases e0:g=0
  ·subst e0
   simp only[AO,aAL,yAb]at hg
   subst hg
   exact S7 ha
  by_cases e2:g=2
  ·subst e2
   simp only[AO,aAM,yAb]at hg
   subst hg
   exact S7 hb
  by_cases e3:g=3
  ·subst e3
   simp only[AO,aAN,yAb]at hg
   subst hg
   exact S7 hc
  simp only[AO,S4 e0 e2 e3]at hg
  cases hg
 ·intro g hg
  refine⟨?_,fun id hd=>hd.elim⟩
  by_cases e0:g=0
  ·subst e0
   exact⟨_,Ta,fa,ha,S5 aAL (NY (by decide))⟩
  by_cases e2:g=2
  ·subst e2
   exact⟨_,Tb,fb,hb,S5 aAM (NY (by decide))⟩
  by_cases e3:g=3
  ·subst e3
   exact⟨_,Tc,fc,hc,S5 aAN (NY (by decide))⟩
  by_cases e1:g=1
  ·subst e1
   refine⟨_,T0,fz0,h0,?_,?_⟩
   ·intro k zs hk
    rw[S4 e0 e2 e3]at hk
    cases hk
   ·intro k hk
    have:k=.i64:=by
     have:G7 1=some .i64:=rfl
     rw[this]at hk
     exact(yAS hk).symm
    subst this
    exact⟨m,rfl⟩
  unfold aAP at hg
  rw[S4 e0 e2 e3,NY e1]at hg
  cases hg
noncomputable def aAH(os:Os):World:=World.doorLaid prog 400 os
theorem aG2(os:Os)(args:Array Value):laidMetH prog G2 ((aAH os).forCall (fun _ _=>0) ⟨#[],args,[]⟩).memory:=
 laidMetH_of_parts3 (fuel:=8) (laidMet_of_run' 8 (by kernel_rfl) (by kernel_rfl)) (by kernel_rfl) (by kernel_rfl)
theorem named:(prog.funcs.toList.all fun fn=>!(fn.name== "runtime.NumGoroutine"))=true:=by kernel_rfl
theorem names(f:FuncId)(fn:Func)(h:prog.funcs[f]?=some fn):(fn.name== "runtime.NumGoroutine")=false:=by
 have:=yAn.1 named fn (yCc.2 (yDD h))
 simpa using this
theorem aHa{d:Nat}{qs:Jk}(h:Typed prog (d+2) 101 qs):∃ws,qs=ws/\∃w0 w1 w2 w3 w4:Int,ws=[.int .u8 w0,.int .u8 w1,.int .u8 w2,.int .u8 w3,.int .u8 w4]/\iB w0/\iB w1/\iB w2/\iB w3/\iB w4:=by
 have hu:=underlying101
 unfold Typed at h
 rw[hu]at h
 simp only at h
 obtain⟨xs,hl,hx,rfl⟩:=h
 match xs,hl,hx with
 | [x0,x1,x2,x3,x4],_,hx=>
   obtain⟨a,rfl,wa⟩:=nG underlying5 (hx x0 (by simp))
   obtain⟨b,rfl,wb⟩:=nG underlying5 (hx x1 (by simp))
   obtain⟨c,rfl,wc⟩:=nG underlying5 (hx x2 (by simp))
   obtain⟨e,rfl,we⟩:=nG underlying5 (hx x3 (by simp))
   obtain⟨f,rfl,wf⟩:=nG underlying5 (hx x4 (by simp))
   exact⟨_,rfl,a,b,c,e,f,rfl,wf_u8 wa,wf_u8 wb,wf_u8 wc,wf_u8 we,wf_u8 wf⟩
theorem wf_i8{z:Int}(hz:(Lit.int .i8 z).wf=true):-128<=z/\z<=127:=by
 simp only[Lit.wf,yAr,yCa]at hz
 exact hz
section
variable{d:Nat}{qs:Jk}
theorem aHb(h:Typed prog (d+3) 103 qs):∃x:n8,nF prog 103 qs=Em.yY.aB x/\CQ x:=by
 obtain⟨q0,r0,rfl,h0,h⟩:=lV (G4 underlying103 h)
 obtain⟨q1,r1,rfl,h1,h⟩:=lV h
 obtain⟨q2,r2,rfl,h2,h⟩:=lV h
 obtain⟨q3,r3,rfl,h3,h⟩:=lV h
 obtain⟨q4,r4,rfl,h4,h⟩:=lV h
 obtain rfl:=G5 h
 obtain⟨a,rfl,wa⟩:=nG underlying5 h0
 obtain⟨b,rfl,wb⟩:=nG underlying5 h1
 obtain⟨c,rfl,wc⟩:=nG underlying100 h2
 obtain⟨e,rfl,we⟩:=nG underlying5 h3
 obtain⟨ws,rfl,hw⟩:=aHa h4
 obtain⟨w0,w1,w2,w3,w4,rfl,k0,k1,k2,k3,k4⟩:=hw
 exact⟨⟨a,b,c,e,w0,w1,w2,w3,w4⟩,ER (by kernel_rfl),wf_u8 wa,wf_u8 wb,wf_i8 wc,wf_u8 we,k0,k1,k2,k3,k4⟩
theorem aHc(h:Typed prog (d+2) 106 qs):∃x:qL,nF prog 106 qs=Em.pull.aB x/\ES x:=by
 obtain⟨q0,r0,rfl,h0,h⟩:=lV (G4 underlying106 h)
 obtain⟨q1,r1,rfl,h1,h⟩:=lV h
 obtain⟨q2,r2,rfl,h2,h⟩:=lV h
 obtain⟨q3,r3,rfl,h3,h⟩:=lV h
 obtain rfl:=G5 h
 obtain⟨a,rfl,wa⟩:=nG underlying5 h0
 obtain⟨b,rfl,wb⟩:=nG underlying5 h1
 obtain⟨c,rfl,wc⟩:=nG underlying5 h2
 obtain⟨e,rfl,we⟩:=nG underlying5 h3
 exact⟨⟨a,b,c,e⟩,ER (by kernel_rfl),wf_u8 wa,wf_u8 wb,wf_u8 wc,wf_u8 we⟩
theorem aHd(h:Typed prog (d+4) 95 qs):∃x:rZ,nF prog 95 qs=Em.ET.aB x/\okB x:=by
 obtain⟨q0,r0,rfl,h0,h⟩:=lV (G4 underlying95 h)
 obtain⟨q1,r1,rfl,h1,h⟩:=lV h
 obtain⟨q2,r2,rfl,h2,h⟩:=lV h
 obtain⟨q3,r3,rfl,h3,h⟩:=lV h
 obtain rfl:=G5 h
 obtain⟨a,rfl,wa⟩:=nG underlying5 h0
 obtain⟨b,rfl,wb⟩:=nG underlying5 h1
 obtain⟨c,rfl⟩:=aAQ underlying4 h2
 obtain⟨ys,rfl,_,hy⟩:=NZ (em:=Em.pull) (R:=ES) underlying93 (k:=4) (by kernel_rfl) (fun x hx=>aHc hx) h3
 exact⟨⟨a,b,c,ys⟩,ER (by kernel_rfl),wf_u8 wa,wf_u8 wb,hy⟩
theorem aHe(h:Typed prog (d+2) 108 qs):∃x:tB,nF prog 108 qs=Em.link.aB x/\S8 x:=by
 obtain⟨q0,r0,rfl,h0,h⟩:=lV (G4 underlying108 h)
 obtain⟨q1,r1,rfl,h1,h⟩:=lV h
 obtain⟨q2,r2,rfl,h2,h⟩:=lV h
 obtain⟨q3,r3,rfl,h3,h⟩:=lV h
 obtain rfl:=G5 h
 obtain⟨a,rfl,wa⟩:=nG underlying5 h0
 obtain⟨b,rfl,wb⟩:=nG underlying5 h1
 obtain⟨c,rfl,wc⟩:=nG underlying100 h2
 obtain⟨e,rfl⟩:=aAQ underlying4 h3
 exact⟨⟨a,b,c,e⟩,ER (by kernel_rfl),wf_u8 wa,wf_u8 wb,wf_i8 wc⟩
theorem aAJ(h:Typed prog (d+6) 26 qs):∃x:pY,nF prog 26 qs=Em.eK.aB x/\yW x:=by
 obtain⟨q0,r0,rfl,h0,h⟩:=lV (G4 underlying26 h)
 obtain⟨q1,r1,rfl,h1,h⟩:=lV h
 obtain⟨q2,r2,rfl,h2,h⟩:=lV h
 obtain rfl:=G5 h
 obtain⟨xs,rfl,_,hx⟩:=NZ (em:=Em.yY) (R:=CQ) underlying22 (k:=9) (by kernel_rfl) (fun x hx=>aHb hx) h0
 obtain⟨ys,rfl,_,hy⟩:=NZ (em:=Em.ET) (R:=okB) underlying23 (k:=4) (by kernel_rfl) (fun x hx=>aHd hx) h1
 obtain⟨zs,rfl,_,hz⟩:=NZ (em:=Em.link) (R:=S8) underlying24 (k:=4) (by kernel_rfl) (fun x hx=>aHe hx) h2
 exact⟨⟨xs,ys,zs⟩,ER (by kernel_rfl),hx,hy,hz⟩
end
end Go.Proofs.YteegpeenjdgodaaGreatDoor
namespace Go.Proofs.YteegpeenjdgodaaGreatDoor
open Go Go.Kz Go.ChangeShapes Go.WideShapes Go.ChangeAt Go.WideMaps Go.WideElems Go.RowKit
set_option maxRecDepth 100000
theorem aG3{d:Nat}{qs:Jk}(h:Typed prog (d+7) 43 qs):∃c:tA,nF prog 43 qs=Em.change.aB c/\EP c.kind/\yW c.eK/\iB c.extra:=by
 obtain⟨q0,r0,rfl,h0,h⟩:=lV (G4 underlying43 h)
 obtain⟨q1,r1,rfl,h1,h⟩:=lV h
 obtain⟨q2,r2,rfl,h2,h⟩:=lV h
 obtain⟨q3,r3,rfl,h3,h⟩:=lV h
 obtain⟨q4,r4,rfl,h4,h⟩:=lV h
 obtain rfl:=G5 h
 obtain⟨a,rfl,wa⟩:=nG underlying3 h0
 obtain⟨b,rfl,wb⟩:=nG underlying3 h1
 obtain⟨c,rfl,wc⟩:=nG underlying3 h2
 obtain⟨x,e,hx⟩:=aAJ h3
 obtain⟨z,rfl,wz⟩:=nG underlying5 h4
 have e2:PD.agg q3=.agg [JU.aB x.aQ,JV.aB x.aD,JW.aB x.aL]:=(ER (by kernel_rfl)).symm.trans e
 injection e2 with e2
 subst e2
 exact⟨⟨a,b,c,x,z⟩,ER (by kernel_rfl),wf_i64 wa,hx,wf_u8 wz⟩
end Go.Proofs.YteegpeenjdgodaaGreatDoor
namespace Go.Kz
open Go Go.Proofs
section
abbrev pOE:Em (aY×Int):=Em.bY.p7 i64
open Classical in
def EL:Nat->List PD->List aA->Option (PD×List aA):=entry (fF Em.bY Em.edit pOE λo x=>eL (jP o/\l7 x) (some (cP o x)))
theorem aG0{o:aY}{x:bM}(ho:jP o)(hx:l7 x)(fl:Nat)(σ:List aA):EL fl [Em.bY.aB o,Em.edit.aB x] σ=some (.aH [Em.bY.aB (cP o x).1,.int .i64 (cP o x).2],σ):=by
 have e1:=Em.dC (Em.bY.str o);have e2:=Em.dC (Em.edit.str x);unfold EL entry fF;simp only[e1,e2,fY (show jP o/\l7 x from⟨ho,hx⟩)];rfl
def NR:Nat->List PD->List aA->Option (PD×List aA):=entry (cU Em.bY Em.bY λo=>eL (jP o) (some o))
theorem aTb{o:aY}(ho:jP o)(fl:Nat)(σ:List aA):NR fl [Em.bY.aB o] σ=some (Em.bY.aB o,σ):=by
 have e1:=Em.dC (Em.bY.str o);unfold NR entry cU;simp only[e1,fY ho]
theorem aSV(o:aY)(ho:jP o):RunT prog w5 41 [Em.bY.aB o] (Em.bY.aB o):=by
 obtain⟨p,σ,h1,⟨iR,iD,iC,ds,tS,tss,tG,tgs,tW,hO⟩,_,_⟩:=(IX o ho.dP.fX []).ex;obtain⟨l1,l2,l3⟩:=sS hO ho.short;refine⟨20,p,σ,h1,?_⟩;have:=hO.p;subst this;exact QS (qD.qF l1) (qE.qF l2) (o4.qF l3) 11
def rY(o:aY)(x:bM):aY×Int:=if dG o=0 then cP o x else(vL,dG o)
theorem NU{o:aY}(hf:o0 o)(h:(iQ o).2=0):jP (iQ o).1:=by
 unfold iQ at h ⊢
 by_cases e:dG o=0
 .rw[yAJ e];exact⟨e,hf⟩
 .rw[yAI e]at h;exact absurd h e
theorem aTc{o:aY}{x:bM}(ho:jP o)(hx:l7 x)(h:(cP o x).2=0):jP (cP o x).1:=by
 obtain⟨b1,b2,b3,b4⟩:=ho.bounds;unfold cP at h ⊢;split at h
 .rename_i hf;exact absurd h hf
 rename_i hf;rw[yAI hf];split at h
 .rename_i bK;rw[yAJ bK];exact NU ⟨hx.1,ho.2.aQ,ho.2.aD,ho.2.aL⟩ h
 rename_i bK;rw[yAI bK];split at h
 .rename_i t0;rw[yAJ t0];split at h
  .rename_i hi;rw[yAJ hi];split at h
   .rename_i hc;rw[yAJ hc];exact NU (aEx ho.2 hx.2.1 _ _) h
   .exact ek
  .exact ek
 rename_i t0;rw[yAI t0];split at h
 .rename_i t1;rw[yAJ t1];split at h
  .rename_i hi;rw[yAJ hi];split at h
   .rename_i hc;rw[yAJ hc];exact NU (aEy ho.2 hx.2.2.1 _ _) h
   .exact ek
  .exact ek
 rename_i t1;rw[yAI t1];split at h
 .rename_i t2;rw[yAJ t2];split at h
  .rename_i hi;rw[yAJ hi];exact NU (VM ho.2 hx.2.2.2.1 _ _ _ Cd (by have:=b4 _ (BT (show x.div.toNat<o.aD.length by omega) aU);omega)) h
  .exact ek
 rename_i t2;rw[yAI t2];split at h
 .rename_i hi;rw[yAJ hi];exact NU (VN ho.2 hx.2.2.2.2 _ _) h
 .exact ek
variable{E:aE}(hU:aJ E)
include hU
theorem aS6(h0:E 23=none)(h1:E 27=some LX)(h2:E 42=some EL)(o:aY)(x:bM)(ho:dP o)(hx:l7 x):aI prog E 23 [Em.bY.aB o,Em.edit.aB x] (pOE.aB (rY o x)):=by
 have k1:=λfl σ=>aAl ho fl σ
 have k2:=λhe fl σ=>aG0 (o:=o) (x:=x) ⟨he,ho.fit⟩ hx fl σ
 unfold rY;obtain⟨e,he⟩:=gn (dG o);rw[he]at k1 k2 ⊢;obtain⟨⟨o2,f⟩,hr⟩:∃r,cP o x=r:=⟨_,rfl⟩;rw[hr]at k2 ⊢;obtain⟨kd,dv,ix,nm,⟨rn,rt,ra,rb,rf,wd⟩,⟨fn,fp,flo,fhi,fs⟩,⟨sn,sa,sb,sg⟩,⟨cn,ca,cb,cs,ct⟩⟩:=x;obtain⟨on,rs,dd,cc⟩:=o;obtain⟨on2,rs2,dd2,cc2⟩:=o2;simp only[bZ,fE,bC]at k1 k2 ⊢
 by_cases hz:e=0
 .subst hz;have k2:=k2 rfl;refine aI.aG 18 h0 func23 (h:=?_);refine aC (A4 h1 k1 h2 k2) ?_;exact ag
 .have l6:=h0;refine aI.aG 18 h0 func23 (h:=?_);refine aC (A3 h1 k1 @hz) ?_;simp(disch:=first|omega|(simp;done)|(simp;omega)) [yAu,hz,vL,sz]<;>try rfl
end
section
def NS:Nat->List PD->List aA->Option (PD×List aA):=entry (fF Em.bY Em.edit pOE λo x=>eL (dP o/\l7 x) (some (rY o x)))
theorem aGZ{o:aY}{x:bM}(ho:dP o)(hx:l7 x)(fl:Nat)(σ:List aA):NS fl [Em.bY.aB o,Em.edit.aB x] σ=some (.aH [Em.bY.aB (rY o x).1,.int .i64 (rY o x).2],σ):=by
 have e1:=Em.dC (Em.bY.str o);have e2:=Em.dC (Em.edit.str x);unfold NS entry fF;simp only[e1,e2,fY (show dP o/\l7 x from⟨ho,hx⟩)];rfl
def EN:bM:=⟨0,0,0,[],bB,aU,bA,bD⟩
def cV(o:aY)(x:bM):bM:=
 if x.kind=13 then⟨13,0,0,o.name,bB,aU,bA,bD⟩
 else if (x.kind-1)%3=0 then⟨x.kind+1,x.div,x.idx,[],bB,aU,bA,bD⟩
 else
  let k:=if (x.kind-1)%3=1 then x.kind-1 else x.kind
  if (x.kind-1)/3=0 then⟨k,x.div,x.idx,[],o.aQ.getD x.idx.toNat bB,aU,bA,bD⟩
  else if (x.kind-1)/3=1 then⟨k,x.div,x.idx,[],bB,o.aD.getD x.idx.toNat aU,bA,bD⟩
  else if (x.kind-1)/3=2 then⟨k,x.div,x.idx,[],bB,aU,(o.aD.getD x.div.toNat aU).stops.getD x.idx.toNat bA,bD⟩
  else⟨k,x.div,x.idx,[],bB,aU,bA,o.aL.getD x.idx.toNat bD⟩
def CN(o:aY)(x:bM):bM×Int:=if (rY o x).2=0 then(cV o x,0)else(EN,(rY o x).2)
theorem wG{o:aY}{x:bM}(h:(cP o x).2=0):fS x=0/\(1<=x.kind/\x.kind<=13)/\(x.kind≠13 ->
  ((x.kind-1)/3=0->eI ((x.kind-1)%3) x.idx o.aQ.length)/\((x.kind-1)/3=1->eI ((x.kind-1)%3) x.idx o.aD.length) /\
  ((x.kind-1)/3=2->(0<=x.div/\x.div<o.aD.length)/\eI ((x.kind-1)%3) x.idx (o.aD.getD x.div.toNat aU).stops.length)/\((x.kind-1)/3=3->eI ((x.kind-1)%3) x.idx o.aL.length)):=by
 have hf:fS x=0:=by
  apply yCY;intro e;unfold cP at h;rw[yAJ e]at h;exact e h
 have hk:1<=x.kind/\x.kind<=13:=by
  exact xo
 refine⟨hf,hk,λbK=>?_⟩;unfold cP at h;rw[yAI Dz,yAI bK]at h;refine⟨λt=>?_,λt=>?_,λt=>?_,λt=>?_⟩
 .rw[yAJ t]at h;exact Ab
 .rw[yAI Cd,yAJ t]at h;exact Ab
 .rw[yAI Cd,yAI Cd,yAJ t]at h;exact Ab
 .rw[yAI Cd,yAI Cd,yAI Cd]at h;exact Ab
variable{E:aE}(hU:aJ E)
include hU
theorem aSR(h0:E 21=none)(h1:E 23=some NS)(h2:E 41=some NR)(h3:E 56=some sQ)(o:aY)(x:bM)(ho:dP o)(hx:l7 x):aI prog E 21 [Em.bY.aB o,Em.edit.aB x] ((Em.edit.p7 i64).aB (CN o x)):=by
 have k1:=λfl σ=>aGZ (o:=o) (x:=x) ho hx fl σ
 unfold CN
 by_cases hz:(rY o x).2=0
 rotate_left
 .rw[yAI hz];obtain⟨⟨o2,f⟩,hr⟩:∃r,rY o x=r:=⟨_,rfl⟩;rw[hr]at k1 hz ⊢;simp only at k1 hz ⊢;obtain⟨kd,dv,ix,nm,⟨rn,rt,ra,rb,rf,wd⟩,⟨fn,fp,flo,fhi,fs⟩,⟨sn,sa,sb,sg⟩,⟨cn,ca,cb,cs,ct⟩⟩:=x;obtain⟨on,rs,dd,cc⟩:=o;obtain⟨on2,rs2,dd2,cc2⟩:=o2;simp only[bZ,fE,bC]at k1 ⊢;refine aI.aG 96 h0 func21 (h:=?_);refine aC (A3 h1 k1 @hz) ?_;simp(disch:=first|omega|(simp;done)|(simp;omega)) [yAu,hz,EN,bB,aU,bA,bD,bZ,sz]<;>try rfl
 rw[yAJ hz];have he:dG o=0:=by
  unfold rY at hz;split at hz
  .assumption
  .exact hz
 have hA:rY o x=cP o x:=by unfold rY;rw[yAJ he]
 rw[hA]at hz k1;obtain⟨hf,hk,hix⟩:=wG hz;have hR:jP o:=⟨he,ho.fit⟩;have k2:=λfl σ=>aTb hR fl σ
 have k3:=λfl σ=>GA (x:=x) hk fl σ
 obtain⟨⟨o2,f⟩,hr⟩:∃r,cP o x=r:=⟨_,rfl⟩;rw[hr]at k1 hz;simp only at k1 hz;subst hz;obtain⟨on2,rs2,dd2,cc2⟩:=o2;clear hr hA he ho hf hx hR;unfold cV
 by_cases bK:x.kind=13
 .rw[yAJ bK];obtain⟨kd,dv,ix,nm,⟨rn,rt,ra,rb,rf,wd⟩,⟨fn,fp,flo,fhi,fs⟩,⟨sn,sa,sb,sg⟩,⟨cn,ca,cb,cs,ct⟩⟩:=x;obtain⟨on,rs,dd,cc⟩:=o;simp only[bZ,fE,bC]at k1 k2 k3 bK ⊢;subst bK;refine aI.aG 96 h0 func21 (h:=?_);refine aC (A2 h1 k1) ?_;exact uv
 rw[yAI bK];obtain⟨i0,i1,i2,i3⟩:=hix bK;obtain⟨th,hth⟩:=gn ((x.kind-1)/3);obtain⟨wy,hwy⟩:=gn ((x.kind-1)%3);have hs:(th=0\/th=1\/th=2\/th=3)/\(wy=0\/wy=1\/wy=2):=Cd;simp only[hth,hwy]at k3 i0 i1 i2 i3 ⊢;obtain⟨kd,dv,ix,nm,⟨rn,rt,ra,rb,rf,wd⟩,⟨fn,fp,flo,fhi,fs⟩,⟨sn,sa,sb,sg⟩,⟨cn,ca,cb,cs,ct⟩⟩:=x;obtain⟨on,rs,dd,cc⟩:=o;simp only[bZ,fE,bC]at k1 k2 k3 bK hk i0 i1 i2 i3 ⊢;have w1:IntKind.i64.wrap (kd+1)=kd+1:=Ci;have w2:IntKind.i64.wrap (kd-1)=kd-1:=Ci;clear hth hwy hk;obtain⟨hs1,hs2⟩:=hs;rcases hs2 with rfl|hs2
 .rcases hs1 with rfl|rfl|rfl|rfl
  .exact yy
  .exact yy
  .exact yy
  .exact yy
 rcases hs1 with rfl|rfl|rfl|rfl
 .have hb:=i0 rfl;unfold eI at hb;rw[yAI Cd]at hb;obtain⟨i,rfl⟩:∃i:Nat,ix=i:=⟨ix.toNat,Cd⟩;have hil:i<rs.length:=Cd;have hiq:(i:Int)<(rs.length:Int):=Cd;have hgi:rs.getD i bB=rs[i]:=Dx;obtain⟨⟨n1,n2,n3,n4,n5,n6⟩,hie⟩:∃q,rs[i]=q:=⟨_,rfl⟩;rw[hie]at hgi;rcases hs2 with rfl|rfl
  .exact ym
  .exact ym
 .have hb:=i1 rfl;unfold eI at hb;rw[yAI Cd]at hb;obtain⟨i,rfl⟩:∃i:Nat,ix=i:=⟨ix.toNat,Cd⟩;have hil:i<dd.length:=Cd;have hiq:(i:Int)<(dd.length:Int):=Cd;have hgi:dd.getD i aU=dd[i]:=Dx;obtain⟨⟨n1,n2,n3,n4,n5⟩,hie⟩:∃q,dd[i]=q:=⟨_,rfl⟩;rw[hie]at hgi;rcases hs2 with rfl|rfl
  .exact ym
  .exact ym
 .obtain⟨hd,hb⟩:=i2 rfl;obtain⟨d,rfl⟩:∃d:Nat,dv=d:=⟨dv.toNat,Cd⟩;have hdl:d<dd.length:=Cd;have hdq:(d:Int)<(dd.length:Int):=Cd;have hge:dd.getD d aU=dd[d]:=by rw[yAA,yAh hdl];rfl
  simp only[yBj,hge]at hb ⊢;obtain⟨⟨m1,m2,m3,m4,ss⟩,hde⟩:∃q,dd[d]=q:=⟨_,rfl⟩;rw[hde]at hb ⊢;simp only at hb ⊢;unfold eI at hb;rw[yAI Cd]at hb;obtain⟨i,rfl⟩:∃i:Nat,ix=i:=⟨ix.toNat,Cd⟩;have hil:i<ss.length:=Cd;have hiq:(i:Int)<(ss.length:Int):=Cd;have hgi:ss.getD i bA=ss[i]:=Dx;obtain⟨⟨n1,n2,n3,n4⟩,hie⟩:∃q,ss[i]=q:=⟨_,rfl⟩;rw[hie]at hgi;rcases hs2 with rfl|rfl
  .exact Af
  .exact Af
 .have hb:=i3 rfl;unfold eI at hb;rw[yAI Cd]at hb;obtain⟨i,rfl⟩:∃i:Nat,ix=i:=⟨ix.toNat,Cd⟩;have hil:i<cc.length:=Cd;have hiq:(i:Int)<(cc.length:Int):=Cd;have hgi:cc.getD i bD=cc[i]:=Dx;obtain⟨⟨n1,n2,n3,n4,n5⟩,hie⟩:∃q,cc[i]=q:=⟨_,rfl⟩;rw[hie]at hgi;rcases hs2 with rfl|rfl
  .exact ym
  .exact ym
end
section
variable{E:aE}(hU:aJ E)
include hU
end
theorem aSZ{E:aE}(hU:aJ E)(h0:E 16=none)(h1:E 13=some BZ)(h2:E 39=some qW)(h3:E 40=some BM)(c:tA)(hc:BL c):aI prog E 16 [Em.change.aB c] (Em.edit.aB (uB c)):=by
 by_cases q0:(c.kind<1)\/(c.kind=2)\/(c.kind=5)\/(c.kind=8)
 .exact aTd hU h0 h1 h2 h3 c hc q0
 by_cases q1:(c.kind=11)\/(c.kind=1\/c.kind=3)\/(c.kind=4\/c.kind=6)
 .exact aTe hU h0 h1 h2 h3 c hc q1
 by_cases q2:(c.kind=7\/c.kind=9)\/(c.kind=10\/c.kind=12)\/(c.kind=13)
 .exact aTf hU h0 h1 h2 h3 c hc q2
 exact aTg hU h0 h1 h2 h3 c hc Cd
def S1:Nat->List PD->List aA->Option (PD×List aA):=entry (cU Em.change Em.edit λc=>eL (BL c) (some (uB c)))
theorem aS7{c:tA}(h:BL c)(fl:Nat)(σ:List aA):S1 fl [Em.change.aB c] σ=some (Em.edit.aB (uB c),σ):=by
 have e1:=Em.dC (Em.change.str c);unfold S1 entry cU;simp only[e1,fY h]
def SZ:Nat->List PD->List aA->Option (PD×List aA):=entry (fF Em.bY Em.edit (Em.edit.p7 i64) λo x=>eL (dP o/\l7 x) (some (CN o x)))
theorem aGX{o:aY}{x:bM}(ho:dP o)(hx:l7 x)(fl:Nat)(σ:List aA):SZ fl [Em.bY.aB o,Em.edit.aB x] σ=some (.aH [Em.edit.aB (CN o x).1,.int .i64 (CN o x).2],σ):=by
 have e1:=Em.dC (Em.bY.str o);have e2:=Em.dC (Em.edit.str x);unfold SZ entry fF;simp only[e1,e2,fY (show dP o/\l7 x from⟨ho,hx⟩)];rfl
theorem NT:lB nU:=show 3<=100000 by decide
theorem aS8:lB [120]:=show 1<=100000 by decide
theorem CO:xU bB:=⟨yAF _,yAF _,yAF _⟩
theorem CP:rM aU:=⟨yAF _,yAF _,λ_ h=>Ck⟩
theorem EM:D6 bA:=⟨⟨yAF _,λ_ h=>Ck⟩,yAF _⟩
theorem aGY:l7 EN:=⟨yAF _,CO,CP,EM,yAF _⟩
theorem aS9{w:Int}{o:aY}{x:bM}(ho:o0 o)(hx:l7 x):l7 (mS w o x):=by
 obtain⟨x1,x2,x3,x4,x5⟩:=hx;have hR:xU (o.aQ.getD 0 bB):=by
  cases h:o.aQ with
  |nil=>exact CO
  |cons a t=>exact ho.aQ a (by rw[h];exact yBe ..)
 have hD:rM (vJ o):=by
  unfold vJ
  by_cases h:o.aD.length-1<o.aD.length
  .exact ho.aD _ (BT h aU)
  .rw[yAA,yBy Cd];exact CP
 unfold mS;split
 .exact⟨x1,⟨hR.1,NT,hR.2.2⟩,x3,x4,x5⟩
 split
 .exact⟨x1,x2,⟨NT,hD.2⟩,x4,x5⟩
 split
 .cases h:(vJ o).stops with
  |nil=>exact⟨x1,x2,x3,x4,x5⟩
  |cons s t=>exact⟨x1,x2,x3,⟨(hD.2.2 s (by rw[h];exact yBe ..)).1,NT⟩,x5⟩
 split
 .cases h:o.aL with
  |nil=>exact⟨x1,x2,x3,x4,x5⟩
  |cons s t=>exact⟨x1,x2,x3,x4,NT⟩
 split
 .exact⟨NT,x2,x3,x4,x5⟩
 .exact⟨x1,x2,x3,x4,x5⟩
theorem aTa{c:tA}(h:BL c):l7 (uB c):=by
 unfold uB;have h1:l7 (mS (gT c.kind) (fW c.eK) ⟨c.kind,0,c.idx,[],bB,aU,bA,bD⟩):=aS9 (IE h.2.1 h.2.2.1).2 ⟨yAF _,CO,CP,EM,yAF _⟩;have h2:l7 (FY c (mS (gT c.kind) (fW c.eK) ⟨c.kind,0,c.idx,[],bB,aU,bA,bD⟩)):=by
  unfold FY;split
  .exact h1
  .exact h1
 obtain⟨x1,x2,x3,x4,x5⟩:=h2;unfold qB;split
 .exact⟨aS8,x2,x3,x4,x5⟩
 split
 .exact⟨x1,⟨(show 1<=1000000 by decide),x2.2⟩,x3,x4,x5⟩
 split
 .exact⟨x1,x2,x3,x4,x5⟩
 split
 .exact⟨x1,x2,x3,x4,x5⟩
 .exact⟨x1,x2,x3,x4,x5⟩
theorem aSS:aF prog (zQ.add 18 EL):=aKf.aCK bS λo x z hz=>by obtain⟨h,e⟩:=gE hz;cases e;exact aKm o x h.1 h.2
theorem aST:aF prog (QR.add 42 EL):=aNn.aCK bS λo x z hz=>by obtain⟨h,e⟩:=gE hz;cases e;exact aNG o x h.1 h.2
theorem aSU:aF prog (w5.add 41 NR):=aEi.aCJ bS λo z hz=>by obtain⟨h,e⟩:=gE hz;cases e;exact aSV o h
theorem aSW:aF prog (BN.add 40 BM):=aC6.aCJ bS λo z hz=>by obtain⟨h,e⟩:=gE hz;cases e;exact aJS o h
def Ar1:aE:=BN.add 40 BM
theorem aSX:aF prog Ar1:=aSW
theorem aGV:aJ Ar1:=VJ.entry
def Ar2:aE:=Ar1.add 16 S1
theorem aSY:aF prog Ar2:=aSX.nQ bS λx z hz=>by obtain⟨h,e⟩:=gE hz;cases e;exact aSZ aGV rfl rfl rfl rfl x h
theorem aS0:aJ Ar2:=aGV.entry
def Ar3:aE:=Ar2.add 18 EL
theorem aS1:aF prog Ar3:=aF.pick aSS aSY Ds
theorem aS2:aJ Ar3:=aS0.entry
def Ar4:aE:=Ar3.add 42 EL
theorem aS3:aF prog Ar4:=aF.pick aST aS1 Ds
theorem aS4:aJ Ar4:=aS2.entry
def Ar5:aE:=Ar4.add 41 NR
theorem aS5:aF prog Ar5:=aF.pick aSU aS3 Ds
theorem aGW:aJ Ar5:=aS4.entry
def Ar6:aE:=Ar5.add 23 NS
theorem aSQ:aF prog Ar6:=aS5.tE bS λo x z hz=>by obtain⟨h,e⟩:=gE hz;cases e;exact aS6 aGW rfl rfl rfl o x h.1 h.2
theorem aGT:aJ Ar6:=aGW.entry
section
def backL(o:aY)(x:bM):bM:=if x.kind=13 then⟨13,x.div,x.idx,o.name,bB,aU,bA,bD⟩else cV o x
variable{E:aE}(hU:aJ E)
include hU
theorem r_lback(h0:E 24=none)(h3:E 39=some qW)(o:aY)(x:bM)(hz:(cP o x).2=0):aI prog E 24 [Em.bY.aB o,Em.edit.aB x] (Em.edit.aB (backL o x)):=by
 obtain⟨hf,hk,hix⟩:=wG hz;have k3:=λfl σ=>GV (x:=x) hk fl σ
 clear hz hf;unfold backL
 by_cases bK:x.kind=13
 .rw[yAJ bK];obtain⟨kd,dv,ix,nm,⟨rn,rt,ra,rb,rf,wd⟩,⟨fn,fp,flo,fhi,fs⟩,⟨sn,sa,sb,sg⟩,⟨cn,ca,cb,cs,ct⟩⟩:=x;obtain⟨on,rs,dd,cc⟩:=o;simp only[bZ,fE,bC]at k3 bK ⊢;subst bK;refine aI.aG 83 h0 func24 (h:=?_);refine aC (A2 h3 k3) ?_;exact uv
 rw[yAI bK];unfold cV;rw[yAI bK];obtain⟨i0,i1,i2,i3⟩:=hix bK;obtain⟨th,hth⟩:=gn ((x.kind-1)/3);obtain⟨wy,hwy⟩:=gn ((x.kind-1)%3);have hs:(th=0\/th=1\/th=2\/th=3)/\(wy=0\/wy=1\/wy=2):=Cd;simp only[hth,hwy]at k3 i0 i1 i2 i3 ⊢;obtain⟨kd,dv,ix,nm,⟨rn,rt,ra,rb,rf,wd⟩,⟨fn,fp,flo,fhi,fs⟩,⟨sn,sa,sb,sg⟩,⟨cn,ca,cb,cs,ct⟩⟩:=x;obtain⟨on,rs,dd,cc⟩:=o;simp only[bZ,fE,bC]at k3 bK hk i0 i1 i2 i3 ⊢;have w1:IntKind.i64.wrap (kd+1)=kd+1:=Ci;have w2:IntKind.i64.wrap (kd-1)=kd-1:=Ci;clear hth hwy hk;obtain⟨hs1,hs2⟩:=hs;rcases hs2 with rfl|hs2
 .rcases hs1 with rfl|rfl|rfl|rfl
  .exact yz
  .exact yz
  .exact yz
  .exact yz
 rcases hs1 with rfl|rfl|rfl|rfl
 .have hb:=i0 rfl;unfold eI at hb;rw[yAI Cd]at hb;obtain⟨i,rfl⟩:∃i:Nat,ix=i:=⟨ix.toNat,Cd⟩;have hil:i<rs.length:=Cd;have hiq:(i:Int)<(rs.length:Int):=Cd;have hgi:rs.getD i bB=rs[i]:=Dx;obtain⟨⟨n1,n2,n3,n4,n5,n6⟩,hie⟩:∃q,rs[i]=q:=⟨_,rfl⟩;rw[hie]at hgi;rcases hs2 with rfl|rfl
  .exact yq
  .exact yq
 .have hb:=i1 rfl;unfold eI at hb;rw[yAI Cd]at hb;obtain⟨i,rfl⟩:∃i:Nat,ix=i:=⟨ix.toNat,Cd⟩;have hil:i<dd.length:=Cd;have hiq:(i:Int)<(dd.length:Int):=Cd;have hgi:dd.getD i aU=dd[i]:=Dx;obtain⟨⟨n1,n2,n3,n4,n5⟩,hie⟩:∃q,dd[i]=q:=⟨_,rfl⟩;rw[hie]at hgi;rcases hs2 with rfl|rfl
  .exact yq
  .exact yq
 .obtain⟨hd,hb⟩:=i2 rfl;obtain⟨d,rfl⟩:∃d:Nat,dv=d:=⟨dv.toNat,Cd⟩;have hdl:d<dd.length:=Cd;have hdq:(d:Int)<(dd.length:Int):=Cd;have hge:dd.getD d aU=dd[d]:=by rw[yAA,yAh hdl];rfl
  simp only[yBj,hge]at hb ⊢;obtain⟨⟨m1,m2,m3,m4,ss⟩,hde⟩:∃q,dd[d]=q:=⟨_,rfl⟩;rw[hde]at hb ⊢;simp only at hb ⊢;unfold eI at hb;rw[yAI Cd]at hb;obtain⟨i,rfl⟩:∃i:Nat,ix=i:=⟨ix.toNat,Cd⟩;have hil:i<ss.length:=Cd;have hiq:(i:Int)<(ss.length:Int):=Cd;have hgi:ss.getD i bA=ss[i]:=Dx;obtain⟨⟨n1,n2,n3,n4⟩,hie⟩:∃q,ss[i]=q:=⟨_,rfl⟩;rw[hie]at hgi;rcases hs2 with rfl|rfl
  .exact Aj
  .exact Aj
 .have hb:=i3 rfl;unfold eI at hb;rw[yAI Cd]at hb;obtain⟨i,rfl⟩:∃i:Nat,ix=i:=⟨ix.toNat,Cd⟩;have hil:i<cc.length:=Cd;have hiq:(i:Int)<(cc.length:Int):=Cd;have hgi:cc.getD i bD=cc[i]:=Dx;obtain⟨⟨n1,n2,n3,n4,n5⟩,hie⟩:∃q,cc[i]=q:=⟨_,rfl⟩;rw[hie]at hgi;rcases hs2 with rfl|rfl
  .exact yq
  .exact yq
end
theorem mov_ar{n i:Int}:dR (dR n 0 i).1 1 i=(n,true):=by
 unfold dR
 by_cases h:i<=n
 .have h1:¬n+1=i:=by omega
  have h2:i<n+1:=Cd;simp[h,h1,h2]
 .have h1:¬n=i:=by omega
  have h2:¬i<n:=Cd;simp[h,h1,h2]
theorem mov_ra{n i:Int}(h:n≠i):dR (dR n 1 i).1 0 i=(n,true):=by
 unfold dR
 by_cases h2:i<n
 .simp[h,h2];omega
 .simp[h,h2];omega
theorem movO_back{a b i:Int}{o:aY}(h:∀d∈o.aD,∀s∈d.stops,∀g∈s.aO,∀w∈g.aR,dR (dR w.aN a i).1 b i=(w.aN,true)):eY b i (eY a i o)=o/\sK b i (eY a i o):=by
 constructor
 .unfold eY;simp only[yBs];have e:o.aD.map (oY b i ∘ oY a i)=o.aD:=by
   refine(yAG λd hd=>?_).trans (yCQ o.aD);show oY b i (oY a i d)=d
   unfold oY;simp only[yBs];have e:d.stops.map (sM b i ∘ sM a i)=d.stops:=by
    refine(yAG λs hs=>?_).trans (yCQ d.stops);show sM b i (sM a i s)=s
    unfold sM;simp only[yBs];have e:s.aO.map (wY b i ∘ wY a i)=s.aO:=by
     refine(yAG λg hg=>?_).trans (yCQ s.aO);show wY b i (wY a i g)=g
     unfold wY;simp only[yBs];have e:g.aR.map (uE b i ∘ uE a i)=g.aR:=by
      refine(yAG λw hw=>?_).trans (yCQ g.aR);show uE b i (uE a i w)=w
      unfold uE;simp only[h d hd s hs g hg w hw]
     rw[e]
    rw[e]
   rw[e]
  rw[e]
 .intro d' hd s' hs g' hg w' hw;obtain⟨d,KM,rfl⟩:=yAw.1 hd;obtain⟨s,hs0,rfl⟩:=yAw.1 hs;obtain⟨g,qJ,rfl⟩:=yAw.1 hg;obtain⟨w,hw0,rfl⟩:=yAw.1 hw;unfold okW uE;simp only[h d KM s hs0 g qJ w hw0]
theorem endO_back{a b i:Int}{o:aY}(h:∀c∈o.aL,dR (dR c.dJ a i).1 b i=(c.dJ,true)/\dR (dR c.dst a i).1 b i=(c.dst,true)):iZ b i (iZ a i o)=o/\∀c∈(iZ a i o).aL,oX b i c=true:=by
 constructor
 .unfold iZ;simp only[yBs];have e:o.aL.map (rL b i ∘ rL a i)=o.aL:=by
   refine(yAG λc hc=>?_).trans (yCQ o.aL);show rL b i (rL a i c)=c
   unfold rL;simp only[h c hc]
  rw[e]
 .intro c' hc;obtain⟨c,hc0,rfl⟩:=yAw.1 hc;unfold oX rL;simp only[h c hc0,yCh]
theorem lst_ar{α:Type}{l:List α}{i:Nat}(h:i<=l.length)(x y:α):aS (aS l 0 i x) 1 i y=l/\(aS l 0 i x).length=l.length+1/\∀d,(aS l 0 i x).getD i d=x:=by
 unfold aS;simp only[yAK,show ¬(1:Int)=0 by decide,yAN];have hl:(l.take i).length=i:=Eh;refine⟨?_,?_,λd=>?_⟩
 .rw[yCL Cd,yAz Cd,yDN,hl,yCO Cd];simp
 .simp;omega
 .rw[yAA,yBJ Cd,hl];simp
theorem lst_ra{α:Type}{l:List α}{i:Nat}(h:i<l.length)(x:α)(d:α):aS (aS l 1 i x) 0 i (l.getD i d)=l/\(aS l 1 i x).length=l.length-1:=by
 unfold aS;simp only[yAK,show ¬(1:Int)=0 by decide,yAN];have hl:(l.take i).length=i:=Eh;refine⟨?_,?_⟩
 .rw[yCL Cd,yAz Cd,yDN,hl,yCO Cd,yAA,yAh h];simp
 .simp;omega
theorem lst_pp{α:Type}{l:List α}{i:Nat}(h:i<l.length)(x:α)(d:α):aS (aS l 2 i x) 2 i (l.getD i d)=l/\(aS l 2 i x).length=l.length/\∀d,(aS l 2 i x).getD i d=x:=by
 unfold aS;simp only[show ¬(2:Int)=0 by decide,show ¬(2:Int)=1 by decide,yAN];refine⟨?_,Ce,λe=>?_⟩
 .rw[yAA,yAh h];simp
 .rw[yAA,yAj h];rfl
section
def BackLaw:Prop:=∀O X,jP O->l7 X->(cP O X).2=0->backL O X=cV O X/\l7 (cV O X)/\cP (cP O X).1 (cV O X)=(O,0)/\cV (cP O X).1 (cV O X)=X
def gLb:Nat->List PD->List aA->Option (PD×List aA):=entry (fF Em.bY Em.edit Em.edit λo x=>eL ((cP o x).2=0) (some (backL o x)))
theorem gLb_of{o:aY}{x:bM}(h:(cP o x).2=0)(fl:Nat)(σ:List aA):gLb fl [Em.bY.aB o,Em.edit.aB x] σ=some (Em.edit.aB (backL o x),σ):=by
 have e1:=Em.dC (Em.bY.str o);have e2:=Em.dC (Em.edit.str x);unfold gLb entry fF;simp only[e1,e2,fY h]
variable{E:aE}(hU:aJ E)
include hU
theorem r_CompareBacks(hL:BackLaw)(h0:E 6=none)(h1:E 10=some XC)(h2:E 11=some QO)(h3:E 13=some BZ)(h4:E 16=some S1)(h5:E 23=some NS)(h6:E 18=some EL)
  (h7:E 15=some (fP Em.bY fX)) (h10:E 21=some SZ) (h11:E 24=some gLb) (h14:E 22=some (fP Em.edit dT))
  (p:pY) (c:tA) (hp:yW p) (hc:EP c.kind/\yW c.eK/\iB c.extra):aI prog E 6 [Em.eK.aB p,Em.change.aB c] (Em.bool.aB true):=by
 have k:=aRd;have fp:=aFU p;have fq:=aFU c.eK;simp only[xK,bC]at fp fq;cases cp:nI p with
 |false=>
  rw[cp]at fp;simp only[xK,DI,bC];refine aI.aG 94 h0 func6 (h:=?_);refine aC (A4 h1 @k h2 fp) ?_;exact ag
 |true=>
 rw[cp]at fp;cases cq:nI c.eK with
 |false=>
  rw[cq]at fq;simp only[xK,DI,bC];refine aI.aG 94 h0 func6 (h:=?_);refine aC (A5 h1 @k h2 fp fq) ?_;exact ag
 |true=>
 rw[cq]at fq;have hcg:BL c:=⟨hc.1,hc.2.1,cq,hc.2.2⟩;have mp:=NM hp cp;have mc:=aS7 hcg;have hR:=IE hp cp;have hX:=aTa hcg;obtain⟨O,hO⟩:=gn (fW p);obtain⟨X,hXe⟩:=gn (uB c);rw[hO]at mp hR;rw[hXe]at mc hX;clear hO hXe;have hA:rY O X=cP O X:=by unfold rY;rw[yAJ hR.1]
 have k6:=aG0 hR hX;have yV:=aGX hR.dP hX;have hrt:=aTc hR hX;have hll:=hL O X hR hX;have klb:=gLb_of (o:=O) (x:=X);have hBS:CN O X=if (cP O X).2=0 then(cV O X,0)else(EN,(cP O X).2):=by unfold CN;rw[hA]
 rw[hBS]at yV;obtain⟨⟨W,e⟩,hW⟩:∃r,cP O X=r:=⟨_,rfl⟩;rw[hW]at k6 yV hrt hll klb;simp only at k6 yV hrt hll klb
 by_cases hz:e=0
 rotate_left
 .rw[yAI hz]at yV;have G1:=λfl σ=>p6 (a:=Em.edit) (R:=dT) (p:=Em.edit.aB EN) (x:=EN) (y:=EN) (q:=.agg [.int .i64 0,.int .i64 0,.int .i64 0,.str [],.str [],.str [],.int .i64 0,.int .i64 0,.int .i64 0,.slice 0 [] .full,.str [],.bool false,.int .i64 0,.int .i64 0,.slice 0 [] .full,.str [],.int .i64 0,.int .i64 0,.slice 0 [] .full,.str [],.int .i64 0,.int .i64 0,.int .i64 0,.bool false]) aGY.dT aGY.dT (Em.edit.str _) rfl fl σ
  rw[yAX rfl]at G1;have zE:Em.edit.aB EN=.agg [.int .i64 0,.int .i64 0,.int .i64 0,.str [],.str [],.str [],.int .i64 0,.int .i64 0,.int .i64 0,.slice 0 [] .any,.str [],.bool false,.int .i64 0,.int .i64 0,.slice 0 [] .any,.str [],.int .i64 0,.int .i64 0,.slice 0 [] .any,.str [],.int .i64 0,.int .i64 0,.int .i64 0,.bool false]:=rfl;simp only[zE]at yV G1;obtain⟨kd,dv,ix,nm,⟨rn,rt,ra,rb,rf,wd⟩,⟨fn,fp2,flo,fhi,fs⟩,⟨sn,sa,sb,sg⟩,⟨cn,ca,cb,cs,ct⟩⟩:=X;obtain⟨on,rs,dd,cc⟩:=O;obtain⟨wn,wr,wdv,wc⟩:=W;clear hW hA hR hX hrt hll klb hBS;simp only[bZ,fE,xK,DI,bC]at mp mc k6 yV ⊢;refine aI.aG 94 h0 func6 (h:=?_);refine aC (A16 h1 @k h2 fp fq h3 @mp h4 mc h6 k6 h10 yV h14 G1 @hz) ?_;exact ag
 subst hz;rw[yAJ rfl]at yV;obtain⟨l1,l2,l3,l4⟩:=hll rfl;have klb:=klb rfl;rw[l1]at klb;have hWR:=hrt rfl;obtain⟨Y,hY⟩:=gn (cV O X);rw[hY]at yV klb l2 l3 l4;have k5:=aGZ hWR.dP l2;have hAW:rY W Y=(O,0):=by unfold rY;rw[yAJ hWR.1,l3]
 rw[hAW]at k5;have aAG:=aGX hWR.dP l2;have hBW:CN W Y=(X,0):=by unfold CN;rw[hAW,yAJ rfl,l4]
 rw[hBW]at aAG;have k7:=oC (a:=Em.bY) (R:=fX) hR.dP.fX hR.dP.fX;rw[yAX (rfl:O=O)]at k7;have G1:=λfl σ=>oC (a:=Em.edit) (R:=dT) l2.dT l2.dT fl σ
 rw[yAX (rfl:Y=Y)]at G1;have k15:=λfl σ=>oC (a:=Em.edit) (R:=dT) hX.dT hX.dT fl σ
 rw[yAX (rfl:X=X)]at k15;clear hW hA hR hX hrt hll hBS l1 l2 l3 l4 hWR hY hAW hBW;obtain⟨kd,dv,ix,nm,⟨rn,rt,ra,rb,rf,wd⟩,⟨fn,fp2,flo,fhi,fs⟩,⟨sn,sa,sb,sg⟩,⟨cn,ca,cb,cs,ct⟩⟩:=X;obtain⟨kd2,dv2,ix2,xC,⟨rn2,rt2,ra2,rb2,rf2,wd2⟩,⟨fn2,aV6,aV7,aV8,I1⟩,⟨sn2,sa2,sb2,sg2⟩,⟨cn2,ca2,cb2,HZ,ct2⟩⟩:=Y;obtain⟨on,rs,dd,cc⟩:=O;obtain⟨wn,wr,wdv,wc⟩:=W;simp only[bZ,fE,xK,DI,bC]at mp mc k5 k6 k7 yV aAG klb G1 k15 ⊢;refine aI.aG 94 h0 func6 (h:=?_);refine aC (A20 h1 @k h2 fp fq h3 @mp h4 mc h5 k5 h6 k6 h7 k7 h10 yV aAG h11 (A4 klb h14 G1 k15)) ?_;exact ag
end
section
theorem aAF{n i:Int}:dR (dR n 2 i).1 2 i=(n,true):=by unfold dR;simp
theorem chkO_zero{o:aY}(h:(iQ o).2=0):iQ o=(o,0):=by
 unfold iQ at h ⊢
 by_cases e:dG o=0
 .rw[yAJ e]
 .rw[yAI e]at h;exact absurd h e
theorem chkO_of{o:aY}(h:dG o=0):iQ o=(o,0):=yAJ h
section
variable{o:aY}{x:bM}
theorem ap_N(hf:fS x=0)(h:x.kind=13):cP o x=iQ { o with name:=x.name }:=by
 unfold cP;rw[yAI Dz,yAJ h]
theorem ap_R(hf:fS x=0)(h:x.kind≠13)(t:(x.kind-1)/3=0)(hi:eI ((x.kind-1)%3) x.idx o.aQ.length)(ho:sK ((x.kind-1)%3) x.idx o):cP o x=iQ (sL ((x.kind-1)%3) x.idx x.aN o):=by
 unfold cP;rw[yAI Dz,yAI h,yAJ t,yAJ hi,yAJ ho]
theorem ap_D(hf:fS x=0)(h:x.kind≠13)(t:(x.kind-1)/3=1)(hi:eI ((x.kind-1)%3) x.idx o.aD.length)(ho:∀c∈o.aL,oX ((x.kind-1)%3) x.idx c=true):cP o x=iQ (sN ((x.kind-1)%3) x.idx x.frame o):=by
 unfold cP;rw[yAI Dz,yAI h,yAI Cd,yAJ t,yAJ hi,yAJ ho]
theorem ap_S(hf:fS x=0)(h:x.kind≠13)(t:(x.kind-1)/3=2)(hi:(0<=x.div/\x.div<o.aD.length)/\eI ((x.kind-1)%3) x.idx (o.aD.getD x.div.toNat aU).stops.length):cP o x=iQ (mV ((x.kind-1)%3) x.idx x.div x.stop o):=by
 unfold cP;rw[yAI Dz,yAI h,yAI Cd,yAI Cd,yAJ t,yAJ hi]
theorem ap_C(hf:fS x=0)(h:x.kind≠13)(t:(x.kind-1)/3=3)(hi:eI ((x.kind-1)%3) x.idx o.aL.length):cP o x=iQ (rU ((x.kind-1)%3) x.idx x.bF o):=by
 unfold cP;rw[yAI Dz,yAI h,yAI Cd,yAI Cd,yAI Cd,yAJ hi]
theorem acc_R(h:(cP o x).2=0)(bK:x.kind≠13)(t:(x.kind-1)/3=0):sK ((x.kind-1)%3) x.idx o/\cP o x=(sL ((x.kind-1)%3) x.idx x.aN o,0):=by
 obtain⟨hf,hk,hix⟩:=wG h;have hi:=(hix bK).1 t;have ho:sK ((x.kind-1)%3) x.idx o:=by
  apply yCY;intro e;unfold cP at h;rw[yAI Dz,yAI bK,yAJ t,yAJ hi,yAI e]at h;exact ek
 rw[ap_R hf bK t hi ho]at h ⊢;exact⟨ho,chkO_zero h⟩
theorem acc_D(h:(cP o x).2=0)(bK:x.kind≠13)(t:(x.kind-1)/3=1):(∀c∈o.aL,oX ((x.kind-1)%3) x.idx c=true)/\cP o x=(sN ((x.kind-1)%3) x.idx x.frame o,0):=by
 obtain⟨hf,hk,hix⟩:=wG h;have hi:=(hix bK).2.1 t;have ho:∀c∈o.aL,oX ((x.kind-1)%3) x.idx c=true:=by
  apply yCY;intro e;unfold cP at h;rw[yAI Dz,yAI bK,yAI Cd,yAJ t,yAJ hi,yAI e]at h;exact ek
 rw[ap_D hf bK t hi ho]at h ⊢;exact⟨ho,chkO_zero h⟩
theorem acc_S(h:(cP o x).2=0)(bK:x.kind≠13)(t:(x.kind-1)/3=2):cP o x=(mV ((x.kind-1)%3) x.idx x.div x.stop o,0):=by
 obtain⟨hf,hk,hix⟩:=wG h;rw[ap_S hf bK t ((hix bK).2.2.1 t)]at h ⊢;exact chkO_zero h
theorem acc_C(h:(cP o x).2=0)(bK:x.kind≠13)(t:(x.kind-1)/3=3):cP o x=(rU ((x.kind-1)%3) x.idx x.bF o,0):=by
 obtain⟨hf,hk,hix⟩:=wG h;rw[ap_C hf bK t ((hix bK).2.2.2 t)]at h ⊢;exact chkO_zero h
theorem acc_keep(h:(cP o x).2=0):x=dZ ((x.kind-1)/3) ((x.kind-1)%3) x:=by
 obtain⟨hf,hk,_⟩:=wG h;have:=aAE hk;rw[hf]at this;exact of_decide_eq_true (this.trans rfl)
theorem form_of{y:bM}(hk:1<=y.kind/\y.kind<=13)(h:y=dZ ((y.kind-1)/3) ((y.kind-1)%3) y):fS y=0:=by
 have:=aAE hk;rw[yAX h]at this;exact of_decide_eq_true this.symm
theorem back_N(hR:jP o)(hz:(cP o x).2=0)(bK:x.kind=13):backL o x=cV o x/\cP (cP o x).1 (cV o x)=(o,0)/\cV (cP o x).1 (cV o x)=x:=by
 have hk:=acc_keep hz;obtain⟨hf,_,_⟩:=wG hz;have hw:cP o x=({ o with name:=x.name },0):=by
  rw[ap_N hf bK]at hz ⊢;exact chkO_zero hz
 rw[hw];obtain⟨kd,dv,ix,nm,R,F,S,C⟩:=x;simp only at bK;subst bK;unfold dZ at hk;simp only[bM.mk.injEq]at hk;simp at hk;obtain⟨rfl,rfl,rfl,rfl,rfl,rfl⟩:=hk;have hb:cV o ⟨13,0,0,nm,bB,aU,bA,bD⟩=⟨13,0,0,o.name,bB,aU,bA,bD⟩:=rfl;refine⟨rfl,?_,?_⟩
 .rw[hb,ap_N (form_of ⟨(show(1:Int)<=13 by decide),(show(13:Int)<=13 by decide)⟩ Dd) rfl];exact iq
 .rw[hb];rfl
theorem back_C(hR:jP o)(hz:(cP o x).2=0)(bK:x.kind≠13)(t:(x.kind-1)/3=3):cP (cP o x).1 (cV o x)=(o,0)/\cV (cP o x).1 (cV o x)=x:=by
 have hk:=acc_keep hz;obtain⟨hf,hkd,hix⟩:=wG hz;have hi:=(hix bK).2.2.2 t;have hw:=acc_C hz bK t;have hwy:(x.kind-1)%3=0\/(x.kind-1)%3=1\/(x.kind-1)%3=2:=Cd;rw[hw];clear hz hf hw hix;obtain⟨kd,dv,ix,nm,R,F,S,C⟩:=x;simp only at bK t hi hkd hwy hk;obtain⟨i,rfl⟩:∃i:Nat,ix=i:=⟨ix.toNat,Hy⟩
 by_cases c0:(kd-1)%3=0
 .obtain rfl:kd=10:=by omega
  unfold dZ at hk;simp only[bM.mk.injEq]at hk;simp at hk;obtain⟨rfl,rfl,rfl,rfl,rfl⟩:=hk;have hn:i<=o.aL.length:=Cq;obtain⟨e1,e2,e3⟩:=lst_ar hn C bD;have hW:rU ((10-1)%3) (i:Int) C o={ o with aL:=aS o.aL 0 i C }:=rfl;have hY:cV o ⟨10,0,i,[],bB,aU,bA,C⟩=⟨11,0,i,[],bB,aU,bA,bD⟩:=rfl;show cP (rU ((10-1)%3) (i:Int) C o) (cV o ⟨10,0,i,[],bB,aU,bA,C⟩)=_/\cV (rU ((10-1)%3) (i:Int) C o) (cV o ⟨10,0,i,[],bB,aU,bA,C⟩)=_
  rw[hY,hW];refine⟨?_,?_⟩
  .rw[ap_C (form_of ⟨(show(1:Int)<=11 by decide),(show(11:Int)<=13 by decide)⟩ Dd) (show(11:Int)≠13 by decide) (show((11:Int)-1)/3=3 by decide) ⟨Ce,Ec⟩];show iQ { o with aL:=aS (aS o.aL 0 i C) 1 i bD }=_
   rw[e1];exact iq
  .show(⟨10,0,i,[],bB,aU,bA,(aS o.aL 0 i C).getD i bD⟩:bM)=_
   rw[e3]
 by_cases c1:(kd-1)%3=1
 .obtain rfl:kd=11:=by omega
  unfold dZ at hk;simp only[bM.mk.injEq]at hk;simp at hk;obtain⟨rfl,rfl,rfl,rfl,rfl,rfl⟩:=hk;have hn:i<o.aL.length:=Cq;obtain⟨e1,e2⟩:=lst_ra hn bD bD;have hW:rU ((11-1)%3) (i:Int) bD o={ o with aL:=aS o.aL 1 i bD }:=rfl;have hY:cV o ⟨11,0,i,[],bB,aU,bA,bD⟩=⟨10,0,i,[],bB,aU,bA,o.aL.getD i bD⟩:=rfl;show cP (rU ((11-1)%3) (i:Int) bD o) (cV o ⟨11,0,i,[],bB,aU,bA,bD⟩)=_/\cV (rU ((11-1)%3) (i:Int) bD o) (cV o ⟨11,0,i,[],bB,aU,bA,bD⟩)=_
  rw[hY,hW];refine⟨?_,?_⟩
  .rw[ap_C (form_of ⟨(show(1:Int)<=10 by decide),(show(10:Int)<=13 by decide)⟩ Dd) (show(10:Int)≠13 by decide) (show((10:Int)-1)/3=3 by decide) ⟨Ce,Ec⟩];show iQ { o with aL:=aS (aS o.aL 1 i bD) 0 i (o.aL.getD i bD) }=_
   rw[e1];exact iq
  .rfl
 by_cases c2:(kd-1)%3=2
 .obtain rfl:kd=12:=by omega
  unfold dZ at hk;simp only[bM.mk.injEq]at hk;simp at hk;obtain⟨rfl,rfl,rfl,rfl,rfl⟩:=hk;have hn:i<o.aL.length:=Cq;obtain⟨e1,e2,e3⟩:=lst_pp hn C bD;have hW:rU ((12-1)%3) (i:Int) C o={ o with aL:=aS o.aL 2 i C }:=rfl;have hY:cV o ⟨12,0,i,[],bB,aU,bA,C⟩=⟨12,0,i,[],bB,aU,bA,o.aL.getD i bD⟩:=rfl;show cP (rU ((12-1)%3) (i:Int) C o) (cV o ⟨12,0,i,[],bB,aU,bA,C⟩)=_/\cV (rU ((12-1)%3) (i:Int) C o) (cV o ⟨12,0,i,[],bB,aU,bA,C⟩)=_
  rw[hY,hW];refine⟨?_,?_⟩
  .rw[ap_C (form_of ⟨(show(1:Int)<=12 by decide),(show(12:Int)<=13 by decide)⟩ Dd) (show(12:Int)≠13 by decide) (show((12:Int)-1)/3=3 by decide) ⟨Ce,Ec⟩];show iQ { o with aL:=aS (aS o.aL 2 i C) 2 i (o.aL.getD i bD) }=_
   rw[e1];exact iq
  .show(⟨12,0,i,[],bB,aU,bA,(aS o.aL 2 i C).getD i bD⟩:bM)=_
   rw[e3]
 omega
theorem back_R(hR:jP o)(hz:(cP o x).2=0)(bK:x.kind≠13)(t:(x.kind-1)/3=0):cP (cP o x).1 (cV o x)=(o,0)/\cV (cP o x).1 (cV o x)=x:=by
 have hk:=acc_keep hz;obtain⟨hf,hkd,hix⟩:=wG hz;have hi:=(hix bK).1 t;have hw:=acc_R hz bK t;obtain⟨hm,hw⟩:=hw;have hwy:(x.kind-1)%3=0\/(x.kind-1)%3=1\/(x.kind-1)%3=2:=Cd;rw[hw];clear hz hf hw hix;obtain⟨kd,dv,ix,nm,R,F,S,C⟩:=x;simp only at bK t hi hkd hwy hk hm;obtain⟨i,rfl⟩:∃i:Nat,ix=i:=⟨ix.toNat,Hy⟩
 by_cases c0:(kd-1)%3=0
 .obtain rfl:kd=1:=by omega
  unfold dZ at hk;simp only[bM.mk.injEq]at hk;simp at hk;obtain⟨rfl,rfl,rfl,rfl,rfl⟩:=hk;have hn:i<=o.aQ.length:=Cq;obtain⟨e1,e2,e3⟩:=lst_ar hn R bB;obtain⟨m1,m2⟩:=movO_back (a:=0) (b:=1) (i:=(i:Int)) (o:=o) (λd hd s hs g hg w hw=>mov_ar);have hW:sL ((1-1)%3) (i:Int) R o={ eY 0 (i:Int) o with aQ:=aS o.aQ 0 i R }:=rfl;have hY:cV o ⟨1,0,i,[],R,aU,bA,bD⟩=⟨2,0,i,[],bB,aU,bA,bD⟩:=rfl;show cP (sL ((1-1)%3) (i:Int) R o) (cV o ⟨1,0,i,[],R,aU,bA,bD⟩)=_/\cV (sL ((1-1)%3) (i:Int) R o) (cV o ⟨1,0,i,[],R,aU,bA,bD⟩)=_
  rw[hY,hW];refine⟨?_,?_⟩
  .rw[ap_R (o:={ eY 0 (i:Int) o with aQ:=aS o.aQ 0 i R }) (x:=⟨2,0,i,[],bB,aU,bA,bD⟩) (form_of ⟨(show(1:Int)<=2 by decide),(show(2:Int)<=13 by decide)⟩ Dd) (show(2:Int)≠13 by decide) (show((2:Int)-1)/3=0 by decide) ⟨Ce,Ec⟩ m2];show iQ { eY 1 (i:Int) (eY 0 (i:Int) o)with aQ:=aS (aS o.aQ 0 i R) 1 i bB }=_
   exact Al
  .show(⟨1,0,i,[],(aS o.aQ 0 i R).getD i bB,aU,bA,bD⟩:bM)=_
   rw[e3]
 by_cases c1:(kd-1)%3=1
 .obtain rfl:kd=2:=by omega
  unfold dZ at hk;simp only[bM.mk.injEq]at hk;simp at hk;obtain⟨rfl,rfl,rfl,rfl,rfl,rfl⟩:=hk;have hn:i<o.aQ.length:=Cq;obtain⟨e1,e2⟩:=lst_ra hn bB bB;obtain⟨m1,m2⟩:=movO_back (a:=1) (b:=0) (i:=(i:Int)) (o:=o) (λd hd s hs g hg w hw=>mov_ra λe=>(wW (.inr (.inl rfl))).1.1 (hm d hd s hs g hg w hw) ⟨rfl,e⟩);have hW:sL ((2-1)%3) (i:Int) bB o={ eY 1 (i:Int) o with aQ:=aS o.aQ 1 i bB }:=rfl;have hY:cV o ⟨2,0,i,[],bB,aU,bA,bD⟩=⟨1,0,i,[],o.aQ.getD i bB,aU,bA,bD⟩:=rfl;show cP (sL ((2-1)%3) (i:Int) bB o) (cV o ⟨2,0,i,[],bB,aU,bA,bD⟩)=_/\cV (sL ((2-1)%3) (i:Int) bB o) (cV o ⟨2,0,i,[],bB,aU,bA,bD⟩)=_
  rw[hY,hW];refine⟨?_,?_⟩
  .rw[ap_R (o:={ eY 1 (i:Int) o with aQ:=aS o.aQ 1 i bB }) (x:=⟨1,0,i,[],o.aQ.getD i bB,aU,bA,bD⟩) (form_of ⟨(show(1:Int)<=1 by decide),(show(1:Int)<=13 by decide)⟩ Dd) (show(1:Int)≠13 by decide) (show((1:Int)-1)/3=0 by decide) ⟨Ce,Ec⟩ m2];show iQ { eY 0 (i:Int) (eY 1 (i:Int) o)with aQ:=aS (aS o.aQ 1 i bB) 0 i (o.aQ.getD i bB) }=_
   exact Al
  .rfl
 by_cases c2:(kd-1)%3=2
 .obtain rfl:kd=3:=by omega
  unfold dZ at hk;simp only[bM.mk.injEq]at hk;simp at hk;obtain⟨rfl,rfl,rfl,rfl,rfl⟩:=hk;have hn:i<o.aQ.length:=Cq;obtain⟨e1,e2,e3⟩:=lst_pp hn R bB;obtain⟨m1,m2⟩:=movO_back (a:=2) (b:=2) (i:=(i:Int)) (o:=o) (λd hd s hs g hg w hw=>aAF);have hW:sL ((3-1)%3) (i:Int) R o={ eY 2 (i:Int) o with aQ:=aS o.aQ 2 i R }:=rfl;have hY:cV o ⟨3,0,i,[],R,aU,bA,bD⟩=⟨3,0,i,[],o.aQ.getD i bB,aU,bA,bD⟩:=rfl;show cP (sL ((3-1)%3) (i:Int) R o) (cV o ⟨3,0,i,[],R,aU,bA,bD⟩)=_/\cV (sL ((3-1)%3) (i:Int) R o) (cV o ⟨3,0,i,[],R,aU,bA,bD⟩)=_
  rw[hY,hW];refine⟨?_,?_⟩
  .rw[ap_R (o:={ eY 2 (i:Int) o with aQ:=aS o.aQ 2 i R }) (x:=⟨3,0,i,[],o.aQ.getD i bB,aU,bA,bD⟩) (form_of ⟨(show(1:Int)<=3 by decide),(show(3:Int)<=13 by decide)⟩ Dd) (show(3:Int)≠13 by decide) (show((3:Int)-1)/3=0 by decide) ⟨Ce,Ec⟩ m2];show iQ { eY 2 (i:Int) (eY 2 (i:Int) o)with aQ:=aS (aS o.aQ 2 i R) 2 i (o.aQ.getD i bB) }=_
   exact Al
  .show(⟨3,0,i,[],(aS o.aQ 2 i R).getD i bB,aU,bA,bD⟩:bM)=_
   rw[e3]
 omega
theorem back_D(hR:jP o)(hz:(cP o x).2=0)(bK:x.kind≠13)(t:(x.kind-1)/3=1):cP (cP o x).1 (cV o x)=(o,0)/\cV (cP o x).1 (cV o x)=x:=by
 have hk:=acc_keep hz;obtain⟨hf,hkd,hix⟩:=wG hz;have hi:=(hix bK).2.1 t;have hw:=acc_D hz bK t;obtain⟨hm,hw⟩:=hw;have hwy:(x.kind-1)%3=0\/(x.kind-1)%3=1\/(x.kind-1)%3=2:=Cd;rw[hw];clear hz hf hw hix;obtain⟨kd,dv,ix,nm,R,F,S,C⟩:=x;simp only at bK t hi hkd hwy hk hm;obtain⟨i,rfl⟩:∃i:Nat,ix=i:=⟨ix.toNat,Hy⟩
 by_cases c0:(kd-1)%3=0
 .obtain rfl:kd=4:=by omega
  unfold dZ at hk;simp only[bM.mk.injEq]at hk;simp at hk;obtain⟨rfl,rfl,rfl,rfl,rfl⟩:=hk;have hn:i<=o.aD.length:=Cq;obtain⟨e1,e2,e3⟩:=lst_ar hn F aU;obtain⟨m1,m2⟩:=endO_back (a:=0) (b:=1) (i:=(i:Int)) (o:=o) (λc hc=>⟨mov_ar,mov_ar⟩);have hW:sN ((4-1)%3) (i:Int) F o={ iZ 0 (i:Int) o with aD:=aS o.aD 0 i F }:=rfl;have hY:cV o ⟨4,0,i,[],bB,F,bA,bD⟩=⟨5,0,i,[],bB,aU,bA,bD⟩:=rfl;show cP (sN ((4-1)%3) (i:Int) F o) (cV o ⟨4,0,i,[],bB,F,bA,bD⟩)=_/\cV (sN ((4-1)%3) (i:Int) F o) (cV o ⟨4,0,i,[],bB,F,bA,bD⟩)=_
  rw[hY,hW];refine⟨?_,?_⟩
  .rw[ap_D (o:={ iZ 0 (i:Int) o with aD:=aS o.aD 0 i F }) (x:=⟨5,0,i,[],bB,aU,bA,bD⟩) (form_of ⟨(show(1:Int)<=5 by decide),(show(5:Int)<=13 by decide)⟩ Dd) (show(5:Int)≠13 by decide) (show((5:Int)-1)/3=1 by decide) ⟨Ce,Ec⟩ m2];show iQ { iZ 1 (i:Int) (iZ 0 (i:Int) o)with aD:=aS (aS o.aD 0 i F) 1 i aU }=_
   exact Al
  .show(⟨4,0,i,[],bB,(aS o.aD 0 i F).getD i aU,bA,bD⟩:bM)=_
   rw[e3]
 by_cases c1:(kd-1)%3=1
 .obtain rfl:kd=5:=by omega
  unfold dZ at hk;simp only[bM.mk.injEq]at hk;simp at hk;obtain⟨rfl,rfl,rfl,rfl,rfl,rfl⟩:=hk;have hn:i<o.aD.length:=Cq;obtain⟨e1,e2⟩:=lst_ra hn aU aU;obtain⟨m1,m2⟩:=endO_back (a:=1) (b:=0) (i:=(i:Int)) (o:=o) (λc hc=>by
   have h2:=hm c hc;unfold oX at h2;rw[yAr]at h2;exact⟨mov_ra λe=>(wW (.inr (.inl rfl))).1.1 h2.1 ⟨rfl,e⟩,mov_ra λe=>(wW (.inr (.inl rfl))).1.1 h2.2 ⟨rfl,e⟩⟩)
  have hW:sN ((5-1)%3) (i:Int) aU o={ iZ 1 (i:Int) o with aD:=aS o.aD 1 i aU }:=rfl;have hY:cV o ⟨5,0,i,[],bB,aU,bA,bD⟩=⟨4,0,i,[],bB,o.aD.getD i aU,bA,bD⟩:=rfl;show cP (sN ((5-1)%3) (i:Int) aU o) (cV o ⟨5,0,i,[],bB,aU,bA,bD⟩)=_/\cV (sN ((5-1)%3) (i:Int) aU o) (cV o ⟨5,0,i,[],bB,aU,bA,bD⟩)=_
  rw[hY,hW];refine⟨?_,?_⟩
  .rw[ap_D (o:={ iZ 1 (i:Int) o with aD:=aS o.aD 1 i aU }) (x:=⟨4,0,i,[],bB,o.aD.getD i aU,bA,bD⟩) (form_of ⟨(show(1:Int)<=4 by decide),(show(4:Int)<=13 by decide)⟩ Dd) (show(4:Int)≠13 by decide) (show((4:Int)-1)/3=1 by decide) ⟨Ce,Ec⟩ m2];show iQ { iZ 0 (i:Int) (iZ 1 (i:Int) o)with aD:=aS (aS o.aD 1 i aU) 0 i (o.aD.getD i aU) }=_
   exact Al
  .rfl
 by_cases c2:(kd-1)%3=2
 .obtain rfl:kd=6:=by omega
  unfold dZ at hk;simp only[bM.mk.injEq]at hk;simp at hk;obtain⟨rfl,rfl,rfl,rfl,rfl⟩:=hk;have hn:i<o.aD.length:=Cq;obtain⟨e1,e2,e3⟩:=lst_pp hn F aU;obtain⟨m1,m2⟩:=endO_back (a:=2) (b:=2) (i:=(i:Int)) (o:=o) (λc hc=>⟨aAF,aAF⟩);have hW:sN ((6-1)%3) (i:Int) F o={ iZ 2 (i:Int) o with aD:=aS o.aD 2 i F }:=rfl;have hY:cV o ⟨6,0,i,[],bB,F,bA,bD⟩=⟨6,0,i,[],bB,o.aD.getD i aU,bA,bD⟩:=rfl;show cP (sN ((6-1)%3) (i:Int) F o) (cV o ⟨6,0,i,[],bB,F,bA,bD⟩)=_/\cV (sN ((6-1)%3) (i:Int) F o) (cV o ⟨6,0,i,[],bB,F,bA,bD⟩)=_
  rw[hY,hW];refine⟨?_,?_⟩
  .rw[ap_D (o:={ iZ 2 (i:Int) o with aD:=aS o.aD 2 i F }) (x:=⟨6,0,i,[],bB,o.aD.getD i aU,bA,bD⟩) (form_of ⟨(show(1:Int)<=6 by decide),(show(6:Int)<=13 by decide)⟩ Dd) (show(6:Int)≠13 by decide) (show((6:Int)-1)/3=1 by decide) ⟨Ce,Ec⟩ m2];show iQ { iZ 2 (i:Int) (iZ 2 (i:Int) o)with aD:=aS (aS o.aD 2 i F) 2 i (o.aD.getD i aU) }=_
   exact Al
  .show(⟨6,0,i,[],bB,(aS o.aD 2 i F).getD i aU,bA,bD⟩:bM)=_
   rw[e3]
 omega
end
end
theorem set_back{o:aY}{d:Nat}(hd:d<o.aD.length){q0:bO}(hD:o.aD.getD d aU=q0)(q:bO):(o.aD.set d q).getD d aU=q/\(o.aD.set d q).set d q0=o.aD:=by
 refine⟨?_,?_⟩
 .rw[yAA,yAj hd];rfl
 .have e:q0=o.aD[d]:=by
   rw[<-hD,yAA,yAh hd];rfl
  rw[List.set_set,e,List.set_getElem_self]
theorem back_S{o:aY}{x:bM}(hR:jP o)(hz:(cP o x).2=0)(bK:x.kind≠13)(t:(x.kind-1)/3=2):cP (cP o x).1 (cV o x)=(o,0)/\cV (cP o x).1 (cV o x)=x:=by
 have hk:=acc_keep hz;obtain⟨hf,hkd,hix⟩:=wG hz;obtain⟨hd,hi⟩:=(hix bK).2.2.1 t;have hw:=acc_S hz bK t;have hwy:(x.kind-1)%3=0\/(x.kind-1)%3=1\/(x.kind-1)%3=2:=Cd;rw[hw];clear hz hf hw hix;obtain⟨kd,dv,ix,nm,R,F,S,C⟩:=x;simp only at bK t hi hd hkd hwy hk;obtain⟨i,rfl⟩:∃i:Nat,ix=i:=⟨ix.toNat,Hy⟩;obtain⟨d,rfl⟩:∃d:Nat,dv=d:=⟨dv.toNat,Cd⟩;have hdl:d<o.aD.length:=Cd;simp only[yBj]at hi;obtain⟨⟨n1,n2,n3,n4,L⟩,hD⟩:∃q,o.aD.getD d aU=q:=⟨_,rfl⟩;rw[hD]at hi;simp only at hi
 by_cases c0:(kd-1)%3=0
 .obtain rfl:kd=7:=by omega
  unfold dZ at hk;simp only[bM.mk.injEq]at hk;simp at hk;obtain⟨rfl,rfl,rfl,rfl⟩:=hk;have hn:i<=L.length:=Cq;obtain⟨e1,e2,e3⟩:=lst_ar hn S bA;obtain⟨s1,s2⟩:=set_back hdl hD ⟨n1,n2,n3,n4,aS L 0 i S⟩;have hW:mV ((7-1)%3) (i:Int) (d:Int) S o={ o with aD:=o.aD.set d ⟨n1,n2,n3,n4,aS L 0 i S⟩ }:=by
   show { o with aD:=o.aD.set d { o.aD.getD d aU with stops:=aS (o.aD.getD d aU).stops 0 i S } }=_
   rw[hD]
  have hY:cV o ⟨7,d,i,[],bB,aU,S,bD⟩=⟨8,d,i,[],bB,aU,bA,bD⟩:=rfl;show cP (mV ((7-1)%3) (i:Int) (d:Int) S o) (cV o ⟨7,d,i,[],bB,aU,S,bD⟩)=_/\cV (mV ((7-1)%3) (i:Int) (d:Int) S o) (cV o ⟨7,d,i,[],bB,aU,S,bD⟩)=_
  rw[hY,hW];refine⟨?_,?_⟩
  .have hi2:(0<=(d:Int)/\(d:Int)<(o.aD.set d ⟨n1,n2,n3,n4,aS L 0 i S⟩).length)/\eI 1 (i:Int) ((o.aD.set d ⟨n1,n2,n3,n4,aS L 0 i S⟩).getD d aU).stops.length:=by
    exact lu
   rw[ap_S (o:={ o with aD:=o.aD.set d ⟨n1,n2,n3,n4,aS L 0 i S⟩ }) (x:=⟨8,d,i,[],bB,aU,bA,bD⟩) (form_of ⟨(show(1:Int)<=8 by decide),(show(8:Int)<=13 by decide)⟩ Dd) (show(8:Int)≠13 by decide) (show((8:Int)-1)/3=2 by decide) hi2];show iQ { o with aD:=(o.aD.set d ⟨n1,n2,n3,n4,aS L 0 i S⟩).set d { (o.aD.set d ⟨n1,n2,n3,n4,aS L 0 i S⟩).getD d aU with stops:=aS ((o.aD.set d ⟨n1,n2,n3,n4,aS L 0 i S⟩).getD d aU).stops 1 i bA } }=_
   rw[s1];show iQ { o with aD:=(o.aD.set d ⟨n1,n2,n3,n4,aS L 0 i S⟩).set d ⟨n1,n2,n3,n4,aS (aS L 0 i S) 1 i bA⟩ }=_
   rw[e1,s2];exact iq
  .show(⟨7,d,i,[],bB,aU,(((o.aD.set d ⟨n1,n2,n3,n4,aS L 0 i S⟩).getD d aU).stops.getD i bA),bD⟩:bM)=_
   rw[s1];show(⟨7,d,i,[],bB,aU,((aS L 0 i S).getD i bA),bD⟩:bM)=_
   rw[e3]
 by_cases c1:(kd-1)%3=1
 .obtain rfl:kd=8:=by omega
  unfold dZ at hk;simp only[bM.mk.injEq]at hk;simp at hk;obtain⟨rfl,rfl,rfl,rfl,rfl⟩:=hk;have hn:i<L.length:=Cq;obtain⟨e1,e2⟩:=lst_ra hn bA bA;obtain⟨s1,s2⟩:=set_back hdl hD ⟨n1,n2,n3,n4,aS L 1 i bA⟩;have hW:mV ((8-1)%3) (i:Int) (d:Int) bA o={ o with aD:=o.aD.set d ⟨n1,n2,n3,n4,aS L 1 i bA⟩ }:=by
   show { o with aD:=o.aD.set d { o.aD.getD d aU with stops:=aS (o.aD.getD d aU).stops 1 i bA } }=_
   rw[hD]
  have hY:cV o ⟨8,d,i,[],bB,aU,bA,bD⟩=⟨7,d,i,[],bB,aU,(L.getD i bA),bD⟩:=by
   show(⟨7,d,i,[],bB,aU,(o.aD.getD d aU).stops.getD i bA,bD⟩:bM)=_
   rw[hD]
  show cP (mV ((8-1)%3) (i:Int) (d:Int) bA o) (cV o ⟨8,d,i,[],bB,aU,bA,bD⟩)=_/\cV (mV ((8-1)%3) (i:Int) (d:Int) bA o) (cV o ⟨8,d,i,[],bB,aU,bA,bD⟩)=_
  rw[hY,hW];refine⟨?_,?_⟩
  .have hi2:(0<=(d:Int)/\(d:Int)<(o.aD.set d ⟨n1,n2,n3,n4,aS L 1 i bA⟩).length)/\eI 0 (i:Int) ((o.aD.set d ⟨n1,n2,n3,n4,aS L 1 i bA⟩).getD d aU).stops.length:=by
    exact lu
   rw[ap_S (o:={ o with aD:=o.aD.set d ⟨n1,n2,n3,n4,aS L 1 i bA⟩ }) (x:=⟨7,d,i,[],bB,aU,(L.getD i bA),bD⟩) (form_of ⟨(show(1:Int)<=7 by decide),(show(7:Int)<=13 by decide)⟩ Dd) (show(7:Int)≠13 by decide) (show((7:Int)-1)/3=2 by decide) hi2];show iQ { o with aD:=(o.aD.set d ⟨n1,n2,n3,n4,aS L 1 i bA⟩).set d { (o.aD.set d ⟨n1,n2,n3,n4,aS L 1 i bA⟩).getD d aU with stops:=aS ((o.aD.set d ⟨n1,n2,n3,n4,aS L 1 i bA⟩).getD d aU).stops 0 i (L.getD i bA) } }=_
   rw[s1];show iQ { o with aD:=(o.aD.set d ⟨n1,n2,n3,n4,aS L 1 i bA⟩).set d ⟨n1,n2,n3,n4,aS (aS L 1 i bA) 0 i (L.getD i bA)⟩ }=_
   rw[e1,s2];exact iq
  .rfl
 by_cases c2:(kd-1)%3=2
 .obtain rfl:kd=9:=by omega
  unfold dZ at hk;simp only[bM.mk.injEq]at hk;simp at hk;obtain⟨rfl,rfl,rfl,rfl⟩:=hk;have hn:i<L.length:=Cq;obtain⟨e1,e2,e3⟩:=lst_pp hn S bA;obtain⟨s1,s2⟩:=set_back hdl hD ⟨n1,n2,n3,n4,aS L 2 i S⟩;have hW:mV ((9-1)%3) (i:Int) (d:Int) S o={ o with aD:=o.aD.set d ⟨n1,n2,n3,n4,aS L 2 i S⟩ }:=by
   show { o with aD:=o.aD.set d { o.aD.getD d aU with stops:=aS (o.aD.getD d aU).stops 2 i S } }=_
   rw[hD]
  have hY:cV o ⟨9,d,i,[],bB,aU,S,bD⟩=⟨9,d,i,[],bB,aU,(L.getD i bA),bD⟩:=by
   show(⟨9,d,i,[],bB,aU,(o.aD.getD d aU).stops.getD i bA,bD⟩:bM)=_
   rw[hD]
  show cP (mV ((9-1)%3) (i:Int) (d:Int) S o) (cV o ⟨9,d,i,[],bB,aU,S,bD⟩)=_/\cV (mV ((9-1)%3) (i:Int) (d:Int) S o) (cV o ⟨9,d,i,[],bB,aU,S,bD⟩)=_
  rw[hY,hW];refine⟨?_,?_⟩
  .have hi2:(0<=(d:Int)/\(d:Int)<(o.aD.set d ⟨n1,n2,n3,n4,aS L 2 i S⟩).length)/\eI 2 (i:Int) ((o.aD.set d ⟨n1,n2,n3,n4,aS L 2 i S⟩).getD d aU).stops.length:=by
    exact lu
   rw[ap_S (o:={ o with aD:=o.aD.set d ⟨n1,n2,n3,n4,aS L 2 i S⟩ }) (x:=⟨9,d,i,[],bB,aU,(L.getD i bA),bD⟩) (form_of ⟨(show(1:Int)<=9 by decide),(show(9:Int)<=13 by decide)⟩ Dd) (show(9:Int)≠13 by decide) (show((9:Int)-1)/3=2 by decide) hi2];show iQ { o with aD:=(o.aD.set d ⟨n1,n2,n3,n4,aS L 2 i S⟩).set d { (o.aD.set d ⟨n1,n2,n3,n4,aS L 2 i S⟩).getD d aU with stops:=aS ((o.aD.set d ⟨n1,n2,n3,n4,aS L 2 i S⟩).getD d aU).stops 2 i (L.getD i bA) } }=_
   rw[s1];show iQ { o with aD:=(o.aD.set d ⟨n1,n2,n3,n4,aS L 2 i S⟩).set d ⟨n1,n2,n3,n4,aS (aS L 2 i S) 2 i (L.getD i bA)⟩ }=_
   rw[e1,s2];exact iq
  .show(⟨9,d,i,[],bB,aU,(((o.aD.set d ⟨n1,n2,n3,n4,aS L 2 i S⟩).getD d aU).stops.getD i bA),bD⟩:bM)=_
   rw[s1];show(⟨9,d,i,[],bB,aU,((aS L 2 i S).getD i bA),bD⟩:bM)=_
   rw[e3]
 omega
theorem fit_back{o:aY}{x:bM}(hR:jP o):l7 (cV o x):=by
 have nn:lB []:=yAF _;have hr:∀i,xU (o.aQ.getD i bB):=λi=>by
  by_cases h:i<o.aQ.length
  .exact hR.2.aQ _ (BT h bB)
  .rw[yAA,yBy Cd];exact CO
 have hd:∀i,rM (o.aD.getD i aU):=λi=>by
  by_cases h:i<o.aD.length
  .exact hR.2.aD _ (BT h aU)
  .rw[yAA,yBy Cd];exact CP
 have hs:∀i j,D6 ((o.aD.getD i aU).stops.getD j bA):=λi j=>by
  by_cases h:j<(o.aD.getD i aU).stops.length
  .exact(hd i).2.2 _ (BT h bA)
  .rw[yAA,yBy Cd];exact EM
 have hc:∀i,lB (o.aL.getD i bD).name:=λi=>by
  by_cases h:i<o.aL.length
  .exact hR.2.aL _ (BT h bD)
  .rw[yAA,yBy Cd];exact nn
 unfold cV;split
 .exact⟨hR.2.name,CO,CP,EM,nn⟩
 split
 .exact⟨nn,CO,CP,EM,nn⟩
 simp only;split
 .exact⟨nn,hr _,CP,EM,nn⟩
 split
 .exact⟨nn,CO,hd _,EM,nn⟩
 split
 .exact⟨nn,CO,CP,hs _ _,nn⟩
 .exact⟨nn,CO,CP,EM,hc _⟩
theorem back_law:BackLaw:=by
 intro O X hR hX hz
 by_cases bK:X.kind=13
 .obtain⟨a,b,c⟩:=back_N hR hz bK;exact⟨a,fit_back hR,b,c⟩
 have hL:backL O X=cV O X:=by unfold backL;rw[yAI bK]
 obtain⟨hf,hk,_⟩:=wG hz;refine⟨hL,fit_back hR,?_⟩
 by_cases t0:(X.kind-1)/3=0
 .exact back_R hR hz bK t0
 by_cases t1:(X.kind-1)/3=1
 .exact back_D hR hz bK t1
 by_cases t2:(X.kind-1)/3=2
 .exact back_S hR hz bK t2
 exact back_C hR hz bK Cd
def As0:aE:=Ar6.add 21 SZ
theorem aSP:aF prog As0:=aSQ.tE bS λo x z hz=>by obtain⟨h,e⟩:=gE hz;cases e;exact aSR aGT rfl rfl rfl rfl o x h.1 h.2
theorem aGU:aJ As0:=aGT.entry
def As1:aE:=As0.add 24 gLb
theorem aG5:aF prog As1:=aSP.tE bS λo x z hz=>by obtain⟨h,e⟩:=gE hz;cases e;exact r_lback aGU rfl rfl o x h
theorem aG4:aJ As1:=aGU.entry
end Go.Kz
end
