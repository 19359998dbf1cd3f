import Derived.Test.YteegpeenjdgodaaGreatDoorS5c
import Derived.Test.YteegpeenjdgodaaGreatDoorS3
import Derived.Test.YteegpeenjdgodaaGreatDoorCards
import Derived.Test.YteegpeenjdgodaaGreatDoorTie
import Derived.SevenTiedAt
import Derived.Test.YteegpeenjdgodaaGreatDoorU8
import Derived.Test.YteegpeenjdgodaaGreatDoorS0
import Derived.Test.YteegpeenjdgodaaGreatDoorU4
set_option linter.all false
set_option maxHeartbeats 40000000
set_option maxRecDepth 100000
open Go.Proofs.Tryz
noncomputable section
namespace Go.Proofs.YteegpeenjdgodaaGreatDoor
open Go Go.Kz Go.ChangeShapes Go.WideShapes Go.ChangeAt Go.WideMaps Go.WideElems Go.RowKit
set_option maxRecDepth 100000
theorem own:ownKnob prog.godebug=none:=by kernel_rfl
theorem laidOut:laidOutB prog=true:=by kernel_rfl
abbrev D7:List (String×DataW Unit):=[("math/bits.deBruijn32tab",Rows.laid_math_bits_deBruijn32tab),("math/bits.deBruijn64tab",Rows.laid_math_bits_deBruijn64tab),("internal/strconv.uint64pow10",Rows.laid_internal_strconv_uint64pow10)]
theorem aFz:(D7.all fun x=>x.2.handleName?.isNone)=true:=by decide +kernel
def D9(g:Nat):List Int:=match wF g with|some (_,xs)=>xs|none=>[]
theorem YH:wF 0=some (.u64,D9 0):=rfl
theorem YI:wF 2=some (.u8,D9 2):=rfl
theorem YJ:wF 3=some (.u8,D9 3):=rfl
theorem PY{g:Nat}(h0:g≠0)(h2:g≠2)(h3:g≠3):wF g=none:=by unfold wF;rw[yAI h0,yAI h2,yAI h3]
theorem K5{g:Nat}(h:g≠1):EA g=none:=by unfold EA;rw[yAI h]
theorem PZ{g:Nat}{k:IntKind}{xs:List Int}(h:wF g=some (k,xs))(hi:EA g=none):YK g (xs.map (Value.int k)).toArray:=by
 refine⟨fun k' zs hk=>?_,fun k' hk=>?_⟩
 ·rw[h]at hk
  simp only[yAb,yAc]at hk
  obtain⟨rfl,rfl⟩:=hk
  rfl
 ·rw[hi]at hk
  cases hk
theorem jA{W:World}(hs:W.ShapedOpen prog)(h:laidMetH prog D7 W):Gl (.start W):=by
 rw[MakeChecks.laidMetH_plain _ _ _ aFz]at h
 obtain⟨ps,hv,_,_⟩:=h
 obtain⟨Ta,fa,ha⟩:=P0 (P:=prog) (nm:= "internal/strconv.uint64pow10") (k:=.u64) (xs:=D9 0) (g:=0) (n:=20) hv (List.Mem.tail _ (List.Mem.tail _ (List.Mem.head _))) (by kernel_rfl) (t:=254) (by kernel_rfl) underlying254 underlying226 (by kernel_rfl) (by kernel_rfl)
 obtain⟨Tb,fb,hb⟩:=P0 (P:=prog) (nm:= "math/bits.deBruijn32tab") (k:=.u8) (xs:=D9 2) (g:=2) (n:=32) hv (List.Mem.head _) (by kernel_rfl) (t:=275) (by kernel_rfl) underlying275 underlying5 (by kernel_rfl) (by kernel_rfl)
 obtain⟨Tc,fc,hc⟩:=P0 (P:=prog) (nm:= "math/bits.deBruijn64tab") (k:=.u8) (xs:=D9 3) (g:=3) (n:=64) hv (List.Mem.tail _ (List.Mem.head _)) (by kernel_rfl) (t:=276) (by kernel_rfl) underlying276 underlying5 (by kernel_rfl) (by kernel_rfl)
 obtain⟨m,T0,fz0,h0⟩:=aFA (g:=1) (t:=3) (k:=.i64) (zero:=#[.int .i64 0]) hs (by decide +kernel) (by kernel_rfl) rfl (by kernel_rfl) (by kernel_rfl) underlying3
 refine⟨?_,?_⟩
 ·intro g ds hg
  by_cases e0:g=0
  ·subst e0
   simp only[xY,YH,yAb]at hg
   subst hg
   exact P4 ha
  by_cases e2:g=2
  ·subst e2
   simp only[xY,YI,yAb]at hg
   subst hg
   exact P4 hb
  by_cases e3:g=3
  ·subst e3
   simp only[xY,YJ,yAb]at hg
   subst hg
   exact P4 hc
  simp only[xY,PY e0 e2 e3]at hg
  cases hg
 ·intro g hg
  refine⟨?_,fun id hd=>hd.elim⟩
  by_cases e0:g=0
  ·subst e0
   exact⟨_,Ta,fa,ha,PZ YH (K5 (by decide))⟩
  by_cases e2:g=2
  ·subst e2
   exact⟨_,Tb,fb,hb,PZ YI (K5 (by decide))⟩
  by_cases e3:g=3
  ·subst e3
   exact⟨_,Tc,fc,hc,PZ YJ (K5 (by decide))⟩
  by_cases e1:g=1
  ·subst e1
   refine⟨_,T0,fz0,h0,?_,?_⟩
   ·intro k zs hk
    rw[PY e0 e2 e3]at hk
    cases hk
   ·intro k hk
    have:k=.i64:=by
     have:EA 1=some .i64:=rfl
     rw[this]at hk
     exact(yBe hk).symm
    subst this
    exact⟨m,rfl⟩
  unfold YL at hg
  rw[PY e0 e2 e3,K5 e1]at hg
  cases hg
noncomputable def YD(os:Os):World:=World.doorLaid prog 400 os
theorem aFt(os:Os)(args:Array Value):laidMetH prog D7 ((YD os).forCall (fun _ _=>0) ⟨#[],args,[]⟩).memory:=
 laidMetH_of_parts3 (fuel:=8) (laidMet_of_run' 8 (by kernel_rfl) (by kernel_rfl)) (by kernel_rfl) (by kernel_rfl)
theorem named:(prog.funcs.toList.all fun fn=>!(fn.name== "runtime.NumGoroutine"))=true:=by kernel_rfl
theorem names(f:FuncId)(fn:Func)(h:prog.funcs[f]?=some fn):(fn.name== "runtime.NumGoroutine")=false:=by
 have:=yAn.1 named fn (yCc.2 (yDC h))
 simpa using this
theorem aFB{d:Nat}{qs:Ey}(h:Typed prog (d+2) 101 qs):∃ws,qs=ws/\∃w0 w1 w2 w3 w4:Int,ws=[.int .u8 w0,.int .u8 w1,.int .u8 w2,.int .u8 w3,.int .u8 w4]/\gF w0/\gF w1/\gF w2/\gF w3/\gF w4:=by
 have hu:=underlying101
 unfold Typed at h
 rw[hu]at h
 simp only at h
 obtain⟨xs,hl,hx,rfl⟩:=h
 match xs,hl,hx with
 | [x0,x1,x2,x3,x4],_,hx=>
   obtain⟨a,rfl,wa⟩:=oB underlying5 (hx x0 (by simp))
   obtain⟨b,rfl,wb⟩:=oB underlying5 (hx x1 (by simp))
   obtain⟨c,rfl,wc⟩:=oB underlying5 (hx x2 (by simp))
   obtain⟨e,rfl,we⟩:=oB underlying5 (hx x3 (by simp))
   obtain⟨f,rfl,wf⟩:=oB underlying5 (hx x4 (by simp))
   exact⟨_,rfl,a,b,c,e,f,rfl,wf_u8 wa,wf_u8 wb,wf_u8 wc,wf_u8 we,wf_u8 wf⟩
theorem wf_i8{z:Int}(hz:(Lit.int .i8 z).wf=true):-128<=z/\z<=127:=by
 simp only[Lit.wf,yAr,yBY]at hz
 exact hz
section
variable{d:Nat}{qs:Ey}
theorem aFC(h:Typed prog (d+3) 103 qs):∃x:lZ,l6 prog 103 qs=Em.tM.aA x/\AA x:=by
 obtain⟨q0,r0,rfl,h0,h⟩:=mR (G5 underlying103 h)
 obtain⟨q1,r1,rfl,h1,h⟩:=mR h
 obtain⟨q2,r2,rfl,h2,h⟩:=mR h
 obtain⟨q3,r3,rfl,h3,h⟩:=mR h
 obtain⟨q4,r4,rfl,h4,h⟩:=mR h
 obtain rfl:=G6 h
 obtain⟨a,rfl,wa⟩:=oB underlying5 h0
 obtain⟨b,rfl,wb⟩:=oB underlying5 h1
 obtain⟨c,rfl,wc⟩:=oB underlying100 h2
 obtain⟨e,rfl,we⟩:=oB underlying5 h3
 obtain⟨ws,rfl,hw⟩:=aFB h4
 obtain⟨w0,w1,w2,w3,w4,rfl,k0,k1,k2,k3,k4⟩:=hw
 exact⟨⟨a,b,c,e,w0,w1,w2,w3,w4⟩,G7 (by kernel_rfl),wf_u8 wa,wf_u8 wb,wf_i8 wc,wf_u8 we,k0,k1,k2,k3,k4⟩
theorem aFD(h:Typed prog (d+2) 106 qs):∃x:oK,l6 prog 106 qs=Em.pull.aA x/\CB x:=by
 obtain⟨q0,r0,rfl,h0,h⟩:=mR (G5 underlying106 h)
 obtain⟨q1,r1,rfl,h1,h⟩:=mR h
 obtain⟨q2,r2,rfl,h2,h⟩:=mR h
 obtain⟨q3,r3,rfl,h3,h⟩:=mR h
 obtain rfl:=G6 h
 obtain⟨a,rfl,wa⟩:=oB underlying5 h0
 obtain⟨b,rfl,wb⟩:=oB underlying5 h1
 obtain⟨c,rfl,wc⟩:=oB underlying5 h2
 obtain⟨e,rfl,we⟩:=oB underlying5 h3
 exact⟨⟨a,b,c,e⟩,G7 (by kernel_rfl),wf_u8 wa,wf_u8 wb,wf_u8 wc,wf_u8 we⟩
theorem aFE(h:Typed prog (d+4) 95 qs):∃x:qC,l6 prog 95 qs=Em.xZ.aA x/\okB x:=by
 obtain⟨q0,r0,rfl,h0,h⟩:=mR (G5 underlying95 h)
 obtain⟨q1,r1,rfl,h1,h⟩:=mR h
 obtain⟨q2,r2,rfl,h2,h⟩:=mR h
 obtain⟨q3,r3,rfl,h3,h⟩:=mR h
 obtain rfl:=G6 h
 obtain⟨a,rfl,wa⟩:=oB underlying5 h0
 obtain⟨b,rfl,wb⟩:=oB underlying5 h1
 obtain⟨c,rfl⟩:=YM underlying4 h2
 obtain⟨ys,rfl,_,hy⟩:=K6 (em:=Em.pull) (R:=CB) underlying93 (k:=4) (by kernel_rfl) (fun x hx=>aFD hx) h3
 exact⟨⟨a,b,c,ys⟩,G7 (by kernel_rfl),wf_u8 wa,wf_u8 wb,hy⟩
theorem aFF(h:Typed prog (d+2) 108 qs):∃x:q9,l6 prog 108 qs=Em.link.aA x/\P5 x:=by
 obtain⟨q0,r0,rfl,h0,h⟩:=mR (G5 underlying108 h)
 obtain⟨q1,r1,rfl,h1,h⟩:=mR h
 obtain⟨q2,r2,rfl,h2,h⟩:=mR h
 obtain⟨q3,r3,rfl,h3,h⟩:=mR h
 obtain rfl:=G6 h
 obtain⟨a,rfl,wa⟩:=oB underlying5 h0
 obtain⟨b,rfl,wb⟩:=oB underlying5 h1
 obtain⟨c,rfl,wc⟩:=oB underlying100 h2
 obtain⟨e,rfl⟩:=YM underlying4 h3
 exact⟨⟨a,b,c,e⟩,G7 (by kernel_rfl),wf_u8 wa,wf_u8 wb,wf_i8 wc⟩
theorem YF(h:Typed prog (d+6) 26 qs):∃x:oC,l6 prog 26 qs=Em.pB.aA x/\AB x:=by
 obtain⟨q0,r0,rfl,h0,h⟩:=mR (G5 underlying26 h)
 obtain⟨q1,r1,rfl,h1,h⟩:=mR h
 obtain⟨q2,r2,rfl,h2,h⟩:=mR h
 obtain rfl:=G6 h
 obtain⟨xs,rfl,_,hx⟩:=K6 (em:=Em.tM) (R:=AA) underlying22 (k:=9) (by kernel_rfl) (fun x hx=>aFC hx) h0
 obtain⟨ys,rfl,_,hy⟩:=K6 (em:=Em.xZ) (R:=okB) underlying23 (k:=4) (by kernel_rfl) (fun x hx=>aFE hx) h1
 obtain⟨zs,rfl,_,hz⟩:=K6 (em:=Em.link) (R:=P5) underlying24 (k:=4) (by kernel_rfl) (fun x hx=>aFF hx) h2
 exact⟨⟨xs,ys,zs⟩,G7 (by kernel_rfl),hx,hy,hz⟩
end
end Go.Proofs.YteegpeenjdgodaaGreatDoor
namespace Go.Proofs.YteegpeenjdgodaaGreatDoor
open Go Go.Kz Go.ChangeShapes Go.WideShapes Go.ChangeAt Go.WideMaps Go.WideElems Go.RowKit
set_option maxRecDepth 100000
end Go.Proofs.YteegpeenjdgodaaGreatDoor
namespace Go.Kz
open Go Go.Proofs
section
abbrev pOE:Em (aM×Int):=Em.bH.rJ i64
abbrev aFc:Em (List bJ):=Em.edit.list 24
open Classical in
def KV:Nat->List PD->List aB->Option (PD×List aB):=entry (eD Em.bH Em.edit pOE λo x=>dY (gK o/\pM x) (some (j8 o x)))
theorem aQF{o:aM}{x:bJ}(ho:gK o)(hx:pM x)(fl:Nat)(σ:List aB):KV fl [Em.bH.aA o,Em.edit.aA x] σ=some (.aP [Em.bH.aA (j8 o x).1,.int .i64 (j8 o x).2],σ):=by
 have e1:=Em.cO (Em.bH.str o);have e2:=Em.cO (Em.edit.str x);unfold KV entry eD;simp only[e1,e2,gO (show gK o/\pM x from⟨ho,hx⟩)];rfl
def KW:Nat->List PD->List aB->Option (PD×List aB):=entry (bZ Em.bH Em.bH λo=>dY (gK o) (some o))
theorem aQM{o:aM}(ho:gK o)(fl:Nat)(σ:List aB):KW fl [Em.bH.aA o] σ=some (Em.bH.aA o,σ):=by
 have e1:=Em.cO (Em.bH.str o);unfold KW entry bZ;simp only[e1,gO ho]
theorem aRk(o:aM)(ho:gK o):RunT prog JG 41 [Em.bH.aA o] (Em.bH.aA o):=by
 obtain⟨p,σ,h1,⟨iR,iD,iC,ds,tS,tss,tG,tgs,tW,hO⟩,_,_⟩:=(aLl o ho.dP.eV []).ex;obtain⟨l1,l2,l3⟩:=aLw hO ho.short;refine⟨20,p,σ,h1,?_⟩;have:=hO.p;subst this;exact N0 (N3.JJ l1) (N4.JJ l2) (N5.JJ l3) 11
theorem K3{o:aM}(hf:nT o)(h:(uK o).2=0):gK (uK o).1:=by
 unfold uK at h ⊢
 by_cases e:bS o=0
 .rw[yAJ e];exact⟨e,hf⟩
 .rw[yAI e]at h;exact absurd h e
theorem aQG{o:aM}{x:bJ}(ho:gK o)(hx:pM x)(h:(j8 o x).2=0):gK (j8 o x).1:=by
 obtain⟨b1,b2,b3,b4⟩:=ho.bounds;unfold j8 at h ⊢;split at h
 .rename_i hf;exact absurd h hf
 rename_i hf;rw[yAI hf];split at h
 .rename_i A1;rw[yAJ A1];exact K3 ⟨hx.1,ho.2.aK,ho.2.aD,ho.2.aR⟩ h
 rename_i A1;rw[yAI A1];split at h
 .rename_i t0;rw[yAJ t0];split at h
  .rename_i hi;rw[yAJ hi];split at h
   .rename_i hc;rw[yAJ hc];exact K3 (aOd ho.2 hx.2.1 _ _) h
   .exact fe
  .exact fe
 rename_i t0;rw[yAI t0];split at h
 .rename_i t1;rw[yAJ t1];split at h
  .rename_i hi;rw[yAJ hi];split at h
   .rename_i hc;rw[yAJ hc];exact K3 (aOe ho.2 hx.2.2.1 _ _) h
   .exact fe
  .exact fe
 rename_i t1;rw[yAI t1];split at h
 .rename_i t2;rw[yAJ t2];split at h
  .rename_i hi;rw[yAJ hi];exact K3 (aBF ho.2 hx.2.2.2.1 _ _ _ ye (by have:=b4 _ (NG (show x.div.toNat<o.aD.length by omega) cP);omega)) h
  .exact fe
 rename_i t2;rw[yAI t2];split at h
 .rename_i hi;rw[yAJ hi];exact K3 (aBG ho.2 hx.2.2.2.2 _ _) h
 .exact fe
variable{E:aE}(hU:aH E)
include hU
end
section
variable{E:aE}(hU:aH E)
include hU
end
section
variable{E:aE}(hU:aH E)
include hU
end
theorem B8:y6 jN:=⟨yAF _,yAF _,yAF _⟩
theorem D4:rO cP:=⟨yAF _,yAF _,λ_ h=>yw⟩
theorem zY:DM iX:=⟨⟨yAF _,λ_ h=>yw⟩,yAF _⟩
def iZ:aM->List bJ->Option aM
 |o,[]=>some o
 |o,x::t=>if (j8 o x).2=0 then iZ (j8 o x).1 t else none
theorem aQT(o:aM)(l m:List bJ):iZ o (l++m)=(iZ o l).bind λq=>iZ q m:=by
 induction l generalizing o with
 |nil=>rfl
 |cons x t ih=>
  simp only[yAQ,iZ];split
  .exact ih _
  .rfl
theorem aFh{o q:aM}{x:bJ}(h:j8 o x=(q,0)):iZ o [x]=some q:=by
 simp only[iZ,h,yAK]
theorem z8{o q r:aM}{l m:List bJ}(h:iZ o l=some q)(k:iZ q m=some r):iZ o (l++m)=some r:=by
 rw[aQT,h];exact k
def n4(n:List UInt8):bJ:=⟨13,0,0,n,jN,cP,iX,kB⟩
def qA(i:Nat):bJ:=⟨11,0,i,[],jN,cP,iX,kB⟩
def oA(d i:Nat):bJ:=⟨8,d,i,[],jN,cP,iX,kB⟩
def pA(i:Nat):bJ:=⟨2,0,i,[],jN,cP,iX,kB⟩
def mQ(i:Nat):bJ:=⟨5,0,i,[],jN,cP,iX,kB⟩
def n8(i:Nat)(r:bB):bJ:=⟨1,0,i,[],r,cP,iX,kB⟩
def wC(i:Nat)(d:bD):bJ:=⟨6,0,i,[],jN,d,iX,kB⟩
def uU(i:Nat)(d:bD):bJ:=⟨4,0,i,[],jN,d,iX,kB⟩
def qB(i:Nat)(c:bR):bJ:=⟨10,0,i,[],jN,cP,iX,c⟩
theorem KZ{o:aM}(h:bS o=0):uK o=(o,0):=yAJ h
theorem aQU(n:List UInt8):gQ (n4 n)=0:=rfl
theorem aQV(i:Nat):gQ (qA i)=0:=rfl
theorem aQW(d i:Nat):gQ (oA d i)=0:=rfl
theorem aQX(i:Nat):gQ (pA i)=0:=rfl
theorem aQY(i:Nat):gQ (mQ i)=0:=rfl
theorem aQZ(i:Nat)(r:bB):gQ (n8 i r)=0:=rfl
theorem aQ0(i:Nat)(d:bD):gQ (wC i d)=0:=rfl
theorem aQ1(i:Nat)(d:bD):gQ (uU i d)=0:=rfl
theorem aQ2(i:Nat)(c:bR):gQ (qB i c)=0:=rfl
theorem aQ3{o:aM}{n:Ez}(h:bS { o with name:=n }=0):j8 o (n4 n)=({ o with name:=n },0):=by
 unfold j8;rw[yAI (λk=>k (aQU n)),yAJ (show(n4 n).kind=13 from rfl)];exact KZ h
theorem aFi{o:aM}{x:bJ}{w:Int}(hf:gQ x=0)(h3:(x.kind-1)/3=3)(hw:(x.kind-1)%3=w)(hi:mL w x.idx o.aR.length)(h:bS (zT w x.idx x.aJ o)=0):j8 o x=(zT w x.idx x.aJ o,0):=by
 unfold j8;rw[yAI (λk=>k hf),yAI ye,yAI ye,yAI ye,yAI ye,hw,yAJ hi];exact KZ h
theorem aQ4{o:aM}{x:bJ}{w:Int}(hf:gQ x=0)(h3:(x.kind-1)/3=2)(hw:(x.kind-1)%3=w)(hi:(0<=x.div/\x.div<o.aD.length)/\mL w x.idx (o.aD.getD x.div.toNat cP).stops.length)(h:bS (xP w x.idx x.div x.stop o)=0):j8 o x=(xP w x.idx x.div x.stop o,0):=by
 unfold j8;rw[yAI (λk=>k hf),yAI ye,yAI ye,yAI ye,yAJ h3,hw,yAJ hi];exact KZ h
theorem X7{o:aM}{x:bJ}{w:Int}(hf:gQ x=0)(h3:(x.kind-1)/3=1)(hw:(x.kind-1)%3=w)(hi:mL w x.idx o.aD.length)(hc:o.aR=[])(h:bS (uJ w x.idx x.frame o)=0):j8 o x=(uJ w x.idx x.frame o,0):=by
 unfold j8;rw[yAI (λk=>k hf),yAI ye,yAI ye,yAJ h3,hw,yAJ hi,yAJ (λc h=>by rw[hc]at h;cases h)];exact KZ h
def xV(o:aM):Prop:=∀d∈o.aD,d.stops=[]
theorem aFj{o:aM}{x:bJ}{w:Int}(hf:gQ x=0)(h3:(x.kind-1)/3=0)(A1:x.kind≠13)(hw:(x.kind-1)%3=w)(hi:mL w x.idx o.aK.length)(hb:xV o)(h:bS (wZ w x.idx x.aG o)=0):j8 o x=(wZ w x.idx x.aG o,0):=by
 unfold j8;rw[yAI (λk=>k hf),yAI A1,yAJ h3,hw,yAJ hi,yAJ (show NA w x.idx o from λd hd s hs=>by rw[hb d hd]at hs;cases hs)];exact KZ h
theorem aFk{w i:Int}{o:aM}(hb:xV o):I1 w i o=o:=by
 have:o.aD.map (FU w i)=o.aD:=by
  rw[yAG (g:=id) λd hd=>by unfold FU;rw[hb d hd];show({ d with stops:=[] }:bD)=d;rw[<-hb d hd],List.map_id]
 unfold I1;rw[this]
theorem X8{w i:Int}{o:aM}(hc:o.aR=[]):NC w i o=o:=by
 obtain⟨n,r,d,c⟩:=o;subst hc;rfl
theorem aQ5{α:Type}(l:List α)(x:α)(n:Nat)(h:n=l.length):dA l 0 n x=l++[x]:=by
 subst h;unfold dA;rw[yAJ rfl,yBO,yCm]
def eY(f:Nat->bJ):Nat->List bJ
 |0=>[]
 |n+1=>f n::eY f n
theorem G4(f:Nat->bJ)(n:Nat):(eY f n).length=n:=by
 induction n with
 |zero=>rfl
 |succ n ih=>rw[eY,yAS,ih]
theorem K1(S:Nat->aM)(f:Nat->bJ):∀n,(∀k,k<n->j8 (S (k+1)) (f k)=(S k,0))->iZ (S n) (eY f n)=some (S 0)
 |0,_=>rfl
 |n+1,h=>by
  rw[eY,iZ,h n (Nat.lt_succ_self n),yAJ rfl];exact K1 S f n λk hk=>h k ye
theorem aFl(S:Nat->aM)(l:List bJ)(h:∀k (hk:k<l.length),j8 (S k) l[k]=(S (k+1),0)):∀k,k<=l.length->iZ (S 0) (l.take k)=some (S k)
 |0,_=>rfl
 |k+1,hk=>by
  rw[yBG ye];exact z8 (aFl S l h k ye) (aFh (h k ye))
theorem X9(S:Nat->aM)(l:List bJ)(h:∀k (hk:k<l.length),j8 (S k) l[k]=(S (k+1),0)):iZ (S 0) l=some (S l.length):=by
 have:=aFl S l h l.length (yAk _)
 rwa [yBO]at this
theorem PT{α:Type}(l:List α)(x:α)(n:Nat)(h:n<l.length):dA (l.take (n+1)) 1 n x=l.take n:=by
 unfold dA;rw[yAI yj,yAJ rfl,yCi,yBS ye,yCk Ai,yAl]
theorem YA{α:Type}(l:List α)(n:Nat)(h:n<l.length):dA (l.take n) 0 n l[n]=l.take (n+1):=by
 rw[aQ5 _ _ _ Ai,yBG h]
theorem PU{α β:Type}{f:α->β}{l:List α}(h:(l.map f).Nodup)(n:Nat):((l.take n).map f).Nodup:=by
 rw[yCR];exact List.Sublist.nodup (List.take_sublist ..) h
theorem aQ6{o:aM}(h:bS o=0)(n:Nat):(o.aK.take n).length<=60/\(∀r∈o.aK.take n,mK r=0)/\((o.aK.take n).map bB.name).Nodup:=by
 obtain⟨_,⟨h1,h2,h3⟩,_⟩:=(gV o).1 h;exact⟨Ai,λr hr=>h2 r (yAy hr),PU h3 n⟩
theorem go_name{a:aM}{n:Ez}(h:bS a=0)(hn:dV n=true):bS { a with name:=n }=0:=by
 obtain⟨_,h2⟩:=(gV a).1 h;exact(gV _).2 ⟨hn,h2⟩
theorem go_coup{a:aM}(h:bS a=0)(n:Nat):bS { a with aR:=a.aR.take n }=0:=by
 obtain⟨h1,h2,h3,h4,h5,h6⟩:=(gV a).1 h;exact(gV _).2 ⟨h1,h2,h3,by show(a.aR.take n).length<=40;rw[yAt];omega,λc hc=>h5 c (yAy hc),PU h6 n⟩
theorem aQ7{a:aM}(h:bS a=0):iZ a (eY (λi=>qA i) a.aR.length)=some { a with aR:=[] }:=by
 have:=K1 (λk=>{ a with aR:=a.aR.take k }) (λi=>qA i) a.aR.length λk hk=>by
  have e:zT 1 (qA k).idx (qA k).aJ { a with aR:=a.aR.take (k+1) }={ a with aR:=a.aR.take k }:=by
   show({ a with aR:=dA (a.aR.take (k+1)) 1 ((k:Int)).toNat kB }:aM)=_
   rw[yBy,PT _ _ _ hk]
  rw[aFi (w:=1) (aQV k) rfl rfl ⟨yCb k,by show(k:Int)<((a.aR.take (k+1)).length:Int);rw[yAt];omega⟩ (by rw[e];exact go_coup h k),e]
 simp only[yBO,yCS]at this;exact this
theorem aQ8{a b:aM}(h:bS b=0)(e:a={ b with aR:=[] }):iZ a (b.aR.mapIdx λi c=>qB i c)=some b:=by
 subst e;have:=X9 (λk=>{ b with aR:=b.aR.take k }) (b.aR.mapIdx λi c=>qB i c) λk hk=>by
  rw[yBH]at hk;rw[yDi];have e:zT 0 (qB k b.aR[k]).idx (qB k b.aR[k]).aJ { b with aR:=b.aR.take k }={ b with aR:=b.aR.take (k+1) }:=by
   show({ b with aR:=dA (b.aR.take k) 0 ((k:Int)).toNat b.aR[k] }:aM)=_
   rw[yBy,YA _ _ hk]
  rw[aFi (w:=0) (aQ2 ..) rfl rfl ⟨yCb k,by show(k:Int)<((b.aR.take k).length:Int)+1;rw[yAt];omega⟩ (by rw[e];exact go_coup h (k+1)),e]
 simp only[yBH,yBO,yCS]at this;exact this
def wE(o:aM)(i:Nat)(l:List bU):aM:={ o with aD:=o.aD.set i { o.aD.getD i cP with stops:=l } }
theorem aQ9{α:Type}(l:List α)(i:Nat)(x d:α)(h:i<l.length):(l.set i x).getD i d=x:=by
 rw[yAA,yAj h];rfl
theorem map_set{α β:Type}(f:α->β)(l:List α)(i:Nat)(x d:α)(h:f x=f (l.getD i d)):(l.set i x).map f=l.map f:=by
 rw[yCL]
 by_cases hi:i<l.length
 .rw[h,yAA,yAh hi];show(l.map f).set i (f l[i])=_
  rw[<-yBE f (h:=by rw[yAe];exact hi),yEi]
 .rw[yEg zo]
theorem aRa{rs:List bB}{d:bD}(h:nJ rs d=0)(n:Nat):nJ rs { d with stops:=d.stops.take n }=0:=by
 obtain⟨h1,h2,h3,h4⟩:=(zQ rs d).1 h;exact(zQ _ _).2 ⟨h1,by show(d.stops.take n).length<=60;rw[yAt];omega,λs hs=>h3 s (yAy hs),PU h4 n⟩
theorem go_stop{o:aM}(h:bS o=0)(i n:Nat):bS (wE o i ((o.aD.getD i cP).stops.take n))=0:=by
 obtain⟨h1,h2,⟨⟨h3,DU⟩,h4,h5⟩,h6,h7,h8⟩:=(gV o).1 h;refine(gV _).2 ⟨h1,h2,⟨⟨?_,?_⟩,?_,?_⟩,h6,?_,h8⟩
 .show(o.aD.set ..).length≠0;rw[yAD];exact h3
 .show(o.aD.set ..).length<=8;rw[yAD];exact DU
 .intro d hd;rcases yCP hd with hd|rfl
  .exact h4 d hd
  .by_cases hi:i<o.aD.length
   .have:=h4 _ (NG hi cP);exact⟨this.1,aRa this.2 n⟩
   .exfalso
    have e:(wE o i ((o.aD.getD i cP).stops.take n)).aD=o.aD:=yEg ye;have hh:=h4;rw[e]at hd;have:=(h4 _ hd).1;rw[show(o.aD.getD i cP)=cP from by rw[yAA,yBF ye];rfl]at this;exact absurd (show dV []=true from this) yj
 .have e:=map_set bD.name o.aD i { o.aD.getD i cP with stops:=(o.aD.getD i cP).stops.take n } cP rfl;exact(yAL List.Nodup e).mpr h5
 .intro c hc;show OX (o.aD.set ..).length c
  rw[yAD];exact h7 c hc
theorem aRb{o:aM}(h:bS o=0){i:Nat}(hi:i<o.aD.length):iZ o (eY (λk=>oA i k) (o.aD.getD i cP).stops.length)=some (wE o i []):=by
 have:=K1 (λk=>wE o i ((o.aD.getD i cP).stops.take k)) (λk=>oA i k) (o.aD.getD i cP).stops.length λk hk=>by
  have eg:∀l,(wE o i l).aD.getD i cP={ o.aD.getD i cP with stops:=l }:=λl=>aQ9 _ _ _ _ hi
  have e:xP 1 (oA i k).idx (oA i k).div (oA i k).stop (wE o i ((o.aD.getD i cP).stops.take (k+1)))=wE o i ((o.aD.getD i cP).stops.take k):=by
   unfold xP;rw[show(oA i k).div.toNat=i from yBy i,show(oA i k).idx.toNat=k from yBy k,eg];show({ o with aD:=(o.aD.set i _).set i { o.aD.getD i cP with stops:=dA ((o.aD.getD i cP).stops.take (k+1)) 1 k iX } }:aM)=_
   rw[List.set_set,PT _ _ _ hk];rfl
  refine(aQ4 (w:=1) (aQW i k) rfl rfl ⟨⟨yCb i,?_⟩,yCb k,?_⟩ (by rw[e];exact go_stop h i k)).trans Cc
  .show(i:Int)<((o.aD.set ..).length:Int)
   rw[yAD];omega
  .show(k:Int)<_
   rw[show(oA i k).div.toNat=i from yBy i,eg];show(k:Int)<(((o.aD.getD i cP).stops.take (k+1)).length:Int)
   rw[yAt];omega
 simp only[yBO,yCS]at this;have e:wE o i (o.aD.getD i cP).stops=o:=by
  unfold wE;show({ o with aD:=o.aD.set i (o.aD.getD i cP) }:aM)=o
  rw[yAA,yAh hi];show({ o with aD:=o.aD.set i o.aD[i] }:aM)=o
  rw[yEi]
 rwa [e]at this
def xW(d:bD):bD:={ d with stops:=[] }
def xX(o:aM)(i:Nat):aM:={ o with aD:=(o.aD.take i).map xW++o.aD.drop i }
theorem aFo{o:aM}{i:Nat}(hi:i<o.aD.length):(xX o i).aD.getD i cP=o.aD[i]:=by
 unfold xX;rw[yAA,yBz Bm,yAe,yAt,yBS ye,yCx,yBl,yBt,yAh hi];rfl
theorem aFp{o:aM}{i:Nat}(hi:i<o.aD.length):wE (xX o i) i []=xX o (i+1):=by
 unfold wE;rw[aFo hi];unfold xX;show({ o with aD:=((o.aD.take i).map xW++o.aD.drop i).set i (xW o.aD[i]) }:aM)=_
 rw[yDA _ _ Bm,yAe,yAt,yBS ye,yCx,yAq hi,yAY,yBG hi,yAH,yAi];rfl
theorem go_bareN{o:aM}(h:bS o=0):∀i,i<=o.aD.length->bS (xX o i)=0
 |0,_=>h
 |i+1,hi=>by
  rw[<-aFp ye];have:=go_stop (go_bareN h i ye) i 0
  rwa [yCS]at this
def n7(o:aM):List (List bJ):=o.aD.mapIdx λi d=>eY (λk=>oA i k) d.stops.length
theorem aFq{o:aM}(h:bS o=0):∀i,i<=o.aD.length->iZ o ((n7 o).take i).flatten=some (xX o i)
 |0,_=>rfl
 |i+1,hi=>by
  have hl:i<(n7 o).length:=by unfold n7;rw[yBH];omega
  rw[yBG hl,List.flatten_append,yBr,List.flatten_nil,yAl];refine z8 (aFq h i ye) ?_;have:=aRb (go_bareN h i ye) (i:=i) (by unfold xX;rw[yAa,yAe,yAt,yBd];omega);rw[aFo ye,aFp ye]at this;rw[show(n7 o)[i]=eY (λk=>oA i k) o.aD[i].stops.length from by simp only[n7,yDi]];exact this
theorem aFr(o:aM):xX o o.aD.length={ o with aD:=o.aD.map xW }:=by
 unfold xX;rw[yBO,yCm,yAl]
theorem aRc(o:aM)(l:List bD)(h:o.aD=l.map xW):xV o:=λd hd=>by
 rw[h]at hd;obtain⟨t,_,rfl⟩:=yAw.1 hd;rfl
theorem aRd{rs rs':List bB}{d:bD}(hb:d.stops=[])(h:nJ rs d=0):nJ rs' d=0:=by
 obtain⟨h1,h2,_⟩:=(zQ rs d).1 h;exact(zQ _ _).2 ⟨h1,h2,λs hs=>(by rw[hb]at hs;cases hs),by rw[hb];exact List.nodup_nil⟩
theorem go_rank{o b:aM}(h:bS o=0)(hB:xV o)(hb:bS b=0)(n:Nat):bS { o with aK:=b.aK.take n }=0:=by
 obtain⟨h1,_,⟨h3,h4,h5⟩,h6⟩:=(gV o).1 h;exact(gV _).2 ⟨h1,aQ6 hb n,⟨h3,λd hd=>⟨(h4 d hd).1,aRd (hB d hd) (h4 d hd).2⟩,h5⟩,h6⟩
theorem aRe{o:aM}(h:bS o=0)(hB:xV o):iZ o (eY (λi=>pA i) o.aK.length)=some { o with aK:=[] }:=by
 have:=K1 (λk=>{ o with aK:=o.aK.take k }) (λi=>pA i) o.aK.length λk hk=>by
  have K2:xV { o with aK:=o.aK.take (k+1) }:=hB;have e:wZ 1 (pA k).idx (pA k).aG { o with aK:=o.aK.take (k+1) }={ o with aK:=o.aK.take k }:=by
   unfold wZ;rw[aFk K2,show(pA k).idx.toNat=k from yBy k];show({ o with aK:=dA (o.aK.take (k+1)) 1 k jN }:aM)=_
   rw[PT _ _ _ hk]
  refine(aFj (w:=1) (aQX k) rfl (by show(2:Int)≠13;decide) rfl ⟨yCb k,?_⟩ K2 (by rw[e];exact go_rank h hB h k)).trans Cc;show(k:Int)<((o.aK.take (k+1)).length:Int)
  rw[yAt];omega
 simp only[yBO,yCS]at this;exact this
theorem aRf{o b:aM}(h:bS o=0)(hB:xV o)(hb:bS b=0)(e:o.aK=[]):iZ o (b.aK.mapIdx λi r=>n8 i r)=some { o with aK:=b.aK }:=by
 have:=X9 (λk=>{ o with aK:=b.aK.take k }) (b.aK.mapIdx λi r=>n8 i r) λk hk=>by
  rw[yBH]at hk;rw[yDi];have K2:xV { o with aK:=b.aK.take k }:=hB;have e:wZ 0 (n8 k b.aK[k]).idx (n8 k b.aK[k]).aG { o with aK:=b.aK.take k }={ o with aK:=b.aK.take (k+1) }:=by
   unfold wZ;rw[aFk K2,show(n8 k b.aK[k]).idx.toNat=k from yBy k];show({ o with aK:=dA (b.aK.take k) 0 k b.aK[k] }:aM)=_
   rw[YA _ _ hk]
  refine(aFj (w:=0) (aQZ ..) rfl (by show(1:Int)≠13;decide) rfl ⟨yCb k,?_⟩ K2 (by rw[e];exact go_rank h hB hb (k+1))).trans Cc;show(k:Int)<((b.aK.take k).length:Int)+1
  rw[yAt];omega
 simp only[yBH,yBO,yCS]at this;rw[<-this]
 congr 1
 obtain⟨_,_,_,_⟩:=o;subst e;rfl
theorem go_div{o b:aM}(h:bS o=0)(hc:o.aR=[])(hr:o.aK=b.aK)(hb:bS b=0)(n:Nat)(hn:0<n):bS { o with aD:=b.aD.take n }=0:=by
 obtain⟨h1,h2,_⟩:=(gV o).1 h;obtain⟨_,_,⟨⟨h3,DU⟩,h4,h5⟩,_⟩:=(gV b).1 hb;refine(gV _).2 ⟨h1,h2,⟨⟨?_,?_⟩,λd hd=>?_,PU h5 n⟩,?_,λc k=>?_,?_⟩
 .show(b.aD.take n).length≠0;rw[yAt];omega
 .show(b.aD.take n).length<=8;rw[yAt];omega
 .have:=h4 d (yAy hd);refine⟨this.1,?_⟩;show nJ o.aK d=0
  rw[hr];exact this.2
 .show o.aR.length<=40;rw[hc];exact yAF _
 .exact absurd (show c∈o.aR from k) (by rw[hc];exact yCA)
 .show(o.aR.map _).Nodup;rw[hc];exact List.nodup_nil
theorem aRg{o:aM}(h:bS o=0)(hc:o.aR=[]):iZ o (eY (λi=>mQ (i+1)) (o.aD.length-1))=some { o with aD:=o.aD.take 1 }:=by
 have h0:=((gV o).1 h).2.2.1.1.1;have:=K1 (λk=>{ o with aD:=o.aD.take (k+1) }) (λi=>mQ (i+1)) (o.aD.length-1) λk hk=>by
  have e:uJ 1 (mQ (k+1)).idx (mQ (k+1)).frame { o with aD:=o.aD.take (k+1+1) }={ o with aD:=o.aD.take (k+1) }:=by
   unfold uJ;rw[X8 (by exact hc),show(mQ (k+1)).idx.toNat=k+1 from yBy (k+1)];show({ o with aD:=dA (o.aD.take (k+1+1)) 1 (k+1) cP }:aM)=_
   rw[PT _ _ _ ye]
  refine(X7 (o:={ o with aD:=o.aD.take (k+1+1) }) (w:=1) (aQY (k+1)) rfl rfl ⟨yCb (k+1),?_⟩ hc (by rw[e];exact go_div h hc rfl h (k+1) ye)).trans Cc;show((k+1:Nat):Int)<((o.aD.take (k+1+1)).length:Int)
  rw[yAt];omega
 simp only[yAp]at this
 rwa [show o.aD.length-1+1=o.aD.length from by omega,yBO]at this
def n6(b:aM):List bJ:=b.aD.mapIdx λi d=>if i=0 then wC i d else uU i d
theorem aRh{o b:aM}(h:bS o=0)(hc:o.aR=[])(hr:o.aK=b.aK)(hb:bS b=0)(h1:o.aD.length=1):iZ o (n6 b)=some { o with aD:=b.aD }:=by
 have h0:=((gV b).1 hb).2.2.1.1.1;have:=X9 (λk=>if k=0 then o else { o with aD:=b.aD.take k }) (n6 b) λk hk=>by
  have hk':k<b.aD.length:=by simpa [n6]using hk
  rw[show(n6 b)[k]=if k=0 then wC k b.aD[k]else uU k b.aD[k]from by simp only[n6,yDi]];rw[yAI (Nat.succ_ne_zero k)]
  by_cases hk0:k=0
  .subst hk0;rw[yAJ rfl,yAJ rfl];have e:uJ 2 (wC 0 b.aD[0]).idx (wC 0 b.aD[0]).frame o={ o with aD:=b.aD.take (0+1) }:=by
    unfold uJ;rw[X8 hc];show({ o with aD:=o.aD.set 0 b.aD[0] }:aM)=_
    obtain⟨x,hx⟩:=List.length_eq_one_iff.1 h1;rw[hx,yAY,yBG hk'];rfl
   refine(X7 (w:=2) (aQ0 ..) rfl rfl ⟨yCb 0,?_⟩ hc (by rw[e];exact go_div h hc hr hb (0+1) ye)).trans Cc;show(0:Int)<(o.aD.length:Int)
   omega
  .rw[yAI hk0,yAI hk0];have e:uJ 0 (uU k b.aD[k]).idx (uU k b.aD[k]).frame { o with aD:=b.aD.take k }={ o with aD:=b.aD.take (k+1) }:=by
    unfold uJ;rw[X8 (by exact hc),show(uU k b.aD[k]).idx.toNat=k from yBy k];show({ o with aD:=dA (b.aD.take k) 0 k b.aD[k] }:aM)=_
    rw[YA _ _ hk']
   refine(X7 (o:={ o with aD:=b.aD.take k }) (w:=0) (aQ1 ..) rfl rfl ⟨yCb k,?_⟩ hc (by rw[e];exact go_div h hc hr hb (k+1) ye)).trans Cc;show(k:Int)<((b.aD.take k).length:Int)+1
   rw[yAt];omega
 rw[yAJ rfl]at this;rw[this];unfold n6;rw[yBH,yAI h0,yBO]
def D5(a b:aM):Prop:=a.aK=b.aK/\a.aD=b.aD
instance (a b:aM):Decidable (D5 a b):=inferInstanceAs (Decidable (_/\_))
def lY(a b:aM):List bJ:=(n7 a).flatten++eY (λi=>pA i) a.aK.length++eY (λi=>mQ (i+1)) (a.aD.length-1)++(b.aK.mapIdx λi r=>n8 i r)++n6 b
def nZ(a b:aM):List bJ:=
 if D5 a b/\a.aR=b.aR then(if a.name=b.name then []else [n4 b.name])
 else(if a.name=b.name then []else [n4 b.name])++eY (λi=>qA i) a.aR.length++(if D5 a b then []else lY a b)++(b.aR.mapIdx λi c=>qB i c)
theorem aRi{a b:aM}(ha:bS a=0)(hc:a.aR=[])(hb:bS b=0):iZ a (lY a b)=some { a with aK:=b.aK,aD:=b.aD }:=by
 have hl:(n7 a).length=a.aD.length:=by unfold n7;rw[yBH]
 have h1:=aFq ha a.aD.length (yAk _);have g1:=go_bareN ha a.aD.length (yAk _);rw[<-hl,yBO]at h1;rw[hl,aFr]at h1;rw[aFr]at g1;have h0:=((gV a).1 ha).2.2.1.1.1;have hm:(a.aD.map xW).length=a.aD.length:=yAe ..;have b1:xV { a with aD:=a.aD.map xW }:=aRc _ _ rfl;have h2:=aRe g1 b1;have g2:=go_rank g1 b1 g1 0;rw[yCS]at g2;have h3:=aRg g2 hc;have g3:=go_div g2 hc rfl g2 1 yj;have b3:xV { a with aK:=[],aD:=(a.aD.map xW).take 1 }:=λd hd=>b1 d (yAy hd)
 have h4:=aRf g3 b3 hb rfl;have g4:=go_rank g3 b3 hb b.aK.length;rw[yBO]at g4;have h5:=aRh (b:=b) g4 hc rfl hb (by show((a.aD.map xW).take 1).length=1;rw[yAt,hm];omega);have DU:=h3;rw[show({ a with aK:=[],aD:=a.aD.map xW }:aM).aD.length=a.aD.length from hm]at DU;unfold lY;exact z8 (z8 (z8 (z8 h1 h2) DU) h4) h5
theorem aRj{a:aM}(ha:bS a=0){n:Ez}(hn:dV n=true):iZ a (if a.name=n then []else [n4 n])=some { a with name:=n }:=by
 split
 .rename_i h;subst h;rfl
 .exact aFh (aQ3 (go_name ha hn))
theorem aQB{a b:aM}(ha:bS a=0)(hb:bS b=0):iZ a (nZ a b)=some b:=by
 have hn:=((gV b).1 hb).1;have h1:=aRj ha hn;have g1:=go_name ha hn;unfold nZ;split
 .rename_i h;rw[h1];obtain⟨_,_,_,_⟩:=a;obtain⟨_,_,_,_⟩:=b;obtain⟨⟨e1,e2⟩,e3⟩:=h;simp only at e1 e2 e3;subst e1 e2 e3;rfl
 .have h2:=aQ7 g1;have g2:=go_coup g1 0;rw[yCS]at g2;have h3:iZ { a with name:=b.name,aR:=[] } (if D5 a b then []else lY a b)=some { b with aR:=[] }:=by
   split
   .rename_i h;obtain⟨_,_,_,_⟩:=a;obtain⟨_,_,_,_⟩:=b;obtain⟨e1,e2⟩:=h;simp only at e1 e2;subst e1 e2;rfl
   .exact aRi (b:=b) g2 rfl hb
  exact z8 (z8 (z8 h1 h2) h3) (aQ8 hb rfl)
theorem aQE(a:aM):nZ a a=[]:=by
 unfold nZ;rw[yAJ ⟨⟨rfl,rfl⟩,rfl⟩,yAJ rfl]
def tK(l:List bD):Nat:=(l.map λd=>d.stops.length).sum
def q8(o:aM):Nat:=o.aK.length+o.aD.length+o.aR.length+tK o.aD
theorem aFf(o:aM):(n7 o).flatten.length=tK o.aD:=by
 unfold n7 tK;rw[List.length_flatten]
 congr 1
 apply List.ext_getElem
 .simp
 .intro i h1 h2;simp[G4]
theorem aQC(a b:aM):(nZ a b).length<=q8 a+q8 b+1:=by
 have hn:(if a.name=b.name then []else [n4 b.name]).length<=1:=by split<;>simp
 unfold nZ;split
 .omega
 .have hr:(if D5 a b then []else lY a b).length<=tK a.aD+a.aK.length+a.aD.length+b.aK.length+b.aD.length:=by
   split
   .exact yAF _
   .unfold lY n6;simp only[yAa,aFf,G4,yBH];omega
  simp only[yAa,G4,yBH];unfold q8;omega
section
def o9{α:Type}(l:List α):Nat->List (Nat×α)
 |0=>[]
 |n+1=>match l[n]? with
  |some x=>(n,x)::o9 l n
  |none=>o9 l n
theorem z6{α:Type}{l:List α}{n:Nat}(h:n<l.length):o9 l (n+1)=(n,l[n])::o9 l n:=by
 rw[o9,yAh h]
def G1:Nat->List PD->List aB->Option (PD×List aB):=λ_ args σ=>match args with
 | [.slice s xs tok]=>some (.func 89 [.ptr σ.length 0],σ++[.box (.slice s xs tok)])
 |_=>none
def G3:Nat->List PD->List aB->Option (PD×List aB):=λ_ args σ=>match args with
 | [.slice s xs tok]=>some (.func 123 [.ptr σ.length 0],σ++[.box (.slice s xs tok)])
 |_=>none
def G2:Nat->List PD->List aB->Option (PD×List aB):=λ_ args σ=>match args with
 | [.slice s xs tok]=>some (.func 122 [.ptr σ.length 0],σ++[.box (.slice s xs tok)])
 |_=>none
variable{E:aE}(hU:aH E)
include hU
theorem aQq(h0:E 58=none)(fl:Nat)(args:List PD)(σ:List aB)(p:PD)(σ':List aB)(h:G1 fl args σ=some (p,σ')):iI prog E fl (.inl 58) args σ p σ':=by
 unfold G1 at h;split at h
 .rename_i s xs tok;simp only[yAb,yAc]at h;obtain⟨rfl,rfl⟩:=h;have key:aL prog E fl (.inl 58) [.slice s xs tok] σ (λq σ1=>q=.func 89 [.ptr σ.length 0]/\σ1=σ++[.box (.slice s xs tok)]):=by
   apply aL.qG h0 func58 rfl
   focus(simp[show Tryz.f58.ntmps=_ from rfl,List.replicate];rfl)
   exact ux
  exact ny
 .cases h
theorem aQN(h0:E 89=none)(l:List bR)(hl:l.length<=1000000)(id:Nat) :
  Iter prog E 89 [.ptr id 0] (λσ=>σ[id]?=some (.box (.slice (sz 5 l) (l.map Em.aJ.aA) .any))) ((o9 l l.length).map λp=>[.int .i64 (p.1:Int),Em.aJ.aA p.2]):=by
 intro fl yid σ σ2 hr;have hK:=hr.here;have key:aL prog E fl (.inl 89) (.yield yid::[.ptr id 0]) σ (λ_ σ'=>σ'=σ2):=by
  apply aL.qG h0 func89 rfl
  focus(simp[show Tryz.f89.ntmps=_ from rfl,List.replicate];rfl)
  refine aC hK ?_;refine Wp.cI (λm fr σ=>∃(n:Nat) (wD:List aB),∃gg:Nat->PD,(n=m/\n<=l.length/\pJ prog E fl yid (λσ=>σ[id]?=some (.box (.slice (sz 5 l) (l.map Em.aJ.aA) .any))) ((o9 l n).map λp=>[.int .i64 (p.1:Int),Em.aJ.aA p.2]) wD σ2)/\fr=[.yield yid,.ptr id 0,.aP [],.int .i64 ((n:Int)-1),.slice (sz 5 l) (l.map Em.aJ.aA) .any,.int .i64 l.length,gg 6,gg 7,gg 8,gg 9,gg 10,gg 11,gg 12,gg 13,gg 14,gg 15,gg 16,gg 17,gg 18]/\σ=wD) ?_ (l.length) ⟨l.length,_,bG (⟨rfl,yAk _,hr⟩)⟩
  rintro m fr σ ⟨n,wD,gg,hI,rfl,rfl⟩
  obtain⟨hm,hn,hr⟩:=hI;have q:=hr.here;cases n with
  |zero=>
   have e2:=hr.QH;subst e2;exact ux
  |succ n=>
   rw[z6 ye]at hr;simp only[yAR]at hr;have h1:((n+1:Nat):Int)-1=(n:Int):=ye;have h2:(n:Int) >= 0:=yCb n;have h3:n<l.length:=ye;rw[h1];refine aC h2 ?_;refine Wp.seq ?_;refine Wp.QG 6 rfl ?_;refine kH (A4 h1 h2 h3 @q) ?_;apply SQ.nil;refine YQ (tg:=.inr yid) (args:=[.int .i64 n,Em.aJ.aA l[n]]) rfl rfl ?_;exact uv
 exact nu
theorem aQu(h0:E 91=none)(fl:Nat)(args:List PD)(σ:List aB)(p:PD)(σ':List aB)(h:G3 fl args σ=some (p,σ')):iI prog E fl (.inl 91) args σ p σ':=by
 unfold G3 at h;split at h
 .rename_i s xs tok;simp only[yAb,yAc]at h;obtain⟨rfl,rfl⟩:=h;have key:aL prog E fl (.inl 91) [.slice s xs tok] σ (λq σ1=>q=.func 123 [.ptr σ.length 0]/\σ1=σ++[.box (.slice s xs tok)]):=by
   apply aL.qG h0 func91 rfl
   focus(simp[show Tryz.f91.ntmps=_ from rfl,List.replicate];rfl)
   exact ux
  exact ny
 .cases h
theorem aQR(h0:E 123=none)(l:List bB)(hl:l.length<=1000000)(id:Nat) :
  Iter prog E 123 [.ptr id 0] (λσ=>σ[id]?=some (.box (.slice (sz 6 l) (l.map Em.aG.aA) .any))) ((o9 l l.length).map λp=>[.int .i64 (p.1:Int),Em.aG.aA p.2]):=by
 intro fl yid σ σ2 hr;have hK:=hr.here;have key:aL prog E fl (.inl 123) (.yield yid::[.ptr id 0]) σ (λ_ σ'=>σ'=σ2):=by
  apply aL.qG h0 func123 rfl
  focus(simp[show Tryz.f123.ntmps=_ from rfl,List.replicate];rfl)
  refine aC hK ?_;refine Wp.cI (λm fr σ=>∃(n:Nat) (wD:List aB),∃gg:Nat->PD,(n=m/\n<=l.length/\pJ prog E fl yid (λσ=>σ[id]?=some (.box (.slice (sz 6 l) (l.map Em.aG.aA) .any))) ((o9 l n).map λp=>[.int .i64 (p.1:Int),Em.aG.aA p.2]) wD σ2)/\fr=[.yield yid,.ptr id 0,.aP [],.int .i64 ((n:Int)-1),.slice (sz 6 l) (l.map Em.aG.aA) .any,.int .i64 l.length,gg 6,gg 7,gg 8,gg 9,gg 10,gg 11,gg 12,gg 13,gg 14,gg 15,gg 16,gg 17,gg 18]/\σ=wD) ?_ (l.length) ⟨l.length,_,bG (⟨rfl,yAk _,hr⟩)⟩
  rintro m fr σ ⟨n,wD,gg,hI,rfl,rfl⟩
  obtain⟨hm,hn,hr⟩:=hI;have q:=hr.here;cases n with
  |zero=>
   have e2:=hr.QH;subst e2;exact ux
  |succ n=>
   rw[z6 ye]at hr;simp only[yAR]at hr;have h1:((n+1:Nat):Int)-1=(n:Int):=ye;have h2:(n:Int) >= 0:=yCb n;have h3:n<l.length:=ye;rw[h1];refine aC h2 ?_;refine Wp.seq ?_;refine Wp.QG 6 rfl ?_;refine kH (A4 h1 h2 h3 @q) ?_;apply SQ.nil;refine YQ (tg:=.inr yid) (args:=[.int .i64 n,Em.aG.aA l[n]]) rfl rfl ?_;exact uv
 exact nu
theorem aQs(h0:E 90=none)(fl:Nat)(args:List PD)(σ:List aB)(p:PD)(σ':List aB)(h:G2 fl args σ=some (p,σ')):iI prog E fl (.inl 90) args σ p σ':=by
 unfold G2 at h;split at h
 .rename_i s xs tok;simp only[yAb,yAc]at h;obtain⟨rfl,rfl⟩:=h;have key:aL prog E fl (.inl 90) [.slice s xs tok] σ (λq σ1=>q=.func 122 [.ptr σ.length 0]/\σ1=σ++[.box (.slice s xs tok)]):=by
   apply aL.qG h0 func90 rfl
   focus(simp[show Tryz.f90.ntmps=_ from rfl,List.replicate];rfl)
   exact ux
  exact ny
 .cases h
theorem aQS(h0:E 122=none)(l:List bU)(hl:l.length<=1000000)(id:Nat) :
  Iter prog E 122 [.ptr id 0] (λσ=>σ[id]?=some (.box (.slice (sz 4 l) (l.map Em.stop.aA) .any))) ((o9 l l.length).map λp=>[.int .i64 (p.1:Int),Em.stop.aA p.2]):=by
 intro fl yid σ σ2 hr;have hK:=hr.here;have key:aL prog E fl (.inl 122) (.yield yid::[.ptr id 0]) σ (λ_ σ'=>σ'=σ2):=by
  apply aL.qG h0 func122 rfl
  focus(simp[show Tryz.f122.ntmps=_ from rfl,List.replicate];rfl)
  refine aC hK ?_;refine Wp.cI (λm fr σ=>∃(n:Nat) (wD:List aB),∃gg:Nat->PD,(n=m/\n<=l.length/\pJ prog E fl yid (λσ=>σ[id]?=some (.box (.slice (sz 4 l) (l.map Em.stop.aA) .any))) ((o9 l n).map λp=>[.int .i64 (p.1:Int),Em.stop.aA p.2]) wD σ2)/\fr=[.yield yid,.ptr id 0,.aP [],.int .i64 ((n:Int)-1),.slice (sz 4 l) (l.map Em.stop.aA) .any,.int .i64 l.length,gg 6,gg 7,gg 8,gg 9,gg 10,gg 11,gg 12,gg 13,gg 14,gg 15,gg 16,gg 17,gg 18]/\σ=wD) ?_ (l.length) ⟨l.length,_,bG (⟨rfl,yAk _,hr⟩)⟩
  rintro m fr σ ⟨n,wD,gg,hI,rfl,rfl⟩
  obtain⟨hm,hn,hr⟩:=hI;have q:=hr.here;cases n with
  |zero=>
   have e2:=hr.QH;subst e2;exact ux
  |succ n=>
   rw[z6 ye]at hr;simp only[yAR]at hr;have h1:((n+1:Nat):Int)-1=(n:Int):=ye;have h2:(n:Int) >= 0:=yCb n;have h3:n<l.length:=ye;rw[h1];refine aC h2 ?_;refine Wp.seq ?_;refine Wp.QG 6 rfl ?_;refine kH (A4 h1 h2 h3 @q) ?_;apply SQ.nil;refine YQ (tg:=.inr yid) (args:=[.int .i64 n,Em.stop.aA l[n]]) rfl rfl ?_;exact uv
 exact nu
end
end Go.Kz
end
