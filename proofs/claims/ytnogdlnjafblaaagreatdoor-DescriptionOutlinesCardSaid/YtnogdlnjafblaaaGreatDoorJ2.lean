/- Steps of the proof. -/
import Derived.Test.YtnogdlnjafblaaaGreatDoorH4
import Derived.Test.YtnogdlnjafblaaaGreatDoorH6
import Derived.Test.YtnogdlnjafblaaaGreatDoorH3
import Derived.Test.YtnogdlnjafblaaaGreatDoorCards
import Derived.Test.YtnogdlnjafblaaaGreatDoorTie
import Derived.SevenTiedAt
import Derived.Test.YtnogdlnjafblaaaGreatDoorH5
set_option linter.all false
set_option maxHeartbeats 40000000
set_option maxRecDepth 100000
open Go.Proofs.Tryz
namespace Go.Proofs.YtnogdlnjafblaaaGreatDoor
open Go Go.Kz Go.ChangeShapes Go.WideShapes Go.ChangeAt Go.WideMaps Go.WideElems Go.RowKit
set_option maxRecDepth 100000
theorem own:ownKnob prog.godebug=none:=by kernel_rfl
theorem laidOut:laidOutB prog=true:=by kernel_rfl
abbrev TU:List (String×DataW Unit):=[("math/bits.deBruijn32tab",Rows.laid_math_bits_deBruijn32tab),("math/bits.deBruijn64tab",Rows.laid_math_bits_deBruijn64tab),("internal/strconv.uint64pow10",Rows.laid_internal_strconv_uint64pow10),("unicode/utf8.acceptRanges",Rows.laid_unicode_utf8_acceptRanges),("unicode/utf8.first",Rows.laid_unicode_utf8_first)]
theorem aRG:(TU.all fun x=>x.2.handleName?.isNone)=true:=by decide +kernel
def TW(g:Nat):List Int:=match J2 g with|some (_,xs)=>xs|none=>[]
theorem aJe:J2 1=some (.u64,TW 1):=rfl
theorem aJf:J2 4=some (.u8,TW 4):=rfl
theorem aJg:J2 5=some (.u8,TW 5):=rfl
theorem aEn{g:Nat}(h0:g≠1)(h2:g≠4)(h3:g≠5):J2 g=none:=by unfold J2;rw[yAI h0,yAI h2,yAI h3]
theorem aBC{g:Nat}(h:g≠0):TX g=none:=by unfold TX;rw[yAI h]
theorem aEo{g:Nat}{k:IntKind}{xs:List Int}(h:J2 g=some (k,xs))(hi:TX g=none):aJh g (xs.map (Value.int k)).toArray:=by
 refine⟨fun k' zs hk=>?_,fun k' hk=>?_⟩
 ·rw[h]at hk
  simp only[yAb,yAc]at hk
  obtain⟨rfl,rfl⟩:=hk
  rfl
 ·rw[hi]at hk
  cases hk
theorem iG{W:World}(hs:W.ShapedOpen prog)(h:laidMetH prog TU W):Gl (.start W):=by
 rw[MakeChecks.laidMetH_plain _ _ _ aRG]at h
 obtain⟨ps,hv,_,_⟩:=h
 obtain⟨Ta,fa,ha⟩:=aEp (P:=prog) (nm:= "internal/strconv.uint64pow10") (k:=.u64) (xs:=TW 1) (g:=1) (n:=20) hv (List.Mem.tail _ (List.Mem.tail _ (List.Mem.head _))) (by kernel_rfl) (t:=245) (by kernel_rfl) underlying245 underlying96 (by kernel_rfl) (by kernel_rfl)
 obtain⟨Tb,fb,hb⟩:=aEp (P:=prog) (nm:= "math/bits.deBruijn32tab") (k:=.u8) (xs:=TW 4) (g:=4) (n:=32) hv (List.Mem.head _) (by kernel_rfl) (t:=274) (by kernel_rfl) underlying274 underlying5 (by kernel_rfl) (by kernel_rfl)
 obtain⟨Tc,fc,hc⟩:=aEp (P:=prog) (nm:= "math/bits.deBruijn64tab") (k:=.u8) (xs:=TW 5) (g:=5) (n:=64) hv (List.Mem.tail _ (List.Mem.head _)) (by kernel_rfl) (t:=275) (by kernel_rfl) underlying275 underlying5 (by kernel_rfl) (by kernel_rfl)
 obtain⟨m,T0,fz0,h0⟩:=aRH (g:=0) (t:=3) (k:=.i64) (zero:=#[.int .i64 0]) hs (by decide +kernel) (by kernel_rfl) rfl (by kernel_rfl) (by kernel_rfl) underlying3
 refine⟨?_,?_⟩
 ·intro g ds hg
  by_cases e0:g=1
  ·subst e0
   simp only[MH,aJe,yAb]at hg
   subst hg
   exact aEq ha
  by_cases e2:g=4
  ·subst e2
   simp only[MH,aJf,yAb]at hg
   subst hg
   exact aEq hb
  by_cases e3:g=5
  ·subst e3
   simp only[MH,aJg,yAb]at hg
   subst hg
   exact aEq hc
  simp only[MH,aEn e0 e2 e3]at hg
  cases hg
 ·intro g hg
  refine⟨?_,fun id hd=>hd.elim⟩
  by_cases e0:g=1
  ·subst e0
   exact⟨_,Ta,fa,ha,aEo aJe (aBC (by decide))⟩
  by_cases e2:g=4
  ·subst e2
   exact⟨_,Tb,fb,hb,aEo aJf (aBC (by decide))⟩
  by_cases e3:g=5
  ·subst e3
   exact⟨_,Tc,fc,hc,aEo aJg (aBC (by decide))⟩
  by_cases e1:g=0
  ·subst e1
   refine⟨_,T0,fz0,h0,?_,?_⟩
   ·intro k zs hk
    rw[aEn e0 e2 e3]at hk
    cases hk
   ·intro k hk
    have:k=.i64:=by
     have:TX 0=some .i64:=rfl
     rw[this]at hk
     exact(yBw hk).symm
    subst this
    exact⟨m,rfl⟩
  unfold aJi at hg
  rw[aEn e0 e2 e3,aBC e1]at hg
  cases hg
noncomputable def aJc(os:Os):World:={ World.doorLaid prog 400 os with heap:=(World.doorLaid prog 400 os).heap.modify ((prog.globalNamed "unicode/utf8.first").getD 0) fun o=>match o with
 |.cells _ t fz=>.cells ((Go.Pinned.utf8FirstZ.map fun(n:Nat)=>Value.int .u8 n).toArray) t fz
 |o=>o }
theorem aRs(os:Os)(args:Array Value):laidMetH prog TU ((aJc os).forCall (fun _ _=>0) ⟨#[],args,[]⟩).memory:=
 laidMetH_of_parts3 (fuel:=8) (laidMet_of_run' 8 (by kernel_rfl) (by kernel_rfl)) (by kernel_rfl) (by kernel_rfl)
theorem named:(prog.funcs.toList.all fun fn=>!(fn.name== "runtime.NumGoroutine"))=true:=by kernel_rfl
theorem names(f:FuncId)(fn:Func)(h:prog.funcs[f]?=some fn):(fn.name== "runtime.NumGoroutine")=false:=by
 have:=yAn.1 named fn (yBV.2 (yCX h))
 simpa using this
end Go.Proofs.YtnogdlnjafblaaaGreatDoor
namespace Go.Proofs.YtnogdlnjafblaaaGreatDoor
open Go Go.Kz Go.ChangeShapes Go.WideShapes Go.ChangeAt Go.WideMaps Go.WideElems Go.RowKit
set_option maxRecDepth 100000
theorem aRB{d:Nat}{qs:Dq}(h:Typed prog (d+2) 109 qs):∃ws,qs=ws/\∃w0 w1 w2 w3 w4:Int,ws=[.int .u8 w0,.int .u8 w1,.int .u8 w2,.int .u8 w3,.int .u8 w4]/\gG w0/\gG w1/\gG w2/\gG w3/\gG w4:=by
 have hu:=underlying109
 unfold Typed at h
 rw[hu]at h
 simp only at h
 obtain⟨xs,hl,hx,rfl⟩:=h
 match xs,hl,hx with
 | [x0,x1,x2,x3,x4],_,hx=>
   obtain⟨a,rfl,wa⟩:=o1 underlying5 (hx x0 (by simp))
   obtain⟨b,rfl,wb⟩:=o1 underlying5 (hx x1 (by simp))
   obtain⟨c,rfl,wc⟩:=o1 underlying5 (hx x2 (by simp))
   obtain⟨e,rfl,we⟩:=o1 underlying5 (hx x3 (by simp))
   obtain⟨f,rfl,wf⟩:=o1 underlying5 (hx x4 (by simp))
   exact⟨_,rfl,a,b,c,e,f,rfl,wf_u8 wa,wf_u8 wb,wf_u8 wc,wf_u8 we,wf_u8 wf⟩
theorem wf_i8{z:Int}(hz:(Lit.int .i8 z).wf=true):-128<=z/\z<=127:=by
 simp only[Lit.wf,yAr,yBC]at hz
 exact hz
section
variable{d:Nat}{qs:Dq}
theorem aRC(h:Typed prog (d+3) 111 qs):∃x:mP,mQ prog 111 qs=Em.GV.aA x/\OH x:=by
 obtain⟨q0,r0,rfl,h0,h⟩:=nK (YF underlying111 h)
 obtain⟨q1,r1,rfl,h1,h⟩:=nK h
 obtain⟨q2,r2,rfl,h2,h⟩:=nK h
 obtain⟨q3,r3,rfl,h3,h⟩:=nK h
 obtain⟨q4,r4,rfl,h4,h⟩:=nK h
 obtain rfl:=YG h
 obtain⟨a,rfl,wa⟩:=o1 underlying5 h0
 obtain⟨b,rfl,wb⟩:=o1 underlying5 h1
 obtain⟨c,rfl,wc⟩:=o1 underlying108 h2
 obtain⟨e,rfl,we⟩:=o1 underlying5 h3
 obtain⟨ws,rfl,hw⟩:=aRB h4
 obtain⟨w0,w1,w2,w3,w4,rfl,k0,k1,k2,k3,k4⟩:=hw
 exact⟨⟨a,b,c,e,w0,w1,w2,w3,w4⟩,YH (by kernel_rfl),wf_u8 wa,wf_u8 wb,wf_i8 wc,wf_u8 we,k0,k1,k2,k3,k4⟩
theorem aRD(h:Typed prog (d+2) 114 qs):∃x:pI,mQ prog 114 qs=Em.pull.aA x/\QO x:=by
 obtain⟨q0,r0,rfl,h0,h⟩:=nK (YF underlying114 h)
 obtain⟨q1,r1,rfl,h1,h⟩:=nK h
 obtain⟨q2,r2,rfl,h2,h⟩:=nK h
 obtain⟨q3,r3,rfl,h3,h⟩:=nK h
 obtain rfl:=YG h
 obtain⟨a,rfl,wa⟩:=o1 underlying5 h0
 obtain⟨b,rfl,wb⟩:=o1 underlying5 h1
 obtain⟨c,rfl,wc⟩:=o1 underlying5 h2
 obtain⟨e,rfl,we⟩:=o1 underlying5 h3
 exact⟨⟨a,b,c,e⟩,YH (by kernel_rfl),wf_u8 wa,wf_u8 wb,wf_u8 wc,wf_u8 we⟩
theorem aRE(h:Typed prog (d+4) 106 qs):∃x:sR,mQ prog 106 qs=Em.OI.aA x/\okB x:=by
 obtain⟨q0,r0,rfl,h0,h⟩:=nK (YF underlying106 h)
 obtain⟨q1,r1,rfl,h1,h⟩:=nK h
 obtain⟨q2,r2,rfl,h2,h⟩:=nK h
 obtain⟨q3,r3,rfl,h3,h⟩:=nK h
 obtain rfl:=YG h
 obtain⟨a,rfl,wa⟩:=o1 underlying5 h0
 obtain⟨b,rfl,wb⟩:=o1 underlying5 h1
 obtain⟨c,rfl⟩:=aJd underlying4 h2
 obtain⟨ys,rfl,_,hy⟩:=aBB (em:=Em.pull) (R:=QO) underlying104 (k:=4) (by kernel_rfl) (fun x hx=>aRD hx) h3
 exact⟨⟨a,b,c,ys⟩,YH (by kernel_rfl),wf_u8 wa,wf_u8 wb,hy⟩
theorem aRF(h:Typed prog (d+2) 116 qs):∃x:vB,mQ prog 116 qs=Em.link.aA x/\aEm x:=by
 obtain⟨q0,r0,rfl,h0,h⟩:=nK (YF underlying116 h)
 obtain⟨q1,r1,rfl,h1,h⟩:=nK h
 obtain⟨q2,r2,rfl,h2,h⟩:=nK h
 obtain⟨q3,r3,rfl,h3,h⟩:=nK h
 obtain rfl:=YG h
 obtain⟨a,rfl,wa⟩:=o1 underlying5 h0
 obtain⟨b,rfl,wb⟩:=o1 underlying5 h1
 obtain⟨c,rfl,wc⟩:=o1 underlying108 h2
 obtain⟨e,rfl⟩:=aJd underlying4 h3
 exact⟨⟨a,b,c,e⟩,YH (by kernel_rfl),wf_u8 wa,wf_u8 wb,wf_i8 wc⟩
theorem aRu(h:Typed prog (d+6) 52 qs):∃x:sS,mQ prog 52 qs=Em.GW.aA x/\TV x:=by
 obtain⟨q0,r0,rfl,h0,h⟩:=nK (YF underlying52 h)
 obtain⟨q1,r1,rfl,h1,h⟩:=nK h
 obtain⟨q2,r2,rfl,h2,h⟩:=nK h
 obtain rfl:=YG h
 obtain⟨xs,rfl,_,hx⟩:=aBB (em:=Em.GV) (R:=OH) underlying48 (k:=9) (by kernel_rfl) (fun x hx=>aRC hx) h0
 obtain⟨ys,rfl,_,hy⟩:=aBB (em:=Em.OI) (R:=okB) underlying49 (k:=4) (by kernel_rfl) (fun x hx=>aRE hx) h1
 obtain⟨zs,rfl,_,hz⟩:=aBB (em:=Em.link) (R:=aEm) underlying50 (k:=4) (by kernel_rfl) (fun x hx=>aRF hx) h2
 exact⟨⟨xs,ys,zs⟩,YH (by kernel_rfl),hx,hy,hz⟩
end
end Go.Proofs.YtnogdlnjafblaaaGreatDoor
