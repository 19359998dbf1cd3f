/- Steps of the proof. -/
import Derived.Test.YtnogdlnjafblaaaGreatDoorP4
import Derived.Test.YtnogdlnjafblaaaGreatDoorP6
import Derived.Test.YtnogdlnjafblaaaGreatDoorP3
import Derived.Test.YtnogdlnjafblaaaGreatDoorCards
import Derived.Test.YtnogdlnjafblaaaGreatDoorTie
import Derived.SevenTiedAt
set_option linter.all false
set_option maxHeartbeats 40000000
set_option maxRecDepth 100000
open Go.Proofs.Tryz
namespace Go.Proofs.YtnogdlnjafblaaaGreatDoor
open Go Go.Kz Go.ChangeShapes Go.WideShapes Go.ChangeAt Go.WideMaps Go.WideElems Go.RowKit
set_option maxRecDepth 100000
theorem own:ownKnob prog.godebug=none:=by kernel_rfl
theorem laidOut:laidOutB prog=true:=by kernel_rfl
abbrev QP:List (String×DataW Unit):=[("math/bits.deBruijn32tab",Rows.laid_math_bits_deBruijn32tab),("math/bits.deBruijn64tab",Rows.laid_math_bits_deBruijn64tab),("internal/strconv.uint64pow10",Rows.laid_internal_strconv_uint64pow10),("unicode/utf8.acceptRanges",Rows.laid_unicode_utf8_acceptRanges),("unicode/utf8.first",Rows.laid_unicode_utf8_first)]
theorem aNW:(QP.all fun x=>x.2.handleName?.isNone)=true:=by decide +kernel
def QQ(g:Nat):List Int:=match HL g with|some (_,xs)=>xs|none=>[]
theorem aGP:HL 1=some (.u64,QQ 1):=rfl
theorem aGQ:HL 4=some (.u8,QQ 4):=rfl
theorem aGR:HL 5=some (.u8,QQ 5):=rfl
theorem aCv{g:Nat}(h0:g≠1)(h2:g≠4)(h3:g≠5):HL g=none:=by unfold HL;rw[yAI h0,yAI h2,yAI h3]
theorem Z4{g:Nat}(h:g≠0):QR g=none:=by unfold QR;rw[yAI h]
theorem aCw{g:Nat}{k:IntKind}{xs:List Int}(h:HL g=some (k,xs))(hi:QR g=none):aGS g (xs.map (Value.int k)).toArray:=by
 refine⟨fun k' zs hk=>?_,fun k' hk=>?_⟩
 ·rw[h]at hk
  simp only[yAb,yAc]at hk
  obtain⟨rfl,rfl⟩:=hk
  rfl
 ·rw[hi]at hk
  cases hk
theorem gU{W:World}(hs:W.ShapedOpen prog)(h:laidMetH prog QP W):Gl (.start W):=by
 rw[MakeChecks.laidMetH_plain _ _ _ aNW]at h
 obtain⟨ps,hv,_,_⟩:=h
 obtain⟨Ta,fa,ha⟩:=aCx (P:=prog) (nm:= "internal/strconv.uint64pow10") (k:=.u64) (xs:=QQ 1) (g:=1) (n:=20) hv (List.Mem.tail _ (List.Mem.tail _ (List.Mem.head _))) (by kernel_rfl) (t:=245) (by kernel_rfl) underlying245 underlying96 (by kernel_rfl) (by kernel_rfl)
 obtain⟨Tb,fb,hb⟩:=aCx (P:=prog) (nm:= "math/bits.deBruijn32tab") (k:=.u8) (xs:=QQ 4) (g:=4) (n:=32) hv (List.Mem.head _) (by kernel_rfl) (t:=274) (by kernel_rfl) underlying274 underlying5 (by kernel_rfl) (by kernel_rfl)
 obtain⟨Tc,fc,hc⟩:=aCx (P:=prog) (nm:= "math/bits.deBruijn64tab") (k:=.u8) (xs:=QQ 5) (g:=5) (n:=64) hv (List.Mem.tail _ (List.Mem.head _)) (by kernel_rfl) (t:=275) (by kernel_rfl) underlying275 underlying5 (by kernel_rfl) (by kernel_rfl)
 obtain⟨m,T0,fz0,h0⟩:=aNX (g:=0) (t:=3) (k:=.i64) (zero:=#[.int .i64 0]) hs (by decide +kernel) (by kernel_rfl) rfl (by kernel_rfl) (by kernel_rfl) underlying3
 refine⟨?_,?_⟩
 ·intro g ds hg
  by_cases e0:g=1
  ·subst e0
   simp only[JT,aGP,yAb]at hg
   subst hg
   exact aCy ha
  by_cases e2:g=4
  ·subst e2
   simp only[JT,aGQ,yAb]at hg
   subst hg
   exact aCy hb
  by_cases e3:g=5
  ·subst e3
   simp only[JT,aGR,yAb]at hg
   subst hg
   exact aCy hc
  simp only[JT,aCv e0 e2 e3]at hg
  cases hg
 ·intro g hg
  refine⟨?_,fun id hd=>hd.elim⟩
  by_cases e0:g=1
  ·subst e0
   exact⟨_,Ta,fa,ha,aCw aGP (Z4 (by decide))⟩
  by_cases e2:g=4
  ·subst e2
   exact⟨_,Tb,fb,hb,aCw aGQ (Z4 (by decide))⟩
  by_cases e3:g=5
  ·subst e3
   exact⟨_,Tc,fc,hc,aCw aGR (Z4 (by decide))⟩
  by_cases e1:g=0
  ·subst e1
   refine⟨_,T0,fz0,h0,?_,?_⟩
   ·intro k zs hk
    rw[aCv e0 e2 e3]at hk
    cases hk
   ·intro k hk
    have:k=.i64:=by
     have:QR 0=some .i64:=rfl
     rw[this]at hk
     exact(yBr hk).symm
    subst this
    exact⟨m,rfl⟩
  unfold aGT at hg
  rw[aCv e0 e2 e3,Z4 e1]at hg
  cases hg
noncomputable def aGO(os:Os):World:={ World.doorLaid prog 400 os with heap:=(World.doorLaid prog 400 os).heap.modify ((prog.globalNamed "unicode/utf8.first").getD 0) fun o=>match o with
 |.cells _ t fz=>.cells ((Go.Pinned.utf8FirstZ.map fun(n:Nat)=>Value.int .u8 n).toArray) t fz
 |o=>o }
theorem aNN(os:Os)(args:Array Value):laidMetH prog QP ((aGO os).forCall (fun _ _=>0) ⟨#[],args,[]⟩).memory:=
 laidMetH_of_parts3 (fuel:=8) (laidMet_of_run' 8 (by kernel_rfl) (by kernel_rfl)) (by kernel_rfl) (by kernel_rfl)
theorem named:(prog.funcs.toList.all fun fn=>!(fn.name== "runtime.NumGoroutine"))=true:=by kernel_rfl
theorem names(f:FuncId)(fn:Func)(h:prog.funcs[f]?=some fn):(fn.name== "runtime.NumGoroutine")=false:=by
 have:=yAn.1 named fn (yBQ.2 (yCI h))
 simpa using this
theorem aNP{d:Nat}{qs:Bw}(h:Typed prog (d+2) 23 qs):∃x:CG,rD prog 23 qs=Em.mS.aA x:=by
 obtain⟨q0,r0,rfl,h0,h⟩:=aGU (aNY underlying23 h)
 obtain⟨q1,r1,rfl,h1,h⟩:=aGU h
 obtain rfl:=aNZ h
 obtain⟨a,rfl,wa⟩:=aGV underlying3 h0
 obtain⟨b,rfl,wb⟩:=aGV underlying3 h1
 exact⟨(a,b),aN0 (by kernel_rfl)⟩
end Go.Proofs.YtnogdlnjafblaaaGreatDoor
