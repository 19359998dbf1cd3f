/-
  CompareSlips holds: the law answers true, whatever it is handed.
-/
import Derived.Test.YteegpeenjdgodaaGreatDoorP5
import Derived.Test.YteegpeenjdgodaaGreatDoorP3
import Derived.Test.YteegpeenjdgodaaGreatDoorP4
import Derived.Test.YteegpeenjdgodaaGreatDoorCards
import Derived.Test.YteegpeenjdgodaaGreatDoorTie
import Derived.SevenTiedAt
import Derived.Test.YteegpeenjdgodaaGreatDoorH0
import Derived.Test.YteegpeenjdgodaaGreatDoorH1
import Derived.Test.YteegpeenjdgodaaGreatDoorH2
import Derived.Test.YteegpeenjdgodaaGreatDoorH3
import Derived.Test.YteegpeenjdgodaaGreatDoorH4
import Derived.Test.YteegpeenjdgodaaGreatDoorF5
import Derived.Test.YteegpeenjdgodaaGreatDoorP9
set_option linter.all false

/-
  What the laws of chapter 51 are handed, as typed data; the tables that lie in the world.
-/
namespace Go.Proofs.YteegpeenjdgodaaGreatDoor
open Go Go.Kz Go.ChangeShapes Go.WideShapes Go.ChangeAt Go.WideMaps Go.WideElems Go.RowKit
set_option maxRecDepth 100000

theorem own : ownKnob Tryz.prog.godebug = none := by kernel_rfl
theorem laidOut : laidOutB Tryz.prog = true := by kernel_rfl

abbrev laidL : List (String × DataW Unit) := [("math/bits.deBruijn32tab", Rows.laid_math_bits_deBruijn32tab), ("math/bits.deBruijn64tab", Rows.laid_math_bits_deBruijn64tab), ("internal/strconv.uint64pow10", Rows.laid_internal_strconv_uint64pow10)]
theorem laidL_plain : (laidL.all fun x => x.2.handleName?.isNone) = true := by decide +kernel

def tabOf (g : Nat) : List Int := match gtab g with | some (_, xs) => xs | none => []
theorem gtab0 : gtab 0 = some (.u64, tabOf 0) := rfl
theorem gtab2 : gtab 2 = some (.u8, tabOf 2) := rfl
theorem gtab3 : gtab 3 = some (.u8, tabOf 3) := rfl
theorem gtab_ne {g : Nat} (h0 : g ≠ 0) (h2 : g ≠ 2) (h3 : g ≠ 3) : gtab g = none := by unfold gtab; rw [if_neg h0, if_neg h2, if_neg h3]
theorem gint_ne {g : Nat} (h : g ≠ 1) : gint g = none := by unfold gint; rw [if_neg h]
theorem ghold_tab {g : Nat} {k : IntKind} {xs : List Int} (h : gtab g = some (k, xs)) (hi : gint g = none) : ghold g (xs.map (Value.int k)).toArray := by
  refine ⟨fun k' zs hk => ?_, fun k' hk => ?_⟩
  · rw [h] at hk
    simp only [Option.some.injEq, Prod.mk.injEq] at hk
    obtain ⟨rfl, rfl⟩ := hk
    rfl
  · rw [hi] at hk
    cases hk

theorem glob {W : World} (hs : W.ShapedOpen Tryz.prog) (h : laidMetH Tryz.prog laidL W) : Gl (.start W) := by
  rw [MakeChecks.laidMetH_plain _ _ _ laidL_plain] at h
  obtain ⟨ps, hv, _, _⟩ := h
  obtain ⟨Ta, fa, ha⟩ := held_of_laid (P := Tryz.prog) (nm := "internal/strconv.uint64pow10") (k := .u64) (xs := tabOf 0) (g := 0) (n := 20) hv (List.Mem.tail _ (List.Mem.tail _ (List.Mem.head _))) (by kernel_rfl) (t := 254) (by kernel_rfl) Tryz.underlying254 Tryz.underlying226 (by kernel_rfl) (by kernel_rfl)
  obtain ⟨Tb, fb, hb⟩ := held_of_laid (P := Tryz.prog) (nm := "math/bits.deBruijn32tab") (k := .u8) (xs := tabOf 2) (g := 2) (n := 32) hv (List.Mem.head _) (by kernel_rfl) (t := 275) (by kernel_rfl) Tryz.underlying275 Tryz.underlying5 (by kernel_rfl) (by kernel_rfl)
  obtain ⟨Tc, fc, hc⟩ := held_of_laid (P := Tryz.prog) (nm := "math/bits.deBruijn64tab") (k := .u8) (xs := tabOf 3) (g := 3) (n := 64) hv (List.Mem.tail _ (List.Mem.head _)) (by kernel_rfl) (t := 276) (by kernel_rfl) Tryz.underlying276 Tryz.underlying5 (by kernel_rfl) (by kernel_rfl)
  obtain ⟨m, T0, fz0, h0⟩ := int_of_shaped (g := 1) (t := 3) (k := .i64) (zero := #[.int .i64 0]) hs (by decide +kernel) (by kernel_rfl) rfl (by kernel_rfl) (by kernel_rfl) Tryz.underlying3
  refine ⟨?_, ?_⟩
  · intro g ds hg
    by_cases e0 : g = 0
    · subst e0
      simp only [gcells, gtab0, Option.some.injEq] at hg
      subst hg
      exact eptr_of_held ha
    by_cases e2 : g = 2
    · subst e2
      simp only [gcells, gtab2, Option.some.injEq] at hg
      subst hg
      exact eptr_of_held hb
    by_cases e3 : g = 3
    · subst e3
      simp only [gcells, gtab3, Option.some.injEq] at hg
      subst hg
      exact eptr_of_held hc
    simp only [gcells, gtab_ne e0 e2 e3] at hg
    cases hg
  · intro g hg
    refine ⟨?_, fun id hd => hd.elim⟩
    by_cases e0 : g = 0
    · subst e0
      exact ⟨_, Ta, fa, ha, ghold_tab gtab0 (gint_ne (by decide))⟩
    by_cases e2 : g = 2
    · subst e2
      exact ⟨_, Tb, fb, hb, ghold_tab gtab2 (gint_ne (by decide))⟩
    by_cases e3 : g = 3
    · subst e3
      exact ⟨_, Tc, fc, hc, ghold_tab gtab3 (gint_ne (by decide))⟩
    by_cases e1 : g = 1
    · subst e1
      refine ⟨_, T0, fz0, h0, ?_, ?_⟩
      · intro k zs hk
        rw [gtab_ne e0 e2 e3] at hk
        cases hk
      · intro k hk
        have : k = .i64 := by
          have : gint 1 = some .i64 := rfl
          rw [this] at hk
          exact (Option.some.inj hk).symm
        subst this
        exact ⟨m, rfl⟩
    unfold gheld at hg
    rw [gtab_ne e0 e2 e3, gint_ne e1] at hg
    cases hg

noncomputable def door (os : Os) : World := World.doorLaid Tryz.prog 400 os
theorem door_met (os : Os) (args : Array Value) : laidMetH Tryz.prog laidL ((door os).forCall (fun _ _ => 0) ⟨#[], args, []⟩).memory :=
  laidMetH_of_parts3 (fuel := 8) (laidMet_of_run' 8 (by kernel_rfl) (by kernel_rfl)) (by kernel_rfl) (by kernel_rfl)
theorem named : (Tryz.prog.funcs.toList.all fun fn => !(fn.name == "runtime.NumGoroutine")) = true := by kernel_rfl
theorem names (f : FuncId) (fn : Func) (h : Tryz.prog.funcs[f]? = some fn) : (fn.name == "runtime.NumGoroutine") = false := by
  have := List.all_eq_true.1 named fn (Array.mem_toList_iff.2 (Array.mem_of_getElem? h))
  simpa using this

theorem typed_five {d : Nat} {qs : List PD} (h : Typed Tryz.prog (d + 2) 101 qs) : ∃ ws, qs = ws ∧ ∃ w0 w1 w2 w3 w4 : Int, ws = [.int .u8 w0, .int .u8 w1, .int .u8 w2, .int .u8 w3, .int .u8 w4] ∧ okU8 w0 ∧ okU8 w1 ∧ okU8 w2 ∧ okU8 w3 ∧ okU8 w4 := by
  have hu := Tryz.underlying101
  unfold Typed at h
  rw [hu] at h
  simp only at h
  obtain ⟨xs, hl, hx, rfl⟩ := h
  match xs, hl, hx with
  | [x0, x1, x2, x3, x4], _, hx =>
    obtain ⟨a, rfl, wa⟩ := typed_int Tryz.underlying5 (hx x0 (by simp))
    obtain ⟨b, rfl, wb⟩ := typed_int Tryz.underlying5 (hx x1 (by simp))
    obtain ⟨c, rfl, wc⟩ := typed_int Tryz.underlying5 (hx x2 (by simp))
    obtain ⟨e, rfl, we⟩ := typed_int Tryz.underlying5 (hx x3 (by simp))
    obtain ⟨f, rfl, wf⟩ := typed_int Tryz.underlying5 (hx x4 (by simp))
    exact ⟨_, rfl, a, b, c, e, f, rfl, wf_u8 wa, wf_u8 wb, wf_u8 wc, wf_u8 we, wf_u8 wf⟩
theorem wf_i8 {z : Int} (hz : (Lit.int .i8 z).wf = true) : -128 ≤ z ∧ z ≤ 127 := by
  simp only [Lit.wf, Bool.and_eq_true, decide_eq_true_eq] at hz
  exact hz
section
variable {d : Nat} {qs : List PD}
theorem ty_rplan (h : Typed Tryz.prog (d + 3) 103 qs) : ∃ x : RPlan, asPD Tryz.prog 103 qs = Em.rplan.emb x ∧ okRp x := by
  obtain ⟨q0, r0, rfl, h0, h⟩ := typedF_cons (typed_struct Tryz.underlying103 h)
  obtain ⟨q1, r1, rfl, h1, h⟩ := typedF_cons h
  obtain ⟨q2, r2, rfl, h2, h⟩ := typedF_cons h
  obtain ⟨q3, r3, rfl, h3, h⟩ := typedF_cons h
  obtain ⟨q4, r4, rfl, h4, h⟩ := typedF_cons h
  obtain rfl := typedF_nil h
  obtain ⟨a, rfl, wa⟩ := typed_int Tryz.underlying5 h0
  obtain ⟨b, rfl, wb⟩ := typed_int Tryz.underlying5 h1
  obtain ⟨c, rfl, wc⟩ := typed_int Tryz.underlying100 h2
  obtain ⟨e, rfl, we⟩ := typed_int Tryz.underlying5 h3
  obtain ⟨ws, rfl, hw⟩ := typed_five h4
  obtain ⟨w0, w1, w2, w3, w4, rfl, k0, k1, k2, k3, k4⟩ := hw
  exact ⟨⟨a, b, c, e, w0, w1, w2, w3, w4⟩, asPD_agg (by kernel_rfl), wf_u8 wa, wf_u8 wb, wf_i8 wc, wf_u8 we, k0, k1, k2, k3, k4⟩
theorem ty_pull (h : Typed Tryz.prog (d + 2) 106 qs) : ∃ x : PullD, asPD Tryz.prog 106 qs = Em.pull.emb x ∧ okPu x := by
  obtain ⟨q0, r0, rfl, h0, h⟩ := typedF_cons (typed_struct Tryz.underlying106 h)
  obtain ⟨q1, r1, rfl, h1, h⟩ := typedF_cons h
  obtain ⟨q2, r2, rfl, h2, h⟩ := typedF_cons h
  obtain ⟨q3, r3, rfl, h3, h⟩ := typedF_cons h
  obtain rfl := typedF_nil h
  obtain ⟨a, rfl, wa⟩ := typed_int Tryz.underlying5 h0
  obtain ⟨b, rfl, wb⟩ := typed_int Tryz.underlying5 h1
  obtain ⟨c, rfl, wc⟩ := typed_int Tryz.underlying5 h2
  obtain ⟨e, rfl, we⟩ := typed_int Tryz.underlying5 h3
  exact ⟨⟨a, b, c, e⟩, asPD_agg (by kernel_rfl), wf_u8 wa, wf_u8 wb, wf_u8 wc, wf_u8 we⟩
theorem ty_board (h : Typed Tryz.prog (d + 4) 95 qs) : ∃ x : BoardD, asPD Tryz.prog 95 qs = Em.board.emb x ∧ okB x := by
  obtain ⟨q0, r0, rfl, h0, h⟩ := typedF_cons (typed_struct Tryz.underlying95 h)
  obtain ⟨q1, r1, rfl, h1, h⟩ := typedF_cons h
  obtain ⟨q2, r2, rfl, h2, h⟩ := typedF_cons h
  obtain ⟨q3, r3, rfl, h3, h⟩ := typedF_cons h
  obtain rfl := typedF_nil h
  obtain ⟨a, rfl, wa⟩ := typed_int Tryz.underlying5 h0
  obtain ⟨b, rfl, wb⟩ := typed_int Tryz.underlying5 h1
  obtain ⟨c, rfl⟩ := typed_bool Tryz.underlying4 h2
  obtain ⟨ys, rfl, _, hy⟩ := typed_list (em := Em.pull) (R := okPu) Tryz.underlying93 (k := 4) (by kernel_rfl) (fun x hx => ty_pull hx) h3
  exact ⟨⟨a, b, c, ys⟩, asPD_agg (by kernel_rfl), wf_u8 wa, wf_u8 wb, hy⟩
theorem ty_link (h : Typed Tryz.prog (d + 2) 108 qs) : ∃ x : LinkD, asPD Tryz.prog 108 qs = Em.link.emb x ∧ okLk x := by
  obtain ⟨q0, r0, rfl, h0, h⟩ := typedF_cons (typed_struct Tryz.underlying108 h)
  obtain ⟨q1, r1, rfl, h1, h⟩ := typedF_cons h
  obtain ⟨q2, r2, rfl, h2, h⟩ := typedF_cons h
  obtain ⟨q3, r3, rfl, h3, h⟩ := typedF_cons h
  obtain rfl := typedF_nil h
  obtain ⟨a, rfl, wa⟩ := typed_int Tryz.underlying5 h0
  obtain ⟨b, rfl, wb⟩ := typed_int Tryz.underlying5 h1
  obtain ⟨c, rfl, wc⟩ := typed_int Tryz.underlying100 h2
  obtain ⟨e, rfl⟩ := typed_bool Tryz.underlying4 h3
  exact ⟨⟨a, b, c, e⟩, asPD_agg (by kernel_rfl), wf_u8 wa, wf_u8 wb, wf_i8 wc⟩
theorem ty_plan (h : Typed Tryz.prog (d + 6) 26 qs) : ∃ x : PlanD, asPD Tryz.prog 26 qs = Em.plan.emb x ∧ okPl x := by
  obtain ⟨q0, r0, rfl, h0, h⟩ := typedF_cons (typed_struct Tryz.underlying26 h)
  obtain ⟨q1, r1, rfl, h1, h⟩ := typedF_cons h
  obtain ⟨q2, r2, rfl, h2, h⟩ := typedF_cons h
  obtain rfl := typedF_nil h
  obtain ⟨xs, rfl, _, hx⟩ := typed_list (em := Em.rplan) (R := okRp) Tryz.underlying22 (k := 9) (by kernel_rfl) (fun x hx => ty_rplan hx) h0
  obtain ⟨ys, rfl, _, hy⟩ := typed_list (em := Em.board) (R := okB) Tryz.underlying23 (k := 4) (by kernel_rfl) (fun x hx => ty_board hx) h1
  obtain ⟨zs, rfl, _, hz⟩ := typed_list (em := Em.link) (R := okLk) Tryz.underlying24 (k := 4) (by kernel_rfl) (fun x hx => ty_link hx) h2
  exact ⟨⟨xs, ys, zs⟩, asPD_agg (by kernel_rfl), hx, hy, hz⟩
theorem ty_slip (h : Typed Tryz.prog (d + 2) 28 qs) : ∃ x : SlipD, asPD Tryz.prog 28 qs = Em.slip.emb x ∧ okSl x := by
  obtain ⟨q0, r0, rfl, h0, h⟩ := typedF_cons (typed_struct Tryz.underlying28 h)
  obtain ⟨q1, r1, rfl, h1, h⟩ := typedF_cons h
  obtain rfl := typedF_nil h
  obtain ⟨a, rfl, wa⟩ := typed_int Tryz.underlying5 h0
  obtain ⟨b, rfl, wb⟩ := typed_int Tryz.underlying5 h1
  exact ⟨⟨a, b⟩, asPD_agg (by kernel_rfl), wf_u8 wa, wf_u8 wb⟩
end
end Go.Proofs.YteegpeenjdgodaaGreatDoor

/-
  Chapter 51: the common stops of two organs, in plain words: as compare.Common finds them and as the law counts them.
-/
namespace Go.Kz
open Go Go.Proofs
abbrev M4 : Type := Int × Int × Int × Int
end Go.Kz

/-
  Chapter 51: what compare.Common answers, in plain words; its walk.
-/
namespace Go.Kz
open Go Go.Proofs
set_option maxRecDepth 100000
set_option maxHeartbeats 4000000
def EmC.m4 : EmC M4 := ((EmC.one i64).pair ((EmC.one i64).pair ((EmC.one i64).pair (.one i64))))
def Em.m4 : Em M4 := .agg .m4
@[simp] theorem emb_m4 {r : M4} : Em.m4.emb r = .agg [.int .i64 r.1, .int .i64 r.2.1, .int .i64 r.2.2.1, .int .i64 r.2.2.2] := rfl
theorem cap1 {a i B : Nat} (h : a ≤ i * B) : a ≤ (i + 1) * B := Nat.le_trans h (Nat.mul_le_mul_right B (Nat.le_succ i))
variable {E : PExt} (hU : Uni E)
include hU
end Go.Kz

/-
  Chapter 51: CompareCommon, walked.
-/
namespace Go.Kz
open Go Go.Proofs
set_option maxRecDepth 100000
set_option maxHeartbeats 40000000
noncomputable def gFits : Nat → List PD → List SObj → Option (PD × List SObj) := entry (gf1 Em.plan Em.bool fun p => some (fitsB p))
theorem gFits_of (p : PlanD) (fl : Nat) (σ : List SObj) : gFits fl [Em.plan.emb p] σ = some (.bool (fitsB p), σ) := by
  have e1 := Em.dec_some (Em.plan.str p)
  unfold gFits entry gf1
  simp only [e1]
  rfl
noncomputable def gMake : Nat → List PD → List SObj → Option (PD × List SObj) := entry (gf1 Em.plan Em.organ fun p => gif (okPl p ∧ fitsB p = true) (some (organS p)))
theorem gMake_of {p : PlanD} (h : okPl p) (hf : fitsB p = true) (fl : Nat) (σ : List SObj) : gMake fl [Em.plan.emb p] σ = some (Em.organ.emb (organS p), σ) := by
  have e1 := Em.dec_some (Em.plan.str p)
  unfold gMake entry gf1
  simp only [e1]
  rw [gif_pos ⟨h, hf⟩]
noncomputable abbrev gKn : Nat → List PD → List SObj → Option (PD × List SObj) := entry (gf0 Em.bool (some true))
theorem gKn_of (fl : Nat) (σ : List SObj) : gKn fl [] σ = some (.bool true, σ) := rfl
variable {E : PExt} (hU : Uni E)
include hU
end Go.Kz

/-
  Layer 18: a change of an organ, walked: it hands back some organ.
-/
namespace Go.Kz
open Go Go.Proofs
theorem WpC.runT {P : Program} {E : PExt} {f : FuncId} {args : List PD} (h : WpC P E 0 (.inl f) args [] (fun p1 σ1 => ∃ o', okO o' ∧ (thaw σ1 20 p1).strip = Em.organ.emb o' ∧ (thaw σ1 20 p1).idfree = true)) : ∃ o', okO o' ∧ RunT P E f args (Em.organ.emb o') := by
  obtain ⟨p1, σ1, h1, o', ho', h2, h3⟩ := h
  exact ⟨o', ho', 20, p1, σ1, h1, h2, h3⟩
variable {E : PExt} (hU : Uni E)
include hU
theorem r_Changed (h0 : E 12 = none) (o : OrganD) (x : SlipD) (ho : okO o) (hsm : Small o) (hx : okSl x) (hr : 1 ≤ o.ranks.length) (hd : 1 ≤ o.divs.length) :
    ∃ o', okO o' ∧ RunT Tryz.prog E 12 [Em.organ.emb o, Em.slip.emb x] (Em.organ.emb o') := by
  by_cases h1 : x.kind.toNat % 16 ≤ 3
  · exact (r_ChangedHd hU h0 o x ho hsm hx hr hd ⟨Nat.zero_le _, h1⟩).runT
  by_cases h2 : x.kind.toNat % 16 ≤ 6
  · exact (r_ChangedHe hU h0 o x ho hsm hx hr hd ⟨by omega, h2⟩).runT
  by_cases h3 : x.kind.toNat % 16 ≤ 9
  · exact (r_ChangedHf hU h0 o x ho hsm hx hr hd ⟨by omega, h3⟩).runT
  · exact (r_ChangedHg hU h0 o x ho hsm hx hr hd ⟨by omega, by omega⟩).runT
end Go.Kz

/-
  Chapter 51: CompareSlips, walked.
-/
namespace Go.Kz
open Go Go.Proofs
set_option maxRecDepth 100000
set_option maxHeartbeats 40000000
open Classical in
noncomputable def chO (E : PExt) (o : OrganD) (x : SlipD) : OrganD := if h : ∃ o', okO o' ∧ RunT Tryz.prog E 12 [Em.organ.emb o, Em.slip.emb x] (Em.organ.emb o') then Classical.choose h else ⟨[], [], [], []⟩
theorem chO_ok {E : PExt} {o : OrganD} {x : SlipD} (h : ∃ o', okO o' ∧ RunT Tryz.prog E 12 [Em.organ.emb o, Em.slip.emb x] (Em.organ.emb o')) : okO (chO E o x) ∧ RunT Tryz.prog E 12 [Em.organ.emb o, Em.slip.emb x] (Em.organ.emb (chO E o x)) := by
  unfold chO
  rw [dif_pos h]
  exact Classical.choose_spec h
def okCh (o : OrganD) (x : SlipD) : Prop := okO o ∧ Small o ∧ okSl x ∧ 1 ≤ o.ranks.length ∧ 1 ≤ o.divs.length
noncomputable def gCh (E : PExt) : Nat → List PD → List SObj → Option (PD × List SObj) := entry (gf2 Em.organ Em.slip Em.organ fun o x => gif (okCh o x) (some (chO E o x)))
theorem gCh_of {E : PExt} {o : OrganD} {x : SlipD} (h : okCh o x) (fl : Nat) (σ : List SObj) : gCh E fl [Em.organ.emb o, Em.slip.emb x] σ = some (Em.organ.emb (chO E o x), σ) := by
  have e1 := Em.dec_some (Em.organ.str o)
  have e2 := Em.dec_some (Em.slip.str x)
  unfold gCh entry gf2
  simp only [e1, e2]
  rw [gif_pos h]
theorem lib_Changed {E : PExt} (hU : Uni E) (hE : ExtOk Tryz.prog E) (h0 : E 12 = none) : ExtOk Tryz.prog (E.add 12 (gCh E)) :=
  hE.addT2 fol fun o x z hz => by
    obtain ⟨⟨h1, h2, h3, h4, h5⟩, e⟩ := gif_some hz
    cases e
    exact (chO_ok (r_Changed hU h0 o x h1 h2 h3 h4 h5)).2
theorem chO_fine {E : PExt} (hU : Uni E) (h0 : E 12 = none) {o : OrganD} {x : SlipD} (h : okCh o x) : okO (chO E o x) := (chO_ok (r_Changed hU h0 o x h.1 h.2.1 h.2.2.1 h.2.2.2.1 h.2.2.2.2)).1
variable {E E0 : PExt} (hU : Uni E)
include hU
theorem r_CompareSlips (hU0 : Uni E0) (h00 : E0 12 = none) (h0 : E 3 = none) (h1 : E 10 = some gKn) (h2 : E 11 = some gFits) (h3 : E 13 = some gMake) (h4 : E 12 = some (gCh E0)) (h5 : E 14 = some (eqE Em.organ okO)) (h6 : E 15 = some (eqE Em.organ okO)) (p : PlanD) (x y : SlipD) (hp : okPl p) (hx : okSl x) (hy : okSl y) :
    Run Tryz.prog E 3 [Em.plan.emb p, Em.slip.emb x, Em.slip.emb y] (Em.bool.emb true) := by
  have k := gKn_of
  have fp := gFits_of p
  simp only [emb_plan, emb_list] at fp
  cases cp : fitsB p with
  | false =>
    rw [cp] at fp
    simp only [emb_plan, emb_list, emb_slip]
    apply Run.bodyL h0 Tryz.func3 rfl
    focus (simp [show Tryz.f3.ntmps = _ from rfl, List.replicate]; rfl)
    have gx := And.intro @h1 (And.intro @k (And.intro @h2 (@fp)))
    refine goA ?_
    clear gx
    simp (disch := first | omega | (simp; done) | (simp; omega)) [decide_eq_decide] <;> try rfl
  | true =>
  rw [cp] at fp
  have mp := gMake_of hp cp
  have sm := organ_small p cp
  have hrl : 1 ≤ (organS p).ranks.length ∧ 1 ≤ (organS p).divs.length := by
    obtain ⟨r1, r3, d1, d3, c3, s3⟩ := fitsP cp
    unfold organS
    simp only [ranksS_length, boardsS_length]
    exact ⟨r1, d1⟩
  have okx : okCh (organS p) x := ⟨sm.okO, sm, hx, hrl.1, hrl.2⟩
  have oky : okCh (organS p) y := ⟨sm.okO, sm, hy, hrl.1, hrl.2⟩
  have cx := gCh_of (E := E0) okx
  have cy := gCh_of (E := E0) oky
  have fx := chO_fine hU0 h00 okx
  have fy := chO_fine hU0 h00 oky
  obtain ⟨o, ho⟩ : ∃ o, organS p = o := ⟨_, rfl⟩
  rw [ho] at mp cx cy fx fy
  obtain ⟨A, hA⟩ : ∃ q, chO E0 o x = q := ⟨_, rfl⟩
  obtain ⟨B, hB⟩ : ∃ q, chO E0 o y = q := ⟨_, rfl⟩
  rw [hA] at cx fx
  rw [hB] at cy fy
  have e1 := eqE_emb (a := Em.organ) (R := okO) fx fy
  have e2 := eqE_emb (a := Em.organ) (R := okO) fx fx
  have e3 := eqE_emb (a := Em.organ) (R := okO) fy fx
  have hd : decide (B = A) = decide (A = B) := by
    rw [decide_eq_decide]
    exact eq_comm
  rw [hd] at e3
  rw [decide_eq_true (rfl : A = A)] at e2
  obtain ⟨d, hdd⟩ : ∃ d, decide (A = B) = d := ⟨_, rfl⟩
  rw [hdd] at e1 e3
  clear hd hdd hA hB
  obtain ⟨on, or, od, oc⟩ := o
  obtain ⟨an, ar, ad, ac⟩ := A
  obtain ⟨bn, br, bd, bc⟩ := B
  simp only [emb_plan, emb_organ, emb_slip, emb_list] at mp cx cy e1 e2 e3
  simp only [emb_plan, emb_list, emb_slip]
  cases d with
  | true =>
    apply Run.bodyL h0 Tryz.func3 rfl
    focus (simp [show Tryz.f3.ntmps = _ from rfl, List.replicate]; rfl)
    have gx := And.intro @h1 (And.intro @k (And.intro @h2 (And.intro @fp (And.intro @h3 (And.intro @mp (And.intro @h4 (And.intro @cx (And.intro @cy (And.intro @h5 (And.intro @h6 (And.intro @e1 (And.intro @e2 (@e3)))))))))))))
    refine goA ?_
    clear gx
    simp (disch := first | omega | (simp; done) | (simp; omega)) [decide_eq_decide] <;> try rfl
  | false =>
    apply Run.bodyL h0 Tryz.func3 rfl
    focus (simp [show Tryz.f3.ntmps = _ from rfl, List.replicate]; rfl)
    have gx := And.intro @h1 (And.intro @k (And.intro @h2 (And.intro @fp (And.intro @h3 (And.intro @mp (And.intro @h4 (And.intro @cx (And.intro @cy (And.intro @h5 (And.intro @h6 (And.intro @e1 (And.intro @e2 (@e3)))))))))))))
    refine goA ?_
    clear gx
    simp (disch := first | omega | (simp; done) | (simp; omega)) [decide_eq_decide] <;> try rfl
end Go.Kz

/-
  Chapter 51: the table of functions of CompareCommon.
-/
namespace Go.Kz
open Go Go.Proofs
set_option maxRecDepth 100000
theorem ExtOk.le {P : Program} {E : PExt} {f : FuncId} {g g' : Nat → List PD → List SObj → Option (PD × List SObj)} (h : ExtOk P (E.add f g)) (hE : ExtOk P E) (hg : ∀ fl args σ x, g' fl args σ = some x → g fl args σ = some x) : ExtOk P (E.add f g') := by
  intro F fl f1 g1 args c vs p σ' hF h1 hgo hs hX hv
  unfold PExt.add at h1
  split at h1
  · rename_i e
    subst e
    simp only [Option.some.injEq] at h1; subst h1
    exact h hF (show E.add f1 g f1 = some g from if_pos rfl) (hg _ _ _ _ hgo) hs hX hv
  · exact hE hF h1 hgo hs hX hv
theorem gPures_strip {args args' : List PD} (h : args.map PD.strip = args') (h2 : args'.map PD.strip = args') : ∀ rs : List (List PD × PD), gPures rs args = gPures rs args'
  | [] => rfl
  | r :: rs => by
    unfold gPures
    rw [h, h2, gPures_strip h h2 rs]
theorem shift_tab : (feetSix.all fun a => feetAll.all fun b => match gPures Bt3L [Em.feet.emb a, Em.feet.emb b] with | some p => bPD 40 p (.tup [.int .i64 (shiftOf a b), .int .i64 0]) | none => false) = true := by decide +kernel
theorem shift_ok : ExtOk Tryz.prog (Bt2.add 69 gSh) := by
  refine Bt3_ok.le Bt2_ok fun fl args σ x h => ?_
  unfold gSh entry gf2 at h
  split at h
  rotate_left
  · cases h
  rename_i p hp
  simp only [Option.some.injEq] at h
  subst h
  split at hp
  rotate_left
  · cases hp
  rename_i p1 p2
  split at hp
  rotate_left
  · cases hp
  rename_i a b ha hb
  split at hp
  rotate_left
  · cases hp
  rename_i z hz
  obtain ⟨⟨h1, h2⟩, e⟩ := gif_some hz
  cases e
  simp only [Option.some.injEq] at hp
  subst hp
  have e1 := Em.of_dec ha
  have e2 := Em.of_dec hb
  have hs : [p1, p2].map PD.strip = [Em.feet.emb a, Em.feet.emb b] := by simp only [List.map_cons, List.map_nil, e1, e2]
  have hs2 : [Em.feet.emb a, Em.feet.emb b].map PD.strip = [Em.feet.emb a, Em.feet.emb b] := by simp only [List.map_cons, List.map_nil, Em.feet.str]
  rw [gPures_strip hs hs2]
  have ht := List.all_eq_true.1 (List.all_eq_true.1 shift_tab a h1) b h2
  split at ht
  · rename_i q hq
    rw [hq]
    have := bPD_eq 40 _ _ ht
    rw [this]
    rfl
  · cases ht
theorem ExtOk.addPull {E : PExt} (hE : ExtOk Tryz.prog E) (hU : Uni E) (h0 : E 31 = none) (h1 : E 68 = some (entry (gf1 u8e Em.feet fun n => gif (okU8 n) (some (sixAt n))))) (h2 : E 69 = some gSh) : ExtOk Tryz.prog (E.add 31 gPu) := by
  refine hE.addFree fol fun args p hg => ?_
  unfold gPl at hg
  split at hg
  rotate_left
  · cases hg
  rename_i a b c d
  split at hg
  rotate_left
  · cases hg
  rename_i rs lh x i ha hb hc hd
  obtain ⟨⟨k1, k2, k3, k4, k5, k6, k7, k8, k9⟩, e⟩ := gif_some hg
  cases e
  have e1 := Em.of_dec ha
  have e2 := Em.of_dec hb
  have e3 := Em.of_dec hc
  have e4 := Em.of_dec hd
  obtain ⟨j, rfl⟩ : ∃ j : Nat, i = j := ⟨i.toNat, by omega⟩
  rw [Int.toNat_natCast]
  obtain ⟨p2, σ2, q1, q2⟩ := r_pull hU h0 h1 h2 rs k1 k2 k3 lh.1 lh.2 k4 k5 k6 x k7 j (by omega)
  refine ⟨p2, σ2, ?_, q2, ?_, Em.stop.fre _⟩
  · simp only [List.map_cons, List.map_nil, e1, e2, e3, e4]
    exact q1
  · simp only [List.map_cons, List.map_nil, e1, e2, e3, e4, PD.idfreeL, ranks.fre, Em.feet.fre, Em.pull.fre, i64.fre, Bool.and_self]
end Go.Kz

/-
  Chapter 51: the table of functions of CompareSlips.
-/
namespace Go.Kz
open Go Go.Proofs
set_option maxRecDepth 100000
noncomputable def Uq0 : PExt := fun _ => none
theorem Uq0_ok : ExtOk Tryz.prog Uq0 := fun _ hg => by cases hg
theorem Uq0_uni : Uni Uq0 := Uni.none
noncomputable def Uq1 : PExt := Uq0.add 70 (eqE i64s okI)
theorem Uq1_ok : ExtOk Tryz.prog Uq1 := Uq0_ok.addEqE fol fun x y hx hy => r_EqualI Uq0_uni rfl x y hx hy
theorem Uq1_uni : Uni Uq1 := Uq0_uni.entry
noncomputable def Uq2 : PExt := Uq1.add 108 (eqE drawsE okDs)
theorem Uq2_ok : ExtOk Tryz.prog Uq2 := Uq1_ok.addEqE fol fun x y hx hy => r_EqualD Uq1_uni rfl x y hx hy
theorem Uq2_uni : Uni Uq2 := Uq1_uni.entry
noncomputable def Uq3 : PExt := Uq2.add 36 (eqE coupsE okCs)
theorem Uq3_ok : ExtOk Tryz.prog Uq3 := Uq2_ok.addEqE fol fun x y hx hy => r_EqualC Uq2_uni rfl x y hx hy
theorem Uq3_uni : Uni Uq3 := Uq2_uni.entry
noncomputable def Uq4 : PExt := Uq3.add 33 (eqE Em.rank okR)
theorem Uq4_ok : ExtOk Tryz.prog Uq4 := Uq3_ok.addEqE fol fun x y hx hy => r_rankEqual Uq3_uni rfl rfl x y hx hy
theorem Uq4_uni : Uni Uq4 := Uq3_uni.entry
noncomputable def Uq5 : PExt := Uq4.add 32 (eqF ranks okRs 33)
theorem Uq5_ok : ExtOk Tryz.prog Uq5 := Uq4_ok.addEqF fol fun x y hx hy => r_EqualFuncR Uq4_uni rfl rfl x y hx hy
theorem Uq5_uni : Uni Uq5 := Uq4_uni.entry
noncomputable def Uq6 : PExt := Uq5.add 107 (eqE Em.seg okG)
theorem Uq6_ok : ExtOk Tryz.prog Uq6 := Uq5_ok.addEqE fol fun x y hx hy => r_segEqual Uq5_uni rfl rfl x y hx hy
theorem Uq6_uni : Uni Uq6 := Uq5_uni.entry
noncomputable def Uq7 : PExt := Uq6.add 106 (eqF segsE okGs 107)
theorem Uq7_ok : ExtOk Tryz.prog Uq7 := Uq6_ok.addEqF fol fun x y hx hy => r_EqualFuncG Uq6_uni rfl rfl x y hx hy
theorem Uq7_uni : Uni Uq7 := Uq6_uni.entry
noncomputable def Uq8 : PExt := Uq7.add 72 (eqE Em.stop okS)
theorem Uq8_ok : ExtOk Tryz.prog Uq8 := Uq7_ok.addEqE fol fun x y hx hy => r_stopEqual Uq7_uni rfl rfl x y hx hy
theorem Uq8_uni : Uni Uq8 := Uq7_uni.entry
noncomputable def Uq9 : PExt := Uq8.add 71 (eqF stopsE okSs 72)
theorem Uq9_ok : ExtOk Tryz.prog Uq9 := Uq8_ok.addEqF fol fun x y hx hy => r_EqualFuncS Uq8_uni rfl rfl x y hx hy
theorem Uq9_uni : Uni Uq9 := Uq8_uni.entry
noncomputable def Uq10 : PExt := Uq9.add 35 (eqE Em.div okD)
theorem Uq10_ok : ExtOk Tryz.prog Uq10 := Uq9_ok.addEqE fol fun x y hx hy => r_divEqual Uq9_uni rfl rfl x y hx hy
theorem Uq10_uni : Uni Uq10 := Uq9_uni.entry
noncomputable def Uq11 : PExt := Uq10.add 34 (eqF divsE okDd 35)
theorem Uq11_ok : ExtOk Tryz.prog Uq11 := Uq10_ok.addEqF fol fun x y hx hy => r_EqualFuncD Uq10_uni rfl rfl x y hx hy
theorem Uq11_uni : Uni Uq11 := Uq10_uni.entry
noncomputable def Uq12 : PExt := Uq11.add 14 (eqE Em.organ okO)
theorem Uq12_ok : ExtOk Tryz.prog Uq12 := Uq11_ok.addEqE fol fun x y hx hy => r_Equal Uq11_uni rfl rfl rfl rfl x y hx hy
theorem Uq12_uni : Uni Uq12 := Uq11_uni.entry
noncomputable def Uq13 : PExt := Uq12.add 88 (eqE drawsE okDs)
theorem Uq13_ok : ExtOk Tryz.prog Uq13 := Uq12_ok.addEqE fol fun x y hx hy => r_sameDraws Uq12_uni rfl x y hx hy
theorem Uq13_uni : Uni Uq13 := Uq12_uni.entry
noncomputable def Uq14 : PExt := Uq13.add 37 (eqE Em.rank okR)
theorem Uq14_ok : ExtOk Tryz.prog Uq14 := Uq13_ok.addEqE fol fun x y hx hy => r_rankSame Uq13_uni rfl x y hx hy
theorem Uq14_uni : Uni Uq14 := Uq13_uni.entry
noncomputable def Uq15 : PExt := Uq14.add 57 (eqE Em.stop okS)
theorem Uq15_ok : ExtOk Tryz.prog Uq15 := Uq14_ok.addEqE fol fun x y hx hy => r_stopSame Uq14_uni rfl rfl x y hx hy
theorem Uq15_uni : Uni Uq15 := Uq14_uni.entry
noncomputable def Uq16 : PExt := Uq15.add 38 (eqE Em.div okD)
theorem Uq16_ok : ExtOk Tryz.prog Uq16 := Uq15_ok.addEqE fol fun x y hx hy => r_divSame Uq15_uni rfl rfl x y hx hy
theorem Uq16_uni : Uni Uq16 := Uq15_uni.entry
noncomputable def Uq17 : PExt := Uq16.add 15 (eqE Em.organ okO)
theorem Uq17_ok : ExtOk Tryz.prog Uq17 := Uq16_ok.addEqE fol fun x y hx hy => r_Same Uq16_uni rfl rfl rfl x y hx hy
theorem Uq17_uni : Uni Uq17 := Uq16_uni.entry
noncomputable def Uq18 : PExt := Uq17.add 11 gFits
theorem Uq18_ok : ExtOk Tryz.prog Uq18 := Uq17_ok.add1 fol fun x z hz => by cases hz; exact r_Fits Uq17_uni rfl x
theorem Uq18_uni : Uni Uq18 := Uq17_uni.entry
noncomputable def Uq19 : PExt := Uq18.add 67 (entry (gf1 u8e Em.feet fun n => gif (okU8 n) (some (allAt n))))
theorem Uq19_ok : ExtOk Tryz.prog Uq19 := Uq18_ok.add1 fol fun x z hz => by obtain ⟨h, e⟩ := gif_some hz; cases e; exact r_all Uq18_uni rfl x h
theorem Uq19_uni : Uni Uq19 := Uq18_uni.entry
noncomputable def Uq20 : PExt := Uq19.add 68 (entry (gf1 u8e Em.feet fun n => gif (okU8 n) (some (sixAt n))))
theorem Uq20_ok : ExtOk Tryz.prog Uq20 := Uq19_ok.add1 fol fun x z hz => by obtain ⟨h, e⟩ := gif_some hz; cases e; exact r_six Uq19_uni rfl x h
theorem Uq20_uni : Uni Uq20 := Uq19_uni.entry
noncomputable def Uq21 : PExt := Uq20.add 69 gSh
theorem Uq21_ok : ExtOk Tryz.prog Uq21 := ExtOk.pick shift_ok Uq20_ok (if_pos rfl)
theorem Uq21_uni : Uni Uq21 := Uq20_uni.entry
noncomputable def Uq22 : PExt := Uq21.add 30 gRM
theorem Uq22_ok : ExtOk Tryz.prog Uq22 := Uq21_ok.add2 fol fun x y z hz => by
  obtain ⟨h, e⟩ := gif_some hz
  cases e
  obtain ⟨a, rfl⟩ : ∃ a : Nat, y = a := ⟨y.toNat, by omega⟩
  rw [Int.toNat_natCast]
  exact r_rankMake Uq21_uni rfl rfl x h.1 a (by omega)
theorem Uq22_uni : Uni Uq22 := Uq21_uni.entry
noncomputable def Uq23 : PExt := Uq22.add 31 gPu
theorem Uq23_ok : ExtOk Tryz.prog Uq23 := Uq22_ok.addPull Uq22_uni rfl rfl rfl
theorem Uq23_uni : Uni Uq23 := Uq22_uni.entry
noncomputable def Uq24 : PExt := Uq23.add 13 gMake
theorem Uq24_ok : ExtOk Tryz.prog Uq24 := Uq23_ok.add1 fol fun x z hz => by obtain ⟨h, e⟩ := gif_some hz; cases e; exact r_Make Uq23_uni rfl rfl rfl x h.1 h.2
theorem Uq24_uni : Uni Uq24 := Uq23_uni.entry
noncomputable def Uq25 : PExt := Uq24.add 12 (gCh Uq24)
theorem Uq25_ok : ExtOk Tryz.prog Uq25 := lib_Changed Uq24_uni Uq24_ok rfl
theorem Uq25_uni : Uni Uq25 := Uq24_uni.entry
noncomputable def Uq26 : PExt := Uq25.add 10 gKn
theorem Uq26_ok : ExtOk Tryz.prog Uq26 := ExtOk.pick known_ok Uq25_ok (if_pos rfl)
theorem Uq26_uni : Uni Uq26 := Uq25_uni.entry
end Go.Kz

/-
  CompareSlips holds: the law answers true, whatever it is handed.
-/
namespace Go.Proofs.YteegpeenjdgodaaGreatDoor
open Go Go.Kz Go.ChangeShapes Go.WideShapes Go.ChangeAt Go.WideMaps Go.WideElems Go.RowKit
set_option maxRecDepth 100000

theorem lifted_CompareSlips (os : Os) (started : os.Started) (H : Type) (enc : TypeId × Value → H) :
    ReturnsInHanded {} Tryz.checked os 3 .any (fun w args => (Rows.compareSlipsSpec.pre enc Tryz.prog Tryz.f3 [] false w args ∧ laidMetH Tryz.prog laidL w) ∧ sizedMet enc Tryz.prog Tryz.f3 (OpenSpec.ofChange Rows.compareSlipsSpec) false w args)
      (Rows.compareSlipsSpec.post enc Tryz.prog Tryz.f3 false true false false) := by
  refine handed_shaped (C := Tryz.checked) (X := fun w _ => laidMetH Tryz.prog laidL w) (fun _ _ _ hh h => h.of_heap hh) own started (by kernel_rfl) Tryz.func3
    (ChangeSpec.witness_shaped (enc := enc) (C := Tryz.checked) (os := os) (X := fun w _ => laidMetH Tryz.prog laidL w) false (door os) #[.agg #[.slice none 0 0, .slice none 0 0, .slice none 0 0], .agg #[.int .u8 0, .int .u8 0], .agg #[.int .u8 0, .int .u8 0]] 12 rfl (World.shaped_of_RefB (by kernel_rfl) (by kernel_rfl)) (by kernel_rfl) (by kernel_rfl) (by kernel_rfl) (door_met os _)) ?_
  intro W base args ds gs before hsh hval hW _ _ hL _
  have hval : ∀ (j : Nat) t v, Tryz.f3.params[j]? = some t → args[j]? = some v → Value.okWide Tryz.prog W .any base t v := hval
  have hW' := hW
  obtain ⟨p, q, hA, _, _, _, _⟩ := hW
  have hA : DataW.TrodAll enc Tryz.prog W 0 (fun _ => true) true Tryz.f3.params.toList args.toList ds p := hA
  rw [Tryz.params3] at hA hval
  obtain ⟨v1, v2, v3, d1, d2, d3, p1, p2, p3, rfl, _, _, h1, h2, h3⟩ := trodAll_three hA
  obtain ⟨q1, t1, r1⟩ := arg_typed (n := 12) (t := 26) (v := v1) (by kernel_rfl) (hval 0 _ _ rfl rfl) h1
  obtain ⟨p1', e1, ok1⟩ := ty_plan t1
  rw [e1] at r1
  obtain ⟨q2, t2, r2⟩ := arg_typed (n := 12) (t := 28) (v := v2) (by kernel_rfl) (hval 1 _ _ rfl rfl) h2
  obtain ⟨x1', e2, ok2⟩ := ty_slip t2
  rw [e2] at r2
  obtain ⟨q3, t3, r3⟩ := arg_typed (n := 12) (t := 28) (v := v3) (by kernel_rfl) (hval 2 _ _ rfl rfl) h3
  obtain ⟨x2', e3, ok3⟩ := ty_slip t3
  rw [e3] at r3
  have run := r_CompareSlips Uq26_uni Uq24_uni rfl rfl rfl rfl rfl rfl rfl rfl p1' x1' x2' ok1 ok2 ok3
  refine (Run.calls Uq26_ok fol names run (glob hsh hL) (vrs_cons r1 (vrs_cons r2 (vrs_cons r3 vrs_nil)))).mono fun e' W' ⟨he, hb⟩ => ?_
  subst he
  exact ⟨_, rfl, law_post laidOut rfl hW' hb rfl Tryz.underlying4 (by kernel_rfl) (fun ds hg hd => by
    subst hg
    match ds, hd with
    | [d1, d2, d3], _ => rfl)⟩

theorem compareSlips_holds : Rows.CompareSlipsSaid :=
  OpenClaim.holds_of_wide 3 Tryz.f3 rfl rfl rfl rfl rfl rfl rfl ⟨rfl, rfl, rfl, rfl, rfl⟩ rfl rfl rfl rfl rfl (by kernel_rfl) Tryz.func3 (by kernel_rfl)
    (of_decide_eq_true (by kernel_rfl)) (by unfold Func.isWrapper; first | (rw [if_pos (by decide +kernel)]; kernel_rfl) | (rw [if_neg (by decide +kernel)]; exact ⟨rfl, rfl⟩))
    (fun os started H enc _ => lifted_CompareSlips os started H enc)

theorem compareSlips_card : Rows.CompareSlipsCardSaid :=
  Claim7.holds_tied_plain_at .later [] [.data, .data, .data] true (true, "fb728158b6e916623bad043b76e2826853c2cfa1ed62eb5aad62ad7867ddaab4") false
    compareSlips_holds (fun _ h => by cases h) (by kernel_rfl) (fun _ h => by cases h) compareSlips_row_tie rfl ⟨rfl, rfl⟩ (by kernel_rfl) rfl
    (fun f fn hf hfn => by
      obtain rfl : f = 3 := Option.some.inj ((show Tryz.prog.funcNamed "bombarde/bombardelaw51.CompareSlips" = some 3 by kernel_rfl).symm.trans hf) |>.symm
      obtain rfl : fn = Tryz.f3 := (Option.some.inj (Tryz.func3.symm.trans hfn)).symm
      exact ⟨by kernel_rfl, fun j t ht => by
        rw [Tryz.params3] at ht
        have hm := Array.mem_of_getElem? ht
        have hall : (#[26, 28, 28].all fun u => !Tryz.prog.wantsStandIn u) = true := by kernel_rfl
        have := Array.all_eq_true_iff_forall_mem.1 hall t hm
        exact (show Tryz.prog.wantsStandIn t = false by simpa using this)⟩)
    (by kernel_rfl)
end Go.Proofs.YteegpeenjdgodaaGreatDoor
