/-
  Part P5 of the way: an interpreter over pure data, its soundness, walks through functions.
-/
import Derived.Test.YtclleofcjnggaaaDoorP4
import Derived.Test.YtclleofcjnggaaaDoorP2
import Derived.Test.YtclleofcjnggaaaDoorCards
import Derived.Test.YtclleofcjnggaaaDoorTie
import Derived.SevenTiedAt
set_option linter.all false

/-
  What the laws of layer 11 are handed, as typed data; the tables that lie in the world.
-/
namespace Go.Proofs.YtclleofcjnggaaaDoor
open Go Go.Kz Go.ChangeShapes Go.WideShapes Go.ChangeAt Go.WideMaps Go.WideElems Go.RowKit
set_option maxRecDepth 100000

theorem own : ownKnob Tryd.prog.godebug = none := by kernel_rfl
theorem laidOut : laidOutB Tryd.prog = true := by kernel_rfl
theorem gDb : Tryd.prog.globalNamed "math/bits.deBruijn64tab" = some 0 := by kernel_rfl
theorem tDb : (Tryd.prog.globals[0]?).map (·.type) = some 94 := by kernel_rfl

abbrev laidL {H : Type} : List (String × DataW H) := [("math/bits.deBruijn64tab", Rows.laid_math_bits_deBruijn64tab)]

theorem door_met (os : Os) (args : Array Value) : laidMetH Tryd.prog laidL ((World.doorLaid Tryd.prog 400 os).forCall (fun _ _ => 0) ⟨#[], args, []⟩).memory :=
  laidMetH_of_parts3 (fuel := 8) (laidMet_of_run' 8 (by kernel_rfl) (by kernel_rfl)) (by kernel_rfl) (by kernel_rfl)

theorem glob {W : World} (h : laidMetH Tryd.prog laidL W) : Gl (.start W) := by
  intro g ds hg
  by_cases h0 : g = 0
  · subst h0
    rw [gcells0] at hg
    simp only [Option.some.injEq] at hg
    subst hg
    exact glob_of_laid (P := Tryd.prog) (nm := "math/bits.deBruijn64tab") (k := .u8) (xs := tab64) (g := 0) (n := 64) h (by kernel_rfl) gDb tDb Tryd.underlying94 Tryd.underlying5 (by kernel_rfl)
  · unfold gcells gtab at hg
    simp [h0] at hg

section
variable {d : Nat} {qs : List PD}
theorem ty_player (h : Typed Tryd.prog (d + 2) 23 qs) : ∃ p : Player, asPD Tryd.prog 23 qs = Em.player.emb p := by
  obtain ⟨q0, r0, rfl, h0, h⟩ := typedF_cons (typed_struct Tryd.underlying23 h)
  obtain ⟨q1, r1, rfl, h1, h⟩ := typedF_cons h
  obtain ⟨q2, r2, rfl, h2, h⟩ := typedF_cons h
  obtain ⟨q3, r3, rfl, h3, h⟩ := typedF_cons h
  obtain rfl := typedF_nil h
  obtain ⟨a, rfl, _⟩ := typed_int Tryd.underlying3 h0
  obtain ⟨b, rfl, _⟩ := typed_int Tryd.underlying3 h1
  obtain ⟨c, rfl, _⟩ := typed_int Tryd.underlying3 h2
  obtain ⟨e, rfl, _⟩ := typed_int Tryd.underlying3 h3
  exact ⟨⟨a, b, c, e⟩, asPD_agg (by kernel_rfl)⟩
theorem ty_notes (h : Typed Tryd.prog (d + 2) 26 qs) : ∃ s : Notes, asPD Tryd.prog 26 qs = Em.notes.emb s := by
  obtain ⟨q0, r0, rfl, h0, h⟩ := typedF_cons (typed_struct Tryd.underlying26 h)
  obtain ⟨q1, r1, rfl, h1, h⟩ := typedF_cons h
  obtain rfl := typedF_nil h
  obtain ⟨a, rfl, wa⟩ := typed_int Tryd.underlying24 h0
  obtain ⟨b, rfl, wb⟩ := typed_int Tryd.underlying24 h1
  obtain ⟨a', rfl⟩ := wf_u64 wa
  obtain ⟨b', rfl⟩ := wf_u64 wb
  refine ⟨⟨a', b'⟩, ?_⟩
  rw [emb_notes, tn_eq, tn_eq]
  exact asPD_agg (by kernel_rfl)
theorem ty_compass (h : Typed Tryd.prog (d + 2) 50 qs) : ∃ c : Compass, qs = [.int .i64 c.low, .int .i64 c.high] ∧ -9223372036854775808 ≤ c.low ∧ c.low ≤ 9223372036854775807 ∧ -9223372036854775808 ≤ c.high ∧ c.high ≤ 9223372036854775807 := by
  obtain ⟨q0, r0, rfl, h0, h⟩ := typedF_cons (typed_struct Tryd.underlying50 h)
  obtain ⟨q1, r1, rfl, h1, h⟩ := typedF_cons h
  obtain rfl := typedF_nil h
  obtain ⟨a, rfl, wa⟩ := typed_int Tryd.underlying3 h0
  obtain ⟨b, rfl, wb⟩ := typed_int Tryd.underlying3 h1
  exact ⟨⟨a, b⟩, rfl, (wf_i64 wa).1, (wf_i64 wa).2, (wf_i64 wb).1, (wf_i64 wb).2⟩
theorem ty_compass' (h : Typed Tryd.prog (d + 2) 50 qs) : ∃ c : Compass, asPD Tryd.prog 50 qs = Em.compass.emb c ∧ -9223372036854775808 ≤ c.low ∧ c.low ≤ 9223372036854775807 ∧ -9223372036854775808 ≤ c.high ∧ c.high ≤ 9223372036854775807 := by
  obtain ⟨c, rfl, hc⟩ := ty_compass h
  exact ⟨c, asPD_agg (by kernel_rfl), hc⟩
theorem ty_notesL (h : Typed Tryd.prog (d + 3) 64 qs) : ∃ l : List Notes, asPD Tryd.prog 64 qs = notesL.emb l ∧ l.length ≤ maxLen := by
  obtain ⟨ys, rfl, h1, _⟩ := typed_list (em := Em.notes) (R := fun _ => True) Tryd.underlying64 (k := 2) (by kernel_rfl) (fun x hx => by obtain ⟨s, hs⟩ := ty_notes hx; exact ⟨s, hs, trivial⟩) h
  exact ⟨ys, asPD_one (by kernel_rfl), h1⟩
theorem ty_draw (h : Typed Tryd.prog (d + 2) 121 qs) : ∃ s : Draw, asPD Tryd.prog 121 qs = Em.draw.emb s := by
  obtain ⟨q0, r0, rfl, h0, h⟩ := typedF_cons (typed_struct Tryd.underlying121 h)
  obtain ⟨q1, r1, rfl, h1, h⟩ := typedF_cons h
  obtain rfl := typedF_nil h
  obtain ⟨a, rfl, wa⟩ := typed_int Tryd.underlying3 h0
  obtain ⟨b, rfl, wb⟩ := typed_int Tryd.underlying3 h1
  exact ⟨⟨a, b⟩, asPD_agg (by kernel_rfl)⟩
theorem ty_segment (h : Typed Tryd.prog (d + 4) 119 qs) : ∃ s : Segment, asPD Tryd.prog 119 qs = Em.segment.emb s := by
  obtain ⟨q0, r0, rfl, h0, h⟩ := typedF_cons (typed_struct Tryd.underlying119 h)
  obtain ⟨q1, r1, rfl, h1, h⟩ := typedF_cons h
  obtain ⟨q2, r2, rfl, h2, h⟩ := typedF_cons h
  obtain rfl := typedF_nil h
  obtain ⟨a, rfl, wa⟩ := typed_int Tryd.underlying3 h0
  obtain ⟨b, rfl, wb⟩ := typed_int Tryd.underlying3 h1
  obtain ⟨ys, rfl, _, _⟩ := typed_list (em := Em.draw) (R := fun _ => True) Tryd.underlying117 (k := 2) (by kernel_rfl) (fun x hx => by obtain ⟨s, hs⟩ := ty_draw hx; exact ⟨s, hs, trivial⟩) h2
  exact ⟨⟨a, b, ys⟩, asPD_agg (by kernel_rfl)⟩
theorem ty_fract (h : Typed Tryd.prog (d + 2) 112 qs) : ∃ s : Fract, qs = EmC.fract.cells s := by
  obtain ⟨q0, r0, rfl, h0, h⟩ := typedF_cons (typed_struct Tryd.underlying112 h)
  obtain ⟨q1, r1, rfl, h1, h⟩ := typedF_cons h
  obtain rfl := typedF_nil h
  obtain ⟨a, rfl, wa⟩ := typed_int Tryd.underlying3 h0
  obtain ⟨b, rfl, wb⟩ := typed_int Tryd.underlying3 h1
  exact ⟨⟨a, b⟩, rfl⟩
theorem ty_stop (h : Typed Tryd.prog (d + 6) 115 qs) : ∃ s : Stop, asPD Tryd.prog 115 qs = Em.stop.emb s := by
  obtain ⟨q0, r0, rfl, h0, h⟩ := typedF_cons (typed_struct Tryd.underlying115 h)
  obtain ⟨q1, r1, rfl, h1, h⟩ := typedF_cons h
  obtain ⟨q2, r2, rfl, h2, h⟩ := typedF_cons h
  obtain rfl := typedF_nil h
  obtain ⟨a, rfl, _⟩ := typed_str Tryd.underlying9 h0
  obtain ⟨b, rfl⟩ := ty_fract h1
  obtain ⟨ys, rfl, _, _⟩ := typed_list (em := Em.segment) (R := fun _ => True) Tryd.underlying113 (k := 3) (by kernel_rfl) (fun x hx => by obtain ⟨s, hs⟩ := ty_segment hx; exact ⟨s, hs, trivial⟩) h2
  exact ⟨⟨a, b, ys⟩, asPD_agg (by kernel_rfl)⟩
def keysIn (c : Compass) : Prop := -9223372036854775808 ≤ c.low ∧ c.low ≤ 9223372036854775807 ∧ -9223372036854775808 ≤ c.high ∧ c.high ≤ 9223372036854775807
theorem ty_division (h : Typed Tryd.prog (d + 8) 69 qs) : ∃ s : Division, asPD Tryd.prog 69 qs = Em.division.emb s ∧ keysIn s.keys := by
  obtain ⟨q0, r0, rfl, h0, h⟩ := typedF_cons (typed_struct Tryd.underlying69 h)
  obtain ⟨q1, r1, rfl, h1, h⟩ := typedF_cons h
  obtain ⟨q2, r2, rfl, h2, h⟩ := typedF_cons h
  obtain ⟨q3, r3, rfl, h3, h⟩ := typedF_cons h
  obtain rfl := typedF_nil h
  obtain ⟨a, rfl, _⟩ := typed_str Tryd.underlying9 h0
  obtain ⟨b, rfl⟩ := typed_bool Tryd.underlying4 h1
  obtain ⟨c, rfl, hc⟩ := ty_compass h2
  obtain ⟨ys, rfl, _, _⟩ := typed_list (em := Em.stop) (R := fun _ => True) Tryd.underlying67 (k := 4) (by kernel_rfl) (fun x hx => by obtain ⟨s, hs⟩ := ty_stop hx; exact ⟨s, hs, trivial⟩) h3
  exact ⟨⟨a, b, c, ys⟩, asPD_agg (by kernel_rfl), hc⟩
theorem ty_divisionsL (h : Typed Tryd.prog (d + 9) 66 qs) : ∃ l : List Division, asPD Tryd.prog 66 qs = divisionsL.emb l ∧ l.length ≤ maxLen ∧ ∀ x ∈ l, keysIn x.keys := by
  obtain ⟨ys, rfl, h1, h2⟩ := typed_list (em := Em.division) (R := fun x => keysIn x.keys) Tryd.underlying66 (k := 5) (by kernel_rfl) (fun x hx => ty_division hx) h
  exact ⟨ys, asPD_one (by kernel_rfl), h1, h2⟩
end
end Go.Proofs.YtclleofcjnggaaaDoor
