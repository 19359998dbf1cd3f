/-
  CompareCommon holds: the law answers true, whatever it is handed.
-/
import Derived.Test.YteegpeenjdgodaaGreatDoorP5
import Derived.Test.YteegpeenjdgodaaGreatDoorP3
import Derived.Test.YteegpeenjdgodaaGreatDoorP4
import Derived.Test.YteegpeenjdgodaaGreatDoorCards
import Derived.Test.YteegpeenjdgodaaGreatDoorTie
import Derived.SevenTiedAt
import Derived.Test.YteegpeenjdgodaaGreatDoorP7
import Derived.Test.YteegpeenjdgodaaGreatDoorF5
import Derived.Test.YteegpeenjdgodaaGreatDoorP9
set_option linter.all false

/-
  What the laws of chapter 51 are handed, as typed data; the tables that lie in the world.
-/
namespace Go.Proofs.YteegpeenjdgodaaGreatDoor
open Go Go.Kz Go.ChangeShapes Go.WideShapes Go.ChangeAt Go.WideMaps Go.WideElems Go.RowKit
set_option maxRecDepth 100000

theorem own : ownKnob Tryz.prog.godebug = none := by kernel_rfl
theorem laidOut : laidOutB Tryz.prog = true := by kernel_rfl

abbrev laidL : List (String × DataW Unit) := [("math/bits.deBruijn32tab", Rows.laid_math_bits_deBruijn32tab), ("math/bits.deBruijn64tab", Rows.laid_math_bits_deBruijn64tab), ("internal/strconv.uint64pow10", Rows.laid_internal_strconv_uint64pow10)]
theorem laidL_plain : (laidL.all fun x => x.2.handleName?.isNone) = true := by decide +kernel

def tabOf (g : Nat) : List Int := match gtab g with | some (_, xs) => xs | none => []
theorem gtab0 : gtab 0 = some (.u64, tabOf 0) := rfl
theorem gtab2 : gtab 2 = some (.u8, tabOf 2) := rfl
theorem gtab3 : gtab 3 = some (.u8, tabOf 3) := rfl
theorem gtab_ne {g : Nat} (h0 : g ≠ 0) (h2 : g ≠ 2) (h3 : g ≠ 3) : gtab g = none := by unfold gtab; rw [if_neg h0, if_neg h2, if_neg h3]
theorem gint_ne {g : Nat} (h : g ≠ 1) : gint g = none := by unfold gint; rw [if_neg h]
theorem ghold_tab {g : Nat} {k : IntKind} {xs : List Int} (h : gtab g = some (k, xs)) (hi : gint g = none) : ghold g (xs.map (Value.int k)).toArray := by
  refine ⟨fun k' zs hk => ?_, fun k' hk => ?_⟩
  · rw [h] at hk
    simp only [Option.some.injEq, Prod.mk.injEq] at hk
    obtain ⟨rfl, rfl⟩ := hk
    rfl
  · rw [hi] at hk
    cases hk

theorem glob {W : World} (hs : W.ShapedOpen Tryz.prog) (h : laidMetH Tryz.prog laidL W) : Gl (.start W) := by
  rw [MakeChecks.laidMetH_plain _ _ _ laidL_plain] at h
  obtain ⟨ps, hv, _, _⟩ := h
  obtain ⟨Ta, fa, ha⟩ := held_of_laid (P := Tryz.prog) (nm := "internal/strconv.uint64pow10") (k := .u64) (xs := tabOf 0) (g := 0) (n := 20) hv (List.Mem.tail _ (List.Mem.tail _ (List.Mem.head _))) (by kernel_rfl) (t := 254) (by kernel_rfl) Tryz.underlying254 Tryz.underlying226 (by kernel_rfl) (by kernel_rfl)
  obtain ⟨Tb, fb, hb⟩ := held_of_laid (P := Tryz.prog) (nm := "math/bits.deBruijn32tab") (k := .u8) (xs := tabOf 2) (g := 2) (n := 32) hv (List.Mem.head _) (by kernel_rfl) (t := 275) (by kernel_rfl) Tryz.underlying275 Tryz.underlying5 (by kernel_rfl) (by kernel_rfl)
  obtain ⟨Tc, fc, hc⟩ := held_of_laid (P := Tryz.prog) (nm := "math/bits.deBruijn64tab") (k := .u8) (xs := tabOf 3) (g := 3) (n := 64) hv (List.Mem.tail _ (List.Mem.head _)) (by kernel_rfl) (t := 276) (by kernel_rfl) Tryz.underlying276 Tryz.underlying5 (by kernel_rfl) (by kernel_rfl)
  obtain ⟨m, T0, fz0, h0⟩ := int_of_shaped (g := 1) (t := 3) (k := .i64) (zero := #[.int .i64 0]) hs (by decide +kernel) (by kernel_rfl) rfl (by kernel_rfl) (by kernel_rfl) Tryz.underlying3
  refine ⟨?_, ?_⟩
  · intro g ds hg
    by_cases e0 : g = 0
    · subst e0
      simp only [gcells, gtab0, Option.some.injEq] at hg
      subst hg
      exact eptr_of_held ha
    by_cases e2 : g = 2
    · subst e2
      simp only [gcells, gtab2, Option.some.injEq] at hg
      subst hg
      exact eptr_of_held hb
    by_cases e3 : g = 3
    · subst e3
      simp only [gcells, gtab3, Option.some.injEq] at hg
      subst hg
      exact eptr_of_held hc
    simp only [gcells, gtab_ne e0 e2 e3] at hg
    cases hg
  · intro g hg
    refine ⟨?_, fun id hd => hd.elim⟩
    by_cases e0 : g = 0
    · subst e0
      exact ⟨_, Ta, fa, ha, ghold_tab gtab0 (gint_ne (by decide))⟩
    by_cases e2 : g = 2
    · subst e2
      exact ⟨_, Tb, fb, hb, ghold_tab gtab2 (gint_ne (by decide))⟩
    by_cases e3 : g = 3
    · subst e3
      exact ⟨_, Tc, fc, hc, ghold_tab gtab3 (gint_ne (by decide))⟩
    by_cases e1 : g = 1
    · subst e1
      refine ⟨_, T0, fz0, h0, ?_, ?_⟩
      · intro k zs hk
        rw [gtab_ne e0 e2 e3] at hk
        cases hk
      · intro k hk
        have : k = .i64 := by
          have : gint 1 = some .i64 := rfl
          rw [this] at hk
          exact (Option.some.inj hk).symm
        subst this
        exact ⟨m, rfl⟩
    unfold gheld at hg
    rw [gtab_ne e0 e2 e3, gint_ne e1] at hg
    cases hg

noncomputable def door (os : Os) : World := World.doorLaid Tryz.prog 400 os
theorem door_met (os : Os) (args : Array Value) : laidMetH Tryz.prog laidL ((door os).forCall (fun _ _ => 0) ⟨#[], args, []⟩).memory :=
  laidMetH_of_parts3 (fuel := 8) (laidMet_of_run' 8 (by kernel_rfl) (by kernel_rfl)) (by kernel_rfl) (by kernel_rfl)
theorem named : (Tryz.prog.funcs.toList.all fun fn => !(fn.name == "runtime.NumGoroutine")) = true := by kernel_rfl
theorem names (f : FuncId) (fn : Func) (h : Tryz.prog.funcs[f]? = some fn) : (fn.name == "runtime.NumGoroutine") = false := by
  have := List.all_eq_true.1 named fn (Array.mem_toList_iff.2 (Array.mem_of_getElem? h))
  simpa using this

theorem typed_five {d : Nat} {qs : List PD} (h : Typed Tryz.prog (d + 2) 101 qs) : ∃ ws, qs = ws ∧ ∃ w0 w1 w2 w3 w4 : Int, ws = [.int .u8 w0, .int .u8 w1, .int .u8 w2, .int .u8 w3, .int .u8 w4] ∧ okU8 w0 ∧ okU8 w1 ∧ okU8 w2 ∧ okU8 w3 ∧ okU8 w4 := by
  have hu := Tryz.underlying101
  unfold Typed at h
  rw [hu] at h
  simp only at h
  obtain ⟨xs, hl, hx, rfl⟩ := h
  match xs, hl, hx with
  | [x0, x1, x2, x3, x4], _, hx =>
    obtain ⟨a, rfl, wa⟩ := typed_int Tryz.underlying5 (hx x0 (by simp))
    obtain ⟨b, rfl, wb⟩ := typed_int Tryz.underlying5 (hx x1 (by simp))
    obtain ⟨c, rfl, wc⟩ := typed_int Tryz.underlying5 (hx x2 (by simp))
    obtain ⟨e, rfl, we⟩ := typed_int Tryz.underlying5 (hx x3 (by simp))
    obtain ⟨f, rfl, wf⟩ := typed_int Tryz.underlying5 (hx x4 (by simp))
    exact ⟨_, rfl, a, b, c, e, f, rfl, wf_u8 wa, wf_u8 wb, wf_u8 wc, wf_u8 we, wf_u8 wf⟩
theorem wf_i8 {z : Int} (hz : (Lit.int .i8 z).wf = true) : -128 ≤ z ∧ z ≤ 127 := by
  simp only [Lit.wf, Bool.and_eq_true, decide_eq_true_eq] at hz
  exact hz
section
variable {d : Nat} {qs : List PD}
theorem ty_rplan (h : Typed Tryz.prog (d + 3) 103 qs) : ∃ x : RPlan, asPD Tryz.prog 103 qs = Em.rplan.emb x ∧ okRp x := by
  obtain ⟨q0, r0, rfl, h0, h⟩ := typedF_cons (typed_struct Tryz.underlying103 h)
  obtain ⟨q1, r1, rfl, h1, h⟩ := typedF_cons h
  obtain ⟨q2, r2, rfl, h2, h⟩ := typedF_cons h
  obtain ⟨q3, r3, rfl, h3, h⟩ := typedF_cons h
  obtain ⟨q4, r4, rfl, h4, h⟩ := typedF_cons h
  obtain rfl := typedF_nil h
  obtain ⟨a, rfl, wa⟩ := typed_int Tryz.underlying5 h0
  obtain ⟨b, rfl, wb⟩ := typed_int Tryz.underlying5 h1
  obtain ⟨c, rfl, wc⟩ := typed_int Tryz.underlying100 h2
  obtain ⟨e, rfl, we⟩ := typed_int Tryz.underlying5 h3
  obtain ⟨ws, rfl, hw⟩ := typed_five h4
  obtain ⟨w0, w1, w2, w3, w4, rfl, k0, k1, k2, k3, k4⟩ := hw
  exact ⟨⟨a, b, c, e, w0, w1, w2, w3, w4⟩, asPD_agg (by kernel_rfl), wf_u8 wa, wf_u8 wb, wf_i8 wc, wf_u8 we, k0, k1, k2, k3, k4⟩
theorem ty_pull (h : Typed Tryz.prog (d + 2) 106 qs) : ∃ x : PullD, asPD Tryz.prog 106 qs = Em.pull.emb x ∧ okPu x := by
  obtain ⟨q0, r0, rfl, h0, h⟩ := typedF_cons (typed_struct Tryz.underlying106 h)
  obtain ⟨q1, r1, rfl, h1, h⟩ := typedF_cons h
  obtain ⟨q2, r2, rfl, h2, h⟩ := typedF_cons h
  obtain ⟨q3, r3, rfl, h3, h⟩ := typedF_cons h
  obtain rfl := typedF_nil h
  obtain ⟨a, rfl, wa⟩ := typed_int Tryz.underlying5 h0
  obtain ⟨b, rfl, wb⟩ := typed_int Tryz.underlying5 h1
  obtain ⟨c, rfl, wc⟩ := typed_int Tryz.underlying5 h2
  obtain ⟨e, rfl, we⟩ := typed_int Tryz.underlying5 h3
  exact ⟨⟨a, b, c, e⟩, asPD_agg (by kernel_rfl), wf_u8 wa, wf_u8 wb, wf_u8 wc, wf_u8 we⟩
theorem ty_board (h : Typed Tryz.prog (d + 4) 95 qs) : ∃ x : BoardD, asPD Tryz.prog 95 qs = Em.board.emb x ∧ okB x := by
  obtain ⟨q0, r0, rfl, h0, h⟩ := typedF_cons (typed_struct Tryz.underlying95 h)
  obtain ⟨q1, r1, rfl, h1, h⟩ := typedF_cons h
  obtain ⟨q2, r2, rfl, h2, h⟩ := typedF_cons h
  obtain ⟨q3, r3, rfl, h3, h⟩ := typedF_cons h
  obtain rfl := typedF_nil h
  obtain ⟨a, rfl, wa⟩ := typed_int Tryz.underlying5 h0
  obtain ⟨b, rfl, wb⟩ := typed_int Tryz.underlying5 h1
  obtain ⟨c, rfl⟩ := typed_bool Tryz.underlying4 h2
  obtain ⟨ys, rfl, _, hy⟩ := typed_list (em := Em.pull) (R := okPu) Tryz.underlying93 (k := 4) (by kernel_rfl) (fun x hx => ty_pull hx) h3
  exact ⟨⟨a, b, c, ys⟩, asPD_agg (by kernel_rfl), wf_u8 wa, wf_u8 wb, hy⟩
theorem ty_link (h : Typed Tryz.prog (d + 2) 108 qs) : ∃ x : LinkD, asPD Tryz.prog 108 qs = Em.link.emb x ∧ okLk x := by
  obtain ⟨q0, r0, rfl, h0, h⟩ := typedF_cons (typed_struct Tryz.underlying108 h)
  obtain ⟨q1, r1, rfl, h1, h⟩ := typedF_cons h
  obtain ⟨q2, r2, rfl, h2, h⟩ := typedF_cons h
  obtain ⟨q3, r3, rfl, h3, h⟩ := typedF_cons h
  obtain rfl := typedF_nil h
  obtain ⟨a, rfl, wa⟩ := typed_int Tryz.underlying5 h0
  obtain ⟨b, rfl, wb⟩ := typed_int Tryz.underlying5 h1
  obtain ⟨c, rfl, wc⟩ := typed_int Tryz.underlying100 h2
  obtain ⟨e, rfl⟩ := typed_bool Tryz.underlying4 h3
  exact ⟨⟨a, b, c, e⟩, asPD_agg (by kernel_rfl), wf_u8 wa, wf_u8 wb, wf_i8 wc⟩
theorem ty_plan (h : Typed Tryz.prog (d + 6) 26 qs) : ∃ x : PlanD, asPD Tryz.prog 26 qs = Em.plan.emb x ∧ okPl x := by
  obtain ⟨q0, r0, rfl, h0, h⟩ := typedF_cons (typed_struct Tryz.underlying26 h)
  obtain ⟨q1, r1, rfl, h1, h⟩ := typedF_cons h
  obtain ⟨q2, r2, rfl, h2, h⟩ := typedF_cons h
  obtain rfl := typedF_nil h
  obtain ⟨xs, rfl, _, hx⟩ := typed_list (em := Em.rplan) (R := okRp) Tryz.underlying22 (k := 9) (by kernel_rfl) (fun x hx => ty_rplan hx) h0
  obtain ⟨ys, rfl, _, hy⟩ := typed_list (em := Em.board) (R := okB) Tryz.underlying23 (k := 4) (by kernel_rfl) (fun x hx => ty_board hx) h1
  obtain ⟨zs, rfl, _, hz⟩ := typed_list (em := Em.link) (R := okLk) Tryz.underlying24 (k := 4) (by kernel_rfl) (fun x hx => ty_link hx) h2
  exact ⟨⟨xs, ys, zs⟩, asPD_agg (by kernel_rfl), hx, hy, hz⟩
end
end Go.Proofs.YteegpeenjdgodaaGreatDoor

/-
  Chapter 51: planned organs are right (plain), begun: ranks.
-/
namespace Go.Kz
open Go Go.Proofs
theorem pitch_all : ∀ x ∈ feetAll, pitchE x.1 x.2 = 0 := by decide +kernel
theorem pitch_six : ∀ x ∈ feetSix, pitchE x.1 x.2 = 0 := by decide +kernel
theorem name_digit : ∀ i : Nat, i < 10 → ∀ c ∈ ([82, 83, 67, 68] : List UInt8), nameB [c, UInt8.ofNat (48 + i)] = true := by decide +kernel
theorem tone_name : ∀ n : Int, nameB (toneAt n) = true := by
  intro n
  have h : ∀ t ∈ tones, nameB t = true := by decide +kernel
  have h0 : nameB [79, 112, 101, 110] = true := by decide +kernel
  unfold toneAt
  rw [List.getD_eq_getElem?_getD]
  cases e : tones[(n % 3).toNat]? with
  | none =>
    have := (List.getElem?_eq_none_iff.1 e)
    have h3 : tones.length = 3 := rfl
    omega
  | some t => exact h t (List.mem_of_getElem? e)
theorem all_mem' (n : Int) : allAt n ∈ feetAll := by
  have hlt : (n % 16).toNat < feetAll.length := by
    have h : feetAll.length = 16 := rfl
    omega
  unfold allAt
  rw [List.getD_eq_getElem?_getD, List.getElem?_eq_getElem hlt]
  exact List.getElem_mem hlt
theorem rank_right (x : RPlan) (hx : okRp x) (i : Nat) : rankE (rankS x i) = 0 := by
  have h1 : nameB [82, digit (i % 10)] = true := name_digit (i % 10) (Nat.mod_lt _ (by decide)) 82 (by simp)
  have h2 := tone_name x.tone
  have h3 := pitch_all _ (all_mem' x.feet)
  have h4 := hx.2.2.1
  have hwl : (windS x (1 + (x.pipes % 25).toNat)).length = 1 + (x.pipes % 25).toNat := by simp [windS]
  have hb : (windS x (1 + (x.pipes % 25).toNat)).any badW = false := by
    rw [List.any_eq_false]
    intro w hw
    obtain ⟨k, _, rfl⟩ := List.mem_map.1 hw
    have hlt : k % 5 < 5 := Nat.mod_lt _ (by decide)
    have hr : 0 ≤ windAt x k ∧ windAt x k ≤ 255 := by
      unfold windAt
      generalize k % 5 = j at hlt
      match j, hlt with
      | 0, _ => exact hx.2.2.2.2.1
      | 1, _ => exact hx.2.2.2.2.2.1
      | 2, _ => exact hx.2.2.2.2.2.2.1
      | 3, _ => exact hx.2.2.2.2.2.2.2.1
      | 4, _ => exact hx.2.2.2.2.2.2.2.2
    unfold badW
    simp
    omega
  unfold rankE rankS
  simp only [h1, h2, h3, hwl, hb]
  have h5 : -256 ≤ x.first ∧ x.first ≤ 256 := ⟨by have := h4.1; omega, by have := h4.2; omega⟩
  simp [h5]
  omega
theorem seenB_not {ns : List (List UInt8)} {nm : List UInt8} (h : nm ∉ ns) : seenB ns nm = false := by
  unfold seenB
  rw [List.any_eq_false]
  intro n hn e
  exact h (by rw [show nm = n by simpa using e]; exact hn)
theorem rnGo_right : ∀ (l : List RankD) (ns : List (List UInt8)), (∀ r ∈ l, rankE r = 0) → (ns ++ l.map RankD.name).Nodup → rnGo ns l = 0
  | [], _, _, _ => rfl
  | r :: t, ns, h, hn => by
    have h0 := h r (List.mem_cons_self ..)
    rw [List.map_cons] at hn
    have hnn : r.name ∉ ns := fun hm => (List.nodup_append.1 hn).2.2 _ hm _ (List.mem_cons_self ..) rfl
    unfold rnGo
    rw [h0, seenB_not hnn]
    simp only [ne_eq, not_true_eq_false, if_false, Bool.false_eq_true]
    exact rnGo_right t (ns ++ [r.name]) (fun q hq => h q (List.mem_cons_of_mem _ hq)) (by rw [List.append_assoc]; exact hn)
theorem names_new : ∀ c ∈ ([82, 83, 67, 68] : List UInt8), ∀ n : Nat, n < 11 → ((List.range n).map fun i => [c, digit (i % 10)]).Nodup := by decide +kernel
theorem ranks_right (l : List RPlan) (hl : ∀ x ∈ l, okRp x) (n : Nat) (hn : n ≤ l.length) (hn10 : n ≤ 10) : rnGo [] (ranksS l n) = 0 := by
  refine rnGo_right _ [] (fun r hr => ?_) ?_
  · obtain ⟨i, hi, rfl⟩ := List.mem_map.1 hr
    have hi' : i < l.length := by have := List.mem_range.1 hi; omega
    refine rank_right _ ?_ i
    rw [List.getD_eq_getElem?_getD, List.getElem?_eq_getElem hi']
    exact hl _ (List.getElem_mem hi')
  · rw [List.nil_append]
    have h : (ranksS l n).map RankD.name = (List.range n).map fun i => [82, digit (i % 10)] := by
      unfold ranksS
      rw [List.map_map]
      rfl
    rw [h]
    exact names_new 82 (by simp) n (by omega)
def okLink (k : Nat) (c : CoupD) : Prop := nameB c.name = true ∧ 0 ≤ c.org ∧ c.org < k ∧ 0 ≤ c.dst ∧ c.dst < k ∧ -127 ≤ c.shift ∧ c.shift ≤ 127 ∧ ¬ (c.org = c.dst ∧ c.shift = 0)
theorem coupsGo_right (k : Nat) : ∀ (l pre : List CoupD), (∀ c ∈ l, okLink k c) → (pre.map CoupD.name ++ l.map CoupD.name).Nodup → coupsGo k pre l = 0
  | [], _, _, _ => rfl
  | c :: t, pre, h, hn => by
    obtain ⟨h1, h2, h3, h4, h5, h6, h7, h8⟩ := h c (List.mem_cons_self ..)
    rw [List.map_cons] at hn
    have hnn : pre.any (nmC c.name) = false := by
      rw [List.any_eq_false]
      intro x hx e
      have e2 : x.name = c.name := by simpa [nmC] using e
      exact (List.nodup_append.1 hn).2.2 _ (List.mem_map.2 ⟨x, hx, rfl⟩) _ (List.mem_cons_self ..) e2
    unfold coupsGo
    rw [h1, hnn, if_neg (by simp), if_neg (by simp), if_neg (by omega), if_neg (by omega), if_neg h8]
    exact coupsGo_right k t (pre ++ [c]) (fun q hq => h q (List.mem_cons_of_mem _ hq)) (by rw [List.map_append, List.append_assoc]; exact hn)
theorem links_right (l : List LinkD) (n k : Nat) (hn : 1 ≤ n) (hk : k ≤ 10) : coupsGo n [] (linksS n l k) = 0 := by
  refine coupsGo_right n _ [] (fun c hc => ?_) ?_
  · obtain ⟨i, hi, rfl⟩ := List.mem_map.1 hc
    have hi' := List.mem_range.1 hi
    obtain ⟨x, hx⟩ : ∃ x, l.getD i default = x := ⟨_, rfl⟩
    simp only [hx]
    have hnm : nameB [67, digit i] = true := name_digit i (by omega) 67 (by simp)
    have e1 := Int.emod_nonneg x.org (show (n : Int) ≠ 0 by omega)
    have e2 := Int.emod_lt_of_pos x.org (show (0 : Int) < n by omega)
    have e3 := Int.emod_nonneg x.dst (show (n : Int) ≠ 0 by omega)
    have e4 := Int.emod_lt_of_pos x.dst (show (0 : Int) < n by omega)
    unfold okLink linkS
    simp only
    obtain ⟨s, hs⟩ : ∃ s, x.shift.tmod 25 = s := ⟨_, rfl⟩
    have e5 : -25 < s ∧ s < 25 := by
      rw [← hs]
      rcases Int.lt_or_le x.shift 0 with h | h
      · have := Int.neg_tmod (-x.shift) 25
        rw [Int.neg_neg] at this
        rw [this, Int.tmod_eq_emod_of_nonneg (by omega)]
        omega
      · rw [Int.tmod_eq_emod_of_nonneg h]
        omega
    rw [hs]
    refine ⟨hnm, e1, e2, e3, e4, ?_, ?_, ?_⟩
    · split <;> omega
    · split <;> omega
    · split
      · omega
      · assumption
  · have h : (linksS n l k).map CoupD.name = (List.range k).map fun i => [67, digit i] := by
      unfold linksS
      rw [List.map_map]
      rfl
    rw [List.map_nil, List.nil_append, h]
    have h2 := names_new 67 (by simp) k (by omega)
    rw [show (List.range k).map (fun i => [(67 : UInt8), digit i]) = (List.range k).map fun i => [67, digit (i % 10)] from List.map_congr_left fun i hi => by rw [Nat.mod_eq_of_lt (by have := List.mem_range.1 hi; omega)]]
    exact h2
end Go.Kz

/-
  Chapter 51: planned organs are right (plain).
-/
namespace Go.Kz
open Go Go.Proofs
theorem draws_one {k : Nat} {n s : Int} (h0 : 0 ≤ n) (h1 : n < k) (h2 : -127 ≤ s) (h3 : s ≤ 127) : drawsErr k [⟨n, s⟩] = 0 := by
  unfold drawsErr
  rw [if_neg (by simp)]
  unfold drawsGo
  rw [if_neg (by simp only; omega), if_neg (by simp only; omega), if_neg (by simp)]
  rfl
theorem draws_two {k : Nat} {n s : Int} (h0 : 0 ≤ n) (h1 : n < k) (h2 : -127 ≤ s) (h3 : s + 7 ≤ 127) : drawsErr k [⟨n, s⟩, ⟨n, s + 7⟩] = 0 := by
  unfold drawsErr
  rw [if_neg (by simp)]
  unfold drawsGo
  rw [if_neg (by simp only; omega), if_neg (by simp only; omega), if_neg (by simp)]
  unfold drawsGo
  rw [if_neg (by simp only; omega), if_neg (by simp only; omega), if_neg (by simp; omega)]
  rfl
theorem segs_one {k : Nat} {lo hg : Int} {g : SegD} (h1 : lo ≤ g.lo) (h2 : g.hi ≤ hg) (h3 : g.lo ≤ g.hi) (hd : drawsErr k g.draws = 0) : segsErr k lo hg [g] = 0 := by
  unfold segsErr
  rw [if_neg (by simp), if_neg (by simp)]
  unfold segsGo
  rw [if_neg (by omega), if_neg (by simp [pvB]; omega), if_neg (by simp [hd])]
  rfl
theorem segs_two {k : Nat} {lo hg : Int} {g q : SegD} (h1 : lo ≤ g.lo) (h2 : q.hi ≤ hg) (h3 : g.lo ≤ g.hi) (h4 : g.hi < q.lo) (h5 : q.lo ≤ q.hi) (hd : drawsErr k g.draws = 0) (hq : drawsErr k q.draws = 0) : segsErr k lo hg [g, q] = 0 := by
  unfold segsErr
  rw [if_neg (by simp), if_neg (by simp)]
  unfold segsGo
  rw [if_neg (by omega), if_neg (by simp [pvB]; omega), if_neg (by simp [hd])]
  unfold segsGo
  rw [if_neg (by omega), if_neg (by simp [pvB]; omega), if_neg (by simp [hq])]
  rfl
theorem segs_right (k : Nat) (kd n sh lo hg at_ m other : Int) (hn0 : 0 ≤ n) (hn : n < k) (hm0 : 0 ≤ m) (hm : m < k) (hs : -60 ≤ sh ∧ sh ≤ 64) (ho : -60 ≤ other ∧ other ≤ 64) (ha : lo ≤ at_) (hb : at_ ≤ hg) :
    segsErr k lo hg (segsS kd n sh lo hg at_ m other) = 0 := by
  have d1 : drawsErr k [⟨n, sh⟩] = 0 := draws_one hn0 hn (by omega) (by omega)
  have d2 : drawsErr k [⟨n, sh - 12⟩] = 0 := draws_one hn0 hn (by omega) (by omega)
  have d3 : drawsErr k [⟨m, other⟩] = 0 := draws_one hm0 hm (by omega) (by omega)
  unfold segsS
  split
  · exact segs_one (by simp) (by simp) (by simp only; omega) (draws_two hn0 hn (by omega) (by omega))
  split
  · have d4 : drawsErr k (if kd = 3 then [⟨m, other⟩] else [⟨n, sh - 12⟩]) = 0 := by
      split
      · exact d3
      · exact d2
    split
    · exact segs_two (by simp) (by simp) (by simp only; omega) (by simp only; omega) (by simpa using hb) d1 d4
    · exact segs_one (by simpa using ha) (by simp) (by simpa using hb) d4
  split
  · exact segs_one (by simpa using ha) (by simp) (by simpa using hb) d1
  · exact segs_one (by simp) (by simp) (by simp only; omega) d1
theorem ranksGo_right : ∀ l : List RankD, (∀ r ∈ l, rankE r = 0) → ranksGo l = 0
  | [], _ => rfl
  | r :: t, h => by
    unfold ranksGo
    rw [h r (List.mem_cons_self ..), if_neg (by simp)]
    exact ranksGo_right t fun q hq => h q (List.mem_cons_of_mem _ hq)
theorem comp_right {lo hg : Int} (h3 : 0 ≤ lo) (h4 : lo ≤ hg) (h5 : hg ≤ 127) : compE lo hg = 0 := by
  unfold compE
  rw [if_neg (by omega), if_neg (by omega)]
theorem pull_right (rs : List RankD) (hr : ∀ r ∈ rs, rankE r = 0) (h1 : 1 ≤ rs.length) (h2 : rs.length ≤ 60) (lo hg : Int) (h3 : 0 ≤ lo) (h4 : lo ≤ hg) (h5 : hg ≤ 127) (x : PullD) (hx : okPu x) (i : Nat) (hi : i < 10) :
    stopE rs lo hg (pullS rs lo hg x i) = 0 := by
  have hp : placeE rs lo hg = 0 := by
    unfold placeE
    rw [if_neg (by omega), ranksGo_right rs hr, if_neg (by simp)]
    exact comp_right h3 h4 h5
  have hn : nameB [83, digit i] = true := name_digit i hi 83 (by simp)
  have hf := pitch_six _ (six_mem x.feet hx.2.1)
  have hk : (rs.length : Int) ≠ 0 := by omega
  have e1 := Int.emod_nonneg x.rank hk
  have e2 := Int.emod_lt_of_pos x.rank (show (0 : Int) < rs.length by omega)
  have e3 := Int.emod_nonneg (x.rank % rs.length + 1) hk
  have e4 := Int.emod_lt_of_pos (x.rank % rs.length + 1) (show (0 : Int) < rs.length by omega)
  have e5 := Int.emod_nonneg x.at_ (show hg - lo + 1 ≠ 0 by omega)
  have e6 := Int.emod_lt_of_pos x.at_ (show (0 : Int) < hg - lo + 1 by omega)
  unfold stopE pullS
  simp only
  rw [if_neg (by simp [hp]), if_neg (by simp [hn]), if_neg (by simp [hf])]
  exact segs_right _ _ _ _ _ _ _ _ _ e1 e2 e3 e4 (shift_bound _ _) (shift_bound _ _) (by omega) (by omega)
theorem stopsGo_right (rs : List RankD) (lo hg : Int) : ∀ (l : List StopD) (ns : List (List UInt8)), (∀ s ∈ l, stopE rs lo hg s = 0) → (ns ++ l.map StopD.name).Nodup → stopsGo rs lo hg ns l = 0
  | [], _, _, _ => rfl
  | r :: t, ns, h, hn => by
    have h0 := h r (List.mem_cons_self ..)
    rw [List.map_cons] at hn
    have hnn : r.name ∉ ns := fun hm => (List.nodup_append.1 hn).2.2 _ hm _ (List.mem_cons_self ..) rfl
    unfold stopsGo
    rw [h0, seenB_not hnn]
    simp only [ne_eq, not_true_eq_false, if_false, Bool.false_eq_true]
    exact stopsGo_right rs lo hg t (ns ++ [r.name]) (fun q hq => h q (List.mem_cons_of_mem _ hq)) (by rw [List.append_assoc]; exact hn)
theorem names_new' (c : UInt8) (hc : c ∈ ([82, 83, 67, 68] : List UInt8)) (n : Nat) (hn : n ≤ 10) : ((List.range n).map fun i => [c, digit i]).Nodup := by
  have h2 := names_new c hc n (by omega)
  rw [show (List.range n).map (fun i => [c, digit i]) = (List.range n).map fun i => [c, digit (i % 10)] from List.map_congr_left fun i hi => by rw [Nat.mod_eq_of_lt (by have := List.mem_range.1 hi; omega)]]
  exact h2
theorem getD_mem {α : Type} {l : List α} {i : Nat} (h : i < l.length) (d : α) : l.getD i d ∈ l := by
  rw [List.getD_eq_getElem?_getD, List.getElem?_eq_getElem h]
  exact List.getElem_mem h
theorem board_right (rs : List RankD) (hr : ∀ r ∈ rs, rankE r = 0) (h1 : 1 ≤ rs.length) (h2 : rs.length ≤ 60) (b : BoardD) (hb : okB b) (hl : b.stops.length ≤ 10) (i : Nat) : divE rs (boardS rs b i) = 0 := by
  obtain ⟨⟨a1, a2⟩, ⟨a3, a4⟩, a5⟩ := hb
  unfold divE boardS
  simp only
  have hc : compE (36 + b.low % 12) (36 + b.low % 12 + b.keys % 9) = 0 := comp_right (by omega) (by omega) (by omega)
  have hll : (pullsS rs (36 + b.low % 12) (36 + b.low % 12 + b.keys % 9) b.stops b.stops.length).length = b.stops.length := by simp [pullsS]
  rw [if_neg (by simp [hc]), if_neg (by rw [hll]; omega)]
  refine stopsGo_right _ _ _ _ [] (fun s hs => ?_) ?_
  · obtain ⟨j, hj, rfl⟩ := List.mem_map.1 hs
    have hj' := List.mem_range.1 hj
    exact pull_right rs hr h1 h2 _ _ (by omega) (by omega) (by omega) _ (a5 _ (getD_mem hj' _)) j (by omega)
  · rw [List.nil_append, show (pullsS rs (36 + b.low % 12) (36 + b.low % 12 + b.keys % 9) b.stops b.stops.length).map StopD.name = (List.range b.stops.length).map fun i => [83, digit i] by
      unfold pullsS
      rw [List.map_map]
      rfl]
    exact names_new' 83 (by simp) _ hl
theorem divsGo_right (rs : List RankD) : ∀ (l : List DivD) (ns : List (List UInt8)), (∀ d ∈ l, nameB d.name = true ∧ divE rs d = 0) → (ns ++ l.map DivD.name).Nodup → divsGo rs ns l = 0
  | [], _, _, _ => rfl
  | r :: t, ns, h, hn => by
    obtain ⟨h0, h1⟩ := h r (List.mem_cons_self ..)
    rw [List.map_cons] at hn
    have hnn : r.name ∉ ns := fun hm => (List.nodup_append.1 hn).2.2 _ hm _ (List.mem_cons_self ..) rfl
    unfold divsGo
    rw [h0, h1, seenB_not hnn]
    simp only [ne_eq, not_true_eq_false, if_false, Bool.false_eq_true, Bool.true_eq_false]
    exact divsGo_right rs t (ns ++ [r.name]) (fun q hq => h q (List.mem_cons_of_mem _ hq)) (by rw [List.append_assoc]; exact hn)
structure FitsP (p : PlanD) : Prop where
  r1 : 1 ≤ p.ranks.length
  r3 : p.ranks.length ≤ 3
  d1 : 1 ≤ p.divs.length
  d3 : p.divs.length ≤ 3
  c3 : p.coups.length ≤ 3
  s3 : ∀ b ∈ p.divs, b.stops.length ≤ 3
theorem fitsP {p : PlanD} (h : fitsB p = true) : FitsP p := by
  simp only [fitsB, Bool.and_eq_true, decide_eq_true_eq] at h
  obtain ⟨⟨⟨⟨⟨hR1, hR3⟩, hD1⟩, hD3⟩, hC3⟩, hS3⟩ := h
  exact ⟨hR1, hR3, hD1, hD3, hC3, fun b hb => by simpa using List.all_eq_true.1 hS3 b hb⟩
theorem mem_ranksS {l : List RPlan} {n : Nat} (hn : n ≤ l.length) {r : RankD} (h : r ∈ ranksS l n) : ∃ x ∈ l, ∃ i, i < n ∧ r = rankS x i := by
  obtain ⟨j, hj, rfl⟩ := List.mem_map.1 h
  have hj' := List.mem_range.1 hj
  exact ⟨_, getD_mem (by omega) _, j, hj', rfl⟩
theorem mem_boardsS {rs : List RankD} {l : List BoardD} {n : Nat} (hn : n ≤ l.length) {r : DivD} (h : r ∈ boardsS rs l n) : ∃ x ∈ l, ∃ i, i < n ∧ r = boardS rs x i := by
  obtain ⟨j, hj, rfl⟩ := List.mem_map.1 h
  have hj' := List.mem_range.1 hj
  exact ⟨_, getD_mem (by omega) _, j, hj', rfl⟩
theorem mem_pullsS {rs : List RankD} {lo hg : Int} {l : List PullD} {n : Nat} (hn : n ≤ l.length) {r : StopD} (h : r ∈ pullsS rs lo hg l n) : ∃ x ∈ l, ∃ i, i < n ∧ r = pullS rs lo hg x i := by
  obtain ⟨j, hj, rfl⟩ := List.mem_map.1 h
  have hj' := List.mem_range.1 hj
  exact ⟨_, getD_mem (by omega) _, j, hj', rfl⟩
theorem boardsS_length (rs : List RankD) (l : List BoardD) (n : Nat) : (boardsS rs l n).length = n := by simp [boardsS]
theorem ranksS_length (l : List RPlan) (n : Nat) : (ranksS l n).length = n := by simp [ranksS]
theorem linksS_length (k : Nat) (l : List LinkD) (n : Nat) : (linksS k l n).length = n := by simp [linksS]
theorem organ_right (p : PlanD) (hp : okPl p) (hf : fitsB p = true) : organE (organS p) = 0 := by
  obtain ⟨r1, r3, d1, d3, c3, s3⟩ := fitsP hf
  obtain ⟨hpR, hpD, hpC⟩ := hp
  have hrl := ranksS_length p.ranks p.ranks.length
  have hra : ∀ r ∈ ranksS p.ranks p.ranks.length, rankE r = 0 := fun r hr => by
    obtain ⟨x, hx, i, _, rfl⟩ := mem_ranksS (Nat.le_refl _) hr
    exact rank_right x (hpR x hx) i
  have hrn := ranks_right p.ranks hpR p.ranks.length (Nat.le_refl _) (by omega)
  obtain ⟨rs, hrs⟩ : ∃ r, ranksS p.ranks p.ranks.length = r := ⟨_, rfl⟩
  have hdl := boardsS_length rs p.divs p.divs.length
  have hcl := linksS_length p.divs.length p.coups p.coups.length
  have hnm : nameB [79, 114, 103, 97, 110] = true := by decide +kernel
  have hco := links_right p.coups p.divs.length p.coups.length d1 (by omega)
  unfold organE partE organS
  simp only
  rw [hrs] at hrl hra hrn ⊢
  have hdi : divsGo rs [] (boardsS rs p.divs p.divs.length) = 0 := by
    refine divsGo_right rs _ [] (fun d hd => ?_) ?_
    · obtain ⟨x, hx, i, hi, rfl⟩ := mem_boardsS (Nat.le_refl _) hd
      exact ⟨name_digit i (by omega) 68 (by simp), board_right rs hra (by omega) (by omega) x (hpD x hx) (by have := s3 x hx; omega) i⟩
    · rw [List.nil_append, show (boardsS rs p.divs p.divs.length).map DivD.name = (List.range p.divs.length).map fun i => [68, digit i] by
        unfold boardsS
        rw [List.map_map]
        rfl]
      exact names_new' 68 (by simp) _ (by omega)
  have hkl : (keysOf (boardsS rs p.divs p.divs.length)).length = p.divs.length := by
    unfold keysOf
    rw [List.length_map, hdl]
  have hcb : compsB (keysOf (boardsS rs p.divs p.divs.length)) = false := by
    unfold compsB
    rw [List.any_eq_false]
    intro x hx
    obtain ⟨d, hd, rfl⟩ := List.mem_map.1 hx
    obtain ⟨b, hb, i, hi, rfl⟩ := mem_boardsS (Nat.le_refl _) hd
    obtain ⟨⟨a1, a2⟩, ⟨a3, a4⟩, a5⟩ := hpD b hb
    have hc : compE (36 + b.low % 12) (36 + b.low % 12 + b.keys % 9) = 0 := comp_right (by omega) (by omega) (by omega)
    simp [boardS, hc]
  rw [if_neg (by simp [hnm]), if_neg (by omega), if_neg (by simp [hrn]), if_neg (by omega), if_neg (by omega), if_neg (by simp [hdi])]
  unfold couplerE
  rw [if_neg (by omega), if_neg (by simp [hcb]), hkl]
  exact hco
theorem segsS_len (k n sh lo hi at_ m other : Int) : (segsS k n sh lo hi at_ m other).length ≤ 2 ∧ ∀ g ∈ segsS k n sh lo hi at_ m other, g.draws.length ≤ 2 := by
  unfold segsS
  split
  · simp
  split
  · split
    · constructor
      · simp
      · intro g hg
        simp only [List.cons_append, List.nil_append, List.mem_cons, List.not_mem_nil, or_false] at hg
        rcases hg with rfl | rfl
        · simp
        · simp only; split <;> simp
    · constructor
      · simp
      · intro g hg
        simp only [List.nil_append, List.mem_cons, List.not_mem_nil, or_false] at hg
        subst hg
        simp only; split <;> simp
  split
  · simp
  · simp
structure Small (o : OrganD) : Prop where
  nm : o.name.length ≤ 100
  rl : o.ranks.length ≤ 60
  rk : ∀ r ∈ o.ranks, r.name.length ≤ 100 ∧ r.tone.length ≤ 100 ∧ r.wind.length ≤ 100
  dl : o.divs.length ≤ 60
  dv : ∀ d ∈ o.divs, d.name.length ≤ 100 ∧ d.stops.length ≤ 100 ∧ ∀ s ∈ d.stops, s.name.length ≤ 100 ∧ s.segs.length ≤ 100 ∧ ∀ g ∈ s.segs, g.draws.length ≤ 100
  cl : o.coups.length ≤ 60
  cp : ∀ c ∈ o.coups, c.name.length ≤ 100
theorem organ_small (p : PlanD) (hf : fitsB p = true) : Small (organS p) := by
  obtain ⟨r1, r3, d1, d3, c3, s3⟩ := fitsP hf
  unfold organS
  refine ⟨by simp, by simp only [ranksS_length]; omega, fun r hr => ?_, by simp only [boardsS_length]; omega, fun d hd => ?_, by simp only [linksS_length]; omega, fun c hc => ?_⟩
  · obtain ⟨x, hx, i, _, rfl⟩ := mem_ranksS (Nat.le_refl _) hr
    refine ⟨by simp [rankS], ?_, by simp [rankS, windS]; omega⟩
    unfold rankS toneAt
    simp only
    rw [List.getD_eq_getElem?_getD]
    have h : ∀ t ∈ tones, t.length ≤ 100 := by decide
    cases e : tones[(x.tone % 3).toNat]? with
    | none => simp
    | some t => exact h t (List.mem_of_getElem? e)
  · obtain ⟨b, hb, i, _, rfl⟩ := mem_boardsS (Nat.le_refl _) hd
    refine ⟨by simp [boardS], ?_, fun s hs => ?_⟩
    · simp only [boardS, pullsS, List.length_map, List.length_range]
      have := s3 b hb
      omega
    · obtain ⟨x, hx, j, _, rfl⟩ := mem_pullsS (Nat.le_refl _) hs
      obtain ⟨k1, k2⟩ := segsS_len (x.kind % 6) (x.rank % (ranksS p.ranks p.ranks.length).length) (shiftOf (sixAt x.feet) (feetOf (ranksS p.ranks p.ranks.length) (x.rank % (ranksS p.ranks p.ranks.length).length).toNat)) (36 + b.low % 12) (36 + b.low % 12 + b.keys % 9) (36 + b.low % 12 + x.at_ % (36 + b.low % 12 + b.keys % 9 - (36 + b.low % 12) + 1))
        ((x.rank % (ranksS p.ranks p.ranks.length).length + 1) % (ranksS p.ranks p.ranks.length).length) (shiftOf (sixAt x.feet) (feetOf (ranksS p.ranks p.ranks.length) ((x.rank % (ranksS p.ranks p.ranks.length).length + 1) % (ranksS p.ranks p.ranks.length).length).toNat))
      unfold pullS
      exact ⟨by simp, by simp only; omega, fun g hg => by have := k2 g hg; omega⟩
  · obtain ⟨j, hj, rfl⟩ := List.mem_map.1 hc
    simp [linkS]
theorem Small.okOr {o : OrganD} (h : Small o) : okOr o := by
  obtain ⟨h1, h2, h3, h4, h5, h6, h7⟩ := h
  refine ⟨by unfold okN; omega, ⟨fun r hr => ?_, by omega⟩, ⟨by omega, fun d hd => ?_⟩, by omega, fun c hc => ?_⟩
  · obtain ⟨a, b, c⟩ := h3 r hr
    exact ⟨by unfold okR okI; omega, by unfold okN; omega, by unfold okN; omega⟩
  · obtain ⟨a, b, c⟩ := h5 d hd
    refine ⟨by unfold okN; omega, by omega, fun s hs => ?_⟩
    obtain ⟨e, f, g⟩ := c s hs
    exact ⟨⟨by omega, fun q hq => by have := g q hq; unfold okG okDs; omega⟩, by unfold okN; omega⟩
  · have := h7 c hc
    unfold okN
    omega
end Go.Kz

/-
  Chapter 51: the common stops of two organs, in plain words: as compare.Common finds them and as the law counts them.
-/
namespace Go.Kz
open Go Go.Proofs
abbrev M4 : Type := Int × Int × Int × Int
def comS (i : Nat) (k : Int) (tl : List StopD) : List StopD → Nat → List M4
  | [], _ => []
  | s :: r, j => (if 0 ≤ ixF (nmS s.name) tl 0 then [((i : Int), (j : Int), k, ixF (nmS s.name) tl 0)] else []) ++ comS i k tl r (j + 1)
def comD (bd : List DivD) : List DivD → Nat → List M4
  | [], _ => []
  | d :: r, i => (if ixF (nmD d.name) bd 0 < 0 then [] else comS i (ixF (nmD d.name) bd 0) (bd.getD (ixF (nmD d.name) bd 0).toNat ⟨[], false, 0, 0, []⟩).stops d.stops 0) ++ comD bd r (i + 1)
def enumF {α : Type} (f : α → Nat → List M4) : List α → Nat → List M4
  | [], _ => []
  | x :: r, i => f x i ++ enumF f r (i + 1)
theorem enumF_nil {α : Type} {f : α → Nat → List M4} : ∀ (l : List α) (i : Nat), (∀ x ∈ l, ∀ j, f x j = []) → enumF f l i = []
  | [], _, _ => rfl
  | x :: r, i, h => by
    unfold enumF
    rw [h x (List.mem_cons_self ..) i, enumF_nil r (i + 1) fun y hy => h y (List.mem_cons_of_mem _ hy)]
    rfl
theorem ixF_lo {α : Type} (p : α → Bool) : ∀ (l : List α) (i : Nat), 0 ≤ ixF p l i → (i : Int) ≤ ixF p l i
  | [], _, h => by unfold ixF at h; omega
  | x :: r, i, h => by
    unfold ixF at h ⊢
    split
    · omega
    · rename_i hp
      rw [if_neg hp] at h
      have := ixF_lo p r (i + 1) h
      omega
theorem ixF_get {α : Type} (p : α → Bool) : ∀ (l : List α) (i : Nat), 0 ≤ ixF p l i → ∀ d, p (l.getD ((ixF p l i).toNat - i) d) = true
  | [], _, h, _ => by unfold ixF at h; omega
  | x :: r, i, h, d => by
    by_cases hp : p x = true
    · have e : ixF p (x :: r) i = (i : Int) := by unfold ixF; rw [if_pos hp]
      rw [e]
      simpa using hp
    · have e : ixF p (x :: r) i = ixF p r (i + 1) := by
        conv => lhs; unfold ixF
        rw [if_neg hp]
      rw [e] at h ⊢
      have hlo := ixF_lo p r (i + 1) h
      have e2 : (ixF p r (i + 1)).toNat - i = ((ixF p r (i + 1)).toNat - (i + 1)) + 1 := by omega
      rw [e2, List.getD_cons_succ]
      exact ixF_get p r (i + 1) h d
theorem ixF_mem {α : Type} (p : α → Bool) : ∀ (l : List α) (i : Nat), 0 ≤ ixF p l i → ∀ d, l.getD ((ixF p l i).toNat - i) d ∈ l
  | [], _, h, _ => by unfold ixF at h; omega
  | x :: r, i, h, d => by
    by_cases hp : p x = true
    · have e : ixF p (x :: r) i = (i : Int) := by unfold ixF; rw [if_pos hp]
      rw [e]
      simp
    · have e : ixF p (x :: r) i = ixF p r (i + 1) := by
        conv => lhs; unfold ixF
        rw [if_neg hp]
      rw [e] at h ⊢
      have hlo := ixF_lo p r (i + 1) h
      have e2 : (ixF p r (i + 1)).toNat - i = ((ixF p r (i + 1)).toNat - (i + 1)) + 1 := by omega
      rw [e2, List.getD_cons_succ]
      exact List.mem_cons_of_mem _ (ixF_mem p r (i + 1) h d)
theorem enumF_one {α : Type} {f : α → Nat → List M4} {p : α → Bool} (d : α) : ∀ (l : List α) (i : Nat), l.Pairwise (fun x y => ¬ (p x = true ∧ p y = true)) → (∀ x ∈ l, p x = false → ∀ j, f x j = []) →
    enumF f l i = if ixF p l i < 0 then [] else f (l.getD ((ixF p l i).toNat - i) d) (ixF p l i).toNat
  | [], i, _, _ => by simp [enumF, ixF]
  | x :: r, i, hp, hf => by
    obtain ⟨h1, h2⟩ := List.pairwise_cons.1 hp
    unfold enumF
    cases hx : p x with
    | true =>
      have hr : enumF f r (i + 1) = [] := enumF_nil r (i + 1) fun y hy => hf y (List.mem_cons_of_mem _ hy) (by
        cases hy2 : p y with
        | false => rfl
        | true => exact absurd ⟨hx, hy2⟩ (h1 y hy))
      have e : ixF p (x :: r) i = (i : Int) := by unfold ixF; rw [if_pos hx]
      rw [e, hr, if_neg (by omega), List.append_nil]
      simp
    | false =>
      have e : ixF p (x :: r) i = ixF p r (i + 1) := by
        conv => lhs; unfold ixF
        rw [if_neg (by simp [hx])]
      rw [e, hf x (List.mem_cons_self ..) hx i, List.nil_append, enumF_one d r (i + 1) h2 fun y hy => hf y (List.mem_cons_of_mem _ hy)]
      split
      · rfl
      · rename_i hn
        have hlo := ixF_lo p r (i + 1) (by omega)
        have e2 : (ixF p r (i + 1)).toNat - i = ((ixF p r (i + 1)).toNat - (i + 1)) + 1 := by omega
        rw [e2, List.getD_cons_succ]
def enM (i k j : Nat) (dn en sn : List UInt8) (t : StopD) (m : Nat) : List M4 := if dn = en ∧ sn = t.name then [((i : Int), (k : Int), (j : Int), (m : Int))] else []
def enJ (i k : Nat) (dn sn : List UInt8) (e : DivD) (j : Nat) : List M4 := enumF (enM i k j dn e.name sn) e.stops 0
def enK (bd : List DivD) (i : Nat) (dn : List UInt8) (s : StopD) (k : Nat) : List M4 := enumF (enJ i k dn s.name) bd 0
def enI (bd : List DivD) (d : DivD) (i : Nat) : List M4 := enumF (enK bd i d.name) d.stops 0
theorem pair_name {α : Type} {nm : α → List UInt8} {q : List UInt8} {l : List α} (h : (l.map nm).Nodup) : l.Pairwise (fun x y => ¬ (decide (nm x = q) = true ∧ decide (nm y = q) = true)) := by
  rw [List.Nodup, List.pairwise_map] at h
  refine h.imp fun hxy hh => hxy ?_
  rw [of_decide_eq_true hh.1, of_decide_eq_true hh.2]
theorem enJ_same (i k : Nat) (sn : List UInt8) (e : DivD) (j : Nat) (hn : (e.stops.map StopD.name).Nodup) :
    enJ i k e.name sn e j = if 0 ≤ ixF (nmS sn) e.stops 0 then [((i : Int), (k : Int), (j : Int), ixF (nmS sn) e.stops 0)] else [] := by
  unfold enJ
  have h := enumF_one (f := enM i k j e.name e.name sn) (p := nmS sn) ⟨[], 0, 0, []⟩ e.stops 0 (pair_name hn) (fun x _ hx j => by
    unfold enM
    have : ¬ x.name = sn := by simpa [nmS] using hx
    rw [if_neg (fun hh => this hh.2.symm)])
  rw [h]
  by_cases hc : ixF (nmS sn) e.stops 0 < 0
  · rw [if_pos hc, if_neg (by omega)]
  · rw [if_neg hc, if_pos (by omega)]
    have hs := ixF_get (nmS sn) e.stops 0 (by omega) ⟨[], 0, 0, []⟩
    unfold enM
    have : sn = (e.stops.getD ((ixF (nmS sn) e.stops 0).toNat - 0) ⟨[], 0, 0, []⟩).name := by
      have := of_decide_eq_true hs
      exact this.symm
    rw [if_pos ⟨rfl, this⟩]
    congr 1
    simp only [Prod.mk.injEq, true_and]
    omega
theorem enJ_other (i k : Nat) (dn sn : List UInt8) (e : DivD) (j : Nat) (h : ¬ e.name = dn) : enJ i k dn sn e j = [] :=
  enumF_nil _ _ fun t _ m => by
    unfold enM
    rw [if_neg (fun hh => h hh.1.symm)]
theorem comS_enum (bd : List DivD) (hb : (bd.map DivD.name).Nodup) (hs : ∀ e ∈ bd, (e.stops.map StopD.name).Nodup) (i : Nat) (dn : List UInt8) : ∀ (l : List StopD) (j : Nat),
    enumF (enK bd i dn) l j = if ixF (nmD dn) bd 0 < 0 then [] else comS i (ixF (nmD dn) bd 0) (bd.getD (ixF (nmD dn) bd 0).toNat ⟨[], false, 0, 0, []⟩).stops l j
  | [], j => by
    unfold enumF comS
    split <;> rfl
  | s :: r, j => by
    unfold enumF
    rw [comS_enum bd hb hs i dn r (j + 1)]
    have hk : enK bd i dn s j = if ixF (nmD dn) bd 0 < 0 then [] else enJ i j dn s.name (bd.getD ((ixF (nmD dn) bd 0).toNat - 0) ⟨[], false, 0, 0, []⟩) (ixF (nmD dn) bd 0).toNat :=
      enumF_one (f := enJ i j dn s.name) (p := nmD dn) ⟨[], false, 0, 0, []⟩ bd 0 (pair_name hb) (fun x _ hx m => enJ_other _ _ _ _ _ _ (by simpa [nmD] using hx))
    rw [hk]
    by_cases hc : ixF (nmD dn) bd 0 < 0
    · rw [if_pos hc, if_pos hc, if_pos hc]
      rfl
    · rw [if_neg hc, if_neg hc, if_neg hc]
      have hg := ixF_get (nmD dn) bd 0 (by omega) ⟨[], false, 0, 0, []⟩
      have hm := ixF_mem (nmD dn) bd 0 (by omega) ⟨[], false, 0, 0, []⟩
      obtain ⟨e, he⟩ : ∃ e, bd.getD ((ixF (nmD dn) bd 0).toNat - 0) ⟨[], false, 0, 0, []⟩ = e := ⟨_, rfl⟩
      have he2 : bd.getD (ixF (nmD dn) bd 0).toNat ⟨[], false, 0, 0, []⟩ = e := by simpa using he
      rw [he] at hg hm
      rw [he, he2]
      have hn : e.name = dn := of_decide_eq_true hg
      have hj := enJ_same i j s.name e (ixF (nmD dn) bd 0).toNat (hs e hm)
      rw [hn] at hj
      rw [hj]
      conv => rhs; unfold comS
      congr 1
      have : (((ixF (nmD dn) bd 0).toNat : Nat) : Int) = ixF (nmD dn) bd 0 := by omega
      rw [this]
theorem comD_enum (bd : List DivD) (hb : (bd.map DivD.name).Nodup) (hs : ∀ e ∈ bd, (e.stops.map StopD.name).Nodup) : ∀ (l : List DivD) (i : Nat), enumF (enI bd) l i = comD bd l i
  | [], _ => rfl
  | d :: r, i => by
    unfold enumF comD
    rw [comD_enum bd hb hs r (i + 1)]
    unfold enI
    rw [comS_enum bd hb hs i d.name d.stops 0]
end Go.Kz

/-
  Chapter 51: what compare.Common answers, in plain words; its walk.
-/
namespace Go.Kz
open Go Go.Proofs
set_option maxRecDepth 100000
set_option maxHeartbeats 4000000
def EmC.m4 : EmC M4 := ((EmC.one i64).pair ((EmC.one i64).pair ((EmC.one i64).pair (.one i64))))
def Em.m4 : Em M4 := .agg .m4
@[simp] theorem emb_m4 {r : M4} : Em.m4.emb r = .agg [.int .i64 r.1, .int .i64 r.2.1, .int .i64 r.2.2.1, .int .i64 r.2.2.2] := rfl
abbrev m4s : Em (List M4) := Em.m4.list 4
noncomputable def gOr : Nat → List PD → List SObj → Option (PD × List SObj) := entry (gf1 Em.organ i64 fun o => gif (okOr o) (some (organE o)))
theorem gOr_of {o : OrganD} (h : okOr o) (fl : Nat) (σ : List SObj) : gOr fl [Em.organ.emb o] σ = some (.int .i64 (organE o), σ) := by
  have e1 := Em.dec_some (Em.organ.str o)
  unfold gOr entry gf1
  simp only [e1]
  rw [gif_pos h]
  rfl
theorem cap1 {a i B : Nat} (h : a ≤ i * B) : a ≤ (i + 1) * B := Nat.le_trans h (Nat.mul_le_mul_right B (Nat.le_succ i))
theorem cap2 {a i j n B : Nat} (h : a ≤ i * B + j) (hj : j ≤ n) (hn : n ≤ B) : a ≤ (i + 1) * B := by
  rw [Nat.succ_mul]
  omega
theorem cap3 {L : List M4} {x : M4} {i j : Nat} (h : L.length ≤ i * 1000000 + j) : (L ++ [x]).length ≤ i * 1000000 + (j + 1) := by
  rw [List.length_append, List.length_cons, List.length_nil]
  omega
theorem cap4 {a i j : Nat} (h : a ≤ i * 1000000 + j) : a ≤ i * 1000000 + (j + 1) := by omega
variable {E : PExt} (hU : Uni E)
include hU
theorem r_Common (h0 : E 20 = none) (h1 : E 27 = some gOr) (h2 : E 52 = some gIxFD) (h3 : E 54 = some gIxFS) (a b : OrganD) (ha : okOr a) (hb : okOr b) (ea : organE a = 0) (eb : organE b = 0) :
    Run Tryz.prog E 20 [Em.organ.emb a, Em.organ.emb b] (.tup [m4s.emb (comD b.divs a.divs 0), .int .i64 0]) := by
  have hA := gOr_of ha
  have hB := gOr_of hb
  rw [ea] at hA
  rw [eb] at hB
  obtain ⟨an, ar, ad, ac⟩ := a
  obtain ⟨bn, br, bd, bc⟩ := b
  simp only [emb_organ, emb_list] at hA hB
  simp only [emb_organ, emb_list]
  obtain ⟨W, hW⟩ : ∃ W, comD bd ad 0 = W := ⟨_, rfl⟩
  simp only [hW]
  obtain ⟨⟨hon, hrs⟩, hla, hlb⟩ : (True ∧ True) ∧ ad.length ≤ 1000000 ∧ bd.length ≤ 1000000 := ⟨⟨trivial, trivial⟩, ha.2.2.1.1, hb.2.2.1.1⟩
  have hda : ∀ d ∈ ad, d.stops.length ≤ 1000000 := fun d hd => (ha.2.2.1.2 d hd).2.1
  have hdb : ∀ d ∈ bd, d.stops.length ≤ 1000000 := fun d hd => (hb.2.2.1.2 d hd).2.1
  obtain ⟨A, hAA⟩ : ∃ A, SObj.box (.agg [.str an, .slice (sz 6 ar) (ar.map Em.rank.emb) .any, .slice (sz 5 ad) (ad.map Em.div.emb) .any, .slice (sz 5 ac) (ac.map Em.coup.emb) .any]) = A := ⟨_, rfl⟩
  obtain ⟨B, hBB⟩ : ∃ A, SObj.box (.agg [.str bn, .slice (sz 6 br) (br.map Em.rank.emb) .any, .slice (sz 5 bd) (bd.map Em.div.emb) .any, .slice (sz 5 bc) (bc.map Em.coup.emb) .any]) = A := ⟨_, rfl⟩
  apply Run.bodyL h0 Tryz.func20 rfl
  focus (simp [show Tryz.f20.ntmps = _ from rfl, List.replicate]; rfl)
  have gx := True.intro
  refine goA ?_
  clear gx
  refine Wp.loop ?_
  have gx := And.intro @h1 (@hA)
  refine goA ?_
  clear gx
  refine Wp.loop ?_
  have gx := And.intro @h1 (@hB)
  refine goA ?_
  clear gx
  refine Wp.loop ?_
  have gx := True.intro
  refine goA ?_
  clear gx
  refine Wp.loopI (fun m fr σ => ∃ (i z : Nat) (L : List M4) (tok : Tok) (σ1 : List SObj), ∃ gg : Nat → PD, (i + m = ad.length ∧ σ1[0]? = some A ∧ σ1[1]? = some B ∧ (L = [] ∨ z = 4) ∧ RowAt σ1 tok 74 4 L.length ∧ L ++ comD bd (ad.drop i) i = W ∧ L.length ≤ i * 1000000) ∧ fr = gg 0 :: gg 1 :: .ptr 0 0 :: .ptr 1 0 :: gg 4 :: gg 5 :: gg 6 :: gg 7 :: gg 8 :: .slice z (L.map Em.m4.emb) tok :: gg 10 :: gg 11 :: gg 12 :: gg 13 :: gg 14 :: gg 15 :: gg 16 :: gg 17 :: gg 18 :: gg 19 :: gg 20 :: gg 21 :: gg 22 :: gg 23 :: gg 24 :: gg 25 :: gg 26 :: gg 27 :: gg 28 :: divsE.emb ad :: .int .i64 ad.length :: .int .i64 i :: gg 32 :: gg 33 :: gg 34 :: gg 35 :: gg 36 :: gg 37 :: gg 38 :: gg 39 :: gg 40 :: gg 41 :: gg 42 :: gg 43 :: gg 44 :: gg 45 :: gg 46 :: gg 47 :: gg 48 :: gg 49 :: gg 50 :: gg 51 :: gg 52 :: gg 53 :: gg 54 :: gg 55 :: gg 56 :: gg 57 :: gg 58 :: gg 59 :: gg 60 :: gg 61 :: gg 62 :: gg 63 :: gg 64 :: gg 65 :: gg 66 :: gg 67 :: gg 68 :: gg 69 :: gg 70 :: gg 71 :: gg 72 :: [] ∧ σ = σ1) ?_ (ad.length) (by refine ⟨0, 0, [], .full, [A, B, A, B], ?_⟩; exact exF (⟨by omega, rfl, rfl, .inl rfl, .inl ⟨rfl, rfl⟩, hW, Nat.zero_le _⟩) (by (first | rfl | (simp [hAA, hBB]; repeat (first | rfl | (apply And.intro))) | (simp [hAA, hBB]; done))) (by (first | rfl | (simp [hAA, hBB]; repeat (first | rfl | (apply And.intro))) | (simp [hAA, hBB]; done))))
  rintro m fr σ ⟨i, z, L, tok, σ1, gg, hI, rfl, rfl⟩
  obtain ⟨hm, g0, g1, hz, hrow, hs, hLl⟩ := hI
  by_cases hi : i < ad.length
  · have q1 : (i : Int) < (ad.length : Int) := by omega
    obtain ⟨d, hd⟩ : ∃ d, ad[i] = d := ⟨_, rfl⟩
    have hdl := hda d (hd ▸ List.getElem_mem hi)
    have hc1 : ad.drop i = d :: ad.drop (i + 1) := by rw [List.drop_eq_getElem_cons hi, hd]
    rw [hc1] at hs
    unfold comD at hs
    obtain ⟨d0, d1, d2, d3, ds⟩ := d
    simp only at hs hdl
    obtain ⟨ρ, hρ⟩ : ∃ ρ, σ ++ [SObj.box (.agg [.str d0, .bool d1, .int .i64 d2, .int .i64 d3, .slice (sz 4 ds) (ds.map Em.stop.emb) .any])] = ρ := ⟨_, rfl⟩
    obtain ⟨N, hN⟩ : ∃ N, σ.length = N := ⟨_, rfl⟩
    have gN : ρ[N]? = some (.box (.agg [.str d0, .bool d1, .int .i64 d2, .int .i64 d3, .slice (sz 4 ds) (ds.map Em.stop.emb) .any])) := by rw [← hρ, ← hN]; simp
    have hE := gIxFD_of (l := bd) hlb gN 0
    obtain ⟨τ, hτ⟩ : ∃ τ, ρ ++ (bd.take (visN (nmD d0) bd)).map bxD = τ := ⟨_, rfl⟩
    have k0 : τ[0]? = some A := by rw [← hτ, ← hρ]; exact app_keep (app_keep g0)
    have k1 : τ[1]? = some B := by rw [← hτ, ← hρ]; exact app_keep (app_keep g1)
    have kN : τ[N]? = some (.box (.agg [.str d0, .bool d1, .int .i64 d2, .int .i64 d3, .slice (sz 4 ds) (ds.map Em.stop.emb) .any])) := by rw [← hτ]; exact app_keep gN
    have hrow2 : RowAt τ tok 74 4 L.length := by rw [← hτ, ← hρ]; exact hrow.more.more
    have k1' := k1
    rw [← hBB] at k1'
    have g1' : ρ[1]? = some B := by rw [← hρ]; exact app_keep g1
    rw [← hBB] at g1'
    rw [hτ] at hE
    simp only [emb_list] at hE
    rw [← hN] at hE gN
    rw [← hρ] at hE gN g1'
    by_cases hk : ixF (nmD d0) bd 0 < 0
    · rw [if_pos hk, List.nil_append] at hs
      have gx := And.intro @q1 (And.intro @hi (And.intro @hd (And.intro @g1' (And.intro @h2 (And.intro @hE (@hk))))))
      refine goA ?_
      clear gx
      refine LoopI.normal (m - 1) (by omega) (by refine ⟨i + 1, z, L, tok, τ, ?_⟩; exact exF (⟨by omega, k0, k1, hz, hrow2, hs, cap1 hLl⟩) (by (first | rfl | (simp []; repeat (first | rfl | (apply And.intro))) | (simp []; done))) (by (first | rfl | (simp []; repeat (first | rfl | (apply And.intro))) | (simp []; done))))
    · rw [if_neg hk] at hs
      obtain ⟨K, hK⟩ : ∃ K : Nat, ixF (nmD d0) bd 0 = (K : Int) := ⟨_, (Int.toNat_of_nonneg (by omega)).symm⟩
      have hKl : K < bd.length := by rcases ixF_ge (nmD d0) bd 0 with h | h <;> omega
      have qK : (K : Int) < (bd.length : Int) := by omega
      obtain ⟨e, he⟩ : ∃ e, bd[K] = e := ⟨_, rfl⟩
      have hed : bd.getD K ⟨[], false, 0, 0, []⟩ = e := by rw [List.getD_eq_getElem?_getD, List.getElem?_eq_getElem hKl, he]; rfl
      have hel := hdb e (he ▸ List.getElem_mem hKl)
      rw [hK] at hE hs hk
      rw [Int.toNat_natCast, hed] at hs
      obtain ⟨e0, e1, e2, e3, es⟩ := e
      simp only at hs hel
      rw [← hN] at kN
      obtain ⟨l0, te0⟩ := List.getElem?_eq_some_iff.1 kN
      have hK0 : ¬ (K : Int) < 0 := by omega
      have gx := And.intro @q1 (And.intro @hi (And.intro @hd (And.intro @g1' (And.intro @h2 (And.intro @hE (And.intro @hK0 (And.intro @kN (And.intro @l0 (@te0)))))))))
      refine goA ?_
      clear gx
      obtain ⟨R, hR⟩ : ∃ R, comD bd (ad.drop (i + 1)) (i + 1) = R := ⟨_, rfl⟩
      rw [hR] at hs
      obtain ⟨M, hM⟩ : ∃ M, M = m := ⟨_, rfl⟩
      clear hE gN kN te0 l0 hN hτ hρ k1' g1' g0 g1 hrow
      refine Wp.loopI (fun m fr σ => ∃ (j z2 : Nat) (L2 : List M4) (tok2 : Tok) (σ2 : List SObj), ∃ gg : Nat → PD, (j + m = ds.length ∧ σ2[0]? = some A ∧ σ2[1]? = some B ∧ (L2 = [] ∨ z2 = 4) ∧ RowAt σ2 tok2 74 4 L2.length ∧ L2 ++ (comS i (K : Int) es (ds.drop j) j ++ R) = W ∧ L2.length ≤ i * 1000000 + j) ∧ fr = gg 0 :: gg 1 :: .ptr 0 0 :: .ptr 1 0 :: gg 4 :: gg 5 :: gg 6 :: gg 7 :: gg 8 :: .slice z2 (L2.map Em.m4.emb) tok2 :: .int .i64 i :: gg 11 :: .int .i64 K :: gg 13 :: gg 14 :: gg 15 :: gg 16 :: gg 17 :: gg 18 :: gg 19 :: gg 20 :: gg 21 :: gg 22 :: gg 23 :: gg 24 :: gg 25 :: gg 26 :: gg 27 :: gg 28 :: divsE.emb ad :: .int .i64 ad.length :: .int .i64 i :: gg 32 :: gg 33 :: gg 34 :: gg 35 :: gg 36 :: gg 37 :: gg 38 :: gg 39 :: gg 40 :: gg 41 :: gg 42 :: stopsE.emb ds :: .int .i64 ds.length :: .int .i64 j :: gg 46 :: gg 47 :: gg 48 :: gg 49 :: gg 50 :: gg 51 :: gg 52 :: gg 53 :: gg 54 :: gg 55 :: gg 56 :: gg 57 :: gg 58 :: gg 59 :: gg 60 :: gg 61 :: gg 62 :: gg 63 :: gg 64 :: gg 65 :: gg 66 :: gg 67 :: gg 68 :: gg 69 :: gg 70 :: gg 71 :: gg 72 :: [] ∧ σ = σ2) ?_ (ds.length) (by refine ⟨0, z, L, tok, τ, ?_⟩; exact exF (⟨by omega, k0, k1, hz, hrow2, hs, Nat.le_trans hLl (Nat.le_add_right _ 0)⟩) (by (first | rfl | (simp []; repeat (first | rfl | (apply And.intro))) | (simp []; done))) (by (first | rfl | (simp []; repeat (first | rfl | (apply And.intro))) | (simp []; done))))
      rintro m fr σ ⟨j, z2, L2, tok2, σ2, gg, hI, rfl, rfl⟩
      obtain ⟨hm2, f0, f1, hz2, hrow3, hs2, hLl2⟩ := hI
      by_cases hj : j < ds.length
      · have q2 : (j : Int) < (ds.length : Int) := by omega
        obtain ⟨s, hsj⟩ : ∃ s, ds[j] = s := ⟨_, rfl⟩
        have hc2 : ds.drop j = s :: ds.drop (j + 1) := by rw [List.drop_eq_getElem_cons hj, hsj]
        rw [hc2] at hs2
        unfold comS at hs2
        obtain ⟨s0, s1, s2, ss⟩ := s
        simp only at hs2
        obtain ⟨ρ, hρ⟩ : ∃ ρ, σ ++ [SObj.box (.agg [.str s0, .int .i64 s1, .int .i64 s2, .slice (sz 3 ss) (ss.map Em.seg.emb) .any])] = ρ := ⟨_, rfl⟩
        have gN : ρ[σ.length]? = some (.box (.agg [.str s0, .int .i64 s1, .int .i64 s2, .slice (sz 3 ss) (ss.map Em.seg.emb) .any])) := by rw [← hρ]; simp
        have hE := gIxFS_of (l := es) hel gN 0
        obtain ⟨τ2, hτ⟩ : ∃ τ, ρ ++ (es.take (visN (nmS s0) es)).map bxS = τ := ⟨_, rfl⟩
        have k0 : τ2[0]? = some A := by rw [← hτ, ← hρ]; exact app_keep (app_keep f0)
        have k1 : τ2[1]? = some B := by rw [← hτ, ← hρ]; exact app_keep (app_keep f1)
        have hrow4 : RowAt τ2 tok2 74 4 L2.length := by rw [← hτ, ← hρ]; exact hrow3.more.more
        have g1' : ρ[1]? = some B := by rw [← hρ]; exact app_keep f1
        rw [← hBB] at g1'
        rw [hτ] at hE
        simp only [emb_list] at hE
        rw [← hρ] at hE g1'
        obtain ⟨n, hn⟩ : ∃ n, ixF (nmS s0) es 0 = n := ⟨_, rfl⟩
        rw [hn] at hE hs2
        by_cases hn0 : 0 ≤ n
        · rw [if_pos hn0] at hs2
          have hA4 : (L2.map Em.m4.emb).length = L2.length := List.length_map _
          obtain ⟨tok', σ4, hap, hr', hkeep, hnew⟩ := pappend_row (P := Tryz.prog) (t := 69) (e := 74) (k := 4) (b := 32) (s := z2) (xs := L2.map Em.m4.emb) (p := .agg [.int .i64 i, .int .i64 j, .int .i64 K, .int .i64 n]) (tk := .any) (tok := tok2) (σ := τ2)
            Tryz.underlying69 (by kernel_rfl) (hz2.imp (fun h => by rw [h]; rfl) id) (by rw [hA4]; exact hrow4) (by rw [hA4]; omega) (by rw [hA4]; omega)
          have nA : notOwn (some A) := by rw [← hAA]; trivial
          have nB : notOwn (some B) := by rw [← hBB]; trivial
          have w0 := hkeep 0 _ (hrow4.ne k0 nA) k0
          have w1 := hkeep 1 _ (hrow4.ne k1 nB) k1
          rw [hA4] at hr'
          have gx := And.intro @q2 (And.intro @hj (And.intro @hsj (And.intro @g1' (And.intro @h3 (And.intro @hE (And.intro @hn0 (And.intro @hKl (And.intro @qK (And.intro @he (@hap))))))))))
          refine goA ?_
          clear gx
          have hLM : (L2 ++ [((i : Int), (j : Int), (K : Int), n)]).map Em.m4.emb = L2.map Em.m4.emb ++ [.agg [.int .i64 i, .int .i64 j, .int .i64 K, .int .i64 n]] := by rw [List.map_append]; rfl
          refine LoopI.normal (m - 1) (by omega) (by refine ⟨j + 1, 4, L2 ++ [((i : Int), (j : Int), (K : Int), n)], tok', σ4, ?_⟩; exact exF (⟨by omega, w0, w1, .inr rfl, by simpa using hr', by rw [← hs2]; simp, cap3 hLl2⟩) (by (first | rfl | (simp [hLM]; repeat (first | rfl | (apply And.intro))) | (simp [hLM]; done))) (by (first | rfl | (simp [hLM]; repeat (first | rfl | (apply And.intro))) | (simp [hLM]; done))))
        · rw [if_neg hn0, List.nil_append] at hs2
          have gx := And.intro @q2 (And.intro @hj (And.intro @hsj (And.intro @g1' (And.intro @h3 (And.intro @hE (And.intro @hn0 (And.intro @hKl (And.intro @qK (@he)))))))))
          refine goA ?_
          clear gx
          refine LoopI.normal (m - 1) (by omega) (by refine ⟨j + 1, z2, L2, tok2, τ2, ?_⟩; exact exF (⟨by omega, k0, k1, hz2, hrow4, hs2, cap4 hLl2⟩) (by (first | rfl | (simp []; repeat (first | rfl | (apply And.intro))) | (simp []; done))) (by (first | rfl | (simp []; repeat (first | rfl | (apply And.intro))) | (simp []; done))))
      · have q2 : ¬ (j : Int) < (ds.length : Int) := by omega
        rw [List.drop_eq_nil_of_le (by omega)] at hs2
        have hs3 : L2 ++ R = W := hs2
        rw [← hR] at hs3
        have gx := @q2
        refine goA ?_
        clear gx
        refine LoopI.normal (M - 1) (by omega) (by refine ⟨i + 1, z2, L2, tok2, σ, ?_⟩; exact exF (⟨by omega, f0, f1, hz2, hrow3, hs3, cap2 hLl2 (by omega) hdl⟩) (by (first | rfl | (simp []; repeat (first | rfl | (apply And.intro))) | (simp []; done))) (by (first | rfl | (simp []; repeat (first | rfl | (apply And.intro))) | (simp []; done))))
  · have q1 : ¬ (i : Int) < (ad.length : Int) := by omega
    rw [List.drop_eq_nil_of_le (by omega)] at hs
    have hs2 : L = W := by
      have : comD bd [] i = [] := rfl
      rw [this, List.append_nil] at hs
      exact hs
    subst hs2
    have hst : (PD.slice z (L.map Em.m4.emb) tok).strip = .slice (sz 4 L) (L.map Em.m4.emb) .any := by
      rw [PD.strip_slice, show (L.map Em.m4.emb).map PD.strip = L.map Em.m4.emb by rw [List.map_map]; exact List.map_congr_left fun x _ => Em.m4.str x]
      rcases hz with h | h
      · subst h; rfl
      · subst h
        by_cases hL : L = []
        · subst hL; rfl
        · simp [sz, hL]
    have gx := @q1
    refine goA ?_
    clear gx
    refine ⟨_, _, rfl, ?_⟩
    show PD.tup [(PD.slice z (L.map Em.m4.emb) tok).strip, .int .i64 0] = _
    rw [hst]
end Go.Kz

/-
  Chapter 51: CompareCommon, walked.
-/
namespace Go.Kz
open Go Go.Proofs
set_option maxRecDepth 100000
set_option maxHeartbeats 40000000
noncomputable def gCm : Nat → List PD → List SObj → Option (PD × List SObj) := entry (gf2 Em.organ Em.organ (Em.tup2 m4s i64) fun a b => gif (okOr a ∧ okOr b ∧ organE a = 0 ∧ organE b = 0) (some (comD b.divs a.divs 0, 0)))
theorem gCm_of {a b : OrganD} (ha : okOr a) (hb : okOr b) (ea : organE a = 0) (eb : organE b = 0) (fl : Nat) (σ : List SObj) : gCm fl [Em.organ.emb a, Em.organ.emb b] σ = some (.tup [m4s.emb (comD b.divs a.divs 0), .int .i64 0], σ) := by
  have e1 := Em.dec_some (Em.organ.str a)
  have e2 := Em.dec_some (Em.organ.str b)
  unfold gCm entry gf2
  simp only [e1, e2]
  rw [gif_pos ⟨ha, hb, ea, eb⟩]
  rfl
noncomputable def gFits : Nat → List PD → List SObj → Option (PD × List SObj) := entry (gf1 Em.plan Em.bool fun p => some (fitsB p))
theorem gFits_of (p : PlanD) (fl : Nat) (σ : List SObj) : gFits fl [Em.plan.emb p] σ = some (.bool (fitsB p), σ) := by
  have e1 := Em.dec_some (Em.plan.str p)
  unfold gFits entry gf1
  simp only [e1]
  rfl
noncomputable def gMake : Nat → List PD → List SObj → Option (PD × List SObj) := entry (gf1 Em.plan Em.organ fun p => gif (okPl p ∧ fitsB p = true) (some (organS p)))
theorem gMake_of {p : PlanD} (h : okPl p) (hf : fitsB p = true) (fl : Nat) (σ : List SObj) : gMake fl [Em.plan.emb p] σ = some (Em.organ.emb (organS p), σ) := by
  have e1 := Em.dec_some (Em.plan.str p)
  unfold gMake entry gf1
  simp only [e1]
  rw [gif_pos ⟨h, hf⟩]
noncomputable abbrev gKn : Nat → List PD → List SObj → Option (PD × List SObj) := entry (gf0 Em.bool (some true))
theorem gKn_of (fl : Nat) (σ : List SObj) : gKn fl [] σ = some (.bool true, σ) := rfl
theorem drop_get {α : Type} {W : List α} {n : Nat} {x : α} {r : List α} (h : W.drop n = x :: r) : ∃ hn : n < W.length, W[n] = x ∧ W.drop (n + 1) = r := by
  have hn : n < W.length := by
    rcases Nat.lt_or_ge n W.length with h1 | h1
    · exact h1
    · rw [List.drop_eq_nil_of_le h1] at h
      cases h
  rw [List.drop_eq_getElem_cons hn] at h
  injection h with h1 h2
  exact ⟨hn, h1, h2⟩
theorem stops_nodup (p : PlanD) (hf : fitsB p = true) : ((organS p).divs.map DivD.name).Nodup ∧ ∀ e ∈ (organS p).divs, (e.stops.map StopD.name).Nodup := by
  obtain ⟨r1, r3, d1, d3, c3, s3⟩ := fitsP hf
  unfold organS
  simp only
  refine ⟨?_, fun e he => ?_⟩
  · have h : ((boardsS (ranksS p.ranks p.ranks.length) p.divs p.divs.length).map DivD.name) = (List.range p.divs.length).map fun i => [68, digit i] := by
      unfold boardsS
      rw [List.map_map]
      rfl
    rw [h]
    exact names_new' 68 (by simp) _ (by omega)
  · obtain ⟨b, hb, i, _, rfl⟩ := mem_boardsS (Nat.le_refl _) he
    have h : (boardS (ranksS p.ranks p.ranks.length) b i).stops.map StopD.name = (List.range b.stops.length).map fun i => [83, digit i] := by
      unfold boardS pullsS
      rw [List.map_map]
      rfl
    rw [h]
    exact names_new' 83 (by simp) _ (by have := s3 b hb; omega)
theorem comS_len (i : Nat) (k : Int) (tl : List StopD) : ∀ (l : List StopD) (j : Nat), (comS i k tl l j).length ≤ l.length
  | [], _ => Nat.le_refl _
  | s :: r, j => by
    unfold comS
    have := comS_len i k tl r (j + 1)
    rw [List.length_append, List.length_cons]
    split <;> simp only [List.length_cons, List.length_nil] <;> omega
theorem comD_len (bd : List DivD) : ∀ (l : List DivD) (i : Nat), (∀ d ∈ l, d.stops.length ≤ 100) → (comD bd l i).length ≤ 100 * l.length
  | [], _, _ => Nat.le_refl _
  | d :: r, i, h => by
    unfold comD
    have h1 := comD_len bd r (i + 1) fun q hq => h q (List.mem_cons_of_mem _ hq)
    have h2 := h d (List.mem_cons_self ..)
    rw [List.length_append, List.length_cons]
    split
    · simp only [List.length_nil]; omega
    · have h3 := comS_len i (ixF (nmD d.name) bd 0) (bd.getD (ixF (nmD d.name) bd 0).toNat ⟨[], false, 0, 0, []⟩).stops d.stops 0
      omega
variable {E : PExt} (hU : Uni E)
include hU
theorem r_CompareCommon (h0 : E 5 = none) (h1 : E 10 = some gKn) (h2 : E 11 = some gFits) (h3 : E 13 = some gMake) (h4 : E 20 = some gCm) (p q : PlanD) (hp : okPl p) (hq : okPl q) :
    Run Tryz.prog E 5 [Em.plan.emb p, Em.plan.emb q] (Em.bool.emb true) := by
  have k := gKn_of
  have fp := gFits_of p
  have fq := gFits_of q
  simp only [emb_plan, emb_list] at fp fq
  cases cp : fitsB p with
  | false =>
    rw [cp] at fp
    simp only [emb_plan, emb_list]
    apply Run.bodyL h0 Tryz.func5 rfl
    focus (simp [show Tryz.f5.ntmps = _ from rfl, List.replicate]; rfl)
    have gx := And.intro @h1 (And.intro @k (And.intro @h2 (@fp)))
    refine goA ?_
    clear gx
    simp (disch := first | omega | (simp; done) | (simp; omega)) [decide_eq_decide] <;> try rfl
  | true =>
  rw [cp] at fp
  cases cq : fitsB q with
  | false =>
    rw [cq] at fq
    simp only [emb_plan, emb_list]
    apply Run.bodyL h0 Tryz.func5 rfl
    focus (simp [show Tryz.f5.ntmps = _ from rfl, List.replicate]; rfl)
    have gx := And.intro @h1 (And.intro @k (And.intro @h2 (And.intro @fp (@fq))))
    refine goA ?_
    clear gx
    simp (disch := first | omega | (simp; done) | (simp; omega)) [decide_eq_decide] <;> try rfl
  | true =>
  rw [cq] at fq
  have mp := gMake_of hp cp
  have mq := gMake_of hq cq
  have hC := gCm_of (organ_small p cp).okOr (organ_small q cq).okOr (organ_right p hp cp) (organ_right q hq cq)
  have hW := comD_enum (organS q).divs (stops_nodup q cq).1 (stops_nodup q cq).2
  obtain ⟨a, ha⟩ : ∃ a, organS p = a := ⟨_, rfl⟩
  obtain ⟨b, hb⟩ : ∃ a, organS q = a := ⟨_, rfl⟩
  have sa : Small a := ha ▸ organ_small p cp
  have sb : Small b := hb ▸ organ_small q cq
  rw [ha] at mp hC
  rw [hb] at mq hC hW
  obtain ⟨W, hWW⟩ : ∃ W, comD b.divs a.divs 0 = W := ⟨_, rfl⟩
  rw [hWW] at hC
  obtain ⟨an, ar, ad, ac⟩ := a
  obtain ⟨bn, br, bd, bc⟩ := b
  simp only at hWW
  simp only [emb_plan, emb_organ, emb_list] at mp mq hC
  simp only [emb_plan, emb_list]
  apply Run.bodyL h0 Tryz.func5 rfl
  focus (simp [show Tryz.f5.ntmps = _ from rfl, List.replicate]; rfl)
  have gx := And.intro @h1 (And.intro @k (And.intro @h2 (And.intro @fp (And.intro @fq (And.intro @h3 (And.intro @mp (And.intro @mq (And.intro @h4 (@hC)))))))))
  refine goA ?_
  clear gx
  have hW0 := hW ad 0
  simp only at hW0
  rw [hWW] at hW0
  obtain ⟨X0, hX0⟩ : ∃ X, SObj.box (.agg [.slice (sz 9 p.ranks) (p.ranks.map Em.rplan.emb) .any, .slice (sz 4 p.divs) (p.divs.map Em.board.emb) .any, .slice (sz 4 p.coups) (p.coups.map Em.link.emb) .any]) = X := ⟨_, rfl⟩
  obtain ⟨X1, hX1⟩ : ∃ X, SObj.box (.agg [.slice (sz 9 q.ranks) (q.ranks.map Em.rplan.emb) .any, .slice (sz 4 q.divs) (q.divs.map Em.board.emb) .any, .slice (sz 4 q.coups) (q.coups.map Em.link.emb) .any]) = X := ⟨_, rfl⟩
  rw [hX0, hX1]
  have b1 : ad.length ≤ 60 := sa.dl
  have b2 : bd.length ≤ 60 := sb.dl
  have b3 : ∀ d ∈ ad, d.stops.length ≤ 100 := fun d h => (sa.dv d h).2.1
  have b4 : ∀ d ∈ bd, d.stops.length ≤ 100 := fun d h => (sb.dv d h).2.1
  have b5 : W.length ≤ 6000 := by rw [← hWW]; have := comD_len bd ad 0 b3; omega
  clear hX0 hX1 mp mq hC fp fq k hW hWW ha hb sa sb
  refine Wp.loopI (fun m fr σ => ∃ (i n : Nat), ∃ gg : Nat → PD, (i + m = ad.length ∧ n ≤ W.length ∧ enumF (enI bd) (ad.drop i) i = W.drop n) ∧ fr = gg 0 :: gg 1 :: gg 2 :: gg 3 :: gg 4 :: .ptr 2 0 :: .ptr 3 0 :: m4s.emb W :: .int .i64 0 :: .int .i64 n :: .int .i64 i :: gg 11 :: gg 12 :: gg 13 :: gg 14 :: gg 15 :: gg 16 :: gg 17 :: gg 18 :: gg 19 :: gg 20 :: gg 21 :: gg 22 :: gg 23 :: gg 24 :: gg 25 :: gg 26 :: gg 27 :: gg 28 :: gg 29 :: gg 30 :: gg 31 :: gg 32 :: gg 33 :: gg 34 :: gg 35 :: gg 36 :: gg 37 :: gg 38 :: gg 39 :: gg 40 :: gg 41 :: gg 42 :: gg 43 :: gg 44 :: gg 45 :: gg 46 :: gg 47 :: gg 48 :: gg 49 :: gg 50 :: gg 51 :: gg 52 :: gg 53 :: gg 54 :: gg 55 :: gg 56 :: gg 57 :: gg 58 :: gg 59 :: gg 60 :: gg 61 :: gg 62 :: gg 63 :: gg 64 :: gg 65 :: gg 66 :: gg 67 :: gg 68 :: gg 69 :: gg 70 :: gg 71 :: gg 72 :: gg 73 :: gg 74 :: gg 75 :: gg 76 :: gg 77 :: gg 78 :: gg 79 :: gg 80 :: gg 81 :: gg 82 :: gg 83 :: gg 84 :: gg 85 :: gg 86 :: gg 87 :: gg 88 :: gg 89 :: gg 90 :: gg 91 :: gg 92 :: gg 93 :: gg 94 :: gg 95 :: gg 96 :: gg 97 :: gg 98 :: gg 99 :: gg 100 :: gg 101 :: gg 102 :: gg 103 :: gg 104 :: gg 105 :: gg 106 :: gg 107 :: gg 108 :: gg 109 :: gg 110 :: gg 111 :: gg 112 :: gg 113 :: gg 114 :: gg 115 :: gg 116 :: gg 117 :: gg 118 :: gg 119 :: gg 120 :: gg 121 :: gg 122 :: gg 123 :: gg 124 :: gg 125 :: gg 126 :: gg 127 :: gg 128 :: gg 129 :: gg 130 :: gg 131 :: gg 132 :: gg 133 :: gg 134 :: gg 135 :: gg 136 :: [] ∧ σ = [X0, X1, .box (.agg [.str an, .slice (sz 6 ar) (ar.map Em.rank.emb) .any, .slice (sz 5 ad) (ad.map Em.div.emb) .any, .slice (sz 5 ac) (ac.map Em.coup.emb) .any]), .box (.agg [.str bn, .slice (sz 6 br) (br.map Em.rank.emb) .any, .slice (sz 5 bd) (bd.map Em.div.emb) .any, .slice (sz 5 bc) (bc.map Em.coup.emb) .any])]) ?_ (ad.length) (by refine ⟨0, 0, ?_⟩; exact exF (⟨by omega, Nat.zero_le _, hW0⟩) (by (first | rfl | (simp []; repeat (first | rfl | (apply And.intro))) | (simp []; done))) (by (first | rfl | (simp []; repeat (first | rfl | (apply And.intro))) | (simp []; done))))
  rintro m fr σ ⟨i, n, gg, hI, rfl, rfl⟩
  obtain ⟨hm1, hnW, hs1⟩ := hI
  by_cases hi : i < ad.length
  rotate_left
  · have q1 : ¬ (i : Int) < (ad.length : Int) := by omega
    rw [List.drop_eq_nil_of_le (by omega)] at hs1
    have hn : n = W.length := by
      have h2 : W.drop n = [] := hs1.symm
      have := List.drop_eq_nil_iff.1 h2
      omega
    subst hn
    have gx := @q1
    refine goA ?_
    clear gx
    simp (disch := first | omega | (simp; done) | (simp; omega)) [decide_eq_decide] <;> try rfl
  have q1 : (i : Int) < (ad.length : Int) := by omega
  obtain ⟨d, hd⟩ : ∃ d, ad[i] = d := ⟨_, rfl⟩
  rw [List.drop_eq_getElem_cons hi, hd] at hs1
  unfold enumF at hs1
  obtain ⟨R1, hR1⟩ : ∃ R, enumF (enI bd) (ad.drop (i + 1)) (i + 1) = R := ⟨_, rfl⟩
  rw [hR1] at hs1
  unfold enI at hs1
  have b6 := b3 d (hd ▸ List.getElem_mem hi)
  obtain ⟨d0, d1, d2, d3, ds⟩ := d
  simp only at hs1 b6
  have gx := @q1
  refine goA ?_
  clear gx
  obtain ⟨M1, hM1⟩ : ∃ M, M = m := ⟨_, rfl⟩
  refine Wp.loopI (fun m fr σ => ∃ (k n2 : Nat), ∃ gg : Nat → PD, (k + m = ds.length ∧ n2 ≤ W.length ∧ enumF (enK bd i d0) (ds.drop k) k ++ R1 = W.drop n2) ∧ fr = gg 0 :: gg 1 :: gg 2 :: gg 3 :: gg 4 :: .ptr 2 0 :: .ptr 3 0 :: m4s.emb W :: .int .i64 0 :: .int .i64 n2 :: .int .i64 i :: .int .i64 k :: gg 12 :: gg 13 :: gg 14 :: gg 15 :: gg 16 :: gg 17 :: gg 18 :: gg 19 :: gg 20 :: gg 21 :: gg 22 :: gg 23 :: gg 24 :: gg 25 :: gg 26 :: gg 27 :: gg 28 :: gg 29 :: gg 30 :: gg 31 :: gg 32 :: gg 33 :: gg 34 :: gg 35 :: gg 36 :: gg 37 :: gg 38 :: gg 39 :: gg 40 :: gg 41 :: gg 42 :: gg 43 :: gg 44 :: gg 45 :: gg 46 :: gg 47 :: gg 48 :: gg 49 :: gg 50 :: gg 51 :: gg 52 :: gg 53 :: gg 54 :: gg 55 :: gg 56 :: gg 57 :: gg 58 :: gg 59 :: gg 60 :: gg 61 :: gg 62 :: gg 63 :: gg 64 :: gg 65 :: gg 66 :: gg 67 :: gg 68 :: gg 69 :: gg 70 :: gg 71 :: gg 72 :: gg 73 :: gg 74 :: gg 75 :: gg 76 :: gg 77 :: gg 78 :: gg 79 :: gg 80 :: gg 81 :: gg 82 :: gg 83 :: gg 84 :: gg 85 :: gg 86 :: gg 87 :: gg 88 :: gg 89 :: gg 90 :: gg 91 :: gg 92 :: gg 93 :: gg 94 :: gg 95 :: gg 96 :: gg 97 :: gg 98 :: gg 99 :: gg 100 :: gg 101 :: gg 102 :: gg 103 :: gg 104 :: gg 105 :: gg 106 :: gg 107 :: gg 108 :: gg 109 :: gg 110 :: gg 111 :: gg 112 :: gg 113 :: gg 114 :: gg 115 :: gg 116 :: gg 117 :: gg 118 :: gg 119 :: gg 120 :: gg 121 :: gg 122 :: gg 123 :: gg 124 :: gg 125 :: gg 126 :: gg 127 :: gg 128 :: gg 129 :: gg 130 :: gg 131 :: gg 132 :: gg 133 :: gg 134 :: gg 135 :: gg 136 :: [] ∧ σ = [X0, X1, .box (.agg [.str an, .slice (sz 6 ar) (ar.map Em.rank.emb) .any, .slice (sz 5 ad) (ad.map Em.div.emb) .any, .slice (sz 5 ac) (ac.map Em.coup.emb) .any]), .box (.agg [.str bn, .slice (sz 6 br) (br.map Em.rank.emb) .any, .slice (sz 5 bd) (bd.map Em.div.emb) .any, .slice (sz 5 bc) (bc.map Em.coup.emb) .any])]) ?_ (ds.length) (by refine ⟨0, n, ?_⟩; exact exF (⟨by omega, hnW, hs1⟩) (by (first | rfl | (simp []; repeat (first | rfl | (apply And.intro))) | (simp []; done))) (by (first | rfl | (simp []; repeat (first | rfl | (apply And.intro))) | (simp []; done))))
  rintro m fr σ ⟨k, n2, gg, hI, rfl, rfl⟩
  clear hs1 hnW
  obtain ⟨hm2, hnW, hs2⟩ := hI
  by_cases hk : k < ds.length
  rotate_left
  · have q2 : ¬ (k : Int) < (ds.length : Int) := by omega
    rw [List.drop_eq_nil_of_le (by omega)] at hs2
    have hs3 : R1 = W.drop n2 := hs2
    rw [← hR1] at hs3
    have gx := And.intro @q1 (And.intro @hi (And.intro @hd (@q2)))
    refine goA ?_
    clear gx
    refine LoopI.normal (M1 - 1) (by omega) (by refine ⟨i + 1, n2, ?_⟩; exact exF (⟨by omega, hnW, hs3⟩) (by (first | rfl | (simp []; repeat (first | rfl | (apply And.intro))) | (simp []; done))) (by (first | rfl | (simp []; repeat (first | rfl | (apply And.intro))) | (simp []; done))))
  have q2 : (k : Int) < (ds.length : Int) := by omega
  obtain ⟨s, hsk⟩ : ∃ d, ds[k] = d := ⟨_, rfl⟩
  rw [List.drop_eq_getElem_cons hk, hsk] at hs2
  unfold enumF at hs2
  rw [List.append_assoc] at hs2
  obtain ⟨R2, hR2⟩ : ∃ R, enumF (enK bd i d0) (ds.drop (k + 1)) (k + 1) ++ R1 = R := ⟨_, rfl⟩
  rw [hR2] at hs2
  unfold enK at hs2
  obtain ⟨s0, s1, s2, ss⟩ := s
  simp only at hs2
  have gx := And.intro @q1 (And.intro @hi (And.intro @hd (@q2)))
  refine goA ?_
  clear gx
  obtain ⟨M2, hM2⟩ : ∃ M, M = m := ⟨_, rfl⟩
  refine Wp.loopI (fun m fr σ => ∃ (j n3 : Nat), ∃ gg : Nat → PD, (j + m = bd.length ∧ n3 ≤ W.length ∧ enumF (enJ i k d0 s0) (bd.drop j) j ++ R2 = W.drop n3) ∧ fr = gg 0 :: gg 1 :: gg 2 :: gg 3 :: gg 4 :: .ptr 2 0 :: .ptr 3 0 :: m4s.emb W :: .int .i64 0 :: .int .i64 n3 :: .int .i64 i :: .int .i64 k :: .int .i64 j :: gg 13 :: gg 14 :: gg 15 :: gg 16 :: gg 17 :: gg 18 :: gg 19 :: gg 20 :: gg 21 :: gg 22 :: gg 23 :: gg 24 :: gg 25 :: gg 26 :: gg 27 :: gg 28 :: gg 29 :: gg 30 :: gg 31 :: gg 32 :: gg 33 :: gg 34 :: gg 35 :: gg 36 :: gg 37 :: gg 38 :: gg 39 :: gg 40 :: gg 41 :: gg 42 :: gg 43 :: gg 44 :: gg 45 :: gg 46 :: gg 47 :: gg 48 :: gg 49 :: gg 50 :: gg 51 :: gg 52 :: gg 53 :: gg 54 :: gg 55 :: gg 56 :: gg 57 :: gg 58 :: gg 59 :: gg 60 :: gg 61 :: gg 62 :: gg 63 :: gg 64 :: gg 65 :: gg 66 :: gg 67 :: gg 68 :: gg 69 :: gg 70 :: gg 71 :: gg 72 :: gg 73 :: gg 74 :: gg 75 :: gg 76 :: gg 77 :: gg 78 :: gg 79 :: gg 80 :: gg 81 :: gg 82 :: gg 83 :: gg 84 :: gg 85 :: gg 86 :: gg 87 :: gg 88 :: gg 89 :: gg 90 :: gg 91 :: gg 92 :: gg 93 :: gg 94 :: gg 95 :: gg 96 :: gg 97 :: gg 98 :: gg 99 :: gg 100 :: gg 101 :: gg 102 :: gg 103 :: gg 104 :: gg 105 :: gg 106 :: gg 107 :: gg 108 :: gg 109 :: gg 110 :: gg 111 :: gg 112 :: gg 113 :: gg 114 :: gg 115 :: gg 116 :: gg 117 :: gg 118 :: gg 119 :: gg 120 :: gg 121 :: gg 122 :: gg 123 :: gg 124 :: gg 125 :: gg 126 :: gg 127 :: gg 128 :: gg 129 :: gg 130 :: gg 131 :: gg 132 :: gg 133 :: gg 134 :: gg 135 :: gg 136 :: [] ∧ σ = [X0, X1, .box (.agg [.str an, .slice (sz 6 ar) (ar.map Em.rank.emb) .any, .slice (sz 5 ad) (ad.map Em.div.emb) .any, .slice (sz 5 ac) (ac.map Em.coup.emb) .any]), .box (.agg [.str bn, .slice (sz 6 br) (br.map Em.rank.emb) .any, .slice (sz 5 bd) (bd.map Em.div.emb) .any, .slice (sz 5 bc) (bc.map Em.coup.emb) .any])]) ?_ (bd.length) (by refine ⟨0, n2, ?_⟩; exact exF (⟨by omega, hnW, hs2⟩) (by (first | rfl | (simp []; repeat (first | rfl | (apply And.intro))) | (simp []; done))) (by (first | rfl | (simp []; repeat (first | rfl | (apply And.intro))) | (simp []; done))))
  rintro m fr σ ⟨j, n3, gg, hI, rfl, rfl⟩
  clear hs2 hnW
  obtain ⟨hm3, hnW, hs3⟩ := hI
  by_cases hj : j < bd.length
  rotate_left
  · have q3 : ¬ (j : Int) < (bd.length : Int) := by omega
    rw [List.drop_eq_nil_of_le (by omega)] at hs3
    have hs4 : R2 = W.drop n3 := hs3
    rw [← hR2] at hs4
    have gx := And.intro @q1 (And.intro @hi (And.intro @hd (And.intro @q2 (And.intro @hk (And.intro @hsk (@q3))))))
    refine goA ?_
    clear gx
    refine LoopI.normal (M2 - 1) (by omega) (by refine ⟨k + 1, n3, ?_⟩; exact exF (⟨by omega, hnW, hs4⟩) (by (first | rfl | (simp []; repeat (first | rfl | (apply And.intro))) | (simp []; done))) (by (first | rfl | (simp []; repeat (first | rfl | (apply And.intro))) | (simp []; done))))
  have q3 : (j : Int) < (bd.length : Int) := by omega
  obtain ⟨e, hej⟩ : ∃ d, bd[j] = d := ⟨_, rfl⟩
  rw [List.drop_eq_getElem_cons hj, hej] at hs3
  unfold enumF at hs3
  rw [List.append_assoc] at hs3
  obtain ⟨R3, hR3⟩ : ∃ R, enumF (enJ i k d0 s0) (bd.drop (j + 1)) (j + 1) ++ R2 = R := ⟨_, rfl⟩
  rw [hR3] at hs3
  unfold enJ at hs3
  have b7 := b4 e (hej ▸ List.getElem_mem hj)
  obtain ⟨e0, e1, e2, e3, es⟩ := e
  simp only at hs3 b7
  have gx := And.intro @q1 (And.intro @hi (And.intro @hd (And.intro @q2 (And.intro @hk (And.intro @hsk (@q3))))))
  refine goA ?_
  clear gx
  obtain ⟨M3, hM3⟩ : ∃ M, M = m := ⟨_, rfl⟩
  refine Wp.loopI (fun m fr σ => ∃ (t n4 : Nat), ∃ gg : Nat → PD, (t + m = es.length ∧ n4 ≤ W.length ∧ enumF (enM i k j d0 e0 s0) (es.drop t) t ++ R3 = W.drop n4) ∧ fr = gg 0 :: gg 1 :: gg 2 :: gg 3 :: gg 4 :: .ptr 2 0 :: .ptr 3 0 :: m4s.emb W :: .int .i64 0 :: .int .i64 n4 :: .int .i64 i :: .int .i64 k :: .int .i64 j :: .int .i64 t :: gg 14 :: gg 15 :: gg 16 :: gg 17 :: gg 18 :: gg 19 :: gg 20 :: gg 21 :: gg 22 :: gg 23 :: gg 24 :: gg 25 :: gg 26 :: gg 27 :: gg 28 :: gg 29 :: gg 30 :: gg 31 :: gg 32 :: gg 33 :: gg 34 :: gg 35 :: gg 36 :: gg 37 :: gg 38 :: gg 39 :: gg 40 :: gg 41 :: gg 42 :: gg 43 :: gg 44 :: gg 45 :: gg 46 :: gg 47 :: gg 48 :: gg 49 :: gg 50 :: gg 51 :: gg 52 :: gg 53 :: gg 54 :: gg 55 :: gg 56 :: gg 57 :: gg 58 :: gg 59 :: gg 60 :: gg 61 :: gg 62 :: gg 63 :: gg 64 :: gg 65 :: gg 66 :: gg 67 :: gg 68 :: gg 69 :: gg 70 :: gg 71 :: gg 72 :: gg 73 :: gg 74 :: gg 75 :: gg 76 :: gg 77 :: gg 78 :: gg 79 :: gg 80 :: gg 81 :: gg 82 :: gg 83 :: gg 84 :: gg 85 :: gg 86 :: gg 87 :: gg 88 :: gg 89 :: gg 90 :: gg 91 :: gg 92 :: gg 93 :: gg 94 :: gg 95 :: gg 96 :: gg 97 :: gg 98 :: gg 99 :: gg 100 :: gg 101 :: gg 102 :: gg 103 :: gg 104 :: gg 105 :: gg 106 :: gg 107 :: gg 108 :: gg 109 :: gg 110 :: gg 111 :: gg 112 :: gg 113 :: gg 114 :: gg 115 :: gg 116 :: gg 117 :: gg 118 :: gg 119 :: gg 120 :: gg 121 :: gg 122 :: gg 123 :: gg 124 :: gg 125 :: gg 126 :: gg 127 :: gg 128 :: gg 129 :: gg 130 :: gg 131 :: gg 132 :: gg 133 :: gg 134 :: gg 135 :: gg 136 :: [] ∧ σ = [X0, X1, .box (.agg [.str an, .slice (sz 6 ar) (ar.map Em.rank.emb) .any, .slice (sz 5 ad) (ad.map Em.div.emb) .any, .slice (sz 5 ac) (ac.map Em.coup.emb) .any]), .box (.agg [.str bn, .slice (sz 6 br) (br.map Em.rank.emb) .any, .slice (sz 5 bd) (bd.map Em.div.emb) .any, .slice (sz 5 bc) (bc.map Em.coup.emb) .any])]) ?_ (es.length) (by refine ⟨0, n3, ?_⟩; exact exF (⟨by omega, hnW, hs3⟩) (by (first | rfl | (simp []; repeat (first | rfl | (apply And.intro))) | (simp []; done))) (by (first | rfl | (simp []; repeat (first | rfl | (apply And.intro))) | (simp []; done))))
  rintro m fr σ ⟨t, n4, gg, hI, rfl, rfl⟩
  clear hs3 hnW
  obtain ⟨hm4, hnW, hs4⟩ := hI
  by_cases ht : t < es.length
  rotate_left
  · have q4 : ¬ (t : Int) < (es.length : Int) := by omega
    rw [List.drop_eq_nil_of_le (by omega)] at hs4
    have hs5 : R3 = W.drop n4 := hs4
    rw [← hR3] at hs5
    have gx := And.intro @q1 (And.intro @hi (And.intro @hd (And.intro @q2 (And.intro @hk (And.intro @hsk (And.intro @q3 (And.intro @hj (And.intro @hej (@q4)))))))))
    refine goA ?_
    clear gx
    refine LoopI.normal (M3 - 1) (by omega) (by refine ⟨j + 1, n4, ?_⟩; exact exF (⟨by omega, hnW, hs5⟩) (by (first | rfl | (simp []; repeat (first | rfl | (apply And.intro))) | (simp []; done))) (by (first | rfl | (simp []; repeat (first | rfl | (apply And.intro))) | (simp []; done))))
  have q4 : (t : Int) < (es.length : Int) := by omega
  obtain ⟨u, hut⟩ : ∃ d, es[t] = d := ⟨_, rfl⟩
  rw [List.drop_eq_getElem_cons ht, hut] at hs4
  unfold enumF at hs4
  rw [List.append_assoc] at hs4
  obtain ⟨R4, hR4⟩ : ∃ R, enumF (enM i k j d0 e0 s0) (es.drop (t + 1)) (t + 1) ++ R3 = R := ⟨_, rfl⟩
  rw [hR4] at hs4
  unfold enM at hs4
  obtain ⟨u0, u1, u2, us⟩ := u
  simp only at hs4
  by_cases c1 : d0 = e0
  rotate_left
  · rw [if_neg (fun h => c1 h.1), List.nil_append, ← hR4] at hs4
    have c1' : (d0 == e0) = false := by simpa using c1
    have gx := And.intro @q1 (And.intro @hi (And.intro @hd (And.intro @q2 (And.intro @hk (And.intro @hsk (And.intro @q3 (And.intro @hj (And.intro @hej (And.intro @q4 (And.intro @ht (And.intro @hut (And.intro @c1 (@c1')))))))))))))
    refine goA ?_
    clear gx
    refine LoopI.normal (m - 1) (by omega) (by refine ⟨t + 1, n4, ?_⟩; exact exF (⟨by omega, hnW, hs4⟩) (by (first | rfl | (simp []; repeat (first | rfl | (apply And.intro))) | (simp []; done))) (by (first | rfl | (simp []; repeat (first | rfl | (apply And.intro))) | (simp []; done))))
  by_cases c2 : s0 = u0
  rotate_left
  · rw [if_neg (fun h => c2 h.2), List.nil_append, ← hR4] at hs4
    have c2' : (s0 == u0) = false := by simpa using c2
    have gx := And.intro @q1 (And.intro @hi (And.intro @hd (And.intro @q2 (And.intro @hk (And.intro @hsk (And.intro @q3 (And.intro @hj (And.intro @hej (And.intro @q4 (And.intro @ht (And.intro @hut (And.intro @c1 (And.intro @c2 (@c2'))))))))))))))
    refine goA ?_
    clear gx
    refine LoopI.normal (m - 1) (by omega) (by refine ⟨t + 1, n4, ?_⟩; exact exF (⟨by omega, hnW, hs4⟩) (by (first | rfl | (simp []; repeat (first | rfl | (apply And.intro))) | (simp []; done))) (by (first | rfl | (simp []; repeat (first | rfl | (apply And.intro))) | (simp []; done))))
  rw [if_pos ⟨c1, c2⟩] at hs4
  obtain ⟨hn, hx, hs5⟩ := drop_get (show W.drop n4 = _ from hs4.symm)
  rw [← hR4] at hs5
  have q5 : (n4 : Int) < (W.length : Int) := by omega
  have q6 : ¬ (W.length : Int) ≤ (n4 : Int) := by omega
  have gx := And.intro @q1 (And.intro @hi (And.intro @hd (And.intro @q2 (And.intro @hk (And.intro @hsk (And.intro @q3 (And.intro @hj (And.intro @hej (And.intro @q4 (And.intro @ht (And.intro @hut (And.intro @c1 (And.intro @c2 (And.intro @hn (And.intro @hx (And.intro @q5 (@q6)))))))))))))))))
  refine goA ?_
  clear gx
  refine LoopI.normal (m - 1) (by omega) (by refine ⟨t + 1, n4 + 1, ?_⟩; exact exF (⟨by omega, hn, hs5.symm⟩) (by (first | rfl | (simp []; repeat (first | rfl | (apply And.intro))) | (simp []; done))) (by (first | rfl | (simp []; repeat (first | rfl | (apply And.intro))) | (simp []; done))))
end Go.Kz

/-
  Chapter 51: the table of functions of CompareCommon.
-/
namespace Go.Kz
open Go Go.Proofs
set_option maxRecDepth 100000
theorem ExtOk.le {P : Program} {E : PExt} {f : FuncId} {g g' : Nat → List PD → List SObj → Option (PD × List SObj)} (h : ExtOk P (E.add f g)) (hE : ExtOk P E) (hg : ∀ fl args σ x, g' fl args σ = some x → g fl args σ = some x) : ExtOk P (E.add f g') := by
  intro F fl f1 g1 args c vs p σ' hF h1 hgo hs hX hv
  unfold PExt.add at h1
  split at h1
  · rename_i e
    subst e
    simp only [Option.some.injEq] at h1; subst h1
    exact h hF (show E.add f1 g f1 = some g from if_pos rfl) (hg _ _ _ _ hgo) hs hX hv
  · exact hE hF h1 hgo hs hX hv
theorem gPures_strip {args args' : List PD} (h : args.map PD.strip = args') (h2 : args'.map PD.strip = args') : ∀ rs : List (List PD × PD), gPures rs args = gPures rs args'
  | [] => rfl
  | r :: rs => by
    unfold gPures
    rw [h, h2, gPures_strip h h2 rs]
theorem shift_tab : (feetSix.all fun a => feetAll.all fun b => match gPures Bt3L [Em.feet.emb a, Em.feet.emb b] with | some p => bPD 40 p (.tup [.int .i64 (shiftOf a b), .int .i64 0]) | none => false) = true := by decide +kernel
theorem shift_ok : ExtOk Tryz.prog (Bt2.add 69 gSh) := by
  refine Bt3_ok.le Bt2_ok fun fl args σ x h => ?_
  unfold gSh entry gf2 at h
  split at h
  rotate_left
  · cases h
  rename_i p hp
  simp only [Option.some.injEq] at h
  subst h
  split at hp
  rotate_left
  · cases hp
  rename_i p1 p2
  split at hp
  rotate_left
  · cases hp
  rename_i a b ha hb
  split at hp
  rotate_left
  · cases hp
  rename_i z hz
  obtain ⟨⟨h1, h2⟩, e⟩ := gif_some hz
  cases e
  simp only [Option.some.injEq] at hp
  subst hp
  have e1 := Em.of_dec ha
  have e2 := Em.of_dec hb
  have hs : [p1, p2].map PD.strip = [Em.feet.emb a, Em.feet.emb b] := by simp only [List.map_cons, List.map_nil, e1, e2]
  have hs2 : [Em.feet.emb a, Em.feet.emb b].map PD.strip = [Em.feet.emb a, Em.feet.emb b] := by simp only [List.map_cons, List.map_nil, Em.feet.str]
  rw [gPures_strip hs hs2]
  have ht := List.all_eq_true.1 (List.all_eq_true.1 shift_tab a h1) b h2
  split at ht
  · rename_i q hq
    rw [hq]
    have := bPD_eq 40 _ _ ht
    rw [this]
    rfl
  · cases ht
theorem ExtOk.addInts {E : PExt} (hE : ExtOk Tryz.prog E) {β : Type} {r : Em β} {F : List Int → β} {f : FuncId} (h : ∀ l : List Int, l.length ≤ 1000000 → Run Tryz.prog E f [i64s.emb l, .func 126 []] (r.emb (F l))) :
    ExtOk Tryz.prog (E.add f (entry (fun args => match args with | [p, .func g []] => if g = 126 then gf1 i64s r (fun l => gif (l.length ≤ 1000000) (some (F l))) [p] else none | _ => none))) := by
  refine hE.addFree fol fun args p hg => ?_
  split at hg
  rotate_left
  · cases hg
  rename_i p1 g1
  split at hg
  rotate_left
  · cases hg
  rename_i e
  subst e
  simp only [gf1] at hg
  split at hg
  rotate_left
  · cases hg
  rename_i x hx
  split at hg
  rotate_left
  · cases hg
  rename_i z hz
  simp only [Option.some.injEq] at hg
  subst hg
  obtain ⟨rx, e⟩ := gif_some hz
  cases e
  have e1 := Em.of_dec hx
  obtain ⟨p2, σ2, h1, h2⟩ := h x rx
  exact ⟨p2, σ2, by simpa [e1, PD.strip] using h1, h2, by simp only [List.map_cons, List.map_nil, e1, PD.idfreeL, i64s.fre]; rfl, r.fre _⟩
theorem ExtOk.addPull {E : PExt} (hE : ExtOk Tryz.prog E) (hU : Uni E) (h0 : E 31 = none) (h1 : E 68 = some (entry (gf1 u8e Em.feet fun n => gif (okU8 n) (some (sixAt n))))) (h2 : E 69 = some gSh) : ExtOk Tryz.prog (E.add 31 gPu) := by
  refine hE.addFree fol fun args p hg => ?_
  unfold gPl at hg
  split at hg
  rotate_left
  · cases hg
  rename_i a b c d
  split at hg
  rotate_left
  · cases hg
  rename_i rs lh x i ha hb hc hd
  obtain ⟨⟨k1, k2, k3, k4, k5, k6, k7, k8, k9⟩, e⟩ := gif_some hg
  cases e
  have e1 := Em.of_dec ha
  have e2 := Em.of_dec hb
  have e3 := Em.of_dec hc
  have e4 := Em.of_dec hd
  obtain ⟨j, rfl⟩ : ∃ j : Nat, i = j := ⟨i.toNat, by omega⟩
  rw [Int.toNat_natCast]
  obtain ⟨p2, σ2, q1, q2⟩ := r_pull hU h0 h1 h2 rs k1 k2 k3 lh.1 lh.2 k4 k5 k6 x k7 j (by omega)
  refine ⟨p2, σ2, ?_, q2, ?_, Em.stop.fre _⟩
  · simp only [List.map_cons, List.map_nil, e1, e2, e3, e4]
    exact q1
  · simp only [List.map_cons, List.map_nil, e1, e2, e3, e4, PD.idfreeL, ranks.fre, Em.feet.fre, Em.pull.fre, i64.fre, Bool.and_self]
theorem gClC_no : ∀ args p, gClC 0 args [] ≠ some (p, []) := by
  intro args p h
  unfold gClC at h
  split at h
  · simp at h
  · cases h
theorem gNmC_no (F : List UInt8 → List CoupD → PD) : ∀ args p, gNmC F 0 args [] ≠ some (p, []) := by
  intro args p h
  unfold gNmC at h
  repeat' split at h
  all_goals first | (cases h; done) | (simp_all; done)
theorem gAg_no : ∀ args p, gAg 0 args [] ≠ some (p, []) := by
  intro args p h
  unfold gAg at h
  repeat' split at h
  all_goals first | (cases h; done) | (simp_all; done)
theorem gClD_no : ∀ args p, gClD 0 args [] ≠ some (p, []) := by
  intro args p h
  unfold gClD at h
  split at h
  · simp at h
  · cases h
theorem gClS_no : ∀ args p, gClS 0 args [] ≠ some (p, []) := by
  intro args p h
  unfold gClS at h
  split at h
  · simp at h
  · cases h
theorem gIxFD_no : ∀ args p, gIxFD 0 args [] ≠ some (p, []) := by
  intro args p h
  unfold gIxFD at h
  repeat' split at h
  all_goals first | (cases h; done) | (simp_all; done)
theorem gIxFS_no : ∀ args p, gIxFS 0 args [] ≠ some (p, []) := by
  intro args p h
  unfold gIxFS at h
  repeat' split at h
  all_goals first | (cases h; done) | (simp_all; done)
noncomputable def Cq0 : PExt := fun _ => none
theorem Cq0_ok : ExtOk Tryz.prog Cq0 := fun _ hg => by cases hg
theorem Cq0_uni : Uni Cq0 := Uni.none
noncomputable def Cq1 : PExt := Cq0.add 92 gLet
theorem Cq1_ok : ExtOk Tryz.prog Cq1 := Cq0_ok.add1 fol fun x z hz => by cases hz; exact r_letter Cq0_uni rfl x
theorem Cq1_uni : Uni Cq1 := Cq0_uni.entry
noncomputable def Cq2 : PExt := Cq1.add 60 gNm
theorem Cq2_ok : ExtOk Tryz.prog Cq2 := Cq1_ok.add1 fol fun x z hz => by obtain ⟨h, e⟩ := gif_some hz; cases e; exact r_isName Cq1_uni rfl rfl x h
theorem Cq2_uni : Uni Cq2 := Cq1_uni.entry
noncomputable def Cq3 : PExt := Cq2.add 96 gCp
theorem Cq3_ok : ExtOk Tryz.prog Cq3 := Cq2_ok.add1 fol fun x z hz => by cases hz; exact r_compass Cq2_uni rfl x.1 x.2
theorem Cq3_uni : Uni Cq3 := Cq2_uni.entry
noncomputable def Cq4 : PExt := Cq3.add 145 gGcd
theorem Cq4_ok : ExtOk Tryz.prog Cq4 := Cq3_ok.add2 fol fun x y z hz => by
  obtain ⟨h, e⟩ := gif_some hz
  cases e
  obtain ⟨a, rfl⟩ : ∃ a : Nat, x = a := ⟨x.toNat, by omega⟩
  obtain ⟨b, rfl⟩ : ∃ b : Nat, y = b := ⟨y.toNat, by omega⟩
  rw [Int.toNat_natCast, Int.toNat_natCast]
  exact r_gcd Cq3_uni rfl a b (by omega) (by omega)
theorem Cq4_uni : Uni Cq4 := Cq3_uni.entry
noncomputable def Cq5 : PExt := Cq4.add 146 gMag
theorem Cq5_ok : ExtOk Tryz.prog Cq5 := Cq4_ok.add1 fol fun x z hz => by obtain ⟨h, e⟩ := gif_some hz; cases e; exact r_mag Cq4_uni rfl x h
theorem Cq5_uni : Uni Cq5 := Cq4_uni.entry
noncomputable def Cq6 : PExt := Cq5.add 124 gFr
theorem Cq6_ok : ExtOk Tryz.prog Cq6 := Cq5_ok.add1 fol fun x z hz => by cases hz; exact r_frac Cq5_uni rfl rfl rfl x.1 x.2
theorem Cq6_uni : Uni Cq6 := Cq5_uni.entry
noncomputable def Cq7 : PExt := Cq6.add 93 gPi
theorem Cq7_ok : ExtOk Tryz.prog Cq7 := Cq6_ok.add1 fol fun x z hz => by cases hz; exact r_pitch Cq6_uni rfl rfl x.1 x.2
theorem Cq7_uni : Uni Cq7 := Cq6_uni.entry
noncomputable def Cq8 : PExt := Cq7.add 126 gBad
theorem Cq8_ok : ExtOk Tryz.prog Cq8 := Cq7_ok.add1 fol fun x z hz => by cases hz; exact r_bad Cq7_uni rfl x
theorem Cq8_uni : Uni Cq8 := Cq7_uni.entry
noncomputable def Cq9 : PExt := Cq8.add 147 gIxI
theorem Cq9_ok : ExtOk Tryz.prog Cq9 := Cq8_ok.addInts fun l hl => r_IndexI Cq8_uni rfl rfl l hl
theorem Cq9_uni : Uni Cq9 := Cq8_uni.entry
noncomputable def Cq10 : PExt := Cq9.add 125 gCoI
theorem Cq10_ok : ExtOk Tryz.prog Cq10 := Cq9_ok.addInts fun l hl => r_ContI Cq9_uni rfl rfl l hl
theorem Cq10_uni : Uni Cq10 := Cq9_uni.entry
noncomputable def Cq11 : PExt := Cq10.add 95 gWi
theorem Cq11_ok : ExtOk Tryz.prog Cq11 := Cq10_ok.add1 fol fun x z hz => by obtain ⟨h, e⟩ := gif_some hz; cases e; exact r_winds Cq10_uni rfl rfl x h
theorem Cq11_uni : Uni Cq11 := Cq10_uni.entry
noncomputable def Cq12 : PExt := Cq11.add 94 gFi
theorem Cq12_ok : ExtOk Tryz.prog Cq12 := Cq11_ok.add1 fol fun x z hz => by cases hz; exact r_first Cq11_uni rfl x
theorem Cq12_uni : Uni Cq12 := Cq11_uni.entry
noncomputable def Cq13 : PExt := Cq12.add 61 gRk
theorem Cq13_ok : ExtOk Tryz.prog Cq13 := Cq12_ok.add1 fol fun x z hz => by obtain ⟨h, e⟩ := gif_some hz; cases e; exact r_rankCheck Cq12_uni rfl rfl rfl rfl rfl x h.1 h.2.1 h.2.2
theorem Cq13_uni : Uni Cq13 := Cq12_uni.entry
noncomputable def Cq14 : PExt := Cq13.add 167 gIxD
theorem Cq14_ok : ExtOk Tryz.prog Cq14 := Cq13_ok.add2 fol fun x y z hz => by obtain ⟨h, e⟩ := gif_some hz; cases e; exact r_IndexD Cq13_uni rfl x y h
theorem Cq14_uni : Uni Cq14 := Cq13_uni.entry
noncomputable def Cq15 : PExt := Cq14.add 148 gCoD
theorem Cq15_ok : ExtOk Tryz.prog Cq15 := Cq14_ok.add2 fol fun x y z hz => by obtain ⟨h, e⟩ := gif_some hz; cases e; exact r_ContD Cq14_uni rfl rfl x y h
theorem Cq15_uni : Uni Cq15 := Cq14_uni.entry
noncomputable def Cq16 : PExt := Cq15.add 128 gDr
theorem Cq16_ok : ExtOk Tryz.prog Cq16 := Cq15_ok.add2 fol fun x y z hz => by obtain ⟨h, e⟩ := gif_some hz; cases e; exact r_draws Cq15_uni rfl rfl x.1 h.1 x.2.1 x.2.2 y h.2
theorem Cq16_uni : Uni Cq16 := Cq15_uni.entry
noncomputable def Cq17 : PExt := Cq16.add 127 gPlc
theorem Cq17_ok : ExtOk Tryz.prog Cq17 := Cq16_ok.add1 fol fun x z hz => by obtain ⟨h, e⟩ := gif_some hz; cases e; exact r_place Cq16_uni rfl rfl rfl x.1 h.1 h.2 x.2.1 x.2.2
theorem Cq17_uni : Uni Cq17 := Cq16_uni.entry
noncomputable def Cq18 : PExt := Cq17.add 97 gSt
theorem Cq18_ok : ExtOk Tryz.prog Cq18 := Cq17_ok.add2 fol fun x y z hz => by obtain ⟨h, e⟩ := gif_some hz; cases e; exact r_stop Cq17_uni rfl rfl rfl rfl rfl x.1 h.1 x.2.1 x.2.2 y h.2.1 h.2.2
theorem Cq18_uni : Uni Cq18 := Cq17_uni.entry
noncomputable def Cq19 : PExt := Cq18.add 99 gClC
theorem Cq19_ok : ExtOk Tryz.prog Cq19 := lib_clC Cq18_uni Cq18_ok rfl
theorem Cq19_uni : Uni Cq19 := Cq18_uni.other gClC_no
noncomputable def Cq20 : PExt := Cq19.add 129 (gNmC fun nm l => .int .i64 (ixF (nmC nm) l 0))
theorem Cq20_ok : ExtOk Tryz.prog Cq20 := lib_IndexC Cq19_uni Cq19_ok rfl rfl
theorem Cq20_uni : Uni Cq20 := Cq19_uni.other (gNmC_no _)
noncomputable def Cq21 : PExt := Cq20.add 98 (gNmC fun nm l => .bool (l.any (nmC nm)))
theorem Cq21_ok : ExtOk Tryz.prog Cq21 := lib_ContC Cq20_uni Cq20_ok rfl rfl
theorem Cq21_uni : Uni Cq21 := Cq20_uni.other (gNmC_no _)
noncomputable def Cq22 : PExt := Cq21.add 64 gCl
theorem Cq22_ok : ExtOk Tryz.prog Cq22 := Cq21_ok.add2 fol fun x y z hz => by obtain ⟨h, e⟩ := gif_some hz; cases e; exact r_coupler Cq21_uni rfl rfl rfl rfl x y h.1 h.2.1 h.2.2
theorem Cq22_uni : Uni Cq22 := Cq21_uni.entry
noncomputable def Cq23 : PExt := Cq22.add 62 gAg
theorem Cq23_ok : ExtOk Tryz.prog Cq23 := lib_again Cq22_uni Cq22_ok rfl
theorem Cq23_uni : Uni Cq23 := Cq22_uni.other gAg_no
noncomputable def Cq24 : PExt := Cq23.add 63 gDv
theorem Cq24_ok : ExtOk Tryz.prog Cq24 := Cq23_ok.add2 fol fun x y z hz => by obtain ⟨h, e⟩ := gif_some hz; cases e; exact r_div Cq23_uni rfl rfl rfl rfl x h.1 y h.2.2
theorem Cq24_uni : Uni Cq24 := Cq23_uni.entry
noncomputable def Cq25 : PExt := Cq24.add 27 gOr
theorem Cq25_ok : ExtOk Tryz.prog Cq25 := Cq24_ok.add1 fol fun x z hz => by obtain ⟨h, e⟩ := gif_some hz; cases e; exact r_organ Cq24_uni rfl rfl rfl rfl rfl rfl x h
theorem Cq25_uni : Uni Cq25 := Cq24_uni.entry
noncomputable def Cq26 : PExt := Cq25.add 53 gClD
theorem Cq26_ok : ExtOk Tryz.prog Cq26 := lib_clD Cq25_uni Cq25_ok rfl
theorem Cq26_uni : Uni Cq26 := Cq25_uni.other gClD_no
noncomputable def Cq27 : PExt := Cq26.add 52 gIxFD
theorem Cq27_ok : ExtOk Tryz.prog Cq27 := lib_IndexFuncD Cq26_uni Cq26_ok rfl rfl
theorem Cq27_uni : Uni Cq27 := Cq26_uni.other gIxFD_no
noncomputable def Cq28 : PExt := Cq27.add 55 gClS
theorem Cq28_ok : ExtOk Tryz.prog Cq28 := lib_clS Cq27_uni Cq27_ok rfl
theorem Cq28_uni : Uni Cq28 := Cq27_uni.other gClS_no
noncomputable def Cq29 : PExt := Cq28.add 54 gIxFS
theorem Cq29_ok : ExtOk Tryz.prog Cq29 := lib_IndexFuncS Cq28_uni Cq28_ok rfl rfl
theorem Cq29_uni : Uni Cq29 := Cq28_uni.other gIxFS_no
noncomputable def Cq30 : PExt := Cq29.add 20 gCm
theorem Cq30_ok : ExtOk Tryz.prog Cq30 := Cq29_ok.add2 fol fun x y z hz => by obtain ⟨h, e⟩ := gif_some hz; cases e; exact r_Common Cq29_uni rfl rfl rfl rfl x y h.1 h.2.1 h.2.2.1 h.2.2.2
theorem Cq30_uni : Uni Cq30 := Cq29_uni.entry
noncomputable def Cq31 : PExt := Cq30.add 11 gFits
theorem Cq31_ok : ExtOk Tryz.prog Cq31 := Cq30_ok.add1 fol fun x z hz => by cases hz; exact r_Fits Cq30_uni rfl x
theorem Cq31_uni : Uni Cq31 := Cq30_uni.entry
noncomputable def Cq32 : PExt := Cq31.add 67 (entry (gf1 u8e Em.feet fun n => gif (okU8 n) (some (allAt n))))
theorem Cq32_ok : ExtOk Tryz.prog Cq32 := Cq31_ok.add1 fol fun x z hz => by obtain ⟨h, e⟩ := gif_some hz; cases e; exact r_all Cq31_uni rfl x h
theorem Cq32_uni : Uni Cq32 := Cq31_uni.entry
noncomputable def Cq33 : PExt := Cq32.add 68 (entry (gf1 u8e Em.feet fun n => gif (okU8 n) (some (sixAt n))))
theorem Cq33_ok : ExtOk Tryz.prog Cq33 := Cq32_ok.add1 fol fun x z hz => by obtain ⟨h, e⟩ := gif_some hz; cases e; exact r_six Cq32_uni rfl x h
theorem Cq33_uni : Uni Cq33 := Cq32_uni.entry
noncomputable def Cq34 : PExt := Cq33.add 69 gSh
theorem Cq34_ok : ExtOk Tryz.prog Cq34 := ExtOk.pick shift_ok Cq33_ok (if_pos rfl)
theorem Cq34_uni : Uni Cq34 := Cq33_uni.entry
noncomputable def Cq35 : PExt := Cq34.add 30 gRM
theorem Cq35_ok : ExtOk Tryz.prog Cq35 := Cq34_ok.add2 fol fun x y z hz => by
  obtain ⟨h, e⟩ := gif_some hz
  cases e
  obtain ⟨a, rfl⟩ : ∃ a : Nat, y = a := ⟨y.toNat, by omega⟩
  rw [Int.toNat_natCast]
  exact r_rankMake Cq34_uni rfl rfl x h.1 a (by omega)
theorem Cq35_uni : Uni Cq35 := Cq34_uni.entry
noncomputable def Cq36 : PExt := Cq35.add 31 gPu
theorem Cq36_ok : ExtOk Tryz.prog Cq36 := Cq35_ok.addPull Cq35_uni rfl rfl rfl
theorem Cq36_uni : Uni Cq36 := Cq35_uni.entry
noncomputable def Cq37 : PExt := Cq36.add 13 gMake
theorem Cq37_ok : ExtOk Tryz.prog Cq37 := Cq36_ok.add1 fol fun x z hz => by obtain ⟨h, e⟩ := gif_some hz; cases e; exact r_Make Cq36_uni rfl rfl rfl x h.1 h.2
theorem Cq37_uni : Uni Cq37 := Cq36_uni.entry
noncomputable def Cq38 : PExt := Cq37.add 10 gKn
theorem Cq38_ok : ExtOk Tryz.prog Cq38 := ExtOk.pick known_ok Cq37_ok (if_pos rfl)
theorem Cq38_uni : Uni Cq38 := Cq37_uni.entry
end Go.Kz

/-
  CompareCommon holds: the law answers true, whatever it is handed.
-/
namespace Go.Proofs.YteegpeenjdgodaaGreatDoor
open Go Go.Kz Go.ChangeShapes Go.WideShapes Go.ChangeAt Go.WideMaps Go.WideElems Go.RowKit
set_option maxRecDepth 100000

theorem lifted_CompareCommon (os : Os) (started : os.Started) (H : Type) (enc : TypeId × Value → H) :
    ReturnsInHanded {} Tryz.checked os 5 .any (fun w args => (Rows.compareCommonSpec.pre enc Tryz.prog Tryz.f5 [] false w args ∧ laidMetH Tryz.prog laidL w) ∧ sizedMet enc Tryz.prog Tryz.f5 (OpenSpec.ofChange Rows.compareCommonSpec) false w args)
      (Rows.compareCommonSpec.post enc Tryz.prog Tryz.f5 false true false false) := by
  refine handed_shaped (C := Tryz.checked) (X := fun w _ => laidMetH Tryz.prog laidL w) (fun _ _ _ hh h => h.of_heap hh) own started (by kernel_rfl) Tryz.func5
    (ChangeSpec.witness_shaped (enc := enc) (C := Tryz.checked) (os := os) (X := fun w _ => laidMetH Tryz.prog laidL w) false (door os) #[.agg #[.slice none 0 0, .slice none 0 0, .slice none 0 0], .agg #[.slice none 0 0, .slice none 0 0, .slice none 0 0]] 12 rfl (World.shaped_of_RefB (by kernel_rfl) (by kernel_rfl)) (by kernel_rfl) (by kernel_rfl) (by kernel_rfl) (door_met os _)) ?_
  intro W base args ds gs before hsh hval hW _ _ hL _
  have hval : ∀ (j : Nat) t v, Tryz.f5.params[j]? = some t → args[j]? = some v → Value.okWide Tryz.prog W .any base t v := hval
  have hW' := hW
  obtain ⟨p, q, hA, _, _, _, _⟩ := hW
  have hA : DataW.TrodAll enc Tryz.prog W 0 (fun _ => true) true Tryz.f5.params.toList args.toList ds p := hA
  rw [Tryz.params5] at hA hval
  obtain ⟨v1, v2, d1, d2, p1, p2, rfl, _, _, h1, h2⟩ := trodAll_two hA
  obtain ⟨q1, t1, r1⟩ := arg_typed (n := 12) (t := 26) (v := v1) (by kernel_rfl) (hval 0 _ _ rfl rfl) h1
  obtain ⟨p1', e1, ok1⟩ := ty_plan t1
  rw [e1] at r1
  obtain ⟨q2, t2, r2⟩ := arg_typed (n := 12) (t := 26) (v := v2) (by kernel_rfl) (hval 1 _ _ rfl rfl) h2
  obtain ⟨p2', e2, ok2⟩ := ty_plan t2
  rw [e2] at r2
  have run := r_CompareCommon Cq38_uni rfl rfl rfl rfl rfl p1' p2' ok1 ok2
  refine (Run.calls Cq38_ok fol names run (glob hsh hL) (vrs_cons r1 (vrs_cons r2 vrs_nil))).mono fun e' W' ⟨he, hb⟩ => ?_
  subst he
  exact ⟨_, rfl, law_post laidOut rfl hW' hb rfl Tryz.underlying4 (by kernel_rfl) (fun ds hg hd => by
    subst hg
    match ds, hd with
    | [d1, d2], _ => rfl)⟩

theorem compareCommon_holds : Rows.CompareCommonSaid :=
  OpenClaim.holds_of_wide 5 Tryz.f5 rfl rfl rfl rfl rfl rfl rfl ⟨rfl, rfl, rfl, rfl, rfl⟩ rfl rfl rfl rfl rfl (by kernel_rfl) Tryz.func5 (by kernel_rfl)
    (of_decide_eq_true (by kernel_rfl)) (by unfold Func.isWrapper; first | (rw [if_pos (by decide +kernel)]; kernel_rfl) | (rw [if_neg (by decide +kernel)]; exact ⟨rfl, rfl⟩))
    (fun os started H enc _ => lifted_CompareCommon os started H enc)

theorem compareCommon_card : Rows.CompareCommonCardSaid :=
  Claim7.holds_tied_plain_at .later [] [.data, .data, .data] true (true, "fb728158b6e916623bad043b76e2826853c2cfa1ed62eb5aad62ad7867ddaab4") false
    compareCommon_holds (fun _ h => by cases h) (by kernel_rfl) (fun _ h => by cases h) compareCommon_row_tie rfl ⟨rfl, rfl⟩ (by kernel_rfl) rfl
    (fun f fn hf hfn => by
      obtain rfl : f = 5 := Option.some.inj ((show Tryz.prog.funcNamed "bombarde/bombardelaw51.CompareCommon" = some 5 by kernel_rfl).symm.trans hf) |>.symm
      obtain rfl : fn = Tryz.f5 := (Option.some.inj (Tryz.func5.symm.trans hfn)).symm
      exact ⟨by kernel_rfl, fun j t ht => by
        rw [Tryz.params5] at ht
        have hm := Array.mem_of_getElem? ht
        have hall : (#[26, 26].all fun u => !Tryz.prog.wantsStandIn u) = true := by kernel_rfl
        have := Array.all_eq_true_iff_forall_mem.1 hall t hm
        exact (show Tryz.prog.wantsStandIn t = false by simpa using this)⟩)
    (by kernel_rfl)
end Go.Proofs.YteegpeenjdgodaaGreatDoor
