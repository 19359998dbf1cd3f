/-
  SpanHands holds: for every player and every set the law answers true.
-/
import Derived.Test.YtclleofcjnggaaaDoorM
import Derived.Test.YtclleofcjnggaaaDoorCards
import Derived.Test.YtclleofcjnggaaaDoorTie
import Derived.SevenTiedAt
set_option linter.all false
namespace Go.Proofs.YtclleofcjnggaaaDoor
open Go Go.Kz Go.ChangeShapes Go.WideShapes Go.ChangeAt Go.WideMaps Go.WideElems Go.RowKit
set_option maxRecDepth 100000

theorem own : ownKnob Tryd.prog.godebug = none := by kernel_rfl
theorem laidOut : laidOutB Tryd.prog = true := by kernel_rfl
theorem gDb : Tryd.prog.globalNamed "math/bits.deBruijn64tab" = some 0 := by kernel_rfl
theorem tDb : (Tryd.prog.globals[0]?).map (·.type) = some 94 := by kernel_rfl

abbrev laidL {H : Type} : List (String × DataW H) := [("math/bits.deBruijn64tab", Rows.laid_math_bits_deBruijn64tab)]

theorem door_met (os : Os) (args : Array Value) : laidMetH Tryd.prog laidL ((World.doorLaid Tryd.prog 400 os).forCall (fun _ _ => 0) ⟨#[], args, []⟩).memory :=
  laidMetH_of_parts3 (fuel := 8) (laidMet_of_run' 8 (by kernel_rfl) (by kernel_rfl)) (by kernel_rfl) (by kernel_rfl)

theorem glob {W : World} (h : laidMetH Tryd.prog laidL W) : Gl (.start W) := by
  intro g ds hg
  by_cases h0 : g = 0
  · subst h0
    rw [gcells0] at hg
    simp only [Option.some.injEq] at hg
    subst hg
    exact glob_of_laid (P := Tryd.prog) (nm := "math/bits.deBruijn64tab") (k := .u8) (xs := tab64) (g := 0) (n := 64) h (by kernel_rfl) gDb tDb Tryd.underlying94 Tryd.underlying5 (by kernel_rfl)
  · unfold gcells gtab at hg
    simp [h0] at hg

section
variable {H : Type} {enc : TypeId × Value → H} {w : World} {base : Nat} {sp : Nat → Bool} {held : Bool}

/-- A struct of four integers. -/
theorem open_player {v : Value} {d : DataW H} {ps : List MemPlace} (hv : Value.okWide Tryd.prog w .any base 23 v) (h : DataW.Trod enc Tryd.prog w 0 sp held 23 v d ps) :
    ∃ a b c e : Int, v = .agg #[.int .i64 a, .int .i64 b, .int .i64 c, .int .i64 e] := by
  obtain ⟨cs, rfl, hsz, _⟩ : ∃ cs, v = .agg cs ∧ cs.size = Tryd.prog.cellsOf 23 ∧ True := by
    unfold Value.okWide at hv
    rw [Tryd.underlying23] at hv
    obtain ⟨cs, h1, h2, _⟩ := hv
    exact ⟨cs, h1, h2, trivial⟩
  obtain ⟨fuel, h⟩ := h
  obtain ⟨xs, n, rfl, hx, hl, hn, hf⟩ := DataW.trod_struct Tryd.underlying23 h
  have h4 : Tryd.prog.cellsOf 23 = 4 := by kernel_rfl
  have h1 : Tryd.prog.cellsOf 3 = 1 := by kernel_rfl
  rw [h4] at hl
  obtain ⟨l⟩ := cs
  have hl : l.length = _ := hl
  match l, hl with
  | [c0, c1, c2, c3], _ =>
    match xs, hn with
    | [x0, x1, x2, x3], _ =>
      have f0 := hf 0 _ rfl
      have f1 := hf 1 _ rfl
      have f2 := hf 2 _ rfl
      have f3 := hf 3 _ rfl
      simp [Value.cells, h1] at f0 f1 f2 f3
      obtain ⟨a, e0, _⟩ := DataW.trod_int Tryd.underlying3 f0
      obtain ⟨b, e1, _⟩ := DataW.trod_int Tryd.underlying3 f1
      obtain ⟨c, e2, _⟩ := DataW.trod_int Tryd.underlying3 f2
      obtain ⟨e, e3, _⟩ := DataW.trod_int Tryd.underlying3 f3
      simp only [List.cons.injEq, and_true] at e0 e1 e2 e3
      exact ⟨a, b, c, e, by rw [e0, e1, e2, e3]⟩

/-- A struct of two words. -/
theorem open_notes {v : Value} {d : DataW H} {ps : List MemPlace} (hv : Value.okWide Tryd.prog w .any base 26 v) (h : DataW.Trod enc Tryd.prog w 0 sp held 26 v d ps) :
    ∃ a b : BitVec 64, v = .agg #[.int .u64 (tn a), .int .u64 (tn b)] := by
  obtain ⟨cs, rfl, hsz, _⟩ : ∃ cs, v = .agg cs ∧ cs.size = Tryd.prog.cellsOf 26 ∧ True := by
    unfold Value.okWide at hv
    rw [Tryd.underlying26] at hv
    obtain ⟨cs, h1, h2, _⟩ := hv
    exact ⟨cs, h1, h2, trivial⟩
  obtain ⟨fuel, h⟩ := h
  obtain ⟨xs, n, rfl, hx, hl, hn, hf⟩ := DataW.trod_struct Tryd.underlying26 h
  have h4 : Tryd.prog.cellsOf 26 = 2 := by kernel_rfl
  have h1 : Tryd.prog.cellsOf 24 = 1 := by kernel_rfl
  have key : ∀ z : Int, (Lit.int .u64 z).wf = true → ∃ a : BitVec 64, z = tn a := by
    intro z hz
    simp only [Lit.wf, IntKind.min, IntKind.max, IntKind.signed, IntKind.bits] at hz
    have h5 : 0 ≤ z ∧ z < 18446744073709551616 := by
      simp at hz
      omega
    refine ⟨BitVec.ofNat 64 z.toNat, ?_⟩
    rw [tn_eq, BitVec.toNat_ofNat, Nat.mod_eq_of_lt (by omega)]
    omega
  rw [h4] at hl
  obtain ⟨l⟩ := cs
  have hl : l.length = _ := hl
  match l, hl with
  | [c0, c1], _ =>
    match xs, hn with
    | [x0, x1], _ =>
      have f0 := hf 0 _ rfl
      have f1 := hf 1 _ rfl
      simp [Value.cells, h1] at f0 f1
      obtain ⟨a, e0, _, w0⟩ := DataW.trod_int Tryd.underlying24 f0
      obtain ⟨b, e1, _, w1⟩ := DataW.trod_int Tryd.underlying24 f1
      simp only [List.cons.injEq, and_true] at e0 e1
      obtain ⟨a', rfl⟩ := key a w0
      obtain ⟨b', rfl⟩ := key b w1
      exact ⟨a', b', by rw [e0, e1]⟩
end

theorem stands_player {c : Cx} {a b d e : Int} : VR c (.agg #[.int .i64 a, .int .i64 b, .int .i64 d, .int .i64 e]) (Em.player.emb ⟨a, b, d, e⟩) := by
  rw [emb_player]
  exact .agg [.int .i64 a, .int .i64 b, .int .i64 d, .int .i64 e] [.int .i64 a, .int .i64 b, .int .i64 d, .int .i64 e] rfl (by simp [Value.oneCell']) (fun i v p hv hp => by
    match i, hv, hp with
    | 0, hv, hp => simp at hv hp; subst hv hp; exact .int _ _
    | 1, hv, hp => simp at hv hp; subst hv hp; exact .int _ _
    | 2, hv, hp => simp at hv hp; subst hv hp; exact .int _ _
    | 3, hv, hp => simp at hv hp; subst hv hp; exact .int _ _
    | n + 4, hv, hp => simp at hv)
theorem stands_notes {c : Cx} {a b : BitVec 64} : VR c (.agg #[.int .u64 (tn a), .int .u64 (tn b)]) (Em.notes.emb ⟨a, b⟩) := by
  rw [emb_notes]
  exact .agg [.int .u64 (tn a), .int .u64 (tn b)] [.int .u64 (tn a), .int .u64 (tn b)] rfl (by simp [Value.oneCell']) (fun i v p hv hp => by
    match i, hv, hp with
    | 0, hv, hp => simp at hv hp; subst hv hp; exact .int _ _
    | 1, hv, hp => simp at hv hp; subst hv hp; exact .int _ _
    | n + 2, hv, hp => simp at hv)

theorem vrs2 {c : Cx} {v1 v2 : Value} {p1 p2 : PD} (h1 : VR c v1 p1) (h2 : VR c v2 p2) : VRs c [v1, v2] [p1, p2] :=
  ⟨rfl, fun i v d hv hd => by
    match i, hv, hd with
    | 0, hv, hd => simp at hv hd; subst hv hd; exact h1
    | 1, hv, hd => simp at hv hd; subst hv hd; exact h2
    | n + 2, hv, hd => simp at hv⟩

theorem lifted (os : Os) (started : os.Started) (H : Type) (enc : TypeId × Value → H) :
    ReturnsInHanded {} Tryd.checked os 7 .any (fun w args => (Rows.spanHandsSpec.pre enc Tryd.prog Tryd.f7 [] false w args ∧ laidMetH Tryd.prog laidL w) ∧ sizedMet enc Tryd.prog Tryd.f7 (OpenSpec.ofChange Rows.spanHandsSpec) false w args)
      (Rows.spanHandsSpec.post enc Tryd.prog Tryd.f7 false true false false) := by
  refine returnsInHanded_of_change_and (C := Tryd.checked) (X := fun w _ => laidMetH Tryd.prog laidL w) (fun _ _ _ hh h => h.of_heap hh) own started (by kernel_rfl) Tryd.func7
    (ChangeSpec.witness_shaped (enc := enc) (C := Tryd.checked) (os := os) (X := fun w _ => laidMetH Tryd.prog laidL w) false (World.doorLaid Tryd.prog 400 os) #[.agg #[.int .i64 0, .int .i64 0, .int .i64 0, .int .i64 0], .agg #[.int .u64 0, .int .u64 0]] 8 rfl (World.shaped_of_RefB (by kernel_rfl) (by kernel_rfl)) (by kernel_rfl) (by kernel_rfl) (by kernel_rfl) (door_met os _)) ?_
  intro W base args ds gs before hval hW _ _ hL _
  have hval : ∀ (j : Nat) t v, Tryd.f7.params[j]? = some t → args[j]? = some v → Value.okWide Tryd.prog W .any base t v := hval
  have hW' := hW
  obtain ⟨p, q, hA, _, _, _, _⟩ := hW
  have hA : DataW.TrodAll enc Tryd.prog W 0 (fun _ => true) true Tryd.f7.params.toList args.toList ds p := hA
  rw [Tryd.params7] at hA hval
  obtain ⟨v1, v2, d1, d2, p1, p2, rfl, _, _, h1, h2⟩ := trodAll_two hA
  obtain ⟨a, b, c, e, rfl⟩ := open_player (hval 0 _ _ rfl rfl) h1
  obtain ⟨x, y, rfl⟩ := open_notes (hval 1 _ _ rfl rfl) h2
  have run := r_SpanHands E11_uni rfl rfl rfl rfl rfl rfl ⟨a, b, c, e⟩ ⟨x, y⟩
  refine (Run.calls E11_ok follows names run (glob hL) (vrs2 stands_player stands_notes)).mono fun e' W' ⟨he, hb⟩ => ?_
  subst he
  exact ⟨_, rfl, law_post laidOut rfl hW' hb rfl Tryd.underlying4 (by kernel_rfl) (fun ds hg hd => by
    subst hg
    match ds, hd with
    | [d1, d2], _ => rfl)⟩

theorem spanHands_holds : Rows.SpanHandsSaid :=
  OpenClaim.holds_of_wide 7 Tryd.f7 rfl rfl rfl rfl rfl rfl rfl ⟨rfl, rfl, rfl, rfl, rfl⟩ rfl rfl rfl rfl rfl (by kernel_rfl) Tryd.func7 (by kernel_rfl)
    (of_decide_eq_true (by kernel_rfl)) (by unfold Func.isWrapper; first | (rw [if_pos (by decide +kernel)]; kernel_rfl) | (rw [if_neg (by decide +kernel)]; exact ⟨rfl, rfl⟩))
    (fun os started H enc _ => lifted os started H enc)

theorem spanHands_card : Rows.SpanHandsCardSaid :=
  Claim7.holds_tied_plain_at .later [] [.data] true (true, "40abfb383b17e30e6d7cad2be2972cbafc1276e76edec2d6e229a2e74b8f3c14") false
    spanHands_holds (fun _ h => by cases h) (by kernel_rfl) (fun _ h => by cases h) spanHands_row_tie rfl ⟨rfl, rfl⟩ (by kernel_rfl) rfl
    (fun f fn hf hfn => by
      obtain rfl : f = 7 := Option.some.inj ((show Tryd.prog.funcNamed "bombarde/bombardelaw11.SpanHands" = some 7 by kernel_rfl).symm.trans hf) |>.symm
      obtain rfl : fn = Tryd.f7 := (Option.some.inj (Tryd.func7.symm.trans hfn)).symm
      exact ⟨by kernel_rfl, fun j t ht => by
        rw [Tryd.params7] at ht
        have hm := Array.mem_of_getElem? ht
        have hall : (#[23, 26].all fun u => !Tryd.prog.wantsStandIn u) = true := by kernel_rfl
        have := Array.all_eq_true_iff_forall_mem.1 hall t hm
        exact (show Tryd.prog.wantsStandIn t = false by simpa using this)⟩)
    (by kernel_rfl)
end Go.Proofs.YtclleofcjnggaaaDoor
