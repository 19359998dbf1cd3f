/-
  LexerRefuses holds: the law answers true, whatever it is handed.
-/
import Derived.Test.YtngmkfjeekpnpaaDoorP6
import Derived.Test.YtngmkfjeekpnpaaDoorP9
set_option linter.all false

/-
  What LexerRefuses is handed.
-/
namespace Go.Proofs.YtngmkfjeekpnpaaDoor
open Go Go.Kz Go.ChangeShapes Go.WideShapes Go.ChangeAt Go.WideMaps Go.WideElems Go.RowKit
set_option maxRecDepth 100000
theorem ty_frac {d : Nat} {qs : List PD} (h : Typed Tryd.prog (d + 2) 39 qs) : ∃ s : Frac, qs = EmC.frac.cells s := by
  obtain ⟨q0, r0, rfl, h0, h⟩ := typedF_cons (typed_struct Tryd.underlying39 h)
  obtain ⟨q1, r1, rfl, h1, h⟩ := typedF_cons h
  obtain rfl := typedF_nil h
  obtain ⟨a, rfl, wa⟩ := typed_int Tryd.underlying3 h0
  obtain ⟨b, rfl, wb⟩ := typed_int Tryd.underlying3 h1
  exact ⟨(a, b), rfl⟩
theorem ty_token {d : Nat} {qs : List PD} (h : Typed Tryd.prog (d + 3) 41 qs) : ∃ t : Tk, asPD Tryd.prog 41 qs = Em.tk.emb t := by
  obtain ⟨q0, r0, rfl, h0, h⟩ := typedF_cons (typed_struct Tryd.underlying41 h)
  obtain ⟨q1, r1, rfl, h1, h⟩ := typedF_cons h
  obtain ⟨q2, r2, rfl, h2, h⟩ := typedF_cons h
  obtain ⟨q3, r3, rfl, h3, h⟩ := typedF_cons h
  obtain ⟨q4, r4, rfl, h4, h⟩ := typedF_cons h
  obtain ⟨q5, r5, rfl, h5, h⟩ := typedF_cons h
  obtain rfl := typedF_nil h
  obtain ⟨a, rfl, _⟩ := typed_int Tryd.underlying3 h0
  obtain ⟨b, rfl, _⟩ := typed_str Tryd.underlying9 h1
  obtain ⟨c, rfl, _⟩ := typed_int Tryd.underlying3 h2
  obtain ⟨f, rfl⟩ := ty_frac h3
  obtain ⟨e, rfl, _⟩ := typed_int Tryd.underlying3 h4
  obtain ⟨g, rfl, _⟩ := typed_int Tryd.underlying3 h5
  exact ⟨⟨a, b, c, f, e, g⟩, asPD_agg (by kernel_rfl)⟩
theorem ty_tokens {d : Nat} {qs : List PD} (h : Typed Tryd.prog (d + 4) 24 qs) : ∃ l : List Tk, asPD Tryd.prog 24 qs = tks.emb l ∧ l.length ≤ maxLen := by
  obtain ⟨ys, rfl, h1, _⟩ := typed_list (em := Em.tk) (R := fun _ => True) Tryd.underlying24 (k := 7) (by kernel_rfl) (fun x hx => by obtain ⟨s, hs⟩ := ty_token hx; exact ⟨s, hs, trivial⟩) h
  exact ⟨ys, asPD_one (by kernel_rfl), h1⟩
end Go.Proofs.YtngmkfjeekpnpaaDoor

/-
  LexerRefuses holds: the law answers true, whatever it is handed.
-/
namespace Go.Proofs.YtngmkfjeekpnpaaDoor
open Go Go.Kz Go.ChangeShapes Go.WideShapes Go.ChangeAt Go.WideMaps Go.WideElems Go.RowKit
set_option maxRecDepth 100000

theorem lifted_LexerRefuses (os : Os) (started : os.Started) (H : Type) (enc : TypeId × Value → H) :
    ReturnsInHanded {} Tryd.checked os 8 .any (fun w args => (Rows.lexerRefusesSpec.pre enc Tryd.prog Tryd.f8 [] false w args ∧ laidMetH Tryd.prog laidL w) ∧ sizedMet enc Tryd.prog Tryd.f8 (OpenSpec.ofChange Rows.lexerRefusesSpec) false w args)
      (Rows.lexerRefusesSpec.post enc Tryd.prog Tryd.f8 false true false false) := by
  refine handed_shaped (C := Tryd.checked) (X := fun w _ => laidMetH Tryd.prog laidL w) (fun _ _ _ hh h => h.of_heap hh) own started (by kernel_rfl) Tryd.func8
    (ChangeSpec.witness_shaped (enc := enc) (C := Tryd.checked) (os := os) (X := fun w _ => laidMetH Tryd.prog laidL w) false (lexDoor os) #[.slice none 0 0, .agg #[.int .i64 0, .string ⟨#[]⟩, .int .i64 0, .int .i64 0, .int .i64 0, .int .i64 0, .int .i64 0]] 12 rfl (World.shaped_of_RefB (by kernel_rfl) (by kernel_rfl)) (by kernel_rfl) (by kernel_rfl) (by kernel_rfl) (door_met os _)) ?_
  intro W base args ds gs before hsh hval hW _ _ hL _
  have hval : ∀ (j : Nat) t v, Tryd.f8.params[j]? = some t → args[j]? = some v → Value.okWide Tryd.prog W .any base t v := hval
  have hW' := hW
  obtain ⟨p, q, hA, _, _, _, _⟩ := hW
  have hA : DataW.TrodAll enc Tryd.prog W 0 (fun _ => true) true Tryd.f8.params.toList args.toList ds p := hA
  rw [Tryd.params8] at hA hval
  obtain ⟨v1, v2, d1, d2, p1, p2, rfl, _, _, h1, h2⟩ := trodAll_two hA
  obtain ⟨q1, t1, r1⟩ := arg_typed (n := 12) (t := 24) (v := v1) (by kernel_rfl) (hval 0 _ _ rfl rfl) h1
  obtain ⟨l, e1, hl⟩ := ty_tokens t1
  rw [e1] at r1
  obtain ⟨q2, t2, r2⟩ := arg_typed (n := 12) (t := 41) (v := v2) (by kernel_rfl) (hval 1 _ _ rfl rfl) h2
  obtain ⟨t, e2⟩ := ty_token t2
  rw [e2] at r2
  have run := r_Refuses En2_uni rfl rfl rfl rfl rfl rfl rfl rfl rfl l t hl
  refine (Run.calls En2_ok follows names run (glob hsh hL) (vrs_cons r1 (vrs_cons r2 vrs_nil))).mono fun e' W' ⟨he, hb⟩ => ?_
  subst he
  exact ⟨_, rfl, law_post laidOut rfl hW' hb rfl Tryd.underlying4 (by kernel_rfl) (fun ds hg hd => by
    subst hg
    match ds, hd with
    | [d1, d2], _ => rfl)⟩

theorem lexerRefuses_holds : Rows.LexerRefusesSaid :=
  OpenClaim.holds_of_wide 8 Tryd.f8 rfl rfl rfl rfl rfl rfl rfl ⟨rfl, rfl, rfl, rfl, rfl⟩ rfl rfl rfl rfl rfl (by kernel_rfl) Tryd.func8 (by kernel_rfl)
    (of_decide_eq_true (by kernel_rfl)) (by unfold Func.isWrapper; first | (rw [if_pos (by decide +kernel)]; kernel_rfl) | (rw [if_neg (by decide +kernel)]; exact ⟨rfl, rfl⟩))
    (fun os started H enc _ => lifted_LexerRefuses os started H enc)

theorem lexerRefuses_card : Rows.LexerRefusesCardSaid :=
  Claim7.holds_tied_plain_at .later [] [.data, .data, .data, .data, .pinned] true (true, "c0be699b855568e9df29e407351f013d4f347c995e2c35068880bb9fe0430a49") false
    lexerRefuses_holds (fun _ h => by cases h) (by kernel_rfl) (fun _ h => by cases h) lexerRefuses_row_tie rfl ⟨rfl, rfl⟩ (by kernel_rfl) rfl
    (fun f fn hf hfn => by
      obtain rfl : f = 8 := Option.some.inj ((show Tryd.prog.funcNamed "bombarde/bombardelaw19.LexerRefuses" = some 8 by kernel_rfl).symm.trans hf) |>.symm
      obtain rfl : fn = Tryd.f8 := (Option.some.inj (Tryd.func8.symm.trans hfn)).symm
      exact ⟨by kernel_rfl, fun j t ht => by
        rw [Tryd.params8] at ht
        have hm := Array.mem_of_getElem? ht
        have hall : (#[24, 41].all fun u => !Tryd.prog.wantsStandIn u) = true := by kernel_rfl
        have := Array.all_eq_true_iff_forall_mem.1 hall t hm
        exact (show Tryd.prog.wantsStandIn t = false by simpa using this)⟩)
    (by kernel_rfl)
end Go.Proofs.YtngmkfjeekpnpaaDoor
