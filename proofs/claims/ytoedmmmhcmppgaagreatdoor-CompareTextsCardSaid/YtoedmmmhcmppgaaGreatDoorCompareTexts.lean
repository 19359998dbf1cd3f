/-
  CompareTexts holds: the law answers true, whatever it is handed.
-/
import Derived.Test.YtoedmmmhcmppgaaGreatDoorP8
set_option linter.all false

/-
  CompareTexts holds: the law answers true, whatever it is handed.
-/
namespace Go.Proofs.YtoedmmmhcmppgaaGreatDoor
open Go Go.Kz Go.ChangeShapes Go.WideShapes Go.ChangeAt Go.WideMaps Go.WideElems Go.RowKit
set_option maxRecDepth 100000

theorem lifted_CompareTexts (os : Os) (started : os.Started) (H : Type) (enc : TypeId × Value → H) :
    ReturnsInHanded {} Tryz.checked os 3 .any (fun w args => (Rows.compareTextsSpec.pre enc Tryz.prog Tryz.f3 [] false w args ∧ laidMetH Tryz.prog laidL w) ∧ sizedMet enc Tryz.prog Tryz.f3 (OpenSpec.ofChange Rows.compareTextsSpec) false w args)
      (Rows.compareTextsSpec.post enc Tryz.prog Tryz.f3 false true false false) := by
  refine handed_shaped (C := Tryz.checked) (X := fun w _ => laidMetH Tryz.prog laidL w) (fun _ _ _ hh h => h.of_heap hh) own started (by kernel_rfl) Tryz.func3
    (ChangeSpec.witness_shaped (enc := enc) (C := Tryz.checked) (os := os) (X := fun w _ => laidMetH Tryz.prog laidL w) false (door os) #[.agg #[.int .i64 0, .int .i64 0, .int .i64 0, .string ⟨#[]⟩, .string ⟨#[]⟩, .string ⟨#[]⟩, .int .i64 0, .int .i64 0, .int .i64 0, .slice none 0 0, .string ⟨#[]⟩, .bool false, .int .i64 0, .int .i64 0, .slice none 0 0, .string ⟨#[]⟩, .int .i64 0, .int .i64 0, .slice none 0 0, .string ⟨#[]⟩, .int .i64 0, .int .i64 0, .int .i64 0, .bool false]] 12 rfl (World.shaped_of_RefB (by kernel_rfl) (by kernel_rfl)) (by kernel_rfl) (by kernel_rfl) (by kernel_rfl) (door_met os _)) ?_
  intro W base args ds gs before hsh hval hW _ hsz hL _
  have hval : ∀ (j : Nat) t v, Tryz.f3.params[j]? = some t → args[j]? = some v → Value.okWide Tryz.prog W .any base t v := hval
  have hW' := hW
  obtain ⟨p, q, hA, _, _, _, _⟩ := hW
  have hA : DataW.TrodAll enc Tryz.prog W 0 (fun _ => true) true Tryz.f3.params.toList args.toList ds p := hA
  rw [Tryz.params3] at hA hval hsz
  obtain ⟨v1, d1, rfl, rfl, h1⟩ := trodAll_one hA
  obtain ⟨q1, t1, r1⟩ := arg_typed (n := 12) (t := 38) (v := v1) (by kernel_rfl) (hval 0 _ _ rfl rfl) h1
  obtain ⟨k, d, i, nm, rn, rt, fn, sn, cn, ra, rb, rf, fl, fh, sa, sb, ca, cb, cs, fp, ct, wk, sk, gk, Wd, S, G, e1, hWd, hS, hG, hi, hd⟩ := ty_edit t1
  obtain ⟨cv, rfl, _, _⟩ : ∃ cv, v1 = .agg cv ∧ True ∧ True := by
    have this : Value.okWide Tryz.prog W .any base 38 v1 := hval 0 _ _ rfl rfl
    unfold Value.okWide at this
    rw [Tryz.underlying38] at this
    obtain ⟨cv, e, _⟩ := this
    exact ⟨cv, e, trivial, trivial⟩
  have e2 : asPD Tryz.prog 38 q1 = .agg q1 := asPD_agg (by kernel_rfl)
  rw [e2] at r1
  have hR : ∀ s, Value.string s ∈ cv.toList → s.size ≤ reachBytes := by
    obtain ⟨fuel, h1⟩ := h1
    exact trod_strings fuel 12 38 cv.toList _ h1 (by kernel_rfl) (fun g hg => by
      have := List.all_eq_true.1 hsz g (weightsEach_at _ _ 0 38 d1 rfl rfl g hg)
      exact of_decide_eq_true this)
  have hq : q1 = (edt k d i nm rn rt fn sn cn ra rb rf fl fh sa sb ca cb cs fp ct wk sk gk Wd S G).cells := by rw [← e1]; rfl
  have hb47 : reachBytes ≤ 140737488355328 := by decide
  have n1 : nm.length ≤ 140737488355328 := Nat.le_trans (str_len (j := 3) r1 hR (by rw [hq]; rfl)) hb47
  have n2 : rn.length ≤ 140737488355328 := Nat.le_trans (str_len (j := 4) r1 hR (by rw [hq]; rfl)) hb47
  have n3 : fn.length ≤ 140737488355328 := Nat.le_trans (str_len (j := 10) r1 hR (by rw [hq]; rfl)) hb47
  have n4 : sn.length ≤ 140737488355328 := Nat.le_trans (str_len (j := 15) r1 hR (by rw [hq]; rfl)) hb47
  have n5 : cn.length ≤ 140737488355328 := Nat.le_trans (str_len (j := 19) r1 hR (by rw [hq]; rfl)) hb47
  rw [e1] at r1
  have run := run_CompareTexts k d i nm rn rt fn sn cn ra rb rf fl fh sa sb ca cb cs fp ct wk sk gk Wd S G hWd hS hG hi hd ⟨n1, n2, n3, n4, n5⟩
  refine (Run.calls Lx_ok fol names run (glob hsh hL) (vrs_cons r1 vrs_nil)).mono fun e' W' ⟨he, hb⟩ => ?_
  subst he
  exact ⟨_, rfl, law_post laidOut rfl hW' hb rfl Tryz.underlying4 (by kernel_rfl) (fun ds hg hd => by
    subst hg
    match ds, hd with
    | [d1], _ => rfl)⟩

theorem compareTexts_holds : Rows.CompareTextsSaid :=
  OpenClaim.holds_of_wide 3 Tryz.f3 rfl rfl rfl rfl rfl rfl rfl ⟨rfl, rfl, rfl, rfl, rfl⟩ rfl rfl rfl rfl rfl (by kernel_rfl) Tryz.func3 (by kernel_rfl)
    (of_decide_eq_true (by kernel_rfl)) (by unfold Func.isWrapper; first | (rw [if_pos (by decide +kernel)]; kernel_rfl) | (rw [if_neg (by decide +kernel)]; exact ⟨rfl, rfl⟩))
    (fun os started H enc _ => lifted_CompareTexts os started H enc)

theorem compareTexts_card : Rows.CompareTextsCardSaid :=
  Claim7.holds_tied_plain_at .later [] [.data, .data, .data] true (true, "032280b46bea2eaa57fcb19b587bf625fdacba862833079dd1ecf173e9fd1208") false
    compareTexts_holds (fun _ h => by cases h) (by kernel_rfl) (fun _ h => by cases h) compareTexts_row_tie rfl ⟨rfl, rfl⟩ (by kernel_rfl) rfl
    (fun f fn hf hfn => by
      obtain rfl : f = 3 := Option.some.inj ((show Tryz.prog.funcNamed "bombarde/bombardelaw51.CompareTexts" = some 3 by kernel_rfl).symm.trans hf) |>.symm
      obtain rfl : fn = Tryz.f3 := (Option.some.inj (Tryz.func3.symm.trans hfn)).symm
      exact ⟨by kernel_rfl, fun j t ht => by
        rw [Tryz.params3] at ht
        have hm := Array.mem_of_getElem? ht
        have hall : (#[38].all fun u => !Tryz.prog.wantsStandIn u) = true := by kernel_rfl
        have := Array.all_eq_true_iff_forall_mem.1 hall t hm
        exact (show Tryz.prog.wantsStandIn t = false by simpa using this)⟩)
    (by kernel_rfl)
end Go.Proofs.YtoedmmmhcmppgaaGreatDoor
