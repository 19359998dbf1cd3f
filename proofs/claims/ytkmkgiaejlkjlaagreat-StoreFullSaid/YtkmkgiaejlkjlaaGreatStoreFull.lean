/-
  StoreFull holds: the law answers true, whatever it is handed.
-/
import Derived.Test.YtkmkgiaejlkjlaaGreatPE
import Derived.Test.YtkmkgiaejlkjlaaGreatPA
import Derived.Test.YtkmkgiaejlkjlaaGreatP8
import Derived.Test.YtkmkgiaejlkjlaaGreatP4
import Derived.Test.YtkmkgiaejlkjlaaGreatP3
import Derived.Test.YtkmkgiaejlkjlaaGreatRows
import Derived.Handed
import Derived.JoinedOf
set_option linter.all false

/-
  Chapter 53: the table of StoreFull.
-/
namespace Go.Kz
open Go Go.Proofs
set_option maxRecDepth 100000
theorem PuR_ok : ExtOk Tryz.prog PuR := ExtOk.pick Pu7_ok (ExtOk.pick Pu6_ok PuS_ok (if_pos rfl)) (if_pos rfl)
/-- An entry that may be met with nil. -/
noncomputable def gBoth (E : PExt) (f : FuncId) := gOr (gNew Tryz.prog E 1000 f) (gRun Tryz.prog E 1000 f)
theorem gBoth_ok {E : PExt} (h : ExtOk Tryz.prog E) (f : FuncId) : ExtOk Tryz.prog (E.add f (gBoth E f)) := ExtOk.addOr (h.addNewR fol 1000 f) (h.addRun fol 1000 f)
theorem gBoth_no (E : PExt) (f : FuncId) : NoNil (gBoth E f) := (NoNil.new _ _ _ _).or (.run _ _ _ _)
theorem gBoth_run {E : PExt} {f : FuncId} {id off : Nat} {rest : List PD} {σ σ' : List SObj} {p : PD} (h : pcallF Tryz.prog E 1000 0 (.inl f) (.ptr id off :: rest) σ = some (p, σ')) (hσ : σ' ≠ []) : gBoth E f 0 (.ptr id off :: rest) σ = some (p, σ') := gOr_r (gNew_not rfl) (gRun_of' h hσ)
theorem gBoth_new {E : PExt} {f : FuncId} {args : List PD} {σ σ1 : List SObj} {p : PD} (h : pcallF Tryz.prog E 1000 0 (.inl f) (args.map PD.strip) [] = some (p, σ1)) (hi : PD.idfreeL (args.map PD.strip) = true) (hσ : σ ≠ []) : gBoth E f 0 args σ = some (p.sh σ.length, σ ++ σ1.map (SObj.sh σ.length)) := gOr_l (gNew_of h hi hσ)
theorem gBoth_nil {E : PExt} {f : FuncId} {args : List PD} {σ : List SObj} {p : PD} (h : pcallF Tryz.prog E 1000 0 (.inl f) (args.map PD.strip) [] = some (p, [])) (hi : PD.idfreeL (args.map PD.strip) = true) (hσ : σ ≠ []) : gBoth E f 0 args σ = some (p.sh σ.length, σ) := by
  have := gBoth_new (σ := σ) h hi hσ
  rwa [List.map_nil, List.append_nil] at this
noncomputable def gOpen := gOr (gOr (gOne [.slice 1 ((jl 2).map u8.emb) .any] (.tup [.ptr 3 0, .int .i64 2076, .int .i64 0]) (SP 199)) (gOne [.slice 1 ((jl 3).map u8.emb) .any] (.tup [.ptr 3 0, .int .i64 2076, .int .i64 0]) (SP 199))) (gRun Tryz.prog PuS 1000 18)
theorem gOpen_no : NoNil gOpen := ((NoNil.one _ _ _).or (.one _ _ _)).or (.run _ _ _ _)
theorem jl_emb (k : Int) : J199 ++ eK k = (jl k).map u8.emb := by
  have : eK k = (zs (eN k)).map u8.emb := by
    unfold eK eN
    split
    · exact bs_zs _
    · exact bs_zs _
  rw [this]
  unfold J199 jl
  rw [bs_zs, List.map_append]
theorem strip_u8s (l : List Int) (hl : l ≠ []) (t : Tok) : PD.strip (.slice 1 (l.map u8.emb) t) = .slice 1 (l.map u8.emb) .any := by
  rw [PD.strip_slice, emb_strip, if_neg (by simp [hl])]
theorem jl_ne (k : Int) : jl k ≠ [] := by
  intro e
  have := jl_len k
  rw [e] at this
  cases this
theorem open_args (k : Int) : [PD.slice 1 (J199 ++ eK k) (.own 1022)].map PD.strip = [.slice 1 ((jl k).map u8.emb) .any] := by
  rw [jl_emb]
  show [PD.strip _] = _
  rw [strip_u8s _ (jl_ne k)]
theorem jl_23 : (jl 2).map u8.emb ≠ (jl 3).map u8.emb := by
  intro e
  rw [← jl_emb, ← jl_emb] at e
  have := List.append_cancel_left e
  have h : (eK 2 : List PD).head? = (eK 3).head? := by rw [this]
  have h2 : (some (PD.int .u8 2)) = some (.int .u8 3) := h
  cases h2
theorem open_at (k : Int) (hk : k = 2 ∨ k = 3) : gOpen 0 [.slice 1 (J199 ++ eK k) (.own 1022)] X7 = some (.tup [.ptr (3 + X7.length) 0, .int .i64 2076, .int .i64 0], X8) := by
  have h := open_args k
  rcases hk with rfl | rfl
  · exact gOr_l (gOr_l (gOne_of h X7_ne))
  · refine gOr_l (gOr_r (gOne_not ?_) (gOne_of h X7_ne))
    rw [h]
    intro e
    simp only [List.cons.injEq, PD.slice.injEq, and_true, true_and] at e
    exact jl_23 e.symm
theorem open_big : gOpen 0 [.sref X8.length 0 1048577 1] X9 = some (.tup [.nilptr, .int .i64 0, .int .i64 4], X9) := by
  have no : ∀ k, ([PD.sref X8.length 0 1048577 1].map PD.strip) ≠ [.slice 1 ((jl k).map u8.emb) .any] := fun k e => by
    have e : [PD.sref X8.length 0 1048577 1] = [.slice 1 ((jl k).map u8.emb) .any] := e
    simp at e
  exact gOr_r (gOr_r (gOne_not (no 2)) (gOne_not (no 3))) (gRun_of' c_open9 X9_ne)
noncomputable def L0 : PExt := fun _ => none
theorem L0_ok {P : Program} : ExtOk P L0 := fun _ hg => by cases hg
theorem L0_uni : Uni L0 := Uni.none
noncomputable def L1 : PExt := L0.add 5 (entry (gf0 Em.bool (some true)))
theorem L1_ok : ExtOk Tryz.prog L1 := ExtOk.pick PuK_ok L0_ok (if_pos rfl)
theorem L1_uni : Uni L1 := L0_uni.entry
noncomputable def L2 : PExt := L1.add 10 (gPure Tryz.prog PuS 1000 10)
theorem L2_ok : ExtOk Tryz.prog L2 := ExtOk.pick (PuS_ok.addPure fol 1000 _) L1_ok (if_pos rfl)
theorem L2_uni : Uni L2 := L1_uni.pure
noncomputable def L3 : PExt := L2.add 12 (gPure Tryz.prog PuS 1000 12)
theorem L3_ok : ExtOk Tryz.prog L3 := ExtOk.pick (PuS_ok.addPure fol 1000 _) L2_ok (if_pos rfl)
theorem L3_uni : Uni L3 := L2_uni.pure
noncomputable def L4 : PExt := L3.add 9 (gRun Tryz.prog PuR 1000 9)
theorem L4_ok : ExtOk Tryz.prog L4 := ExtOk.pick (PuR_ok.addRun fol 1000 _) L3_ok (if_pos rfl)
theorem L4_uni : Uni L4 := L3_uni.noNil (.run _ _ _ _)
noncomputable def L5 : PExt := L4.add 11 (gBoth PuR 11)
theorem L5_ok : ExtOk Tryz.prog L5 := ExtOk.pick (gBoth_ok PuR_ok _) L4_ok (if_pos rfl)
theorem L5_uni : Uni L5 := L4_uni.noNil (gBoth_no _ _)
noncomputable def L6 : PExt := L5.add 13 (gBoth PuS 13)
theorem L6_ok : ExtOk Tryz.prog L6 := ExtOk.pick (gBoth_ok PuS_ok _) L5_ok (if_pos rfl)
theorem L6_uni : Uni L6 := L5_uni.noNil (gBoth_no _ _)
noncomputable def L7 : PExt := L6.add 14 (gBoth PuS 14)
theorem L7_ok : ExtOk Tryz.prog L7 := ExtOk.pick (gBoth_ok PuS_ok _) L6_ok (if_pos rfl)
theorem L7_uni : Uni L7 := L6_uni.noNil (gBoth_no _ _)
noncomputable def L8 : PExt := L7.add 15 (gBoth PuS 15)
theorem L8_ok : ExtOk Tryz.prog L8 := ExtOk.pick (gBoth_ok PuS_ok _) L7_ok (if_pos rfl)
theorem L8_uni : Uni L8 := L7_uni.noNil (gBoth_no _ _)
noncomputable def L9 : PExt := L8.add 16 (gBoth PuR 16)
theorem L9_ok : ExtOk Tryz.prog L9 := ExtOk.pick (gBoth_ok PuR_ok _) L8_ok (if_pos rfl)
theorem L9_uni : Uni L9 := L8_uni.noNil (gBoth_no _ _)
noncomputable def L10 : PExt := L9.add 17 (entry (gf2 u8s u8s Em.bool fun a b => gif (a = b ∧ a.length < 100000) (some true)))
theorem L10_ok : ExtOk Tryz.prog L10 := L9_ok.add2 fol fun a b z h => by
  obtain ⟨⟨rfl, h1⟩, h2⟩ := gif_some h
  obtain rfl := Option.some.inj h2
  exact r_Equal L9_uni rfl a h1
theorem L10_uni : Uni L10 := L9_uni.entry
noncomputable def L11 : PExt := L10.add 19 (gRun Tryz.prog PuR 1000 19)
theorem L11_ok : ExtOk Tryz.prog L11 := ExtOk.pick (PuR_ok.addRun fol 1000 _) L10_ok (if_pos rfl)
theorem L11_uni : Uni L11 := L10_uni.noNil (.run _ _ _ _)
noncomputable def L12 : PExt := L11.add 20 (gRun Tryz.prog PuR 1000 20)
theorem L12_ok : ExtOk Tryz.prog L12 := ExtOk.pick (PuR_ok.addRun fol 1000 _) L11_ok (if_pos rfl)
theorem L12_uni : Uni L12 := L11_uni.noNil (.run _ _ _ _)
noncomputable def L13 : PExt := L12.add 18 gOpen
theorem L13_ok : ExtOk Tryz.prog L13 := ExtOk.addOr (ExtOk.addOr (ExtOk.pick (open_one 2 (.inl rfl)) L12_ok (if_pos rfl)) (ExtOk.pick (open_one 3 (.inr rfl)) L12_ok (if_pos rfl))) (ExtOk.pick (PuS_ok.addRun fol 1000 _) L12_ok (if_pos rfl))
theorem L13_uni : Uni L13 := L12_uni.noNil gOpen_no
noncomputable def L14 : PExt := L13.add 21 (gBoth PuS 21)
theorem L14_ok : ExtOk Tryz.prog L14 := ExtOk.pick (gBoth_ok PuS_ok _) L13_ok (if_pos rfl)
theorem L14_uni : Uni L14 := L13_uni.noNil (gBoth_no _ _)
noncomputable def L15 : PExt := L14.add 22 (gBoth PuS 22)
theorem L15_ok : ExtOk Tryz.prog L15 := ExtOk.pick (gBoth_ok PuS_ok _) L14_ok (if_pos rfl)
theorem L15_uni : Uni L15 := L14_uni.noNil (gBoth_no _ _)
noncomputable def L16 : PExt := L15.add 24 (gBoth PuS 24)
theorem L16_ok : ExtOk Tryz.prog L16 := ExtOk.pick (gBoth_ok PuS_ok _) L15_ok (if_pos rfl)
theorem L16_uni : Uni L16 := L15_uni.noNil (gBoth_no _ _)
noncomputable def L17 : PExt := L16.add 23 (gBoth PuS 23)
theorem L17_ok : ExtOk Tryz.prog L17 := ExtOk.pick (gBoth_ok PuS_ok _) L16_ok (if_pos rfl)
theorem L17_uni : Uni L17 := L16_uni.noNil (gBoth_no _ _)
theorem S0_ne : S0 ≠ [] := by unfold S0; simp
theorem SM_ne (i : Nat) : SM i ≠ [] := by unfold SM; simp
theorem X1_ne : X1 ≠ [] := by unfold X1; simp
theorem X2_ne : X2 ≠ [] := by unfold X2; simp
theorem X3_ne : X3 ≠ [] := by unfold X3; simp
theorem X4_ne : X4 ≠ [] := by unfold X4; simp
theorem X5_ne : X5 ≠ [] := by unfold X5; simp
theorem X6_ne : X6 ≠ [] := by unfold X6; simp
theorem zsj_ne : zs (jbs 199) ≠ [] := by
  intro e
  have := congrArg List.length e
  unfold zs at this
  rw [List.length_map, j199_len] at this
  cases this
theorem dec_J (t : Tok) : u8s.dec (.slice 1 J199 t) = some (zs (jbs 199)) := Em.dec_some (by
  unfold J199
  rw [bs_zs, strip_u8s _ zsj_ne]
  show _ = PD.slice (sz 1 _) _ _
  rw [sz_ne zsj_ne])
theorem equal_J (t2 t1 : Tok) (σ : List SObj) : entry (gf2 u8s u8s Em.bool fun a b => gif (a = b ∧ a.length < 100000) (some true)) 0 [.slice 1 J199 t2, .slice 1 J199 t1] σ = some (.bool true, σ) := by
  have hl : (zs (jbs 199)).length < 100000 := by unfold zs; rw [List.length_map, j199_len]; omega
  unfold entry gf2
  simp only [dec_J]
  rw [gif_pos (by exact ⟨by trivial, hl⟩)]
  rfl
theorem undo_at (i : Nat) (hi : i < 199) (hp : i % 2 = 0) : gBoth PuS 14 0 [.ptr 3 0] (SM i) = some (.int .i64 0, SM (i + 1)) := by
  have h := chkM_eq (mv_all i hi)
  have e : ∀ {α : Type} (x y : α), par i x y = x := fun x y => by unfold par; rw [hp]; rfl
  rw [e] at h
  exact gBoth_run h (SM_ne _)
theorem redo_at (i : Nat) (hi : i < 199) (hp : i % 2 = 1) : gBoth PuS 15 0 [.ptr 3 0] (SM i) = some (.int .i64 0, SM (i + 1)) := by
  have h := chkM_eq (mv_all i hi)
  have e : ∀ {α : Type} (x y : α), par i x y = y := fun x y => by unfold par; rw [hp]; rfl
  rw [e] at h
  exact gBoth_run h (SM_ne _)
theorem make_big (N : Nat) (hN : N ≤ 2000000) : pmake Tryz.prog X8 22 5 N N = some (.sref X8.length 0 N 1, X9of N) := make_bytes X8 N hN
theorem eK_strip (k : Int) (t : Tok) : (PD.slice 1 (eK k) t).strip = .slice 1 (eK k) .any := by
  unfold eK
  split <;> rfl
theorem J199_len : J199.length = 2076 := by
  unfold J199
  rw [bs_zs, List.length_map]
  unfold zs
  rw [List.length_map, j199_len]
theorem run_StoreFull (n : Int) (hn : 0 ≤ n ∧ n ≤ 255) : Run Tryz.prog L17 4 [u8.emb n] (Em.bool.emb true) :=
  r_StoreFull L17_uni rfl rfl rfl (gPure_of c_tiny') rfl (gRun_of' (chkC_eq c_new) S0_ne) rfl (gPure_of c_renB) rfl (gBoth_run (chkC_eq c_edit) (SM_ne 0))
    rfl (fun i hi => gBoth_run (chkV_eq (cv_all i (by omega))) (SM_ne i)) rfl undo_at rfl redo_at
    (ok := .nilptr) (rC := rC) (J := J199) (e := eK) (t1 := 1018) (t2 := 1021) (q := 1022) (X1 := X1) (X2 := X2) (X3 := X3) (X4 := X4) (X5 := X5) (X6 := fun _ => X6) (X7 := fun _ => X7) (X8 := fun _ => X8) (X9 := fun _ => X9) (X10 := fun _ => X9) (X11 := fun _ => X11) (X12 := fun _ => X12) (id := fun _ => 3 + X7.length) (tk := fun _ => 1023)
    rfl (gBoth_run (chkC_eq c_bytes) X1_ne) (gBoth_run (chkS_eq c_undo) X1_ne) (gBoth_run (chkS_eq c_redo) X1_ne)
    (gPure_of c_renC) (gBoth_run (chkC_eq c_edit2) X2_ne) (gBoth_run (chkC_eq c_edit3) X3_ne)
    (gBoth_run (chkC_eq c_bytes2) X4_ne) rfl (equal_J _ _ _) rfl (gRun_of' (chkC_eq c_clone) X5_ne) rfl
    (fun k hk => by rcases hk with rfl | rfl; exact gRun_of' (chkC_eq c_entry2) X6_ne; exact gRun_of' (chkC_eq c_entry3) X6_ne)
    (fun k hk => by rcases hk with rfl | rfl; exact chkAp_eq c_ap2; exact chkAp_eq c_ap3)
    rfl open_at (fun _ _ => make_big 1048577 (by omega)) (fun _ _ => open_big)
    (fun _ _ => gBoth_new (chkN_eq n_edit) rfl X9_ne) rfl (fun _ _ => gBoth_new (chkN_eq n_at) rfl X11_ne)
    (X14 := fun _ => X14) (X15 := fun _ => X15)
    (fun _ _ => gBoth_run c_version9 X13_ne) (fun _ _ => gBoth_nil n_undo rfl X13_ne) (fun _ _ => gBoth_nil n_redo rfl X13_ne)
    (fun _ _ => gBoth_nil n_version rfl X13_ne) (fun _ _ => gBoth_nil n_bytes rfl X13_ne) rfl (fun _ _ => gBoth_nil n_kinds rfl X13_ne)
    rfl (fun _ _ => gBoth_new (chkN_eq n_organ) rfl X13_ne) rfl (fun _ _ => gBoth_new (chkN_eq n_equal) rfl X14_ne)
    (fun k _ => eK_strip k _) J199_len n hn
end Go.Kz

/-
  StoreFull holds: the law answers true, whatever it is handed.
-/
namespace Go.Proofs.YtkmkgiaejlkjlaaGreat
open Go Go.Kz Go.ChangeShapes Go.WideShapes Go.ChangeAt Go.WideMaps Go.WideElems Go.RowKit
set_option maxRecDepth 100000
theorem own : ownKnob Tryz.prog.godebug = none := by kernel_rfl
theorem laidOut : laidOutB Tryz.prog = true := by kernel_rfl
theorem follows : Tryz.prog.follows .mixedOrders = true := by kernel_rfl
theorem glob (W : World) : Gl (.start W) := by
  refine ⟨fun g ds hg => ?_, fun g hg => ?_⟩
  · unfold gcells gtab at hg
    cases hg
  · unfold gheld gtab gint at hg
    cases hg
theorem named : (Tryz.prog.funcs.toList.all fun fn => !(fn.name == "runtime.NumGoroutine")) = true := by kernel_rfl
theorem names (f : FuncId) (fn : Func) (h : Tryz.prog.funcs[f]? = some fn) : (fn.name == "runtime.NumGoroutine") = false := by
  have := List.all_eq_true.1 named fn (Array.mem_toList_iff.2 (Array.mem_of_getElem? h))
  simpa using this
theorem ty_u8' {d : Nat} {qs : List PD} (h : Typed Tryz.prog (d + 2) 5 qs) : ∃ n : Int, asPD Tryz.prog 5 qs = u8.emb n ∧ 0 ≤ n ∧ n ≤ 255 := by
  obtain ⟨n, rfl, w⟩ := typed_int Tryz.underlying5 h
  exact ⟨n, by rfl, wf_u8 w⟩
theorem lifted_StoreFull (os : Os) (started : os.Started) (H : Type) (enc : TypeId × Value → H) :
    ReturnsInHanded {} Tryz.checked os 4 .any (Rows.storeFullSpec.pre6 enc Tryz.prog Tryz.f4 [] false)
      (Rows.storeFullSpec.post enc Tryz.prog Tryz.f4 false true false false) := by
  refine returnsInHanded_of_change own started (by kernel_rfl) Tryz.func4
    (ChangeSpec.witness6 false ⟨#[], #[.int .u8 0], []⟩ 12 (by kernel_rfl) (by kernel_rfl) (by kernel_rfl) (by kernel_rfl)) ?_
  intro W base args ds gs before hval hW _ _
  have hval : ∀ (j : Nat) t v, Tryz.f4.params[j]? = some t → args[j]? = some v → Value.okWide Tryz.prog W .any base t v := hval
  have hW' := hW
  obtain ⟨p, q, hA, _, _, _, _⟩ := hW
  have hA : DataW.TrodAll enc Tryz.prog W 0 (fun _ => true) true Tryz.f4.params.toList args.toList ds p := hA
  rw [Tryz.params4] at hA hval
  obtain ⟨v1, d1, rfl, _, h1⟩ := trodAll_one hA
  obtain ⟨q1, t1, r1⟩ := arg_typed (n := 12) (t := 5) (v := v1) (by kernel_rfl) (hval 0 _ _ rfl rfl) h1
  obtain ⟨t, e1, ht⟩ := ty_u8' t1
  rw [e1] at r1
  have run := run_StoreFull t ht
  refine (Run.calls L17_ok follows names run (glob W) (vrs_cons r1 vrs_nil)).mono fun e' W' ⟨he, hb⟩ => ?_
  subst he
  exact ⟨_, rfl, law_post laidOut rfl hW' hb rfl Tryz.underlying4 (by kernel_rfl) (fun ds hg hd => by
    subst hg
    match ds, hd with
    | [d1], _ => rfl)⟩

theorem storeFull_holds : Rows.StoreFullSaid :=
  OpenClaim.holds_of_wide 4 Tryz.f4 rfl rfl rfl rfl rfl rfl rfl ⟨rfl, rfl, rfl, rfl, rfl⟩ rfl rfl rfl rfl rfl (by kernel_rfl) Tryz.func4 (by kernel_rfl)
    (of_decide_eq_true (by kernel_rfl)) (by unfold Func.isWrapper; first | (rw [if_pos (by decide +kernel)]; kernel_rfl) | (rw [if_neg (by decide +kernel)]; exact ⟨rfl, rfl⟩))
    (fun os started H enc _ => lifted_StoreFull os started H enc)
end Go.Proofs.YtkmkgiaejlkjlaaGreat
