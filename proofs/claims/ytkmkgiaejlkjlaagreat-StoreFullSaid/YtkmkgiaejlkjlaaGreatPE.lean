/-
  Part PE of the way: an interpreter over pure data, its soundness, walks through functions.
-/
import Derived.Test.YtkmkgiaejlkjlaaGreatPGa
import Derived.Test.YtkmkgiaejlkjlaaGreatPIa
import Derived.Test.YtkmkgiaejlkjlaaGreatPGb
import Derived.Test.YtkmkgiaejlkjlaaGreatPIb
import Derived.Test.YtkmkgiaejlkjlaaGreatPGc
import Derived.Test.YtkmkgiaejlkjlaaGreatPIc
import Derived.Test.YtkmkgiaejlkjlaaGreatPGd
import Derived.Test.YtkmkgiaejlkjlaaGreatPId
import Derived.Test.YtkmkgiaejlkjlaaGreatPGe
import Derived.Test.YtkmkgiaejlkjlaaGreatPIe
import Derived.Test.YtkmkgiaejlkjlaaGreatPGf
import Derived.Test.YtkmkgiaejlkjlaaGreatPIf
import Derived.Test.YtkmkgiaejlkjlaaGreatPGg
import Derived.Test.YtkmkgiaejlkjlaaGreatPIg
import Derived.Test.YtkmkgiaejlkjlaaGreatPGh
import Derived.Test.YtkmkgiaejlkjlaaGreatPIh
import Derived.Test.YtkmkgiaejlkjlaaGreatPGi
import Derived.Test.YtkmkgiaejlkjlaaGreatPIi
import Derived.Test.YtkmkgiaejlkjlaaGreatPGj
import Derived.Test.YtkmkgiaejlkjlaaGreatPIj
import Derived.Test.YtkmkgiaejlkjlaaGreatPGk
import Derived.Test.YtkmkgiaejlkjlaaGreatPIk
import Derived.Test.YtkmkgiaejlkjlaaGreatPGl
import Derived.Test.YtkmkgiaejlkjlaaGreatPIl
import Derived.Test.YtkmkgiaejlkjlaaGreatPGm
import Derived.Test.YtkmkgiaejlkjlaaGreatPIm
import Derived.Test.YtkmkgiaejlkjlaaGreatPGn
import Derived.Test.YtkmkgiaejlkjlaaGreatPIn
import Derived.Test.YtkmkgiaejlkjlaaGreatPGo
import Derived.Test.YtkmkgiaejlkjlaaGreatPIo
import Derived.Test.YtkmkgiaejlkjlaaGreatPGp
import Derived.Test.YtkmkgiaejlkjlaaGreatPIp
import Derived.Test.YtkmkgiaejlkjlaaGreatPF0
import Derived.Test.YtkmkgiaejlkjlaaGreatPF4
import Derived.Test.YtkmkgiaejlkjlaaGreatPF5
import Derived.Test.YtkmkgiaejlkjlaaGreatPF6
import Derived.Test.YtkmkgiaejlkjlaaGreatPF7
import Derived.Test.YtkmkgiaejlkjlaaGreatPD
import Derived.Test.YtkmkgiaejlkjlaaGreatPA
import Derived.Test.YtkmkgiaejlkjlaaGreatP9
set_option linter.all false

/-
  Chapter 53: all moves, put together.
-/
namespace Go.Kz
open Go Go.Proofs
theorem rng {p : Nat → Bool} {a n i : Nat} (h : ((List.range' a n).all p) = true) (h1 : a ≤ i) (h2 : i < a + n) : p i = true := List.all_eq_true.1 h i (List.mem_range'_1.2 ⟨h1, h2⟩)
theorem mv_all (i : Nat) (hi : i < 199) : chkM i = true :=
  if h0 : i < 28 then rng mv_0 (by omega) (by omega) else
  if h1 : i < 50 then rng mv_28 (by omega) (by omega) else
  if h2 : i < 68 then rng mv_50 (by omega) (by omega) else
  if h3 : i < 84 then rng mv_68 (by omega) (by omega) else
  if h4 : i < 98 then rng mv_84 (by omega) (by omega) else
  if h5 : i < 111 then rng mv_98 (by omega) (by omega) else
  if h6 : i < 123 then rng mv_111 (by omega) (by omega) else
  if h7 : i < 134 then rng mv_123 (by omega) (by omega) else
  if h8 : i < 144 then rng mv_134 (by omega) (by omega) else
  if h9 : i < 154 then rng mv_144 (by omega) (by omega) else
  if h10 : i < 163 then rng mv_154 (by omega) (by omega) else
  if h11 : i < 172 then rng mv_163 (by omega) (by omega) else
  if h12 : i < 180 then rng mv_172 (by omega) (by omega) else
  if h13 : i < 188 then rng mv_180 (by omega) (by omega) else
  if h14 : i < 196 then rng mv_188 (by omega) (by omega) else
  rng mv_196 (by omega) (by omega)
theorem rp_all (i : Nat) (hi : i < 199) : chkR i = true :=
  if h0 : i < 28 then rng rp_0 (by omega) (by omega) else
  if h1 : i < 50 then rng rp_28 (by omega) (by omega) else
  if h2 : i < 68 then rng rp_50 (by omega) (by omega) else
  if h3 : i < 84 then rng rp_68 (by omega) (by omega) else
  if h4 : i < 98 then rng rp_84 (by omega) (by omega) else
  if h5 : i < 111 then rng rp_98 (by omega) (by omega) else
  if h6 : i < 123 then rng rp_111 (by omega) (by omega) else
  if h7 : i < 134 then rng rp_123 (by omega) (by omega) else
  if h8 : i < 144 then rng rp_134 (by omega) (by omega) else
  if h9 : i < 154 then rng rp_144 (by omega) (by omega) else
  if h10 : i < 163 then rng rp_154 (by omega) (by omega) else
  if h11 : i < 172 then rng rp_163 (by omega) (by omega) else
  if h12 : i < 180 then rng rp_172 (by omega) (by omega) else
  if h13 : i < 188 then rng rp_180 (by omega) (by omega) else
  if h14 : i < 196 then rng rp_188 (by omega) (by omega) else
  rng rp_196 (by omega) (by omega)
theorem cv_all (i : Nat) (hi : i < 200) : chkV i = true :=
  if h0 : i < 50 then rng c_version0 (by omega) (by omega) else
  if h1 : i < 100 then rng c_version1 (by omega) (by omega) else
  if h2 : i < 150 then rng c_version2 (by omega) (by omega) else
  rng c_version3 (by omega) (by omega)
theorem chkP_eq {args : List PD} {σ σ' : List SObj} {p : PD} (h : chkP args σ p σ' = true) : pcallF Tryz.prog PuS 1000 0 (.inl 36) args σ = some (p, σ') := by
  unfold chkP at h
  split at h
  · rename_i q τ hr
    simp only [Bool.and_eq_true] at h
    rw [hr, bPD_eq 40 _ _ h.1, bList_eq bObj_eq _ _ h.2]
  · cases h
theorem chkC_eq {f : Nat} {args : List PD} {σ σ' : List SObj} {p : PD} (h : chkC f args σ p σ' = true) : pcallF Tryz.prog PuR 1000 0 (.inl f) args σ = some (p, σ') := by
  unfold chkC at h
  split at h
  · rename_i q τ hr
    simp only [Bool.and_eq_true] at h
    rw [hr, bPD_eq 40 _ _ h.1, bList_eq bObj_eq _ _ h.2]
  · cases h
theorem chkS_eq {f : Nat} {args : List PD} {σ σ' : List SObj} {p : PD} (h : chkS f args σ p σ' = true) : pcallF Tryz.prog PuS 1000 0 (.inl f) args σ = some (p, σ') := by
  unfold chkS at h
  split at h
  · rename_i q τ hr
    simp only [Bool.and_eq_true] at h
    rw [hr, bPD_eq 40 _ _ h.1, bList_eq bObj_eq _ _ h.2]
  · cases h
theorem chkR_eq {i : Nat} (h : chkR i = true) : pcallF Tryz.prog PuS 1000 0 (.inl 36) [.ptr 3 0, .int .i64 (par i 2 3), .slice 0 [] .any] (SP i) = some (.bool true, SP (i + 1)) := by
  unfold chkR at h
  split at h
  · rename_i b τ hr
    simp only [Bool.and_eq_true] at h
    rw [hr, bList_eq bObj_eq _ _ h.2, h.1]
  · cases h
theorem chkM_eq {i : Nat} (h : chkM i = true) : pcallF Tryz.prog PuS 1000 0 (.inl (par i 14 15)) [.ptr 3 0] (SM i) = some (.int .i64 0, SM (i + 1)) := by
  unfold chkM at h
  split at h
  · rename_i e τ hr
    simp only [Bool.and_eq_true, beq_iff_eq] at h
    rw [hr, bList_eq bObj_eq _ _ h.2, h.1]
  · cases h
theorem chkV_eq {i : Nat} (h : chkV i = true) : pcallF Tryz.prog PuS 1000 0 (.inl 13) [.ptr 3 0] (SM i) = some (.int .i64 (1 + i), SM i) := by
  unfold chkV at h
  split at h
  · rename_i e τ hr
    simp only [Bool.and_eq_true, beq_iff_eq] at h
    rw [hr, bList_eq bObj_eq _ _ h.2, h.1]
    rfl
  · cases h
end Go.Kz

/-
  Chapter 53: the table of Open, and what Open answers.
-/
namespace Go.Kz
open Go Go.Proofs
set_option maxRecDepth 100000
theorem gRun_of' {P : Program} {E : PExt} {N : Nat} {f : FuncId} {args : List PD} {σ : List SObj} {p : PD} {σ' : List SObj} (h : pcallF P E N 0 (.inl f) args σ = some (p, σ')) (hσ : σ' ≠ []) : gRun P E N f 0 args σ = some (p, σ') := by
  cases σ' with
  | nil => exact absurd rfl hσ
  | cons o σ' => exact gRun_of h
noncomputable def Np0 : PExt := fun _ => none
theorem Np0_ok {P : Program} : ExtOk P Np0 := fun _ hg => by cases hg
theorem Np0_uni : Uni Np0 := Uni.none
noncomputable def Np1 : PExt := Np0.add 65 (entry (gf1 u8s u32 fun l => gif (isB l ∧ 4 ≤ l.length) (some (le4 l))))
theorem Np1_ok : ExtOk Tryz.prog Np1 := Np0_ok.add1 fol fun l z h => by
  obtain ⟨h1, h2⟩ := gif_some h
  obtain rfl := Option.some.inj h2
  exact r_read Np0_uni rfl l h1.1 h1.2
theorem Np1_uni : Uni Np1 := Np0_uni.entry
noncomputable def Np2 : PExt := Np1.add 7 (entry (gf1 u8s u32 fun l => gif (okS l) (some (sumOf l))))
theorem Np2_ok : ExtOk Tryz.prog Np2 := Np1_ok.add1 fol fun l z h => by
  obtain ⟨h1, h2⟩ := gif_some h
  obtain rfl := Option.some.inj h2
  exact r_Sum Np1_uni rfl l h1.1 h1.2
theorem Np2_uni : Uni Np2 := Np1_uni.entry
noncomputable def Np3 : PExt := Np2.add 34 gNext
theorem Np3_ok : ExtOk Tryz.prog Np3 := Np2_ok.add1 fol fun l z h => by
  have h' := h
  unfold nextS at h'
  obtain ⟨⟨n, hn⟩, _⟩ := gif_some h'
  rw [nextS_of hn] at h
  obtain rfl := Option.some.inj h
  exact r_next Np2_uni rfl rfl rfl l n hn
theorem Np3_uni : Uni Np3 := Np2_uni.entry
noncomputable def Op4 : PExt := Np3.add 35 (gPure Tryz.prog PuD 1000 35)
theorem Op4_ok : ExtOk Tryz.prog Op4 := ExtOk.pick (PuD_ok.addPure fol 1000 35) Np3_ok (if_pos rfl)
theorem Op4_uni : Uni Op4 := Np3_uni.pure
noncomputable def Op5 : PExt := Op4.add 27 (gRun Tryz.prog PuS 1000 27)
theorem Op5_ok : ExtOk Tryz.prog Op5 := ExtOk.pick (PuS_ok.addRun fol 1000 27) Op4_ok (if_pos rfl)
theorem Op5_uni : Uni Op5 := Op4_uni.noNil (.run _ _ _ _)
noncomputable def Op6 : PExt := Op5.add 36 (gRun Tryz.prog PuS 1000 36)
theorem Op6_ok : ExtOk Tryz.prog Op6 := ExtOk.pick (PuS_ok.addRun fol 1000 36) Op5_ok (if_pos rfl)
theorem Op6_uni : Uni Op6 := Op5_uni.noNil (.run _ _ _ _)
theorem c_decode : chkFree Tryz.prog PuD 1000 35 [.slice 1 (bs ((jb0.drop 5).take 74)) .any] (.tup [oA, .int .i64 0]) = true := by kernel_rfl
theorem c_begin : chkS 27 [oA] [.box oA] (.ptr 3 0) (.box oA :: SB.map (SObj.sh 1)) = true := by kernel_rfl
noncomputable def Tj : Nat → List SObj
  | 0 => .box oA :: SB.map (SObj.sh 1)
  | j + 1 => SP j
theorem SP_ne (i : Nat) : SP i ≠ [] := by unfold SP; simp
theorem rep_j (k : Int) (j : Nat) (hj : j < 200) : gRun Tryz.prog PuS 1000 36 0 [.ptr 3 0, .int .i64 (Kj k j), Dj j] (Tj j) = some (.bool true, Tj (j + 1)) := by
  cases j with
  | zero => exact gRun_of' (chkP_eq rp_first) (SP_ne 0)
  | succ j =>
    have hK : Kj k (j + 1) = par j 2 3 := by show (if j = 199 then k else par j 2 3) = _; rw [if_neg (by omega)]
    rw [hK]
    exact gRun_of' (chkR_eq (rp_all j (by omega))) (SP_ne _)
theorem rep_e (k : Int) (hk : k = 2 ∨ k = 3) : gRun Tryz.prog PuS 1000 36 0 [.ptr 3 0, .int .i64 (Kj k 200), Dj 200] (Tj 200) = some (.bool false, SP 199) := by
  have hK : Kj k 200 = k := by show (if (199 : Nat) = 199 then k else par 199 2 3) = k; rw [if_pos rfl]
  rw [hK]
  rcases hk with rfl | rfl
  · exact gRun_of' (chkP_eq rp_last2) (SP_ne 199)
  · exact gRun_of' (chkP_eq rp_last3) (SP_ne 199)
theorem open_run (k : Int) (hk : k = 2 ∨ k = 3) : WpC Tryz.prog Op6 0 (.inl 18) [.slice 1 ((jl k).map u8.emb) .any] [] (fun p σ => p = .tup [.ptr 3 0, .int .i64 2076, .int .i64 0] ∧ σ = SP 199) :=
  r_Open Op6_uni rfl (by rw [List.length_map, jl_len]) rfl (next_0 k) rfl (gPure_of c_decode) rfl (gRun_of' (chkS_eq c_begin) (List.cons_ne_nil _ _)) rfl (U := Uj) (Z := Zj) (K := Kj k) (D := Dj) (T := Tj) rfl Uj_next Uj_end (next_j k hk) (rep_j k) (rep_e k hk)
theorem open_ex (k : Int) (hk : k = 2 ∨ k = 3) : ∃ N, pcall Tryz.prog Op6 N 0 (.inl 18) [.slice 1 ((jl k).map u8.emb) .any] [] = some (.tup [.ptr 3 0, .int .i64 2076, .int .i64 0], SP 199) := by
  obtain ⟨p, σ, ⟨N, hN⟩, rfl, rfl⟩ := (open_run k hk).ex
  exact ⟨N, hN N (Nat.le_refl _)⟩
theorem open_one (k : Int) (hk : k = 2 ∨ k = 3) : ExtOk Tryz.prog (Op6.add 18 (gOne [.slice 1 ((jl k).map u8.emb) .any] (.tup [.ptr 3 0, .int .i64 2076, .int .i64 0]) (SP 199))) :=
  Op6_ok.addOne fol (open_ex k hk) (by
    show (PD.idfree _ && PD.idfreeL []) = true
    rw [show PD.idfree (.slice 1 ((jl k).map u8.emb) .any) = (PD.idfreeL ((jl k).map u8.emb) && true) from rfl, emb_idfree]
    rfl)
end Go.Kz

/-
  Chapter 53: what the calls of StoreFull answer.
-/
namespace Go.Kz
open Go Go.Proofs
set_option maxRecDepth 100000
/-- The zero organ. -/
noncomputable def zO : PD := (.agg [.str [], .slice 0 [] .full, .slice 0 [] .full, .slice 0 [] .full])
noncomputable def X8 : List SObj := X7 ++ (SP 199).map (SObj.sh X7.length)
noncomputable def X9of (n : Nat) : List SObj := X8 ++ [.box (.agg ((List.replicate n 0).map u8.emb))]
noncomputable def X9 : List SObj := X9of 1048577
noncomputable def nEdit : List SObj := match pcallF Tryz.prog PuR 1000 0 (.inl 11) ([.nilptr, zE].map PD.strip) [] with
  | some (_, σ) => σ
  | none => []
noncomputable def nAt : List SObj := match pcallF Tryz.prog PuS 1000 0 (.inl 21) ([.nilptr, .int .i64 0].map PD.strip) [] with
  | some (_, σ) => σ
  | none => []
noncomputable def nOrgan : List SObj := match pcallF Tryz.prog PuS 1000 0 (.inl 24) ([.nilptr].map PD.strip) [] with
  | some (_, σ) => σ
  | none => []
noncomputable def nEqual : List SObj := match pcallF Tryz.prog PuS 1000 0 (.inl 23) ([zO, zO].map PD.strip) [] with
  | some (_, σ) => σ
  | none => []
noncomputable def X11 : List SObj := X9 ++ nEdit.map (SObj.sh X9.length)
noncomputable def X12 : List SObj := X11 ++ nAt.map (SObj.sh X11.length)
noncomputable def X13 : List SObj := X12 ++ [.box zO]
noncomputable def X14 : List SObj := X13 ++ nOrgan.map (SObj.sh X13.length)
noncomputable def X15 : List SObj := X14 ++ nEqual.map (SObj.sh X14.length)
theorem X7_ne : X7 ≠ [] := by unfold X7; simp
theorem X8_ne : X8 ≠ [] := by unfold X8; simp [X7_ne]
theorem X9of_ne (n : Nat) : X9of n ≠ [] := fun h => by cases (List.append_eq_nil_iff.1 h).2
theorem X9_ne : X9 ≠ [] := X9of_ne _
theorem X11_ne : X11 ≠ [] := fun h => X9_ne (List.append_eq_nil_iff.1 h).1
theorem X12_ne : X12 ≠ [] := by unfold X12; simp [X11_ne]
theorem X13_ne : X13 ≠ [] := by unfold X13; simp
theorem X14_ne : X14 ≠ [] := by unfold X14; simp [X13_ne]
/-- A run whose answer is p and whose store is what it is. -/
noncomputable def chkN (E : PExt) (f : Nat) (args : List PD) (p : PD) : Bool := match pcallF Tryz.prog E 1000 0 (.inl f) (args.map PD.strip) [] with
  | some (q, _) => bPD 40 q p
  | none => false
theorem chkN_eq {E : PExt} {f : Nat} {args : List PD} {p : PD} (h : chkN E f args p = true) : pcallF Tryz.prog E 1000 0 (.inl f) (args.map PD.strip) [] = some (p, match pcallF Tryz.prog E 1000 0 (.inl f) (args.map PD.strip) [] with | some (_, σ) => σ | none => []) := by
  unfold chkN at h
  cases hr : pcallF Tryz.prog E 1000 0 (.inl f) (args.map PD.strip) [] with
  | none => rw [hr] at h; cases h
  | some x =>
    obtain ⟨q, τ⟩ := x
    rw [hr] at h
    rw [bPD_eq 40 _ _ h]
theorem n_edit : chkN PuR 11 [.nilptr, zE] (.int .i64 1) = true := by kernel_rfl
theorem n_at : chkN PuS 21 [.nilptr, .int .i64 0] (.tup [zO, .int .i64 1]) = true := by kernel_rfl
theorem n_organ : chkN PuS 24 [.nilptr] zO = true := by kernel_rfl
theorem n_equal : chkN PuS 23 [zO, zO] (.bool true) = true := by kernel_rfl
theorem n_undo : pcallF Tryz.prog PuS 1000 0 (.inl 14) ([.nilptr].map PD.strip) [] = some (.int .i64 1, []) := by kernel_rfl
theorem n_redo : pcallF Tryz.prog PuS 1000 0 (.inl 15) ([.nilptr].map PD.strip) [] = some (.int .i64 1, []) := by kernel_rfl
theorem n_version : pcallF Tryz.prog PuS 1000 0 (.inl 13) ([.nilptr].map PD.strip) [] = some (.int .i64 0, []) := by kernel_rfl
theorem n_bytes : pcallF Tryz.prog PuR 1000 0 (.inl 16) ([.nilptr].map PD.strip) [] = some (.slice 0 [] .full, []) := by kernel_rfl
theorem n_kinds : pcallF Tryz.prog PuS 1000 0 (.inl 22) ([.nilptr].map PD.strip) [] = some (.slice 0 [] .full, []) := by kernel_rfl
theorem c_version9 : pcallF Tryz.prog PuS 1000 0 (.inl 13) [.ptr (3 + X7.length) 0] X13 = some (.int .i64 200, X13) := by kernel_rfl
theorem c_open9 : pcallF Tryz.prog PuS 1000 0 (.inl 18) [.sref X8.length 0 1048577 1] X9 = some (.tup [.nilptr, .int .i64 0, .int .i64 4], X9) := by kernel_rfl
theorem c_tiny' : chkFree Tryz.prog PuS 1000 10 [.str [97]] oA = true := by kernel_rfl
theorem c_renB : chkFree Tryz.prog PuS 1000 12 [.str [98]] rB = true := by kernel_rfl
theorem c_renC : chkFree Tryz.prog PuS 1000 12 [.str [99]] rC = true := by kernel_rfl
noncomputable def chkAp (k : Int) : Bool := match pappend Tryz.prog 0 X6 22 (.slice 1 J199 (.own 1022)) (.slice 1 (eK k) .any) with
  | some (p, σ) => bPD 40 p (.slice 1 (J199 ++ eK k) (.own 1022)) && bList bObj σ X7
  | none => false
theorem c_ap2 : chkAp 2 = true := by kernel_rfl
theorem c_ap3 : chkAp 3 = true := by kernel_rfl
theorem chkAp_eq {k : Int} (h : chkAp k = true) : pappend Tryz.prog 0 X6 22 (.slice 1 J199 (.own 1022)) (.slice 1 (eK k) .any) = some (.slice 1 (J199 ++ eK k) (.own 1022), X7) := by
  unfold chkAp at h
  split at h
  · rename_i q τ hr
    simp only [Bool.and_eq_true] at h
    rw [hr, bPD_eq 40 _ _ h.1, bList_eq bObj_eq _ _ h.2]
  · cases h
end Go.Kz
