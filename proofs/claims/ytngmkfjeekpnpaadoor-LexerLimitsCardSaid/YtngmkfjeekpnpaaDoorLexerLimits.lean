/-
  LexerLimits holds: the law answers true, whatever it is handed.
-/
import Derived.Test.YtngmkfjeekpnpaaDoorP9
import Derived.Test.YtngmkfjeekpnpaaDoorP6
set_option linter.all false

/-
  Layer 19: LexerLimits.
-/
namespace Go.Kz
open Go Go.Proofs

theorem plus_tok (r : List UInt8) : tokS (43 :: r) = (⟨5, [43], 0, (0, 0), 0, 0⟩, 1, 0) := good_mark (b := 43) (by decide) r
theorem lineS_plus : ∀ (k fuel : Nat) (ln col : Int) (out : List Tk), k < fuel → out.length + k ≤ 20000 → ∃ x, lineS fuel (List.replicate k 43) ln col out = (out ++ x, col + k, 0) ∧ x.length = k
  | 0, f + 1, ln, col, out, _, _ => ⟨[], by unfold lineS; rw [if_pos (.inl rfl)]; simp, rfl⟩
  | _, 0, _, _, _, h, _ => absurd h (Nat.not_lt_zero _)
  | k + 1, f + 1, ln, col, out, h, hl => by
    have hp : pk (43 :: List.replicate k 43) 0 = 43 := by rw [pk_cons0]; rfl
    unfold lineS
    rw [List.replicate_succ, if_neg (by rw [hp]; simp), if_neg (by rw [hp]; decide), plus_tok, if_neg (by simp), if_neg (by omega)]
    obtain ⟨x, h1, h2⟩ := lineS_plus k f ln (col + 1) (out ++ [⟨5, [43], 0, (0, 0), ln, col⟩]) (by omega) (by rw [List.length_append, List.length_singleton]; omega)
    have hd : (43 :: List.replicate k 43 : List UInt8).drop (1 : Int).toNat = List.replicate k 43 := rfl
    rw [hd]
    refine ⟨⟨5, [43], 0, (0, 0), ln, col⟩ :: x, ?_, by rw [List.length_cons, h2]⟩
    have := h1
    simp only [List.append_assoc, List.singleton_append] at this
    rw [List.append_assoc, List.singleton_append] at h1
    rw [show col + ((k + 1 : Nat) : Int) = col + 1 + (k : Int) by omega]
    simpa using h1
theorem lineS_over : ∀ (k fuel : Nat) (ln col : Int) (out : List Tk), k < fuel → out.length ≤ 20000 → 20000 < out.length + k → ∃ x, lineS fuel (List.replicate k 43) ln col out = (x, col + ((20000 - out.length : Nat) : Int), 4)
  | 0, f + 1, ln, col, out, _, h1, h2 => absurd h2 (by omega)
  | _, 0, _, _, _, h, _, _ => absurd h (Nat.not_lt_zero _)
  | k + 1, f + 1, ln, col, out, h, h1, h2 => by
    have hp : pk (43 :: List.replicate k 43) 0 = 43 := by rw [pk_cons0]; rfl
    unfold lineS
    rw [List.replicate_succ, if_neg (by rw [hp]; simp), if_neg (by rw [hp]; decide), plus_tok, if_neg (by simp)]
    by_cases he : out.length = 20000
    · rw [if_pos he, he]
      exact ⟨out, by simp⟩
    · rw [if_neg he]
      obtain ⟨x, e1⟩ := lineS_over k f ln (col + 1) (out ++ [⟨5, [43], 0, (0, 0), ln, col⟩]) (by omega) (by rw [List.length_append, List.length_singleton]; omega) (by rw [List.length_append, List.length_singleton]; omega)
      have hd : (43 :: List.replicate k 43 : List UInt8).drop (1 : Int).toNat = List.replicate k 43 := rfl
      rw [hd]
      refine ⟨x, ?_⟩
      rw [List.length_append, List.length_singleton] at e1
      rw [show col + ((20000 - out.length : Nat) : Int) = col + 1 + ((20000 - (out.length + 1) : Nat) : Int) by omega]
      exact e1
theorem plus_no (k : Nat) : ∀ b ∈ List.replicate k (43 : UInt8), b ≠ 10 := fun b hb => by rw [(List.mem_replicate.1 hb).2]; decide
theorem plus_ok {k : Nat} (h0 : 0 < k) (h : k ≤ 19999) : ∃ x, scanS (List.replicate k 43) = (x, (0, 0), 0) ∧ x.length = k + 1 := by
  obtain ⟨x, h1, h2⟩ := lineS_plus k (k + 1) 1 1 [] (by omega) (by simp; omega)
  refine ⟨x ++ [⟨6, [10], 0, (0, 0), 1, (k : Int) + 1⟩], ?_, by simp [h2]⟩
  unfold scanS
  rw [if_neg (by simp; omega), splitNL_one (plus_no k)]
  unfold scanL
  rw [List.length_replicate, h1]
  simp only [List.nil_append, ne_eq, not_true_eq_false, if_false, List.length_nil]
  rw [if_neg (by omega), if_neg (by omega)]
  simp [scanL]
theorem plus_full {k : Nat} (h : 20000 ≤ k) (h2 : k ≤ 65536) : scanS (List.replicate k 43) = ([], (1, 20001), 4) := by
  unfold scanS
  rw [if_neg (by simp; omega), splitNL_one (plus_no k)]
  unfold scanL
  rw [List.length_replicate]
  by_cases he : k = 20000
  · subst he
    obtain ⟨x, h1, h2⟩ := lineS_plus 20000 (20000 + 1) 1 1 [] (by omega) (by simp)
    rw [h1]
    simp only [List.nil_append, ne_eq, not_true_eq_false, if_false, List.length_nil]
    rw [if_neg (by omega), if_pos h2]
    simp
  · obtain ⟨x, h1⟩ := lineS_over k (k + 1) 1 1 [] (by omega) (by simp) (by simp; omega)
    rw [h1]
    simp
theorem long_text {s : List UInt8} (h : 65536 < s.length) : scanS s = ([], (0, 0), 16) := by
  unfold scanS
  rw [if_pos (by omega)]

theorem elem_info {P : Program} {e : TypeId} {k b : Nat} (h : pelem P e = some (k, b)) : ∃ i, P.info? e = some i ∧ i.bytes = b := by
  unfold pelem at h
  split at h
  · rename_i i h1
    split at h
    · split at h
      · simp only [Option.some.injEq, Prod.mk.injEq] at h
        exact ⟨i, h1, h.2⟩
      · cases h
    · cases h
  · cases h
theorem make_bytes (σ : List SObj) (n : Nat) (hn : n ≤ 1000000) : pmake Tryd.prog σ 23 5 n n = some (.sref σ.length 0 n 1, σ ++ [.box (.agg (List.replicate n (.int .u8 0)))]) := by
  obtain ⟨i, hi, hb⟩ := elem_info (P := Tryd.prog) (e := 5) (k := 1) (b := 1) (by kernel_rfl)
  have h1 : psize Tryd.prog 5 = some 1 := by kernel_rfl
  have h2 : pzero Tryd.prog 5 = some (.int .u8 0) := by kernel_rfl
  have hz : pzeros (.int .u8 0) 1 n = List.replicate n (.int .u8 0) := by
    refine List.ext_getElem? fun j => ?_
    by_cases hj : j < n
    · simp [pzeros, PD.cells, hj, List.getElem?_replicate, Nat.mod_one]
    · rw [List.getElem?_eq_none (by rw [pzeros_len]; omega), List.getElem?_eq_none (by simp; omega)]
  unfold pmake
  simp only [hi, h1, h2, hb]
  rw [if_pos ⟨Nat.le_refl _, by decide, rfl, rfl, by simp only [maxLen]; omega, by omega⟩, if_neg (fun h => h.2 h.1), if_pos trivial, if_pos (by decide), hz]
theorem make_toks (σ : List SObj) (n : Nat) (hn0 : n ≠ 0) (hn : n ≤ 1000000) : pmake Tryd.prog σ 24 41 n n = some (.slice 7 (List.replicate n (Em.tk.emb noTk)) .full, σ) := by
  obtain ⟨i, hi, hb⟩ := elem_info (P := Tryd.prog) (e := 41) (k := 7) (b := 64) (by kernel_rfl)
  have h1 : psize Tryd.prog 41 = some 7 := by kernel_rfl
  have h2 : pzero Tryd.prog 41 = some (Em.tk.emb noTk) := by kernel_rfl
  unfold pmake
  simp only [hi, h1, h2, hb]
  rw [if_pos ⟨Nat.le_refl _, by decide, rfl, rfl, by simp only [maxLen]; omega, by omega⟩, if_neg (fun h => hn0 h.1), if_pos trivial, if_neg (by decide)]

theorem bytes_rep (n : Nat) (b : Nat) (hb : b < 256) : pbytes (List.replicate n (.int .u8 (b : Int))) = some (List.replicate n (UInt8.ofNat b)) := by
  induction n with
  | zero => rfl
  | succ n ih =>
    rw [List.replicate_succ, List.replicate_succ]
    unfold pbytes
    rw [ih]
    simp

variable {E : PExt} (hU : Uni E)
include hU
set_option maxRecDepth 10000
set_option maxHeartbeats 4000000

theorem r_Limits (h0 : E 3 = none) (h1 : E 12 = some (entry (gf1 .text (tks.tup3 .pos i64) fun s => gif ((s.length : Int) < 4000000000) (some (scanS s)))))
    (h2 : E 11 = some (entry (gf0 .bool (some true))))
    (h5 : E 13 = some (entry (gf1 tks (Em.text.tup2 i64) fun l => gif ((writeL none l).length < 4000000000) (some (writeS l)))))
    (a : Int) (ha : 0 ≤ a ∧ a ≤ 255) : Run Tryd.prog E 3 [u8.emb a] (Em.bool.emb true) := by
  obtain ⟨A, rfl⟩ : ∃ A : Nat, a = A := ⟨a.toNat, by omega⟩
  have hA : A ≤ 255 := by omega
  apply Run.bodyL h0 Tryd.func3 rfl
  focus (simp [show Tryd.f3.ntmps = _ from rfl, List.replicate]; rfl)
  obtain ⟨N, hN⟩ : ∃ N : Nat, 65537 + (A : Int) = (N : Int) := ⟨65537 + A, by omega⟩
  have hN2 : 65537 ≤ N ∧ N ≤ 70000 := by omega
  have m1 : pmake Tryd.prog [] 23 5 N N = some (.sref 0 0 N 1, [.box (.agg (List.replicate N (.int .u8 0)))]) := make_bytes [] N (by omega)
  have t1 : prowStr Tryd.prog [SObj.box (.agg (List.replicate N (.int .u8 0)))] 23 9 (.sref 0 0 N 1) = some (.str (List.replicate N 0)) := by
    have e := bytes_rep N 0 (by decide)
    have e2 : prow [SObj.box (.agg (List.replicate N (.int .u8 0)))] (.sref 0 0 N 1) = some (List.replicate N (.int .u8 0)) := by
      simp [prow, PD.cells]
    simp only [prowStr, e2, Tryd.underlying23, Tryd.underlying9, Tryd.underlying5]
    rw [show (List.replicate N (PD.int .u8 0)) = List.replicate N (PD.int .u8 ((0 : Nat) : Int)) from rfl, e]
    rfl
  have s1 := long_text (s := List.replicate N 0) (by rw [List.length_replicate]; omega)
  have l1 : ((List.replicate N (0 : UInt8)).length : Int) < 4000000000 := by rw [List.length_replicate]; omega
  have l1' : (N : Int) < 4000000000 := by omega
  obtain ⟨M, hM⟩ : ∃ M : Nat, 20001 + (A : Int) = (M : Int) := ⟨20001 + A, by omega⟩
  have hM2 : 20001 ≤ M ∧ M ≤ 30000 := by omega
  obtain ⟨B0, hB0⟩ : ∃ B0, SObj.box (.agg (List.replicate N (.int .u8 0))) = B0 := ⟨_, rfl⟩
  rw [hB0] at m1 t1
  have m2 := make_bytes [B0, .box (.agg [.int .i64 0, .int .i64 0])] M (by omega)
  simp only [List.length_cons, List.length_nil, List.cons_append, List.nil_append, Nat.zero_add, Nat.reduceAdd] at m2
  repeat (first
    | (refine Fr.i ?_; simp only [pput, List.set_cons_zero, List.set_cons_succ]; try rfl)
    | (refine By.i ?_; (focus (simp (disch := first | omega | (simp; done) | (simp; omega)) [wrap_i64, wrap_u64, h2, hN, hM, m1, t1, s1, l1, l1', h1, m2, entry, gf0, gf1]; first | done | rfl | exact ⟨rfl, rfl⟩)))
    | (refine By.i ?_; simp (disch := first | omega | (simp; done) | (simp; omega)) [wrap_i64, wrap_u64, h2, hN, hM, m1, t1, s1, l1, l1', h1, m2, entry, gf0, gf1]; refine ⟨(by (try simp only [List.length_append, List.length_cons, List.length_nil, maxLen]); omega), rfl⟩)
    | (refine Wt.i ?_; first | rfl | (focus (simp [h2, hN, hM, m1, t1, s1, l1, l1', h1, m2, entry, gf0, gf1]; done)))
    | (refine Ns.i ?_; (try simp only [List.append_nil, List.nil_append, List.cons_append, List.append_assoc, List.length_append, List.length_cons, List.length_nil, Nat.zero_add, Nat.reduceAdd]); rfl) | rfl
    | (apply SL.pass; (focus (refine Wt.i ?_; rfl))) | (apply SL.convertR; (focus rfl)) | apply SL.move | apply SL.assign | apply SL.load | apply SL.isnilE | apply SL.isnilN | apply SL.make | apply SL.binOp | apply SL.append | apply SL.builtin
    | apply SL.fieldAddr | apply SL.indexAddr | apply SL.field | apply SL.extract | apply SL.fcall | apply SL.pick | apply SL.store | apply SL.unOp | apply SL.convert | apply SL.index | apply SL.slice | apply SL.build | apply SL.nilCheck
    | apply SL.buildSlice | apply SL.box | apply SL.alloc | apply SL.makeFunc | apply SQ.nil | (apply WL.reg; (focus decide +kernel)) | (apply WL.drawP (by assumption); (focus decide +kernel); (focus decide +kernel))
    | (apply WL.drawF; (focus decide +kernel); (focus decide +kernel)) | (apply WL.reg1; (focus decide +kernel)) | (apply WL.drawP1 (by assumption); (focus decide +kernel); (focus decide +kernel))
    | (apply WL.drawF1; (focus decide +kernel); (focus decide +kernel)) | (apply WL.drawM (by assumption); (focus decide +kernel); (focus decide +kernel)) | (apply WL.drawM1 (by assumption); (focus decide +kernel); (focus decide +kernel))
    | (apply WL.drawA (by assumption); (focus decide +kernel); (focus decide +kernel)) | (apply WL.drawA1 (by assumption); (focus decide +kernel); (focus decide +kernel)) | apply WL.skip | (apply WL.ct; (focus rfl))
    | (apply WL.cf; (focus rfl)) | refine SeqQ.normal ?_ | refine SeqQ.ret ?_ | refine SeqQ.exit ?_ | refine BlockQ.normal ?_ | refine BlockQ.ret ?_ | refine BlockQ.here ?_ | refine BlockQ.there (by decide) ?_ | refine Wp.block ?_
    | refine Wp.skip ?_ | refine Wp.ret ?_ | refine Wp.exit ?_ | refine LoopI.ret ?_ | refine LoopI.exit ?_ | refine LoopQ.normal ?_ | refine LoopQ.ret ?_ | refine LoopQ.exit ?_ | refine Wp.seq (Wp.seq ?_) | refine Wp.seq (Wp.block ?_)
    | (refine Wp.seq ?_; apply WL.ct; (focus rfl)) | (refine Wp.seq ?_; apply WL.cf; (focus rfl)))
  obtain ⟨T1, hT1⟩ : ∃ T, List.replicate 19999 (43 : UInt8) = T := ⟨_, rfl⟩
  obtain ⟨T2, hT2⟩ : ∃ T, List.replicate 20000 (43 : UInt8) = T := ⟨_, rfl⟩
  obtain ⟨T3, hT3⟩ : ∃ T, List.replicate M (43 : UInt8) = T := ⟨_, rfl⟩
  obtain ⟨x1, e1, x1l⟩ := plus_ok (k := 19999) (by decide) (Nat.le_refl _)
  have e2 := plus_full (k := 20000) (Nat.le_refl _) (by decide)
  have e3 := plus_full (k := M) (by omega) (by omega)
  have l2 : (T1.length : Int) < 4000000000 := by rw [← hT1, List.length_replicate]; decide
  have l3 : (T2.length : Int) < 4000000000 := by rw [← hT2, List.length_replicate]; decide
  have l4 : (T3.length : Int) < 4000000000 := by rw [← hT3, List.length_replicate]; omega
  obtain ⟨Bm, hBm⟩ : ∃ Bm, SObj.box (.agg (List.replicate M (.int .u8 43))) = Bm := ⟨_, rfl⟩
  have str : ∀ (B1 : SObj) (τ : List SObj) (k : Nat), k ≤ M → prowStr Tryd.prog (B0 :: B1 :: Bm :: τ) 23 9 (.sref 2 0 k 1) = some (.str (List.replicate k 43)) := by
    intro B1 τ k hk
    have e := bytes_rep k 43 (by decide)
    have e2 : prow (B0 :: B1 :: Bm :: τ) (.sref 2 0 k 1) = some (List.replicate k (.int .u8 43)) := by
      rw [← hBm]
      simp [prow, PD.cells, hk, List.take_replicate, Nat.min_eq_left hk]
    simp only [prowStr, e2, Tryd.underlying23, Tryd.underlying9, Tryd.underlying5]
    rw [show (List.replicate k (PD.int .u8 43)) = List.replicate k (PD.int .u8 ((43 : Nat) : Int)) from rfl, e]
    rfl
  have t3 := fun B1 τ => str B1 τ M (Nat.le_refl _)
  have t4 := fun B1 τ => str B1 τ 19999 (by omega)
  have t5 := fun B1 τ => str B1 τ 20000 (by omega)
  rw [hT3] at e3
  rw [hT2] at e2
  rw [hT1] at e1
  simp only [hT3] at t3
  simp only [hT1] at t4
  simp only [hT2] at t5
  obtain ⟨L1, hL1⟩ : ∃ L, List.replicate 20001 noTk = L := ⟨_, rfl⟩
  have hL1l : L1.length = 20001 := by rw [← hL1, List.length_replicate]
  have m5 : ∀ σ, pmake Tryd.prog σ 24 41 20001 20001 = some (.slice 7 (L1.map Em.tk.emb) .full, σ) := by
    intro σ
    rw [make_toks σ 20001 (by decide) (by decide), ← hL1, List.map_replicate]
  have hd5 : tks.dec (.slice 7 (L1.map Em.tk.emb) .full) = some L1 := dec_list_k
  have hw5 : (writeL none L1).length < 4000000000 := by
    have := writeL_len60 (l := L1) (fun t ht => by rw [← hL1] at ht; rw [(List.mem_replicate.1 ht).2]; decide) none
    omega
  have hws : writeS L1 = ([], 4) := by
    unfold writeS
    rw [if_pos (by omega)]
  have x1l' : (x1.length : Int) = 20000 := by omega
  clear hT1 hT2 hT3 hL1
  have hset : ∀ i, i < M → PD.setCells (.agg (List.replicate i (.int .u8 43) ++ List.replicate (M - i) (.int .u8 0))) i [.int .u8 43] = some (.agg (List.replicate (i + 1) (.int .u8 43) ++ List.replicate (M - (i + 1)) (.int .u8 0))) := by
    intro i hi
    obtain ⟨k, hk⟩ : ∃ k, M - i = k + 1 := ⟨M - i - 1, by omega⟩
    have hk2 : M - (i + 1) = k := by omega
    rw [hk, hk2]
    have hle : i + [PD.int .u8 43].length ≤ (List.replicate i (PD.int .u8 43) ++ List.replicate (k + 1) (PD.int .u8 0)).length := by
      simp only [List.length_append, List.length_replicate, List.length_singleton]
      omega
    have e : pfillAt (List.replicate i (PD.int .u8 43) ++ List.replicate (k + 1) (PD.int .u8 0)) i [PD.int .u8 43] = List.replicate (i + 1) (PD.int .u8 43) ++ List.replicate k (PD.int .u8 0) := by
      unfold pfillAt
      rw [List.take_left' (by simp), List.length_singleton, ← List.drop_drop, List.drop_left' (by simp), List.replicate_succ' (n := i), List.replicate_succ (n := k)]
      simp
    simp only [PD.setCells, hle, if_true, e]
  refine Wp.loopI (fun m fr σ => ∃ (i : Nat), ∃ gg : Nat → PD, (i + m = M) ∧ fr = .int .u8 A :: gg 1 :: .bool false :: gg 3 :: gg 4 :: .ptr 1 0 :: .int .i64 16 :: .sref 2 0 M 1 :: gg 8 :: gg 9 :: gg 10 :: gg 11 :: gg 12 :: gg 13 :: gg 14 :: gg 15 :: gg 16 :: gg 17 :: gg 18 :: gg 19 :: gg 20 :: gg 21 :: gg 22 :: gg 23 :: gg 24 :: gg 25 :: gg 26 :: gg 27 :: gg 28 :: gg 29 :: gg 30 :: gg 31 :: gg 32 :: gg 33 :: gg 34 :: gg 35 :: gg 36 :: gg 37 :: gg 38 :: .int .i64 M :: .int .i64 i :: gg 41 :: gg 42 :: gg 43 :: gg 44 :: gg 45 :: gg 46 :: gg 47 :: gg 48 :: gg 49 :: gg 50 :: gg 51 :: gg 52 :: gg 53 :: gg 54 :: gg 55 :: gg 56 :: gg 57 :: gg 58 :: gg 59 :: gg 60 :: gg 61 :: gg 62 :: gg 63 :: gg 64 :: gg 65 :: gg 66 :: gg 67 :: gg 68 :: gg 69 :: gg 70 :: gg 71 :: gg 72 :: gg 73 :: gg 74 :: gg 75 :: gg 76 :: gg 77 :: gg 78 :: gg 79 :: gg 80 :: gg 81 :: gg 82 :: gg 83 :: gg 84 :: gg 85 :: gg 86 :: gg 87 :: gg 88 :: gg 89 :: gg 90 :: gg 91 :: gg 92 :: gg 93 :: gg 94 :: gg 95 :: gg 96 :: gg 97 :: gg 98 :: gg 99 :: gg 100 :: gg 101 :: gg 102 :: gg 103 :: gg 104 :: gg 105 :: gg 106 :: gg 107 :: gg 108 :: gg 109 :: gg 110 :: gg 111 :: gg 112 :: gg 113 :: [] ∧ σ = [B0, .box (.agg [.int .i64 0, .int .i64 0]), .box (.agg (List.replicate i (.int .u8 43) ++ List.replicate (M - i) (.int .u8 0)))]) ?_ (M) (by refine ⟨0, ?_⟩; exact exF (by omega) (by (first | rfl | (simp []; repeat (first | rfl | (apply And.intro))) | (simp []; done))) (by (first | rfl | (simp []; repeat (first | rfl | (apply And.intro))) | (simp []; done))))
  rintro m fr σ ⟨i, gg, hI, rfl, rfl⟩
  by_cases hi : i < M
  · have q1 : (i : Int) < (M : Int) := by omega
    have hst : pstore Tryd.prog 0 [B0, .box (.agg [.int .i64 0, .int .i64 0]), .box (.agg (List.replicate i (.int .u8 43) ++ List.replicate (M - i) (.int .u8 0)))] 5 (.ptr 2 i) (.int .u8 43) = some [B0, .box (.agg [.int .i64 0, .int .i64 0]), .box (.agg (List.replicate (i + 1) (.int .u8 43) ++ List.replicate (M - (i + 1)) (.int .u8 0)))] :=
      pstore_box (n := 1) (Nat.zero_le _) rfl (by kernel_rfl) rfl rfl (hset i hi)
    repeat (first
      | (refine Fr.i ?_; simp only [pput, List.set_cons_zero, List.set_cons_succ]; try rfl)
      | (refine By.i ?_; (focus (simp (disch := first | omega | (simp; done) | (simp; omega)) [wrap_i64, wrap_u64, q1, hi]; first | done | rfl | exact ⟨rfl, rfl⟩)))
      | (refine By.i ?_; simp (disch := first | omega | (simp; done) | (simp; omega)) [wrap_i64, wrap_u64, q1, hi]; refine ⟨(by (try simp only [List.length_append, List.length_cons, List.length_nil, maxLen]); omega), rfl⟩)
      | (refine Wt.i ?_; first | rfl | (focus (simp [q1, hi]; done)))
      | (refine Ns.i ?_; (try simp only [List.append_nil, List.nil_append, List.cons_append, List.append_assoc, List.length_append, List.length_cons, List.length_nil, Nat.zero_add, Nat.reduceAdd]); rfl) | rfl
      | (apply SL.pass; (focus (refine Wt.i ?_; rfl))) | (apply SL.convertR; (focus rfl)) | apply SL.move | apply SL.assign | apply SL.load | apply SL.isnilE | apply SL.isnilN | apply SL.make | apply SL.binOp | apply SL.append
      | apply SL.builtin | apply SL.fieldAddr | apply SL.indexAddr | apply SL.field | apply SL.extract | apply SL.fcall | apply SL.pick | apply SL.store | apply SL.unOp | apply SL.convert | apply SL.index | apply SL.slice | apply SL.build
      | apply SL.nilCheck | apply SL.buildSlice | apply SL.box | apply SL.alloc | apply SL.makeFunc | apply SQ.nil | (apply WL.reg; (focus decide +kernel)) | (apply WL.drawP (by assumption); (focus decide +kernel); (focus decide +kernel))
      | (apply WL.drawF; (focus decide +kernel); (focus decide +kernel)) | (apply WL.reg1; (focus decide +kernel)) | (apply WL.drawP1 (by assumption); (focus decide +kernel); (focus decide +kernel))
      | (apply WL.drawF1; (focus decide +kernel); (focus decide +kernel)) | (apply WL.drawM (by assumption); (focus decide +kernel); (focus decide +kernel)) | (apply WL.drawM1 (by assumption); (focus decide +kernel); (focus decide +kernel))
      | (apply WL.drawA (by assumption); (focus decide +kernel); (focus decide +kernel)) | (apply WL.drawA1 (by assumption); (focus decide +kernel); (focus decide +kernel)) | apply WL.skip | (apply WL.ct; (focus rfl))
      | (apply WL.cf; (focus rfl)) | refine SeqQ.normal ?_ | refine SeqQ.ret ?_ | refine SeqQ.exit ?_ | refine BlockQ.normal ?_ | refine BlockQ.ret ?_ | refine BlockQ.here ?_ | refine BlockQ.there (by decide) ?_ | refine Wp.block ?_
      | refine Wp.skip ?_ | refine Wp.ret ?_ | refine Wp.exit ?_ | refine LoopI.ret ?_ | refine LoopI.exit ?_ | refine LoopQ.normal ?_ | refine LoopQ.ret ?_ | refine LoopQ.exit ?_ | refine Wp.seq (Wp.seq ?_) | refine Wp.seq (Wp.block ?_)
      | (refine Wp.seq ?_; apply WL.ct; (focus rfl)) | (refine Wp.seq ?_; apply WL.cf; (focus rfl)))
    focus (refine By.i ?_; exact hst)
    repeat (first
      | (refine Fr.i ?_; simp only [pput, List.set_cons_zero, List.set_cons_succ]; try rfl)
      | (refine By.i ?_; (focus (simp (disch := first | omega | (simp; done) | (simp; omega)) [wrap_i64, wrap_u64, q1]; first | done | rfl | exact ⟨rfl, rfl⟩)))
      | (refine By.i ?_; simp (disch := first | omega | (simp; done) | (simp; omega)) [wrap_i64, wrap_u64, q1]; refine ⟨(by (try simp only [List.length_append, List.length_cons, List.length_nil, maxLen]); omega), rfl⟩)
      | (refine Wt.i ?_; first | rfl | (focus (simp [q1]; done)))
      | (refine Ns.i ?_; (try simp only [List.append_nil, List.nil_append, List.cons_append, List.append_assoc, List.length_append, List.length_cons, List.length_nil, Nat.zero_add, Nat.reduceAdd]); rfl) | rfl
      | (apply SL.pass; (focus (refine Wt.i ?_; rfl))) | (apply SL.convertR; (focus rfl)) | apply SL.move | apply SL.assign | apply SL.load | apply SL.isnilE | apply SL.isnilN | apply SL.make | apply SL.binOp | apply SL.append
      | apply SL.builtin | apply SL.fieldAddr | apply SL.indexAddr | apply SL.field | apply SL.extract | apply SL.fcall | apply SL.pick | apply SL.store | apply SL.unOp | apply SL.convert | apply SL.index | apply SL.slice | apply SL.build
      | apply SL.nilCheck | apply SL.buildSlice | apply SL.box | apply SL.alloc | apply SL.makeFunc | apply SQ.nil | (apply WL.reg; (focus decide +kernel)) | (apply WL.drawP (by assumption); (focus decide +kernel); (focus decide +kernel))
      | (apply WL.drawF; (focus decide +kernel); (focus decide +kernel)) | (apply WL.reg1; (focus decide +kernel)) | (apply WL.drawP1 (by assumption); (focus decide +kernel); (focus decide +kernel))
      | (apply WL.drawF1; (focus decide +kernel); (focus decide +kernel)) | (apply WL.drawM (by assumption); (focus decide +kernel); (focus decide +kernel)) | (apply WL.drawM1 (by assumption); (focus decide +kernel); (focus decide +kernel))
      | (apply WL.drawA (by assumption); (focus decide +kernel); (focus decide +kernel)) | (apply WL.drawA1 (by assumption); (focus decide +kernel); (focus decide +kernel)) | apply WL.skip | (apply WL.ct; (focus rfl))
      | (apply WL.cf; (focus rfl)) | refine SeqQ.normal ?_ | refine SeqQ.ret ?_ | refine SeqQ.exit ?_ | refine BlockQ.normal ?_ | refine BlockQ.ret ?_ | refine BlockQ.here ?_ | refine BlockQ.there (by decide) ?_ | refine Wp.block ?_
      | refine Wp.skip ?_ | refine Wp.ret ?_ | refine Wp.exit ?_ | refine LoopI.ret ?_ | refine LoopI.exit ?_ | refine LoopQ.normal ?_ | refine LoopQ.ret ?_ | refine LoopQ.exit ?_ | refine Wp.seq (Wp.seq ?_) | refine Wp.seq (Wp.block ?_)
      | (refine Wp.seq ?_; apply WL.ct; (focus rfl)) | (refine Wp.seq ?_; apply WL.cf; (focus rfl)))
    refine LoopI.normal (m - 1) (by omega) (by refine ⟨i + 1, ?_⟩; exact exF (by omega) (by (first | rfl | (simp []; repeat (first | rfl | (apply And.intro))) | (simp []; done))) (by (first | rfl | (simp []; repeat (first | rfl | (apply And.intro))) | (simp []; done))))
  · have q1 : ¬ (i : Int) < (M : Int) := by omega
    have hie : i = M := by omega
    subst hie
    have hbox : SObj.box (.agg (List.replicate i (.int .u8 43) ++ List.replicate (i - i) (.int .u8 0))) = Bm := by rw [← hBm]; simp
    rw [hbox]
    repeat (first
      | (refine Fr.i ?_; simp only [pput, List.set_cons_zero, List.set_cons_succ]; try rfl)
      | (refine By.i ?_; (focus (simp (disch := first | omega | (simp; done) | (simp; omega)) [wrap_i64, wrap_u64, q1, h1, h5, t3, t4, t5, e1, e2, e3, l2, l3, l4, m5, hd5, hw5, hws, x1l, x1l', entry, gf1]; first | done | rfl | exact ⟨rfl, rfl⟩)))
      | (refine By.i ?_; simp (disch := first | omega | (simp; done) | (simp; omega)) [wrap_i64, wrap_u64, q1, h1, h5, t3, t4, t5, e1, e2, e3, l2, l3, l4, m5, hd5, hw5, hws, x1l, x1l', entry, gf1]; refine ⟨(by (try simp only [List.length_append, List.length_cons, List.length_nil, maxLen]); omega), rfl⟩)
      | (refine Wt.i ?_; first | rfl | (focus (simp [q1, h1, h5, t3, t4, t5, e1, e2, e3, l2, l3, l4, m5, hd5, hw5, hws, x1l, x1l', entry, gf1]; done)))
      | (refine Ns.i ?_; (try simp only [List.append_nil, List.nil_append, List.cons_append, List.append_assoc, List.length_append, List.length_cons, List.length_nil, Nat.zero_add, Nat.reduceAdd]); rfl) | rfl
      | (apply SL.pass; (focus (refine Wt.i ?_; rfl))) | (apply SL.convertR; (focus rfl)) | apply SL.move | apply SL.assign | apply SL.load | apply SL.isnilE | apply SL.isnilN | apply SL.make | apply SL.binOp | apply SL.append
      | apply SL.builtin | apply SL.fieldAddr | apply SL.indexAddr | apply SL.field | apply SL.extract | apply SL.fcall | apply SL.pick | apply SL.store | apply SL.unOp | apply SL.convert | apply SL.index | apply SL.slice | apply SL.build
      | apply SL.nilCheck | apply SL.buildSlice | apply SL.box | apply SL.alloc | apply SL.makeFunc | apply SQ.nil | (apply WL.reg; (focus decide +kernel)) | (apply WL.drawP (by assumption); (focus decide +kernel); (focus decide +kernel))
      | (apply WL.drawF; (focus decide +kernel); (focus decide +kernel)) | (apply WL.reg1; (focus decide +kernel)) | (apply WL.drawP1 (by assumption); (focus decide +kernel); (focus decide +kernel))
      | (apply WL.drawF1; (focus decide +kernel); (focus decide +kernel)) | (apply WL.drawM (by assumption); (focus decide +kernel); (focus decide +kernel)) | (apply WL.drawM1 (by assumption); (focus decide +kernel); (focus decide +kernel))
      | (apply WL.drawA (by assumption); (focus decide +kernel); (focus decide +kernel)) | (apply WL.drawA1 (by assumption); (focus decide +kernel); (focus decide +kernel)) | apply WL.skip | (apply WL.ct; (focus rfl))
      | (apply WL.cf; (focus rfl)) | refine SeqQ.normal ?_ | refine SeqQ.ret ?_ | refine SeqQ.exit ?_ | refine BlockQ.normal ?_ | refine BlockQ.ret ?_ | refine BlockQ.here ?_ | refine BlockQ.there (by decide) ?_ | refine Wp.block ?_
      | refine Wp.skip ?_ | refine Wp.ret ?_ | refine Wp.exit ?_ | refine LoopI.ret ?_ | refine LoopI.exit ?_ | refine LoopQ.normal ?_ | refine LoopQ.ret ?_ | refine LoopQ.exit ?_ | refine Wp.seq (Wp.seq ?_) | refine Wp.seq (Wp.block ?_)
      | (refine Wp.seq ?_; apply WL.ct; (focus rfl)) | (refine Wp.seq ?_; apply WL.cf; (focus rfl)))
    simp (disch := first | omega | (simp; done) | (simp; omega)) [decide_eq_decide] <;> try rfl
end Go.Kz

/-
  What LexerLimits is handed.
-/
namespace Go.Proofs.YtngmkfjeekpnpaaDoor
open Go Go.Kz Go.ChangeShapes Go.WideShapes Go.ChangeAt Go.WideMaps Go.WideElems Go.RowKit
set_option maxRecDepth 100000
theorem ty_u8' {d : Nat} {qs : List PD} (h : Typed Tryd.prog (d + 2) 5 qs) : ∃ n : Int, asPD Tryd.prog 5 qs = .int .u8 n ∧ 0 ≤ n ∧ n ≤ 255 := by
  obtain ⟨n, rfl, w⟩ := typed_int Tryd.underlying5 h
  exact ⟨n, by rfl, wf_u8 w⟩
end Go.Proofs.YtngmkfjeekpnpaaDoor

/-
  LexerLimits holds: the law answers true, whatever it is handed.
-/
namespace Go.Proofs.YtngmkfjeekpnpaaDoor
open Go Go.Kz Go.ChangeShapes Go.WideShapes Go.ChangeAt Go.WideMaps Go.WideElems Go.RowKit
set_option maxRecDepth 100000

theorem lifted_LexerLimits (os : Os) (started : os.Started) (H : Type) (enc : TypeId × Value → H) :
    ReturnsInHanded {} Tryd.checked os 3 .any (fun w args => (Rows.lexerLimitsSpec.pre enc Tryd.prog Tryd.f3 [] false w args ∧ laidMetH Tryd.prog laidL w) ∧ sizedMet enc Tryd.prog Tryd.f3 (OpenSpec.ofChange Rows.lexerLimitsSpec) false w args)
      (Rows.lexerLimitsSpec.post enc Tryd.prog Tryd.f3 false true false false) := by
  refine handed_shaped (C := Tryd.checked) (X := fun w _ => laidMetH Tryd.prog laidL w) (fun _ _ _ hh h => h.of_heap hh) own started (by kernel_rfl) Tryd.func3
    (ChangeSpec.witness_shaped (enc := enc) (C := Tryd.checked) (os := os) (X := fun w _ => laidMetH Tryd.prog laidL w) false (lexDoor os) #[.int .u8 0] 12 rfl (World.shaped_of_RefB (by kernel_rfl) (by kernel_rfl)) (by kernel_rfl) (by kernel_rfl) (by kernel_rfl) (door_met os _)) ?_
  intro W base args ds gs before hsh hval hW _ _ hL _
  have hval : ∀ (j : Nat) t v, Tryd.f3.params[j]? = some t → args[j]? = some v → Value.okWide Tryd.prog W .any base t v := hval
  have hW' := hW
  obtain ⟨p, q, hA, _, _, _, _⟩ := hW
  have hA : DataW.TrodAll enc Tryd.prog W 0 (fun _ => true) true Tryd.f3.params.toList args.toList ds p := hA
  rw [Tryd.params3] at hA hval
  obtain ⟨v1, d1, rfl, _, h1⟩ := trodAll_one hA
  obtain ⟨q1, t1, r1⟩ := arg_typed (n := 12) (t := 5) (v := v1) (by kernel_rfl) (hval 0 _ _ rfl rfl) h1
  obtain ⟨a, e1, ha⟩ := ty_u8' t1
  rw [e1] at r1
  have run := r_Limits En2_uni rfl rfl rfl rfl a ha
  refine (Run.calls En2_ok follows names run (glob hsh hL) (vrs_cons r1 vrs_nil)).mono fun e' W' ⟨he, hb⟩ => ?_
  subst he
  exact ⟨_, rfl, law_post laidOut rfl hW' hb rfl Tryd.underlying4 (by kernel_rfl) (fun ds hg hd => by
    subst hg
    match ds, hd with
    | [d1], _ => rfl)⟩

theorem lexerLimits_holds : Rows.LexerLimitsSaid :=
  OpenClaim.holds_of_wide 3 Tryd.f3 rfl rfl rfl rfl rfl rfl rfl ⟨rfl, rfl, rfl, rfl, rfl⟩ rfl rfl rfl rfl rfl (by kernel_rfl) Tryd.func3 (by kernel_rfl)
    (of_decide_eq_true (by kernel_rfl)) (by unfold Func.isWrapper; first | (rw [if_pos (by decide +kernel)]; kernel_rfl) | (rw [if_neg (by decide +kernel)]; exact ⟨rfl, rfl⟩))
    (fun os started H enc _ => lifted_LexerLimits os started H enc)

theorem lexerLimits_card : Rows.LexerLimitsCardSaid :=
  Claim7.holds_tied_plain_at .later [] [.data, .data, .data, .data, .pinned] true (true, "c0be699b855568e9df29e407351f013d4f347c995e2c35068880bb9fe0430a49") false
    lexerLimits_holds (fun _ h => by cases h) (by kernel_rfl) (fun _ h => by cases h) lexerLimits_row_tie rfl ⟨rfl, rfl⟩ (by kernel_rfl) rfl
    (fun f fn hf hfn => by
      obtain rfl : f = 3 := Option.some.inj ((show Tryd.prog.funcNamed "bombarde/bombardelaw19.LexerLimits" = some 3 by kernel_rfl).symm.trans hf) |>.symm
      obtain rfl : fn = Tryd.f3 := (Option.some.inj (Tryd.func3.symm.trans hfn)).symm
      exact ⟨by kernel_rfl, fun j t ht => by
        rw [Tryd.params3] at ht
        have hm := Array.mem_of_getElem? ht
        have hall : (#[5].all fun u => !Tryd.prog.wantsStandIn u) = true := by kernel_rfl
        have := Array.all_eq_true_iff_forall_mem.1 hall t hm
        exact (show Tryd.prog.wantsStandIn t = false by simpa using this)⟩)
    (by kernel_rfl)
end Go.Proofs.YtngmkfjeekpnpaaDoor
