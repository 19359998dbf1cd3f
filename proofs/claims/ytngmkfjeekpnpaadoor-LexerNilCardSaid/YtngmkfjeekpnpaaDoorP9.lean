/-
  Part P9 of the way: an interpreter over pure data, its soundness, walks through functions.
-/
import Derived.Test.YtngmkfjeekpnpaaDoorP6
import Derived.Test.YtngmkfjeekpnpaaDoorP7
import Derived.Test.YtngmkfjeekpnpaaDoorP8
set_option linter.all false

/-
  Layer 19: what is written is scanned again: single tokens.
-/
namespace Go.Kz
open Go Go.Proofs

/-- The end, or a blank. -/
def sp (r : List UInt8) : Prop := r = [] ∨ ∃ u, r = 32 :: u
theorem sp_pk {r : List UInt8} (h : sp r) : pk r 0 = 0 ∨ pk r 0 = 32 := by
  rcases h with rfl | ⟨u, rfl⟩
  · exact .inl (pk_end (Nat.le_refl _))
  · exact .inr (by simp [pk])
theorem pk_cons0 {b : UInt8} {r : List UInt8} : pk (b :: r) 0 = b.toNat := by simp [pk]
theorem pk_consS {b : UInt8} {r : List UInt8} {i : Nat} : pk (b :: r) (i + 1) = pk r i := by simp [pk, List.getD]
theorem pk_right (w r : List UInt8) (i : Nat) : pk (w ++ r) (w.length + i) = pk r i := by
  induction w with
  | nil => simp
  | cons b w ih =>
    have : (b :: w).length + i = (w.length + i) + 1 := by rw [List.length_cons]; omega
    rw [List.cons_append, this, pk_consS, ih]
theorem pk_right0 (w r : List UInt8) : pk (w ++ r) w.length = pk r 0 := pk_right w r 0
theorem pk_left {w r : List UInt8} {i : Nat} (h : i < w.length) : pk (w ++ r) i = pk w i := by
  rw [pk_at (by rw [List.length_append]; omega), pk_at h, List.getElem_append_left h]
theorem spanN_app {p : Int → Bool} {w r : List UInt8} (hw : ∀ b ∈ w, p b.toNat = true) (hr : r = [] ∨ p (pk r 0) = false) : spanN p (w ++ r) = w.length := by
  induction w with
  | nil =>
    rcases hr with rfl | hr
    · rfl
    · cases r with
      | nil => rfl
      | cons b r =>
        rw [pk_cons0] at hr
        rw [List.nil_append, spanN_cons, if_neg (by rw [hr]; simp)]
        rfl
  | cons b w ih =>
    rw [List.cons_append, spanN_cons, if_pos (hw b (by simp)), ih fun c hc => hw c (by simp [hc]), List.length_cons]
theorem spanN_sp {p : Int → Bool} (hp : p 32 = false) {w r : List UInt8} (hw : ∀ b ∈ w, p b.toNat = true) (hr : sp r) : spanN p (w ++ r) = w.length := by
  refine spanN_app hw ?_
  rcases hr with rfl | ⟨u, rfl⟩
  · exact .inl rfl
  · exact .inr (by rw [pk_cons0]; exact hp)

/-! ### digits -/
theorem dec_valN (u : Nat) : valN (Lib.decDigits u) = u := by
  induction u using Nat.strongRecOn with
  | ind u ih =>
    rw [Lib.decDigits]
    split
    · rename_i h
      have : ([UInt8.ofNat (48 + u)] : List UInt8) = [] ++ [UInt8.ofNat (48 + u)] := rfl
      rw [this, valN_snoc]
      have e : (UInt8.ofNat (48 + u)).toNat = 48 + u := by
        rw [UInt8.toNat_ofNat']
        omega
      rw [e]
      simp [valN]
    · rename_i h
      rw [valN_snoc, ih (u / 10) (by omega)]
      have e : (UInt8.ofNat (48 + u % 10)).toNat = 48 + u % 10 := by
        rw [UInt8.toNat_ofNat']
        omega
      rw [e]
      omega
theorem dec_dig (u : Nat) : allDig (Lib.decDigits u) := by
  induction u using Nat.strongRecOn with
  | ind u ih =>
    have key : ∀ k, k < 10 → digN ((UInt8.ofNat (48 + k)).toNat : Int) = true := by
      intro k hk
      have e : (UInt8.ofNat (48 + k)).toNat = 48 + k := by
        rw [UInt8.toNat_ofNat']
        omega
      rw [e]
      simp only [digN, Bool.and_eq_true, decide_eq_true_eq]
      omega
    rw [Lib.decDigits]
    split
    · rename_i h
      intro b hb
      simp only [List.mem_singleton] at hb
      subst hb
      exact key u h
    · rename_i h
      intro b hb
      rcases List.mem_append.1 hb with hb | hb
      · exact ih (u / 10) (by omega) b hb
      · simp only [List.mem_singleton] at hb
        subst hb
        exact key _ (Nat.mod_lt _ (by decide))
theorem dec_pos (u : Nat) : 0 < (Lib.decDigits u).length := by
  rw [Lib.decDigits]
  split
  · simp
  · rw [List.length_append, List.length_singleton]
    omega
theorem dec_len : ∀ (k u : Nat), u < 10 ^ (k + 1) → (Lib.decDigits u).length ≤ k + 1
  | 0, u, h => by
    rw [Lib.decDigits, dif_pos (by omega)]
    simp
  | k + 1, u, h => by
    rw [Lib.decDigits]
    split
    · simp
    · rw [List.length_append, List.length_singleton]
      have := dec_len k (u / 10) (by
        rw [Nat.pow_succ] at h
        exact Nat.div_lt_of_lt_mul (by rw [Nat.mul_comm]; exact h))
      omega
theorem dig_let {n : Int} (h : digN n = true) : letN n = false := by
  cases hl : letN n with
  | false => rfl
  | true => rw [let_dig hl] at h; cases h
theorem dig_bd {b : UInt8} (h : digN b.toNat = true) : 48 ≤ b.toNat ∧ b.toNat ≤ 57 := by
  simp only [digN, Bool.and_eq_true, decide_eq_true_eq] at h
  omega
theorem dig_head {w : List UInt8} (h : allDig w) (h0 : 0 < w.length) : digN (pk w 0) = true := by
  rw [pk_at h0]
  exact h _ (List.getElem_mem h0)
theorem dig_head_bd {w : List UInt8} (h : allDig w) (h0 : 0 < w.length) : 48 ≤ pk w 0 ∧ pk w 0 ≤ 57 := by
  rw [pk_at h0]
  exact dig_bd (h _ (List.getElem_mem h0))
theorem itoa_nat (n : Nat) : Lib.itoa (n : Int) = Lib.decDigits n := by
  unfold Lib.itoa
  rw [if_neg (by omega), Int.toNat_natCast]
theorem itoa_neg {n : Nat} (h : 0 < n) : Lib.itoa (-(n : Int)) = 45 :: Lib.decDigits n := by
  unfold Lib.itoa
  rw [if_pos (by omega)]
  simp

/-! ### one token, scanned again -/
theorem good_word {w : List UInt8} (h1 : letN (pk w 0) = true) (h2 : ∀ b ∈ w, wordN b.toNat = true) (h3 : w.length ≤ 32) {r : List UInt8} (hr : sp r) : tokS (w ++ r) = (⟨1, w, 0, (0, 0), 0, 0⟩, (w.length : Int), 0) := by
  have h0 : 0 < w.length := Nat.pos_of_ne_zero fun e => by
    rw [List.eq_nil_of_length_eq_zero e] at h1
    revert h1
    decide
  have hsp := spanN_sp (p := wordN) (by decide) h2 hr
  unfold tokS
  rw [if_pos (by rw [pk_left h0]; exact h1), hsp, if_neg (by omega), List.take_left']
  rfl
theorem trim_dig {w : List UInt8} (h : allDig w) : Lib.trimPrefix w [45] = w := by
  unfold Lib.trimPrefix
  rw [if_neg]
  intro hp
  cases w with
  | nil => simp [Lib.hasPrefix, List.isPrefixOf] at hp
  | cons b w =>
    simp only [Lib.hasPrefix, List.isPrefixOf, Bool.and_true, beq_iff_eq] at hp
    subst hp
    have := h 45 (by simp)
    revert this
    decide
theorem trim_neg {w : List UInt8} : Lib.trimPrefix (45 :: w) [45] = w := by
  unfold Lib.trimPrefix
  rw [if_pos (by simp [Lib.hasPrefix, List.isPrefixOf])]
  rfl
theorem good_pos {n : Nat} (h : n ≤ 1000000000) {r : List UInt8} (hr : sp r) : tokS (Lib.decDigits n ++ r) = (⟨2, Lib.decDigits n, n, (0, 0), 0, 0⟩, ((Lib.decDigits n).length : Int), 0) := by
  have hd := dec_dig n
  have h0 := dec_pos n
  have hv := dec_valN n
  have hi := itoa_nat n
  obtain ⟨D, hD⟩ : ∃ D, Lib.decDigits n = D := ⟨_, rfl⟩
  rw [hD] at hd h0 hv hi ⊢
  have hp := dig_head hd h0
  have hb := dig_head_bd hd h0
  have hsp := spanN_sp (p := digN) (by decide) hd hr
  have hparts : (partsS (D ++ r)).2 = 0 := by
    unfold partsS
    simp only [hsp, pk_right0]
    rcases sp_pk hr with h | h <;> rw [h] <;> rfl
  have hnum : numS D = (⟨2, D, n, (0, 0), 0, 0⟩, 0) := by
    unfold numS
    simp only [trim_dig hd, hv]
    rw [if_neg (by omega), if_neg (by omega), hi]
  unfold tokS
  rw [if_neg (by rw [pk_left h0, dig_let hp]; simp), if_pos (by rw [pk_left h0]; exact hp), if_neg (by rw [hparts]; decide), hsp, List.take_left' rfl, hnum]
theorem good_neg {n : Nat} (h : n ≤ 1000000000) (h1 : 0 < n) {r : List UInt8} (hr : sp r) : tokS ((45 :: Lib.decDigits n) ++ r) = (⟨2, 45 :: Lib.decDigits n, -(n : Int), (0, 0), 0, 0⟩, ((Lib.decDigits n).length : Int) + 1, 0) := by
  have hd := dec_dig n
  have h0 := dec_pos n
  have hv := dec_valN n
  have hi := itoa_neg h1
  obtain ⟨D, hD⟩ : ∃ D, Lib.decDigits n = D := ⟨_, rfl⟩
  rw [hD] at hd h0 hv hi ⊢
  have hp := dig_head hd h0
  have hsp := spanN_sp (p := digN) (by decide) hd hr
  have hnum : numS (45 :: D) = (⟨2, 45 :: D, -(n : Int), (0, 0), 0, 0⟩, 0) := by
    unfold numS
    simp only [trim_neg, hv, pk_cons0]
    rw [if_neg (by omega), if_pos (by rfl), hi]
  have e0 : pk (45 :: D ++ r) 0 = 45 := by rw [List.cons_append, pk_cons0]; rfl
  have e1 : pk (45 :: D ++ r) 1 = pk D 0 := by rw [List.cons_append, pk_consS, pk_left h0]
  have e2 : (45 :: D ++ r).drop 1 = D ++ r := rfl
  have e3 : (45 :: D ++ r).take (1 + D.length) = 45 :: D := by
    rw [Nat.add_comm]
    simp
  unfold tokS
  rw [if_neg (by rw [e0]; decide), if_neg (by rw [e0]; decide), if_pos ⟨e0, by rw [e1]; exact hp⟩, e2, hsp, e3, hnum]
  simp only [Prod.mk.injEq, true_and, and_true]
  omega
theorem parts_whole {A r : List UInt8} (hA : allDig A) : partsS (A ++ 39 :: r) = ((A, [], []), (A.length : Int) + 1) := by
  have hsp : spanN digN (A ++ 39 :: r) = A.length := spanN_app hA (.inr (by rw [pk_cons0]; decide))
  unfold partsS
  simp only [hsp, pk_right0, pk_cons0, List.take_left' rfl]
  rw [if_pos (by rfl)]
theorem parts_frac {A B r : List UInt8} (hA : allDig A) (hB : allDig B) (h0 : 0 < B.length) : partsS (A ++ 47 :: (B ++ 39 :: r)) = (([], A, B), (A.length : Int) + 1 + B.length + 1) := by
  have hsp : spanN digN (A ++ 47 :: (B ++ 39 :: r)) = A.length := spanN_app hA (.inr (by rw [pk_cons0]; decide))
  have hsp2 : spanN digN (B ++ 39 :: r) = B.length := spanN_app hB (.inr (by rw [pk_cons0]; decide))
  have hdrop : (A ++ 47 :: (B ++ 39 :: r)).drop (A.length + 1) = B ++ 39 :: r := by
    rw [← List.drop_drop, List.drop_left' rfl]
    rfl
  have hp : pk (A ++ 47 :: (B ++ 39 :: r)) (A.length + 1 + B.length) = 39 := by
    rw [Nat.add_assoc, pk_right, Nat.add_comm 1, pk_consS, pk_right0, pk_cons0]
    rfl
  unfold partsS
  simp only [hsp, pk_right0, pk_cons0, List.take_left' rfl, hdrop, hsp2, hp]
  rw [if_neg (by decide), if_neg (by decide), if_pos (by rfl), if_pos ⟨by omega, trivial⟩]
theorem parts_mixed {W A B r : List UInt8} (hW : allDig W) (hA : allDig A) (hB : allDig B) (h1 : 0 < A.length) (h0 : 0 < B.length) :
    partsS (W ++ 45 :: (A ++ 47 :: (B ++ 39 :: r))) = ((W, A, B), (W.length : Int) + 1 + A.length + 1 + B.length + 1) := by
  have hsp : spanN digN (W ++ 45 :: (A ++ 47 :: (B ++ 39 :: r))) = W.length := spanN_app hW (.inr (by rw [pk_cons0]; decide))
  have hsp1 : spanN digN (A ++ 47 :: (B ++ 39 :: r)) = A.length := spanN_app hA (.inr (by rw [pk_cons0]; decide))
  have hsp2 : spanN digN (B ++ 39 :: r) = B.length := spanN_app hB (.inr (by rw [pk_cons0]; decide))
  have hdrop : (W ++ 45 :: (A ++ 47 :: (B ++ 39 :: r))).drop (W.length + 1) = A ++ 47 :: (B ++ 39 :: r) := by
    rw [← List.drop_drop, List.drop_left' rfl]
    rfl
  have hdrop2 : (W ++ 45 :: (A ++ 47 :: (B ++ 39 :: r))).drop (W.length + 1 + A.length + 1) = B ++ 39 :: r := by
    rw [Nat.add_assoc, ← List.drop_drop, hdrop, ← List.drop_drop, List.drop_left' rfl]
    rfl
  have hp1 : pk (W ++ 45 :: (A ++ 47 :: (B ++ 39 :: r))) (W.length + 1 + A.length) = 47 := by
    rw [Nat.add_assoc, pk_right, Nat.add_comm 1, pk_consS, pk_right0, pk_cons0]
    rfl
  have hp : pk (W ++ 45 :: (A ++ 47 :: (B ++ 39 :: r))) (W.length + 1 + A.length + 1 + B.length) = 39 := by
    have e : W.length + 1 + A.length + 1 + B.length = W.length + ((A.length + (B.length + 1)) + 1) := by omega
    rw [e, pk_right, pk_consS, pk_right, pk_consS, pk_right0, pk_cons0]
    rfl
  unfold partsS
  simp only [hsp, pk_right0, pk_cons0, List.take_left' rfl, hdrop, hdrop2, hsp1, hsp2, hp, hp1]
  rw [if_neg (by decide), if_pos (by rfl), if_pos ⟨by omega, trivial, by omega, trivial⟩]
theorem make_low {x y : Nat} (hg : x.gcd y = 1) (hx : x ≤ 1000000) (hy : y ≤ 1000000) : makeF x y = (((x : Int), (y : Int)), 0) := by
  unfold makeF
  rw [hg, Nat.div_one, Nat.div_one, if_neg (by omega)]
theorem okV_dec {n : Nat} (h : n ≤ 1000000) : okV (Lib.decDigits n) := .inr (by rw [dec_valN]; exact h)
theorem wv_dec (n d : Nat) : wv (Lib.decDigits n) d = n := by
  unfold wv
  rw [if_neg (fun e => by have := dec_pos n; rw [e] at this; simp at this), dec_valN]
theorem wv_nil (d : Nat) : wv [] d = d := by
  unfold wv
  rw [if_pos rfl]
theorem feet_of {p : Parts} {x y : Nat} (h1 : okV p.1) (h2 : okV p.2.1) (h3 : okV p.2.2) (hy : wv p.2.2 1 = y) (hx : wv p.1 0 * y + wv p.2.1 0 = x) (hg : x.gcd y = 1) (hx6 : x ≤ 1000000) (hy6 : y ≤ 1000000) (hy0 : 0 < y) :
    feetS p = (⟨3, fracText x y ++ [39], 0, ((x : Int), (y : Int)), 0, 0⟩, 0) := by
  unfold feetS
  rw [hy, hx, make_low hg hx6 hy6, if_neg (fun h => by
    rcases h with h | h
    · exact h ⟨h1, h2, h3⟩
    · omega), if_neg (by simp)]
  simp only [Int.toNat_natCast]
theorem tok_feet {s : List UInt8} (h : digN (pk s 0) = true) (hp : 0 < (partsS s).2) : tokS s = ((feetS (partsS s).1).1, (partsS s).2, (feetS (partsS s).1).2) := by
  unfold tokS
  rw [if_neg (by rw [dig_let h]; simp), if_pos h, if_pos hp]
theorem good_feet {x y : Nat} (hg : x.gcd y = 1) (hx : x ≤ 1000000) (hy : y ≤ 1000000) (hy0 : 0 < y) (r : List UInt8) :
    tokS (fracText x y ++ [39] ++ r) = (⟨3, fracText x y ++ [39], 0, ((x : Int), (y : Int)), 0, 0⟩, ((fracText x y ++ [39]).length : Int), 0) ∧ digN (pk (fracText x y) 0) = true ∧ (fracText x y).length ≤ 40 ∧ (0 < (fracText x y).length) ∧ ∀ b ∈ fracText x y, b ≠ 10 := by
  have hd : ∀ n, ∀ b ∈ Lib.decDigits n, b ≠ 10 := fun n b hb e => by
    have := dec_dig n b hb
    subst e
    revert this
    decide
  have hq : x / y ≤ 1000000 := Nat.le_trans (Nat.div_le_self _ _) hx
  have hm : x % y < y := Nat.mod_lt _ hy0
  have hxy := Nat.div_add_mod x y
  have l1 := dec_len 6 (x / y) (by omega)
  have l2 := dec_len 6 (x % y) (by omega)
  have l3 := dec_len 6 y (by omega)
  have n1 := dec_pos (x / y)
  have n2 := dec_pos (x % y)
  have n3 := dec_pos y
  by_cases c1 : x % y = 0
  · have hy1 : y = 1 := by
      have : x.gcd y = y := by rw [Nat.gcd_comm, Nat.gcd_rec, c1, Nat.gcd_zero_left]
      omega
    have hF : fracText x y = Lib.decDigits (x / y) := by
      unfold fracText
      rw [if_pos c1, itoa_nat]
    have hpar := parts_whole (A := Lib.decDigits (x / y)) (r := r) (dec_dig _)
    have hfe := feet_of (p := (Lib.decDigits (x / y), [], [])) (x := x) (y := y) (okV_dec hq) (.inl rfl) (.inl rfl) (by rw [wv_nil, hy1]) (by
      simp only [wv_dec, wv_nil]
      rw [hy1]
      simp) hg hx hy hy0
    rw [hF] at hfe ⊢
    refine ⟨?_, dig_head (dec_dig _) n1, by omega, n1, hd _⟩
    have e : Lib.decDigits (x / y) ++ [39] ++ r = Lib.decDigits (x / y) ++ 39 :: r := by simp
    rw [e, tok_feet (by rw [pk_left n1]; exact dig_head (dec_dig _) n1) (by rw [hpar]; simp only; omega), hpar, hfe]
    simp
  · by_cases c2 : x / y = 0
    · have hF : fracText x y = Lib.decDigits (x % y) ++ [47] ++ Lib.decDigits y := by
        unfold fracText
        rw [if_neg c1, if_pos c2, itoa_nat, itoa_nat]
      have hpar := parts_frac (A := Lib.decDigits (x % y)) (B := Lib.decDigits y) (r := r) (dec_dig _) (dec_dig _) n3
      have hfe := feet_of (p := ([], Lib.decDigits (x % y), Lib.decDigits y)) (x := x) (y := y) (.inl rfl) (okV_dec (by omega)) (okV_dec hy) (by rw [wv_dec]) (by
        simp only [wv_dec, wv_nil]
        rw [c2] at hxy
        simpa using hxy) hg hx hy hy0
      rw [hF] at hfe ⊢
      have hpl : ∀ t, pk (Lib.decDigits (x % y) ++ t) 0 = pk (Lib.decDigits (x % y)) 0 := fun t => pk_left n2
      refine ⟨?_, ?_, ?_, ?_, ?_⟩
      · have e : Lib.decDigits (x % y) ++ [47] ++ Lib.decDigits y ++ [39] ++ r = Lib.decDigits (x % y) ++ 47 :: (Lib.decDigits y ++ 39 :: r) := by simp
        rw [e, tok_feet (by rw [hpl]; exact dig_head (dec_dig _) n2) (by rw [hpar]; simp only; omega), hpar, hfe]
        simp only [List.length_append, List.length_singleton, Prod.mk.injEq, true_and, and_true]
        omega
      · rw [List.append_assoc, hpl]
        exact dig_head (dec_dig _) n2
      · simp only [List.length_append, List.length_singleton]
        omega
      · simp only [List.length_append, List.length_singleton]
        omega
      · intro b hb
        simp only [List.mem_append, List.mem_singleton] at hb
        rcases hb with (hb | rfl) | hb
        · exact hd _ b hb
        · decide
        · exact hd _ b hb
    · have hF : fracText x y = Lib.decDigits (x / y) ++ [45] ++ (Lib.decDigits (x % y) ++ [47] ++ Lib.decDigits y) := by
        unfold fracText
        rw [if_neg c1, if_neg c2, itoa_nat, itoa_nat, itoa_nat]
      have hpar := parts_mixed (W := Lib.decDigits (x / y)) (A := Lib.decDigits (x % y)) (B := Lib.decDigits y) (r := r) (dec_dig _) (dec_dig _) (dec_dig _) n2 n3
      have hfe := feet_of (p := (Lib.decDigits (x / y), Lib.decDigits (x % y), Lib.decDigits y)) (x := x) (y := y) (okV_dec hq) (okV_dec (by omega)) (okV_dec hy) (by rw [wv_dec]) (by
        simp only [wv_dec]
        rw [Nat.mul_comm]
        exact hxy) hg hx hy hy0
      rw [hF] at hfe ⊢
      have hpl : ∀ t, pk (Lib.decDigits (x / y) ++ t) 0 = pk (Lib.decDigits (x / y)) 0 := fun t => pk_left n1
      refine ⟨?_, ?_, ?_, ?_, ?_⟩
      · have e : Lib.decDigits (x / y) ++ [45] ++ (Lib.decDigits (x % y) ++ [47] ++ Lib.decDigits y) ++ [39] ++ r = Lib.decDigits (x / y) ++ 45 :: (Lib.decDigits (x % y) ++ 47 :: (Lib.decDigits y ++ 39 :: r)) := by simp
        rw [e, tok_feet (by rw [hpl]; exact dig_head (dec_dig _) n1) (by rw [hpar]; simp only; omega), hpar, hfe]
        simp only [List.length_append, List.length_singleton, Prod.mk.injEq, true_and, and_true]
        omega
      · rw [List.append_assoc, hpl]
        exact dig_head (dec_dig _) n1
      · simp only [List.length_append, List.length_singleton]
        omega
      · simp only [List.length_append, List.length_singleton]
        omega
      · intro b hb
        simp only [List.mem_append, List.mem_singleton] at hb
        rcases hb with (hb | rfl) | ((hb | rfl) | hb)
        · exact hd _ b hb
        · decide
        · exact hd _ b hb
        · decide
        · exact hd _ b hb
theorem index_app : ∀ {w r : List UInt8}, (∀ b ∈ w, b ≠ 34) → Lib.indexByte (w ++ 34 :: r) 34 = w.length
  | [], r, _ => by simp [Lib.indexByte]
  | b :: w, r, h => by
    have hb : (b == 34) = false := by simpa using h b (by simp)
    have ih := index_app (w := w) (r := r) fun c hc => h c (by simp [hc])
    rw [List.cons_append]
    unfold Lib.indexByte
    have h1 : ((w.length : Int) == -1) = false := by simp
    simp only [hb, Bool.false_eq_true, if_false, ih, h1, List.length_cons]
    omega
theorem good_quote {w r : List UInt8} (h : ∀ b ∈ w, b ≠ 34) : tokS ([34] ++ w ++ [34] ++ r) = (⟨4, w, 0, (0, 0), 0, 0⟩, (([34] ++ w ++ [34]).length : Int), 0) := by
  have e : [34] ++ w ++ [34] ++ r = 34 :: (w ++ 34 :: r) := by simp
  have e0 : pk (34 :: (w ++ 34 :: r)) 0 = 34 := by rw [pk_cons0]; rfl
  have e1 : (34 :: (w ++ 34 :: r) : List UInt8).drop 1 = w ++ 34 :: r := rfl
  rw [e]
  unfold tokS
  rw [if_neg (by rw [e0]; decide), if_neg (by rw [e0]; decide), if_neg (by rw [e0]; intro h; exact absurd h.1 (by decide)), if_pos e0, e1, index_app h, if_neg (by omega), Int.toNat_natCast, List.take_left' rfl]
  simp only [List.length_append, List.length_singleton, Prod.mk.injEq, true_and, and_true]
  omega
theorem good_arrow (r : List UInt8) : tokS ([45, 62] ++ r) = (⟨5, [45, 62], 0, (0, 0), 0, 0⟩, 2, 0) := by
  have e0 : pk ([45, 62] ++ r) 0 = 45 := by rw [List.cons_append, pk_cons0]; rfl
  have e1 : pk ([45, 62] ++ r) 1 = 62 := by rw [List.cons_append, pk_consS, List.cons_append, pk_cons0]; rfl
  unfold tokS
  rw [if_neg (by rw [e0]; decide), if_neg (by rw [e0]; decide), if_neg (by rw [e1]; intro h; exact absurd h.2 (by decide)), if_neg (by rw [e0]; decide), if_pos (by simp [Lib.hasPrefix, List.isPrefixOf])]
  rfl
theorem marks_all : ∀ b ∈ marks, letN b.toNat = false ∧ digN b.toNat = false ∧ b.toNat ≠ 45 ∧ b.toNat ≠ 34 ∧ b.toNat ≠ 37 ∧ b.toNat ≠ 32 ∧ b.toNat ≠ 9 ∧ b ≠ 10 ∧ (45 == b) = false := by decide
theorem good_mark {b : UInt8} (h : b ∈ marks) (r : List UInt8) : tokS ([b] ++ r) = (⟨5, [b], 0, (0, 0), 0, 0⟩, 1, 0) := by
  obtain ⟨h1, h2, h3, h4, _, _, _, _, h5⟩ := marks_all b h
  have e0 : pk ([b] ++ r) 0 = b.toNat := by rw [List.cons_append, pk_cons0]
  have e1 : (b.toNat).toUInt8 = b := by simp
  unfold tokS
  rw [e0, if_neg (by rw [h1]; simp), if_neg (by rw [h2]; simp), if_neg (fun h => h3 h.1), if_neg h4, if_neg (by simp [Lib.hasPrefix, List.isPrefixOf, h5]), if_pos (by rw [e1]; exact cast mem_marks.symm h)]
  rfl

/-- A token that is scanned again as it is written. -/
structure GoodT (t : Tk) : Prop where
  k6 : t.kind ≠ 6
  pos : 0 < (itemS t).length
  len : (itemS t).length ≤ 202
  nl : ∀ b ∈ itemS t, b ≠ 10
  h0 : pk (itemS t) 0 ≠ 37 ∧ pk (itemS t) 0 ≠ 32 ∧ pk (itemS t) 0 ≠ 9
  tok : ∀ r, sp r → (tokS (itemS t ++ r)).2 = (((itemS t).length : Int), 0) ∧ eqT (tokS (itemS t ++ r)).1 t = true

theorem goodT_place {t : Tk} (h : GoodT t) (ln col : Int) : GoodT { t with line := ln, col := col } := ⟨h.k6, h.pos, h.len, h.nl, h.h0, h.tok⟩
theorem goodT_of {t : Tk} {w : List UInt8} (hi : itemS t = w) (k6 : t.kind ≠ 6) (pos : 0 < w.length) (len : w.length ≤ 202) (nl : ∀ b ∈ w, b ≠ 10) (h0 : pk w 0 ≠ 37 ∧ pk w 0 ≠ 32 ∧ pk w 0 ≠ 9) (tok : ∀ r, sp r → tokS (w ++ r) = (t, (w.length : Int), 0)) : GoodT t := by
  subst hi
  exact ⟨k6, pos, len, nl, h0, fun r hr => by rw [tok r hr]; exact ⟨rfl, eqT_refl t⟩⟩

theorem makeF_low {n d : Nat} (hd : d ≠ 0) : (makeF n d).2 ≠ 0 ∨ ∃ x y : Nat, makeF n d = (((x : Int), (y : Int)), 0) ∧ x.gcd y = 1 ∧ x ≤ 1000000 ∧ y ≤ 1000000 ∧ 0 < y := by
  have hg : 0 < n.gcd d := Nat.pos_of_ne_zero fun e => hd (Nat.eq_zero_of_gcd_eq_zero_right e)
  unfold makeF
  split
  · exact .inl (by simp)
  · rename_i h
    have hle : n.gcd d ≤ d := Nat.gcd_le_right _ (by omega)
    exact .inr ⟨_, _, rfl, Nat.coprime_div_gcd_div_gcd hg, by omega, by omega, Nat.div_pos hle hg⟩
theorem good_feetS {p : Parts} (h : (feetS p).2 = 0) : GoodT (feetS p).1 := by
  obtain ⟨t, ht⟩ : ∃ t, (feetS p).1 = t := ⟨_, rfl⟩
  rw [ht]
  unfold feetS at h ht
  split at h
  · cases h
  · rename_i c1
    rw [if_neg c1] at ht
    split at h
    · cases h
    · rename_i c2
      rw [if_neg c2] at ht
      have hy : wv p.2.2 1 ≠ 0 := fun e => c1 (.inr e)
      rcases makeF_low (n := wv p.1 0 * wv p.2.2 1 + wv p.2.1 0) hy with e | ⟨x, y, e, hg, hx, hy6, hy0⟩
      · exact absurd e c2
      · rw [e] at ht
        simp only [Int.toNat_natCast] at ht
        obtain ⟨_, f2, f3, f4, f5⟩ := good_feet hg hx hy6 hy0 []
        have f2' : pk (fracText x y ++ [39]) 0 = pk (fracText x y) 0 := pk_left f4
        have hb := dig_bd (b := (fracText x y)[0]'f4) (by rw [← pk_at f4]; exact f2)
        rw [← pk_at f4] at hb
        refine goodT_of (w := fracText x y ++ [39]) (by rw [← ht]; rfl) (by rw [← ht]; simp) (by simp) (by rw [List.length_append, List.length_singleton]; omega) ?_ (by rw [f2']; omega) ?_
        · intro b hb
          rcases List.mem_append.1 hb with hb | hb
          · exact f5 b hb
          · simp only [List.mem_singleton] at hb
            subst hb
            decide
        · intro r _
          rw [← ht, (good_feet hg hx hy6 hy0 r).1]
theorem good_numS {w : List UInt8} (h : (numS w).2 = 0) : GoodT (numS w).1 := by
  have hd : ∀ n, ∀ b ∈ Lib.decDigits n, b ≠ 10 := fun n b hb e => by
    have := dec_dig n b hb
    subst e
    revert this
    decide
  obtain ⟨t, ht⟩ : ∃ t, (numS w).1 = t := ⟨_, rfl⟩
  rw [ht]
  unfold numS at h ht
  simp only at h ht
  obtain ⟨v, hv⟩ : ∃ v, valN (Lib.trimPrefix w [45]) = v := ⟨_, rfl⟩
  rw [hv] at h ht
  split at h
  · cases h
  · rename_i c
    rw [if_neg c] at ht
    have l1 := dec_len 9 v (by omega)
    have n1 := dec_pos v
    have pos : ∀ t : Tk, t = ⟨2, Lib.itoa (v : Int), (v : Int), (0, 0), 0, 0⟩ → GoodT t := by
      intro t ht
      have hb := dig_head_bd (dec_dig v) n1
      rw [itoa_nat] at ht
      exact goodT_of (w := Lib.decDigits v) (by rw [ht]; rfl) (by rw [ht]; simp) n1 (by omega) (hd v) (by omega) fun r hr => by rw [good_pos (by omega) hr, ht]
    split at ht
    · by_cases hv0 : v = 0
      · subst hv0
        exact pos t (by rw [← ht]; rfl)
      · have hi := itoa_neg (n := v) (by omega)
        rw [hi] at ht
        refine goodT_of (w := 45 :: Lib.decDigits v) (by rw [← ht]; rfl) (by rw [← ht]; simp) (by simp) (by rw [List.length_cons]; omega) ?_ (by rw [pk_cons0]; decide) fun r hr => by rw [good_neg (by omega) (by omega) hr, ← ht]; simp
        intro b hb
        rcases List.mem_cons.1 hb with rfl | hb
        · decide
        · exact hd v b hb
    · exact pos t ht.symm

theorem index_before : ∀ {l : List UInt8}, ∀ b ∈ l.take (Lib.indexByte l 34).toNat, b ≠ 34
  | [], b, hb => by simp at hb
  | c :: l, b, hb => by
    have ih := index_before (l := l)
    unfold Lib.indexByte at hb
    split at hb
    · simp at hb
    · rename_i hc
      split at hb
      · simp at hb
      · rename_i hi
        have hge : 0 ≤ Lib.indexByte l 34 := by
          have key : ∀ l : List UInt8, Lib.indexByte l 34 = -1 ∨ 0 ≤ Lib.indexByte l 34 := by
            intro l
            induction l with
            | nil => exact .inl rfl
            | cons c l ih =>
              unfold Lib.indexByte
              split
              · exact .inr (by omega)
              · split
                · exact .inl rfl
                · rename_i h
                  rcases ih with h' | h'
                  · simp [h'] at h
                  · exact .inr (by omega)
          rcases key l with h | h
          · simp [h] at hi
          · exact h
        have e : (Lib.indexByte l 34 + 1).toNat = (Lib.indexByte l 34).toNat + 1 := by omega
        rw [e, List.take_succ_cons] at hb
        rcases List.mem_cons.1 hb with rfl | hb
        · simpa using hc
        · exact ih b hb

/-- Whatever token is scanned is scanned again as it is written. -/
theorem good_tokS {s : List UInt8} (hs : 0 < s.length) (hl : s.length ≤ 200) (hn : ∀ b ∈ s, b ≠ 10) (he : (tokS s).2.2 = 0) : GoodT (tokS s).1 := by
  have htk : ∀ k, ∀ b ∈ s.take k, b ≠ 10 := fun k b hb => hn b (List.mem_of_mem_take hb)
  unfold tokS at he ⊢
  split at he
  · rename_i c
    rw [if_pos c]
    split at he
    · cases he
    · rename_i c2
      rw [if_neg c2]
      have hk1 := spanN_pos (p := wordN) hs (by unfold wordN; rw [c]; rfl)
      have hk2 := spanN_le wordN s
      have hat : ∀ b ∈ s.take (spanN wordN s), wordN b.toNat = true := by
        intro b hb
        obtain ⟨i, hi, rfl⟩ := List.getElem_of_mem hb
        rw [List.length_take] at hi
        have := spanN_at wordN s i (by omega) (by omega)
        rw [List.getElem_take, ← this]
        omega
      obtain ⟨k, hk⟩ : ∃ k, spanN wordN s = k := ⟨_, rfl⟩
      rw [hk] at hk1 hk2 hat c2 ⊢
      have hlen : (s.take k).length = k := by rw [List.length_take]; omega
      have hp0 : pk (s.take k) 0 = pk s 0 := by rw [pk_at (by omega), pk_at hs, List.getElem_take]
      have cl : letN (pk s 0) = true := c
      refine goodT_of (w := s.take k) rfl (by simp) (by omega) (by omega) (htk k) ?_ fun r hr => by rw [good_word (by rw [hp0]; exact c) hat (by omega) hr]
      rw [hp0]
      refine ⟨fun e => ?_, fun e => ?_, fun e => ?_⟩ <;> (rw [e] at cl; revert cl; decide)
  · rename_i c
    rw [if_neg c]
    split at he
    · rename_i c2
      rw [if_pos c2]
      split at he
      · rename_i c3
        rw [if_pos c3]
        exact good_feetS he
      · rename_i c3
        rw [if_neg c3]
        exact good_numS he
    · rename_i c2
      rw [if_neg c2]
      split at he
      · rename_i c3
        rw [if_pos c3]
        exact good_numS he
      · rename_i c3
        rw [if_neg c3]
        split at he
        · rename_i c4
          rw [if_pos c4]
          split at he
          · cases he
          · rename_i c5
            rw [if_neg c5]
            have hlt := indexByte_lt (s.drop 1) 34
            have hq := index_before (l := s.drop 1)
            obtain ⟨w, hw⟩ : ∃ w, (s.drop 1).take (Lib.indexByte (s.drop 1) 34).toNat = w := ⟨_, rfl⟩
            have hwl : w.length ≤ 200 := by rw [← hw, List.length_take, List.length_drop]; omega
            have hwn : ∀ b ∈ w, b ≠ 10 := fun b hb => by
              rw [← hw] at hb
              exact hn b (List.mem_of_mem_drop (List.mem_of_mem_take hb))
            simp only [hw] at hq ⊢
            refine goodT_of (w := [34] ++ w ++ [34]) rfl (by simp) (by simp) (by simp only [List.length_append, List.length_singleton]; omega) ?_ (by
              have : pk ([34] ++ w ++ [34]) 0 = 34 := by rw [List.append_assoc, List.cons_append, pk_cons0]; rfl
              rw [this]
              decide) fun r _ => by rw [good_quote hq]
            intro b hb
            simp only [List.mem_append, List.mem_singleton] at hb
            rcases hb with (rfl | hb) | rfl
            · decide
            · exact hwn b hb
            · decide
        · rename_i c4
          rw [if_neg c4]
          split at he
          · rename_i c5
            rw [if_pos c5]
            have ht : s.take 2 = [45, 62] := by
              match s, c5 with
              | [], h => simp [Lib.hasPrefix, List.isPrefixOf] at h
              | [a], h => simp [Lib.hasPrefix, List.isPrefixOf] at h
              | a :: b :: r, h =>
                simp only [Lib.hasPrefix, List.isPrefixOf, Bool.and_true, Bool.and_eq_true, beq_iff_eq] at h
                rw [← h.1, ← h.2]
                rfl
            rw [ht]
            refine goodT_of (w := [45, 62]) rfl (by simp) (by simp) (by simp) (by decide) (by decide) fun r _ => by rw [good_arrow]; rfl
          · rename_i c5
            rw [if_neg c5]
            split at he
            · rename_i c6
              rw [if_pos c6]
              obtain ⟨b, r, rfl⟩ := List.exists_cons_of_ne_nil (List.length_pos_iff.1 hs)
              have hb : b ∈ marks := by
                rw [pk_cons0] at c6
                have e1 : (b.toNat).toUInt8 = b := by simp
                rw [e1, mem_marks] at c6
                exact c6
              obtain ⟨_, _, _, _, m1, m2, m3, m4, _⟩ := marks_all b hb
              refine goodT_of (w := [b]) rfl (by simp) (by simp) (by simp) (by simpa using m4) (by rw [pk_cons0]; exact ⟨m1, m2, m3⟩) fun r _ => by rw [good_mark hb]; rfl
            · cases he
end Go.Kz

/-
  Layer 19: what is written is scanned again: lists of tokens.
-/
namespace Go.Kz
open Go Go.Proofs

/-- The text of one line's tokens. -/
def lineW : List Tk → List UInt8
  | [] => []
  | t :: r => itemS t ++ (if r = [] then [] else 32 :: lineW r)

/-- Lines of tokens. -/
inductive Lines : List Tk → Prop
  | nil : Lines []
  | cons {x : List Tk} {e : Tk} {rest : List Tk} : x ≠ [] → (∀ t ∈ x, GoodT t) → e.kind = 6 → e.text = [10] → e.num = 0 → e.feet = (0, 0) → Lines rest → Lines (x ++ e :: rest)

theorem writeL_line {e : Tk} {rest : List Tk} (he : e.kind = 6) : ∀ {x : List Tk} {k : Option Int}, x ≠ [] → (∀ t ∈ x, GoodT t) →
    writeL k (x ++ e :: rest) = (if k.isSome ∧ k ≠ some 6 then [32] else []) ++ (lineW x ++ 10 :: writeL (some 6) rest)
  | [], _, h, _ => absurd rfl h
  | [t], k, _, hg => by
    have ht := (hg t (by simp)).k6
    have ie : itemS e = [10] := by simp [itemS, he]
    rw [List.cons_append, List.nil_append, writeL, writeL, ie, he]
    simp [lineW, ht]
  | t :: u :: x, k, _, hg => by
    have ht := (hg t (by simp)).k6
    have ih := writeL_line (rest := rest) he (x := u :: x) (k := some t.kind) (by simp) fun t ht => hg t (by simp [ht])
    have hl : lineW (t :: u :: x) = itemS t ++ (32 :: lineW (u :: x)) := rfl
    rw [List.cons_append, writeL, ih, hl]
    simp [ht]
theorem writeL_none : ∀ l : List Tk, writeL none l = writeL (some 6) l
  | [] => rfl
  | t :: l => by rw [writeL, writeL]; simp

theorem lineW_no : ∀ {x : List Tk}, (∀ t ∈ x, GoodT t) → ∀ b ∈ lineW x, b ≠ 10
  | [], _, b, hb => by simp [lineW] at hb
  | t :: x, hg, b, hb => by
    rw [lineW] at hb
    rcases List.mem_append.1 hb with hb | hb
    · exact (hg t (by simp)).nl b hb
    · split at hb
      · simp at hb
      · rcases List.mem_cons.1 hb with rfl | hb
        · decide
        · exact lineW_no (fun t ht => hg t (by simp [ht])) b hb
theorem splitNL_one : ∀ {w : List UInt8}, (∀ b ∈ w, b ≠ 10) → splitNL w = [w]
  | [], _ => rfl
  | b :: w, h => by
    unfold splitNL
    rw [if_neg (h b (by simp)), splitNL_one fun c hc => h c (by simp [hc])]
theorem splitNL_no : ∀ {s : List UInt8}, ∀ l ∈ splitNL s, ∀ b ∈ l, b ≠ 10
  | [], l, hl, b, hb => by
    simp only [splitNL, List.mem_singleton] at hl
    subst hl
    simp at hb
  | c :: s, l, hl, b, hb => by
    unfold splitNL at hl
    split at hl
    · rcases List.mem_cons.1 hl with rfl | hl
      · simp at hb
      · exact splitNL_no l hl b hb
    · rename_i hc
      split at hl
      · rename_i x xs hx
        rcases List.mem_cons.1 hl with rfl | hl
        · rcases List.mem_cons.1 hb with rfl | hb
          · exact hc
          · exact splitNL_no x (by rw [hx]; simp) b hb
        · exact splitNL_no l (by rw [hx]; simp [hl]) b hb
      · simp only [List.mem_singleton] at hl
        subst hl
        simp only [List.mem_singleton] at hb
        subst hb
        exact hc

/-- A line that is written is scanned again. -/
theorem lineS_back : ∀ (n : Nat) (x : List Tk) (ln col : Int) (out : List Tk), (lineW x).length < n → (∀ t ∈ x, GoodT t) → out.length + x.length ≤ 19999 →
    ∃ x' c, lineS n (lineW x) ln col out = (out ++ x', c, 0) ∧ eqTs x' x = true
  | 0, _, _, _, _, h, _, _ => absurd h (Nat.not_lt_zero _)
  | n + 1, [], ln, col, out, _, _, _ => ⟨[], col, by unfold lineS; rw [if_pos (.inl rfl)]; simp, rfl⟩
  | n + 1, t :: x, ln, col, out, hn, hg, hl => by
    have ht := hg t (by simp)
    have hpos := ht.pos
    obtain ⟨R, hR⟩ : ∃ R, (if x = [] then [] else 32 :: lineW x) = R := ⟨_, rfl⟩
    have hsp : sp R := by
      rw [← hR]
      split
      · exact .inl rfl
      · exact .inr ⟨_, rfl⟩
    rw [lineW, hR] at hn
    rw [lineW, hR]
    obtain ⟨k1, k2⟩ := ht.tok R hsp
    obtain ⟨h1, h2, h3⟩ := ht.h0
    have hp0 : pk (itemS t ++ R) 0 = pk (itemS t) 0 := pk_left hpos
    rw [List.length_append] at hn
    rw [List.length_cons] at hl
    have ke : (tokS (itemS t ++ R)).2.2 = 0 := by rw [k1]
    have kl : (tokS (itemS t ++ R)).2.1 = ((itemS t).length : Int) := by rw [k1]
    unfold lineS
    rw [if_neg (fun h => by
      rcases h with h | h
      · rw [List.append_eq_nil_iff] at h
        rw [h.1] at hpos
        simp at hpos
      · exact h1 (by rw [← hp0]; exact h)), if_neg (by rw [hp0]; exact fun h => h.elim h2 h3), if_neg (by rw [ke]; simp), if_neg (by omega), kl, Int.toNat_natCast, List.drop_left' rfl]
    have hst : eqT { (tokS (itemS t ++ R)).1 with line := ln, col := col } t = true := k2
    obtain ⟨u, hu⟩ : ∃ u : Tk, { (tokS (itemS t ++ R)).1 with line := ln, col := col } = u := ⟨_, rfl⟩
    rw [hu] at hst ⊢
    cases x with
    | nil =>
      rw [if_pos rfl] at hR
      subst hR
      obtain ⟨m, rfl⟩ : ∃ m, n = m + 1 := ⟨n - 1, by omega⟩
      refine ⟨[u], col + ((itemS t).length : Int), ?_, ?_⟩
      · unfold lineS
        rw [if_pos (.inl rfl)]
      · rw [eqTs, hst]
        rfl
    | cons v x =>
      rw [if_neg (by simp)] at hR
      subst hR
      rw [List.length_cons] at hn
      obtain ⟨m, rfl⟩ : ∃ m, n = m + 1 := ⟨n - 1, by omega⟩
      obtain ⟨x', c, e1, e2⟩ := lineS_back m (v :: x) ln (col + ((itemS t).length : Int) + 1) (out ++ [u]) (by omega) (fun t ht => hg t (by simp [ht])) (by rw [List.length_append, List.length_singleton]; omega)
      refine ⟨u :: x', c, ?_, by rw [eqTs, hst, e2]; rfl⟩
      unfold lineS
      have hp : pk (32 :: lineW (v :: x)) 0 = 32 := by rw [pk_cons0]; rfl
      rw [if_neg (by rw [hp]; simp), if_pos (.inl hp)]
      have hd : (32 :: lineW (v :: x) : List UInt8).drop 1 = lineW (v :: x) := rfl
      rw [hd, e1, List.append_assoc]
      rfl

theorem scan_back {l : List Tk} (h : Lines l) : ∀ (ln : Int) (out : List Tk), out.length + l.length ≤ 19999 → ∃ b, scanL (splitNL (writeL (some 6) l)) ln out = (out ++ b, (0, 0), 0) ∧ eqTs b l = true := by
  induction h with
  | nil =>
    intro ln out _
    exact ⟨[], by simp [writeL, splitNL, scanL, lineS], rfl⟩
  | @cons x e rest hx hg k1 k2 k3 k4 _ ih =>
    intro ln out hl
    rw [List.length_append, List.length_cons] at hl
    have hw := writeL_line (rest := rest) k1 (k := some 6) hx hg
    rw [hw, if_neg (by simp), List.nil_append, splitNL_join, splitNL_one (lineW_no hg), List.cons_append, List.nil_append]
    obtain ⟨x', c, e1, e2⟩ := lineS_back ((lineW x).length + 1) x ln 1 out (by omega) hg (by omega)
    have hxl := eqTs_len e2
    have hx0 : 0 < x.length := List.length_pos_iff.2 hx
    obtain ⟨b, e3, e4⟩ := ih (ln + 1) (out ++ x' ++ [⟨6, [10], 0, (0, 0), ln, ((lineW x).length : Int) + 1⟩]) (by simp only [List.length_append, List.length_singleton]; omega)
    refine ⟨x' ++ ⟨6, [10], 0, (0, 0), ln, ((lineW x).length : Int) + 1⟩ :: b, ?_, ?_⟩
    · unfold scanL
      rw [e1]
      simp only [ne_eq, not_true_eq_false, if_false]
      rw [if_neg (by rw [List.length_append]; omega), if_neg (by rw [List.length_append]; omega), e3]
      simp
    · refine eqTs_append e2 ?_
      rw [eqTs, e4]
      simp [eqT, k1, k2, k3, k4]

/-! ### what is scanned comes in lines -/
theorem lineS_good : ∀ (n : Nat) (r : List UInt8) (ln col : Int) (out out' : List Tk) (c : Int), r.length ≤ 200 → (∀ b ∈ r, b ≠ 10) → lineS n r ln col out = (out', c, 0) →
    ∃ x, out' = out ++ x ∧ (∀ t ∈ x, GoodT t) ∧ x.length ≤ r.length
  | 0, r, ln, col, out, out', c, _, _, h => by
    unfold lineS at h
    simp only [Prod.mk.injEq] at h
    exact ⟨[], by rw [List.append_nil, h.1], by simp, Nat.zero_le _⟩
  | n + 1, r, ln, col, out, out', c, hl, hn, h => by
    unfold lineS at h
    split at h
    · simp only [Prod.mk.injEq] at h
      exact ⟨[], by rw [List.append_nil, h.1], by simp, Nat.zero_le _⟩
    · rename_i hc
      have hr : 0 < r.length := List.length_pos_iff.2 fun h => hc (.inl h)
      split at h
      · have hd : (r.drop 1).length = r.length - 1 := List.length_drop ..
        obtain ⟨x, h1, h2, h3⟩ := lineS_good n (r.drop 1) ln (col + 1) out out' c (by omega) (fun b hb => hn b (List.mem_of_mem_drop hb)) h
        exact ⟨x, h1, h2, by omega⟩
      · split at h
        · rename_i he
          simp only [Prod.mk.injEq] at h
          exact absurd h.2.2 he
        · rename_i he
          simp only [ne_eq, Decidable.not_not] at he
          split at h
          · simp only [Prod.mk.injEq] at h
            exact absurd h.2.2 (by decide)
          · obtain ⟨hp1, hp2⟩ := tokS_pos hr he
            have hgt := good_tokS hr hl hn he
            have hd : (r.drop (tokS r).2.1.toNat).length = r.length - (tokS r).2.1.toNat := List.length_drop ..
            obtain ⟨x, h1, h2, h3⟩ := lineS_good n (r.drop (tokS r).2.1.toNat) ln (col + (tokS r).2.1) (out ++ [{ (tokS r).1 with line := ln, col := col }]) out' c (by omega) (fun b hb => hn b (List.mem_of_mem_drop hb)) h
            refine ⟨{ (tokS r).1 with line := ln, col := col } :: x, by rw [h1]; simp, ?_, by rw [List.length_cons]; omega⟩
            intro t ht
            rcases List.mem_cons.1 ht with rfl | ht
            · exact goodT_place hgt ln col
            · exact h2 t ht
theorem scanL_lines : ∀ (L : List (List UInt8)) (ln : Int) (out y : List Tk) (p : Int × Int), (∀ l ∈ L, l.length ≤ 200 ∧ ∀ b ∈ l, b ≠ 10) → scanL L ln out = (y, p, 0) → ∃ x, y = out ++ x ∧ Lines x ∧ x.length ≤ totalL L
  | [], ln, out, y, p, _, h => by
    simp only [scanL, Prod.mk.injEq] at h
    exact ⟨[], by rw [List.append_nil, h.1], .nil, Nat.zero_le _⟩
  | l :: L, ln, out, y, p, hL, h => by
    obtain ⟨hl1, hl2⟩ := hL l (by simp)
    have hL2 : ∀ l ∈ L, l.length ≤ 200 ∧ ∀ b ∈ l, b ≠ 10 := fun l hl => hL l (by simp [hl])
    rw [totalL_cons]
    unfold scanL at h
    split at h
    · rename_i he
      simp only [Prod.mk.injEq] at h
      exact absurd h.2.2 he
    · rename_i he
      simp only [ne_eq, Decidable.not_not] at he
      obtain ⟨x, h1, h2, h3⟩ := lineS_good (l.length + 1) l ln 1 out (lineS (l.length + 1) l ln 1 out).1 (lineS (l.length + 1) l ln 1 out).2.1 hl1 hl2 (by rw [← he])
      rw [h1] at h
      split at h
      · rename_i hlen
        rw [List.length_append] at hlen
        obtain ⟨z, e1, e2, e3⟩ := scanL_lines L (ln + 1) out y p hL2 h
        exact ⟨z, e1, e2, by omega⟩
      · rename_i hlen
        rw [List.length_append] at hlen
        split at h
        · simp only [Prod.mk.injEq] at h
          exact absurd h.2.2 (by decide)
        · obtain ⟨z, e1, e2, e3⟩ := scanL_lines L (ln + 1) (out ++ x ++ [⟨6, [10], 0, (0, 0), ln, (l.length : Int) + 1⟩]) y p hL2 h
          refine ⟨x ++ ⟨6, [10], 0, (0, 0), ln, (l.length : Int) + 1⟩ :: z, by rw [e1]; simp, .cons (fun hx => ?_) h2 rfl rfl rfl rfl e2, ?_⟩
          · rw [hx, List.length_nil] at hlen
            omega
          · simp only [List.length_append, List.length_cons]
            omega

theorem writeL_len : ∀ {l : List Tk}, (∀ t ∈ l, (itemS t).length ≤ 202) → ∀ k, (writeL k l).length ≤ l.length * 203
  | [], _, _ => by simp [writeL]
  | t :: l, h, k => by
    have h1 := h t (by simp)
    have h2 := writeL_len (l := l) (fun u hu => h u (List.mem_cons_of_mem _ hu)) (some t.kind)
    rw [writeL, List.length_append, List.length_append, List.length_cons]
    have h3 : (if k.isSome = true ∧ t.kind ≠ 6 ∧ k ≠ some 6 then [(32 : UInt8)] else []).length ≤ 1 := by
      split <;> simp
    omega
theorem lines_item {l : List Tk} (h : Lines l) : ∀ t ∈ l, (itemS t).length ≤ 202 ∧ (t.kind = 6 → t.text = [10]) := by
  induction h with
  | nil => simp
  | @cons x e rest hx hg k1 k2 _ _ _ ih =>
    intro t ht
    rcases List.mem_append.1 ht with ht | ht
    · exact ⟨(hg t ht).len, fun e => absurd e (hg t ht).k6⟩
    · rcases List.mem_cons.1 ht with rfl | ht
      · exact ⟨by simp [itemS, k1], fun _ => k2⟩
      · exact ih t ht

/-- The text of tokens, as the model writes it. -/
def itemM (t : Tk) : List UInt8 := if t.kind = 4 then [34] ++ t.text ++ [34] else t.text
def writeM : Option Int → List Tk → List UInt8
  | _, [] => []
  | k, t :: r => (if k.isSome ∧ t.kind ≠ 6 ∧ k ≠ some 6 then [32] else []) ++ (itemM t ++ writeM (some t.kind) r)
theorem writeM_eq : ∀ {l : List Tk}, (∀ t ∈ l, t.kind = 6 → t.text = [10]) → ∀ k, writeM k l = writeL k l
  | [], _, _ => rfl
  | t :: l, h, k => by
    have hi : itemM t = itemS t := by
      unfold itemM itemS
      by_cases k4 : t.kind = 4
      · rw [if_pos k4, if_pos k4]
      · rw [if_neg k4, if_neg k4]
        by_cases k6 : t.kind = 6
        · rw [if_pos k6, h t (by simp) k6]
        · rw [if_neg k6]
    rw [writeM, writeL, hi, writeM_eq fun t ht => h t (by simp [ht])]

theorem law_Writes {s : List UInt8} {l : List Tk} {p : Int × Int} (hs : s.length ≤ 200) (h : scanS s = (l, p, 0)) :
    l.length ≤ 201 ∧ (writeL none l).length ≤ 60000 ∧ writeM none l = writeL none l ∧ writeS l = (writeL none l, 0) ∧ ∃ b q, scanS (writeL none l) = (b, q, 0) ∧ b.length = l.length ∧ sameTs false b l = true := by
  have ht := totalL_split s
  unfold scanS at h
  rw [if_neg (by omega)] at h
  obtain ⟨x, e1, e2, e3⟩ := scanL_lines _ _ _ _ _ (fun l hl => ⟨Nat.le_trans ((splitNL_len s).2 l hl) hs, splitNL_no l hl⟩) h
  rw [List.nil_append] at e1
  subst e1
  have hi := lines_item e2
  have hw := writeL_len (fun t ht => (hi t ht).1) none
  obtain ⟨b, b1, b2⟩ := scan_back e2 1 [] (by simp only [List.length_nil]; omega)
  rw [← writeL_none, List.nil_append] at b1
  have hS : scanS (writeL none l) = (b, (0, 0), 0) := by
    unfold scanS
    rw [if_neg (by omega), b1]
  refine ⟨by omega, by omega, writeM_eq (fun t ht => (hi t ht).2) none, ?_, b, (0, 0), hS, eqTs_len b2, by rw [sameTs_eq]; exact b2⟩
  unfold writeS
  rw [if_neg (by omega), hS, if_neg (by simp [b2])]

/-! ### whatever is scanned has lines' ends of one text -/
def LineOk (t : Tk) : Prop := t.kind = 6 → t.text = [10]
theorem numS_k6 (w : List UInt8) : (numS w).1.kind ≠ 6 := by
  unfold numS
  simp only
  split <;> simp [noTk]
theorem feetS_k6 (p : Parts) : (feetS p).1.kind ≠ 6 := by
  unfold feetS
  split
  · simp [noTk]
  · split <;> simp [noTk]
theorem tokS_k6 (s : List UInt8) : (tokS s).1.kind ≠ 6 := by
  unfold tokS
  repeat' split
  all_goals first
    | exact numS_k6 _
    | exact feetS_k6 _
    | simp [noTk]
theorem lineS_ok : ∀ (n : Nat) (r : List UInt8) (ln col : Int) (out : List Tk), (∀ t ∈ out, LineOk t) → ∀ t ∈ (lineS n r ln col out).1, LineOk t
  | 0, _, _, _, _, h => h
  | n + 1, r, ln, col, out, h => by
    unfold lineS
    split
    · exact h
    · split
      · exact lineS_ok n _ _ _ _ h
      · split
        · exact h
        · split
          · exact h
          · refine lineS_ok n _ _ _ _ fun t ht => ?_
            rcases List.mem_append.1 ht with ht | ht
            · exact h t ht
            · simp only [List.mem_singleton] at ht
              subst ht
              exact fun e => absurd e (tokS_k6 r)
theorem scanL_ok : ∀ (L : List (List UInt8)) (ln : Int) (out : List Tk), (∀ t ∈ out, LineOk t) → ∀ t ∈ (scanL L ln out).1, LineOk t
  | [], _, _, h => h
  | l :: L, ln, out, h => by
    have h1 := lineS_ok (l.length + 1) l ln 1 out h
    unfold scanL
    split
    · simp
    · split
      · exact scanL_ok L _ _ h
      · split
        · simp
        · refine scanL_ok L _ _ fun t ht => ?_
          rcases List.mem_append.1 ht with ht | ht
          · exact h1 t ht
          · simp only [List.mem_singleton] at ht
            subst ht
            exact fun _ => rfl
theorem scanS_ok (s : List UInt8) : ∀ t ∈ (scanS s).1, LineOk t := by
  unfold scanS
  split
  · simp
  · exact scanL_ok _ _ _ (by simp)
theorem eqTs_ok : ∀ {a b : List Tk}, eqTs a b = true → (∀ t ∈ a, LineOk t) → ∀ t ∈ b, LineOk t
  | [], [], _, _ => by simp
  | x :: a, y :: b, h, ha => by
    simp only [eqTs, Bool.and_eq_true] at h
    intro t ht
    rcases List.mem_cons.1 ht with rfl | ht
    · have hx := ha x (by simp)
      have := h.1
      simp only [eqT, Bool.and_eq_true, decide_eq_true_eq] at this
      intro hk
      rw [← this.2.1]
      exact hx (this.1.trans hk)
    · exact eqTs_ok h.2 (fun t ht => ha t (by simp [ht])) t ht
  | [], _ :: _, h, _ => by cases h
  | _ :: _, [], h, _ => by cases h

/-- What Write answers, in terms of the model's text. -/
theorem law_Refuses {l : List Tk} (hl : l.length ≤ 20000) : writeS l = if (scanS (writeM none l)).2.2 ≠ 0 ∨ eqTs (scanS (writeM none l)).1 l = false then ([], 7) else (writeM none l, 0) := by
  unfold writeS
  rw [if_neg (by omega)]
  by_cases h : ∀ t ∈ l, LineOk t
  · rw [writeM_eq h none]
  · have key : ∀ s, eqTs (scanS s).1 l = false := by
      intro s
      cases e : eqTs (scanS s).1 l with
      | false => rfl
      | true => exact absurd (eqTs_ok e (scanS_ok s)) h
    rw [if_pos (.inr (key _)), if_pos (.inr (key _))]
theorem writeM_len : ∀ {l : List Tk}, (∀ t ∈ l, t.text.length ≤ 60) → ∀ k, (writeM k l).length ≤ l.length * 63
  | [], _, _ => by simp [writeM]
  | t :: l, h, k => by
    have h1 := h t (by simp)
    have h2 := writeM_len (l := l) (fun u hu => h u (List.mem_cons_of_mem _ hu)) (some t.kind)
    have h4 : (itemM t).length ≤ 62 := by
      unfold itemM
      split
      · simp only [List.length_append, List.length_singleton]
        omega
      · omega
    rw [writeM, List.length_append, List.length_append, List.length_cons]
    have h3 : (if k.isSome = true ∧ t.kind ≠ 6 ∧ k ≠ some 6 then [(32 : UInt8)] else []).length ≤ 1 := by
      split <;> simp
    omega
theorem writeL_len60 : ∀ {l : List Tk}, (∀ t ∈ l, t.text.length ≤ 60) → ∀ k, (writeL k l).length ≤ l.length * 63
  | [], _, _ => by simp [writeL]
  | t :: l, h, k => by
    have h1 := h t (by simp)
    have h2 := writeL_len60 (l := l) (fun u hu => h u (List.mem_cons_of_mem _ hu)) (some t.kind)
    have h4 : (itemS t).length ≤ 62 := by
      unfold itemS
      split
      · simp only [List.length_append, List.length_singleton]
        omega
      · split
        · simp
        · omega
    rw [writeL, List.length_append, List.length_append, List.length_cons]
    have h3 : (if k.isSome = true ∧ t.kind ≠ 6 ∧ k ≠ some 6 then [(32 : UInt8)] else []).length ≤ 1 := by
      split <;> simp
    omega
end Go.Kz

/-
  Layer 19: the model's write and short.
-/
namespace Go.Kz
open Go Go.Proofs

def shortS (l : List Tk) : Bool := l.all (fun t => decide (t.text.length ≤ 60)) && decide (l.length ≤ 40)

variable {E : PExt} (hU : Uni E)
include hU
set_option maxRecDepth 10000
set_option maxHeartbeats 4000000

theorem r_write (h0 : E 16 = none) (l : List Tk) (hl : l.length ≤ 100000) (hw : (writeM none l).length < 4000000000) : Run Tryd.prog E 16 [tks.emb l] (Em.text.emb (writeM none l)) := by
  obtain ⟨W, hW⟩ : ∃ W, writeM none l = W := ⟨_, rfl⟩
  rw [hW] at hw ⊢
  apply Run.bodyL h0 Tryd.func16 rfl
  focus (simp [show Tryd.f16.ntmps = _ from rfl, List.replicate]; rfl)
  have gx := True.intro
  refine goA ?_
  clear gx
  refine Wp.loopI (fun m fr σ => ∃ (i : Nat) (s : List UInt8), ∃ gg : Nat → PD, (i + m = l.length ∧ s ++ writeM (prevK l i) (l.drop i) = W) ∧ fr = [tks.emb l, gg 1, .str [], .str s, .int .i64 i, gg 5, gg 6, gg 7, gg 8, gg 9, gg 10, gg 11, gg 12, gg 13, gg 14, gg 15, gg 16, gg 17, gg 18, gg 19, gg 20, gg 21, gg 22, gg 23, gg 24, gg 25, gg 26, gg 27, gg 28, gg 29, gg 30, gg 31, gg 32, gg 33, gg 34, gg 35, gg 36, gg 37, gg 38, gg 39, gg 40, gg 41, gg 42, gg 43, gg 44, gg 45, gg 46, gg 47, gg 48, gg 49, gg 50, gg 51, gg 52, gg 53, gg 54] ∧ σ = []) ?_ (l.length) (by refine ⟨0, [], ?_⟩; exact exF (⟨by omega, by simpa [prevK] using hW⟩) (by (first | rfl | (simp []; repeat (first | rfl | (apply And.intro))) | (simp []; done))) (by (first | rfl | (simp []; repeat (first | rfl | (apply And.intro))) | (simp []; done))))
  rintro m fr σ ⟨i, s, gg, hI, rfl, rfl⟩
  obtain ⟨hm, hs⟩ := hI
  by_cases hi : i < l.length
  · have q1 : (i : Int) < (l.length : Int) := by omega
    obtain ⟨t, ht⟩ : ∃ t, l[i] = t := ⟨_, rfl⟩
    have hcons : l.drop i = t :: l.drop (i + 1) := by rw [List.drop_eq_getElem_cons hi, ht]
    have hpk : prevK l (i + 1) = some t.kind := by simp [prevK, hi, ht]
    rw [hcons, writeM, ← hpk] at hs
    have hlenW := congrArg List.length hs
    rw [List.length_append, List.length_append, List.length_append] at hlenW
    by_cases k4 : t.kind = 4
    · have hit : itemM t = [34] ++ t.text ++ [34] := by simp [itemM, k4]
      rw [hit] at hs hlenW
      simp only [List.length_append, List.length_cons, List.length_nil] at hlenW
      have k6 : ¬ t.kind = 6 := by omega
      by_cases hi0 : i = 0
      · subst hi0
        rw [if_neg (by simp [prevK])] at hs hlenW
        simp only [List.nil_append, List.length_nil] at hs hlenW
        have gx := And.intro @q1 (And.intro @hi (And.intro @ht (@k4)))
        refine goA ?_
        clear gx
        refine LoopI.normal (m - 1) (by omega) (by refine ⟨0 + 1, s ++ (34 :: (t.text ++ [34])), ?_⟩; exact exF (⟨by omega, by rw [← hs]; simp⟩) (by (first | rfl | (simp []; repeat (first | rfl | (apply And.intro))) | (simp []; done))) (by (first | rfl | (simp []; repeat (first | rfl | (apply And.intro))) | (simp []; done))))
      · obtain ⟨j, hij⟩ : ∃ j, i = j + 1 := ⟨i - 1, by omega⟩
        have hj : j < l.length := by omega
        have hj1 : (0 : Int) < (i : Int) := by omega
        have hj0 : 0 < i := by omega
        have hj2 : (i : Int) - 1 = (j : Int) := by omega
        obtain ⟨u, hu⟩ : ∃ u, l[j] = u := ⟨_, rfl⟩
        have hpj : prevK l i = some u.kind := by simp [prevK, hij, hj, hu]
        rw [hpj] at hs hlenW
        by_cases hu6 : u.kind = 6
        · rw [if_neg (by simp [hu6])] at hs hlenW
          simp only [List.nil_append, List.length_nil] at hs hlenW
          have gx := And.intro @q1 (And.intro @hi (And.intro @ht (And.intro @hj (And.intro @hj0 (And.intro @hj1 (And.intro @hj2 (And.intro @hu (And.intro @hu6 (@k4)))))))))
          refine goA ?_
          clear gx
          refine LoopI.normal (m - 1) (by omega) (by refine ⟨i + 1, s ++ (34 :: (t.text ++ [34])), ?_⟩; exact exF (⟨by omega, by rw [← hs]; simp⟩) (by (first | rfl | (simp []; repeat (first | rfl | (apply And.intro))) | (simp []; done))) (by (first | rfl | (simp []; repeat (first | rfl | (apply And.intro))) | (simp []; done))))
        · rw [if_pos (by simp [hu6, k6])] at hs hlenW
          simp only [List.length_cons, List.length_nil] at hlenW
          have gx := And.intro @q1 (And.intro @hi (And.intro @ht (And.intro @hj (And.intro @hj0 (And.intro @hj1 (And.intro @hj2 (And.intro @hu (And.intro @hu6 (@k4)))))))))
          refine goA ?_
          clear gx
          refine LoopI.normal (m - 1) (by omega) (by refine ⟨i + 1, s ++ (32 :: 34 :: (t.text ++ [34])), ?_⟩; exact exF (⟨by omega, by rw [← hs]; simp⟩) (by (first | rfl | (simp []; repeat (first | rfl | (apply And.intro))) | (simp []; done))) (by (first | rfl | (simp []; repeat (first | rfl | (apply And.intro))) | (simp []; done))))
    · have hit : itemM t = t.text := by simp [itemM, k4]
      rw [hit] at hs hlenW
      by_cases hi0 : i = 0
      · subst hi0
        rw [if_neg (by simp [prevK])] at hs hlenW
        simp only [List.nil_append, List.length_nil] at hs hlenW
        have gx := And.intro @q1 (And.intro @hi (And.intro @ht (@k4)))
        refine goA ?_
        clear gx
        refine LoopI.normal (m - 1) (by omega) (by refine ⟨0 + 1, s ++ t.text, ?_⟩; exact exF (⟨by omega, by rw [← hs]; simp⟩) (by (first | rfl | (simp []; repeat (first | rfl | (apply And.intro))) | (simp []; done))) (by (first | rfl | (simp []; repeat (first | rfl | (apply And.intro))) | (simp []; done))))
      · obtain ⟨j, hij⟩ : ∃ j, i = j + 1 := ⟨i - 1, by omega⟩
        have hj : j < l.length := by omega
        have hj1 : (0 : Int) < (i : Int) := by omega
        have hj0 : 0 < i := by omega
        have hj2 : (i : Int) - 1 = (j : Int) := by omega
        obtain ⟨u, hu⟩ : ∃ u, l[j] = u := ⟨_, rfl⟩
        have hpj : prevK l i = some u.kind := by simp [prevK, hij, hj, hu]
        rw [hpj] at hs hlenW
        by_cases k6 : t.kind = 6
        · rw [if_neg (by simp [k6])] at hs hlenW
          simp only [List.nil_append, List.length_nil] at hs hlenW
          have gx := And.intro @q1 (And.intro @hi (And.intro @ht (And.intro @hj (And.intro @hj0 (And.intro @hj1 (And.intro @hj2 (And.intro @hu (And.intro @k6 (@k4)))))))))
          refine goA ?_
          clear gx
          refine LoopI.normal (m - 1) (by omega) (by refine ⟨i + 1, s ++ t.text, ?_⟩; exact exF (⟨by omega, by rw [← hs]; simp⟩) (by (first | rfl | (simp []; repeat (first | rfl | (apply And.intro))) | (simp []; done))) (by (first | rfl | (simp []; repeat (first | rfl | (apply And.intro))) | (simp []; done))))
        · by_cases hu6 : u.kind = 6
          · rw [if_neg (by simp [hu6])] at hs hlenW
            simp only [List.nil_append, List.length_nil] at hs hlenW
            have gx := And.intro @q1 (And.intro @hi (And.intro @ht (And.intro @hj (And.intro @hj0 (And.intro @hj1 (And.intro @hj2 (And.intro @hu (And.intro @hu6 (And.intro @k6 (@k4))))))))))
            refine goA ?_
            clear gx
            refine LoopI.normal (m - 1) (by omega) (by refine ⟨i + 1, s ++ t.text, ?_⟩; exact exF (⟨by omega, by rw [← hs]; simp⟩) (by (first | rfl | (simp []; repeat (first | rfl | (apply And.intro))) | (simp []; done))) (by (first | rfl | (simp []; repeat (first | rfl | (apply And.intro))) | (simp []; done))))
          · rw [if_pos (by simp [hu6, k6])] at hs hlenW
            simp only [List.length_cons, List.length_nil] at hlenW
            have gx := And.intro @q1 (And.intro @hi (And.intro @ht (And.intro @hj (And.intro @hj0 (And.intro @hj1 (And.intro @hj2 (And.intro @hu (And.intro @hu6 (And.intro @k6 (@k4))))))))))
            refine goA ?_
            clear gx
            refine LoopI.normal (m - 1) (by omega) (by refine ⟨i + 1, s ++ (32 :: t.text), ?_⟩; exact exF (⟨by omega, by rw [← hs]; simp⟩) (by (first | rfl | (simp []; repeat (first | rfl | (apply And.intro))) | (simp []; done))) (by (first | rfl | (simp []; repeat (first | rfl | (apply And.intro))) | (simp []; done))))
  · have q1 : ¬ (i : Int) < (l.length : Int) := by omega
    have he : i = l.length := by omega
    rw [he, List.drop_length, writeM, List.append_nil] at hs
    subst hs
    have gx := @q1
    refine goA ?_
    clear gx
    simp (disch := first | omega | (simp; done) | (simp; omega)) [decide_eq_decide] <;> try rfl

theorem r_short (h0 : E 17 = none) (l : List Tk) (hl : l.length ≤ 9223372036854775807) : Run Tryd.prog E 17 [tks.emb l] (Em.bool.emb (shortS l)) := by
  obtain ⟨B, hB⟩ : ∃ B, shortS l = B := ⟨_, rfl⟩
  rw [hB]
  apply Run.bodyL h0 Tryd.func17 rfl
  focus (simp [show Tryd.f17.ntmps = _ from rfl, List.replicate]; rfl)
  have gx := True.intro
  refine goA ?_
  clear gx
  refine Wp.loopI (fun m fr σ => ∃ (i : Nat), ∃ gg : Nat → PD, (i + m = l.length ∧ ((l.drop i).all (fun t => decide (t.text.length ≤ 60)) && decide (l.length ≤ 40)) = B) ∧ fr = [tks.emb l, gg 1, .bool false, .int .i64 i, gg 4, gg 5, gg 6, gg 7, gg 8, gg 9, gg 10, gg 11, gg 12, gg 13, gg 14, gg 15, gg 16, gg 17, gg 18, gg 19] ∧ σ = []) ?_ (l.length) (by refine ⟨0, ?_⟩; exact exF (⟨by omega, by simpa [shortS] using hB⟩) (by (first | rfl | (simp []; repeat (first | rfl | (apply And.intro))) | (simp []; done))) (by (first | rfl | (simp []; repeat (first | rfl | (apply And.intro))) | (simp []; done))))
  rintro m fr σ ⟨i, gg, hI, rfl, rfl⟩
  obtain ⟨hm, hs⟩ := hI
  by_cases hi : i < l.length
  · have q1 : (i : Int) < (l.length : Int) := by omega
    obtain ⟨t, ht⟩ : ∃ t, l[i] = t := ⟨_, rfl⟩
    have hcons : l.drop i = t :: l.drop (i + 1) := by rw [List.drop_eq_getElem_cons hi, ht]
    rw [hcons, List.all_cons] at hs
    by_cases c : 60 < (t.text.length : Int)
    · have c2 : ¬ t.text.length ≤ 60 := by omega
      rw [decide_eq_false c2, Bool.false_and, Bool.false_and] at hs
      have gx := And.intro @q1 (And.intro @hi (And.intro @ht (@c)))
      refine goA ?_
      clear gx
      simp (disch := first | omega | (simp; done) | (simp; omega)) [decide_eq_decide, hs] <;> try rfl
    · have c2 : t.text.length ≤ 60 := by omega
      rw [decide_eq_true c2, Bool.true_and] at hs
      have gx := And.intro @q1 (And.intro @hi (And.intro @ht (@c)))
      refine goA ?_
      clear gx
      refine LoopI.normal (m - 1) (by omega) (by refine ⟨i + 1, ?_⟩; exact exF (⟨by omega, hs⟩) (by (first | rfl | (simp []; repeat (first | rfl | (apply And.intro))) | (simp []; done))) (by (first | rfl | (simp []; repeat (first | rfl | (apply And.intro))) | (simp []; done))))
  · have q1 : ¬ (i : Int) < (l.length : Int) := by omega
    have he : i = l.length := by omega
    rw [he, List.drop_length, List.all_nil, Bool.true_and] at hs
    subst hs
    have gx := @q1
    refine goA ?_
    clear gx
    simp (disch := first | omega | (simp; done) | (simp; omega)) [decide_eq_decide] <;> try rfl
    omega
end Go.Kz

/-
  Layer 19: LexerScans, LexerWrites, LexerRefuses, walked.
-/
namespace Go.Kz
open Go Go.Proofs

theorem sameTs_refl (all : Bool) : ∀ l : List Tk, sameTs all l l = true
  | [] => rfl
  | t :: l => by rw [sameTs, sameTs_refl all l, sameT, eqT_refl]; simp

variable {E : PExt} (hU : Uni E)
include hU
set_option maxRecDepth 10000
set_option maxHeartbeats 4000000

theorem r_Scans (h0 : E 5 = none) (h1 : E 12 = some (entry (gf1 .text (tks.tup3 .pos i64) fun s => gif ((s.length : Int) < 4000000000) (some (scanS s)))))
    (h2 : E 11 = some (entry (gf0 .bool (some true))))
    (h3 : E 14 = some (entry (gf3 tks tks .bool .bool fun l r all => gif (l.length ≤ 100000000000) (some (sameTs all l r)))))
    (h4 : E 15 = some (entry (gf1 .text (tks.tup3 .pos i64) fun s => gif (s.length ≤ 10000) (some (scanS s)))))
    (s : List UInt8) : Run Tryd.prog E 5 [.str s] (Em.bool.emb true) := by
  apply Run.bodyL h0 Tryd.func5 rfl
  focus (simp [show Tryd.f5.ntmps = _ from rfl, List.replicate]; rfl)
  by_cases q1 : 200 < (s.length : Int)
  · have gx := And.intro @h2 (@q1)
    refine goA ?_
    clear gx
    simp (disch := first | omega | (simp; done) | (simp; omega)) [decide_eq_decide] <;> try rfl
  · have l1 : (s.length : Int) < 4000000000 := by omega
    have l2 : s.length ≤ 10000 := by omega
    have hlen := scanS_len s
    obtain ⟨a, p, e, hs⟩ : ∃ a p e, scanS s = (a, p, e) := ⟨_, _, _, rfl⟩
    rw [hs] at hlen
    simp only at hlen
    have l3 : a.length ≤ 100000000000 := by omega
    have hsm := sameTs_refl true a
    have gx := And.intro @h1 (And.intro @h2 (And.intro @h3 (And.intro @h4 (And.intro @q1 (And.intro @l1 (And.intro @l2 (And.intro @l3 (And.intro @hs (@hsm)))))))))
    refine goA ?_
    clear gx
    simp (disch := first | omega | (simp; done) | (simp; omega)) [decide_eq_decide] <;> try rfl

theorem r_Writes (h0 : E 7 = none) (h1 : E 12 = some (entry (gf1 .text (tks.tup3 .pos i64) fun s => gif ((s.length : Int) < 4000000000) (some (scanS s)))))
    (h2 : E 11 = some (entry (gf0 .bool (some true))))
    (h3 : E 14 = some (entry (gf3 tks tks .bool .bool fun l r all => gif (l.length ≤ 100000000000) (some (sameTs all l r)))))
    (h4 : E 15 = some (entry (gf1 .text (tks.tup3 .pos i64) fun s => gif (s.length ≤ 10000) (some (scanS s)))))
    (h5 : E 13 = some (entry (gf1 tks (Em.text.tup2 i64) fun l => gif ((writeL none l).length < 4000000000) (some (writeS l)))))
    (h6 : E 16 = some (entry (gf1 tks .text fun l => gif (l.length ≤ 100000 ∧ (writeM none l).length < 4000000000) (some (writeM none l)))))
    (s : List UInt8) : Run Tryd.prog E 7 [.str s] (Em.bool.emb true) := by
  apply Run.bodyL h0 Tryd.func7 rfl
  focus (simp [show Tryd.f7.ntmps = _ from rfl, List.replicate]; rfl)
  by_cases q1 : 200 < (s.length : Int)
  · have gx := And.intro @h2 (@q1)
    refine goA ?_
    clear gx
    simp (disch := first | omega | (simp; done) | (simp; omega)) [decide_eq_decide] <;> try rfl
  · have l1 : (s.length : Int) < 4000000000 := by omega
    have l2 : s.length ≤ 10000 := by omega
    obtain ⟨a, p, e, hs⟩ : ∃ a p e, scanS s = (a, p, e) := ⟨_, _, _, rfl⟩
    by_cases he : e = 0
    · subst he
      obtain ⟨w1, w2, w3, w4, b, q, w5, w6, w7⟩ := law_Writes (by omega) hs
      obtain ⟨W, hW⟩ : ∃ W, writeL none a = W := ⟨_, rfl⟩
      rw [hW] at w2 w3 w4 w5
      have l7 : a.length ≤ 100000 := by omega
      have l3 : a.length ≤ 100000000000 := by omega
      have l4 : b.length ≤ 100000000000 := by omega
      have l5 : W.length < 4000000000 := by omega
      have l6 : (W.length : Int) < 4000000000 := by omega
      have gx := And.intro @h1 (And.intro @h2 (And.intro @h3 (And.intro @h4 (And.intro @h5 (And.intro @h6 (And.intro @q1 (And.intro @l1 (And.intro @l2 (And.intro @l3 (And.intro @l4 (And.intro @l5 (And.intro @l6 (And.intro @l7 (And.intro @hs (And.intro @hW (And.intro @w3 (And.intro @w4 (And.intro @w5 (@w7)))))))))))))))))))
      refine goA ?_
      clear gx
      simp (disch := first | omega | (simp; done) | (simp; omega)) [decide_eq_decide] <;> try rfl
    · have gx := And.intro @h1 (And.intro @h2 (And.intro @h3 (And.intro @h4 (And.intro @q1 (And.intro @l1 (And.intro @l2 (And.intro @hs (@he))))))))
      refine goA ?_
      clear gx
      simp (disch := first | omega | (simp; done) | (simp; omega)) [decide_eq_decide] <;> try rfl

theorem r_Refuses (h0 : E 8 = none)
    (h2 : E 11 = some (entry (gf0 .bool (some true))))
    (h3 : E 14 = some (entry (gf3 tks tks .bool .bool fun l r all => gif (l.length ≤ 100000000000) (some (sameTs all l r)))))
    (h4 : E 15 = some (entry (gf1 .text (tks.tup3 .pos i64) fun s => gif (s.length ≤ 10000) (some (scanS s)))))
    (h5 : E 13 = some (entry (gf1 tks (Em.text.tup2 i64) fun l => gif ((writeL none l).length < 4000000000) (some (writeS l)))))
    (h6 : E 16 = some (entry (gf1 tks .text fun l => gif (l.length ≤ 100000 ∧ (writeM none l).length < 4000000000) (some (writeM none l)))))
    (h7 : E 17 = some (entry (gf1 tks .bool fun l => gif (l.length ≤ 9223372036854775807) (some (shortS l)))))
    (h8 : E 19 = some (entry (gf2 .tk .tk .bool fun a b => some (eqT a b))))
    (h9 : E 18 = some (entry (gf2 .tk .tk .bool fun a b => some (eqT a b))))
    (l : List Tk) (t : Tk) (hlen : l.length ≤ 9223372036854775807) : Run Tryd.prog E 8 [tks.emb l, Em.tk.emb t] (Em.bool.emb true) := by
  apply Run.bodyL h0 Tryd.func8 rfl
  focus (simp [show Tryd.f8.ntmps = _ from rfl, List.replicate]; rfl)
  cases hsh : shortS l with
  | false =>
    have gx := And.intro @h2 (And.intro @h7 (And.intro @hlen (@hsh)))
    refine goA ?_
    clear gx
    simp (disch := first | omega | (simp; done) | (simp; omega)) [decide_eq_decide] <;> try rfl
  | true =>
    by_cases q1 : 60 < (t.text.length : Int)
    · have gx := And.intro @h2 (And.intro @h7 (And.intro @hlen (And.intro @hsh (@q1))))
      refine goA ?_
      clear gx
      simp (disch := first | omega | (simp; done) | (simp; omega)) [decide_eq_decide] <;> try rfl
    · have hsh2 := hsh
      simp only [shortS, Bool.and_eq_true, List.all_eq_true, decide_eq_true_eq] at hsh2
      obtain ⟨a1, a2⟩ := hsh2
      have wl := writeL_len60 a1 none
      have wm := writeM_len a1 none
      have hR := law_Refuses (l := l) (by omega)
      obtain ⟨W, hW⟩ : ∃ W, writeM none l = W := ⟨_, rfl⟩
      rw [hW] at wm hR
      have l1 : W.length ≤ 10000 := by omega
      have l7 : l.length ≤ 100000 := by omega
      have l2 : W.length < 4000000000 := by omega
      have l3 : (writeL none l).length < 4000000000 := by omega
      have l4 := scanS_len W
      obtain ⟨b, p, f, hs⟩ : ∃ b p f, scanS W = (b, p, f) := ⟨_, _, _, rfl⟩
      rw [hs] at hR l4
      simp only at hR l4
      have l5 : b.length ≤ 100000000000 := by omega
      have hsm := sameTs_eq b l
      have gx := And.intro @h2 (And.intro @h7 (And.intro @hlen (And.intro @hsh (@q1))))
      refine goA ?_
      clear gx
      refine Wp.loopI (fun m fr σ => ∃ (i : Nat), ∃ gg : Nat → PD, (i + m = l.length) ∧ fr = tks.emb l :: Em.tk.emb t :: gg 2 :: .ptr 0 0 :: .bool false :: .int .i64 i :: gg 6 :: gg 7 :: gg 8 :: gg 9 :: gg 10 :: gg 11 :: gg 12 :: gg 13 :: gg 14 :: gg 15 :: gg 16 :: gg 17 :: gg 18 :: gg 19 :: gg 20 :: gg 21 :: gg 22 :: gg 23 :: gg 24 :: gg 25 :: gg 26 :: gg 27 :: gg 28 :: gg 29 :: gg 30 :: gg 31 :: gg 32 :: gg 33 :: gg 34 :: gg 35 :: gg 36 :: gg 37 :: gg 38 :: gg 39 :: gg 40 :: gg 41 :: gg 42 :: gg 43 :: gg 44 :: gg 45 :: gg 46 :: gg 47 :: gg 48 :: gg 49 :: gg 50 :: gg 51 :: gg 52 :: gg 53 :: gg 54 :: gg 55 :: gg 56 :: gg 57 :: gg 58 :: gg 59 :: gg 60 :: gg 61 :: gg 62 :: gg 63 :: gg 64 :: gg 65 :: gg 66 :: gg 67 :: gg 68 :: gg 69 :: gg 70 :: gg 71 :: gg 72 :: gg 73 :: gg 74 :: gg 75 :: gg 76 :: gg 77 :: gg 78 :: gg 79 :: gg 80 :: gg 81 :: gg 82 :: gg 83 :: gg 84 :: gg 85 :: gg 86 :: gg 87 :: gg 88 :: gg 89 :: gg 90 :: [] ∧ σ = [.box (Em.tk.emb t)]) ?_ (l.length) (by refine ⟨0, ?_⟩; exact exF (by omega) (by (first | rfl | (simp []; repeat (first | rfl | (apply And.intro))) | (simp []; done))) (by (first | rfl | (simp []; repeat (first | rfl | (apply And.intro))) | (simp []; done))))
      rintro m fr σ ⟨i, gg, hI, rfl, rfl⟩
      by_cases hi : i < l.length
      · have q2 : (i : Int) < (l.length : Int) := by omega
        obtain ⟨u, hu⟩ : ∃ u, l[i] = u := ⟨_, rfl⟩
        have hr := eqT_refl u
        obtain ⟨B, hB⟩ : ∃ B, eqT u t = B := ⟨_, rfl⟩
        cases B
        all_goals
          have gx := And.intro @h8 (And.intro @h9 (And.intro @q2 (And.intro @hi (And.intro @hu (And.intro @hr (@hB))))))
          refine goA ?_
          clear gx
          refine LoopI.normal (m - 1) (by omega) (by refine ⟨i + 1, ?_⟩; exact exF (by omega) (by (first | rfl | (simp []; repeat (first | rfl | (apply And.intro))) | (simp []; done))) (by (first | rfl | (simp []; repeat (first | rfl | (apply And.intro))) | (simp []; done))))
      · have q2 : ¬ (i : Int) < (l.length : Int) := by omega
        by_cases hf : f = 0
        · subst hf
          cases hE : eqTs b l with
          | false =>
            rw [hE] at hsm hR
            simp only [ne_eq, not_true_eq_false, or_true, if_true] at hR
            have gx := And.intro @q2 (And.intro @h3 (And.intro @h4 (And.intro @h5 (And.intro @h6 (And.intro @hW (And.intro @l1 (And.intro @l2 (And.intro @l3 (And.intro @l5 (And.intro @l7 (And.intro @hs (And.intro @hsm (@hR)))))))))))))
            refine goA ?_
            clear gx
            simp (disch := first | omega | (simp; done) | (simp; omega)) [decide_eq_decide] <;> try rfl
          | true =>
            rw [hE] at hsm hR
            rw [if_neg (by simp)] at hR
            have gx := And.intro @q2 (And.intro @h3 (And.intro @h4 (And.intro @h5 (And.intro @h6 (And.intro @hW (And.intro @l1 (And.intro @l2 (And.intro @l3 (And.intro @l5 (And.intro @l7 (And.intro @hs (And.intro @hsm (@hR)))))))))))))
            refine goA ?_
            clear gx
            simp (disch := first | omega | (simp; done) | (simp; omega)) [decide_eq_decide] <;> try rfl
        · rw [if_pos (.inl hf)] at hR
          have gx := And.intro @q2 (And.intro @h3 (And.intro @h4 (And.intro @h5 (And.intro @h6 (And.intro @hW (And.intro @l1 (And.intro @l2 (And.intro @l3 (And.intro @l5 (And.intro @l7 (And.intro @hs (And.intro @hf (@hR)))))))))))))
          refine goA ?_
          clear gx
          simp (disch := first | omega | (simp; done) | (simp; omega)) [decide_eq_decide] <;> try rfl
end Go.Kz

/-
  The table of what LexerScans, LexerWrites, LexerRefuses reach.
-/
namespace Go.Kz
open Go Go.Proofs
set_option maxRecDepth 10000

noncomputable def En1 : PExt := Em8.add 16 (entry (gf1 tks .text fun l => gif (l.length ≤ 100000 ∧ (writeM none l).length < 4000000000) (some (writeM none l))))
theorem En1_uni : Uni En1 := Em8_uni.entry
theorem En1_ok : ExtOk Tryd.prog En1 := Em8_ok.add1 follows (fun x z hz => by obtain ⟨hg, hz⟩ := gif_some hz; simp only [Option.some.injEq] at hz; subst hz; exact r_write Em8_uni rfl x hg.1 hg.2)
noncomputable def En2 : PExt := En1.add 17 (entry (gf1 tks .bool fun l => gif (l.length ≤ 9223372036854775807) (some (shortS l))))
theorem En2_uni : Uni En2 := En1_uni.entry
theorem En2_ok : ExtOk Tryd.prog En2 := En1_ok.add1 follows (fun x z hz => by obtain ⟨hg, hz⟩ := gif_some hz; simp only [Option.some.injEq] at hz; subst hz; exact r_short En1_uni rfl x hg)
end Go.Kz
