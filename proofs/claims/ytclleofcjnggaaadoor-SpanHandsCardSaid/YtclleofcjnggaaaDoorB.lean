/-
  Bits of words: the lowest one, and a word without it.
-/
import Derived.Test.YtclleofcjnggaaaDoorSa
set_option linter.all false
namespace Go.Kz

/-- The places of the bits from n on. -/
def bitsFrom (x : BitVec 64) (n : Nat) : List Nat := (List.range' n (64 - n)).filter x.getLsbD
def bits (x : BitVec 64) : List Nat := (List.range 64).filter x.getLsbD

/-- The lowest bit; 64 for none. -/
def tz (x : BitVec 64) : Nat := (bits x).headD 64

theorem low_split {x k : Nat} (h : x.testBit k = true) (hl : ∀ j, j < k → x.testBit j = false) : ∃ q, x = 2 ^ (k + 1) * q + 2 ^ k := by
  refine ⟨x / 2 ^ (k + 1), ?_⟩
  have h1 : x % 2 ^ (k + 1) = 2 ^ k := by
    apply Nat.eq_of_testBit_eq
    intro i
    rw [Nat.testBit_mod_two_pow, Nat.testBit_two_pow]
    by_cases hi : i < k
    · have : k ≠ i := by omega
      simp [hl i hi, this]
    · by_cases he : i = k
      · subst he; simp [h]
      · have h2 : ¬ i < k + 1 := by omega
        have h3 : k ≠ i := by omega
        simp [h2, h3]
  have h2 := Nat.div_add_mod x (2 ^ (k + 1))
  rw [h1] at h2
  exact h2.symm

theorem bit_of {k q j : Nat} : (2 ^ (k + 1) * q + 2 ^ k).testBit j = if j < k + 1 then decide (k = j) else q.testBit (j - (k + 1)) := by
  rw [Nat.testBit_two_pow_mul_add _ (Nat.pow_lt_pow_right (by omega) (by omega)), Nat.testBit_two_pow]
theorem bit_of_pred {k q j : Nat} : (2 ^ (k + 1) * q + 2 ^ k - 1).testBit j = if j < k + 1 then decide (j < k) else q.testBit (j - (k + 1)) := by
  have hp : 0 < 2 ^ k := Nat.pow_pos (by omega)
  have h1 : 2 ^ (k + 1) * q + 2 ^ k - 1 = 2 ^ (k + 1) * q + (2 ^ k - 1) := by omega
  have h2 : 2 ^ k - 1 < 2 ^ (k + 1) := by rw [Nat.pow_succ]; omega
  rw [h1, Nat.testBit_two_pow_mul_add _ h2, Nat.testBit_two_pow_sub_one]

theorem tz_spec {x : BitVec 64} (hx : x ≠ 0#64) : tz x < 64 ∧ x.getLsbD (tz x) = true ∧ (∀ j, j < tz x → x.getLsbD j = false) ∧ bits x = tz x :: (bits x).tail := by
  have hne : bits x ≠ [] := by
    intro h
    apply hx
    apply BitVec.eq_of_getLsbD_eq
    intro i hi
    have : i ∉ bits x := by rw [h]; simp
    simpa [bits, hi] using this
  obtain ⟨b, l, hb⟩ := List.exists_cons_of_ne_nil hne
  have ht : tz x = b := by simp [tz, hb]
  have hmem : b ∈ bits x := by rw [hb]; simp
  simp only [bits, List.mem_filter, List.mem_range] at hmem
  refine ⟨by rw [ht]; exact hmem.1, by rw [ht]; exact hmem.2, fun j hj => ?_, by rw [ht, hb]; rfl⟩
  rw [ht] at hj
  cases hc : x.getLsbD j with
  | false => rfl
  | true =>
    exfalso
    have hjm : j ∈ bits x := by simp [bits, hc]; omega
    have hs : (bits x).Pairwise (· < ·) := List.Pairwise.filter _ (List.pairwise_lt_range)
    rw [hb] at hs hjm
    rcases List.mem_cons.1 hjm with h | h
    · omega
    · have := (List.pairwise_cons.1 hs).1 j h
      omega

theorem neg_bit (x : BitVec 64) (hx : x ≠ 0#64) (j : Nat) (hj : j < 64) : (-x).getLsbD j = !(x.toNat - 1).testBit j := by
  have h0 : 0 < x.toNat := Nat.pos_of_ne_zero fun h => hx (BitVec.eq_of_toNat_eq (by simpa using h))
  have hlt := x.isLt
  have h1 : (-x).toNat = 2 ^ 64 - (x.toNat - 1 + 1) := by
    rw [BitVec.toNat_neg, Nat.mod_eq_of_lt (by omega)]
    omega
  rw [BitVec.getLsbD, h1, Nat.testBit_two_pow_sub_succ (by omega)]
  simp [hj]

theorem low_and_neg {x : BitVec 64} (hx : x ≠ 0#64) : x &&& -x = BitVec.twoPow 64 (tz x) := by
  obtain ⟨h1, h2, h3, _⟩ := tz_spec hx
  obtain ⟨q, hq⟩ := low_split (x := x.toNat) h2 h3
  apply BitVec.eq_of_getLsbD_eq
  intro j hj
  rw [BitVec.getLsbD_and, neg_bit x hx j hj, BitVec.getLsbD_twoPow, BitVec.getLsbD, hq, bit_of, bit_of_pred]
  by_cases h : j < tz x + 1
  · simp only [h, if_true]
    by_cases he : tz x = j
    · subst he; simp [h1]
    · simp [he]
  · have he : tz x ≠ j := by omega
    simp only [h, if_false, Bool.and_not_self]
    simp [he]

theorem sub_one_toNat {x : BitVec 64} (hx : x ≠ 0#64) : (x - 1#64).toNat = x.toNat - 1 := by
  have h0 : 0 < x.toNat := Nat.pos_of_ne_zero fun h => hx (BitVec.eq_of_toNat_eq (by simpa using h))
  have hlt := x.isLt
  rw [BitVec.toNat_sub]
  simp
  omega

theorem bits_next {x : BitVec 64} (hx : x ≠ 0#64) : bits x = tz x :: bits (x &&& (x - 1#64)) := by
  obtain ⟨h1, h2, h3, h4⟩ := tz_spec hx
  obtain ⟨q, hq⟩ := low_split (x := x.toNat) h2 h3
  have key : ∀ j, j < 64 → (x &&& (x - 1#64)).getLsbD j = (x.getLsbD j && decide (j ≠ tz x)) := by
    intro j hj
    rw [BitVec.getLsbD_and, BitVec.getLsbD, BitVec.getLsbD, sub_one_toNat hx, hq, bit_of, bit_of_pred]
    by_cases h : j < tz x + 1
    · simp only [h, if_true]
      by_cases he : tz x = j
      · subst he; simp
      · have : j ≠ tz x := fun e => he e.symm
        simp [he, this]
    · have he : j ≠ tz x := by omega
      simp [h, he]
  have hs : (bits x).Pairwise (· < ·) := List.Pairwise.filter _ (List.pairwise_lt_range)
  have e : bits (x &&& (x - 1#64)) = (bits x).filter fun j => decide (j ≠ tz x) := by
    simp only [bits, List.filter_filter]
    apply List.filter_congr
    intro j hj
    rw [key j (List.mem_range.1 hj), Bool.and_comm]
  rw [e, h4]
  rw [h4] at hs
  have hn := (List.pairwise_cons.1 hs).1
  simp only [List.filter_cons, ne_eq, not_true_eq_false, decide_false, Bool.false_eq_true, if_false, List.cons.injEq, true_and]
  symm
  apply List.filter_eq_self.2
  intro j hj
  have := hn j hj
  simp
  omega

theorem bits_zero : bits 0#64 = [] := by
  simp [bits]

theorem list_bits (s : Notes) : s.list = (bits s.low).map (fun b : Nat => (b : Int)) ++ (bits s.high).map (fun b : Nat => 64 + (b : Int)) := by
  have h : List.range 128 = List.range 64 ++ (List.range 64).map (64 + ·) := by
    rw [← List.range_add]
  have h1 : (List.range 64).filter s.mem = bits s.low := by
    unfold bits
    apply List.filter_congr
    intro j hj
    simp only [List.mem_range] at hj
    simp [Notes.mem, hj]
  have h2 : ((List.range 64).map (64 + ·)).filter s.mem = (bits s.high).map (64 + ·) := by
    rw [List.filter_map]
    have : (s.mem ∘ fun x => 64 + x) = s.high.getLsbD := by
      funext j
      simp [Notes.mem]
    rw [this]
    rfl
  unfold Notes.list listTo
  rw [h, List.filter_append, List.map_append, h1, h2, List.map_map]
  congr 1

end Go.Kz
