/-
  Part P7 of the way: an interpreter over pure data, its soundness, walks through functions.
-/
import Derived.Test.YtngmkfjeekpnpaaDoorP5
import Derived.Test.YtngmkfjeekpnpaaDoorP3
set_option linter.all false

/-
  Layer 19: the model's scanner in plain words, and that it does what Scan does.
-/
namespace Go.Kz
open Go Go.Proofs

/-- Nothing follows, or a line feed. -/
def tl (t : List UInt8) : Prop := t = [] ∨ ∃ u, t = 10 :: u

theorem spanN_tail {p : Int → Bool} (hp : p 10 = false) {t : List UInt8} (ht : tl t) : ∀ r : List UInt8, spanN p (r ++ t) = spanN p r
  | [] => by
    rcases ht with rfl | ⟨u, rfl⟩
    · rfl
    · rw [List.nil_append, spanN_cons]
      simp [hp, spanN]
  | b :: r => by rw [List.cons_append, spanN_cons, spanN_cons, spanN_tail hp ht r]

theorem pk_tail {r t : List UInt8} (ht : tl t) {i : Nat} (h : i ≤ r.length) (c : Nat) (h0 : c ≠ 0) (h1 : c ≠ 10) : (pk (r ++ t) i = c) = (pk r i = c) := by
  by_cases hi : i < r.length
  · have : pk (r ++ t) i = pk r i := by
      rw [pk_at (by rw [List.length_append]; omega), pk_at hi, List.getElem_append_left hi]
    rw [this]
  · have he : i = r.length := by omega
    subst he
    rw [pk_end (Nat.le_refl _)]
    rcases ht with rfl | ⟨u, rfl⟩
    · rw [List.append_nil, pk_end (Nat.le_refl _)]
    · have : pk (r ++ 10 :: u) r.length = 10 := by
        rw [pk_at (by rw [List.length_append, List.length_cons]; omega)]
        simp
      rw [this]
      exact propext ⟨fun h => absurd h.symm h1, fun h => absurd h.symm h0⟩

theorem drop_tail {r t : List UInt8} {k : Nat} (h : k ≤ r.length) : (r ++ t).drop k = r.drop k ++ t := List.drop_append_of_le_length h
theorem take_tail {r t : List UInt8} {k : Nat} (h : k ≤ r.length) : (r ++ t).take k = r.take k := List.take_append_of_le_length h
theorem lt_of_pk {r : List UInt8} {i c : Nat} (h : pk r i = c) (hc : c ≠ 0) : i < r.length := Nat.lt_of_not_le fun h' => hc (by rw [← h, pk_end h'])

theorem digN_ten : digN 10 = false := by decide
theorem wordN_ten : wordN 10 = false := by decide

theorem partsS_tail {r t : List UInt8} (ht : tl t) : partsS (r ++ t) = partsS r := by
  obtain ⟨a, ha⟩ : ∃ a, spanN digN r = a := ⟨_, rfl⟩
  have hal := spanN_le digN r
  rw [ha] at hal
  unfold partsS
  simp only [spanN_tail digN_ten ht, ha, pk_tail ht hal 39 (by decide) (by decide), pk_tail ht hal 45 (by decide) (by decide), pk_tail ht hal 47 (by decide) (by decide), take_tail hal]
  by_cases c1 : pk r a = 39
  · rw [if_pos c1, if_pos c1]
  · rw [if_neg c1, if_neg c1]
    by_cases c2 : pk r a = 45
    · rw [if_pos c2, if_pos c2]
      have h1 := lt_of_pk c2 (by decide)
      obtain ⟨n, hn⟩ : ∃ n, spanN digN (r.drop (a + 1)) = n := ⟨_, rfl⟩
      have hnl := spanN_le digN (r.drop (a + 1))
      rw [hn, List.length_drop] at hnl
      simp only [drop_tail (show a + 1 ≤ r.length by omega), spanN_tail digN_ten ht, hn, pk_tail ht (show a + 1 + n ≤ r.length by omega) 47 (by decide) (by decide), take_tail (show n ≤ (r.drop (a + 1)).length by rw [List.length_drop]; omega)]
      by_cases c3 : pk r (a + 1 + n) = 47
      · have h2 := lt_of_pk c3 (by decide)
        obtain ⟨m, hm⟩ : ∃ m, spanN digN (r.drop (a + 1 + n + 1)) = m := ⟨_, rfl⟩
        have hml := spanN_le digN (r.drop (a + 1 + n + 1))
        rw [hm, List.length_drop] at hml
        simp only [drop_tail (show a + 1 + n + 1 ≤ r.length by omega), spanN_tail digN_ten ht, hm, pk_tail ht (show a + 1 + n + 1 + m ≤ r.length by omega) 39 (by decide) (by decide), take_tail (show m ≤ (r.drop (a + 1 + n + 1)).length by rw [List.length_drop]; omega)]
      · rw [if_neg (fun h => c3 h.2.1), if_neg (fun h => c3 h.2.1)]
    · rw [if_neg c2, if_neg c2]
      by_cases c3 : pk r a = 47
      · rw [if_pos c3, if_pos c3]
        have h1 := lt_of_pk c3 (by decide)
        obtain ⟨m, hm⟩ : ∃ m, spanN digN (r.drop (a + 1)) = m := ⟨_, rfl⟩
        have hml := spanN_le digN (r.drop (a + 1))
        rw [hm, List.length_drop] at hml
        simp only [drop_tail (show a + 1 ≤ r.length by omega), spanN_tail digN_ten ht, hm, pk_tail ht (show a + 1 + m ≤ r.length by omega) 39 (by decide) (by decide), take_tail (show m ≤ (r.drop (a + 1)).length by rw [List.length_drop]; omega)]
      · rw [if_neg c3, if_neg c3]

/-- The feet at the beginning: their length, their parts. -/
def partsF (r : List UInt8) : Int × Parts := if digN (pk r 0) = true then ((partsS r).2, (partsS r).1) else (0, noParts.1)

def quoN (n : Int) : Bool := !decide (n = 34) && !decide (n = 10)
/-- The length of the token at the beginning, and its kind. -/
def lenM (r : List UInt8) : Int × Int :=
  if 0 < (partsF r).1 then ((partsF r).1, 3)
  else if letN (pk r 0) = true then ((spanN wordN r : Int), 1)
  else if digN (pk r 0) = true then ((spanN digN r : Int), 2)
  else if pk r 0 = 45 ∧ digN (pk r 1) = true then (1 + (spanN digN (r.drop 1) : Int), 2)
  else if pk r 0 = 45 ∧ pk r 1 = 62 then (2, 5)
  else if pk r 0 = 34 then (if pk r (1 + spanN quoN (r.drop 1)) = 34 then ((spanN quoN (r.drop 1) : Int) + 2, 4) else (0, 0))
  else if (pk r 0).toUInt8 ∈ marks then (1, 5) else (0, 0)

/-- The token at the beginning, its length, the error. -/
def tokM (r : List UInt8) : Tk × Int × Int :=
  if (lenM r).1 = 0 then (noTk, 0, 15)
  else if (lenM r).2 = 1 ∧ 32 < (lenM r).1 then (noTk, 0, 8)
  else if (lenM r).2 = 2 then ((numS (r.take (lenM r).1.toNat)).1, (lenM r).1, (numS (r.take (lenM r).1.toNat)).2)
  else if (lenM r).2 = 3 then ((feetS (partsF r).2).1, (lenM r).1, (feetS (partsF r).2).2)
  else if (lenM r).2 = 4 then (⟨4, (r.drop 1).take ((lenM r).1.toNat - 2), 0, (0, 0), 0, 0⟩, (lenM r).1, 0)
  else (⟨(lenM r).2, r.take (lenM r).1.toNat, 0, (0, 0), 0, 0⟩, (lenM r).1, 0)

theorem let_dig {n : Int} (h : letN n = true) : digN n = false := by
  unfold letN at h
  unfold digN
  simp only [Bool.or_eq_true, Bool.and_eq_true, decide_eq_true_eq] at h
  simp only [Bool.and_eq_false_iff, decide_eq_false_iff_not]
  omega

theorem u8_of {b : UInt8} {n : Nat} (h : b.toNat = n) : b = n.toUInt8 := by subst h; simp
theorem quote_span : ∀ l : List UInt8, Lib.indexByte l 34 = if spanN (fun n => !decide (n = 34)) l < l.length then (spanN (fun n => !decide (n = 34)) l : Int) else -1
  | [] => rfl
  | b :: l => by
    have ih := quote_span l
    rw [spanN_cons]
    unfold Lib.indexByte
    by_cases hb : b = 34
    · subst hb
      simp
    · have hbn : ¬ (b.toNat : Int) = 34 := fun h => hb (u8_of (n := 34) (by omega))
      have hbq : (b == 34) = false := by simpa using hb
      obtain ⟨k, hk⟩ : ∃ k, spanN (fun n => !decide (n = 34)) l = k := ⟨_, rfl⟩
      rw [hk] at ih ⊢
      simp only [hbq, hbn, decide_false, Bool.not_false, if_true, Bool.false_eq_true, if_false, List.length_cons]
      by_cases hl : k < l.length
      · rw [if_pos hl] at ih
        have h1 : ((k : Int) == -1) = false := by simp
        rw [ih, if_pos (show k + 1 < l.length + 1 by omega), h1]
        simp
      · rw [if_neg hl] at ih
        rw [ih, if_neg (show ¬ k + 1 < l.length + 1 by omega)]
        simp

theorem spanN_congr {p q : Int → Bool} : ∀ {l : List UInt8}, (∀ b ∈ l, p b.toNat = q b.toNat) → spanN p l = spanN q l
  | [], _ => rfl
  | b :: l, h => by
    rw [spanN_cons, spanN_cons, h b (by simp), spanN_congr fun b hb => h b (by simp [hb])]

theorem pk_span {p : Int → Bool} {l : List UInt8} (h : spanN p l < l.length) : p (pk l (spanN p l)) = false := by
  have h1 := spanN_at p l (spanN p l) (Nat.le_refl _) h
  rw [pk_at h]
  cases hp : p (l[spanN p l].toNat : Int) with
  | false => rfl
  | true => rw [hp] at h1; simp at h1

theorem pk_drop {l : List UInt8} {k i : Nat} : pk (l.drop k) i = pk l (k + i) := by
  unfold pk
  simp [List.getD]

theorem mem_marks {b : UInt8} : (0 ≤ Lib.indexByte marks b) = (b ∈ marks) := by
  have key : ∀ l : List UInt8, (0 ≤ Lib.indexByte l b) = (b ∈ l) := by
    intro l
    induction l with
    | nil => simp [Lib.indexByte]
    | cons c l ih =>
      unfold Lib.indexByte
      by_cases h : c = b
      · subst h
        simp
      · have h' : (c == b) = false := by simpa using h
        have h2 : ¬ b = c := fun e => h e.symm
        simp only [h', Bool.false_eq_true, if_false, List.mem_cons, h2, false_or, ← ih]
        have := Lib.indexByte_ge l b
        by_cases h3 : Lib.indexByte l b = -1
        · rw [h3]; simp
        · have h4 : (Lib.indexByte l b == -1) = false := by simpa using h3
          rw [h4]
          simp only [Bool.false_eq_true, if_false]
          apply propext
          omega
  exact key marks

/-- The token of a line's rest is the model's. -/
theorem tokM_tail {r t : List UInt8} (ht : tl t) (hr : 0 < r.length) (hn : ∀ b ∈ r, b ≠ 10) : tokM (r ++ t) = tokS r := by
  have p0 : pk (r ++ t) 0 = pk r 0 := by rw [pk_at (by rw [List.length_append]; omega), pk_at hr, List.getElem_append_left hr]
  have hpF : partsF (r ++ t) = partsF r := by unfold partsF; rw [p0, partsS_tail ht]
  cases c1 : letN (pk r 0) with
  | true =>
    have hd := let_dig c1
    have hF : partsF r = (0, noParts.1) := by unfold partsF; rw [hd]; rfl
    have hw := spanN_pos (p := wordN) hr (by unfold wordN; rw [c1]; rfl)
    have hwl := spanN_le wordN r
    have hl : lenM (r ++ t) = ((spanN wordN r : Int), 1) := by
      unfold lenM
      rw [hpF, hF, p0, if_neg (by simp), if_pos c1, spanN_tail wordN_ten ht]
    unfold tokM tokS
    rw [hl, if_pos c1, if_neg (by simp only; omega)]
    by_cases c2 : 32 < spanN wordN r
    · rw [if_pos ⟨rfl, by simp only; omega⟩, if_pos c2]
    · rw [if_neg (by simp only; omega), if_neg c2]
      simp only [Int.toNat_natCast]
      rw [if_neg (by decide), if_neg (by decide), if_neg (by decide), take_tail hwl]
  | false =>
    have n1 : ¬ letN (pk r 0) = true := by rw [c1]; decide
    have n1' : ¬ letN (pk (r ++ t) 0) = true := by rw [p0]; exact n1
    cases c2 : digN (pk r 0) with
    | true =>
      have hF : partsF r = ((partsS r).2, (partsS r).1) := by unfold partsF; rw [if_pos c2]
      have hd := spanN_pos (p := digN) hr c2
      have hdl := spanN_le digN r
      by_cases c3 : 0 < (partsS r).2
      · have hl : lenM (r ++ t) = ((partsS r).2, 3) := by
          unfold lenM
          rw [hpF, hF, if_pos c3]
        unfold tokM tokS
        rw [hl, hpF, hF, if_neg n1, if_pos c2, if_pos c3, if_neg (by simp only; omega), if_neg (by simp), if_neg (by simp), if_pos rfl]
      · have hl : lenM (r ++ t) = ((spanN digN r : Int), 2) := by
          unfold lenM
          rw [hpF, hF, p0, if_neg c3, if_neg n1, if_pos c2, spanN_tail digN_ten ht]
        unfold tokM tokS
        rw [hl, if_neg n1, if_pos c2, if_neg c3, if_neg (by simp only; omega), if_neg (by simp), if_pos rfl]
        simp only [Int.toNat_natCast]
        rw [take_tail hdl]
    | false =>
      have n2 : ¬ digN (pk r 0) = true := by rw [c2]; decide
      have n2' : ¬ digN (pk (r ++ t) 0) = true := by rw [p0]; exact n2
      have hF : partsF r = (0, noParts.1) := by unfold partsF; rw [c2]; rfl
      by_cases c3 : pk r 0 = 45 ∧ digN (pk r 1) = true
      · have h1 : 1 < r.length := Nat.lt_of_not_le fun h => by
          have := c3.2
          rw [pk_end h] at this
          revert this
          decide
        have p1 : pk (r ++ t) 1 = pk r 1 := by rw [pk_at (by rw [List.length_append]; omega), pk_at h1, List.getElem_append_left h1]
        have hdl := spanN_le digN (r.drop 1)
        rw [List.length_drop] at hdl
        have hl : lenM (r ++ t) = (1 + (spanN digN (r.drop 1) : Int), 2) := by
          unfold lenM
          rw [hpF, hF, p0, p1, if_neg (by simp), if_neg n1, if_neg n2, if_pos c3, drop_tail (by omega), spanN_tail digN_ten ht]
        unfold tokM tokS
        rw [hl, if_neg n1, if_neg n2, if_pos c3, if_neg (by simp only; omega), if_neg (by simp), if_pos rfl]
        have e : (1 + (spanN digN (r.drop 1) : Int)).toNat = 1 + spanN digN (r.drop 1) := by omega
        simp only [e]
        rw [take_tail (by omega)]
      · have c3' : ¬ (pk (r ++ t) 0 = 45 ∧ digN (pk (r ++ t) 1) = true) := by
          rw [p0]
          intro h
          by_cases h1 : 1 < r.length
          · have p1 : pk (r ++ t) 1 = pk r 1 := by rw [pk_at (by rw [List.length_append]; omega), pk_at h1, List.getElem_append_left h1]
            rw [p1] at h
            exact c3 h
          · have he : r.length = 1 := by omega
            have hp : pk (r ++ t) 1 = 0 ∨ pk (r ++ t) 1 = 10 := by
              rcases ht with rfl | ⟨u, rfl⟩
              · left
                rw [List.append_nil, pk_end (by omega)]
              · right
                rw [pk_at (by rw [List.length_append, List.length_cons]; omega), List.getElem_append_right (by omega)]
                simp [he]
            rcases hp with hp | hp <;> rw [hp] at h <;> exact absurd h.2 (by decide)
        by_cases c4 : pk r 0 = 34
        · have hdr : (r ++ t).drop 1 = r.drop 1 ++ t := drop_tail (by omega)
          have hs : spanN quoN ((r ++ t).drop 1) = spanN (fun n => !decide (n = 34)) (r.drop 1) := by
            rw [hdr, spanN_tail (by decide) ht]
            refine spanN_congr fun b hb => ?_
            have : ¬ (b.toNat : Int) = 10 := fun h => hn b (List.mem_of_mem_drop hb) (u8_of (n := 10) (by omega))
            simp [quoN, this]
          obtain ⟨n, hnn⟩ : ∃ n, spanN (fun n => !decide (n = 34)) (r.drop 1) = n := ⟨_, rfl⟩
          have hnl := spanN_le (fun n => !decide (n = 34)) (r.drop 1)
          have hix := quote_span (r.drop 1)
          rw [hnn] at hs hnl hix
          rw [List.length_drop] at hnl hix
          have hpq : (pk (r ++ t) (1 + n) = 34) = (pk r (1 + n) = 34) := pk_tail ht (by omega) 34 (by decide) (by decide)
          by_cases c5 : n < r.length - 1
          · have hq : pk r (1 + n) = 34 := by
              have := pk_span (p := fun n => !decide (n = 34)) (l := r.drop 1) (by rw [hnn, List.length_drop]; exact c5)
              rw [hnn, pk_drop] at this
              simp only [Bool.not_eq_false', decide_eq_true_eq] at this
              omega
            rw [if_pos c5] at hix
            have hl : lenM (r ++ t) = ((n : Int) + 2, 4) := by
              unfold lenM
              rw [hpF, hF, if_neg (by simp), if_neg n1', if_neg n2', if_neg c3', if_neg (show ¬ (pk (r ++ t) 0 = 45 ∧ pk (r ++ t) 1 = 62) by rw [p0, c4]; simp), p0, if_pos c4, hs, if_pos (hpq ▸ hq)]
            have e : ((n : Int) + 2).toNat - 2 = n := by omega
            have hS : tokS r = (⟨4, (r.drop 1).take n, 0, (0, 0), 0, 0⟩, (n : Int) + 2, 0) := by
              unfold tokS
              rw [if_neg n1, if_neg n2, if_neg c3, if_pos c4, hix, if_neg (by omega), Int.toNat_natCast]
            have hM : tokM (r ++ t) = (⟨4, (r.drop 1).take n, 0, (0, 0), 0, 0⟩, (n : Int) + 2, 0) := by
              unfold tokM
              rw [hl, if_neg (by simp only; omega), if_neg (by simp), if_neg (by simp), if_neg (by simp), if_pos rfl]
              simp only [e]
              rw [hdr, take_tail (by rw [List.length_drop]; omega)]
            rw [hS, hM]
          · have hq : ¬ pk r (1 + n) = 34 := by
              rw [pk_end (by omega)]
              decide
            rw [if_neg c5] at hix
            have hl : lenM (r ++ t) = (0, 0) := by
              unfold lenM
              rw [hpF, hF, if_neg (by simp), if_neg n1', if_neg n2', if_neg c3', if_neg (show ¬ (pk (r ++ t) 0 = 45 ∧ pk (r ++ t) 1 = 62) by rw [p0, c4]; simp), p0, if_pos c4, hs, if_neg (hpq ▸ hq)]
            have hS : tokS r = (noTk, 0, 15) := by
              unfold tokS
              rw [if_neg n1, if_neg n2, if_neg c3, if_pos c4, hix, if_pos (by decide)]
            have hM : tokM (r ++ t) = (noTk, 0, 15) := by
              unfold tokM
              rw [hl, if_pos rfl]
            rw [hS, hM]
        · by_cases c5 : pk r 0 = 45 ∧ pk r 1 = 62
          · have hp1 := lt_of_pk c5.2 (by decide)
            have hq : (pk (r ++ t) 1 = 62) = (pk r 1 = 62) := pk_tail ht (by omega) 62 (by decide) (by decide)
            have hpre : Lib.hasPrefix r [45, 62] = true := by
              match r, c5, hp1 with
              | a :: b :: q, ⟨h1, h2⟩, _ =>
                have ha : a = 45 := u8_of (n := 45) (by simpa [pk] using h1)
                have hb : b = 62 := u8_of (n := 62) (by simpa [pk] using h2)
                subst ha hb
                simp [Lib.hasPrefix, List.isPrefixOf]
            have hl : lenM (r ++ t) = (2, 5) := by
              unfold lenM
              rw [hpF, hF, if_neg (by simp), if_neg n1', if_neg n2', if_neg c3', if_pos (show pk (r ++ t) 0 = 45 ∧ pk (r ++ t) 1 = 62 from ⟨by rw [p0]; exact c5.1, hq ▸ c5.2⟩)]
            have e : (2 : Int).toNat = 2 := rfl
            have hS : tokS r = (⟨5, r.take 2, 0, (0, 0), 0, 0⟩, 2, 0) := by
              unfold tokS
              rw [if_neg n1, if_neg n2, if_neg c3, if_neg c4, if_pos hpre]
            have hM : tokM (r ++ t) = (⟨5, r.take 2, 0, (0, 0), 0, 0⟩, 2, 0) := by
              unfold tokM
              rw [hl, if_neg (by decide), if_neg (by simp), if_neg (by simp), if_neg (by simp), if_neg (by simp)]
              simp only [e]
              rw [take_tail (by omega)]
            rw [hS, hM]
          · have hpre : ¬ Lib.hasPrefix r [45, 62] = true := by
              intro h
              apply c5
              match r, hr, h with
              | [a], _, h => simp [Lib.hasPrefix, List.isPrefixOf] at h
              | a :: b :: q, _, h =>
                simp [Lib.hasPrefix, List.isPrefixOf] at h
                obtain ⟨rfl, rfl⟩ := h
                simp [pk]
            have hq : (pk (r ++ t) 1 = 62) = (pk r 1 = 62) := pk_tail ht (by omega) 62 (by decide) (by decide)
            have c5' : ¬ (pk (r ++ t) 0 = 45 ∧ pk (r ++ t) 1 = 62) := fun h => c5 ⟨p0 ▸ h.1, hq ▸ h.2⟩
            by_cases c6 : (pk r 0).toUInt8 ∈ marks
            · have hl : lenM (r ++ t) = (1, 5) := by
                unfold lenM
                rw [hpF, hF, if_neg (by simp), if_neg n1', if_neg n2', if_neg c3', if_neg c5', p0, if_neg c4, if_pos c6]
              have e : (1 : Int).toNat = 1 := rfl
              have hS : tokS r = (⟨5, r.take 1, 0, (0, 0), 0, 0⟩, 1, 0) := by
                unfold tokS
                rw [if_neg n1, if_neg n2, if_neg c3, if_neg c4, if_neg hpre, if_pos (mem_marks ▸ c6)]
              have hM : tokM (r ++ t) = (⟨5, r.take 1, 0, (0, 0), 0, 0⟩, 1, 0) := by
                unfold tokM
                rw [hl, if_neg (by decide), if_neg (by simp), if_neg (by simp), if_neg (by simp), if_neg (by simp)]
                simp only [e]
                rw [take_tail (by omega)]
              rw [hS, hM]
            · have hl : lenM (r ++ t) = (0, 0) := by
                unfold lenM
                rw [hpF, hF, if_neg (by simp), if_neg n1', if_neg n2', if_neg c3', if_neg c5', p0, if_neg c4, if_neg c6]
              have hS : tokS r = (noTk, 0, 15) := by
                unfold tokS
                rw [if_neg n1, if_neg n2, if_neg c3, if_neg c4, if_neg hpre, if_neg (mem_marks ▸ c6)]
              have hM : tokM (r ++ t) = (noTk, 0, 15) := by
                unfold tokM
                rw [hl, if_pos rfl]
              rw [hS, hM]

theorem feetS_kind {p : Parts} : (feetS p).2 = 0 → (feetS p).1.kind = 3 := by
  unfold feetS
  intro h
  split
  · rename_i c; rw [if_pos c] at h; cases h
  · rename_i c
    rw [if_neg c] at h
    split
    · rename_i c2; rw [if_pos c2] at h; cases h
    · rfl
theorem numS_kind {s : List UInt8} : (numS s).2 = 0 → (numS s).1.kind = 2 := by
  unfold numS
  intro h
  simp only at h ⊢
  split
  · rename_i c; rw [if_pos c] at h; cases h
  · rfl
theorem tokS_kind {s : List UInt8} : (tokS s).2.2 = 0 → (tokS s).1.kind ≠ 6 := by
  unfold tokS
  intro h
  repeat' split
  all_goals simp_all [feetS_kind, numS_kind, noTk]

def Tk.place (t : Tk) (ln col : Int) : Tk := ⟨t.kind, t.text, t.num, t.feet, ln, col⟩
theorem lineS_succ (n : Nat) (r : List UInt8) (ln col : Int) (out : List Tk) : lineS (n + 1) r ln col out =
    if r = [] ∨ pk r 0 = 37 then (out, col, 0)
    else if pk r 0 = 32 ∨ pk r 0 = 9 then lineS n (r.drop 1) ln (col + 1) out
    else if (tokS r).2.2 ≠ 0 then (out, col, (tokS r).2.2)
    else if out.length = 20000 then (out, col, 4)
    else lineS n (r.drop (tokS r).2.1.toNat) ln (col + (tokS r).2.1) (out ++ [(tokS r).1.place ln col]) := rfl
/-- The end of a line. -/
def endM (out : List Tk) (ln col : Int) : List Tk := match out.getLast? with
  | some t => if t.kind ≠ 6 then out ++ [⟨6, [10], 0, (0, 0), ln, col⟩] else out
  | none => out
def notNL (n : Int) : Bool := !decide (n = 10)
def scanM : Nat → List UInt8 → Int → Int → List Tk → List Tk × (Int × Int) × Int
  | 0, _, _, _, out => (out, (0, 0), 0)
  | f + 1, r, ln, col, out =>
    if r = [] then (endM out ln col, (0, 0), 0)
    else if pk r 0 = 10 then scanM f (r.drop 1) (ln + 1) 1 (endM out ln col)
    else if pk r 0 = 32 ∨ pk r 0 = 9 then scanM f (r.drop 1) ln (col + 1) out
    else if pk r 0 = 37 then scanM f (r.drop (spanN notNL r)) ln (col + (spanN notNL r : Int)) out
    else if (tokM r).2.2 ≠ 0 then ([], (ln, col), (tokM r).2.2)
    else scanM f (r.drop (tokM r).2.1.toNat) ln (col + (tokM r).2.1) (out ++ [(tokM r).1.place ln col])

theorem scanM_succ (f : Nat) (r : List UInt8) (ln col : Int) (out : List Tk) : scanM (f + 1) r ln col out =
    if r = [] then (endM out ln col, (0, 0), 0)
    else if pk r 0 = 10 then scanM f (r.drop 1) (ln + 1) 1 (endM out ln col)
    else if pk r 0 = 32 ∨ pk r 0 = 9 then scanM f (r.drop 1) ln (col + 1) out
    else if pk r 0 = 37 then scanM f (r.drop (spanN notNL r)) ln (col + (spanN notNL r : Int)) out
    else if (tokM r).2.2 ≠ 0 then ([], (ln, col), (tokM r).2.2)
    else scanM f (r.drop (tokM r).2.1.toNat) ln (col + (tokM r).2.1) (out ++ [(tokM r).1.place ln col]) := rfl
/-- One line. -/
theorem scanM_line {t : List UInt8} (ht : tl t) : ∀ (m : Nat) (r : List UInt8) (ln col : Int) (out : List Tk) (f : Nat), r.length < m → (∀ b ∈ r, b ≠ 10) → r.length + t.length < f → out.length + r.length < 20000 →
    ((lineS m r ln col out).2.2 ≠ 0 → scanM f (r ++ t) ln col out = ([], (ln, (lineS m r ln col out).2.1), (lineS m r ln col out).2.2)) ∧
    ((lineS m r ln col out).2.2 = 0 → (∃ f', t.length < f' ∧ scanM f (r ++ t) ln col out = scanM f' t ln (col + r.length) (lineS m r ln col out).1) ∧ (lineS m r ln col out).1.length ≤ out.length + r.length ∧
      ((lineS m r ln col out).1 = out ∨ ∃ o x, (lineS m r ln col out).1 = out ++ o ++ [x] ∧ x.kind ≠ 6))
  | 0, _, _, _, _, _, h, _, _, _ => absurd h (Nat.not_lt_zero _)
  | m + 1, r, ln, col, out, f, hm, hn, hf, hl => by
    rw [lineS_succ]
    by_cases c0 : r = []
    · subst c0
      rw [if_pos (.inl rfl)]
      refine ⟨fun h => absurd rfl h, fun _ => ⟨⟨f, by simpa using hf, by simp⟩, by simp, .inl rfl⟩⟩
    · have hr : 0 < r.length := List.length_pos_iff.2 c0
      have p0 : pk (r ++ t) 0 = pk r 0 := by rw [pk_at (by rw [List.length_append]; omega), pk_at hr, List.getElem_append_left hr]
      have hne : ¬ r ++ t = [] := by simp [c0]
      have p10 : ¬ pk r 0 = 10 := by
        rw [pk_at hr]
        intro h
        exact hn r[0] (List.getElem_mem hr) (u8_of (n := 10) (by omega))
      obtain ⟨f, rfl⟩ : ∃ g, f = g + 1 := ⟨f - 1, by omega⟩
      rw [scanM_succ]
      rw [if_neg hne, p0, if_neg p10]
      by_cases c1 : pk r 0 = 37
      · rw [if_pos (.inr c1), if_neg (by omega), if_pos c1]
        have hsp : spanN notNL (r ++ t) = r.length := by
          rw [spanN_tail (by decide) ht]
          have : ∀ l : List UInt8, (∀ b ∈ l, b ≠ 10) → spanN notNL l = l.length := by
            intro l
            induction l with
            | nil => intro _; rfl
            | cons b l ih =>
              intro h
              have hb : ¬ (b.toNat : Int) = 10 := fun h' => h b (by simp) (u8_of (n := 10) (by omega))
              rw [spanN_cons, if_pos (by simp [notNL, hb]), ih fun b hb => h b (by simp [hb])]
              rfl
          exact this r hn
        rw [hsp, drop_tail (Nat.le_refl _), List.drop_length, List.nil_append]
        have hft : t.length < f := by omega
        exact ⟨fun h => absurd rfl h, fun _ => ⟨⟨f, hft, rfl⟩, by simp, .inl rfl⟩⟩
      · rw [if_neg (by simp [c0, c1])]
        by_cases c2 : pk r 0 = 32 ∨ pk r 0 = 9
        · rw [if_pos c2, if_pos c2, drop_tail (by omega)]
          have hd : (r.drop 1).length = r.length - 1 := List.length_drop ..
          have ec : col + 1 + ((r.drop 1).length : Int) = col + (r.length : Int) := by rw [hd]; omega
          obtain ⟨h1, h2⟩ := scanM_line ht m (r.drop 1) ln (col + 1) out f (by omega) (fun b hb => hn b (List.mem_of_mem_drop hb)) (by omega) (by omega)
          refine ⟨h1, fun h => ?_⟩
          obtain ⟨⟨f', g1, g2⟩, g3, g4⟩ := h2 h
          refine ⟨⟨f', g1, ?_⟩, by omega, g4⟩
          rw [g2, ec]
        · rw [if_neg c2, if_neg c2, if_neg c1, tokM_tail ht hr hn]
          by_cases c3 : (tokS r).2.2 ≠ 0
          · rw [if_pos c3, if_pos c3]
            exact ⟨fun _ => rfl, fun h => absurd h c3⟩
          · rw [if_neg c3, if_neg c3, if_neg (by omega)]
            simp only [ne_eq, Decidable.not_not] at c3
            obtain ⟨q1, q2⟩ := tokS_pos hr c3
            obtain ⟨k, hk⟩ : ∃ k : Nat, (tokS r).2.1 = k := ⟨(tokS r).2.1.toNat, by omega⟩
            rw [hk] at q1 q2 ⊢
            rw [Int.toNat_natCast, drop_tail (by omega)]
            have hd : (r.drop k).length = r.length - k := List.length_drop ..
            have ec : col + (k : Int) + ((r.drop k).length : Int) = col + (r.length : Int) := by rw [hd]; omega
            obtain ⟨h1, h2⟩ := scanM_line ht m (r.drop k) ln (col + (k : Int)) (out ++ [(tokS r).1.place ln col]) f (by omega) (fun b hb => hn b (List.mem_of_mem_drop hb)) (by omega) (by rw [List.length_append, List.length_singleton]; omega)
            refine ⟨h1, fun h => ?_⟩
            obtain ⟨⟨f', g1, g2⟩, g3, g4⟩ := h2 h
            rw [List.length_append, List.length_singleton] at g3
            refine ⟨⟨f', g1, ?_⟩, by omega, .inr ?_⟩
            · rw [g2, ec]
            · rcases g4 with g4 | ⟨o, x, g4, g5⟩
              · exact ⟨[], (tokS r).1.place ln col, by rw [g4]; simp, tokS_kind c3⟩
              · exact ⟨(tokS r).1.place ln col :: o, x, by rw [g4]; simp, g5⟩

def joinNL : List (List UInt8) → List UInt8
  | [] => []
  | [l] => l
  | l :: x :: L => l ++ 10 :: joinNL (x :: L)
theorem joinNL_cons {b : UInt8} {x : List UInt8} {L : List (List UInt8)} : joinNL ((b :: x) :: L) = b :: joinNL (x :: L) := by cases L <;> simp [joinNL]
theorem join_split : ∀ s : List UInt8, joinNL (splitNL s) = s ∧ ∀ l ∈ splitNL s, ∀ b ∈ l, b ≠ 10
  | [] => by simp [splitNL, joinNL]
  | b :: r => by
    obtain ⟨h1, h2⟩ := join_split r
    unfold splitNL
    split
    · rename_i hb
      subst hb
      refine ⟨?_, fun l hl => ?_⟩
      · cases h : splitNL r with
        | nil => exact absurd h (splitNL_ne r)
        | cons x xs => rw [joinNL, ← h, h1]; rfl
      · rcases List.mem_cons.1 hl with rfl | hl
        · simp
        · exact h2 l hl
    · rename_i hb
      cases h : splitNL r with
      | nil => exact absurd h (splitNL_ne r)
      | cons x xs =>
        rw [h] at h1 h2
        simp only
        refine ⟨by rw [joinNL_cons, h1], fun l hl => ?_⟩
        rcases List.mem_cons.1 hl with rfl | hl
        · intro c hc
          rcases List.mem_cons.1 hc with rfl | hc
          · exact hb
          · exact h2 x (by simp) c hc
        · exact h2 l (by simp [hl])

theorem endM_line {out : List Tk} (h : out = [] ∨ ∃ o x, out = o ++ [x] ∧ x.kind = 6) (ln col : Int) : endM out ln col = out := by
  rcases h with rfl | ⟨o, x, rfl, hx⟩
  · rfl
  · simp [endM, hx]
theorem endM_tok {o : List Tk} {x : Tk} (hx : x.kind ≠ 6) (ln col : Int) : endM (o ++ [x]) ln col = o ++ [x] ++ [⟨6, [10], 0, (0, 0), ln, col⟩] := by simp [endM, hx]

/-- All lines. -/
theorem scanM_lines : ∀ (L : List (List UInt8)) (ln : Int) (out : List Tk) (f : Nat), L ≠ [] → (∀ l ∈ L, ∀ b ∈ l, b ≠ 10) → (joinNL L).length < f → out.length + (joinNL L).length + 1 < 20000 →
    (out = [] ∨ ∃ o x, out = o ++ [x] ∧ x.kind = 6) → scanM f (joinNL L) ln 1 out = scanL L ln out
  | [], _, _, _, h, _, _, _, _ => absurd rfl h
  | [l], ln, out, f, _, hn, hf, hl, ho => by
    have h0 := scanM_line (t := []) (.inl rfl) (l.length + 1) l ln 1 out f (by omega) (hn l (by simp)) (by simpa [joinNL] using hf) (by simp only [joinNL] at hl; omega)
    rw [List.append_nil] at h0
    simp only [joinNL] at hl ⊢
    obtain ⟨h1, h2⟩ := h0
    unfold scanL
    by_cases he : (lineS (l.length + 1) l ln 1 out).2.2 ≠ 0
    · rw [if_pos he]
      exact h1 he
    · rw [if_neg he]
      simp only [ne_eq, Decidable.not_not] at he
      obtain ⟨⟨f', g1, g2⟩, g3, g4⟩ := h2 he
      rw [g2]
      obtain ⟨f', rfl⟩ : ∃ g, f' = g + 1 := ⟨f' - 1, by simp only [List.length_nil] at g1; omega⟩
      rw [scanM_succ]
      rw [if_pos rfl]
      rcases g4 with g4 | ⟨o, x, g4, g5⟩
      · rw [g4, if_pos rfl, endM_line ho]
        rfl
      · have hne : ¬ (lineS (l.length + 1) l ln 1 out).1.length = out.length := by rw [g4]; simp
        rw [if_neg hne, if_neg (by omega), g4, endM_tok g5]
        simp only [scanL]
        rw [show (1 : Int) + (l.length : Int) = (l.length : Int) + 1 by omega]
  | l :: y :: L, ln, out, f, _, hn, hf, hl, ho => by
    have h0 := scanM_line (t := 10 :: joinNL (y :: L)) (.inr ⟨_, rfl⟩) (l.length + 1) l ln 1 out f (by omega) (hn l (by simp)) (by simpa [joinNL] using hf) (by simp only [joinNL, List.length_append, List.length_cons] at hl; omega)
    simp only [joinNL, List.length_append, List.length_cons] at hl
    have ej : joinNL (l :: y :: L) = l ++ 10 :: joinNL (y :: L) := rfl
    rw [ej]
    obtain ⟨h1, h2⟩ := h0
    unfold scanL
    by_cases he : (lineS (l.length + 1) l ln 1 out).2.2 ≠ 0
    · rw [if_pos he]
      exact h1 he
    · rw [if_neg he]
      simp only [ne_eq, Decidable.not_not] at he
      obtain ⟨⟨f', g1, g2⟩, g3, g4⟩ := h2 he
      rw [g2]
      obtain ⟨f', rfl⟩ : ∃ g, f' = g + 1 := ⟨f' - 1, by simp only [List.length_cons] at g1; omega⟩
      rw [List.length_cons] at g1
      rw [scanM_succ]
      rw [if_neg (by simp), if_pos (by simp [pk]), List.drop_succ_cons, List.drop_zero]
      have hn' : ∀ l ∈ y :: L, ∀ b ∈ l, b ≠ 10 := fun l hl => hn l (by simp [List.mem_cons.1 hl])
      rcases g4 with g4 | ⟨o, x, g4, g5⟩
      · rw [g4, if_pos rfl, endM_line ho]
        exact scanM_lines (y :: L) (ln + 1) out f' (by simp) hn' (by omega) (by omega) ho
      · have hne : ¬ (lineS (l.length + 1) l ln 1 out).1.length = out.length := by rw [g4]; simp
        rw [if_neg hne, if_neg (by omega), g4, endM_tok g5]
        rw [show (1 : Int) + (l.length : Int) = (l.length : Int) + 1 by omega]
        rw [g4] at g3
        exact scanM_lines (y :: L) (ln + 1) _ f' (by simp) hn' (by omega) (by rw [List.length_append, List.length_singleton]; omega) (.inr ⟨_, _, rfl, rfl⟩)

theorem scanM_eq {s : List UInt8} (h : s.length ≤ 10000) : scanM (s.length + 1) s 1 1 [] = scanS s := by
  obtain ⟨h1, h2⟩ := join_split s
  unfold scanS
  rw [if_neg (by omega)]
  have := scanM_lines (splitNL s) 1 [] (s.length + 1) (splitNL_ne s) h2 (by rw [h1]; omega) (by rw [h1]; simp only [List.length_nil]; omega) (.inl rfl)
  rw [h1] at this
  exact this
end Go.Kz

/-
  Layer 19: the model's scanner reads: peek, digits.
-/
namespace Go.Kz
open Go Go.Proofs

noncomputable def gPeek : List PD → Option PD
  | [.eptr [.str s, .int .i64 a, .int .i64 ln, .int .i64 col, o, .int .i64 f] 0, .int .i64 b] => gif (0 ≤ a ∧ a ≤ 100000 ∧ 0 ≤ b ∧ b ≤ 400000 ∧ o.idfree = true) (some (.int .u8 (pk s (a.toNat + b.toNat))))
  | _ => none
noncomputable def gDigits : List PD → Option PD
  | [.eptr [.str s, .int .i64 a, .int .i64 ln, .int .i64 col, o, .int .i64 f] 0, .int .i64 b] => gif (0 ≤ a ∧ a ≤ 100000 ∧ 0 ≤ b ∧ b ≤ 200000 ∧ s.length ≤ 100000 ∧ o.idfree = true) (some (.int .i64 (spanN digN (s.drop (a.toNat + b.toNat)))))
  | _ => none

/-- The cells of a scanner, as a reader sees them. -/
abbrev scC (s : List UInt8) (a : Nat) (ln col : Int) (o : PD) (f : Int) : List PD := [.str s, .int .i64 a, .int .i64 ln, .int .i64 col, o, .int .i64 f]

theorem peek_e {s : List UInt8} {a : Nat} {ln col f b : Int} {o : PD} {r : List UInt8} (hr : s.drop a = r) (ho : o.idfree = true) (ha : a ≤ 100000) (h0 : 0 ≤ b) (h1 : b ≤ 400000) (fl : Nat) (σ : List SObj) :
    rentry gPeek fl [.eptr (scC s a ln col o f) 0, .int .i64 b] σ = some (.int .u8 (pk r b.toNat), σ) := by
  subst hr
  have e : preadArgs σ [.eptr (scC s a ln col o f) 0, .int .i64 b] = some [.eptr (scC s a ln col o f) 0, .int .i64 b] := by simp [preadArgs, preadArg]
  simp only [rentry, e, gPeek]
  rw [gif_pos ⟨by omega, by omega, h0, h1, ho⟩]
  simp [pk_drop]
theorem digits_e {s : List UInt8} {a : Nat} {ln col f b : Int} {o : PD} {r : List UInt8} (hr : s.drop a = r) (ho : o.idfree = true) (ha : a ≤ 100000) (hs : s.length ≤ 100000) (h0 : 0 ≤ b) (h1 : b ≤ 200000) (fl : Nat) (σ : List SObj) :
    rentry gDigits fl [.eptr (scC s a ln col o f) 0, .int .i64 b] σ = some (.int .i64 (spanN digN (r.drop b.toNat)), σ) := by
  subst hr
  have e : preadArgs σ [.eptr (scC s a ln col o f) 0, .int .i64 b] = some [.eptr (scC s a ln col o f) 0, .int .i64 b] := by simp [preadArgs, preadArg]
  simp only [rentry, e, gDigits]
  rw [gif_pos ⟨by omega, by omega, h0, h1, hs, ho⟩]
  simp

variable {E : PExt} (hU : Uni E)
include hU
set_option maxRecDepth 10000
set_option maxHeartbeats 4000000

theorem r_peek (h0 : E 72 = none) (s : List UInt8) (a b : Nat) (ln col f : Int) (o : PD) (ha : a ≤ 100000) (hb : b ≤ 400000) :
    Run Tryd.prog E 72 [.eptr (scC s a ln col o f) 0, .int .i64 b] (.int .u8 (pk s (a + b))) := by
  apply Run.bodyL h0 Tryd.func72 rfl
  focus (simp [show Tryd.f72.ntmps = _ from rfl, List.replicate]; rfl)
  by_cases hl : a + b < s.length
  · have q1 : (a : Int) + (b : Int) < (s.length : Int) := by omega
    have hpk := pk_at hl
    have gx := And.intro @q1 (@hl)
    refine goA ?_
    clear gx
    have e : ((a : Int) + (b : Int)).toNat = a + b := by omega
    simp (disch := first | omega | (simp; done) | (simp; omega)) [decide_eq_decide, hpk, e] <;> try rfl
  · have q1 : ¬ (a : Int) + (b : Int) < (s.length : Int) := by omega
    have hpk := pk_end (show s.length ≤ a + b by omega)
    have gx := @q1
    refine goA ?_
    clear gx
    simp (disch := first | omega | (simp; done) | (simp; omega)) [decide_eq_decide, hpk] <;> try rfl
theorem r_digits (h0 : E 75 = none) (h1 : E 72 = some (rentry gPeek)) (h2 : E 74 = some (entry (gf1 u8 .bool fun n => some (digN n))))
    (s : List UInt8) (a b : Nat) (ln col f : Int) (o : PD) (ho : o.idfree = true) (ha : a ≤ 100000) (hb : b ≤ 200000) (hs : s.length ≤ 100000) :
    Run Tryd.prog E 75 [.eptr (scC s a ln col o f) 0, .int .i64 b] (.int .i64 (spanN digN (s.drop (a + b)))) := by
  obtain ⟨r, hr⟩ : ∃ r, s.drop a = r := ⟨_, rfl⟩
  have hrd : s.drop (a + b) = r.drop b := by rw [← hr, List.drop_drop]
  rw [hrd]
  obtain ⟨N, hN⟩ : ∃ N, spanN digN (r.drop b) = N := ⟨_, rfl⟩
  have hNl := spanN_le digN (r.drop b)
  have hrl := congrArg List.length hr
  rw [List.length_drop] at hrl hNl
  rw [hN] at hNl ⊢
  apply Run.bodyL h0 Tryd.func75 rfl
  focus (simp [show Tryd.f75.ntmps = _ from rfl, List.replicate]; rfl)
  have gx := True.intro
  refine goA ?_
  clear gx
  refine Wp.loopI (fun m fr σ => ∃ (i : Nat), ∃ gg : Nat → PD, (i + m = r.length ∧ i ≤ N) ∧ fr = [.eptr (scC s a ln col o f) 0, .int .i64 b, gg 2, gg 3, .int .i64 0, .int .i64 i, gg 6, gg 7, gg 8, gg 9, gg 10, gg 11, gg 12, gg 13, gg 14] ∧ σ = []) ?_ (r.length) (by refine ⟨0, ?_⟩; exact exF (⟨by omega, by omega⟩) (by (first | rfl | (simp []; repeat (first | rfl | (apply And.intro))) | (simp []; done))) (by (first | rfl | (simp []; repeat (first | rfl | (apply And.intro))) | (simp []; done))))
  rintro m fr σ ⟨i, gg, hI, rfl, rfl⟩
  obtain ⟨hm, hi⟩ := hI
  have hpe := peek_e (ln := ln) (col := col) (f := f) (b := (b : Int) + (i : Int)) hr ho ha (by omega) (by omega)
  have e1 : ((b : Int) + (i : Int)).toNat = b + i := by omega
  rw [e1] at hpe
  have hat : digN (pk r (b + i)) = decide (i < N) := by
    by_cases hl : b + i < r.length
    · have h3 := spanN_at digN (r.drop b) i (by rw [hN]; exact hi) (by rw [List.length_drop]; omega)
      rw [hN] at h3
      have h4 : (r.drop b)[i]'(by rw [List.length_drop]; omega) = r[b + i] := by simp
      rw [h4, ← pk_at hl] at h3
      cases hd : digN (pk r (b + i)) with
      | true => rw [hd] at h3; simp at h3; simp [h3]
      | false => rw [hd] at h3; simp at h3; simp; omega
    · rw [pk_end (by omega)]
      have : ¬ i < N := by omega
      simp [this]
      decide
  by_cases hc : i < N
  · rw [decide_eq_true hc] at hat
    have gx := And.intro @h1 (And.intro @h2 (And.intro @hpe (@hat)))
    refine goA ?_
    clear gx
    refine LoopI.normal (m - 1) (by omega) (by refine ⟨i + 1, ?_⟩; exact exF (⟨by omega, by omega⟩) (by (first | rfl | (simp []; repeat (first | rfl | (apply And.intro))) | (simp []; done))) (by (first | rfl | (simp []; repeat (first | rfl | (apply And.intro))) | (simp []; done))))
  · rw [decide_eq_false hc] at hat
    have he : i = N := by omega
    have gx := And.intro @h1 (And.intro @h2 (And.intro @hpe (@hat)))
    refine goA ?_
    clear gx
    simp (disch := first | omega | (simp; done) | (simp; omega)) [decide_eq_decide, he] <;> try rfl
end Go.Kz

/-
  Layer 19: the model's feet.
-/
namespace Go.Kz
open Go Go.Proofs

theorem span_zero {p : Int → Bool} (hp : p 0 = false) {r : List UInt8} : (spanN p r = 0) = (p (pk r 0) = false) := by
  cases r with
  | nil => simp [spanN, pk, hp]
  | cons b r =>
    rw [spanN_cons]
    have : pk (b :: r) 0 = b.toNat := by simp [pk]
    rw [this]
    cases h : p (b.toNat : Int) <;> simp

noncomputable def gFeet : List PD → Option PD
  | [.eptr [.str s, .int .i64 a, .int .i64 ln, .int .i64 col, o, .int .i64 f] 0] => gif (0 ≤ a ∧ a ≤ s.length ∧ s.length ≤ 50000 ∧ o.idfree = true) (some ((i64.tup2 Em.parts).emb (partsF (s.drop a.toNat))))
  | _ => none
theorem feet_e {s : List UInt8} {a : Nat} {ln col f : Int} {o : PD} {r : List UInt8} (hr : s.drop a = r) (ho : o.idfree = true) (ha : a ≤ s.length) (hs : s.length ≤ 50000) (fl : Nat) (σ : List SObj) :
    rentry gFeet fl [.eptr (scC s a ln col o f) 0] σ = some ((i64.tup2 Em.parts).emb (partsF r), σ) := by
  subst hr
  have e : preadArgs σ [.eptr (scC s a ln col o f) 0] = some [.eptr (scC s a ln col o f) 0] := by simp [preadArgs, preadArg]
  simp only [rentry, e, gFeet]
  rw [gif_pos ⟨by omega, by omega, hs, ho⟩]
  simp

variable {E : PExt} (hU : Uni E)
include hU
set_option maxRecDepth 10000
set_option maxHeartbeats 4000000

theorem r_feetM (h0 : E 61 = none) (h1 : E 72 = some (rentry gPeek)) (h2 : E 75 = some (rentry gDigits))
    (s : List UInt8) (t : Nat) (ln col f : Int) (o : PD) (ho : o.idfree = true) (ht : t ≤ s.length) (hs : s.length ≤ 50000) :
    Run Tryd.prog E 61 [.eptr (scC s t ln col o f) 0] ((i64.tup2 Em.parts).emb (partsF (s.drop t))) := by
  obtain ⟨r, hr⟩ : ∃ r, s.drop t = r := ⟨_, rfl⟩
  rw [hr]
  have hrl := congrArg List.length hr
  rw [List.length_drop] at hrl
  obtain ⟨a, ha⟩ : ∃ a, spanN digN r = a := ⟨_, rfl⟩
  have hal := spanN_le digN r
  rw [ha] at hal
  have pe := fun (b : Int) h0 h1 => peek_e (ln := ln) (col := col) (f := f) (b := b) hr ho (by omega) h0 h1
  have de := fun (b : Int) h0 h1 => digits_e (ln := ln) (col := col) (f := f) (b := b) hr ho (by omega) (by omega) h0 h1
  have hz := span_zero (p := digN) (by decide) (r := r)
  rw [ha] at hz
  have d0 := de 0 (by omega) (by omega)
  rw [show (0 : Int).toNat = 0 from rfl, List.drop_zero, ha] at d0
  have p0 := pe (a : Int) (by omega) (by omega)
  rw [Int.toNat_natCast] at p0
  by_cases a0 : a = 0
  · have hp : partsF r = (0, [], [], []) := by
      unfold partsF
      have : digN (pk r 0) = false := by rw [← hz]; exact a0
      rw [this]
      rfl
    subst a0
    apply Run.bodyL h0 Tryd.func61 rfl
    focus (simp [show Tryd.f61.ntmps = _ from rfl, List.replicate]; rfl)
    have gx := And.intro @h2 (@d0)
    refine goA ?_
    clear gx
    simp (disch := first | omega | (simp; done) | (simp; omega)) [decide_eq_decide, hp] <;> try rfl
  · have hd : digN (pk r 0) = true := by
      cases h : digN (pk r 0) with
      | true => rfl
      | false => rw [h] at hz; simp at hz; exact absurd hz a0
    have hpF : partsF r = ((partsS r).2, (partsS r).1) := by unfold partsF; rw [if_pos hd]
    have a0' : ¬ (a : Int) = 0 := by omega
    have ta : ((t : Int) + (a : Int)).toNat = t + a := by omega
    by_cases c1 : pk r a = 39
    · have hp : partsF r = ((a : Int) + 1, r.take a, [], []) := by
        rw [hpF]
        unfold partsS
        simp only [ha, c1, if_true]
      apply Run.bodyL h0 Tryd.func61 rfl
      focus (simp [show Tryd.f61.ntmps = _ from rfl, List.replicate]; rfl)
      have gx := And.intro @h1 (And.intro @h2 (And.intro @d0 (And.intro @p0 (And.intro @a0 (And.intro @a0' (And.intro @c1 (And.intro @ta (@hr))))))))
      refine goA ?_
      clear gx
      simp (disch := first | omega | (simp; done) | (simp; omega)) [decide_eq_decide, hp] <;> try rfl
    · have c1' : ¬ (pk r a : Int) = 39 := by omega
      by_cases c2 : pk r a = 47
      · have hlt := lt_of_pk c2 (by decide)
        obtain ⟨b, hb⟩ : ∃ b, spanN digN (r.drop (a + 1)) = b := ⟨_, rfl⟩
        have hbl := spanN_le digN (r.drop (a + 1))
        rw [hb, List.length_drop] at hbl
        have d1 := de ((a : Int) + 1) (by omega) (by omega)
        rw [show ((a : Int) + 1).toNat = a + 1 by omega, hb] at d1
        have p1 := pe ((a : Int) + 1 + (b : Int)) (by omega) (by omega)
        rw [show ((a : Int) + 1 + (b : Int)).toNat = a + 1 + b by omega] at p1
        have hS : partsS r = if b ≠ 0 ∧ pk r (a + 1 + b) = 39 then (([], r.take a, (r.drop (a + 1)).take b), (a : Int) + 1 + b + 1) else noParts := by
          unfold partsS
          simp only [ha, c1, c2, hb, if_true, if_false]
          rw [if_neg (by decide), if_neg (by decide)]
        by_cases b0 : b = 0
        · have hp : partsF r = (0, [], [], []) := by
            rw [hpF, hS, if_neg (fun h => h.1 b0)]
            rfl
          subst b0
          apply Run.bodyL h0 Tryd.func61 rfl
          focus (simp [show Tryd.f61.ntmps = _ from rfl, List.replicate]; rfl)
          have gx := And.intro @h1 (And.intro @h2 (And.intro @d0 (And.intro @p0 (And.intro @d1 (And.intro @a0 (And.intro @a0' (And.intro @c1' (@c2))))))))
          refine goA ?_
          clear gx
          simp (disch := first | omega | (simp; done) | (simp; omega)) [decide_eq_decide, hp] <;> try rfl
        · have b0' : ¬ (b : Int) = 0 := by omega
          have b1' : 0 < (b : Int) := by omega
          have b1 : 0 < b := by omega
          by_cases c3 : pk r (a + 1 + b) = 39
          · have hlt3 := lt_of_pk c3 (by decide)
            have hp : partsF r = ((a : Int) + b + 2, [], r.take a, (r.drop (a + 1)).take b) := by
              rw [hpF, hS, if_pos ⟨b0, c3⟩]
              simp only [Prod.mk.injEq, and_true]
              omega
            have hdd : s.drop (t + (a + 1)) = r.drop (a + 1) := by rw [← hr, List.drop_drop]
            have tb : ((t : Int) + (a : Int) + 1).toNat = t + (a + 1) := by omega
            have tc : ((t : Int) + (a : Int) + 1 + (b : Int)).toNat = t + (a + 1) + b := by omega
            apply Run.bodyL h0 Tryd.func61 rfl
            focus (simp [show Tryd.f61.ntmps = _ from rfl, List.replicate]; rfl)
            have gx := And.intro @h1 (And.intro @h2 (And.intro @d0 (And.intro @p0 (And.intro @d1 (And.intro @p1 (And.intro @a0 (And.intro @a0' (And.intro @c1' (And.intro @c2 (And.intro @b0 (And.intro @b0' (And.intro @b1 (And.intro @b1' (And.intro @c3 (And.intro @ta (And.intro @tb (And.intro @tc (And.intro @hr (@hdd)))))))))))))))))))
            refine goA ?_
            clear gx
            simp (disch := first | omega | (simp; done) | (simp; omega)) [decide_eq_decide, hp] <;> try rfl
          · have c3' : ¬ (pk r (a + 1 + b) : Int) = 39 := by omega
            have hp : partsF r = (0, [], [], []) := by
              rw [hpF, hS, if_neg (fun h => c3 h.2)]
              rfl
            apply Run.bodyL h0 Tryd.func61 rfl
            focus (simp [show Tryd.f61.ntmps = _ from rfl, List.replicate]; rfl)
            have gx := And.intro @h1 (And.intro @h2 (And.intro @d0 (And.intro @p0 (And.intro @d1 (And.intro @p1 (And.intro @a0 (And.intro @a0' (And.intro @c1' (And.intro @c2 (And.intro @b0 (And.intro @b0' (And.intro @b1 (And.intro @b1' (@c3'))))))))))))))
            refine goA ?_
            clear gx
            simp (disch := first | omega | (simp; done) | (simp; omega)) [decide_eq_decide, hp] <;> try rfl
      · have c2' : ¬ (pk r a : Int) = 47 := by omega
        by_cases c4 : pk r a = 45
        · have hlt := lt_of_pk c4 (by decide)
          obtain ⟨b, hb⟩ : ∃ b, spanN digN (r.drop (a + 1)) = b := ⟨_, rfl⟩
          have hbl := spanN_le digN (r.drop (a + 1))
          rw [hb, List.length_drop] at hbl
          obtain ⟨d, hd2⟩ : ∃ d, spanN digN (r.drop (a + 1 + b + 1)) = d := ⟨_, rfl⟩
          have hdl := spanN_le digN (r.drop (a + 1 + b + 1))
          rw [hd2, List.length_drop] at hdl
          have d1 := de ((a : Int) + 1) (by omega) (by omega)
          rw [show ((a : Int) + 1).toNat = a + 1 by omega, hb] at d1
          have p1 := pe ((a : Int) + 1 + (b : Int)) (by omega) (by omega)
          rw [show ((a : Int) + 1 + (b : Int)).toNat = a + 1 + b by omega] at p1
          have d2 := de ((a : Int) + (b : Int) + 2) (by omega) (by omega)
          rw [show ((a : Int) + (b : Int) + 2).toNat = a + 1 + b + 1 by omega, hd2] at d2
          have p2 := pe ((a : Int) + (b : Int) + (d : Int) + 2) (by omega) (by omega)
          rw [show ((a : Int) + (b : Int) + (d : Int) + 2).toNat = a + 1 + b + 1 + d by omega] at p2
          have hS : partsS r = if b ≠ 0 ∧ pk r (a + 1 + b) = 47 ∧ d ≠ 0 ∧ pk r (a + 1 + b + 1 + d) = 39 then ((r.take a, (r.drop (a + 1)).take b, (r.drop (a + 1 + b + 1)).take d), (a : Int) + 1 + b + 1 + d + 1) else noParts := by
            unfold partsS
            simp only [ha, c1, c4, hb, hd2, if_true, if_false]
            rw [if_neg (by decide)]
          by_cases b0 : b = 0
          · have hp : partsF r = (0, [], [], []) := by
              rw [hpF, hS, if_neg (fun h => h.1 b0)]
              rfl
            subst b0
            apply Run.bodyL h0 Tryd.func61 rfl
            focus (simp [show Tryd.f61.ntmps = _ from rfl, List.replicate]; rfl)
            have gx := And.intro @h1 (And.intro @h2 (And.intro @d0 (And.intro @p0 (And.intro @d1 (And.intro @a0 (And.intro @a0' (And.intro @c1' (And.intro @c2' (@c4)))))))))
            refine goA ?_
            clear gx
            simp (disch := first | omega | (simp; done) | (simp; omega)) [decide_eq_decide, hp] <;> try rfl
          · have b0' : ¬ (b : Int) = 0 := by omega
            by_cases c3 : pk r (a + 1 + b) = 47
            · have hlt3 := lt_of_pk c3 (by decide)
              by_cases g0 : d = 0
              · have hp : partsF r = (0, [], [], []) := by
                  rw [hpF, hS, if_neg (fun h => h.2.2.1 g0)]
                  rfl
                subst g0
                apply Run.bodyL h0 Tryd.func61 rfl
                focus (simp [show Tryd.f61.ntmps = _ from rfl, List.replicate]; rfl)
                have gx := And.intro @h1 (And.intro @h2 (And.intro @d0 (And.intro @p0 (And.intro @d1 (And.intro @p1 (And.intro @d2 (And.intro @a0 (And.intro @a0' (And.intro @c1' (And.intro @c2' (And.intro @c4 (And.intro @b0 (And.intro @b0' (@c3))))))))))))))
                refine goA ?_
                clear gx
                simp (disch := first | omega | (simp; done) | (simp; omega)) [decide_eq_decide, hp] <;> try rfl
              · have g1' : 0 < (d : Int) := by omega
                have g1 : 0 < d := by omega
                by_cases c5 : pk r (a + 1 + b + 1 + d) = 39
                · have hlt5 := lt_of_pk c5 (by decide)
                  have hp : partsF r = ((a : Int) + b + d + 3, r.take a, (r.drop (a + 1)).take b, (r.drop (a + 1 + b + 1)).take d) := by
                    rw [hpF, hS, if_pos ⟨b0, c3, g0, c5⟩]
                    simp only [Prod.mk.injEq, and_true]
                    omega
                  have hdd : s.drop (t + (a + 1)) = r.drop (a + 1) := by rw [← hr, List.drop_drop]
                  have hdd2 : s.drop (t + (a + 1 + b + 1)) = r.drop (a + 1 + b + 1) := by rw [← hr, List.drop_drop]
                  have tb : ((t : Int) + (a : Int) + 1).toNat = t + (a + 1) := by omega
                  have tc : ((t : Int) + (a : Int) + 1 + (b : Int)).toNat = t + (a + 1) + b := by omega
                  have td : ((t : Int) + (a : Int) + 1 + (b : Int) + 1).toNat = t + (a + 1 + b + 1) := by omega
                  have te : ((t : Int) + (a : Int) + 1 + (b : Int) + 1 + (d : Int)).toNat = t + (a + 1 + b + 1) + d := by omega
                  apply Run.bodyL h0 Tryd.func61 rfl
                  focus (simp [show Tryd.f61.ntmps = _ from rfl, List.replicate]; rfl)
                  have gx := And.intro @h1 (And.intro @h2 (And.intro @d0 (And.intro @p0 (And.intro @d1 (And.intro @p1 (And.intro @d2 (And.intro @p2 (And.intro @a0 (And.intro @a0' (And.intro @c1' (And.intro @c2' (And.intro @c4 (And.intro @b0 (And.intro @b0' (And.intro @c3 (And.intro @g0 (And.intro @g1 (And.intro @g1' (And.intro @c5 (And.intro @ta (And.intro @tb (And.intro @tc (And.intro @td (And.intro @te (And.intro @hr (And.intro @hdd (@hdd2)))))))))))))))))))))))))))
                  refine goA ?_
                  clear gx
                  simp (disch := first | omega | (simp; done) | (simp; omega)) [decide_eq_decide, hp] <;> try rfl
                · have c5' : ¬ (pk r (a + 1 + b + 1 + d) : Int) = 39 := by omega
                  have hp : partsF r = (0, [], [], []) := by
                    rw [hpF, hS, if_neg (fun h => c5 h.2.2.2)]
                    rfl
                  apply Run.bodyL h0 Tryd.func61 rfl
                  focus (simp [show Tryd.f61.ntmps = _ from rfl, List.replicate]; rfl)
                  have gx := And.intro @h1 (And.intro @h2 (And.intro @d0 (And.intro @p0 (And.intro @d1 (And.intro @p1 (And.intro @d2 (And.intro @p2 (And.intro @a0 (And.intro @a0' (And.intro @c1' (And.intro @c2' (And.intro @c4 (And.intro @b0 (And.intro @b0' (And.intro @c3 (And.intro @g0 (And.intro @g1 (And.intro @g1' (@c5')))))))))))))))))))
                  refine goA ?_
                  clear gx
                  simp (disch := first | omega | (simp; done) | (simp; omega)) [decide_eq_decide, hp] <;> try rfl
            · have c3' : ¬ (pk r (a + 1 + b) : Int) = 47 := by omega
              have hp : partsF r = (0, [], [], []) := by
                rw [hpF, hS, if_neg (fun h => c3 h.2.1)]
                rfl
              apply Run.bodyL h0 Tryd.func61 rfl
              focus (simp [show Tryd.f61.ntmps = _ from rfl, List.replicate]; rfl)
              have gx := And.intro @h1 (And.intro @h2 (And.intro @d0 (And.intro @p0 (And.intro @d1 (And.intro @p1 (And.intro @a0 (And.intro @a0' (And.intro @c1' (And.intro @c2' (And.intro @c4 (And.intro @b0 (And.intro @b0' (@c3')))))))))))))
              refine goA ?_
              clear gx
              simp (disch := first | omega | (simp; done) | (simp; omega)) [decide_eq_decide, hp] <;> try rfl
        · have c4' : ¬ (pk r a : Int) = 45 := by omega
          have hp : partsF r = (0, [], [], []) := by
            rw [hpF]
            unfold partsS
            simp only [ha, c1, c2, c4, if_false]
            rfl
          apply Run.bodyL h0 Tryd.func61 rfl
          focus (simp [show Tryd.f61.ntmps = _ from rfl, List.replicate]; rfl)
          have gx := And.intro @h1 (And.intro @h2 (And.intro @d0 (And.intro @p0 (And.intro @a0 (And.intro @a0' (And.intro @c1' (And.intro @c2' (@c4'))))))))
          refine goA ?_
          clear gx
          simp (disch := first | omega | (simp; done) | (simp; omega)) [decide_eq_decide, hp] <;> try rfl
end Go.Kz

/-
  Layer 19: the model's numbers and fractions.
-/
namespace Go.Kz
open Go Go.Proofs

/-- The error of a fraction that is not negative. -/
def checkF (n d : Nat) : Int := if d = 0 ∨ 1000000 < d ∨ 1000000 < n ∨ n.gcd d ≠ 1 then 2 else 0
/-- The fraction of some parts, and its text. -/
def quoM (p : Parts) : Frac × List UInt8 × Bool := if (feetS p).2 = 0 then ((feetS p).1.feet, (feetS p).1.text, true) else ((0, 0), [], false)
/-- The number of a text. -/
def numM (s : List UInt8) : Int × Bool := (if pk s 0 = 45 then -(valR (s.drop 1) 1000000000) else valR s 1000000000, decide (0 ≤ valR (if pk s 0 = 45 then s.drop 1 else s) 1000000000))

theorem numM_ok {s : List UInt8} (hs : 0 < s.length) : if (numS s).2 = 0 then numM s = ((numS s).1.num, true) else (numM s).2 = false := by
  have ht : Lib.trimPrefix s [45] = if pk s 0 = 45 then s.drop 1 else s := by
    match s, hs with
    | b :: r, _ =>
      have e : pk (b :: r) 0 = b.toNat := by simp [pk]
      rw [e]
      by_cases hb : b = 45
      · subst hb
        simp [Lib.trimPrefix, Lib.hasPrefix, List.isPrefixOf]
      · have hb' : ¬ b.toNat = 45 := fun h => hb (u8_of (n := 45) h)
        rw [if_neg hb']
        have : (45 == b) = false := by
          simp only [beq_eq_false_iff_ne, ne_eq]
          exact fun h => hb h.symm
        simp [Lib.trimPrefix, Lib.hasPrefix, List.isPrefixOf, this]
  unfold numS numM valR
  rw [ht]
  by_cases hc : pk s 0 = 45
  · simp only [hc, if_true]
    by_cases hv : 1000000000 < valN (s.drop 1)
    · have : ¬ (valN (s.drop 1) : Int) ≤ 1000000000 := by omega
      rw [if_pos hv, if_neg this]
      simp
    · have : (valN (s.drop 1) : Int) ≤ 1000000000 := by omega
      rw [if_neg hv, if_pos this]
      simp
  · simp only [hc, if_false]
    by_cases hv : 1000000000 < valN s
    · have : ¬ (valN s : Int) ≤ 1000000000 := by omega
      rw [if_pos hv, if_neg this]
      simp
    · have : (valN s : Int) ≤ 1000000000 := by omega
      rw [if_neg hv, if_pos this]
      simp

theorem allDig_pre {s : List UInt8} (h : allDig s) (hs : 0 < s.length) : ¬ pk s 0 = 45 := by
  have := allDig_at h hs
  rw [pk_at hs]
  omega

variable {E : PExt} (hU : Uni E)
include hU
set_option maxRecDepth 10000
set_option maxHeartbeats 4000000

theorem r_numberM (h0 : E 59 = none)
    (h1 : E 76 = some (entry (gf2 .text i64 i64 fun s m => gif (allDig s ∧ 0 ≤ m ∧ m ≤ 2000000000 ∧ (s.length : Int) < 4000000000) (some (valR s m)))))
    (s : List UInt8) (hs : 0 < s.length) (hd : allDig (if pk s 0 = 45 then s.drop 1 else s)) (hl : (s.length : Int) < 4000000000) : Run Tryd.prog E 59 [.str s] ((i64.tup2 .bool).emb (numM s)) := by
  have hpk := pk_at hs
  apply Run.bodyL h0 Tryd.func59 rfl
  focus (simp [show Tryd.f59.ntmps = _ from rfl, List.replicate]; rfl)
  by_cases hc : pk s 0 = 45
  · have hq : (s[0].toNat : Int) = 45 := by omega
    rw [if_pos hc] at hd
    have hld : ((s.drop 1).length : Int) < 4000000000 := by rw [List.length_drop]; omega
    obtain ⟨t, ht⟩ : ∃ t, s.drop 1 = t := ⟨_, rfl⟩
    have ht2 : s.tail = t := by rw [← ht]; simp
    have htl : t.take (s.length - 1) = t := by rw [← ht]; exact List.take_of_length_le (by simp)
    have hn : numM s = (-(valR t 1000000000), decide (0 ≤ valR t 1000000000)) := by
      unfold numM
      simp only [hc, if_true, ht]
    rw [ht] at hd hld
    obtain ⟨v, hv⟩ : ∃ v, valR t 1000000000 = v := ⟨_, rfl⟩
    have hvb : -1 ≤ v ∧ v ≤ 1000000000 := by
      rw [← hv]
      unfold valR
      split <;> omega
    rw [hv] at hn
    have hw : IntKind.i64.wrap (-1 * v) = -v := by rw [wrap_i64 (by omega) (by omega)]; omega
    have hw2 : IntKind.i64.wrap (-v) = -v := wrap_i64 (by omega) (by omega)
    have gx := And.intro @h1 (And.intro @hs (And.intro @hq (And.intro @ht (And.intro @ht2 (And.intro @htl (And.intro @hd (And.intro @hld (And.intro @hv (And.intro @hw (@hw2))))))))))
    refine goA ?_
    clear gx
    simp (disch := first | omega | (simp; done) | (simp; omega)) [decide_eq_decide, hn] <;> try rfl
  · have hq : ¬ (s[0].toNat : Int) = 45 := by omega
    rw [if_neg hc] at hd
    have hn : numM s = (valR s 1000000000, decide (0 ≤ valR s 1000000000)) := by
      unfold numM
      simp only [hc, if_false]
    obtain ⟨v, hv⟩ : ∃ v, valR s 1000000000 = v := ⟨_, rfl⟩
    have hvb : -1 ≤ v ∧ v ≤ 1000000000 := by
      rw [← hv]
      unfold valR
      split <;> omega
    rw [hv] at hn
    have hw : IntKind.i64.wrap (1 * v) = v := by rw [wrap_i64 (by omega) (by omega)]; omega
    have hw2 : IntKind.i64.wrap v = v := wrap_i64 (by omega) (by omega)
    have gx := And.intro @h1 (And.intro @hs (And.intro @hq (And.intro @hd (And.intro @hl (And.intro @hv (And.intro @hw (@hw2)))))))
    refine goA ?_
    clear gx
    simp (disch := first | omega | (simp; done) | (simp; omega)) [decide_eq_decide, hn] <;> try rfl

theorem r_gcdM (h0 : E 78 = none) (a b : Nat) (ha : (a : Int) ≤ 9223372036854775807) (hb : (b : Int) ≤ 9223372036854775807) : Run Tryd.prog E 78 [.int .i64 a, .int .i64 b] (.int .i64 (a.gcd b)) := by
  apply Run.bodyL h0 Tryd.func78 rfl
  focus (simp [show Tryd.f78.ntmps = _ from rfl, List.replicate]; rfl)
  have gx := True.intro
  refine goA ?_
  clear gx
  refine Wp.loopI (fun m fr σ => ∃ (x y : Nat), ∃ gg : Nat → PD, (m = y ∧ x.gcd y = a.gcd b ∧ (x : Int) ≤ 9223372036854775807 ∧ (y : Int) ≤ 9223372036854775807) ∧ fr = [.int .i64 x, .int .i64 y, gg 2, gg 3, gg 4, gg 5, gg 6, gg 7, gg 8, gg 9, gg 10, gg 11] ∧ σ = []) ?_ (b) (by refine ⟨a, b, ?_⟩; exact exF (⟨rfl, rfl, ha, hb⟩) (by (first | rfl | (simp []; repeat (first | rfl | (apply And.intro))) | (simp []; done))) (by (first | rfl | (simp []; repeat (first | rfl | (apply And.intro))) | (simp []; done))))
  rintro m fr σ ⟨x, y, gg, hI, rfl, rfl⟩
  obtain ⟨hm, hg, hx, hy⟩ := hI
  by_cases h1 : y = 0
  · have q1 : ¬ 0 < (y : Int) := by omega
    have q2 : ¬ 0 < y := by omega
    subst h1
    rw [Nat.gcd_zero_right] at hg
    have gx := And.intro @q1 (@q2)
    refine goA ?_
    clear gx
    simp (disch := first | omega | (simp; done) | (simp; omega)) [decide_eq_decide, hg] <;> try rfl
  · have q1 : 0 < (y : Int) := by omega
    have q2 : 0 < y := by omega
    have hlt := Nat.mod_lt x q2
    have hr : (x : Int) % (y : Int) = ((x % y : Nat) : Int) := by omega
    have hr2 : (x : Int).tmod (y : Int) = ((x % y : Nat) : Int) := by rw [Int.tmod_eq_emod_of_nonneg (by omega)]; exact hr
    obtain ⟨z, hz⟩ : ∃ z, x % y = z := ⟨_, rfl⟩
    have hgn : y.gcd z = a.gcd b := by rw [← hz, ← hg, Nat.gcd_comm x y, Nat.gcd_rec y x, Nat.gcd_comm]
    rw [hz] at hr hr2 hlt
    have gx := And.intro @q1 (And.intro @q2 (And.intro @h1 (And.intro @hr (@hr2))))
    refine goA ?_
    clear gx
    refine LoopI.normal (z) (by omega) (by refine ⟨y, z, ?_⟩; exact exF (⟨rfl, hgn, hy, by omega⟩) (by (first | rfl | (simp []; repeat (first | rfl | (apply And.intro))) | (simp []; done))) (by (first | rfl | (simp []; repeat (first | rfl | (apply And.intro))) | (simp []; done))))

theorem r_Check (h0 : E 79 = none) (h1 : E 84 = some (entry (gf1 i64 u64 fun n => gif (0 ≤ n ∧ n ≤ 9223372036854775807) (some n))))
    (h2 : E 85 = some (entry (gf2 u64 u64 u64 fun a b => gif (0 ≤ a ∧ a ≤ 9223372036854775807 ∧ 0 ≤ b ∧ b ≤ 9223372036854775807) (some (a.toNat.gcd b.toNat : Nat)))))
    (n d : Nat) (hn : (n : Int) ≤ 9000000000000000000) (hd : (d : Int) ≤ 9000000000000000000) : Run Tryd.prog E 79 [.agg [.int .i64 n, .int .i64 d]] (.int .i64 (checkF n d)) := by
  apply Run.bodyL h0 Tryd.func79 rfl
  focus (simp [show Tryd.f79.ntmps = _ from rfl, List.replicate]; rfl)
  by_cases c1 : d = 0
  · subst c1
    have gx := True.intro
    refine goA ?_
    clear gx
    simp (disch := first | omega | (simp; done) | (simp; omega)) [decide_eq_decide, checkF] <;> try rfl
  · have c1' : ¬ (d : Int) ≤ 0 := by omega
    by_cases c2 : 1000000 < d
    · have c2' : 1000000 < (d : Int) := by omega
      have gx := And.intro @c1 (And.intro @c1' (@c2'))
      refine goA ?_
      clear gx
      simp (disch := first | omega | (simp; done) | (simp; omega)) [decide_eq_decide, checkF, c2] <;> try rfl
    · have c2' : ¬ 1000000 < (d : Int) := by omega
      have c3' : ¬ (n : Int) < -1000000 := by omega
      by_cases c4 : 1000000 < n
      · have c4' : 1000000 < (n : Int) := by omega
        have gx := And.intro @c1 (And.intro @c1' (And.intro @c2' (And.intro @c3' (@c4'))))
        refine goA ?_
        clear gx
        simp (disch := first | omega | (simp; done) | (simp; omega)) [decide_eq_decide, checkF, c4] <;> try rfl
      · have c4' : ¬ 1000000 < (n : Int) := by omega
        obtain ⟨g, hg⟩ : ∃ g, n.gcd d = g := ⟨_, rfl⟩
        by_cases c5 : g = 1
        · have c5' : (g : Int) = 1 := by omega
          have gx := And.intro @c1 (And.intro @c1' (And.intro @c2' (And.intro @c3' (And.intro @c4' (And.intro @h1 (And.intro @h2 (And.intro @hg (And.intro @c5 (@c5')))))))))
          refine goA ?_
          clear gx
          simp (disch := first | omega | (simp; done) | (simp; omega)) [decide_eq_decide, checkF, c1, c2, c4, hg, c5] <;> try rfl
        · have c5' : ¬ (g : Int) = 1 := by omega
          have gx := And.intro @c1 (And.intro @c1' (And.intro @c2' (And.intro @c3' (And.intro @c4' (And.intro @h1 (And.intro @h2 (And.intro @hg (And.intro @c5 (@c5')))))))))
          refine goA ?_
          clear gx
          simp (disch := first | omega | (simp; done) | (simp; omega)) [decide_eq_decide, checkF, c1, c2, c4, hg, c5] <;> try rfl
end Go.Kz

/-
  Layer 19: the model's quotient.
-/
namespace Go.Kz
open Go Go.Proofs

theorem valN_nil : valN [] = 0 := rfl
theorem okV_iff {l : List UInt8} : okV l ↔ valN l ≤ 1000000 := ⟨fun h => h.elim (fun e => by rw [e, valN_nil]; omega) (fun e => e), .inr⟩
theorem wv_zero {l : List UInt8} : wv l 0 = valN l := by
  unfold wv
  split
  · rename_i h; rw [h]; rfl
  · rfl
theorem valR_ok {l : List UInt8} (h : valN l ≤ 1000000) : valR l 1000000 = (valN l : Int) := by unfold valR; rw [if_pos (by omega)]
theorem valR_no {l : List UInt8} (h : ¬ valN l ≤ 1000000) : valR l 1000000 = -1 := by unfold valR; rw [if_neg (by omega)]

variable {E : PExt} (hU : Uni E)
include hU
set_option maxRecDepth 10000
set_option maxHeartbeats 4000000

theorem r_quotient (h0 : E 62 = none)
    (h1 : E 76 = some (entry (gf2 .text i64 i64 fun s m => gif (allDig s ∧ 0 ≤ m ∧ m ≤ 2000000000 ∧ (s.length : Int) < 4000000000) (some (valR s m)))))
    (h2 : E 78 = some (entry (gf2 i64 i64 i64 fun a b => gif (0 ≤ a ∧ a ≤ 9223372036854775807 ∧ 0 ≤ b ∧ b ≤ 9223372036854775807) (some (a.toNat.gcd b.toNat : Nat)))))
    (h3 : E 79 = some (entry (gf1 .frac i64 fun x => gif (0 ≤ x.1 ∧ x.1 ≤ 9000000000000000000 ∧ 0 ≤ x.2 ∧ x.2 ≤ 9000000000000000000) (some (checkF x.1.toNat x.2.toNat)))))
    (h4 : E 60 = some (entry (gf1 i64 .text fun n => gif (-9223372036854775808 ≤ n ∧ n ≤ 9223372036854775807) (some (Lib.itoa n)))))
    (p : Parts) (hd0 : allDig p.1) (hd1 : allDig p.2.1) (hd2 : allDig p.2.2) (hl0 : (p.1.length : Int) < 4000000000) (hl1 : (p.2.1.length : Int) < 4000000000) (hl2 : (p.2.2.length : Int) < 4000000000) (hb : p.2.1 = [] ↔ p.2.2 = []) :
    Run Tryd.prog E 62 [Em.parts.emb p] ((Em.frac.tup3 .text .bool).emb (quoM p)) := by
  obtain ⟨s0, s1, s2⟩ := p
  simp only at hd0 hd1 hd2 hl0 hl1 hl2 hb
  obtain ⟨n0, hn0⟩ : ∃ n0, valN s0 = n0 := ⟨_, rfl⟩
  obtain ⟨n1, hn1⟩ : ∃ n1, valN s1 = n1 := ⟨_, rfl⟩
  obtain ⟨n2, hn2⟩ : ∃ n2, wv s2 1 = n2 := ⟨_, rfl⟩
  obtain ⟨Q, hQ⟩ : ∃ Q, quoM (s0, s1, s2) = Q := ⟨_, rfl⟩
  rw [hQ]
  have hbad : ¬ (okV s0 ∧ okV s1 ∧ okV s2) ∨ n2 = 0 → Q = ((0, 0), [], false) := by
    intro h
    rw [← hQ]
    unfold quoM feetS
    simp only
    rw [hn2, if_pos h, if_neg (by decide)]
  have hgood : okV s0 ∧ okV s1 ∧ okV s2 → n2 ≠ 0 → Q = if (makeF (n1 + n0 * n2) n2).2 ≠ 0 then ((0, 0), [], false) else ((makeF (n1 + n0 * n2) n2).1, fracText (makeF (n1 + n0 * n2) n2).1.1.toNat (makeF (n1 + n0 * n2) n2).1.2.toNat ++ [39], true) := by
    intro h h'
    rw [← hQ]
    unfold quoM feetS
    simp only
    have hc : ¬ (¬ (okV s0 ∧ okV s1 ∧ okV s2) ∨ n2 = 0) := fun e => e.elim (fun e => e h) (fun e => h' e)
    rw [hn2, wv_zero, wv_zero, hn0, hn1, if_neg hc, Nat.add_comm n1]
    by_cases hm : (makeF (n0 * n2 + n1) n2).2 ≠ 0
    · rw [if_pos hm, if_pos hm, if_neg (by decide)]
    · rw [if_neg hm, if_neg hm, if_pos rfl]
  apply Run.bodyL h0 Tryd.func62 rfl
  focus (simp [show Tryd.f62.ntmps = _ from rfl, List.replicate]; rfl)
  by_cases k0 : n0 ≤ 1000000
  · have v0 : valR s0 1000000 = (n0 : Int) := by rw [valR_ok (by omega), hn0]
    have ok0 : okV s0 := okV_iff.2 (by omega)
    have g0 : ¬ (n0 : Int) < 0 := by omega
    by_cases he : s1 = []
    · have he2 : (s1 == []) = true := by simp [he]
      have hs2 := hb.1 he
      have e2 : n2 = 1 := by rw [← hn2, hs2]; rfl
      have e1 : n1 = 0 := by rw [← hn1, he]; rfl
      have ok1 : okV s1 := .inl he
      have ok2 : okV s2 := .inl hs2
      have hfS := hgood ⟨ok0, ok1, ok2⟩ (by omega)
      have hmk : makeF (n1 + n0 * n2) n2 = (((n0 : Int), 1), 0) := by
        rw [e1, e2, Nat.zero_add, Nat.mul_one]
        unfold makeF
        rw [Nat.gcd_one_right, Nat.div_one, Nat.div_one, if_neg (by omega)]
        rfl
      rw [hmk] at hfS
      simp only [ne_eq, not_true_eq_false, if_false, Int.toNat_natCast] at hfS
      have hft : fracText n0 1 = Lib.itoa (n0 : Int) := by
        unfold fracText
        rw [Nat.mod_one, if_pos rfl, Nat.div_one]
      rw [show (1 : Int).toNat = 1 from rfl, hft] at hfS
      have hck : checkF n0 1 = 0 := by
        have := Nat.gcd_one_right n0
        unfold checkF
        exact if_neg (fun h => by rcases h with h | h | h | h <;> omega)
      have lq := itoa_len n0
      have lr : (Lib.itoa 0).length ≤ 1 := itoa_len 0
      have ly : (Lib.itoa 1).length ≤ 2 := itoa_len 1
      have g1 : (0 : Int) + (n0 : Int) * 1 = (n0 : Int) := by omega
      have t1 : (1 : Int).toNat = 1 := rfl
      have t2 : (n0 : Int).tdiv 1 = (n0 : Int) := Int.tdiv_one _
      have t3 : (n0 : Int).tmod 1 = 0 := Int.tmod_one _
      have gx := And.intro @he (And.intro @he2 (And.intro @h1 (And.intro @h2 (And.intro @h3 (And.intro @h4 (And.intro @hd0 (And.intro @hl0 (And.intro @v0 (And.intro @g0 (And.intro @g1 (And.intro @t1 (And.intro @t2 (And.intro @t3 (@hck))))))))))))))
      refine goA ?_
      clear gx
      simp (disch := first | omega | (simp; done) | (simp; omega)) [decide_eq_decide, hfS] <;> try rfl
    · have he2 : (s1 == []) = false := by simpa using he
      have he3 : s1.isEmpty = false := by simpa using he
      have hs2 : ¬ s2 = [] := fun h => he (hb.2 h)
      have e2 : valN s2 = n2 := by rw [← hn2]; unfold wv; rw [if_neg hs2]
      by_cases k1 : n1 ≤ 1000000
      · have v1 : valR s1 1000000 = (n1 : Int) := by rw [valR_ok (by omega), hn1]
        have ok1 : okV s1 := okV_iff.2 (by omega)
        have g1 : ¬ (n1 : Int) < 0 := by omega
        by_cases k2 : n2 ≤ 1000000
        · have v2 : valR s2 1000000 = (n2 : Int) := by rw [valR_ok (by omega), e2]
          have ok2 : okV s2 := okV_iff.2 (by omega)
          by_cases hz : n2 = 0
          · have hfS := hbad (.inr hz)
            have g2 : (n2 : Int) ≤ 0 := by omega
            subst hz
            have gx := And.intro @he (And.intro @he2 (And.intro @he3 (And.intro @h1 (And.intro @hd0 (And.intro @hl0 (And.intro @hd1 (And.intro @hl1 (And.intro @hd2 (And.intro @hl2 (And.intro @v0 (And.intro @v1 (And.intro @v2 (And.intro @g0 (And.intro @g1 (@g2)))))))))))))))
            refine goA ?_
            clear gx
            simp (disch := first | omega | (simp; done) | (simp; omega)) [decide_eq_decide, hfS] <;> try rfl
          · have g2 : ¬ (n2 : Int) ≤ 0 := by omega
            have hfS := hgood ⟨ok0, ok1, ok2⟩ hz
            obtain ⟨K, hK⟩ : ∃ K, n0 * n2 = K := ⟨_, rfl⟩
            have hKl : n0 * n2 ≤ 1000000 * 1000000 := Nat.mul_le_mul k0 k2
            have hKi : (n0 : Int) * (n2 : Int) = (K : Int) := by rw [← hK]; simp
            rw [hK] at hfS hKl
            obtain ⟨M, hM⟩ : ∃ M, n1 + K = M := ⟨_, rfl⟩
            have hMi : (n1 : Int) + (K : Int) = (M : Int) := by omega
            rw [hM] at hfS
            obtain ⟨g, hg⟩ : ∃ g, M.gcd n2 = g := ⟨_, rfl⟩
            have hg0 : g ≠ 0 := by
              rw [← hg]
              exact fun h => hz (Nat.eq_zero_of_gcd_eq_zero_right h)
            have hgi : ¬ (g : Int) = 0 := by omega
            obtain ⟨x, hx⟩ : ∃ x, M / g = x := ⟨_, rfl⟩
            obtain ⟨y, hy⟩ : ∃ y, n2 / g = y := ⟨_, rfl⟩
            have hxl : x ≤ M := by rw [← hx]; exact Nat.div_le_self _ _
            have hyl : y ≤ n2 := by rw [← hy]; exact Nat.div_le_self _ _
            have hy0 : y ≠ 0 := by
              have : 0 < n2 / g := Nat.div_pos (by rw [← hg]; exact Nat.gcd_le_right _ (by omega)) (by omega)
              omega
            have hco : x.gcd y = 1 := by
              rw [← hx, ← hy, ← hg]
              exact Nat.coprime_div_gcd_div_gcd (by omega)
            have hxi : (M : Int) / (g : Int) = (x : Int) := by rw [← hx]; rfl
            have hxt : (M : Int).tdiv (g : Int) = (x : Int) := by rw [Int.tdiv_eq_ediv_of_nonneg (by omega)]; exact hxi
            have hyi : (n2 : Int) / (g : Int) = (y : Int) := by rw [← hy]; rfl
            have hyt : (n2 : Int).tdiv (g : Int) = (y : Int) := by rw [Int.tdiv_eq_ediv_of_nonneg (by omega)]; exact hyi
            have hyz : ¬ (y : Int) = 0 := by omega
            have hmk : makeF M n2 = if 1000000 < x then ((0, 0), 4) else (((x : Int), (y : Int)), 0) := by
              unfold makeF
              rw [hg, hx, hy]
              by_cases hc : 1000000 < x
              · rw [if_pos hc, if_pos (.inl hc)]
              · rw [if_neg hc, if_neg (by omega)]
            have hck : checkF x y = if 1000000 < x then 2 else 0 := by
              unfold checkF
              by_cases hc : 1000000 < x
              · rw [if_pos hc]
                exact if_pos (.inr (.inr (.inl hc)))
              · rw [if_neg hc]
                exact if_neg (fun h => by rcases h with h | h | h | h <;> omega)
            rw [hmk] at hfS
            by_cases hc : 1000000 < x
            · rw [if_pos hc] at hck
              rw [if_pos hc, if_pos (by decide)] at hfS
              have gx := And.intro @he (And.intro @he2 (And.intro @he3 (And.intro @h1 (And.intro @h2 (And.intro @h3 (And.intro @hd0 (And.intro @hl0 (And.intro @hd1 (And.intro @hl1 (And.intro @hd2 (And.intro @hl2 (And.intro @v0 (And.intro @v1 (And.intro @v2 (And.intro @g0 (And.intro @g1 (And.intro @g2 (And.intro @hz (And.intro @hKi (And.intro @hMi (And.intro @hg (And.intro @hg0 (And.intro @hgi (And.intro @hxi (And.intro @hxt (And.intro @hyi (And.intro @hyt (@hck))))))))))))))))))))))))))))
              refine goA ?_
              clear gx
              simp (disch := first | omega | (simp; done) | (simp; omega)) [decide_eq_decide, hfS] <;> try rfl
            · rw [if_neg hc] at hck
              rw [if_neg hc, if_neg (by simp)] at hfS
              simp only [Int.toNat_natCast] at hfS
              obtain ⟨q, hq⟩ : ∃ q, x / y = q := ⟨_, rfl⟩
              obtain ⟨r, hr⟩ : ∃ r, x % y = r := ⟨_, rfl⟩
              have hqi : (x : Int) / (y : Int) = (q : Int) := by rw [← hq]; rfl
              have hqi2 : (x : Int).tdiv (y : Int) = (q : Int) := by rw [Int.tdiv_eq_ediv_of_nonneg (by omega)]; exact hqi
              have hri : (x : Int) % (y : Int) = (r : Int) := by rw [← hr]; rfl
              have hri2 : (x : Int).tmod (y : Int) = (r : Int) := by rw [Int.tmod_eq_emod_of_nonneg (by omega)]; exact hri
              have hql : q ≤ x := by rw [← hq]; exact Nat.div_le_self _ _
              have hrl : r ≤ x := by rw [← hr]; exact Nat.mod_le _ _
              have lq := itoa_len q
              have lr := itoa_len r
              have lz : (Lib.itoa 0).length ≤ 1 := itoa_len 0
              have ly := itoa_len y
              unfold fracText at hfS
              rw [hq, hr] at hfS
              by_cases hr0 : r = 0
              · rw [if_pos hr0] at hfS
                have gx := And.intro @he (And.intro @he2 (And.intro @he3 (And.intro @h1 (And.intro @h2 (And.intro @h3 (And.intro @h4 (And.intro @hd0 (And.intro @hl0 (And.intro @hd1 (And.intro @hl1 (And.intro @hd2 (And.intro @hl2 (And.intro @v0 (And.intro @v1 (And.intro @v2 (And.intro @g0 (And.intro @g1 (And.intro @g2 (And.intro @hz (And.intro @hKi (And.intro @hMi (And.intro @hg (And.intro @hg0 (And.intro @hgi (And.intro @hxi (And.intro @hxt (And.intro @hyi (And.intro @hyt (And.intro @hck (And.intro @hy0 (And.intro @hyz (And.intro @hqi (And.intro @hqi2 (And.intro @hri (And.intro @hri2 (@hr0))))))))))))))))))))))))))))))))))))
                refine goA ?_
                clear gx
                simp (disch := first | omega | (simp; done) | (simp; omega)) [decide_eq_decide, hfS] <;> try rfl
              · have hr0i : ¬ (r : Int) = 0 := by omega
                rw [if_neg hr0] at hfS
                by_cases hq0 : q = 0
                · rw [if_pos hq0] at hfS
                  have gx := And.intro @he (And.intro @he2 (And.intro @he3 (And.intro @h1 (And.intro @h2 (And.intro @h3 (And.intro @h4 (And.intro @hd0 (And.intro @hl0 (And.intro @hd1 (And.intro @hl1 (And.intro @hd2 (And.intro @hl2 (And.intro @v0 (And.intro @v1 (And.intro @v2 (And.intro @g0 (And.intro @g1 (And.intro @g2 (And.intro @hz (And.intro @hKi (And.intro @hMi (And.intro @hg (And.intro @hg0 (And.intro @hgi (And.intro @hxi (And.intro @hxt (And.intro @hyi (And.intro @hyt (And.intro @hck (And.intro @hy0 (And.intro @hyz (And.intro @hqi (And.intro @hqi2 (And.intro @hri (And.intro @hri2 (And.intro @hr0 (And.intro @hr0i (@hq0))))))))))))))))))))))))))))))))))))))
                  refine goA ?_
                  clear gx
                  simp (disch := first | omega | (simp; done) | (simp; omega)) [decide_eq_decide, hfS] <;> try rfl
                · have hq0i : ¬ (q : Int) = 0 := by omega
                  rw [if_neg hq0] at hfS
                  have gx := And.intro @he (And.intro @he2 (And.intro @he3 (And.intro @h1 (And.intro @h2 (And.intro @h3 (And.intro @h4 (And.intro @hd0 (And.intro @hl0 (And.intro @hd1 (And.intro @hl1 (And.intro @hd2 (And.intro @hl2 (And.intro @v0 (And.intro @v1 (And.intro @v2 (And.intro @g0 (And.intro @g1 (And.intro @g2 (And.intro @hz (And.intro @hKi (And.intro @hMi (And.intro @hg (And.intro @hg0 (And.intro @hgi (And.intro @hxi (And.intro @hxt (And.intro @hyi (And.intro @hyt (And.intro @hck (And.intro @hy0 (And.intro @hyz (And.intro @hqi (And.intro @hqi2 (And.intro @hri (And.intro @hri2 (And.intro @hr0 (And.intro @hr0i (And.intro @hq0 (@hq0i)))))))))))))))))))))))))))))))))))))))
                  refine goA ?_
                  clear gx
                  simp (disch := first | omega | (simp; done) | (simp; omega)) [decide_eq_decide, hfS] <;> try rfl
        · have v2 : valR s2 1000000 = -1 := valR_no (by omega)
          have hfS := hbad (.inl fun h => by have := okV_iff.1 h.2.2; omega)
          have gx := And.intro @he (And.intro @he2 (And.intro @he3 (And.intro @h1 (And.intro @hd0 (And.intro @hl0 (And.intro @hd1 (And.intro @hl1 (And.intro @hd2 (And.intro @hl2 (And.intro @v0 (And.intro @v1 (And.intro @v2 (And.intro @g0 (@g1))))))))))))))
          refine goA ?_
          clear gx
          simp (disch := first | omega | (simp; done) | (simp; omega)) [decide_eq_decide, hfS] <;> try rfl
      · have v1 : valR s1 1000000 = -1 := valR_no (by omega)
        have hfS := hbad (.inl fun h => by have := okV_iff.1 h.2.1; omega)
        have gx := And.intro @he (And.intro @he2 (And.intro @he3 (And.intro @h1 (And.intro @hd0 (And.intro @hl0 (And.intro @hd1 (And.intro @hl1 (And.intro @hd2 (And.intro @hl2 (And.intro @v0 (And.intro @v1 (@g0))))))))))))
        refine goA ?_
        clear gx
        simp (disch := first | omega | (simp; done) | (simp; omega)) [decide_eq_decide, hfS] <;> try rfl
  · have v0 : valR s0 1000000 = -1 := valR_no (by omega)
    have hfS := hbad (.inl fun h => by have := okV_iff.1 h.1; omega)
    by_cases he : s1 = []
    · have he2 : (s1 == []) = true := by simp [he]
      have gx := And.intro @he (And.intro @he2 (And.intro @h1 (And.intro @hd0 (And.intro @hl0 (@v0)))))
      refine goA ?_
      clear gx
      simp (disch := first | omega | (simp; done) | (simp; omega)) [decide_eq_decide, hfS] <;> try rfl
    · have he2 : (s1 == []) = false := by simpa using he
      have he3 : s1.isEmpty = false := by simpa using he
      have gx := And.intro @he (And.intro @he2 (And.intro @he3 (And.intro @h1 (And.intro @hd0 (And.intro @hl0 (And.intro @hd1 (And.intro @hl1 (And.intro @hd2 (And.intro @hl2 (@v0))))))))))
      refine goA ?_
      clear gx
      simp (disch := first | omega | (simp; done) | (simp; omega)) [decide_eq_decide, hfS] <;> try rfl
end Go.Kz
