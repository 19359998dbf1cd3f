/-
  SpanCrosses holds: the law answers true, whatever it is handed.
-/
import Derived.Test.YtclleofcjnggaaaDoorP8
import Derived.Test.YtclleofcjnggaaaDoorP4
import Derived.Test.YtclleofcjnggaaaDoorP5
set_option linter.all false

/-
  Rows of one's own behind some objects and others of which little is known.
-/
namespace Go.Kz

theorem pappend_rowB {P : Program} {B J : List SObj} {t e : TypeId} {k b s : Nat} {xs : List PD} {p : PD} {tk tok : Tok} (hB : ∀ o ∈ B, notOwn (some o)) (hu : P.underlying t = some (.slice e)) (hi : pelem P e = some (k, b)) (hs : xs = [] ∨ s = k) (hr : RowAt (B ++ J) tok e k xs.length)
    (hm : xs.length + 1 ≤ 100000000000000) (hb : (xs.length + 1) * b ≤ 140737488355328) :
    ∃ tok' J', pappend P 0 (B ++ J) t (.slice s xs tok) (.slice k [p] tk) = some (.slice k (xs ++ [p]) tok', B ++ J') ∧ RowAt (B ++ J') tok' e k (xs.length + 1) ∧
      ∀ tok2 e2 k2 n2, RowAt (B ++ J) tok2 e2 k2 n2 → (∀ id, tok = .own id → tok2 ≠ .own id) → RowAt (B ++ J') tok2 e2 k2 n2 ∧ (∀ id, tok' = .own id → tok2 ≠ .own id) := by
  obtain ⟨tok', σ', h1, h2, h3, h4⟩ := pappend_row (tk := tk) (p := p) hu hi hs hr hm hb
  have hpre : ∀ (id : Nat) (o : SObj), B[id]? = some o → σ'[id]? = some o := by
    intro id o ho
    have ho2 : (B ++ J)[id]? = some o := by rw [List.getElem?_append_left (List.getElem?_eq_some_iff.1 ho).1]; exact ho
    refine h3 id o ?_ ho2
    intro e
    subst e
    rcases hr with ⟨_, e⟩ | ⟨_, id', e, h5⟩
    · cases e
    · simp only [Tok.own.injEq] at e
      subst e
      rw [ho2, Option.some.injEq] at h5
      subst h5
      exact hB _ (List.mem_of_getElem? ho)
  have hsp : σ' = B ++ σ'.drop B.length := by
    have : σ'.take B.length = B := by
      apply List.ext_getElem?
      intro i
      rw [List.getElem?_take]
      split
      · rename_i hlt
        rw [hpre i B[i] (by simp [hlt]), List.getElem?_eq_getElem hlt]
      · rename_i hge
        rw [List.getElem?_eq_none (by omega)]
    conv => lhs; rw [← List.take_append_drop B.length σ', this]
  refine ⟨tok', σ'.drop B.length, by rw [← hsp]; exact h1, by rw [← hsp]; exact h2, fun tok2 e2 k2 n2 hr2 hne => ?_⟩
  rw [← hsp]
  refine ⟨hr2.keep fun id o e h => h3 id o (fun e2 => hne id e2 e) h, fun id e e2 => ?_⟩
  rcases h4 id e with e3 | e3
  · exact hne id e3 e2
  · subst e3
    rcases hr2 with ⟨_, e4⟩ | ⟨_, id', e4, h5⟩
    · rw [e4] at e2; cases e2
    · rw [e4] at e2
      simp only [Tok.own.injEq] at e2
      subst e2
      have := (List.getElem?_eq_some_iff.1 h5).1
      omega

/-! ### bits of small integers -/
theorem shr_i64 {n i : Nat} (hn : n < 9223372036854775808) (hi : i < 64) : pshift .shr .i64 (n : Int) (i : Int) = some (.int .i64 ((n / 2 ^ i : Nat) : Int)) := by
  have h1 : ¬ ((i : Int) < 0) := by omega
  have h2 : min ((i : Int).toNat) IntKind.i64.bits = i := by simp [IntKind.bits]; omega
  simp only [pshift, h1, if_false, h2]
  have h3 : (0 : Int) ≤ 2 ^ i := Int.pow_nonneg (by omega)
  rw [Int.fdiv_eq_ediv_of_nonneg _ h3, Int.natCast_ediv, Int.natCast_pow]
  rfl
theorem and_one_i64 {n : Nat} (hn : n < 9223372036854775808) : pbits .and .i64 (n : Int) 1 = some ((n % 2 : Nat) : Int) := by
  show some (IntKind.i64.wrap ((BitVec.ofInt 64 (n : Int) &&& BitVec.ofInt 64 1).toNat : Int)) = _
  have h1 : (BitVec.ofInt 64 (n : Int)).toNat = n := by
    rw [BitVec.toNat_ofInt]
    omega
  have h2 : (BitVec.ofInt 64 1).toNat = 1 := by decide
  rw [BitVec.toNat_and, h1, h2, show (1 : Nat) = 2 ^ 1 - 1 from rfl, Nat.and_two_pow_sub_one_eq_mod]
  rw [wrap_i64 (by omega) (by omega)]
theorem shl_one_i64 {w : Nat} (hw : w < 62) : pshift .shl .i64 1 (w : Int) = some (.int .i64 ((2 ^ w : Nat) : Int)) := by
  have h1 : ¬ ((w : Int) < 0) := by omega
  have h2 : min ((w : Int).toNat) IntKind.i64.bits = w := by simp [IntKind.bits]; omega
  simp only [pshift, h1, if_false, h2]
  have h4 : (2 : Nat) ^ w ≤ 2 ^ 62 := Nat.pow_le_pow_right (by omega) (by omega)
  rw [Int.one_mul, wrap_i64 (by have : (0 : Int) ≤ 2 ^ w := Int.pow_nonneg (by omega); omega) (by
    have : ((2 ^ w : Nat) : Int) ≤ ((2 ^ 62 : Nat) : Int) := by exact_mod_cast h4
    rw [Int.natCast_pow] at this
    have e : ((2 ^ 62 : Nat) : Int) = 4611686018427387904 := rfl
    rw [e] at this
    have e2 : (((2 : Nat) : Int)) ^ w = (2 : Int) ^ w := rfl
    omega)]
  rw [Int.natCast_pow]
  rfl

end Go.Kz

/-
  Layer 11: two hands that hold a list in any way hold it by a division.
-/
namespace Go.Kz
open Go Go.Proofs

/-! ### a part of a sorted list lies between its ends -/
theorem sub_ge : ∀ {a l : List Int}, a.Sublist l → l.Pairwise (· < ·) → ∀ (i : Nat) (h : i < a.length) (h2 : i < l.length), l[i] ≤ a[i]
  | _, _, .slnil, _, i, h, _ => absurd h (by simp)
  | _, _, .cons x (l₁ := a) (l₂ := l) hs, hp, i, h, h2 => by
    have hp1 := List.pairwise_cons.1 hp
    have hle := hs.length_le
    match i, h, h2 with
    | 0, h, h2 =>
      have hm : a[0] ∈ l := hs.subset (List.getElem_mem h)
      have := hp1.1 _ hm
      simp only [List.getElem_cons_zero]
      omega
    | i + 1, h, h2 =>
      simp only [List.getElem_cons_succ]
      have h3 := sub_ge hs hp1.2 i (by omega) (by omega)
      have hpa : a.Pairwise (· < ·) := hp1.2.sublist hs
      rw [List.pairwise_iff_getElem] at hpa
      have := hpa i (i + 1) (by omega) h (by omega)
      omega
  | _, _, .cons₂ x (l₁ := a) (l₂ := l) hs, hp, i, h, h2 => by
    have hp1 := List.pairwise_cons.1 hp
    match i, h, h2 with
    | 0, h, h2 => simp
    | i + 1, h, h2 =>
      simp only [List.getElem_cons_succ]
      exact sub_ge hs hp1.2 i (by simpa using h) (by simpa using h2)

theorem sub_le : ∀ {a l : List Int}, a.Sublist l → l.Pairwise (· < ·) → ∀ (i j : Nat) (h : i < a.length) (h2 : j < l.length), j = l.length - a.length + i → a[i] ≤ l[j]
  | _, _, .slnil, _, i, _, h, _, _ => absurd h (by simp)
  | _, _, .cons x (l₁ := a) (l₂ := l) hs, hp, i, j, h, h2, e => by
    have hp1 := List.pairwise_cons.1 hp
    have hle := hs.length_le
    obtain ⟨j', rfl⟩ : ∃ j', j = j' + 1 := ⟨l.length - a.length + i, by simp only [List.length_cons] at e; omega⟩
    simp only [List.getElem_cons_succ]
    exact sub_le hs hp1.2 i j' h (by simpa using h2) (by simp only [List.length_cons] at e; omega)
  | _, _, .cons₂ x (l₁ := a) (l₂ := l) hs, hp, i, j, h, h2, e => by
    have hp1 := List.pairwise_cons.1 hp
    have hle := hs.length_le
    simp only [List.length_cons] at e h h2
    match i, j, h, h2, e with
    | 0, 0, h, h2, e => simp
    | 0, j + 1, h, h2, e =>
      simp only [List.getElem_cons_zero, List.getElem_cons_succ]
      have := hp1.1 l[j] (List.getElem_mem (by omega))
      omega
    | i + 1, 0, h, h2, e => omega
    | i + 1, j + 1, h, h2, e =>
      simp only [List.getElem_cons_succ]
      exact sub_le hs hp1.2 i j (by omega) (by omega) (by omega)

/-- A hand with a whole width. -/
def holdsN (l : List Int) (n w : Int) : Prop := (l.length : Int) ≤ n ∧ (l = [] ∨ (l.getLast?.getD 0) - (l.head?.getD 0) ≤ w)

theorem head_is {l : List Int} (h : 0 < l.length) : l.head?.getD 0 = l[0] := head_get h
theorem last_is {l : List Int} (h : 0 < l.length) : l.getLast?.getD 0 = l[l.length - 1]'(by omega) := last_get h

theorem cross_half {l a b : List Int} {n w : Int} (hl : l.Pairwise (· < ·)) (ha : a.Sublist l) (hb : b.Sublist l) (hlen : a.length + b.length = l.length) (hl0 : 0 < l.length) (h0 : l[0] ∈ a) (hcov : ∀ x ∈ l, x ∈ a ∨ x ∈ b) (h1 : holdsN a n w) (h2 : holdsN b n w) :
    holdsN (l.take a.length) n w ∧ holdsN (l.drop a.length) n w := by
  have hane : 0 < a.length := List.length_pos_iff.2 (List.ne_nil_of_mem h0)
  have hal := ha.length_le
  have hwa : a[a.length - 1] - a[0] ≤ w := by
    rcases h1.2 with e | e
    · rw [e] at hane; simp at hane
    · rw [head_is hane, last_is hane] at e; exact e
  have ha0 : a[0] = l[0] := by
    have e1 := sub_ge ha hl 0 hane hl0
    have hpa : a.Pairwise (· < ·) := hl.sublist ha
    have e2 := head_le hpa h0
    rw [head_is hane] at e2
    omega
  have hat := sub_ge ha hl (a.length - 1) (by omega) (by omega)
  refine ⟨⟨by rw [List.length_take]; have := h1.1; omega, .inr ?_⟩, ⟨by rw [List.length_drop]; have := h2.1; omega, ?_⟩⟩
  · have hp : 0 < (l.take a.length).length := by rw [List.length_take]; omega
    rw [head_is hp, last_is hp]
    simp only [List.getElem_take, List.length_take]
    have e : min a.length l.length - 1 = a.length - 1 := by omega
    simp only [e]
    omega
  · rcases Nat.eq_zero_or_pos b.length with hb0 | hbp
    · left
      exact List.drop_eq_nil_of_le (by omega)
    · right
      have hp : 0 < (l.drop a.length).length := by rw [List.length_drop]; omega
      rw [head_is hp, last_is hp]
      simp only [List.getElem_drop, List.length_drop]
      have e : a.length + (l.length - a.length - 1) = l.length - 1 := by omega
      simp only [e, Nat.add_zero]
      have hlast := hcov l[l.length - 1] (List.getElem_mem (by omega))
      have hsl := hl
      rw [List.pairwise_iff_getElem] at hsl
      rcases hlast with hm | hm
      · have hpa : a.Pairwise (· < ·) := hl.sublist ha
        have e2 := le_last hpa hm
        rw [last_is hane] at e2
        have e3 := hsl 0 a.length hl0 (by omega) hane
        omega
      · have hpb : b.Pairwise (· < ·) := hl.sublist hb
        have e2 := le_last hpb hm
        rw [last_is hbp] at e2
        have e3 := sub_le hb hl 0 a.length hbp (by omega) (by omega)
        have hwb : b[b.length - 1] - b[0] ≤ w := by
          rcases h2.2 with e | e
          · rw [e] at hbp; simp at hbp
          · rw [head_is hbp, last_is hbp] at e; exact e
        omega

theorem cross_whole {l a b : List Int} {n w : Int} (hl : l.Pairwise (· < ·)) (ha : a.Sublist l) (hb : b.Sublist l) (hlen : a.length + b.length = l.length) (hcov : ∀ x ∈ l, x ∈ a ∨ x ∈ b) (h1 : holdsN a n w) (h2 : holdsN b n w) :
    ∃ t, t ≤ l.length ∧ holdsN (l.take t) n w ∧ holdsN (l.drop t) n w := by
  rcases Nat.eq_zero_or_pos l.length with h0 | h0
  · have e : l = [] := List.eq_nil_of_length_eq_zero h0
    subst e
    have ea : a = [] := List.eq_nil_of_length_eq_zero (by simp only [List.length_nil] at hlen; omega)
    subst ea
    exact ⟨0, by simp, by simpa using h1, by simpa using h1⟩
  · rcases hcov l[0] (List.getElem_mem h0) with hm | hm
    · exact ⟨a.length, ha.length_le, cross_half hl ha hb hlen h0 hm hcov h1 h2⟩
    · exact ⟨b.length, hb.length_le, cross_half hl hb ha (by omega) h0 hm (fun x hx => (hcov x hx).symm) h2 h1⟩

/-! ### parts by bits -/
def selT (l : List Int) (b i : Nat) : List Int := ((List.range i).filter b.testBit).map fun j => l.getD j 0
def selF (l : List Int) (b i : Nat) : List Int := ((List.range i).filter fun j => !b.testBit j).map fun j => l.getD j 0
theorem selT_succ (l : List Int) (b i : Nat) : selT l b (i + 1) = if b.testBit i then selT l b i ++ [l.getD i 0] else selT l b i := by
  unfold selT
  rw [List.range_succ, List.filter_append, List.map_append]
  cases h : b.testBit i <;> simp [h]
theorem selF_succ (l : List Int) (b i : Nat) : selF l b (i + 1) = if b.testBit i then selF l b i else selF l b i ++ [l.getD i 0] := by
  unfold selF
  rw [List.range_succ, List.filter_append, List.map_append]
  cases h : b.testBit i <;> simp [h]
theorem sel_len (l : List Int) (b : Nat) : ∀ i, (selT l b i).length + (selF l b i).length = i
  | 0 => rfl
  | i + 1 => by
    have := sel_len l b i
    rw [selT_succ, selF_succ]
    cases b.testBit i <;> simp <;> omega
theorem range_all (l : List Int) : (List.range l.length).map (fun j => l.getD j 0) = l := by
  apply List.ext_getElem
  · simp
  · intro i h1 h2
    simp [List.getElem?_eq_getElem h2]
theorem selT_sub (l : List Int) (b : Nat) : (selT l b l.length).Sublist l := by
  conv => rhs; rw [← range_all l]
  exact List.Sublist.map _ List.filter_sublist
theorem selF_sub (l : List Int) (b : Nat) : (selF l b l.length).Sublist l := by
  conv => rhs; rw [← range_all l]
  exact List.Sublist.map _ List.filter_sublist
theorem sel_cov (l : List Int) (b : Nat) : ∀ x ∈ l, x ∈ selT l b l.length ∨ x ∈ selF l b l.length := by
  intro x hx
  obtain ⟨j, hj, rfl⟩ := List.getElem_of_mem hx
  have e : l.getD j 0 = l[j] := by simp [List.getElem?_eq_getElem hj]
  cases hb : b.testBit j with
  | true => left; exact List.mem_map.2 ⟨j, List.mem_filter.2 ⟨List.mem_range.2 hj, hb⟩, e⟩
  | false => right; exact List.mem_map.2 ⟨j, List.mem_filter.2 ⟨List.mem_range.2 hj, by simp [hb]⟩, e⟩

/-- The first t bits. -/
theorem sel_take (l : List Int) (t : Nat) : ∀ i, i ≤ l.length → selT l (2 ^ t - 1) i = (l.take i).take t ∧ selF l (2 ^ t - 1) i = (l.take i).drop t
  | 0, _ => by simp [selT, selF]
  | i + 1, h => by
    obtain ⟨h1, h2⟩ := sel_take l t i (by omega)
    have hi : i < l.length := by omega
    have e : l.getD i 0 = l[i] := by simp [List.getElem?_eq_getElem hi]
    have ht : (2 ^ t - 1).testBit i = decide (i < t) := Nat.testBit_two_pow_sub_one t i
    have hli : (l.take i).length = i := by rw [List.length_take]; omega
    have etk : l.take (i + 1) = l.take i ++ [l[i]] := by rw [List.take_add_one, List.getElem?_eq_getElem hi]; rfl
    rw [selT_succ, selF_succ, ht, h1, h2, e, etk]
    by_cases hit : i < t
    · have a1 : (l.take i).take t = l.take i := List.take_of_length_le (by omega)
      have a2 : (l.take i).drop t = [] := List.drop_eq_nil_of_le (by omega)
      have a3 : (l.take i ++ [l[i]]).take t = l.take i ++ [l[i]] := List.take_of_length_le (by simp; omega)
      have a4 : (l.take i ++ [l[i]]).drop t = [] := List.drop_eq_nil_of_le (by simp; omega)
      simp only [hit, decide_true, if_true, a1, a2, a3, a4, and_self]
    · have a1 : (l.take i ++ [l[i]]).take t = (l.take i).take t := by rw [List.take_append_of_le_length (by omega)]
      have a2 : (l.take i ++ [l[i]]).drop t = (l.take i).drop t ++ [l[i]] := by rw [List.drop_append_of_le_length (by omega)]
      simp only [hit, decide_false, Bool.false_eq_true, if_false, a1, a2, and_self]

theorem holdsOk_N {s : Notes} {l : List Int} (h : ∀ x ∈ l, x ∈ s.list) (n w : Int) : holdsOk l n w = true ↔ holdsN l n w := by
  unfold holdsOk holdsN
  by_cases hn : l = []
  · subst hn; simp
  · have r1 := list_range (h _ (head_mem hn))
    have r2 := list_range (h _ (last_mem hn))
    rw [wrap_i64 (by omega) (by omega)]
    simp [hn]

/-- Bits part the notes among two hands. -/
def anyAt (p : Player) (l : List Int) (b : Nat) : Bool := holdsOk (selT l b l.length) p.hn p.hs && holdsOk (selF l b l.length) p.hn p.hs
def anyTo (p : Player) (l : List Int) (n : Nat) : Bool := (List.range n).any (anyAt p l)
theorem anyTo_succ (p : Player) (l : List Int) (n : Nat) : anyTo p l (n + 1) = (anyTo p l n || anyAt p l n) := by
  unfold anyTo
  rw [List.range_succ, List.any_append]
  simp

theorem cross_law (p : Player) (s : Notes) (h : errOf p = 0) : anyTo p s.list (2 ^ s.list.length) = decide (divs1 p s.list ≠ []) := by
  have hs := err_hs h
  rw [Bool.eq_iff_iff, decide_eq_true_eq]
  unfold anyTo
  rw [List.any_eq_true]
  constructor
  · rintro ⟨b, hb, hok⟩
    unfold anyAt at hok
    rw [Bool.and_eq_true, holdsOk_N (s := s) (fun x hx => (selT_sub s.list b).subset hx), holdsOk_N (s := s) (fun x hx => (selF_sub s.list b).subset hx)] at hok
    obtain ⟨t, ht, h1, h2⟩ := cross_whole (list_sorted s) (selT_sub s.list b) (selF_sub s.list b) (sel_len s.list b _) (sel_cov s.list b) hok.1 hok.2
    rw [← holdsOk_N (s := s) (fun x hx => List.mem_of_mem_take hx)] at h1
    rw [← holdsOk_N (s := s) (fun x hx => List.mem_of_mem_drop hx)] at h2
    refine List.ne_nil_of_mem (a := t) ?_
    unfold divs1
    rw [List.mem_filter, List.mem_range]
    refine ⟨by omega, ?_⟩
    unfold ok1
    rw [one_holds p _ hs, one_holds p _ hs, h1, h2]
    rfl
  · intro hne
    obtain ⟨t, ts, e⟩ := List.exists_cons_of_ne_nil hne
    have ht : t ∈ divs1 p s.list := by rw [e]; simp
    obtain ⟨h1, h2⟩ := divs1_mem ht
    obtain ⟨e1, e2⟩ := sel_take s.list t s.list.length (Nat.le_refl _)
    rw [List.take_length] at e1 e2
    refine ⟨2 ^ t - 1, List.mem_range.2 ?_, ?_⟩
    · have : 2 ^ t ≤ 2 ^ s.list.length := Nat.pow_le_pow_right (by omega) h1
      have : 0 < 2 ^ t := Nat.pow_pos (by omega)
      omega
    · unfold anyAt
      rw [e1, e2]
      unfold ok1 at h2
      rw [one_holds p _ hs, one_holds p _ hs] at h2
      exact h2

end Go.Kz

/-
  SpanCrosses, out of the walks: the run answers true.
-/
namespace Go.Kz
open Go Go.Proofs

/-- A plan of a set: any byte, any sixteen bits. -/
structure Plan3 where
  base : Nat
  bits : Nat
def Em.plan3 : Em Plan3 := .agg (((EmC.one (.int .u8)).pair (.one (.int .u16))).iso (fun p => ((p.base : Int), (p.bits : Int))) (fun x y h => by cases x; cases y; simp at h; simp; omega))
@[simp] theorem emb_plan3 {p : Plan3} : Em.plan3.emb p = .agg [.int .u8 (p.base : Int), .int .u16 (p.bits : Int)] := rfl
@[simp] theorem dec_plan3 {a b : Nat} : Em.plan3.dec (.agg [.int .u8 (a : Int), .int .u16 (b : Int)]) = some ⟨a, b⟩ := Em.dec_some rfl
def fitsP (x : Plan3) : Prop := x.base < 256 ∧ x.bits < 65536
def makeTo (x : Plan3) : Nat → Notes
  | 0 => noNotes
  | i + 1 => if x.bits.testBit i ∧ x.base % 128 + i ≤ 127 then withN (makeTo x i) (x.base % 128 + i) else makeTo x i

theorem shr_u16 {n i : Nat} (hi : i < 16) : pshift .shr .u16 (n : Int) (i : Int) = some (.int .u16 ((n / 2 ^ i : Nat) : Int)) := by
  have h1 : ¬ ((i : Int) < 0) := by omega
  have h2 : min ((i : Int).toNat) IntKind.u16.bits = i := by simp [IntKind.bits]; omega
  simp only [pshift, h1, if_false, h2]
  have h3 : (0 : Int) ≤ 2 ^ i := Int.pow_nonneg (by omega)
  rw [Int.fdiv_eq_ediv_of_nonneg _ h3, Int.natCast_ediv, Int.natCast_pow]
  rfl
theorem and_one_u16 {n : Nat} (hn : n < 65536) : pbits .and .u16 (n : Int) 1 = some ((n % 2 : Nat) : Int) := by
  show some (IntKind.u16.wrap ((BitVec.ofInt 16 (n : Int) &&& BitVec.ofInt 16 1).toNat : Int)) = _
  have h1 : (BitVec.ofInt 16 (n : Int)).toNat = n := by
    rw [BitVec.toNat_ofInt]
    omega
  have h2 : (BitVec.ofInt 16 1).toNat = 1 := by decide
  rw [BitVec.toNat_and, h1, h2, show (1 : Nat) = 2 ^ 1 - 1 from rfl, Nat.and_two_pow_sub_one_eq_mod]
  rw [wrap_u16_nat (by omega)]

theorem anyTo_mono (p : Player) (l : List Int) {k n : Nat} (h : anyTo p l k = true) (hk : k ≤ n) : anyTo p l n = true := by
  unfold anyTo at h ⊢
  rw [List.any_eq_true] at h ⊢
  obtain ⟨b, hb, h2⟩ := h
  exact ⟨b, List.mem_range.2 (by have := List.mem_range.1 hb; omega), h2⟩

variable {E : PExt} (hU : Uni E)
include hU
set_option maxRecDepth 10000
set_option maxHeartbeats 4000000

theorem r_Make (h0 : E 19 = none) (h1 : E 40 = some (entry (gf2 .notes i64 .notes fun s n => gif (0 ≤ n ∧ n ≤ 127) (some (withN s n.toNat))))) (x : Plan3) (hx : fitsP x) :
    Run Tryd.prog E 19 [Em.plan3.emb x] (Em.notes.emb (makeTo x 16)) := by
  obtain ⟨hx1, hx2⟩ := hx
  obtain ⟨r, hr⟩ : ∃ r, r = x.base % 128 := ⟨_, rfl⟩
  have hr128 : r < 128 := by omega
  have htm : (x.base : Int).tmod 128 = (r : Int) := by rw [Int.tmod_eq_emod_of_nonneg (by omega)]; omega
  apply Run.bodyL h0 Tryd.func19 rfl
  focus (simp [show Tryd.f19.ntmps = _ from rfl, List.replicate]; rfl)
  repeat (first
    | (refine Fr.i ?_; simp only [pput, List.set_cons_zero, List.set_cons_succ]; try rfl) | (refine By.i ?_; simp (disch := first | omega | (simp; done) | (simp; omega)) [wrap_i64, wrap_u64]; first | done | rfl | exact ⟨rfl, rfl⟩)
    | (refine Wt.i ?_; first | rfl | (simp; done))
    | (refine Ns.i ?_; (try simp only [List.append_nil, List.nil_append, List.cons_append, List.append_assoc, List.length_append, List.length_cons, List.length_nil, Nat.zero_add, Nat.reduceAdd]); rfl) | rfl
    | (apply SL.pass; (focus (refine Wt.i ?_; rfl))) | apply SL.move | apply SL.assign | apply SL.load | apply SL.binOp | apply SL.append | apply SL.builtin | apply SL.fieldAddr | apply SL.indexAddr | apply SL.field | apply SL.extract
    | apply SL.fcall | apply SL.pick | apply SL.store | apply SL.unOp | apply SL.convert | apply SL.index | apply SL.slice | apply SL.build | apply SL.nilCheck | apply SL.buildSlice | apply SL.box | apply SL.alloc | apply SL.makeFunc
    | apply SQ.nil | (apply WL.reg; (focus decide +kernel)) | (apply WL.drawP (by assumption); (focus decide +kernel); (focus decide +kernel)) | (apply WL.drawF; (focus decide +kernel); (focus decide +kernel))
    | (apply WL.reg1; (focus decide +kernel)) | (apply WL.drawP1 (by assumption); (focus decide +kernel); (focus decide +kernel)) | (apply WL.drawF1; (focus decide +kernel); (focus decide +kernel)) | apply WL.skip | (apply WL.ct; (focus rfl))
    | (apply WL.cf; (focus rfl)) | refine SeqQ.normal ?_ | refine SeqQ.ret ?_ | refine SeqQ.exit ?_ | refine BlockQ.normal ?_ | refine BlockQ.ret ?_ | refine BlockQ.here ?_ | refine BlockQ.there (by decide) ?_ | refine Wp.block ?_
    | refine Wp.skip ?_ | refine Wp.ret ?_ | refine Wp.exit ?_ | refine LoopI.ret ?_ | refine LoopI.exit ?_ | refine LoopQ.normal ?_ | refine LoopQ.ret ?_ | refine LoopQ.exit ?_ | refine Wp.seq (Wp.seq ?_) | refine Wp.seq (Wp.block ?_)
    | (refine Wp.seq ?_; apply WL.ct; (focus rfl)) | (refine Wp.seq ?_; apply WL.cf; (focus rfl)))
  refine Wp.loopI (fun m fr σ => ∃ (i : Nat), ∃ gg : Nat → PD, (i + m = 16) ∧ fr = [Em.plan3.emb x, .ptr 0 0, .ptr 1 0, .ptr 2 0, .int .i64 i, gg 5, gg 6, gg 7, gg 8, gg 9, gg 10, gg 11, gg 12, gg 13, gg 14, gg 15, gg 16, gg 17, gg 18, gg 19, gg 20, gg 21, gg 22, gg 23, gg 24, gg 25, gg 26, gg 27, gg 28, gg 29, gg 30] ∧ σ = [.box (Em.plan3.emb x), .box (Em.notes.emb noNotes), .box (Em.notes.emb (makeTo x i))]) ?_ (16) (by refine ⟨0, ?_⟩; exact exF (by omega) (by (first | rfl | (simp [makeTo, noNotes, tn]; repeat (first | rfl | (apply And.intro))) | (simp [makeTo, noNotes, tn]; done))) (by (first | rfl | (simp [makeTo, noNotes, tn]; repeat (first | rfl | (apply And.intro))) | (simp [makeTo, noNotes, tn]; done))))
  rintro m fr σ ⟨i, gg, hI, rfl, rfl⟩
  by_cases hi : i < 16
  · have q1 : (i : Int) < 16 := by omega
    obtain ⟨d, hd⟩ : ∃ d, d = x.bits / 2 ^ i := ⟨_, rfl⟩
    have hdk : d ≤ x.bits := by rw [hd]; exact Nat.div_le_self _ _
    have hshr := shr_u16 (n := x.bits) (i := i) hi
    rw [← hd] at hshr
    have htb : x.bits.testBit i = decide (d % 2 = 1) := by rw [Nat.testBit_eq_decide_div_mod_eq, ← hd]
    by_cases hb : d % 2 = 1
    · have hand : pbits .and .u16 (d : Int) 1 = some 1 := by rw [and_one_u16 (by omega), hb]; rfl
      by_cases hn : (r : Int) + (i : Int) ≤ 127
      · have hs : makeTo x (i + 1) = withN (makeTo x i) (r + i) := by rw [makeTo, if_pos ⟨by rw [htb]; simp [hb], by omega⟩, hr]
        have hn0 : 0 ≤ (r : Int) + (i : Int) := by omega
        have hn2 : ((r : Int) + (i : Int)).toNat = r + i := by omega
        repeat (first
          | (refine Fr.i ?_; simp only [pput, List.set_cons_zero, List.set_cons_succ]; try rfl)
          | (refine By.i ?_; simp (disch := first | omega | (simp; done) | (simp; omega)) [wrap_i64, wrap_u64, q1, htm, hshr, hand, hn, hn0, hn2, h1, entry, gf2]; first | done | rfl | exact ⟨rfl, rfl⟩)
          | (refine Wt.i ?_; first | rfl | (simp [q1, htm, hshr, hand, hn, hn0, hn2, h1, entry, gf2]; done))
          | (refine Ns.i ?_; (try simp only [List.append_nil, List.nil_append, List.cons_append, List.append_assoc, List.length_append, List.length_cons, List.length_nil, Nat.zero_add, Nat.reduceAdd]); rfl) | rfl
          | (apply SL.pass; (focus (refine Wt.i ?_; rfl))) | apply SL.move | apply SL.assign | apply SL.load | apply SL.binOp | apply SL.append | apply SL.builtin | apply SL.fieldAddr | apply SL.indexAddr | apply SL.field | apply SL.extract
          | apply SL.fcall | apply SL.pick | apply SL.store | apply SL.unOp | apply SL.convert | apply SL.index | apply SL.slice | apply SL.build | apply SL.nilCheck | apply SL.buildSlice | apply SL.box | apply SL.alloc | apply SL.makeFunc
          | apply SQ.nil | (apply WL.reg; (focus decide +kernel)) | (apply WL.drawP (by assumption); (focus decide +kernel); (focus decide +kernel)) | (apply WL.drawF; (focus decide +kernel); (focus decide +kernel))
          | (apply WL.reg1; (focus decide +kernel)) | (apply WL.drawP1 (by assumption); (focus decide +kernel); (focus decide +kernel)) | (apply WL.drawF1; (focus decide +kernel); (focus decide +kernel)) | apply WL.skip
          | (apply WL.ct; (focus rfl)) | (apply WL.cf; (focus rfl)) | refine SeqQ.normal ?_ | refine SeqQ.ret ?_ | refine SeqQ.exit ?_ | refine BlockQ.normal ?_ | refine BlockQ.ret ?_ | refine BlockQ.here ?_
          | refine BlockQ.there (by decide) ?_ | refine Wp.block ?_ | refine Wp.skip ?_ | refine Wp.ret ?_ | refine Wp.exit ?_ | refine LoopI.ret ?_ | refine LoopI.exit ?_ | refine LoopQ.normal ?_ | refine LoopQ.ret ?_ | refine LoopQ.exit ?_
          | refine Wp.seq (Wp.seq ?_) | refine Wp.seq (Wp.block ?_) | (refine Wp.seq ?_; apply WL.ct; (focus rfl)) | (refine Wp.seq ?_; apply WL.cf; (focus rfl)))
        refine LoopI.normal (m - 1) (by omega) (by refine ⟨i + 1, ?_⟩; exact exF (by omega) (by (first | rfl | (simp [hs]; repeat (first | rfl | (apply And.intro))) | (simp [hs]; done))) (by (first | rfl | (simp [hs]; repeat (first | rfl | (apply And.intro))) | (simp [hs]; done))))
      · have hs : makeTo x (i + 1) = makeTo x i := by rw [makeTo, if_neg (by omega)]
        repeat (first
          | (refine Fr.i ?_; simp only [pput, List.set_cons_zero, List.set_cons_succ]; try rfl)
          | (refine By.i ?_; simp (disch := first | omega | (simp; done) | (simp; omega)) [wrap_i64, wrap_u64, q1, htm, hshr, hand, hn]; first | done | rfl | exact ⟨rfl, rfl⟩)
          | (refine Wt.i ?_; first | rfl | (simp [q1, htm, hshr, hand, hn]; done))
          | (refine Ns.i ?_; (try simp only [List.append_nil, List.nil_append, List.cons_append, List.append_assoc, List.length_append, List.length_cons, List.length_nil, Nat.zero_add, Nat.reduceAdd]); rfl) | rfl
          | (apply SL.pass; (focus (refine Wt.i ?_; rfl))) | apply SL.move | apply SL.assign | apply SL.load | apply SL.binOp | apply SL.append | apply SL.builtin | apply SL.fieldAddr | apply SL.indexAddr | apply SL.field | apply SL.extract
          | apply SL.fcall | apply SL.pick | apply SL.store | apply SL.unOp | apply SL.convert | apply SL.index | apply SL.slice | apply SL.build | apply SL.nilCheck | apply SL.buildSlice | apply SL.box | apply SL.alloc | apply SL.makeFunc
          | apply SQ.nil | (apply WL.reg; (focus decide +kernel)) | (apply WL.drawP (by assumption); (focus decide +kernel); (focus decide +kernel)) | (apply WL.drawF; (focus decide +kernel); (focus decide +kernel))
          | (apply WL.reg1; (focus decide +kernel)) | (apply WL.drawP1 (by assumption); (focus decide +kernel); (focus decide +kernel)) | (apply WL.drawF1; (focus decide +kernel); (focus decide +kernel)) | apply WL.skip
          | (apply WL.ct; (focus rfl)) | (apply WL.cf; (focus rfl)) | refine SeqQ.normal ?_ | refine SeqQ.ret ?_ | refine SeqQ.exit ?_ | refine BlockQ.normal ?_ | refine BlockQ.ret ?_ | refine BlockQ.here ?_
          | refine BlockQ.there (by decide) ?_ | refine Wp.block ?_ | refine Wp.skip ?_ | refine Wp.ret ?_ | refine Wp.exit ?_ | refine LoopI.ret ?_ | refine LoopI.exit ?_ | refine LoopQ.normal ?_ | refine LoopQ.ret ?_ | refine LoopQ.exit ?_
          | refine Wp.seq (Wp.seq ?_) | refine Wp.seq (Wp.block ?_) | (refine Wp.seq ?_; apply WL.ct; (focus rfl)) | (refine Wp.seq ?_; apply WL.cf; (focus rfl)))
        refine LoopI.normal (m - 1) (by omega) (by refine ⟨i + 1, ?_⟩; exact exF (by omega) (by (first | rfl | (simp [hs]; repeat (first | rfl | (apply And.intro))) | (simp [hs]; done))) (by (first | rfl | (simp [hs]; repeat (first | rfl | (apply And.intro))) | (simp [hs]; done))))
    · have hb0 : d % 2 = 0 := by omega
      have hand : pbits .and .u16 (d : Int) 1 = some 0 := by rw [and_one_u16 (by omega), hb0]; rfl
      have hs : makeTo x (i + 1) = makeTo x i := by rw [makeTo, if_neg (by rw [htb]; simp [hb0])]
      repeat (first
        | (refine Fr.i ?_; simp only [pput, List.set_cons_zero, List.set_cons_succ]; try rfl)
        | (refine By.i ?_; simp (disch := first | omega | (simp; done) | (simp; omega)) [wrap_i64, wrap_u64, q1, htm, hshr, hand]; first | done | rfl | exact ⟨rfl, rfl⟩) | (refine Wt.i ?_; first | rfl | (simp [q1, htm, hshr, hand]; done))
        | (refine Ns.i ?_; (try simp only [List.append_nil, List.nil_append, List.cons_append, List.append_assoc, List.length_append, List.length_cons, List.length_nil, Nat.zero_add, Nat.reduceAdd]); rfl) | rfl
        | (apply SL.pass; (focus (refine Wt.i ?_; rfl))) | apply SL.move | apply SL.assign | apply SL.load | apply SL.binOp | apply SL.append | apply SL.builtin | apply SL.fieldAddr | apply SL.indexAddr | apply SL.field | apply SL.extract
        | apply SL.fcall | apply SL.pick | apply SL.store | apply SL.unOp | apply SL.convert | apply SL.index | apply SL.slice | apply SL.build | apply SL.nilCheck | apply SL.buildSlice | apply SL.box | apply SL.alloc | apply SL.makeFunc
        | apply SQ.nil | (apply WL.reg; (focus decide +kernel)) | (apply WL.drawP (by assumption); (focus decide +kernel); (focus decide +kernel)) | (apply WL.drawF; (focus decide +kernel); (focus decide +kernel))
        | (apply WL.reg1; (focus decide +kernel)) | (apply WL.drawP1 (by assumption); (focus decide +kernel); (focus decide +kernel)) | (apply WL.drawF1; (focus decide +kernel); (focus decide +kernel)) | apply WL.skip
        | (apply WL.ct; (focus rfl)) | (apply WL.cf; (focus rfl)) | refine SeqQ.normal ?_ | refine SeqQ.ret ?_ | refine SeqQ.exit ?_ | refine BlockQ.normal ?_ | refine BlockQ.ret ?_ | refine BlockQ.here ?_ | refine BlockQ.there (by decide) ?_
        | refine Wp.block ?_ | refine Wp.skip ?_ | refine Wp.ret ?_ | refine Wp.exit ?_ | refine LoopI.ret ?_ | refine LoopI.exit ?_ | refine LoopQ.normal ?_ | refine LoopQ.ret ?_ | refine LoopQ.exit ?_ | refine Wp.seq (Wp.seq ?_)
        | refine Wp.seq (Wp.block ?_) | (refine Wp.seq ?_; apply WL.ct; (focus rfl)) | (refine Wp.seq ?_; apply WL.cf; (focus rfl)))
      refine LoopI.normal (m - 1) (by omega) (by refine ⟨i + 1, ?_⟩; exact exF (by omega) (by (first | rfl | (simp [hs]; repeat (first | rfl | (apply And.intro))) | (simp [hs]; done))) (by (first | rfl | (simp [hs]; repeat (first | rfl | (apply And.intro))) | (simp [hs]; done))))
  · have q1 : ¬ (i : Int) < 16 := by omega
    have hi2 : i = 16 := by omega
    subst hi2
    repeat (first
      | (refine Fr.i ?_; simp only [pput, List.set_cons_zero, List.set_cons_succ]; try rfl) | (refine By.i ?_; simp (disch := first | omega | (simp; done) | (simp; omega)) [wrap_i64, wrap_u64, q1]; first | done | rfl | exact ⟨rfl, rfl⟩)
      | (refine Wt.i ?_; first | rfl | (simp [q1]; done))
      | (refine Ns.i ?_; (try simp only [List.append_nil, List.nil_append, List.cons_append, List.append_assoc, List.length_append, List.length_cons, List.length_nil, Nat.zero_add, Nat.reduceAdd]); rfl) | rfl
      | (apply SL.pass; (focus (refine Wt.i ?_; rfl))) | apply SL.move | apply SL.assign | apply SL.load | apply SL.binOp | apply SL.append | apply SL.builtin | apply SL.fieldAddr | apply SL.indexAddr | apply SL.field | apply SL.extract
      | apply SL.fcall | apply SL.pick | apply SL.store | apply SL.unOp | apply SL.convert | apply SL.index | apply SL.slice | apply SL.build | apply SL.nilCheck | apply SL.buildSlice | apply SL.box | apply SL.alloc | apply SL.makeFunc
      | apply SQ.nil | (apply WL.reg; (focus decide +kernel)) | (apply WL.drawP (by assumption); (focus decide +kernel); (focus decide +kernel)) | (apply WL.drawF; (focus decide +kernel); (focus decide +kernel))
      | (apply WL.reg1; (focus decide +kernel)) | (apply WL.drawP1 (by assumption); (focus decide +kernel); (focus decide +kernel)) | (apply WL.drawF1; (focus decide +kernel); (focus decide +kernel)) | apply WL.skip
      | (apply WL.ct; (focus rfl)) | (apply WL.cf; (focus rfl)) | refine SeqQ.normal ?_ | refine SeqQ.ret ?_ | refine SeqQ.exit ?_ | refine BlockQ.normal ?_ | refine BlockQ.ret ?_ | refine BlockQ.here ?_ | refine BlockQ.there (by decide) ?_
      | refine Wp.block ?_ | refine Wp.skip ?_ | refine Wp.ret ?_ | refine Wp.exit ?_ | refine LoopI.ret ?_ | refine LoopI.exit ?_ | refine LoopQ.normal ?_ | refine LoopQ.ret ?_ | refine LoopQ.exit ?_ | refine Wp.seq (Wp.seq ?_)
      | refine Wp.seq (Wp.block ?_) | (refine Wp.seq ?_; apply WL.ct; (focus rfl)) | (refine Wp.seq ?_; apply WL.cf; (focus rfl)))
    simp (disch := first | omega | (simp; done) | (simp; omega)) [decide_eq_decide] <;> try rfl

theorem r_SpanCrosses (h0 : E 4 = none) (hk : E 12 = some (entry (gf0 .bool (some true)))) (hc : E 13 = some (entry (gf1 .player i64 fun p => some (errOf p))))
    (h1 : E 19 = some (entry (gf1 .plan3 .notes fun x => gif (fitsP x) (some (makeTo x 16))))) (h2 : E 14 = some (entry (gf1 .notes i64s fun s => some s.list)))
    (h3 : E 17 = some (entry (gf2 .player .notes (Em.notes.tup4 .notes .bool i64) fun p s => some (twoF p s))))
    (h4 : E 20 = some (entry (gf3 i64s i64 i64 .bool fun l n w => gif ((l.length : Int) < 1000000) (some (holdsOk l n w))))) (p : Player) (x : Plan3) (hx : fitsP x) :
    Run Tryd.prog E 4 [Em.player.emb p, Em.plan3.emb x] (.bool true) := by
  apply Run.bodyL h0 Tryd.func4 rfl
  focus (simp [show Tryd.f4.ntmps = _ from rfl, List.replicate]; rfl)
  obtain ⟨s, hs⟩ : ∃ s, makeTo x 16 = s := ⟨_, rfl⟩
  by_cases h : errOf p = 0
  · by_cases hl : 10 < (s.list.length : Int)
    · repeat (first
        | (refine Fr.i ?_; simp only [pput, List.set_cons_zero, List.set_cons_succ]; try rfl)
        | (refine By.i ?_; simp (disch := first | omega | (simp; done) | (simp; omega)) [wrap_i64, wrap_u64, h, hk, hc, h1, h2, hx, hs, hl, entry, gf0, gf1]; first | done | rfl | exact ⟨rfl, rfl⟩)
        | (refine Wt.i ?_; first | rfl | (simp [h, hk, hc, h1, h2, hx, hs, hl, entry, gf0, gf1]; done))
        | (refine Ns.i ?_; (try simp only [List.append_nil, List.nil_append, List.cons_append, List.append_assoc, List.length_append, List.length_cons, List.length_nil, Nat.zero_add, Nat.reduceAdd]); rfl) | rfl
        | (apply SL.pass; (focus (refine Wt.i ?_; rfl))) | apply SL.move | apply SL.assign | apply SL.load | apply SL.binOp | apply SL.append | apply SL.builtin | apply SL.fieldAddr | apply SL.indexAddr | apply SL.field | apply SL.extract
        | apply SL.fcall | apply SL.pick | apply SL.store | apply SL.unOp | apply SL.convert | apply SL.index | apply SL.slice | apply SL.build | apply SL.nilCheck | apply SL.buildSlice | apply SL.box | apply SL.alloc | apply SL.makeFunc
        | apply SQ.nil | (apply WL.reg; (focus decide +kernel)) | (apply WL.drawP (by assumption); (focus decide +kernel); (focus decide +kernel)) | (apply WL.drawF; (focus decide +kernel); (focus decide +kernel))
        | (apply WL.reg1; (focus decide +kernel)) | (apply WL.drawP1 (by assumption); (focus decide +kernel); (focus decide +kernel)) | (apply WL.drawF1; (focus decide +kernel); (focus decide +kernel)) | apply WL.skip
        | (apply WL.ct; (focus rfl)) | (apply WL.cf; (focus rfl)) | refine SeqQ.normal ?_ | refine SeqQ.ret ?_ | refine SeqQ.exit ?_ | refine BlockQ.normal ?_ | refine BlockQ.ret ?_ | refine BlockQ.here ?_ | refine BlockQ.there (by decide) ?_
        | refine Wp.block ?_ | refine Wp.skip ?_ | refine Wp.ret ?_ | refine Wp.exit ?_ | refine LoopI.ret ?_ | refine LoopI.exit ?_ | refine LoopQ.normal ?_ | refine LoopQ.ret ?_ | refine LoopQ.exit ?_ | refine Wp.seq (Wp.seq ?_)
        | refine Wp.seq (Wp.block ?_) | (refine Wp.seq ?_; apply WL.ct; (focus rfl)) | (refine Wp.seq ?_; apply WL.cf; (focus rfl)))
      simp (disch := first | omega | (simp; done) | (simp; omega)) [decide_eq_decide] <;> try rfl
    · have hcl := cross_law p s h
      obtain ⟨l, hll⟩ : ∃ l, s.list = l := ⟨_, rfl⟩
      have hT : ∃ a b, twoF p s = (a, b, decide (divs1 p l ≠ []), 0) := by
        rw [twoF, if_pos h, allL, hll]
        cases divs1 p l with
        | nil => exact ⟨noNotes, noNotes, rfl⟩
        | cons t ts => exact ⟨(divAt s t).1, (divAt s t).2, rfl⟩
      obtain ⟨a0, b0, hT⟩ := hT
      rw [hll] at hcl hl
      obtain ⟨f, hf⟩ : ∃ f, decide (divs1 p l ≠ []) = f := ⟨_, rfl⟩
      rw [hf] at hT hcl
      repeat (first
        | (refine Fr.i ?_; simp only [pput, List.set_cons_zero, List.set_cons_succ]; try rfl)
        | (refine By.i ?_; simp (disch := first | omega | (simp; done) | (simp; omega)) [wrap_i64, wrap_u64, h, hk, hc, h1, h2, h3, hx, hs, hll, hl, hT, entry, gf0, gf1, gf2]; first | done | rfl | exact ⟨rfl, rfl⟩)
        | (refine Wt.i ?_; first | rfl | (simp [h, hk, hc, h1, h2, h3, hx, hs, hll, hl, hT, entry, gf0, gf1, gf2]; done))
        | (refine Ns.i ?_; (try simp only [List.append_nil, List.nil_append, List.cons_append, List.append_assoc, List.length_append, List.length_cons, List.length_nil, Nat.zero_add, Nat.reduceAdd]); rfl) | rfl
        | (apply SL.pass; (focus (refine Wt.i ?_; rfl))) | apply SL.move | apply SL.assign | apply SL.load | apply SL.binOp | apply SL.append | apply SL.builtin | apply SL.fieldAddr | apply SL.indexAddr | apply SL.field | apply SL.extract
        | apply SL.fcall | apply SL.pick | apply SL.store | apply SL.unOp | apply SL.convert | apply SL.index | apply SL.slice | apply SL.build | apply SL.nilCheck | apply SL.buildSlice | apply SL.box | apply SL.alloc | apply SL.makeFunc
        | apply SQ.nil | (apply WL.reg; (focus decide +kernel)) | (apply WL.drawP (by assumption); (focus decide +kernel); (focus decide +kernel)) | (apply WL.drawF; (focus decide +kernel); (focus decide +kernel))
        | (apply WL.reg1; (focus decide +kernel)) | (apply WL.drawP1 (by assumption); (focus decide +kernel); (focus decide +kernel)) | (apply WL.drawF1; (focus decide +kernel); (focus decide +kernel)) | apply WL.skip
        | (apply WL.ct; (focus rfl)) | (apply WL.cf; (focus rfl)) | refine SeqQ.normal ?_ | refine SeqQ.ret ?_ | refine SeqQ.exit ?_ | refine BlockQ.normal ?_ | refine BlockQ.ret ?_ | refine BlockQ.here ?_ | refine BlockQ.there (by decide) ?_
        | refine Wp.block ?_ | refine Wp.skip ?_ | refine Wp.ret ?_ | refine Wp.exit ?_ | refine LoopI.ret ?_ | refine LoopI.exit ?_ | refine LoopQ.normal ?_ | refine LoopQ.ret ?_ | refine LoopQ.exit ?_ | refine Wp.seq (Wp.seq ?_)
        | refine Wp.seq (Wp.block ?_) | (refine Wp.seq ?_; apply WL.ct; (focus rfl)) | (refine Wp.seq ?_; apply WL.cf; (focus rfl)))
      obtain ⟨N, hN⟩ : ∃ N, N = 2 ^ l.length := ⟨_, rfl⟩
      have hN10 : N ≤ 1024 := by rw [hN]; exact Nat.pow_le_pow_right (n := 2) (j := 10) (by omega) (by omega)
      have hsh := shl_one_i64 (w := l.length) (by omega)
      rw [← hN] at hsh hcl
      clear hf
      refine Wp.loopI (fun m fr σ => ∃ (k : Nat) (y : Bool) (J : List SObj), ∃ gg : Nat → PD, (k + m = N ∧ y = anyTo p l k) ∧ fr = Em.player.emb p :: Em.plan3.emb x :: .ptr 0 0 :: .ptr 1 0 :: .bool false :: .ptr 2 0 :: i64s.emb l :: .ptr 3 0 :: .ptr 4 0 :: .bool f :: .int .i64 0 :: .bool y :: .int .i64 k :: gg 13 :: gg 14 :: gg 15 :: gg 16 :: gg 17 :: gg 18 :: gg 19 :: gg 20 :: gg 21 :: gg 22 :: gg 23 :: gg 24 :: gg 25 :: gg 26 :: gg 27 :: gg 28 :: gg 29 :: gg 30 :: gg 31 :: gg 32 :: gg 33 :: gg 34 :: gg 35 :: gg 36 :: gg 37 :: gg 38 :: gg 39 :: gg 40 :: gg 41 :: gg 42 :: gg 43 :: gg 44 :: gg 45 :: gg 46 :: gg 47 :: gg 48 :: gg 49 :: gg 50 :: gg 51 :: gg 52 :: gg 53 :: gg 54 :: gg 55 :: gg 56 :: gg 57 :: gg 58 :: gg 59 :: gg 60 :: gg 61 :: gg 62 :: gg 63 :: gg 64 :: gg 65 :: gg 66 :: gg 67 :: gg 68 :: gg 69 :: gg 70 :: gg 71 :: gg 72 :: gg 73 :: gg 74 :: gg 75 :: gg 76 :: gg 77 :: gg 78 :: gg 79 :: gg 80 :: gg 81 :: gg 82 :: gg 83 :: gg 84 :: gg 85 :: gg 86 :: gg 87 :: gg 88 :: gg 89 :: gg 90 :: gg 91 :: gg 92 :: gg 93 :: gg 94 :: gg 95 :: gg 96 :: gg 97 :: [] ∧ σ = .box (Em.player.emb p) :: .box (Em.plan3.emb x) :: .box (Em.notes.emb s) :: .box (Em.notes.emb a0) :: .box (Em.notes.emb b0) :: J) ?_ (N) (by refine ⟨0, false, [], ?_⟩; exact exF (⟨by omega, rfl⟩) (by (first | rfl | (simp []; repeat (first | rfl | (apply And.intro))) | (simp []; done))) (by (first | rfl | (simp []; repeat (first | rfl | (apply And.intro))) | (simp []; done))))
      rintro m fr σ ⟨k, y, J, gg, hI, rfl, rfl⟩
      obtain ⟨hm, hy⟩ := hI
      by_cases hkN : k < N
      · have q1 : (k : Int) < (N : Int) := by omega
        cases y with
        | true =>
          have hft : f = true := by rw [← hcl]; exact anyTo_mono p l hy.symm (by omega)
          subst hft
          repeat (first
            | (refine Fr.i ?_; simp only [pput, List.set_cons_zero, List.set_cons_succ]; try rfl)
            | (refine By.i ?_; simp (disch := first | omega | (simp; done) | (simp; omega)) [wrap_i64, wrap_u64, q1, hsh]; first | done | rfl | exact ⟨rfl, rfl⟩) | (refine Wt.i ?_; first | rfl | (simp [q1, hsh]; done))
            | (refine Ns.i ?_; (try simp only [List.append_nil, List.nil_append, List.cons_append, List.append_assoc, List.length_append, List.length_cons, List.length_nil, Nat.zero_add, Nat.reduceAdd]); rfl) | rfl
            | (apply SL.pass; (focus (refine Wt.i ?_; rfl))) | apply SL.move | apply SL.assign | apply SL.load | apply SL.binOp | apply SL.append | apply SL.builtin | apply SL.fieldAddr | apply SL.indexAddr | apply SL.field | apply SL.extract
            | apply SL.fcall | apply SL.pick | apply SL.store | apply SL.unOp | apply SL.convert | apply SL.index | apply SL.slice | apply SL.build | apply SL.nilCheck | apply SL.buildSlice | apply SL.box | apply SL.alloc | apply SL.makeFunc
            | apply SQ.nil | (apply WL.reg; (focus decide +kernel)) | (apply WL.drawP (by assumption); (focus decide +kernel); (focus decide +kernel)) | (apply WL.drawF; (focus decide +kernel); (focus decide +kernel))
            | (apply WL.reg1; (focus decide +kernel)) | (apply WL.drawP1 (by assumption); (focus decide +kernel); (focus decide +kernel)) | (apply WL.drawF1; (focus decide +kernel); (focus decide +kernel)) | apply WL.skip
            | (apply WL.ct; (focus rfl)) | (apply WL.cf; (focus rfl)) | refine SeqQ.normal ?_ | refine SeqQ.ret ?_ | refine SeqQ.exit ?_ | refine BlockQ.normal ?_ | refine BlockQ.ret ?_ | refine BlockQ.here ?_
            | refine BlockQ.there (by decide) ?_ | refine Wp.block ?_ | refine Wp.skip ?_ | refine Wp.ret ?_ | refine Wp.exit ?_ | refine LoopI.ret ?_ | refine LoopI.exit ?_ | refine LoopQ.normal ?_ | refine LoopQ.ret ?_ | refine LoopQ.exit ?_
            | refine Wp.seq (Wp.seq ?_) | refine Wp.seq (Wp.block ?_) | (refine Wp.seq ?_; apply WL.ct; (focus rfl)) | (refine Wp.seq ?_; apply WL.cf; (focus rfl)))
          simp (disch := first | omega | (simp; done) | (simp; omega)) [decide_eq_decide] <;> try rfl
        | false =>
          obtain ⟨M, hM⟩ : ∃ M, M = m := ⟨_, rfl⟩
          repeat (first
            | (refine Fr.i ?_; simp only [pput, List.set_cons_zero, List.set_cons_succ]; try rfl)
            | (refine By.i ?_; simp (disch := first | omega | (simp; done) | (simp; omega)) [wrap_i64, wrap_u64, q1, hsh]; first | done | rfl | exact ⟨rfl, rfl⟩) | (refine Wt.i ?_; first | rfl | (simp [q1, hsh]; done))
            | (refine Ns.i ?_; (try simp only [List.append_nil, List.nil_append, List.cons_append, List.append_assoc, List.length_append, List.length_cons, List.length_nil, Nat.zero_add, Nat.reduceAdd]); rfl) | rfl
            | (apply SL.pass; (focus (refine Wt.i ?_; rfl))) | apply SL.move | apply SL.assign | apply SL.load | apply SL.binOp | apply SL.append | apply SL.builtin | apply SL.fieldAddr | apply SL.indexAddr | apply SL.field | apply SL.extract
            | apply SL.fcall | apply SL.pick | apply SL.store | apply SL.unOp | apply SL.convert | apply SL.index | apply SL.slice | apply SL.build | apply SL.nilCheck | apply SL.buildSlice | apply SL.box | apply SL.alloc | apply SL.makeFunc
            | apply SQ.nil | (apply WL.reg; (focus decide +kernel)) | (apply WL.drawP (by assumption); (focus decide +kernel); (focus decide +kernel)) | (apply WL.drawF; (focus decide +kernel); (focus decide +kernel))
            | (apply WL.reg1; (focus decide +kernel)) | (apply WL.drawP1 (by assumption); (focus decide +kernel); (focus decide +kernel)) | (apply WL.drawF1; (focus decide +kernel); (focus decide +kernel)) | apply WL.skip
            | (apply WL.ct; (focus rfl)) | (apply WL.cf; (focus rfl)) | refine SeqQ.normal ?_ | refine SeqQ.ret ?_ | refine SeqQ.exit ?_ | refine BlockQ.normal ?_ | refine BlockQ.ret ?_ | refine BlockQ.here ?_
            | refine BlockQ.there (by decide) ?_ | refine Wp.block ?_ | refine Wp.skip ?_ | refine Wp.ret ?_ | refine Wp.exit ?_ | refine LoopI.ret ?_ | refine LoopI.exit ?_ | refine LoopQ.normal ?_ | refine LoopQ.ret ?_ | refine LoopQ.exit ?_
            | refine Wp.seq (Wp.seq ?_) | refine Wp.seq (Wp.block ?_) | (refine Wp.seq ?_; apply WL.ct; (focus rfl)) | (refine Wp.seq ?_; apply WL.cf; (focus rfl)))
          refine Wp.loopI (fun m fr σ => ∃ (i za zb : Nat) (qa qb : List Int) (ta tb : Tok) (J2 : List SObj), ∃ gg : Nat → PD, (i + m = l.length ∧ qa = selT l k i ∧ qb = selF l k i ∧ (qa = [] ∨ za = 1) ∧ (qb = [] ∨ zb = 1) ∧ RowAt ([.box (Em.player.emb p), .box (Em.plan3.emb x), .box (Em.notes.emb s), .box (Em.notes.emb a0), .box (Em.notes.emb b0)] ++ J2) ta 3 1 qa.length ∧ RowAt ([.box (Em.player.emb p), .box (Em.plan3.emb x), .box (Em.notes.emb s), .box (Em.notes.emb a0), .box (Em.notes.emb b0)] ++ J2) tb 3 1 qb.length ∧ (∀ id, ta = .own id → tb ≠ .own id)) ∧ fr = Em.player.emb p :: Em.plan3.emb x :: .ptr 0 0 :: .ptr 1 0 :: .bool false :: .ptr 2 0 :: i64s.emb l :: .ptr 3 0 :: .ptr 4 0 :: .bool f :: .int .i64 0 :: .bool false :: .int .i64 k :: .slice za (qa.map i64.emb) ta :: .slice zb (qb.map i64.emb) tb :: .int .i64 i :: gg 16 :: gg 17 :: gg 18 :: gg 19 :: gg 20 :: gg 21 :: gg 22 :: gg 23 :: gg 24 :: gg 25 :: gg 26 :: gg 27 :: gg 28 :: gg 29 :: gg 30 :: gg 31 :: gg 32 :: gg 33 :: gg 34 :: gg 35 :: gg 36 :: gg 37 :: gg 38 :: gg 39 :: gg 40 :: gg 41 :: gg 42 :: gg 43 :: gg 44 :: gg 45 :: gg 46 :: gg 47 :: gg 48 :: gg 49 :: gg 50 :: gg 51 :: gg 52 :: gg 53 :: gg 54 :: gg 55 :: gg 56 :: gg 57 :: gg 58 :: gg 59 :: gg 60 :: gg 61 :: gg 62 :: gg 63 :: gg 64 :: gg 65 :: gg 66 :: gg 67 :: gg 68 :: gg 69 :: gg 70 :: gg 71 :: gg 72 :: gg 73 :: gg 74 :: gg 75 :: gg 76 :: gg 77 :: gg 78 :: gg 79 :: gg 80 :: gg 81 :: gg 82 :: gg 83 :: gg 84 :: gg 85 :: gg 86 :: gg 87 :: gg 88 :: gg 89 :: gg 90 :: gg 91 :: gg 92 :: gg 93 :: gg 94 :: gg 95 :: gg 96 :: gg 97 :: [] ∧ σ = .box (Em.player.emb p) :: .box (Em.plan3.emb x) :: .box (Em.notes.emb s) :: .box (Em.notes.emb a0) :: .box (Em.notes.emb b0) :: J2) ?_ (l.length) (by refine ⟨0, 0, 0, [], [], .full, .full, J, ?_⟩; exact exF (⟨by omega, rfl, rfl, .inl rfl, .inl rfl, .inl ⟨rfl, rfl⟩, .inl ⟨rfl, rfl⟩, fun id e => by cases e⟩) (by (first | rfl | (simp []; repeat (first | rfl | (apply And.intro))) | (simp []; done))) (by (first | rfl | (simp []; repeat (first | rfl | (apply And.intro))) | (simp []; done))))
          rintro m fr σ ⟨i, za, zb, qa, qb, ta, tb, J2, gg, hI, rfl, rfl⟩
          obtain ⟨hm2, hqa, hqb, hza, hzb, hra, hrb, hne⟩ := hI
          have hsl := sel_len l k i
          rw [← hqa, ← hqb] at hsl
          by_cases hi : i < l.length
          · have q2 : (i : Int) < (l.length : Int) := by omega
            obtain ⟨d, hd⟩ : ∃ d, d = k / 2 ^ i := ⟨_, rfl⟩
            have hdk : d ≤ k := by rw [hd]; exact Nat.div_le_self _ _
            have hshr := shr_i64 (n := k) (i := i) (by omega) (by omega)
            rw [← hd] at hshr
            have htb : k.testBit i = decide (d % 2 = 1) := by rw [Nat.testBit_eq_decide_div_mod_eq, ← hd]
            have hsT := selT_succ l k i
            have hsF := selF_succ l k i
            have hgd : l.getD i 0 = l[i] := by simp [List.getElem?_eq_getElem hi]
            rw [← hqa, hgd] at hsT
            rw [← hqb, hgd] at hsF
            by_cases hb : d % 2 = 1
            · have hand : pbits .and .i64 (d : Int) 1 = some 1 := by rw [and_one_i64 (by omega), hb]; rfl
              rw [htb, hb] at hsT hsF
              simp only [decide_true, if_true] at hsT hsF
              focus
                obtain ⟨tok', J3, hap, hr', hkeep⟩ := pappend_rowB (P := Tryd.prog) (B := [.box (Em.player.emb p), .box (Em.plan3.emb x), .box (Em.notes.emb s), .box (Em.notes.emb a0), .box (Em.notes.emb b0)]) (J := J2) (t := 30) (e := 3) (k := 1) (b := 8) (s := za) (xs := qa.map i64.emb) (p := i64.emb l[i]) (tk := .any) (tok := ta)
                  (by intro o ho; simp only [List.mem_cons, List.not_mem_nil, or_false] at ho; rcases ho with rfl | rfl | rfl | rfl | rfl <;> trivial) Tryd.underlying30 (by kernel_rfl) (by simpa using hza) (by rw [List.length_map]; exact hra) (by rw [List.length_map]; omega) (by rw [List.length_map]; omega)
                obtain ⟨hro, hne'⟩ := hkeep _ _ _ _ hrb hne
                obtain ⟨X, hX⟩ : ∃ X, X = (qa ++ [l[i]]).map i64.emb := ⟨_, rfl⟩
                rw [show qa.map i64.emb ++ [i64.emb l[i]] = X by rw [hX, List.map_append]; rfl] at hap
                simp only [emb_player, emb_plan3, emb_notes, emb_int, List.cons_append, List.nil_append] at hap
                repeat (first
                  | (refine Fr.i ?_; simp only [pput, List.set_cons_zero, List.set_cons_succ]; try rfl)
                  | (refine By.i ?_; simp (disch := first | omega | (simp; done) | (simp; omega)) [wrap_i64, wrap_u64, q2, hshr, hand, hap]; first | done | rfl | exact ⟨rfl, rfl⟩)
                  | (refine Wt.i ?_; first | rfl | (simp [q2, hshr, hand, hap]; done))
                  | (refine Ns.i ?_; (try simp only [List.append_nil, List.nil_append, List.cons_append, List.append_assoc, List.length_append, List.length_cons, List.length_nil, Nat.zero_add, Nat.reduceAdd]); rfl) | rfl
                  | (apply SL.pass; (focus (refine Wt.i ?_; rfl))) | apply SL.move | apply SL.assign | apply SL.load | apply SL.binOp | apply SL.append | apply SL.builtin | apply SL.fieldAddr | apply SL.indexAddr | apply SL.field
                  | apply SL.extract | apply SL.fcall | apply SL.pick | apply SL.store | apply SL.unOp | apply SL.convert | apply SL.index | apply SL.slice | apply SL.build | apply SL.nilCheck | apply SL.buildSlice | apply SL.box
                  | apply SL.alloc | apply SL.makeFunc | apply SQ.nil | (apply WL.reg; (focus decide +kernel)) | (apply WL.drawP (by assumption); (focus decide +kernel); (focus decide +kernel))
                  | (apply WL.drawF; (focus decide +kernel); (focus decide +kernel)) | (apply WL.reg1; (focus decide +kernel)) | (apply WL.drawP1 (by assumption); (focus decide +kernel); (focus decide +kernel))
                  | (apply WL.drawF1; (focus decide +kernel); (focus decide +kernel)) | apply WL.skip | (apply WL.ct; (focus rfl)) | (apply WL.cf; (focus rfl)) | refine SeqQ.normal ?_ | refine SeqQ.ret ?_ | refine SeqQ.exit ?_
                  | refine BlockQ.normal ?_ | refine BlockQ.ret ?_ | refine BlockQ.here ?_ | refine BlockQ.there (by decide) ?_ | refine Wp.block ?_ | refine Wp.skip ?_ | refine Wp.ret ?_ | refine Wp.exit ?_ | refine LoopI.ret ?_
                  | refine LoopI.exit ?_ | refine LoopQ.normal ?_ | refine LoopQ.ret ?_ | refine LoopQ.exit ?_ | refine Wp.seq (Wp.seq ?_) | refine Wp.seq (Wp.block ?_) | (refine Wp.seq ?_; apply WL.ct; (focus rfl))
                  | (refine Wp.seq ?_; apply WL.cf; (focus rfl)))
                subst hX
                refine LoopI.normal (m - 1) (by omega) (by refine ⟨i + 1, 1, zb, qa ++ [l[i]], qb, tok', tb, J3, ?_⟩; exact exF (⟨by omega, hsT.symm, hsF.symm, .inr rfl, hzb, by simpa using hr', hro, hne'⟩) (by (first | rfl | (simp []; repeat (first | rfl | (apply And.intro))) | (simp []; done))) (by (first | rfl | (simp []; repeat (first | rfl | (apply And.intro))) | (simp []; done))))
            · have hb0 : d % 2 = 0 := by omega
              have hand : pbits .and .i64 (d : Int) 1 = some 0 := by rw [and_one_i64 (by omega), hb0]; rfl
              rw [htb, hb0] at hsT hsF
              simp only [Nat.zero_ne_one, decide_false, Bool.false_eq_true, if_false] at hsT hsF
              focus
                obtain ⟨tok', J3, hap, hr', hkeep⟩ := pappend_rowB (P := Tryd.prog) (B := [.box (Em.player.emb p), .box (Em.plan3.emb x), .box (Em.notes.emb s), .box (Em.notes.emb a0), .box (Em.notes.emb b0)]) (J := J2) (t := 30) (e := 3) (k := 1) (b := 8) (s := zb) (xs := qb.map i64.emb) (p := i64.emb l[i]) (tk := .any) (tok := tb)
                  (by intro o ho; simp only [List.mem_cons, List.not_mem_nil, or_false] at ho; rcases ho with rfl | rfl | rfl | rfl | rfl <;> trivial) Tryd.underlying30 (by kernel_rfl) (by simpa using hzb) (by rw [List.length_map]; exact hrb) (by rw [List.length_map]; omega) (by rw [List.length_map]; omega)
                obtain ⟨hro, hne'⟩ := hkeep _ _ _ _ hra (fun id e1 e2 => hne id e2 e1)
                obtain ⟨X, hX⟩ : ∃ X, X = (qb ++ [l[i]]).map i64.emb := ⟨_, rfl⟩
                rw [show qb.map i64.emb ++ [i64.emb l[i]] = X by rw [hX, List.map_append]; rfl] at hap
                simp only [emb_player, emb_plan3, emb_notes, emb_int, List.cons_append, List.nil_append] at hap
                repeat (first
                  | (refine Fr.i ?_; simp only [pput, List.set_cons_zero, List.set_cons_succ]; try rfl)
                  | (refine By.i ?_; simp (disch := first | omega | (simp; done) | (simp; omega)) [wrap_i64, wrap_u64, q2, hshr, hand, hap]; first | done | rfl | exact ⟨rfl, rfl⟩)
                  | (refine Wt.i ?_; first | rfl | (simp [q2, hshr, hand, hap]; done))
                  | (refine Ns.i ?_; (try simp only [List.append_nil, List.nil_append, List.cons_append, List.append_assoc, List.length_append, List.length_cons, List.length_nil, Nat.zero_add, Nat.reduceAdd]); rfl) | rfl
                  | (apply SL.pass; (focus (refine Wt.i ?_; rfl))) | apply SL.move | apply SL.assign | apply SL.load | apply SL.binOp | apply SL.append | apply SL.builtin | apply SL.fieldAddr | apply SL.indexAddr | apply SL.field
                  | apply SL.extract | apply SL.fcall | apply SL.pick | apply SL.store | apply SL.unOp | apply SL.convert | apply SL.index | apply SL.slice | apply SL.build | apply SL.nilCheck | apply SL.buildSlice | apply SL.box
                  | apply SL.alloc | apply SL.makeFunc | apply SQ.nil | (apply WL.reg; (focus decide +kernel)) | (apply WL.drawP (by assumption); (focus decide +kernel); (focus decide +kernel))
                  | (apply WL.drawF; (focus decide +kernel); (focus decide +kernel)) | (apply WL.reg1; (focus decide +kernel)) | (apply WL.drawP1 (by assumption); (focus decide +kernel); (focus decide +kernel))
                  | (apply WL.drawF1; (focus decide +kernel); (focus decide +kernel)) | apply WL.skip | (apply WL.ct; (focus rfl)) | (apply WL.cf; (focus rfl)) | refine SeqQ.normal ?_ | refine SeqQ.ret ?_ | refine SeqQ.exit ?_
                  | refine BlockQ.normal ?_ | refine BlockQ.ret ?_ | refine BlockQ.here ?_ | refine BlockQ.there (by decide) ?_ | refine Wp.block ?_ | refine Wp.skip ?_ | refine Wp.ret ?_ | refine Wp.exit ?_ | refine LoopI.ret ?_
                  | refine LoopI.exit ?_ | refine LoopQ.normal ?_ | refine LoopQ.ret ?_ | refine LoopQ.exit ?_ | refine Wp.seq (Wp.seq ?_) | refine Wp.seq (Wp.block ?_) | (refine Wp.seq ?_; apply WL.ct; (focus rfl))
                  | (refine Wp.seq ?_; apply WL.cf; (focus rfl)))
                subst hX
                refine LoopI.normal (m - 1) (by omega) (by refine ⟨i + 1, za, 1, qa, qb ++ [l[i]], ta, tok', J3, ?_⟩; exact exF (⟨by omega, hsT.symm, hsF.symm, hza, .inr rfl, hro, by simpa using hr', fun id e1 e2 => hne' id e2 e1⟩) (by (first | rfl | (simp []; repeat (first | rfl | (apply And.intro))) | (simp []; done))) (by (first | rfl | (simp []; repeat (first | rfl | (apply And.intro))) | (simp []; done))))
          · have q2 : ¬ (i : Int) < (l.length : Int) := by omega
            have hil : i = l.length := by omega
            subst hil
            have hat : anyAt p l k = (holdsOk qa p.hn p.hs && holdsOk qb p.hn p.hs) := by rw [anyAt, ← hqa, ← hqb]
            have hnext := anyTo_succ p l k
            rw [← hy, hat, Bool.false_or] at hnext
            have d1 := dec_list (e := i64) (tok := ta) hza
            have d2 := dec_list (e := i64) (tok := tb) hzb
            have q3 : (qa.length : Int) < 1000000 := by omega
            have q4 : (qb.length : Int) < 1000000 := by omega
            cases ho : holdsOk qa p.hn p.hs with
            | false =>
              rw [ho, Bool.false_and] at hnext
              repeat (first
                | (refine Fr.i ?_; simp only [pput, List.set_cons_zero, List.set_cons_succ]; try rfl)
                | (refine By.i ?_; simp (disch := first | omega | (simp; done) | (simp; omega)) [wrap_i64, wrap_u64, q2, h4, d1, d2, q3, q4, ho, entry, gf3]; first | done | rfl | exact ⟨rfl, rfl⟩)
                | (refine Wt.i ?_; first | rfl | (simp [q2, h4, d1, d2, q3, q4, ho, entry, gf3]; done))
                | (refine Ns.i ?_; (try simp only [List.append_nil, List.nil_append, List.cons_append, List.append_assoc, List.length_append, List.length_cons, List.length_nil, Nat.zero_add, Nat.reduceAdd]); rfl) | rfl
                | (apply SL.pass; (focus (refine Wt.i ?_; rfl))) | apply SL.move | apply SL.assign | apply SL.load | apply SL.binOp | apply SL.append | apply SL.builtin | apply SL.fieldAddr | apply SL.indexAddr | apply SL.field
                | apply SL.extract | apply SL.fcall | apply SL.pick | apply SL.store | apply SL.unOp | apply SL.convert | apply SL.index | apply SL.slice | apply SL.build | apply SL.nilCheck | apply SL.buildSlice | apply SL.box
                | apply SL.alloc | apply SL.makeFunc | apply SQ.nil | (apply WL.reg; (focus decide +kernel)) | (apply WL.drawP (by assumption); (focus decide +kernel); (focus decide +kernel))
                | (apply WL.drawF; (focus decide +kernel); (focus decide +kernel)) | (apply WL.reg1; (focus decide +kernel)) | (apply WL.drawP1 (by assumption); (focus decide +kernel); (focus decide +kernel))
                | (apply WL.drawF1; (focus decide +kernel); (focus decide +kernel)) | apply WL.skip | (apply WL.ct; (focus rfl)) | (apply WL.cf; (focus rfl)) | refine SeqQ.normal ?_ | refine SeqQ.ret ?_ | refine SeqQ.exit ?_
                | refine BlockQ.normal ?_ | refine BlockQ.ret ?_ | refine BlockQ.here ?_ | refine BlockQ.there (by decide) ?_ | refine Wp.block ?_ | refine Wp.skip ?_ | refine Wp.ret ?_ | refine Wp.exit ?_ | refine LoopI.ret ?_
                | refine LoopI.exit ?_ | refine LoopQ.normal ?_ | refine LoopQ.ret ?_ | refine LoopQ.exit ?_ | refine Wp.seq (Wp.seq ?_) | refine Wp.seq (Wp.block ?_) | (refine Wp.seq ?_; apply WL.ct; (focus rfl))
                | (refine Wp.seq ?_; apply WL.cf; (focus rfl)))
              refine LoopI.normal (M - 1) (by omega) (by refine ⟨k + 1, false, J2, ?_⟩; exact exF (⟨by omega, hnext.symm⟩) (by (first | rfl | (simp []; repeat (first | rfl | (apply And.intro))) | (simp []; done))) (by (first | rfl | (simp []; repeat (first | rfl | (apply And.intro))) | (simp []; done))))
            | true =>
              rw [ho, Bool.true_and] at hnext
              repeat (first
                | (refine Fr.i ?_; simp only [pput, List.set_cons_zero, List.set_cons_succ]; try rfl)
                | (refine By.i ?_; simp (disch := first | omega | (simp; done) | (simp; omega)) [wrap_i64, wrap_u64, q2, h4, d1, d2, q3, q4, ho, entry, gf3]; first | done | rfl | exact ⟨rfl, rfl⟩)
                | (refine Wt.i ?_; first | rfl | (simp [q2, h4, d1, d2, q3, q4, ho, entry, gf3]; done))
                | (refine Ns.i ?_; (try simp only [List.append_nil, List.nil_append, List.cons_append, List.append_assoc, List.length_append, List.length_cons, List.length_nil, Nat.zero_add, Nat.reduceAdd]); rfl) | rfl
                | (apply SL.pass; (focus (refine Wt.i ?_; rfl))) | apply SL.move | apply SL.assign | apply SL.load | apply SL.binOp | apply SL.append | apply SL.builtin | apply SL.fieldAddr | apply SL.indexAddr | apply SL.field
                | apply SL.extract | apply SL.fcall | apply SL.pick | apply SL.store | apply SL.unOp | apply SL.convert | apply SL.index | apply SL.slice | apply SL.build | apply SL.nilCheck | apply SL.buildSlice | apply SL.box
                | apply SL.alloc | apply SL.makeFunc | apply SQ.nil | (apply WL.reg; (focus decide +kernel)) | (apply WL.drawP (by assumption); (focus decide +kernel); (focus decide +kernel))
                | (apply WL.drawF; (focus decide +kernel); (focus decide +kernel)) | (apply WL.reg1; (focus decide +kernel)) | (apply WL.drawP1 (by assumption); (focus decide +kernel); (focus decide +kernel))
                | (apply WL.drawF1; (focus decide +kernel); (focus decide +kernel)) | apply WL.skip | (apply WL.ct; (focus rfl)) | (apply WL.cf; (focus rfl)) | refine SeqQ.normal ?_ | refine SeqQ.ret ?_ | refine SeqQ.exit ?_
                | refine BlockQ.normal ?_ | refine BlockQ.ret ?_ | refine BlockQ.here ?_ | refine BlockQ.there (by decide) ?_ | refine Wp.block ?_ | refine Wp.skip ?_ | refine Wp.ret ?_ | refine Wp.exit ?_ | refine LoopI.ret ?_
                | refine LoopI.exit ?_ | refine LoopQ.normal ?_ | refine LoopQ.ret ?_ | refine LoopQ.exit ?_ | refine Wp.seq (Wp.seq ?_) | refine Wp.seq (Wp.block ?_) | (refine Wp.seq ?_; apply WL.ct; (focus rfl))
                | (refine Wp.seq ?_; apply WL.cf; (focus rfl)))
              refine LoopI.normal (M - 1) (by omega) (by refine ⟨k + 1, holdsOk qb p.hn p.hs, J2, ?_⟩; exact exF (⟨by omega, hnext.symm⟩) (by (first | rfl | (simp []; repeat (first | rfl | (apply And.intro))) | (simp []; done))) (by (first | rfl | (simp []; repeat (first | rfl | (apply And.intro))) | (simp []; done))))
      · have q1 : ¬ (k : Int) < (N : Int) := by omega
        have hkN2 : k = N := by omega
        subst hkN2
        have hyf : y = f := hy.trans hcl
        subst hyf
        repeat (first
          | (refine Fr.i ?_; simp only [pput, List.set_cons_zero, List.set_cons_succ]; try rfl)
          | (refine By.i ?_; simp (disch := first | omega | (simp; done) | (simp; omega)) [wrap_i64, wrap_u64, q1, hsh]; first | done | rfl | exact ⟨rfl, rfl⟩) | (refine Wt.i ?_; first | rfl | (simp [q1, hsh]; done))
          | (refine Ns.i ?_; (try simp only [List.append_nil, List.nil_append, List.cons_append, List.append_assoc, List.length_append, List.length_cons, List.length_nil, Nat.zero_add, Nat.reduceAdd]); rfl) | rfl
          | (apply SL.pass; (focus (refine Wt.i ?_; rfl))) | apply SL.move | apply SL.assign | apply SL.load | apply SL.binOp | apply SL.append | apply SL.builtin | apply SL.fieldAddr | apply SL.indexAddr | apply SL.field | apply SL.extract
          | apply SL.fcall | apply SL.pick | apply SL.store | apply SL.unOp | apply SL.convert | apply SL.index | apply SL.slice | apply SL.build | apply SL.nilCheck | apply SL.buildSlice | apply SL.box | apply SL.alloc | apply SL.makeFunc
          | apply SQ.nil | (apply WL.reg; (focus decide +kernel)) | (apply WL.drawP (by assumption); (focus decide +kernel); (focus decide +kernel)) | (apply WL.drawF; (focus decide +kernel); (focus decide +kernel))
          | (apply WL.reg1; (focus decide +kernel)) | (apply WL.drawP1 (by assumption); (focus decide +kernel); (focus decide +kernel)) | (apply WL.drawF1; (focus decide +kernel); (focus decide +kernel)) | apply WL.skip
          | (apply WL.ct; (focus rfl)) | (apply WL.cf; (focus rfl)) | refine SeqQ.normal ?_ | refine SeqQ.ret ?_ | refine SeqQ.exit ?_ | refine BlockQ.normal ?_ | refine BlockQ.ret ?_ | refine BlockQ.here ?_
          | refine BlockQ.there (by decide) ?_ | refine Wp.block ?_ | refine Wp.skip ?_ | refine Wp.ret ?_ | refine Wp.exit ?_ | refine LoopI.ret ?_ | refine LoopI.exit ?_ | refine LoopQ.normal ?_ | refine LoopQ.ret ?_ | refine LoopQ.exit ?_
          | refine Wp.seq (Wp.seq ?_) | refine Wp.seq (Wp.block ?_) | (refine Wp.seq ?_; apply WL.ct; (focus rfl)) | (refine Wp.seq ?_; apply WL.cf; (focus rfl)))
        simp (disch := first | omega | (simp; done) | (simp; omega)) [decide_eq_decide] <;> try rfl
  · repeat (first
      | (refine Fr.i ?_; simp only [pput, List.set_cons_zero, List.set_cons_succ]; try rfl)
      | (refine By.i ?_; simp (disch := first | omega | (simp; done) | (simp; omega)) [wrap_i64, wrap_u64, h, hk, hc, h1, h2, hx, hs, entry, gf0, gf1]; first | done | rfl | exact ⟨rfl, rfl⟩)
      | (refine Wt.i ?_; first | rfl | (simp [h, hk, hc, h1, h2, hx, hs, entry, gf0, gf1]; done))
      | (refine Ns.i ?_; (try simp only [List.append_nil, List.nil_append, List.cons_append, List.append_assoc, List.length_append, List.length_cons, List.length_nil, Nat.zero_add, Nat.reduceAdd]); rfl) | rfl
      | (apply SL.pass; (focus (refine Wt.i ?_; rfl))) | apply SL.move | apply SL.assign | apply SL.load | apply SL.binOp | apply SL.append | apply SL.builtin | apply SL.fieldAddr | apply SL.indexAddr | apply SL.field | apply SL.extract
      | apply SL.fcall | apply SL.pick | apply SL.store | apply SL.unOp | apply SL.convert | apply SL.index | apply SL.slice | apply SL.build | apply SL.nilCheck | apply SL.buildSlice | apply SL.box | apply SL.alloc | apply SL.makeFunc
      | apply SQ.nil | (apply WL.reg; (focus decide +kernel)) | (apply WL.drawP (by assumption); (focus decide +kernel); (focus decide +kernel)) | (apply WL.drawF; (focus decide +kernel); (focus decide +kernel))
      | (apply WL.reg1; (focus decide +kernel)) | (apply WL.drawP1 (by assumption); (focus decide +kernel); (focus decide +kernel)) | (apply WL.drawF1; (focus decide +kernel); (focus decide +kernel)) | apply WL.skip
      | (apply WL.ct; (focus rfl)) | (apply WL.cf; (focus rfl)) | refine SeqQ.normal ?_ | refine SeqQ.ret ?_ | refine SeqQ.exit ?_ | refine BlockQ.normal ?_ | refine BlockQ.ret ?_ | refine BlockQ.here ?_ | refine BlockQ.there (by decide) ?_
      | refine Wp.block ?_ | refine Wp.skip ?_ | refine Wp.ret ?_ | refine Wp.exit ?_ | refine LoopI.ret ?_ | refine LoopI.exit ?_ | refine LoopQ.normal ?_ | refine LoopQ.ret ?_ | refine LoopQ.exit ?_ | refine Wp.seq (Wp.seq ?_)
      | refine Wp.seq (Wp.block ?_) | (refine Wp.seq ?_; apply WL.ct; (focus rfl)) | (refine Wp.seq ?_; apply WL.cf; (focus rfl)))
    simp (disch := first | omega | (simp; done) | (simp; omega)) [decide_eq_decide] <;> try rfl

end Go.Kz

/-
  The table, with Make.
-/
namespace Go.Kz
open Go Go.Proofs
set_option maxRecDepth 10000

noncomputable def Ex1 : PExt := Ed10.add 19 (entry (gf1 .plan3 .notes fun x => gif (fitsP x) (some (makeTo x 16))))
theorem Ex1_uni : Uni Ex1 := Ed10_uni.entry
theorem Ex1_ok : ExtOk Tryd.prog Ex1 := Ed10_ok.add1 follows (fun x z hz => by obtain ⟨hg, hz⟩ := gif_some hz; simp only [Option.some.injEq] at hz; subst hz; exact r_Make Ed10_uni rfl rfl x hg)

end Go.Kz

/-
  Plans of sets, as what the laws are handed.
-/
namespace Go.Proofs.YtclleofcjnggaaaDoor
open Go Go.Kz Go.ChangeShapes Go.WideShapes Go.ChangeAt Go.WideMaps Go.WideElems Go.RowKit
set_option maxRecDepth 100000

theorem ty_plan3 {d : Nat} {qs : List PD} (h : Typed Tryd.prog (d + 2) 43 qs) : ∃ x : Plan3, asPD Tryd.prog 43 qs = Em.plan3.emb x ∧ fitsP x := by
  obtain ⟨q0, r0, rfl, h0, h⟩ := typedF_cons (typed_struct Tryd.underlying43 h)
  obtain ⟨q1, r1, rfl, h1, h⟩ := typedF_cons h
  obtain rfl := typedF_nil h
  obtain ⟨a, rfl, wa⟩ := typed_int Tryd.underlying5 h0
  obtain ⟨b, rfl, wb⟩ := typed_int Tryd.underlying41 h1
  obtain ⟨a1, a2⟩ := wf_u8 wa
  obtain ⟨b1, b2⟩ := wf_u16 wb
  obtain ⟨a', rfl⟩ : ∃ n : Nat, a = n := ⟨a.toNat, by omega⟩
  obtain ⟨b', rfl⟩ : ∃ n : Nat, b = n := ⟨b.toNat, by omega⟩
  exact ⟨⟨a', b'⟩, asPD_agg (by kernel_rfl), by unfold fitsP; simp only; omega⟩
end Go.Proofs.YtclleofcjnggaaaDoor

/-
  SpanCrosses holds: the law answers true, whatever it is handed.
-/
namespace Go.Proofs.YtclleofcjnggaaaDoor
open Go Go.Kz Go.ChangeShapes Go.WideShapes Go.ChangeAt Go.WideMaps Go.WideElems Go.RowKit
set_option maxRecDepth 100000

theorem lifted_SpanCrosses (os : Os) (started : os.Started) (H : Type) (enc : TypeId × Value → H) :
    ReturnsInHanded {} Tryd.checked os 4 .any (fun w args => (Rows.spanCrossesSpec.pre enc Tryd.prog Tryd.f4 [] false w args ∧ laidMetH Tryd.prog laidL w) ∧ sizedMet enc Tryd.prog Tryd.f4 (OpenSpec.ofChange Rows.spanCrossesSpec) false w args)
      (Rows.spanCrossesSpec.post enc Tryd.prog Tryd.f4 false true false false) := by
  refine returnsInHanded_of_change_and (C := Tryd.checked) (X := fun w _ => laidMetH Tryd.prog laidL w) (fun _ _ _ hh h => h.of_heap hh) own started (by kernel_rfl) Tryd.func4
    (ChangeSpec.witness_shaped (enc := enc) (C := Tryd.checked) (os := os) (X := fun w _ => laidMetH Tryd.prog laidL w) false (World.doorLaid Tryd.prog 400 os) #[.agg #[.int .i64 0, .int .i64 0, .int .i64 0, .int .i64 0], .agg #[.int .u8 0, .int .u16 0]] 12 rfl (World.shaped_of_RefB (by kernel_rfl) (by kernel_rfl)) (by kernel_rfl) (by kernel_rfl) (by kernel_rfl) (door_met os _)) ?_
  intro W base args ds gs before hval hW _ _ hL _
  have hval : ∀ (j : Nat) t v, Tryd.f4.params[j]? = some t → args[j]? = some v → Value.okWide Tryd.prog W .any base t v := hval
  have hW' := hW
  obtain ⟨p, q, hA, _, _, _, _⟩ := hW
  have hA : DataW.TrodAll enc Tryd.prog W 0 (fun _ => true) true Tryd.f4.params.toList args.toList ds p := hA
  rw [Tryd.params4] at hA hval
  obtain ⟨v1, v2, d1, d2, p1, p2, rfl, _, _, h1, h2⟩ := trodAll_two hA
  obtain ⟨q1, t1, r1⟩ := arg_typed (n := 12) (t := 23) (v := v1) (by kernel_rfl) (hval 0 _ _ rfl rfl) h1
  obtain ⟨p1', e1⟩ := ty_player t1
  rw [e1] at r1
  obtain ⟨q2, t2, r2⟩ := arg_typed (n := 12) (t := 43) (v := v2) (by kernel_rfl) (hval 1 _ _ rfl rfl) h2
  obtain ⟨x1', e2, hx⟩ := ty_plan3 t2
  rw [e2] at r2
  have run := r_SpanCrosses Ex1_uni rfl rfl rfl rfl rfl rfl rfl p1' x1' hx
  refine (Run.calls Ex1_ok follows names run (glob hL) (vrs_cons r1 (vrs_cons r2 vrs_nil))).mono fun e' W' ⟨he, hb⟩ => ?_
  subst he
  exact ⟨_, rfl, law_post laidOut rfl hW' hb rfl Tryd.underlying4 (by kernel_rfl) (fun ds hg hd => by
    subst hg
    match ds, hd with
    | [d1, d2], _ => rfl)⟩

theorem spanCrosses_holds : Rows.SpanCrossesSaid :=
  OpenClaim.holds_of_wide 4 Tryd.f4 rfl rfl rfl rfl rfl rfl rfl ⟨rfl, rfl, rfl, rfl, rfl⟩ rfl rfl rfl rfl rfl (by kernel_rfl) Tryd.func4 (by kernel_rfl)
    (of_decide_eq_true (by kernel_rfl)) (by unfold Func.isWrapper; first | (rw [if_pos (by decide +kernel)]; kernel_rfl) | (rw [if_neg (by decide +kernel)]; exact ⟨rfl, rfl⟩))
    (fun os started H enc _ => lifted_SpanCrosses os started H enc)

theorem spanCrosses_card : Rows.SpanCrossesCardSaid :=
  Claim7.holds_tied_plain_at .later [] [.data] true (true, "40abfb383b17e30e6d7cad2be2972cbafc1276e76edec2d6e229a2e74b8f3c14") false
    spanCrosses_holds (fun _ h => by cases h) (by kernel_rfl) (fun _ h => by cases h) spanCrosses_row_tie rfl ⟨rfl, rfl⟩ (by kernel_rfl) rfl
    (fun f fn hf hfn => by
      obtain rfl : f = 4 := Option.some.inj ((show Tryd.prog.funcNamed "bombarde/bombardelaw11.SpanCrosses" = some 4 by kernel_rfl).symm.trans hf) |>.symm
      obtain rfl : fn = Tryd.f4 := (Option.some.inj (Tryd.func4.symm.trans hfn)).symm
      exact ⟨by kernel_rfl, fun j t ht => by
        rw [Tryd.params4] at ht
        have hm := Array.mem_of_getElem? ht
        have hall : (#[23, 43].all fun u => !Tryd.prog.wantsStandIn u) = true := by kernel_rfl
        have := Array.all_eq_true_iff_forall_mem.1 hall t hm
        exact (show Tryd.prog.wantsStandIn t = false by simpa using this)⟩)
    (by kernel_rfl)
end Go.Proofs.YtclleofcjnggaaaDoor
