/-
  SpanGrows holds: the law answers true, whatever it is handed.
-/
import Derived.Test.YtclleofcjnggaaaDoorP8
import Derived.Test.YtclleofcjnggaaaDoorP4
import Derived.Test.YtclleofcjnggaaaDoorP3
import Derived.Test.YtclleofcjnggaaaDoorP5
set_option linter.all false

/-
  Rows of one's own behind some objects and others of which little is known.
-/
namespace Go.Kz

theorem pappend_rowB {P : Program} {B J : List SObj} {t e : TypeId} {k b s : Nat} {xs : List PD} {p : PD} {tk tok : Tok} (hB : ∀ o ∈ B, notOwn (some o)) (hu : P.underlying t = some (.slice e)) (hi : pelem P e = some (k, b)) (hs : xs = [] ∨ s = k) (hr : RowAt (B ++ J) tok e k xs.length)
    (hm : xs.length + 1 ≤ 100000000000000) (hb : (xs.length + 1) * b ≤ 140737488355328) :
    ∃ tok' J', pappend P 0 (B ++ J) t (.slice s xs tok) (.slice k [p] tk) = some (.slice k (xs ++ [p]) tok', B ++ J') ∧ RowAt (B ++ J') tok' e k (xs.length + 1) ∧
      ∀ tok2 e2 k2 n2, RowAt (B ++ J) tok2 e2 k2 n2 → (∀ id, tok = .own id → tok2 ≠ .own id) → RowAt (B ++ J') tok2 e2 k2 n2 ∧ (∀ id, tok' = .own id → tok2 ≠ .own id) := by
  obtain ⟨tok', σ', h1, h2, h3, h4⟩ := pappend_row (tk := tk) (p := p) hu hi hs hr hm hb
  have hpre : ∀ (id : Nat) (o : SObj), B[id]? = some o → σ'[id]? = some o := by
    intro id o ho
    have ho2 : (B ++ J)[id]? = some o := by rw [List.getElem?_append_left (List.getElem?_eq_some_iff.1 ho).1]; exact ho
    refine h3 id o ?_ ho2
    intro e
    subst e
    rcases hr with ⟨_, e⟩ | ⟨_, id', e, h5⟩
    · cases e
    · simp only [Tok.own.injEq] at e
      subst e
      rw [ho2, Option.some.injEq] at h5
      subst h5
      exact hB _ (List.mem_of_getElem? ho)
  have hsp : σ' = B ++ σ'.drop B.length := by
    have : σ'.take B.length = B := by
      apply List.ext_getElem?
      intro i
      rw [List.getElem?_take]
      split
      · rename_i hlt
        rw [hpre i B[i] (by simp [hlt]), List.getElem?_eq_getElem hlt]
      · rename_i hge
        rw [List.getElem?_eq_none (by omega)]
    conv => lhs; rw [← List.take_append_drop B.length σ', this]
  refine ⟨tok', σ'.drop B.length, by rw [← hsp]; exact h1, by rw [← hsp]; exact h2, fun tok2 e2 k2 n2 hr2 hne => ?_⟩
  rw [← hsp]
  refine ⟨hr2.keep fun id o e h => h3 id o (fun e2 => hne id e2 e) h, fun id e e2 => ?_⟩
  rcases h4 id e with e3 | e3
  · exact hne id e3 e2
  · subst e3
    rcases hr2 with ⟨_, e4⟩ | ⟨_, id', e4, h5⟩
    · rw [e4] at e2; cases e2
    · rw [e4] at e2
      simp only [Tok.own.injEq] at e2
      subst e2
      have := (List.getElem?_eq_some_iff.1 h5).1
      omega

/-! ### bits of small integers -/
theorem shr_i64 {n i : Nat} (hn : n < 9223372036854775808) (hi : i < 64) : pshift .shr .i64 (n : Int) (i : Int) = some (.int .i64 ((n / 2 ^ i : Nat) : Int)) := by
  have h1 : ¬ ((i : Int) < 0) := by omega
  have h2 : min ((i : Int).toNat) IntKind.i64.bits = i := by simp [IntKind.bits]; omega
  simp only [pshift, h1, if_false, h2]
  have h3 : (0 : Int) ≤ 2 ^ i := Int.pow_nonneg (by omega)
  rw [Int.fdiv_eq_ediv_of_nonneg _ h3, Int.natCast_ediv, Int.natCast_pow]
  rfl
theorem and_one_i64 {n : Nat} (hn : n < 9223372036854775808) : pbits .and .i64 (n : Int) 1 = some ((n % 2 : Nat) : Int) := by
  show some (IntKind.i64.wrap ((BitVec.ofInt 64 (n : Int) &&& BitVec.ofInt 64 1).toNat : Int)) = _
  have h1 : (BitVec.ofInt 64 (n : Int)).toNat = n := by
    rw [BitVec.toNat_ofInt]
    omega
  have h2 : (BitVec.ofInt 64 1).toNat = 1 := by decide
  rw [BitVec.toNat_and, h1, h2, show (1 : Nat) = 2 ^ 1 - 1 from rfl, Nat.and_two_pow_sub_one_eq_mod]
  rw [wrap_i64 (by omega) (by omega)]
theorem shl_one_i64 {w : Nat} (hw : w < 62) : pshift .shl .i64 1 (w : Int) = some (.int .i64 ((2 ^ w : Nat) : Int)) := by
  have h1 : ¬ ((w : Int) < 0) := by omega
  have h2 : min ((w : Int).toNat) IntKind.i64.bits = w := by simp [IntKind.bits]; omega
  simp only [pshift, h1, if_false, h2]
  have h4 : (2 : Nat) ^ w ≤ 2 ^ 62 := Nat.pow_le_pow_right (by omega) (by omega)
  rw [Int.one_mul, wrap_i64 (by have : (0 : Int) ≤ 2 ^ w := Int.pow_nonneg (by omega); omega) (by
    have : ((2 ^ w : Nat) : Int) ≤ ((2 ^ 62 : Nat) : Int) := by exact_mod_cast h4
    rw [Int.natCast_pow] at this
    have e : ((2 ^ 62 : Nat) : Int) = 4611686018427387904 := rfl
    rw [e] at this
    have e2 : (((2 : Nat) : Int)) ^ w = (2 : Int) ^ w := rfl
    omega)]
  rw [Int.natCast_pow]
  rfl

end Go.Kz

/-
  Layer 11: two hands that hold a list in any way hold it by a division.
-/
namespace Go.Kz
open Go Go.Proofs

/-! ### a part of a sorted list lies between its ends -/
theorem sub_ge : ∀ {a l : List Int}, a.Sublist l → l.Pairwise (· < ·) → ∀ (i : Nat) (h : i < a.length) (h2 : i < l.length), l[i] ≤ a[i]
  | _, _, .slnil, _, i, h, _ => absurd h (by simp)
  | _, _, .cons x (l₁ := a) (l₂ := l) hs, hp, i, h, h2 => by
    have hp1 := List.pairwise_cons.1 hp
    have hle := hs.length_le
    match i, h, h2 with
    | 0, h, h2 =>
      have hm : a[0] ∈ l := hs.subset (List.getElem_mem h)
      have := hp1.1 _ hm
      simp only [List.getElem_cons_zero]
      omega
    | i + 1, h, h2 =>
      simp only [List.getElem_cons_succ]
      have h3 := sub_ge hs hp1.2 i (by omega) (by omega)
      have hpa : a.Pairwise (· < ·) := hp1.2.sublist hs
      rw [List.pairwise_iff_getElem] at hpa
      have := hpa i (i + 1) (by omega) h (by omega)
      omega
  | _, _, .cons₂ x (l₁ := a) (l₂ := l) hs, hp, i, h, h2 => by
    have hp1 := List.pairwise_cons.1 hp
    match i, h, h2 with
    | 0, h, h2 => simp
    | i + 1, h, h2 =>
      simp only [List.getElem_cons_succ]
      exact sub_ge hs hp1.2 i (by simpa using h) (by simpa using h2)

theorem sub_le : ∀ {a l : List Int}, a.Sublist l → l.Pairwise (· < ·) → ∀ (i j : Nat) (h : i < a.length) (h2 : j < l.length), j = l.length - a.length + i → a[i] ≤ l[j]
  | _, _, .slnil, _, i, _, h, _, _ => absurd h (by simp)
  | _, _, .cons x (l₁ := a) (l₂ := l) hs, hp, i, j, h, h2, e => by
    have hp1 := List.pairwise_cons.1 hp
    have hle := hs.length_le
    obtain ⟨j', rfl⟩ : ∃ j', j = j' + 1 := ⟨l.length - a.length + i, by simp only [List.length_cons] at e; omega⟩
    simp only [List.getElem_cons_succ]
    exact sub_le hs hp1.2 i j' h (by simpa using h2) (by simp only [List.length_cons] at e; omega)
  | _, _, .cons₂ x (l₁ := a) (l₂ := l) hs, hp, i, j, h, h2, e => by
    have hp1 := List.pairwise_cons.1 hp
    have hle := hs.length_le
    simp only [List.length_cons] at e h h2
    match i, j, h, h2, e with
    | 0, 0, h, h2, e => simp
    | 0, j + 1, h, h2, e =>
      simp only [List.getElem_cons_zero, List.getElem_cons_succ]
      have := hp1.1 l[j] (List.getElem_mem (by omega))
      omega
    | i + 1, 0, h, h2, e => omega
    | i + 1, j + 1, h, h2, e =>
      simp only [List.getElem_cons_succ]
      exact sub_le hs hp1.2 i j (by omega) (by omega) (by omega)

/-- A hand with a whole width. -/
def holdsN (l : List Int) (n w : Int) : Prop := (l.length : Int) ≤ n ∧ (l = [] ∨ (l.getLast?.getD 0) - (l.head?.getD 0) ≤ w)

theorem head_is {l : List Int} (h : 0 < l.length) : l.head?.getD 0 = l[0] := head_get h
theorem last_is {l : List Int} (h : 0 < l.length) : l.getLast?.getD 0 = l[l.length - 1]'(by omega) := last_get h

theorem cross_half {l a b : List Int} {n w : Int} (hl : l.Pairwise (· < ·)) (ha : a.Sublist l) (hb : b.Sublist l) (hlen : a.length + b.length = l.length) (hl0 : 0 < l.length) (h0 : l[0] ∈ a) (hcov : ∀ x ∈ l, x ∈ a ∨ x ∈ b) (h1 : holdsN a n w) (h2 : holdsN b n w) :
    holdsN (l.take a.length) n w ∧ holdsN (l.drop a.length) n w := by
  have hane : 0 < a.length := List.length_pos_iff.2 (List.ne_nil_of_mem h0)
  have hal := ha.length_le
  have hwa : a[a.length - 1] - a[0] ≤ w := by
    rcases h1.2 with e | e
    · rw [e] at hane; simp at hane
    · rw [head_is hane, last_is hane] at e; exact e
  have ha0 : a[0] = l[0] := by
    have e1 := sub_ge ha hl 0 hane hl0
    have hpa : a.Pairwise (· < ·) := hl.sublist ha
    have e2 := head_le hpa h0
    rw [head_is hane] at e2
    omega
  have hat := sub_ge ha hl (a.length - 1) (by omega) (by omega)
  refine ⟨⟨by rw [List.length_take]; have := h1.1; omega, .inr ?_⟩, ⟨by rw [List.length_drop]; have := h2.1; omega, ?_⟩⟩
  · have hp : 0 < (l.take a.length).length := by rw [List.length_take]; omega
    rw [head_is hp, last_is hp]
    simp only [List.getElem_take, List.length_take]
    have e : min a.length l.length - 1 = a.length - 1 := by omega
    simp only [e]
    omega
  · rcases Nat.eq_zero_or_pos b.length with hb0 | hbp
    · left
      exact List.drop_eq_nil_of_le (by omega)
    · right
      have hp : 0 < (l.drop a.length).length := by rw [List.length_drop]; omega
      rw [head_is hp, last_is hp]
      simp only [List.getElem_drop, List.length_drop]
      have e : a.length + (l.length - a.length - 1) = l.length - 1 := by omega
      simp only [e, Nat.add_zero]
      have hlast := hcov l[l.length - 1] (List.getElem_mem (by omega))
      have hsl := hl
      rw [List.pairwise_iff_getElem] at hsl
      rcases hlast with hm | hm
      · have hpa : a.Pairwise (· < ·) := hl.sublist ha
        have e2 := le_last hpa hm
        rw [last_is hane] at e2
        have e3 := hsl 0 a.length hl0 (by omega) hane
        omega
      · have hpb : b.Pairwise (· < ·) := hl.sublist hb
        have e2 := le_last hpb hm
        rw [last_is hbp] at e2
        have e3 := sub_le hb hl 0 a.length hbp (by omega) (by omega)
        have hwb : b[b.length - 1] - b[0] ≤ w := by
          rcases h2.2 with e | e
          · rw [e] at hbp; simp at hbp
          · rw [head_is hbp, last_is hbp] at e; exact e
        omega

theorem cross_whole {l a b : List Int} {n w : Int} (hl : l.Pairwise (· < ·)) (ha : a.Sublist l) (hb : b.Sublist l) (hlen : a.length + b.length = l.length) (hcov : ∀ x ∈ l, x ∈ a ∨ x ∈ b) (h1 : holdsN a n w) (h2 : holdsN b n w) :
    ∃ t, t ≤ l.length ∧ holdsN (l.take t) n w ∧ holdsN (l.drop t) n w := by
  rcases Nat.eq_zero_or_pos l.length with h0 | h0
  · have e : l = [] := List.eq_nil_of_length_eq_zero h0
    subst e
    have ea : a = [] := List.eq_nil_of_length_eq_zero (by simp only [List.length_nil] at hlen; omega)
    subst ea
    exact ⟨0, by simp, by simpa using h1, by simpa using h1⟩
  · rcases hcov l[0] (List.getElem_mem h0) with hm | hm
    · exact ⟨a.length, ha.length_le, cross_half hl ha hb hlen h0 hm hcov h1 h2⟩
    · exact ⟨b.length, hb.length_le, cross_half hl hb ha (by omega) h0 hm (fun x hx => (hcov x hx).symm) h2 h1⟩

/-! ### parts by bits -/
def selT (l : List Int) (b i : Nat) : List Int := ((List.range i).filter b.testBit).map fun j => l.getD j 0
def selF (l : List Int) (b i : Nat) : List Int := ((List.range i).filter fun j => !b.testBit j).map fun j => l.getD j 0
theorem selT_succ (l : List Int) (b i : Nat) : selT l b (i + 1) = if b.testBit i then selT l b i ++ [l.getD i 0] else selT l b i := by
  unfold selT
  rw [List.range_succ, List.filter_append, List.map_append]
  cases h : b.testBit i <;> simp [h]
theorem selF_succ (l : List Int) (b i : Nat) : selF l b (i + 1) = if b.testBit i then selF l b i else selF l b i ++ [l.getD i 0] := by
  unfold selF
  rw [List.range_succ, List.filter_append, List.map_append]
  cases h : b.testBit i <;> simp [h]
theorem sel_len (l : List Int) (b : Nat) : ∀ i, (selT l b i).length + (selF l b i).length = i
  | 0 => rfl
  | i + 1 => by
    have := sel_len l b i
    rw [selT_succ, selF_succ]
    cases b.testBit i <;> simp <;> omega
theorem range_all (l : List Int) : (List.range l.length).map (fun j => l.getD j 0) = l := by
  apply List.ext_getElem
  · simp
  · intro i h1 h2
    simp [List.getElem?_eq_getElem h2]
theorem selT_sub (l : List Int) (b : Nat) : (selT l b l.length).Sublist l := by
  conv => rhs; rw [← range_all l]
  exact List.Sublist.map _ List.filter_sublist
theorem selF_sub (l : List Int) (b : Nat) : (selF l b l.length).Sublist l := by
  conv => rhs; rw [← range_all l]
  exact List.Sublist.map _ List.filter_sublist
theorem sel_cov (l : List Int) (b : Nat) : ∀ x ∈ l, x ∈ selT l b l.length ∨ x ∈ selF l b l.length := by
  intro x hx
  obtain ⟨j, hj, rfl⟩ := List.getElem_of_mem hx
  have e : l.getD j 0 = l[j] := by simp [List.getElem?_eq_getElem hj]
  cases hb : b.testBit j with
  | true => left; exact List.mem_map.2 ⟨j, List.mem_filter.2 ⟨List.mem_range.2 hj, hb⟩, e⟩
  | false => right; exact List.mem_map.2 ⟨j, List.mem_filter.2 ⟨List.mem_range.2 hj, by simp [hb]⟩, e⟩

/-- The first t bits. -/
theorem sel_take (l : List Int) (t : Nat) : ∀ i, i ≤ l.length → selT l (2 ^ t - 1) i = (l.take i).take t ∧ selF l (2 ^ t - 1) i = (l.take i).drop t
  | 0, _ => by simp [selT, selF]
  | i + 1, h => by
    obtain ⟨h1, h2⟩ := sel_take l t i (by omega)
    have hi : i < l.length := by omega
    have e : l.getD i 0 = l[i] := by simp [List.getElem?_eq_getElem hi]
    have ht : (2 ^ t - 1).testBit i = decide (i < t) := Nat.testBit_two_pow_sub_one t i
    have hli : (l.take i).length = i := by rw [List.length_take]; omega
    have etk : l.take (i + 1) = l.take i ++ [l[i]] := by rw [List.take_add_one, List.getElem?_eq_getElem hi]; rfl
    rw [selT_succ, selF_succ, ht, h1, h2, e, etk]
    by_cases hit : i < t
    · have a1 : (l.take i).take t = l.take i := List.take_of_length_le (by omega)
      have a2 : (l.take i).drop t = [] := List.drop_eq_nil_of_le (by omega)
      have a3 : (l.take i ++ [l[i]]).take t = l.take i ++ [l[i]] := List.take_of_length_le (by simp; omega)
      have a4 : (l.take i ++ [l[i]]).drop t = [] := List.drop_eq_nil_of_le (by simp; omega)
      simp only [hit, decide_true, if_true, a1, a2, a3, a4, and_self]
    · have a1 : (l.take i ++ [l[i]]).take t = (l.take i).take t := by rw [List.take_append_of_le_length (by omega)]
      have a2 : (l.take i ++ [l[i]]).drop t = (l.take i).drop t ++ [l[i]] := by rw [List.drop_append_of_le_length (by omega)]
      simp only [hit, decide_false, Bool.false_eq_true, if_false, a1, a2, and_self]

theorem holdsOk_N {s : Notes} {l : List Int} (h : ∀ x ∈ l, x ∈ s.list) (n w : Int) : holdsOk l n w = true ↔ holdsN l n w := by
  unfold holdsOk holdsN
  by_cases hn : l = []
  · subst hn; simp
  · have r1 := list_range (h _ (head_mem hn))
    have r2 := list_range (h _ (last_mem hn))
    rw [wrap_i64 (by omega) (by omega)]
    simp [hn]

/-- Bits part the notes among two hands. -/
def anyAt (p : Player) (l : List Int) (b : Nat) : Bool := holdsOk (selT l b l.length) p.hn p.hs && holdsOk (selF l b l.length) p.hn p.hs
def anyTo (p : Player) (l : List Int) (n : Nat) : Bool := (List.range n).any (anyAt p l)
theorem anyTo_succ (p : Player) (l : List Int) (n : Nat) : anyTo p l (n + 1) = (anyTo p l n || anyAt p l n) := by
  unfold anyTo
  rw [List.range_succ, List.any_append]
  simp

theorem cross_law (p : Player) (s : Notes) (h : errOf p = 0) : anyTo p s.list (2 ^ s.list.length) = decide (divs1 p s.list ≠ []) := by
  have hs := err_hs h
  rw [Bool.eq_iff_iff, decide_eq_true_eq]
  unfold anyTo
  rw [List.any_eq_true]
  constructor
  · rintro ⟨b, hb, hok⟩
    unfold anyAt at hok
    rw [Bool.and_eq_true, holdsOk_N (s := s) (fun x hx => (selT_sub s.list b).subset hx), holdsOk_N (s := s) (fun x hx => (selF_sub s.list b).subset hx)] at hok
    obtain ⟨t, ht, h1, h2⟩ := cross_whole (list_sorted s) (selT_sub s.list b) (selF_sub s.list b) (sel_len s.list b _) (sel_cov s.list b) hok.1 hok.2
    rw [← holdsOk_N (s := s) (fun x hx => List.mem_of_mem_take hx)] at h1
    rw [← holdsOk_N (s := s) (fun x hx => List.mem_of_mem_drop hx)] at h2
    refine List.ne_nil_of_mem (a := t) ?_
    unfold divs1
    rw [List.mem_filter, List.mem_range]
    refine ⟨by omega, ?_⟩
    unfold ok1
    rw [one_holds p _ hs, one_holds p _ hs, h1, h2]
    rfl
  · intro hne
    obtain ⟨t, ts, e⟩ := List.exists_cons_of_ne_nil hne
    have ht : t ∈ divs1 p s.list := by rw [e]; simp
    obtain ⟨h1, h2⟩ := divs1_mem ht
    obtain ⟨e1, e2⟩ := sel_take s.list t s.list.length (Nat.le_refl _)
    rw [List.take_length] at e1 e2
    refine ⟨2 ^ t - 1, List.mem_range.2 ?_, ?_⟩
    · have : 2 ^ t ≤ 2 ^ s.list.length := Nat.pow_le_pow_right (by omega) h1
      have : 0 < 2 ^ t := Nat.pow_pos (by omega)
      omega
    · unfold anyAt
      rw [e1, e2]
      unfold ok1 at h2
      rw [one_holds p _ hs, one_holds p _ hs] at h2
      exact h2

end Go.Kz

/-
  SpanCrosses, out of the walks: the run answers true.
-/
namespace Go.Kz
open Go Go.Proofs

/-- A plan of a set: any byte, any sixteen bits. -/
structure Plan3 where
  base : Nat
  bits : Nat
def Em.plan3 : Em Plan3 := .agg (((EmC.one (.int .u8)).pair (.one (.int .u16))).iso (fun p => ((p.base : Int), (p.bits : Int))) (fun x y h => by cases x; cases y; simp at h; simp; omega))
@[simp] theorem emb_plan3 {p : Plan3} : Em.plan3.emb p = .agg [.int .u8 (p.base : Int), .int .u16 (p.bits : Int)] := rfl
@[simp] theorem dec_plan3 {a b : Nat} : Em.plan3.dec (.agg [.int .u8 (a : Int), .int .u16 (b : Int)]) = some ⟨a, b⟩ := Em.dec_some rfl
def fitsP (x : Plan3) : Prop := x.base < 256 ∧ x.bits < 65536
def makeTo (x : Plan3) : Nat → Notes
  | 0 => noNotes
  | i + 1 => if x.bits.testBit i ∧ x.base % 128 + i ≤ 127 then withN (makeTo x i) (x.base % 128 + i) else makeTo x i

theorem shr_u16 {n i : Nat} (hi : i < 16) : pshift .shr .u16 (n : Int) (i : Int) = some (.int .u16 ((n / 2 ^ i : Nat) : Int)) := by
  have h1 : ¬ ((i : Int) < 0) := by omega
  have h2 : min ((i : Int).toNat) IntKind.u16.bits = i := by simp [IntKind.bits]; omega
  simp only [pshift, h1, if_false, h2]
  have h3 : (0 : Int) ≤ 2 ^ i := Int.pow_nonneg (by omega)
  rw [Int.fdiv_eq_ediv_of_nonneg _ h3, Int.natCast_ediv, Int.natCast_pow]
  rfl
theorem and_one_u16 {n : Nat} (hn : n < 65536) : pbits .and .u16 (n : Int) 1 = some ((n % 2 : Nat) : Int) := by
  show some (IntKind.u16.wrap ((BitVec.ofInt 16 (n : Int) &&& BitVec.ofInt 16 1).toNat : Int)) = _
  have h1 : (BitVec.ofInt 16 (n : Int)).toNat = n := by
    rw [BitVec.toNat_ofInt]
    omega
  have h2 : (BitVec.ofInt 16 1).toNat = 1 := by decide
  rw [BitVec.toNat_and, h1, h2, show (1 : Nat) = 2 ^ 1 - 1 from rfl, Nat.and_two_pow_sub_one_eq_mod]
  rw [wrap_u16_nat (by omega)]

theorem anyTo_mono (p : Player) (l : List Int) {k n : Nat} (h : anyTo p l k = true) (hk : k ≤ n) : anyTo p l n = true := by
  unfold anyTo at h ⊢
  rw [List.any_eq_true] at h ⊢
  obtain ⟨b, hb, h2⟩ := h
  exact ⟨b, List.mem_range.2 (by have := List.mem_range.1 hb; omega), h2⟩

variable {E : PExt} (hU : Uni E)
include hU
set_option maxRecDepth 10000
set_option maxHeartbeats 4000000

theorem r_Make (h0 : E 19 = none) (h1 : E 40 = some (entry (gf2 .notes i64 .notes fun s n => gif (0 ≤ n ∧ n ≤ 127) (some (withN s n.toNat))))) (x : Plan3) (hx : fitsP x) :
    Run Tryd.prog E 19 [Em.plan3.emb x] (Em.notes.emb (makeTo x 16)) := by
  obtain ⟨hx1, hx2⟩ := hx
  obtain ⟨r, hr⟩ : ∃ r, r = x.base % 128 := ⟨_, rfl⟩
  have hr128 : r < 128 := by omega
  have htm : (x.base : Int).tmod 128 = (r : Int) := by rw [Int.tmod_eq_emod_of_nonneg (by omega)]; omega
  apply Run.bodyL h0 Tryd.func19 rfl
  focus (simp [show Tryd.f19.ntmps = _ from rfl, List.replicate]; rfl)
  repeat (first
    | (refine Fr.i ?_; simp only [pput, List.set_cons_zero, List.set_cons_succ]; try rfl) | (refine By.i ?_; simp (disch := first | omega | (simp; done) | (simp; omega)) [wrap_i64, wrap_u64]; first | done | rfl | exact ⟨rfl, rfl⟩)
    | (refine Wt.i ?_; first | rfl | (simp; done))
    | (refine Ns.i ?_; (try simp only [List.append_nil, List.nil_append, List.cons_append, List.append_assoc, List.length_append, List.length_cons, List.length_nil, Nat.zero_add, Nat.reduceAdd]); rfl) | rfl
    | (apply SL.pass; (focus (refine Wt.i ?_; rfl))) | apply SL.move | apply SL.assign | apply SL.load | apply SL.binOp | apply SL.append | apply SL.builtin | apply SL.fieldAddr | apply SL.indexAddr | apply SL.field | apply SL.extract
    | apply SL.fcall | apply SL.pick | apply SL.store | apply SL.unOp | apply SL.convert | apply SL.index | apply SL.slice | apply SL.build | apply SL.nilCheck | apply SL.buildSlice | apply SL.box | apply SL.alloc | apply SL.makeFunc
    | apply SQ.nil | (apply WL.reg; (focus decide +kernel)) | (apply WL.drawP (by assumption); (focus decide +kernel); (focus decide +kernel)) | (apply WL.drawF; (focus decide +kernel); (focus decide +kernel))
    | (apply WL.reg1; (focus decide +kernel)) | (apply WL.drawP1 (by assumption); (focus decide +kernel); (focus decide +kernel)) | (apply WL.drawF1; (focus decide +kernel); (focus decide +kernel)) | apply WL.skip | (apply WL.ct; (focus rfl))
    | (apply WL.cf; (focus rfl)) | refine SeqQ.normal ?_ | refine SeqQ.ret ?_ | refine SeqQ.exit ?_ | refine BlockQ.normal ?_ | refine BlockQ.ret ?_ | refine BlockQ.here ?_ | refine BlockQ.there (by decide) ?_ | refine Wp.block ?_
    | refine Wp.skip ?_ | refine Wp.ret ?_ | refine Wp.exit ?_ | refine LoopI.ret ?_ | refine LoopI.exit ?_ | refine LoopQ.normal ?_ | refine LoopQ.ret ?_ | refine LoopQ.exit ?_ | refine Wp.seq (Wp.seq ?_) | refine Wp.seq (Wp.block ?_)
    | (refine Wp.seq ?_; apply WL.ct; (focus rfl)) | (refine Wp.seq ?_; apply WL.cf; (focus rfl)))
  refine Wp.loopI (fun m fr σ => ∃ (i : Nat), ∃ gg : Nat → PD, (i + m = 16) ∧ fr = [Em.plan3.emb x, .ptr 0 0, .ptr 1 0, .ptr 2 0, .int .i64 i, gg 5, gg 6, gg 7, gg 8, gg 9, gg 10, gg 11, gg 12, gg 13, gg 14, gg 15, gg 16, gg 17, gg 18, gg 19, gg 20, gg 21, gg 22, gg 23, gg 24, gg 25, gg 26, gg 27, gg 28, gg 29, gg 30] ∧ σ = [.box (Em.plan3.emb x), .box (Em.notes.emb noNotes), .box (Em.notes.emb (makeTo x i))]) ?_ (16) (by refine ⟨0, ?_⟩; exact exF (by omega) (by (first | rfl | (simp [makeTo, noNotes, tn]; repeat (first | rfl | (apply And.intro))) | (simp [makeTo, noNotes, tn]; done))) (by (first | rfl | (simp [makeTo, noNotes, tn]; repeat (first | rfl | (apply And.intro))) | (simp [makeTo, noNotes, tn]; done))))
  rintro m fr σ ⟨i, gg, hI, rfl, rfl⟩
  by_cases hi : i < 16
  · have q1 : (i : Int) < 16 := by omega
    obtain ⟨d, hd⟩ : ∃ d, d = x.bits / 2 ^ i := ⟨_, rfl⟩
    have hdk : d ≤ x.bits := by rw [hd]; exact Nat.div_le_self _ _
    have hshr := shr_u16 (n := x.bits) (i := i) hi
    rw [← hd] at hshr
    have htb : x.bits.testBit i = decide (d % 2 = 1) := by rw [Nat.testBit_eq_decide_div_mod_eq, ← hd]
    by_cases hb : d % 2 = 1
    · have hand : pbits .and .u16 (d : Int) 1 = some 1 := by rw [and_one_u16 (by omega), hb]; rfl
      by_cases hn : (r : Int) + (i : Int) ≤ 127
      · have hs : makeTo x (i + 1) = withN (makeTo x i) (r + i) := by rw [makeTo, if_pos ⟨by rw [htb]; simp [hb], by omega⟩, hr]
        have hn0 : 0 ≤ (r : Int) + (i : Int) := by omega
        have hn2 : ((r : Int) + (i : Int)).toNat = r + i := by omega
        repeat (first
          | (refine Fr.i ?_; simp only [pput, List.set_cons_zero, List.set_cons_succ]; try rfl)
          | (refine By.i ?_; simp (disch := first | omega | (simp; done) | (simp; omega)) [wrap_i64, wrap_u64, q1, htm, hshr, hand, hn, hn0, hn2, h1, entry, gf2]; first | done | rfl | exact ⟨rfl, rfl⟩)
          | (refine Wt.i ?_; first | rfl | (simp [q1, htm, hshr, hand, hn, hn0, hn2, h1, entry, gf2]; done))
          | (refine Ns.i ?_; (try simp only [List.append_nil, List.nil_append, List.cons_append, List.append_assoc, List.length_append, List.length_cons, List.length_nil, Nat.zero_add, Nat.reduceAdd]); rfl) | rfl
          | (apply SL.pass; (focus (refine Wt.i ?_; rfl))) | apply SL.move | apply SL.assign | apply SL.load | apply SL.binOp | apply SL.append | apply SL.builtin | apply SL.fieldAddr | apply SL.indexAddr | apply SL.field | apply SL.extract
          | apply SL.fcall | apply SL.pick | apply SL.store | apply SL.unOp | apply SL.convert | apply SL.index | apply SL.slice | apply SL.build | apply SL.nilCheck | apply SL.buildSlice | apply SL.box | apply SL.alloc | apply SL.makeFunc
          | apply SQ.nil | (apply WL.reg; (focus decide +kernel)) | (apply WL.drawP (by assumption); (focus decide +kernel); (focus decide +kernel)) | (apply WL.drawF; (focus decide +kernel); (focus decide +kernel))
          | (apply WL.reg1; (focus decide +kernel)) | (apply WL.drawP1 (by assumption); (focus decide +kernel); (focus decide +kernel)) | (apply WL.drawF1; (focus decide +kernel); (focus decide +kernel)) | apply WL.skip
          | (apply WL.ct; (focus rfl)) | (apply WL.cf; (focus rfl)) | refine SeqQ.normal ?_ | refine SeqQ.ret ?_ | refine SeqQ.exit ?_ | refine BlockQ.normal ?_ | refine BlockQ.ret ?_ | refine BlockQ.here ?_
          | refine BlockQ.there (by decide) ?_ | refine Wp.block ?_ | refine Wp.skip ?_ | refine Wp.ret ?_ | refine Wp.exit ?_ | refine LoopI.ret ?_ | refine LoopI.exit ?_ | refine LoopQ.normal ?_ | refine LoopQ.ret ?_ | refine LoopQ.exit ?_
          | refine Wp.seq (Wp.seq ?_) | refine Wp.seq (Wp.block ?_) | (refine Wp.seq ?_; apply WL.ct; (focus rfl)) | (refine Wp.seq ?_; apply WL.cf; (focus rfl)))
        refine LoopI.normal (m - 1) (by omega) (by refine ⟨i + 1, ?_⟩; exact exF (by omega) (by (first | rfl | (simp [hs]; repeat (first | rfl | (apply And.intro))) | (simp [hs]; done))) (by (first | rfl | (simp [hs]; repeat (first | rfl | (apply And.intro))) | (simp [hs]; done))))
      · have hs : makeTo x (i + 1) = makeTo x i := by rw [makeTo, if_neg (by omega)]
        repeat (first
          | (refine Fr.i ?_; simp only [pput, List.set_cons_zero, List.set_cons_succ]; try rfl)
          | (refine By.i ?_; simp (disch := first | omega | (simp; done) | (simp; omega)) [wrap_i64, wrap_u64, q1, htm, hshr, hand, hn]; first | done | rfl | exact ⟨rfl, rfl⟩)
          | (refine Wt.i ?_; first | rfl | (simp [q1, htm, hshr, hand, hn]; done))
          | (refine Ns.i ?_; (try simp only [List.append_nil, List.nil_append, List.cons_append, List.append_assoc, List.length_append, List.length_cons, List.length_nil, Nat.zero_add, Nat.reduceAdd]); rfl) | rfl
          | (apply SL.pass; (focus (refine Wt.i ?_; rfl))) | apply SL.move | apply SL.assign | apply SL.load | apply SL.binOp | apply SL.append | apply SL.builtin | apply SL.fieldAddr | apply SL.indexAddr | apply SL.field | apply SL.extract
          | apply SL.fcall | apply SL.pick | apply SL.store | apply SL.unOp | apply SL.convert | apply SL.index | apply SL.slice | apply SL.build | apply SL.nilCheck | apply SL.buildSlice | apply SL.box | apply SL.alloc | apply SL.makeFunc
          | apply SQ.nil | (apply WL.reg; (focus decide +kernel)) | (apply WL.drawP (by assumption); (focus decide +kernel); (focus decide +kernel)) | (apply WL.drawF; (focus decide +kernel); (focus decide +kernel))
          | (apply WL.reg1; (focus decide +kernel)) | (apply WL.drawP1 (by assumption); (focus decide +kernel); (focus decide +kernel)) | (apply WL.drawF1; (focus decide +kernel); (focus decide +kernel)) | apply WL.skip
          | (apply WL.ct; (focus rfl)) | (apply WL.cf; (focus rfl)) | refine SeqQ.normal ?_ | refine SeqQ.ret ?_ | refine SeqQ.exit ?_ | refine BlockQ.normal ?_ | refine BlockQ.ret ?_ | refine BlockQ.here ?_
          | refine BlockQ.there (by decide) ?_ | refine Wp.block ?_ | refine Wp.skip ?_ | refine Wp.ret ?_ | refine Wp.exit ?_ | refine LoopI.ret ?_ | refine LoopI.exit ?_ | refine LoopQ.normal ?_ | refine LoopQ.ret ?_ | refine LoopQ.exit ?_
          | refine Wp.seq (Wp.seq ?_) | refine Wp.seq (Wp.block ?_) | (refine Wp.seq ?_; apply WL.ct; (focus rfl)) | (refine Wp.seq ?_; apply WL.cf; (focus rfl)))
        refine LoopI.normal (m - 1) (by omega) (by refine ⟨i + 1, ?_⟩; exact exF (by omega) (by (first | rfl | (simp [hs]; repeat (first | rfl | (apply And.intro))) | (simp [hs]; done))) (by (first | rfl | (simp [hs]; repeat (first | rfl | (apply And.intro))) | (simp [hs]; done))))
    · have hb0 : d % 2 = 0 := by omega
      have hand : pbits .and .u16 (d : Int) 1 = some 0 := by rw [and_one_u16 (by omega), hb0]; rfl
      have hs : makeTo x (i + 1) = makeTo x i := by rw [makeTo, if_neg (by rw [htb]; simp [hb0])]
      repeat (first
        | (refine Fr.i ?_; simp only [pput, List.set_cons_zero, List.set_cons_succ]; try rfl)
        | (refine By.i ?_; simp (disch := first | omega | (simp; done) | (simp; omega)) [wrap_i64, wrap_u64, q1, htm, hshr, hand]; first | done | rfl | exact ⟨rfl, rfl⟩) | (refine Wt.i ?_; first | rfl | (simp [q1, htm, hshr, hand]; done))
        | (refine Ns.i ?_; (try simp only [List.append_nil, List.nil_append, List.cons_append, List.append_assoc, List.length_append, List.length_cons, List.length_nil, Nat.zero_add, Nat.reduceAdd]); rfl) | rfl
        | (apply SL.pass; (focus (refine Wt.i ?_; rfl))) | apply SL.move | apply SL.assign | apply SL.load | apply SL.binOp | apply SL.append | apply SL.builtin | apply SL.fieldAddr | apply SL.indexAddr | apply SL.field | apply SL.extract
        | apply SL.fcall | apply SL.pick | apply SL.store | apply SL.unOp | apply SL.convert | apply SL.index | apply SL.slice | apply SL.build | apply SL.nilCheck | apply SL.buildSlice | apply SL.box | apply SL.alloc | apply SL.makeFunc
        | apply SQ.nil | (apply WL.reg; (focus decide +kernel)) | (apply WL.drawP (by assumption); (focus decide +kernel); (focus decide +kernel)) | (apply WL.drawF; (focus decide +kernel); (focus decide +kernel))
        | (apply WL.reg1; (focus decide +kernel)) | (apply WL.drawP1 (by assumption); (focus decide +kernel); (focus decide +kernel)) | (apply WL.drawF1; (focus decide +kernel); (focus decide +kernel)) | apply WL.skip
        | (apply WL.ct; (focus rfl)) | (apply WL.cf; (focus rfl)) | refine SeqQ.normal ?_ | refine SeqQ.ret ?_ | refine SeqQ.exit ?_ | refine BlockQ.normal ?_ | refine BlockQ.ret ?_ | refine BlockQ.here ?_ | refine BlockQ.there (by decide) ?_
        | refine Wp.block ?_ | refine Wp.skip ?_ | refine Wp.ret ?_ | refine Wp.exit ?_ | refine LoopI.ret ?_ | refine LoopI.exit ?_ | refine LoopQ.normal ?_ | refine LoopQ.ret ?_ | refine LoopQ.exit ?_ | refine Wp.seq (Wp.seq ?_)
        | refine Wp.seq (Wp.block ?_) | (refine Wp.seq ?_; apply WL.ct; (focus rfl)) | (refine Wp.seq ?_; apply WL.cf; (focus rfl)))
      refine LoopI.normal (m - 1) (by omega) (by refine ⟨i + 1, ?_⟩; exact exF (by omega) (by (first | rfl | (simp [hs]; repeat (first | rfl | (apply And.intro))) | (simp [hs]; done))) (by (first | rfl | (simp [hs]; repeat (first | rfl | (apply And.intro))) | (simp [hs]; done))))
  · have q1 : ¬ (i : Int) < 16 := by omega
    have hi2 : i = 16 := by omega
    subst hi2
    repeat (first
      | (refine Fr.i ?_; simp only [pput, List.set_cons_zero, List.set_cons_succ]; try rfl) | (refine By.i ?_; simp (disch := first | omega | (simp; done) | (simp; omega)) [wrap_i64, wrap_u64, q1]; first | done | rfl | exact ⟨rfl, rfl⟩)
      | (refine Wt.i ?_; first | rfl | (simp [q1]; done))
      | (refine Ns.i ?_; (try simp only [List.append_nil, List.nil_append, List.cons_append, List.append_assoc, List.length_append, List.length_cons, List.length_nil, Nat.zero_add, Nat.reduceAdd]); rfl) | rfl
      | (apply SL.pass; (focus (refine Wt.i ?_; rfl))) | apply SL.move | apply SL.assign | apply SL.load | apply SL.binOp | apply SL.append | apply SL.builtin | apply SL.fieldAddr | apply SL.indexAddr | apply SL.field | apply SL.extract
      | apply SL.fcall | apply SL.pick | apply SL.store | apply SL.unOp | apply SL.convert | apply SL.index | apply SL.slice | apply SL.build | apply SL.nilCheck | apply SL.buildSlice | apply SL.box | apply SL.alloc | apply SL.makeFunc
      | apply SQ.nil | (apply WL.reg; (focus decide +kernel)) | (apply WL.drawP (by assumption); (focus decide +kernel); (focus decide +kernel)) | (apply WL.drawF; (focus decide +kernel); (focus decide +kernel))
      | (apply WL.reg1; (focus decide +kernel)) | (apply WL.drawP1 (by assumption); (focus decide +kernel); (focus decide +kernel)) | (apply WL.drawF1; (focus decide +kernel); (focus decide +kernel)) | apply WL.skip
      | (apply WL.ct; (focus rfl)) | (apply WL.cf; (focus rfl)) | refine SeqQ.normal ?_ | refine SeqQ.ret ?_ | refine SeqQ.exit ?_ | refine BlockQ.normal ?_ | refine BlockQ.ret ?_ | refine BlockQ.here ?_ | refine BlockQ.there (by decide) ?_
      | refine Wp.block ?_ | refine Wp.skip ?_ | refine Wp.ret ?_ | refine Wp.exit ?_ | refine LoopI.ret ?_ | refine LoopI.exit ?_ | refine LoopQ.normal ?_ | refine LoopQ.ret ?_ | refine LoopQ.exit ?_ | refine Wp.seq (Wp.seq ?_)
      | refine Wp.seq (Wp.block ?_) | (refine Wp.seq ?_; apply WL.ct; (focus rfl)) | (refine Wp.seq ?_; apply WL.cf; (focus rfl)))
    simp (disch := first | omega | (simp; done) | (simp; omega)) [decide_eq_decide] <;> try rfl

theorem r_SpanCrosses (h0 : E 4 = none) (hk : E 12 = some (entry (gf0 .bool (some true)))) (hc : E 13 = some (entry (gf1 .player i64 fun p => some (errOf p))))
    (h1 : E 19 = some (entry (gf1 .plan3 .notes fun x => gif (fitsP x) (some (makeTo x 16))))) (h2 : E 14 = some (entry (gf1 .notes i64s fun s => some s.list)))
    (h3 : E 17 = some (entry (gf2 .player .notes (Em.notes.tup4 .notes .bool i64) fun p s => some (twoF p s))))
    (h4 : E 20 = some (entry (gf3 i64s i64 i64 .bool fun l n w => gif ((l.length : Int) < 1000000) (some (holdsOk l n w))))) (p : Player) (x : Plan3) (hx : fitsP x) :
    Run Tryd.prog E 4 [Em.player.emb p, Em.plan3.emb x] (.bool true) := by
  apply Run.bodyL h0 Tryd.func4 rfl
  focus (simp [show Tryd.f4.ntmps = _ from rfl, List.replicate]; rfl)
  obtain ⟨s, hs⟩ : ∃ s, makeTo x 16 = s := ⟨_, rfl⟩
  by_cases h : errOf p = 0
  · by_cases hl : 10 < (s.list.length : Int)
    · repeat (first
        | (refine Fr.i ?_; simp only [pput, List.set_cons_zero, List.set_cons_succ]; try rfl)
        | (refine By.i ?_; simp (disch := first | omega | (simp; done) | (simp; omega)) [wrap_i64, wrap_u64, h, hk, hc, h1, h2, hx, hs, hl, entry, gf0, gf1]; first | done | rfl | exact ⟨rfl, rfl⟩)
        | (refine Wt.i ?_; first | rfl | (simp [h, hk, hc, h1, h2, hx, hs, hl, entry, gf0, gf1]; done))
        | (refine Ns.i ?_; (try simp only [List.append_nil, List.nil_append, List.cons_append, List.append_assoc, List.length_append, List.length_cons, List.length_nil, Nat.zero_add, Nat.reduceAdd]); rfl) | rfl
        | (apply SL.pass; (focus (refine Wt.i ?_; rfl))) | apply SL.move | apply SL.assign | apply SL.load | apply SL.binOp | apply SL.append | apply SL.builtin | apply SL.fieldAddr | apply SL.indexAddr | apply SL.field | apply SL.extract
        | apply SL.fcall | apply SL.pick | apply SL.store | apply SL.unOp | apply SL.convert | apply SL.index | apply SL.slice | apply SL.build | apply SL.nilCheck | apply SL.buildSlice | apply SL.box | apply SL.alloc | apply SL.makeFunc
        | apply SQ.nil | (apply WL.reg; (focus decide +kernel)) | (apply WL.drawP (by assumption); (focus decide +kernel); (focus decide +kernel)) | (apply WL.drawF; (focus decide +kernel); (focus decide +kernel))
        | (apply WL.reg1; (focus decide +kernel)) | (apply WL.drawP1 (by assumption); (focus decide +kernel); (focus decide +kernel)) | (apply WL.drawF1; (focus decide +kernel); (focus decide +kernel)) | apply WL.skip
        | (apply WL.ct; (focus rfl)) | (apply WL.cf; (focus rfl)) | refine SeqQ.normal ?_ | refine SeqQ.ret ?_ | refine SeqQ.exit ?_ | refine BlockQ.normal ?_ | refine BlockQ.ret ?_ | refine BlockQ.here ?_ | refine BlockQ.there (by decide) ?_
        | refine Wp.block ?_ | refine Wp.skip ?_ | refine Wp.ret ?_ | refine Wp.exit ?_ | refine LoopI.ret ?_ | refine LoopI.exit ?_ | refine LoopQ.normal ?_ | refine LoopQ.ret ?_ | refine LoopQ.exit ?_ | refine Wp.seq (Wp.seq ?_)
        | refine Wp.seq (Wp.block ?_) | (refine Wp.seq ?_; apply WL.ct; (focus rfl)) | (refine Wp.seq ?_; apply WL.cf; (focus rfl)))
      simp (disch := first | omega | (simp; done) | (simp; omega)) [decide_eq_decide] <;> try rfl
    · have hcl := cross_law p s h
      obtain ⟨l, hll⟩ : ∃ l, s.list = l := ⟨_, rfl⟩
      have hT : ∃ a b, twoF p s = (a, b, decide (divs1 p l ≠ []), 0) := by
        rw [twoF, if_pos h, allL, hll]
        cases divs1 p l with
        | nil => exact ⟨noNotes, noNotes, rfl⟩
        | cons t ts => exact ⟨(divAt s t).1, (divAt s t).2, rfl⟩
      obtain ⟨a0, b0, hT⟩ := hT
      rw [hll] at hcl hl
      obtain ⟨f, hf⟩ : ∃ f, decide (divs1 p l ≠ []) = f := ⟨_, rfl⟩
      rw [hf] at hT hcl
      repeat (first
        | (refine Fr.i ?_; simp only [pput, List.set_cons_zero, List.set_cons_succ]; try rfl)
        | (refine By.i ?_; simp (disch := first | omega | (simp; done) | (simp; omega)) [wrap_i64, wrap_u64, h, hk, hc, h1, h2, h3, hx, hs, hll, hl, hT, entry, gf0, gf1, gf2]; first | done | rfl | exact ⟨rfl, rfl⟩)
        | (refine Wt.i ?_; first | rfl | (simp [h, hk, hc, h1, h2, h3, hx, hs, hll, hl, hT, entry, gf0, gf1, gf2]; done))
        | (refine Ns.i ?_; (try simp only [List.append_nil, List.nil_append, List.cons_append, List.append_assoc, List.length_append, List.length_cons, List.length_nil, Nat.zero_add, Nat.reduceAdd]); rfl) | rfl
        | (apply SL.pass; (focus (refine Wt.i ?_; rfl))) | apply SL.move | apply SL.assign | apply SL.load | apply SL.binOp | apply SL.append | apply SL.builtin | apply SL.fieldAddr | apply SL.indexAddr | apply SL.field | apply SL.extract
        | apply SL.fcall | apply SL.pick | apply SL.store | apply SL.unOp | apply SL.convert | apply SL.index | apply SL.slice | apply SL.build | apply SL.nilCheck | apply SL.buildSlice | apply SL.box | apply SL.alloc | apply SL.makeFunc
        | apply SQ.nil | (apply WL.reg; (focus decide +kernel)) | (apply WL.drawP (by assumption); (focus decide +kernel); (focus decide +kernel)) | (apply WL.drawF; (focus decide +kernel); (focus decide +kernel))
        | (apply WL.reg1; (focus decide +kernel)) | (apply WL.drawP1 (by assumption); (focus decide +kernel); (focus decide +kernel)) | (apply WL.drawF1; (focus decide +kernel); (focus decide +kernel)) | apply WL.skip
        | (apply WL.ct; (focus rfl)) | (apply WL.cf; (focus rfl)) | refine SeqQ.normal ?_ | refine SeqQ.ret ?_ | refine SeqQ.exit ?_ | refine BlockQ.normal ?_ | refine BlockQ.ret ?_ | refine BlockQ.here ?_ | refine BlockQ.there (by decide) ?_
        | refine Wp.block ?_ | refine Wp.skip ?_ | refine Wp.ret ?_ | refine Wp.exit ?_ | refine LoopI.ret ?_ | refine LoopI.exit ?_ | refine LoopQ.normal ?_ | refine LoopQ.ret ?_ | refine LoopQ.exit ?_ | refine Wp.seq (Wp.seq ?_)
        | refine Wp.seq (Wp.block ?_) | (refine Wp.seq ?_; apply WL.ct; (focus rfl)) | (refine Wp.seq ?_; apply WL.cf; (focus rfl)))
      obtain ⟨N, hN⟩ : ∃ N, N = 2 ^ l.length := ⟨_, rfl⟩
      have hN10 : N ≤ 1024 := by rw [hN]; exact Nat.pow_le_pow_right (n := 2) (j := 10) (by omega) (by omega)
      have hsh := shl_one_i64 (w := l.length) (by omega)
      rw [← hN] at hsh hcl
      clear hf
      refine Wp.loopI (fun m fr σ => ∃ (k : Nat) (y : Bool) (J : List SObj), ∃ gg : Nat → PD, (k + m = N ∧ y = anyTo p l k) ∧ fr = Em.player.emb p :: Em.plan3.emb x :: .ptr 0 0 :: .ptr 1 0 :: .bool false :: .ptr 2 0 :: i64s.emb l :: .ptr 3 0 :: .ptr 4 0 :: .bool f :: .int .i64 0 :: .bool y :: .int .i64 k :: gg 13 :: gg 14 :: gg 15 :: gg 16 :: gg 17 :: gg 18 :: gg 19 :: gg 20 :: gg 21 :: gg 22 :: gg 23 :: gg 24 :: gg 25 :: gg 26 :: gg 27 :: gg 28 :: gg 29 :: gg 30 :: gg 31 :: gg 32 :: gg 33 :: gg 34 :: gg 35 :: gg 36 :: gg 37 :: gg 38 :: gg 39 :: gg 40 :: gg 41 :: gg 42 :: gg 43 :: gg 44 :: gg 45 :: gg 46 :: gg 47 :: gg 48 :: gg 49 :: gg 50 :: gg 51 :: gg 52 :: gg 53 :: gg 54 :: gg 55 :: gg 56 :: gg 57 :: gg 58 :: gg 59 :: gg 60 :: gg 61 :: gg 62 :: gg 63 :: gg 64 :: gg 65 :: gg 66 :: gg 67 :: gg 68 :: gg 69 :: gg 70 :: gg 71 :: gg 72 :: gg 73 :: gg 74 :: gg 75 :: gg 76 :: gg 77 :: gg 78 :: gg 79 :: gg 80 :: gg 81 :: gg 82 :: gg 83 :: gg 84 :: gg 85 :: gg 86 :: gg 87 :: gg 88 :: gg 89 :: gg 90 :: gg 91 :: gg 92 :: gg 93 :: gg 94 :: gg 95 :: gg 96 :: gg 97 :: [] ∧ σ = .box (Em.player.emb p) :: .box (Em.plan3.emb x) :: .box (Em.notes.emb s) :: .box (Em.notes.emb a0) :: .box (Em.notes.emb b0) :: J) ?_ (N) (by refine ⟨0, false, [], ?_⟩; exact exF (⟨by omega, rfl⟩) (by (first | rfl | (simp []; repeat (first | rfl | (apply And.intro))) | (simp []; done))) (by (first | rfl | (simp []; repeat (first | rfl | (apply And.intro))) | (simp []; done))))
      rintro m fr σ ⟨k, y, J, gg, hI, rfl, rfl⟩
      obtain ⟨hm, hy⟩ := hI
      by_cases hkN : k < N
      · have q1 : (k : Int) < (N : Int) := by omega
        cases y with
        | true =>
          have hft : f = true := by rw [← hcl]; exact anyTo_mono p l hy.symm (by omega)
          subst hft
          repeat (first
            | (refine Fr.i ?_; simp only [pput, List.set_cons_zero, List.set_cons_succ]; try rfl)
            | (refine By.i ?_; simp (disch := first | omega | (simp; done) | (simp; omega)) [wrap_i64, wrap_u64, q1, hsh]; first | done | rfl | exact ⟨rfl, rfl⟩) | (refine Wt.i ?_; first | rfl | (simp [q1, hsh]; done))
            | (refine Ns.i ?_; (try simp only [List.append_nil, List.nil_append, List.cons_append, List.append_assoc, List.length_append, List.length_cons, List.length_nil, Nat.zero_add, Nat.reduceAdd]); rfl) | rfl
            | (apply SL.pass; (focus (refine Wt.i ?_; rfl))) | apply SL.move | apply SL.assign | apply SL.load | apply SL.binOp | apply SL.append | apply SL.builtin | apply SL.fieldAddr | apply SL.indexAddr | apply SL.field | apply SL.extract
            | apply SL.fcall | apply SL.pick | apply SL.store | apply SL.unOp | apply SL.convert | apply SL.index | apply SL.slice | apply SL.build | apply SL.nilCheck | apply SL.buildSlice | apply SL.box | apply SL.alloc | apply SL.makeFunc
            | apply SQ.nil | (apply WL.reg; (focus decide +kernel)) | (apply WL.drawP (by assumption); (focus decide +kernel); (focus decide +kernel)) | (apply WL.drawF; (focus decide +kernel); (focus decide +kernel))
            | (apply WL.reg1; (focus decide +kernel)) | (apply WL.drawP1 (by assumption); (focus decide +kernel); (focus decide +kernel)) | (apply WL.drawF1; (focus decide +kernel); (focus decide +kernel)) | apply WL.skip
            | (apply WL.ct; (focus rfl)) | (apply WL.cf; (focus rfl)) | refine SeqQ.normal ?_ | refine SeqQ.ret ?_ | refine SeqQ.exit ?_ | refine BlockQ.normal ?_ | refine BlockQ.ret ?_ | refine BlockQ.here ?_
            | refine BlockQ.there (by decide) ?_ | refine Wp.block ?_ | refine Wp.skip ?_ | refine Wp.ret ?_ | refine Wp.exit ?_ | refine LoopI.ret ?_ | refine LoopI.exit ?_ | refine LoopQ.normal ?_ | refine LoopQ.ret ?_ | refine LoopQ.exit ?_
            | refine Wp.seq (Wp.seq ?_) | refine Wp.seq (Wp.block ?_) | (refine Wp.seq ?_; apply WL.ct; (focus rfl)) | (refine Wp.seq ?_; apply WL.cf; (focus rfl)))
          simp (disch := first | omega | (simp; done) | (simp; omega)) [decide_eq_decide] <;> try rfl
        | false =>
          obtain ⟨M, hM⟩ : ∃ M, M = m := ⟨_, rfl⟩
          repeat (first
            | (refine Fr.i ?_; simp only [pput, List.set_cons_zero, List.set_cons_succ]; try rfl)
            | (refine By.i ?_; simp (disch := first | omega | (simp; done) | (simp; omega)) [wrap_i64, wrap_u64, q1, hsh]; first | done | rfl | exact ⟨rfl, rfl⟩) | (refine Wt.i ?_; first | rfl | (simp [q1, hsh]; done))
            | (refine Ns.i ?_; (try simp only [List.append_nil, List.nil_append, List.cons_append, List.append_assoc, List.length_append, List.length_cons, List.length_nil, Nat.zero_add, Nat.reduceAdd]); rfl) | rfl
            | (apply SL.pass; (focus (refine Wt.i ?_; rfl))) | apply SL.move | apply SL.assign | apply SL.load | apply SL.binOp | apply SL.append | apply SL.builtin | apply SL.fieldAddr | apply SL.indexAddr | apply SL.field | apply SL.extract
            | apply SL.fcall | apply SL.pick | apply SL.store | apply SL.unOp | apply SL.convert | apply SL.index | apply SL.slice | apply SL.build | apply SL.nilCheck | apply SL.buildSlice | apply SL.box | apply SL.alloc | apply SL.makeFunc
            | apply SQ.nil | (apply WL.reg; (focus decide +kernel)) | (apply WL.drawP (by assumption); (focus decide +kernel); (focus decide +kernel)) | (apply WL.drawF; (focus decide +kernel); (focus decide +kernel))
            | (apply WL.reg1; (focus decide +kernel)) | (apply WL.drawP1 (by assumption); (focus decide +kernel); (focus decide +kernel)) | (apply WL.drawF1; (focus decide +kernel); (focus decide +kernel)) | apply WL.skip
            | (apply WL.ct; (focus rfl)) | (apply WL.cf; (focus rfl)) | refine SeqQ.normal ?_ | refine SeqQ.ret ?_ | refine SeqQ.exit ?_ | refine BlockQ.normal ?_ | refine BlockQ.ret ?_ | refine BlockQ.here ?_
            | refine BlockQ.there (by decide) ?_ | refine Wp.block ?_ | refine Wp.skip ?_ | refine Wp.ret ?_ | refine Wp.exit ?_ | refine LoopI.ret ?_ | refine LoopI.exit ?_ | refine LoopQ.normal ?_ | refine LoopQ.ret ?_ | refine LoopQ.exit ?_
            | refine Wp.seq (Wp.seq ?_) | refine Wp.seq (Wp.block ?_) | (refine Wp.seq ?_; apply WL.ct; (focus rfl)) | (refine Wp.seq ?_; apply WL.cf; (focus rfl)))
          refine Wp.loopI (fun m fr σ => ∃ (i za zb : Nat) (qa qb : List Int) (ta tb : Tok) (J2 : List SObj), ∃ gg : Nat → PD, (i + m = l.length ∧ qa = selT l k i ∧ qb = selF l k i ∧ (qa = [] ∨ za = 1) ∧ (qb = [] ∨ zb = 1) ∧ RowAt ([.box (Em.player.emb p), .box (Em.plan3.emb x), .box (Em.notes.emb s), .box (Em.notes.emb a0), .box (Em.notes.emb b0)] ++ J2) ta 3 1 qa.length ∧ RowAt ([.box (Em.player.emb p), .box (Em.plan3.emb x), .box (Em.notes.emb s), .box (Em.notes.emb a0), .box (Em.notes.emb b0)] ++ J2) tb 3 1 qb.length ∧ (∀ id, ta = .own id → tb ≠ .own id)) ∧ fr = Em.player.emb p :: Em.plan3.emb x :: .ptr 0 0 :: .ptr 1 0 :: .bool false :: .ptr 2 0 :: i64s.emb l :: .ptr 3 0 :: .ptr 4 0 :: .bool f :: .int .i64 0 :: .bool false :: .int .i64 k :: .slice za (qa.map i64.emb) ta :: .slice zb (qb.map i64.emb) tb :: .int .i64 i :: gg 16 :: gg 17 :: gg 18 :: gg 19 :: gg 20 :: gg 21 :: gg 22 :: gg 23 :: gg 24 :: gg 25 :: gg 26 :: gg 27 :: gg 28 :: gg 29 :: gg 30 :: gg 31 :: gg 32 :: gg 33 :: gg 34 :: gg 35 :: gg 36 :: gg 37 :: gg 38 :: gg 39 :: gg 40 :: gg 41 :: gg 42 :: gg 43 :: gg 44 :: gg 45 :: gg 46 :: gg 47 :: gg 48 :: gg 49 :: gg 50 :: gg 51 :: gg 52 :: gg 53 :: gg 54 :: gg 55 :: gg 56 :: gg 57 :: gg 58 :: gg 59 :: gg 60 :: gg 61 :: gg 62 :: gg 63 :: gg 64 :: gg 65 :: gg 66 :: gg 67 :: gg 68 :: gg 69 :: gg 70 :: gg 71 :: gg 72 :: gg 73 :: gg 74 :: gg 75 :: gg 76 :: gg 77 :: gg 78 :: gg 79 :: gg 80 :: gg 81 :: gg 82 :: gg 83 :: gg 84 :: gg 85 :: gg 86 :: gg 87 :: gg 88 :: gg 89 :: gg 90 :: gg 91 :: gg 92 :: gg 93 :: gg 94 :: gg 95 :: gg 96 :: gg 97 :: [] ∧ σ = .box (Em.player.emb p) :: .box (Em.plan3.emb x) :: .box (Em.notes.emb s) :: .box (Em.notes.emb a0) :: .box (Em.notes.emb b0) :: J2) ?_ (l.length) (by refine ⟨0, 0, 0, [], [], .full, .full, J, ?_⟩; exact exF (⟨by omega, rfl, rfl, .inl rfl, .inl rfl, .inl ⟨rfl, rfl⟩, .inl ⟨rfl, rfl⟩, fun id e => by cases e⟩) (by (first | rfl | (simp []; repeat (first | rfl | (apply And.intro))) | (simp []; done))) (by (first | rfl | (simp []; repeat (first | rfl | (apply And.intro))) | (simp []; done))))
          rintro m fr σ ⟨i, za, zb, qa, qb, ta, tb, J2, gg, hI, rfl, rfl⟩
          obtain ⟨hm2, hqa, hqb, hza, hzb, hra, hrb, hne⟩ := hI
          have hsl := sel_len l k i
          rw [← hqa, ← hqb] at hsl
          by_cases hi : i < l.length
          · have q2 : (i : Int) < (l.length : Int) := by omega
            obtain ⟨d, hd⟩ : ∃ d, d = k / 2 ^ i := ⟨_, rfl⟩
            have hdk : d ≤ k := by rw [hd]; exact Nat.div_le_self _ _
            have hshr := shr_i64 (n := k) (i := i) (by omega) (by omega)
            rw [← hd] at hshr
            have htb : k.testBit i = decide (d % 2 = 1) := by rw [Nat.testBit_eq_decide_div_mod_eq, ← hd]
            have hsT := selT_succ l k i
            have hsF := selF_succ l k i
            have hgd : l.getD i 0 = l[i] := by simp [List.getElem?_eq_getElem hi]
            rw [← hqa, hgd] at hsT
            rw [← hqb, hgd] at hsF
            by_cases hb : d % 2 = 1
            · have hand : pbits .and .i64 (d : Int) 1 = some 1 := by rw [and_one_i64 (by omega), hb]; rfl
              rw [htb, hb] at hsT hsF
              simp only [decide_true, if_true] at hsT hsF
              focus
                obtain ⟨tok', J3, hap, hr', hkeep⟩ := pappend_rowB (P := Tryd.prog) (B := [.box (Em.player.emb p), .box (Em.plan3.emb x), .box (Em.notes.emb s), .box (Em.notes.emb a0), .box (Em.notes.emb b0)]) (J := J2) (t := 30) (e := 3) (k := 1) (b := 8) (s := za) (xs := qa.map i64.emb) (p := i64.emb l[i]) (tk := .any) (tok := ta)
                  (by intro o ho; simp only [List.mem_cons, List.not_mem_nil, or_false] at ho; rcases ho with rfl | rfl | rfl | rfl | rfl <;> trivial) Tryd.underlying30 (by kernel_rfl) (by simpa using hza) (by rw [List.length_map]; exact hra) (by rw [List.length_map]; omega) (by rw [List.length_map]; omega)
                obtain ⟨hro, hne'⟩ := hkeep _ _ _ _ hrb hne
                obtain ⟨X, hX⟩ : ∃ X, X = (qa ++ [l[i]]).map i64.emb := ⟨_, rfl⟩
                rw [show qa.map i64.emb ++ [i64.emb l[i]] = X by rw [hX, List.map_append]; rfl] at hap
                simp only [emb_player, emb_plan3, emb_notes, emb_int, List.cons_append, List.nil_append] at hap
                repeat (first
                  | (refine Fr.i ?_; simp only [pput, List.set_cons_zero, List.set_cons_succ]; try rfl)
                  | (refine By.i ?_; simp (disch := first | omega | (simp; done) | (simp; omega)) [wrap_i64, wrap_u64, q2, hshr, hand, hap]; first | done | rfl | exact ⟨rfl, rfl⟩)
                  | (refine Wt.i ?_; first | rfl | (simp [q2, hshr, hand, hap]; done))
                  | (refine Ns.i ?_; (try simp only [List.append_nil, List.nil_append, List.cons_append, List.append_assoc, List.length_append, List.length_cons, List.length_nil, Nat.zero_add, Nat.reduceAdd]); rfl) | rfl
                  | (apply SL.pass; (focus (refine Wt.i ?_; rfl))) | apply SL.move | apply SL.assign | apply SL.load | apply SL.binOp | apply SL.append | apply SL.builtin | apply SL.fieldAddr | apply SL.indexAddr | apply SL.field
                  | apply SL.extract | apply SL.fcall | apply SL.pick | apply SL.store | apply SL.unOp | apply SL.convert | apply SL.index | apply SL.slice | apply SL.build | apply SL.nilCheck | apply SL.buildSlice | apply SL.box
                  | apply SL.alloc | apply SL.makeFunc | apply SQ.nil | (apply WL.reg; (focus decide +kernel)) | (apply WL.drawP (by assumption); (focus decide +kernel); (focus decide +kernel))
                  | (apply WL.drawF; (focus decide +kernel); (focus decide +kernel)) | (apply WL.reg1; (focus decide +kernel)) | (apply WL.drawP1 (by assumption); (focus decide +kernel); (focus decide +kernel))
                  | (apply WL.drawF1; (focus decide +kernel); (focus decide +kernel)) | apply WL.skip | (apply WL.ct; (focus rfl)) | (apply WL.cf; (focus rfl)) | refine SeqQ.normal ?_ | refine SeqQ.ret ?_ | refine SeqQ.exit ?_
                  | refine BlockQ.normal ?_ | refine BlockQ.ret ?_ | refine BlockQ.here ?_ | refine BlockQ.there (by decide) ?_ | refine Wp.block ?_ | refine Wp.skip ?_ | refine Wp.ret ?_ | refine Wp.exit ?_ | refine LoopI.ret ?_
                  | refine LoopI.exit ?_ | refine LoopQ.normal ?_ | refine LoopQ.ret ?_ | refine LoopQ.exit ?_ | refine Wp.seq (Wp.seq ?_) | refine Wp.seq (Wp.block ?_) | (refine Wp.seq ?_; apply WL.ct; (focus rfl))
                  | (refine Wp.seq ?_; apply WL.cf; (focus rfl)))
                subst hX
                refine LoopI.normal (m - 1) (by omega) (by refine ⟨i + 1, 1, zb, qa ++ [l[i]], qb, tok', tb, J3, ?_⟩; exact exF (⟨by omega, hsT.symm, hsF.symm, .inr rfl, hzb, by simpa using hr', hro, hne'⟩) (by (first | rfl | (simp []; repeat (first | rfl | (apply And.intro))) | (simp []; done))) (by (first | rfl | (simp []; repeat (first | rfl | (apply And.intro))) | (simp []; done))))
            · have hb0 : d % 2 = 0 := by omega
              have hand : pbits .and .i64 (d : Int) 1 = some 0 := by rw [and_one_i64 (by omega), hb0]; rfl
              rw [htb, hb0] at hsT hsF
              simp only [Nat.zero_ne_one, decide_false, Bool.false_eq_true, if_false] at hsT hsF
              focus
                obtain ⟨tok', J3, hap, hr', hkeep⟩ := pappend_rowB (P := Tryd.prog) (B := [.box (Em.player.emb p), .box (Em.plan3.emb x), .box (Em.notes.emb s), .box (Em.notes.emb a0), .box (Em.notes.emb b0)]) (J := J2) (t := 30) (e := 3) (k := 1) (b := 8) (s := zb) (xs := qb.map i64.emb) (p := i64.emb l[i]) (tk := .any) (tok := tb)
                  (by intro o ho; simp only [List.mem_cons, List.not_mem_nil, or_false] at ho; rcases ho with rfl | rfl | rfl | rfl | rfl <;> trivial) Tryd.underlying30 (by kernel_rfl) (by simpa using hzb) (by rw [List.length_map]; exact hrb) (by rw [List.length_map]; omega) (by rw [List.length_map]; omega)
                obtain ⟨hro, hne'⟩ := hkeep _ _ _ _ hra (fun id e1 e2 => hne id e2 e1)
                obtain ⟨X, hX⟩ : ∃ X, X = (qb ++ [l[i]]).map i64.emb := ⟨_, rfl⟩
                rw [show qb.map i64.emb ++ [i64.emb l[i]] = X by rw [hX, List.map_append]; rfl] at hap
                simp only [emb_player, emb_plan3, emb_notes, emb_int, List.cons_append, List.nil_append] at hap
                repeat (first
                  | (refine Fr.i ?_; simp only [pput, List.set_cons_zero, List.set_cons_succ]; try rfl)
                  | (refine By.i ?_; simp (disch := first | omega | (simp; done) | (simp; omega)) [wrap_i64, wrap_u64, q2, hshr, hand, hap]; first | done | rfl | exact ⟨rfl, rfl⟩)
                  | (refine Wt.i ?_; first | rfl | (simp [q2, hshr, hand, hap]; done))
                  | (refine Ns.i ?_; (try simp only [List.append_nil, List.nil_append, List.cons_append, List.append_assoc, List.length_append, List.length_cons, List.length_nil, Nat.zero_add, Nat.reduceAdd]); rfl) | rfl
                  | (apply SL.pass; (focus (refine Wt.i ?_; rfl))) | apply SL.move | apply SL.assign | apply SL.load | apply SL.binOp | apply SL.append | apply SL.builtin | apply SL.fieldAddr | apply SL.indexAddr | apply SL.field
                  | apply SL.extract | apply SL.fcall | apply SL.pick | apply SL.store | apply SL.unOp | apply SL.convert | apply SL.index | apply SL.slice | apply SL.build | apply SL.nilCheck | apply SL.buildSlice | apply SL.box
                  | apply SL.alloc | apply SL.makeFunc | apply SQ.nil | (apply WL.reg; (focus decide +kernel)) | (apply WL.drawP (by assumption); (focus decide +kernel); (focus decide +kernel))
                  | (apply WL.drawF; (focus decide +kernel); (focus decide +kernel)) | (apply WL.reg1; (focus decide +kernel)) | (apply WL.drawP1 (by assumption); (focus decide +kernel); (focus decide +kernel))
                  | (apply WL.drawF1; (focus decide +kernel); (focus decide +kernel)) | apply WL.skip | (apply WL.ct; (focus rfl)) | (apply WL.cf; (focus rfl)) | refine SeqQ.normal ?_ | refine SeqQ.ret ?_ | refine SeqQ.exit ?_
                  | refine BlockQ.normal ?_ | refine BlockQ.ret ?_ | refine BlockQ.here ?_ | refine BlockQ.there (by decide) ?_ | refine Wp.block ?_ | refine Wp.skip ?_ | refine Wp.ret ?_ | refine Wp.exit ?_ | refine LoopI.ret ?_
                  | refine LoopI.exit ?_ | refine LoopQ.normal ?_ | refine LoopQ.ret ?_ | refine LoopQ.exit ?_ | refine Wp.seq (Wp.seq ?_) | refine Wp.seq (Wp.block ?_) | (refine Wp.seq ?_; apply WL.ct; (focus rfl))
                  | (refine Wp.seq ?_; apply WL.cf; (focus rfl)))
                subst hX
                refine LoopI.normal (m - 1) (by omega) (by refine ⟨i + 1, za, 1, qa, qb ++ [l[i]], ta, tok', J3, ?_⟩; exact exF (⟨by omega, hsT.symm, hsF.symm, hza, .inr rfl, hro, by simpa using hr', fun id e1 e2 => hne' id e2 e1⟩) (by (first | rfl | (simp []; repeat (first | rfl | (apply And.intro))) | (simp []; done))) (by (first | rfl | (simp []; repeat (first | rfl | (apply And.intro))) | (simp []; done))))
          · have q2 : ¬ (i : Int) < (l.length : Int) := by omega
            have hil : i = l.length := by omega
            subst hil
            have hat : anyAt p l k = (holdsOk qa p.hn p.hs && holdsOk qb p.hn p.hs) := by rw [anyAt, ← hqa, ← hqb]
            have hnext := anyTo_succ p l k
            rw [← hy, hat, Bool.false_or] at hnext
            have d1 := dec_list (e := i64) (tok := ta) hza
            have d2 := dec_list (e := i64) (tok := tb) hzb
            have q3 : (qa.length : Int) < 1000000 := by omega
            have q4 : (qb.length : Int) < 1000000 := by omega
            cases ho : holdsOk qa p.hn p.hs with
            | false =>
              rw [ho, Bool.false_and] at hnext
              repeat (first
                | (refine Fr.i ?_; simp only [pput, List.set_cons_zero, List.set_cons_succ]; try rfl)
                | (refine By.i ?_; simp (disch := first | omega | (simp; done) | (simp; omega)) [wrap_i64, wrap_u64, q2, h4, d1, d2, q3, q4, ho, entry, gf3]; first | done | rfl | exact ⟨rfl, rfl⟩)
                | (refine Wt.i ?_; first | rfl | (simp [q2, h4, d1, d2, q3, q4, ho, entry, gf3]; done))
                | (refine Ns.i ?_; (try simp only [List.append_nil, List.nil_append, List.cons_append, List.append_assoc, List.length_append, List.length_cons, List.length_nil, Nat.zero_add, Nat.reduceAdd]); rfl) | rfl
                | (apply SL.pass; (focus (refine Wt.i ?_; rfl))) | apply SL.move | apply SL.assign | apply SL.load | apply SL.binOp | apply SL.append | apply SL.builtin | apply SL.fieldAddr | apply SL.indexAddr | apply SL.field
                | apply SL.extract | apply SL.fcall | apply SL.pick | apply SL.store | apply SL.unOp | apply SL.convert | apply SL.index | apply SL.slice | apply SL.build | apply SL.nilCheck | apply SL.buildSlice | apply SL.box
                | apply SL.alloc | apply SL.makeFunc | apply SQ.nil | (apply WL.reg; (focus decide +kernel)) | (apply WL.drawP (by assumption); (focus decide +kernel); (focus decide +kernel))
                | (apply WL.drawF; (focus decide +kernel); (focus decide +kernel)) | (apply WL.reg1; (focus decide +kernel)) | (apply WL.drawP1 (by assumption); (focus decide +kernel); (focus decide +kernel))
                | (apply WL.drawF1; (focus decide +kernel); (focus decide +kernel)) | apply WL.skip | (apply WL.ct; (focus rfl)) | (apply WL.cf; (focus rfl)) | refine SeqQ.normal ?_ | refine SeqQ.ret ?_ | refine SeqQ.exit ?_
                | refine BlockQ.normal ?_ | refine BlockQ.ret ?_ | refine BlockQ.here ?_ | refine BlockQ.there (by decide) ?_ | refine Wp.block ?_ | refine Wp.skip ?_ | refine Wp.ret ?_ | refine Wp.exit ?_ | refine LoopI.ret ?_
                | refine LoopI.exit ?_ | refine LoopQ.normal ?_ | refine LoopQ.ret ?_ | refine LoopQ.exit ?_ | refine Wp.seq (Wp.seq ?_) | refine Wp.seq (Wp.block ?_) | (refine Wp.seq ?_; apply WL.ct; (focus rfl))
                | (refine Wp.seq ?_; apply WL.cf; (focus rfl)))
              refine LoopI.normal (M - 1) (by omega) (by refine ⟨k + 1, false, J2, ?_⟩; exact exF (⟨by omega, hnext.symm⟩) (by (first | rfl | (simp []; repeat (first | rfl | (apply And.intro))) | (simp []; done))) (by (first | rfl | (simp []; repeat (first | rfl | (apply And.intro))) | (simp []; done))))
            | true =>
              rw [ho, Bool.true_and] at hnext
              repeat (first
                | (refine Fr.i ?_; simp only [pput, List.set_cons_zero, List.set_cons_succ]; try rfl)
                | (refine By.i ?_; simp (disch := first | omega | (simp; done) | (simp; omega)) [wrap_i64, wrap_u64, q2, h4, d1, d2, q3, q4, ho, entry, gf3]; first | done | rfl | exact ⟨rfl, rfl⟩)
                | (refine Wt.i ?_; first | rfl | (simp [q2, h4, d1, d2, q3, q4, ho, entry, gf3]; done))
                | (refine Ns.i ?_; (try simp only [List.append_nil, List.nil_append, List.cons_append, List.append_assoc, List.length_append, List.length_cons, List.length_nil, Nat.zero_add, Nat.reduceAdd]); rfl) | rfl
                | (apply SL.pass; (focus (refine Wt.i ?_; rfl))) | apply SL.move | apply SL.assign | apply SL.load | apply SL.binOp | apply SL.append | apply SL.builtin | apply SL.fieldAddr | apply SL.indexAddr | apply SL.field
                | apply SL.extract | apply SL.fcall | apply SL.pick | apply SL.store | apply SL.unOp | apply SL.convert | apply SL.index | apply SL.slice | apply SL.build | apply SL.nilCheck | apply SL.buildSlice | apply SL.box
                | apply SL.alloc | apply SL.makeFunc | apply SQ.nil | (apply WL.reg; (focus decide +kernel)) | (apply WL.drawP (by assumption); (focus decide +kernel); (focus decide +kernel))
                | (apply WL.drawF; (focus decide +kernel); (focus decide +kernel)) | (apply WL.reg1; (focus decide +kernel)) | (apply WL.drawP1 (by assumption); (focus decide +kernel); (focus decide +kernel))
                | (apply WL.drawF1; (focus decide +kernel); (focus decide +kernel)) | apply WL.skip | (apply WL.ct; (focus rfl)) | (apply WL.cf; (focus rfl)) | refine SeqQ.normal ?_ | refine SeqQ.ret ?_ | refine SeqQ.exit ?_
                | refine BlockQ.normal ?_ | refine BlockQ.ret ?_ | refine BlockQ.here ?_ | refine BlockQ.there (by decide) ?_ | refine Wp.block ?_ | refine Wp.skip ?_ | refine Wp.ret ?_ | refine Wp.exit ?_ | refine LoopI.ret ?_
                | refine LoopI.exit ?_ | refine LoopQ.normal ?_ | refine LoopQ.ret ?_ | refine LoopQ.exit ?_ | refine Wp.seq (Wp.seq ?_) | refine Wp.seq (Wp.block ?_) | (refine Wp.seq ?_; apply WL.ct; (focus rfl))
                | (refine Wp.seq ?_; apply WL.cf; (focus rfl)))
              refine LoopI.normal (M - 1) (by omega) (by refine ⟨k + 1, holdsOk qb p.hn p.hs, J2, ?_⟩; exact exF (⟨by omega, hnext.symm⟩) (by (first | rfl | (simp []; repeat (first | rfl | (apply And.intro))) | (simp []; done))) (by (first | rfl | (simp []; repeat (first | rfl | (apply And.intro))) | (simp []; done))))
      · have q1 : ¬ (k : Int) < (N : Int) := by omega
        have hkN2 : k = N := by omega
        subst hkN2
        have hyf : y = f := hy.trans hcl
        subst hyf
        repeat (first
          | (refine Fr.i ?_; simp only [pput, List.set_cons_zero, List.set_cons_succ]; try rfl)
          | (refine By.i ?_; simp (disch := first | omega | (simp; done) | (simp; omega)) [wrap_i64, wrap_u64, q1, hsh]; first | done | rfl | exact ⟨rfl, rfl⟩) | (refine Wt.i ?_; first | rfl | (simp [q1, hsh]; done))
          | (refine Ns.i ?_; (try simp only [List.append_nil, List.nil_append, List.cons_append, List.append_assoc, List.length_append, List.length_cons, List.length_nil, Nat.zero_add, Nat.reduceAdd]); rfl) | rfl
          | (apply SL.pass; (focus (refine Wt.i ?_; rfl))) | apply SL.move | apply SL.assign | apply SL.load | apply SL.binOp | apply SL.append | apply SL.builtin | apply SL.fieldAddr | apply SL.indexAddr | apply SL.field | apply SL.extract
          | apply SL.fcall | apply SL.pick | apply SL.store | apply SL.unOp | apply SL.convert | apply SL.index | apply SL.slice | apply SL.build | apply SL.nilCheck | apply SL.buildSlice | apply SL.box | apply SL.alloc | apply SL.makeFunc
          | apply SQ.nil | (apply WL.reg; (focus decide +kernel)) | (apply WL.drawP (by assumption); (focus decide +kernel); (focus decide +kernel)) | (apply WL.drawF; (focus decide +kernel); (focus decide +kernel))
          | (apply WL.reg1; (focus decide +kernel)) | (apply WL.drawP1 (by assumption); (focus decide +kernel); (focus decide +kernel)) | (apply WL.drawF1; (focus decide +kernel); (focus decide +kernel)) | apply WL.skip
          | (apply WL.ct; (focus rfl)) | (apply WL.cf; (focus rfl)) | refine SeqQ.normal ?_ | refine SeqQ.ret ?_ | refine SeqQ.exit ?_ | refine BlockQ.normal ?_ | refine BlockQ.ret ?_ | refine BlockQ.here ?_
          | refine BlockQ.there (by decide) ?_ | refine Wp.block ?_ | refine Wp.skip ?_ | refine Wp.ret ?_ | refine Wp.exit ?_ | refine LoopI.ret ?_ | refine LoopI.exit ?_ | refine LoopQ.normal ?_ | refine LoopQ.ret ?_ | refine LoopQ.exit ?_
          | refine Wp.seq (Wp.seq ?_) | refine Wp.seq (Wp.block ?_) | (refine Wp.seq ?_; apply WL.ct; (focus rfl)) | (refine Wp.seq ?_; apply WL.cf; (focus rfl)))
        simp (disch := first | omega | (simp; done) | (simp; omega)) [decide_eq_decide] <;> try rfl
  · repeat (first
      | (refine Fr.i ?_; simp only [pput, List.set_cons_zero, List.set_cons_succ]; try rfl)
      | (refine By.i ?_; simp (disch := first | omega | (simp; done) | (simp; omega)) [wrap_i64, wrap_u64, h, hk, hc, h1, h2, hx, hs, entry, gf0, gf1]; first | done | rfl | exact ⟨rfl, rfl⟩)
      | (refine Wt.i ?_; first | rfl | (simp [h, hk, hc, h1, h2, hx, hs, entry, gf0, gf1]; done))
      | (refine Ns.i ?_; (try simp only [List.append_nil, List.nil_append, List.cons_append, List.append_assoc, List.length_append, List.length_cons, List.length_nil, Nat.zero_add, Nat.reduceAdd]); rfl) | rfl
      | (apply SL.pass; (focus (refine Wt.i ?_; rfl))) | apply SL.move | apply SL.assign | apply SL.load | apply SL.binOp | apply SL.append | apply SL.builtin | apply SL.fieldAddr | apply SL.indexAddr | apply SL.field | apply SL.extract
      | apply SL.fcall | apply SL.pick | apply SL.store | apply SL.unOp | apply SL.convert | apply SL.index | apply SL.slice | apply SL.build | apply SL.nilCheck | apply SL.buildSlice | apply SL.box | apply SL.alloc | apply SL.makeFunc
      | apply SQ.nil | (apply WL.reg; (focus decide +kernel)) | (apply WL.drawP (by assumption); (focus decide +kernel); (focus decide +kernel)) | (apply WL.drawF; (focus decide +kernel); (focus decide +kernel))
      | (apply WL.reg1; (focus decide +kernel)) | (apply WL.drawP1 (by assumption); (focus decide +kernel); (focus decide +kernel)) | (apply WL.drawF1; (focus decide +kernel); (focus decide +kernel)) | apply WL.skip
      | (apply WL.ct; (focus rfl)) | (apply WL.cf; (focus rfl)) | refine SeqQ.normal ?_ | refine SeqQ.ret ?_ | refine SeqQ.exit ?_ | refine BlockQ.normal ?_ | refine BlockQ.ret ?_ | refine BlockQ.here ?_ | refine BlockQ.there (by decide) ?_
      | refine Wp.block ?_ | refine Wp.skip ?_ | refine Wp.ret ?_ | refine Wp.exit ?_ | refine LoopI.ret ?_ | refine LoopI.exit ?_ | refine LoopQ.normal ?_ | refine LoopQ.ret ?_ | refine LoopQ.exit ?_ | refine Wp.seq (Wp.seq ?_)
      | refine Wp.seq (Wp.block ?_) | (refine Wp.seq ?_; apply WL.ct; (focus rfl)) | (refine Wp.seq ?_; apply WL.cf; (focus rfl)))
    simp (disch := first | omega | (simp; done) | (simp; omega)) [decide_eq_decide] <;> try rfl

end Go.Kz

/-
  The table, with Make.
-/
namespace Go.Kz
open Go Go.Proofs
set_option maxRecDepth 10000

noncomputable def Ex1 : PExt := Ed10.add 19 (entry (gf1 .plan3 .notes fun x => gif (fitsP x) (some (makeTo x 16))))
theorem Ex1_uni : Uni Ex1 := Ed10_uni.entry
theorem Ex1_ok : ExtOk Tryd.prog Ex1 := Ed10_ok.add1 follows (fun x z hz => by obtain ⟨hg, hz⟩ := gif_some hz; simp only [Option.some.injEq] at hz; subst hz; exact r_Make Ed10_uni rfl rfl x hg)

end Go.Kz

/-
  Layer 11: how many sets two hands can hold, in plain words.
-/
namespace Go.Kz
open Go Go.Proofs

def setN (k : Nat) : Notes := ⟨BitVec.ofNat 64 k, 0#64⟩
def lowL (lo : Int) (k w : Nat) : List Int := ((List.range w).filter k.testBit).map fun i : Nat => lo + (i : Int)
def canHold (p : Player) (k : Nat) : Bool := decide (divs1 p (setN k).list ≠ [])
def countTo (p : Player) (n : Nat) : Nat := ((List.range n).filter (canHold p)).length

theorem countTo_succ (p : Player) (n : Nat) : countTo p (n + 1) = if canHold p n then countTo p n + 1 else countTo p n := by
  unfold countTo
  rw [List.range_succ, List.filter_append]
  cases h : canHold p n <;> simp [h]
theorem countTo_le (p : Player) (n : Nat) : countTo p n ≤ n := by
  unfold countTo
  exact Nat.le_trans (List.length_filter_le _ _) (by simp)
theorem lowL_succ (lo : Int) (k w : Nat) : lowL lo k (w + 1) = if k.testBit w then lowL lo k w ++ [lo + (w : Int)] else lowL lo k w := by
  unfold lowL
  rw [List.range_succ, List.filter_append, List.map_append]
  cases h : k.testBit w <;> simp [h]
theorem lowL_len (lo : Int) (k w : Nat) : (lowL lo k w).length ≤ w := by
  unfold lowL
  rw [List.length_map]
  exact Nat.le_trans (List.length_filter_le _ _) (by simp)

theorem bits_small {k w : Nat} (hk : k < 2 ^ w) (hw : w ≤ 64) : bits (BitVec.ofNat 64 k) = (List.range w).filter k.testBit := by
  have h64 : k < 2 ^ 64 := Nat.lt_of_lt_of_le hk (Nat.pow_le_pow_right (by omega) hw)
  have e1 : (BitVec.ofNat 64 k).getLsbD = k.testBit := by
    funext i
    rw [BitVec.getLsbD, BitVec.toNat_ofNat, Nat.mod_eq_of_lt h64]
  unfold bits
  rw [e1]
  obtain ⟨d, hd⟩ : ∃ d, 64 = w + d := ⟨64 - w, by omega⟩
  rw [hd, List.range_add, List.filter_append]
  have : ((List.range d).map (w + ·)).filter k.testBit = [] := by
    rw [List.filter_eq_nil_iff]
    intro x hx
    obtain ⟨i, _, rfl⟩ := List.mem_map.1 hx
    rw [Nat.testBit_lt_two_pow (Nat.lt_of_lt_of_le hk (Nat.pow_le_pow_right (by omega) (by omega)))]
    simp
  rw [this, List.append_nil]

theorem setN_list {k w : Nat} (hk : k < 2 ^ w) (hw : w ≤ 64) : (setN k).list = ((List.range w).filter k.testBit).map fun i : Nat => (i : Int) := by
  rw [list_bits]
  show (bits (BitVec.ofNat 64 k)).map _ ++ (bits 0#64).map _ = _
  rw [bits_small hk hw, bits_zero, List.map_nil, List.append_nil]

theorem lowL_shift {k w : Nat} (hk : k < 2 ^ w) (hw : w ≤ 64) (lo : Int) : lowL lo k w = (setN k).list.map fun n => lo + n := by
  rw [setN_list hk hw, List.map_map]
  rfl

theorem widthP_shift (l : List Int) (lo : Int) : widthP (l.map fun n => lo + n) = widthP l := by
  unfold widthP
  cases l with
  | nil => rfl
  | cons x xs =>
    rw [List.getLast?_map, List.head?_map]
    rw [List.getLast?_eq_getLast (by simp)]
    simp only [List.head?_cons, Option.map_some, Option.getD_some]
    congr 1
    omega
theorem oneOk_shift (p : Player) (l : List Int) (lo : Int) : oneOk p (l.map fun n => lo + n) = oneOk p l := by
  have h := widthP_shift l lo
  unfold widthP at h
  unfold oneOk
  rw [h, List.length_map]
theorem divs1_shift (p : Player) (l : List Int) (lo : Int) : divs1 p (l.map fun n => lo + n) = divs1 p l := by
  unfold divs1
  rw [List.length_map]
  apply List.filter_congr
  intro t _
  unfold ok1
  rw [← List.map_take, ← List.map_drop, oneOk_shift, oneOk_shift]

theorem divF_low {p : Player} (h : errOf p = 0) {k w : Nat} (hk : k < 2 ^ w) (hw : w ≤ 64) (lo : Int) : (0 < (divF p (lowL lo k w)).length) = (canHold p k = true) := by
  rw [divF_divs1 p _ (err_hs h), List.length_map, lowL_shift hk hw, divs1_shift]
  unfold canHold
  rw [decide_eq_true_eq, List.length_pos_iff]

theorem canHold_zero {p : Player} (h : errOf p = 0) : canHold p 0 = true := by
  have hr : ¬ (p.hn < 0 ∨ 10 < p.hn ∨ p.fn < 0 ∨ 10 < p.fn ∨ p.hs < 0 ∨ 127 < p.hs ∨ p.fs < 0 ∨ 127 < p.fs) := by
    intro hc
    unfold errOf at h
    rw [if_pos hc] at h
    cases h
  have e : (setN 0).list = [] := by rw [setN_list (w := 0) (by decide) (by omega)]; rfl
  have h1 : oneOk p [] = true := by
    have a1 : 0 ≤ p.hn := by omega
    have a2 : 0 ≤ p.hs := by omega
    simp [oneOk, a1, a2]
  unfold canHold
  rw [e]
  have : divs1 p [] = [0] := by
    unfold divs1
    simp [ok1, h1]
  rw [this]
  simp

theorem countTo_pos {p : Player} (h : errOf p = 0) {n : Nat} (hn : 0 < n) : 1 ≤ countTo p n := by
  induction n with
  | zero => omega
  | succ n ih =>
    rw [countTo_succ]
    rcases Nat.eq_zero_or_pos n with e | e
    · subst e
      rw [canHold_zero h]
      simp
    · have := ih e
      split <;> omega

/-- What Count answers. -/
def countF (p : Player) (c : Compass) : Int × Int := if errOf p ≠ 0 then (0, errOf p) else if errC c ≠ 0 then (0, errC c) else if 16 ≤ c.high - c.low then (0, 4) else ((countTo p (2 ^ (c.high - c.low + 1).toNat) : Nat), 0)

end Go.Kz

/-
  Layer 11: what stays possible when a set or a player changes a little.
-/
namespace Go.Kz
open Go Go.Proofs

def oneN (n : Int) : Notes := ofL [n]

theorem holdsN_sub {a l : List Int} {n w : Int} (hs : a.Sublist l) (hp : l.Pairwise (· < ·)) (h : holdsN l n w) : holdsN a n w := by
  refine ⟨by have := hs.length_le; have := h.1; omega, ?_⟩
  by_cases ha : a = []
  · exact .inl ha
  · right
    have m1 := hs.subset (head_mem ha)
    have m2 := hs.subset (last_mem ha)
    have e1 := head_le hp m1
    have e2 := le_last hp m2
    rcases h.2 with e | e
    · rw [e] at m1; simp at m1
    · omega

/-- Leaving out notes leaves it possible. -/
theorem divs1_filter (p : Player) (s s' : Notes) (q : Int → Bool) (h : errOf p = 0) (he : s'.list = s.list.filter q) (hd : divs1 p s.list ≠ []) : divs1 p s'.list ≠ [] := by
  have hs := err_hs h
  obtain ⟨t, ts, e⟩ := List.exists_cons_of_ne_nil hd
  have ht : t ∈ divs1 p s.list := by rw [e]; simp
  obtain ⟨h1, h2⟩ := divs1_mem ht
  unfold ok1 at h2
  rw [Bool.and_eq_true, one_holds p _ hs, one_holds p _ hs, holdsOk_N (s := s) (fun x hx => List.mem_of_mem_take hx), holdsOk_N (s := s) (fun x hx => List.mem_of_mem_drop hx)] at h2
  have hsp := list_sorted s
  have e1 : s'.list = (s.list.take t).filter q ++ (s.list.drop t).filter q := by rw [he, ← List.filter_append, List.take_append_drop]
  have a1 := holdsN_sub (List.filter_sublist (p := q) (l := s.list.take t)) (hsp.sublist (List.take_sublist _ _)) h2.1
  have a2 := holdsN_sub (List.filter_sublist (p := q) (l := s.list.drop t)) (hsp.sublist (List.drop_sublist _ _)) h2.2
  refine List.ne_nil_of_mem (a := ((s.list.take t).filter q).length) ?_
  unfold divs1
  rw [List.mem_filter, List.mem_range]
  refine ⟨by rw [e1, List.length_append]; omega, ?_⟩
  have e2 : s'.list.take ((s.list.take t).filter q).length = (s.list.take t).filter q := by rw [e1, List.take_left]
  have e3 : s'.list.drop ((s.list.take t).filter q).length = (s.list.drop t).filter q := by rw [e1, List.drop_left]
  unfold ok1
  rw [e2, e3, Bool.and_eq_true, one_holds p _ hs, one_holds p _ hs,
    holdsOk_N (s := s) (fun x hx => List.mem_of_mem_take (List.mem_filter.1 hx).1), holdsOk_N (s := s) (fun x hx => List.mem_of_mem_drop (List.mem_filter.1 hx).1)]
  exact ⟨a1, a2⟩

theorem oneN_mem {n : Int} (hn : 0 ≤ n ∧ n ≤ 127) {k : Nat} (hk : k < 128) : (oneN n).mem k = decide ((k : Int) = n) := by
  unfold oneN
  rw [ofL_mem (by intro x hx; simp at hx; subst hx; exact hn) hk]
  simp

theorem without_one_list (s : Notes) {n : Int} (hn : 0 ≤ n ∧ n ≤ 127) : (withoutN s (oneN n)).list = s.list.filter fun x => !decide (x = n) := by
  unfold Notes.list listTo
  rw [List.filter_map]
  congr 1
  rw [List.filter_filter]
  apply List.filter_congr
  intro k hk
  rw [List.mem_range] at hk
  unfold withoutN
  rw [without_mem hk, oneN_mem hn hk, Bool.and_comm]
  rfl

/-- A player with more. -/
theorem divs1_more (p q : Player) (l : List Int) (h1 : p.hn ≤ q.hn) (h2 : p.hs ≤ q.hs) (hd : divs1 p l ≠ []) : divs1 q l ≠ [] := by
  obtain ⟨t, ts, e⟩ := List.exists_cons_of_ne_nil hd
  have ht : t ∈ divs1 p l := by rw [e]; simp
  refine List.ne_nil_of_mem (a := t) ?_
  unfold divs1 at ht ⊢
  rw [List.mem_filter] at ht ⊢
  refine ⟨ht.1, ?_⟩
  have h3 := ht.2
  unfold ok1 oneOk at h3 ⊢
  simp only [Bool.and_eq_true, decide_eq_true_eq] at h3 ⊢
  omega

/-- The set of a sorted list of notes has this list. -/
theorem ofL_list {l : List Int} (hp : l.Pairwise (· < ·)) (hr : ∀ n ∈ l, 0 ≤ n ∧ n ≤ 127) : (ofL l).list = l := by
  have hs := list_sorted (ofL l)
  have hm : ∀ n, n ∈ (ofL l).list ↔ n ∈ l := by
    intro n
    rw [mem_list]
    constructor
    · rintro ⟨k, rfl, hk, h⟩
      rw [ofL_mem hr hk] at h
      simpa using h
    · intro h
      have := hr n h
      refine ⟨n.toNat, by omega, by omega, ?_⟩
      rw [ofL_mem hr (by omega)]
      have e : ((n.toNat : Nat) : Int) = n := by omega
      rw [e]
      simpa using h
  have key : ∀ (a b : List Int), a.Pairwise (· < ·) → b.Pairwise (· < ·) → (∀ n, n ∈ a ↔ n ∈ b) → a = b := by
    intro a
    induction a with
    | nil =>
      intro b _ _ h
      cases b with
      | nil => rfl
      | cons y ys => have := (h y).2 (by simp); simp at this
    | cons x xs ih =>
      intro b ha hb h
      cases b with
      | nil => have := (h x).1 (by simp); simp at this
      | cons y ys =>
        have ha1 := List.pairwise_cons.1 ha
        have hb1 := List.pairwise_cons.1 hb
        have e : x = y := by
          rcases List.mem_cons.1 ((h x).1 (by simp)) with e | e
          · exact e
          · rcases List.mem_cons.1 ((h y).2 (by simp)) with e2 | e2
            · exact e2.symm
            · have := ha1.1 y e2
              have := hb1.1 x e
              omega
        subst e
        congr 1
        refine ih ys ha1.2 hb1.2 fun n => ?_
        constructor
        · intro hn
          rcases List.mem_cons.1 ((h n).1 (by simp [hn])) with e | e
          · have := ha1.1 n hn; omega
          · exact e
        · intro hn
          rcases List.mem_cons.1 ((h n).2 (by simp [hn])) with e | e
          · have := hb1.1 n hn; omega
          · exact e
  exact key _ _ hs hp hm

/-- The set moved up by one. -/
def upN (s : Notes) : Notes := ofL ((s.list.map fun n => 1 + n).filter fun n => decide (n ≤ 127))
theorem upN_list {s : Notes} (h : ∀ n ∈ s.list, n ≠ 127) : (upN s).list = s.list.map fun n => 1 + n := by
  have e : (s.list.map fun n => 1 + n).filter (fun n => decide (n ≤ 127)) = s.list.map fun n => 1 + n := by
    apply List.filter_eq_self.2
    intro n hn
    obtain ⟨m, hm, rfl⟩ := List.mem_map.1 hn
    have := list_range hm
    have := h m hm
    simp
    omega
  unfold upN
  rw [e]
  apply ofL_list
  · rw [List.pairwise_map]
    exact (list_sorted s).imp (fun h => by omega)
  · intro n hn
    obtain ⟨m, hm, rfl⟩ := List.mem_map.1 hn
    have := list_range hm
    have := h m hm
    omega

end Go.Kz

/-
  Layer 3: Least, Greatest, Shift.
-/
namespace Go.Kz
open Go Go.Proofs

def outTo (l : List Int) : Notes := ofL ((l.map fun n => 1 + n).filter fun n => decide (n ≤ 127))
theorem outTo_snoc (l : List Int) {n : Int} (hn : 0 ≤ n) : outTo (l ++ [n]) = if n + 1 ≤ 127 then withN (outTo l) (n + 1).toNat else outTo l := by
  unfold outTo
  rw [List.map_append, List.filter_append]
  by_cases h : n + 1 ≤ 127
  · have h1 : 1 + n ≤ 127 := by omega
    have h2 : 0 ≤ 1 + n := by omega
    have e : (1 + n).toNat = (n + 1).toNat := by omega
    simp [h, h1, h2, ofL, List.foldl_append, e]
  · have h1 : ¬ 1 + n ≤ 127 := by omega
    simp [h, h1]

def leastN (s : Notes) : Int × Bool := (s.list.head?.getD 0, decide (s.list ≠ []))

variable {E : PExt} (hU : Uni E)
include hU
set_option maxRecDepth 10000
set_option maxHeartbeats 4000000

theorem r_LeastN (h0 : E 26 = none) (h1 : E 44 = some gAll) (h2 : E 54 = none) (hc1 : E 55 = some (entry (gf1 .bv64 i64 fun x => some (tz x : Int)))) (s : Notes) :
    Run Tryd.prog E 26 [Em.notes.emb s] ((i64.tup2 .bool).emb (leastN s)) := by
  apply Run.bodyL h0 Tryd.func26 rfl
  focus (simp [show Tryd.f26.ntmps = _ from rfl, List.replicate]; rfl)
  repeat (first
    | (refine Fr.i ?_; simp only [pput, List.set_cons_zero, List.set_cons_succ]; try rfl) | (refine By.i ?_; simp (disch := first | omega | (simp; done) | (simp; omega)) [wrap_i64, wrap_u64, h1, gAll]; first | done | rfl | exact ⟨rfl, rfl⟩)
    | (refine Wt.i ?_; first | rfl | (simp [h1, gAll]; done))
    | (refine Ns.i ?_; (try simp only [List.append_nil, List.nil_append, List.cons_append, List.append_assoc, List.length_append, List.length_cons, List.length_nil, Nat.zero_add, Nat.reduceAdd]); rfl) | rfl
    | (apply SL.pass; (focus (refine Wt.i ?_; rfl))) | apply SL.move | apply SL.assign | apply SL.load | apply SL.binOp | apply SL.append | apply SL.builtin | apply SL.fieldAddr | apply SL.indexAddr | apply SL.field | apply SL.extract
    | apply SL.fcall | apply SL.pick | apply SL.store | apply SL.unOp | apply SL.convert | apply SL.index | apply SL.slice | apply SL.build | apply SL.nilCheck | apply SL.buildSlice | apply SL.box | apply SL.alloc | apply SL.makeFunc
    | apply SQ.nil | (apply WL.reg; (focus decide +kernel)) | (apply WL.drawP (by assumption); (focus decide +kernel); (focus decide +kernel)) | (apply WL.drawF; (focus decide +kernel); (focus decide +kernel))
    | (apply WL.reg1; (focus decide +kernel)) | (apply WL.drawP1 (by assumption); (focus decide +kernel); (focus decide +kernel)) | (apply WL.drawF1; (focus decide +kernel); (focus decide +kernel))
    | (apply WL.drawM (by assumption); (focus decide +kernel); (focus decide +kernel)) | (apply WL.drawM1 (by assumption); (focus decide +kernel); (focus decide +kernel)) | apply WL.skip | (apply WL.ct; (focus rfl))
    | (apply WL.cf; (focus rfl)) | refine SeqQ.normal ?_ | refine SeqQ.ret ?_ | refine SeqQ.exit ?_ | refine BlockQ.normal ?_ | refine BlockQ.ret ?_ | refine BlockQ.here ?_ | refine BlockQ.there (by decide) ?_ | refine Wp.block ?_
    | refine Wp.skip ?_ | refine Wp.ret ?_ | refine Wp.exit ?_ | refine LoopI.ret ?_ | refine LoopI.exit ?_ | refine LoopQ.normal ?_ | refine LoopQ.ret ?_ | refine LoopQ.exit ?_ | refine Wp.seq (Wp.seq ?_) | refine Wp.seq (Wp.block ?_)
    | (refine Wp.seq ?_; apply WL.ct; (focus rfl)) | (refine Wp.seq ?_; apply WL.cf; (focus rfl)))
  refine Wp.rangeFuncL (n := 4) (σ1 := fun L => [.box (Em.notes.emb s), .box (.int .i64 0), .box (.bool false), .box (Em.notes.emb s), .mark, L]) (iter_all hU h2 hc1 s 3) rfl rfl (by decide) (fun L => rfl) (fun L hL => ?_)
  cases hd : s.list with
  | nil =>
    simp only [List.map_nil]
    refine RoundsQ.nil rfl ⟨_, by simp [hL]; rfl, ?_⟩
    repeat (first
      | (refine Fr.i ?_; simp only [pput, List.set_cons_zero, List.set_cons_succ]; try rfl) | (refine By.i ?_; simp (disch := first | omega | (simp; done) | (simp; omega)) [wrap_i64, wrap_u64]; first | done | rfl | exact ⟨rfl, rfl⟩)
      | (refine Wt.i ?_; first | rfl | (simp; done))
      | (refine Ns.i ?_; (try simp only [List.append_nil, List.nil_append, List.cons_append, List.append_assoc, List.length_append, List.length_cons, List.length_nil, Nat.zero_add, Nat.reduceAdd]); rfl) | rfl
      | (apply SL.pass; (focus (refine Wt.i ?_; rfl))) | apply SL.move | apply SL.assign | apply SL.load | apply SL.binOp | apply SL.append | apply SL.builtin | apply SL.fieldAddr | apply SL.indexAddr | apply SL.field | apply SL.extract
      | apply SL.fcall | apply SL.pick | apply SL.store | apply SL.unOp | apply SL.convert | apply SL.index | apply SL.slice | apply SL.build | apply SL.nilCheck | apply SL.buildSlice | apply SL.box | apply SL.alloc | apply SL.makeFunc
      | apply SQ.nil | (apply WL.reg; (focus decide +kernel)) | (apply WL.drawP (by assumption); (focus decide +kernel); (focus decide +kernel)) | (apply WL.drawF; (focus decide +kernel); (focus decide +kernel))
      | (apply WL.reg1; (focus decide +kernel)) | (apply WL.drawP1 (by assumption); (focus decide +kernel); (focus decide +kernel)) | (apply WL.drawF1; (focus decide +kernel); (focus decide +kernel))
      | (apply WL.drawM (by assumption); (focus decide +kernel); (focus decide +kernel)) | (apply WL.drawM1 (by assumption); (focus decide +kernel); (focus decide +kernel)) | apply WL.skip | (apply WL.ct; (focus rfl))
      | (apply WL.cf; (focus rfl)) | refine SeqQ.normal ?_ | refine SeqQ.ret ?_ | refine SeqQ.exit ?_ | refine BlockQ.normal ?_ | refine BlockQ.ret ?_ | refine BlockQ.here ?_ | refine BlockQ.there (by decide) ?_ | refine Wp.block ?_
      | refine Wp.skip ?_ | refine Wp.ret ?_ | refine Wp.exit ?_ | refine LoopI.ret ?_ | refine LoopI.exit ?_ | refine LoopQ.normal ?_ | refine LoopQ.ret ?_ | refine LoopQ.exit ?_ | refine Wp.seq (Wp.seq ?_) | refine Wp.seq (Wp.block ?_)
      | (refine Wp.seq ?_; apply WL.ct; (focus rfl)) | (refine Wp.seq ?_; apply WL.cf; (focus rfl)))
    simp (disch := first | omega | (simp; done) | (simp; omega)) [decide_eq_decide, leastN, hd] <;> try rfl
  | cons t ts =>
    simp only [List.map_cons]
    refine RoundsQ.cons rfl (WpC.roundL hL (by decide) (by simp) rfl (by simp only [pargs, List.set_cons_zero, List.set_cons_succ]; rfl) fun LB hLB => ?_)
    repeat (first
      | (refine Fr.i ?_; simp only [pput, List.set_cons_zero, List.set_cons_succ]; try rfl) | (refine By.i ?_; simp (disch := first | omega | (simp; done) | (simp; omega)) [wrap_i64, wrap_u64]; first | done | rfl | exact ⟨rfl, rfl⟩)
      | (refine Wt.i ?_; first | rfl | (simp; done))
      | (refine Ns.i ?_; (try simp only [List.append_nil, List.nil_append, List.cons_append, List.append_assoc, List.length_append, List.length_cons, List.length_nil, Nat.zero_add, Nat.reduceAdd]); rfl) | rfl
      | (apply SL.pass; (focus (refine Wt.i ?_; rfl))) | apply SL.move | apply SL.assign | apply SL.load | apply SL.binOp | apply SL.append | apply SL.builtin | apply SL.fieldAddr | apply SL.indexAddr | apply SL.field | apply SL.extract
      | apply SL.fcall | apply SL.pick | apply SL.store | apply SL.unOp | apply SL.convert | apply SL.index | apply SL.slice | apply SL.build | apply SL.nilCheck | apply SL.buildSlice | apply SL.box | apply SL.alloc | apply SL.makeFunc
      | apply SQ.nil | (apply WL.reg; (focus decide +kernel)) | (apply WL.drawP (by assumption); (focus decide +kernel); (focus decide +kernel)) | (apply WL.drawF; (focus decide +kernel); (focus decide +kernel))
      | (apply WL.reg1; (focus decide +kernel)) | (apply WL.drawP1 (by assumption); (focus decide +kernel); (focus decide +kernel)) | (apply WL.drawF1; (focus decide +kernel); (focus decide +kernel))
      | (apply WL.drawM (by assumption); (focus decide +kernel); (focus decide +kernel)) | (apply WL.drawM1 (by assumption); (focus decide +kernel); (focus decide +kernel)) | apply WL.skip | (apply WL.ct; (focus rfl))
      | (apply WL.cf; (focus rfl)) | refine SeqQ.normal ?_ | refine SeqQ.ret ?_ | refine SeqQ.exit ?_ | refine BlockQ.normal ?_ | refine BlockQ.ret ?_ | refine BlockQ.here ?_ | refine BlockQ.there (by decide) ?_ | refine Wp.block ?_
      | refine Wp.skip ?_ | refine Wp.ret ?_ | refine Wp.exit ?_ | refine LoopI.ret ?_ | refine LoopI.exit ?_ | refine LoopQ.normal ?_ | refine LoopQ.ret ?_ | refine LoopQ.exit ?_ | refine Wp.seq (Wp.seq ?_) | refine Wp.seq (Wp.block ?_)
      | (refine Wp.seq ?_; apply WL.ct; (focus rfl)) | (refine Wp.seq ?_; apply WL.cf; (focus rfl)))
    refine ⟨rfl, by simp, _, by simp; rfl, ?_⟩
    repeat (first
      | (refine Fr.i ?_; simp only [pput, List.set_cons_zero, List.set_cons_succ]; try rfl) | (refine By.i ?_; simp (disch := first | omega | (simp; done) | (simp; omega)) [wrap_i64, wrap_u64]; first | done | rfl | exact ⟨rfl, rfl⟩)
      | (refine Wt.i ?_; first | rfl | (simp; done))
      | (refine Ns.i ?_; (try simp only [List.append_nil, List.nil_append, List.cons_append, List.append_assoc, List.length_append, List.length_cons, List.length_nil, Nat.zero_add, Nat.reduceAdd]); rfl) | rfl
      | (apply SL.pass; (focus (refine Wt.i ?_; rfl))) | apply SL.move | apply SL.assign | apply SL.load | apply SL.binOp | apply SL.append | apply SL.builtin | apply SL.fieldAddr | apply SL.indexAddr | apply SL.field | apply SL.extract
      | apply SL.fcall | apply SL.pick | apply SL.store | apply SL.unOp | apply SL.convert | apply SL.index | apply SL.slice | apply SL.build | apply SL.nilCheck | apply SL.buildSlice | apply SL.box | apply SL.alloc | apply SL.makeFunc
      | apply SQ.nil | (apply WL.reg; (focus decide +kernel)) | (apply WL.drawP (by assumption); (focus decide +kernel); (focus decide +kernel)) | (apply WL.drawF; (focus decide +kernel); (focus decide +kernel))
      | (apply WL.reg1; (focus decide +kernel)) | (apply WL.drawP1 (by assumption); (focus decide +kernel); (focus decide +kernel)) | (apply WL.drawF1; (focus decide +kernel); (focus decide +kernel))
      | (apply WL.drawM (by assumption); (focus decide +kernel); (focus decide +kernel)) | (apply WL.drawM1 (by assumption); (focus decide +kernel); (focus decide +kernel)) | apply WL.skip | (apply WL.ct; (focus rfl))
      | (apply WL.cf; (focus rfl)) | refine SeqQ.normal ?_ | refine SeqQ.ret ?_ | refine SeqQ.exit ?_ | refine BlockQ.normal ?_ | refine BlockQ.ret ?_ | refine BlockQ.here ?_ | refine BlockQ.there (by decide) ?_ | refine Wp.block ?_
      | refine Wp.skip ?_ | refine Wp.ret ?_ | refine Wp.exit ?_ | refine LoopI.ret ?_ | refine LoopI.exit ?_ | refine LoopQ.normal ?_ | refine LoopQ.ret ?_ | refine LoopQ.exit ?_ | refine Wp.seq (Wp.seq ?_) | refine Wp.seq (Wp.block ?_)
      | (refine Wp.seq ?_; apply WL.ct; (focus rfl)) | (refine Wp.seq ?_; apply WL.cf; (focus rfl)))
    refine ⟨by simp, ?_⟩
    unfold RoundR
    refine .inr ⟨rfl, _, by simp; rfl, ?_⟩
    repeat (first
      | (refine Fr.i ?_; simp only [pput, List.set_cons_zero, List.set_cons_succ]; try rfl) | (refine By.i ?_; simp (disch := first | omega | (simp; done) | (simp; omega)) [wrap_i64, wrap_u64]; first | done | rfl | exact ⟨rfl, rfl⟩)
      | (refine Wt.i ?_; first | rfl | (simp; done))
      | (refine Ns.i ?_; (try simp only [List.append_nil, List.nil_append, List.cons_append, List.append_assoc, List.length_append, List.length_cons, List.length_nil, Nat.zero_add, Nat.reduceAdd]); rfl) | rfl
      | (apply SL.pass; (focus (refine Wt.i ?_; rfl))) | apply SL.move | apply SL.assign | apply SL.load | apply SL.binOp | apply SL.append | apply SL.builtin | apply SL.fieldAddr | apply SL.indexAddr | apply SL.field | apply SL.extract
      | apply SL.fcall | apply SL.pick | apply SL.store | apply SL.unOp | apply SL.convert | apply SL.index | apply SL.slice | apply SL.build | apply SL.nilCheck | apply SL.buildSlice | apply SL.box | apply SL.alloc | apply SL.makeFunc
      | apply SQ.nil | (apply WL.reg; (focus decide +kernel)) | (apply WL.drawP (by assumption); (focus decide +kernel); (focus decide +kernel)) | (apply WL.drawF; (focus decide +kernel); (focus decide +kernel))
      | (apply WL.reg1; (focus decide +kernel)) | (apply WL.drawP1 (by assumption); (focus decide +kernel); (focus decide +kernel)) | (apply WL.drawF1; (focus decide +kernel); (focus decide +kernel))
      | (apply WL.drawM (by assumption); (focus decide +kernel); (focus decide +kernel)) | (apply WL.drawM1 (by assumption); (focus decide +kernel); (focus decide +kernel)) | apply WL.skip | (apply WL.ct; (focus rfl))
      | (apply WL.cf; (focus rfl)) | refine SeqQ.normal ?_ | refine SeqQ.ret ?_ | refine SeqQ.exit ?_ | refine BlockQ.normal ?_ | refine BlockQ.ret ?_ | refine BlockQ.here ?_ | refine BlockQ.there (by decide) ?_ | refine Wp.block ?_
      | refine Wp.skip ?_ | refine Wp.ret ?_ | refine Wp.exit ?_ | refine LoopI.ret ?_ | refine LoopI.exit ?_ | refine LoopQ.normal ?_ | refine LoopQ.ret ?_ | refine LoopQ.exit ?_ | refine Wp.seq (Wp.seq ?_) | refine Wp.seq (Wp.block ?_)
      | (refine Wp.seq ?_; apply WL.ct; (focus rfl)) | (refine Wp.seq ?_; apply WL.cf; (focus rfl)))
    simp (disch := first | omega | (simp; done) | (simp; omega)) [decide_eq_decide, leastN, hd] <;> try rfl

theorem r_Shift (h0 : E 30 = none) (h1 : E 44 = some gAll) (h2 : E 54 = none) (hc1 : E 55 = some (entry (gf1 .bv64 i64 fun x => some (tz x : Int))))
    (h3 : E 46 = some (entry (gf1 i64 .bool fun n => some (rightIn 0 127 n)))) (h4 : E 47 = some (entry (gf2 .notes i64 .notes fun s n => gif (0 ≤ n ∧ n ≤ 127) (some (withN s n.toNat))))) (s : Notes) :
    Run Tryd.prog E 30 [Em.notes.emb s, i64.emb 1] (Em.notes.emb (upN s)) := by
  apply Run.bodyL h0 Tryd.func30 rfl
  focus (simp [show Tryd.f30.ntmps = _ from rfl, List.replicate]; rfl)
  repeat (first
    | (refine Fr.i ?_; simp only [pput, List.set_cons_zero, List.set_cons_succ]; try rfl) | (refine By.i ?_; simp (disch := first | omega | (simp; done) | (simp; omega)) [wrap_i64, wrap_u64, h1, gAll]; first | done | rfl | exact ⟨rfl, rfl⟩)
    | (refine Wt.i ?_; first | rfl | (simp [h1, gAll]; done))
    | (refine Ns.i ?_; (try simp only [List.append_nil, List.nil_append, List.cons_append, List.append_assoc, List.length_append, List.length_cons, List.length_nil, Nat.zero_add, Nat.reduceAdd]); rfl) | rfl
    | (apply SL.pass; (focus (refine Wt.i ?_; rfl))) | apply SL.move | apply SL.assign | apply SL.load | apply SL.binOp | apply SL.append | apply SL.builtin | apply SL.fieldAddr | apply SL.indexAddr | apply SL.field | apply SL.extract
    | apply SL.fcall | apply SL.pick | apply SL.store | apply SL.unOp | apply SL.convert | apply SL.index | apply SL.slice | apply SL.build | apply SL.nilCheck | apply SL.buildSlice | apply SL.box | apply SL.alloc | apply SL.makeFunc
    | apply SQ.nil | (apply WL.reg; (focus decide +kernel)) | (apply WL.drawP (by assumption); (focus decide +kernel); (focus decide +kernel)) | (apply WL.drawF; (focus decide +kernel); (focus decide +kernel))
    | (apply WL.reg1; (focus decide +kernel)) | (apply WL.drawP1 (by assumption); (focus decide +kernel); (focus decide +kernel)) | (apply WL.drawF1; (focus decide +kernel); (focus decide +kernel))
    | (apply WL.drawM (by assumption); (focus decide +kernel); (focus decide +kernel)) | (apply WL.drawM1 (by assumption); (focus decide +kernel); (focus decide +kernel)) | apply WL.skip | (apply WL.ct; (focus rfl))
    | (apply WL.cf; (focus rfl)) | refine SeqQ.normal ?_ | refine SeqQ.ret ?_ | refine SeqQ.exit ?_ | refine BlockQ.normal ?_ | refine BlockQ.ret ?_ | refine BlockQ.here ?_ | refine BlockQ.there (by decide) ?_ | refine Wp.block ?_
    | refine Wp.skip ?_ | refine Wp.ret ?_ | refine Wp.exit ?_ | refine LoopI.ret ?_ | refine LoopI.exit ?_ | refine LoopQ.normal ?_ | refine LoopQ.ret ?_ | refine LoopQ.exit ?_ | refine Wp.seq (Wp.seq ?_) | refine Wp.seq (Wp.block ?_)
    | (refine Wp.seq ?_; apply WL.ct; (focus rfl)) | (refine Wp.seq ?_; apply WL.cf; (focus rfl)))
  refine Wp.rangeFuncL (n := 5) (σ1 := fun L => [.box (Em.notes.emb s), .box (.int .i64 1), .box (Em.notes.emb noNotes), .box (Em.notes.emb noNotes), .box (Em.notes.emb s), .mark, L]) (iter_all hU h2 hc1 s 4) rfl rfl (by decide) (fun L => rfl) (fun L hL => ?_)
  refine RoundsQ.ind (fun n : Int => [PD.int .i64 n]) (fun done rest σ => s.list = done ++ rest ∧ σ = [.box (Em.notes.emb s), .box (.int .i64 1), .box (Em.notes.emb noNotes), .box (Em.notes.emb (outTo done)), .box (Em.notes.emb s), .mark, L]) ?_ ?_ s.list [] _ ⟨rfl, rfl⟩
  · rintro done n rest σ ⟨hd, rfl⟩
    have hr := list_range (s := s) (n := n) (by rw [hd]; simp)
    have hd' : s.list = (done ++ [n]) ++ rest := by rw [hd, List.append_assoc]; rfl
    have hst := outTo_snoc done hr.1
    have q0 : 0 ≤ n + 1 := by omega
    have q00 : -9223372036854775808 ≤ n + 1 := by omega
    refine ⟨rfl, WpC.roundL hL (by decide) (by simp) rfl (by simp only [pargs, List.set_cons_zero, List.set_cons_succ]; rfl) fun LB hLB => ?_⟩
    repeat (first
      | (refine Fr.i ?_; simp only [pput, List.set_cons_zero, List.set_cons_succ]; try rfl) | (refine By.i ?_; simp (disch := first | omega | (simp; done) | (simp; omega)) [wrap_i64, wrap_u64]; first | done | rfl | exact ⟨rfl, rfl⟩)
      | (refine Wt.i ?_; first | rfl | (simp; done))
      | (refine Ns.i ?_; (try simp only [List.append_nil, List.nil_append, List.cons_append, List.append_assoc, List.length_append, List.length_cons, List.length_nil, Nat.zero_add, Nat.reduceAdd]); rfl) | rfl
      | (apply SL.pass; (focus (refine Wt.i ?_; rfl))) | apply SL.move | apply SL.assign | apply SL.load | apply SL.binOp | apply SL.append | apply SL.builtin | apply SL.fieldAddr | apply SL.indexAddr | apply SL.field | apply SL.extract
      | apply SL.fcall | apply SL.pick | apply SL.store | apply SL.unOp | apply SL.convert | apply SL.index | apply SL.slice | apply SL.build | apply SL.nilCheck | apply SL.buildSlice | apply SL.box | apply SL.alloc | apply SL.makeFunc
      | apply SQ.nil | (apply WL.reg; (focus decide +kernel)) | (apply WL.drawP (by assumption); (focus decide +kernel); (focus decide +kernel)) | (apply WL.drawF; (focus decide +kernel); (focus decide +kernel))
      | (apply WL.reg1; (focus decide +kernel)) | (apply WL.drawP1 (by assumption); (focus decide +kernel); (focus decide +kernel)) | (apply WL.drawF1; (focus decide +kernel); (focus decide +kernel))
      | (apply WL.drawM (by assumption); (focus decide +kernel); (focus decide +kernel)) | (apply WL.drawM1 (by assumption); (focus decide +kernel); (focus decide +kernel)) | apply WL.skip | (apply WL.ct; (focus rfl))
      | (apply WL.cf; (focus rfl)) | refine SeqQ.normal ?_ | refine SeqQ.ret ?_ | refine SeqQ.exit ?_ | refine BlockQ.normal ?_ | refine BlockQ.ret ?_ | refine BlockQ.here ?_ | refine BlockQ.there (by decide) ?_ | refine Wp.block ?_
      | refine Wp.skip ?_ | refine Wp.ret ?_ | refine Wp.exit ?_ | refine LoopI.ret ?_ | refine LoopI.exit ?_ | refine LoopQ.normal ?_ | refine LoopQ.ret ?_ | refine LoopQ.exit ?_ | refine Wp.seq (Wp.seq ?_) | refine Wp.seq (Wp.block ?_)
      | (refine Wp.seq ?_; apply WL.ct; (focus rfl)) | (refine Wp.seq ?_; apply WL.cf; (focus rfl)))
    refine ⟨rfl, by simp, _, by simp; rfl, ?_⟩
    by_cases hc : n + 1 ≤ 127
    · rw [if_pos hc] at hst
      have hri : rightIn 0 127 (n + 1) = true := by simp [rightIn, q0, hc]
      repeat (first
        | (refine Fr.i ?_; simp only [pput, List.set_cons_zero, List.set_cons_succ]; try rfl)
        | (refine By.i ?_; simp (disch := first | omega | (simp; done) | (simp; omega)) [wrap_i64, wrap_u64, h3, h4, hri, hc, q0, entry, gf1, gf2]; first | done | rfl | exact ⟨rfl, rfl⟩)
        | (refine Wt.i ?_; first | rfl | (simp [h3, h4, hri, hc, q0, entry, gf1, gf2]; done))
        | (refine Ns.i ?_; (try simp only [List.append_nil, List.nil_append, List.cons_append, List.append_assoc, List.length_append, List.length_cons, List.length_nil, Nat.zero_add, Nat.reduceAdd]); rfl) | rfl
        | (apply SL.pass; (focus (refine Wt.i ?_; rfl))) | apply SL.move | apply SL.assign | apply SL.load | apply SL.binOp | apply SL.append | apply SL.builtin | apply SL.fieldAddr | apply SL.indexAddr | apply SL.field | apply SL.extract
        | apply SL.fcall | apply SL.pick | apply SL.store | apply SL.unOp | apply SL.convert | apply SL.index | apply SL.slice | apply SL.build | apply SL.nilCheck | apply SL.buildSlice | apply SL.box | apply SL.alloc | apply SL.makeFunc
        | apply SQ.nil | (apply WL.reg; (focus decide +kernel)) | (apply WL.drawP (by assumption); (focus decide +kernel); (focus decide +kernel)) | (apply WL.drawF; (focus decide +kernel); (focus decide +kernel))
        | (apply WL.reg1; (focus decide +kernel)) | (apply WL.drawP1 (by assumption); (focus decide +kernel); (focus decide +kernel)) | (apply WL.drawF1; (focus decide +kernel); (focus decide +kernel))
        | (apply WL.drawM (by assumption); (focus decide +kernel); (focus decide +kernel)) | (apply WL.drawM1 (by assumption); (focus decide +kernel); (focus decide +kernel)) | apply WL.skip | (apply WL.ct; (focus rfl))
        | (apply WL.cf; (focus rfl)) | refine SeqQ.normal ?_ | refine SeqQ.ret ?_ | refine SeqQ.exit ?_ | refine BlockQ.normal ?_ | refine BlockQ.ret ?_ | refine BlockQ.here ?_ | refine BlockQ.there (by decide) ?_ | refine Wp.block ?_
        | refine Wp.skip ?_ | refine Wp.ret ?_ | refine Wp.exit ?_ | refine LoopI.ret ?_ | refine LoopI.exit ?_ | refine LoopQ.normal ?_ | refine LoopQ.ret ?_ | refine LoopQ.exit ?_ | refine Wp.seq (Wp.seq ?_) | refine Wp.seq (Wp.block ?_)
        | (refine Wp.seq ?_; apply WL.ct; (focus rfl)) | (refine Wp.seq ?_; apply WL.cf; (focus rfl)))
      refine ⟨by simp, ?_⟩
      unfold RoundR
      exact .inl ⟨rfl, hd', by rw [hst]; simp⟩
    · rw [if_neg hc] at hst
      have hri : rightIn 0 127 (n + 1) = false := by simp [rightIn, q0, hc]
      repeat (first
        | (refine Fr.i ?_; simp only [pput, List.set_cons_zero, List.set_cons_succ]; try rfl)
        | (refine By.i ?_; simp (disch := first | omega | (simp; done) | (simp; omega)) [wrap_i64, wrap_u64, h3, h4, hri, entry, gf1]; first | done | rfl | exact ⟨rfl, rfl⟩)
        | (refine Wt.i ?_; first | rfl | (simp [h3, h4, hri, entry, gf1]; done))
        | (refine Ns.i ?_; (try simp only [List.append_nil, List.nil_append, List.cons_append, List.append_assoc, List.length_append, List.length_cons, List.length_nil, Nat.zero_add, Nat.reduceAdd]); rfl) | rfl
        | (apply SL.pass; (focus (refine Wt.i ?_; rfl))) | apply SL.move | apply SL.assign | apply SL.load | apply SL.binOp | apply SL.append | apply SL.builtin | apply SL.fieldAddr | apply SL.indexAddr | apply SL.field | apply SL.extract
        | apply SL.fcall | apply SL.pick | apply SL.store | apply SL.unOp | apply SL.convert | apply SL.index | apply SL.slice | apply SL.build | apply SL.nilCheck | apply SL.buildSlice | apply SL.box | apply SL.alloc | apply SL.makeFunc
        | apply SQ.nil | (apply WL.reg; (focus decide +kernel)) | (apply WL.drawP (by assumption); (focus decide +kernel); (focus decide +kernel)) | (apply WL.drawF; (focus decide +kernel); (focus decide +kernel))
        | (apply WL.reg1; (focus decide +kernel)) | (apply WL.drawP1 (by assumption); (focus decide +kernel); (focus decide +kernel)) | (apply WL.drawF1; (focus decide +kernel); (focus decide +kernel))
        | (apply WL.drawM (by assumption); (focus decide +kernel); (focus decide +kernel)) | (apply WL.drawM1 (by assumption); (focus decide +kernel); (focus decide +kernel)) | apply WL.skip | (apply WL.ct; (focus rfl))
        | (apply WL.cf; (focus rfl)) | refine SeqQ.normal ?_ | refine SeqQ.ret ?_ | refine SeqQ.exit ?_ | refine BlockQ.normal ?_ | refine BlockQ.ret ?_ | refine BlockQ.here ?_ | refine BlockQ.there (by decide) ?_ | refine Wp.block ?_
        | refine Wp.skip ?_ | refine Wp.ret ?_ | refine Wp.exit ?_ | refine LoopI.ret ?_ | refine LoopI.exit ?_ | refine LoopQ.normal ?_ | refine LoopQ.ret ?_ | refine LoopQ.exit ?_ | refine Wp.seq (Wp.seq ?_) | refine Wp.seq (Wp.block ?_)
        | (refine Wp.seq ?_; apply WL.ct; (focus rfl)) | (refine Wp.seq ?_; apply WL.cf; (focus rfl)))
      refine ⟨by simp, ?_⟩
      unfold RoundR
      exact .inl ⟨rfl, hd', by rw [hst]; simp⟩
  · rintro done σ ⟨hd, rfl⟩
    rw [List.append_nil] at hd
    have hup : upN s = outTo done := by rw [← hd]; rfl
    rw [hup]
    refine ⟨rfl, _, by simp [hL]; rfl, ?_⟩
    repeat (first
      | (refine Fr.i ?_; simp only [pput, List.set_cons_zero, List.set_cons_succ]; try rfl) | (refine By.i ?_; simp (disch := first | omega | (simp; done) | (simp; omega)) [wrap_i64, wrap_u64]; first | done | rfl | exact ⟨rfl, rfl⟩)
      | (refine Wt.i ?_; first | rfl | (simp; done))
      | (refine Ns.i ?_; (try simp only [List.append_nil, List.nil_append, List.cons_append, List.append_assoc, List.length_append, List.length_cons, List.length_nil, Nat.zero_add, Nat.reduceAdd]); rfl) | rfl
      | (apply SL.pass; (focus (refine Wt.i ?_; rfl))) | apply SL.move | apply SL.assign | apply SL.load | apply SL.binOp | apply SL.append | apply SL.builtin | apply SL.fieldAddr | apply SL.indexAddr | apply SL.field | apply SL.extract
      | apply SL.fcall | apply SL.pick | apply SL.store | apply SL.unOp | apply SL.convert | apply SL.index | apply SL.slice | apply SL.build | apply SL.nilCheck | apply SL.buildSlice | apply SL.box | apply SL.alloc | apply SL.makeFunc
      | apply SQ.nil | (apply WL.reg; (focus decide +kernel)) | (apply WL.drawP (by assumption); (focus decide +kernel); (focus decide +kernel)) | (apply WL.drawF; (focus decide +kernel); (focus decide +kernel))
      | (apply WL.reg1; (focus decide +kernel)) | (apply WL.drawP1 (by assumption); (focus decide +kernel); (focus decide +kernel)) | (apply WL.drawF1; (focus decide +kernel); (focus decide +kernel))
      | (apply WL.drawM (by assumption); (focus decide +kernel); (focus decide +kernel)) | (apply WL.drawM1 (by assumption); (focus decide +kernel); (focus decide +kernel)) | apply WL.skip | (apply WL.ct; (focus rfl))
      | (apply WL.cf; (focus rfl)) | refine SeqQ.normal ?_ | refine SeqQ.ret ?_ | refine SeqQ.exit ?_ | refine BlockQ.normal ?_ | refine BlockQ.ret ?_ | refine BlockQ.here ?_ | refine BlockQ.there (by decide) ?_ | refine Wp.block ?_
      | refine Wp.skip ?_ | refine Wp.ret ?_ | refine Wp.exit ?_ | refine LoopI.ret ?_ | refine LoopI.exit ?_ | refine LoopQ.normal ?_ | refine LoopQ.ret ?_ | refine LoopQ.exit ?_ | refine Wp.seq (Wp.seq ?_) | refine Wp.seq (Wp.block ?_)
      | (refine Wp.seq ?_; apply WL.ct; (focus rfl)) | (refine Wp.seq ?_; apply WL.cf; (focus rfl)))
    simp (disch := first | omega | (simp; done) | (simp; omega)) [decide_eq_decide] <;> try rfl

end Go.Kz

/-
  The length of a word, as math/bits finds it, and the greatest note.
-/
namespace Go.Kz
open Go Go.Proofs

/-- How many bits a number takes. -/
def lenB (n : Nat) : Nat := if n = 0 then 0 else Nat.log2 n + 1

theorem log2_div (n k : Nat) (h : 2 ^ k ≤ n) : Nat.log2 (n / 2 ^ k) + k = Nat.log2 n := by
  have hp : 0 < 2 ^ k := Nat.two_pow_pos k
  have hn : n ≠ 0 := by omega
  have hq : 0 < n / 2 ^ k := Nat.div_pos h hp
  have h1 := Nat.log2_self_le (n := n / 2 ^ k) (by omega)
  have h2 := Nat.lt_log2_self (n := n / 2 ^ k)
  symm
  rw [Nat.log2_eq_iff hn]
  constructor
  · rw [Nat.pow_add]
    exact Nat.le_trans (Nat.mul_le_mul_right _ h1) (Nat.div_mul_le_self _ _)
  · have h3 : n / 2 ^ k + 1 ≤ 2 ^ (Nat.log2 (n / 2 ^ k) + 1) := h2
    have h4 : n < (n / 2 ^ k + 1) * 2 ^ k := by
      have := Nat.div_add_mod n (2 ^ k)
      have := Nat.mod_lt n hp
      rw [Nat.add_mul, Nat.mul_comm (n / 2 ^ k)]
      omega
    refine Nat.lt_of_lt_of_le h4 ?_
    rw [show Nat.log2 (n / 2 ^ k) + k + 1 = (Nat.log2 (n / 2 ^ k) + 1) + k by omega, Nat.pow_add]
    exact Nat.mul_le_mul_right _ h3

theorem lenB_div (n k : Nat) (h : 2 ^ k ≤ n) : lenB (n / 2 ^ k) + k = lenB n := by
  have hp : 0 < 2 ^ k := Nat.two_pow_pos k
  have hq : 0 < n / 2 ^ k := Nat.div_pos h hp
  unfold lenB
  rw [if_neg (by omega), if_neg (by omega)]
  have := log2_div n k h
  omega

/-- A drawn region on boxes, by the kernel: which places change, and the store behind it. -/
theorem Wp.drawU {P : Program} {E : PExt} {rd : Option Nat} {fl : Nat} {fr : List PD} {ms : List Nat} {σ : List SObj} {Q : PO → Prop} {id : Nat} {ops : Array Oper} (up : List (Nat × PD)) (σ1 : List SObj) (h : ∀ n, pdraw P (pcall P E n) fl ops fr σ = some (up.foldl (fun f x => f.set x.1 x.2) fr, σ1)) (k : Q ⟨.normal, up.foldl (fun f x => f.set x.1 x.2) fr, ms, σ1⟩) :
    Wp P E rd (.region id ops true) fl fr ms σ Q := ⟨_, .draw (N := 0) (fun n _ => h n), k⟩

def greatestN (s : Notes) : Int × Bool := (s.list.getLast?.getD 0, decide (s.list ≠ []))

theorem last_isI {l : List Int} {m : Int} (hp : l.Pairwise (· < ·)) (hm : m ∈ l) (h : ∀ n ∈ l, n ≤ m) : l.getLast?.getD 0 = m := by
  have h1 := le_last hp hm
  have h2 := h _ (last_mem (List.ne_nil_of_mem hm))
  omega

theorem greatest_high {s : Notes} (h : s.high.toNat ≠ 0) : greatestN s = (63 + (lenB s.high.toNat : Int), true) := by
  have hlt : s.high.toNat < 2 ^ 64 := s.high.isLt
  have hl2 : Nat.log2 s.high.toNat < 64 := (Nat.log2_lt h).2 hlt
  have hmem : ((64 + Nat.log2 s.high.toNat : Nat) : Int) ∈ s.list := by
    rw [mem_list]
    refine ⟨_, rfl, by omega, ?_⟩
    unfold Notes.mem
    rw [if_neg (by omega), Nat.add_sub_cancel_left, BitVec.getLsbD]
    exact Nat.testBit_log2 h
  have hne : s.list ≠ [] := List.ne_nil_of_mem hmem
  unfold greatestN lenB
  rw [if_neg h, last_isI (list_sorted s) hmem]
  · simp [hne]; omega
  · intro n hn
    obtain ⟨k, rfl, hk, hm⟩ := mem_list.1 hn
    unfold Notes.mem at hm
    split at hm
    · omega
    · rw [BitVec.getLsbD] at hm
      have := Nat.ge_two_pow_of_testBit hm
      have := (Nat.le_log2 h).2 this
      omega

theorem greatest_low {s : Notes} (h0 : s.high.toNat = 0) (h : s.low.toNat ≠ 0) : greatestN s = ((lenB s.low.toNat : Int) - 1, true) := by
  have hlt : s.low.toNat < 2 ^ 64 := s.low.isLt
  have hl2 : Nat.log2 s.low.toNat < 64 := (Nat.log2_lt h).2 hlt
  have hmem : ((Nat.log2 s.low.toNat : Nat) : Int) ∈ s.list := by
    rw [mem_list]
    refine ⟨_, rfl, by omega, ?_⟩
    unfold Notes.mem
    rw [if_pos (by omega), BitVec.getLsbD]
    exact Nat.testBit_log2 h
  have hne : s.list ≠ [] := List.ne_nil_of_mem hmem
  unfold greatestN lenB
  rw [if_neg h, last_isI (list_sorted s) hmem]
  · simp [hne]
  · intro n hn
    obtain ⟨k, rfl, hk, hm⟩ := mem_list.1 hn
    unfold Notes.mem at hm
    split at hm
    · rw [BitVec.getLsbD] at hm
      have := Nat.ge_two_pow_of_testBit hm
      have := (Nat.le_log2 h).2 this
      omega
    · rw [BitVec.getLsbD, h0] at hm
      simp at hm

theorem greatest_none {s : Notes} (h0 : s.high.toNat = 0) (h : s.low.toNat = 0) : greatestN s = (0, false) := by
  have e1 : s.high = 0#64 := BitVec.eq_of_toNat_eq h0
  have e2 : s.low = 0#64 := BitVec.eq_of_toNat_eq h
  have : s.list = [] := by rw [list_bits, e1, e2, bits_zero]; rfl
  unfold greatestN
  rw [this]
  rfl

theorem shr_u64' {n i : Nat} (hi : i < 64) : pshift .shr .u64 (n : Int) (i : Int) = some (.int .u64 ((n / 2 ^ i : Nat) : Int)) := by
  have h1 : ¬ ((i : Int) < 0) := by omega
  have h2 : min ((i : Int).toNat) IntKind.u64.bits = i := by simp [IntKind.bits]; omega
  simp only [pshift, h1, if_false, h2]
  have h3 : (0 : Int) ≤ 2 ^ i := Int.pow_nonneg (by omega)
  rw [Int.fdiv_eq_ediv_of_nonneg _ h3, Int.natCast_ediv, Int.natCast_pow]
  rfl

theorem tabFin {L : List UInt8} {n : Nat} (h : n < L.length) (hd : (List.range 256).all (fun v => (L[v]?.map fun b => b.toNat) == some (lenB v)) = true) (hn : n < 256) : (L[n].toNat : Int) = (lenB n : Int) := by
  have h1 := List.all_eq_true.1 hd n (List.mem_range.2 hn)
  rw [List.getElem?_eq_getElem h] at h1
  simp at h1
  omega
theorem lenB_le {n k : Nat} (h : n < 2 ^ k) : lenB n ≤ k := by
  unfold lenB
  split
  · omega
  · rename_i h0
    have := (Nat.log2_lt h0).2 h
    omega

theorem two_form (p : Player) (s : Notes) (h : errOf p = 0) : ∃ a b f, twoF p s = (a, b, f, 0) ∧ f = decide (divs1 p s.list ≠ []) := by
  rw [twoF, if_pos h, allL]
  cases divs1 p s.list with
  | nil => exact ⟨noNotes, noNotes, false, rfl, rfl⟩
  | cons t ts => exact ⟨_, _, true, rfl, rfl⟩
theorem err_bounds {p : Player} (h : errOf p = 0) : 0 ≤ p.hn ∧ p.hn ≤ 10 ∧ 0 ≤ p.fn ∧ p.fn ≤ 10 ∧ 0 ≤ p.hs ∧ p.hs ≤ 127 ∧ 0 ≤ p.fs ∧ p.fs ≤ 127 := by
  unfold errOf at h
  split at h
  · cases h
  · omega

variable {E : PExt} (hU : Uni E)
include hU
set_option maxRecDepth 10000
set_option maxHeartbeats 4000000

theorem r_Len64 (h0 : E 56 = none) (x : BitVec 64) : Run Tryd.prog E 56 [Em.bv64.emb x] (i64.emb (lenB x.toNat)) := by
  obtain ⟨n, hn⟩ : ∃ n, n = x.toNat := ⟨_, rfl⟩
  have hx : Em.bv64.emb x = .int .u64 (n : Int) := by rw [hn]; rfl
  have hlt : n < 2 ^ 64 := by rw [hn]; exact x.isLt
  rw [hx, ← hn]
  apply Run.bodyL h0 Tryd.func56 rfl
  focus (simp [show Tryd.f56.ntmps = _ from rfl, List.replicate]; rfl)
  by_cases h0 : 4294967296 ≤ (n : Int)
  · obtain ⟨y0, hy0⟩ : ∃ y0, n / 2 ^ 32 = y0 := ⟨_, rfl⟩
    have s0 := shr_u64' (n := n) (i := 32) (by omega)
    have l0 := lenB_div n 32 (by omega)
    rw [hy0] at s0 l0
    have b0 : y0 < 4294967296 := by omega
    have s0' : pshift .shr .u64 (n : Int) 32 = some (.int .u64 (y0 : Int)) := s0
    by_cases h1 : 65536 ≤ (y0 : Int)
    · obtain ⟨y1, hy1⟩ : ∃ y1, y0 / 2 ^ 16 = y1 := ⟨_, rfl⟩
      have s1 := shr_u64' (n := y0) (i := 16) (by omega)
      have l1 := lenB_div y0 16 (by omega)
      rw [hy1] at s1 l1
      have b1 : y1 < 65536 := by omega
      have s1' : pshift .shr .u64 (y0 : Int) 16 = some (.int .u64 (y1 : Int)) := s1
      by_cases h2 : 256 ≤ (y1 : Int)
      · obtain ⟨y2, hy2⟩ : ∃ y2, y1 / 2 ^ 8 = y2 := ⟨_, rfl⟩
        have s2 := shr_u64' (n := y1) (i := 8) (by omega)
        have l2 := lenB_div y1 8 (by omega)
        rw [hy2] at s2 l2
        have b2 : y2 < 256 := by omega
        have s2' : pshift .shr .u64 (y1 : Int) 8 = some (.int .u64 (y2 : Int)) := s2
        have hw : IntKind.u8.wrap (y2 : Int) = y2 := wrap_u8 (by omega) (by omega)
        have hb := lenB_le (n := y2) (k := 8) (by omega)
        repeat (first
          | (refine Fr.i ?_; simp only [pput, List.set_cons_zero, List.set_cons_succ]; try rfl)
          | (refine By.i ?_; simp (disch := first | omega | (simp; done) | (simp; omega)) [wrap_i64, wrap_u64, h0, s0', h1, s1', h2, s2', hw]; first | done | rfl | exact ⟨rfl, rfl⟩)
          | (refine Wt.i ?_; first | rfl | (simp [h0, s0', h1, s1', h2, s2', hw]; done))
          | (refine Ns.i ?_; (try simp only [List.append_nil, List.nil_append, List.cons_append, List.append_assoc, List.length_append, List.length_cons, List.length_nil, Nat.zero_add, Nat.reduceAdd]); rfl) | rfl
          | (apply SL.pass; (focus (refine Wt.i ?_; rfl))) | apply SL.move | apply SL.assign | apply SL.load | apply SL.binOp | apply SL.append | apply SL.builtin | apply SL.fieldAddr | apply SL.indexAddr | apply SL.field | apply SL.extract
          | apply SL.fcall | apply SL.pick | apply SL.store | apply SL.unOp | apply SL.convert | apply SL.index | apply SL.slice | apply SL.build | apply SL.nilCheck | apply SL.buildSlice | apply SL.box | apply SL.alloc | apply SL.makeFunc
          | apply SQ.nil | (apply WL.reg; (focus decide +kernel)) | (apply WL.drawP (by assumption); (focus decide +kernel); (focus decide +kernel)) | (apply WL.drawF; (focus decide +kernel); (focus decide +kernel))
          | (apply WL.reg1; (focus decide +kernel)) | (apply WL.drawP1 (by assumption); (focus decide +kernel); (focus decide +kernel)) | (apply WL.drawF1; (focus decide +kernel); (focus decide +kernel)) | apply WL.skip
          | (apply WL.ct; (focus rfl)) | (apply WL.cf; (focus rfl)) | refine SeqQ.normal ?_ | refine SeqQ.ret ?_ | refine SeqQ.exit ?_ | refine BlockQ.normal ?_ | refine BlockQ.ret ?_ | refine BlockQ.here ?_
          | refine BlockQ.there (by decide) ?_ | refine Wp.block ?_ | refine Wp.skip ?_ | refine Wp.ret ?_ | refine Wp.exit ?_ | refine LoopI.ret ?_ | refine LoopI.exit ?_ | refine LoopQ.normal ?_ | refine LoopQ.ret ?_ | refine LoopQ.exit ?_
          | refine Wp.seq (Wp.seq ?_) | refine Wp.seq (Wp.block ?_) | (refine Wp.seq ?_; apply WL.ct; (focus rfl)) | (refine Wp.seq ?_; apply WL.cf; (focus rfl)))
        rw [tabFin (n := y2) (hd := by decide +kernel) (hn := by omega)]
        have hl : (lenB n : Int) = 56 + lenB y2 := by have := l0 ; have := l1 ; have := l2; omega
        simp (disch := first | omega | (simp; done) | (simp; omega)) [decide_eq_decide, hl, wrap_i64] <;> try rfl
      · have hw : IntKind.u8.wrap (y1 : Int) = y1 := wrap_u8 (by omega) (by omega)
        have hb := lenB_le (n := y1) (k := 8) (by omega)
        repeat (first
          | (refine Fr.i ?_; simp only [pput, List.set_cons_zero, List.set_cons_succ]; try rfl)
          | (refine By.i ?_; simp (disch := first | omega | (simp; done) | (simp; omega)) [wrap_i64, wrap_u64, h0, s0', h1, s1', h2, hw]; first | done | rfl | exact ⟨rfl, rfl⟩)
          | (refine Wt.i ?_; first | rfl | (simp [h0, s0', h1, s1', h2, hw]; done))
          | (refine Ns.i ?_; (try simp only [List.append_nil, List.nil_append, List.cons_append, List.append_assoc, List.length_append, List.length_cons, List.length_nil, Nat.zero_add, Nat.reduceAdd]); rfl) | rfl
          | (apply SL.pass; (focus (refine Wt.i ?_; rfl))) | apply SL.move | apply SL.assign | apply SL.load | apply SL.binOp | apply SL.append | apply SL.builtin | apply SL.fieldAddr | apply SL.indexAddr | apply SL.field | apply SL.extract
          | apply SL.fcall | apply SL.pick | apply SL.store | apply SL.unOp | apply SL.convert | apply SL.index | apply SL.slice | apply SL.build | apply SL.nilCheck | apply SL.buildSlice | apply SL.box | apply SL.alloc | apply SL.makeFunc
          | apply SQ.nil | (apply WL.reg; (focus decide +kernel)) | (apply WL.drawP (by assumption); (focus decide +kernel); (focus decide +kernel)) | (apply WL.drawF; (focus decide +kernel); (focus decide +kernel))
          | (apply WL.reg1; (focus decide +kernel)) | (apply WL.drawP1 (by assumption); (focus decide +kernel); (focus decide +kernel)) | (apply WL.drawF1; (focus decide +kernel); (focus decide +kernel)) | apply WL.skip
          | (apply WL.ct; (focus rfl)) | (apply WL.cf; (focus rfl)) | refine SeqQ.normal ?_ | refine SeqQ.ret ?_ | refine SeqQ.exit ?_ | refine BlockQ.normal ?_ | refine BlockQ.ret ?_ | refine BlockQ.here ?_
          | refine BlockQ.there (by decide) ?_ | refine Wp.block ?_ | refine Wp.skip ?_ | refine Wp.ret ?_ | refine Wp.exit ?_ | refine LoopI.ret ?_ | refine LoopI.exit ?_ | refine LoopQ.normal ?_ | refine LoopQ.ret ?_ | refine LoopQ.exit ?_
          | refine Wp.seq (Wp.seq ?_) | refine Wp.seq (Wp.block ?_) | (refine Wp.seq ?_; apply WL.ct; (focus rfl)) | (refine Wp.seq ?_; apply WL.cf; (focus rfl)))
        rw [tabFin (n := y1) (hd := by decide +kernel) (hn := by omega)]
        have hl : (lenB n : Int) = 48 + lenB y1 := by have := l0 ; have := l1; omega
        simp (disch := first | omega | (simp; done) | (simp; omega)) [decide_eq_decide, hl, wrap_i64] <;> try rfl
    · by_cases h2 : 256 ≤ (y0 : Int)
      · obtain ⟨y2, hy2⟩ : ∃ y2, y0 / 2 ^ 8 = y2 := ⟨_, rfl⟩
        have s2 := shr_u64' (n := y0) (i := 8) (by omega)
        have l2 := lenB_div y0 8 (by omega)
        rw [hy2] at s2 l2
        have b2 : y2 < 256 := by omega
        have s2' : pshift .shr .u64 (y0 : Int) 8 = some (.int .u64 (y2 : Int)) := s2
        have hw : IntKind.u8.wrap (y2 : Int) = y2 := wrap_u8 (by omega) (by omega)
        have hb := lenB_le (n := y2) (k := 8) (by omega)
        repeat (first
          | (refine Fr.i ?_; simp only [pput, List.set_cons_zero, List.set_cons_succ]; try rfl)
          | (refine By.i ?_; simp (disch := first | omega | (simp; done) | (simp; omega)) [wrap_i64, wrap_u64, h0, s0', h1, h2, s2', hw]; first | done | rfl | exact ⟨rfl, rfl⟩)
          | (refine Wt.i ?_; first | rfl | (simp [h0, s0', h1, h2, s2', hw]; done))
          | (refine Ns.i ?_; (try simp only [List.append_nil, List.nil_append, List.cons_append, List.append_assoc, List.length_append, List.length_cons, List.length_nil, Nat.zero_add, Nat.reduceAdd]); rfl) | rfl
          | (apply SL.pass; (focus (refine Wt.i ?_; rfl))) | apply SL.move | apply SL.assign | apply SL.load | apply SL.binOp | apply SL.append | apply SL.builtin | apply SL.fieldAddr | apply SL.indexAddr | apply SL.field | apply SL.extract
          | apply SL.fcall | apply SL.pick | apply SL.store | apply SL.unOp | apply SL.convert | apply SL.index | apply SL.slice | apply SL.build | apply SL.nilCheck | apply SL.buildSlice | apply SL.box | apply SL.alloc | apply SL.makeFunc
          | apply SQ.nil | (apply WL.reg; (focus decide +kernel)) | (apply WL.drawP (by assumption); (focus decide +kernel); (focus decide +kernel)) | (apply WL.drawF; (focus decide +kernel); (focus decide +kernel))
          | (apply WL.reg1; (focus decide +kernel)) | (apply WL.drawP1 (by assumption); (focus decide +kernel); (focus decide +kernel)) | (apply WL.drawF1; (focus decide +kernel); (focus decide +kernel)) | apply WL.skip
          | (apply WL.ct; (focus rfl)) | (apply WL.cf; (focus rfl)) | refine SeqQ.normal ?_ | refine SeqQ.ret ?_ | refine SeqQ.exit ?_ | refine BlockQ.normal ?_ | refine BlockQ.ret ?_ | refine BlockQ.here ?_
          | refine BlockQ.there (by decide) ?_ | refine Wp.block ?_ | refine Wp.skip ?_ | refine Wp.ret ?_ | refine Wp.exit ?_ | refine LoopI.ret ?_ | refine LoopI.exit ?_ | refine LoopQ.normal ?_ | refine LoopQ.ret ?_ | refine LoopQ.exit ?_
          | refine Wp.seq (Wp.seq ?_) | refine Wp.seq (Wp.block ?_) | (refine Wp.seq ?_; apply WL.ct; (focus rfl)) | (refine Wp.seq ?_; apply WL.cf; (focus rfl)))
        rw [tabFin (n := y2) (hd := by decide +kernel) (hn := by omega)]
        have hl : (lenB n : Int) = 40 + lenB y2 := by have := l0 ; have := l2; omega
        simp (disch := first | omega | (simp; done) | (simp; omega)) [decide_eq_decide, hl, wrap_i64] <;> try rfl
      · have hw : IntKind.u8.wrap (y0 : Int) = y0 := wrap_u8 (by omega) (by omega)
        have hb := lenB_le (n := y0) (k := 8) (by omega)
        repeat (first
          | (refine Fr.i ?_; simp only [pput, List.set_cons_zero, List.set_cons_succ]; try rfl)
          | (refine By.i ?_; simp (disch := first | omega | (simp; done) | (simp; omega)) [wrap_i64, wrap_u64, h0, s0', h1, h2, hw]; first | done | rfl | exact ⟨rfl, rfl⟩) | (refine Wt.i ?_; first | rfl | (simp [h0, s0', h1, h2, hw]; done))
          | (refine Ns.i ?_; (try simp only [List.append_nil, List.nil_append, List.cons_append, List.append_assoc, List.length_append, List.length_cons, List.length_nil, Nat.zero_add, Nat.reduceAdd]); rfl) | rfl
          | (apply SL.pass; (focus (refine Wt.i ?_; rfl))) | apply SL.move | apply SL.assign | apply SL.load | apply SL.binOp | apply SL.append | apply SL.builtin | apply SL.fieldAddr | apply SL.indexAddr | apply SL.field | apply SL.extract
          | apply SL.fcall | apply SL.pick | apply SL.store | apply SL.unOp | apply SL.convert | apply SL.index | apply SL.slice | apply SL.build | apply SL.nilCheck | apply SL.buildSlice | apply SL.box | apply SL.alloc | apply SL.makeFunc
          | apply SQ.nil | (apply WL.reg; (focus decide +kernel)) | (apply WL.drawP (by assumption); (focus decide +kernel); (focus decide +kernel)) | (apply WL.drawF; (focus decide +kernel); (focus decide +kernel))
          | (apply WL.reg1; (focus decide +kernel)) | (apply WL.drawP1 (by assumption); (focus decide +kernel); (focus decide +kernel)) | (apply WL.drawF1; (focus decide +kernel); (focus decide +kernel)) | apply WL.skip
          | (apply WL.ct; (focus rfl)) | (apply WL.cf; (focus rfl)) | refine SeqQ.normal ?_ | refine SeqQ.ret ?_ | refine SeqQ.exit ?_ | refine BlockQ.normal ?_ | refine BlockQ.ret ?_ | refine BlockQ.here ?_
          | refine BlockQ.there (by decide) ?_ | refine Wp.block ?_ | refine Wp.skip ?_ | refine Wp.ret ?_ | refine Wp.exit ?_ | refine LoopI.ret ?_ | refine LoopI.exit ?_ | refine LoopQ.normal ?_ | refine LoopQ.ret ?_ | refine LoopQ.exit ?_
          | refine Wp.seq (Wp.seq ?_) | refine Wp.seq (Wp.block ?_) | (refine Wp.seq ?_; apply WL.ct; (focus rfl)) | (refine Wp.seq ?_; apply WL.cf; (focus rfl)))
        rw [tabFin (n := y0) (hd := by decide +kernel) (hn := by omega)]
        have hl : (lenB n : Int) = 32 + lenB y0 := by have := l0; omega
        simp (disch := first | omega | (simp; done) | (simp; omega)) [decide_eq_decide, hl, wrap_i64] <;> try rfl
  · by_cases h1 : 65536 ≤ (n : Int)
    · obtain ⟨y1, hy1⟩ : ∃ y1, n / 2 ^ 16 = y1 := ⟨_, rfl⟩
      have s1 := shr_u64' (n := n) (i := 16) (by omega)
      have l1 := lenB_div n 16 (by omega)
      rw [hy1] at s1 l1
      have b1 : y1 < 65536 := by omega
      have s1' : pshift .shr .u64 (n : Int) 16 = some (.int .u64 (y1 : Int)) := s1
      by_cases h2 : 256 ≤ (y1 : Int)
      · obtain ⟨y2, hy2⟩ : ∃ y2, y1 / 2 ^ 8 = y2 := ⟨_, rfl⟩
        have s2 := shr_u64' (n := y1) (i := 8) (by omega)
        have l2 := lenB_div y1 8 (by omega)
        rw [hy2] at s2 l2
        have b2 : y2 < 256 := by omega
        have s2' : pshift .shr .u64 (y1 : Int) 8 = some (.int .u64 (y2 : Int)) := s2
        have hw : IntKind.u8.wrap (y2 : Int) = y2 := wrap_u8 (by omega) (by omega)
        have hb := lenB_le (n := y2) (k := 8) (by omega)
        repeat (first
          | (refine Fr.i ?_; simp only [pput, List.set_cons_zero, List.set_cons_succ]; try rfl)
          | (refine By.i ?_; simp (disch := first | omega | (simp; done) | (simp; omega)) [wrap_i64, wrap_u64, h0, h1, s1', h2, s2', hw]; first | done | rfl | exact ⟨rfl, rfl⟩)
          | (refine Wt.i ?_; first | rfl | (simp [h0, h1, s1', h2, s2', hw]; done))
          | (refine Ns.i ?_; (try simp only [List.append_nil, List.nil_append, List.cons_append, List.append_assoc, List.length_append, List.length_cons, List.length_nil, Nat.zero_add, Nat.reduceAdd]); rfl) | rfl
          | (apply SL.pass; (focus (refine Wt.i ?_; rfl))) | apply SL.move | apply SL.assign | apply SL.load | apply SL.binOp | apply SL.append | apply SL.builtin | apply SL.fieldAddr | apply SL.indexAddr | apply SL.field | apply SL.extract
          | apply SL.fcall | apply SL.pick | apply SL.store | apply SL.unOp | apply SL.convert | apply SL.index | apply SL.slice | apply SL.build | apply SL.nilCheck | apply SL.buildSlice | apply SL.box | apply SL.alloc | apply SL.makeFunc
          | apply SQ.nil | (apply WL.reg; (focus decide +kernel)) | (apply WL.drawP (by assumption); (focus decide +kernel); (focus decide +kernel)) | (apply WL.drawF; (focus decide +kernel); (focus decide +kernel))
          | (apply WL.reg1; (focus decide +kernel)) | (apply WL.drawP1 (by assumption); (focus decide +kernel); (focus decide +kernel)) | (apply WL.drawF1; (focus decide +kernel); (focus decide +kernel)) | apply WL.skip
          | (apply WL.ct; (focus rfl)) | (apply WL.cf; (focus rfl)) | refine SeqQ.normal ?_ | refine SeqQ.ret ?_ | refine SeqQ.exit ?_ | refine BlockQ.normal ?_ | refine BlockQ.ret ?_ | refine BlockQ.here ?_
          | refine BlockQ.there (by decide) ?_ | refine Wp.block ?_ | refine Wp.skip ?_ | refine Wp.ret ?_ | refine Wp.exit ?_ | refine LoopI.ret ?_ | refine LoopI.exit ?_ | refine LoopQ.normal ?_ | refine LoopQ.ret ?_ | refine LoopQ.exit ?_
          | refine Wp.seq (Wp.seq ?_) | refine Wp.seq (Wp.block ?_) | (refine Wp.seq ?_; apply WL.ct; (focus rfl)) | (refine Wp.seq ?_; apply WL.cf; (focus rfl)))
        rw [tabFin (n := y2) (hd := by decide +kernel) (hn := by omega)]
        have hl : (lenB n : Int) = 24 + lenB y2 := by have := l1 ; have := l2; omega
        simp (disch := first | omega | (simp; done) | (simp; omega)) [decide_eq_decide, hl, wrap_i64] <;> try rfl
      · have hw : IntKind.u8.wrap (y1 : Int) = y1 := wrap_u8 (by omega) (by omega)
        have hb := lenB_le (n := y1) (k := 8) (by omega)
        repeat (first
          | (refine Fr.i ?_; simp only [pput, List.set_cons_zero, List.set_cons_succ]; try rfl)
          | (refine By.i ?_; simp (disch := first | omega | (simp; done) | (simp; omega)) [wrap_i64, wrap_u64, h0, h1, s1', h2, hw]; first | done | rfl | exact ⟨rfl, rfl⟩) | (refine Wt.i ?_; first | rfl | (simp [h0, h1, s1', h2, hw]; done))
          | (refine Ns.i ?_; (try simp only [List.append_nil, List.nil_append, List.cons_append, List.append_assoc, List.length_append, List.length_cons, List.length_nil, Nat.zero_add, Nat.reduceAdd]); rfl) | rfl
          | (apply SL.pass; (focus (refine Wt.i ?_; rfl))) | apply SL.move | apply SL.assign | apply SL.load | apply SL.binOp | apply SL.append | apply SL.builtin | apply SL.fieldAddr | apply SL.indexAddr | apply SL.field | apply SL.extract
          | apply SL.fcall | apply SL.pick | apply SL.store | apply SL.unOp | apply SL.convert | apply SL.index | apply SL.slice | apply SL.build | apply SL.nilCheck | apply SL.buildSlice | apply SL.box | apply SL.alloc | apply SL.makeFunc
          | apply SQ.nil | (apply WL.reg; (focus decide +kernel)) | (apply WL.drawP (by assumption); (focus decide +kernel); (focus decide +kernel)) | (apply WL.drawF; (focus decide +kernel); (focus decide +kernel))
          | (apply WL.reg1; (focus decide +kernel)) | (apply WL.drawP1 (by assumption); (focus decide +kernel); (focus decide +kernel)) | (apply WL.drawF1; (focus decide +kernel); (focus decide +kernel)) | apply WL.skip
          | (apply WL.ct; (focus rfl)) | (apply WL.cf; (focus rfl)) | refine SeqQ.normal ?_ | refine SeqQ.ret ?_ | refine SeqQ.exit ?_ | refine BlockQ.normal ?_ | refine BlockQ.ret ?_ | refine BlockQ.here ?_
          | refine BlockQ.there (by decide) ?_ | refine Wp.block ?_ | refine Wp.skip ?_ | refine Wp.ret ?_ | refine Wp.exit ?_ | refine LoopI.ret ?_ | refine LoopI.exit ?_ | refine LoopQ.normal ?_ | refine LoopQ.ret ?_ | refine LoopQ.exit ?_
          | refine Wp.seq (Wp.seq ?_) | refine Wp.seq (Wp.block ?_) | (refine Wp.seq ?_; apply WL.ct; (focus rfl)) | (refine Wp.seq ?_; apply WL.cf; (focus rfl)))
        rw [tabFin (n := y1) (hd := by decide +kernel) (hn := by omega)]
        have hl : (lenB n : Int) = 16 + lenB y1 := by have := l1; omega
        simp (disch := first | omega | (simp; done) | (simp; omega)) [decide_eq_decide, hl, wrap_i64] <;> try rfl
    · by_cases h2 : 256 ≤ (n : Int)
      · obtain ⟨y2, hy2⟩ : ∃ y2, n / 2 ^ 8 = y2 := ⟨_, rfl⟩
        have s2 := shr_u64' (n := n) (i := 8) (by omega)
        have l2 := lenB_div n 8 (by omega)
        rw [hy2] at s2 l2
        have b2 : y2 < 256 := by omega
        have s2' : pshift .shr .u64 (n : Int) 8 = some (.int .u64 (y2 : Int)) := s2
        have hw : IntKind.u8.wrap (y2 : Int) = y2 := wrap_u8 (by omega) (by omega)
        have hb := lenB_le (n := y2) (k := 8) (by omega)
        repeat (first
          | (refine Fr.i ?_; simp only [pput, List.set_cons_zero, List.set_cons_succ]; try rfl)
          | (refine By.i ?_; simp (disch := first | omega | (simp; done) | (simp; omega)) [wrap_i64, wrap_u64, h0, h1, h2, s2', hw]; first | done | rfl | exact ⟨rfl, rfl⟩) | (refine Wt.i ?_; first | rfl | (simp [h0, h1, h2, s2', hw]; done))
          | (refine Ns.i ?_; (try simp only [List.append_nil, List.nil_append, List.cons_append, List.append_assoc, List.length_append, List.length_cons, List.length_nil, Nat.zero_add, Nat.reduceAdd]); rfl) | rfl
          | (apply SL.pass; (focus (refine Wt.i ?_; rfl))) | apply SL.move | apply SL.assign | apply SL.load | apply SL.binOp | apply SL.append | apply SL.builtin | apply SL.fieldAddr | apply SL.indexAddr | apply SL.field | apply SL.extract
          | apply SL.fcall | apply SL.pick | apply SL.store | apply SL.unOp | apply SL.convert | apply SL.index | apply SL.slice | apply SL.build | apply SL.nilCheck | apply SL.buildSlice | apply SL.box | apply SL.alloc | apply SL.makeFunc
          | apply SQ.nil | (apply WL.reg; (focus decide +kernel)) | (apply WL.drawP (by assumption); (focus decide +kernel); (focus decide +kernel)) | (apply WL.drawF; (focus decide +kernel); (focus decide +kernel))
          | (apply WL.reg1; (focus decide +kernel)) | (apply WL.drawP1 (by assumption); (focus decide +kernel); (focus decide +kernel)) | (apply WL.drawF1; (focus decide +kernel); (focus decide +kernel)) | apply WL.skip
          | (apply WL.ct; (focus rfl)) | (apply WL.cf; (focus rfl)) | refine SeqQ.normal ?_ | refine SeqQ.ret ?_ | refine SeqQ.exit ?_ | refine BlockQ.normal ?_ | refine BlockQ.ret ?_ | refine BlockQ.here ?_
          | refine BlockQ.there (by decide) ?_ | refine Wp.block ?_ | refine Wp.skip ?_ | refine Wp.ret ?_ | refine Wp.exit ?_ | refine LoopI.ret ?_ | refine LoopI.exit ?_ | refine LoopQ.normal ?_ | refine LoopQ.ret ?_ | refine LoopQ.exit ?_
          | refine Wp.seq (Wp.seq ?_) | refine Wp.seq (Wp.block ?_) | (refine Wp.seq ?_; apply WL.ct; (focus rfl)) | (refine Wp.seq ?_; apply WL.cf; (focus rfl)))
        rw [tabFin (n := y2) (hd := by decide +kernel) (hn := by omega)]
        have hl : (lenB n : Int) = 8 + lenB y2 := by have := l2; omega
        simp (disch := first | omega | (simp; done) | (simp; omega)) [decide_eq_decide, hl, wrap_i64] <;> try rfl
      · have hw : IntKind.u8.wrap (n : Int) = n := wrap_u8 (by omega) (by omega)
        have hb := lenB_le (n := n) (k := 8) (by omega)
        repeat (first
          | (refine Fr.i ?_; simp only [pput, List.set_cons_zero, List.set_cons_succ]; try rfl)
          | (refine By.i ?_; simp (disch := first | omega | (simp; done) | (simp; omega)) [wrap_i64, wrap_u64, h0, h1, h2, hw]; first | done | rfl | exact ⟨rfl, rfl⟩) | (refine Wt.i ?_; first | rfl | (simp [h0, h1, h2, hw]; done))
          | (refine Ns.i ?_; (try simp only [List.append_nil, List.nil_append, List.cons_append, List.append_assoc, List.length_append, List.length_cons, List.length_nil, Nat.zero_add, Nat.reduceAdd]); rfl) | rfl
          | (apply SL.pass; (focus (refine Wt.i ?_; rfl))) | apply SL.move | apply SL.assign | apply SL.load | apply SL.binOp | apply SL.append | apply SL.builtin | apply SL.fieldAddr | apply SL.indexAddr | apply SL.field | apply SL.extract
          | apply SL.fcall | apply SL.pick | apply SL.store | apply SL.unOp | apply SL.convert | apply SL.index | apply SL.slice | apply SL.build | apply SL.nilCheck | apply SL.buildSlice | apply SL.box | apply SL.alloc | apply SL.makeFunc
          | apply SQ.nil | (apply WL.reg; (focus decide +kernel)) | (apply WL.drawP (by assumption); (focus decide +kernel); (focus decide +kernel)) | (apply WL.drawF; (focus decide +kernel); (focus decide +kernel))
          | (apply WL.reg1; (focus decide +kernel)) | (apply WL.drawP1 (by assumption); (focus decide +kernel); (focus decide +kernel)) | (apply WL.drawF1; (focus decide +kernel); (focus decide +kernel)) | apply WL.skip
          | (apply WL.ct; (focus rfl)) | (apply WL.cf; (focus rfl)) | refine SeqQ.normal ?_ | refine SeqQ.ret ?_ | refine SeqQ.exit ?_ | refine BlockQ.normal ?_ | refine BlockQ.ret ?_ | refine BlockQ.here ?_
          | refine BlockQ.there (by decide) ?_ | refine Wp.block ?_ | refine Wp.skip ?_ | refine Wp.ret ?_ | refine Wp.exit ?_ | refine LoopI.ret ?_ | refine LoopI.exit ?_ | refine LoopQ.normal ?_ | refine LoopQ.ret ?_ | refine LoopQ.exit ?_
          | refine Wp.seq (Wp.seq ?_) | refine Wp.seq (Wp.block ?_) | (refine Wp.seq ?_; apply WL.ct; (focus rfl)) | (refine Wp.seq ?_; apply WL.cf; (focus rfl)))
        rw [tabFin (n := n) (hd := by decide +kernel) (hn := by omega)]
        simp (disch := first | omega | (simp; done) | (simp; omega)) [decide_eq_decide, wrap_i64] <;> try rfl

theorem r_LeadingZeros64 (h0 : E 45 = none) (h1 : E 56 = some (entry (gf1 .bv64 i64 fun x => some (lenB x.toNat : Int)))) (x : BitVec 64) : Run Tryd.prog E 45 [Em.bv64.emb x] (i64.emb (64 - (lenB x.toNat : Int))) := by
  apply Run.bodyL h0 Tryd.func45 rfl
  focus (simp [show Tryd.f45.ntmps = _ from rfl, List.replicate]; rfl)
  have hb : lenB x.toNat ≤ 64 := by
    unfold lenB
    split
    · omega
    · rename_i h
      have := (Nat.log2_lt h).2 x.isLt
      omega
  repeat (first
    | (refine Fr.i ?_; simp only [pput, List.set_cons_zero, List.set_cons_succ]; try rfl)
    | (refine By.i ?_; simp (disch := first | omega | (simp; done) | (simp; omega)) [wrap_i64, wrap_u64, h1, entry, gf1]; first | done | rfl | exact ⟨rfl, rfl⟩) | (refine Wt.i ?_; first | rfl | (simp [h1, entry, gf1]; done))
    | (refine Ns.i ?_; (try simp only [List.append_nil, List.nil_append, List.cons_append, List.append_assoc, List.length_append, List.length_cons, List.length_nil, Nat.zero_add, Nat.reduceAdd]); rfl) | rfl
    | (apply SL.pass; (focus (refine Wt.i ?_; rfl))) | apply SL.move | apply SL.assign | apply SL.load | apply SL.binOp | apply SL.append | apply SL.builtin | apply SL.fieldAddr | apply SL.indexAddr | apply SL.field | apply SL.extract
    | apply SL.fcall | apply SL.pick | apply SL.store | apply SL.unOp | apply SL.convert | apply SL.index | apply SL.slice | apply SL.build | apply SL.nilCheck | apply SL.buildSlice | apply SL.box | apply SL.alloc | apply SL.makeFunc
    | apply SQ.nil | (apply WL.reg; (focus decide +kernel)) | (apply WL.drawP (by assumption); (focus decide +kernel); (focus decide +kernel)) | (apply WL.drawF; (focus decide +kernel); (focus decide +kernel))
    | (apply WL.reg1; (focus decide +kernel)) | (apply WL.drawP1 (by assumption); (focus decide +kernel); (focus decide +kernel)) | (apply WL.drawF1; (focus decide +kernel); (focus decide +kernel)) | apply WL.skip | (apply WL.ct; (focus rfl))
    | (apply WL.cf; (focus rfl)) | refine SeqQ.normal ?_ | refine SeqQ.ret ?_ | refine SeqQ.exit ?_ | refine BlockQ.normal ?_ | refine BlockQ.ret ?_ | refine BlockQ.here ?_ | refine BlockQ.there (by decide) ?_ | refine Wp.block ?_
    | refine Wp.skip ?_ | refine Wp.ret ?_ | refine Wp.exit ?_ | refine LoopI.ret ?_ | refine LoopI.exit ?_ | refine LoopQ.normal ?_ | refine LoopQ.ret ?_ | refine LoopQ.exit ?_ | refine Wp.seq (Wp.seq ?_) | refine Wp.seq (Wp.block ?_)
    | (refine Wp.seq ?_; apply WL.ct; (focus rfl)) | (refine Wp.seq ?_; apply WL.cf; (focus rfl)))
  simp (disch := first | omega | (simp; done) | (simp; omega)) [decide_eq_decide] <;> try rfl

theorem r_Greatest (h0 : E 27 = none) (h1 : E 45 = some (entry (gf1 .bv64 i64 fun x => some (64 - (lenB x.toNat : Int))))) (s : Notes) : Run Tryd.prog E 27 [Em.notes.emb s] ((i64.tup2 .bool).emb (greatestN s)) := by
  apply Run.bodyL h0 Tryd.func27 rfl
  focus (simp [show Tryd.f27.ntmps = _ from rfl, List.replicate]; rfl)
  have hb : ∀ x : BitVec 64, lenB x.toNat ≤ 64 := by
    intro x
    unfold lenB
    split
    · omega
    · rename_i h
      have := (Nat.log2_lt h).2 x.isLt
      omega
  have hb1 := hb s.high
  have hb2 := hb s.low
  by_cases h2 : tn s.high = 0
  · have z2 : s.high.toNat = 0 := by unfold tn at h2; omega
    by_cases h3 : tn s.low = 0
    · have z3 : s.low.toNat = 0 := by unfold tn at h3; omega
      rw [greatest_none z2 z3]
      repeat (first
        | (refine Fr.i ?_; simp only [pput, List.set_cons_zero, List.set_cons_succ]; try rfl) | (refine By.i ?_; simp (disch := first | omega | (simp; done) | (simp; omega)) [wrap_i64, wrap_u64, h2, h3]; first | done | rfl | exact ⟨rfl, rfl⟩)
        | (refine Wt.i ?_; first | rfl | (simp [h2, h3]; done))
        | (refine Ns.i ?_; (try simp only [List.append_nil, List.nil_append, List.cons_append, List.append_assoc, List.length_append, List.length_cons, List.length_nil, Nat.zero_add, Nat.reduceAdd]); rfl) | rfl
        | (apply SL.pass; (focus (refine Wt.i ?_; rfl))) | apply SL.move | apply SL.assign | apply SL.load | apply SL.binOp | apply SL.append | apply SL.builtin | apply SL.fieldAddr | apply SL.indexAddr | apply SL.field | apply SL.extract
        | apply SL.fcall | apply SL.pick | apply SL.store | apply SL.unOp | apply SL.convert | apply SL.index | apply SL.slice | apply SL.build | apply SL.nilCheck | apply SL.buildSlice | apply SL.box | apply SL.alloc | apply SL.makeFunc
        | apply SQ.nil | (apply WL.reg; (focus decide +kernel)) | (apply WL.drawP (by assumption); (focus decide +kernel); (focus decide +kernel)) | (apply WL.drawF; (focus decide +kernel); (focus decide +kernel))
        | (apply WL.reg1; (focus decide +kernel)) | (apply WL.drawP1 (by assumption); (focus decide +kernel); (focus decide +kernel)) | (apply WL.drawF1; (focus decide +kernel); (focus decide +kernel)) | apply WL.skip
        | (apply WL.ct; (focus rfl)) | (apply WL.cf; (focus rfl)) | refine SeqQ.normal ?_ | refine SeqQ.ret ?_ | refine SeqQ.exit ?_ | refine BlockQ.normal ?_ | refine BlockQ.ret ?_ | refine BlockQ.here ?_ | refine BlockQ.there (by decide) ?_
        | refine Wp.block ?_ | refine Wp.skip ?_ | refine Wp.ret ?_ | refine Wp.exit ?_ | refine LoopI.ret ?_ | refine LoopI.exit ?_ | refine LoopQ.normal ?_ | refine LoopQ.ret ?_ | refine LoopQ.exit ?_ | refine Wp.seq (Wp.seq ?_)
        | refine Wp.seq (Wp.block ?_) | (refine Wp.seq ?_; apply WL.ct; (focus rfl)) | (refine Wp.seq ?_; apply WL.cf; (focus rfl)))
      simp (disch := first | omega | (simp; done) | (simp; omega)) [decide_eq_decide] <;> try rfl
    · have z3 : s.low.toNat ≠ 0 := by unfold tn at h3; omega
      rw [greatest_low z2 z3]
      repeat (first
        | (refine Fr.i ?_; simp only [pput, List.set_cons_zero, List.set_cons_succ]; try rfl)
        | (refine By.i ?_; simp (disch := first | omega | (simp; done) | (simp; omega)) [wrap_i64, wrap_u64, h2, h3, h1, entry, gf1]; first | done | rfl | exact ⟨rfl, rfl⟩)
        | (refine Wt.i ?_; first | rfl | (simp [h2, h3, h1, entry, gf1]; done))
        | (refine Ns.i ?_; (try simp only [List.append_nil, List.nil_append, List.cons_append, List.append_assoc, List.length_append, List.length_cons, List.length_nil, Nat.zero_add, Nat.reduceAdd]); rfl) | rfl
        | (apply SL.pass; (focus (refine Wt.i ?_; rfl))) | apply SL.move | apply SL.assign | apply SL.load | apply SL.binOp | apply SL.append | apply SL.builtin | apply SL.fieldAddr | apply SL.indexAddr | apply SL.field | apply SL.extract
        | apply SL.fcall | apply SL.pick | apply SL.store | apply SL.unOp | apply SL.convert | apply SL.index | apply SL.slice | apply SL.build | apply SL.nilCheck | apply SL.buildSlice | apply SL.box | apply SL.alloc | apply SL.makeFunc
        | apply SQ.nil | (apply WL.reg; (focus decide +kernel)) | (apply WL.drawP (by assumption); (focus decide +kernel); (focus decide +kernel)) | (apply WL.drawF; (focus decide +kernel); (focus decide +kernel))
        | (apply WL.reg1; (focus decide +kernel)) | (apply WL.drawP1 (by assumption); (focus decide +kernel); (focus decide +kernel)) | (apply WL.drawF1; (focus decide +kernel); (focus decide +kernel)) | apply WL.skip
        | (apply WL.ct; (focus rfl)) | (apply WL.cf; (focus rfl)) | refine SeqQ.normal ?_ | refine SeqQ.ret ?_ | refine SeqQ.exit ?_ | refine BlockQ.normal ?_ | refine BlockQ.ret ?_ | refine BlockQ.here ?_ | refine BlockQ.there (by decide) ?_
        | refine Wp.block ?_ | refine Wp.skip ?_ | refine Wp.ret ?_ | refine Wp.exit ?_ | refine LoopI.ret ?_ | refine LoopI.exit ?_ | refine LoopQ.normal ?_ | refine LoopQ.ret ?_ | refine LoopQ.exit ?_ | refine Wp.seq (Wp.seq ?_)
        | refine Wp.seq (Wp.block ?_) | (refine Wp.seq ?_; apply WL.ct; (focus rfl)) | (refine Wp.seq ?_; apply WL.cf; (focus rfl)))
      simp (disch := first | omega | (simp; done) | (simp; omega)) [decide_eq_decide] <;> try rfl
      omega
  · have z2 : s.high.toNat ≠ 0 := by unfold tn at h2; omega
    rw [greatest_high z2]
    repeat (first
      | (refine Fr.i ?_; simp only [pput, List.set_cons_zero, List.set_cons_succ]; try rfl)
      | (refine By.i ?_; simp (disch := first | omega | (simp; done) | (simp; omega)) [wrap_i64, wrap_u64, h2, h1, entry, gf1]; first | done | rfl | exact ⟨rfl, rfl⟩) | (refine Wt.i ?_; first | rfl | (simp [h2, h1, entry, gf1]; done))
      | (refine Ns.i ?_; (try simp only [List.append_nil, List.nil_append, List.cons_append, List.append_assoc, List.length_append, List.length_cons, List.length_nil, Nat.zero_add, Nat.reduceAdd]); rfl) | rfl
      | (apply SL.pass; (focus (refine Wt.i ?_; rfl))) | apply SL.move | apply SL.assign | apply SL.load | apply SL.binOp | apply SL.append | apply SL.builtin | apply SL.fieldAddr | apply SL.indexAddr | apply SL.field | apply SL.extract
      | apply SL.fcall | apply SL.pick | apply SL.store | apply SL.unOp | apply SL.convert | apply SL.index | apply SL.slice | apply SL.build | apply SL.nilCheck | apply SL.buildSlice | apply SL.box | apply SL.alloc | apply SL.makeFunc
      | apply SQ.nil | (apply WL.reg; (focus decide +kernel)) | (apply WL.drawP (by assumption); (focus decide +kernel); (focus decide +kernel)) | (apply WL.drawF; (focus decide +kernel); (focus decide +kernel))
      | (apply WL.reg1; (focus decide +kernel)) | (apply WL.drawP1 (by assumption); (focus decide +kernel); (focus decide +kernel)) | (apply WL.drawF1; (focus decide +kernel); (focus decide +kernel)) | apply WL.skip
      | (apply WL.ct; (focus rfl)) | (apply WL.cf; (focus rfl)) | refine SeqQ.normal ?_ | refine SeqQ.ret ?_ | refine SeqQ.exit ?_ | refine BlockQ.normal ?_ | refine BlockQ.ret ?_ | refine BlockQ.here ?_ | refine BlockQ.there (by decide) ?_
      | refine Wp.block ?_ | refine Wp.skip ?_ | refine Wp.ret ?_ | refine Wp.exit ?_ | refine LoopI.ret ?_ | refine LoopI.exit ?_ | refine LoopQ.normal ?_ | refine LoopQ.ret ?_ | refine LoopQ.exit ?_ | refine Wp.seq (Wp.seq ?_)
      | refine Wp.seq (Wp.block ?_) | (refine Wp.seq ?_; apply WL.ct; (focus rfl)) | (refine Wp.seq ?_; apply WL.cf; (focus rfl)))
    simp (disch := first | omega | (simp; done) | (simp; omega)) [decide_eq_decide] <;> try rfl
    omega

end Go.Kz

/-
  Drawn regions with boxes of their own, in the written order.
-/
namespace Go.Kz

def allocSure (ops : Array Oper) : Bool := ops.toList.all fun o => !shapeAlloc o.op || o.guard.isNone
/-- As fastOk, boxes of its own allowed. -/
def fastA (ops : Array Oper) : Bool := masksK ops.toList [] fun ms =>
  regOk ops ms && (List.range ops.size).all fun k => !isAt shapeStore ops.toList k || (List.range ops.size).all fun i => !isAt shapeLoad ops.toList i || !loose ms i k

section
variable {P : Program} {E : PExt} {fl : Nat} {fr : List PD} {σ : List SObj}

theorem pstep_pure2 (hU : Uni E) {fl' : Nat} {σ2 : List SObj} {op : Op} {x : PD × List SObj} (hop : (match op with
  | .box .. => false
  | .call { callee := .builtin .append, .. } => false
  | _ => true) = true) (hm : shapeMove op = true) (h : pstep P (pcallP E) fl fr σ op = some x) : pstep P (pcallE E) fl' fr σ2 op = some (x.1, σ2) ∧ x.2 = σ := by
  refine ⟨?_, (pstep_pure hU (fl' := 0) hop hm h).2⟩
  unfold pstep at *
  cases hc : pcallee fr op with
  | some q =>
    obtain ⟨tg, args⟩ := q
    simp only [hc] at h ⊢
    cases tg with
    | inr id => cases h
    | inl f =>
      simp only [pcallP] at h
      split at h
      · rename_i g hg
        split at h
        · rename_i p hp
          simp only [Option.some.injEq] at h; subst h
          simp only [pcallE, hg]
          exact hU f g args p hg hp fl' σ2
        · cases h
      · cases h
  | none =>
    simp only [hc] at h ⊢
    exfalso
    cases op with
    | box t x => cases hop
    | call c =>
      obtain ⟨callee, args, ts⟩ := c
      cases callee with
      | value f => simp [pop, pval, pmem] at h
      | invoke r m => simp [shapeMove] at hm
      | builtin b => cases b <;> first | (simp [shapeMove] at hm; done) | cases hop
    | _ => simp [shapeMove] at hm

theorem pload_more {t : TypeId} {a p : PD} (hs : List SObj) (h : pload P σ t a = some p) : pload P (σ ++ hs) t a = some p :=
  pload_congr h fun id off e => by
    subst e
    rw [List.getElem?_append_left (pload_lt h)]

theorem pstore_more {t : TypeId} {a p : PD} {σ' : List SObj} (hs : List SObj) (h : pstore P fl σ t a p = some σ') : pstore P fl (σ ++ hs) t a p = some (σ' ++ hs) := by
  unfold pstore at h ⊢
  split at h
  · rename_i id off
    by_cases h1 : fl ≤ id
    · rw [if_pos h1] at h ⊢
      cases hq : σ[id]? with
      | none => simp [hq] at h
      | some o =>
        have hlt : id < σ.length := (List.getElem?_eq_some_iff.1 hq).1
        rw [List.getElem?_append_left hlt, hq]
        rw [hq] at h
        cases o with
        | box q =>
          cases hz : psize P t with
          | none => rw [hz] at h; cases h
          | some n =>
            rw [hz] at h
            simp only at h ⊢
            split at h
            · rename_i hc
              rw [if_pos hc]
              cases hset : q.setCells off p.cells with
              | none => rw [hset] at h; cases h
              | some q' =>
                rw [hset] at h
                simp only [Option.some.injEq] at h ⊢
                subst h
                rw [List.set_append_left _ _ hlt]
            · cases h
        | _ => cases h
    · rw [if_neg h1] at h; cases h
  · cases h

theorem pdraw_sure (hU : Uni E) {n : Nat} {ops : Array Oper} (ms : List Nat) (hsh : ∀ (i : Nat) o, ops[i]? = some o → (shapeA o.op || shapeLoad o.op || shapeAlloc o.op || shapeSlice o.op || shapeW o.op) = true) (hno : noOwn ops = true) (hsu : allocSure ops = true) :
    ∀ (l : List Oper) (i : Nat) (fr : List PD) (σ : List SObj) (x : List PD × List SObj), ops.toList.drop i = l → pseq P (pcallP E) fl ops l fr σ = some x →
      ∃ hs tr, phoist P l = some hs ∧ pdrawOps P (pcall P E n) fl ops ms i σ.length l fr (σ ++ hs) = some (tr, x.1, x.2)
  | [], _, fr, σ, x, _, h => by
    simp only [pseq, Option.some.injEq] at h
    subst h
    exact ⟨[], [], rfl, by simp [pdrawOps]⟩
  | o :: l, i, fr, σ, x, hd, h => by
    have ho : ops[i]? = some o := by
      have := congrArg List.head? hd
      rw [List.head?_drop] at this
      simpa using this
    have hd' : ops.toList.drop (i + 1) = l := by rw [← List.drop_drop, hd]; rfl
    have hmem : o ∈ ops.toList := Array.mem_toList_iff.2 (Array.mem_of_getElem? ho)
    have hshape := hsh i o ho
    have hown := List.all_eq_true.1 hno o hmem
    have hsure := List.all_eq_true.1 hsu o hmem
    simp only [pseq] at h
    by_cases hal : shapeAlloc o.op = true
    · have hg : o.guard = none := by
        rw [hal] at hsure
        simpa using hsure
      have hw : Region.wanted o (pyield ops fr) = true := by simp [Region.wanted, hg]
      rw [if_pos hw] at h
      obtain ⟨t, ht⟩ : ∃ t, o.op = .alloc t := by
        unfold shapeAlloc at hal
        split at hal
        · rename_i t e; exact ⟨t, e⟩
        · cases hal
      rw [ht] at h
      have hst : pstep P (pcallP E) fl fr σ (.alloc t) = (match pzero P t with | some p => if p.cells.all PD.plain then some (.ptr σ.length 0, σ ++ [.box p]) else none | none => none) := rfl
      rw [hst] at h
      cases hz : pzero P t with
      | none => rw [hz] at h; cases h
      | some p0 =>
        rw [hz] at h
        simp only at h
        by_cases hp : p0.cells.all PD.plain = true
        · rw [if_pos hp] at h
          simp only at h
          obtain ⟨hs, tr, e1, e2⟩ := pdraw_sure hU (n := n) ms hsh hno hsu l (i + 1) _ _ x hd' h
          refine ⟨.box p0 :: hs, ⟨fr, σ ++ .box p0 :: hs, .ptr σ.length 0, pfoot fr o.op⟩ :: tr, ?_, ?_⟩
          · unfold phoist
            rw [ht]
            simp only [hz, e1, hp, if_true]
          · simp only [pdrawOps, hw, if_true, hal]
            have hA : shapeA o.op = false := by rw [ht]; rfl
            have hp' : pdop P (pcall P E n) fl (noLoose ops.toList ms i) σ.length fr (σ ++ .box p0 :: hs) o.op = some (.ptr σ.length 0, σ ++ .box p0 :: hs) := by
              unfold pdop
              rw [hA, hal]
              simp
            rw [hp']
            simp only
            rw [List.length_append, List.length_singleton, List.append_assoc, List.singleton_append] at e2
            rw [e2]
        · rw [if_neg hp] at h; cases h
    · simp only [Bool.not_eq_true] at hal
      have hho : ∀ hs, phoist P l = some hs → phoist P (o :: l) = some hs := fun hs e => by
        unfold phoist
        split
        · rename_i t ht; rw [ht] at hal; cases hal
        · exact e
      by_cases hw : Region.wanted o (pyield ops fr) = true
      · rw [if_pos hw] at h
        cases hp : pstep P (pcallP E) fl fr σ o.op with
        | none => rw [hp] at h; cases h
        | some q =>
          obtain ⟨p, σ1⟩ := q
          rw [hp] at h
          simp only at h
          obtain ⟨hs, tr, e1, e2⟩ := pdraw_sure hU (n := n) ms hsh hno hsu l (i + 1) _ _ x hd' h
          have key : pdop P (pcall P E n) fl (noLoose ops.toList ms i) σ.length fr (σ ++ hs) o.op = some (p, σ1 ++ hs) ∧ σ1.length = σ.length := by
            have hpd := pdop_pstep (P := P) (call := pcall P E n) (fl := fl) (k := σ.length) (free := noLoose ops.toList ms i) (fr := fr) (σ := σ ++ hs) hshape hal
            rw [hpd]
            by_cases hm : shapeMove o.op = true
            · obtain ⟨_, e3⟩ := pstep_pure2 (P := P) hU (fl' := fl) (σ2 := σ ++ hs) hown hm hp
              simp only at e3
              subst e3
              have e4 := fun f => pstep_up (n := n) (pstep_pure2 (P := P) hU (fl' := f) (σ2 := σ1 ++ hs) hown hm hp).1
              simp only at e4
              cases (!shapeMove o.op || noLoose ops.toList ms i) with
              | true => exact ⟨e4 fl, rfl⟩
              | false =>
                simp only
                rw [e4]
                simp
            · simp only [Bool.not_eq_true] at hm
              have hm2 := hm
              rw [hm]
              simp only [Bool.not_false, Bool.true_or]
              rw [pstep_nocall (call' := pcallP E) hm]
              unfold pstep pop at hp ⊢
              have hcal : pcallee fr o.op = none := by
                cases hop : o.op with
                | call c =>
                  obtain ⟨callee, args, ts⟩ := c
                  rw [hop] at hm2
                  cases callee with
                  | value f => simp [shapeMove] at hm2
                  | invoke r m => rfl
                  | builtin b => rfl
                | _ => rfl
              rw [hcal] at hp ⊢
              simp only at hp ⊢
              cases hv : pval P fr o.op with
              | some q =>
                rw [hv] at hp
                simp only [Option.some.injEq, Prod.mk.injEq] at hp ⊢
                obtain ⟨rfl, rfl⟩ := hp
                exact ⟨⟨rfl, rfl⟩, rfl⟩
              | none =>
                rw [hv] at hp
                simp only at hp ⊢
                have hsh2 : shapeLoad o.op = true ∨ shapeSlice o.op = true ∨ shapeStore o.op = true ∨ shapeA o.op = true := by
                  simp only [hal, shapeW, hm2, Bool.or_false, Bool.or_eq_true] at hshape
                  rcases hshape with ((h | h) | h) | h
                  · exact .inr (.inr (.inr h))
                  · exact .inl h
                  · exact .inr (.inl h)
                  · exact .inr (.inr (.inl h))
                rcases hsh2 with hl | hl | hl | hl
                · cases hop : o.op with
                  | load t y =>
                    rw [hop] at hp
                    simp only [pmem] at hp ⊢
                    cases he : peval fr y with
                    | none => rw [he] at hp; cases hp
                    | some a =>
                      rw [he] at hp
                      simp only at hp ⊢
                      cases hlo : pload P σ t a with
                      | none => rw [hlo] at hp; cases hp
                      | some q =>
                        rw [hlo] at hp
                        rw [pload_more hs hlo]
                        simp only [Option.some.injEq, Prod.mk.injEq] at hp ⊢
                        obtain ⟨rfl, rfl⟩ := hp
                        exact ⟨⟨rfl, rfl⟩, rfl⟩
                  | _ => rw [hop] at hl; simp [shapeLoad] at hl
                · cases hop : o.op with
                  | buildSlice t len parts =>
                    rw [hop] at hp
                    simp only [pmem] at hp ⊢
                    cases hps : pevalParts fr parts.toList with
                    | none => rw [hps] at hp; cases hp
                    | some ps =>
                      rw [hps] at hp
                      simp only at hp ⊢
                      cases hq : pnewSlice P t len (List.map (fun q => (q.fst, q.snd.strip)) ps) with
                      | none => rw [hq] at hp; cases hp
                      | some q =>
                        rw [hq] at hp
                        simp only [Option.some.injEq, Prod.mk.injEq] at hp ⊢
                        obtain ⟨rfl, rfl⟩ := hp
                        exact ⟨⟨rfl, rfl⟩, rfl⟩
                  | _ => rw [hop] at hl; simp [shapeSlice] at hl
                · cases hop : o.op with
                  | store t y z =>
                    rw [hop] at hp
                    simp only [pmem] at hp ⊢
                    cases he : peval fr y with
                    | none => rw [he] at hp; cases hp
                    | some a =>
                      cases hez : peval fr z with
                      | none => rw [he, hez] at hp; cases hp
                      | some b =>
                        rw [he, hez] at hp
                        simp only at hp ⊢
                        cases hst : pstore P fl σ t a b with
                        | none => rw [hst] at hp; cases hp
                        | some q =>
                          rw [hst] at hp
                          rw [pstore_more hs hst]
                          simp only [Option.some.injEq, Prod.mk.injEq] at hp ⊢
                          obtain ⟨rfl, rfl⟩ := hp
                          refine ⟨⟨rfl, rfl⟩, ?_⟩
                          unfold pstore at hst
                          split at hst
                          · split at hst
                            · split at hst
                              · split at hst
                                · split at hst
                                  · simp only [Option.some.injEq] at hst; subst hst; simp
                                  · cases hst
                                · cases hst
                              · cases hst
                            · cases hst
                          · cases hst
                  | _ => rw [hop] at hl; simp [shapeStore] at hl
                · rw [shapeA_pmem hl] at hp; cases hp
          refine ⟨hs, ⟨fr, σ ++ hs, p, pfoot fr o.op⟩ :: tr, hho hs e1, ?_⟩
          simp only [pdrawOps, hw, if_true, hal, Bool.false_eq_true, if_false]
          rw [key.1]
          simp only
          rw [key.2] at e2
          rw [e2]
      · simp only [Bool.not_eq_true] at hw
        rw [hw] at h
        simp only [Bool.false_eq_true, if_false] at h
        obtain ⟨hs, tr, e1, e2⟩ := pdraw_sure hU (n := n) ms hsh hno hsu l (i + 1) _ _ x hd' h
        refine ⟨hs, ⟨fr, σ ++ hs, .tup [], none⟩ :: tr, hho hs e1, ?_⟩
        simp only [pdrawOps, hw, Bool.false_eq_true, if_false, hal]
        rw [e2]

theorem pdraw_alloc (hU : Uni E) {n : Nat} {ops : Array Oper} {x : List PD × List SObj} (hs : (fastA ops && noOwn ops && allocSure ops) = true) (h : pseq P (pcallP E) fl ops ops.toList fr σ = some x) : pdraw P (pcall P E n) fl ops fr σ = some x := by
  simp only [Bool.and_eq_true, fastA] at hs
  obtain ⟨⟨h1, h2⟩, h3⟩ := hs
  rw [masksK_eq] at h1
  simp only [Bool.and_eq_true] at h1
  obtain ⟨hreg, hfeet⟩ := h1
  have hr := regOk_spec hreg
  obtain ⟨hs, tr, e1, e2⟩ := pdraw_sure (n := n) hU (masks ops.toList []) (fun i o ho => hr.shape i o ho) h2 h3 ops.toList 0 fr σ x (by simp) h
  unfold pdraw
  simp only [hreg, if_true, e1, e2]
  have hfo : footsOk ops.toList (masks ops.toList []) tr = true := by
    simp only [footsOk, List.all_eq_true, List.mem_range]
    simp only [List.all_eq_true, List.mem_range] at hfeet
    intro k hk
    have h1 := hfeet k (by simpa using hk)
    cases hs : isAt shapeStore ops.toList k with
    | false => simp
    | true =>
      rw [hs] at h1
      simp only [Bool.not_true, Bool.false_or, List.all_eq_true, List.mem_range] at h1 ⊢
      intro i hi
      have h2 := h1 i (by simpa using hi)
      rw [h2]
      simp
  rw [if_pos hfo]

theorem WL.drawA1 {rd : Option Nat} {ms : List Nat} {Q : PO → Prop} {ops : Array Oper} {id : Nat} (hU : Uni E) (_hd : noDyn ops = true) (hs : (fastA ops && noOwn ops && allocSure ops) = true) (h : SQ P (pcallP E) fl ops ops.toList fr σ (fun fr' σ' => Q ⟨.normal, fr', ms, σ'⟩)) :
    Wp P E rd (.region id ops true) fl fr ms σ Q := by
  obtain ⟨fr', σ', h1, h2⟩ := h.ex
  exact ⟨_, .draw (N := 0) (fun n _ => pdraw_alloc hU hs h1), h2⟩
theorem WL.drawA {rd : Option Nat} {ms : List Nat} {Q : PO → Prop} {ops : Array Oper} {id : Nat} {y : Code} (hU : Uni E) (_hd : noDyn ops = true) (hs : (fastA ops && noOwn ops && allocSure ops) = true) (h : SQ P (pcallP E) fl ops ops.toList fr σ (fun fr' σ' => Wp P E rd y fl fr' ms σ' Q)) :
    Wp P E rd (.seq (.region id ops true) y) fl fr ms σ Q := by
  obtain ⟨fr', σ', h1, h2⟩ := h.ex
  exact .seq ⟨_, .draw (N := 0) (fun n _ => pdraw_alloc hU hs h1), .normal h2⟩
end
end Go.Kz

/-
  SpanGrows, out of the walks: the run answers true.
-/
namespace Go.Kz
open Go Go.Proofs

variable {E : PExt} (hU : Uni E)
include hU
set_option maxRecDepth 10000
set_option maxHeartbeats 4000000

theorem r_SpanGrows (h0 : E 8 = none) (hk : E 12 = some (entry (gf0 .bool (some true)))) (hc : E 13 = some (entry (gf1 .player i64 fun p => some (errOf p))))
    (h1 : E 19 = some (entry (gf1 .plan3 .notes fun x => gif (fitsP x) (some (makeTo x 16)))))
    (h2 : E 26 = some (entry (gf1 .notes (i64.tup2 .bool) fun s => some (leastN s))))
    (h3 : E 27 = some (entry (gf1 .notes (i64.tup2 .bool) fun s => some (greatestN s))))
    (h4 : E 17 = some (entry (gf2 .player .notes (Em.notes.tup4 .notes .bool i64) fun p s => some (twoF p s))))
    (h5 : E 28 = some (entry (gf1 i64s (Em.notes.tup2 i64) fun l => gif ((l.length : Int) < 1000000) (some (ofF l)))))
    (h6 : E 29 = some (entry (gf2 .notes .notes .notes fun a b => some ⟨a.low &&& ~~~b.low, a.high &&& ~~~b.high⟩)))
    (h7 : E 30 = some (entry (gf2 .notes i64 .notes fun s n => gif (n = 1) (some (upN s)))))
    (p : Player) (x : Plan3) (hx : fitsP x) :
    Run Tryd.prog E 8 [Em.player.emb p, Em.plan3.emb x] (.bool true) := by
  apply Run.bodyL h0 Tryd.func8 rfl
  focus (simp [show Tryd.f8.ntmps = _ from rfl, List.replicate]; rfl)
  obtain ⟨s, hs⟩ : ∃ s, makeTo x 16 = s := ⟨_, rfl⟩
  by_cases h : errOf p = 0
  · by_cases g1 : p.hn = 10
    · have h' : errOf ⟨10, p.hs, p.fn, p.fs⟩ = 0 := by rw [← g1]; exact h
      repeat (first
        | (refine Fr.i ?_; simp only [pput, List.set_cons_zero, List.set_cons_succ]; try rfl)
        | (refine By.i ?_; simp (disch := first | omega | (simp; done) | (simp; omega)) [wrap_i64, wrap_u64, h, h', hk, hc, g1, entry, gf0, gf1]; first | done | rfl | exact ⟨rfl, rfl⟩)
        | (refine Wt.i ?_; first | rfl | (simp [h, h', hk, hc, g1, entry, gf0, gf1]; done))
        | (refine Ns.i ?_; (try simp only [List.append_nil, List.nil_append, List.cons_append, List.append_assoc, List.length_append, List.length_cons, List.length_nil, Nat.zero_add, Nat.reduceAdd]); rfl) | rfl
        | (apply SL.pass; (focus (refine Wt.i ?_; rfl))) | apply SL.move | apply SL.assign | apply SL.load | apply SL.binOp | apply SL.append | apply SL.builtin | apply SL.fieldAddr | apply SL.indexAddr | apply SL.field | apply SL.extract
        | apply SL.fcall | apply SL.pick | apply SL.store | apply SL.unOp | apply SL.convert | apply SL.index | apply SL.slice | apply SL.build | apply SL.nilCheck | apply SL.buildSlice | apply SL.box | apply SL.alloc | apply SL.makeFunc
        | apply SQ.nil | (apply WL.reg; (focus decide +kernel)) | (apply WL.drawP (by assumption); (focus decide +kernel); (focus decide +kernel)) | (apply WL.drawF; (focus decide +kernel); (focus decide +kernel))
        | (apply WL.reg1; (focus decide +kernel)) | (apply WL.drawP1 (by assumption); (focus decide +kernel); (focus decide +kernel)) | (apply WL.drawF1; (focus decide +kernel); (focus decide +kernel))
        | (apply WL.drawA (by assumption); (focus decide +kernel); (focus decide +kernel)) | (apply WL.drawA1 (by assumption); (focus decide +kernel); (focus decide +kernel)) | apply WL.skip | (apply WL.ct; (focus rfl))
        | (apply WL.cf; (focus rfl)) | refine SeqQ.normal ?_ | refine SeqQ.ret ?_ | refine SeqQ.exit ?_ | refine BlockQ.normal ?_ | refine BlockQ.ret ?_ | refine BlockQ.here ?_ | refine BlockQ.there (by decide) ?_ | refine Wp.block ?_
        | refine Wp.skip ?_ | refine Wp.ret ?_ | refine Wp.exit ?_ | refine LoopI.ret ?_ | refine LoopI.exit ?_ | refine LoopQ.normal ?_ | refine LoopQ.ret ?_ | refine LoopQ.exit ?_ | refine Wp.seq (Wp.seq ?_) | refine Wp.seq (Wp.block ?_)
        | (refine Wp.seq ?_; apply WL.ct; (focus rfl)) | (refine Wp.seq ?_; apply WL.cf; (focus rfl)))
      simp (disch := first | omega | (simp; done) | (simp; omega)) [decide_eq_decide] <;> try rfl
    · by_cases g2 : p.hs = 127
      · have h' : errOf ⟨p.hn, 127, p.fn, p.fs⟩ = 0 := by rw [← g2]; exact h
        repeat (first
          | (refine Fr.i ?_; simp only [pput, List.set_cons_zero, List.set_cons_succ]; try rfl)
          | (refine By.i ?_; simp (disch := first | omega | (simp; done) | (simp; omega)) [wrap_i64, wrap_u64, h, h', hk, hc, g1, g2, entry, gf0, gf1]; first | done | rfl | exact ⟨rfl, rfl⟩)
          | (refine Wt.i ?_; first | rfl | (simp [h, h', hk, hc, g1, g2, entry, gf0, gf1]; done))
          | (refine Ns.i ?_; (try simp only [List.append_nil, List.nil_append, List.cons_append, List.append_assoc, List.length_append, List.length_cons, List.length_nil, Nat.zero_add, Nat.reduceAdd]); rfl) | rfl
          | (apply SL.pass; (focus (refine Wt.i ?_; rfl))) | apply SL.move | apply SL.assign | apply SL.load | apply SL.binOp | apply SL.append | apply SL.builtin | apply SL.fieldAddr | apply SL.indexAddr | apply SL.field | apply SL.extract
          | apply SL.fcall | apply SL.pick | apply SL.store | apply SL.unOp | apply SL.convert | apply SL.index | apply SL.slice | apply SL.build | apply SL.nilCheck | apply SL.buildSlice | apply SL.box | apply SL.alloc | apply SL.makeFunc
          | apply SQ.nil | (apply WL.reg; (focus decide +kernel)) | (apply WL.drawP (by assumption); (focus decide +kernel); (focus decide +kernel)) | (apply WL.drawF; (focus decide +kernel); (focus decide +kernel))
          | (apply WL.reg1; (focus decide +kernel)) | (apply WL.drawP1 (by assumption); (focus decide +kernel); (focus decide +kernel)) | (apply WL.drawF1; (focus decide +kernel); (focus decide +kernel))
          | (apply WL.drawA (by assumption); (focus decide +kernel); (focus decide +kernel)) | (apply WL.drawA1 (by assumption); (focus decide +kernel); (focus decide +kernel)) | apply WL.skip | (apply WL.ct; (focus rfl))
          | (apply WL.cf; (focus rfl)) | refine SeqQ.normal ?_ | refine SeqQ.ret ?_ | refine SeqQ.exit ?_ | refine BlockQ.normal ?_ | refine BlockQ.ret ?_ | refine BlockQ.here ?_ | refine BlockQ.there (by decide) ?_ | refine Wp.block ?_
          | refine Wp.skip ?_ | refine Wp.ret ?_ | refine Wp.exit ?_ | refine LoopI.ret ?_ | refine LoopI.exit ?_ | refine LoopQ.normal ?_ | refine LoopQ.ret ?_ | refine LoopQ.exit ?_ | refine Wp.seq (Wp.seq ?_) | refine Wp.seq (Wp.block ?_)
          | (refine Wp.seq ?_; apply WL.ct; (focus rfl)) | (refine Wp.seq ?_; apply WL.cf; (focus rfl)))
        simp (disch := first | omega | (simp; done) | (simp; omega)) [decide_eq_decide] <;> try rfl
      · by_cases hne : s.list = []
        · have hL : leastN s = (0, false) := by simp [leastN, hne]
          have hG : greatestN s = (0, false) := by simp [greatestN, hne]
          repeat (first
            | (refine Fr.i ?_; simp only [pput, List.set_cons_zero, List.set_cons_succ]; try rfl)
            | (refine By.i ?_; simp (disch := first | omega | (simp; done) | (simp; omega)) [wrap_i64, wrap_u64, h, hk, hc, g1, g2, h1, hx, hs, h2, h3, hL, hG, entry, gf0, gf1]; first | done | rfl | exact ⟨rfl, rfl⟩)
            | (refine Wt.i ?_; first | rfl | (simp [h, hk, hc, g1, g2, h1, hx, hs, h2, h3, hL, hG, entry, gf0, gf1]; done))
            | (refine Ns.i ?_; (try simp only [List.append_nil, List.nil_append, List.cons_append, List.append_assoc, List.length_append, List.length_cons, List.length_nil, Nat.zero_add, Nat.reduceAdd]); rfl) | rfl
            | (apply SL.pass; (focus (refine Wt.i ?_; rfl))) | apply SL.move | apply SL.assign | apply SL.load | apply SL.binOp | apply SL.append | apply SL.builtin | apply SL.fieldAddr | apply SL.indexAddr | apply SL.field | apply SL.extract
            | apply SL.fcall | apply SL.pick | apply SL.store | apply SL.unOp | apply SL.convert | apply SL.index | apply SL.slice | apply SL.build | apply SL.nilCheck | apply SL.buildSlice | apply SL.box | apply SL.alloc | apply SL.makeFunc
            | apply SQ.nil | (apply WL.reg; (focus decide +kernel)) | (apply WL.drawP (by assumption); (focus decide +kernel); (focus decide +kernel)) | (apply WL.drawF; (focus decide +kernel); (focus decide +kernel))
            | (apply WL.reg1; (focus decide +kernel)) | (apply WL.drawP1 (by assumption); (focus decide +kernel); (focus decide +kernel)) | (apply WL.drawF1; (focus decide +kernel); (focus decide +kernel))
            | (apply WL.drawA (by assumption); (focus decide +kernel); (focus decide +kernel)) | (apply WL.drawA1 (by assumption); (focus decide +kernel); (focus decide +kernel)) | apply WL.skip | (apply WL.ct; (focus rfl))
            | (apply WL.cf; (focus rfl)) | refine SeqQ.normal ?_ | refine SeqQ.ret ?_ | refine SeqQ.exit ?_ | refine BlockQ.normal ?_ | refine BlockQ.ret ?_ | refine BlockQ.here ?_ | refine BlockQ.there (by decide) ?_ | refine Wp.block ?_
            | refine Wp.skip ?_ | refine Wp.ret ?_ | refine Wp.exit ?_ | refine LoopI.ret ?_ | refine LoopI.exit ?_ | refine LoopQ.normal ?_ | refine LoopQ.ret ?_ | refine LoopQ.exit ?_ | refine Wp.seq (Wp.seq ?_) | refine Wp.seq (Wp.block ?_)
            | (refine Wp.seq ?_; apply WL.ct; (focus rfl)) | (refine Wp.seq ?_; apply WL.cf; (focus rfl)))
          simp (disch := first | omega | (simp; done) | (simp; omega)) [decide_eq_decide] <;> try rfl
        · obtain ⟨lo, hi, hL, hG, hlo, hhi, hlo1, hhi1⟩ : ∃ lo hi, leastN s = (lo, true) ∧ greatestN s = (hi, true) ∧ lo ∈ s.list ∧ hi ∈ s.list ∧ (∀ n ∈ s.list, lo ≤ n) ∧ (∀ n ∈ s.list, n ≤ hi) :=
            ⟨_, _, by simp [leastN, hne], by simp [greatestN, hne], head_mem hne, last_mem hne, fun n hn => head_le (list_sorted s) hn, fun n hn => le_last (list_sorted s) hn⟩
          obtain ⟨a0, b0, f0, hT, hf0⟩ := two_form p s h
          have herr := err_bounds h
          obtain ⟨M, hM⟩ : ∃ q : Player, q = ⟨p.hn + 1, p.hs, p.fn, p.fs⟩ := ⟨_, rfl⟩
          obtain ⟨W, hW⟩ : ∃ q : Player, q = ⟨p.hn, p.hs + 1, p.fn, p.fs⟩ := ⟨_, rfl⟩
          have hMe : errOf M = 0 := by rw [hM]; unfold errOf; rw [if_neg]; simp only; omega
          have hWe : errOf W = 0 := by rw [hW]; unfold errOf; rw [if_neg]; simp only; omega
          repeat (first
            | (refine Fr.i ?_; simp only [pput, List.set_cons_zero, List.set_cons_succ]; try rfl)
            | (refine By.i ?_; simp (disch := first | omega | (simp; done) | (simp; omega)) [wrap_i64, wrap_u64, h, hk, hc, g1, g2, h1, hx, hs, h2, h3, hL, hG, h4, hT, entry, gf0, gf1, gf2]; first | done | rfl | exact ⟨rfl, rfl⟩)
            | (refine Wt.i ?_; first | rfl | (simp [h, hk, hc, g1, g2, h1, hx, hs, h2, h3, hL, hG, h4, hT, entry, gf0, gf1, gf2]; done))
            | (refine Ns.i ?_; (try simp only [List.append_nil, List.nil_append, List.cons_append, List.append_assoc, List.length_append, List.length_cons, List.length_nil, Nat.zero_add, Nat.reduceAdd]); rfl) | rfl
            | (apply SL.pass; (focus (refine Wt.i ?_; rfl))) | apply SL.move | apply SL.assign | apply SL.load | apply SL.binOp | apply SL.append | apply SL.builtin | apply SL.fieldAddr | apply SL.indexAddr | apply SL.field | apply SL.extract
            | apply SL.fcall | apply SL.pick | apply SL.store | apply SL.unOp | apply SL.convert | apply SL.index | apply SL.slice | apply SL.build | apply SL.nilCheck | apply SL.buildSlice | apply SL.box | apply SL.alloc | apply SL.makeFunc
            | apply SQ.nil | (apply WL.reg; (focus decide +kernel)) | (apply WL.drawP (by assumption); (focus decide +kernel); (focus decide +kernel)) | (apply WL.drawF; (focus decide +kernel); (focus decide +kernel))
            | (apply WL.reg1; (focus decide +kernel)) | (apply WL.drawP1 (by assumption); (focus decide +kernel); (focus decide +kernel)) | (apply WL.drawF1; (focus decide +kernel); (focus decide +kernel))
            | (apply WL.drawA (by assumption); (focus decide +kernel); (focus decide +kernel)) | (apply WL.drawA1 (by assumption); (focus decide +kernel); (focus decide +kernel)) | apply WL.skip | (apply WL.ct; (focus rfl))
            | (apply WL.cf; (focus rfl)) | refine SeqQ.normal ?_ | refine SeqQ.ret ?_ | refine SeqQ.exit ?_ | refine BlockQ.normal ?_ | refine BlockQ.ret ?_ | refine BlockQ.here ?_ | refine BlockQ.there (by decide) ?_ | refine Wp.block ?_
            | refine Wp.skip ?_ | refine Wp.ret ?_ | refine Wp.exit ?_ | refine LoopI.ret ?_ | refine LoopI.exit ?_ | refine LoopQ.normal ?_ | refine LoopQ.ret ?_ | refine LoopQ.exit ?_ | refine Wp.seq (Wp.seq ?_) | refine Wp.seq (Wp.block ?_)
            | (refine Wp.seq ?_; apply WL.ct; (focus rfl)) | (refine Wp.seq ?_; apply WL.cf; (focus rfl)))
          refine Wp.seq (Wp.drawU [(76, Em.player.emb p), (77, Em.player.emb p), (14, .ptr 5 0), (15, .ptr 6 0)] [.box (Em.player.emb p), .box (Em.plan3.emb x), .box (Em.notes.emb s), .box (Em.notes.emb a0), .box (Em.notes.emb b0), .box (Em.player.emb p), .box (Em.player.emb p)] (fun n => by kernel_rfl) (SeqQ.normal ?_))
          simp only [List.foldl_cons, List.foldl_nil, List.set_cons_zero, List.set_cons_succ]
          obtain ⟨e1, e2, e3, e4, e5, e6, e7, e8⟩ := herr
          have w1 : IntKind.i64.wrap (p.hn + 1) = p.hn + 1 := wrap_i64 (by omega) (by omega)
          have w2 : IntKind.i64.wrap (p.hs + 1) = p.hs + 1 := wrap_i64 (by omega) (by omega)
          repeat (first
            | (refine Fr.i ?_; simp only [pput, List.set_cons_zero, List.set_cons_succ]; try rfl)
            | (refine By.i ?_; simp (disch := first | omega | (simp; done) | (simp; omega)) [wrap_i64, wrap_u64, w1, w2]; first | done | rfl | exact ⟨rfl, rfl⟩) | (refine Wt.i ?_; first | rfl | (simp [w1, w2]; done))
            | (refine Ns.i ?_; (try simp only [List.append_nil, List.nil_append, List.cons_append, List.append_assoc, List.length_append, List.length_cons, List.length_nil, Nat.zero_add, Nat.reduceAdd]); rfl) | rfl
            | (apply SL.pass; (focus (refine Wt.i ?_; rfl))) | apply SL.move | apply SL.assign | apply SL.load | apply SL.binOp | apply SL.append | apply SL.builtin | apply SL.fieldAddr | apply SL.indexAddr | apply SL.field | apply SL.extract
            | apply SL.fcall | apply SL.pick | apply SL.store | apply SL.unOp | apply SL.convert | apply SL.index | apply SL.slice | apply SL.build | apply SL.nilCheck | apply SL.buildSlice | apply SL.box | apply SL.alloc | apply SL.makeFunc
            | apply SQ.nil | (apply WL.reg; (focus decide +kernel)) | (apply WL.drawP (by assumption); (focus decide +kernel); (focus decide +kernel)) | (apply WL.drawF; (focus decide +kernel); (focus decide +kernel))
            | (apply WL.reg1; (focus decide +kernel)) | (apply WL.drawP1 (by assumption); (focus decide +kernel); (focus decide +kernel)) | (apply WL.drawF1; (focus decide +kernel); (focus decide +kernel))
            | (apply WL.drawA (by assumption); (focus decide +kernel); (focus decide +kernel)) | (apply WL.drawA1 (by assumption); (focus decide +kernel); (focus decide +kernel)) | apply WL.skip | (apply WL.ct; (focus rfl))
            | (apply WL.cf; (focus rfl)) | refine SeqQ.normal ?_ | refine SeqQ.ret ?_ | refine SeqQ.exit ?_ | refine BlockQ.normal ?_ | refine BlockQ.ret ?_ | refine BlockQ.here ?_ | refine BlockQ.there (by decide) ?_ | refine Wp.block ?_
            | refine Wp.skip ?_ | refine Wp.ret ?_ | refine Wp.exit ?_ | refine LoopI.ret ?_ | refine LoopI.exit ?_ | refine LoopQ.normal ?_ | refine LoopQ.ret ?_ | refine LoopQ.exit ?_ | refine Wp.seq (Wp.seq ?_) | refine Wp.seq (Wp.block ?_)
            | (refine Wp.seq ?_; apply WL.ct; (focus rfl)) | (refine Wp.seq ?_; apply WL.cf; (focus rfl)))
          have hr1 := list_range hlo
          have hr2 := list_range hhi
          have ho1 : ofF [lo] = (oneN lo, 0) := by unfold ofF oneN; rw [if_pos (by simp [allNotes, rightIn]; omega)]
          have ho2 : ofF [hi] = (oneN hi, 0) := by unfold ofF oneN; rw [if_pos (by simp [allNotes, rightIn]; omega)]
          obtain ⟨a1, b1, f1, hT1, hf1⟩ := two_form p (withoutN s (oneN lo)) h
          obtain ⟨a2, b2, f2, hT2, hf2⟩ := two_form p (withoutN s (oneN hi)) h
          obtain ⟨a3, b3, f3, hT3, hf3⟩ := two_form M s hMe
          obtain ⟨a4, b4, f4, hT4, hf4⟩ := two_form W s hWe
          obtain ⟨a5, b5, f5, hT5, hf5⟩ := two_form p (upN s) h
          have k1 : f0 = true → f1 = true := fun h' => by
            rw [hf0, decide_eq_true_eq] at h'
            rw [hf1, decide_eq_true_eq]
            exact divs1_filter p s _ _ h (without_one_list s hr1) h'
          have k2 : f0 = true → f2 = true := fun h' => by
            rw [hf0, decide_eq_true_eq] at h'
            rw [hf2, decide_eq_true_eq]
            exact divs1_filter p s _ _ h (without_one_list s hr2) h'
          have k3 : f0 = true → f3 = true := fun h' => by
            rw [hf0, decide_eq_true_eq] at h'
            rw [hf3, decide_eq_true_eq]
            exact divs1_more p M _ (by rw [hM]; simp only; omega) (by rw [hM]; exact Int.le_refl _) h'
          have k4 : f0 = true → f4 = true := fun h' => by
            rw [hf0, decide_eq_true_eq] at h'
            rw [hf4, decide_eq_true_eq]
            exact divs1_more p W _ (by rw [hW]; exact Int.le_refl _) (by rw [hW]; simp only; omega) h'
          have k5 : hi ≠ 127 → f5 = f0 := fun h' => by
            rw [hf5, hf0, upN_list (fun n hn => by have := hhi1 n hn; omega), divs1_shift]
          have len1 : ∀ q : Int, ([q].length : Int) < 1000000 := fun q => by simp
          unfold withoutN at hT1 hT2
          clear hf0 hf1 hf2 hf3 hf4 hf5
          refine Wp.loopI (fun m fr σ => ∃ (i : Nat) (y : Bool) (J : List SObj), ∃ gg : Nat → PD, (i + m = 2 ∧ (f0 = true → y = true)) ∧ fr = Em.player.emb p :: Em.plan3.emb x :: .ptr 0 0 :: .ptr 1 0 :: .bool false :: .ptr 2 0 :: .int .i64 lo :: .bool true :: .int .i64 hi :: .bool true :: .ptr 3 0 :: .ptr 4 0 :: .bool f0 :: .int .i64 0 :: .ptr 5 0 :: .ptr 6 0 :: .bool y :: gg 17 :: gg 18 :: gg 19 :: gg 20 :: gg 21 :: gg 22 :: gg 23 :: gg 24 :: gg 25 :: gg 26 :: gg 27 :: gg 28 :: gg 29 :: gg 30 :: gg 31 :: gg 32 :: gg 33 :: gg 34 :: gg 35 :: gg 36 :: gg 37 :: gg 38 :: gg 39 :: gg 40 :: gg 41 :: gg 42 :: gg 43 :: gg 44 :: gg 45 :: gg 46 :: gg 47 :: gg 48 :: gg 49 :: gg 50 :: gg 51 :: gg 52 :: gg 53 :: gg 54 :: gg 55 :: gg 56 :: gg 57 :: gg 58 :: gg 59 :: gg 60 :: gg 61 :: gg 62 :: gg 63 :: gg 64 :: gg 65 :: gg 66 :: gg 67 :: gg 68 :: gg 69 :: gg 70 :: gg 71 :: gg 72 :: gg 73 :: gg 74 :: gg 75 :: gg 76 :: gg 77 :: gg 78 :: gg 79 :: gg 80 :: gg 81 :: gg 82 :: gg 83 :: gg 84 :: gg 85 :: gg 86 :: gg 87 :: .slice 1 [.int .i64 lo, .int .i64 hi] .full :: .int .i64 2 :: .int .i64 i :: gg 91 :: gg 92 :: gg 93 :: gg 94 :: gg 95 :: gg 96 :: gg 97 :: gg 98 :: gg 99 :: gg 100 :: gg 101 :: gg 102 :: gg 103 :: gg 104 :: gg 105 :: gg 106 :: gg 107 :: gg 108 :: gg 109 :: gg 110 :: gg 111 :: gg 112 :: gg 113 :: gg 114 :: gg 115 :: gg 116 :: gg 117 :: gg 118 :: gg 119 :: gg 120 :: gg 121 :: gg 122 :: gg 123 :: gg 124 :: gg 125 :: gg 126 :: gg 127 :: gg 128 :: gg 129 :: gg 130 :: gg 131 :: gg 132 :: gg 133 :: gg 134 :: gg 135 :: gg 136 :: gg 137 :: gg 138 :: gg 139 :: gg 140 :: gg 141 :: gg 142 :: gg 143 :: gg 144 :: gg 145 :: gg 146 :: gg 147 :: gg 148 :: gg 149 :: gg 150 :: gg 151 :: gg 152 :: gg 153 :: gg 154 :: gg 155 :: gg 156 :: gg 157 :: gg 158 :: gg 159 :: gg 160 :: gg 161 :: gg 162 :: gg 163 :: gg 164 :: gg 165 :: gg 166 :: gg 167 :: gg 168 :: gg 169 :: gg 170 :: gg 171 :: gg 172 :: gg 173 :: gg 174 :: gg 175 :: gg 176 :: gg 177 :: gg 178 :: gg 179 :: [] ∧ σ = .box (Em.player.emb p) :: .box (Em.plan3.emb x) :: .box (Em.notes.emb s) :: .box (Em.notes.emb a0) :: .box (Em.notes.emb b0) :: .box (Em.player.emb M) :: .box (Em.player.emb W) :: J) ?_ (2) (by refine ⟨0, true, [], ?_⟩; exact exF (⟨by omega, fun _ => rfl⟩) (by (first | rfl | (simp [hM, hW]; repeat (first | rfl | (apply And.intro))) | (simp [hM, hW]; done))) (by (first | rfl | (simp [hM, hW]; repeat (first | rfl | (apply And.intro))) | (simp [hM, hW]; done))))
          rintro m fr σ ⟨i, y, J, gg, hI, rfl, rfl⟩
          obtain ⟨hm, hy⟩ := hI
          rcases (show i = 0 ∨ i = 1 ∨ i = 2 by omega) with rfl | rfl | rfl
          · cases y <;> cases f1
            focus
              repeat (first
                | (refine Fr.i ?_; simp only [pput, List.set_cons_zero, List.set_cons_succ]; try rfl)
                | (refine By.i ?_; simp (disch := first | omega | (simp; done) | (simp; omega)) [wrap_i64, wrap_u64, h5, h6, h4, ho1, hT1, len1, entry, gf1, gf2]; first | done | rfl | exact ⟨rfl, rfl⟩)
                | (refine Wt.i ?_; first | rfl | (simp [h5, h6, h4, ho1, hT1, len1, entry, gf1, gf2]; done))
                | (refine Ns.i ?_; (try simp only [List.append_nil, List.nil_append, List.cons_append, List.append_assoc, List.length_append, List.length_cons, List.length_nil, Nat.zero_add, Nat.reduceAdd]); rfl) | rfl
                | (apply SL.pass; (focus (refine Wt.i ?_; rfl))) | apply SL.move | apply SL.assign | apply SL.load | apply SL.binOp | apply SL.append | apply SL.builtin | apply SL.fieldAddr | apply SL.indexAddr | apply SL.field
                | apply SL.extract | apply SL.fcall | apply SL.pick | apply SL.store | apply SL.unOp | apply SL.convert | apply SL.index | apply SL.slice | apply SL.build | apply SL.nilCheck | apply SL.buildSlice | apply SL.box
                | apply SL.alloc | apply SL.makeFunc | apply SQ.nil | (apply WL.reg; (focus decide +kernel)) | (apply WL.drawP (by assumption); (focus decide +kernel); (focus decide +kernel))
                | (apply WL.drawF; (focus decide +kernel); (focus decide +kernel)) | (apply WL.reg1; (focus decide +kernel)) | (apply WL.drawP1 (by assumption); (focus decide +kernel); (focus decide +kernel))
                | (apply WL.drawF1; (focus decide +kernel); (focus decide +kernel)) | (apply WL.drawA (by assumption); (focus decide +kernel); (focus decide +kernel))
                | (apply WL.drawA1 (by assumption); (focus decide +kernel); (focus decide +kernel)) | apply WL.skip | (apply WL.ct; (focus rfl)) | (apply WL.cf; (focus rfl)) | refine SeqQ.normal ?_ | refine SeqQ.ret ?_ | refine SeqQ.exit ?_
                | refine BlockQ.normal ?_ | refine BlockQ.ret ?_ | refine BlockQ.here ?_ | refine BlockQ.there (by decide) ?_ | refine Wp.block ?_ | refine Wp.skip ?_ | refine Wp.ret ?_ | refine Wp.exit ?_ | refine LoopI.ret ?_
                | refine LoopI.exit ?_ | refine LoopQ.normal ?_ | refine LoopQ.ret ?_ | refine LoopQ.exit ?_ | refine Wp.seq (Wp.seq ?_) | refine Wp.seq (Wp.block ?_) | (refine Wp.seq ?_; apply WL.ct; (focus rfl))
                | (refine Wp.seq ?_; apply WL.cf; (focus rfl)))
              refine LoopI.normal (m - 1) (by omega) ⟨1, false, _, exF (⟨by omega, fun h' => by have := hy h'; cases this⟩) (by (first | rfl | (simp []; repeat (first | rfl | (apply And.intro))) | (simp []; done))) (by (first | rfl | (simp []; repeat (first | rfl | (apply And.intro))) | (simp []; done)))⟩
            focus
              repeat (first
                | (refine Fr.i ?_; simp only [pput, List.set_cons_zero, List.set_cons_succ]; try rfl)
                | (refine By.i ?_; simp (disch := first | omega | (simp; done) | (simp; omega)) [wrap_i64, wrap_u64, h5, h6, h4, ho1, hT1, len1, entry, gf1, gf2]; first | done | rfl | exact ⟨rfl, rfl⟩)
                | (refine Wt.i ?_; first | rfl | (simp [h5, h6, h4, ho1, hT1, len1, entry, gf1, gf2]; done))
                | (refine Ns.i ?_; (try simp only [List.append_nil, List.nil_append, List.cons_append, List.append_assoc, List.length_append, List.length_cons, List.length_nil, Nat.zero_add, Nat.reduceAdd]); rfl) | rfl
                | (apply SL.pass; (focus (refine Wt.i ?_; rfl))) | apply SL.move | apply SL.assign | apply SL.load | apply SL.binOp | apply SL.append | apply SL.builtin | apply SL.fieldAddr | apply SL.indexAddr | apply SL.field
                | apply SL.extract | apply SL.fcall | apply SL.pick | apply SL.store | apply SL.unOp | apply SL.convert | apply SL.index | apply SL.slice | apply SL.build | apply SL.nilCheck | apply SL.buildSlice | apply SL.box
                | apply SL.alloc | apply SL.makeFunc | apply SQ.nil | (apply WL.reg; (focus decide +kernel)) | (apply WL.drawP (by assumption); (focus decide +kernel); (focus decide +kernel))
                | (apply WL.drawF; (focus decide +kernel); (focus decide +kernel)) | (apply WL.reg1; (focus decide +kernel)) | (apply WL.drawP1 (by assumption); (focus decide +kernel); (focus decide +kernel))
                | (apply WL.drawF1; (focus decide +kernel); (focus decide +kernel)) | (apply WL.drawA (by assumption); (focus decide +kernel); (focus decide +kernel))
                | (apply WL.drawA1 (by assumption); (focus decide +kernel); (focus decide +kernel)) | apply WL.skip | (apply WL.ct; (focus rfl)) | (apply WL.cf; (focus rfl)) | refine SeqQ.normal ?_ | refine SeqQ.ret ?_ | refine SeqQ.exit ?_
                | refine BlockQ.normal ?_ | refine BlockQ.ret ?_ | refine BlockQ.here ?_ | refine BlockQ.there (by decide) ?_ | refine Wp.block ?_ | refine Wp.skip ?_ | refine Wp.ret ?_ | refine Wp.exit ?_ | refine LoopI.ret ?_
                | refine LoopI.exit ?_ | refine LoopQ.normal ?_ | refine LoopQ.ret ?_ | refine LoopQ.exit ?_ | refine Wp.seq (Wp.seq ?_) | refine Wp.seq (Wp.block ?_) | (refine Wp.seq ?_; apply WL.ct; (focus rfl))
                | (refine Wp.seq ?_; apply WL.cf; (focus rfl)))
              refine LoopI.normal (m - 1) (by omega) ⟨1, false, _, exF (⟨by omega, fun h' => by have := hy h'; cases this⟩) (by (first | rfl | (simp []; repeat (first | rfl | (apply And.intro))) | (simp []; done))) (by (first | rfl | (simp []; repeat (first | rfl | (apply And.intro))) | (simp []; done)))⟩
            focus
              repeat (first
                | (refine Fr.i ?_; simp only [pput, List.set_cons_zero, List.set_cons_succ]; try rfl)
                | (refine By.i ?_; simp (disch := first | omega | (simp; done) | (simp; omega)) [wrap_i64, wrap_u64, h5, h6, h4, ho1, hT1, len1, entry, gf1, gf2]; first | done | rfl | exact ⟨rfl, rfl⟩)
                | (refine Wt.i ?_; first | rfl | (simp [h5, h6, h4, ho1, hT1, len1, entry, gf1, gf2]; done))
                | (refine Ns.i ?_; (try simp only [List.append_nil, List.nil_append, List.cons_append, List.append_assoc, List.length_append, List.length_cons, List.length_nil, Nat.zero_add, Nat.reduceAdd]); rfl) | rfl
                | (apply SL.pass; (focus (refine Wt.i ?_; rfl))) | apply SL.move | apply SL.assign | apply SL.load | apply SL.binOp | apply SL.append | apply SL.builtin | apply SL.fieldAddr | apply SL.indexAddr | apply SL.field
                | apply SL.extract | apply SL.fcall | apply SL.pick | apply SL.store | apply SL.unOp | apply SL.convert | apply SL.index | apply SL.slice | apply SL.build | apply SL.nilCheck | apply SL.buildSlice | apply SL.box
                | apply SL.alloc | apply SL.makeFunc | apply SQ.nil | (apply WL.reg; (focus decide +kernel)) | (apply WL.drawP (by assumption); (focus decide +kernel); (focus decide +kernel))
                | (apply WL.drawF; (focus decide +kernel); (focus decide +kernel)) | (apply WL.reg1; (focus decide +kernel)) | (apply WL.drawP1 (by assumption); (focus decide +kernel); (focus decide +kernel))
                | (apply WL.drawF1; (focus decide +kernel); (focus decide +kernel)) | (apply WL.drawA (by assumption); (focus decide +kernel); (focus decide +kernel))
                | (apply WL.drawA1 (by assumption); (focus decide +kernel); (focus decide +kernel)) | apply WL.skip | (apply WL.ct; (focus rfl)) | (apply WL.cf; (focus rfl)) | refine SeqQ.normal ?_ | refine SeqQ.ret ?_ | refine SeqQ.exit ?_
                | refine BlockQ.normal ?_ | refine BlockQ.ret ?_ | refine BlockQ.here ?_ | refine BlockQ.there (by decide) ?_ | refine Wp.block ?_ | refine Wp.skip ?_ | refine Wp.ret ?_ | refine Wp.exit ?_ | refine LoopI.ret ?_
                | refine LoopI.exit ?_ | refine LoopQ.normal ?_ | refine LoopQ.ret ?_ | refine LoopQ.exit ?_ | refine Wp.seq (Wp.seq ?_) | refine Wp.seq (Wp.block ?_) | (refine Wp.seq ?_; apply WL.ct; (focus rfl))
                | (refine Wp.seq ?_; apply WL.cf; (focus rfl)))
              refine LoopI.normal (m - 1) (by omega) ⟨1, false, _, exF (⟨by omega, fun h' => by have := k1 h'; cases this⟩) (by (first | rfl | (simp []; repeat (first | rfl | (apply And.intro))) | (simp []; done))) (by (first | rfl | (simp []; repeat (first | rfl | (apply And.intro))) | (simp []; done)))⟩
            focus
              repeat (first
                | (refine Fr.i ?_; simp only [pput, List.set_cons_zero, List.set_cons_succ]; try rfl)
                | (refine By.i ?_; simp (disch := first | omega | (simp; done) | (simp; omega)) [wrap_i64, wrap_u64, h5, h6, h4, ho1, hT1, len1, entry, gf1, gf2]; first | done | rfl | exact ⟨rfl, rfl⟩)
                | (refine Wt.i ?_; first | rfl | (simp [h5, h6, h4, ho1, hT1, len1, entry, gf1, gf2]; done))
                | (refine Ns.i ?_; (try simp only [List.append_nil, List.nil_append, List.cons_append, List.append_assoc, List.length_append, List.length_cons, List.length_nil, Nat.zero_add, Nat.reduceAdd]); rfl) | rfl
                | (apply SL.pass; (focus (refine Wt.i ?_; rfl))) | apply SL.move | apply SL.assign | apply SL.load | apply SL.binOp | apply SL.append | apply SL.builtin | apply SL.fieldAddr | apply SL.indexAddr | apply SL.field
                | apply SL.extract | apply SL.fcall | apply SL.pick | apply SL.store | apply SL.unOp | apply SL.convert | apply SL.index | apply SL.slice | apply SL.build | apply SL.nilCheck | apply SL.buildSlice | apply SL.box
                | apply SL.alloc | apply SL.makeFunc | apply SQ.nil | (apply WL.reg; (focus decide +kernel)) | (apply WL.drawP (by assumption); (focus decide +kernel); (focus decide +kernel))
                | (apply WL.drawF; (focus decide +kernel); (focus decide +kernel)) | (apply WL.reg1; (focus decide +kernel)) | (apply WL.drawP1 (by assumption); (focus decide +kernel); (focus decide +kernel))
                | (apply WL.drawF1; (focus decide +kernel); (focus decide +kernel)) | (apply WL.drawA (by assumption); (focus decide +kernel); (focus decide +kernel))
                | (apply WL.drawA1 (by assumption); (focus decide +kernel); (focus decide +kernel)) | apply WL.skip | (apply WL.ct; (focus rfl)) | (apply WL.cf; (focus rfl)) | refine SeqQ.normal ?_ | refine SeqQ.ret ?_ | refine SeqQ.exit ?_
                | refine BlockQ.normal ?_ | refine BlockQ.ret ?_ | refine BlockQ.here ?_ | refine BlockQ.there (by decide) ?_ | refine Wp.block ?_ | refine Wp.skip ?_ | refine Wp.ret ?_ | refine Wp.exit ?_ | refine LoopI.ret ?_
                | refine LoopI.exit ?_ | refine LoopQ.normal ?_ | refine LoopQ.ret ?_ | refine LoopQ.exit ?_ | refine Wp.seq (Wp.seq ?_) | refine Wp.seq (Wp.block ?_) | (refine Wp.seq ?_; apply WL.ct; (focus rfl))
                | (refine Wp.seq ?_; apply WL.cf; (focus rfl)))
              refine LoopI.normal (m - 1) (by omega) ⟨1, true, _, exF (⟨by omega, fun _ => rfl⟩) (by (first | rfl | (simp []; repeat (first | rfl | (apply And.intro))) | (simp []; done))) (by (first | rfl | (simp []; repeat (first | rfl | (apply And.intro))) | (simp []; done)))⟩
          · cases y <;> cases f2
            focus
              repeat (first
                | (refine Fr.i ?_; simp only [pput, List.set_cons_zero, List.set_cons_succ]; try rfl)
                | (refine By.i ?_; simp (disch := first | omega | (simp; done) | (simp; omega)) [wrap_i64, wrap_u64, h5, h6, h4, ho2, hT2, len1, entry, gf1, gf2]; first | done | rfl | exact ⟨rfl, rfl⟩)
                | (refine Wt.i ?_; first | rfl | (simp [h5, h6, h4, ho2, hT2, len1, entry, gf1, gf2]; done))
                | (refine Ns.i ?_; (try simp only [List.append_nil, List.nil_append, List.cons_append, List.append_assoc, List.length_append, List.length_cons, List.length_nil, Nat.zero_add, Nat.reduceAdd]); rfl) | rfl
                | (apply SL.pass; (focus (refine Wt.i ?_; rfl))) | apply SL.move | apply SL.assign | apply SL.load | apply SL.binOp | apply SL.append | apply SL.builtin | apply SL.fieldAddr | apply SL.indexAddr | apply SL.field
                | apply SL.extract | apply SL.fcall | apply SL.pick | apply SL.store | apply SL.unOp | apply SL.convert | apply SL.index | apply SL.slice | apply SL.build | apply SL.nilCheck | apply SL.buildSlice | apply SL.box
                | apply SL.alloc | apply SL.makeFunc | apply SQ.nil | (apply WL.reg; (focus decide +kernel)) | (apply WL.drawP (by assumption); (focus decide +kernel); (focus decide +kernel))
                | (apply WL.drawF; (focus decide +kernel); (focus decide +kernel)) | (apply WL.reg1; (focus decide +kernel)) | (apply WL.drawP1 (by assumption); (focus decide +kernel); (focus decide +kernel))
                | (apply WL.drawF1; (focus decide +kernel); (focus decide +kernel)) | (apply WL.drawA (by assumption); (focus decide +kernel); (focus decide +kernel))
                | (apply WL.drawA1 (by assumption); (focus decide +kernel); (focus decide +kernel)) | apply WL.skip | (apply WL.ct; (focus rfl)) | (apply WL.cf; (focus rfl)) | refine SeqQ.normal ?_ | refine SeqQ.ret ?_ | refine SeqQ.exit ?_
                | refine BlockQ.normal ?_ | refine BlockQ.ret ?_ | refine BlockQ.here ?_ | refine BlockQ.there (by decide) ?_ | refine Wp.block ?_ | refine Wp.skip ?_ | refine Wp.ret ?_ | refine Wp.exit ?_ | refine LoopI.ret ?_
                | refine LoopI.exit ?_ | refine LoopQ.normal ?_ | refine LoopQ.ret ?_ | refine LoopQ.exit ?_ | refine Wp.seq (Wp.seq ?_) | refine Wp.seq (Wp.block ?_) | (refine Wp.seq ?_; apply WL.ct; (focus rfl))
                | (refine Wp.seq ?_; apply WL.cf; (focus rfl)))
              refine LoopI.normal (m - 1) (by omega) ⟨2, false, _, exF (⟨by omega, fun h' => by have := hy h'; cases this⟩) (by (first | rfl | (simp []; repeat (first | rfl | (apply And.intro))) | (simp []; done))) (by (first | rfl | (simp []; repeat (first | rfl | (apply And.intro))) | (simp []; done)))⟩
            focus
              repeat (first
                | (refine Fr.i ?_; simp only [pput, List.set_cons_zero, List.set_cons_succ]; try rfl)
                | (refine By.i ?_; simp (disch := first | omega | (simp; done) | (simp; omega)) [wrap_i64, wrap_u64, h5, h6, h4, ho2, hT2, len1, entry, gf1, gf2]; first | done | rfl | exact ⟨rfl, rfl⟩)
                | (refine Wt.i ?_; first | rfl | (simp [h5, h6, h4, ho2, hT2, len1, entry, gf1, gf2]; done))
                | (refine Ns.i ?_; (try simp only [List.append_nil, List.nil_append, List.cons_append, List.append_assoc, List.length_append, List.length_cons, List.length_nil, Nat.zero_add, Nat.reduceAdd]); rfl) | rfl
                | (apply SL.pass; (focus (refine Wt.i ?_; rfl))) | apply SL.move | apply SL.assign | apply SL.load | apply SL.binOp | apply SL.append | apply SL.builtin | apply SL.fieldAddr | apply SL.indexAddr | apply SL.field
                | apply SL.extract | apply SL.fcall | apply SL.pick | apply SL.store | apply SL.unOp | apply SL.convert | apply SL.index | apply SL.slice | apply SL.build | apply SL.nilCheck | apply SL.buildSlice | apply SL.box
                | apply SL.alloc | apply SL.makeFunc | apply SQ.nil | (apply WL.reg; (focus decide +kernel)) | (apply WL.drawP (by assumption); (focus decide +kernel); (focus decide +kernel))
                | (apply WL.drawF; (focus decide +kernel); (focus decide +kernel)) | (apply WL.reg1; (focus decide +kernel)) | (apply WL.drawP1 (by assumption); (focus decide +kernel); (focus decide +kernel))
                | (apply WL.drawF1; (focus decide +kernel); (focus decide +kernel)) | (apply WL.drawA (by assumption); (focus decide +kernel); (focus decide +kernel))
                | (apply WL.drawA1 (by assumption); (focus decide +kernel); (focus decide +kernel)) | apply WL.skip | (apply WL.ct; (focus rfl)) | (apply WL.cf; (focus rfl)) | refine SeqQ.normal ?_ | refine SeqQ.ret ?_ | refine SeqQ.exit ?_
                | refine BlockQ.normal ?_ | refine BlockQ.ret ?_ | refine BlockQ.here ?_ | refine BlockQ.there (by decide) ?_ | refine Wp.block ?_ | refine Wp.skip ?_ | refine Wp.ret ?_ | refine Wp.exit ?_ | refine LoopI.ret ?_
                | refine LoopI.exit ?_ | refine LoopQ.normal ?_ | refine LoopQ.ret ?_ | refine LoopQ.exit ?_ | refine Wp.seq (Wp.seq ?_) | refine Wp.seq (Wp.block ?_) | (refine Wp.seq ?_; apply WL.ct; (focus rfl))
                | (refine Wp.seq ?_; apply WL.cf; (focus rfl)))
              refine LoopI.normal (m - 1) (by omega) ⟨2, false, _, exF (⟨by omega, fun h' => by have := hy h'; cases this⟩) (by (first | rfl | (simp []; repeat (first | rfl | (apply And.intro))) | (simp []; done))) (by (first | rfl | (simp []; repeat (first | rfl | (apply And.intro))) | (simp []; done)))⟩
            focus
              repeat (first
                | (refine Fr.i ?_; simp only [pput, List.set_cons_zero, List.set_cons_succ]; try rfl)
                | (refine By.i ?_; simp (disch := first | omega | (simp; done) | (simp; omega)) [wrap_i64, wrap_u64, h5, h6, h4, ho2, hT2, len1, entry, gf1, gf2]; first | done | rfl | exact ⟨rfl, rfl⟩)
                | (refine Wt.i ?_; first | rfl | (simp [h5, h6, h4, ho2, hT2, len1, entry, gf1, gf2]; done))
                | (refine Ns.i ?_; (try simp only [List.append_nil, List.nil_append, List.cons_append, List.append_assoc, List.length_append, List.length_cons, List.length_nil, Nat.zero_add, Nat.reduceAdd]); rfl) | rfl
                | (apply SL.pass; (focus (refine Wt.i ?_; rfl))) | apply SL.move | apply SL.assign | apply SL.load | apply SL.binOp | apply SL.append | apply SL.builtin | apply SL.fieldAddr | apply SL.indexAddr | apply SL.field
                | apply SL.extract | apply SL.fcall | apply SL.pick | apply SL.store | apply SL.unOp | apply SL.convert | apply SL.index | apply SL.slice | apply SL.build | apply SL.nilCheck | apply SL.buildSlice | apply SL.box
                | apply SL.alloc | apply SL.makeFunc | apply SQ.nil | (apply WL.reg; (focus decide +kernel)) | (apply WL.drawP (by assumption); (focus decide +kernel); (focus decide +kernel))
                | (apply WL.drawF; (focus decide +kernel); (focus decide +kernel)) | (apply WL.reg1; (focus decide +kernel)) | (apply WL.drawP1 (by assumption); (focus decide +kernel); (focus decide +kernel))
                | (apply WL.drawF1; (focus decide +kernel); (focus decide +kernel)) | (apply WL.drawA (by assumption); (focus decide +kernel); (focus decide +kernel))
                | (apply WL.drawA1 (by assumption); (focus decide +kernel); (focus decide +kernel)) | apply WL.skip | (apply WL.ct; (focus rfl)) | (apply WL.cf; (focus rfl)) | refine SeqQ.normal ?_ | refine SeqQ.ret ?_ | refine SeqQ.exit ?_
                | refine BlockQ.normal ?_ | refine BlockQ.ret ?_ | refine BlockQ.here ?_ | refine BlockQ.there (by decide) ?_ | refine Wp.block ?_ | refine Wp.skip ?_ | refine Wp.ret ?_ | refine Wp.exit ?_ | refine LoopI.ret ?_
                | refine LoopI.exit ?_ | refine LoopQ.normal ?_ | refine LoopQ.ret ?_ | refine LoopQ.exit ?_ | refine Wp.seq (Wp.seq ?_) | refine Wp.seq (Wp.block ?_) | (refine Wp.seq ?_; apply WL.ct; (focus rfl))
                | (refine Wp.seq ?_; apply WL.cf; (focus rfl)))
              refine LoopI.normal (m - 1) (by omega) ⟨2, false, _, exF (⟨by omega, fun h' => by have := k2 h'; cases this⟩) (by (first | rfl | (simp []; repeat (first | rfl | (apply And.intro))) | (simp []; done))) (by (first | rfl | (simp []; repeat (first | rfl | (apply And.intro))) | (simp []; done)))⟩
            focus
              repeat (first
                | (refine Fr.i ?_; simp only [pput, List.set_cons_zero, List.set_cons_succ]; try rfl)
                | (refine By.i ?_; simp (disch := first | omega | (simp; done) | (simp; omega)) [wrap_i64, wrap_u64, h5, h6, h4, ho2, hT2, len1, entry, gf1, gf2]; first | done | rfl | exact ⟨rfl, rfl⟩)
                | (refine Wt.i ?_; first | rfl | (simp [h5, h6, h4, ho2, hT2, len1, entry, gf1, gf2]; done))
                | (refine Ns.i ?_; (try simp only [List.append_nil, List.nil_append, List.cons_append, List.append_assoc, List.length_append, List.length_cons, List.length_nil, Nat.zero_add, Nat.reduceAdd]); rfl) | rfl
                | (apply SL.pass; (focus (refine Wt.i ?_; rfl))) | apply SL.move | apply SL.assign | apply SL.load | apply SL.binOp | apply SL.append | apply SL.builtin | apply SL.fieldAddr | apply SL.indexAddr | apply SL.field
                | apply SL.extract | apply SL.fcall | apply SL.pick | apply SL.store | apply SL.unOp | apply SL.convert | apply SL.index | apply SL.slice | apply SL.build | apply SL.nilCheck | apply SL.buildSlice | apply SL.box
                | apply SL.alloc | apply SL.makeFunc | apply SQ.nil | (apply WL.reg; (focus decide +kernel)) | (apply WL.drawP (by assumption); (focus decide +kernel); (focus decide +kernel))
                | (apply WL.drawF; (focus decide +kernel); (focus decide +kernel)) | (apply WL.reg1; (focus decide +kernel)) | (apply WL.drawP1 (by assumption); (focus decide +kernel); (focus decide +kernel))
                | (apply WL.drawF1; (focus decide +kernel); (focus decide +kernel)) | (apply WL.drawA (by assumption); (focus decide +kernel); (focus decide +kernel))
                | (apply WL.drawA1 (by assumption); (focus decide +kernel); (focus decide +kernel)) | apply WL.skip | (apply WL.ct; (focus rfl)) | (apply WL.cf; (focus rfl)) | refine SeqQ.normal ?_ | refine SeqQ.ret ?_ | refine SeqQ.exit ?_
                | refine BlockQ.normal ?_ | refine BlockQ.ret ?_ | refine BlockQ.here ?_ | refine BlockQ.there (by decide) ?_ | refine Wp.block ?_ | refine Wp.skip ?_ | refine Wp.ret ?_ | refine Wp.exit ?_ | refine LoopI.ret ?_
                | refine LoopI.exit ?_ | refine LoopQ.normal ?_ | refine LoopQ.ret ?_ | refine LoopQ.exit ?_ | refine Wp.seq (Wp.seq ?_) | refine Wp.seq (Wp.block ?_) | (refine Wp.seq ?_; apply WL.ct; (focus rfl))
                | (refine Wp.seq ?_; apply WL.cf; (focus rfl)))
              refine LoopI.normal (m - 1) (by omega) ⟨2, true, _, exF (⟨by omega, fun _ => rfl⟩) (by (first | rfl | (simp []; repeat (first | rfl | (apply And.intro))) | (simp []; done))) (by (first | rfl | (simp []; repeat (first | rfl | (apply And.intro))) | (simp []; done)))⟩
          · repeat (first
              | (refine Fr.i ?_; simp only [pput, List.set_cons_zero, List.set_cons_succ]; try rfl) | (refine By.i ?_; simp (disch := first | omega | (simp; done) | (simp; omega)) [wrap_i64, wrap_u64]; first | done | rfl | exact ⟨rfl, rfl⟩)
              | (refine Wt.i ?_; first | rfl | (simp; done))
              | (refine Ns.i ?_; (try simp only [List.append_nil, List.nil_append, List.cons_append, List.append_assoc, List.length_append, List.length_cons, List.length_nil, Nat.zero_add, Nat.reduceAdd]); rfl) | rfl
              | (apply SL.pass; (focus (refine Wt.i ?_; rfl))) | apply SL.move | apply SL.assign | apply SL.load | apply SL.binOp | apply SL.append | apply SL.builtin | apply SL.fieldAddr | apply SL.indexAddr | apply SL.field
              | apply SL.extract | apply SL.fcall | apply SL.pick | apply SL.store | apply SL.unOp | apply SL.convert | apply SL.index | apply SL.slice | apply SL.build | apply SL.nilCheck | apply SL.buildSlice | apply SL.box | apply SL.alloc
              | apply SL.makeFunc | apply SQ.nil | (apply WL.reg; (focus decide +kernel)) | (apply WL.drawP (by assumption); (focus decide +kernel); (focus decide +kernel)) | (apply WL.drawF; (focus decide +kernel); (focus decide +kernel))
              | (apply WL.reg1; (focus decide +kernel)) | (apply WL.drawP1 (by assumption); (focus decide +kernel); (focus decide +kernel)) | (apply WL.drawF1; (focus decide +kernel); (focus decide +kernel))
              | (apply WL.drawA (by assumption); (focus decide +kernel); (focus decide +kernel)) | (apply WL.drawA1 (by assumption); (focus decide +kernel); (focus decide +kernel)) | apply WL.skip | (apply WL.ct; (focus rfl))
              | (apply WL.cf; (focus rfl)) | refine SeqQ.normal ?_ | refine SeqQ.ret ?_ | refine SeqQ.exit ?_ | refine BlockQ.normal ?_ | refine BlockQ.ret ?_ | refine BlockQ.here ?_ | refine BlockQ.there (by decide) ?_ | refine Wp.block ?_
              | refine Wp.skip ?_ | refine Wp.ret ?_ | refine Wp.exit ?_ | refine LoopI.ret ?_ | refine LoopI.exit ?_ | refine LoopQ.normal ?_ | refine LoopQ.ret ?_ | refine LoopQ.exit ?_ | refine Wp.seq (Wp.seq ?_)
              | refine Wp.seq (Wp.block ?_) | (refine Wp.seq ?_; apply WL.ct; (focus rfl)) | (refine Wp.seq ?_; apply WL.cf; (focus rfl)))
            refine Wp.loopI (fun m fr σ => ∃ (i : Nat) (y : Bool) (J : List SObj), ∃ gg : Nat → PD, (i + m = 2 ∧ (f0 = true → y = true)) ∧ fr = Em.player.emb p :: Em.plan3.emb x :: .ptr 0 0 :: .ptr 1 0 :: .bool false :: .ptr 2 0 :: .int .i64 lo :: .bool true :: .int .i64 hi :: .bool true :: .ptr 3 0 :: .ptr 4 0 :: .bool f0 :: .int .i64 0 :: .ptr 5 0 :: .ptr 6 0 :: .bool y :: gg 17 :: gg 18 :: gg 19 :: gg 20 :: gg 21 :: gg 22 :: gg 23 :: gg 24 :: gg 25 :: gg 26 :: gg 27 :: gg 28 :: gg 29 :: gg 30 :: gg 31 :: gg 32 :: gg 33 :: gg 34 :: gg 35 :: gg 36 :: gg 37 :: gg 38 :: gg 39 :: gg 40 :: gg 41 :: gg 42 :: gg 43 :: gg 44 :: gg 45 :: gg 46 :: gg 47 :: gg 48 :: gg 49 :: gg 50 :: gg 51 :: gg 52 :: gg 53 :: gg 54 :: gg 55 :: gg 56 :: gg 57 :: gg 58 :: gg 59 :: gg 60 :: gg 61 :: gg 62 :: gg 63 :: gg 64 :: gg 65 :: gg 66 :: gg 67 :: gg 68 :: gg 69 :: gg 70 :: gg 71 :: gg 72 :: gg 73 :: gg 74 :: gg 75 :: gg 76 :: gg 77 :: gg 78 :: gg 79 :: gg 80 :: gg 81 :: gg 82 :: gg 83 :: gg 84 :: gg 85 :: gg 86 :: gg 87 :: gg 88 :: gg 89 :: gg 90 :: gg 91 :: gg 92 :: gg 93 :: gg 94 :: gg 95 :: gg 96 :: gg 97 :: gg 98 :: gg 99 :: gg 100 :: gg 101 :: gg 102 :: gg 103 :: gg 104 :: gg 105 :: gg 106 :: gg 107 :: gg 108 :: gg 109 :: gg 110 :: gg 111 :: gg 112 :: gg 113 :: gg 114 :: gg 115 :: gg 116 :: gg 117 :: gg 118 :: gg 119 :: gg 120 :: gg 121 :: gg 122 :: gg 123 :: gg 124 :: .slice 4 [Em.player.emb M, Em.player.emb W] .full :: .int .i64 2 :: .int .i64 i :: gg 128 :: gg 129 :: gg 130 :: gg 131 :: gg 132 :: gg 133 :: gg 134 :: gg 135 :: gg 136 :: gg 137 :: gg 138 :: gg 139 :: gg 140 :: gg 141 :: gg 142 :: gg 143 :: gg 144 :: gg 145 :: gg 146 :: gg 147 :: gg 148 :: gg 149 :: gg 150 :: gg 151 :: gg 152 :: gg 153 :: gg 154 :: gg 155 :: gg 156 :: gg 157 :: gg 158 :: gg 159 :: gg 160 :: gg 161 :: gg 162 :: gg 163 :: gg 164 :: gg 165 :: gg 166 :: gg 167 :: gg 168 :: gg 169 :: gg 170 :: gg 171 :: gg 172 :: gg 173 :: gg 174 :: gg 175 :: gg 176 :: gg 177 :: gg 178 :: gg 179 :: [] ∧ σ = .box (Em.player.emb p) :: .box (Em.plan3.emb x) :: .box (Em.notes.emb s) :: .box (Em.notes.emb a0) :: .box (Em.notes.emb b0) :: .box (Em.player.emb M) :: .box (Em.player.emb W) :: J) ?_ (2) (by refine ⟨0, y, J, ?_⟩; exact exF (⟨by omega, hy⟩) (by (first | rfl | (simp [hM, hW]; repeat (first | rfl | (apply And.intro))) | (simp [hM, hW]; done))) (by (first | rfl | (simp [hM, hW]; repeat (first | rfl | (apply And.intro))) | (simp [hM, hW]; done))))
            rintro m fr σ ⟨i, y, J, gg, hI, rfl, rfl⟩
            obtain ⟨hm, hy⟩ := hI
            rcases (show i = 0 ∨ i = 1 ∨ i = 2 by omega) with rfl | rfl | rfl
            · cases y <;> cases f3
              focus
                repeat (first
                  | (refine Fr.i ?_; simp only [pput, List.set_cons_zero, List.set_cons_succ]; try rfl)
                  | (refine By.i ?_; simp (disch := first | omega | (simp; done) | (simp; omega)) [wrap_i64, wrap_u64, h4, hT3, entry, gf1, gf2]; first | done | rfl | exact ⟨rfl, rfl⟩)
                  | (refine Wt.i ?_; first | rfl | (simp [h4, hT3, entry, gf1, gf2]; done))
                  | (refine Ns.i ?_; (try simp only [List.append_nil, List.nil_append, List.cons_append, List.append_assoc, List.length_append, List.length_cons, List.length_nil, Nat.zero_add, Nat.reduceAdd]); rfl) | rfl
                  | (apply SL.pass; (focus (refine Wt.i ?_; rfl))) | apply SL.move | apply SL.assign | apply SL.load | apply SL.binOp | apply SL.append | apply SL.builtin | apply SL.fieldAddr | apply SL.indexAddr | apply SL.field
                  | apply SL.extract | apply SL.fcall | apply SL.pick | apply SL.store | apply SL.unOp | apply SL.convert | apply SL.index | apply SL.slice | apply SL.build | apply SL.nilCheck | apply SL.buildSlice | apply SL.box
                  | apply SL.alloc | apply SL.makeFunc | apply SQ.nil | (apply WL.reg; (focus decide +kernel)) | (apply WL.drawP (by assumption); (focus decide +kernel); (focus decide +kernel))
                  | (apply WL.drawF; (focus decide +kernel); (focus decide +kernel)) | (apply WL.reg1; (focus decide +kernel)) | (apply WL.drawP1 (by assumption); (focus decide +kernel); (focus decide +kernel))
                  | (apply WL.drawF1; (focus decide +kernel); (focus decide +kernel)) | (apply WL.drawA (by assumption); (focus decide +kernel); (focus decide +kernel))
                  | (apply WL.drawA1 (by assumption); (focus decide +kernel); (focus decide +kernel)) | apply WL.skip | (apply WL.ct; (focus rfl)) | (apply WL.cf; (focus rfl)) | refine SeqQ.normal ?_ | refine SeqQ.ret ?_ | refine SeqQ.exit ?_
                  | refine BlockQ.normal ?_ | refine BlockQ.ret ?_ | refine BlockQ.here ?_ | refine BlockQ.there (by decide) ?_ | refine Wp.block ?_ | refine Wp.skip ?_ | refine Wp.ret ?_ | refine Wp.exit ?_ | refine LoopI.ret ?_
                  | refine LoopI.exit ?_ | refine LoopQ.normal ?_ | refine LoopQ.ret ?_ | refine LoopQ.exit ?_ | refine Wp.seq (Wp.seq ?_) | refine Wp.seq (Wp.block ?_) | (refine Wp.seq ?_; apply WL.ct; (focus rfl))
                  | (refine Wp.seq ?_; apply WL.cf; (focus rfl)))
                refine LoopI.normal (m - 1) (by omega) ⟨1, false, _, exF (⟨by omega, fun h' => by have := hy h'; cases this⟩) (by (first | rfl | (simp []; repeat (first | rfl | (apply And.intro))) | (simp []; done))) (by (first | rfl | (simp []; repeat (first | rfl | (apply And.intro))) | (simp []; done)))⟩
              focus
                repeat (first
                  | (refine Fr.i ?_; simp only [pput, List.set_cons_zero, List.set_cons_succ]; try rfl)
                  | (refine By.i ?_; simp (disch := first | omega | (simp; done) | (simp; omega)) [wrap_i64, wrap_u64, h4, hT3, entry, gf1, gf2]; first | done | rfl | exact ⟨rfl, rfl⟩)
                  | (refine Wt.i ?_; first | rfl | (simp [h4, hT3, entry, gf1, gf2]; done))
                  | (refine Ns.i ?_; (try simp only [List.append_nil, List.nil_append, List.cons_append, List.append_assoc, List.length_append, List.length_cons, List.length_nil, Nat.zero_add, Nat.reduceAdd]); rfl) | rfl
                  | (apply SL.pass; (focus (refine Wt.i ?_; rfl))) | apply SL.move | apply SL.assign | apply SL.load | apply SL.binOp | apply SL.append | apply SL.builtin | apply SL.fieldAddr | apply SL.indexAddr | apply SL.field
                  | apply SL.extract | apply SL.fcall | apply SL.pick | apply SL.store | apply SL.unOp | apply SL.convert | apply SL.index | apply SL.slice | apply SL.build | apply SL.nilCheck | apply SL.buildSlice | apply SL.box
                  | apply SL.alloc | apply SL.makeFunc | apply SQ.nil | (apply WL.reg; (focus decide +kernel)) | (apply WL.drawP (by assumption); (focus decide +kernel); (focus decide +kernel))
                  | (apply WL.drawF; (focus decide +kernel); (focus decide +kernel)) | (apply WL.reg1; (focus decide +kernel)) | (apply WL.drawP1 (by assumption); (focus decide +kernel); (focus decide +kernel))
                  | (apply WL.drawF1; (focus decide +kernel); (focus decide +kernel)) | (apply WL.drawA (by assumption); (focus decide +kernel); (focus decide +kernel))
                  | (apply WL.drawA1 (by assumption); (focus decide +kernel); (focus decide +kernel)) | apply WL.skip | (apply WL.ct; (focus rfl)) | (apply WL.cf; (focus rfl)) | refine SeqQ.normal ?_ | refine SeqQ.ret ?_ | refine SeqQ.exit ?_
                  | refine BlockQ.normal ?_ | refine BlockQ.ret ?_ | refine BlockQ.here ?_ | refine BlockQ.there (by decide) ?_ | refine Wp.block ?_ | refine Wp.skip ?_ | refine Wp.ret ?_ | refine Wp.exit ?_ | refine LoopI.ret ?_
                  | refine LoopI.exit ?_ | refine LoopQ.normal ?_ | refine LoopQ.ret ?_ | refine LoopQ.exit ?_ | refine Wp.seq (Wp.seq ?_) | refine Wp.seq (Wp.block ?_) | (refine Wp.seq ?_; apply WL.ct; (focus rfl))
                  | (refine Wp.seq ?_; apply WL.cf; (focus rfl)))
                refine LoopI.normal (m - 1) (by omega) ⟨1, false, _, exF (⟨by omega, fun h' => by have := hy h'; cases this⟩) (by (first | rfl | (simp []; repeat (first | rfl | (apply And.intro))) | (simp []; done))) (by (first | rfl | (simp []; repeat (first | rfl | (apply And.intro))) | (simp []; done)))⟩
              focus
                repeat (first
                  | (refine Fr.i ?_; simp only [pput, List.set_cons_zero, List.set_cons_succ]; try rfl)
                  | (refine By.i ?_; simp (disch := first | omega | (simp; done) | (simp; omega)) [wrap_i64, wrap_u64, h4, hT3, entry, gf1, gf2]; first | done | rfl | exact ⟨rfl, rfl⟩)
                  | (refine Wt.i ?_; first | rfl | (simp [h4, hT3, entry, gf1, gf2]; done))
                  | (refine Ns.i ?_; (try simp only [List.append_nil, List.nil_append, List.cons_append, List.append_assoc, List.length_append, List.length_cons, List.length_nil, Nat.zero_add, Nat.reduceAdd]); rfl) | rfl
                  | (apply SL.pass; (focus (refine Wt.i ?_; rfl))) | apply SL.move | apply SL.assign | apply SL.load | apply SL.binOp | apply SL.append | apply SL.builtin | apply SL.fieldAddr | apply SL.indexAddr | apply SL.field
                  | apply SL.extract | apply SL.fcall | apply SL.pick | apply SL.store | apply SL.unOp | apply SL.convert | apply SL.index | apply SL.slice | apply SL.build | apply SL.nilCheck | apply SL.buildSlice | apply SL.box
                  | apply SL.alloc | apply SL.makeFunc | apply SQ.nil | (apply WL.reg; (focus decide +kernel)) | (apply WL.drawP (by assumption); (focus decide +kernel); (focus decide +kernel))
                  | (apply WL.drawF; (focus decide +kernel); (focus decide +kernel)) | (apply WL.reg1; (focus decide +kernel)) | (apply WL.drawP1 (by assumption); (focus decide +kernel); (focus decide +kernel))
                  | (apply WL.drawF1; (focus decide +kernel); (focus decide +kernel)) | (apply WL.drawA (by assumption); (focus decide +kernel); (focus decide +kernel))
                  | (apply WL.drawA1 (by assumption); (focus decide +kernel); (focus decide +kernel)) | apply WL.skip | (apply WL.ct; (focus rfl)) | (apply WL.cf; (focus rfl)) | refine SeqQ.normal ?_ | refine SeqQ.ret ?_ | refine SeqQ.exit ?_
                  | refine BlockQ.normal ?_ | refine BlockQ.ret ?_ | refine BlockQ.here ?_ | refine BlockQ.there (by decide) ?_ | refine Wp.block ?_ | refine Wp.skip ?_ | refine Wp.ret ?_ | refine Wp.exit ?_ | refine LoopI.ret ?_
                  | refine LoopI.exit ?_ | refine LoopQ.normal ?_ | refine LoopQ.ret ?_ | refine LoopQ.exit ?_ | refine Wp.seq (Wp.seq ?_) | refine Wp.seq (Wp.block ?_) | (refine Wp.seq ?_; apply WL.ct; (focus rfl))
                  | (refine Wp.seq ?_; apply WL.cf; (focus rfl)))
                refine LoopI.normal (m - 1) (by omega) ⟨1, false, _, exF (⟨by omega, fun h' => by have := k3 h'; cases this⟩) (by (first | rfl | (simp []; repeat (first | rfl | (apply And.intro))) | (simp []; done))) (by (first | rfl | (simp []; repeat (first | rfl | (apply And.intro))) | (simp []; done)))⟩
              focus
                repeat (first
                  | (refine Fr.i ?_; simp only [pput, List.set_cons_zero, List.set_cons_succ]; try rfl)
                  | (refine By.i ?_; simp (disch := first | omega | (simp; done) | (simp; omega)) [wrap_i64, wrap_u64, h4, hT3, entry, gf1, gf2]; first | done | rfl | exact ⟨rfl, rfl⟩)
                  | (refine Wt.i ?_; first | rfl | (simp [h4, hT3, entry, gf1, gf2]; done))
                  | (refine Ns.i ?_; (try simp only [List.append_nil, List.nil_append, List.cons_append, List.append_assoc, List.length_append, List.length_cons, List.length_nil, Nat.zero_add, Nat.reduceAdd]); rfl) | rfl
                  | (apply SL.pass; (focus (refine Wt.i ?_; rfl))) | apply SL.move | apply SL.assign | apply SL.load | apply SL.binOp | apply SL.append | apply SL.builtin | apply SL.fieldAddr | apply SL.indexAddr | apply SL.field
                  | apply SL.extract | apply SL.fcall | apply SL.pick | apply SL.store | apply SL.unOp | apply SL.convert | apply SL.index | apply SL.slice | apply SL.build | apply SL.nilCheck | apply SL.buildSlice | apply SL.box
                  | apply SL.alloc | apply SL.makeFunc | apply SQ.nil | (apply WL.reg; (focus decide +kernel)) | (apply WL.drawP (by assumption); (focus decide +kernel); (focus decide +kernel))
                  | (apply WL.drawF; (focus decide +kernel); (focus decide +kernel)) | (apply WL.reg1; (focus decide +kernel)) | (apply WL.drawP1 (by assumption); (focus decide +kernel); (focus decide +kernel))
                  | (apply WL.drawF1; (focus decide +kernel); (focus decide +kernel)) | (apply WL.drawA (by assumption); (focus decide +kernel); (focus decide +kernel))
                  | (apply WL.drawA1 (by assumption); (focus decide +kernel); (focus decide +kernel)) | apply WL.skip | (apply WL.ct; (focus rfl)) | (apply WL.cf; (focus rfl)) | refine SeqQ.normal ?_ | refine SeqQ.ret ?_ | refine SeqQ.exit ?_
                  | refine BlockQ.normal ?_ | refine BlockQ.ret ?_ | refine BlockQ.here ?_ | refine BlockQ.there (by decide) ?_ | refine Wp.block ?_ | refine Wp.skip ?_ | refine Wp.ret ?_ | refine Wp.exit ?_ | refine LoopI.ret ?_
                  | refine LoopI.exit ?_ | refine LoopQ.normal ?_ | refine LoopQ.ret ?_ | refine LoopQ.exit ?_ | refine Wp.seq (Wp.seq ?_) | refine Wp.seq (Wp.block ?_) | (refine Wp.seq ?_; apply WL.ct; (focus rfl))
                  | (refine Wp.seq ?_; apply WL.cf; (focus rfl)))
                refine LoopI.normal (m - 1) (by omega) ⟨1, true, _, exF (⟨by omega, fun _ => rfl⟩) (by (first | rfl | (simp []; repeat (first | rfl | (apply And.intro))) | (simp []; done))) (by (first | rfl | (simp []; repeat (first | rfl | (apply And.intro))) | (simp []; done)))⟩
            · cases y <;> cases f4
              focus
                repeat (first
                  | (refine Fr.i ?_; simp only [pput, List.set_cons_zero, List.set_cons_succ]; try rfl)
                  | (refine By.i ?_; simp (disch := first | omega | (simp; done) | (simp; omega)) [wrap_i64, wrap_u64, h4, hT4, entry, gf1, gf2]; first | done | rfl | exact ⟨rfl, rfl⟩)
                  | (refine Wt.i ?_; first | rfl | (simp [h4, hT4, entry, gf1, gf2]; done))
                  | (refine Ns.i ?_; (try simp only [List.append_nil, List.nil_append, List.cons_append, List.append_assoc, List.length_append, List.length_cons, List.length_nil, Nat.zero_add, Nat.reduceAdd]); rfl) | rfl
                  | (apply SL.pass; (focus (refine Wt.i ?_; rfl))) | apply SL.move | apply SL.assign | apply SL.load | apply SL.binOp | apply SL.append | apply SL.builtin | apply SL.fieldAddr | apply SL.indexAddr | apply SL.field
                  | apply SL.extract | apply SL.fcall | apply SL.pick | apply SL.store | apply SL.unOp | apply SL.convert | apply SL.index | apply SL.slice | apply SL.build | apply SL.nilCheck | apply SL.buildSlice | apply SL.box
                  | apply SL.alloc | apply SL.makeFunc | apply SQ.nil | (apply WL.reg; (focus decide +kernel)) | (apply WL.drawP (by assumption); (focus decide +kernel); (focus decide +kernel))
                  | (apply WL.drawF; (focus decide +kernel); (focus decide +kernel)) | (apply WL.reg1; (focus decide +kernel)) | (apply WL.drawP1 (by assumption); (focus decide +kernel); (focus decide +kernel))
                  | (apply WL.drawF1; (focus decide +kernel); (focus decide +kernel)) | (apply WL.drawA (by assumption); (focus decide +kernel); (focus decide +kernel))
                  | (apply WL.drawA1 (by assumption); (focus decide +kernel); (focus decide +kernel)) | apply WL.skip | (apply WL.ct; (focus rfl)) | (apply WL.cf; (focus rfl)) | refine SeqQ.normal ?_ | refine SeqQ.ret ?_ | refine SeqQ.exit ?_
                  | refine BlockQ.normal ?_ | refine BlockQ.ret ?_ | refine BlockQ.here ?_ | refine BlockQ.there (by decide) ?_ | refine Wp.block ?_ | refine Wp.skip ?_ | refine Wp.ret ?_ | refine Wp.exit ?_ | refine LoopI.ret ?_
                  | refine LoopI.exit ?_ | refine LoopQ.normal ?_ | refine LoopQ.ret ?_ | refine LoopQ.exit ?_ | refine Wp.seq (Wp.seq ?_) | refine Wp.seq (Wp.block ?_) | (refine Wp.seq ?_; apply WL.ct; (focus rfl))
                  | (refine Wp.seq ?_; apply WL.cf; (focus rfl)))
                refine LoopI.normal (m - 1) (by omega) ⟨2, false, _, exF (⟨by omega, fun h' => by have := hy h'; cases this⟩) (by (first | rfl | (simp []; repeat (first | rfl | (apply And.intro))) | (simp []; done))) (by (first | rfl | (simp []; repeat (first | rfl | (apply And.intro))) | (simp []; done)))⟩
              focus
                repeat (first
                  | (refine Fr.i ?_; simp only [pput, List.set_cons_zero, List.set_cons_succ]; try rfl)
                  | (refine By.i ?_; simp (disch := first | omega | (simp; done) | (simp; omega)) [wrap_i64, wrap_u64, h4, hT4, entry, gf1, gf2]; first | done | rfl | exact ⟨rfl, rfl⟩)
                  | (refine Wt.i ?_; first | rfl | (simp [h4, hT4, entry, gf1, gf2]; done))
                  | (refine Ns.i ?_; (try simp only [List.append_nil, List.nil_append, List.cons_append, List.append_assoc, List.length_append, List.length_cons, List.length_nil, Nat.zero_add, Nat.reduceAdd]); rfl) | rfl
                  | (apply SL.pass; (focus (refine Wt.i ?_; rfl))) | apply SL.move | apply SL.assign | apply SL.load | apply SL.binOp | apply SL.append | apply SL.builtin | apply SL.fieldAddr | apply SL.indexAddr | apply SL.field
                  | apply SL.extract | apply SL.fcall | apply SL.pick | apply SL.store | apply SL.unOp | apply SL.convert | apply SL.index | apply SL.slice | apply SL.build | apply SL.nilCheck | apply SL.buildSlice | apply SL.box
                  | apply SL.alloc | apply SL.makeFunc | apply SQ.nil | (apply WL.reg; (focus decide +kernel)) | (apply WL.drawP (by assumption); (focus decide +kernel); (focus decide +kernel))
                  | (apply WL.drawF; (focus decide +kernel); (focus decide +kernel)) | (apply WL.reg1; (focus decide +kernel)) | (apply WL.drawP1 (by assumption); (focus decide +kernel); (focus decide +kernel))
                  | (apply WL.drawF1; (focus decide +kernel); (focus decide +kernel)) | (apply WL.drawA (by assumption); (focus decide +kernel); (focus decide +kernel))
                  | (apply WL.drawA1 (by assumption); (focus decide +kernel); (focus decide +kernel)) | apply WL.skip | (apply WL.ct; (focus rfl)) | (apply WL.cf; (focus rfl)) | refine SeqQ.normal ?_ | refine SeqQ.ret ?_ | refine SeqQ.exit ?_
                  | refine BlockQ.normal ?_ | refine BlockQ.ret ?_ | refine BlockQ.here ?_ | refine BlockQ.there (by decide) ?_ | refine Wp.block ?_ | refine Wp.skip ?_ | refine Wp.ret ?_ | refine Wp.exit ?_ | refine LoopI.ret ?_
                  | refine LoopI.exit ?_ | refine LoopQ.normal ?_ | refine LoopQ.ret ?_ | refine LoopQ.exit ?_ | refine Wp.seq (Wp.seq ?_) | refine Wp.seq (Wp.block ?_) | (refine Wp.seq ?_; apply WL.ct; (focus rfl))
                  | (refine Wp.seq ?_; apply WL.cf; (focus rfl)))
                refine LoopI.normal (m - 1) (by omega) ⟨2, false, _, exF (⟨by omega, fun h' => by have := hy h'; cases this⟩) (by (first | rfl | (simp []; repeat (first | rfl | (apply And.intro))) | (simp []; done))) (by (first | rfl | (simp []; repeat (first | rfl | (apply And.intro))) | (simp []; done)))⟩
              focus
                repeat (first
                  | (refine Fr.i ?_; simp only [pput, List.set_cons_zero, List.set_cons_succ]; try rfl)
                  | (refine By.i ?_; simp (disch := first | omega | (simp; done) | (simp; omega)) [wrap_i64, wrap_u64, h4, hT4, entry, gf1, gf2]; first | done | rfl | exact ⟨rfl, rfl⟩)
                  | (refine Wt.i ?_; first | rfl | (simp [h4, hT4, entry, gf1, gf2]; done))
                  | (refine Ns.i ?_; (try simp only [List.append_nil, List.nil_append, List.cons_append, List.append_assoc, List.length_append, List.length_cons, List.length_nil, Nat.zero_add, Nat.reduceAdd]); rfl) | rfl
                  | (apply SL.pass; (focus (refine Wt.i ?_; rfl))) | apply SL.move | apply SL.assign | apply SL.load | apply SL.binOp | apply SL.append | apply SL.builtin | apply SL.fieldAddr | apply SL.indexAddr | apply SL.field
                  | apply SL.extract | apply SL.fcall | apply SL.pick | apply SL.store | apply SL.unOp | apply SL.convert | apply SL.index | apply SL.slice | apply SL.build | apply SL.nilCheck | apply SL.buildSlice | apply SL.box
                  | apply SL.alloc | apply SL.makeFunc | apply SQ.nil | (apply WL.reg; (focus decide +kernel)) | (apply WL.drawP (by assumption); (focus decide +kernel); (focus decide +kernel))
                  | (apply WL.drawF; (focus decide +kernel); (focus decide +kernel)) | (apply WL.reg1; (focus decide +kernel)) | (apply WL.drawP1 (by assumption); (focus decide +kernel); (focus decide +kernel))
                  | (apply WL.drawF1; (focus decide +kernel); (focus decide +kernel)) | (apply WL.drawA (by assumption); (focus decide +kernel); (focus decide +kernel))
                  | (apply WL.drawA1 (by assumption); (focus decide +kernel); (focus decide +kernel)) | apply WL.skip | (apply WL.ct; (focus rfl)) | (apply WL.cf; (focus rfl)) | refine SeqQ.normal ?_ | refine SeqQ.ret ?_ | refine SeqQ.exit ?_
                  | refine BlockQ.normal ?_ | refine BlockQ.ret ?_ | refine BlockQ.here ?_ | refine BlockQ.there (by decide) ?_ | refine Wp.block ?_ | refine Wp.skip ?_ | refine Wp.ret ?_ | refine Wp.exit ?_ | refine LoopI.ret ?_
                  | refine LoopI.exit ?_ | refine LoopQ.normal ?_ | refine LoopQ.ret ?_ | refine LoopQ.exit ?_ | refine Wp.seq (Wp.seq ?_) | refine Wp.seq (Wp.block ?_) | (refine Wp.seq ?_; apply WL.ct; (focus rfl))
                  | (refine Wp.seq ?_; apply WL.cf; (focus rfl)))
                refine LoopI.normal (m - 1) (by omega) ⟨2, false, _, exF (⟨by omega, fun h' => by have := k4 h'; cases this⟩) (by (first | rfl | (simp []; repeat (first | rfl | (apply And.intro))) | (simp []; done))) (by (first | rfl | (simp []; repeat (first | rfl | (apply And.intro))) | (simp []; done)))⟩
              focus
                repeat (first
                  | (refine Fr.i ?_; simp only [pput, List.set_cons_zero, List.set_cons_succ]; try rfl)
                  | (refine By.i ?_; simp (disch := first | omega | (simp; done) | (simp; omega)) [wrap_i64, wrap_u64, h4, hT4, entry, gf1, gf2]; first | done | rfl | exact ⟨rfl, rfl⟩)
                  | (refine Wt.i ?_; first | rfl | (simp [h4, hT4, entry, gf1, gf2]; done))
                  | (refine Ns.i ?_; (try simp only [List.append_nil, List.nil_append, List.cons_append, List.append_assoc, List.length_append, List.length_cons, List.length_nil, Nat.zero_add, Nat.reduceAdd]); rfl) | rfl
                  | (apply SL.pass; (focus (refine Wt.i ?_; rfl))) | apply SL.move | apply SL.assign | apply SL.load | apply SL.binOp | apply SL.append | apply SL.builtin | apply SL.fieldAddr | apply SL.indexAddr | apply SL.field
                  | apply SL.extract | apply SL.fcall | apply SL.pick | apply SL.store | apply SL.unOp | apply SL.convert | apply SL.index | apply SL.slice | apply SL.build | apply SL.nilCheck | apply SL.buildSlice | apply SL.box
                  | apply SL.alloc | apply SL.makeFunc | apply SQ.nil | (apply WL.reg; (focus decide +kernel)) | (apply WL.drawP (by assumption); (focus decide +kernel); (focus decide +kernel))
                  | (apply WL.drawF; (focus decide +kernel); (focus decide +kernel)) | (apply WL.reg1; (focus decide +kernel)) | (apply WL.drawP1 (by assumption); (focus decide +kernel); (focus decide +kernel))
                  | (apply WL.drawF1; (focus decide +kernel); (focus decide +kernel)) | (apply WL.drawA (by assumption); (focus decide +kernel); (focus decide +kernel))
                  | (apply WL.drawA1 (by assumption); (focus decide +kernel); (focus decide +kernel)) | apply WL.skip | (apply WL.ct; (focus rfl)) | (apply WL.cf; (focus rfl)) | refine SeqQ.normal ?_ | refine SeqQ.ret ?_ | refine SeqQ.exit ?_
                  | refine BlockQ.normal ?_ | refine BlockQ.ret ?_ | refine BlockQ.here ?_ | refine BlockQ.there (by decide) ?_ | refine Wp.block ?_ | refine Wp.skip ?_ | refine Wp.ret ?_ | refine Wp.exit ?_ | refine LoopI.ret ?_
                  | refine LoopI.exit ?_ | refine LoopQ.normal ?_ | refine LoopQ.ret ?_ | refine LoopQ.exit ?_ | refine Wp.seq (Wp.seq ?_) | refine Wp.seq (Wp.block ?_) | (refine Wp.seq ?_; apply WL.ct; (focus rfl))
                  | (refine Wp.seq ?_; apply WL.cf; (focus rfl)))
                refine LoopI.normal (m - 1) (by omega) ⟨2, true, _, exF (⟨by omega, fun _ => rfl⟩) (by (first | rfl | (simp []; repeat (first | rfl | (apply And.intro))) | (simp []; done))) (by (first | rfl | (simp []; repeat (first | rfl | (apply And.intro))) | (simp []; done)))⟩
            · by_cases g5 : hi = 127
              · cases f0 <;> cases y <;> cases f5
                focus
                  repeat (first
                    | (refine Fr.i ?_; simp only [pput, List.set_cons_zero, List.set_cons_succ]; try rfl)
                    | (refine By.i ?_; simp (disch := first | omega | (simp; done) | (simp; omega)) [wrap_i64, wrap_u64, h7, h4, hT5, g5, entry, gf1, gf2]; first | done | rfl | exact ⟨rfl, rfl⟩)
                    | (refine Wt.i ?_; first | rfl | (simp [h7, h4, hT5, g5, entry, gf1, gf2]; done))
                    | (refine Ns.i ?_; (try simp only [List.append_nil, List.nil_append, List.cons_append, List.append_assoc, List.length_append, List.length_cons, List.length_nil, Nat.zero_add, Nat.reduceAdd]); rfl) | rfl
                    | (apply SL.pass; (focus (refine Wt.i ?_; rfl))) | apply SL.move | apply SL.assign | apply SL.load | apply SL.binOp | apply SL.append | apply SL.builtin | apply SL.fieldAddr | apply SL.indexAddr | apply SL.field
                    | apply SL.extract | apply SL.fcall | apply SL.pick | apply SL.store | apply SL.unOp | apply SL.convert | apply SL.index | apply SL.slice | apply SL.build | apply SL.nilCheck | apply SL.buildSlice | apply SL.box
                    | apply SL.alloc | apply SL.makeFunc | apply SQ.nil | (apply WL.reg; (focus decide +kernel)) | (apply WL.drawP (by assumption); (focus decide +kernel); (focus decide +kernel))
                    | (apply WL.drawF; (focus decide +kernel); (focus decide +kernel)) | (apply WL.reg1; (focus decide +kernel)) | (apply WL.drawP1 (by assumption); (focus decide +kernel); (focus decide +kernel))
                    | (apply WL.drawF1; (focus decide +kernel); (focus decide +kernel)) | (apply WL.drawA (by assumption); (focus decide +kernel); (focus decide +kernel))
                    | (apply WL.drawA1 (by assumption); (focus decide +kernel); (focus decide +kernel)) | apply WL.skip | (apply WL.ct; (focus rfl)) | (apply WL.cf; (focus rfl)) | refine SeqQ.normal ?_ | refine SeqQ.ret ?_
                    | refine SeqQ.exit ?_ | refine BlockQ.normal ?_ | refine BlockQ.ret ?_ | refine BlockQ.here ?_ | refine BlockQ.there (by decide) ?_ | refine Wp.block ?_ | refine Wp.skip ?_ | refine Wp.ret ?_ | refine Wp.exit ?_
                    | refine LoopI.ret ?_ | refine LoopI.exit ?_ | refine LoopQ.normal ?_ | refine LoopQ.ret ?_ | refine LoopQ.exit ?_ | refine Wp.seq (Wp.seq ?_) | refine Wp.seq (Wp.block ?_) | (refine Wp.seq ?_; apply WL.ct; (focus rfl))
                    | (refine Wp.seq ?_; apply WL.cf; (focus rfl)))
                  simp (disch := first | omega | (simp; done) | (simp; omega)) [decide_eq_decide] <;> try rfl
                focus
                  repeat (first
                    | (refine Fr.i ?_; simp only [pput, List.set_cons_zero, List.set_cons_succ]; try rfl)
                    | (refine By.i ?_; simp (disch := first | omega | (simp; done) | (simp; omega)) [wrap_i64, wrap_u64, h7, h4, hT5, g5, entry, gf1, gf2]; first | done | rfl | exact ⟨rfl, rfl⟩)
                    | (refine Wt.i ?_; first | rfl | (simp [h7, h4, hT5, g5, entry, gf1, gf2]; done))
                    | (refine Ns.i ?_; (try simp only [List.append_nil, List.nil_append, List.cons_append, List.append_assoc, List.length_append, List.length_cons, List.length_nil, Nat.zero_add, Nat.reduceAdd]); rfl) | rfl
                    | (apply SL.pass; (focus (refine Wt.i ?_; rfl))) | apply SL.move | apply SL.assign | apply SL.load | apply SL.binOp | apply SL.append | apply SL.builtin | apply SL.fieldAddr | apply SL.indexAddr | apply SL.field
                    | apply SL.extract | apply SL.fcall | apply SL.pick | apply SL.store | apply SL.unOp | apply SL.convert | apply SL.index | apply SL.slice | apply SL.build | apply SL.nilCheck | apply SL.buildSlice | apply SL.box
                    | apply SL.alloc | apply SL.makeFunc | apply SQ.nil | (apply WL.reg; (focus decide +kernel)) | (apply WL.drawP (by assumption); (focus decide +kernel); (focus decide +kernel))
                    | (apply WL.drawF; (focus decide +kernel); (focus decide +kernel)) | (apply WL.reg1; (focus decide +kernel)) | (apply WL.drawP1 (by assumption); (focus decide +kernel); (focus decide +kernel))
                    | (apply WL.drawF1; (focus decide +kernel); (focus decide +kernel)) | (apply WL.drawA (by assumption); (focus decide +kernel); (focus decide +kernel))
                    | (apply WL.drawA1 (by assumption); (focus decide +kernel); (focus decide +kernel)) | apply WL.skip | (apply WL.ct; (focus rfl)) | (apply WL.cf; (focus rfl)) | refine SeqQ.normal ?_ | refine SeqQ.ret ?_
                    | refine SeqQ.exit ?_ | refine BlockQ.normal ?_ | refine BlockQ.ret ?_ | refine BlockQ.here ?_ | refine BlockQ.there (by decide) ?_ | refine Wp.block ?_ | refine Wp.skip ?_ | refine Wp.ret ?_ | refine Wp.exit ?_
                    | refine LoopI.ret ?_ | refine LoopI.exit ?_ | refine LoopQ.normal ?_ | refine LoopQ.ret ?_ | refine LoopQ.exit ?_ | refine Wp.seq (Wp.seq ?_) | refine Wp.seq (Wp.block ?_) | (refine Wp.seq ?_; apply WL.ct; (focus rfl))
                    | (refine Wp.seq ?_; apply WL.cf; (focus rfl)))
                  simp (disch := first | omega | (simp; done) | (simp; omega)) [decide_eq_decide] <;> try rfl
                focus
                  repeat (first
                    | (refine Fr.i ?_; simp only [pput, List.set_cons_zero, List.set_cons_succ]; try rfl)
                    | (refine By.i ?_; simp (disch := first | omega | (simp; done) | (simp; omega)) [wrap_i64, wrap_u64, h7, h4, hT5, g5, entry, gf1, gf2]; first | done | rfl | exact ⟨rfl, rfl⟩)
                    | (refine Wt.i ?_; first | rfl | (simp [h7, h4, hT5, g5, entry, gf1, gf2]; done))
                    | (refine Ns.i ?_; (try simp only [List.append_nil, List.nil_append, List.cons_append, List.append_assoc, List.length_append, List.length_cons, List.length_nil, Nat.zero_add, Nat.reduceAdd]); rfl) | rfl
                    | (apply SL.pass; (focus (refine Wt.i ?_; rfl))) | apply SL.move | apply SL.assign | apply SL.load | apply SL.binOp | apply SL.append | apply SL.builtin | apply SL.fieldAddr | apply SL.indexAddr | apply SL.field
                    | apply SL.extract | apply SL.fcall | apply SL.pick | apply SL.store | apply SL.unOp | apply SL.convert | apply SL.index | apply SL.slice | apply SL.build | apply SL.nilCheck | apply SL.buildSlice | apply SL.box
                    | apply SL.alloc | apply SL.makeFunc | apply SQ.nil | (apply WL.reg; (focus decide +kernel)) | (apply WL.drawP (by assumption); (focus decide +kernel); (focus decide +kernel))
                    | (apply WL.drawF; (focus decide +kernel); (focus decide +kernel)) | (apply WL.reg1; (focus decide +kernel)) | (apply WL.drawP1 (by assumption); (focus decide +kernel); (focus decide +kernel))
                    | (apply WL.drawF1; (focus decide +kernel); (focus decide +kernel)) | (apply WL.drawA (by assumption); (focus decide +kernel); (focus decide +kernel))
                    | (apply WL.drawA1 (by assumption); (focus decide +kernel); (focus decide +kernel)) | apply WL.skip | (apply WL.ct; (focus rfl)) | (apply WL.cf; (focus rfl)) | refine SeqQ.normal ?_ | refine SeqQ.ret ?_
                    | refine SeqQ.exit ?_ | refine BlockQ.normal ?_ | refine BlockQ.ret ?_ | refine BlockQ.here ?_ | refine BlockQ.there (by decide) ?_ | refine Wp.block ?_ | refine Wp.skip ?_ | refine Wp.ret ?_ | refine Wp.exit ?_
                    | refine LoopI.ret ?_ | refine LoopI.exit ?_ | refine LoopQ.normal ?_ | refine LoopQ.ret ?_ | refine LoopQ.exit ?_ | refine Wp.seq (Wp.seq ?_) | refine Wp.seq (Wp.block ?_) | (refine Wp.seq ?_; apply WL.ct; (focus rfl))
                    | (refine Wp.seq ?_; apply WL.cf; (focus rfl)))
                  simp (disch := first | omega | (simp; done) | (simp; omega)) [decide_eq_decide] <;> try rfl
                focus
                  repeat (first
                    | (refine Fr.i ?_; simp only [pput, List.set_cons_zero, List.set_cons_succ]; try rfl)
                    | (refine By.i ?_; simp (disch := first | omega | (simp; done) | (simp; omega)) [wrap_i64, wrap_u64, h7, h4, hT5, g5, entry, gf1, gf2]; first | done | rfl | exact ⟨rfl, rfl⟩)
                    | (refine Wt.i ?_; first | rfl | (simp [h7, h4, hT5, g5, entry, gf1, gf2]; done))
                    | (refine Ns.i ?_; (try simp only [List.append_nil, List.nil_append, List.cons_append, List.append_assoc, List.length_append, List.length_cons, List.length_nil, Nat.zero_add, Nat.reduceAdd]); rfl) | rfl
                    | (apply SL.pass; (focus (refine Wt.i ?_; rfl))) | apply SL.move | apply SL.assign | apply SL.load | apply SL.binOp | apply SL.append | apply SL.builtin | apply SL.fieldAddr | apply SL.indexAddr | apply SL.field
                    | apply SL.extract | apply SL.fcall | apply SL.pick | apply SL.store | apply SL.unOp | apply SL.convert | apply SL.index | apply SL.slice | apply SL.build | apply SL.nilCheck | apply SL.buildSlice | apply SL.box
                    | apply SL.alloc | apply SL.makeFunc | apply SQ.nil | (apply WL.reg; (focus decide +kernel)) | (apply WL.drawP (by assumption); (focus decide +kernel); (focus decide +kernel))
                    | (apply WL.drawF; (focus decide +kernel); (focus decide +kernel)) | (apply WL.reg1; (focus decide +kernel)) | (apply WL.drawP1 (by assumption); (focus decide +kernel); (focus decide +kernel))
                    | (apply WL.drawF1; (focus decide +kernel); (focus decide +kernel)) | (apply WL.drawA (by assumption); (focus decide +kernel); (focus decide +kernel))
                    | (apply WL.drawA1 (by assumption); (focus decide +kernel); (focus decide +kernel)) | apply WL.skip | (apply WL.ct; (focus rfl)) | (apply WL.cf; (focus rfl)) | refine SeqQ.normal ?_ | refine SeqQ.ret ?_
                    | refine SeqQ.exit ?_ | refine BlockQ.normal ?_ | refine BlockQ.ret ?_ | refine BlockQ.here ?_ | refine BlockQ.there (by decide) ?_ | refine Wp.block ?_ | refine Wp.skip ?_ | refine Wp.ret ?_ | refine Wp.exit ?_
                    | refine LoopI.ret ?_ | refine LoopI.exit ?_ | refine LoopQ.normal ?_ | refine LoopQ.ret ?_ | refine LoopQ.exit ?_ | refine Wp.seq (Wp.seq ?_) | refine Wp.seq (Wp.block ?_) | (refine Wp.seq ?_; apply WL.ct; (focus rfl))
                    | (refine Wp.seq ?_; apply WL.cf; (focus rfl)))
                  simp (disch := first | omega | (simp; done) | (simp; omega)) [decide_eq_decide] <;> try rfl
                focus exact absurd (hy rfl) (by decide)
                focus exact absurd (hy rfl) (by decide)
                focus
                  repeat (first
                    | (refine Fr.i ?_; simp only [pput, List.set_cons_zero, List.set_cons_succ]; try rfl)
                    | (refine By.i ?_; simp (disch := first | omega | (simp; done) | (simp; omega)) [wrap_i64, wrap_u64, h7, h4, hT5, g5, entry, gf1, gf2]; first | done | rfl | exact ⟨rfl, rfl⟩)
                    | (refine Wt.i ?_; first | rfl | (simp [h7, h4, hT5, g5, entry, gf1, gf2]; done))
                    | (refine Ns.i ?_; (try simp only [List.append_nil, List.nil_append, List.cons_append, List.append_assoc, List.length_append, List.length_cons, List.length_nil, Nat.zero_add, Nat.reduceAdd]); rfl) | rfl
                    | (apply SL.pass; (focus (refine Wt.i ?_; rfl))) | apply SL.move | apply SL.assign | apply SL.load | apply SL.binOp | apply SL.append | apply SL.builtin | apply SL.fieldAddr | apply SL.indexAddr | apply SL.field
                    | apply SL.extract | apply SL.fcall | apply SL.pick | apply SL.store | apply SL.unOp | apply SL.convert | apply SL.index | apply SL.slice | apply SL.build | apply SL.nilCheck | apply SL.buildSlice | apply SL.box
                    | apply SL.alloc | apply SL.makeFunc | apply SQ.nil | (apply WL.reg; (focus decide +kernel)) | (apply WL.drawP (by assumption); (focus decide +kernel); (focus decide +kernel))
                    | (apply WL.drawF; (focus decide +kernel); (focus decide +kernel)) | (apply WL.reg1; (focus decide +kernel)) | (apply WL.drawP1 (by assumption); (focus decide +kernel); (focus decide +kernel))
                    | (apply WL.drawF1; (focus decide +kernel); (focus decide +kernel)) | (apply WL.drawA (by assumption); (focus decide +kernel); (focus decide +kernel))
                    | (apply WL.drawA1 (by assumption); (focus decide +kernel); (focus decide +kernel)) | apply WL.skip | (apply WL.ct; (focus rfl)) | (apply WL.cf; (focus rfl)) | refine SeqQ.normal ?_ | refine SeqQ.ret ?_
                    | refine SeqQ.exit ?_ | refine BlockQ.normal ?_ | refine BlockQ.ret ?_ | refine BlockQ.here ?_ | refine BlockQ.there (by decide) ?_ | refine Wp.block ?_ | refine Wp.skip ?_ | refine Wp.ret ?_ | refine Wp.exit ?_
                    | refine LoopI.ret ?_ | refine LoopI.exit ?_ | refine LoopQ.normal ?_ | refine LoopQ.ret ?_ | refine LoopQ.exit ?_ | refine Wp.seq (Wp.seq ?_) | refine Wp.seq (Wp.block ?_) | (refine Wp.seq ?_; apply WL.ct; (focus rfl))
                    | (refine Wp.seq ?_; apply WL.cf; (focus rfl)))
                  simp (disch := first | omega | (simp; done) | (simp; omega)) [decide_eq_decide] <;> try rfl
                focus
                  repeat (first
                    | (refine Fr.i ?_; simp only [pput, List.set_cons_zero, List.set_cons_succ]; try rfl)
                    | (refine By.i ?_; simp (disch := first | omega | (simp; done) | (simp; omega)) [wrap_i64, wrap_u64, h7, h4, hT5, g5, entry, gf1, gf2]; first | done | rfl | exact ⟨rfl, rfl⟩)
                    | (refine Wt.i ?_; first | rfl | (simp [h7, h4, hT5, g5, entry, gf1, gf2]; done))
                    | (refine Ns.i ?_; (try simp only [List.append_nil, List.nil_append, List.cons_append, List.append_assoc, List.length_append, List.length_cons, List.length_nil, Nat.zero_add, Nat.reduceAdd]); rfl) | rfl
                    | (apply SL.pass; (focus (refine Wt.i ?_; rfl))) | apply SL.move | apply SL.assign | apply SL.load | apply SL.binOp | apply SL.append | apply SL.builtin | apply SL.fieldAddr | apply SL.indexAddr | apply SL.field
                    | apply SL.extract | apply SL.fcall | apply SL.pick | apply SL.store | apply SL.unOp | apply SL.convert | apply SL.index | apply SL.slice | apply SL.build | apply SL.nilCheck | apply SL.buildSlice | apply SL.box
                    | apply SL.alloc | apply SL.makeFunc | apply SQ.nil | (apply WL.reg; (focus decide +kernel)) | (apply WL.drawP (by assumption); (focus decide +kernel); (focus decide +kernel))
                    | (apply WL.drawF; (focus decide +kernel); (focus decide +kernel)) | (apply WL.reg1; (focus decide +kernel)) | (apply WL.drawP1 (by assumption); (focus decide +kernel); (focus decide +kernel))
                    | (apply WL.drawF1; (focus decide +kernel); (focus decide +kernel)) | (apply WL.drawA (by assumption); (focus decide +kernel); (focus decide +kernel))
                    | (apply WL.drawA1 (by assumption); (focus decide +kernel); (focus decide +kernel)) | apply WL.skip | (apply WL.ct; (focus rfl)) | (apply WL.cf; (focus rfl)) | refine SeqQ.normal ?_ | refine SeqQ.ret ?_
                    | refine SeqQ.exit ?_ | refine BlockQ.normal ?_ | refine BlockQ.ret ?_ | refine BlockQ.here ?_ | refine BlockQ.there (by decide) ?_ | refine Wp.block ?_ | refine Wp.skip ?_ | refine Wp.ret ?_ | refine Wp.exit ?_
                    | refine LoopI.ret ?_ | refine LoopI.exit ?_ | refine LoopQ.normal ?_ | refine LoopQ.ret ?_ | refine LoopQ.exit ?_ | refine Wp.seq (Wp.seq ?_) | refine Wp.seq (Wp.block ?_) | (refine Wp.seq ?_; apply WL.ct; (focus rfl))
                    | (refine Wp.seq ?_; apply WL.cf; (focus rfl)))
                  simp (disch := first | omega | (simp; done) | (simp; omega)) [decide_eq_decide] <;> try rfl
              · have k6 := k5 g5
                subst k6
                cases f5 <;> cases y
                focus
                  repeat (first
                    | (refine Fr.i ?_; simp only [pput, List.set_cons_zero, List.set_cons_succ]; try rfl)
                    | (refine By.i ?_; simp (disch := first | omega | (simp; done) | (simp; omega)) [wrap_i64, wrap_u64, h7, h4, hT5, g5, entry, gf1, gf2]; first | done | rfl | exact ⟨rfl, rfl⟩)
                    | (refine Wt.i ?_; first | rfl | (simp [h7, h4, hT5, g5, entry, gf1, gf2]; done))
                    | (refine Ns.i ?_; (try simp only [List.append_nil, List.nil_append, List.cons_append, List.append_assoc, List.length_append, List.length_cons, List.length_nil, Nat.zero_add, Nat.reduceAdd]); rfl) | rfl
                    | (apply SL.pass; (focus (refine Wt.i ?_; rfl))) | apply SL.move | apply SL.assign | apply SL.load | apply SL.binOp | apply SL.append | apply SL.builtin | apply SL.fieldAddr | apply SL.indexAddr | apply SL.field
                    | apply SL.extract | apply SL.fcall | apply SL.pick | apply SL.store | apply SL.unOp | apply SL.convert | apply SL.index | apply SL.slice | apply SL.build | apply SL.nilCheck | apply SL.buildSlice | apply SL.box
                    | apply SL.alloc | apply SL.makeFunc | apply SQ.nil | (apply WL.reg; (focus decide +kernel)) | (apply WL.drawP (by assumption); (focus decide +kernel); (focus decide +kernel))
                    | (apply WL.drawF; (focus decide +kernel); (focus decide +kernel)) | (apply WL.reg1; (focus decide +kernel)) | (apply WL.drawP1 (by assumption); (focus decide +kernel); (focus decide +kernel))
                    | (apply WL.drawF1; (focus decide +kernel); (focus decide +kernel)) | (apply WL.drawA (by assumption); (focus decide +kernel); (focus decide +kernel))
                    | (apply WL.drawA1 (by assumption); (focus decide +kernel); (focus decide +kernel)) | apply WL.skip | (apply WL.ct; (focus rfl)) | (apply WL.cf; (focus rfl)) | refine SeqQ.normal ?_ | refine SeqQ.ret ?_
                    | refine SeqQ.exit ?_ | refine BlockQ.normal ?_ | refine BlockQ.ret ?_ | refine BlockQ.here ?_ | refine BlockQ.there (by decide) ?_ | refine Wp.block ?_ | refine Wp.skip ?_ | refine Wp.ret ?_ | refine Wp.exit ?_
                    | refine LoopI.ret ?_ | refine LoopI.exit ?_ | refine LoopQ.normal ?_ | refine LoopQ.ret ?_ | refine LoopQ.exit ?_ | refine Wp.seq (Wp.seq ?_) | refine Wp.seq (Wp.block ?_) | (refine Wp.seq ?_; apply WL.ct; (focus rfl))
                    | (refine Wp.seq ?_; apply WL.cf; (focus rfl)))
                  simp (disch := first | omega | (simp; done) | (simp; omega)) [decide_eq_decide] <;> try rfl
                focus
                  repeat (first
                    | (refine Fr.i ?_; simp only [pput, List.set_cons_zero, List.set_cons_succ]; try rfl)
                    | (refine By.i ?_; simp (disch := first | omega | (simp; done) | (simp; omega)) [wrap_i64, wrap_u64, h7, h4, hT5, g5, entry, gf1, gf2]; first | done | rfl | exact ⟨rfl, rfl⟩)
                    | (refine Wt.i ?_; first | rfl | (simp [h7, h4, hT5, g5, entry, gf1, gf2]; done))
                    | (refine Ns.i ?_; (try simp only [List.append_nil, List.nil_append, List.cons_append, List.append_assoc, List.length_append, List.length_cons, List.length_nil, Nat.zero_add, Nat.reduceAdd]); rfl) | rfl
                    | (apply SL.pass; (focus (refine Wt.i ?_; rfl))) | apply SL.move | apply SL.assign | apply SL.load | apply SL.binOp | apply SL.append | apply SL.builtin | apply SL.fieldAddr | apply SL.indexAddr | apply SL.field
                    | apply SL.extract | apply SL.fcall | apply SL.pick | apply SL.store | apply SL.unOp | apply SL.convert | apply SL.index | apply SL.slice | apply SL.build | apply SL.nilCheck | apply SL.buildSlice | apply SL.box
                    | apply SL.alloc | apply SL.makeFunc | apply SQ.nil | (apply WL.reg; (focus decide +kernel)) | (apply WL.drawP (by assumption); (focus decide +kernel); (focus decide +kernel))
                    | (apply WL.drawF; (focus decide +kernel); (focus decide +kernel)) | (apply WL.reg1; (focus decide +kernel)) | (apply WL.drawP1 (by assumption); (focus decide +kernel); (focus decide +kernel))
                    | (apply WL.drawF1; (focus decide +kernel); (focus decide +kernel)) | (apply WL.drawA (by assumption); (focus decide +kernel); (focus decide +kernel))
                    | (apply WL.drawA1 (by assumption); (focus decide +kernel); (focus decide +kernel)) | apply WL.skip | (apply WL.ct; (focus rfl)) | (apply WL.cf; (focus rfl)) | refine SeqQ.normal ?_ | refine SeqQ.ret ?_
                    | refine SeqQ.exit ?_ | refine BlockQ.normal ?_ | refine BlockQ.ret ?_ | refine BlockQ.here ?_ | refine BlockQ.there (by decide) ?_ | refine Wp.block ?_ | refine Wp.skip ?_ | refine Wp.ret ?_ | refine Wp.exit ?_
                    | refine LoopI.ret ?_ | refine LoopI.exit ?_ | refine LoopQ.normal ?_ | refine LoopQ.ret ?_ | refine LoopQ.exit ?_ | refine Wp.seq (Wp.seq ?_) | refine Wp.seq (Wp.block ?_) | (refine Wp.seq ?_; apply WL.ct; (focus rfl))
                    | (refine Wp.seq ?_; apply WL.cf; (focus rfl)))
                  simp (disch := first | omega | (simp; done) | (simp; omega)) [decide_eq_decide] <;> try rfl
                focus exact absurd (hy rfl) (by decide)
                focus
                  repeat (first
                    | (refine Fr.i ?_; simp only [pput, List.set_cons_zero, List.set_cons_succ]; try rfl)
                    | (refine By.i ?_; simp (disch := first | omega | (simp; done) | (simp; omega)) [wrap_i64, wrap_u64, h7, h4, hT5, g5, entry, gf1, gf2]; first | done | rfl | exact ⟨rfl, rfl⟩)
                    | (refine Wt.i ?_; first | rfl | (simp [h7, h4, hT5, g5, entry, gf1, gf2]; done))
                    | (refine Ns.i ?_; (try simp only [List.append_nil, List.nil_append, List.cons_append, List.append_assoc, List.length_append, List.length_cons, List.length_nil, Nat.zero_add, Nat.reduceAdd]); rfl) | rfl
                    | (apply SL.pass; (focus (refine Wt.i ?_; rfl))) | apply SL.move | apply SL.assign | apply SL.load | apply SL.binOp | apply SL.append | apply SL.builtin | apply SL.fieldAddr | apply SL.indexAddr | apply SL.field
                    | apply SL.extract | apply SL.fcall | apply SL.pick | apply SL.store | apply SL.unOp | apply SL.convert | apply SL.index | apply SL.slice | apply SL.build | apply SL.nilCheck | apply SL.buildSlice | apply SL.box
                    | apply SL.alloc | apply SL.makeFunc | apply SQ.nil | (apply WL.reg; (focus decide +kernel)) | (apply WL.drawP (by assumption); (focus decide +kernel); (focus decide +kernel))
                    | (apply WL.drawF; (focus decide +kernel); (focus decide +kernel)) | (apply WL.reg1; (focus decide +kernel)) | (apply WL.drawP1 (by assumption); (focus decide +kernel); (focus decide +kernel))
                    | (apply WL.drawF1; (focus decide +kernel); (focus decide +kernel)) | (apply WL.drawA (by assumption); (focus decide +kernel); (focus decide +kernel))
                    | (apply WL.drawA1 (by assumption); (focus decide +kernel); (focus decide +kernel)) | apply WL.skip | (apply WL.ct; (focus rfl)) | (apply WL.cf; (focus rfl)) | refine SeqQ.normal ?_ | refine SeqQ.ret ?_
                    | refine SeqQ.exit ?_ | refine BlockQ.normal ?_ | refine BlockQ.ret ?_ | refine BlockQ.here ?_ | refine BlockQ.there (by decide) ?_ | refine Wp.block ?_ | refine Wp.skip ?_ | refine Wp.ret ?_ | refine Wp.exit ?_
                    | refine LoopI.ret ?_ | refine LoopI.exit ?_ | refine LoopQ.normal ?_ | refine LoopQ.ret ?_ | refine LoopQ.exit ?_ | refine Wp.seq (Wp.seq ?_) | refine Wp.seq (Wp.block ?_) | (refine Wp.seq ?_; apply WL.ct; (focus rfl))
                    | (refine Wp.seq ?_; apply WL.cf; (focus rfl)))
                  simp (disch := first | omega | (simp; done) | (simp; omega)) [decide_eq_decide] <;> try rfl
  · repeat (first
      | (refine Fr.i ?_; simp only [pput, List.set_cons_zero, List.set_cons_succ]; try rfl)
      | (refine By.i ?_; simp (disch := first | omega | (simp; done) | (simp; omega)) [wrap_i64, wrap_u64, h, hk, hc, entry, gf0, gf1]; first | done | rfl | exact ⟨rfl, rfl⟩)
      | (refine Wt.i ?_; first | rfl | (simp [h, hk, hc, entry, gf0, gf1]; done))
      | (refine Ns.i ?_; (try simp only [List.append_nil, List.nil_append, List.cons_append, List.append_assoc, List.length_append, List.length_cons, List.length_nil, Nat.zero_add, Nat.reduceAdd]); rfl) | rfl
      | (apply SL.pass; (focus (refine Wt.i ?_; rfl))) | apply SL.move | apply SL.assign | apply SL.load | apply SL.binOp | apply SL.append | apply SL.builtin | apply SL.fieldAddr | apply SL.indexAddr | apply SL.field | apply SL.extract
      | apply SL.fcall | apply SL.pick | apply SL.store | apply SL.unOp | apply SL.convert | apply SL.index | apply SL.slice | apply SL.build | apply SL.nilCheck | apply SL.buildSlice | apply SL.box | apply SL.alloc | apply SL.makeFunc
      | apply SQ.nil | (apply WL.reg; (focus decide +kernel)) | (apply WL.drawP (by assumption); (focus decide +kernel); (focus decide +kernel)) | (apply WL.drawF; (focus decide +kernel); (focus decide +kernel))
      | (apply WL.reg1; (focus decide +kernel)) | (apply WL.drawP1 (by assumption); (focus decide +kernel); (focus decide +kernel)) | (apply WL.drawF1; (focus decide +kernel); (focus decide +kernel))
      | (apply WL.drawA (by assumption); (focus decide +kernel); (focus decide +kernel)) | (apply WL.drawA1 (by assumption); (focus decide +kernel); (focus decide +kernel)) | apply WL.skip | (apply WL.ct; (focus rfl))
      | (apply WL.cf; (focus rfl)) | refine SeqQ.normal ?_ | refine SeqQ.ret ?_ | refine SeqQ.exit ?_ | refine BlockQ.normal ?_ | refine BlockQ.ret ?_ | refine BlockQ.here ?_ | refine BlockQ.there (by decide) ?_ | refine Wp.block ?_
      | refine Wp.skip ?_ | refine Wp.ret ?_ | refine Wp.exit ?_ | refine LoopI.ret ?_ | refine LoopI.exit ?_ | refine LoopQ.normal ?_ | refine LoopQ.ret ?_ | refine LoopQ.exit ?_ | refine Wp.seq (Wp.seq ?_) | refine Wp.seq (Wp.block ?_)
      | (refine Wp.seq ?_; apply WL.ct; (focus rfl)) | (refine Wp.seq ?_; apply WL.cf; (focus rfl)))
    simp (disch := first | omega | (simp; done) | (simp; omega)) [decide_eq_decide] <;> try rfl

end Go.Kz

/-
  The table, with Least, Greatest and Shift.
-/
namespace Go.Kz
open Go Go.Proofs
set_option maxRecDepth 10000

noncomputable def Eg1 : PExt := Ex1.add 56 (entry (gf1 .bv64 i64 fun x => some (lenB x.toNat : Int)))
theorem Eg1_uni : Uni Eg1 := Ex1_uni.entry
theorem Eg1_ok : ExtOk Tryd.prog Eg1 := Ex1_ok.add1 follows (fun x z hz => by simp only [Option.some.injEq] at hz; subst hz; exact r_Len64 Ex1_uni rfl x)
noncomputable def Eg2 : PExt := Eg1.add 45 (entry (gf1 .bv64 i64 fun x => some (64 - (lenB x.toNat : Int))))
theorem Eg2_uni : Uni Eg2 := Eg1_uni.entry
theorem Eg2_ok : ExtOk Tryd.prog Eg2 := Eg1_ok.add1 follows (fun x z hz => by simp only [Option.some.injEq] at hz; subst hz; exact r_LeadingZeros64 Eg1_uni rfl rfl x)
noncomputable def Eg3 : PExt := Eg2.add 27 (entry (gf1 .notes (i64.tup2 .bool) fun s => some (greatestN s)))
theorem Eg3_uni : Uni Eg3 := Eg2_uni.entry
theorem Eg3_ok : ExtOk Tryd.prog Eg3 := Eg2_ok.add1 follows (fun x z hz => by simp only [Option.some.injEq] at hz; subst hz; exact r_Greatest Eg2_uni rfl rfl x)
noncomputable def Eg4 : PExt := Eg3.add 26 (entry (gf1 .notes (i64.tup2 .bool) fun s => some (leastN s)))
theorem Eg4_uni : Uni Eg4 := Eg3_uni.entry
theorem Eg4_ok : ExtOk Tryd.prog Eg4 := Eg3_ok.add1 follows (fun x z hz => by simp only [Option.some.injEq] at hz; subst hz; exact r_LeastN Eg3_uni rfl rfl rfl rfl x)
noncomputable def Eg5 : PExt := Eg4.add 30 (entry (gf2 .notes i64 .notes fun s n => gif (n = 1) (some (upN s))))
theorem Eg5_uni : Uni Eg5 := Eg4_uni.entry
theorem Eg5_ok : ExtOk Tryd.prog Eg5 := Eg4_ok.add2 follows (fun x y z hz => by obtain ⟨hg, hz⟩ := gif_some hz; simp only [Option.some.injEq] at hz; subst hz; exact (by subst hg; exact r_Shift Eg4_uni rfl rfl rfl rfl rfl rfl x))

end Go.Kz

/-
  Plans of sets, as what the laws are handed.
-/
namespace Go.Proofs.YtclleofcjnggaaaDoor
open Go Go.Kz Go.ChangeShapes Go.WideShapes Go.ChangeAt Go.WideMaps Go.WideElems Go.RowKit
set_option maxRecDepth 100000

theorem ty_plan3 {d : Nat} {qs : List PD} (h : Typed Tryd.prog (d + 2) 43 qs) : ∃ x : Plan3, asPD Tryd.prog 43 qs = Em.plan3.emb x ∧ fitsP x := by
  obtain ⟨q0, r0, rfl, h0, h⟩ := typedF_cons (typed_struct Tryd.underlying43 h)
  obtain ⟨q1, r1, rfl, h1, h⟩ := typedF_cons h
  obtain rfl := typedF_nil h
  obtain ⟨a, rfl, wa⟩ := typed_int Tryd.underlying5 h0
  obtain ⟨b, rfl, wb⟩ := typed_int Tryd.underlying41 h1
  obtain ⟨a1, a2⟩ := wf_u8 wa
  obtain ⟨b1, b2⟩ := wf_u16 wb
  obtain ⟨a', rfl⟩ : ∃ n : Nat, a = n := ⟨a.toNat, by omega⟩
  obtain ⟨b', rfl⟩ : ∃ n : Nat, b = n := ⟨b.toNat, by omega⟩
  exact ⟨⟨a', b'⟩, asPD_agg (by kernel_rfl), by unfold fitsP; simp only; omega⟩
end Go.Proofs.YtclleofcjnggaaaDoor

/-
  SpanGrows holds: the law answers true, whatever it is handed.
-/
namespace Go.Proofs.YtclleofcjnggaaaDoor
open Go Go.Kz Go.ChangeShapes Go.WideShapes Go.ChangeAt Go.WideMaps Go.WideElems Go.RowKit
set_option maxRecDepth 100000

theorem lifted_SpanGrows (os : Os) (started : os.Started) (H : Type) (enc : TypeId × Value → H) :
    ReturnsInHanded {} Tryd.checked os 8 .any (fun w args => (Rows.spanGrowsSpec.pre enc Tryd.prog Tryd.f8 [] false w args ∧ laidMetH Tryd.prog laidL w) ∧ sizedMet enc Tryd.prog Tryd.f8 (OpenSpec.ofChange Rows.spanGrowsSpec) false w args)
      (Rows.spanGrowsSpec.post enc Tryd.prog Tryd.f8 false true false false) := by
  refine returnsInHanded_of_change_and (C := Tryd.checked) (X := fun w _ => laidMetH Tryd.prog laidL w) (fun _ _ _ hh h => h.of_heap hh) own started (by kernel_rfl) Tryd.func8
    (ChangeSpec.witness_shaped (enc := enc) (C := Tryd.checked) (os := os) (X := fun w _ => laidMetH Tryd.prog laidL w) false (World.doorLaid Tryd.prog 400 os) #[.agg #[.int .i64 0, .int .i64 0, .int .i64 0, .int .i64 0], .agg #[.int .u8 0, .int .u16 0]] 12 rfl (World.shaped_of_RefB (by kernel_rfl) (by kernel_rfl)) (by kernel_rfl) (by kernel_rfl) (by kernel_rfl) (door_met os _)) ?_
  intro W base args ds gs before hval hW _ _ hL _
  have hval : ∀ (j : Nat) t v, Tryd.f8.params[j]? = some t → args[j]? = some v → Value.okWide Tryd.prog W .any base t v := hval
  have hW' := hW
  obtain ⟨p, q, hA, _, _, _, _⟩ := hW
  have hA : DataW.TrodAll enc Tryd.prog W 0 (fun _ => true) true Tryd.f8.params.toList args.toList ds p := hA
  rw [Tryd.params8] at hA hval
  obtain ⟨v1, v2, d1, d2, p1, p2, rfl, _, _, h1, h2⟩ := trodAll_two hA
  obtain ⟨q1, t1, r1⟩ := arg_typed (n := 12) (t := 23) (v := v1) (by kernel_rfl) (hval 0 _ _ rfl rfl) h1
  obtain ⟨p1', e1⟩ := ty_player t1
  rw [e1] at r1
  obtain ⟨q2, t2, r2⟩ := arg_typed (n := 12) (t := 43) (v := v2) (by kernel_rfl) (hval 1 _ _ rfl rfl) h2
  obtain ⟨x1', e2, hx⟩ := ty_plan3 t2
  rw [e2] at r2
  have run := r_SpanGrows Eg5_uni rfl rfl rfl rfl rfl rfl rfl rfl rfl rfl p1' x1' hx
  refine (Run.calls Eg5_ok follows names run (glob hL) (vrs_cons r1 (vrs_cons r2 vrs_nil))).mono fun e' W' ⟨he, hb⟩ => ?_
  subst he
  exact ⟨_, rfl, law_post laidOut rfl hW' hb rfl Tryd.underlying4 (by kernel_rfl) (fun ds hg hd => by
    subst hg
    match ds, hd with
    | [d1, d2], _ => rfl)⟩

theorem spanGrows_holds : Rows.SpanGrowsSaid :=
  OpenClaim.holds_of_wide 8 Tryd.f8 rfl rfl rfl rfl rfl rfl rfl ⟨rfl, rfl, rfl, rfl, rfl⟩ rfl rfl rfl rfl rfl (by kernel_rfl) Tryd.func8 (by kernel_rfl)
    (of_decide_eq_true (by kernel_rfl)) (by unfold Func.isWrapper; first | (rw [if_pos (by decide +kernel)]; kernel_rfl) | (rw [if_neg (by decide +kernel)]; exact ⟨rfl, rfl⟩))
    (fun os started H enc _ => lifted_SpanGrows os started H enc)

theorem spanGrows_card : Rows.SpanGrowsCardSaid :=
  Claim7.holds_tied_plain_at .later [] [.data] true (true, "40abfb383b17e30e6d7cad2be2972cbafc1276e76edec2d6e229a2e74b8f3c14") false
    spanGrows_holds (fun _ h => by cases h) (by kernel_rfl) (fun _ h => by cases h) spanGrows_row_tie rfl ⟨rfl, rfl⟩ (by kernel_rfl) rfl
    (fun f fn hf hfn => by
      obtain rfl : f = 8 := Option.some.inj ((show Tryd.prog.funcNamed "bombarde/bombardelaw11.SpanGrows" = some 8 by kernel_rfl).symm.trans hf) |>.symm
      obtain rfl : fn = Tryd.f8 := (Option.some.inj (Tryd.func8.symm.trans hfn)).symm
      exact ⟨by kernel_rfl, fun j t ht => by
        rw [Tryd.params8] at ht
        have hm := Array.mem_of_getElem? ht
        have hall : (#[23, 43].all fun u => !Tryd.prog.wantsStandIn u) = true := by kernel_rfl
        have := Array.all_eq_true_iff_forall_mem.1 hall t hm
        exact (show Tryd.prog.wantsStandIn t = false by simpa using this)⟩)
    (by kernel_rfl)
end Go.Proofs.YtclleofcjnggaaaDoor
