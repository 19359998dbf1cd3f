/-
  Part P7 of the way: an interpreter over pure data, its soundness, walks through functions.
-/
import Derived.Test.YtclleofcjnggaaaDoorP2
import Derived.Test.YtclleofcjnggaaaDoorP6
import Derived.Test.YtclleofcjnggaaaDoorP4
set_option linter.all false

/-
  Rows of one's own in a store of which little is known.
-/
namespace Go.Kz

@[simp] theorem sz_sz {α : Type} {k : Nat} {xs : List α} : sz (sz k xs) xs = sz k xs := by
  unfold sz
  split <;> rfl

/-- The room behind a slice: none, or the newest end of a row of n. -/
def RowAt (σ : List SObj) (tok : Tok) (e : TypeId) (k n : Nat) : Prop := (n = 0 ∧ tok = .full) ∨ (0 < n ∧ ∃ id, tok = .own id ∧ σ[id]? = some (.own e k n))
def Tok.not (tok : Tok) (id : Nat) : Prop := tok ≠ .own id

theorem RowAt.keep {σ σ' : List SObj} {tok : Tok} {e : TypeId} {k n : Nat} (h : RowAt σ tok e k n) (hk : ∀ id o, tok = .own id → σ[id]? = some o → σ'[id]? = some o) : RowAt σ' tok e k n := by
  rcases h with h | ⟨h0, id, h1, h2⟩
  · exact .inl h
  · exact .inr ⟨h0, id, h1, hk id _ h1 h2⟩
theorem RowAt.more {σ τ : List SObj} {tok : Tok} {e : TypeId} {k n : Nat} (h : RowAt σ tok e k n) : RowAt (σ ++ τ) tok e k n :=
  h.keep fun id o _ h => by
    rw [List.getElem?_append_left (List.getElem?_eq_some_iff.1 h).1]
    exact h

theorem pappend_row {P : Program} {σ : List SObj} {t e : TypeId} {k b s : Nat} {xs : List PD} {p : PD} {tk tok : Tok} (hu : P.underlying t = some (.slice e)) (hi : pelem P e = some (k, b)) (hs : xs = [] ∨ s = k) (hr : RowAt σ tok e k xs.length)
    (hm : xs.length + 1 ≤ 100000000000000) (hb : (xs.length + 1) * b ≤ 140737488355328) :
    ∃ tok' σ', pappend P 0 σ t (.slice s xs tok) (.slice k [p] tk) = some (.slice k (xs ++ [p]) tok', σ') ∧ RowAt σ' tok' e k (xs.length + 1) ∧ (∀ id o, tok ≠ .own id → σ[id]? = some o → σ'[id]? = some o) ∧ (∀ id, tok' = .own id → tok = .own id ∨ id = σ.length) := by
  unfold pelem at hi
  split at hi
  · rename_i i h1
    split at hi
    · rename_i z h2
      split at hi
      · rename_i h3
        simp only [Option.some.injEq, Prod.mk.injEq] at hi
        obtain ⟨rfl, rfl⟩ := hi
        have hs' : xs.length = 0 ∨ s = i.size := hs.imp (fun h => by rw [h]; rfl) (fun h => h)
        have e1 : [p].length = 1 := rfl
        have hmm : xs.length + 1 ≤ maxLen := by simp only [maxLen]; omega
        rcases hr with ⟨hn, rfl⟩ | ⟨hpos, id, rfl, hid⟩
        · refine ⟨.own σ.length, σ ++ [.own e i.size (xs.length + 1)], ?_, .inr ⟨by omega, _, rfl, List.getElem?_concat_length⟩, fun id o _ h => ?_, fun id h => ?_⟩
          · simp only [pappend, hu, h1, h2, e1, hs', h3.2, h3.1, hmm, hb, or_true, and_self, if_true, Nat.one_ne_zero, if_false]
          · rw [List.getElem?_append_left (List.getElem?_eq_some_iff.1 h).1]; exact h
          · right; simpa using h.symm
        · have hlt := (List.getElem?_eq_some_iff.1 hid).1
          have hsz : s = i.size := hs'.resolve_left (by omega)
          refine ⟨.own id, σ.set id (.own e i.size (xs.length + 1)), ?_, .inr ⟨by omega, id, rfl, by rw [List.getElem?_set_self hlt]⟩, fun j o hj h => ?_, fun j h => .inl h⟩
          · simp only [pappend, hu, h1, h2, e1, h3.2, h3.1, hmm, hb, or_true, and_self, if_true, Nat.one_ne_zero, if_false, hsz, Nat.zero_le, hid]
          · have hne : id ≠ j := fun e => hj (by rw [e])
            rw [List.getElem?_set_ne hne]; exact h
      · cases hi
    · cases hi
  · cases hi

theorem pappend_row2 {P : Program} {x : SObj} {J : List SObj} {t e : TypeId} {k b s : Nat} {xs : List PD} {p : PD} {tk tok : Tok} (hx : notOwn (some x)) (hu : P.underlying t = some (.slice e)) (hi : pelem P e = some (k, b)) (hs : xs = [] ∨ s = k) (hr : RowAt (x :: J) tok e k xs.length)
    (hm : xs.length + 1 ≤ 100000000000000) (hb : (xs.length + 1) * b ≤ 140737488355328) :
    ∃ tok' J', pappend P 0 (x :: J) t (.slice s xs tok) (.slice k [p] tk) = some (.slice k (xs ++ [p]) tok', x :: J') ∧ RowAt (x :: J') tok' e k (xs.length + 1) ∧
      ∀ tok2 e2 k2 n2, RowAt (x :: J) tok2 e2 k2 n2 → (∀ id, tok = .own id → tok2 ≠ .own id) → RowAt (x :: J') tok2 e2 k2 n2 ∧ (∀ id, tok' = .own id → tok2 ≠ .own id) := by
  obtain ⟨tok', σ', h1, h2, h3, h4⟩ := pappend_row (tk := tk) (p := p) hu hi hs hr hm hb
  have h0 : σ'[0]? = some x := by
    refine h3 0 x ?_ rfl
    intro e
    subst e
    rcases hr with ⟨_, e⟩ | ⟨_, id, e, h5⟩
    · cases e
    · simp only [Tok.own.injEq] at e
      subst e
      simp only [List.getElem?_cons_zero, Option.some.injEq] at h5
      subst h5
      exact hx
  match σ', h0 with
  | y :: J', h0 =>
    simp only [List.getElem?_cons_zero, Option.some.injEq] at h0
    subst h0
    refine ⟨tok', J', h1, h2, fun tok2 e2 k2 n2 hr2 hne => ⟨hr2.keep fun id o e h => h3 id o (fun e2 => hne id e2 e) h, fun id e e2 => ?_⟩⟩
    rcases h4 id e with e3 | e3
    · exact hne id e3 e2
    · subst e3
      rcases hr2 with ⟨_, e4⟩ | ⟨_, id', e4, h5⟩
      · rw [e4] at e2; cases e2
      · rw [e4] at e2
        simp only [Tok.own.injEq] at e2
        subst e2
        have := (List.getElem?_eq_some_iff.1 h5).1
        omega

theorem pappend_full {P : Program} {σ : List SObj} {t e : TypeId} {k b s : Nat} {p : PD} {tk : Tok} (hu : P.underlying t = some (.slice e)) (hi : pelem P e = some (k, b)) (hb : b ≤ 140737488355328) :
    pappend P 0 σ t (.slice s [] .full) (.slice k [p] tk) = some (.slice k [p] (.own σ.length), σ ++ [.own e k 1]) := by
  unfold pelem at hi
  split at hi
  · rename_i i h1
    split at hi
    · rename_i z h2
      split at hi
      · rename_i h3
        simp only [Option.some.injEq, Prod.mk.injEq] at hi
        obtain ⟨rfl, rfl⟩ := hi
        have hm : 0 + 1 ≤ maxLen := by simp only [maxLen]; omega
        have hb' : (0 + 1) * i.bytes ≤ 140737488355328 := by omega
        simp [pappend, hu, h1, h2, h3.2, h3.1]
        exact ⟨by simp only [maxLen]; omega, hb⟩
      · cases hi
    · cases hi
  · cases hi

theorem pappend_own {P : Program} {σ : List SObj} {t e : TypeId} {id k b : Nat} {xs : List PD} {p : PD} {tk : Tok} (hu : P.underlying t = some (.slice e)) (hi : pelem P e = some (k, b)) (hr : σ[id]? = some (.own e k xs.length))
    (hm : xs.length + 1 ≤ 100000000000000) (hb : (xs.length + 1) * b ≤ 140737488355328) :
    pappend P 0 σ t (.slice k xs (.own id)) (.slice k [p] tk) = some (.slice k (xs ++ [p]) (.own id), σ.set id (.own e k (xs.length + 1))) := by
  unfold pelem at hi
  split at hi
  · rename_i i h1
    split at hi
    · rename_i z h2
      split at hi
      · rename_i h3
        simp only [Option.some.injEq, Prod.mk.injEq] at hi
        obtain ⟨rfl, rfl⟩ := hi
        have e1 : [p].length = 1 := rfl
        have hmm : xs.length + 1 ≤ maxLen := by simp only [maxLen]; omega
        simp only [pappend, hu, h1, h2, e1, h3.2, h3.1, hmm, hb, or_true, and_self, if_true, Nat.one_ne_zero, if_false, Nat.zero_le, hr]
      · cases hi
    · cases hi
  · cases hi

/-- A drawn region whose loads and stores are told apart by the boxes' numbers: run as it stands. -/
theorem Wp.drawD {P : Program} {E : PExt} {rd : Option Nat} {fl : Nat} {fr : List PD} {ms : List Nat} {σ : List SObj} {Q : PO → Prop} {id : Nat} {ops : Array Oper} (fr1 : List PD) (σ1 : List SObj) (h : ∀ n, pdraw P (pcall P E n) fl ops fr σ = some (fr1, σ1)) (k : Q ⟨.normal, fr1, ms, σ1⟩) :
    Wp P E rd (.region id ops true) fl fr ms σ Q := ⟨_, .draw (N := 0) (fun n _ => h n), k⟩

/-- A drawn region that ends a function: both run as they stand. -/
theorem Wp.drawEnd {P : Program} {E : PExt} {fr : List PD} {ms : List Nat} {σ : List SObj} {id : Nat} {ops : Array Oper} {fn : Func} {p : PD} (hn : ∀ n, pdraw P (pcall P E n) 0 ops fr σ = pdraw P (fun _ _ _ _ => none) 0 ops fr σ)
    (h : (match pdraw P (fun _ _ _ _ => none) 0 ops fr σ with | some (fr1, σ1) => (match pfinish P 0 fn ⟨.ret, fr1, ms, σ1⟩ with | some (p1, _) => some p1.strip | none => none) | none => none) = some p) :
    Wp P E none (.seq (.region id ops true) .ret) 0 fr ms σ (fun r => ∃ p1 σ1, pfinish P 0 fn r = some (p1, σ1) ∧ p1.strip = p) := by
  split at h
  · rename_i fr1 σ1 h1
    refine Wp.seq (Wp.drawD fr1 σ1 (fun n => (hn n).trans h1) (SeqQ.normal (Wp.ret ?_)))
    split at h
    · rename_i p1 σ2 h2
      simp only [Option.some.injEq] at h
      exact ⟨p1, σ2, h2, h⟩
    · cases h
  · cases h

end Go.Kz

/-
  SpanFeet, out of the walks: the run answers true.
-/
namespace Go.Kz
open Go Go.Proofs

/-! ### the least and the greatest of a sorted list -/
theorem sorted_head {l : List Int} (hs : l.Pairwise (· < ·)) {m : Int} (hm : m ∈ l) (h : ∀ n ∈ l, m ≤ n) : l.head?.getD 0 = m := by
  cases l with
  | nil => simp at hm
  | cons x xs =>
    simp only [List.head?_cons, Option.getD_some]
    have h1 := h x (by simp)
    rcases List.mem_cons.1 hm with e | e
    · exact e.symm
    · have := (List.pairwise_cons.1 hs).1 m e
      omega
theorem sorted_last {l : List Int} (hs : l.Pairwise (· < ·)) {m : Int} (hm : m ∈ l) (h : ∀ n ∈ l, n ≤ m) : l.getLast?.getD 0 = m := by
  have hne : l ≠ [] := List.ne_nil_of_mem hm
  rw [List.getLast?_eq_getLast hne, Option.getD_some]
  have h1 := h _ (List.getLast_mem hne)
  obtain ⟨i, hi, rfl⟩ := List.getElem_of_mem hm
  rw [List.getLast_eq_getElem] at h1 ⊢
  rw [List.pairwise_iff_getElem] at hs
  by_cases e : i = l.length - 1
  · subst e; rfl
  · have := hs i (l.length - 1) hi (by omega) (by omega)
    omega
theorem head_mem {l : List Int} (h : l ≠ []) : l.head?.getD 0 ∈ l := by
  cases l with
  | nil => exact absurd rfl h
  | cons x xs => simp
theorem last_mem {l : List Int} (h : l ≠ []) : l.getLast?.getD 0 ∈ l := by
  rw [List.getLast?_eq_getLast h]
  exact List.getLast_mem h
theorem head_le {l : List Int} (hs : l.Pairwise (· < ·)) {n : Int} (h : n ∈ l) : l.head?.getD 0 ≤ n := by
  cases l with
  | nil => simp at h
  | cons x xs =>
    simp only [List.head?_cons, Option.getD_some]
    rcases List.mem_cons.1 h with e | e
    · omega
    · have := (List.pairwise_cons.1 hs).1 n e
      omega
theorem le_last {l : List Int} (hs : l.Pairwise (· < ·)) {n : Int} (h : n ∈ l) : n ≤ l.getLast?.getD 0 := by
  have hne : l ≠ [] := List.ne_nil_of_mem h
  rw [List.getLast?_eq_getLast hne, Option.getD_some]
  obtain ⟨i, hi, rfl⟩ := List.getElem_of_mem h
  rw [List.getLast_eq_getElem]
  rw [List.pairwise_iff_getElem] at hs
  by_cases e : i = l.length - 1
  · subst e; omega
  · have := hs i (l.length - 1) hi (by omega) (by omega)
    omega

theorem mem_union {a b : Notes} {n : Int} : n ∈ (unionN a b).list ↔ n ∈ a.list ∨ n ∈ b.list := by
  have h : ∀ k, (unionN a b).mem k = (a.mem k || b.mem k) := fun k => by
    unfold unionN Notes.mem
    split <;> simp
  simp only [mem_list, h, Bool.or_eq_true]
  constructor
  · rintro ⟨k, e, hk, h | h⟩
    · exact .inl ⟨k, e, hk, h⟩
    · exact .inr ⟨k, e, hk, h⟩
  · rintro (⟨k, e, hk, h⟩ | ⟨k, e, hk, h⟩)
    · exact ⟨k, e, hk, .inl h⟩
    · exact ⟨k, e, hk, .inr h⟩
theorem noNotes_list : noNotes.list = [] := by decide +kernel

def pedal1 : Division := ⟨[], true, ⟨0, 0⟩, []⟩

/-- What the feet hold, by the model's fold. -/
def pedalSt (U : Notes) (c : Nat) (st : PlaySt) : Prop := st.hands = [] ∧ st.feet = c ∧ (c = 0 → U.list = [] ∧ st.low = 127 ∧ st.high = 0) ∧ (0 < c → st.low ∈ U.list ∧ st.high ∈ U.list ∧ ∀ n ∈ U.list, st.low ≤ n ∧ n ≤ st.high)

theorem pedal_step {U : Notes} {c : Nat} {st : PlaySt} {d : Division} {s : Notes} (hd : d.pedal = true) (h : pedalSt U c st) : pedalSt (unionN U s) (c + s.list.length) (playStep st (d, s)) := by
  obtain ⟨h1, h2, h3, h4⟩ := h
  unfold playStep
  by_cases hs : s.list = []
  · have hl : s.list.length = 0 := by rw [hs]; rfl
    have hm : ∀ n, n ∈ (unionN U s).list ↔ n ∈ U.list := fun n => by rw [mem_union, hs]; simp
    rw [if_pos hs, hl]
    refine ⟨h1, h2, fun hc => ?_, fun hc => ?_⟩
    · obtain ⟨a1, a2, a3⟩ := h3 hc
      refine ⟨?_, a2, a3⟩
      rw [List.eq_nil_iff_forall_not_mem]
      intro n hn
      rw [hm, a1] at hn
      simp at hn
    · obtain ⟨a1, a2, a3⟩ := h4 hc
      exact ⟨(hm _).2 a1, (hm _).2 a2, fun n hn => a3 n ((hm n).1 hn)⟩
  · have hl : 0 < s.list.length := List.length_pos_iff.2 hs
    rw [if_neg hs, if_pos hd]
    refine ⟨h1, by simp only; rw [h2]; omega, fun hc => by omega, fun _ => ?_⟩
    have m1 := head_mem hs
    have m2 := last_mem hs
    have b1 := fun n hn => head_le (list_sorted s) (n := n) hn
    have b2 := fun n hn => le_last (list_sorted s) (n := n) hn
    simp only
    by_cases hc : c = 0
    · obtain ⟨a1, a2, a3⟩ := h3 hc
      have r1 := list_range m1
      have r2 := list_range m2
      rw [a2, a3, Int.min_eq_right (by omega), Int.max_eq_right (by omega)]
      refine ⟨mem_union.2 (.inr m1), mem_union.2 (.inr m2), fun n hn => ?_⟩
      rcases mem_union.1 hn with hn | hn
      · rw [a1] at hn; simp at hn
      · exact ⟨b1 n hn, b2 n hn⟩
    · obtain ⟨a1, a2, a3⟩ := h4 (by omega)
      refine ⟨?_, ?_, fun n hn => ?_⟩
      · rcases (show min st.low (s.list.head?.getD 0) = st.low ∨ min st.low (s.list.head?.getD 0) = s.list.head?.getD 0 by omega) with e | e
        · rw [e]; exact mem_union.2 (.inl a1)
        · rw [e]; exact mem_union.2 (.inr m1)
      · rcases (show max st.high (s.list.getLast?.getD 0) = st.high ∨ max st.high (s.list.getLast?.getD 0) = s.list.getLast?.getD 0 by omega) with e | e
        · rw [e]; exact mem_union.2 (.inl a2)
        · rw [e]; exact mem_union.2 (.inr m2)
      · rcases mem_union.1 hn with hn | hn
        · have := a3 n hn
          exact ⟨by omega, by omega⟩
        · have c1 := b1 n hn
          have c2 := b2 n hn
          exact ⟨by omega, by omega⟩

theorem pedal_all (l : List Notes) : ∀ (n : Nat) (U : Notes) (c : Nat) (st : PlaySt), pedalSt U c st → pedalSt (l.foldl unionN U) (c + countL l) (((List.replicate l.length pedal1).zip l).foldl playStep st) := by
  induction l with
  | nil => intro n U c st h; simpa [countL] using h
  | cons s l ih =>
    intro n U c st h
    have := ih n _ _ _ (pedal_step (d := pedal1) (s := s) rfl h)
    simp only [List.length_cons, List.replicate_succ, List.zip_cons_cons, List.foldl_cons]
    have e : c + s.list.length + countL l = c + countL (s :: l) := by simp [countL]; omega
    rw [← e]
    exact this

theorem feet_plays (p : Player) (l : List Notes) (h : 0 ≤ p.fs) : playsF p (List.replicate l.length pedal1) l = feetOk p l := by
  have hp := pedal_all l 0 noNotes 0 play0 ⟨rfl, rfl, fun _ => ⟨noNotes_list, rfl, rfl⟩, fun h => absurd h (by omega)⟩
  rw [Nat.zero_add] at hp
  obtain ⟨h1, h2, h3, h4⟩ := hp
  have hst : playL ((List.replicate l.length pedal1).zip l) = ((List.replicate l.length pedal1).zip l).foldl playStep play0 := rfl
  have hU : unionL l = l.foldl unionN noNotes := rfl
  unfold playsF feetOk
  simp only
  rw [hst, hU]
  generalize ((List.replicate l.length pedal1).zip l).foldl playStep play0 = st at *
  generalize l.foldl unionN noNotes = U at *
  rw [h1, h2]
  have hw : widthP U.list = if 0 < countL l then st.high - st.low else 0 := by
    unfold widthP
    split
    · rename_i hc
      obtain ⟨a1, a2, a3⟩ := h4 hc
      have r1 := list_range a1
      have r2 := list_range a2
      rw [sorted_head (list_sorted U) a1 (fun n hn => (a3 n hn).1), sorted_last (list_sorted U) a2 (fun n hn => (a3 n hn).2)]
      exact wrap_i64 (by omega) (by omega)
    · rename_i hc
      obtain ⟨a1, _, _⟩ := h3 (by omega)
      rw [a1]
      rfl
  rw [hw]
  simp only [playHands]
  by_cases hc : 0 < countL l
  · have hc' : (0 : Int) < (countL l : Int) := by omega
    rw [if_pos hc]
    by_cases c1 : (countL l : Int) ≤ p.fn
    · by_cases c2 : st.high - st.low ≤ p.fs
      · rw [if_neg (by omega)]; simp [c1, c2]
      · rw [if_pos (by omega)]; simp [c1, c2]
    · rw [if_pos (by omega)]; simp [c1]
  · rw [if_neg hc]
    by_cases c1 : (countL l : Int) ≤ p.fn
    · rw [if_neg (by omega)]; simp [c1, h]
    · rw [if_pos (by omega)]; simp [c1]

theorem err_fs {p : Player} (h : errOf p = 0) : 0 ≤ p.fs := by
  unfold errOf at h
  split at h
  · cases h
  · omega

variable {E : PExt} (hU : Uni E)
include hU
set_option maxRecDepth 10000
set_option maxHeartbeats 4000000

theorem r_SpanFeet (h0 : E 9 = none) (hk : E 12 = some (entry (gf0 .bool (some true)))) (hc : E 13 = some (entry (gf1 .player i64 fun p => some (errOf p))))
    (h1 : E 31 = some (entry (gf2 .player notesL (Em.bool.tup2 i64) fun p l => gif ((l.length : Int) < 1000000) (some (feetF p l)))))
    (h2 : E 32 = some (entry (gf3 .player divisionsL notesL .bool fun p l k => gif ((l.length : Int) < 1000000 ∧ (k.length : Int) < 1000000) (some (playsF p l k)))))
    (p : Player) (l : List Notes) :
    Run Tryd.prog E 9 [Em.player.emb p, notesL.emb l] (.bool true) := by
  apply Run.bodyL h0 Tryd.func9 rfl
  focus (simp [show Tryd.f9.ntmps = _ from rfl, List.replicate]; rfl)
  by_cases h : errOf p = 0
  · by_cases hl : 4 < (l.length : Int)
    · repeat (first
        | (refine Fr.i ?_; simp only [pput, List.set_cons_zero, List.set_cons_succ]; try rfl)
        | (refine By.i ?_; simp (disch := first | omega | (simp; done) | (simp; omega)) [wrap_i64, wrap_u64, h, hk, hc, hl, entry, gf0, gf1]; first | done | rfl | exact ⟨rfl, rfl⟩)
        | (refine Wt.i ?_; first | rfl | (simp [h, hk, hc, hl, entry, gf0, gf1]; done))
        | (refine Ns.i ?_; (try simp only [List.append_nil, List.nil_append, List.cons_append, List.append_assoc, List.length_append, List.length_cons, List.length_nil, Nat.zero_add, Nat.reduceAdd]); rfl) | rfl
        | (apply SL.pass; (focus (refine Wt.i ?_; rfl))) | apply SL.move | apply SL.assign | apply SL.load | apply SL.binOp | apply SL.append | apply SL.builtin | apply SL.fieldAddr | apply SL.indexAddr | apply SL.field | apply SL.extract
        | apply SL.fcall | apply SL.pick | apply SL.store | apply SL.unOp | apply SL.convert | apply SL.index | apply SL.slice | apply SL.build | apply SL.nilCheck | apply SL.buildSlice | apply SL.box | apply SL.alloc | apply SL.makeFunc
        | apply SQ.nil | (apply WL.reg; (focus decide +kernel)) | (apply WL.drawP (by assumption); (focus decide +kernel); (focus decide +kernel)) | (apply WL.drawF; (focus decide +kernel); (focus decide +kernel))
        | (apply WL.reg1; (focus decide +kernel)) | (apply WL.drawP1 (by assumption); (focus decide +kernel); (focus decide +kernel)) | (apply WL.drawF1; (focus decide +kernel); (focus decide +kernel)) | apply WL.skip
        | (apply WL.ct; (focus rfl)) | (apply WL.cf; (focus rfl)) | refine SeqQ.normal ?_ | refine SeqQ.ret ?_ | refine SeqQ.exit ?_ | refine BlockQ.normal ?_ | refine BlockQ.ret ?_ | refine BlockQ.here ?_ | refine BlockQ.there (by decide) ?_
        | refine Wp.block ?_ | refine Wp.skip ?_ | refine Wp.ret ?_ | refine Wp.exit ?_ | refine LoopI.ret ?_ | refine LoopI.exit ?_ | refine LoopQ.normal ?_ | refine LoopQ.ret ?_ | refine LoopQ.exit ?_ | refine Wp.seq (Wp.seq ?_)
        | refine Wp.seq (Wp.block ?_) | (refine Wp.seq ?_; apply WL.ct; (focus rfl)) | (refine Wp.seq ?_; apply WL.cf; (focus rfl)))
      simp (disch := first | omega | (simp; done) | (simp; omega)) [decide_eq_decide] <;> try rfl
    · have hf : feetF p l = (feetOk p l, 0) := by rw [feetF, if_pos h]
      repeat (first
        | (refine Fr.i ?_; simp only [pput, List.set_cons_zero, List.set_cons_succ]; try rfl)
        | (refine By.i ?_; simp (disch := first | omega | (simp; done) | (simp; omega)) [wrap_i64, wrap_u64, h, hk, hc, h1, hl, hf, entry, gf0, gf1, gf2]; first | done | rfl | exact ⟨rfl, rfl⟩)
        | (refine Wt.i ?_; first | rfl | (simp [h, hk, hc, h1, hl, hf, entry, gf0, gf1, gf2]; done))
        | (refine Ns.i ?_; (try simp only [List.append_nil, List.nil_append, List.cons_append, List.append_assoc, List.length_append, List.length_cons, List.length_nil, Nat.zero_add, Nat.reduceAdd]); rfl) | rfl
        | (apply SL.pass; (focus (refine Wt.i ?_; rfl))) | apply SL.move | apply SL.assign | apply SL.load | apply SL.binOp | apply SL.append | apply SL.builtin | apply SL.fieldAddr | apply SL.indexAddr | apply SL.field | apply SL.extract
        | apply SL.fcall | apply SL.pick | apply SL.store | apply SL.unOp | apply SL.convert | apply SL.index | apply SL.slice | apply SL.build | apply SL.nilCheck | apply SL.buildSlice | apply SL.box | apply SL.alloc | apply SL.makeFunc
        | apply SQ.nil | (apply WL.reg; (focus decide +kernel)) | (apply WL.drawP (by assumption); (focus decide +kernel); (focus decide +kernel)) | (apply WL.drawF; (focus decide +kernel); (focus decide +kernel))
        | (apply WL.reg1; (focus decide +kernel)) | (apply WL.drawP1 (by assumption); (focus decide +kernel); (focus decide +kernel)) | (apply WL.drawF1; (focus decide +kernel); (focus decide +kernel)) | apply WL.skip
        | (apply WL.ct; (focus rfl)) | (apply WL.cf; (focus rfl)) | refine SeqQ.normal ?_ | refine SeqQ.ret ?_ | refine SeqQ.exit ?_ | refine BlockQ.normal ?_ | refine BlockQ.ret ?_ | refine BlockQ.here ?_ | refine BlockQ.there (by decide) ?_
        | refine Wp.block ?_ | refine Wp.skip ?_ | refine Wp.ret ?_ | refine Wp.exit ?_ | refine LoopI.ret ?_ | refine LoopI.exit ?_ | refine LoopQ.normal ?_ | refine LoopQ.ret ?_ | refine LoopQ.exit ?_ | refine Wp.seq (Wp.seq ?_)
        | refine Wp.seq (Wp.block ?_) | (refine Wp.seq ?_; apply WL.ct; (focus rfl)) | (refine Wp.seq ?_; apply WL.cf; (focus rfl)))
      refine Wp.loopI (fun m fr σ => ∃ (i z : Nat) (q : List Division), ∃ gg : Nat → PD, (i + m = l.length ∧ q = List.replicate i pedal1 ∧ (q = [] ∨ z = 5)) ∧ fr = [Em.player.emb p, notesL.emb l, .ptr 0 0, .tup [], .bool false, .bool (feetOk p l), .int .i64 0, .slice z (q.map Em.division.emb) (outTok 1 q.length), .int .i64 i, gg 9, gg 10, gg 11, gg 12, gg 13, gg 14, gg 15, gg 16, gg 17, gg 18, gg 19, gg 20, gg 21, gg 22, gg 23, gg 24, gg 25, gg 26, gg 27, gg 28, gg 29, gg 30, gg 31, gg 32, gg 33, gg 34, gg 35, gg 36, gg 37, gg 38, gg 39, gg 40, gg 41, gg 42, gg 43, gg 44, gg 45, gg 46, gg 47] ∧ σ = St [.box (Em.player.emb p)] 69 5 q.length) ?_ (l.length) (by refine ⟨0, 0, [], ?_⟩; exact exF (⟨by omega, rfl, .inl rfl⟩) (by (first | rfl | (simp []; repeat (first | rfl | (apply And.intro))) | (simp []; done))) (by (first | rfl | (simp []; repeat (first | rfl | (apply And.intro))) | (simp []; done))))
      rintro m fr σ ⟨i, z, q, gg, hI, rfl, rfl⟩
      obtain ⟨hm, hq, hz⟩ := hI
      have hql : q.length = i := by rw [hq, List.length_replicate]
      by_cases hi : i < l.length
      · have h5 : (i : Int) < (l.length : Int) := by omega
        repeat (first
          | (refine Fr.i ?_; simp only [pput, List.set_cons_zero, List.set_cons_succ]; try rfl)
          | (refine By.i ?_; simp (disch := first | omega | (simp; done) | (simp; omega)) [wrap_i64, wrap_u64, h5, hz]; first | done | rfl | exact ⟨rfl, rfl⟩) | (refine Wt.i ?_; first | rfl | (simp [h5, hz]; done))
          | (refine Ns.i ?_; (try simp only [List.append_nil, List.nil_append, List.cons_append, List.append_assoc, List.length_append, List.length_cons, List.length_nil, Nat.zero_add, Nat.reduceAdd]); rfl) | rfl
          | (apply SL.pass; (focus (refine Wt.i ?_; rfl))) | apply SL.move | apply SL.assign | apply SL.load | apply SL.binOp | apply SL.append | apply SL.builtin | apply SL.fieldAddr | apply SL.indexAddr | apply SL.field | apply SL.extract
          | apply SL.fcall | apply SL.pick | apply SL.store | apply SL.unOp | apply SL.convert | apply SL.index | apply SL.slice | apply SL.build | apply SL.nilCheck | apply SL.buildSlice | apply SL.box | apply SL.alloc | apply SL.makeFunc
          | apply SQ.nil | (apply WL.reg; (focus decide +kernel)) | (apply WL.drawP (by assumption); (focus decide +kernel); (focus decide +kernel)) | (apply WL.drawF; (focus decide +kernel); (focus decide +kernel))
          | (apply WL.reg1; (focus decide +kernel)) | (apply WL.drawP1 (by assumption); (focus decide +kernel); (focus decide +kernel)) | (apply WL.drawF1; (focus decide +kernel); (focus decide +kernel)) | apply WL.skip
          | (apply WL.ct; (focus rfl)) | (apply WL.cf; (focus rfl)) | refine SeqQ.normal ?_ | refine SeqQ.ret ?_ | refine SeqQ.exit ?_ | refine BlockQ.normal ?_ | refine BlockQ.ret ?_ | refine BlockQ.here ?_
          | refine BlockQ.there (by decide) ?_ | refine Wp.block ?_ | refine Wp.skip ?_ | refine Wp.ret ?_ | refine Wp.exit ?_ | refine LoopI.ret ?_ | refine LoopI.exit ?_ | refine LoopQ.normal ?_ | refine LoopQ.ret ?_ | refine LoopQ.exit ?_
          | refine Wp.seq (Wp.seq ?_) | refine Wp.seq (Wp.block ?_) | (refine Wp.seq ?_; apply WL.ct; (focus rfl)) | (refine Wp.seq ?_; apply WL.cf; (focus rfl)))
        refine LoopI.normal (m - 1) (by omega) (by refine ⟨i + 1, 5, q ++ [pedal1], ?_⟩; exact exF (⟨by omega, by rw [hq, List.replicate_succ'], .inr rfl⟩) (by (first | rfl | (simp [pedal1]; repeat (first | rfl | (apply And.intro))) | (simp [pedal1]; done))) (by (first | rfl | (simp [pedal1]; repeat (first | rfl | (apply And.intro))) | (simp [pedal1]; done))))
      · have h5 : ¬ (i : Int) < (l.length : Int) := by omega
        have h6 : i = l.length := by omega
        subst h6
        have hp : playsF p q l = feetOk p l := by rw [hq]; exact feet_plays p l (err_fs h)
        have h7 : (l.length : Int) < 1000000 := by omega
        have h8 : (q.length : Int) < 1000000 := by omega
        have h9 := dec_list (e := Em.division) (tok := outTok 1 q.length) hz
        clear hq
        repeat (first
          | (refine Fr.i ?_; simp only [pput, List.set_cons_zero, List.set_cons_succ]; try rfl)
          | (refine By.i ?_; simp (disch := first | omega | (simp; done) | (simp; omega)) [wrap_i64, wrap_u64, h5, h2, hp, h7, h8, h9, entry, gf3]; first | done | rfl | exact ⟨rfl, rfl⟩)
          | (refine Wt.i ?_; first | rfl | (simp [h5, h2, hp, h7, h8, h9, entry, gf3]; done))
          | (refine Ns.i ?_; (try simp only [List.append_nil, List.nil_append, List.cons_append, List.append_assoc, List.length_append, List.length_cons, List.length_nil, Nat.zero_add, Nat.reduceAdd]); rfl) | rfl
          | (apply SL.pass; (focus (refine Wt.i ?_; rfl))) | apply SL.move | apply SL.assign | apply SL.load | apply SL.binOp | apply SL.append | apply SL.builtin | apply SL.fieldAddr | apply SL.indexAddr | apply SL.field | apply SL.extract
          | apply SL.fcall | apply SL.pick | apply SL.store | apply SL.unOp | apply SL.convert | apply SL.index | apply SL.slice | apply SL.build | apply SL.nilCheck | apply SL.buildSlice | apply SL.box | apply SL.alloc | apply SL.makeFunc
          | apply SQ.nil | (apply WL.reg; (focus decide +kernel)) | (apply WL.drawP (by assumption); (focus decide +kernel); (focus decide +kernel)) | (apply WL.drawF; (focus decide +kernel); (focus decide +kernel))
          | (apply WL.reg1; (focus decide +kernel)) | (apply WL.drawP1 (by assumption); (focus decide +kernel); (focus decide +kernel)) | (apply WL.drawF1; (focus decide +kernel); (focus decide +kernel)) | apply WL.skip
          | (apply WL.ct; (focus rfl)) | (apply WL.cf; (focus rfl)) | refine SeqQ.normal ?_ | refine SeqQ.ret ?_ | refine SeqQ.exit ?_ | refine BlockQ.normal ?_ | refine BlockQ.ret ?_ | refine BlockQ.here ?_
          | refine BlockQ.there (by decide) ?_ | refine Wp.block ?_ | refine Wp.skip ?_ | refine Wp.ret ?_ | refine Wp.exit ?_ | refine LoopI.ret ?_ | refine LoopI.exit ?_ | refine LoopQ.normal ?_ | refine LoopQ.ret ?_ | refine LoopQ.exit ?_
          | refine Wp.seq (Wp.seq ?_) | refine Wp.seq (Wp.block ?_) | (refine Wp.seq ?_; apply WL.ct; (focus rfl)) | (refine Wp.seq ?_; apply WL.cf; (focus rfl)))
        simp (disch := first | omega | (simp; done) | (simp; omega)) [decide_eq_decide] <;> try rfl
  · repeat (first
      | (refine Fr.i ?_; simp only [pput, List.set_cons_zero, List.set_cons_succ]; try rfl)
      | (refine By.i ?_; simp (disch := first | omega | (simp; done) | (simp; omega)) [wrap_i64, wrap_u64, h, hk, hc, entry, gf0, gf1]; first | done | rfl | exact ⟨rfl, rfl⟩)
      | (refine Wt.i ?_; first | rfl | (simp [h, hk, hc, entry, gf0, gf1]; done))
      | (refine Ns.i ?_; (try simp only [List.append_nil, List.nil_append, List.cons_append, List.append_assoc, List.length_append, List.length_cons, List.length_nil, Nat.zero_add, Nat.reduceAdd]); rfl) | rfl
      | (apply SL.pass; (focus (refine Wt.i ?_; rfl))) | apply SL.move | apply SL.assign | apply SL.load | apply SL.binOp | apply SL.append | apply SL.builtin | apply SL.fieldAddr | apply SL.indexAddr | apply SL.field | apply SL.extract
      | apply SL.fcall | apply SL.pick | apply SL.store | apply SL.unOp | apply SL.convert | apply SL.index | apply SL.slice | apply SL.build | apply SL.nilCheck | apply SL.buildSlice | apply SL.box | apply SL.alloc | apply SL.makeFunc
      | apply SQ.nil | (apply WL.reg; (focus decide +kernel)) | (apply WL.drawP (by assumption); (focus decide +kernel); (focus decide +kernel)) | (apply WL.drawF; (focus decide +kernel); (focus decide +kernel))
      | (apply WL.reg1; (focus decide +kernel)) | (apply WL.drawP1 (by assumption); (focus decide +kernel); (focus decide +kernel)) | (apply WL.drawF1; (focus decide +kernel); (focus decide +kernel)) | apply WL.skip
      | (apply WL.ct; (focus rfl)) | (apply WL.cf; (focus rfl)) | refine SeqQ.normal ?_ | refine SeqQ.ret ?_ | refine SeqQ.exit ?_ | refine BlockQ.normal ?_ | refine BlockQ.ret ?_ | refine BlockQ.here ?_ | refine BlockQ.there (by decide) ?_
      | refine Wp.block ?_ | refine Wp.skip ?_ | refine Wp.ret ?_ | refine Wp.exit ?_ | refine LoopI.ret ?_ | refine LoopI.exit ?_ | refine LoopQ.normal ?_ | refine LoopQ.ret ?_ | refine LoopQ.exit ?_ | refine Wp.seq (Wp.seq ?_)
      | refine Wp.seq (Wp.block ?_) | (refine Wp.seq ?_; apply WL.ct; (focus rfl)) | (refine Wp.seq ?_; apply WL.cf; (focus rfl)))
    simp (disch := first | omega | (simp; done) | (simp; omega)) [decide_eq_decide] <;> try rfl

end Go.Kz

/-
  The table, with feet.
-/
namespace Go.Kz
open Go Go.Proofs
set_option maxRecDepth 10000

noncomputable def Ef1 : PExt := E11.add 58 (entry (gf1 .bv64 i64 fun x => some ((bits x).length : Int)))
theorem Ef1_uni : Uni Ef1 := E11_uni.entry
theorem Ef1_ok : ExtOk Tryd.prog Ef1 := E11_ok.add1 follows (fun x z hz => by simp only [Option.some.injEq] at hz; subst hz; exact r_ones E11_uni rfl x)
noncomputable def Ef2 : PExt := Ef1.add 57 (entry (gf2 .notes .notes .notes fun a b => some (unionN a b)))
theorem Ef2_uni : Uni Ef2 := Ef1_uni.entry
theorem Ef2_ok : ExtOk Tryd.prog Ef2 := Ef1_ok.add2 follows (fun x y z hz => by simp only [Option.some.injEq] at hz; subst hz; exact r_union Ef1_uni rfl x y)
noncomputable def Ef3 : PExt := Ef2.add 51 (entry (gf1 .notes i64 fun s => some (s.list.length : Int)))
theorem Ef3_uni : Uni Ef3 := Ef2_uni.entry
theorem Ef3_ok : ExtOk Tryd.prog Ef3 := Ef2_ok.add1 follows (fun x z hz => by simp only [Option.some.injEq] at hz; subst hz; exact r_Count3 Ef2_uni rfl rfl x)
noncomputable def Ef4 : PExt := Ef3.add 48 (entry (gf2 .player notesL .bool fun p l => gif ((l.length : Int) < 1000000) (some (feetOk p l))))
theorem Ef4_uni : Uni Ef4 := Ef3_uni.entry
theorem Ef4_ok : ExtOk Tryd.prog Ef4 := Ef3_ok.add2 follows (fun x y z hz => by obtain ⟨hg, hz⟩ := gif_some hz; simp only [Option.some.injEq] at hz; subst hz; exact r_feet Ef3_uni rfl rfl rfl rfl rfl x y hg)
noncomputable def Ef5 : PExt := Ef4.add 31 (entry (gf2 .player notesL (Em.bool.tup2 i64) fun p l => gif ((l.length : Int) < 1000000) (some (feetF p l))))
theorem Ef5_uni : Uni Ef5 := Ef4_uni.entry
theorem Ef5_ok : ExtOk Tryd.prog Ef5 := Ef4_ok.add2 follows (fun x y z hz => by obtain ⟨hg, hz⟩ := gif_some hz; simp only [Option.some.injEq] at hz; subst hz; exact r_Feet Ef4_uni rfl rfl rfl x y hg)
noncomputable def Ef6 : PExt := Ef5.add 15 (entry (gf2 .player i64s i64s fun p l => gif ((l.length : Int) < 900000) (some (divF p l))))
theorem Ef6_uni : Uni Ef6 := Ef5_uni.entry
theorem Ef6_ok : ExtOk Tryd.prog Ef6 := Ef5_ok.add2 follows (fun x y z hz => by obtain ⟨hg, hz⟩ := gif_some hz; simp only [Option.some.injEq] at hz; subst hz; exact r_divisions Ef5_uni rfl rfl x y hg)
noncomputable def Ef7 : PExt := Ef6.add 22 (entry (gf2 .player .notes .bool fun p s => some (heldF p s)))
theorem Ef7_uni : Uni Ef7 := Ef6_uni.entry
theorem Ef7_ok : ExtOk Tryd.prog Ef7 := Ef6_ok.add2 follows (fun x y z hz => by simp only [Option.some.injEq] at hz; subst hz; exact r_Held Ef6_uni rfl rfl rfl x y)
noncomputable def Ef8 : PExt := Ef7.add 32 (entry (gf3 .player divisionsL notesL .bool fun p l k => gif ((l.length : Int) < 1000000 ∧ (k.length : Int) < 1000000) (some (playsF p l k))))
theorem Ef8_uni : Uni Ef8 := Ef7_uni.entry
theorem Ef8_ok : ExtOk Tryd.prog Ef8 := Ef7_ok.add3 follows (fun x y u z hz => by obtain ⟨hg, hz⟩ := gif_some hz; simp only [Option.some.injEq] at hz; subst hz; exact r_Plays Ef7_uni rfl rfl rfl rfl x y u hg.1 hg.2)

end Go.Kz

/-
  Layer 3: Range and Within, in plain words.
-/
namespace Go.Kz
open Go Go.Proofs

theorem one_shl {n k : Nat} (hn : n < 64) (hk : k < 64) : (1#64 <<< n).getLsbD k = decide (k = n) := by
  rw [BitVec.getLsbD_shiftLeft]
  by_cases h : k < n
  · have : k ≠ n := by omega
    simp [h, this]
  · by_cases e : k = n
    · subst e; simp [hk]
    · have h2 : k - n ≠ 0 := by omega
      simp [h, e, hk, h2]
theorem withN_mem {s : Notes} {n k : Nat} (hn : n < 128) (hk : k < 128) : (withN s n).mem k = (s.mem k || decide (k = n)) := by
  unfold withN Notes.mem
  by_cases h1 : n < 64
  · by_cases h2 : k < 64
    · simp only [h1, h2, if_true, BitVec.getLsbD_or, one_shl h1 h2]
    · have : k ≠ n := by omega
      simp [h1, h2, this]
  · by_cases h2 : k < 64
    · have : k ≠ n := by omega
      simp [h1, h2, this]
    · simp only [h1, h2, if_false, BitVec.getLsbD_or]
      rw [one_shl (by omega) (by omega)]
      congr 1
      rw [decide_eq_decide]
      omega
theorem noNotes_mem (k : Nat) : noNotes.mem k = false := by
  unfold noNotes Notes.mem
  split <;> simp

def rangeTo (low : Nat) : Nat → Notes
  | 0 => noNotes
  | k + 1 => withN (rangeTo low k) (low + k)
theorem rangeTo_mem (low : Nat) : ∀ (k j : Nat), low + k ≤ 128 → j < 128 → (rangeTo low k).mem j = decide (low ≤ j ∧ j < low + k)
  | 0, j, _, _ => by
    rw [rangeTo, noNotes_mem]
    symm
    rw [decide_eq_false_iff_not]
    omega
  | k + 1, j, h, hj => by
    rw [rangeTo, withN_mem (by omega) hj, rangeTo_mem low k j (by omega) hj, ← Bool.decide_or, decide_eq_decide]
    omega

def rangeN (c : Compass) : Notes := rangeTo c.low.toNat (c.high - c.low + 1).toNat
def rangeF (c : Compass) : Notes × Int := if errC c = 0 then (rangeN c, 0) else (noNotes, errC c)

theorem errC_ok {c : Compass} (h : errC c = 0) : 0 ≤ c.low ∧ c.low ≤ c.high ∧ c.high ≤ 127 := by
  unfold errC at h
  split at h
  · cases h
  · split at h
    · cases h
    · omega
theorem rangeN_list {c : Compass} (h : errC c = 0) {n : Int} : n ∈ (rangeN c).list ↔ c.low ≤ n ∧ n ≤ c.high := by
  obtain ⟨h1, h2, h3⟩ := errC_ok h
  rw [mem_list]
  constructor
  · rintro ⟨k, rfl, hk, hm⟩
    rw [rangeN, rangeTo_mem _ _ _ (by omega) hk, decide_eq_true_eq] at hm
    omega
  · intro hn
    refine ⟨n.toNat, by omega, by omega, ?_⟩
    rw [rangeN, rangeTo_mem _ _ _ (by omega) (by omega), decide_eq_true_eq]
    omega

theorem without_zero {a b : BitVec 64} : a &&& ~~~b = 0#64 ↔ ∀ i, i < 64 → a.getLsbD i = true → b.getLsbD i = true := by
  constructor
  · intro h i hi ha
    have h2 : (a &&& ~~~b).getLsbD i = false := by rw [h]; simp
    rw [BitVec.getLsbD_and, BitVec.getLsbD_not, ha] at h2
    simpa [hi] using h2
  · intro h
    apply BitVec.eq_of_getLsbD_eq
    intro i hi
    rw [BitVec.getLsbD_and, BitVec.getLsbD_not]
    have := h i hi
    cases ha : a.getLsbD i
    · simp
    · simp [this ha]

def withinF (a b : Notes) : Bool := decide ((⟨a.low &&& ~~~b.low, a.high &&& ~~~b.high⟩ : Notes) = noNotes)
theorem within_iff {a b : Notes} : withinF a b = true ↔ ∀ n ∈ a.list, n ∈ b.list := by
  unfold withinF noNotes
  rw [decide_eq_true_eq, Notes.mk.injEq, without_zero, without_zero]
  constructor
  · rintro ⟨h1, h2⟩ n hn
    obtain ⟨k, rfl, hk, hm⟩ := mem_list.1 hn
    refine mem_list.2 ⟨k, rfl, hk, ?_⟩
    unfold Notes.mem at hm ⊢
    split at hm
    · rename_i h; rw [if_pos h]; exact h1 k h hm
    · rename_i h; rw [if_neg h]; exact h2 _ (by omega) hm
  · intro h
    constructor
    · intro i hi ha
      obtain ⟨k, e, hk, hm⟩ := mem_list.1 (h i (mem_list.2 ⟨i, rfl, by omega, by simpa [Notes.mem, hi] using ha⟩))
      have : k = i := by omega
      subst this
      simpa [Notes.mem, hi] using hm
    · intro i hi ha
      obtain ⟨k, e, hk, hm⟩ := mem_list.1 (h ((i + 64 : Nat) : Int) (mem_list.2 ⟨i + 64, rfl, by omega, by simpa [Notes.mem] using ha⟩))
      have : k = i + 64 := by omega
      subst this
      simpa [Notes.mem] using hm

/-- The error of a set at a division. -/
def errAt (x : Division × Notes) : Int := if errC x.1.keys ≠ 0 then errC x.1.keys else if withinF x.2 (rangeN x.1.keys) then 0 else 23
def firstErr (l : List (Division × Notes)) : Int := ((l.map errAt).find? (fun e => decide (e ≠ 0))).getD 0

theorem firstErr_zero {l : List (Division × Notes)} (h : ∀ j (hj : j < l.length), errAt l[j] = 0) : firstErr l = 0 := by
  unfold firstErr
  have : (l.map errAt).find? (fun e => decide (e ≠ 0)) = none := by
    rw [List.find?_eq_none]
    intro e he
    obtain ⟨x, hx, rfl⟩ := List.mem_map.1 he
    obtain ⟨j, hj, rfl⟩ := List.getElem_of_mem hx
    simp [h j hj]
  rw [this]
  rfl
theorem firstErr_at : ∀ (l : List (Division × Notes)) (i : Nat) (hi : i < l.length), (∀ j (hj : j < i), errAt (l[j]'(by omega)) = 0) → errAt l[i] ≠ 0 → firstErr l = errAt l[i]
  | [], i, hi, _, _ => absurd hi (by simp)
  | x :: l, 0, hi, _, h => by
    unfold firstErr
    simp only [List.getElem_cons_zero] at h ⊢
    rw [List.map_cons, List.find?_cons_of_pos (by simpa using h)]
    rfl
  | x :: l, i + 1, hi, h0, h => by
    have hx : errAt x = 0 := h0 0 (by omega)
    have := firstErr_at l i (by simpa using hi) (fun j hj => by simpa using h0 (j + 1) (by omega)) (by simpa using h)
    unfold firstErr at this ⊢
    rw [List.map_cons, List.find?_cons_of_neg (by simp [hx])]
    simpa using this

def pedalsOf (l : List (Division × Notes)) : List Notes := (l.filter fun x => x.1.pedal).map fun x => x.2
def handsOf (l : List (Division × Notes)) : List Notes := (l.filter fun x => !x.1.pedal && !decide (x.2.list = [])).map fun x => x.2

theorem errAt_cases {d : Division} {s : Notes} (h : errAt (d, s) = 0) : errC d.keys = 0 ∧ withinF s (rangeN d.keys) = true := by
  unfold errAt at h
  by_cases h1 : errC d.keys = 0
  · refine ⟨h1, ?_⟩
    simp only [h1, ne_eq, not_true_eq_false, if_false] at h
    cases h2 : withinF s (rangeN d.keys) with
    | true => rfl
    | false => rw [h2] at h; simp at h
  · simp only [h1, ne_eq, not_false_eq_true, if_true] at h

theorem pedalsOf_take {l : List (Division × Notes)} {i : Nat} (h : i < l.length) : pedalsOf (l.take (i + 1)) = if l[i].1.pedal then pedalsOf (l.take i) ++ [l[i].2] else pedalsOf (l.take i) := by
  unfold pedalsOf
  rw [List.take_add_one, List.getElem?_eq_getElem h, List.filter_append, List.map_append]
  cases hp : l[i].1.pedal <;> simp [hp]
theorem handsOf_take {l : List (Division × Notes)} {i : Nat} (h : i < l.length) : handsOf (l.take (i + 1)) = if l[i].1.pedal = false ∧ l[i].2.list ≠ [] then handsOf (l.take i) ++ [l[i].2] else handsOf (l.take i) := by
  unfold handsOf
  rw [List.take_add_one, List.getElem?_eq_getElem h, List.filter_append, List.map_append]
  cases hp : l[i].1.pedal <;> by_cases hl : l[i].2.list = [] <;> simp [hp, hl]
theorem pedalsOf_len (l : List (Division × Notes)) : (pedalsOf l).length ≤ l.length := by
  unfold pedalsOf
  rw [List.length_map]
  exact List.length_filter_le _ _
theorem handsOf_len (l : List (Division × Notes)) : (handsOf l).length ≤ l.length := by
  unfold handsOf
  rw [List.length_map]
  exact List.length_filter_le _ _

def manualOk (p : Player) : List (List Int) → Bool
  | [] => true
  | [a] => decide (divs1 p a ≠ [])
  | [a, b] => oneOk p a && oneOk p b
  | _ => false

/-- What Possible answers for a right player. -/
def possF (p : Player) (l : List Division) (k : List Notes) : Bool × Int :=
  if k.length ≠ l.length then (false, 5) else
  if firstErr (l.zip k) ≠ 0 then (false, firstErr (l.zip k)) else
  (feetOk p (pedalsOf (l.zip k)) && manualOk p ((handsOf (l.zip k)).map Notes.list), 0)

/-! ### the law's side -/
def feetSt (U : Notes) (c : Nat) (st : PlaySt) : Prop := st.feet = c ∧ (c = 0 → U.list = [] ∧ st.low = 127 ∧ st.high = 0) ∧ (0 < c → st.low ∈ U.list ∧ st.high ∈ U.list ∧ ∀ n ∈ U.list, st.low ≤ n ∧ n ≤ st.high)

theorem plays_all : ∀ (l : List (Division × Notes)) (U : Notes) (c : Nat) (st : PlaySt), feetSt U c st → feetSt ((pedalsOf l).foldl unionN U) (c + countL (pedalsOf l)) (l.foldl playStep st) ∧ (l.foldl playStep st).hands = st.hands ++ handsOf l
  | [], U, c, st, h => ⟨by simpa [pedalsOf, countL] using h, by simp [handsOf]⟩
  | (d, s) :: l, U, c, st, h => by
    cases hd : d.pedal with
    | true =>
      have h1 : pedalSt U c { st with hands := [] } := ⟨rfl, h⟩
      have h2 := (pedal_step (d := d) (s := s) hd h1).2
      have h3 : feetSt (unionN U s) (c + s.list.length) (playStep st (d, s)) ∧ (playStep st (d, s)).hands = st.hands := by
        unfold playStep at h2 ⊢
        by_cases hs : s.list = []
        · simp only [hs, if_true] at h2 ⊢
          exact ⟨h2, trivial⟩
        · simp only [hs, if_false, hd, if_true] at h2 ⊢
          exact ⟨h2, trivial⟩
      obtain ⟨h4, h5⟩ := plays_all l _ _ _ h3.1
      have e1 : pedalsOf ((d, s) :: l) = s :: pedalsOf l := by simp [pedalsOf, hd]
      have e2 : handsOf ((d, s) :: l) = handsOf l := by simp [handsOf, hd]
      rw [List.foldl_cons, e1, e2, List.foldl_cons]
      have e3 : c + countL (s :: pedalsOf l) = c + s.list.length + countL (pedalsOf l) := by simp [countL]; omega
      rw [e3]
      exact ⟨h4, by rw [h5, h3.2]⟩
    | false =>
      have e1 : pedalsOf ((d, s) :: l) = pedalsOf l := by simp [pedalsOf, hd]
      by_cases hs : s.list = []
      · have e2 : handsOf ((d, s) :: l) = handsOf l := by simp [handsOf, hd, hs]
        have e4 : playStep st (d, s) = st := by simp [playStep, hs]
        rw [List.foldl_cons, e1, e2, e4]
        exact plays_all l _ _ _ h
      · have e2 : handsOf ((d, s) :: l) = s :: handsOf l := by simp [handsOf, hd, hs]
        have e4 : playStep st (d, s) = ⟨st.feet, st.low, st.high, st.hands ++ [s]⟩ := by simp [playStep, hs, hd]
        rw [List.foldl_cons, e1, e2, e4]
        obtain ⟨h4, h5⟩ := plays_all l U c ⟨st.feet, st.low, st.high, st.hands ++ [s]⟩ h
        exact ⟨h4, by rw [h5, List.append_assoc]; rfl⟩

theorem held_divs (p : Player) (s : Notes) (h : ¬ p.hs < 0) : heldF p s = decide (divs1 p s.list ≠ []) := by
  have e : okAt p s.list = ok1 p s.list := by
    funext t
    simp only [okAt, ok1, one_holds p _ h]
  unfold heldF divF divTo divs1
  rw [e, List.length_map, decide_eq_decide, List.length_pos_iff]

theorem plays_poss (p : Player) (l : List Division) (k : List Notes) (h : errOf p = 0) : playsF p l k = (feetOk p (pedalsOf (l.zip k)) && manualOk p ((handsOf (l.zip k)).map Notes.list)) := by
  have hfs := err_fs h
  have hhs := err_hs h
  obtain ⟨⟨h2, h3, h4⟩, h1⟩ := plays_all (l.zip k) noNotes 0 play0 ⟨rfl, fun _ => ⟨noNotes_list, rfl, rfl⟩, fun h => absurd h (by omega)⟩
  rw [Nat.zero_add] at h2 h3 h4
  have hst : playL (l.zip k) = (l.zip k).foldl playStep play0 := rfl
  have hU : unionL (pedalsOf (l.zip k)) = (pedalsOf (l.zip k)).foldl unionN noNotes := rfl
  have hh : playHands p ((l.zip k).foldl playStep play0).hands = manualOk p ((handsOf (l.zip k)).map Notes.list) := by
    rw [h1]
    show playHands p ([] ++ handsOf (l.zip k)) = _
    rw [List.nil_append]
    rcases handsOf (l.zip k) with _ | ⟨a, _ | ⟨b, _ | ⟨c, r⟩⟩⟩
    · rfl
    · simp only [playHands, List.map_cons, List.map_nil, manualOk, held_divs p a hhs]
    · simp only [playHands, List.map_cons, List.map_nil, manualOk, one_holds p _ hhs]
    · rfl
  unfold playsF feetOk
  simp only
  rw [hst, hU, hh]
  generalize (l.zip k).foldl playStep play0 = st at *
  generalize (pedalsOf (l.zip k)).foldl unionN noNotes = U at *
  generalize pedalsOf (l.zip k) = q at *
  generalize manualOk p ((handsOf (l.zip k)).map Notes.list) = mo at *
  rw [h2]
  have hw : widthP U.list = if 0 < countL q then st.high - st.low else 0 := by
    unfold widthP
    split
    · rename_i hc
      obtain ⟨a1, a2, a3⟩ := h4 hc
      have r1 := list_range a1
      have r2 := list_range a2
      rw [sorted_head (list_sorted U) a1 (fun n hn => (a3 n hn).1), sorted_last (list_sorted U) a2 (fun n hn => (a3 n hn).2)]
      exact wrap_i64 (by omega) (by omega)
    · rename_i hc
      obtain ⟨a1, _, _⟩ := h3 (by omega)
      rw [a1]
      rfl
  rw [hw]
  by_cases hc : 0 < countL q
  · have hc' : (0 : Int) < (countL q : Int) := by omega
    rw [if_pos hc]
    by_cases c1 : (countL q : Int) ≤ p.fn
    · by_cases c2 : st.high - st.low ≤ p.fs
      · rw [if_neg (by omega)]; simp [c1, c2]
      · rw [if_pos (by omega)]; simp [c1, c2]
    · rw [if_pos (by omega)]; simp [c1]
  · rw [if_neg hc]
    by_cases c1 : (countL q : Int) ≤ p.fn
    · rw [if_neg (by omega)]; simp [c1, hfs]
    · rw [if_pos (by omega)]; simp [c1]

end Go.Kz
