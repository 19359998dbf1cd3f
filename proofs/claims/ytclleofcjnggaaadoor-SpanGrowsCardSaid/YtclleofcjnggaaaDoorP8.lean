/-
  Part P8 of the way: an interpreter over pure data, its soundness, walks through functions.
-/
import Derived.Test.YtclleofcjnggaaaDoorP7
import Derived.Test.YtclleofcjnggaaaDoorP4
import Derived.KernelRfl
set_option linter.all false

/-
  Drawn regions with an append whose calls stand loose of loads, but leave the store alone.
-/
namespace Go.Kz

def ownOp : Op → Bool
  | .box .. => true
  | .call { callee := .builtin .append, .. } => true
  | _ => false

/-- Boxes and appends stand loose of no load. -/
def mixOwn (ops : Array Oper) : Bool := masksK ops.toList [] fun ms =>
  (List.range ops.size).all fun i => !isAt ownOp ops.toList i || noLoose ops.toList ms i

section
variable {P : Program} {E : PExt} {fl : Nat} {fr : List PD} {σ : List SObj}

theorem pcallP_E (hU : Uni E) {tg : FuncId ⊕ Nat} {args : List PD} {x : PD × List SObj} (h : pcallP E fl tg args σ = some x) : pcallE E fl tg args σ = some x := by
  cases tg with
  | inr id => cases h
  | inl f =>
    simp only [pcallP] at h
    split at h
    · rename_i g hg
      split at h
      · rename_i p hp
        simp only [Option.some.injEq] at h; subst h
        simp only [pcallE, hg]
        exact hU f g args p hg hp fl σ
      · cases h
    · cases h

theorem pstep_PE (hU : Uni E) {op : Op} {x : PD × List SObj} (h : pstep P (pcallP E) fl fr σ op = some x) : pstep P (pcallE E) fl fr σ op = some x := by
  unfold pstep at *
  cases hc : pcallee fr op with
  | some q =>
    obtain ⟨tg, args⟩ := q
    simp only [hc] at h ⊢
    exact pcallP_E hU h
  | none =>
    simp only [hc] at h ⊢
    exact h

theorem pdseq_mix (hU : Uni E) {ops : Array Oper} : ∀ (l : List Oper) (i : Nat) (fr : List PD) (σ : List SObj) (x : List PD × List SObj), ops.toList.drop i = l → mixOwn ops = true →
    pseq P (pcallP E) fl ops l fr σ = some x → pdseq P (pcallE E) fl ops (flags ops i l) fr σ = some x
  | [], _, _, _, _, _, _, h => h
  | o :: l, i, fr, σ, x, hd, hm, h => by
    have ho : ops.toList[i]? = some o := by
      have := congrArg List.head? hd
      rw [List.head?_drop] at this
      simpa using this
    have hd' : ops.toList.drop (i + 1) = l := by rw [← List.drop_drop, hd]; rfl
    have hi : i < ops.size := by
      have := (List.getElem?_eq_some_iff.1 ho).1
      simpa using this
    have hown : ownOp o.op = false ∨ freeAt ops i = true := by
      have hm' := hm
      rw [mixOwn, masksK_eq] at hm'
      simp only [List.all_eq_true, List.mem_range, Bool.or_eq_true, Bool.not_eq_true'] at hm'
      have := hm' i hi
      rw [isAt, ho] at this
      simpa [freeAt] using this
    simp only [pseq] at h
    simp only [flags, pdseq]
    split at h
    · rename_i hw
      rw [if_pos hw]
      split at h
      · rename_i p σ1 hp
        cases hf : (!shapeMove o.op || freeAt ops i) with
        | true =>
          simp only [pstep_PE hU hp]
          exact pdseq_mix hU l (i + 1) _ _ _ hd' hm h
        | false =>
          simp only [Bool.or_eq_false_iff, Bool.not_eq_false'] at hf
          obtain ⟨hf1, hf2⟩ := hf
          rw [hf2] at hown
          have hop : ownOp o.op = false := by simpa using hown
          obtain ⟨e1, e2⟩ := pstep_pure (P := P) hU (fl' := max fl σ.length) (op := o.op) (by
            cases hq : o.op with
            | box t x => rw [hq] at hop; cases hop
            | call c =>
              obtain ⟨callee, args, ts⟩ := c
              cases callee with
              | builtin b => cases b <;> first | rfl | (rw [hq] at hop; cases hop)
              | value f => rfl
              | invoke r m => rfl
            | _ => rfl) hf1 hp
          simp only at e2
          subst e2
          simp only [e1, List.drop_length, List.append_nil]
          exact pdseq_mix hU l (i + 1) _ _ _ hd' hm h
      · cases h
    · rename_i hw
      rw [if_neg hw]
      exact pdseq_mix hU l (i + 1) _ _ _ hd' hm h

theorem WL.drawM1 {rd : Option Nat} {ms : List Nat} {Q : PO → Prop} {ops : Array Oper} {id : Nat} (hU : Uni E) (_hd : noDyn ops = true) (hs : (fastOk ops && mixOwn ops) = true) (h : SQ P (pcallP E) fl ops ops.toList fr σ (fun fr' σ' => Q ⟨.normal, fr', ms, σ'⟩)) :
    Wp P E rd (.region id ops true) fl fr ms σ Q := by
  simp only [Bool.and_eq_true, fastOk_eq] at hs
  obtain ⟨fr', σ', h1, h2⟩ := h.ex
  exact .draw hs.1 (pdseq_mix hU _ 0 _ _ _ (by simp) hs.2 h1) h2
theorem WL.drawM {rd : Option Nat} {ms : List Nat} {Q : PO → Prop} {ops : Array Oper} {id : Nat} {y : Code} (hU : Uni E) (_hd : noDyn ops = true) (hs : (fastOk ops && mixOwn ops) = true) (h : SQ P (pcallP E) fl ops ops.toList fr σ (fun fr' σ' => Wp P E rd y fl fr' ms σ' Q)) :
    Wp P E rd (.seq (.region id ops true) y) fl fr ms σ Q := by
  simp only [Bool.and_eq_true, fastOk_eq] at hs
  obtain ⟨fr', σ', h1, h2⟩ := h.ex
  exact .seq (.draw hs.1 (pdseq_mix hU _ 0 _ _ _ (by simp) hs.2 h1) (.normal h2))
end
end Go.Kz

/-
  Layer 11: the least span, in plain words.
-/
namespace Go.Kz
open Go Go.Proofs

def withHs (p : Player) (w : Int) : Player := ⟨p.hn, w, p.fn, p.fs⟩

/-- What a division of a list asks for. -/
def cost (l : List Int) (t : Nat) : Int := max (widthP (l.take t)) (widthP (l.drop t))
/-- The parts are not too long. -/
def fitsN (p : Player) (l : List Int) (t : Nat) : Bool := decide (((l.take t).length : Int) ≤ p.hn) && decide (((l.drop t).length : Int) ≤ p.hn)

def leastStep (l : List Int) (st : Int × Bool) (t : Nat) : Int × Bool := if st.2 = false ∨ cost l t < st.1 then (cost l t, true) else st
def leastL (l : List Int) (ts : List Nat) : Int × Bool := ts.foldl (leastStep l) (0, false)

theorem widthP_range {s : Notes} {l : List Int} (h : ∀ n ∈ l, n ∈ s.list) (hs : l.Pairwise (· < ·)) : 0 ≤ widthP l ∧ widthP l ≤ 127 := by
  unfold widthP
  by_cases hn : l = []
  · subst hn; simp
  · have m1 := head_mem hn
    have m2 := last_mem hn
    have r1 := list_range (h _ m1)
    have r2 := list_range (h _ m2)
    have := head_le hs m2
    rw [wrap_i64 (by omega) (by omega)]
    omega

theorem cost_range (s : Notes) (t : Nat) : 0 ≤ cost s.list t ∧ cost s.list t ≤ 127 := by
  have h1 := widthP_range (s := s) (l := s.list.take t) (fun n hn => List.mem_of_mem_take hn) ((list_sorted s).sublist (List.take_sublist _ _))
  have h2 := widthP_range (s := s) (l := s.list.drop t) (fun n hn => List.mem_of_mem_drop hn) ((list_sorted s).sublist (List.drop_sublist _ _))
  unfold cost
  omega

theorem ok1_cost (p : Player) (l : List Int) (t : Nat) (w : Int) : ok1 (withHs p w) l t = (fitsN p l t && decide (cost l t ≤ w)) := by
  have e1 : ∀ x, oneOk (withHs p w) x = (decide ((x.length : Int) ≤ p.hn) && decide (widthP x ≤ w)) := fun x => rfl
  unfold ok1 fitsN cost
  rw [e1, e1, Bool.eq_iff_iff]
  simp only [Bool.and_eq_true, decide_eq_true_eq]
  omega

theorem divs127 (p : Player) (s : Notes) : divs1 (withHs p 127) s.list = (List.range (s.list.length + 1)).filter (fitsN p s.list) := by
  unfold divs1
  apply List.filter_congr
  intro t _
  rw [ok1_cost]
  have := (cost_range s t).2
  simp [this]

theorem least_spec (l : List Int) : ∀ (ts : List Nat) (st : Int × Bool), (st.2 = false → st.1 = 0) →
    ((ts.foldl (leastStep l) st).2 = false → ts = [] ∧ st.2 = false ∧ (ts.foldl (leastStep l) st).1 = 0) ∧
    ((ts.foldl (leastStep l) st).2 = true → ((∃ t ∈ ts, (ts.foldl (leastStep l) st).1 = cost l t) ∨ (st.2 = true ∧ (ts.foldl (leastStep l) st).1 = st.1)) ∧ (∀ t ∈ ts, (ts.foldl (leastStep l) st).1 ≤ cost l t) ∧ (st.2 = true → (ts.foldl (leastStep l) st).1 ≤ st.1))
  | [], st, h => ⟨fun h1 => ⟨rfl, h1, h h1⟩, fun h1 => ⟨.inr ⟨h1, rfl⟩, by simp, fun _ => Int.le_refl _⟩⟩
  | t :: ts, st, h => by
    rw [List.foldl_cons]
    by_cases hc : st.2 = false ∨ cost l t < st.1
    · have e : leastStep l st t = (cost l t, true) := if_pos hc
      rw [e]
      obtain ⟨h1, h2⟩ := least_spec l ts (cost l t, true) (by simp)
      refine ⟨fun h3 => absurd ((h1 h3).2.1) (by simp), fun h3 => ?_⟩
      obtain ⟨a1, a2, a3⟩ := h2 h3
      have a3 := a3 rfl
      simp only at a3
      refine ⟨?_, ?_, fun hst => ?_⟩
      · rcases a1 with ⟨u, hu, e2⟩ | ⟨_, e2⟩
        · exact .inl ⟨u, by simp [hu], e2⟩
        · exact .inl ⟨t, by simp, e2⟩
      · intro u hu
        rcases List.mem_cons.1 hu with rfl | hu
        · exact a3
        · exact a2 u hu
      · rcases hc with hc | hc
        · rw [hst] at hc; cases hc
        · omega
    · have e : leastStep l st t = st := if_neg hc
      rw [e]
      have hst : st.2 = true := by
        cases hq : st.2 with
        | true => rfl
        | false => exact absurd (.inl hq) hc
      obtain ⟨h1, h2⟩ := least_spec l ts st h
      refine ⟨fun h3 => absurd ((h1 h3).2.1) (by rw [hst]; simp), fun h3 => ?_⟩
      obtain ⟨a1, a2, a3⟩ := h2 h3
      refine ⟨?_, ?_, a3⟩
      · rcases a1 with ⟨u, hu, e2⟩ | e2
        · exact .inl ⟨u, by simp [hu], e2⟩
        · exact .inr e2
      · intro u hu
        rcases List.mem_cons.1 hu with rfl | hu
        · have := a3 hst
          omega
        · exact a2 u hu

/-- What Least answers for a right player. -/
def leastF (p : Player) (s : Notes) : Int × Bool × Int := ((leastL s.list (divs1 (withHs p 127) s.list)).1, (leastL s.list (divs1 (withHs p 127) s.list)).2, 0)

theorem held_cost (p : Player) (s : Notes) (w : Int) (hw : 0 ≤ w) : heldF (withHs p w) s = true ↔ ∃ t ∈ divs1 (withHs p 127) s.list, cost s.list t ≤ w := by
  rw [held_divs _ _ (show ¬ (withHs p w).hs < 0 by show ¬ w < 0; omega), divs127, decide_eq_true_eq]
  have key : divs1 (withHs p w) s.list ≠ [] ↔ ∃ t, t ∈ divs1 (withHs p w) s.list := by
    constructor
    · intro h
      obtain ⟨x, xs, e⟩ := List.exists_cons_of_ne_nil h
      exact ⟨x, by rw [e]; simp⟩
    · rintro ⟨t, ht⟩ h
      rw [h] at ht
      simp at ht
  rw [key]
  unfold divs1
  simp only [List.mem_filter, List.mem_range, ok1_cost, Bool.and_eq_true, decide_eq_true_eq]
  constructor
  · rintro ⟨t, h1, h2, h3⟩
    exact ⟨t, ⟨h1, h2⟩, h3⟩
  · rintro ⟨t, ⟨h1, h2⟩, h3⟩
    exact ⟨t, h1, h2, h3⟩

theorem least_none (p : Player) (s : Notes) (h : (leastL s.list (divs1 (withHs p 127) s.list)).2 = false) : (leastL s.list (divs1 (withHs p 127) s.list)).1 = 0 ∧ ∀ w, 0 ≤ w → heldF (withHs p w) s = false := by
  obtain ⟨h1, _⟩ := least_spec s.list (divs1 (withHs p 127) s.list) (0, false) (fun _ => rfl)
  obtain ⟨a1, _, a3⟩ := h1 h
  refine ⟨a3, fun w hw => ?_⟩
  cases hh : heldF (withHs p w) s with
  | false => rfl
  | true =>
    obtain ⟨t, ht, _⟩ := (held_cost p s w hw).1 hh
    rw [a1] at ht
    simp at ht
theorem least_some (p : Player) (s : Notes) (h : (leastL s.list (divs1 (withHs p 127) s.list)).2 = true) :
    0 ≤ (leastL s.list (divs1 (withHs p 127) s.list)).1 ∧ (leastL s.list (divs1 (withHs p 127) s.list)).1 ≤ 127 ∧ ∀ w, 0 ≤ w → heldF (withHs p w) s = decide ((leastL s.list (divs1 (withHs p 127) s.list)).1 ≤ w) := by
  obtain ⟨_, h2⟩ := least_spec s.list (divs1 (withHs p 127) s.list) (0, false) (fun _ => rfl)
  obtain ⟨a1, a2, _⟩ := h2 h
  have e : (divs1 (withHs p 127) s.list).foldl (leastStep s.list) (0, false) = leastL s.list (divs1 (withHs p 127) s.list) := rfl
  rw [e] at a1 a2
  generalize leastL s.list (divs1 (withHs p 127) s.list) = x at *
  rcases a1 with ⟨t, ht, e1⟩ | ⟨e1, _⟩
  · have hr := cost_range s t
    refine ⟨by omega, by omega, fun w hw => ?_⟩
    rw [Bool.eq_iff_iff, held_cost p s w hw, decide_eq_true_eq]
    constructor
    · rintro ⟨u, hu, hc⟩
      have := a2 u hu
      omega
    · intro hle
      exact ⟨t, ht, by omega⟩
  · cases e1

theorem divs1_len (p : Player) (l : List Int) : (divs1 p l).length ≤ l.length + 1 := by
  unfold divs1
  exact Nat.le_trans (List.length_filter_le _ _) (by simp)
theorem divs1_mem {p : Player} {l : List Int} {t : Nat} (h : t ∈ divs1 p l) : t ≤ l.length ∧ ok1 p l t = true := by
  unfold divs1 at h
  rw [List.mem_filter, List.mem_range] at h
  exact ⟨by omega, h.2⟩

end Go.Kz

/-
  Layer 3: sets by their lists. Layer 11: all divisions of a set.
-/
namespace Go.Kz
open Go Go.Proofs

theorem notes_ext {a b : Notes} (h : ∀ k, k < 128 → a.mem k = b.mem k) : a = b := by
  obtain ⟨al, ah⟩ := a
  obtain ⟨bl, bh⟩ := b
  have e1 : al = bl := by
    apply BitVec.eq_of_getLsbD_eq
    intro i hi
    have := h i (by omega)
    simpa [Notes.mem, hi] using this
  have e2 : ah = bh := by
    apply BitVec.eq_of_getLsbD_eq
    intro i hi
    have := h (i + 64) (by omega)
    have h2 : ¬ i + 64 < 64 := by omega
    simpa only [Notes.mem, h2, if_false, Nat.add_sub_cancel] using this
  rw [e1, e2]

theorem ofL_mem {l : List Int} (h : ∀ n ∈ l, 0 ≤ n ∧ n ≤ 127) {k : Nat} (hk : k < 128) : (ofL l).mem k = decide ((k : Int) ∈ l) := by
  have key : ∀ (l : List Int) (s : Notes), (∀ n ∈ l, 0 ≤ n ∧ n ≤ 127) → (l.foldl (fun s n => if 0 ≤ n ∧ n ≤ 127 then withN s n.toNat else s) s).mem k = (s.mem k || decide ((k : Int) ∈ l)) := by
    intro l
    induction l with
    | nil => intro s _; simp
    | cons n l ih =>
      intro s hn
      obtain ⟨h1, h2⟩ := hn n (by simp)
      rw [List.foldl_cons, ih _ (fun x hx => hn x (by simp [hx])), if_pos ⟨h1, h2⟩, withN_mem (by omega) hk, Bool.or_assoc, ← Bool.decide_or]
      congr 1
      rw [decide_eq_decide, List.mem_cons]
      constructor
      · rintro (e | e)
        · left; omega
        · right; exact e
      · rintro (e | e)
        · left; omega
        · right; exact e
  have := key l noNotes h
  rw [noNotes_mem, Bool.false_or] at this
  exact this

theorem without_mem {a b : Notes} {k : Nat} (hk : k < 128) : (⟨a.low &&& ~~~b.low, a.high &&& ~~~b.high⟩ : Notes).mem k = (a.mem k && !b.mem k) := by
  unfold Notes.mem
  split
  · rename_i h; simp [h]
  · have : k - 64 < 64 := by omega
    simp [this]

theorem mem_iff_list {s : Notes} {k : Nat} (hk : k < 128) : s.mem k = decide ((k : Int) ∈ s.list) := by
  rw [Bool.eq_iff_iff, decide_eq_true_eq, mem_list]
  constructor
  · intro h; exact ⟨k, rfl, hk, h⟩
  · rintro ⟨j, e, _, h⟩
    have : j = k := by omega
    subst this
    exact h

def withoutN (a b : Notes) : Notes := ⟨a.low &&& ~~~b.low, a.high &&& ~~~b.high⟩

theorem take_range {s : Notes} {t : Nat} : ∀ n ∈ s.list.take t, 0 ≤ n ∧ n ≤ 127 := fun n hn => list_range (List.mem_of_mem_take hn)
theorem drop_range {s : Notes} {t : Nat} : ∀ n ∈ s.list.drop t, 0 ≤ n ∧ n ≤ 127 := fun n hn => list_range (List.mem_of_mem_drop hn)

/-- What a set is without the first of its notes. -/
theorem without_take (s : Notes) (t : Nat) : withoutN s (ofL (s.list.take t)) = ofL (s.list.drop t) := by
  apply notes_ext
  intro k hk
  unfold withoutN
  rw [without_mem hk, ofL_mem take_range hk, ofL_mem drop_range hk, mem_iff_list hk]
  have hs := list_sorted s
  have e : s.list = s.list.take t ++ s.list.drop t := (List.take_append_drop t s.list).symm
  rw [Bool.eq_iff_iff]
  simp only [Bool.and_eq_true, Bool.not_eq_true', decide_eq_true_eq, decide_eq_false_iff_not]
  constructor
  · rintro ⟨h1, h2⟩
    rw [e] at h1
    rcases List.mem_append.1 h1 with h | h
    · exact absurd h h2
    · exact h
  · intro h
    refine ⟨List.mem_of_mem_drop h, fun h2 => ?_⟩
    rw [e, List.pairwise_append] at hs
    have := hs.2.2 _ h2 _ h
    omega

theorem allNotes_take (s : Notes) (t : Nat) : allNotes (s.list.take t) = true := by
  unfold allNotes
  rw [List.all_eq_true]
  intro n hn
  have := take_range n hn
  simp [rightIn, this]

/-- The division after t notes. -/
def divAt (s : Notes) (t : Nat) : Notes × Notes := (ofL (s.list.take t), ofL (s.list.drop t))
def allL (p : Player) (s : Notes) : List (Notes × Notes) := (divs1 p s.list).map (divAt s)
/-- What All and Two answer. -/
def allF (p : Player) (s : Notes) : List (Notes × Notes) × Int := if errOf p = 0 then (allL p s, 0) else ([], errOf p)
def twoF (p : Player) (s : Notes) : Notes × Notes × Bool × Int := if errOf p = 0 then (match allL p s with | [] => (noNotes, noNotes, false, 0) | x :: _ => (x.1, x.2, true, 0)) else (noNotes, noNotes, false, errOf p)

theorem divF_divs1 (p : Player) (l : List Int) (h : ¬ p.hs < 0) : divF p l = (divs1 p l).map fun t : Nat => (t : Int) := by
  have e : okAt p l = ok1 p l := by
    funext t
    simp only [okAt, ok1, one_holds p _ h]
  unfold divF divTo divs1
  rw [e]

end Go.Kz

/-
  Layer 11: All and Two.
-/
namespace Go.Kz
open Go Go.Proofs

variable {E : PExt} (hU : Uni E)
include hU
set_option maxRecDepth 10000
set_option maxHeartbeats 4000000

theorem r_All (h0 : E 16 = none) (h1 : E 35 = some (entry (gf1 .player i64 fun p => some (errOf p)))) (h2 : E 38 = some (entry (gf1 .notes i64s fun s => some s.list)))
    (h3 : E 39 = some gDiv) (h4 : E 53 = none) (h5 : E 43 = some (entry (gf2 .player i64s .bool fun p l => gif ((l.length : Int) < 1000000) (some (oneOk p l)))))
    (h6 : E 28 = some (entry (gf1 i64s (Em.notes.tup2 i64) fun l => gif ((l.length : Int) < 1000000) (some (ofF l)))))
    (h7 : E 29 = some (entry (gf2 .notes .notes .notes fun a b => some ⟨a.low &&& ~~~b.low, a.high &&& ~~~b.high⟩))) (p : Player) (s : Notes) :
    Run Tryd.prog E 16 [Em.player.emb p, Em.notes.emb s] (((Em.notes2.list 4).tup2 i64).emb (allF p s)) := by
  apply Run.bodyL h0 Tryd.func16 rfl
  focus (simp [show Tryd.f16.ntmps = _ from rfl, List.replicate]; rfl)
  by_cases h : errOf p = 0
  · have hlen : s.list.length ≤ 128 := listTo_len s 128
    repeat (first
      | (refine Fr.i ?_; simp only [pput, List.set_cons_zero, List.set_cons_succ]; try rfl)
      | (refine By.i ?_; simp (disch := first | omega | (simp; done) | (simp; omega)) [wrap_i64, wrap_u64, h, h1, h2, h3, gDiv, entry, gf1]; first | done | rfl | exact ⟨rfl, rfl⟩)
      | (refine Wt.i ?_; first | rfl | (simp [h, h1, h2, h3, gDiv, entry, gf1]; done))
      | (refine Ns.i ?_; (try simp only [List.append_nil, List.nil_append, List.cons_append, List.append_assoc, List.length_append, List.length_cons, List.length_nil, Nat.zero_add, Nat.reduceAdd]); rfl) | rfl
      | (apply SL.pass; (focus (refine Wt.i ?_; rfl))) | apply SL.move | apply SL.assign | apply SL.load | apply SL.binOp | apply SL.append | apply SL.builtin | apply SL.fieldAddr | apply SL.indexAddr | apply SL.field | apply SL.extract
      | apply SL.fcall | apply SL.pick | apply SL.store | apply SL.unOp | apply SL.convert | apply SL.index | apply SL.slice | apply SL.build | apply SL.nilCheck | apply SL.buildSlice | apply SL.box | apply SL.alloc | apply SL.makeFunc
      | apply SQ.nil | (apply WL.reg; (focus decide +kernel)) | (apply WL.drawP (by assumption); (focus decide +kernel); (focus decide +kernel)) | (apply WL.drawF; (focus decide +kernel); (focus decide +kernel))
      | (apply WL.reg1; (focus decide +kernel)) | (apply WL.drawP1 (by assumption); (focus decide +kernel); (focus decide +kernel)) | (apply WL.drawF1; (focus decide +kernel); (focus decide +kernel))
      | (apply WL.drawM (by assumption); (focus decide +kernel); (focus decide +kernel)) | (apply WL.drawM1 (by assumption); (focus decide +kernel); (focus decide +kernel)) | apply WL.skip | (apply WL.ct; (focus rfl))
      | (apply WL.cf; (focus rfl)) | refine SeqQ.normal ?_ | refine SeqQ.ret ?_ | refine SeqQ.exit ?_ | refine BlockQ.normal ?_ | refine BlockQ.ret ?_ | refine BlockQ.here ?_ | refine BlockQ.there (by decide) ?_ | refine Wp.block ?_
      | refine Wp.skip ?_ | refine Wp.ret ?_ | refine Wp.exit ?_ | refine LoopI.ret ?_ | refine LoopI.exit ?_ | refine LoopQ.normal ?_ | refine LoopQ.ret ?_ | refine LoopQ.exit ?_ | refine Wp.seq (Wp.seq ?_) | refine Wp.seq (Wp.block ?_)
      | (refine Wp.seq ?_; apply WL.ct; (focus rfl)) | (refine Wp.seq ?_; apply WL.cf; (focus rfl)))
    obtain ⟨D, hD⟩ : ∃ D, D = divs1 p s.list := ⟨_, rfl⟩
    obtain ⟨l, hl⟩ : ∃ l, l = s.list := ⟨_, rfl⟩
    have hmem : ∀ t ∈ D, t ≤ l.length := fun t ht => by rw [hD] at ht; rw [hl]; exact (divs1_mem ht).1
    have hdl : D.length ≤ 129 := by have := divs1_len p s.list; rw [← hD] at this; omega
    have hfin : allF p s = (D.map (divAt s), 0) := by rw [allF, if_pos h, allL, ← hD]
    have hof : ∀ t, ofF (l.take t) = (ofL (l.take t), 0) := fun t => by rw [ofF, hl, if_pos (allNotes_take s t)]
    have hwo : ∀ t, (⟨s.low &&& ~~~(ofL (l.take t)).low, s.high &&& ~~~(ofL (l.take t)).high⟩ : Notes) = ofL (l.drop t) := fun t => by rw [hl]; exact without_take s t
    have hda : ∀ t, divAt s t = (ofL (l.take t), ofL (l.drop t)) := fun t => by rw [hl]; rfl
    rw [hfin, ← hl]
    rw [← hl] at hD hlen
    have hit := iter_div hU h4 h5 p l (by omega) 5 4
    rw [← hD] at hit
    clear hfin hD hl
    refine Wp.rangeFuncL (n := 6) (σ1 := fun L => [.box (Em.player.emb p), .box (Em.notes.emb s), .box (.slice 0 [] .full), .box (i64s.emb l), .box (Em.player.emb p), .box (i64s.emb l), .mark, L]) hit rfl rfl (by decide) (fun L => rfl) (fun L hL => ?_)
    refine RoundsQ.ind (fun t : Nat => [PD.int .i64 (t : Int)]) (fun done rest σ => D = done ++ rest ∧ ∃ (z : Nat) (tok : Tok) (J : List SObj), (done = [] ∨ z = 4) ∧ ((done = [] ∧ J = [] ∧ tok = .full) ∨ (done ≠ [] ∧ ∃ x r, J = x :: .own 38 4 done.length :: r ∧ tok = .own 9)) ∧
      σ = .box (Em.player.emb p) :: .box (Em.notes.emb s) :: .box (.slice z ((done.map (divAt s)).map Em.notes2.emb) tok) :: .box (i64s.emb l) :: .box (Em.player.emb p) :: .box (i64s.emb l) :: .mark :: L :: J) ?_ ?_ D [] _ ⟨rfl, 0, .full, [], .inl rfl, .inl ⟨rfl, rfl, rfl⟩, rfl⟩
    · rintro done t rest σ ⟨hd, z, tok, J, hz, hJ, rfl⟩
      have ht : t ≤ l.length := hmem t (by rw [hd]; simp)
      have c1 : ((l.take t).length : Int) < 1000000 := by rw [List.length_take]; omega
      have hd' : D = (done ++ [t]) ++ rest := by rw [hd, List.append_assoc]; rfl
      have hdn : done.length + 1 ≤ 129 := by
        have := congrArg List.length hd
        simp only [List.length_append, List.length_cons] at this
        omega
      have hw1 := hwo t
      obtain ⟨X, hX⟩ : ∃ X, X = ((done ++ [t]).map (divAt s)).map Em.notes2.emb := ⟨_, rfl⟩
      refine ⟨⟨rfl, rfl⟩, WpC.roundL hL (by decide) (by simp) rfl (by simp only [pargs, List.set_cons_zero, List.set_cons_succ]; rfl) fun LB hLB => ?_⟩
      rcases hJ with ⟨rfl, rfl, rfl⟩ | ⟨hne, x, r, rfl, rfl⟩
      · have hX1 : X = [Em.notes2.emb (ofL (l.take t), ofL (l.drop t))] := by rw [hX]; simp [hda]
        have hap := (pappend_full (P := Tryd.prog) (σ := [.box (Em.player.emb p), .box (Em.notes.emb s), .box (.slice z [] .full), .box (i64s.emb l), .box (Em.player.emb p), .box (i64s.emb l), .mark, LB, .box (Em.notes.emb (ofL (l.take t)))]) (s := z) (p := Em.notes2.emb (ofL (l.take t), ofL (l.drop t))) (tk := .any) Tryd.underlying33 (k := 4) (b := 32) (by kernel_rfl) (by omega)).trans
          (show _ = some (PD.slice 4 X (.own 9), [.box (Em.player.emb p), .box (Em.notes.emb s), .box (.slice z [] .full), .box (i64s.emb l), .box (Em.player.emb p), .box (i64s.emb l), .mark, LB, .box (Em.notes.emb (ofL (l.take t))), .own 38 4 1]) by rw [hX1]; rfl)
        simp only [emb_player, emb_notes, emb_notes2, emb_list] at hap
        clear hX1
        repeat (first
          | (refine Fr.i ?_; simp only [pput, List.set_cons_zero, List.set_cons_succ]; try rfl) | (refine By.i ?_; simp (disch := first | omega | (simp; done) | (simp; omega)) [wrap_i64, wrap_u64]; first | done | rfl | exact ⟨rfl, rfl⟩)
          | (refine Wt.i ?_; first | rfl | (simp; done))
          | (refine Ns.i ?_; (try simp only [List.append_nil, List.nil_append, List.cons_append, List.append_assoc, List.length_append, List.length_cons, List.length_nil, Nat.zero_add, Nat.reduceAdd]); rfl) | rfl
          | (apply SL.pass; (focus (refine Wt.i ?_; rfl))) | apply SL.move | apply SL.assign | apply SL.load | apply SL.binOp | apply SL.append | apply SL.builtin | apply SL.fieldAddr | apply SL.indexAddr | apply SL.field | apply SL.extract
          | apply SL.fcall | apply SL.pick | apply SL.store | apply SL.unOp | apply SL.convert | apply SL.index | apply SL.slice | apply SL.build | apply SL.nilCheck | apply SL.buildSlice | apply SL.box | apply SL.alloc | apply SL.makeFunc
          | apply SQ.nil | (apply WL.reg; (focus decide +kernel)) | (apply WL.drawP (by assumption); (focus decide +kernel); (focus decide +kernel)) | (apply WL.drawF; (focus decide +kernel); (focus decide +kernel))
          | (apply WL.reg1; (focus decide +kernel)) | (apply WL.drawP1 (by assumption); (focus decide +kernel); (focus decide +kernel)) | (apply WL.drawF1; (focus decide +kernel); (focus decide +kernel))
          | (apply WL.drawM (by assumption); (focus decide +kernel); (focus decide +kernel)) | (apply WL.drawM1 (by assumption); (focus decide +kernel); (focus decide +kernel)) | apply WL.skip | (apply WL.ct; (focus rfl))
          | (apply WL.cf; (focus rfl)) | refine SeqQ.normal ?_ | refine SeqQ.ret ?_ | refine SeqQ.exit ?_ | refine BlockQ.normal ?_ | refine BlockQ.ret ?_ | refine BlockQ.here ?_ | refine BlockQ.there (by decide) ?_ | refine Wp.block ?_
          | refine Wp.skip ?_ | refine Wp.ret ?_ | refine Wp.exit ?_ | refine LoopI.ret ?_ | refine LoopI.exit ?_ | refine LoopQ.normal ?_ | refine LoopQ.ret ?_ | refine LoopQ.exit ?_ | refine Wp.seq (Wp.seq ?_) | refine Wp.seq (Wp.block ?_)
          | (refine Wp.seq ?_; apply WL.ct; (focus rfl)) | (refine Wp.seq ?_; apply WL.cf; (focus rfl)))
        refine ⟨rfl, by simp, _, by simp; rfl, ?_⟩
        repeat (first
          | (refine Fr.i ?_; simp only [pput, List.set_cons_zero, List.set_cons_succ]; try rfl)
          | (refine By.i ?_; simp (disch := first | omega | (simp; done) | (simp; omega)) [wrap_i64, wrap_u64, h6, h7, c1, hof, hw1, hap, entry, gf1, gf2]; first | done | rfl | exact ⟨rfl, rfl⟩)
          | (refine Wt.i ?_; first | rfl | (simp [h6, h7, c1, hof, hw1, hap, entry, gf1, gf2]; done))
          | (refine Ns.i ?_; (try simp only [List.append_nil, List.nil_append, List.cons_append, List.append_assoc, List.length_append, List.length_cons, List.length_nil, Nat.zero_add, Nat.reduceAdd]); rfl) | rfl
          | (apply SL.pass; (focus (refine Wt.i ?_; rfl))) | apply SL.move | apply SL.assign | apply SL.load | apply SL.binOp | apply SL.append | apply SL.builtin | apply SL.fieldAddr | apply SL.indexAddr | apply SL.field | apply SL.extract
          | apply SL.fcall | apply SL.pick | apply SL.store | apply SL.unOp | apply SL.convert | apply SL.index | apply SL.slice | apply SL.build | apply SL.nilCheck | apply SL.buildSlice | apply SL.box | apply SL.alloc | apply SL.makeFunc
          | apply SQ.nil | (apply WL.reg; (focus decide +kernel)) | (apply WL.drawP (by assumption); (focus decide +kernel); (focus decide +kernel)) | (apply WL.drawF; (focus decide +kernel); (focus decide +kernel))
          | (apply WL.reg1; (focus decide +kernel)) | (apply WL.drawP1 (by assumption); (focus decide +kernel); (focus decide +kernel)) | (apply WL.drawF1; (focus decide +kernel); (focus decide +kernel))
          | (apply WL.drawM (by assumption); (focus decide +kernel); (focus decide +kernel)) | (apply WL.drawM1 (by assumption); (focus decide +kernel); (focus decide +kernel)) | apply WL.skip | (apply WL.ct; (focus rfl))
          | (apply WL.cf; (focus rfl)) | refine SeqQ.normal ?_ | refine SeqQ.ret ?_ | refine SeqQ.exit ?_ | refine BlockQ.normal ?_ | refine BlockQ.ret ?_ | refine BlockQ.here ?_ | refine BlockQ.there (by decide) ?_ | refine Wp.block ?_
          | refine Wp.skip ?_ | refine Wp.ret ?_ | refine Wp.exit ?_ | refine LoopI.ret ?_ | refine LoopI.exit ?_ | refine LoopQ.normal ?_ | refine LoopQ.ret ?_ | refine LoopQ.exit ?_ | refine Wp.seq (Wp.seq ?_) | refine Wp.seq (Wp.block ?_)
          | (refine Wp.seq ?_; apply WL.ct; (focus rfl)) | (refine Wp.seq ?_; apply WL.cf; (focus rfl)))
        refine ⟨by simp, ?_⟩
        unfold RoundR
        subst hX
        exact .inl ⟨rfl, hd', 4, .own 9, [.box (Em.notes.emb (ofL (l.take t))), .own 38 4 1], .inr rfl, .inr ⟨by simp, _, _, rfl, rfl⟩, by simp⟩
      · have hz4 : z = 4 := hz.resolve_left hne
        subst hz4
        have hap := (pappend_own (P := Tryd.prog) (σ := .box (Em.player.emb p) :: .box (Em.notes.emb s) :: .box (.slice 4 ((done.map (divAt s)).map Em.notes2.emb) (.own 9)) :: .box (i64s.emb l) :: .box (Em.player.emb p) :: .box (i64s.emb l) :: .mark :: LB :: x :: .own 38 4 done.length :: (r ++ [.box (Em.notes.emb (ofL (l.take t)))])) (id := 9) (xs := (done.map (divAt s)).map Em.notes2.emb) (p := Em.notes2.emb (ofL (l.take t), ofL (l.drop t))) (tk := .any) Tryd.underlying33 (k := 4) (b := 32) (e := 38) (by kernel_rfl)
          (by simp) (by simp; omega) (by simp; omega)).trans
          (show _ = some (PD.slice 4 X (.own 9), .box (Em.player.emb p) :: .box (Em.notes.emb s) :: .box (.slice 4 ((done.map (divAt s)).map Em.notes2.emb) (.own 9)) :: .box (i64s.emb l) :: .box (Em.player.emb p) :: .box (i64s.emb l) :: .mark :: LB :: x :: .own 38 4 (done.length + 1) :: (r ++ [.box (Em.notes.emb (ofL (l.take t)))])) by rw [hX]; simp [hda])
        obtain ⟨Y, hY⟩ : ∃ Y, Y = (done.map (divAt s)).map Em.notes2.emb := ⟨_, rfl⟩
        rw [← hY] at hap ⊢
        simp only [emb_player, emb_notes, emb_notes2, emb_list] at hap
        repeat (first
          | (refine Fr.i ?_; simp only [pput, List.set_cons_zero, List.set_cons_succ]; try rfl) | (refine By.i ?_; simp (disch := first | omega | (simp; done) | (simp; omega)) [wrap_i64, wrap_u64]; first | done | rfl | exact ⟨rfl, rfl⟩)
          | (refine Wt.i ?_; first | rfl | (simp; done))
          | (refine Ns.i ?_; (try simp only [List.append_nil, List.nil_append, List.cons_append, List.append_assoc, List.length_append, List.length_cons, List.length_nil, Nat.zero_add, Nat.reduceAdd]); rfl) | rfl
          | (apply SL.pass; (focus (refine Wt.i ?_; rfl))) | apply SL.move | apply SL.assign | apply SL.load | apply SL.binOp | apply SL.append | apply SL.builtin | apply SL.fieldAddr | apply SL.indexAddr | apply SL.field | apply SL.extract
          | apply SL.fcall | apply SL.pick | apply SL.store | apply SL.unOp | apply SL.convert | apply SL.index | apply SL.slice | apply SL.build | apply SL.nilCheck | apply SL.buildSlice | apply SL.box | apply SL.alloc | apply SL.makeFunc
          | apply SQ.nil | (apply WL.reg; (focus decide +kernel)) | (apply WL.drawP (by assumption); (focus decide +kernel); (focus decide +kernel)) | (apply WL.drawF; (focus decide +kernel); (focus decide +kernel))
          | (apply WL.reg1; (focus decide +kernel)) | (apply WL.drawP1 (by assumption); (focus decide +kernel); (focus decide +kernel)) | (apply WL.drawF1; (focus decide +kernel); (focus decide +kernel))
          | (apply WL.drawM (by assumption); (focus decide +kernel); (focus decide +kernel)) | (apply WL.drawM1 (by assumption); (focus decide +kernel); (focus decide +kernel)) | apply WL.skip | (apply WL.ct; (focus rfl))
          | (apply WL.cf; (focus rfl)) | refine SeqQ.normal ?_ | refine SeqQ.ret ?_ | refine SeqQ.exit ?_ | refine BlockQ.normal ?_ | refine BlockQ.ret ?_ | refine BlockQ.here ?_ | refine BlockQ.there (by decide) ?_ | refine Wp.block ?_
          | refine Wp.skip ?_ | refine Wp.ret ?_ | refine Wp.exit ?_ | refine LoopI.ret ?_ | refine LoopI.exit ?_ | refine LoopQ.normal ?_ | refine LoopQ.ret ?_ | refine LoopQ.exit ?_ | refine Wp.seq (Wp.seq ?_) | refine Wp.seq (Wp.block ?_)
          | (refine Wp.seq ?_; apply WL.ct; (focus rfl)) | (refine Wp.seq ?_; apply WL.cf; (focus rfl)))
        refine ⟨rfl, by simp, _, by simp; rfl, ?_⟩
        repeat (first
          | (refine Fr.i ?_; simp only [pput, List.set_cons_zero, List.set_cons_succ]; try rfl)
          | (refine By.i ?_; simp (disch := first | omega | (simp; done) | (simp; omega)) [wrap_i64, wrap_u64, h6, h7, c1, hof, hw1, hap, entry, gf1, gf2]; first | done | rfl | exact ⟨rfl, rfl⟩)
          | (refine Wt.i ?_; first | rfl | (simp [h6, h7, c1, hof, hw1, hap, entry, gf1, gf2]; done))
          | (refine Ns.i ?_; (try simp only [List.append_nil, List.nil_append, List.cons_append, List.append_assoc, List.length_append, List.length_cons, List.length_nil, Nat.zero_add, Nat.reduceAdd]); rfl) | rfl
          | (apply SL.pass; (focus (refine Wt.i ?_; rfl))) | apply SL.move | apply SL.assign | apply SL.load | apply SL.binOp | apply SL.append | apply SL.builtin | apply SL.fieldAddr | apply SL.indexAddr | apply SL.field | apply SL.extract
          | apply SL.fcall | apply SL.pick | apply SL.store | apply SL.unOp | apply SL.convert | apply SL.index | apply SL.slice | apply SL.build | apply SL.nilCheck | apply SL.buildSlice | apply SL.box | apply SL.alloc | apply SL.makeFunc
          | apply SQ.nil | (apply WL.reg; (focus decide +kernel)) | (apply WL.drawP (by assumption); (focus decide +kernel); (focus decide +kernel)) | (apply WL.drawF; (focus decide +kernel); (focus decide +kernel))
          | (apply WL.reg1; (focus decide +kernel)) | (apply WL.drawP1 (by assumption); (focus decide +kernel); (focus decide +kernel)) | (apply WL.drawF1; (focus decide +kernel); (focus decide +kernel))
          | (apply WL.drawM (by assumption); (focus decide +kernel); (focus decide +kernel)) | (apply WL.drawM1 (by assumption); (focus decide +kernel); (focus decide +kernel)) | apply WL.skip | (apply WL.ct; (focus rfl))
          | (apply WL.cf; (focus rfl)) | refine SeqQ.normal ?_ | refine SeqQ.ret ?_ | refine SeqQ.exit ?_ | refine BlockQ.normal ?_ | refine BlockQ.ret ?_ | refine BlockQ.here ?_ | refine BlockQ.there (by decide) ?_ | refine Wp.block ?_
          | refine Wp.skip ?_ | refine Wp.ret ?_ | refine Wp.exit ?_ | refine LoopI.ret ?_ | refine LoopI.exit ?_ | refine LoopQ.normal ?_ | refine LoopQ.ret ?_ | refine LoopQ.exit ?_ | refine Wp.seq (Wp.seq ?_) | refine Wp.seq (Wp.block ?_)
          | (refine Wp.seq ?_; apply WL.ct; (focus rfl)) | (refine Wp.seq ?_; apply WL.cf; (focus rfl)))
        refine ⟨by simp, ?_⟩
        unfold RoundR
        subst hX
        exact .inl ⟨rfl, hd', 4, .own 9, x :: .own 38 4 (done.length + 1) :: (r ++ [.box (Em.notes.emb (ofL (l.take t)))]), .inr rfl, .inr ⟨by simp, x, r ++ [.box (Em.notes.emb (ofL (l.take t)))], by simp, rfl⟩, by simp⟩
    · rintro done σ ⟨hd, z, tok, J, hz, hJ, rfl⟩
      rw [List.append_nil] at hd
      subst hd
      have hz' : (D.map (divAt s)) = [] ∨ z = 4 := by simpa using hz
      generalize D.map (divAt s) = Z at hz' ⊢
      refine ⟨⟨rfl, rfl⟩, _, by simp [hL]; rfl, ?_⟩
      repeat (first
        | (refine Fr.i ?_; simp only [pput, List.set_cons_zero, List.set_cons_succ]; try rfl) | (refine By.i ?_; simp (disch := first | omega | (simp; done) | (simp; omega)) [wrap_i64, wrap_u64]; first | done | rfl | exact ⟨rfl, rfl⟩)
        | (refine Wt.i ?_; first | rfl | (simp; done))
        | (refine Ns.i ?_; (try simp only [List.append_nil, List.nil_append, List.cons_append, List.append_assoc, List.length_append, List.length_cons, List.length_nil, Nat.zero_add, Nat.reduceAdd]); rfl) | rfl
        | (apply SL.pass; (focus (refine Wt.i ?_; rfl))) | apply SL.move | apply SL.assign | apply SL.load | apply SL.binOp | apply SL.append | apply SL.builtin | apply SL.fieldAddr | apply SL.indexAddr | apply SL.field | apply SL.extract
        | apply SL.fcall | apply SL.pick | apply SL.store | apply SL.unOp | apply SL.convert | apply SL.index | apply SL.slice | apply SL.build | apply SL.nilCheck | apply SL.buildSlice | apply SL.box | apply SL.alloc | apply SL.makeFunc
        | apply SQ.nil | (apply WL.reg; (focus decide +kernel)) | (apply WL.drawP (by assumption); (focus decide +kernel); (focus decide +kernel)) | (apply WL.drawF; (focus decide +kernel); (focus decide +kernel))
        | (apply WL.reg1; (focus decide +kernel)) | (apply WL.drawP1 (by assumption); (focus decide +kernel); (focus decide +kernel)) | (apply WL.drawF1; (focus decide +kernel); (focus decide +kernel))
        | (apply WL.drawM (by assumption); (focus decide +kernel); (focus decide +kernel)) | (apply WL.drawM1 (by assumption); (focus decide +kernel); (focus decide +kernel)) | apply WL.skip | (apply WL.ct; (focus rfl))
        | (apply WL.cf; (focus rfl)) | refine SeqQ.normal ?_ | refine SeqQ.ret ?_ | refine SeqQ.exit ?_ | refine BlockQ.normal ?_ | refine BlockQ.ret ?_ | refine BlockQ.here ?_ | refine BlockQ.there (by decide) ?_ | refine Wp.block ?_
        | refine Wp.skip ?_ | refine Wp.ret ?_ | refine Wp.exit ?_ | refine LoopI.ret ?_ | refine LoopI.exit ?_ | refine LoopQ.normal ?_ | refine LoopQ.ret ?_ | refine LoopQ.exit ?_ | refine Wp.seq (Wp.seq ?_) | refine Wp.seq (Wp.block ?_)
        | (refine Wp.seq ?_; apply WL.ct; (focus rfl)) | (refine Wp.seq ?_; apply WL.cf; (focus rfl)))
      simp (disch := first | omega | (simp; done) | (simp; omega)) [decide_eq_decide, sz_of hz'] <;> try rfl
  · repeat (first
      | (refine Fr.i ?_; simp only [pput, List.set_cons_zero, List.set_cons_succ]; try rfl)
      | (refine By.i ?_; simp (disch := first | omega | (simp; done) | (simp; omega)) [wrap_i64, wrap_u64, h, h1, entry, gf1]; first | done | rfl | exact ⟨rfl, rfl⟩) | (refine Wt.i ?_; first | rfl | (simp [h, h1, entry, gf1]; done))
      | (refine Ns.i ?_; (try simp only [List.append_nil, List.nil_append, List.cons_append, List.append_assoc, List.length_append, List.length_cons, List.length_nil, Nat.zero_add, Nat.reduceAdd]); rfl) | rfl
      | (apply SL.pass; (focus (refine Wt.i ?_; rfl))) | apply SL.move | apply SL.assign | apply SL.load | apply SL.binOp | apply SL.append | apply SL.builtin | apply SL.fieldAddr | apply SL.indexAddr | apply SL.field | apply SL.extract
      | apply SL.fcall | apply SL.pick | apply SL.store | apply SL.unOp | apply SL.convert | apply SL.index | apply SL.slice | apply SL.build | apply SL.nilCheck | apply SL.buildSlice | apply SL.box | apply SL.alloc | apply SL.makeFunc
      | apply SQ.nil | (apply WL.reg; (focus decide +kernel)) | (apply WL.drawP (by assumption); (focus decide +kernel); (focus decide +kernel)) | (apply WL.drawF; (focus decide +kernel); (focus decide +kernel))
      | (apply WL.reg1; (focus decide +kernel)) | (apply WL.drawP1 (by assumption); (focus decide +kernel); (focus decide +kernel)) | (apply WL.drawF1; (focus decide +kernel); (focus decide +kernel))
      | (apply WL.drawM (by assumption); (focus decide +kernel); (focus decide +kernel)) | (apply WL.drawM1 (by assumption); (focus decide +kernel); (focus decide +kernel)) | apply WL.skip | (apply WL.ct; (focus rfl))
      | (apply WL.cf; (focus rfl)) | refine SeqQ.normal ?_ | refine SeqQ.ret ?_ | refine SeqQ.exit ?_ | refine BlockQ.normal ?_ | refine BlockQ.ret ?_ | refine BlockQ.here ?_ | refine BlockQ.there (by decide) ?_ | refine Wp.block ?_
      | refine Wp.skip ?_ | refine Wp.ret ?_ | refine Wp.exit ?_ | refine LoopI.ret ?_ | refine LoopI.exit ?_ | refine LoopQ.normal ?_ | refine LoopQ.ret ?_ | refine LoopQ.exit ?_ | refine Wp.seq (Wp.seq ?_) | refine Wp.seq (Wp.block ?_)
      | (refine Wp.seq ?_; apply WL.ct; (focus rfl)) | (refine Wp.seq ?_; apply WL.cf; (focus rfl)))
    simp (disch := first | omega | (simp; done) | (simp; omega)) [decide_eq_decide, allF, h] <;> try rfl

theorem r_Two (h0 : E 17 = none) (h1 : E 16 = some (entry (gf2 .player .notes ((Em.notes2.list 4).tup2 i64) fun p s => some (allF p s)))) (p : Player) (s : Notes) :
    Run Tryd.prog E 17 [Em.player.emb p, Em.notes.emb s] ((Em.notes.tup4 .notes .bool i64).emb (twoF p s)) := by
  apply Run.bodyL h0 Tryd.func17 rfl
  focus (simp [show Tryd.f17.ntmps = _ from rfl, List.replicate]; rfl)
  by_cases h : errOf p = 0
  · have hF : allF p s = (allL p s, 0) := if_pos h
    cases hl : allL p s with
    | nil =>
      rw [hl] at hF
      repeat (first
        | (refine Fr.i ?_; simp only [pput, List.set_cons_zero, List.set_cons_succ]; try rfl)
        | (refine By.i ?_; simp (disch := first | omega | (simp; done) | (simp; omega)) [wrap_i64, wrap_u64, h1, hF, entry, gf2]; first | done | rfl | exact ⟨rfl, rfl⟩) | (refine Wt.i ?_; first | rfl | (simp [h1, hF, entry, gf2]; done))
        | (refine Ns.i ?_; (try simp only [List.append_nil, List.nil_append, List.cons_append, List.append_assoc, List.length_append, List.length_cons, List.length_nil, Nat.zero_add, Nat.reduceAdd]); rfl) | rfl
        | (apply SL.pass; (focus (refine Wt.i ?_; rfl))) | apply SL.move | apply SL.assign | apply SL.load | apply SL.binOp | apply SL.append | apply SL.builtin | apply SL.fieldAddr | apply SL.indexAddr | apply SL.field | apply SL.extract
        | apply SL.fcall | apply SL.pick | apply SL.store | apply SL.unOp | apply SL.convert | apply SL.index | apply SL.slice | apply SL.build | apply SL.nilCheck | apply SL.buildSlice | apply SL.box | apply SL.alloc | apply SL.makeFunc
        | apply SQ.nil | (apply WL.reg; (focus decide +kernel)) | (apply WL.drawP (by assumption); (focus decide +kernel); (focus decide +kernel)) | (apply WL.drawF; (focus decide +kernel); (focus decide +kernel))
        | (apply WL.reg1; (focus decide +kernel)) | (apply WL.drawP1 (by assumption); (focus decide +kernel); (focus decide +kernel)) | (apply WL.drawF1; (focus decide +kernel); (focus decide +kernel))
        | (apply WL.drawM (by assumption); (focus decide +kernel); (focus decide +kernel)) | (apply WL.drawM1 (by assumption); (focus decide +kernel); (focus decide +kernel)) | apply WL.skip | (apply WL.ct; (focus rfl))
        | (apply WL.cf; (focus rfl)) | refine SeqQ.normal ?_ | refine SeqQ.ret ?_ | refine SeqQ.exit ?_ | refine BlockQ.normal ?_ | refine BlockQ.ret ?_ | refine BlockQ.here ?_ | refine BlockQ.there (by decide) ?_ | refine Wp.block ?_
        | refine Wp.skip ?_ | refine Wp.ret ?_ | refine Wp.exit ?_ | refine LoopI.ret ?_ | refine LoopI.exit ?_ | refine LoopQ.normal ?_ | refine LoopQ.ret ?_ | refine LoopQ.exit ?_ | refine Wp.seq (Wp.seq ?_) | refine Wp.seq (Wp.block ?_)
        | (refine Wp.seq ?_; apply WL.ct; (focus rfl)) | (refine Wp.seq ?_; apply WL.cf; (focus rfl)))
      simp (disch := first | omega | (simp; done) | (simp; omega)) [decide_eq_decide, twoF, h, hl, noNotes, tn] <;> try rfl
    | cons x xs =>
      rw [hl] at hF
      have hT : twoF p s = (x.1, x.2, true, 0) := by rw [twoF, if_pos h, hl]
      rw [hT]
      repeat (first
        | (refine Fr.i ?_; simp only [pput, List.set_cons_zero, List.set_cons_succ]; try rfl)
        | (refine By.i ?_; simp (disch := first | omega | (simp; done) | (simp; omega)) [wrap_i64, wrap_u64, h1, hF, entry, gf2]; first | done | rfl | exact ⟨rfl, rfl⟩) | (refine Wt.i ?_; first | rfl | (simp [h1, hF, entry, gf2]; done))
        | (refine Ns.i ?_; (try simp only [List.append_nil, List.nil_append, List.cons_append, List.append_assoc, List.length_append, List.length_cons, List.length_nil, Nat.zero_add, Nat.reduceAdd]); rfl) | rfl
        | (apply SL.pass; (focus (refine Wt.i ?_; rfl))) | apply SL.move | apply SL.assign | apply SL.load | apply SL.binOp | apply SL.append | apply SL.builtin | apply SL.fieldAddr | apply SL.indexAddr | apply SL.field | apply SL.extract
        | apply SL.fcall | apply SL.pick | apply SL.store | apply SL.unOp | apply SL.convert | apply SL.index | apply SL.slice | apply SL.build | apply SL.nilCheck | apply SL.buildSlice | apply SL.box | apply SL.alloc | apply SL.makeFunc
        | apply SQ.nil | (apply WL.reg; (focus decide +kernel)) | (apply WL.drawP (by assumption); (focus decide +kernel); (focus decide +kernel)) | (apply WL.drawF; (focus decide +kernel); (focus decide +kernel))
        | (apply WL.reg1; (focus decide +kernel)) | (apply WL.drawP1 (by assumption); (focus decide +kernel); (focus decide +kernel)) | (apply WL.drawF1; (focus decide +kernel); (focus decide +kernel))
        | (apply WL.drawM (by assumption); (focus decide +kernel); (focus decide +kernel)) | (apply WL.drawM1 (by assumption); (focus decide +kernel); (focus decide +kernel)) | apply WL.skip | (apply WL.ct; (focus rfl))
        | (apply WL.cf; (focus rfl)) | refine SeqQ.normal ?_ | refine SeqQ.ret ?_ | refine SeqQ.exit ?_ | refine BlockQ.normal ?_ | refine BlockQ.ret ?_ | refine BlockQ.here ?_ | refine BlockQ.there (by decide) ?_ | refine Wp.block ?_
        | refine Wp.skip ?_ | refine Wp.ret ?_ | refine Wp.exit ?_ | refine LoopI.ret ?_ | refine LoopI.exit ?_ | refine LoopQ.normal ?_ | refine LoopQ.ret ?_ | refine LoopQ.exit ?_ | refine Wp.seq (Wp.seq ?_) | refine Wp.seq (Wp.block ?_)
        | (refine Wp.seq ?_; apply WL.ct; (focus rfl)) | (refine Wp.seq ?_; apply WL.cf; (focus rfl)))
      exact Wp.drawEnd (fun n => by kernel_rfl) (by kernel_rfl)
  · have hF : allF p s = ([], errOf p) := if_neg h
    repeat (first
      | (refine Fr.i ?_; simp only [pput, List.set_cons_zero, List.set_cons_succ]; try rfl)
      | (refine By.i ?_; simp (disch := first | omega | (simp; done) | (simp; omega)) [wrap_i64, wrap_u64, h1, hF, h, entry, gf2]; first | done | rfl | exact ⟨rfl, rfl⟩) | (refine Wt.i ?_; first | rfl | (simp [h1, hF, h, entry, gf2]; done))
      | (refine Ns.i ?_; (try simp only [List.append_nil, List.nil_append, List.cons_append, List.append_assoc, List.length_append, List.length_cons, List.length_nil, Nat.zero_add, Nat.reduceAdd]); rfl) | rfl
      | (apply SL.pass; (focus (refine Wt.i ?_; rfl))) | apply SL.move | apply SL.assign | apply SL.load | apply SL.binOp | apply SL.append | apply SL.builtin | apply SL.fieldAddr | apply SL.indexAddr | apply SL.field | apply SL.extract
      | apply SL.fcall | apply SL.pick | apply SL.store | apply SL.unOp | apply SL.convert | apply SL.index | apply SL.slice | apply SL.build | apply SL.nilCheck | apply SL.buildSlice | apply SL.box | apply SL.alloc | apply SL.makeFunc
      | apply SQ.nil | (apply WL.reg; (focus decide +kernel)) | (apply WL.drawP (by assumption); (focus decide +kernel); (focus decide +kernel)) | (apply WL.drawF; (focus decide +kernel); (focus decide +kernel))
      | (apply WL.reg1; (focus decide +kernel)) | (apply WL.drawP1 (by assumption); (focus decide +kernel); (focus decide +kernel)) | (apply WL.drawF1; (focus decide +kernel); (focus decide +kernel))
      | (apply WL.drawM (by assumption); (focus decide +kernel); (focus decide +kernel)) | (apply WL.drawM1 (by assumption); (focus decide +kernel); (focus decide +kernel)) | apply WL.skip | (apply WL.ct; (focus rfl))
      | (apply WL.cf; (focus rfl)) | refine SeqQ.normal ?_ | refine SeqQ.ret ?_ | refine SeqQ.exit ?_ | refine BlockQ.normal ?_ | refine BlockQ.ret ?_ | refine BlockQ.here ?_ | refine BlockQ.there (by decide) ?_ | refine Wp.block ?_
      | refine Wp.skip ?_ | refine Wp.ret ?_ | refine Wp.exit ?_ | refine LoopI.ret ?_ | refine LoopI.exit ?_ | refine LoopQ.normal ?_ | refine LoopQ.ret ?_ | refine LoopQ.exit ?_ | refine Wp.seq (Wp.seq ?_) | refine Wp.seq (Wp.block ?_)
      | (refine Wp.seq ?_; apply WL.ct; (focus rfl)) | (refine Wp.seq ?_; apply WL.cf; (focus rfl)))
    simp (disch := first | omega | (simp; done) | (simp; omega)) [decide_eq_decide, twoF, h, noNotes, tn] <;> try rfl

end Go.Kz

/-
  The table, with All and Two.
-/
namespace Go.Kz
open Go Go.Proofs
set_option maxRecDepth 10000

noncomputable def Ed1 : PExt := E11.add 40 (entry (gf2 .notes i64 .notes fun s n => gif (0 ≤ n ∧ n ≤ 127) (some (withN s n.toNat))))
theorem Ed1_uni : Uni Ed1 := E11_uni.entry
theorem Ed1_ok : ExtOk Tryd.prog Ed1 := E11_ok.add2 follows (fun x y z hz => by obtain ⟨hg, hz⟩ := gif_some hz; simp only [Option.some.injEq] at hz; subst hz; exact r_With E11_uni rfl x y hg)
noncomputable def Ed2 : PExt := Ed1.add 18 (entry (gf1 i64s .notes fun l => gif ((l.length : Int) < 1000000) (some (ofL l))))
theorem Ed2_uni : Uni Ed2 := Ed1_uni.entry
theorem Ed2_ok : ExtOk Tryd.prog Ed2 := Ed1_ok.add1 follows (fun x z hz => by obtain ⟨hg, hz⟩ := gif_some hz; simp only [Option.some.injEq] at hz; subst hz; exact r_refOf Ed1_uni rfl rfl x hg)
noncomputable def Ed3 : PExt := Ed2.add 47 (entry (gf2 .notes i64 .notes fun s n => gif (0 ≤ n ∧ n ≤ 127) (some (withN s n.toNat))))
theorem Ed3_uni : Uni Ed3 := Ed2_uni.entry
theorem Ed3_ok : ExtOk Tryd.prog Ed3 := Ed2_ok.add2 follows (fun x y z hz => by obtain ⟨hg, hz⟩ := gif_some hz; simp only [Option.some.injEq] at hz; subst hz; exact r_with Ed2_uni rfl x y hg)
noncomputable def Ed4 : PExt := Ed3.add 46 (entry (gf1 i64 .bool fun n => some (rightIn 0 127 n)))
theorem Ed4_uni : Uni Ed4 := Ed3_uni.entry
theorem Ed4_ok : ExtOk Tryd.prog Ed4 := Ed3_ok.add1 follows (fun x z hz => by simp only [Option.some.injEq] at hz; subst hz; exact r_isNote Ed3_uni rfl x)
noncomputable def Ed5 : PExt := Ed4.add 28 (entry (gf1 i64s (Em.notes.tup2 i64) fun l => gif ((l.length : Int) < 1000000) (some (ofF l))))
theorem Ed5_uni : Uni Ed5 := Ed4_uni.entry
theorem Ed5_ok : ExtOk Tryd.prog Ed5 := Ed4_ok.add1 follows (fun x z hz => by obtain ⟨hg, hz⟩ := gif_some hz; simp only [Option.some.injEq] at hz; subst hz; exact r_Of Ed4_uni rfl rfl rfl x hg)
noncomputable def Ed6 : PExt := Ed5.add 29 (entry (gf2 .notes .notes .notes fun a b => some ⟨a.low &&& ~~~b.low, a.high &&& ~~~b.high⟩))
theorem Ed6_uni : Uni Ed6 := Ed5_uni.entry
theorem Ed6_ok : ExtOk Tryd.prog Ed6 := Ed5_ok.add2 follows (fun x y z hz => by simp only [Option.some.injEq] at hz; subst hz; exact r_without Ed5_uni rfl x y)
noncomputable def Ed7 : PExt := Ed6.add 15 (entry (gf2 .player i64s i64s fun p l => gif ((l.length : Int) < 900000) (some (divF p l))))
theorem Ed7_uni : Uni Ed7 := Ed6_uni.entry
theorem Ed7_ok : ExtOk Tryd.prog Ed7 := Ed6_ok.add2 follows (fun x y z hz => by obtain ⟨hg, hz⟩ := gif_some hz; simp only [Option.some.injEq] at hz; subst hz; exact r_divisions Ed6_uni rfl rfl x y hg)
noncomputable def Ed8 : PExt := Ed7.add 39 gDiv
theorem Ed8_uni : Uni Ed8 := Ed7_uni.other (fun args p h => by unfold gDiv at h; split at h <;> simp at h)
theorem Ed8_ok : ExtOk Tryd.prog Ed8 := Ed7_ok.add follows (fun fl args σ p σ1 h => ev_div Ed7_uni rfl fl args σ p σ1 h)
noncomputable def Ed9 : PExt := Ed8.add 16 (entry (gf2 .player .notes ((Em.notes2.list 4).tup2 i64) fun p s => some (allF p s)))
theorem Ed9_uni : Uni Ed9 := Ed8_uni.entry
theorem Ed9_ok : ExtOk Tryd.prog Ed9 := Ed8_ok.add2 follows (fun x y z hz => by simp only [Option.some.injEq] at hz; subst hz; exact r_All Ed8_uni rfl rfl rfl rfl rfl rfl rfl rfl x y)
noncomputable def Ed10 : PExt := Ed9.add 17 (entry (gf2 .player .notes (Em.notes.tup4 .notes .bool i64) fun p s => some (twoF p s)))
theorem Ed10_uni : Uni Ed10 := Ed9_uni.entry
theorem Ed10_ok : ExtOk Tryd.prog Ed10 := Ed9_ok.add2 follows (fun x y z hz => by simp only [Option.some.injEq] at hz; subst hz; exact r_Two Ed9_uni rfl rfl x y)

end Go.Kz
