/-
  Drawn regions, the pure half: the trace of the written order, the checks, what stands in which slot.
-/
import Derived.Test.YtclleofcjnggaaaDoorKzP
set_option linter.all false
namespace Go.Kz
open Go.RowKit

/-! ### masks -/
theorem testBit_maskOf {acc : List Nat} {o : Oper} {k : Nat} (h : (maskOf acc o).testBit k = true) :
    ∃ e ∈ o.after, Region.binds .any e = true ∧ (e.on = k ∨ (acc.getD e.on 0).testBit k = true) := by
  have key : ∀ (l : List Edge) (s : Nat), (l.foldl (fun s e => if Region.binds .any e then s ||| 2 ^ e.on ||| acc.getD e.on 0 else s) s).testBit k = true →
      s.testBit k = true ∨ ∃ e ∈ l, Region.binds .any e = true ∧ (e.on = k ∨ (acc.getD e.on 0).testBit k = true) := by
    intro l
    induction l with
    | nil => intro s h; exact .inl h
    | cons e l ih =>
      intro s h
      simp only [List.foldl_cons] at h
      rcases ih _ h with h1 | ⟨e', h2, h3⟩
      · split at h1
        · rename_i hb
          simp only [Nat.testBit_or, Nat.testBit_two_pow, Bool.or_eq_true, decide_eq_true_eq] at h1
          rcases h1 with (h1 | h1) | h1
          · exact .inl h1
          · exact .inr ⟨e, by simp, hb, .inl h1⟩
          · exact .inr ⟨e, by simp, hb, .inr h1⟩
        · exact .inl h1
      · exact .inr ⟨e', by simp [h2], h3⟩
  rcases key _ _ h with h1 | ⟨e, h2, h3⟩
  · simp at h1
  · exact ⟨e, Array.mem_toList_iff.1 h2, h3⟩

theorem masks_take : ∀ (l : List Oper) (acc : List Nat), (masks l acc).take acc.length = acc
  | [], acc => by simp [masks]
  | o :: r, acc => by
    have := masks_take r (acc ++ [maskOf acc o])
    simp only [masks]
    have h2 : acc.length ≤ (acc ++ [maskOf acc o]).length := by simp
    have h3 := congrArg (List.take acc.length) this
    rw [List.take_take, Nat.min_eq_left h2] at h3
    rw [h3]
    simp

theorem masks_get : ∀ (l : List Oper) (acc : List Nat) (i : Nat), (masks l acc)[acc.length + i]? = (l[i]?).map fun o => maskOf ((masks l acc).take (acc.length + i)) o
  | [], acc, i => by simp [masks]
  | o :: r, acc, 0 => by
    have h1 := masks_take (o :: r) acc
    have h2 := masks_take r (acc ++ [maskOf acc o])
    simp only [Nat.add_zero, h1, List.getElem?_cons_zero, Option.map_some]
    have h3 : (masks (o :: r) acc)[acc.length]? = ((masks r (acc ++ [maskOf acc o])).take (acc ++ [maskOf acc o]).length)[acc.length]? := by
      rw [List.getElem?_take, if_pos (by simp)]; rfl
    rw [h3, h2]
    simp
  | o :: r, acc, i + 1 => by
    have := masks_get r (acc ++ [maskOf acc o]) i
    simp only [List.length_append, List.length_singleton] at this
    simp only [masks, List.getElem?_cons_succ]
    rw [show acc.length + (i + 1) = acc.length + 1 + i by omega]
    exact this

section
variable {ops : Array Oper}

theorem mask_bit {i k : Nat} (h : ((masks ops.toList []).getD i 0).testBit k = true) :
    ∃ o, ops[i]? = some o ∧ ∃ e ∈ o.after, Region.binds .any e = true ∧ (e.on = k ∨ (((masks ops.toList []).take i).getD e.on 0).testBit k = true) := by
  have h1 := masks_get ops.toList [] i
  simp only [List.length_nil, Nat.zero_add, Array.getElem?_toList] at h1
  rw [List.getD_eq_getElem?_getD, h1] at h
  cases ho : ops[i]? with
  | none => rw [ho] at h; simp at h
  | some o =>
    rw [ho] at h
    simp only [Option.map_some, Option.getD_some] at h
    exact ⟨o, rfl, testBit_maskOf h⟩

theorem take_getD {l : List Nat} {i j : Nat} (h : j < i) : (l.take i).getD j 0 = l.getD j 0 := by
  simp [List.getD_eq_getElem?_getD, h]

/-! ### what the check says -/
structure RegOk (ops : Array Oper) (ms : List Nat) : Prop where
  nosel : Region.noSelect ops = true
  shape : ∀ (i : Nat) (o : Oper), ops[i]? = some o → (shapeA o.op || shapeLoad o.op || shapeAlloc o.op || shapeSlice o.op || shapeW o.op) = true
  once : ∀ (i : Nat) (o : Oper) (j : Nat) (oj : Oper) (d : Tmp), ops[i]? = some o → ops[j]? = some oj → j ≠ i → oj.dst = some d → o.dst ≠ some d
  looks : ∀ (i : Nat) (o : Oper) (j : Nat) (oj : Oper) (d : Tmp), ops[i]? = some o → ops[j]? = some oj → j ≠ i → oj.dst = some d → d ∈ o.looksAt ops →
    (j < i → ∃ e ∈ o.after, Region.binds .any e = true ∧ e.on = j) ∧ (i < j → ∃ e ∈ oj.after, Region.binds .any e = true ∧ e.on = i)
  down : ∀ (i : Nat) (o : Oper), ops[i]? = some o → ∀ e ∈ o.after, Region.binds .any e = true → e.on < i
  ord : ∀ (i : Nat) (o : Oper) (j : Nat) (oj : Oper), ops[i]? = some o → ops[j]? = some oj → shapeW o.op = true → shapeW oj.op = true → j < i → (ms.getD i 0).testBit j = true

theorem isAt_iff {f : Op → Bool} {i : Nat} {o : Oper} (h : ops[i]? = some o) : isAt f ops.toList i = f o.op := by
  simp [isAt, h]

theorem lt_of_get {i : Nat} {o : Oper} (h : ops[i]? = some o) : i < ops.size := (Array.getElem?_eq_some_iff.1 h).1

theorem regOk_spec {ms : List Nat} (h : regOk ops ms = true) : RegOk ops ms := by
  simp only [regOk, Bool.and_eq_true, List.all_eq_true, List.mem_range] at h
  obtain ⟨h0, h⟩ := h
  have at' : ∀ (i : Nat) (o : Oper), ops[i]? = some o → _ := fun i o ho => by
    have := h i (lt_of_get ho)
    simp only [ho, Bool.and_eq_true] at this
    exact this
  have ssa : ∀ (i : Nat) (o : Oper) (j : Nat) (oj : Oper) (d : Tmp), ops[i]? = some o → ops[j]? = some oj → j ≠ i → oj.dst = some d → _ := fun i o j oj d ho hoj hne hd => by
    have := (at' i o ho).1.1.2
    simp only [ssaAt, List.all_eq_true, List.mem_range] at this
    have := this j (lt_of_get hoj)
    simp only [hoj, hd, Bool.or_eq_true, beq_iff_eq, hne, false_or, Bool.and_eq_true] at this
    exact this
  refine ⟨h0, fun i o ho => (at' i o ho).1.1.1, ?_, ?_, ?_, ?_⟩
  · intro i o j oj d ho hoj hne hd
    simpa using (ssa i o j oj d ho hoj hne hd).1
  · intro i o j oj d ho hoj hne hd hl
    have := (ssa i o j oj d ho hoj hne hd).2
    simp only [Bool.not_eq_true', List.contains_eq_mem, decide_eq_false_iff_not, hl, not_true_eq_false, false_or] at this
    refine ⟨fun hlt => ?_, fun hlt => ?_⟩
    · rw [if_pos hlt] at this
      obtain ⟨e, he, hb⟩ := Array.any_eq_true'.1 this
      simp only [Bool.and_eq_true, beq_iff_eq] at hb
      exact ⟨e, he, hb.1, hb.2⟩
    · rw [if_neg (by omega)] at this
      obtain ⟨e, he, hb⟩ := Array.any_eq_true'.1 this
      simp only [Bool.and_eq_true, beq_iff_eq] at hb
      exact ⟨e, he, hb.1, hb.2⟩
  · intro i o ho e he hb
    have := Array.all_eq_true'.1 (at' i o ho).1.2 e he
    simpa [hb] using this
  · intro i o j oj ho hoj hw hwj hlt
    have := (at' i o ho).2
    simp only [hw, Bool.not_true, Bool.false_or, List.all_eq_true, List.mem_range] at this
    have := this j hlt
    rw [isAt_iff hoj, hwj] at this
    simpa using this

def Lt (listed : Array Bool) (i : Nat) : Prop := listed[i]? = some true

def Closed (ops : Array Oper) (S : Nat → Prop) : Prop := ∀ (i : Nat) (o : Oper), S i → ops[i]? = some o → ∀ e ∈ o.after, Region.binds .any e = true → S e.on

theorem mask_lt (hr : ∀ (i : Nat) (o : Oper), ops[i]? = some o → ∀ e ∈ o.after, Region.binds .any e = true → e.on < i) : ∀ (i k : Nat), ((masks ops.toList []).getD i 0).testBit k = true → k < i := by
  intro i
  induction i using Nat.strongRecOn with
  | _ i ih =>
    intro k h
    obtain ⟨o, ho, e, he, hb, h⟩ := mask_bit h
    have hlt := hr i o ho e he hb
    rcases h with rfl | h
    · exact hlt
    · rw [take_getD hlt] at h
      exact Nat.lt_trans (ih _ hlt _ h) hlt

theorem mask_closed (hr : ∀ (i : Nat) (o : Oper), ops[i]? = some o → ∀ e ∈ o.after, Region.binds .any e = true → e.on < i) {S : Nat → Prop} (hS : Closed ops S) : ∀ (i k : Nat), S i → ((masks ops.toList []).getD i 0).testBit k = true → S k := by
  intro i
  induction i using Nat.strongRecOn with
  | _ i ih =>
    intro k hi h
    obtain ⟨o, ho, e, he, hb, h⟩ := mask_bit h
    have hlt := hr i o ho e he hb
    have hs := hS i o hi ho e he hb
    rcases h with rfl | h
    · exact hs
    · rw [take_getD hlt] at h
      exact ih _ hlt _ hs h

theorem mask_ready (hr : ∀ (i : Nat) (o : Oper), ops[i]? = some o → ∀ e ∈ o.after, Region.binds .any e = true → e.on < i) {S : Nat → Prop} (hS : Closed ops S) {i k : Nat} {o : Oper} (ho : ops[i]? = some o)
    (hi : ∀ e ∈ o.after, Region.binds .any e = true → S e.on) (h : ((masks ops.toList []).getD i 0).testBit k = true) : S k := by
  obtain ⟨o', ho', e, he, hb, h⟩ := mask_bit h
  rw [ho] at ho'; simp only [Option.some.injEq] at ho'; subst ho'
  have hlt := hr i o ho e he hb
  rcases h with rfl | h
  · exact hi e he hb
  · rw [take_getD hlt] at h
    exact mask_closed hr hS _ _ (hi e he hb) h

/-! ### the slots -/
structure Slots (ops : Array Oper) (ps : Nat → PD) (fr0 : List PD) (S : Nat → Prop) (fr : List PD) : Prop where
  len : fr.length = fr0.length
  slot : ∀ x, (∃ (j : Nat) (o : Oper), ops[j]? = some o ∧ S j ∧ o.dst = some x ∧ (x < fr0.length → fr[x]? = some (ps j))) ∨ ((∀ (j : Nat) (o : Oper), ops[j]? = some o → S j → o.dst ≠ some x) ∧ fr[x]? = fr0[x]?)

variable {ps : Nat → PD} {fr0 fr fr' : List PD} {S T : Nat → Prop}

theorem Slots.start (h : ∀ j, ¬ S j) : Slots ops ps fr0 S fr0 := ⟨rfl, fun _ => .inr ⟨fun j _ _ hj => absurd hj (h j), rfl⟩⟩

theorem Slots.congr (h : Slots ops ps fr0 S fr) (hST : ∀ j, S j ↔ T j) : Slots ops ps fr0 T fr :=
  ⟨h.len, fun x => (h.slot x).imp (fun ⟨j, o, a, b, r⟩ => ⟨j, o, a, (hST j).1 b, r⟩) (fun ⟨a, b⟩ => ⟨fun j o ho hj => a j o ho ((hST j).2 hj), b⟩)⟩

theorem Slots.put {ms : List Nat} (hr : RegOk ops ms) (h : Slots ops ps fr0 S fr) {i : Nat} {o : Oper} (ho : ops[i]? = some o) : Slots ops ps fr0 (fun j => S j ∨ j = i) (pput fr o.dst (ps i)) := by
  cases hd : o.dst with
  | none =>
    refine ⟨h.len, fun x => (h.slot x).imp (fun ⟨j, o', a, b, r⟩ => ⟨j, o', a, .inl b, r⟩) (fun ⟨a, b⟩ => ⟨fun j o' ho' hj => ?_, b⟩)⟩
    rcases hj with hj | rfl
    · exact a j o' ho' hj
    · rw [ho] at ho'; simp only [Option.some.injEq] at ho'; subst ho'; rw [hd]; simp
  | some d =>
    refine ⟨by simpa [pput] using h.len, fun x => ?_⟩
    by_cases e : x = d
    · subst e
      exact .inl ⟨i, o, ho, .inr rfl, hd, fun hx => by simp [pput, List.getElem?_set, h.len, hx]⟩
    · have hne : (pput fr (some d) (ps i))[x]? = fr[x]? := by simp [pput, List.getElem?_set_ne (Ne.symm e)]
      rw [hne]
      refine (h.slot x).imp (fun ⟨j, o', a, b, r⟩ => ⟨j, o', a, .inl b, r⟩) (fun ⟨a, b⟩ => ⟨fun j o' ho' hj => ?_, b⟩)
      rcases hj with hj | rfl
      · exact a j o' ho' hj
      · rw [ho] at ho'; simp only [Option.some.injEq] at ho'; subst ho'; rw [hd]; simpa using Ne.symm e

theorem Slots.agree {ms : List Nat} (hr : RegOk ops ms) (h : Slots ops ps fr0 S fr) (h' : Slots ops ps fr0 T fr') {x : Nat} (hx : ∀ (j : Nat) (o : Oper), ops[j]? = some o → o.dst = some x → (S j ↔ T j)) : fr[x]? = fr'[x]? := by
  rcases h.slot x with ⟨j, o, ho, hj, hd, hv⟩ | ⟨hno, hv⟩
  · rcases h'.slot x with ⟨j', o', ho', hj', hd', hv'⟩ | ⟨hno', hv'⟩
    · have : j' = j := by
        rcases Nat.decEq j' j with hne | heq
        · exact absurd hd (hr.once j o j' o' x ho ho' hne hd')
        · exact heq
      subst this
      rcases Nat.lt_or_ge x fr0.length with hlt | hge
      · rw [hv hlt, hv' hlt]
      · rw [List.getElem?_eq_none (by rw [h.len]; exact hge), List.getElem?_eq_none (by rw [h'.len]; exact hge)]
    · exact absurd hd (hno' j o ho ((hx j o ho hd).1 hj))
  · rcases h'.slot x with ⟨j', o', ho', hj', hd', hv'⟩ | ⟨hno', hv'⟩
    · exact absurd hd' (hno j' o' ho' ((hx j' o' ho' hd').2 hj'))
    · rw [hv, hv']

theorem Slots.same {ms : List Nat} (hr : RegOk ops ms) (h : Slots ops ps fr0 S fr) (h' : Slots ops ps fr0 T fr') (hx : ∀ (j : Nat) (o : Oper), ops[j]? = some o → (S j ↔ T j)) : fr = fr' :=
  List.ext_getElem? fun _ => h.agree hr h' fun j o ho _ => hx j o ho

/-! ### the boxes laid ahead -/
def kAt (ops : List Oper) (i : Nat) : Nat := ((ops.take i).filter fun o => shapeAlloc o.op).length

theorem kAt_succ {l : List Oper} {i : Nat} {o : Oper} (h : l[i]? = some o) : kAt l (i + 1) = kAt l i + if shapeAlloc o.op then 1 else 0 := by
  unfold kAt
  rw [List.take_add_one, h]
  simp only [Option.toList_some, List.filter_append, List.length_append]
  congr 1
  by_cases hs : shapeAlloc o.op = true <;> simp [hs]

theorem kAt_mono {l : List Oper} {i j : Nat} (h : i ≤ j) : kAt l i ≤ kAt l j := by
  unfold kAt
  have : l.take i = (l.take j).take i := by rw [List.take_take, Nat.min_eq_left h]
  rw [this]
  exact ((List.take_sublist i (l.take j)).filter _).length_le

theorem kAt_ne {l : List Oper} {i j : Nat} {o oj : Oper} (hi : l[i]? = some o) (hj : l[j]? = some oj) (hs : shapeAlloc o.op = true) (hsj : shapeAlloc oj.op = true) (hne : i ≠ j) : kAt l i ≠ kAt l j := by
  rcases Nat.lt_or_gt_of_ne hne with h | h
  · have := kAt_mono (l := l) (Nat.succ_le_of_lt h)
    rw [Nat.succ_eq_add_one, kAt_succ hi, if_pos hs] at this
    omega
  · have := kAt_mono (l := l) (Nat.succ_le_of_lt h)
    rw [Nat.succ_eq_add_one, kAt_succ hj, if_pos hsj] at this
    omega

theorem phoist_get {P : Program} : ∀ {l : List Oper} {hs : List SObj}, phoist P l = some hs → ∀ (i : Nat) (o : Oper) (t : TypeId), l[i]? = some o → o.op = .alloc t →
    ∃ z, pzero P t = some z ∧ z.cells.all PD.plain = true ∧ hs[kAt l i]? = some (.box z)
  | [], hs, h, i, o, t, hi, _ => by simp at hi
  | o' :: r, hs, h, 0, o, t, hi, ht => by
    simp only [List.getElem?_cons_zero, Option.some.injEq] at hi; subst hi
    unfold phoist at h
    rw [ht] at h
    simp only at h
    split at h
    · rename_i p l hp hl
      split at h
      · rename_i hpl
        simp only [Option.some.injEq] at h; subst h
        exact ⟨p, hp, hpl, by simp [kAt]⟩
      · simp at h
    · simp at h
  | o' :: r, hs, h, i + 1, o, t, hi, ht => by
    simp only [List.getElem?_cons_succ] at hi
    unfold phoist at h
    split at h
    · rename_i t' ht'
      split at h
      · rename_i p l hp hl
        split at h
        · rename_i hpl
          simp only [Option.some.injEq] at h; subst h
          obtain ⟨z, h1, h2, h3⟩ := phoist_get hl i o t hi ht
          refine ⟨z, h1, h2, ?_⟩
          have : kAt (o' :: r) (i + 1) = kAt r i + 1 := by simp [kAt, ht', shapeAlloc]
          rw [this, List.getElem?_cons_succ]; exact h3
        · simp at h
      · simp at h
    · rename_i hne
      obtain ⟨z, h1, h2, h3⟩ := phoist_get h i o t hi ht
      refine ⟨z, h1, h2, ?_⟩
      have hna : shapeAlloc o'.op = false := by
        cases ho : o'.op <;> first | rfl | exact absurd ho (hne _)
      have : kAt (o' :: r) (i + 1) = kAt r i := by simp [kAt, hna]
      rw [this]; exact h3

/-! ### the trace -/
structure TrAt (P : Program) (call : PCall) (fl : Nat) (ops : Array Oper) (ms : List Nat) (k0 : Nat) (frs : Nat → List PD) (σs : Nat → List SObj) (ps : Nat → PD) (ft : Nat → Option Nat) (i : Nat) (o : Oper) : Prop where
  put : frs (i + 1) = pput (frs i) o.dst (ps i)
  run : Region.wanted o (pyield ops (frs i)) = true → pdop P call fl (noLoose ops.toList ms i) (k0 + kAt ops.toList i) (frs i) (σs i) o.op = some (ps i, σs (i + 1)) ∧ ft i = pfoot (frs i) o.op
  skip : Region.wanted o (pyield ops (frs i)) = false → ps i = .tup [] ∧ σs (i + 1) = σs i

theorem trace_exists {P : Program} {call : PCall} {fl k0 : Nat} {ms : List Nat} : ∀ (l : List Oper) (i k : Nat) (fr : List PD) (σ : List SObj) (tr : List TE) (fr' : List PD) (σ' : List SObj), ops.toList.drop i = l → k = k0 + kAt ops.toList i →
    pdrawOps P call fl ops ms i k l fr σ = some (tr, fr', σ') → ∃ (frs : Nat → List PD) (σs : Nat → List SObj) (ps : Nat → PD) (ft : Nat → Option Nat), frs i = fr ∧ σs i = σ ∧ frs (i + l.length) = fr' ∧ σs (i + l.length) = σ' ∧
      (∀ (j : Nat) (o : Oper), i ≤ j → ops[j]? = some o → TrAt P call fl ops ms k0 frs σs ps ft j o) ∧ (∀ j, i ≤ j → j < i + l.length → ft j = (tr[j - i]?).bind TE.foot) := by
  intro l
  induction l with
  | nil =>
    intro i k fr σ tr fr' σ' hdrop hk h
    simp only [pdrawOps, Option.some.injEq, Prod.mk.injEq] at h
    obtain ⟨rfl, rfl, rfl⟩ := h
    refine ⟨fun _ => fr, fun _ => σ, fun _ => default, fun _ => none, rfl, rfl, rfl, rfl, fun j o hj ho => ?_, fun j h1 h2 => absurd h2 (by simp; omega)⟩
    have := lt_of_get ho
    have h2 : ops.toList.length ≤ i := List.drop_eq_nil_iff.1 hdrop
    simp at h2; omega
  | cons o rest ih =>
    intro i k fr σ tr fr' σ' hdrop hk h
    have ho : ops[i]? = some o := by
      have := congrArg List.head? hdrop
      rw [List.head?_drop] at this
      simpa using this
    have hdrop' : ops.toList.drop (i + 1) = rest := by rw [← List.drop_drop, hdrop]; rfl
    have hk' : (if shapeAlloc o.op then k + 1 else k) = k0 + kAt ops.toList (i + 1) := by
      rw [kAt_succ (by simpa using ho), hk]; split <;> omega
    simp only [pdrawOps] at h
    have lift : ∀ (p : PD) (σ1 : List SObj) (foot : Option Nat) (tr1 : List TE), pdrawOps P call fl ops ms (i + 1) (if shapeAlloc o.op then k + 1 else k) rest (pput fr o.dst p) σ1 = some (tr1, fr', σ') →
        tr = ⟨fr, σ, p, foot⟩ :: tr1 → (Region.wanted o (pyield ops fr) = true → pdop P call fl (noLoose ops.toList ms i) (k0 + kAt ops.toList i) fr σ o.op = some (p, σ1) ∧ foot = pfoot fr o.op) →
        (Region.wanted o (pyield ops fr) = false → p = .tup [] ∧ σ1 = σ) → ∃ (frs : Nat → List PD) (σs : Nat → List SObj) (ps : Nat → PD) (ft : Nat → Option Nat), frs i = fr ∧ σs i = σ ∧ frs (i + (o :: rest).length) = fr' ∧ σs (i + (o :: rest).length) = σ' ∧
      (∀ (j : Nat) (o : Oper), i ≤ j → ops[j]? = some o → TrAt P call fl ops ms k0 frs σs ps ft j o) ∧ (∀ j, i ≤ j → j < i + (o :: rest).length → ft j = (tr[j - i]?).bind TE.foot) := by
      intro p σ1 foot tr1 h1 htr hrun hskip
      obtain ⟨frs, σs, ps, ft, e1, e2, e3, e4, h5, h6⟩ := ih (i + 1) _ _ _ _ _ _ hdrop' hk' h1
      refine ⟨fun j => if j = i then fr else frs j, fun j => if j = i then σ else σs j, fun j => if j = i then p else ps j, fun j => if j = i then foot else ft j, by simp, by simp, ?_, ?_, ?_, ?_⟩
      · have hne : i + (o :: rest).length ≠ i := by simp
        simp only [if_neg hne]
        rw [show i + (o :: rest).length = i + 1 + rest.length by simp; omega]; exact e3
      · have hne : i + (o :: rest).length ≠ i := by simp
        simp only [if_neg hne]
        rw [show i + (o :: rest).length = i + 1 + rest.length by simp; omega]; exact e4
      · intro j oj hj hoj
        by_cases e : j = i
        · subst e
          rw [ho] at hoj; simp only [Option.some.injEq] at hoj; subst hoj
          refine ⟨?_, fun hw => ?_, fun hw => ?_⟩
          · simp [e1]
          · simp only [if_true] at hw ⊢
            simp only [Nat.succ_ne_self, if_false, e2]
            exact hrun hw
          · simp only [if_true] at hw ⊢
            simp only [Nat.succ_ne_self, if_false, e2]
            exact hskip hw
        · have h7 := h5 j oj (by omega) hoj
          have hne : j + 1 ≠ i := by omega
          refine ⟨?_, ?_, ?_⟩
          · simp only [if_neg e, if_neg hne]; exact h7.put
          · simp only [if_neg e, if_neg hne]; exact h7.run
          · simp only [if_neg e, if_neg hne]; exact h7.skip
      · intro j hj hlt
        by_cases e : j = i
        · subst e
          simp [htr]
        · simp only [if_neg e]
          rw [h6 j (by omega) (by simp at hlt; omega), htr, show j - i = (j - (i + 1)) + 1 by omega, List.getElem?_cons_succ]
    split at h
    · rename_i hw
      split at h
      · rename_i p σ1 hp
        split at h
        · rename_i tr1 fr1 σ2 hrec
          simp only [Option.some.injEq, Prod.mk.injEq] at h
          obtain ⟨rfl, rfl, rfl⟩ := h
          exact lift p σ1 _ tr1 hrec rfl (fun _ => ⟨by rw [← hk]; exact hp, rfl⟩) (fun hf => by rw [hw] at hf; cases hf)
        · simp at h
      · simp at h
    · rename_i hw
      split at h
      · rename_i tr1 fr1 σ2 hrec
        simp only [Option.some.injEq, Prod.mk.injEq] at h
        obtain ⟨rfl, rfl, rfl⟩ := h
        exact lift (.tup []) σ none tr1 hrec rfl (fun ht => absurd ht hw) (fun _ => ⟨rfl, rfl⟩)
      · simp at h

end
end Go.Kz
