/-
  Drawn regions: whatever order is drawn, the state comes to stand for what the written order computes.
-/
import Derived.Test.YtclleofcjnggaaaDoorKzQ
set_option linter.all false
namespace Go.Kz
open Go.RowKit

/-! ### what moves the store, and how -/
section
variable {P : Program} {call : PCall} {fl k : Nat} {free : Bool} {fr : List PD} {σ σ' : List SObj} {op : Op} {p : PD}

theorem pval_none_load (h : shapeLoad op = true ∨ shapeSlice op = true ∨ shapeStore op = true) : pval P fr op = none ∧ pcallee fr op = none ∧ shapeA op = false ∧ shapeAlloc op = false ∧ shapeMove op = false := by
  cases op <;> simp [shapeLoad, shapeSlice, shapeStore] at h <;> simp [pval, pcallee, shapeA, shapeAlloc, shapeMove]

theorem shapeA_spec (h : shapeA op = true) : pcallee fr op = none ∧ shapeAlloc op = false ∧ shapeW op = false ∧ shapeLoad op = false := by
  cases op <;> simp [shapeA] at h <;> simp [pcallee, shapeAlloc, shapeW, shapeStore, shapeMove, shapeLoad]
  rename_i c
  obtain ⟨callee, args, ts⟩ := c
  cases callee <;> simp at h ⊢
  rename_i b
  cases b <;> simp at h ⊢

theorem shapeMove_spec (h : shapeMove op = true) : shapeA op = false ∧ shapeAlloc op = false ∧ shapeLoad op = false ∧ shapeStore op = false := by
  cases op <;> simp [shapeMove] at h <;> simp [shapeA, shapeAlloc, shapeLoad, shapeStore]
  rename_i c
  obtain ⟨callee, args, ts⟩ := c
  cases callee with
  | value f => rfl
  | invoke r m => simp at h
  | builtin b => cases b <;> simp at h ⊢

theorem shapeAlloc_spec (h : shapeAlloc op = true) : shapeA op = false ∧ shapeW op = false ∧ shapeLoad op = false ∧ ∃ t, op = .alloc t := by
  cases op <;> simp [shapeAlloc] at h <;> simp [shapeA, shapeW, shapeStore, shapeMove, shapeLoad]

theorem pmem_keep (hl : shapeLoad op = true ∨ shapeSlice op = true) (h : pmem P fl fr σ op = some (p, σ')) : σ' = σ := by
  cases op <;> simp [shapeLoad, shapeSlice] at hl
  · simp only [pmem] at h
    split at h
    · split at h
      · simp only [Option.some.injEq, Prod.mk.injEq] at h; exact h.2.symm
      · simp at h
    · simp at h
  · simp only [pmem] at h
    split at h
    · split at h
      · simp only [Option.some.injEq, Prod.mk.injEq] at h; exact h.2.symm
      · simp at h
    · simp at h

/-- A store turns the box of its foot and no other. -/
theorem pmem_store (hl : shapeStore op = true) (h : pmem P fl fr σ op = some (p, σ')) : ∃ id o, pfoot fr op = some id ∧ σ' = σ.set id o := by
  cases op <;> simp [shapeStore] at hl
  rename_i t x y
  simp only [pmem] at h
  split at h
  · rename_i a q h1 h2
    split at h
    · rename_i s hs
      simp only [Option.some.injEq, Prod.mk.injEq] at h
      obtain ⟨rfl, rfl⟩ := h
      unfold pstore at hs
      split at hs
      · rename_i id off
        split at hs
        · split at hs
          · split at hs
            · split at hs
              · simp only [Option.some.injEq] at hs
                exact ⟨id, _, by simp [pfoot, h1], hs.symm⟩
              · simp at hs
            · simp at hs
          · simp at hs
        · simp at hs
      · simp at hs
    · simp at h
  · simp at h

theorem pdop_keep (hs : (shapeA op || shapeLoad op || shapeAlloc op || shapeSlice op || shapeW op) = true) (hw : shapeW op = false) (h : pdop P call fl free k fr σ op = some (p, σ')) : σ' = σ := by
  unfold pdop at h
  split at h
  · split at h
    · simp only [Option.some.injEq, Prod.mk.injEq] at h; exact h.2.symm
    · simp at h
  · rename_i hA
    split at h
    · simp only [Option.some.injEq, Prod.mk.injEq] at h; exact h.2.symm
    · rename_i hB
      have hm : shapeMove op = false := by simp [shapeW] at hw; exact hw.2
      rw [hm] at h
      simp only [Bool.false_and, Bool.false_eq_true, if_false] at h
      refine pmem_keep ?_ h
      simp [hw, Bool.not_eq_true] at hs hA hB
      rw [hA, hB] at hs
      simpa using hs
end

section
variable {P : Program} {call : PCall} {fl k0 : Nat} {ops : Array Oper} {ms : List Nat} {frs : Nat → List PD} {σs : Nat → List SObj} {ps : Nat → PD} {ft : Nat → Option Nat}

/-- The whole trace. -/
def Trs (P : Program) (call : PCall) (fl : Nat) (ops : Array Oper) (ms : List Nat) (k0 : Nat) (frs : Nat → List PD) (σs : Nat → List SObj) (ps : Nat → PD) (ft : Nat → Option Nat) : Prop :=
  ∀ (i : Nat) (o : Oper), ops[i]? = some o → TrAt P call fl ops ms k0 frs σs ps ft i o

theorem Trs.still (hr : RegOk ops ms) (ht : Trs P call fl ops ms k0 frs σs ps ft) {i : Nat} {o : Oper} (ho : ops[i]? = some o) (hw : shapeW o.op = false) : σs (i + 1) = σs i := by
  cases hwt : Region.wanted o (pyield ops (frs i)) with
  | true => exact pdop_keep (hr.shape i o ho) hw ((ht i o ho).run hwt).1
  | false => exact ((ht i o ho).skip hwt).2

theorem Trs.stills (hr : RegOk ops ms) (ht : Trs P call fl ops ms k0 frs σs ps ft) {i : Nat} : ∀ (d : Nat), i + d ≤ ops.size → (∀ j o, i ≤ j → j < i + d → ops[j]? = some o → shapeW o.op = false) → σs (i + d) = σs i
  | 0, _, _ => rfl
  | d + 1, hn, h => by
    have ih := ht.stills hr d (by omega) fun j o h1 h2 ho => h j o h1 (by omega) ho
    have ho : ops[i + d]? = some ops[i + d] := Array.getElem?_eq_getElem (by omega)
    rw [show i + (d + 1) = i + d + 1 by omega, ht.still hr ho (h _ _ (by omega) (by omega) ho), ih]

/-- The checks of the feet. -/
def Feet (ops : Array Oper) (ms : List Nat) (ft : Nat → Option Nat) : Prop :=
  ∀ (k i : Nat) (ok oi : Oper), ops[k]? = some ok → ops[i]? = some oi → shapeStore ok.op = true → shapeLoad oi.op = true → loose ms i k = true → ∀ a b, ft i = some a → ft k = some b → a ≠ b

theorem Trs.loose (hr : RegOk ops ms) (ht : Trs P call fl ops ms k0 frs σs ps ft) (hf : Feet ops ms ft) {i id : Nat} {oi : Oper} (hi : ops[i]? = some oi) (hl : shapeLoad oi.op = true) (hid : ft i = some id)
    {k : Nat} {o : Oper} (ho : ops[k]? = some o) (hk : shapeW o.op = true → Kz.loose ms i k = true) (hlt : id < (σs k).length) : (σs (k + 1))[id]? = (σs k)[id]? ∧ (σs k).length ≤ (σs (k + 1)).length := by
  cases hw : shapeW o.op with
  | false => rw [ht.still hr ho hw]; exact ⟨rfl, Nat.le_refl _⟩
  | true =>
    have hloose := hk hw
    cases hwt : Region.wanted o (pyield ops (frs k)) with
    | false => rw [((ht k o ho).skip hwt).2]; exact ⟨rfl, Nat.le_refl _⟩
    | true =>
      obtain ⟨hrun, hfoot⟩ := (ht k o ho).run hwt
      simp only [shapeW, Bool.or_eq_true] at hw
      rcases hw with hst | hmv
      · obtain ⟨_, _, hA, hB, hM⟩ := pval_none_load (P := P) (fr := frs k) (.inr (.inr hst))
        unfold pdop at hrun
        simp only [hA, hB, hM, Bool.false_eq_true, if_false, Bool.false_and] at hrun
        obtain ⟨id', o', h1, h2⟩ := pmem_store hst hrun
        have hne : id ≠ id' := hf k i o oi ho hi hst hl hloose id id' hid (hfoot.trans h1)
        rw [h2]
        exact ⟨List.getElem?_set_ne (Ne.symm hne), by simp⟩
      · obtain ⟨hA, hB, _, _⟩ := shapeMove_spec hmv
        have hfree : noLoose ops.toList ms k = false := by
          cases hx : noLoose ops.toList ms k with
          | false => rfl
          | true =>
            simp only [noLoose, List.all_eq_true, List.mem_range] at hx
            have := hx i (by simpa using lt_of_get hi)
            rw [isAt_iff hi, hl, hloose] at this
            simp at this
        unfold pdop at hrun
        simp only [hA, hB, hmv, hfree, Bool.false_eq_true, if_false, Bool.not_false, Bool.and_self, if_true] at hrun
        split at hrun
        · rename_i p σ1 hst
          simp only [Option.some.injEq, Prod.mk.injEq] at hrun
          rw [← hrun.2]
          exact ⟨by rw [List.getElem?_append_left hlt], by simp⟩
        · simp at hrun

theorem Trs.looses (hr : RegOk ops ms) (ht : Trs P call fl ops ms k0 frs σs ps ft) (hf : Feet ops ms ft) {i id : Nat} {oi : Oper} (hi : ops[i]? = some oi) (hl : shapeLoad oi.op = true) (hid : ft i = some id) {m : Nat} :
    ∀ (d : Nat), m + d ≤ ops.size → (∀ k o, m ≤ k → k < m + d → ops[k]? = some o → shapeW o.op = true → Kz.loose ms i k = true) → id < (σs m).length → (σs (m + d))[id]? = (σs m)[id]? ∧ (σs m).length ≤ (σs (m + d)).length
  | 0, _, _, _ => ⟨rfl, Nat.le_refl _⟩
  | d + 1, hn, h, hlt => by
    obtain ⟨h1, h2⟩ := ht.looses hr hf hi hl hid d (by omega) (fun k o a b => h k o a (by omega)) hlt
    have ho : ops[m + d]? = some ops[m + d] := Array.getElem?_eq_getElem (by omega)
    obtain ⟨h3, h4⟩ := ht.loose hr hf hi hl hid ho (fun hw => h _ _ (by omega) (by omega) ho hw) (by omega)
    exact ⟨h3.trans h1, Nat.le_trans h2 h4⟩

theorem Trs.slots (hr : RegOk ops ms) (ht : Trs P call fl ops ms k0 frs σs ps ft) : ∀ (i : Nat), i ≤ ops.size → Slots ops ps (frs 0) (· < i) (frs i)
  | 0, _ => .start fun j => Nat.not_lt_zero j
  | i + 1, h => by
    have ho : ops[i]? = some ops[i] := Array.getElem?_eq_getElem (by omega)
    have ih := ht.slots hr i (by omega)
    rw [(ht i _ ho).put]
    exact (ih.put hr ho).congr fun j => by omega

/-- Who is ready sees in his slots what he sees in the written order. -/
theorem slots_ready (hr : RegOk ops ms) (ht : Trs P call fl ops ms k0 frs σs ps ft) {S : Nat → Prop} {fr : List PD} (hS : Closed ops S) (hsl : Slots ops ps (frs 0) S fr) {i : Nat} {o : Oper} (ho : ops[i]? = some o) (hni : ¬ S i)
    (hready : ∀ e ∈ o.after, Region.binds .any e = true → S e.on) {x : Nat} (hx : x ∈ o.looksAt ops) : fr[x]? = (frs i)[x]? := by
  refine hsl.agree hr (ht.slots hr i (Nat.le_of_lt (lt_of_get ho))) fun j oj hoj hd => ?_
  rcases Nat.lt_trichotomy j i with hlt | rfl | hgt
  · obtain ⟨e, he, hb, heq⟩ := (hr.looks i o j oj x ho hoj (by omega) hd hx).1 hlt
    exact ⟨fun _ => hlt, fun _ => heq ▸ hready e he hb⟩
  · exact ⟨fun h => absurd h hni, fun h => absurd h (Nat.lt_irrefl _)⟩
  · obtain ⟨e, he, hb, heq⟩ := (hr.looks i o j oj x ho hoj (by omega) hd hx).2 hgt
    exact ⟨fun h => absurd (heq ▸ hS j oj h hoj e he hb) hni, fun h => absurd h (by omega)⟩

theorem looks_eval {fr fr' : List PD} {o : Oper} (h : ∀ x ∈ o.looksAt ops, fr[x]? = fr'[x]?) : ∀ x ∈ o.op.operands, peval fr x = peval fr' x := by
  intro x hx
  cases x with
  | tmp t =>
    have : t ∈ o.looksAt ops := List.mem_append_left _ (List.mem_filterMap.2 ⟨.tmp t, by simpa using hx, rfl⟩)
    simp only [peval, List.getD_eq_getElem?_getD, h t this]
  | _ => rfl

theorem looks_wanted {fr fr' : List PD} {o : Oper} (h : ∀ x ∈ o.looksAt ops, fr[x]? = fr'[x]?) : Region.wanted o (pyield ops fr) = Region.wanted o (pyield ops fr') := by
  unfold Region.wanted
  cases hg : o.guard with
  | none => rfl
  | some gb =>
    obtain ⟨g, b⟩ := gb
    simp only
    have : pyield ops fr g = pyield ops fr' g := by
      unfold pyield
      cases hd : (ops[g]?).bind (·.dst) with
      | none => rfl
      | some d =>
        have hm : d ∈ o.looksAt ops := List.mem_append_right _ (by rw [hg]; simp [hd])
        simp only [h d hm]
    rw [this]

/-- Where the activation stands when the operations of 'listed' have been carried out. -/
structure Inv (P : Program) (fl : Nat) (ops : Array Oper) (c0 : Cx) (fr0 : List PD) (σs : Nat → List SObj) (ps : Nat → PD) (df : List Deferred) (listed : Array Bool) (a : Act) (c : Cx) (fr : List PD) (b : Nat) : Prop where
  size : listed.size = ops.size
  closed : Closed ops (Lt listed)
  sr : Sr c
  nx : Nx fl c0 c
  σ : c.σ = σs b
  bN : b ≤ ops.size
  front : ∀ (j : Nat) (o : Oper), ops[j]? = some o → shapeW o.op = true → (Lt listed j ↔ j < b)
  holes : ∀ (i : Nat) (o : Oper) (t : TypeId), ops[i]? = some o → o.op = .alloc t → ¬ Lt listed i → ¬ c.D (c0.σ.length + kAt ops.toList i) ∧ ∃ z, pzero P t = some z ∧ z.cells.all PD.plain = true ∧ c.σ[c0.σ.length + kAt ops.toList i]? = some (.box z)
  slots : Slots ops ps fr0 (Lt listed) fr
  fr : FR c a fr
  df : a.defers = df

theorem lt_set {listed : Array Bool} {i j : Nat} (hi : i < listed.size) : Lt (listed.setIfInBounds i true) j ↔ Lt listed j ∨ j = i := by
  unfold Lt
  by_cases e : i = j
  · subst e; simp [hi]
  · rw [Array.getElem?_setIfInBounds_ne e]
    exact ⟨.inl, fun h => h.elim id (fun h => absurd h.symm e)⟩

theorem Inv.step {c0 : Cx} {fr0 : List PD} {df : List Deferred} {listed : Array Bool} {a : Act} {c : Cx} {fr : List PD} {b : Nat} (hr : RegOk ops ms) (hi : Inv P fl ops c0 fr0 σs ps df listed a c fr b) {i b' : Nat} {o : Oper} (ho : ops[i]? = some o)
    (hready : ∀ e ∈ o.after, Region.binds .any e = true → Lt listed e.on) {c' : Cx} {v : Value} (hs' : Sr c') (nx' : Nx fl c0 c') (hσ : c'.σ = σs b') (hb' : b' ≤ ops.size)
    (hfront : ∀ (j : Nat) (o : Oper), ops[j]? = some o → shapeW o.op = true → ((Lt listed j ∨ j = i) ↔ j < b'))
    (hholes : ∀ (j : Nat) (o : Oper) (t : TypeId), ops[j]? = some o → o.op = .alloc t → ¬ Lt listed j → j ≠ i → ¬ c'.D (c0.σ.length + kAt ops.toList j) ∧ ∃ z, pzero P t = some z ∧ z.cells.all PD.plain = true ∧ c'.σ[c0.σ.length + kAt ops.toList j]? = some (.box z))
    (hf' : FR c' a fr) (hv : VR c' v (ps i)) : Inv P fl ops c0 fr0 σs ps df (listed.setIfInBounds i true) (a.put o.dst v) c' (pput fr o.dst (ps i)) b' := by
  have hlt : i < listed.size := by rw [hi.size]; exact lt_of_get ho
  refine ⟨by simpa using hi.size, ?_, hs', nx', hσ, hb', ?_, ?_, ?_, hf'.put hv _, ?_⟩
  · intro j oj hj hoj e he hb
    rw [lt_set hlt] at hj ⊢
    rcases hj with hj | rfl
    · exact .inl (hi.closed j oj hj hoj e he hb)
    · rw [ho] at hoj; simp only [Option.some.injEq] at hoj; subst hoj
      exact .inl (hready e he hb)
  · intro j oj hoj hw
    rw [lt_set hlt]
    exact hfront j oj hoj hw
  · intro j oj t hoj ht hn
    rw [lt_set hlt] at hn
    exact hholes j oj t hoj ht (fun h => hn (.inl h)) (fun h => hn (.inr h))
  · exact (hi.slots.put hr ho).congr fun j => (lt_set hlt).symm
  · rw [← hi.df]; cases o.dst <;> rfl

end
end Go.Kz
