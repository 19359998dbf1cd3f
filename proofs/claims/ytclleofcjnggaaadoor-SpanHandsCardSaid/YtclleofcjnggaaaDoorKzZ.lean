/-
  Drawn regions without boxes of their own and without loads loose of stores: the written order, plainly.
-/
import Derived.Test.YtclleofcjnggaaaDoorKzY
set_option linter.all false
namespace Go.Kz

/-- The call of operation i stands loose of no load. -/
def freeAt (ops : Array Oper) (i : Nat) : Bool := noLoose ops.toList (masks ops.toList []) i

def pdseq (P : Program) (call : PCall) (fl : Nat) (ops : Array Oper) : List (Bool × Oper) → List PD → List SObj → Option (List PD × List SObj)
  | [], fr, σ => some (fr, σ)
  | (free, o) :: rest, fr, σ =>
    if Region.wanted o (pyield ops fr) then
      match free with
      | true => match pstep P call fl fr σ o.op with
        | some (p, σ') => pdseq P call fl ops rest (pput fr o.dst p) σ'
        | none => none
      | false => match pstep P call (max fl σ.length) fr σ o.op with
        | some (p, σ') => pdseq P call fl ops rest (pput fr o.dst p) (σ ++ σ'.drop σ.length)
        | none => none
    else pdseq P call fl ops rest (pput fr o.dst (.tup [])) σ

/-- The flags of the operations from i on. -/
def flags (ops : Array Oper) (i : Nat) : List Oper → List (Bool × Oper)
  | [] => []
  | o :: r => (!shapeMove o.op || freeAt ops i, o) :: flags ops (i + 1) r

def staticOk (ops : Array Oper) : Bool :=
  regOk ops (masks ops.toList []) && ops.toList.all (fun o => !shapeAlloc o.op) &&
  (List.range ops.size).all fun k => !isAt shapeStore ops.toList k || (List.range ops.size).all fun i => !isAt shapeLoad ops.toList i || !loose (masks ops.toList []) i k

section
variable {P : Program} {call : PCall} {fl : Nat} {ops : Array Oper}

theorem shapeA_pmem {fr : List PD} {σ : List SObj} {op : Op} (h : shapeA op = true) : pmem P fl fr σ op = none := by
  cases op <;> first | rfl | (simp [shapeA] at h; done) | skip
  rename_i c
  obtain ⟨callee, args, ts⟩ := c
  cases callee with
  | value f => simp [shapeA] at h
  | invoke r m => simp [shapeA] at h
  | builtin b => cases b <;> first | rfl | (simp [shapeA] at h)

theorem pdop_pstep {k : Nat} {free : Bool} {fr : List PD} {σ : List SObj} {op : Op} (hs : (shapeA op || shapeLoad op || shapeAlloc op || shapeSlice op || shapeW op) = true) (ha : shapeAlloc op = false) :
    pdop P call fl free k fr σ op = (match (!shapeMove op || free) with
      | true => pstep P call fl fr σ op
      | false => match pstep P call (max fl σ.length) fr σ op with
        | some (p, σ') => some (p, σ ++ σ'.drop σ.length)
        | none => none) := by
  unfold pdop
  by_cases hA : shapeA op = true
  · obtain ⟨hpc, _, hW, _⟩ := shapeA_spec (fr := fr) hA
    have hM : shapeMove op = false := by simp [shapeW] at hW; exact hW.2
    rw [if_pos hA, hM]
    simp only [Bool.not_false, Bool.true_or]
    unfold pstep pop
    rw [hpc]
    simp only
    cases hp : pval P fr op with
    | some p => rfl
    | none =>
      simp only
      rw [shapeA_pmem hA]
  · simp only [Bool.not_eq_true] at hA
    rw [hA, ha]
    simp only [Bool.false_eq_true, if_false]
    by_cases hM : shapeMove op = true
    · rw [hM]
      cases free with
      | true => simp
      | false =>
        simp only [Bool.not_false, Bool.and_self, if_true, Bool.not_true, Bool.or_false]
        cases pstep P call (max fl σ.length) fr σ op <;> rfl
    · simp only [Bool.not_eq_true] at hM
      rw [hM]
      simp only [Bool.false_and, Bool.false_eq_true, if_false, Bool.not_false, Bool.true_or]
      have h3 : shapeLoad op = true ∨ shapeSlice op = true ∨ shapeStore op = true := by
        simp only [hA, ha, shapeW, hM, Bool.false_or, Bool.or_false, Bool.or_eq_true] at hs
        rcases hs with (h | h) | h
        · exact .inl h
        · exact .inr (.inl h)
        · exact .inr (.inr h)
      obtain ⟨hv, hp, _⟩ := pval_none_load (P := P) (fr := fr) h3
      unfold pstep pop
      rw [hp, hv]

theorem pdraw_static (h : staticOk ops = true) (fr : List PD) (σ : List SObj) : pdraw P call fl ops fr σ = pdseq P call fl ops (flags ops 0 ops.toList) fr σ := by
  simp only [staticOk, Bool.and_eq_true] at h
  obtain ⟨⟨hreg, hall⟩, hfeet⟩ := h
  have hr := regOk_spec hreg
  have hna : ∀ (l : List Oper), l.all (fun o => !shapeAlloc o.op) = true → phoist P l = some [] := by
    intro l
    induction l with
    | nil => intro _; rfl
    | cons o l ih =>
      intro hl
      simp only [List.all_cons, Bool.and_eq_true, Bool.not_eq_true'] at hl
      unfold phoist
      split
      · rename_i t ht; rw [ht] at hl; simp [shapeAlloc] at hl
      · exact ih hl.2
  have key : ∀ (l : List Oper) (i k : Nat) (fr : List PD) (σ : List SObj), ops.toList.drop i = l →
      (match pdrawOps P call fl ops (masks ops.toList []) i k l fr σ with | some (_, fr', σ') => some (fr', σ') | none => none) = pdseq P call fl ops (flags ops i l) fr σ := by
    intro l
    induction l with
    | nil => intro i k fr σ _; rfl
    | cons o rest ih =>
      intro i k fr σ hdrop
      have ho : ops[i]? = some o := by
        have := congrArg List.head? hdrop
        rw [List.head?_drop] at this
        simpa using this
      have hdrop' : ops.toList.drop (i + 1) = rest := by rw [← List.drop_drop, hdrop]; rfl
      have hal : shapeAlloc o.op = false := by
        have := List.all_eq_true.1 hall o (Array.mem_toList_iff.2 (Array.mem_of_getElem? ho))
        simpa using this
      simp only [pdrawOps, flags, pdseq]
      cases hw : Region.wanted o (pyield ops fr) with
      | true =>
        simp only [if_true]
        rw [pdop_pstep (hr.shape i o ho) hal]
        simp only [freeAt]
        cases (!shapeMove o.op || noLoose ops.toList (masks ops.toList []) i) with
        | true =>
          simp only
          cases hp : pstep P call fl fr σ o.op with
          | none => rfl
          | some q =>
            obtain ⟨p, σ'⟩ := q
            simp only
            rw [← ih (i + 1) (if shapeAlloc o.op = true then k + 1 else k) (pput fr o.dst p) σ' hdrop']
            cases pdrawOps P call fl ops (masks ops.toList []) (i + 1) (if shapeAlloc o.op = true then k + 1 else k) rest (pput fr o.dst p) σ' <;> rfl
        | false =>
          simp only
          cases hp : pstep P call (max fl σ.length) fr σ o.op with
          | none => rfl
          | some q =>
            obtain ⟨p, σ'⟩ := q
            simp only
            rw [← ih (i + 1) (if shapeAlloc o.op = true then k + 1 else k) (pput fr o.dst p) _ hdrop']
            cases pdrawOps P call fl ops (masks ops.toList []) (i + 1) (if shapeAlloc o.op = true then k + 1 else k) rest (pput fr o.dst p) (σ ++ σ'.drop σ.length) <;> rfl
      | false =>
        simp only [Bool.false_eq_true, if_false]
        rw [← ih (i + 1) (if shapeAlloc o.op = true then k + 1 else k) (pput fr o.dst (.tup [])) σ hdrop']
        cases pdrawOps P call fl ops (masks ops.toList []) (i + 1) (if shapeAlloc o.op = true then k + 1 else k) rest (pput fr o.dst (.tup [])) σ <;> rfl
  unfold pdraw
  simp only [hreg, if_true, hna _ hall, List.append_nil]
  rw [← key ops.toList 0 σ.length fr σ (by simp)]
  split
  · rename_i tr fr' σ' hops
    have hfo : footsOk ops.toList (masks ops.toList []) tr = true := by
      simp only [footsOk, List.all_eq_true, List.mem_range]
      simp only [List.all_eq_true, List.mem_range] at hfeet
      intro k hk
      have h1 := hfeet k (by simpa using hk)
      cases hs : isAt shapeStore ops.toList k with
      | false => simp
      | true =>
        rw [hs] at h1
        simp only [Bool.not_true, Bool.false_or, List.all_eq_true, List.mem_range] at h1 ⊢
        intro i hi
        have h2 := h1 i (by simpa using hi)
        simp only [Bool.or_eq_true] at h2 ⊢
        exact .inl h2
    rw [hfo, hops]; rfl
  · rename_i hops; rw [hops]

end
end Go.Kz
