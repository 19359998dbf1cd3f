/-
  All operations that call no function of the program, in one theorem.
-/
import Derived.Test.YtclleofcjnggaaaDoorKzL
set_option linter.all false
namespace Go.Kz
open Go.RowKit

section
variable {P : Program} {c : Cx} {fl : Nat}

/-- An operation's run: a value, or nothing. -/
def Yields' (P : Program) (o : Oper) (a : Act) (w : World) (v : Value) (w' : World) : Prop :=
  (execOp a.eval o).run P w = .ok (.value v) w' ∨ ((execOp a.eval o).run P w = .ok .skip w' ∧ v = undef)

theorem pmem_ok (hs : Sr c) (hX : Xw fl c) {a : Act} {fr : List PD} (hf : FR c a fr) {o : Oper} {p : PD} {σ' : List SObj} (h : pmem P fl fr c.σ o.op = some (p, σ')) :
    ∃ v w', Yields' P o a c.w v w' ∧ Leaves fl c p σ' v w' := by
  obtain ⟨dst, op, ty, pos, after, guard⟩ := o
  simp only at h
  unfold pmem at h
  split at h
  · rename_i t x
    split at h
    · rename_i pa h1
      split at h
      · rename_i q hq
        simp only [Option.some.injEq, Prod.mk.injEq] at h
        obtain ⟨rfl, rfl⟩ := h
        obtain ⟨v, r, hv⟩ := pload_ok hs hq (eval_VR hf h1)
        exact ⟨v, c.w, .inl (by simp [execOp, r]), c, rfl, rfl, hs, .refl _ _, hv, fun _ h => .inl h⟩
      · simp at h
    · simp at h
  · rename_i t x y
    split at h
    · rename_i pa pb h1 h2
      split at h
      · rename_i s' hs'
        simp only [Option.some.injEq, Prod.mk.injEq] at h
        obtain ⟨rfl, rfl⟩ := h
        obtain ⟨w', r, hl⟩ := pstore_ok hs hs' (eval_VR hf h1) (eval_VR hf h2)
        exact ⟨undef, w', .inr ⟨by simp [execOp, r], rfl⟩, hl⟩
      · simp at h
    · simp at h
  · rename_i t
    split at h
    · rename_i q hq
      split at h
      · rename_i hpl
        simp only [Option.some.injEq, Prod.mk.injEq] at h
        obtain ⟨rfl, rfl⟩ := h
        obtain ⟨zv, i, hi, hzv, hzr⟩ := pzero_ok (c := c) hq
        obtain ⟨r, hl⟩ := newBox_ok (P := P) (fl := fl) hs hzr hpl t
        refine ⟨_, _, .inl ?_, hl⟩
        simp [execOp, Instr.alloc, zeroValue, typeInfo, hi, hzv, r]
      · simp at h
    · simp at h
  · rename_i t x
    split at h
    · rename_i q hq
      split at h
      · rename_i hpl
        simp only [Option.some.injEq, Prod.mk.injEq] at h
        obtain ⟨rfl, rfl⟩ := h
        obtain ⟨r, hl⟩ := newBox_ok (P := P) (fl := fl) hs (eval_VR hf hq) hpl t
        refine ⟨_, _, .inl ?_, hl⟩
        simp [execOp, Instr.box, r]
      · simp at h
    · simp at h
  · rename_i t len parts
    split at h
    · rename_i ps h1
      split at h
      · rename_i q hq
        simp only [Option.some.injEq, Prod.mk.injEq] at h
        obtain ⟨rfl, rfl⟩ := h
        obtain ⟨a1, a2⟩ := parts_VR hf h1
        obtain ⟨v, w', r, hl⟩ := pnewSlice_ok (fl := fl) hs (vparts := parts.toList.map fun q => (q.1, a.eval q.2)) hq (by simpa using a1) (fun i jv jp h3 h4 => by
          rw [List.getElem?_map] at h4
          cases hx : ps[i]? with
          | none => rw [hx] at h4; simp at h4
          | some x =>
            rw [hx] at h4; simp only [Option.map_some, Option.some.injEq] at h4; subst h4
            exact ⟨(a2 i jv x h3 hx).1, (a2 i jv x h3 hx).2.strip⟩)
        refine ⟨v, w', .inl ?_, hl⟩
        have e : (Array.map (fun x => match x with | (i, x) => (i, a.eval x)) parts) = (parts.toList.map fun q => (q.1, a.eval q.2)).toArray := by apply Array.ext'; simp
        simp only [execOp, Sem.run_bind]
        rw [e, r]
        simp
      · simp at h
    · simp at h
  · rename_i args ts
    split at h
    · rename_i s x t t' h1 h2
      split at h
      · rename_i htt
        subst htt
        have hv := evals_VR hf h1
        have hvl := hv.1
        obtain ⟨args⟩ := args
        obtain ⟨ts⟩ := ts
        simp only at h1 hv hvl h2
        match args, hv, hvl with
        | [x1, x2], hv, _ =>
          subst h2
          obtain ⟨v, w', r, hl⟩ := pappend_ok hs hX h (hv.2 0 _ _ rfl rfl) (hv.2 1 _ _ rfl rfl).strip ty
          refine ⟨v, w', .inl ?_, hl⟩
          simp only [execOp, resolve, invoke, builtin, Sem.run_bind, Sem.run_pure, Result.andThen_ok]
          simp [r]
      · simp at h
    · simp at h
  · simp at h

theorem pop_ok (hs : Sr c) (hX : Xw fl c) {a : Act} {fr : List PD} (hf : FR c a fr) {o : Oper} {p : PD} {σ' : List SObj} (h : pop P fl fr c.σ o.op = some (p, σ')) :
    ∃ v w', Yields' P o a c.w v w' ∧ Leaves fl c p σ' v w' := by
  unfold pop at h
  split at h
  · rename_i q hq
    simp only [Option.some.injEq, Prod.mk.injEq] at h
    obtain ⟨rfl, rfl⟩ := h
    obtain ⟨v, r, hv⟩ := pval_ok hf hq c.w
    exact ⟨v, c.w, .inl r, c, rfl, rfl, hs, .refl _ _, hv, fun _ h => .inl h⟩
  · exact pmem_ok hs hX hf h

/-- A call of a function of the program. -/
theorem pcallee_ok {a : Act} {fr : List PD} (hf : FR c a fr) {o : Oper} {f : FuncId} {ps : List PD} (h : pcallee fr o.op = some (.inl f, ps)) {fn : Func} (hfn : P.funcs[f]? = some fn) (hb : fn.body.isSome = true) (hn : (fn.name == "runtime.NumGoroutine") = false) :
    ∃ vs : List Value, (execOp a.eval o).run P c.w = .ok (.enter f vs.toArray) c.w ∧ VRs c vs ps := by
  obtain ⟨dst, op, ty, pos, after, guard⟩ := o
  simp only at h
  unfold pcallee at h
  split at h
  · rename_i g args ts
    split at h
    · rename_i f' cap qs h1 h2
      simp only [Option.some.injEq, Prod.mk.injEq, Sum.inl.injEq] at h
      obtain ⟨rfl, rfl⟩ := h
      obtain ⟨cs, e, hcs⟩ := (eval_VR hf h1).inv_func
      have hv := evals_VR hf h2
      refine ⟨args.toList.map a.eval ++ cs, ?_, hv.append hcs⟩
      have hb' : fn.body.isNone = false := by cases hx : fn.body <;> simp_all
      have e2 : (#[] ++ args.map a.eval ++ cs.toArray) = (args.toList.map a.eval ++ cs).toArray := by apply Array.ext'; simp
      simp only [execOp, resolve, e, Deferred.ofValue, Sem.run_bind, Sem.run_pure, Result.andThen_ok, invoke, callFunc, run_program, hfn, hn, hb', Bool.false_eq_true, if_false, e2]
    · simp at h
    · simp at h
  · simp at h

theorem VR.inv_yield {v : Value} {id : Nat} (h : VR c v (.yield id)) : ∃ l, v = .func (.yield l) #[] #[] ∧ c.D id ∧ notOwn c.σ[id]? ∧ c.ρ id = .pointer (some ⟨l, 0, none⟩) := by
  cases h with | yield _ l h1 h2 h3 => exact ⟨l, rfl, h1, h2, h3⟩

/-- A call of a round. -/
theorem pcallee_yield {a : Act} {fr : List PD} (hf : FR c a fr) {o : Oper} {id : Nat} {ps : List PD} (h : pcallee fr o.op = some (.inr id, ps)) :
    ∃ (l : Nat) (vs : List Value), (∀ w : World, (execOp a.eval o).run P w = (Instr.yield l vs.toArray).run P w) ∧ VRs c vs ps ∧ c.D id ∧ c.ρ id = .pointer (some ⟨l, 0, none⟩) := by
  obtain ⟨dst, op, ty, pos, after, guard⟩ := o
  simp only at h
  unfold pcallee at h
  split at h
  · rename_i g args ts
    split at h
    · simp at h
    · rename_i id' qs h1 h2
      simp only [Option.some.injEq, Prod.mk.injEq, Sum.inr.injEq] at h
      obtain ⟨rfl, rfl⟩ := h
      obtain ⟨l, e, hd, hn, hr⟩ := (eval_VR hf h1).inv_yield
      have hv := evals_VR hf h2
      refine ⟨l, args.toList.map a.eval, fun w => ?_, hv, hd, hr⟩
      have e2 : (#[] ++ args.map a.eval) = (args.toList.map a.eval).toArray := by apply Array.ext'; simp
      simp only [execOp, resolve, e, Deferred.ofValue, Sem.run_bind, Sem.run_pure, Result.andThen_ok, invoke, e2]
    · simp at h
  · simp at h

end
end Go.Kz
