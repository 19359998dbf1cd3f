/-
  All operations that leave the store alone, in one theorem.
-/
import Derived.Test.YtclleofcjnggaaaDoorKzG
set_option linter.all false
namespace Go.Kz

section
variable {P : Program} {c : Cx}

theorem VRs.append {c : Cx} {a b : List Value} {x y : List PD} (h : VRs c a x) (k : VRs c b y) : VRs c (a ++ b) (x ++ y) := by
  refine ⟨by simp [h.1, k.1], fun i v d hv hd => ?_⟩
  rw [List.getElem?_append] at hv hd
  by_cases h1 : i < a.length
  · rw [if_pos h1] at hv; rw [if_pos (by rw [← h.1]; exact h1)] at hd; exact h.2 i v d hv hd
  · rw [if_neg h1] at hv; rw [if_neg (by rw [← h.1]; exact h1)] at hd; rw [← h.1] at hd; exact k.2 _ v d hv hd

theorem pval_ok {a : Act} {fr : List PD} (hf : FR c a fr) {o : Oper} {p : PD} (h : pval P fr o.op = some p) (w : World) :
    ∃ v, (execOp a.eval o).run P w = .ok (.value v) w ∧ VR c v p := by
  obtain ⟨dst, op, ty, pos, after, guard⟩ := o
  simp only at h
  unfold pval at h
  split at h
  · exact ⟨_, by simp [execOp], eval_VR hf h⟩
  · exact ⟨_, by simp [execOp], eval_VR hf h⟩
  · rename_i x y z
    split at h
    · rename_i hx
      have e := (eval_VR hf hx).inv_bool
      exact ⟨_, by simp [execOp, e, asBool], eval_VR hf h⟩
    · rename_i hx
      have e := (eval_VR hf hx).inv_bool
      exact ⟨_, by simp [execOp, e, asBool], eval_VR hf h⟩
    · simp at h
  · rename_i bop t x y yt
    split at h
    · rename_i pa pb h1 h2
      obtain ⟨v, r, q⟩ := pbin_ok h (eval_VR hf h1) (eval_VR hf h2) w x y
      refine ⟨v, ?_, q⟩
      have e : execOp a.eval ⟨dst, .binOp bop t x y yt, ty, pos, after, guard⟩ = ((do eqGuard bop t x y (a.eval x) (a.eval y); binOp bop t (a.eval x) (a.eval y) : Sem Value) >>= fun z => pure (.value z)) := rfl
      rw [e, Sem.run_bind, r]
      rfl
    · simp at h
  · rename_i uop t x
    split at h
    · rename_i pa h1
      obtain ⟨v, r, q⟩ := pun_ok (P := P) h (eval_VR hf h1) w
      exact ⟨v, by simp [execOp, r], q⟩
    · simp at h
  · rename_i s d x
    split at h
    · rename_i pa h1
      obtain ⟨v, r, q⟩ := pconv_ok h (eval_VR hf h1) w
      exact ⟨v, by simp [execOp, r], q⟩
    · simp at h
  · rename_i f first captured
    split at h
    · rename_i h0
      split at h
      · rename_i ps hps
        simp only [Option.some.injEq] at h; subst h
        have hv := evals_VR hf hps
        have e : first = #[] := Array.eq_empty_of_size_eq_zero h0
        subst e
        refine ⟨.func (.func f) #[] (captured.toList.map a.eval).toArray, ?_, .func f _ ps hv.1 hv.2⟩
        have e2 : captured.map a.eval = (captured.toList.map a.eval).toArray := by apply Array.ext'; simp
        simp [execOp, Instr.makeFunc, e2]
      · simp at h
    · simp at h
  · rename_i t x lo hi mx
    split at h
    · rename_i pa h1
      obtain ⟨v, r, q⟩ := pslice_ok hf h (eval_VR hf h1) w
      exact ⟨v, by simp [execOp, r], q⟩
    · simp at h
  · rename_i s x f
    split at h
    · rename_i pa h1
      obtain ⟨v, r, q⟩ := pfieldAddr_ok h (eval_VR hf h1) w
      exact ⟨v, by simp [execOp, r], q⟩
    · simp at h
  · rename_i t x f
    split at h
    · rename_i pa h1
      obtain ⟨v, r, q⟩ := pfield_ok h (eval_VR hf h1) w
      exact ⟨v, by simp [execOp, r], q⟩
    · simp at h
  · rename_i t x i
    split at h
    · rename_i pa pb h1 h2
      obtain ⟨v, r, q⟩ := pindexAddr_ok h (eval_VR hf h1) (eval_VR hf h2) w
      exact ⟨v, by simp [execOp, r], q⟩
    · simp at h
  · rename_i t x i
    split at h
    · rename_i pa pb h1 h2
      obtain ⟨v, r, q⟩ := pindex_ok h (eval_VR hf h1) (eval_VR hf h2) w
      exact ⟨v, by simp [execOp, r], q⟩
    · simp at h
  · rename_i x i
    split at h
    · rename_i vs h1
      obtain ⟨cs, e, hcs⟩ := (eval_VR hf h1).inv_tup
      obtain ⟨v, hv, q⟩ := hcs.get h
      exact ⟨v, by simp [execOp, e, Instr.extract, hv], q⟩
    · simp at h
  · rename_i x
    split at h
    · rename_i id off h1
      simp only [Option.some.injEq] at h; subst h
      have hv := eval_VR hf h1
      obtain ⟨b, e, _⟩ := hv.inv_ptr
      exact ⟨.pointer (some ⟨b, off, none⟩), by simp [execOp, e], by rw [← e]; exact hv⟩
    · rename_i cs off h1
      simp only [Option.some.injEq] at h; subst h
      have hv := eval_VR hf h1
      obtain ⟨ad, fl, e, _⟩ := hv.inv_eptr
      exact ⟨.pointer (some (ad.add off)), by simp [execOp, e], by rw [← e]; exact hv⟩
    · simp at h
  · rename_i t parts
    split at h
    · rename_i ps h1
      obtain ⟨a1, a2⟩ := parts_VR hf h1
      obtain ⟨v, r, q⟩ := pbuild_ok h a1 a2 w
      refine ⟨v, ?_, q⟩
      have e : (parts.map fun (x : Nat × Operand) => (x.1, a.eval x.2)) = (parts.toList.map fun q => (q.1, a.eval q.2)).toArray := by apply Array.ext'; simp
      simp only [execOp, Sem.run_bind]
      rw [show (Array.map (fun x => match x with | (i, x) => (i, a.eval x)) parts) = (parts.toList.map fun q => (q.1, a.eval q.2)).toArray from by simpa using e, r]
      simp
    · simp at h
  · rename_i b args ts
    split at h
    · rename_i ps h1
      have hv := evals_VR hf h1
      obtain ⟨v, r, q⟩ := pbuiltin_ok h hv ty (args.map fun | .const _ => true | _ => false) w
      refine ⟨v, ?_, q⟩
      simp only [execOp, resolve, invoke, Sem.run_bind, Sem.run_pure, Result.andThen_ok]
      rw [show args.map a.eval = (args.toList.map a.eval).toArray from by apply Array.ext'; simp]
      exact r
    · simp at h
  · simp at h

end
end Go.Kz
