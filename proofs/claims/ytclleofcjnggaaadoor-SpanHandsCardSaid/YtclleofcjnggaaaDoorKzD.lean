/-
  The operators: the model's run yields what the pure interpreter says.
-/
import Derived.Test.YtclleofcjnggaaaDoorKzC
import Derived.Laws.StructEq
import Derived.Laws.Entries
set_option linter.all false
namespace Go.Kz

theorem bytes_toList (l : List UInt8) : (ByteArray.mk l.toArray).toList = l := by rw [ByteArray.toList_eq]

theorem pbits_ok {op : BinOp} {k : IntKind} {x y z : Int} (h : pbits op k x y = some z) (P : Program) (w : World) : (Op.intBits op k x y).run P w = .ok (.int k z) w := by
  cases op <;> simp only [pbits, Option.some.injEq, reduceCtorEq] at h <;> subst h <;> rfl

theorem pint_ok {op : BinOp} {k : IntKind} {x y : Int} {p : PD} (h : pint op k x y = some p) (hs : op ≠ .shl ∧ op ≠ .shr) (c : Cx) (P : Program) (t : TypeId) (w : World) :
    ∃ v, (binOp op t (.int k x) (.int k y)).run P w = .ok v w ∧ VR c v p := by
  cases op <;> simp only [pint] at h <;> first
    | (simp at hs; done)
    | (simp at h; subst h; refine ⟨_, ?_, VR.int _ _⟩; simp [binOp, Op.intArith]; done)
    | (simp at h; subst h; refine ⟨_, ?_, VR.bool _⟩; simp [binOp, Op.intCmp]; done)
    | (split at h
       · simp at h
       · rename_i h0; simp at h; subst h; refine ⟨_, ?_, VR.int _ _⟩; simp [binOp, Op.intDiv, h0])
    | (split at h
       · rename_i z hz; simp at h; subst h; refine ⟨_, ?_, VR.int _ _⟩; simp only [binOp, ne_eq, not_true_eq_false, if_false]; exact pbits_ok hz P w
       · simp at h)

theorem pshift_ok {op : BinOp} {k k' : IntKind} {x y : Int} {p : PD} (h : pshift op k x y = some p) (hs : op = .shl ∨ op = .shr) (c : Cx) (P : Program) (t : TypeId) (w : World) :
    ∃ v, (binOp op t (.int k x) (.int k' y)).run P w = .ok v w ∧ VR c v p := by
  unfold pshift at h
  split at h
  · simp at h
  · rename_i h0
    rcases hs with rfl | rfl <;> simp at h <;> subst h <;> refine ⟨_, ?_, VR.int _ _⟩ <;> simp [binOp, Op.shift, h0]

theorem bytes_append (a b : List UInt8) : (ByteArray.mk a.toArray) ++ (ByteArray.mk b.toArray) = ByteArray.mk (a ++ b).toArray := by
  apply ByteArray.ext
  simp

theorem bytes_size (a : List UInt8) : (ByteArray.mk a.toArray).size = a.length := by simp [ByteArray.size]

theorem pstr_ok {op : BinOp} {x y : List UInt8} {p : PD} (h : pstr op x y = some p) (c : Cx) (P : Program) (t : TypeId) (w : World) :
    ∃ v, (binOp op t (.string ⟨x.toArray⟩) (.string ⟨y.toArray⟩)).run P w = .ok v w ∧ VR c v p := by
  cases op <;> simp only [pstr] at h <;> first
    | (simp at h; done)
    | (split at h
       · rename_i hl
         simp at h; subst h
         refine ⟨_, ?_, VR.str _⟩
         have : ¬ ((((ByteArray.mk x.toArray).size + (ByteArray.mk y.toArray).size : Nat) : Int) > IntKind.i64.max) := by
           rw [bytes_size, bytes_size]
           simp only [maxLen] at hl
           simp [IntKind.max, IntKind.signed, IntKind.bits]
           omega
         simp only [binOp, Op.stringOp, if_neg this, Sem.run_pure, bytes_append]
       · simp at h)
    | (simp at h; subst h; refine ⟨_, ?_, VR.bool _⟩; simp [binOp, Op.stringOp])

/-! ### equality -/
section eq
variable {P : Program} {c : Cx}

theorem eqFields_ok {eq : TypeId → PD → PD → Option Bool} {d : Nat}
    (ih : ∀ t x y b vx vy (w : World), eq t x y = some b → VR c vx x → VR c vy y → (Op.equalIn d t vx vy).run P w = .ok b w)
    {xs ys : List Value} {px py : List PD} (hx : VRs c xs px) (hx1 : ∀ v ∈ xs, v.oneCell' = true) (hy : VRs c ys py) (hy1 : ∀ v ∈ ys, v.oneCell' = true) (w : World) :
    ∀ (fs : List Field) (b : Bool), peqFields eq P px py fs = some b → (Op.eqFields d xs.toArray ys.toArray fs).run P w = .ok b w
  | [], b, h => by simp [peqFields] at h; subst h; rfl
  | f :: fs, b, h => by
    unfold peqFields at h
    unfold Op.eqFields
    split at h
    · rename_i hn
      rw [if_neg (by simpa using hn)]
      exact eqFields_ok ih hx hx1 hy hy1 w fs b h
    · rename_i hn
      rw [if_pos (by simpa using hn)]
      split at h
      · rename_i a b' ha hb
        obtain ⟨va, ra, qa⟩ := part_ok hx hx1 ha w
        obtain ⟨vb, rb, qb⟩ := part_ok hy hy1 hb w
        split at h
        · rename_i he
          have := ih _ _ _ _ va vb w he qa qb
          simp only [Sem.run_bind, ra, rb, this, Result.andThen_ok]
          simpa using eqFields_ok ih hx hx1 hy hy1 w fs b h
        · rename_i he
          simp at h; subst h
          have := ih _ _ _ _ va vb w he qa qb
          simp [ra, rb, this]
        · simp at h
      · simp at h

theorem eqArr_ok {e : TypeId} {eq : PD → PD → Option Bool} {d n : Nat} (hn : psize P e = some n)
    (ih : ∀ x y b vx vy (w : World), eq x y = some b → VR c vx x → VR c vy y → (Op.equalIn d e vx vy).run P w = .ok b w)
    {xs ys : List Value} {px py : List PD} (hx : VRs c xs px) (hx1 : ∀ v ∈ xs, v.oneCell' = true) (hy : VRs c ys py) (hy1 : ∀ v ∈ ys, v.oneCell' = true) (w : World) :
    ∀ (m i : Nat) (b : Bool), peqArr eq P e n px py i m = some b →
      (forIn (m := Sem) (List.range' i m) (none, PUnit.unit) (fun (i : Nat) (_ : Option Bool × PUnit) => do
        if !(← Op.equalIn d e (← part e xs.toArray (i * n)) (← part e ys.toArray (i * n))) then
          pure (ForInStep.done (some false, PUnit.unit))
        else do
          pure PUnit.unit
          pure (ForInStep.yield (none, PUnit.unit)))).run P w = .ok (if b then none else some false, PUnit.unit) w
  | 0, i, b, h => by simp [peqArr] at h; subst h; rfl
  | m + 1, i, b, h => by
    unfold peqArr at h
    split at h
    · rename_i a b' ha hb
      obtain ⟨va, ra, qa⟩ := part_ok hx hx1 ha w
      obtain ⟨vb, rb, qb⟩ := part_ok hy hy1 hb w
      split at h
      · rename_i he
        have := ih _ _ _ va vb w he qa qb
        rw [List.range'_succ]
        have r := eqArr_ok hn ih hx hx1 hy hy1 w m (i + 1) b h
        simp only [List.forIn_cons, Sem.run_bind, ra, rb, this, Result.andThen_ok, Bool.not_true, Bool.false_eq_true, if_false, Sem.run_pure]
        exact r
      · rename_i he
        simp at h; subst h
        have := ih _ _ _ va vb w he qa qb
        rw [List.range'_succ]
        simp [ra, rb, this]
      · simp at h
    · simp at h

theorem peqIn_ok : ∀ (d k : Nat) (t : TypeId) (x y : PD) (b : Bool) (vx vy : Value) (w : World), peqIn P d t x y = some b → VR c vx x → VR c vy y →
    (Op.equalIn (d + k) t vx vy).run P w = .ok b w
  | 0, _, _, _, _, _, _, _, _, h, _, _ => by simp [peqIn] at h
  | d + 1, k, t, x, y, b, vx, vy, w, h, hx, hy => by
    rw [show d + 1 + k = (d + k) + 1 by omega]
    unfold peqIn at h
    split at h
    · rename_i hu
      split at h <;> simp at h
      subst h; rw [hx.inv_bool, hy.inv_bool]; exact run_equalIn_bool' w _ t _ _ hu
    · rename_i kk hu
      split at h <;> simp at h
      obtain ⟨rfl, rfl⟩ := h
      rw [hx.inv_int, hy.inv_int]; exact run_equalIn_int w _ t _ kk _ _ hu
    · rename_i hu
      split at h <;> simp at h
      subst h; rw [hx.inv_str, hy.inv_str, run_equalIn_string w _ t _ _ hu, bytes_toList, bytes_toList]
    · rename_i e hu
      split at h <;> simp at h <;> subst h
      · rw [hx.inv_nilptr, hy.inv_nilptr]; simp [Op.equalIn, run_underlying hu]
      · obtain ⟨b, e2, _⟩ := hy.inv_ptr; rw [hx.inv_nilptr, e2]; simp [Op.equalIn, run_underlying hu]
      · obtain ⟨ad, fl, e2, _⟩ := hy.inv_eptr; rw [hx.inv_nilptr, e2]; simp [Op.equalIn, run_underlying hu]
      · obtain ⟨b, e2, _⟩ := hx.inv_ptr; rw [hy.inv_nilptr, e2]; simp [Op.equalIn, run_underlying hu]
      · obtain ⟨ad, fl, e2, _⟩ := hx.inv_eptr; rw [hy.inv_nilptr, e2]; simp [Op.equalIn, run_underlying hu]
    · rename_i hu
      split at h <;> simp at h <;> subst h
      · rw [hx.inv_nilfunc, hy.inv_nilfunc]; simp [Op.equalIn, run_underlying hu]
      · obtain ⟨_, e2, _⟩ := hy.inv_func; rw [hx.inv_nilfunc, e2]; simp [Op.equalIn, run_underlying hu]
      · obtain ⟨_, e2, _⟩ := hx.inv_func; rw [hy.inv_nilfunc, e2]; simp [Op.equalIn, run_underlying hu]
    · rename_i fs hu
      split at h
      · rename_i px py
        split at h
        · simp at h
        · rename_i hst
          obtain ⟨xs, rfl, hxs, hx1⟩ := hx.inv_agg
          obtain ⟨ys, rfl, hys, hy1⟩ := hy.inv_agg
          have hfo : P.fieldsOf t = fs := by simp [Program.fieldsOf, hu]
          rw [run_equalIn_struct w _ t _ _ (by rw [hfo]; exact hu) (by simpa using hst), hfo]
          exact eqFields_ok (fun t x y b vx vy w h hx hy => peqIn_ok d k t x y b vx vy w h hx hy) hxs hx1 hys hy1 w fs.toList b h
      · simp at h
    · rename_i len e hu
      split at h
      · rename_i px py
        split at h
        · rename_i n hn
          obtain ⟨xs, rfl, hxs, hx1⟩ := hx.inv_agg
          obtain ⟨ys, rfl, hys, hy1⟩ := hy.inv_agg
          have r := eqArr_ok (P := P) (d := d + k) hn (fun x y b vx vy w h hx hy => peqIn_ok d k e x y b vx vy w h hx hy) hxs hx1 hys hy1 w len 0 b h
          simp only [Op.equalIn, Sem.run_bind, run_underlying hu, run_sizeOf' hn, Result.andThen_ok]
          rw [Std.Legacy.Range.forIn_eq_forIn_range']
          simp only [Std.Legacy.Range.size]
          rw [show (len - 0 + 1 - 1) / 1 = len by simp]
          refine Eq.trans (congrArg (fun z => Result.andThen z _) r) ?_
          cases b <;> rfl
        · simp at h
      · simp at h
    · simp at h

end eq
end Go.Kz
