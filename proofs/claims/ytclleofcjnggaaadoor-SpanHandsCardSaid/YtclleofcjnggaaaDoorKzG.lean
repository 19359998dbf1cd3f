/-
  Literals, builtins; all operations that leave the store alone.
-/
import Derived.Test.YtclleofcjnggaaaDoorKzF
import Derived.Laws.Tables
set_option linter.all false
namespace Go.Kz

section
variable {P : Program} {c : Cx}

theorem foldl_set (off : Nat) : ∀ (l : List Value) (k : Nat) (cells : Array Value), off + k + l.length ≤ cells.size →
    ((l.zipIdx k).foldl (fun (cs : Array Value) (x : Value × Nat) => cs.setIfInBounds (off + x.2) x.1) cells).toList = cells.toList.take (off + k) ++ l ++ cells.toList.drop (off + k + l.length)
  | [], k, cells, _ => by simp
  | v :: l, k, cells, h => by
    simp only [List.length_cons] at h
    rw [List.zipIdx_cons, List.foldl_cons, foldl_set off l (k + 1) _ (by simp; omega)]
    simp only [Array.toList_setIfInBounds, List.length_cons]
    have e1 : (cells.toList.set (off + k) v).take (off + (k + 1)) = cells.toList.take (off + k) ++ [v] := by
      have hlt : off + k < cells.toList.length := by simp; omega
      rw [show off + (k + 1) = (off + k) + 1 by omega, List.take_succ_eq_append_getElem (by simpa using hlt)]
      congr 1
      · rw [List.take_set]
        rw [List.set_eq_of_length_le (by simp; omega)]
      · simp
    have e2 : (cells.toList.set (off + k) v).drop (off + (k + 1) + l.length) = cells.toList.drop (off + k + (l.length + 1)) := by
      rw [List.drop_set_of_lt (by omega)]
      congr 1
      omega
    rw [e1, e2]
    simp

theorem fillAt_ok {cells : List Value} {z : List PD} (hz : VRs c cells z) {v : Value} {p : PD} (hv : VR c v p) (off : Nat) (hle : off + p.cells.length ≤ z.length) :
    VRs c (cells.take off ++ v.cells.toList ++ cells.drop (off + v.cells.toList.length)) (pfillAt z off p.cells) := by
  have hc := hv.cells
  have hl : v.cells.toList.length = p.cells.length := hc.1
  have h0 : cells.length = z.length := hz.1
  refine ⟨by simp [pfillAt, hl, h0], fun i u d hu hd => ?_⟩
  unfold pfillAt at hd
  rw [List.append_assoc] at hu hd
  rw [List.getElem?_append] at hu hd
  simp only [List.length_take] at hu hd
  by_cases h1 : i < min off cells.length
  · rw [if_pos h1] at hu
    rw [if_pos (by omega)] at hd
    rw [List.getElem?_take, if_pos (by omega)] at hu hd
    exact hz.2 i u d hu hd
  · rw [if_neg h1] at hu
    rw [if_neg (by omega)] at hd
    rw [List.getElem?_append] at hu hd
    have hm : min off cells.length = off := by omega
    have hm' : min off z.length = off := by omega
    rw [hm] at hu; rw [hm'] at hd
    by_cases h2 : i - off < p.cells.length
    · rw [if_pos (by omega)] at hu
      rw [if_pos h2] at hd
      exact hc.2 _ u d hu hd
    · rw [if_neg (by omega)] at hu
      rw [if_neg h2] at hd
      rw [List.getElem?_drop] at hu hd
      rw [hl] at hu
      exact hz.2 _ u d hu hd

theorem fillAt_ones {cells : List Value} (h : ∀ v ∈ cells, v.oneCell' = true) {new : List Value} (hn : ∀ v ∈ new, v.oneCell' = true) (off n : Nat) : ∀ v ∈ cells.take off ++ new ++ cells.drop n, v.oneCell' = true := by
  intro v hv
  simp only [List.mem_append] at hv
  rcases hv with (h1 | h1) | h1
  · exact h v (List.mem_of_mem_take h1)
  · exact hn v h1
  · exact h v (List.mem_of_mem_drop h1)

theorem fill_ok {place : Nat → Option (Nat × Nat)} : ∀ (parts : List (Nat × PD)) (vparts : List (Nat × Value)) (z : List PD) (cells : Array Value) (cs : List PD),
    vparts.length = parts.length → (∀ (i : Nat) (jv : Nat × Value) (jp : Nat × PD), vparts[i]? = some jv → parts[i]? = some jp → jv.1 = jp.1 ∧ VR c jv.2 jp.2) →
    VRs c cells.toList z → (∀ v ∈ cells.toList, v.oneCell' = true) → pfill place z parts = some cs →
    ∃ cells', Instr.fill place cells vparts = some cells' ∧ VRs c cells'.toList cs ∧ ∀ v ∈ cells'.toList, v.oneCell' = true
  | [], [], z, cells, cs, _, _, hz, h1, h => by simp [pfill] at h; subst h; exact ⟨cells, rfl, hz, h1⟩
  | [], _ :: _, _, _, _, hl, _, _, _, _ => by simp at hl
  | _ :: _, [], _, _, _, hl, _, _, _, _ => by simp at hl
  | (i, p) :: parts, (i', v) :: vparts, z, cells, cs, hl, hp, hz, h1, h => by
    obtain ⟨e, hv⟩ := hp 0 (i', v) (i, p) rfl rfl
    simp only at e hv
    subst e
    unfold pfill at h
    unfold Instr.fill
    cases hpl : place i' with
    | none => simp [hpl] at h
    | some on =>
      obtain ⟨off, n⟩ := on
      simp only [hpl] at h ⊢
      have hcl : v.cells.size = p.cells.length := by have := hv.cells.1; simpa using this
      have hzl : cells.size = z.length := by have := hz.1; simpa using this
      split at h
      · simp at h
      · rename_i hn
        have hn1 : ¬ p.cells.length ≠ n := fun q => hn (.inl q)
        have hn2 : ¬ off + p.cells.length > z.length := fun q => hn (.inr (.inl q))
        have hn3 : p.cells.all PD.plain = true := by
          cases hq : p.cells.all PD.plain with
          | true => rfl
          | false => exact (hn (.inr (.inr hq))).elim
        have hv1 := VRs.ones hv.cells hn3
        have hcond : ¬ (decide (v.cells.size ≠ n) || decide (off + v.cells.size > cells.size)) = true := by
          rw [hcl, hzl]
          simp only [Bool.or_eq_true, decide_eq_true_eq]
          rintro (q | q)
          · exact hn1 q
          · exact hn2 q
        rw [if_neg hcond]
        have hle : off + p.cells.length ≤ z.length := by omega
        have hfold : (v.cells.zipIdx.foldl (fun cs (c, j) => cs.setIfInBounds (off + j) c) cells).toList = cells.toList.take off ++ v.cells.toList ++ cells.toList.drop (off + v.cells.toList.length) := by
          rw [← Array.foldl_toList, Array.toList_zipIdx]
          have := foldl_set off v.cells.toList 0 cells (by simp; omega)
          simpa using this
        refine fill_ok parts vparts _ _ cs (by simpa using hl) (fun i jv jp a b => hp (i + 1) jv jp (by simpa using a) (by simpa using b)) ?_ ?_ h
        · rw [hfold]; exact fillAt_ok hz hv off hle
        · rw [hfold]; exact fillAt_ones h1 hv1 off _

theorem pzero_ok {t : TypeId} {p : PD} (h : pzero P t = some p) : ∃ v i, P.info? t = some i ∧ i.zero = some v ∧ VR c v p := by
  unfold pzero at h
  split at h
  · rename_i i hi
    split at h
    · rename_i z hz
      exact ⟨z, i, hi, hz, ofValue_VR h⟩
    · simp at h
  · simp at h

theorem pplaces_ok : ∀ {fs : List Field} {pl : List (Nat × Nat)}, pplaces P fs = some pl → fs.mapM (fun f => (P.info? f.type).map fun i => (f.offset, i.size)) = some pl
  | [], pl, h => by simp [pplaces] at h; subst h; rfl
  | f :: fs, pl, h => by
    unfold pplaces at h
    split at h
    · rename_i n ps hn hp
      simp only [Option.some.injEq] at h; subst h
      obtain ⟨i, hi, hs⟩ := psize_some hn
      simp [List.mapM_cons, pplaces_ok hp, hi, hs]
    · simp at h

theorem pbuild_ok {t : TypeId} {parts : List (Nat × PD)} {vparts : List (Nat × Value)} {p : PD} (h : pbuild P t parts = some p) (hl : vparts.length = parts.length)
    (hp : ∀ (i : Nat) (jv : Nat × Value) (jp : Nat × PD), vparts[i]? = some jv → parts[i]? = some jp → jv.1 = jp.1 ∧ VR c jv.2 jp.2) (w : World) :
    ∃ v, (Instr.build t vparts.toArray).run P w = .ok v w ∧ VR c v p := by
  unfold pbuild at h
  split at h
  · rename_i z hz
    obtain ⟨zv, i, hi, hzv, hzr⟩ := pzero_ok (c := c) hz
    obtain ⟨cs, rfl, hcs, hc1⟩ := hzr.inv_agg
    split at h
    · rename_i fs hu
      split at h
      · rename_i pl hpl
        split at h
        · rename_i out ho
          simp only [Option.some.injEq] at h; subst h
          obtain ⟨cells', h1, h2, h3⟩ := fill_ok parts vparts z cs.toArray out hl hp (by simpa using hcs) (by simpa using hc1) ho
          refine ⟨.agg cells', run_build w t _ cells' ?_, ?_⟩
          · simp only [Program.built, hi, hu, hzv, pplaces_ok hpl, Value.cells]
            simpa using h1
          · have := VR.agg (c := c) cells'.toList out h2.1 h3 h2.2
            simpa using this
        · simp at h
      · simp at h
    · rename_i k e hu
      split at h
      · rename_i n hn
        split at h
        · rename_i out ho
          simp only [Option.some.injEq] at h; subst h
          obtain ⟨cells', h1, h2, h3⟩ := fill_ok parts vparts z cs.toArray out hl hp (by simpa using hcs) (by simpa using hc1) ho
          obtain ⟨ie, hie, hsz⟩ := psize_some hn
          subst hsz
          refine ⟨.agg cells', run_build w t _ cells' ?_, ?_⟩
          · simp only [Program.built, hi, hu, hzv, hie, Value.cells]
            simpa using h1
          · have := VR.agg (c := c) cells'.toList out h2.1 h3 h2.2
            simpa using this
        · simp at h
      · simp at h
    · simp at h
  · simp at h

theorem parts_VR {a : Act} {fr : List PD} (hf : FR c a fr) : ∀ {parts : List (Nat × Operand)} {ps : List (Nat × PD)}, pevalParts fr parts = some ps →
    (parts.map fun q => (q.1, a.eval q.2)).length = ps.length ∧ ∀ (i : Nat) (jv : Nat × Value) (jp : Nat × PD), (parts.map fun q => (q.1, a.eval q.2))[i]? = some jv → ps[i]? = some jp → jv.1 = jp.1 ∧ VR c jv.2 jp.2
  | [], ps, h => by simp [pevalParts] at h; subst h; simp
  | (j, x) :: parts, ps, h => by
    unfold pevalParts at h
    split at h
    · rename_i p qs h1 h2
      simp only [Option.some.injEq] at h; subst h
      obtain ⟨a1, a2⟩ := parts_VR hf h2
      refine ⟨by simpa using a1, fun i jv jp hv hp => ?_⟩
      cases i with
      | zero => simp at hv hp; subst hv; subst hp; exact ⟨rfl, eval_VR hf h1⟩
      | succ i => exact a2 i jv jp (by simpa using hv) (by simpa using hp)
    · simp at h

theorem foldlM_minmax (lt : Bool) (w : World) : ∀ (vs : List Value) (x : PD) (r : List PD) (p : PD) (vx : Value), pmin lt x r = some p → VR c vx x → VRs c vs r →
    ∃ v, ((vs.foldlM (if lt then Builtin.min2 else Builtin.max2) vx).run P w = .ok v w) ∧ VR c v p
  | [], x, [], p, vx, h, hx, _ => by
    unfold pmin at h
    split at h
    · simp only [Option.some.injEq] at h; subst h; exact ⟨vx, by simp, hx⟩
    · rename_i e; simp at e
    · simp at h
  | [], _, _ :: _, _, _, _, _, hl => by have := hl.1; simp at this
  | _ :: _, _, [], _, _, _, _, hl => by have := hl.1; simp at this
  | v :: vs, x, y :: r, p, vx, h, hx, hl => by
    unfold pmin at h
    split at h
    · rename_i e; simp at e
    · rename_i k z k' z' r' e
      simp at e
      obtain ⟨e1, e2⟩ := e
      subst e1; subst e2
      have hv := hl.2 0 v _ rfl rfl
      have h0 := hx.inv_int
      have h1 := hv.inv_int
      subst h0; subst h1
      have htl : VRs c vs r := ⟨by have := hl.1; simpa using this, fun i u d a b => hl.2 (i + 1) u d (by simpa using a) (by simpa using b)⟩
      obtain ⟨v, q1, q2⟩ := foldlM_minmax lt w vs _ r p _ h (VR.int _ _) htl
      refine ⟨v, ?_, q2⟩
      cases lt <;> simpa [List.foldlM_cons, Builtin.min2, Builtin.max2] using q1
    · simp at h

theorem pbuiltin_ok {b : Builtin} {ts : Array TypeId} {args : List PD} {vargs : List Value} {p : PD} (h : pbuiltin P b ts args = some p) (ha : VRs c vargs args) (ty : TypeId) (cs : Array Bool) (w : World) :
    ∃ v, (builtin b ts ty cs vargs.toArray).run P w = .ok (.value v) w ∧ VR c v p := by
  unfold pbuiltin at h
  split at h
  · split at h
    · rename_i t ht
      split at h
      · rename_i s r hu
        simp only [Option.some.injEq] at h; subst h
        obtain ⟨v, hv, hr⟩ := ha.get (i := 0) (d := .str s) rfl
        rw [hr.inv_str] at hv
        refine ⟨.int .i64 s.length, ?_, .int _ _⟩
        simp [builtin, Builtin.len_, ht, hv, run_underlying hu, goInt, bytes_size]
      · rename_i n e p0 r hu
        simp only [Option.some.injEq] at h; subst h
        obtain ⟨v, hv, hr⟩ := ha.get (i := 0) (d := p0) rfl
        refine ⟨.int .i64 n, ?_, .int _ _⟩
        simp [builtin, Builtin.len_, ht, hv, run_underlying hu, goInt]
      · rename_i e sz xs tok r hu
        simp only [Option.some.injEq] at h; subst h
        obtain ⟨v, hv, hr⟩ := ha.get (i := 0) (d := .slice sz xs tok) rfl
        obtain ⟨A, cap, fl, rfl, _⟩ := hr.inv_slice
        refine ⟨.int .i64 xs.length, ?_, .int _ _⟩
        simp [builtin, Builtin.len_, ht, hv, run_underlying hu, goInt]
      · simp at h
    · simp at h
  · split at h
    · rename_i x r
      cases vargs with
      | nil => have := ha.1; simp at this
      | cons v vs =>
        have htl : VRs c vs r := ⟨by have := ha.1; simpa using this, fun i u d a b => ha.2 (i + 1) u d (by simpa using a) (by simpa using b)⟩
        obtain ⟨v', q1, q2⟩ := foldlM_minmax (P := P) true w vs x r p v h (ha.2 0 v x rfl rfl) htl
        exact ⟨v', by simp at q1; simp [builtin, Builtin.min_, q1], q2⟩
    · simp at h
  · split at h
    · rename_i x r
      cases vargs with
      | nil => have := ha.1; simp at this
      | cons v vs =>
        have htl : VRs c vs r := ⟨by have := ha.1; simpa using this, fun i u d a b => ha.2 (i + 1) u d (by simpa using a) (by simpa using b)⟩
        obtain ⟨v', q1, q2⟩ := foldlM_minmax (P := P) false w vs x r p v h (ha.2 0 v x rfl rfl) htl
        exact ⟨v', by simp at q1; simp [builtin, Builtin.max_, q1], q2⟩
    · simp at h
  · simp at h

end
end Go.Kz
