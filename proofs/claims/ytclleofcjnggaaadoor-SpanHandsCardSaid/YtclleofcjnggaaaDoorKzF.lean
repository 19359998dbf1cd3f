/-
  Slices, strings by parts, literals, builtins; and all operations that leave the store alone, in one theorem.
-/
import Derived.Test.YtclleofcjnggaaaDoorKzE
set_option linter.all false
namespace Go.Kz

theorem bytes_extract (s : List UInt8) (l h : Nat) : (ByteArray.mk s.toArray).extract l h = ⟨((s.drop l).take (h - l)).toArray⟩ := by
  apply ByteArray.ext
  simp [ByteArray.data_extract, List.extract_toArray, List.extract_eq_take_drop]

theorem flat_length {size : Nat} : ∀ (xs : List PD), (∀ x ∈ xs, x.cells.length = size) → (xs.flatMap PD.cells).length = xs.length * size
  | [], _ => by simp
  | x :: xs, h => by
    rw [List.flatMap_cons, List.length_append, h x (by simp), flat_length xs (fun y hy => h y (by simp [hy])), List.length_cons, Nat.add_mul]
    omega

theorem flat_drop {size : Nat} : ∀ (xs : List PD) (l : Nat), (∀ x ∈ xs, x.cells.length = size) → (xs.drop l).flatMap PD.cells = (xs.flatMap PD.cells).drop (l * size)
  | xs, 0, _ => by simp
  | [], l + 1, _ => by simp
  | x :: xs, l + 1, h => by
    have hx := h x (by simp)
    have e1 : x.cells.drop ((l + 1) * size) = [] := List.drop_eq_nil_of_le (by rw [hx, Nat.add_mul]; omega)
    have e2 : (l + 1) * size - size = l * size := by rw [Nat.add_mul]; omega
    rw [List.drop_succ_cons, flat_drop xs l (fun y hy => h y (by simp [hy])), List.flatMap_cons, List.drop_append, hx, e1, e2, List.nil_append]

theorem flat_take {size : Nat} : ∀ (xs : List PD) (k : Nat), (∀ x ∈ xs, x.cells.length = size) → (xs.take k).flatMap PD.cells = (xs.flatMap PD.cells).take (k * size)
  | xs, 0, _ => by simp
  | [], k + 1, _ => by simp
  | x :: xs, k + 1, h => by
    have hx := h x (by simp)
    have e1 : x.cells.take ((k + 1) * size) = x.cells := List.take_of_length_le (by rw [hx, Nat.add_mul]; omega)
    have e2 : (k + 1) * size - size = k * size := by rw [Nat.add_mul]; omega
    rw [List.take_succ_cons, List.flatMap_cons, flat_take xs k (fun y hy => h y (by simp [hy])), List.flatMap_cons, List.take_append, hx, e1, e2]

section
variable {P : Program} {c : Cx}

theorem pindex_ok {t : TypeId} {x i p : PD} (h : pindex P t x i = some p) {vx vi : Value} (hx : VR c vx x) (hi : VR c vi i) (w : World) : ∃ v, (Instr.index t vx vi).run P w = .ok v w ∧ VR c v p := by
  unfold pindex at h
  split at h
  · rename_i m len e ds hm hu
    obtain ⟨k, z, rfl, h0, rfl⟩ := pasNat_ok hm hi
    split at h
    · rename_i n hn
      split at h
      · rename_i hlt
        obtain ⟨cs, rfl, h1, h2⟩ := hx.inv_agg
        obtain ⟨v, r, q⟩ := part_ok h1 h2 h w
        have hz : z < (len : Int) := by omega
        exact ⟨v, by simp [Instr.index, asIntOf, run_underlying hu, h0, hz, run_sizeOf' hn, r], q⟩
      · simp at h
    · simp at h
  · rename_i m s hm hu
    obtain ⟨k, z, rfl, h0, rfl⟩ := pasNat_ok hm hi
    split at h
    · rename_i b hb
      simp only [Option.some.injEq] at h; subst h
      rw [hx.inv_str]
      refine ⟨.int .u8 b.toNat, ?_, .int _ _⟩
      have hlt : z.toNat < s.length := (List.getElem?_eq_some_iff.1 hb).1
      have : (ByteArray.mk s.toArray)[z.toNat]? = some b := by
        rw [getElem?_pos _ _ (by simpa [ByteArray.size] using hlt)]
        have hg : s[z.toNat] = b := (List.getElem?_eq_some_iff.1 hb).2
        simp only [ByteArray.getElem_eq_getElem_data, Option.some.injEq]
        simpa using hg
      simp [Instr.index, asIntOf, run_underlying hu, h0, this]
    · simp at h
  · simp at h

theorem opt_nat {a : Act} {fr : List PD} (hf : FR c a fr) {x : Operand} {m : Nat} (h : pasNat (peval fr x) = some m) : ∃ k z, a.eval x = .int k z ∧ 0 ≤ z ∧ z.toNat = m := by
  cases he : peval fr x with
  | none => simp [he, pasNat] at h
  | some p =>
    rw [he] at h
    exact pasNat_ok h (eval_VR hf he)

/-- What the bounds come to. -/
theorem pbounds_ok {a : Act} {fr : List PD} (hf : FR c a fr) {n cap l h : Nat} {lo hi : Option Operand} (hb : pbounds n (lo.map (peval fr)) (hi.map (peval fr)) = some (l, h)) (hc : n ≤ cap) (isS : Bool) (w : World) :
    l ≤ h ∧ h ≤ n ∧ (Instr.sliceBounds isS n cap (lo.map a.eval) (hi.map a.eval) none).run P w = .ok (l, h, cap) w := by
  unfold pbounds at hb
  split at hb
  · rename_i h' l' h1 h2
    split at hb
    · rename_i hle
      simp only [Option.some.injEq, Prod.mk.injEq] at hb
      obtain ⟨rfl, rfl⟩ := hb
      refine ⟨hle.1, hle.2, ?_⟩
      cases hi with
      | none =>
        simp at h1
        subst h1
        cases lo with
        | none => simp at h2; subst h2; simp [Instr.sliceBounds]
        | some lo =>
          obtain ⟨k, z, e, h0, rfl⟩ := opt_nat hf (by simpa using h2)
          have hz : z ≤ (n : Int) := by omega
          simp [Instr.sliceBounds, e, run_sliceBound (P := P) (w := w) k z _ _ h0 hz]
      | some hi =>
        obtain ⟨k', z', e', h0', rfl⟩ := opt_nat hf (by simpa using h1)
        have hz' : z' ≤ (cap : Int) := by omega
        cases lo with
        | none => simp at h2; subst h2; simp [Instr.sliceBounds, e', run_sliceBound (P := P) (w := w) k' z' _ _ h0' hz']
        | some lo =>
          obtain ⟨k, z, e, h0, rfl⟩ := opt_nat hf (by simpa using h2)
          have hz : z ≤ (z'.toNat : Int) := by omega
          simp [Instr.sliceBounds, e, e', run_sliceBound (P := P) (w := w) k' z' _ _ h0' hz', run_sliceBound (P := P) (w := w) k z _ _ h0 hz]
    · simp at hb
  · simp at hb

theorem pbounds_ok3 {a : Act} {fr : List PD} (hf : FR c a fr) {n cap l h m : Nat} {lo : Option Operand} {hi mx : Operand} (hb : pbounds n (lo.map (peval fr)) ((some hi).map (peval fr)) = some (l, h)) (hm : pasNat (peval fr mx) = some m)
    (h1 : h ≤ m) (h2 : m ≤ n) (hc : n ≤ cap) (isS : Bool) (w : World) :
    l ≤ h ∧ h ≤ n ∧ (Instr.sliceBounds isS n cap (lo.map a.eval) (some (a.eval hi)) (some (a.eval mx))).run P w = .ok (l, h, m) w := by
  obtain ⟨km, zm, em, hm0, rfl⟩ := opt_nat hf hm
  unfold pbounds at hb
  split at hb
  · rename_i h' l' h3 h4
    split at hb
    · rename_i hle
      simp only [Option.some.injEq, Prod.mk.injEq] at hb
      obtain ⟨rfl, rfl⟩ := hb
      refine ⟨hle.1, hle.2, ?_⟩
      obtain ⟨k', z', e', h0', rfl⟩ := opt_nat hf (by simpa using h3)
      have hzm : zm ≤ (cap : Int) := by omega
      have hz' : z' ≤ (zm.toNat : Int) := by omega
      cases lo with
      | none => simp at h4; subst h4; simp [Instr.sliceBounds, e', em, run_sliceBound (P := P) (w := w) km zm _ _ hm0 hzm, run_sliceBound (P := P) (w := w) k' z' _ _ h0' hz']
      | some lo =>
        obtain ⟨k, z, e, h0, rfl⟩ := opt_nat hf (by simpa using h4)
        have hz2 : z ≤ (z'.toNat : Int) := by omega
        simp [Instr.sliceBounds, e, e', em, run_sliceBound (P := P) (w := w) km zm _ _ hm0 hzm, run_sliceBound (P := P) (w := w) k' z' _ _ h0' hz', run_sliceBound (P := P) (w := w) k z _ _ h0 hz2]
    · simp at hb
  · simp at hb

theorem cut_VR {A : Option Addr} {cap size n l h m : Nat} {xs : List PD} {fl : List Value} {tok : Tok} (hn : xs.length = 0 ∨ n = size) (hlh : l ≤ h) (hhx : h ≤ xs.length) (hhm : h ≤ m) (hmc : m ≤ cap) (hcm : cap ≤ maxLen)
    (h3 : ∀ x ∈ xs, x.cells.length = size) (h4 : fl.length = xs.length * size) (h5 : ∀ v ∈ fl, v.oneCell' = true)
    (h6 : ∀ (j : Nat) (v : Value), fl[j]? = some v → ∃ ad, A = some ad ∧ c.w.cell? (ad.add j) = some v ∧ c.av (ad.add j))
    (h7 : ∀ (j : Nat) (v : Value) (d : PD), fl[j]? = some v → (xs.flatMap PD.cells)[j]? = some d → VR c v d)
    (ht : TokR c size (h - l) (m - l) (.slice (if m = l then A else A.map (·.add (l * n))) (h - l) (m - l)) tok) :
    VR c (.slice (if m = l then A else A.map (·.add (l * n))) (h - l) (m - l)) (.slice size ((xs.drop l).take (h - l)) tok) := by
  have hxs : ∀ x ∈ (xs.drop l).take (h - l), x.cells.length = size := fun x hx => h3 x (List.mem_of_mem_drop (List.mem_of_mem_take hx))
  have hlen : ((xs.drop l).take (h - l)).length = h - l := by simp; omega
  have hdl : ∀ x ∈ xs.drop l, x.cells.length = size := fun x hx => h3 x (List.mem_of_mem_drop hx)
  have hfl : ((fl.drop (l * size)).take ((h - l) * size)).length = (h - l) * size := by
    have : l * size + (h - l) * size ≤ fl.length := by
      rw [h4, ← Nat.add_mul]; exact Nat.mul_le_mul_right _ (by omega)
    simp; omega
  refine .slice _ _ _ size _ tok ((fl.drop (l * size)).take ((h - l) * size)) hlen.symm (by omega) (by omega) hxs hfl
    (fun v hv => h5 v (List.mem_of_mem_drop (List.mem_of_mem_take hv))) ?_ ?_ ht
  · intro j v hv
    have hj : j < (h - l) * size := by rw [← hfl]; exact (List.getElem?_eq_some_iff.1 hv).1
    rw [List.getElem?_take, if_pos hj, List.getElem?_drop] at hv
    obtain ⟨ad, rfl, h9, h10⟩ := h6 _ v hv
    have hpos : 0 < h - l := by
      rcases Nat.eq_zero_or_pos (h - l) with e | e
      · rw [e] at hj; simp at hj
      · exact e
    have hne : ¬ m = l := by omega
    have hns : n = size := hn.resolve_left (by omega)
    subst hns
    rw [if_neg hne]
    exact ⟨_, rfl, by rw [add_add']; exact h9, by rw [add_add']; exact h10⟩
  · intro j v d hv hd
    have hj : j < (h - l) * size := by rw [← hfl]; exact (List.getElem?_eq_some_iff.1 hv).1
    rw [List.getElem?_take, if_pos hj, List.getElem?_drop] at hv
    rw [flat_take _ _ hdl, flat_drop _ _ h3, List.getElem?_take, if_pos hj, List.getElem?_drop] at hd
    exact h7 _ v d hv hd

theorem pslice_ok {a : Act} {fr : List PD} (hf : FR c a fr) {t : TypeId} {x p : PD} {lo hi mx : Option Operand}
    (h : pslice P t x (lo.map (peval fr)) (hi.map (peval fr)) (mx.map (peval fr)) = some p) {vx : Value} (hx : VR c vx x) (w : World) :
    ∃ v, (Instr.sliceAt t vx (lo.map a.eval) (hi.map a.eval) (mx.map a.eval)).run P w = .ok v w ∧ VR c v p := by
  unfold pslice at h
  split at h
  · rename_i s hu
    split at h
    · simp at h
    · rename_i hmx
      have hmx' : mx = none := by cases mx <;> simp_all
      subst hmx'
      split at h
      · rename_i l hh hb
        simp only [Option.some.injEq] at h; subst h
        rw [hx.inv_str]
        have hz : (ByteArray.mk s.toArray).size = s.length := bytes_size s
        obtain ⟨h1, h2, h3⟩ := pbounds_ok (P := P) hf hb (Nat.le_refl _) false w
        refine ⟨.string ⟨((s.drop l).take (hh - l)).toArray⟩, ?_, .str _⟩
        simp [Instr.sliceAt, Instr.slice, run_underlying hu, hz, h3, bytes_extract]
      · simp at h
  · rename_i e size xs tok hu
    split at h
    · rename_i n l hh hn hb
      split at h
      · rename_i hsz
        obtain ⟨A, cap, fl, rfl, h1, h2, h3, h4, h5, h6, h7, h8⟩ := hx.inv_slice
        split at h
        · -- no third bound
          rename_i hmx
          have hmx' : mx = none := by cases mx <;> simp_all
          subst hmx'
          simp only [Option.some.injEq] at h; subst h
          obtain ⟨b1, b2, b3⟩ := pbounds_ok (P := P) hf hb h1 true w
          refine ⟨_, ?_, cut_VR (n := n) (m := cap) hsz b1 b2 (by omega) (Nat.le_refl _) h2 h3 h4 h5 h6 h7 ?_⟩
          · simp [Instr.sliceAt, Instr.slice, run_underlying hu, b3, run_sizeOf' hn]
          · by_cases hhe : hh = xs.length
            · rw [if_pos hhe]
              cases tok with
              | any => trivial
              | full => simp only [TokR] at h8 ⊢; omega
              | own id =>
                by_cases hl0 : l = 0
                · subst hl0
                  simp only [↓reduceIte]
                  have : (if cap = 0 then A else A.map (·.add (0 * n))) = A := by
                    split
                    · rfl
                    · cases A <;> simp [Addr.add]
                  rw [this, hhe]
                  simpa using h8
                · simp only [hl0, if_false]; trivial
            · rw [if_neg hhe]; trivial
        · rename_i m hmx
          split at h
          · rename_i hi0 m' hhi hm
            split at h
            · rename_i hle
              simp only [Option.some.injEq] at h; subst h
              cases mx with
              | none => simp at hmx
              | some mx =>
                cases hi with
                | none => simp at hhi
                | some hi =>
                  simp at hmx
                  subst hmx
                  obtain ⟨b1, b2, b3⟩ := pbounds_ok3 (P := P) hf hb hm hle.1 hle.2 h1 true w
                  refine ⟨_, ?_, cut_VR (n := n) (m := m') hsz b1 b2 hle.1 (by omega) h2 h3 h4 h5 h6 h7 ?_⟩
                  · simp [Instr.sliceAt, Instr.slice, run_underlying hu, b3, run_sizeOf' hn]
                  · by_cases hme : m' = hh
                    · rw [if_pos hme]; simp only [TokR]; omega
                    · rw [if_neg hme]; trivial
            · simp at h
          · simp at h
      · simp at h
    · simp at h
  · simp at h

end
end Go.Kz
