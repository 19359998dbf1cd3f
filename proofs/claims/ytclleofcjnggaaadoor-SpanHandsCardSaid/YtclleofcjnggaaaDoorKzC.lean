/-
  The operations that leave the store alone: the model's run yields what the pure interpreter says.
-/
import Derived.Test.YtclleofcjnggaaaDoorKzB
set_option linter.all false
namespace Go.Kz

theorem ofCell_VR {c : Cx} {v : Value} {p : PD} (h : ofCell v = some p) : VR c v p ∧ v.oneCell' = true := by
  unfold ofCell at h
  split at h <;> simp at h <;> subst h
  · exact ⟨.bool _, rfl⟩
  · exact ⟨.int _ _, rfl⟩
  · rename_i s
    refine ⟨?_, rfl⟩
    have : s = ⟨s.data.toList.toArray⟩ := by simp
    conv => lhs; rw [this]
    exact .str _
  · refine ⟨.slice none 0 0 0 [] .full [] rfl (Nat.le_refl _) (by simp [maxLen]) (by simp) rfl (by simp) (by simp) (by simp) rfl, rfl⟩
  · exact ⟨.nilptr, rfl⟩
  · exact ⟨.nilfunc, rfl⟩

theorem ofCells_VR {c : Cx} : ∀ {vs : List Value} {ps : List PD}, ofCells vs = some ps → VRs c vs ps ∧ ∀ v ∈ vs, v.oneCell' = true
  | [], ps, h => by simp [ofCells] at h; subst h; exact ⟨⟨rfl, by simp⟩, by simp⟩
  | v :: vs, ps, h => by
    unfold ofCells at h
    cases h1 : ofCell v with
    | none => simp [h1] at h
    | some p =>
      cases h2 : ofCells vs with
      | none => simp [h1, h2] at h
      | some qs =>
        simp [h1, h2] at h
        subst h
        have ⟨a1, a2⟩ := ofCell_VR (c := c) h1
        have ⟨⟨b1, b2⟩, b3⟩ := ofCells_VR (c := c) h2
        refine ⟨⟨by simp [b1], fun i v' d hv hd => ?_⟩, by simp [a2]; exact b3⟩
        cases i with
        | zero => simp at hv hd; subst hv; subst hd; exact a1
        | succ i => exact b2 i v' d (by simpa using hv) (by simpa using hd)

theorem ofValue_VR {c : Cx} {v : Value} {p : PD} (h : ofValue v = some p) : VR c v p := by
  unfold ofValue at h
  split at h
  · rename_i cs
    cases h1 : ofCells cs.toList with
    | none => simp [h1] at h
    | some ps =>
      simp [h1] at h
      subst h
      have ⟨⟨b1, b2⟩, b3⟩ := ofCells_VR (c := c) h1
      have := VR.agg (c := c) cs.toList ps b1 b3 b2
      simpa using this
  · rename_i vs
    split at h
    · rename_i h0
      simp at h
      subst h
      have : vs = #[] := Array.eq_empty_of_size_eq_zero h0
      subst this
      exact VR.tup [] [] rfl (by simp)
    · simp at h
  · exact (ofCell_VR h).1

/-- The frame. -/
def FR (c : Cx) (a : Act) (fr : List PD) : Prop := VRs c a.tmps.toList fr ∧ Gl c

theorem FR.mono {fl : Nat} {c c' : Cx} (h : Nx fl c c') {a : Act} {fr : List PD} (hf : FR c a fr) : FR c' a fr := ⟨VRs.mono h hf.1, hf.2.mono h⟩

theorem undef_VR (c : Cx) : VR c undef (.tup []) := VR.tup [] [] rfl (by simp)

theorem FR.tmp {c : Cx} {a : Act} {fr : List PD} (hf : FR c a fr) (t : Nat) : VR c (a.tmps.getD t undef) (fr.getD t (.tup [])) := by
  obtain ⟨⟨hl, h⟩, _⟩ := hf
  rcases Nat.lt_or_ge t fr.length with hlt | hge
  · have h1 : t < a.tmps.size := by have := hl; simp at this; omega
    have := h t a.tmps[t] fr[t] (by simp [h1]) (by simp [hlt])
    simpa [h1, hlt] using this
  · have h1 : a.tmps.size ≤ t := by have := hl; simp at this; omega
    simp [Array.getElem?_eq_none h1, List.getElem?_eq_none hge]
    exact undef_VR c

theorem eval_VR {c : Cx} {a : Act} {fr : List PD} (hf : FR c a fr) {x : Operand} {p : PD} (h : peval fr x = some p) : VR c (a.eval x) p := by
  cases x with
  | tmp t => simp only [peval, Option.some.injEq] at h; subst h; exact hf.tmp t
  | const v => exact ofValue_VR h
  | global g =>
    simp only [peval] at h
    split at h
    · rename_i ds hg
      simp only [Option.some.injEq] at h; subst h
      exact hf.2 g ds hg
    · simp at h
  | func f => simp only [peval, Option.some.injEq] at h; subst h; exact VR.func f [] [] rfl (by simp)

theorem evals_VR {c : Cx} {a : Act} {fr : List PD} (hf : FR c a fr) : ∀ {xs : List Operand} {ps : List PD}, pevals fr xs = some ps → VRs c (xs.map a.eval) ps
  | [], ps, h => by simp [pevals] at h; subst h; exact ⟨rfl, by simp⟩
  | x :: xs, ps, h => by
    unfold pevals at h
    cases h1 : peval fr x with
    | none => simp [h1] at h
    | some p =>
      cases h2 : pevals fr xs with
      | none => simp [h1, h2] at h
      | some qs =>
        simp [h1, h2] at h
        subst h
        have a1 := eval_VR hf h1
        have ⟨b1, b2⟩ := evals_VR hf h2
        refine ⟨by simpa using b1, fun i v d hv hd => ?_⟩
        cases i with
        | zero => simp at hv hd; subst hv; subst hd; exact a1
        | succ i => exact b2 i v d (by simpa using hv) (by simpa using hd)

/-! ### inversions -/
section inv
variable {c : Cx} {v : Value}
theorem VR.inv_bool {b : Bool} (h : VR c v (.bool b)) : v = .bool b := by cases h; rfl
theorem VR.inv_int {k : IntKind} {n : Int} (h : VR c v (.int k n)) : v = .int k n := by cases h; rfl
theorem VR.inv_str {s : List UInt8} (h : VR c v (.str s)) : v = .string ⟨s.toArray⟩ := by cases h; rfl
theorem VR.inv_agg {ds : List PD} (h : VR c v (.agg ds)) : ∃ cs : List Value, v = .agg cs.toArray ∧ VRs c cs ds ∧ ∀ v ∈ cs, v.oneCell' = true := by
  cases h with | agg cs _ h1 h2 h3 => exact ⟨cs, rfl, ⟨h1, h3⟩, h2⟩
theorem VR.inv_tup {ds : List PD} (h : VR c v (.tup ds)) : ∃ cs : List Value, v = .tuple cs.toArray ∧ VRs c cs ds := by
  cases h with | tup cs _ h1 h2 => exact ⟨cs, rfl, ⟨h1, h2⟩⟩
theorem VR.inv_func {f : Nat} {ds : List PD} (h : VR c v (.func f ds)) : ∃ cs : List Value, v = .func (.func f) #[] cs.toArray ∧ VRs c cs ds := by
  cases h with | func _ cs _ h1 h2 => exact ⟨cs, rfl, ⟨h1, h2⟩⟩
theorem VR.inv_ptr {id off : Nat} (h : VR c v (.ptr id off)) : ∃ b, v = .pointer (some ⟨b, off, none⟩) ∧ c.D id ∧ (∃ p, c.σ[id]? = some (.box p)) ∧ c.ρ id = .pointer (some ⟨b, 0, none⟩) := by
  cases h with | ptr _ _ b h1 h2 h3 => exact ⟨b, rfl, h1, h2, h3⟩
theorem VR.inv_nilptr (h : VR c v .nilptr) : v = .pointer none := by cases h; rfl
theorem VR.inv_nilfunc (h : VR c v .nilfunc) : v = .nilFunc := by cases h; rfl
theorem VR.inv_eptr {ds : List PD} {off : Nat} (h : VR c v (.eptr ds off)) : ∃ (ad : Addr) (fl : List Value), v = .pointer (some (ad.add off)) ∧ VRs c fl ds ∧ (∀ v ∈ fl, v.oneCell' = true) ∧
    ∀ (j : Nat) (v : Value), fl[j]? = some v → c.w.cell? (ad.add j) = some v ∧ c.av (ad.add j) := by
  cases h with | eptr ad fl _ _ h1 h2 h3 h4 => exact ⟨ad, fl, rfl, ⟨h1, h4⟩, h2, h3⟩
theorem VR.inv_slice {size : Nat} {xs : List PD} {tok : Tok} (h : VR c v (.slice size xs tok)) : ∃ (A : Option Addr) (cap : Nat) (fl : List Value), v = .slice A xs.length cap ∧ xs.length ≤ cap ∧ cap ≤ maxLen ∧
    (∀ x ∈ xs, x.cells.length = size) ∧ fl.length = xs.length * size ∧ (∀ v ∈ fl, v.oneCell' = true) ∧
    (∀ (j : Nat) (v : Value), fl[j]? = some v → ∃ ad, A = some ad ∧ c.w.cell? (ad.add j) = some v ∧ c.av (ad.add j)) ∧
    (∀ (j : Nat) (v : Value) (d : PD), fl[j]? = some v → (xs.flatMap PD.cells)[j]? = some d → VR c v d) ∧ TokR c size xs.length cap (.slice A xs.length cap) tok := by
  cases h with | slice A n cap _ _ _ fl h1 h2 h3 h4 h5 h6 h7 h8 h9 => subst h1; exact ⟨A, cap, fl, rfl, h2, h3, h4, h5, h6, h7, h8, h9⟩
end inv

/-- The cells of a value and of its data. -/
theorem VR.cells {c : Cx} {v : Value} {p : PD} (h : VR c v p) : VRs c v.cells.toList p.cells := by
  cases h with
  | agg cs ds h1 h2 h3 => exact ⟨by simpa [Value.cells, PD.cells] using h1, by simpa [Value.cells, PD.cells] using h3⟩
  | _ =>
    refine ⟨by simp [Value.cells, PD.cells], fun i v' d hv hd => ?_⟩
    cases i with
    | zero =>
      simp [Value.cells, PD.cells] at hv hd
      subst hv; subst hd
      constructor <;> assumption
    | succ i => simp [Value.cells] at hv

theorem VR.plain {c : Cx} {v : Value} {p : PD} (h : VR c v p) : p.plain = v.oneCell' := by cases h <;> rfl

theorem VRs.ones {c : Cx} {cs : List Value} {ds : List PD} (h : VRs c cs ds) (hp : ds.all PD.plain = true) : ∀ v ∈ cs, v.oneCell' = true := by
  intro v hv
  obtain ⟨i, hi⟩ := List.getElem?_of_mem hv
  have hlt : i < ds.length := by rw [← h.1]; exact (List.getElem?_eq_some_iff.1 hi).1
  have h1 := h.2 i v ds[i] hi (by simp [hlt])
  rw [← h1.plain]
  exact List.all_eq_true.1 hp _ (List.getElem_mem hlt)

theorem VRs.take_drop {c : Cx} {cs : List Value} {ds : List PD} (h : VRs c cs ds) (off n : Nat) : VRs c ((cs.drop off).take n) ((ds.drop off).take n) := by
  refine ⟨by simp [h.1], fun i v d hv hd => ?_⟩
  rw [List.getElem?_take] at hv hd
  split at hv
  · rename_i hlt
    rw [if_pos hlt] at hd
    rw [List.getElem?_drop] at hv hd
    exact h.2 _ v d hv hd
  · simp at hv

theorem VRs.get {c : Cx} {cs : List Value} {ds : List PD} (h : VRs c cs ds) {i : Nat} {d : PD} (hd : ds[i]? = some d) : ∃ v, cs[i]? = some v ∧ VR c v d := by
  have hlt : i < cs.length := by rw [h.1]; exact (List.getElem?_eq_some_iff.1 hd).1
  exact ⟨cs[i], by simp [hlt], h.2 i cs[i] d (by simp [hlt]) hd⟩

theorem psize_some {P : Program} {t : TypeId} {n : Nat} (h : psize P t = some n) : ∃ i, P.info? t = some i ∧ i.size = n := by
  unfold psize at h; split at h <;> simp at h; exact ⟨_, ‹_›, h⟩

theorem run_sizeOf' {P : Program} {w : World} {t : TypeId} {n : Nat} (h : psize P t = some n) : (sizeOf t).run P w = .ok n w := by
  obtain ⟨i, h1, h2⟩ := psize_some h
  simp [sizeOf, typeInfo, h1, h2]

theorem pagg_run {P : Program} {w : World} {t : TypeId} {b : Bool} (h : pagg P t = some b) : (isAgg t).run P w = .ok b w := by
  unfold pagg at h
  split at h <;> simp at h <;> subst h
  · rename_i hu; simp [isAgg, run_underlying hu]
  · rename_i hu; simp [isAgg, run_underlying hu]
  · rename_i d h1 h2 hu
    simp only [isAgg, Sem.run_bind, run_underlying hu, Result.andThen_ok]
    rfl

theorem part_ok {P : Program} {c : Cx} {cs : List Value} {ds : List PD} (h : VRs c cs ds) (h1 : ∀ v ∈ cs, v.oneCell' = true) {t : TypeId} {off : Nat} {p : PD} (hp : ppart P t ds off = some p) (w : World) :
    ∃ v, (part t cs.toArray off).run P w = .ok v w ∧ VR c v p := by
  unfold ppart at hp
  split at hp
  · rename_i n ha hs
    split at hp
    · simp at hp
      subst hp
      refine ⟨.agg ((cs.drop off).take n).toArray, ?_, ?_⟩
      · simp [part, pagg_run ha, run_sizeOf' hs, List.extract_toArray, List.extract_eq_take_drop]
      · have h2 := h.take_drop off n
        exact .agg _ _ h2.1 (fun v hv => h1 v (List.mem_of_mem_drop (List.mem_of_mem_take hv))) h2.2
    · simp at hp
  · rename_i n ha hs
    obtain ⟨v, hv, hr⟩ := h.get hp
    exact ⟨v, by simp [part, pagg_run ha, hv], hr⟩
  · simp at hp

end Go.Kz
