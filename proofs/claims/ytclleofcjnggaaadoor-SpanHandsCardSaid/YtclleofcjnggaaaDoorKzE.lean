/-
  Operations that neither read nor write the store: the model's run yields what the pure interpreter says.
-/
import Derived.Test.YtclleofcjnggaaaDoorKzD
set_option linter.all false
namespace Go.Kz

section
variable {P : Program} {c : Cx}

theorem run_eqGuard_free (op : BinOp) (t : TypeId) (x y : Operand) (a b : Value) (w : World) (h : op ≠ .eql ∧ op ≠ .neq) : (eqGuard op t x y a b).run P w = .ok () w := by
  cases op <;> first | rfl | (simp at h)

theorem peq_ok {t : TypeId} {x y : PD} {b : Bool} (h : peq P t x y = some b) {vx vy : Value} (hx : VR c vx x) (hy : VR c vy y) (w : World) (op : BinOp) (ox oy : Operand) :
    (Op.equal t vx vy).run P w = .ok b w ∧ (eqGuard op t ox oy vx vy).run P w = .ok () w := by
  unfold peq at h
  split at h
  · rename_i px py
    split at h
    · simp at h
    · rename_i hg
      refine ⟨peqIn_ok 12 9988 t _ _ b vx vy w h hx hy, ?_⟩
      obtain ⟨xs, rfl, _⟩ := hx.inv_agg
      obtain ⟨ys, rfl, _⟩ := hy.inv_agg
      exact run_eqGuard_agg w op t ox oy _ _ (by simpa using hg)
  · rename_i hne
    refine ⟨peqIn_ok 12 9988 t _ _ b vx vy w h hx hy, ?_⟩
    cases hx <;> cases hy <;> first
      | exact (hne _ _ rfl rfl).elim
      | (cases op <;> rfl)

theorem pbin_ok {op : BinOp} {t : TypeId} {x y p : PD} (h : pbin P op t x y = some p) {vx vy : Value} (hx : VR c vx x) (hy : VR c vy y) (w : World) (ox oy : Operand) :
    ∃ v, (do eqGuard op t ox oy vx vy; binOp op t vx vy : Sem Value).run P w = .ok v w ∧ VR c v p := by
  unfold pbin at h
  split at h
  · rename_i k a k' b
    have e1 := hx.inv_int
    have e2 := hy.inv_int
    subst e1; subst e2
    have hg : (eqGuard op t ox oy (.int k a) (.int k' b)).run P w = .ok () w := by cases op <;> rfl
    split at h
    · obtain ⟨v, r, q⟩ := pshift_ok (k' := k') h (.inl rfl) c P t w
      exact ⟨v, by simp [hg, r], q⟩
    · obtain ⟨v, r, q⟩ := pshift_ok (k' := k') h (.inr rfl) c P t w
      exact ⟨v, by simp [hg, r], q⟩
    · rename_i n1 n2
      split at h
      · rename_i hk
        subst hk
        obtain ⟨v, r, q⟩ := pint_ok h ⟨by rintro rfl; exact n1 rfl, by rintro rfl; exact n2 rfl⟩ c P t w
        exact ⟨v, by simp [hg, r], q⟩
      · simp at h
  · rename_i a b
    have e1 := hx.inv_str
    have e2 := hy.inv_str
    subst e1; subst e2
    have hg : (eqGuard op t ox oy (.string ⟨a.toArray⟩) (.string ⟨b.toArray⟩)).run P w = .ok () w := by cases op <;> rfl
    obtain ⟨v, r, q⟩ := pstr_ok h c P t w
    exact ⟨v, by simp [hg, r], q⟩
  · rename_i n1 n2
    split at h
    · split at h
      · rename_i b hb
        simp at h; subst h
        obtain ⟨r1, r2⟩ := peq_ok hb hx hy w .eql ox oy
        refine ⟨.bool b, ?_, .bool b⟩
        simp only [Sem.run_bind, r2, Result.andThen_ok]
        have : (binOp .eql t vx vy) = (do pure (.bool (← Op.equal t vx vy)) : Sem Value) := by
          cases hx <;> cases hy <;> first | rfl | (exact (n1 _ _ _ _ rfl rfl).elim) | (exact (n2 _ _ rfl rfl).elim)
        rw [this]
        simp [r1]
      · simp at h
    · split at h
      · rename_i b hb
        simp at h; subst h
        obtain ⟨r1, r2⟩ := peq_ok hb hx hy w .neq ox oy
        refine ⟨.bool (!b), ?_, .bool _⟩
        simp only [Sem.run_bind, r2, Result.andThen_ok]
        have : (binOp .neq t vx vy) = (do pure (.bool (!(← Op.equal t vx vy))) : Sem Value) := by
          cases hx <;> cases hy <;> first | rfl | (exact (n1 _ _ _ _ rfl rfl).elim) | (exact (n2 _ _ rfl rfl).elim)
        rw [this]
        simp [r1]
      · simp at h
    · simp at h

theorem pun_ok {op : UnOp} {x p : PD} (h : pun op x = some p) {vx : Value} (hx : VR c vx x) (w : World) : ∃ v, (Op.unary op vx).run P w = .ok v w ∧ VR c v p := by
  unfold pun at h
  split at h
  · simp only [Option.some.injEq] at h; subst h; rw [hx.inv_int]; exact ⟨_, rfl, .int _ _⟩
  · rw [hx.inv_int]
    split at h
    · rename_i z hz; simp at h; subst h; exact ⟨_, pbits_ok hz P w, .int _ _⟩
    · simp at h
  · simp at h; subst h; rw [hx.inv_bool]; exact ⟨_, rfl, .bool _⟩
  · simp at h

theorem pconv_ok {s d : TypeId} {x p : PD} (h : pconv P s d x = some p) {vx : Value} (hx : VR c vx x) (w : World) : ∃ v, (convert s d vx).run P w = .ok v w ∧ VR c v p := by
  unfold pconv at h
  split at h
  · rename_i hs hd
    simp at h; subst h; rw [hx.inv_int]
    exact ⟨_, by simp [convert, run_underlying hs, run_underlying hd, Conv.intToInt], .int _ _⟩
  · rename_i hs hd
    simp at h; subst h; rw [hx.inv_str]
    exact ⟨_, by simp [convert, run_underlying hs, run_underlying hd], .str _⟩
  · simp at h

theorem pasNat_ok {x : PD} {i : Nat} (h : pasNat (some x) = some i) {v : Value} (hx : VR c v x) : ∃ k z, v = .int k z ∧ 0 ≤ z ∧ z.toNat = i := by
  unfold pasNat at h
  split at h
  · rename_i k z e
    simp at e; subst e
    split at h
    · simp at h; exact ⟨k, z, hx.inv_int, ‹_›, h⟩
    · simp at h
  · simp at h

theorem add_add' (a : Addr) (i j : Nat) : (a.add i).add j = a.add (i + j) := by
  unfold Addr.add
  by_cases hi : i = 0 <;> by_cases hj : j = 0 <;> simp [hi, hj, Nat.add_assoc]

theorem add_block' (a : Addr) (i : Nat) : (a.add i).block = a.block := by unfold Addr.add; split <;> rfl

theorem run_fieldAt {s : TypeId} {fs : Array Field} {fd : Field} {f n : Nat} (hu : P.underlying s = some (.struct fs)) (hf : fs[f]? = some fd) (hn : psize P fd.type = some n) (h0 : n ≠ 0) (a : Addr) (w : World) :
    (Instr.fieldAt s (.pointer (some a)) f).run P w = .ok (.pointer (some (a.add fd.offset))) w := by
  simp [Instr.fieldAt, run_underlying hu, hf, Instr.sureAddr, fieldPlace, run_sizeOf' hn, h0]

theorem pfieldAddr_ok {s : TypeId} {x p : PD} {f : Nat} (h : pfieldAddr P s x f = some p) {vx : Value} (hx : VR c vx x) (w : World) : ∃ v, (Instr.fieldAt s vx f).run P w = .ok v w ∧ VR c v p := by
  unfold pfieldAddr at h
  split at h
  · rename_i fs hu
    split at h
    · rename_i fd hf
      split at h
      · rename_i n hn
        split at h
        · simp at h
        · rename_i h0
          split at h
          · rename_i id off
            simp at h; subst h
            obtain ⟨b, rfl, h1, h2, h3⟩ := hx.inv_ptr
            refine ⟨_, run_fieldAt hu hf hn h0 _ w, ?_⟩
            have : (⟨b, off, none⟩ : Addr).add fd.offset = ⟨b, off + fd.offset, none⟩ := by unfold Addr.add; split <;> simp_all
            rw [this]
            exact .ptr _ _ b h1 h2 h3
          · rename_i cs off
            simp at h; subst h
            obtain ⟨ad, fl, rfl, h1, h2, h3⟩ := hx.inv_eptr
            refine ⟨_, run_fieldAt hu hf hn h0 _ w, ?_⟩
            rw [add_add']
            exact .eptr ad fl cs _ h1.1 h2 h3 h1.2
          · simp at h
      · simp at h
    · simp at h
  · simp at h

theorem pfield_ok {t : TypeId} {x p : PD} {f : Nat} (h : pfield P t x f = some p) {vx : Value} (hx : VR c vx x) (w : World) : ∃ v, (Instr.field t vx f).run P w = .ok v w ∧ VR c v p := by
  unfold pfield at h
  split at h
  · rename_i fs ds hu
    split at h
    · rename_i fd hf
      obtain ⟨cs, rfl, h1, h2⟩ := hx.inv_agg
      obtain ⟨v, r, q⟩ := part_ok h1 h2 h w
      exact ⟨v, by simp [Instr.field, run_underlying hu, hf, asAgg, r], q⟩
    · simp at h
  · simp at h

theorem flat_at (size : Nat) : ∀ (xs : List PD), (∀ x ∈ xs, x.cells.length = size) → ∀ (i : Nat) (p : PD), xs[i]? = some p → ∀ j, j < size → (xs.flatMap PD.cells)[i * size + j]? = p.cells[j]?
  | [], _, i, p, h, _, _ => by simp at h
  | x :: xs, hx, 0, p, h, j, hj => by
    simp at h; subst h
    have := hx x (by simp)
    simp [List.flatMap_cons, List.getElem?_append, this, hj]
  | x :: xs, hx, i + 1, p, h, j, hj => by
    have hl := hx x (by simp)
    have r := flat_at size xs (fun y hy => hx y (by simp [hy])) i p (by simpa using h) j hj
    rw [List.flatMap_cons, List.getElem?_append_right (by rw [hl, Nat.add_mul]; omega), hl]
    rw [show (i + 1) * size + j - size = i * size + j by rw [Nat.add_mul]; omega]
    exact r

theorem pindexAddr_ok {t : TypeId} {x i p : PD} (h : pindexAddr P t x i = some p) {vx vi : Value} (hx : VR c vx x) (hi : VR c vi i) (w : World) : ∃ v, (Instr.indexAt t vx vi).run P w = .ok v w ∧ VR c v p := by
  unfold pindexAddr at h
  split at h
  · rename_i m len e hm hu
    obtain ⟨k, z, rfl, h0, rfl⟩ := pasNat_ok hm hi
    split at h
    · rename_i n hn
      split at h
      · rename_i hlt
        split at h
        · rename_i id off
          simp at h; subst h
          obtain ⟨b, rfl, h1, h2, h3⟩ := hx.inv_ptr
          refine ⟨.pointer (some ⟨b, off + z.toNat * n, none⟩), ?_, .ptr _ _ b h1 h2 h3⟩
          have : (⟨b, off, none⟩ : Addr).add (z.toNat * n) = ⟨b, off + z.toNat * n, none⟩ := by unfold Addr.add; split <;> simp_all
          have hz : z < (len : Int) := by omega
          simp [Instr.indexAt, asIntOf, run_underlying hu, Instr.sureAddr, h0, hz, run_sizeOf' hn, this]
        · rename_i cs off
          simp at h; subst h
          obtain ⟨ad, fl, rfl, h1, h2, h3⟩ := hx.inv_eptr
          have hz : z < (len : Int) := by omega
          refine ⟨.pointer (some (ad.add (off + z.toNat * n))), ?_, .eptr ad fl cs _ h1.1 h2 h3 h1.2⟩
          simp [Instr.indexAt, asIntOf, run_underlying hu, Instr.sureAddr, h0, hz, run_sizeOf' hn, add_add']
        · simp at h
      · simp at h
    · simp at h
  · rename_i m e hm hu
    obtain ⟨k, z, rfl, h0, rfl⟩ := pasNat_ok hm hi
    split at h
    · rename_i size xs tok n hn
      split at h
      · rename_i hsz
        obtain ⟨hsz, hn0⟩ := hsz
        split at h
        · rename_i q hq
          simp at h; subst h
          have hsz : n = size := hsz.resolve_left (fun e => by rw [List.eq_nil_of_length_eq_zero e] at hq; simp at hq)
          subst hsz
          obtain ⟨A, cap, fl, rfl, h1, h2, h3, h4, h5, h6, h7, h8⟩ := hx.inv_slice
          have hlt : z.toNat < xs.length := (List.getElem?_eq_some_iff.1 hq).1
          have hz : z < (xs.length : Int) := by omega
          have hql := h3 q (List.mem_of_getElem? hq)
          have hin : z.toNat * n < fl.length := by
            rw [h4]
            exact Nat.mul_lt_mul_of_pos_right hlt hn0
          obtain ⟨ad, rfl, _, _⟩ := h6 (z.toNat * n) fl[z.toNat * n] (by simp [hin])
          refine ⟨.pointer (some ((ad.add (z.toNat * n)).add 0)), ?_, ?_⟩
          · simp [Instr.indexAt, asIntOf, run_underlying hu, h0, hz, run_sizeOf' hn, Addr.add]
          · have hle : z.toNat * n + n ≤ fl.length := by
              rw [h4, ← Nat.succ_mul]
              exact Nat.mul_le_mul_right _ hlt
            refine .eptr (ad.add (z.toNat * n)) ((fl.drop (z.toNat * n)).take n) q.cells 0 (by simp [hql]; omega) (fun v hv => h5 v (List.mem_of_mem_drop (List.mem_of_mem_take hv))) ?_ ?_
            · intro j v hv
              rw [List.getElem?_take] at hv
              split at hv
              · rw [List.getElem?_drop] at hv
                obtain ⟨ad', e', h9, h10⟩ := h6 _ v hv
                cases e'
                rw [add_add']
                exact ⟨h9, h10⟩
              · simp at hv
            · intro j v d hv hd
              rw [List.getElem?_take] at hv
              split at hv
              · rename_i hj
                rw [List.getElem?_drop] at hv
                exact h7 _ v d hv (by rw [flat_at n xs h3 _ _ hq j hj]; exact hd)
              · simp at hv
        · simp at h
      · simp at h
    · simp at h
  · simp at h

end
end Go.Kz
