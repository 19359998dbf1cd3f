/-
  Slice literals; all operations that call no function of the program.
-/
import Derived.Test.YtclleofcjnggaaaDoorKzK
set_option linter.all false
namespace Go.Kz
open Go.RowKit

section
variable {P : Program} {c : Cx} {fl : Nat}

theorem pfill_indexed {n : Nat} : ∀ (parts : List (Nat × PD)) (i : Nat) (ps z : List PD), pindexed i parts = some ps → (∀ p ∈ ps, p.cells.length = n ∧ p.cells.all PD.plain = true) → (i + ps.length) * n ≤ z.length →
    pfill (fun i => some (i * n, n)) z parts = some (z.take (i * n) ++ ps.flatMap PD.cells ++ z.drop ((i + ps.length) * n))
  | [], i, ps, z, h, _, _ => by simp [pindexed] at h; subst h; simp [pfill]
  | (j, p) :: parts, i, ps, z, h, hp, hl => by
    unfold pindexed at h
    split at h
    · rename_i hj
      subst hj
      split at h
      · rename_i qs hq
        simp only [Option.some.injEq] at h; subst h
        obtain ⟨hp1, hp2⟩ := hp p (by simp)
        have hle : (j + 1 + qs.length) * n ≤ z.length := by simpa [Nat.add_assoc, Nat.add_comm 1] using hl
        have hjn : j * n + n ≤ z.length := by
          have : (j + 1) * n ≤ (j + 1 + qs.length) * n := Nat.mul_le_mul_right _ (by omega)
          rw [Nat.add_mul] at this; omega
        have hz : (pfillAt z (j * n) p.cells).length = z.length := by simp [pfillAt, hp1]; omega
        have ih := pfill_indexed parts (j + 1) qs (pfillAt z (j * n) p.cells) hq (fun q hq' => hp q (by simp [hq'])) (by rw [hz]; exact hle)
        have e1 : (pfillAt z (j * n) p.cells).take ((j + 1) * n) = z.take (j * n) ++ p.cells := by
          unfold pfillAt
          rw [List.take_append_of_le_length (by simp [hp1, Nat.add_mul]; omega), List.take_of_length_le (by simp [hp1, Nat.add_mul]; omega)]
        have e2 : (pfillAt z (j * n) p.cells).drop ((j + 1 + qs.length) * n) = z.drop ((j + 1 + qs.length) * n) := by
          have h3 : j * n + n ≤ (j + 1 + qs.length) * n := by
            have : (j + 1) * n ≤ (j + 1 + qs.length) * n := Nat.mul_le_mul_right _ (by omega)
            rw [Nat.add_mul] at this; omega
          unfold pfillAt
          rw [List.drop_append, List.drop_eq_nil_of_le (by simp [hp1]; omega), List.nil_append, List.drop_drop]
          congr 1
          simp [hp1]
          omega
        unfold pfill
        simp only
        rw [if_neg (by simp [hp1, hp2]; omega), ih, e1, e2]
        simp only [List.flatMap_cons, List.append_assoc, List.length_cons]
        rw [show j + 1 + qs.length = j + (qs.length + 1) by omega]
      · simp at h
    · simp at h

theorem psize_info {t : TypeId} {n : Nat} (h : psize P t = some n) : ∃ i, P.info? t = some i ∧ i.size = n := psize_some h

theorem pnewSlice_ok (hs : Sr c) {t : TypeId} {len : Nat} {parts : List (Nat × PD)} {vparts : List (Nat × Value)} {p : PD} (h : pnewSlice P t len parts = some p) (hl : vparts.length = parts.length)
    (hp : ∀ (i : Nat) (jv : Nat × Value) (jp : Nat × PD), vparts[i]? = some jv → parts[i]? = some jp → jv.1 = jp.1 ∧ VR c jv.2 jp.2) :
    ∃ v w', (Instr.buildSlice t len vparts.toArray).run P c.w = .ok v w' ∧ Leaves fl c p c.σ v w' := by
  unfold pnewSlice at h
  split at h
  · rename_i e hu
    split at h
    · rename_i n z ps hn hz hix
      split at h
      · rename_i hcond
        obtain ⟨hlen, hn0, hsmall, hall, hzl, hzp⟩ := hcond
        simp only [Option.some.injEq] at h; subst h
        obtain ⟨zv, i, hi, hzv, hzr⟩ := pzero_ok (c := c) hz
        have hzc := hzr.cells
        have hzs : zv.cells.size = n := by have := hzc.1; simp at this; omega
        have hps : ∀ q ∈ ps, q.cells.length = n ∧ q.cells.all PD.plain = true := fun q hq => by
          have := List.all_eq_true.1 hall q hq
          simpa using this
        -- the zero cells
        let z0 : List PD := (List.range (len * n)).map fun k => z.cells.getD (k % n) (.tup [])
        let c0 : Array Value := (Array.range (len * n)).map fun k => zv.cells[k % zv.cells.size]!
        have hc0 : VRs c c0.toList z0 := by
          refine ⟨by simp [c0, z0], fun k v d hv hd => ?_⟩
          simp only [c0, z0, Array.toList_map, Array.toList_range, List.getElem?_map] at hv hd
          cases hk : (List.range (len * n))[k]? with
          | none => simp [hk] at hv
          | some k' =>
            have hkm : k' % n < n := Nat.mod_lt _ hn0
            have hlt1 : k' % n < zv.cells.size := by omega
            have hlt2 : k' % n < z.cells.length := by omega
            simp [hk, hzs, hlt2] at hv hd
            subst hv; subst hd
            exact hzc.2 (k' % n) _ _ (by simp [hlt1]) (by simp [hlt2])
        have hz1 : ∀ v ∈ zv.cells.toList, v.oneCell' = true := VRs.ones hzc hzp
        have hc1 : ∀ v ∈ c0.toList, v.oneCell' = true := by
          intro v hv
          simp only [c0, Array.toList_map, Array.toList_range, List.mem_map] at hv
          obtain ⟨k, _, rfl⟩ := hv
          have hlt1 : k % zv.cells.size < zv.cells.size := Nat.mod_lt _ (by omega)
          apply hz1
          simp [hlt1]
        have hz0l : z0.length = len * n := by simp [z0]
        have hfi := pfill_indexed (n := n) parts 0 ps z0 hix hps (by rw [hz0l, hlen]; simp)
        obtain ⟨cells', f1, f2, f3⟩ := fill_ok parts vparts z0 c0 _ hl hp hc0 hc1 hfi
        have hcs : z0.take (0 * n) ++ ps.flatMap PD.cells ++ z0.drop ((0 + ps.length) * n) = ps.flatMap PD.cells := by
          rw [List.drop_eq_nil_of_le (by rw [hz0l, hlen]; simp)]
          simp
        rw [hcs] at f2
        have hfl : cells'.toList.length = len * n := by rw [f2.1, flat_length ps (fun q hq => (hps q hq).1), hlen]
        have hgr := grownBy_alloc' c.w (.cells cells' e)
        refine ⟨.slice (some ⟨c.w.heap.size, 0, none⟩) len len, c.w.alloc (.cells cells' e), ?_, c.at (c.w.alloc (.cells cells' e)), rfl, rfl, Sr.grow hs hgr, Nx.grow hs hgr, ?_, fun _ h => .inl h⟩
        · have hln : ¬ (len * n > 2 ^ 24) := by omega
          obtain ⟨i', hi', hsz⟩ := psize_info hn
          have hfz : Instr.fill (fun i => some (i * n, n)) ((Array.range (len * n)).map fun k => (if len * n = 0 then (#[] : Array Value) else zv.cells)[k % (if len * n = 0 then (#[] : Array Value) else zv.cells).size]!) vparts = some cells' := by
            by_cases h0 : len * n = 0
            · simp only [h0, if_true]
              have : c0 = #[] := by simp [c0, h0]
              rw [this] at f1
              rw [show (Array.range 0) = #[] from rfl]
              simpa using f1
            · simp only [h0, if_false]
              exact f1
          simp only [Instr.buildSlice, Sem.run_bind, run_underlying hu, Result.andThen_ok, run_sizeOf' hn, if_neg hln]
          by_cases h0 : len * n = 0
          · simp only [h0, if_true] at hfz ⊢
            simp only [Sem.run_bind, Sem.run_pure, Result.andThen_ok, hfz]
            simp [newRow]
          · simp only [h0, if_false] at hfz ⊢
            have hzr' : (zeroValue e).run P c.w = .ok zv c.w := by simp [zeroValue, typeInfo, hi, hzv]
            simp only [Sem.run_bind, Sem.run_pure, Result.andThen_ok, hzr', hfz]
            simp [newRow]
        · have nx : Nx 0 c (c.at (c.w.alloc (.cells cells' e))) := Nx.grow hs hgr
          refine .slice (some ⟨c.w.heap.size, 0, none⟩) len len n ps .full cells'.toList hlen.symm (Nat.le_refl _) ?_ (fun q hq => (hps q hq).1) hfl f3 ?_ (fun j v d q1 q2 => (f2.2 j v d q1 q2).mono nx) rfl
          · have : len ≤ len * n := Nat.le_mul_of_pos_right _ hn0
            simp only [maxLen]; omega
          · intro j v hv
            have hadd : (⟨c.w.heap.size, 0, none⟩ : Addr).add j = ⟨c.w.heap.size, j, none⟩ := by unfold Addr.add; split <;> simp_all
            refine ⟨_, rfl, ?_, ?_⟩
            · rw [hadd]
              show (c.w.alloc (.cells cells' e)).cell? _ = _
              rw [World.cell?_alloc_new]; simpa using hv
            · rw [hadd]
              refine av_new (hs.fresh _ (Nat.le_refl _)) (fun id o hd ho hb => ?_)
              have := hs.lt id _ hd hb
              simp at this
      · simp at h
    · simp at h
  · simp at h

end
end Go.Kz
