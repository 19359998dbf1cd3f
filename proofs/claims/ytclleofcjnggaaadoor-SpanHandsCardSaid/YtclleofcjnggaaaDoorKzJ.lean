/-
  The operations on the store.
-/
import Derived.Test.YtclleofcjnggaaaDoorKzI
set_option linter.all false
namespace Go.Kz
open Go.RowKit

section
variable {P : Program} {c : Cx} {fl : Nat}

/-- What an operation leaves: a value, a world, a state that stands for the pure one. -/
def Leaves (fl : Nat) (c : Cx) (p : PD) (σ' : List SObj) (v : Value) (w' : World) : Prop :=
  ∃ c', c'.w = w' ∧ c'.σ = σ' ∧ Sr c' ∧ Nx fl c c' ∧ VR c' v p ∧ ∀ id, c'.D id → c.D id ∨ (c.σ.length ≤ id ∧ id < σ'.length)

theorem run_loadCells_of {w : World} {a : Addr} {cs : List Value} {n : Nat} (hn : cs.length = n) (h : ∀ (j : Nat) (v : Value), cs[j]? = some v → w.cell? (a.add j) = some v) :
    (loadCells a n).run P w = .ok cs.toArray w := by
  subst hn
  exact run_loadCells_list w a cs h

theorem loadPart_ok {w : World} {ad : Addr} {fl' : List Value} {ds : List PD} (hl : VRs c fl' ds) (h1 : ∀ v ∈ fl', v.oneCell' = true) (hc : ∀ (j : Nat) (v : Value), fl'[j]? = some v → w.cell? (ad.add j) = some v)
    {t : TypeId} {off : Nat} {p : PD} (h : ppart P t ds off = some p) : ∃ v, (loadVar t (ad.add off)).run P w = .ok v w ∧ VR c v p := by
  unfold ppart at h
  split at h
  · rename_i n ha hs
    split at h
    · rename_i hle
      simp only [Option.some.injEq] at h; subst h
      have hlen : ((fl'.drop off).take n).length = n := by have := hl.1; simp; omega
      refine ⟨.agg ((fl'.drop off).take n).toArray, ?_, ?_⟩
      · have := run_loadCells_of (P := P) (w := w) (a := ad.add off) hlen (fun j v hv => by
          rw [List.getElem?_take] at hv
          split at hv
          · rw [List.getElem?_drop] at hv
            rw [add_add']
            exact hc _ v hv
          · simp at hv)
        simp [loadVar, pagg_run ha, run_sizeOf' hs, this]
      · have h2 := hl.take_drop off n
        exact .agg _ _ h2.1 (fun v hv => h1 v (List.mem_of_mem_drop (List.mem_of_mem_take hv))) h2.2
    · simp at h
  · rename_i n ha hs
    obtain ⟨v, hv, hr⟩ := hl.get h
    exact ⟨v, by simp [loadVar, pagg_run ha, hc _ v hv], hr⟩
  · simp at h

theorem pload_ok (hs : Sr c) {t : TypeId} {a p : PD} (h : pload P c.σ t a = some p) {va : Value} (ha : VR c va a) : ∃ v, (Instr.loadAt t va).run P c.w = .ok v c.w ∧ VR c v p := by
  unfold pload at h
  split at h
  · rename_i id off
    split at h
    · rename_i q hq
      obtain ⟨b, rfl, hd, _, hr⟩ := ha.inv_ptr
      obtain ⟨b', cs, T, e1, e2, e3, e4⟩ := hs.box id q hd hq
      rw [hr] at e1
      simp only [Value.pointer.injEq, Option.some.injEq, Addr.mk.injEq, and_true] at e1
      subst e1
      have hadd : ∀ j, (⟨b, 0, none⟩ : Addr).add j = ⟨b, j, none⟩ := fun j => by unfold Addr.add; split <;> simp_all
      obtain ⟨v, r, q⟩ := loadPart_ok (P := P) (w := c.w) (ad := ⟨b, 0, none⟩) e3 e4 (fun j v hv => by
        rw [hadd]; simp only [World.cell?, e2]; simpa using hv) h
      rw [hadd] at r
      exact ⟨v, by simp [Instr.loadAt, Instr.sureAddr, r], q⟩
    · simp at h
  · rename_i cs off
    obtain ⟨ad, fl', rfl, h1, h2, h3⟩ := ha.inv_eptr
    obtain ⟨v, r, q⟩ := loadPart_ok (P := P) (w := c.w) h1 h2 (fun j v hv => (h3 j v hv).1) h
    exact ⟨v, by simp [Instr.loadAt, Instr.sureAddr, r], q⟩
  · simp at h

theorem grownBy_alloc' (w : World) (o : Obj) : w.grownBy (w.alloc o) none := World.grownBy_alloc w o none

/-- A new box. -/
theorem newBox_ok (hs : Sr c) {p : PD} {v : Value} (hv : VR c v p) (hp : p.cells.all PD.plain = true) (T : TypeId) :
    (newVar T v).run P c.w = .ok ⟨c.w.heap.size, 0, none⟩ (c.w.alloc (.cells v.cells T)) ∧
    Leaves fl c (.ptr c.σ.length 0) (c.σ ++ [.box p]) (.pointer (some ⟨c.w.heap.size, 0, none⟩)) (c.w.alloc (.cells v.cells T)) := by
  refine ⟨by simp [newVar, newRow], c.push (c.w.alloc (.cells v.cells T)) (.pointer (some ⟨c.w.heap.size, 0, none⟩)) (.box p), rfl, rfl, ?_, ?_, ?_, ?_⟩
  · refine Sr.push hs (grownBy_alloc' _ _) (fun b hb => ?_) ⟨_, v.cells, T, rfl, heap_alloc_new _ _, hv.cells, VRs.ones hv.cells hp⟩
    simp [blk] at hb; subst hb; simp
  · refine Nx.push hs (grownBy_alloc' _ _) (fun b hb => ?_)
    simp [blk] at hb; subst hb; exact Nat.le_refl _
  · exact .ptr _ _ _ (.inr rfl) ⟨p, push_new.1⟩ push_new.2.1
  · intro id hd
    rcases hd with hd | rfl
    · exact .inl hd
    · exact .inr ⟨Nat.le_refl _, by simp⟩

theorem setCells_cells {q q' : PD} {off : Nat} {new : List PD} (h : q.setCells off new = some q') (hn : new.all PD.plain = true) : off + new.length ≤ q.cells.length ∧ q'.cells = pfillAt q.cells off new := by
  unfold PD.setCells at h
  split at h
  · split at h
    · simp only [Option.some.injEq] at h; subst h
      exact ⟨by simpa [PD.cells], rfl⟩
    · simp at h
  · rename_i hne
    split at h
    · rename_i h0
      subst h0
      split at h
      · rename_i r
        simp only [Option.some.injEq] at h; subst h
        have hq : q.cells = [q] := by cases q <;> first | rfl | (exact (hne _ rfl).elim)
        have hr : r.cells = [r] := by
          have : r.plain = true := by simpa using hn
          cases r <;> first | rfl | (simp [PD.plain] at this)
        rw [hq, hr]
        exact ⟨by simp, by simp [pfillAt]⟩
      · simp at h
    · simp at h

theorem pstore_ok (hs : Sr c) {t : TypeId} {a p : PD} {σ' : List SObj} (h : pstore P fl c.σ t a p = some σ') {va v : Value} (ha : VR c va a) (hv : VR c v p) :
    ∃ w', (Instr.storeAt t va v).run P c.w = .ok () w' ∧ Leaves fl c (.tup []) σ' undef w' := by
  unfold pstore at h
  split at h
  · rename_i id off
    split at h
    · rename_i hfl
      split at h
      · rename_i q n hq hn
        split at h
        · rename_i hp
          split at h
          · rename_i q' hq'
            simp only [Option.some.injEq] at h; subst h
            obtain ⟨b, rfl, hd, _, hr⟩ := ha.inv_ptr
            obtain ⟨b', cs, T, e1, e2, e3, e4⟩ := hs.box id q hd hq
            rw [hr] at e1
            simp only [Value.pointer.injEq, Option.some.injEq, Addr.mk.injEq, and_true] at e1
            subst e1
            obtain ⟨hle, hcq⟩ := setCells_cells hq' hp.2
            have hvc := hv.cells
            have hv1 := VRs.ones hvc hp.2
            have hvl : v.cells.toList.length = n := by rw [hvc.1]; exact hp.1
            have hcl : cs.toList.length = q.cells.length := e3.1
            have hst := run_storeCells_at (P := P) b off T v.cells.toList 0 cs c.w e2 (by have := hvc.1; simp at hcl ⊢; simp at this; omega) hv1
            simp only [Nat.add_zero] at hst
            refine ⟨_, ?_, c.put (c.w.setRow b (cs.toList.take off ++ v.cells.toList ++ cs.toList.drop (off + v.cells.toList.length)).toArray) id (c.ρ id) (.box q'), rfl, rfl, ?_, ?_, undef_VR _, fun i hi => .inl hi⟩
            · have hsz : v.cells.size = n := by simpa using hvl
              simp only [Instr.storeAt, Instr.sureAddr, Sem.run_bind, Sem.run_pure, Result.andThen_ok, storeVar, run_sizeOf' hn, hsz, ne_eq, not_true_eq_false, if_false]
              exact hst
            · refine Sr.putBox (T := T) hs hd hq hr ⟨rfl, rfl, rfl, by simp⟩ (fun k hk => setRow_other _ _ _ _ hk) (setRow_heap _ _ cs _ T (0, 0) e2) ?_ ?_
              · rw [hcq]
                have := fillAt_ok e3 hv off (by rw [hvc.1] at hvl; omega)
                simpa using this
              · have := fillAt_ones e4 hv1 off (off + v.cells.toList.length)
                simpa using this
            · exact Nx.putBox hs hd hq hr hfl ⟨rfl, rfl, rfl, by simp⟩ (fun k hk => setRow_other _ _ _ _ hk)
          · simp at h
        · simp at h
      · simp at h
    · simp at h
  · simp at h

end
end Go.Kz
