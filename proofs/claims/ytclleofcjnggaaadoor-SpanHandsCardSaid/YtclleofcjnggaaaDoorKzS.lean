/-
  Drawn regions: the law.
-/
import Derived.Test.YtclleofcjnggaaaDoorKzR
set_option linter.all false
namespace Go.Kz
open Go.RowKit

theorem pload_congr {P : Program} {σ σ' : List SObj} {t : TypeId} {a p : PD} (h : pload P σ t a = some p) (he : ∀ id off, a = .ptr id off → σ'[id]? = σ[id]?) : pload P σ' t a = some p := by
  unfold pload at h ⊢
  cases a <;> simp only at h ⊢ <;> first | exact h | (simp at h; done) | skip
  rename_i id off
  rw [he id off rfl]; exact h

theorem pload_lt {P : Program} {σ : List SObj} {t : TypeId} {id off : Nat} {p : PD} (h : pload P σ t (.ptr id off) = some p) : id < σ.length := by
  unfold pload at h
  simp only at h
  split at h
  · rename_i q hq; exact (List.getElem?_eq_some_iff.1 hq).1
  · simp at h

section
variable {F : Fence} {P : Program} {call : PCall} {fl n : Nat} {Q : Exit → Act → World → Prop} {ops : Array Oper} {frs : Nat → List PD} {σs : Nat → List SObj} {ps : Nat → PD} {ft : Nat → Option Nat}
  {c0 : Cx} {df : List Deferred}

theorem drawn_op (hF : Open F P) (hc : Ok F P call) (hr : RegOk ops (masks ops.toList [])) (ht : Trs P call fl ops (masks ops.toList []) c0.σ.length frs σs ps ft) (hfeet : Feet ops (masks ops.toList []) ft)
    (hs0 : Sr c0) (hX0 : Xw fl c0) {listed : Array Bool} {a : Act} {c : Cx} {fr : List PD} {b : Nat} (hi : Inv P fl ops c0 (frs 0) σs ps df listed a c fr b) {i : Nat} (hmem : i ∈ Region.ready .any ops listed) {K : Act → World → Prop}
    (hK : ∀ a' c' fr' b', Inv P fl ops c0 (frs 0) σs ps df (listed.setIfInBounds i true) a' c' fr' b' → K a' c'.w) : wpOpIn F n P ops Q i K a c.w := by
  obtain ⟨hun, o, ho, hready0⟩ := mem_ready.1 hmem
  have hlt : i < ops.size := lt_of_get ho
  have hni : ¬ Lt listed i := by
    intro h
    unfold Lt at h
    rw [Array.getD_eq_getD_getElem?, h] at hun
    cases hun
  have hready : ∀ e ∈ o.after, Region.binds .any e = true → Lt listed e.on := fun e he hb => by
    have := hready0 e he hb
    rw [Array.getD_eq_getD_getElem?] at this
    unfold Lt
    cases hx : listed[e.on]? with
    | none => rw [hx] at this; cases this
    | some t => rw [hx] at this; simp at this; rw [this]
  have agree := fun x hx => slots_ready hr ht hi.closed hi.slots ho hni hready (x := x) hx
  have ev := looks_eval agree
  have hXc : Xw fl c := hX0.next hs0 hi.nx
  have hXm : Xw (max fl c.σ.length) c := fun id g hd hle _ _ _ => absurd (hi.sr.dom id hd) (by omega)
  have frontN : shapeW o.op = false → ∀ (j : Nat) (oj : Oper), ops[j]? = some oj → shapeW oj.op = true → ((Lt listed j ∨ j = i) ↔ j < b) := fun hw j oj hoj hwj => by
    have hne : j ≠ i := by rintro rfl; rw [ho] at hoj; simp only [Option.some.injEq] at hoj; subst hoj; rw [hw] at hwj; cases hwj
    rw [← hi.front j oj hoj hwj]
    simp [hne]
  have wb : shapeW o.op = true → b ≤ i := fun hw => by
    rcases Nat.lt_or_ge i b with h | h
    · exact absurd ((hi.front i o ho hw).2 h) hni
    · exact h
  have wlow : shapeW o.op = true → ∀ (j : Nat) (oj : Oper), ops[j]? = some oj → shapeW oj.op = true → j < i → Lt listed j := fun hw j oj hoj hwj hji =>
    mask_ready hr.down hi.closed ho hready (hr.ord i o j oj ho hoj hw hwj hji)
  have frontW : shapeW o.op = true → ∀ (j : Nat) (oj : Oper), ops[j]? = some oj → shapeW oj.op = true → ((Lt listed j ∨ j = i) ↔ j < i + 1) := fun hw j oj hoj hwj => by
    constructor
    · rintro (h | rfl)
      · have := (hi.front j oj hoj hwj).1 h
        have := wb hw
        omega
      · omega
    · intro h
      rcases Nat.lt_or_ge j i with h' | h'
      · exact .inl (wlow hw j oj hoj hwj h')
      · exact .inr (by omega)
  have σW : shapeW o.op = true → c.σ = σs i := fun hw => by
    have hle := wb hw
    rw [hi.σ]
    have := ht.stills hr (i := b) (i - b) (by omega) fun j oj h1 h2 hoj => by
      cases hwj : shapeW oj.op with
      | false => rfl
      | true => exact absurd ((hi.front j oj hoj hwj).1 (wlow hw j oj hoj hwj (by omega))) (by omega)
    rw [show b + (i - b) = i by omega] at this
    exact this.symm
  have holes : ∀ {fl' : Nat} {c' : Cx}, Nx fl' c c' → ∀ (j : Nat) (oj : Oper) (t : TypeId), ops[j]? = some oj → oj.op = .alloc t → ¬ Lt listed j → j ≠ i →
      ¬ c'.D (c0.σ.length + kAt ops.toList j) ∧ ∃ z, pzero P t = some z ∧ z.cells.all PD.plain = true ∧ c'.σ[c0.σ.length + kAt ops.toList j]? = some (.box z) := fun nx j oj t hoj hot hnl _ => by
    obtain ⟨hnd, z, h1, h2, h3⟩ := hi.holes j oj t hoj hot hnl
    have hl := (List.getElem?_eq_some_iff.1 h3).1
    exact ⟨fun hd => (nx.new _ hd).elim hnd (fun h => by omega), z, h1, h2, (nx.hole _ hl hnd).trans h3⟩
  unfold wpOpIn
  simp only [ho]
  rw [wanted_eq hi.fr, looks_wanted agree]
  cases hw : Region.wanted o (pyield ops (frs i)) with
  | false =>
    obtain ⟨hp, hσ⟩ := (ht i o ho).skip hw
    simp only [Bool.false_eq_true, if_false]
    refine ⟨fun f _ => hF.fn f, ?_⟩
    cases hW : shapeW o.op with
    | false => exact hK _ c _ b (hi.step hr ho hready hi.sr hi.nx hi.σ hi.bN (frontN hW) (holes (.refl 0 c)) hi.fr (by rw [hp]; exact VR.undef c))
    | true => exact hK _ c _ (i + 1) (hi.step hr ho hready hi.sr hi.nx ((σW hW).trans hσ.symm) hlt (frontW hW) (holes (.refl 0 c)) hi.fr (by rw [hp]; exact VR.undef c))
  | true =>
    obtain ⟨hrun, hfoot⟩ := (ht i o ho).run hw
    simp only [if_true]
    have gen : ∀ (fl' b' : Nat) (σ1 : List SObj), fl ≤ fl' → Xw fl' c → pstep P call fl' fr c.σ o.op = some (ps i, σ1) → (∀ c', Nx fl' c c' → c'.σ = σ1 → c'.σ = σs b') → b' ≤ ops.size →
        (∀ (j : Nat) (oj : Oper), ops[j]? = some oj → shapeW oj.op = true → ((Lt listed j ∨ j = i) ↔ j < b')) → o.wpIn F n P a c.w K Q := by
      intro fl' b' σ1 hle hX' hst hσ' hb' hfront
      refine pstep_ok hF hc hi.sr hX' hi.fr hst fun v w' hl => ?_
      obtain ⟨c', rfl, e, hs', nx, hv, _⟩ := hl
      exact hK _ c' _ b' (hi.step hr ho hready hs' (hi.nx.trans (nx.weaken hle)) (hσ' c' nx e) hb' hfront (holes nx) (hi.fr.mono nx) hv)
    unfold pdop at hrun
    by_cases hA : shapeA o.op = true
    · obtain ⟨hpc, _, hW, _⟩ := shapeA_spec (fr := fr) hA
      rw [if_pos hA] at hrun
      split at hrun
      · rename_i p hp
        simp only [Option.some.injEq, Prod.mk.injEq] at hrun
        obtain ⟨rfl, _⟩ := hrun
        refine gen fl b c.σ (Nat.le_refl _) hXc ?_ (fun c' _ e => e.trans hi.σ) hi.bN (frontN hW)
        unfold pstep pop
        rw [hpc, pval_congr _ ev, hp]
      · simp at hrun
    · simp only [Bool.not_eq_true] at hA
      rw [hA] at hrun
      simp only [Bool.false_eq_true, if_false] at hrun
      by_cases hB : shapeAlloc o.op = true
      · obtain ⟨_, hW, _, t, hop⟩ := shapeAlloc_spec hB
        rw [if_pos hB] at hrun
        simp only [Option.some.injEq, Prod.mk.injEq] at hrun
        obtain ⟨hp, _⟩ := hrun
        obtain ⟨hnd, z, hz, hpl, hbox⟩ := hi.holes i o t ho hop hni
        obtain ⟨zv, inf, hinf, hzv, hzr⟩ := pzero_ok (c := c) hz
        have hr1 := (newBox_ok (P := P) (fl := fl) hi.sr hzr hpl t).1
        have hrun : (execOp a.eval o).run P c.w = .ok (.value (.pointer (some ⟨c.w.heap.size, 0, none⟩))) (c.w.alloc (.cells zv.cells t)) := by
          obtain ⟨dst, op, ty, pos, after, guard⟩ := o
          simp only at hop; subst hop
          simp [execOp, Instr.alloc, zeroValue, typeInfo, hinf, hzv, hr1]
        refine ⟨fun f _ => hF.fn f, ?_⟩
        rw [Oper.semAt_eq _ _ _ (by rw [hop]; intro d e; cases e), hrun]
        have hg : c.w.grownBy (c.w.alloc (.cells zv.cells t)) none := grownBy_alloc' _ _
        have hv0 : ∀ b', blk (.pointer (some ⟨c.w.heap.size, 0, none⟩)) = some b' → c.w.heap.size ≤ b' := fun b' hb => by simp [blk] at hb; omega
        have hnv : Nv c (c.plug (c.w.alloc (.cells zv.cells t)) (c0.σ.length + kAt ops.toList i) (.pointer (some ⟨c.w.heap.size, 0, none⟩))) := Nv.plug hnd hbox hg hv0
        refine hK _ (c.plug (c.w.alloc (.cells zv.cells t)) (c0.σ.length + kAt ops.toList i) (.pointer (some ⟨c.w.heap.size, 0, none⟩))) _ b
          (hi.step hr ho hready (hi.sr.plug hnd hbox hg (Nat.le_refl _) (heap_alloc_new _ _) hzr.cells (VRs.ones hzr.cells hpl)) (hi.nx.plug hnd hbox hg hv0 (by omega)) hi.σ hi.bN (frontN hW) ?_ ⟨VRs.monoV hnv hi.fr.1, hi.fr.2.monoV hnv⟩ ?_)
        · intro j oj t' hoj hot hnl hne
          obtain ⟨hnd', z', h1, h2, h3⟩ := hi.holes j oj t' hoj hot hnl
          refine ⟨fun hd => ?_, z', h1, h2, h3⟩
          rcases hd with hd | hd
          · exact hnd' hd
          · exact kAt_ne (l := ops.toList) (by simpa using hoj) (by simpa using ho) (by rw [hot]; rfl) hB hne (by omega)
        · rw [← hp]
          exact .ptr _ _ _ (.inr rfl) ⟨z, hbox⟩ plug_new
      · simp only [Bool.not_eq_true] at hB
        rw [hB] at hrun
        simp only [Bool.false_eq_true, if_false] at hrun
        by_cases hM : shapeMove o.op = true
        · have hW : shapeW o.op = true := by simp [shapeW, hM]
          have hσ := σW hW
          rw [hM] at hrun
          cases hfree : noLoose ops.toList (masks ops.toList []) i with
          | true =>
            rw [hfree] at hrun
            simp only [Bool.not_true, Bool.and_false, Bool.false_eq_true, if_false, if_true] at hrun
            refine gen fl (i + 1) (σs (i + 1)) (Nat.le_refl _) hXc ?_ (fun c' _ e => e) hlt (frontW hW)
            rw [pstep_congr _ ev, hσ]; exact hrun
          | false =>
            rw [hfree] at hrun
            simp only [Bool.not_false, Bool.and_self, if_true] at hrun
            split at hrun
            · rename_i p σ1 hst
              simp only [Option.some.injEq, Prod.mk.injEq] at hrun
              obtain ⟨rfl, hσ1⟩ := hrun
              refine gen (max fl c.σ.length) (i + 1) σ1 (by omega) hXm ?_ (fun c' nx e => ?_) hlt (frontW hW)
              · rw [pstep_congr _ ev, hσ]; exact hst
              · rw [← hσ1, ← e, ← hσ]
                refine List.ext_getElem? fun id => ?_
                rcases Nat.lt_or_ge id c.σ.length with h | h
                · rw [List.getElem?_append_left h]
                  exact nx.ro id (by omega) h
                · rw [List.getElem?_append_right h, List.getElem?_drop]
                  congr 1; omega
            · simp at hrun
        · simp only [Bool.not_eq_true] at hM
          rw [hM] at hrun
          simp only [Bool.false_and, Bool.false_eq_true, if_false] at hrun
          have hsh := hr.shape i o ho
          simp only [hA, hB, shapeW, hM, Bool.false_or, Bool.or_false, Bool.or_eq_true] at hsh
          by_cases hst : shapeStore o.op = true
          · have hW : shapeW o.op = true := by simp [shapeW, hst]
            obtain ⟨hv0, hp0, _⟩ := pval_none_load (P := P) (fr := fr) (.inr (.inr hst))
            refine gen fl (i + 1) (σs (i + 1)) (Nat.le_refl _) hXc ?_ (fun c' _ e => e) hlt (frontW hW)
            unfold pstep pop
            rw [hp0, hv0]
            simp only
            rw [pmem_congr _ ev, σW hW]; exact hrun
          · have hW : shapeW o.op = false := by simp [shapeW, hM, hst]
            by_cases hL : shapeLoad o.op = true
            · obtain ⟨hv0, hp0, _⟩ := pval_none_load (P := P) (fr := fr) (.inl hL)
              refine gen fl b c.σ (Nat.le_refl _) hXc ?_ (fun c' _ e => e.trans hi.σ) hi.bN (frontN hW)
              unfold pstep pop
              rw [hp0, hv0]
              simp only
              rw [pmem_congr _ ev]
              obtain ⟨dst, op, ty, pos, after, guard⟩ := o
              obtain ⟨t, x, rfl⟩ : ∃ t x, op = .load t x := by cases op <;> simp [shapeLoad] at hL ⊢
              simp only [pmem] at hrun ⊢
              split at hrun
              · rename_i ad had
                split at hrun
                · rename_i p hp
                  simp only [Option.some.injEq, Prod.mk.injEq] at hrun
                  obtain ⟨rfl, _⟩ := hrun
                  have hkeep : ∀ id off, ad = .ptr id off → c.σ[id]? = (σs i)[id]? := by
                    rintro id off rfl
                    have hfid : ft i = some id := by rw [hfoot]; simp [pfoot, had]
                    rcases Nat.lt_or_ge i b with hib | hbi
                    · have h1 := (ht.looses hr hfeet ho rfl hfid (m := i) (b - i) (by have := hi.bN; omega) (fun k ok h1 h2 hok hwk => by
                        have hk : Lt listed k := (hi.front k ok hok hwk).2 (by omega)
                        unfold loose
                        simp only [Bool.and_eq_true, Bool.not_eq_true', ]
                        refine ⟨?_, ?_⟩
                        · cases hx : ((masks ops.toList []).getD i 0).testBit k with
                          | false => rfl
                          | true => exact absurd (mask_lt hr.down i k hx) (by omega)
                        · cases hx : ((masks ops.toList []).getD k 0).testBit i with
                          | false => rfl
                          | true => exact absurd (mask_closed hr.down hi.closed k i hk hx) hni) (pload_lt hp)).1
                      rw [show i + (b - i) = b by omega] at h1
                      rw [hi.σ]; exact h1
                    · have hd : id < (σs b).length := by
                        have hev : peval fr x = some (.ptr id off) := by
                          rw [ev x (by simp [Op.operands])]; exact had
                        obtain ⟨_, _, hd, _⟩ := (eval_VR hi.fr hev).inv_ptr
                        rw [← hi.σ]; exact hi.sr.dom id hd
                      have h1 := (ht.looses hr hfeet ho rfl hfid (m := b) (i - b) (by omega) (fun k ok h1 h2 hok hwk => by
                        have hk : ¬ Lt listed k := fun hk => absurd ((hi.front k ok hok hwk).1 hk) (by omega)
                        unfold loose
                        simp only [Bool.and_eq_true, Bool.not_eq_true', ]
                        refine ⟨?_, ?_⟩
                        · cases hx : ((masks ops.toList []).getD i 0).testBit k with
                          | false => rfl
                          | true => exact absurd (mask_ready hr.down hi.closed ho hready hx) hk
                        · cases hx : ((masks ops.toList []).getD k 0).testBit i with
                          | false => rfl
                          | true => exact absurd (mask_lt hr.down k i hx) (by omega)) hd).1
                      rw [show b + (i - b) = i by omega] at h1
                      rw [hi.σ]; exact h1.symm
                  rw [pload_congr hp hkeep]
                · simp at hrun
              · simp at hrun
            · have hS : shapeSlice o.op = true := by simpa [hL, hst] using hsh
              obtain ⟨hv0, hp0, _⟩ := pval_none_load (P := P) (fr := fr) (.inr (.inl hS))
              refine gen fl b c.σ (Nat.le_refl _) hXc ?_ (fun c' _ e => e.trans hi.σ) hi.bN (frontN hW)
              unfold pstep pop
              rw [hp0, hv0]
              simp only
              rw [pmem_congr _ ev]
              obtain ⟨dst, op, ty, pos, after, guard⟩ := o
              obtain ⟨t, ln, parts, rfl⟩ : ∃ t ln parts, op = .buildSlice t ln parts := by cases op <;> simp [shapeSlice] at hS ⊢
              simp only [pmem] at hrun ⊢
              split at hrun
              · rename_i qs hqs
                split at hrun
                · rename_i p hp
                  simp only [Option.some.injEq, Prod.mk.injEq] at hrun
                  obtain ⟨rfl, _⟩ := hrun
                  rfl
                · simp at hrun
              · simp at hrun

theorem drawn_done (hr : RegOk ops (masks ops.toList [])) (ht : Trs P call fl ops (masks ops.toList []) c0.σ.length frs σs ps ft) {listed : Array Bool} {a : Act} {c : Cx} {fr : List PD} {b : Nat} (hi : Inv P fl ops c0 (frs 0) σs ps df listed a c fr b)
    (hnil : Region.ready .any ops listed = []) : c.σ = σs ops.size ∧ fr = frs ops.size := by
  have hall : ∀ i, i < ops.size → Lt listed i := by
    intro i
    induction i using Nat.strongRecOn with
    | _ i ih =>
      intro hlt
      have ho : ops[i]? = some ops[i] := Array.getElem?_eq_getElem hlt
      have hls : i < listed.size := by rw [hi.size]; exact hlt
      cases hb : listed[i] with
      | true => unfold Lt; rw [Array.getElem?_eq_getElem hls, hb]
      | false =>
        have : i ∈ Region.ready .any ops listed := mem_ready.2 ⟨by rw [Array.getD_eq_getD_getElem?, Array.getElem?_eq_getElem hls, hb]; rfl, _, ho, fun e he hbd => by
          have hd := hr.down i _ ho e he hbd
          have := ih e.on hd (by omega)
          unfold Lt at this
          rw [Array.getD_eq_getD_getElem?, this]; rfl⟩
        rw [hnil] at this; cases this
  constructor
  · rw [hi.σ]
    have := ht.stills hr (i := b) (ops.size - b) (by have := hi.bN; omega) fun j oj h1 h2 hoj => by
      cases hwj : shapeW oj.op with
      | false => rfl
      | true => exact absurd ((hi.front j oj hoj hwj).1 (hall j (lt_of_get hoj))) (by omega)
    rw [show b + (ops.size - b) = ops.size by have := hi.bN; omega] at this
    exact this.symm
  · exact hi.slots.same hr (ht.slots hr ops.size (Nat.le_refl _)) fun j o hoj => ⟨fun _ => lt_of_get hoj, fun h => hall j h⟩

theorem drawn_all (hF : Open F P) (hc : Ok F P call) (hr : RegOk ops (masks ops.toList [])) (ht : Trs P call fl ops (masks ops.toList []) c0.σ.length frs σs ps ft) (hfeet : Feet ops (masks ops.toList []) ft)
    (hs0 : Sr c0) (hX0 : Xw fl c0) (hQ : ∀ c' a', c'.σ = σs ops.size → Sr c' → Nx fl c0 c' → FR c' a' (frs ops.size) → a'.defers = df → Q .normal a' c'.w) :
    ∀ (fuel : Nat) (listed : Array Bool) (a : Act) (c : Cx) (fr : List PD) (b : Nat), Inv P fl ops c0 (frs 0) σs ps df listed a c fr b → listed.toList.countP (· == false) ≤ fuel → wpAnyIn F n P .any ops Q fuel listed a c.w := by
  have done : ∀ (listed : Array Bool) (a : Act) (c : Cx) (fr : List PD) (b : Nat), Inv P fl ops c0 (frs 0) σs ps df listed a c fr b → Region.ready .any ops listed = [] → Q .normal a c.w := by
    intro listed a c fr b hi hnil
    obtain ⟨e1, e2⟩ := drawn_done hr ht hi hnil
    exact hQ c a e1 hi.sr hi.nx (e2 ▸ hi.fr) hi.df
  intro fuel
  induction fuel with
  | zero =>
    intro listed a c fr b hi hn
    have h0 : ∀ x ∈ listed.toList, ¬ (x == false) = true := List.countP_eq_zero.1 (Nat.le_zero.1 hn)
    have hnil : Region.ready .any ops listed = [] := by
      apply List.eq_nil_iff_forall_not_mem.2
      intro i hm
      obtain ⟨hun, o, ho, _⟩ := mem_ready.1 hm
      have hls : i < listed.size := by rw [hi.size]; exact lt_of_get ho
      rw [Array.getD_eq_getD_getElem?, Array.getElem?_eq_getElem hls] at hun
      exact h0 _ (Array.mem_toList_iff.2 (Array.getElem_mem hls)) (by simpa using hun)
    exact ⟨hnil, done listed a c fr b hi hnil⟩
  | succ fuel ih =>
    intro listed a c fr b hi hn
    refine ⟨done listed a c fr b hi, fun i hm => drawn_op hF hc hr ht hfeet hs0 hX0 hi hm fun a' c' fr' b' hi' => ih _ a' c' fr' b' hi' ?_⟩
    obtain ⟨hun, o, ho, _⟩ := mem_ready.1 hm
    have hls : i < listed.size := by rw [hi.size]; exact lt_of_get ho
    have hli : i < listed.toList.length := by simpa using hls
    rw [Array.getD_eq_getD_getElem?, Array.getElem?_eq_getElem hls] at hun
    simp only [Option.getD_some] at hun
    rw [Array.toList_setIfInBounds, List.countP_set hli]
    have hpos : 0 < listed.toList.countP (· == false) := List.countP_pos_iff.2 ⟨listed[i], Array.mem_toList_iff.2 (Array.getElem_mem hls), by simp [hun]⟩
    have e : listed.toList[i] = false := by simpa using hun
    rw [e]
    simp only [beq_self_eq_true, if_true, show (true == false) = false from rfl, Bool.false_eq_true, if_false]
    omega

/-- **A region that draws its order.** -/
theorem pdraw_ok (hF : Open F P) (hc : Ok F P call) {a : Act} {fr fr' : List PD} {σ' : List SObj} (hs : Sr c0) (hX : Xw fl c0) (hf : FR c0 a fr) (h : pdraw P call fl ops fr c0.σ = some (fr', σ'))
    (hQ : ∀ c' a', c'.σ = σ' → Sr c' → Nx fl c0 c' → FR c' a' fr' → a'.defers = a.defers → Q .normal a' c'.w) : wpAnyIn F n P .any ops Q ops.size (Array.replicate ops.size false) a c0.w := by
  unfold pdraw at h
  simp only at h
  split at h
  · rename_i hok
    have hr := regOk_spec hok
    split at h
    · rename_i hst hho
      split at h
      · rename_i tr fr1 σ1 hops
        split at h
        · rename_i hfo
          simp only [Option.some.injEq, Prod.mk.injEq] at h
          obtain ⟨rfl, rfl⟩ := h
          obtain ⟨frs, σs, ps, ft, e1, e2, e3, e4, htr, hft⟩ := trace_exists (k0 := c0.σ.length) ops.toList 0 _ _ _ _ _ _ (by simp) (by simp [kAt]) hops
          simp only [Nat.zero_add, Array.length_toList] at e3 e4 hft
          have ht : Trs P call fl ops (masks ops.toList []) c0.σ.length frs σs ps ft := fun i o ho => htr i o (Nat.zero_le _) ho
          have hfeet : Feet ops (masks ops.toList []) ft := by
            intro k i ok oi hok' hoi hsk hli hloose x y hx hy
            simp only [footsOk, List.all_eq_true, List.mem_range] at hfo
            have h1 := hfo k (by simpa using lt_of_get hok')
            rw [isAt_iff hok', hsk] at h1
            simp only [Bool.not_true, Bool.false_or, List.all_eq_true, List.mem_range] at h1
            have h2 := h1 i (by simpa using lt_of_get hoi)
            rw [isAt_iff hoi, hli, hloose] at h2
            have hxi := hft i (Nat.zero_le _) (lt_of_get hoi)
            have hyk := hft k (Nat.zero_le _) (lt_of_get hok')
            simp only [Nat.sub_zero] at hxi hyk
            rw [← hxi, ← hyk, hx, hy] at h2
            simpa using h2
          have hs' := hs.ahead hst
          have hX' : Xw fl c0 := hX
          refine drawn_all (df := a.defers) hF hc hr ht hfeet hs hX (fun c' a' h1 h2 h3 h4 h5 => hQ c' a' (h1.trans e4) h2 h3 (e3 ▸ h4) h5) ops.size _ a (c0.ahead hst) fr 0 ?_ ?_
          · refine ⟨by simp, ?_, hs', Nx.ahead hs hst, e2.symm, Nat.zero_le _, ?_, ?_, ?_, FR.mono (Nx.ahead (fl := 0) hs hst) hf, rfl⟩
            · intro i o hi
              unfold Lt at hi
              rw [Array.getElem?_replicate] at hi
              split at hi <;> simp at hi
            · intro j o _ _
              unfold Lt
              rw [Array.getElem?_replicate]
              split <;> simp
            · intro i o t ho hot _
              obtain ⟨z, h1, h2, h3⟩ := phoist_get hho i o t (by simpa using ho) hot
              refine ⟨fun hd => absurd (hs.dom _ hd) (by omega), z, h1, h2, ?_⟩
              show (c0.σ ++ hst)[_]? = _
              rw [List.getElem?_append_right (by omega), show c0.σ.length + kAt ops.toList i - c0.σ.length = kAt ops.toList i by omega]
              exact h3
            · rw [← e1]
              refine .start fun j hj => ?_
              unfold Lt at hj
              rw [Array.getElem?_replicate] at hj
              split at hj <;> simp at hj
          · exact Nat.le_trans List.countP_le_length (by simp)
        · simp at h
      · simp at h
    · simp at h
  · simp at h

end
end Go.Kz
