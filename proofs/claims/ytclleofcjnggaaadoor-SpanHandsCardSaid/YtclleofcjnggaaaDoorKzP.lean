/-
  Drawn regions: what an operation looks at; a box laid ahead comes to stand.
-/
import Derived.Test.YtclleofcjnggaaaDoorKzO
set_option linter.all false
namespace Go.Kz
open Go.RowKit

/-! ### what an operation looks at -/
section
variable {P : Program} {fr fr' : List PD}

theorem pevals_congr : ∀ (xs : List Operand), (∀ x ∈ xs, peval fr x = peval fr' x) → pevals fr xs = pevals fr' xs
  | [], _ => rfl
  | x :: xs, h => by
    unfold pevals
    rw [h x (by simp), pevals_congr xs fun y hy => h y (by simp [hy])]

theorem pevalParts_congr : ∀ (xs : List (Nat × Operand)), (∀ x ∈ xs.map (·.2), peval fr x = peval fr' x) → pevalParts fr xs = pevalParts fr' xs
  | [], _ => rfl
  | (i, x) :: xs, h => by
    unfold pevalParts
    rw [h x (by simp), pevalParts_congr xs fun y hy => h y (by simp only [List.map_cons, List.mem_cons]; exact .inr hy)]

theorem pval_congr (op : Op) (h : ∀ x ∈ op.operands, peval fr x = peval fr' x) : pval P fr op = pval P fr' op := by
  cases op <;> simp only [Op.operands] at h <;> simp only [pval]
  case move x => exact h x (by simp)
  case assign x => exact h x (by simp)
  case pick a b c => rw [h a (by simp), h b (by simp), h c (by simp)]
  case binOp _ _ a b _ => rw [h a (by simp), h b (by simp)]
  case unOp _ _ a => rw [h a (by simp)]
  case convert _ _ a => rw [h a (by simp)]
  case makeFunc fn first captured =>
    cases fn <;> simp only
    rw [pevals_congr captured.toList fun x hx => h x (by simp only [Array.mem_append]; exact .inr (by simpa using hx))]
  case slice _ x lo hi mx =>
    have e : peval fr x = peval fr' x := h x (by simp)
    have e1 : lo.map (peval fr) = lo.map (peval fr') := by cases lo with | none => rfl | some y => simp only [Option.map_some]; rw [h y (by simp)]
    have e2 : hi.map (peval fr) = hi.map (peval fr') := by cases hi with | none => rfl | some y => simp only [Option.map_some]; rw [h y (by simp)]
    have e3 : mx.map (peval fr) = mx.map (peval fr') := by cases mx with | none => rfl | some y => simp only [Option.map_some]; rw [h y (by simp)]
    rw [e, e1, e2, e3]
  case fieldAddr _ a _ => rw [h a (by simp)]
  case field _ a _ => rw [h a (by simp)]
  case indexAddr _ a b => rw [h a (by simp), h b (by simp)]
  case index _ a b => rw [h a (by simp), h b (by simp)]
  case extract a _ => rw [h a (by simp)]
  case nilCheck a => rw [h a (by simp)]
  case build _ ps => rw [pevalParts_congr ps.toList fun x hx => h x (by simpa using hx)]
  case call c =>
    obtain ⟨callee, args, ts⟩ := c
    cases callee <;> simp only
    rw [pevals_congr args.toList fun x hx => h x (by simp [Call.operands]; exact Array.mem_toList_iff.1 hx)]

theorem pmem_congr {fl : Nat} {σ : List SObj} (op : Op) (h : ∀ x ∈ op.operands, peval fr x = peval fr' x) : pmem P fl fr σ op = pmem P fl fr' σ op := by
  cases op <;> simp only [Op.operands] at h <;> simp only [pmem]
  case load _ a => rw [h a (by simp)]
  case store _ a b => rw [h a (by simp), h b (by simp)]
  case box _ a => rw [h a (by simp)]
  case buildSlice _ _ ps => rw [pevalParts_congr ps.toList fun x hx => h x (by simpa using hx)]
  case call c =>
    obtain ⟨callee, args, ts⟩ := c
    cases callee <;> (try simp only)
    rename_i b
    cases b <;> (try simp only)
    rw [pevals_congr args.toList fun x hx => h x (by simp [Call.operands]; exact Array.mem_toList_iff.1 hx)]

theorem pcallee_congr (op : Op) (h : ∀ x ∈ op.operands, peval fr x = peval fr' x) : pcallee fr op = pcallee fr' op := by
  cases op <;> simp only [Op.operands] at h <;> simp only [pcallee]
  case call c =>
    obtain ⟨callee, args, ts⟩ := c
    cases callee <;> simp only
    rename_i g
    rw [pevals_congr args.toList fun x hx => h x (by simp [Call.operands]; exact .inr (Array.mem_toList_iff.1 hx)), h g (by simp [Call.operands])]

theorem pstep_congr {call : PCall} {fl : Nat} {σ : List SObj} (op : Op) (h : ∀ x ∈ op.operands, peval fr x = peval fr' x) : pstep P call fl fr σ op = pstep P call fl fr' σ op := by
  unfold pstep pop
  rw [pcallee_congr op h, pval_congr op h, pmem_congr op h]
end

/-! ### a box laid ahead comes to stand -/
section
variable {c : Cx} {fl : Nat}

def Cx.plug (c : Cx) (w : World) (id : Nat) (v : Value) : Cx :=
  { w := w, ρ := fun i => if i = id then v else c.ρ i, σ := c.σ, D := fun i => c.D i ∨ i = id, X := c.X }

theorem plug_ρ {w : World} {v : Value} {id i : Nat} (h : ¬ c.D id) (hd : c.D i) : (c.plug w id v).ρ i = c.ρ i := by
  have : i ≠ id := by rintro rfl; exact h hd
  simp [Cx.plug, this]
theorem plug_new {w : World} {v : Value} {id : Nat} : (c.plug w id v).ρ id = v := by simp [Cx.plug]

theorem Nv.plug {w' : World} {v : Value} {id : Nat} {p : PD} (hn : ¬ c.D id) (ho : c.σ[id]? = some (.box p)) (h : c.w.grownBy w' none) (hv : ∀ b, blk v = some b → c.w.heap.size ≤ b) : Nv c (c.plug w' id v) where
  cell := fun a u ha hu => by
    have hlt := cell_lt hu
    refine ⟨⟨ha.1, fun i o' hd ho' => ?_⟩, by show w'.cell? a = some u; rw [World.cell?_of_block (h.block a.block hlt (by simp))]; exact hu⟩
    rcases hd with hd | rfl
    · rw [plug_ρ hn hd]; exact ha.2 i o' hd ho'
    · rw [plug_new]
      have : o' = .box p := by
        have : c.σ[i]? = some o' := ho'
        rw [ho] at this; simpa using this.symm
      subst this
      intro b hb e
      have := hv b hb
      omega
  dom := fun _ h => .inl h
  rbox := fun i p hd hp => ⟨plug_ρ hn hd, p, hp⟩
  rkeep := fun i hd hk => ⟨plug_ρ hn hd, hk⟩
  rown := fun i e s n hd hk => ⟨n, hk, Nat.le_refl _, fun _ => plug_ρ hn hd⟩

theorem Sr.plug {w' : World} {id b : Nat} {p : PD} {cs : Array Value} {T : TypeId} (hs : Sr c) (hn : ¬ c.D id) (ho : c.σ[id]? = some (.box p)) (h : c.w.grownBy w' none) (hb : c.w.heap.size ≤ b)
    (hw : w'.heap[b]? = some (.cells cs T (0, 0))) (hv : VRs c cs.toList p.cells) (h1 : ∀ v ∈ cs.toList, v.oneCell' = true) : Sr (c.plug w' id (.pointer (some ⟨b, 0, none⟩))) := by
  have nv : Nv c (c.plug w' id (.pointer (some ⟨b, 0, none⟩))) := Nv.plug hn ho h (fun b' hb' => by simp [blk] at hb'; omega)
  refine ⟨?_, ?_, ?_, ?_, ?_, ?_, ?_, ?_, hs.glob.monoV nv⟩
  · intro i q hd hp
    rcases hd with hd | rfl
    · obtain ⟨b', cs', T', e1, e2, e3, e4⟩ := hs.box i q hd hp
      exact ⟨b', cs', T', (plug_ρ hn hd).trans e1, by show w'.heap[b']? = _; rw [h.block b' (heap_lt e2) (by simp)]; exact e2, e3.monoV nv, e4⟩
    · have : q = p := by
        have h' : c.σ[i]? = some (.box q) := hp
        rw [ho] at h'; simpa using h'.symm
      subst this
      exact ⟨b, cs, T, plug_new, hw, hv.monoV nv, h1⟩
  · intro i e size n hd hp
    rcases hd with hd | rfl
    · obtain ⟨xs, hx⟩ := hs.own i e size n hd hp
      rw [plug_ρ hn hd]
      exact ⟨xs, own_kept hx (fun g hg => h.block g (hs.lt i g hd hg) (by simp))⟩
    · have h' : c.σ[i]? = some (.own e size n) := hp
      rw [ho] at h'; simp at h'
  · intro i hd hm
    rcases hd with hd | rfl
    · obtain ⟨b', e1, e2⟩ := hs.mark i hd hm
      exact ⟨b', (plug_ρ hn hd).trans e1, by show w'.heap[b']? = _; rw [h.block b' (heap_lt e2) (by simp)]; exact e2⟩
    · have h' : c.σ[i]? = some .mark := hm
      rw [ho] at h'; simp at h'
  · intro i st fr ps as bd hd hm
    rcases hd with hd | rfl
    · obtain ⟨b', r, e1, e2, e3, e4, e5, e6, e7⟩ := hs.loop i st fr ps as bd hd hm
      exact ⟨b', r, (plug_ρ hn hd).trans e1, by show w'.heap[b']? = _; rw [h.block b' (heap_lt e2) (by simp)]; exact e2, e3, e4, e5, e6.monoV nv, e7⟩
    · have h' : c.σ[i]? = some (.loop st fr ps as bd) := hm
      rw [ho] at h'; simp at h'
  · intro i j b' hd hd' hne hb1 hb2
    rcases hd with hd | rfl
    · rw [plug_ρ hn hd] at hb1
      rcases hd' with hd' | rfl
      · rw [plug_ρ hn hd'] at hb2
        exact hs.inj i j b' hd hd' hne hb1 hb2
      · rw [plug_new] at hb2
        simp [blk] at hb2
        have := hs.lt i b' hd hb1
        omega
    · rw [plug_new] at hb1
      simp [blk] at hb1
      rcases hd' with hd' | rfl
      · rw [plug_ρ hn hd'] at hb2
        have := hs.lt j b' hd' hb2
        omega
      · exact hne rfl
  · intro i b' hd hb1
    rcases hd with hd | rfl
    · rw [plug_ρ hn hd] at hb1; exact Nat.lt_of_lt_of_le (hs.lt i b' hd hb1) h.size
    · rw [plug_new] at hb1
      simp [blk] at hb1; subst hb1
      exact heap_lt hw
  · intro i hd
    rcases hd with hd | rfl
    · exact hs.dom i hd
    · exact (List.getElem?_eq_some_iff.1 ho).1
  · exact fun a ha => hs.fresh a (Nat.le_trans h.size ha)

theorem Nx.plug {c0 : Cx} {w' : World} {v : Value} {id : Nat} {p : PD} (n0 : Nx fl c0 c) (hn : ¬ c.D id) (ho : c.σ[id]? = some (.box p)) (h : c.w.grownBy w' none) (hv : ∀ b, blk v = some b → c.w.heap.size ≤ b)
    (hid : c0.σ.length ≤ id) : Nx fl c0 (c.plug w' id v) where
  X := n0.X
  os := h.os.trans n0.os
  tape := h.tape.trans n0.tape
  output := h.output.trans n0.output
  size := Nat.le_trans n0.size h.size
  len := n0.len
  cell := fun a u ha hu => let ⟨q1, q2⟩ := n0.cell a u ha hu; (Nv.plug hn ho h hv).cell a u q1 q2
  dom := fun i hd => .inl (n0.dom i hd)
  new := fun i hd => by rcases hd with hd | rfl; exact n0.new i hd; exact .inr hid
  rbox := fun i q hd hq => by
    obtain ⟨e, q', hq'⟩ := n0.rbox i q hd hq
    exact ⟨(plug_ρ hn (n0.dom i hd)).trans e, q', hq'⟩
  rkeep := fun i hd hk => by
    obtain ⟨e, hk'⟩ := n0.rkeep i hd hk
    exact ⟨(plug_ρ hn (n0.dom i hd)).trans e, hk'⟩
  rown := fun i e s n hd hk => by
    obtain ⟨n', h1, h2, h3⟩ := n0.rown i e s n hd hk
    exact ⟨n', h1, h2, fun hh => (plug_ρ hn (n0.dom i hd)).trans (h3 hh)⟩
  back := fun i b hd hb hlt => by
    rcases hd with hd | rfl
    · rw [plug_ρ hn hd] at hb; exact n0.back i b hd hb hlt
    · rw [plug_new] at hb
      have := hv b hb
      have := n0.size
      omega
  frame := fun k hk hx => (h.block k (Nat.lt_of_lt_of_le hk n0.size) (by simp)).trans (n0.frame k hk hx)
  ro := n0.ro
  hole := n0.hole

/-- More of the store, of which nothing stands yet. -/
def Cx.ahead (c : Cx) (l : List SObj) : Cx := { c with σ := c.σ ++ l }

theorem ahead_σ {l : List SObj} {id : Nat} (h : id < c.σ.length) : (c.ahead l).σ[id]? = c.σ[id]? := by simp [Cx.ahead, List.getElem?_append_left h]

theorem Nx.ahead (hs : Sr c) (l : List SObj) : Nx fl c (c.ahead l) where
  X := rfl
  os := rfl
  tape := rfl
  output := rfl
  size := Nat.le_refl _
  len := by simp [Cx.ahead]
  cell := fun a v ha hv => ⟨⟨ha.1, fun id o hd ho => ha.2 id o hd (by rw [ahead_σ (hs.dom id hd)] at ho; exact ho)⟩, hv⟩
  dom := fun _ h => h
  new := fun _ h => .inl h
  rbox := fun id p hd h => ⟨rfl, p, by rw [ahead_σ (hs.dom id hd)]; exact h⟩
  rkeep := fun id hd h => ⟨rfl, by rw [ahead_σ (hs.dom id hd)]; exact h⟩
  rown := fun id e s n hd h => ⟨n, by rw [ahead_σ (hs.dom id hd)]; exact h, Nat.le_refl _, fun _ => rfl⟩
  back := fun _ _ h h' _ => ⟨h, h'⟩
  frame := fun _ _ _ => rfl
  ro := fun id _ h => ahead_σ h
  hole := fun id h _ => ahead_σ h

theorem Sr.ahead (hs : Sr c) (l : List SObj) : Sr (c.ahead l) where
  box := fun id p hd hp => by
    rw [ahead_σ (hs.dom id hd)] at hp
    obtain ⟨b, cs, T, e1, e2, e3, e4⟩ := hs.box id p hd hp
    exact ⟨b, cs, T, e1, e2, e3.mono (Nx.ahead (fl := 0) hs l), e4⟩
  own := fun id e size n hd ho => by rw [ahead_σ (hs.dom id hd)] at ho; exact hs.own id e size n hd ho
  mark := fun id hd hm => by rw [ahead_σ (hs.dom id hd)] at hm; exact hs.mark id hd hm
  loop := fun id st fr ps as bd hd hl => by
    rw [ahead_σ (hs.dom id hd)] at hl
    obtain ⟨b, r, e1, e2, e3, e4, e5, e6, e7⟩ := hs.loop id st fr ps as bd hd hl
    exact ⟨b, r, e1, e2, e3, e4, e5, e6.mono (Nx.ahead (fl := 0) hs l), e7⟩
  inj := hs.inj
  lt := hs.lt
  dom := fun id hd => by have := hs.dom id hd; simp [Cx.ahead]; omega
  fresh := hs.fresh
  glob := hs.glob.mono (Nx.ahead (fl := 0) hs l)
end
end Go.Kz
