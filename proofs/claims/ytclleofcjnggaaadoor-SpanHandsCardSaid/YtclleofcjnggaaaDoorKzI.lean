/-
  How the store and the world move on together.
-/
import Derived.Test.YtclleofcjnggaaaDoorKzH
import Derived.ArgAppend
import Derived.Deep.DeepAppendRoom
import Derived.RangeFuncRecord
set_option linter.all false
namespace Go.Kz
open Go.RowKit

section
variable {c : Cx} {fl : Nat}

theorem heap_lt {w : World} {b : Nat} {o : Obj} (h : w.heap[b]? = some o) : b < w.heap.size := (Array.getElem?_eq_some_iff.1 h).1

theorem cell_lt {w : World} {a : Addr} {v : Value} (h : w.cell? a = some v) : a.block < w.heap.size := World.block_lt_of_cell? w a h

/-- A world that differs in what no one asks for (a draw), or in new blocks alone. -/
def Cx.at (c : Cx) (w : World) : Cx := { c with w := w }

theorem Nx.grow {w' : World} (_hs : Sr c) (h : c.w.grownBy w' none) : Nx fl c (c.at w') where
  X := rfl
  os := h.os
  tape := h.tape
  output := h.output
  size := h.size
  len := Nat.le_refl _
  cell := fun a v ha hv => ⟨ha, by
    show w'.cell? a = some v
    rw [World.cell?_of_block (h.block a.block (cell_lt hv) (by simp))]; exact hv⟩
  dom := fun _ h => h
  new := fun _ h => .inl h
  rbox := fun _ p _ h => ⟨rfl, p, h⟩
  rkeep := fun _ _ h => ⟨rfl, h⟩
  rown := fun _ _ _ n _ h => ⟨n, h, Nat.le_refl _, fun _ => rfl⟩
  back := fun _ _ h h' _ => ⟨h, h'⟩
  frame := fun k hk _ => h.block k hk (by simp)
  ro := fun _ _ _ => rfl
  hole := fun _ _ _ => rfl

theorem VRs.mono' {c c' : Cx} (h : Nx fl c c') {cs : List Value} {ds : List PD} (hv : VRs c cs ds) : VRs c' cs ds := hv.mono h

theorem own_kept {w w' : World} {e : TypeId} {size n : Nat} {v : Value} {xs : List Value} (h : w.ownsRow 0 e size v n xs) (hb : ∀ g, blk v = some g → w'.heap[g]? = w.heap[g]?) : w'.ownsRow 0 e size v n xs := by
  refine ⟨h.1, ?_⟩
  rcases h.2 with hn | ⟨g, cap, cur, rfl, hb0, hg, rest⟩
  · exact .inl hn
  · exact .inr ⟨g, cap, cur, rfl, hb0, by rw [hb g rfl]; exact hg, rest⟩

/-- What is kept of a store when a world moves on and the store does not. -/
theorem Sr.grow {w' : World} (hs : Sr c) (h : c.w.grownBy w' none) : Sr (c.at w') where
  box := fun id p hd hp => by
    obtain ⟨b, cs, T, e1, e2, e3, e4⟩ := hs.box id p hd hp
    exact ⟨b, cs, T, e1, by show w'.heap[b]? = _; rw [h.block b (heap_lt e2) (by simp)]; exact e2, e3.mono (Nx.grow (fl := 0) hs h), e4⟩
  own := fun id e size n hd ho => by
    obtain ⟨xs, hx⟩ := hs.own id e size n hd ho
    exact ⟨xs, own_kept hx (fun g hg => h.block g (hs.lt id g hd hg) (by simp))⟩
  mark := fun id hd hm => by
    obtain ⟨b, e1, e2⟩ := hs.mark id hd hm
    exact ⟨b, e1, by show w'.heap[b]? = _; rw [h.block b (heap_lt e2) (by simp)]; exact e2⟩
  loop := fun id st fr ps as bd hd hl => by
    obtain ⟨b, r, e1, e2, e3, e4, e5, e6, e7⟩ := hs.loop id st fr ps as bd hd hl
    exact ⟨b, r, e1, by show w'.heap[b]? = _; rw [h.block b (heap_lt e2) (by simp)]; exact e2, e3, e4, e5, e6.mono (Nx.grow (fl := 0) hs h), e7⟩
  inj := hs.inj
  lt := fun id b hd hb => Nat.lt_of_lt_of_le (hs.lt id b hd hb) h.size
  dom := hs.dom
  fresh := fun a ha => hs.fresh a (Nat.le_trans h.size ha)
  glob := hs.glob.mono (Nx.grow (fl := 0) hs h)

theorem grownBy_drew (w : World) : w.grownBy w.drew none := ⟨rfl, rfl, rfl, Nat.le_refl _, fun _ _ _ => rfl⟩

/-- A new object of the store in a new place. -/
def Cx.push (c : Cx) (w : World) (v : Value) (o : SObj) : Cx :=
  { w := w, ρ := fun i => if i = c.σ.length then v else c.ρ i, σ := c.σ ++ [o], D := fun i => c.D i ∨ i = c.σ.length, X := c.X }

theorem push_ne {id : Nat} (hs : Sr c) (hd : c.D id) : id ≠ c.σ.length := Nat.ne_of_lt (hs.dom id hd)
theorem push_ρ {w : World} {v : Value} {o : SObj} {id : Nat} (hs : Sr c) (hd : c.D id) : (c.push w v o).ρ id = c.ρ id := by simp [Cx.push, push_ne hs hd]
theorem push_σ {w : World} {v : Value} {o : SObj} {id : Nat} (hs : Sr c) (hd : c.D id) : (c.push w v o).σ[id]? = c.σ[id]? := by
  simp [Cx.push, List.getElem?_append_left (hs.dom id hd)]
theorem push_new {w : World} {v : Value} {o : SObj} : (c.push w v o).σ[c.σ.length]? = some o ∧ (c.push w v o).ρ c.σ.length = v ∧ (c.push w v o).D c.σ.length := by simp [Cx.push]

theorem Nx.push {w' : World} {v : Value} {o : SObj} (hs : Sr c) (h : c.w.grownBy w' none) (hv : ∀ b, blk v = some b → c.w.heap.size ≤ b) : Nx fl c (c.push w' v o) where
  X := rfl
  os := h.os
  tape := h.tape
  output := h.output
  size := h.size
  len := by simp [Cx.push]
  cell := fun a u ha hu => by
    have hlt := cell_lt hu
    refine ⟨⟨ha.1, fun id o' hd ho => ?_⟩, by show w'.cell? a = some u; rw [World.cell?_of_block (h.block a.block hlt (by simp))]; exact hu⟩
    rcases hd with hd | rfl
    · rw [push_σ hs hd] at ho
      rw [push_ρ hs hd]
      exact ha.2 id o' hd ho
    · obtain ⟨e1, e2, _⟩ := push_new (c := c) (w := w') (v := v) (o := o)
      rw [e1] at ho; rw [e2]
      simp only [Option.some.injEq] at ho; subst ho
      cases o with
      | none => trivial
      | box p => intro b hb e; have := hv b hb; omega
      | own e size n => intro b hb e; have := hv b hb; omega
      | mark => trivial
      | loop st fr ps as bd => trivial
  dom := fun _ h => .inl h
  new := fun id hd => by rcases hd with hd | rfl; exact .inl hd; exact .inr (Nat.le_refl _)
  rbox := fun id p hd hp => ⟨push_ρ hs hd, p, by rw [push_σ hs hd]; exact hp⟩
  rkeep := fun id hd hn => ⟨push_ρ hs hd, by rw [push_σ hs hd]; exact hn⟩
  rown := fun id e s n hd ho => ⟨n, by rw [push_σ hs hd]; exact ho, Nat.le_refl _, fun _ => push_ρ hs hd⟩
  back := fun id b hd hb hlt => by
    rcases hd with hd | rfl
    · rw [push_ρ hs hd] at hb; exact ⟨hd, hb⟩
    · rw [(push_new (c := c) (w := w') (v := v) (o := o)).2.1] at hb
      have := hv b hb; omega
  frame := fun k hk _ => h.block k hk (by simp)
  ro := fun id _ hl => by simp [Cx.push, List.getElem?_append_left hl]
  hole := fun id hl _ => by simp [Cx.push, List.getElem?_append_left hl]

theorem Sr.push {w' : World} {v : Value} {o : SObj} (hs : Sr c) (h : c.w.grownBy w' none) (hv : ∀ b, blk v = some b → c.w.heap.size ≤ b ∧ b < w'.heap.size)
    (ho : match o with
      | .none => True
      | .box p => ∃ b cs T, v = .pointer (some ⟨b, 0, none⟩) ∧ w'.heap[b]? = some (.cells cs T (0, 0)) ∧ VRs c cs.toList p.cells ∧ (∀ v ∈ cs.toList, v.oneCell' = true)
      | .own e size n => ∃ xs, w'.ownsRow 0 e size v n xs
      | .mark => ∃ b, v = .pointer (some ⟨b, 0, none⟩) ∧ w'.heap[b]? = some (.deferred (some []))
      | .loop st fr ps assign body => ∃ b r, v = .pointer (some ⟨b, 0, none⟩) ∧ w'.heap[b]? = some (.loop r) ∧ r.params = ps.toArray ∧ r.assign = assign ∧ r.body = body ∧ VRs c r.tmps.toList fr ∧ st.fits r) : Sr (c.push w' v o) := by
  have nx : Nx 0 c (c.push w' v o) := Nx.push hs h (fun b hb => (hv b hb).1)
  refine ⟨?_, ?_, ?_, ?_, ?_, ?_, ?_, ?_, hs.glob.mono nx⟩
  · intro id p hd hp
    rcases hd with hd | rfl
    · rw [push_σ hs hd] at hp
      obtain ⟨b, cs, T, e1, e2, e3, e4⟩ := hs.box id p hd hp
      exact ⟨b, cs, T, (push_ρ hs hd).trans e1, by show w'.heap[b]? = _; rw [h.block b (heap_lt e2) (by simp)]; exact e2, e3.mono nx, e4⟩
    · rw [push_new.1] at hp
      simp only [Option.some.injEq] at hp; subst hp
      obtain ⟨b, cs, T, e1, e2, e3, e4⟩ := ho
      exact ⟨b, cs, T, push_new.2.1.trans e1, e2, e3.mono nx, e4⟩
  · intro id e size n hd hp
    rcases hd with hd | rfl
    · rw [push_σ hs hd] at hp
      obtain ⟨xs, hx⟩ := hs.own id e size n hd hp
      rw [push_ρ hs hd]
      exact ⟨xs, own_kept hx (fun g hg => h.block g (hs.lt id g hd hg) (by simp))⟩
    · rw [push_new.1] at hp
      simp only [Option.some.injEq] at hp; subst hp
      rw [push_new.2.1]
      exact ho
  · intro id hd hm
    rcases hd with hd | rfl
    · rw [push_σ hs hd] at hm
      obtain ⟨b, e1, e2⟩ := hs.mark id hd hm
      exact ⟨b, (push_ρ hs hd).trans e1, by show w'.heap[b]? = _; rw [h.block b (heap_lt e2) (by simp)]; exact e2⟩
    · rw [push_new.1] at hm
      simp only [Option.some.injEq] at hm; subst hm
      obtain ⟨b, e1, e2⟩ := ho
      exact ⟨b, push_new.2.1.trans e1, e2⟩
  · intro id st fr ps as bd hd hm
    rcases hd with hd | rfl
    · rw [push_σ hs hd] at hm
      obtain ⟨b, r, e1, e2, e3, e4, e5, e6, e7⟩ := hs.loop id st fr ps as bd hd hm
      exact ⟨b, r, (push_ρ hs hd).trans e1, by show w'.heap[b]? = _; rw [h.block b (heap_lt e2) (by simp)]; exact e2, e3, e4, e5, e6.mono nx, e7⟩
    · rw [push_new.1] at hm
      simp only [Option.some.injEq] at hm; subst hm
      obtain ⟨b, r, e1, e2, e3, e4, e5, e6, e7⟩ := ho
      exact ⟨b, r, push_new.2.1.trans e1, e2, e3, e4, e5, e6.mono nx, e7⟩
  · intro id id' b hd hd' hne hb hb'
    rcases hd with hd | rfl
    · rw [push_ρ hs hd] at hb
      rcases hd' with hd' | rfl
      · rw [push_ρ hs hd'] at hb'
        exact hs.inj id id' b hd hd' hne hb hb'
      · rw [push_new.2.1] at hb'
        have := (hv b hb').1
        have := hs.lt id b hd hb
        omega
    · rw [push_new.2.1] at hb
      rcases hd' with hd' | rfl
      · rw [push_ρ hs hd'] at hb'
        have := (hv b hb).1
        have := hs.lt id' b hd' hb'
        omega
      · exact hne rfl
  · intro id b hd hb
    rcases hd with hd | rfl
    · rw [push_ρ hs hd] at hb; exact Nat.lt_of_lt_of_le (hs.lt id b hd hb) h.size
    · rw [push_new.2.1] at hb; exact (hv b hb).2
  · intro id hd
    rcases hd with hd | rfl
    · have := hs.dom id hd; simp [Cx.push]; omega
    · simp [Cx.push]
  · exact fun a ha => hs.fresh a (Nat.le_trans h.size ha)

/-- An object of the store is written. -/
def Cx.put (c : Cx) (w : World) (id : Nat) (v : Value) (o : SObj) : Cx :=
  { c with w := w, ρ := fun i => if i = id then v else c.ρ i, σ := c.σ.set id o }

theorem put_σ_ne {w : World} {v : Value} {o : SObj} {id i : Nat} (h : i ≠ id) : (c.put w id v o).σ[i]? = c.σ[i]? := by simp [Cx.put, List.getElem?_set_ne (Ne.symm h)]
theorem put_ρ_ne {w : World} {v : Value} {o : SObj} {id i : Nat} (h : i ≠ id) : (c.put w id v o).ρ i = c.ρ i := by simp [Cx.put, h]
theorem put_σ {w : World} {v : Value} {o : SObj} {id : Nat} (h : id < c.σ.length) : (c.put w id v o).σ[id]? = some o := by simp [Cx.put, h]
theorem put_ρ {w : World} {v : Value} {o : SObj} {id : Nat} : (c.put w id v o).ρ id = v := by simp [Cx.put]

theorem Nx.putBox {w' : World} {id b : Nat} {q q' : PD} (hs : Sr c) (hd : c.D id) (hq : c.σ[id]? = some (.box q)) (hr : c.ρ id = .pointer (some ⟨b, 0, none⟩)) (hfl : fl ≤ id)
    (h0 : w'.os = c.w.os ∧ w'.tape = c.w.tape ∧ w'.output = c.w.output ∧ w'.heap.size = c.w.heap.size) (h1 : ∀ k, k ≠ b → w'.heap[k]? = c.w.heap[k]?) :
    Nx fl c (c.put w' id (c.ρ id) (.box q')) := by
  have hρ : ∀ i, (c.put w' id (c.ρ id) (.box q')).ρ i = c.ρ i := fun i => by
    by_cases e : i = id
    · subst e; exact put_ρ
    · exact put_ρ_ne e
  have hb : blk (c.ρ id) = some b := by rw [hr]; rfl
  refine ⟨rfl, h0.1, h0.2.1, h0.2.2.1, Nat.le_of_eq h0.2.2.2.symm, by simp [Cx.put], ?_, fun _ h => h, fun _ h => .inl h, ?_, ?_, ?_, ?_, ?_, ?_, fun i _ hi => put_σ_ne (fun e => hi (by rw [e]; exact hd))⟩
  · intro a u ha hu
    have hne : a.block ≠ b := ha.2 id _ hd hq b hb
    refine ⟨⟨ha.1, fun i o hi ho => ?_⟩, by show w'.cell? a = some u; rw [World.cell?_of_block (h1 a.block hne)]; exact hu⟩
    rw [hρ]
    by_cases e : i = id
    · subst e
      rw [put_σ (hs.dom i hd)] at ho
      simp only [Option.some.injEq] at ho; subst ho
      exact fun b' hb' => ha.2 i _ hd hq b' hb'
    · rw [put_σ_ne e] at ho
      exact ha.2 i o hi ho
  · intro i p hi hp
    refine ⟨hρ i, ?_⟩
    by_cases e : i = id
    · subst e; exact ⟨q', put_σ (hs.dom i hd)⟩
    · exact ⟨p, by rw [put_σ_ne e]; exact hp⟩
  · intro i hi hn
    refine ⟨hρ i, ?_⟩
    by_cases e : i = id
    · subst e; rw [put_σ (hs.dom i hd)]; trivial
    · rw [put_σ_ne e]; exact hn
  · intro i e' s n hi ho
    have e : i ≠ id := by rintro rfl; rw [hq] at ho; cases ho
    exact ⟨n, by rw [put_σ_ne e]; exact ho, Nat.le_refl _, fun _ => hρ i⟩
  · intro i b' hi hb' _
    rw [hρ] at hb'
    exact ⟨hi, hb'⟩
  · intro k _ hk
    exact h1 k (fun e => hk id hd hfl (by rw [e]; exact hb))
  · intro i hi _
    exact put_σ_ne (by omega)

theorem Sr.putBox {w' : World} {id b : Nat} {q q' : PD} {cs : Array Value} {T : TypeId} (hs : Sr c) (hd : c.D id) (hq : c.σ[id]? = some (.box q)) (hr : c.ρ id = .pointer (some ⟨b, 0, none⟩))
    (h0 : w'.os = c.w.os ∧ w'.tape = c.w.tape ∧ w'.output = c.w.output ∧ w'.heap.size = c.w.heap.size) (h1 : ∀ k, k ≠ b → w'.heap[k]? = c.w.heap[k]?)
    (h2 : w'.heap[b]? = some (.cells cs T (0, 0))) (h3 : VRs c cs.toList q'.cells) (h4 : ∀ v ∈ cs.toList, v.oneCell' = true) : Sr (c.put w' id (c.ρ id) (.box q')) := by
  have nx : Nx 0 c (c.put w' id (c.ρ id) (.box q')) := Nx.putBox hs hd hq hr (Nat.zero_le _) h0 h1
  have hρ : ∀ i, (c.put w' id (c.ρ id) (.box q')).ρ i = c.ρ i := fun i => by
    by_cases e : i = id
    · subst e; exact put_ρ
    · exact put_ρ_ne e
  have hb : blk (c.ρ id) = some b := by rw [hr]; rfl
  refine ⟨?_, ?_, ?_, ?_, ?_, ?_, ?_, ?_, hs.glob.mono nx⟩
  · intro i p hi hp
    by_cases e : i = id
    · subst e
      rw [put_σ (hs.dom i hd)] at hp
      simp only [Option.some.injEq, SObj.box.injEq] at hp; subst hp
      exact ⟨b, cs, T, (hρ i).trans hr, h2, h3.mono nx, h4⟩
    · rw [put_σ_ne e] at hp
      obtain ⟨b', cs', T', e1, e2, e3, e4⟩ := hs.box i p hi hp
      refine ⟨b', cs', T', (hρ i).trans e1, ?_, e3.mono nx, e4⟩
      show w'.heap[b']? = _
      rw [h1 b' (fun e' => hs.inj i id b' hi hd e (by rw [e1]; rfl) (by rw [e']; exact hb))]
      exact e2
  · intro i e' s n hi ho
    have e : i ≠ id := by rintro rfl; rw [put_σ (hs.dom i hd)] at ho; cases ho
    rw [put_σ_ne e] at ho
    obtain ⟨xs, hx⟩ := hs.own i e' s n hi ho
    rw [hρ]
    exact ⟨xs, own_kept hx (fun g hg => h1 g (fun e'' => hs.inj i id g hi hd e hg (by rw [e'']; exact hb)))⟩
  · intro i hi hm
    have e : i ≠ id := by rintro rfl; rw [put_σ (hs.dom i hd)] at hm; cases hm
    rw [put_σ_ne e] at hm
    obtain ⟨b', e1, e2⟩ := hs.mark i hi hm
    refine ⟨b', (hρ i).trans e1, ?_⟩
    show w'.heap[b']? = _
    rw [h1 b' (fun e' => hs.inj i id b' hi hd e (by rw [e1]; rfl) (by rw [e']; exact hb))]
    exact e2
  · intro i st fr ps as bd hi hm
    have e : i ≠ id := by rintro rfl; rw [put_σ (hs.dom i hd)] at hm; cases hm
    rw [put_σ_ne e] at hm
    obtain ⟨b', r, e1, e2, e3, e4, e5, e6, e7⟩ := hs.loop i st fr ps as bd hi hm
    refine ⟨b', r, (hρ i).trans e1, ?_, e3, e4, e5, e6.mono nx, e7⟩
    show w'.heap[b']? = _
    rw [h1 b' (fun e' => hs.inj i id b' hi hd e (by rw [e1]; rfl) (by rw [e']; exact hb))]
    exact e2
  · intro i j b' hi hj hne h5 h6
    rw [hρ] at h5 h6
    exact hs.inj i j b' hi hj hne h5 h6
  · intro i b' hi h5
    rw [hρ] at h5
    show b' < w'.heap.size
    rw [h0.2.2.2]; exact hs.lt i b' hi h5
  · intro i hi
    simp only [Cx.put, List.length_set]
    exact hs.dom i hi
  · intro a ha
    exact hs.fresh a (by show c.w.heap.size ≤ a.block; rw [← h0.2.2.2]; exact ha)

theorem Nx.putOwn {w' : World} {id n n' size : Nat} {e : TypeId} {v' : Value} (hs : Sr c) (hd : c.D id) (hq : c.σ[id]? = some (.own e size n)) (hfl : fl ≤ id) (hn : n < n')
    (h0 : w'.os = c.w.os ∧ w'.tape = c.w.tape ∧ w'.output = c.w.output ∧ c.w.heap.size ≤ w'.heap.size)
    (h1 : ∀ k, k < c.w.heap.size → blk (c.ρ id) ≠ some k → w'.heap[k]? = c.w.heap[k]?)
    (h2 : ∀ (a : Addr) (u : Value), (∀ b, blk (c.ρ id) = some b → a.block = b → a.off < n * size) → c.w.cell? a = some u → w'.cell? a = some u)
    (h3 : blk v' = blk (c.ρ id) ∨ ∀ b, blk v' = some b → c.w.heap.size ≤ b) :
    Nx fl c (c.put w' id v' (.own e size n')) := by
  refine ⟨rfl, h0.1, h0.2.1, h0.2.2.1, h0.2.2.2, by simp [Cx.put], ?_, fun _ h => h, fun _ h => .inl h, ?_, ?_, ?_, ?_, ?_, ?_, fun i _ hi => put_σ_ne (fun e => hi (by rw [e]; exact hd))⟩
  · intro a u ha hu
    have hav : ∀ b, blk (c.ρ id) = some b → a.block = b → a.off < n * size := ha.2 id _ hd hq
    refine ⟨⟨ha.1, fun i o hi ho => ?_⟩, h2 a u hav hu⟩
    by_cases e' : i = id
    · subst e'
      rw [put_σ (hs.dom i hd)] at ho
      simp only [Option.some.injEq] at ho; subst ho
      rw [put_ρ]
      intro b hb hab
      rcases h3 with h3 | h3
      · have := hav b (by rw [← h3]; exact hb) hab
        exact Nat.lt_of_lt_of_le this (Nat.mul_le_mul_right _ (Nat.le_of_lt hn))
      · have := h3 b hb
        have := cell_lt hu
        omega
    · rw [put_σ_ne e'] at ho
      rw [put_ρ_ne e']
      exact ha.2 i o hi ho
  · intro i p hi hp
    have e' : i ≠ id := by rintro rfl; rw [hq] at hp; cases hp
    exact ⟨put_ρ_ne e', p, by rw [put_σ_ne e']; exact hp⟩
  · intro i hi hn
    have e' : i ≠ id := by rintro rfl; rw [hq] at hn; exact hn
    exact ⟨put_ρ_ne e', by rw [put_σ_ne e']; exact hn⟩
  · intro i e0 s m hi ho
    by_cases e' : i = id
    · subst e'
      rw [hq] at ho
      simp only [Option.some.injEq, SObj.own.injEq] at ho
      obtain ⟨rfl, rfl, rfl⟩ := ho
      exact ⟨n', put_σ (hs.dom i hd), Nat.le_of_lt hn, fun h => by omega⟩
    · exact ⟨m, by rw [put_σ_ne e']; exact ho, Nat.le_refl _, fun _ => put_ρ_ne e'⟩
  · intro i b hi hb hlt
    by_cases e' : i = id
    · subst e'
      rw [put_ρ] at hb
      rcases h3 with h3 | h3
      · exact ⟨hi, by rw [← h3]; exact hb⟩
      · have := h3 b hb; omega
    · rw [put_ρ_ne e'] at hb; exact ⟨hi, hb⟩
  · intro k hk hx
    exact h1 k hk (hx id hd hfl)
  · intro i hi _
    exact put_σ_ne (by omega)

theorem Sr.putOwn {w' : World} {id n n' size : Nat} {e : TypeId} {v' : Value} {xs : List Value} (hs : Sr c) (hd : c.D id) (hq : c.σ[id]? = some (.own e size n)) (hn : n < n')
    (h0 : w'.os = c.w.os ∧ w'.tape = c.w.tape ∧ w'.output = c.w.output ∧ c.w.heap.size ≤ w'.heap.size)
    (h1 : ∀ k, k < c.w.heap.size → blk (c.ρ id) ≠ some k → w'.heap[k]? = c.w.heap[k]?)
    (h2 : ∀ (a : Addr) (u : Value), (∀ b, blk (c.ρ id) = some b → a.block = b → a.off < n * size) → c.w.cell? a = some u → w'.cell? a = some u)
    (h3 : blk v' = blk (c.ρ id) ∨ ∀ b, blk v' = some b → c.w.heap.size ≤ b) (h4 : w'.ownsRow 0 e size v' n' xs) (h5 : ∀ b, blk v' = some b → b < w'.heap.size) :
    Sr (c.put w' id v' (.own e size n')) := by
  have nx : Nx 0 c (c.put w' id v' (.own e size n')) := Nx.putOwn hs hd hq (Nat.zero_le _) hn h0 h1 h2 h3
  have hoth : ∀ i b, c.D i → i ≠ id → blk (c.ρ i) = some b → blk v' ≠ some b := fun i b hi hne hb hb' => by
    rcases h3 with h3 | h3
    · exact hs.inj i id b hi hd hne hb (by rw [← h3]; exact hb')
    · have := h3 b hb'
      have := hs.lt i b hi hb
      omega
  refine ⟨?_, ?_, ?_, ?_, ?_, ?_, ?_, ?_, hs.glob.mono nx⟩
  · intro i p hi hp
    have e' : i ≠ id := by rintro rfl; rw [put_σ (hs.dom i hd)] at hp; cases hp
    rw [put_σ_ne e'] at hp
    obtain ⟨b', cs', T', e1, e2, e3, e4⟩ := hs.box i p hi hp
    refine ⟨b', cs', T', (put_ρ_ne e').trans e1, ?_, e3.mono nx, e4⟩
    show w'.heap[b']? = _
    rw [h1 b' (heap_lt e2) (fun h => hs.inj i id b' hi hd e' (by rw [e1]; rfl) h)]
    exact e2
  · intro i e0 s m hi ho
    by_cases e' : i = id
    · subst e'
      rw [put_σ (hs.dom i hd)] at ho
      simp only [Option.some.injEq, SObj.own.injEq] at ho
      obtain ⟨rfl, rfl, rfl⟩ := ho
      rw [put_ρ]
      exact ⟨xs, h4⟩
    · rw [put_σ_ne e'] at ho
      obtain ⟨ys, hy⟩ := hs.own i e0 s m hi ho
      rw [put_ρ_ne e']
      exact ⟨ys, own_kept hy (fun g hg => h1 g (hs.lt i g hi hg) (fun h => hs.inj i id g hi hd e' hg h))⟩
  · intro i hi hm
    have e' : i ≠ id := by rintro rfl; rw [put_σ (hs.dom i hd)] at hm; cases hm
    rw [put_σ_ne e'] at hm
    obtain ⟨b', e1, e2⟩ := hs.mark i hi hm
    refine ⟨b', (put_ρ_ne e').trans e1, ?_⟩
    show w'.heap[b']? = _
    rw [h1 b' (heap_lt e2) (fun h => hs.inj i id b' hi hd e' (by rw [e1]; rfl) h)]
    exact e2
  · intro i st fr ps as bd hi hm
    have e' : i ≠ id := by rintro rfl; rw [put_σ (hs.dom i hd)] at hm; cases hm
    rw [put_σ_ne e'] at hm
    obtain ⟨b', r, e1, e2, e3, e4, e5, e6, e7⟩ := hs.loop i st fr ps as bd hi hm
    refine ⟨b', r, (put_ρ_ne e').trans e1, ?_, e3, e4, e5, e6.mono nx, e7⟩
    show w'.heap[b']? = _
    rw [h1 b' (heap_lt e2) (fun h => hs.inj i id b' hi hd e' (by rw [e1]; rfl) h)]
    exact e2
  · intro i j b hi hj hne hb hb'
    by_cases e' : i = id
    · subst e'
      rw [put_ρ] at hb
      rw [put_ρ_ne (Ne.symm hne)] at hb'
      exact hoth j b hj (Ne.symm hne) hb' hb
    · rw [put_ρ_ne e'] at hb
      by_cases e'' : j = id
      · subst e''
        rw [put_ρ] at hb'
        exact hoth i b hi e' hb hb'
      · rw [put_ρ_ne e''] at hb'
        exact hs.inj i j b hi hj hne hb hb'
  · intro i b hi hb
    by_cases e' : i = id
    · subst e'; rw [put_ρ] at hb; exact h5 b hb
    · rw [put_ρ_ne e'] at hb; exact Nat.lt_of_lt_of_le (hs.lt i b hi hb) h0.2.2.2
  · intro i hi
    simp only [Cx.put, List.length_set]
    exact hs.dom i hi
  · intro a ha
    exact hs.fresh a (Nat.le_trans h0.2.2.2 ha)

/-- Objects that are no cells. -/
def SObj.nc : SObj → Prop
  | .box _ => False
  | .own _ _ _ => False
  | _ => True

theorem Nx.putNc {id b : Nat} {o o' : SObj} {x x' : Obj} (hs : Sr c) (hd : c.D id) (ho : c.σ[id]? = some o) (hn : o.nc) (hn' : o'.nc) (hr : c.ρ id = .pointer (some ⟨b, 0, none⟩)) (hfl : fl ≤ id)
    (hx : c.w.heap[b]? = some x) (hxc : ∀ cs T fz, x ≠ .cells cs T fz) :
    Nx fl c (c.put (c.w.putObj b x') id (c.ρ id) o') := by
  have hρ : ∀ i, (c.put (c.w.putObj b x') id (c.ρ id) o').ρ i = c.ρ i := fun i => by
    by_cases e : i = id
    · subst e; exact put_ρ
    · exact put_ρ_ne e
  have hb : blk (c.ρ id) = some b := by rw [hr]; rfl
  refine ⟨rfl, rfl, rfl, rfl, by simp [Cx.put], by simp [Cx.put], ?_, fun _ h => h, fun _ h => .inl h, ?_, ?_, ?_, ?_, ?_, ?_, fun i _ hi => put_σ_ne (fun e => hi (by rw [e]; exact hd))⟩
  · intro a u ha hu
    have hne : a.block ≠ b := by
      intro e
      unfold World.cell? at hu
      rw [e, hx] at hu
      cases x <;> first | exact hxc _ _ _ rfl | (simp at hu)
    refine ⟨⟨ha.1, fun i oo hi hoo => ?_⟩, by show (c.w.putObj b x').cell? a = some u; rw [World.cell?_of_block (World.putObj_heap_other hne)]; exact hu⟩
    rw [hρ]
    by_cases e : i = id
    · subst e
      rw [put_σ (hs.dom i hd)] at hoo
      simp only [Option.some.injEq] at hoo; subst hoo
      cases o' <;> first | exact hn'.elim | trivial
    · rw [put_σ_ne e] at hoo
      exact ha.2 i oo hi hoo
  · intro i p hi hp
    have e : i ≠ id := by rintro rfl; rw [ho] at hp; simp only [Option.some.injEq] at hp; subst hp; exact hn
    exact ⟨hρ i, p, by rw [put_σ_ne e]; exact hp⟩
  · intro i hi hni
    refine ⟨hρ i, ?_⟩
    by_cases e : i = id
    · subst e
      rw [put_σ (hs.dom i hd)]
      cases o' <;> first | exact hn'.elim | trivial
    · rw [put_σ_ne e]; exact hni
  · intro i e0 s n hi hi'
    have e : i ≠ id := by rintro rfl; rw [ho] at hi'; simp only [Option.some.injEq] at hi'; subst hi'; exact hn
    exact ⟨n, by rw [put_σ_ne e]; exact hi', Nat.le_refl _, fun _ => hρ i⟩
  · intro i b' hi hb' _
    rw [hρ] at hb'
    exact ⟨hi, hb'⟩
  · intro k _ hk
    exact World.putObj_heap_other (fun e => hk id hd hfl (by rw [e]; exact hb))
  · intro i hi _
    exact put_σ_ne (by omega)

theorem Sr.putNc {id b : Nat} {o o' : SObj} {x x' : Obj} (hs : Sr c) (hd : c.D id) (ho : c.σ[id]? = some o) (hn : o.nc) (hn' : o'.nc) (hr : c.ρ id = .pointer (some ⟨b, 0, none⟩))
    (hx : c.w.heap[b]? = some x) (hxc : ∀ cs T fz, x ≠ .cells cs T fz)
    (hfit : match o' with
      | .mark => x' = .deferred (some [])
      | .loop st fr ps assign body => ∃ r, x' = .loop r ∧ r.params = ps.toArray ∧ r.assign = assign ∧ r.body = body ∧ VRs c r.tmps.toList fr ∧ st.fits r
      | _ => True) : Sr (c.put (c.w.putObj b x') id (c.ρ id) o') := by
  have nx : Nx 0 c (c.put (c.w.putObj b x') id (c.ρ id) o') := Nx.putNc hs hd ho hn hn' hr (Nat.zero_le _) hx hxc
  have hρ : ∀ i, (c.put (c.w.putObj b x') id (c.ρ id) o').ρ i = c.ρ i := fun i => by
    by_cases e : i = id
    · subst e; exact put_ρ
    · exact put_ρ_ne e
  have hb : blk (c.ρ id) = some b := by rw [hr]; rfl
  have hlt : b < c.w.heap.size := heap_lt hx
  have hnew : (c.w.putObj b x').heap[b]? = some x' := World.putObj_heap_same hlt
  refine ⟨?_, ?_, ?_, ?_, ?_, ?_, ?_, ?_, hs.glob.mono nx⟩
  · intro i p hi hp
    have e : i ≠ id := by
      rintro rfl
      rw [put_σ (hs.dom i hd)] at hp
      simp only [Option.some.injEq] at hp; subst hp; exact hn'
    rw [put_σ_ne e] at hp
    obtain ⟨b', cs', T', e1, e2, e3, e4⟩ := hs.box i p hi hp
    refine ⟨b', cs', T', (hρ i).trans e1, ?_, e3.mono nx, e4⟩
    show (c.w.putObj b x').heap[b']? = _
    rw [World.putObj_heap_other (fun e' => hs.inj i id b' hi hd e (by rw [e1]; rfl) (by rw [e']; exact hb))]
    exact e2
  · intro i e0 s n hi hi'
    have e : i ≠ id := by
      rintro rfl
      rw [put_σ (hs.dom i hd)] at hi'
      simp only [Option.some.injEq] at hi'; subst hi'; exact hn'
    rw [put_σ_ne e] at hi'
    obtain ⟨xs, hx'⟩ := hs.own i e0 s n hi hi'
    rw [hρ]
    exact ⟨xs, own_kept hx' (fun g hg => World.putObj_heap_other (fun e'' => hs.inj i id g hi hd e hg (by rw [e'']; exact hb)))⟩
  · intro i hi hm
    by_cases e : i = id
    · subst e
      rw [put_σ (hs.dom i hd)] at hm
      simp only [Option.some.injEq] at hm; subst hm
      simp only at hfit; subst hfit
      exact ⟨b, (hρ i).trans hr, hnew⟩
    · rw [put_σ_ne e] at hm
      obtain ⟨b', e1, e2⟩ := hs.mark i hi hm
      refine ⟨b', (hρ i).trans e1, ?_⟩
      show (c.w.putObj b x').heap[b']? = _
      rw [World.putObj_heap_other (fun e' => hs.inj i id b' hi hd e (by rw [e1]; rfl) (by rw [e']; exact hb))]
      exact e2
  · intro i st fr ps as bd hi hm
    by_cases e : i = id
    · subst e
      rw [put_σ (hs.dom i hd)] at hm
      simp only [Option.some.injEq] at hm; subst hm
      obtain ⟨r, e2, e3, e4, e5, e6, e7⟩ := hfit
      subst e2
      exact ⟨b, r, (hρ i).trans hr, hnew, e3, e4, e5, e6.mono nx, e7⟩
    · rw [put_σ_ne e] at hm
      obtain ⟨b', r, e1, e2, e3, e4, e5, e6, e7⟩ := hs.loop i st fr ps as bd hi hm
      refine ⟨b', r, (hρ i).trans e1, ?_, e3, e4, e5, e6.mono nx, e7⟩
      show (c.w.putObj b x').heap[b']? = _
      rw [World.putObj_heap_other (fun e' => hs.inj i id b' hi hd e (by rw [e1]; rfl) (by rw [e']; exact hb))]
      exact e2
  · intro i j b' hi hj hne h5 h6
    rw [hρ] at h5 h6
    exact hs.inj i j b' hi hj hne h5 h6
  · intro i b' hi h5
    rw [hρ] at h5
    show b' < (c.w.putObj b x').heap.size
    simpa using hs.lt i b' hi h5
  · intro i hi
    simp only [Cx.put, List.length_set]
    exact hs.dom i hi
  · intro a ha
    exact hs.fresh a (by simpa [Cx.put] using ha)

end
end Go.Kz
