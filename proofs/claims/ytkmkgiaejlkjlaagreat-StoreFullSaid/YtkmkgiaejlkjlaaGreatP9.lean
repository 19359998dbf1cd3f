/-
  Part P9 of the way: an interpreter over pure data, its soundness, walks through functions.
-/
import Derived.Test.YtkmkgiaejlkjlaaGreatP4
import Derived.Test.YtkmkgiaejlkjlaaGreatP3
import Derived.Test.YtkmkgiaejlkjlaaGreatP8
set_option linter.all false

/-
  Closed calls by a relation: entries of the table that are looked up, never computed.
-/
namespace Go.Kz
open Classical in
noncomputable def gRel (R : List PD → List SObj → PD → List SObj → Prop) : Nat → List PD → List SObj → Option (PD × List SObj) := fun fl args σ =>
  if h : fl = 0 ∧ ∃ x : PD × List SObj, R args σ x.1 x.2 then some (Classical.choose h.2) else none
theorem gRel_some {R : List PD → List SObj → PD → List SObj → Prop} {fl : Nat} {args : List PD} {σ : List SObj} {p : PD} {σ' : List SObj} (h : gRel R fl args σ = some (p, σ')) : fl = 0 ∧ R args σ p σ' := by
  unfold gRel at h
  split at h
  · rename_i hc
    have := Classical.choose_spec hc.2
    simp only [Option.some.injEq] at h
    rw [h] at this
    exact ⟨hc.1, this⟩
  · cases h
theorem gRel_of {R : List PD → List SObj → PD → List SObj → Prop} {args : List PD} {σ : List SObj} {p : PD} {σ' : List SObj} (hf : ∀ q τ, R args σ q τ → q = p ∧ τ = σ') (h : R args σ p σ') : gRel R 0 args σ = some (p, σ') := by
  unfold gRel
  have hc : (0 : Nat) = 0 ∧ ∃ x : PD × List SObj, R args σ x.1 x.2 := ⟨rfl, (p, σ'), h⟩
  rw [dif_pos hc]
  obtain ⟨h1, h2⟩ := hf _ _ (Classical.choose_spec hc.2)
  exact congrArg some (Prod.ext h1 h2)
theorem ExtOk.addRel {P : Program} {E : PExt} (hE : ExtOk P E) (hP : P.follows .mixedOrders = true) {f : FuncId} {R : List PD → List SObj → PD → List SObj → Prop}
    (h : ∀ args σ p σ', R args σ p σ' → ∃ N, pcallF P E N 0 (.inl f) args σ = some (p, σ')) : ExtOk P (E.add f (gRel R)) := by
  intro F fl f' g' args c vs p σ' hF hg hgo hs hX hv
  unfold PExt.add at hg
  split at hg
  · rename_i e
    subst e
    simp only [Option.some.injEq] at hg; subst hg
    obtain ⟨rfl, hr⟩ := gRel_some hgo
    obtain ⟨N, hrun⟩ := h _ _ _ _ hr
    rw [pcallF_eq] at hrun
    exact (pcall_ok hE hP hF N).fn hrun hs hX hv
  · exact hE hF hg hgo hs hX hv
/-- An entry out of another table. -/
theorem ExtOk.pick {P : Program} {E E0 : PExt} (hE : ExtOk P E) (h0 : ExtOk P E0) {f : FuncId} {g} (h : E f = some g) : ExtOk P (E0.add f g) := by
  intro F fl f' g' args c vs p σ' hF hg hgo hs hX hv
  unfold PExt.add at hg
  split at hg
  · rename_i e
    subst e
    simp only [Option.some.injEq] at hg; subst hg
    exact hE hF h hgo hs hX hv
  · exact h0 hF hg hgo hs hX hv
theorem Uni.rel {E : PExt} (hU : Uni E) {f : FuncId} {R : List PD → List SObj → PD → List SObj → Prop} (hR : ∀ args p, ¬ R args [] p []) : Uni (E.add f (gRel R)) := by
  intro f' g args p hg h fl σ
  unfold PExt.add at hg
  split at hg
  · simp only [Option.some.injEq] at hg
    subst hg
    exact absurd (gRel_some h).2 (hR _ _)
  · exact hU f' g args p hg h fl σ
end Go.Kz

/-
  Data whose objects have been renumbered: every number is greater by n.
-/
namespace Go.Kz
open Go.RowKit
set_option linter.unusedSectionVars false

def Tok.sh (n : Nat) : Tok → Tok
  | .own id => .own (id + n)
  | t => t
mutual
def PD.sh (n : Nat) : PD → PD
  | .bool b => .bool b
  | .int k z => .int k z
  | .str s => .str s
  | .agg cs => .agg (PD.shL n cs)
  | .slice sz xs t => .slice sz (PD.shL n xs) (t.sh n)
  | .ptr id off => .ptr (id + n) off
  | .eptr cs off => .eptr (PD.shL n cs) off
  | .nilptr => .nilptr
  | .func f cap => .func f (PD.shL n cap)
  | .mfunc f xs => .mfunc f (PD.shL n xs)
  | .yield id => .yield (id + n)
  | .nilfunc => .nilfunc
  | .opq v => .opq v
  | .typed t cs => .typed t (PD.shL n cs)
  | .sref id off m sz => .sref (id + n) off m sz
  | .rref id ver off m sz => .rref (id + n) ver off m sz
  | .rptr id ver off => .rptr (id + n) ver off
  | .mref id => .mref (id + n)
  | .iface t p => .iface t (PD.sh n p)
  | .tup vs => .tup (PD.shL n vs)
def PD.shL (n : Nat) : List PD → List PD
  | [] => []
  | x :: xs => PD.sh n x :: PD.shL n xs
end
theorem PD.shL_map (n : Nat) : ∀ xs : List PD, PD.shL n xs = xs.map (PD.sh n)
  | [] => rfl
  | x :: xs => by rw [PD.shL, PD.shL_map n xs]; rfl
theorem PD.shL_get (n : Nat) (xs : List PD) (i : Nat) : (PD.shL n xs)[i]? = (xs[i]?).map (PD.sh n) := by rw [PD.shL_map, List.getElem?_map]
theorem PD.shL_len (n : Nat) (xs : List PD) : (PD.shL n xs).length = xs.length := by rw [PD.shL_map, List.length_map]
theorem PD.sh_cells (n : Nat) (p : PD) : (p.sh n).cells = PD.shL n p.cells := by
  cases p <;> simp [PD.sh, PD.cells, PD.shL]
theorem PD.shL_flat (n : Nat) : ∀ xs : List PD, (PD.shL n xs).flatMap PD.cells = PD.shL n (xs.flatMap PD.cells)
  | [] => rfl
  | x :: xs => by
    rw [PD.shL, List.flatMap_cons, List.flatMap_cons, PD.shL_flat n xs, PD.sh_cells, PD.shL_map, PD.shL_map, PD.shL_map, List.map_append]
def SObj.sh (n : Nat) : SObj → SObj
  | .none => .none
  | .box p => .box (p.sh n)
  | .own e s m => .own e s m
  | .row e s v cs => .row e s v (PD.shL n cs)
  | .map es => .map (es.map fun x => (x.1.sh n, x.2.sh n))
  | .mark => .mark
  | .loop st fr ps asg bd => .loop st (PD.shL n fr) ps asg bd
theorem SObj.sh_avoids (n : Nat) (o : SObj) (v : Value) (a : Addr) : (o.sh n).avoids v a ↔ o.avoids v a := by cases o <;> exact Iff.rfl
theorem notOwn_sh {n : Nat} {o : Option SObj} (h : notOwn o) : notOwn (o.map (SObj.sh n)) := by
  cases o with
  | none => trivial
  | some o => cases o <;> first | trivial | exact h

/-- c2 bears what c1 bears, under numbers that are greater by n. -/
structure Shv (n : Nat) (c1 c2 : Cx) : Prop where
  cell : ∀ a v, c1.av a → c1.w.cell? a = some v → c2.av a ∧ c2.w.cell? a = some v
  dom : ∀ id, c1.D id → c2.D (id + n)
  rho : ∀ id, c1.D id → c2.ρ (id + n) = c1.ρ id
  obj : ∀ id, c2.σ[id + n]? = (c1.σ[id]?).map (SObj.sh n)

theorem TokR.shift {n : Nat} {c1 c2 : Cx} (h : Shv n c1 c2) {size m cap : Nat} {v : Value} {t : Tok} (ht : TokR c1 size m cap v t) : TokR c2 size m cap v (t.sh n) := by
  cases t with
  | own id =>
    obtain ⟨hd, e, k, h1, h2, h3⟩ := ht
    exact ⟨h.dom id hd, e, k, by rw [h.obj, h1]; rfl, h2, fun hk => (h.rho id hd).trans (h3 hk)⟩
  | _ => exact ht
theorem RowP.shift {n : Nat} {c1 c2 : Cx} (h : Shv n c1 c2) {id ver : Nat} {Q : Nat → Value → Prop} (hp : RowP c1 id ver Q) : RowP c2 (id + n) ver Q := by
  refine ⟨h.dom id hp.1, fun e sz v cs hs => ?_⟩
  rw [h.obj] at hs
  cases ho : c1.σ[id]? with
  | none => rw [ho] at hs; cases hs
  | some o =>
    rw [ho] at hs
    cases o with
    | row e' s' v' cs' =>
      simp only [Option.map_some, SObj.sh, Option.some.injEq, SObj.row.injEq] at hs
      obtain ⟨rfl, rfl, rfl, _⟩ := hs
      obtain ⟨h1, h2⟩ := hp.2 _ _ _ _ ho
      exact ⟨h1, fun e => by rw [h.rho id hp.1]; exact h2 e⟩
    | _ => cases hs
theorem VR.shift {n : Nat} {c1 c2 : Cx} (h : Shv n c1 c2) {v : Value} {p : PD} (hv : VR c1 v p) : VR c2 v (p.sh n) := by
  have place : ∀ {cs : List Value} {ds : List PD}, (∀ (i : Nat) (v : Value) (d : PD), cs[i]? = some v → ds[i]? = some d → VR c2 v (d.sh n)) → ∀ (i : Nat) (v : Value) (d : PD), cs[i]? = some v → (PD.shL n ds)[i]? = some d → VR c2 v d := by
    intro cs ds ih i v d h1 h2
    rw [PD.shL_get] at h2
    cases hd : ds[i]? with
    | none => rw [hd] at h2; cases h2
    | some d0 =>
      rw [hd] at h2
      simp only [Option.map_some, Option.some.injEq] at h2
      subst h2
      exact ih i v d0 h1 hd
  induction hv with
  | bool b => exact .bool b
  | int k z => exact .int k z
  | str s => exact .str s
  | agg cs ds hl h1 _ ih => exact .agg cs _ (by rw [PD.shL_len]; exact hl) h1 (place ih)
  | slice A m cap size xs tok fl' hn hc hm hx hf h1 hcell _ ht ih =>
    refine .slice A m cap size _ _ fl' (by rw [PD.shL_len]; exact hn) hc hm (fun x hx' => ?_) hf h1 (fun j v hj => ?_) (by rw [PD.shL_flat]; exact place ih) (ht.shift h)
    · rw [PD.shL_map] at hx'
      obtain ⟨y, hy, rfl⟩ := List.mem_map.1 hx'
      rw [PD.sh_cells, PD.shL_len]
      exact hx y hy
    · obtain ⟨ad, e, h2, h3⟩ := hcell j v hj
      obtain ⟨q1, q2⟩ := h.cell _ _ h3 h2
      exact ⟨ad, e, q2, q1⟩
  | ptr id off b hd hs hr =>
    obtain ⟨p, hs⟩ := hs
    exact .ptr _ off b (h.dom id hd) ⟨p.sh n, by rw [h.obj, hs]; rfl⟩ ((h.rho id hd).trans hr)
  | sref id off m cap size b hd hs hr h1 h2 =>
    obtain ⟨p, hs⟩ := hs
    exact .sref _ off m cap size b (h.dom id hd) ⟨p.sh n, by rw [h.obj, hs]; rfl⟩ ((h.rho id hd).trans hr) h1 h2
  | rref id ver off m cap size b hp h1 h2 => exact .rref _ ver off m cap size b (hp.shift h) h1 h2
  | rptr id ver off b hp => exact .rptr _ ver off b (hp.shift h)
  | mref id b hd hn hr => exact .mref _ b (h.dom id hd) (by rw [h.obj]; exact notOwn_sh hn) ((h.rho id hd).trans hr)
  | iface t v p _ ih => exact .iface t v _ ih
  | eptr ad fl' ds off hl h1 hcell _ ih =>
    refine .eptr ad fl' _ off (by rw [PD.shL_len]; exact hl) h1 (fun j v hj => ?_) (place ih)
    obtain ⟨h2, h3⟩ := hcell j v hj
    obtain ⟨q1, q2⟩ := h.cell _ _ h3 h2
    exact ⟨q2, q1⟩
  | nilptr => exact .nilptr
  | func f cs ds hl _ ih => exact .func f cs _ (by rw [PD.shL_len]; exact hl) (place ih)
  | mfunc f cs ds hl _ ih => exact .mfunc f cs _ (by rw [PD.shL_len]; exact hl) (place ih)
  | nilfunc => exact .nilfunc
  | opq v h => exact .opq v h
  | yield id l hd hn hr => exact .yield _ l (h.dom id hd) (by rw [h.obj]; exact notOwn_sh hn) ((h.rho id hd).trans hr)
  | tup cs ds hl _ ih => exact .tup cs _ (by rw [PD.shL_len]; exact hl) (place ih)
theorem VRs.shift {n : Nat} {c1 c2 : Cx} (h : Shv n c1 c2) {vs : List Value} {ps : List PD} (hv : VRs c1 vs ps) : VRs c2 vs (PD.shL n ps) := by
  refine ⟨by rw [PD.shL_len]; exact hv.1, fun i v d h1 h2 => ?_⟩
  rw [PD.shL_get] at h2
  cases hd : ps[i]? with
  | none => rw [hd] at h2; cases h2
  | some d0 =>
    rw [hd] at h2
    simp only [Option.map_some, Option.some.injEq] at h2
    subst h2
    exact (hv.2 i v d0 h1 hd).shift h

theorem avoids_of {o : SObj} {v : Value} {a : Addr} (h : ∀ b, blk v = some b → a.block ≠ b) : o.avoids v a := by
  cases o with
  | none => trivial
  | box p => exact h
  | own e s m => exact fun b hb e => absurd e (h b hb)
  | row e s v cs => exact h
  | map es => trivial
  | mark => trivial
  | loop st fr ps a b => trivial

/-- One state, and behind it the objects of another. -/
def Cx.plus (c c1 : Cx) : Cx :=
  { w := c1.w, ρ := fun i => if i < c.σ.length then c.ρ i else c1.ρ (i - c.σ.length), σ := c.σ ++ c1.σ.map (SObj.sh c.σ.length), D := fun i => if i < c.σ.length then c.D i else c1.D (i - c.σ.length), X := c.X }

section
variable {c c1 : Cx}
theorem plus_lo {i : Nat} (h : i < c.σ.length) : (c.plus c1).ρ i = c.ρ i ∧ (c.plus c1).σ[i]? = c.σ[i]? ∧ ((c.plus c1).D i ↔ c.D i) :=
  ⟨if_pos h, List.getElem?_append_left h, by show (if i < c.σ.length then c.D i else c1.D (i - c.σ.length)) ↔ _; rw [if_pos h]⟩
theorem plus_hi (i : Nat) : (c.plus c1).ρ (i + c.σ.length) = c1.ρ i ∧ (c.plus c1).σ[i + c.σ.length]? = (c1.σ[i]?).map (SObj.sh c.σ.length) ∧ ((c.plus c1).D (i + c.σ.length) ↔ c1.D i) := by
  have h : ¬ i + c.σ.length < c.σ.length := by omega
  refine ⟨?_, ?_, ?_⟩
  · show (if i + c.σ.length < c.σ.length then c.ρ (i + c.σ.length) else c1.ρ (i + c.σ.length - c.σ.length)) = _
    rw [if_neg h, Nat.add_sub_cancel]
  · show (c.σ ++ c1.σ.map (SObj.sh c.σ.length))[i + c.σ.length]? = _
    rw [List.getElem?_append_right (by omega), Nat.add_sub_cancel, List.getElem?_map]
  · show (if i + c.σ.length < c.σ.length then c.D (i + c.σ.length) else c1.D (i + c.σ.length - c.σ.length)) ↔ _
    rw [if_neg h, Nat.add_sub_cancel]
theorem plus_cases {P : Nat → Prop} (h1 : ∀ i, i < c.σ.length → P i) (h2 : ∀ i, P (i + c.σ.length)) (i : Nat) : P i := by
  by_cases h : i < c.σ.length
  · exact h1 i h
  · have := h2 (i - c.σ.length)
    rwa [Nat.sub_add_cancel (by omega)] at this

variable (hs : Sr c) (hs1 : Sr c1) (nx : Nx 0 c.bare c1)
include hs nx
theorem plus_new {i b : Nat} (hd : c1.D i) (hb : blk (c1.ρ i) = some b) : c.w.heap.size ≤ b := by
  rcases Nat.lt_or_ge b c.w.heap.size with h | h
  · exact (nx.back i b hd hb h).1.elim
  · exact h
theorem plus_grown : c.w.grownBy c1.w none := ⟨nx.os, nx.tape, nx.output, nx.size, fun k hk _ => nx.frame k hk (fun _ h => h.elim)⟩
theorem plus_nx (fl : Nat) : Nx fl c (c.plus c1) where
  X := rfl
  os := nx.os
  tape := nx.tape
  output := nx.output
  size := nx.size
  len := by show _ ≤ (c.σ ++ _).length; rw [List.length_append]; omega
  cell := fun a v ha hv => by
    refine ⟨⟨ha.1, ?_⟩, ?_⟩
    · refine plus_cases (c := c) (fun i hi o hd ho => ?_) (fun i o hd ho => ?_)
      · obtain ⟨e1, e2, e3⟩ := plus_lo (c1 := c1) hi
        rw [e1]
        exact ha.2 i o (e3.1 hd) (e2 ▸ ho)
      · obtain ⟨e1, e2, e3⟩ := plus_hi (c := c) (c1 := c1) i
        rw [e1]
        refine avoids_of fun b hb e => ?_
        have h1 := plus_new hs nx (e3.1 hd) hb
        have h2 := cell_lt hv
        omega
    · show c1.w.cell? a = some v
      rw [World.cell?_of_block ((plus_grown hs nx).block a.block (cell_lt hv) (by simp))]
      exact hv
  dom := fun i hd => (plus_lo (hs.dom i hd)).2.2.2 hd
  new := plus_cases (c := c) (fun i hi hd => .inl ((plus_lo hi).2.2.1 hd)) (fun i _ => .inr (by omega))
  rbox := fun i p hd hp => ⟨(plus_lo (hs.dom i hd)).1, p, (plus_lo (hs.dom i hd)).2.1.trans hp⟩
  rkeep := fun i hd h => ⟨(plus_lo (hs.dom i hd)).1, by rw [(plus_lo (hs.dom i hd)).2.1]; exact h⟩
  rown := fun i _ _ m hd h => ⟨m, (plus_lo (hs.dom i hd)).2.1.trans h, Nat.le_refl _, fun _ => (plus_lo (hs.dom i hd)).1⟩
  rrow := fun i _ _ v cs hd h => ⟨v, cs, (plus_lo (hs.dom i hd)).2.1.symm.trans h, Nat.le_refl _, fun _ => (plus_lo (hs.dom i hd)).1⟩
  back := plus_cases (c := c) (fun i hi b hd hb _ => ⟨(plus_lo hi).2.2.1 hd, (plus_lo (c1 := c1) hi).1 ▸ hb⟩) (fun i b hd hb hlt => by
    obtain ⟨e1, _, e3⟩ := plus_hi (c := c) (c1 := c1) i
    rw [e1] at hb
    have := plus_new hs nx (e3.1 hd) hb
    omega)
  frame := fun k hk _ => (plus_grown hs nx).block k hk (by simp)
  ro := fun i _ hi => (plus_lo hi).2.1
  hole := fun i hi _ => (plus_lo hi).2.1
theorem plus_shv : Shv c.σ.length c1 (c.plus c1) where
  cell := fun a v ha hv => by
    refine ⟨⟨?_, ?_⟩, hv⟩
    · have h3 : c1.X a := ha.1
      rw [nx.X] at h3
      exact ((bare_av a).1 ⟨h3, fun _ _ h => h.elim⟩).1
    · have h3 : c1.X a := ha.1
      rw [nx.X] at h3
      have h4 : c.av a := h3
      refine plus_cases (c := c) (fun i hi o hd ho => ?_) (fun i o hd ho => ?_)
      · obtain ⟨e1, e2, e3⟩ := plus_lo (c1 := c1) hi
        rw [e1]
        exact h4.2 i o (e3.1 hd) (e2 ▸ ho)
      · obtain ⟨e1, e2, e3⟩ := plus_hi (c := c) (c1 := c1) i
        rw [e1]
        rw [e2] at ho
        cases hq : c1.σ[i]? with
        | none => rw [hq] at ho; cases ho
        | some o1 =>
          rw [hq] at ho
          simp only [Option.map_some, Option.some.injEq] at ho
          subst ho
          exact (SObj.sh_avoids _ _ _ _).2 (ha.2 i o1 (e3.1 hd) hq)
  dom := fun i hd => (plus_hi i).2.2.2 hd
  rho := fun i _ => (plus_hi i).1
  obj := fun i => (plus_hi i).2.1
include hs1
theorem plus_sr : Sr (c.plus c1) := by
  have N := plus_nx hs nx 0
  have S := plus_shv hs nx
  have G := plus_grown hs nx
  have hp : ∀ {b : Nat} {o : Obj}, c.w.heap[b]? = some o → (c.plus c1).w.heap[b]? = some o := fun {b o} h => by
    show c1.w.heap[b]? = _
    rw [G.block b (heap_lt h) (by simp)]
    exact h
  -- what an object of the second state is
  have back : ∀ {i : Nat} {o : SObj}, (c.plus c1).σ[i + c.σ.length]? = some o → ∃ o1, c1.σ[i]? = some o1 ∧ o1.sh c.σ.length = o := fun {i o} h => by
    rw [(plus_hi i).2.1] at h
    cases hq : c1.σ[i]? with
    | none => rw [hq] at h; cases h
    | some o1 =>
      rw [hq] at h
      simp only [Option.map_some, Option.some.injEq] at h
      exact ⟨o1, rfl, h⟩
  constructor
  · refine plus_cases (c := c) (fun i hi p hd ho => ?_) (fun i p hd ho => ?_)
    · obtain ⟨e1, e2, e3⟩ := plus_lo (c1 := c1) hi
      obtain ⟨b, cs, T, q1, q2, q3, q4⟩ := hs.box i p (e3.1 hd) (e2 ▸ ho)
      exact ⟨b, cs, T, e1.trans q1, hp q2, q3.mono N, q4⟩
    · obtain ⟨e1, e2, e3⟩ := plus_hi (c := c) (c1 := c1) i
      obtain ⟨o1, h1, h2⟩ := back ho
      cases o1 with
      | box p1 =>
        simp only [SObj.sh, SObj.box.injEq] at h2
        subst h2
        obtain ⟨b, cs, T, q1, q2, q3, q4, q5⟩ := hs1.box i p1 (e3.1 hd) h1
        refine ⟨b, cs, T, e1.trans q1, q2, by rw [PD.sh_cells]; exact q3.shift S, q4, fun t ds h => ?_⟩
        cases p1 with
        | typed t1 ds1 =>
          simp only [PD.sh, PD.typed.injEq] at h
          exact (q5 t1 ds1 rfl).trans h.1
        | _ => simp [PD.sh] at h
      | _ => simp [SObj.sh] at h2
  · refine plus_cases (c := c) (fun i hi e sz m hd ho => ?_) (fun i e sz m hd ho => ?_)
    · obtain ⟨e1, e2, e3⟩ := plus_lo (c1 := c1) hi
      obtain ⟨xs, hx⟩ := hs.own i e sz m (e3.1 hd) (e2 ▸ ho)
      rw [e1]
      exact ⟨xs, own_kept hx (fun g hg => G.block g (hs.lt i g (e3.1 hd) hg) (by simp))⟩
    · obtain ⟨e1, e2, e3⟩ := plus_hi (c := c) (c1 := c1) i
      obtain ⟨o1, h1, h2⟩ := back ho
      cases o1 with
      | own e' sz' m' =>
        simp only [SObj.sh, SObj.own.injEq] at h2
        obtain ⟨rfl, rfl, rfl⟩ := h2
        rw [e1]
        exact hs1.own i _ _ _ (e3.1 hd) h1
      | _ => simp [SObj.sh] at h2
  · refine plus_cases (c := c) (fun i hi e sz ver ds hd ho => ?_) (fun i e sz ver ds hd ho => ?_)
    · obtain ⟨e1, e2, e3⟩ := plus_lo (c1 := c1) hi
      obtain ⟨b, C, cur, q1, q2, q3, q4, q5, q6, q7, q8⟩ := hs.row i e sz ver ds (e3.1 hd) (e2 ▸ ho)
      exact ⟨b, C, cur, e1.trans q1, hp q2, q3, q4, q5, q6, q7.mono N, q8⟩
    · obtain ⟨e1, e2, e3⟩ := plus_hi (c := c) (c1 := c1) i
      obtain ⟨o1, h1, h2⟩ := back ho
      cases o1 with
      | row e' sz' ver' ds' =>
        simp only [SObj.sh, SObj.row.injEq] at h2
        obtain ⟨rfl, rfl, rfl, rfl⟩ := h2
        obtain ⟨b, C, cur, q1, q2, q3, q4, q5, q6, q7, q8⟩ := hs1.row i _ _ _ _ (e3.1 hd) h1
        exact ⟨b, C, cur, e1.trans q1, q2, q3, q4, q5, by rw [PD.shL_len]; exact q6, by rw [PD.shL_len]; exact q7.shift S, q8⟩
      | _ => simp [SObj.sh] at h2
  · refine plus_cases (c := c) (fun i hi es hd ho => ?_) (fun i es hd ho => ?_)
    · obtain ⟨e1, e2, e3⟩ := plus_lo (c1 := c1) hi
      obtain ⟨b, ents, clock, q1, q2, q3, q4⟩ := hs.map i es (e3.1 hd) (e2 ▸ ho)
      exact ⟨b, ents, clock, e1.trans q1, hp q2, q3.mono N, q4.mono N⟩
    · obtain ⟨e1, e2, e3⟩ := plus_hi (c := c) (c1 := c1) i
      obtain ⟨o1, h1, h2⟩ := back ho
      cases o1 with
      | map es' =>
        simp only [SObj.sh, SObj.map.injEq] at h2
        subst h2
        obtain ⟨b, ents, clock, q1, q2, q3, q4⟩ := hs1.map i es' (e3.1 hd) h1
        refine ⟨b, ents, clock, e1.trans q1, q2, ?_, ?_⟩
        · have := q3.shift S
          rw [PD.shL_map, List.map_map] at this
          rw [List.map_map]
          exact this
        · have := q4.shift S
          rw [PD.shL_map, List.map_map] at this
          rw [List.map_map]
          exact this
      | _ => simp [SObj.sh] at h2
  · refine plus_cases (c := c) (fun i hi hd ho => ?_) (fun i hd ho => ?_)
    · obtain ⟨e1, e2, e3⟩ := plus_lo (c1 := c1) hi
      obtain ⟨b, q1, q2⟩ := hs.mark i (e3.1 hd) (e2 ▸ ho)
      exact ⟨b, e1.trans q1, hp q2⟩
    · obtain ⟨e1, e2, e3⟩ := plus_hi (c := c) (c1 := c1) i
      obtain ⟨o1, h1, h2⟩ := back ho
      cases o1 with
      | mark =>
        obtain ⟨b, q1, q2⟩ := hs1.mark i (e3.1 hd) h1
        exact ⟨b, e1.trans q1, q2⟩
      | _ => simp [SObj.sh] at h2
  · refine plus_cases (c := c) (fun i hi st fr ps asg bd hd ho => ?_) (fun i st fr ps asg bd hd ho => ?_)
    · obtain ⟨e1, e2, e3⟩ := plus_lo (c1 := c1) hi
      obtain ⟨b, r, q1, q2, q3, q4, q5, q6, q7⟩ := hs.loop i st fr ps asg bd (e3.1 hd) (e2 ▸ ho)
      exact ⟨b, r, e1.trans q1, hp q2, q3, q4, q5, q6.mono N, q7⟩
    · obtain ⟨e1, e2, e3⟩ := plus_hi (c := c) (c1 := c1) i
      obtain ⟨o1, h1, h2⟩ := back ho
      cases o1 with
      | loop st' fr' ps' asg' bd' =>
        simp only [SObj.sh, SObj.loop.injEq] at h2
        obtain ⟨rfl, rfl, rfl, rfl, rfl⟩ := h2
        obtain ⟨b, r, q1, q2, q3, q4, q5, q6, q7⟩ := hs1.loop i _ _ _ _ _ (e3.1 hd) h1
        exact ⟨b, r, e1.trans q1, q2, q3, q4, q5, q6.shift S, q7⟩
      | _ => simp [SObj.sh] at h2
  · refine plus_cases (c := c) (fun i hi => ?_) (fun i => ?_)
    · obtain ⟨e1, e2, e3⟩ := plus_lo (c1 := c1) hi
      refine plus_cases (c := c) (fun j hj b hd hd' hne hb => ?_) (fun j b hd hd' hne hb => ?_)
      · obtain ⟨f1, f2, f3⟩ := plus_lo (c1 := c1) hj
        rw [e1] at hb
        rw [f1]
        exact hs.inj i j b (e3.1 hd) (f3.1 hd') hne hb
      · obtain ⟨f1, f2, f3⟩ := plus_hi (c := c) (c1 := c1) j
        rw [e1] at hb
        rw [f1]
        intro hb'
        have h1 := plus_new hs nx (f3.1 hd') hb'
        have h2 := hs.lt i b (e3.1 hd) hb
        omega
    · obtain ⟨e1, e2, e3⟩ := plus_hi (c := c) (c1 := c1) i
      refine plus_cases (c := c) (fun j hj b hd hd' hne hb => ?_) (fun j b hd hd' hne hb => ?_)
      · obtain ⟨f1, f2, f3⟩ := plus_lo (c1 := c1) hj
        rw [e1] at hb
        rw [f1]
        intro hb'
        have h1 := plus_new hs nx (e3.1 hd) hb
        have h2 := hs.lt j b (f3.1 hd') hb'
        omega
      · obtain ⟨f1, f2, f3⟩ := plus_hi (c := c) (c1 := c1) j
        rw [e1] at hb
        rw [f1]
        exact hs1.inj i j b (e3.1 hd) (f3.1 hd') (fun e => hne (by rw [e])) hb
  · refine plus_cases (c := c) (fun i hi b hd hb => ?_) (fun i b hd hb => ?_)
    · obtain ⟨e1, e2, e3⟩ := plus_lo (c1 := c1) hi
      rw [e1] at hb
      exact Nat.lt_of_lt_of_le (hs.lt i b (e3.1 hd) hb) G.size
    · obtain ⟨e1, e2, e3⟩ := plus_hi (c := c) (c1 := c1) i
      rw [e1] at hb
      exact hs1.lt i b (e3.1 hd) hb
  · have hlen : (c.plus c1).σ.length = c.σ.length + c1.σ.length := by
      show (c.σ ++ c1.σ.map _).length = _
      rw [List.length_append, List.length_map]
    refine plus_cases (c := c) (fun i hi hd => ?_) (fun i hd => ?_)
    · omega
    · have := hs1.dom i ((plus_hi (c := c) (c1 := c1) i).2.2.1 hd)
      omega
  · exact fun a ha => hs.fresh a (Nat.le_trans G.size ha)
  · exact hs.glob.mono N
end

/-- A function that has been run from an empty store, its answer and its objects brought along. -/
theorem ExtOk.addNew {P : Program} {E : PExt} (hE : ExtOk P E) (hP : P.follows .mixedOrders = true) {f : FuncId} {g : Nat → List PD → List SObj → Option (PD × List SObj)}
    (hg : ∀ fl args σ p σ', g fl args σ = some (p, σ') → ∃ N p1 σ1, pcall P E N 0 (.inl f) (args.map PD.strip) [] = some (p1, σ1) ∧ PD.idfreeL (args.map PD.strip) = true ∧ p = p1.sh σ.length ∧ σ' = σ ++ σ1.map (SObj.sh σ.length)) :
    ExtOk P (E.add f g) := by
  intro F fl f' g' args c vs p σ' hF hg' hgo hs hX hv
  unfold PExt.add at hg'
  split at hg'
  · rename_i e
    subst e
    simp only [Option.some.injEq] at hg'; subst hg'
    obtain ⟨N, p1, σ1, hrun, hfree, rfl, rfl⟩ := hg _ _ _ _ _ hgo
    have hv0 : VRs c.bare vs (args.map PD.strip) := hv.strip.free (fun a v h1 h2 => ⟨(bare_av a).2 h1, h2⟩) hfree
    have := (pcall_ok hE hP hF N).fn (c := c.bare) hrun hs.bare (fun _ _ h => h.elim) hv0
    refine ⟨this.1, fun m => CallsIn.mono (this.2 m) fun e w' he => ?_⟩
    cases e with
    | returned v =>
      obtain ⟨c1, rfl, rfl, hs1, nx, hvv, _⟩ := he
      refine ⟨c.plus c1, rfl, rfl, plus_sr hs hs1 nx, plus_nx hs nx fl, hvv.shift (plus_shv hs nx), fun i hd => ?_⟩
      have hd2 := (plus_sr hs hs1 nx).dom i hd
      by_cases hi : i < c.σ.length
      · exact .inl ((plus_lo hi).2.2.1 hd)
      · exact .inr ⟨by omega, hd2⟩
    | panicked ch => exact he.elim
    | outgrown => exact he.elim
  · exact hE hF hg' hgo hs hX hv

end Go.Kz

/-
  Functions entered as they run: closed runs at their own store, closed runs from an empty store, entries put together.
-/
namespace Go.Kz

/-- What a run at this very store answers. -/
noncomputable def gRun (P : Program) (E : PExt) (N : Nat) (f : FuncId) : Nat → List PD → List SObj → Option (PD × List SObj) := fun fl args σ =>
  match fl with
  | 0 => match pcallF P E N 0 (.inl f) args σ with
    | some (p, o :: σ') => some (p, o :: σ')
    | _ => none
  | _ + 1 => none
theorem gRun_some {P : Program} {E : PExt} {N : Nat} {f : FuncId} {fl : Nat} {args : List PD} {σ : List SObj} {p : PD} {σ' : List SObj} (h : gRun P E N f fl args σ = some (p, σ')) : fl = 0 ∧ σ' ≠ [] ∧ pcallF P E N 0 (.inl f) args σ = some (p, σ') := by
  unfold gRun at h
  split at h
  · split at h
    · rename_i p1 o σ1 hr
      simp only [Option.some.injEq, Prod.mk.injEq] at h
      obtain ⟨rfl, rfl⟩ := h
      exact ⟨rfl, by simp, hr⟩
    · cases h
  · cases h
theorem gRun_of {P : Program} {E : PExt} {N : Nat} {f : FuncId} {args : List PD} {σ : List SObj} {p : PD} {o : SObj} {σ' : List SObj} (h : pcallF P E N 0 (.inl f) args σ = some (p, o :: σ')) : gRun P E N f 0 args σ = some (p, o :: σ') := by
  unfold gRun
  simp only [h]
theorem ExtOk.addRun {P : Program} {E : PExt} (hE : ExtOk P E) (hP : P.follows .mixedOrders = true) (N : Nat) (f : FuncId) : ExtOk P (E.add f (gRun P E N f)) := by
  intro F fl f' g' args c vs p σ' hF hg hgo hs hX hv
  unfold PExt.add at hg
  split at hg
  · rename_i e
    subst e
    simp only [Option.some.injEq] at hg; subst hg
    obtain ⟨rfl, _, hrun⟩ := gRun_some hgo
    rw [pcallF_eq] at hrun
    exact (pcall_ok hE hP hF N).fn hrun hs hX hv
  · exact hE hF hg hgo hs hX hv

/-- What a run from an empty store answers, its objects behind the others. -/
noncomputable def gNew (P : Program) (E : PExt) (N : Nat) (f : FuncId) : Nat → List PD → List SObj → Option (PD × List SObj) := fun _ args σ =>
  match σ with
  | [] => none
  | o :: σ => if PD.idfreeL (args.map PD.strip) = true then
      match pcallF P E N 0 (.inl f) (args.map PD.strip) [] with
      | some (p1, σ1) => some (p1.sh (o :: σ).length, (o :: σ) ++ σ1.map (SObj.sh (o :: σ).length))
      | none => none
    else none
theorem gNew_of {P : Program} {E : PExt} {N : Nat} {f : FuncId} {fl : Nat} {args : List PD} {σ : List SObj} {p1 : PD} {σ1 : List SObj} (h : pcallF P E N 0 (.inl f) (args.map PD.strip) [] = some (p1, σ1)) (hi : PD.idfreeL (args.map PD.strip) = true) (hσ : σ ≠ []) : gNew P E N f fl args σ = some (p1.sh σ.length, σ ++ σ1.map (SObj.sh σ.length)) := by
  unfold gNew
  cases σ with
  | nil => exact absurd rfl hσ
  | cons o σ => simp only [h, hi, if_true]
theorem gNew_not {P : Program} {E : PExt} {N : Nat} {f : FuncId} {fl : Nat} {args : List PD} {σ : List SObj} (hi : PD.idfreeL (args.map PD.strip) = false) : gNew P E N f fl args σ = none := by
  unfold gNew
  cases σ with
  | nil => rfl
  | cons o σ => simp [hi]
theorem ExtOk.addNewR {P : Program} {E : PExt} (hE : ExtOk P E) (hP : P.follows .mixedOrders = true) (N : Nat) (f : FuncId) : ExtOk P (E.add f (gNew P E N f)) := by
  refine hE.addNew hP fun fl args σ p σ' h => ?_
  unfold gNew at h
  cases σ with
  | nil => cases h
  | cons o σ =>
    simp only at h
    split at h
    · rename_i hi
      split at h
      · rename_i p1 σ1 hr
        simp only [Option.some.injEq, Prod.mk.injEq] at h
        rw [pcallF_eq] at hr
        exact ⟨N, p1, σ1, hr, hi, h.1.symm, h.2.symm⟩
      · cases h
    · cases h

/-- What one call from an empty store answers, found by its arguments. -/
noncomputable def gOne (args1 : List PD) (p1 : PD) (σ1 : List SObj) : Nat → List PD → List SObj → Option (PD × List SObj) := fun _ args σ =>
  match σ with
  | [] => none
  | o :: σ => open Classical in if args.map PD.strip = args1 then some (p1.sh (o :: σ).length, (o :: σ) ++ σ1.map (SObj.sh (o :: σ).length)) else none
theorem gOne_of {args1 : List PD} {p1 : PD} {σ1 : List SObj} {fl : Nat} {args : List PD} {σ : List SObj} (h : args.map PD.strip = args1) (hσ : σ ≠ []) : gOne args1 p1 σ1 fl args σ = some (p1.sh σ.length, σ ++ σ1.map (SObj.sh σ.length)) := by
  unfold gOne
  cases σ with
  | nil => exact absurd rfl hσ
  | cons o σ => simp [h]
theorem gOne_not {args1 : List PD} {p1 : PD} {σ1 : List SObj} {fl : Nat} {args : List PD} {σ : List SObj} (h : args.map PD.strip ≠ args1) : gOne args1 p1 σ1 fl args σ = none := by
  unfold gOne
  cases σ with
  | nil => rfl
  | cons o σ => simp [h]
theorem ExtOk.addOne {P : Program} {E : PExt} (hE : ExtOk P E) (hP : P.follows .mixedOrders = true) {f : FuncId} {args1 : List PD} {p1 : PD} {σ1 : List SObj} (hr : ∃ N, pcall P E N 0 (.inl f) args1 [] = some (p1, σ1)) (hi : PD.idfreeL args1 = true) : ExtOk P (E.add f (gOne args1 p1 σ1)) := by
  refine hE.addNew hP fun fl args σ p σ' h => ?_
  unfold gOne at h
  cases σ with
  | nil => cases h
  | cons o σ =>
    simp only at h
    split at h
    · rename_i ha
      simp only [Option.some.injEq, Prod.mk.injEq] at h
      obtain ⟨N, hr⟩ := hr
      exact ⟨N, p1, σ1, by rw [ha]; exact hr, by rw [ha]; exact hi, h.1.symm, h.2.symm⟩
    · cases h

/-- What a closed run answers that keeps no hold of its store. -/
noncomputable def gFree (P : Program) (E : PExt) (N : Nat) (f : FuncId) : List PD → Option PD := fun args =>
  if PD.idfreeL (args.map PD.strip) = true then
    match pcallF P E N 0 (.inl f) (args.map PD.strip) [] with
    | some (p1, σ1) => if (thaw σ1 20 p1).idfree = true then some (thaw σ1 20 p1).strip else none
    | none => none
  else none
noncomputable def gPure (P : Program) (E : PExt) (N : Nat) (f : FuncId) : Nat → List PD → List SObj → Option (PD × List SObj) := fun _ args σ => match gFree P E N f args with | some p => some (p, σ) | none => none
theorem ExtOk.addPure {P : Program} {E : PExt} (hE : ExtOk P E) (hP : P.follows .mixedOrders = true) (N : Nat) (f : FuncId) : ExtOk P (E.add f (gPure P E N f)) := by
  refine hE.addFreeN hP fun args p hg => ?_
  unfold gFree at hg
  split at hg
  · rename_i hi
    split at hg
    · rename_i p1 σ1 hr
      split at hg
      · rename_i ht
        simp only [Option.some.injEq] at hg
        rw [pcallF_eq] at hr
        exact ⟨N, 20, p1, σ1, hr, hg, ht, hi⟩
      · cases hg
    · cases hg
  · cases hg
/-- The answer, checked. -/
noncomputable def chkFree (P : Program) (E : PExt) (N : Nat) (f : FuncId) (args : List PD) (p : PD) : Bool := match gFree P E N f args with
  | some q => bPD 40 q p
  | none => false
theorem gPure_of {P : Program} {E : PExt} {N : Nat} {f : FuncId} {args : List PD} {p : PD} (h : chkFree P E N f args p = true) (fl : Nat) (σ : List SObj) : gPure P E N f fl args σ = some (p, σ) := by
  unfold chkFree at h
  unfold gPure
  cases hg : gFree P E N f args with
  | none => rw [hg] at h; cases h
  | some q =>
    rw [hg] at h
    simp only
    rw [bPD_eq 40 _ _ h]

/-- Two entries put together. -/
def gOr (g1 g2 : Nat → List PD → List SObj → Option (PD × List SObj)) : Nat → List PD → List SObj → Option (PD × List SObj) := fun fl args σ => match g1 fl args σ with
  | some x => some x
  | none => g2 fl args σ
theorem gOr_l {g1 g2 : Nat → List PD → List SObj → Option (PD × List SObj)} {fl : Nat} {args : List PD} {σ : List SObj} {x} (h : g1 fl args σ = some x) : gOr g1 g2 fl args σ = some x := by
  unfold gOr
  rw [h]
theorem gOr_r {g1 g2 : Nat → List PD → List SObj → Option (PD × List SObj)} {fl : Nat} {args : List PD} {σ : List SObj} {x} (h1 : g1 fl args σ = none) (h : g2 fl args σ = x) : gOr g1 g2 fl args σ = x := by
  unfold gOr
  rw [h1]
  exact h
theorem ExtOk.addOr {P : Program} {E : PExt} {f : FuncId} {g1 g2} (h1 : ExtOk P (E.add f g1)) (h2 : ExtOk P (E.add f g2)) : ExtOk P (E.add f (gOr g1 g2)) := by
  intro F fl f' g' args c vs p σ' hF hg hgo hs hX hv
  by_cases e : f' = f
  · have e0 : ∀ g, (E.add f g) f' = some g := fun g => by unfold PExt.add; rw [if_pos e]
    rw [e0] at hg
    simp only [Option.some.injEq] at hg; subst hg
    unfold gOr at hgo
    split at hgo
    · rename_i x hx
      simp only [Option.some.injEq] at hgo; subst hgo
      exact h1 hF (e0 g1) hx hs hX hv
    · exact h2 hF (e0 g2) hgo hs hX hv
  · have e0 : ∀ g g', (E.add f g) f' = (E.add f g') f' := fun g g' => by unfold PExt.add; rw [if_neg e, if_neg e]
    rw [e0 _ g1] at hg
    exact h1 hF hg hgo hs hX hv
theorem Uni.tail {E : PExt} (hU : Uni E) {f : FuncId} {g} (h : ∀ args p, g 0 args [] = some (p, []) → ∀ fl σ, g fl args σ = some (p, σ)) : Uni (E.add f g) := by
  intro f' g' args p hg ha fl σ
  unfold PExt.add at hg
  split at hg
  · simp only [Option.some.injEq] at hg
    subst hg
    exact h args p ha fl σ
  · exact hU f' g' args p hg ha fl σ
/-- Entries that never leave an empty store behind. -/
def NoNil (g : Nat → List PD → List SObj → Option (PD × List SObj)) : Prop := ∀ fl args σ p σ', g fl args σ = some (p, σ') → σ' ≠ []
theorem NoNil.run (P : Program) (E : PExt) (N : Nat) (f : FuncId) : NoNil (gRun P E N f) := fun _ _ _ _ _ h => (gRun_some h).2.1
theorem NoNil.new (P : Program) (E : PExt) (N : Nat) (f : FuncId) : NoNil (gNew P E N f) := fun fl args σ p σ' h => by
  unfold gNew at h
  cases σ with
  | nil => cases h
  | cons o σ =>
    simp only at h
    split at h
    · split at h
      · simp only [Option.some.injEq, Prod.mk.injEq] at h
        rw [← h.2]
        simp
      · cases h
    · cases h
theorem NoNil.one (args1 : List PD) (p1 : PD) (σ1 : List SObj) : NoNil (gOne args1 p1 σ1) := fun fl args σ p σ' h => by
  unfold gOne at h
  cases σ with
  | nil => cases h
  | cons o σ =>
    simp only at h
    split at h
    · simp only [Option.some.injEq, Prod.mk.injEq] at h
      rw [← h.2]
      simp
    · cases h
theorem NoNil.rel {R : List PD → List SObj → PD → List SObj → Prop} (h : ∀ args σ p σ', R args σ p σ' → σ' ≠ []) : NoNil (gRel R) := fun _ _ _ _ _ hg => h _ _ _ _ (gRel_some hg).2
theorem NoNil.or {g1 g2} (h1 : NoNil g1) (h2 : NoNil g2) : NoNil (gOr g1 g2) := fun fl args σ p σ' h => by
  unfold gOr at h
  split at h
  · rename_i x hx
    simp only [Option.some.injEq] at h; subst h
    exact h1 _ _ _ _ _ hx
  · exact h2 _ _ _ _ _ h
theorem Uni.noNil {E : PExt} (hU : Uni E) {f : FuncId} {g} (h : NoNil g) : Uni (E.add f g) := hU.tail fun _ _ ha => absurd rfl (h _ _ _ _ _ ha)
theorem Uni.pure {E : PExt} (hU : Uni E) {P : Program} {E0 : PExt} {N : Nat} {f f0 : FuncId} : Uni (E.add f (gPure P E0 N f0)) := hU.tail fun args p ha fl σ => by
  unfold gPure at ha ⊢
  split at ha
  · simp only [Option.some.injEq, Prod.mk.injEq] at ha
    rw [ha.1]
  · cases ha
end Go.Kz

/-
  Chapter 53: sums of entries, listed.
-/
namespace Go.Kz
open Go Go.Proofs
set_option maxRecDepth 100000
noncomputable def puS : List (List PD × PD) :=
  [([(.slice 1 [(.int .u8 0), (.int .u8 74), (.int .u8 0), (.int .u8 0), (.int .u8 0), (.int .u8 1), (.int .u8 0), (.int .u8 0), (.int .u8 0), (.int .u8 0), (.int .u8 0), (.int .u8 0), (.int .u8 0), (.int .u8 97), (.int .u8 0), (.int .u8 0), (.int .u8 0), (.int .u8 0), (.int .u8 0), (.int .u8 0), (.int .u8 0), (.int .u8 0), (.int .u8 1), (.int .u8 0), (.int .u8 0), (.int .u8 0), (.int .u8 0), (.int .u8 0), (.int .u8 0), (.int .u8 0), (.int .u8 1), (.int .u8 0), (.int .u8 0), (.int .u8 0), (.int .u8 0), (.int .u8 0), (.int .u8 0), (.int .u8 0), (.int .u8 100), (.int .u8 0), (.int .u8 0), (.int .u8 0), (.int .u8 0), (.int .u8 0), (.int .u8 0), (.int .u8 0), (.int .u8 0), (.int .u8 36), (.int .u8 0), (.int .u8 0), (.int .u8 0), (.int .u8 0), (.int .u8 0), (.int .u8 0), (.int .u8 0), (.int .u8 36), (.int .u8 0), (.int .u8 0), (.int .u8 0), (.int .u8 0), (.int .u8 0), (.int .u8 0), (.int .u8 0), (.int .u8 0), (.int .u8 0), (.int .u8 0), (.int .u8 0), (.int .u8 0), (.int .u8 0), (.int .u8 0), (.int .u8 0), (.int .u8 0), (.int .u8 0), (.int .u8 0), (.int .u8 0), (.int .u8 0), (.int .u8 0), (.int .u8 0), (.int .u8 0)] .any)], (.int .u32 1215627611)),
   ([(.slice 1 [(.int .u8 1), (.int .u8 193), (.int .u8 0), (.int .u8 0), (.int .u8 0), (.int .u8 13), (.int .u8 0), (.int .u8 0), (.int .u8 0), (.int .u8 0), (.int .u8 0), (.int .u8 0), (.int .u8 0), (.int .u8 0), (.int .u8 0), (.int .u8 0), (.int .u8 0), (.int .u8 0), (.int .u8 0), (.int .u8 0), (.int .u8 0), (.int .u8 0), (.int .u8 0), (.int .u8 0), (.int .u8 0), (.int .u8 0), (.int .u8 0), (.int .u8 0), (.int .u8 0), (.int .u8 1), (.int .u8 0), (.int .u8 0), (.int .u8 0), (.int .u8 0), (.int .u8 0), (.int .u8 0), (.int .u8 0), (.int .u8 98), (.int .u8 0), (.int .u8 0), (.int .u8 0), (.int .u8 0), (.int .u8 0), (.int .u8 0), (.int .u8 0), (.int .u8 0), (.int .u8 0), (.int .u8 0), (.int .u8 0), (.int .u8 0), (.int .u8 0), (.int .u8 0), (.int .u8 0), (.int .u8 0), (.int .u8 0), (.int .u8 0), (.int .u8 0), (.int .u8 0), (.int .u8 0), (.int .u8 0), (.int .u8 0), (.int .u8 0), (.int .u8 0), (.int .u8 0), (.int .u8 0), (.int .u8 0), (.int .u8 0), (.int .u8 0), (.int .u8 0), (.int .u8 0), (.int .u8 0), (.int .u8 0), (.int .u8 0), (.int .u8 0), (.int .u8 0), (.int .u8 0), (.int .u8 0), (.int .u8 0), (.int .u8 0), (.int .u8 0), (.int .u8 0), (.int .u8 0), (.int .u8 0), (.int .u8 0), (.int .u8 0), (.int .u8 0), (.int .u8 0), (.int .u8 0), (.int .u8 0), (.int .u8 0), (.int .u8 0), (.int .u8 0), (.int .u8 0), (.int .u8 0), (.int .u8 0), (.int .u8 0), (.int .u8 0), (.int .u8 0), (.int .u8 0), (.int .u8 0), (.int .u8 0), (.int .u8 0), (.int .u8 0), (.int .u8 0), (.int .u8 0), (.int .u8 0), (.int .u8 0), (.int .u8 0), (.int .u8 0), (.int .u8 0), (.int .u8 0), (.int .u8 0), (.int .u8 0), (.int .u8 0), (.int .u8 0), (.int .u8 0), (.int .u8 0), (.int .u8 0), (.int .u8 0), (.int .u8 0), (.int .u8 0), (.int .u8 0), (.int .u8 0), (.int .u8 0), (.int .u8 0), (.int .u8 0), (.int .u8 0), (.int .u8 0), (.int .u8 0), (.int .u8 0), (.int .u8 0), (.int .u8 0), (.int .u8 0), (.int .u8 0), (.int .u8 0), (.int .u8 0), (.int .u8 0), (.int .u8 0), (.int .u8 0), (.int .u8 0), (.int .u8 0), (.int .u8 0), (.int .u8 0), (.int .u8 0), (.int .u8 0), (.int .u8 0), (.int .u8 0), (.int .u8 0), (.int .u8 0), (.int .u8 0), (.int .u8 0), (.int .u8 0), (.int .u8 0), (.int .u8 0), (.int .u8 0), (.int .u8 0), (.int .u8 0), (.int .u8 0), (.int .u8 0), (.int .u8 0), (.int .u8 0), (.int .u8 0), (.int .u8 0), (.int .u8 0), (.int .u8 0), (.int .u8 0), (.int .u8 0), (.int .u8 0), (.int .u8 0), (.int .u8 0), (.int .u8 0), (.int .u8 0), (.int .u8 0), (.int .u8 0), (.int .u8 0), (.int .u8 0), (.int .u8 0), (.int .u8 0), (.int .u8 0), (.int .u8 0), (.int .u8 0), (.int .u8 0), (.int .u8 0), (.int .u8 0), (.int .u8 0), (.int .u8 0), (.int .u8 0), (.int .u8 0), (.int .u8 0), (.int .u8 0), (.int .u8 0), (.int .u8 0), (.int .u8 0), (.int .u8 0), (.int .u8 0), (.int .u8 0), (.int .u8 0), (.int .u8 0)] .any)], (.int .u32 3727229235)),
   ([(.slice 1 [(.int .u8 1), (.int .u8 193), (.int .u8 0), (.int .u8 0), (.int .u8 0), (.int .u8 13), (.int .u8 0), (.int .u8 0), (.int .u8 0), (.int .u8 0), (.int .u8 0), (.int .u8 0), (.int .u8 0), (.int .u8 0), (.int .u8 0), (.int .u8 0), (.int .u8 0), (.int .u8 0), (.int .u8 0), (.int .u8 0), (.int .u8 0), (.int .u8 0), (.int .u8 0), (.int .u8 0), (.int .u8 0), (.int .u8 0), (.int .u8 0), (.int .u8 0), (.int .u8 0), (.int .u8 1), (.int .u8 0), (.int .u8 0), (.int .u8 0), (.int .u8 0), (.int .u8 0), (.int .u8 0), (.int .u8 0), (.int .u8 99), (.int .u8 0), (.int .u8 0), (.int .u8 0), (.int .u8 0), (.int .u8 0), (.int .u8 0), (.int .u8 0), (.int .u8 0), (.int .u8 0), (.int .u8 0), (.int .u8 0), (.int .u8 0), (.int .u8 0), (.int .u8 0), (.int .u8 0), (.int .u8 0), (.int .u8 0), (.int .u8 0), (.int .u8 0), (.int .u8 0), (.int .u8 0), (.int .u8 0), (.int .u8 0), (.int .u8 0), (.int .u8 0), (.int .u8 0), (.int .u8 0), (.int .u8 0), (.int .u8 0), (.int .u8 0), (.int .u8 0), (.int .u8 0), (.int .u8 0), (.int .u8 0), (.int .u8 0), (.int .u8 0), (.int .u8 0), (.int .u8 0), (.int .u8 0), (.int .u8 0), (.int .u8 0), (.int .u8 0), (.int .u8 0), (.int .u8 0), (.int .u8 0), (.int .u8 0), (.int .u8 0), (.int .u8 0), (.int .u8 0), (.int .u8 0), (.int .u8 0), (.int .u8 0), (.int .u8 0), (.int .u8 0), (.int .u8 0), (.int .u8 0), (.int .u8 0), (.int .u8 0), (.int .u8 0), (.int .u8 0), (.int .u8 0), (.int .u8 0), (.int .u8 0), (.int .u8 0), (.int .u8 0), (.int .u8 0), (.int .u8 0), (.int .u8 0), (.int .u8 0), (.int .u8 0), (.int .u8 0), (.int .u8 0), (.int .u8 0), (.int .u8 0), (.int .u8 0), (.int .u8 0), (.int .u8 0), (.int .u8 0), (.int .u8 0), (.int .u8 0), (.int .u8 0), (.int .u8 0), (.int .u8 0), (.int .u8 0), (.int .u8 0), (.int .u8 0), (.int .u8 0), (.int .u8 0), (.int .u8 0), (.int .u8 0), (.int .u8 0), (.int .u8 0), (.int .u8 0), (.int .u8 0), (.int .u8 0), (.int .u8 0), (.int .u8 0), (.int .u8 0), (.int .u8 0), (.int .u8 0), (.int .u8 0), (.int .u8 0), (.int .u8 0), (.int .u8 0), (.int .u8 0), (.int .u8 0), (.int .u8 0), (.int .u8 0), (.int .u8 0), (.int .u8 0), (.int .u8 0), (.int .u8 0), (.int .u8 0), (.int .u8 0), (.int .u8 0), (.int .u8 0), (.int .u8 0), (.int .u8 0), (.int .u8 0), (.int .u8 0), (.int .u8 0), (.int .u8 0), (.int .u8 0), (.int .u8 0), (.int .u8 0), (.int .u8 0), (.int .u8 0), (.int .u8 0), (.int .u8 0), (.int .u8 0), (.int .u8 0), (.int .u8 0), (.int .u8 0), (.int .u8 0), (.int .u8 0), (.int .u8 0), (.int .u8 0), (.int .u8 0), (.int .u8 0), (.int .u8 0), (.int .u8 0), (.int .u8 0), (.int .u8 0), (.int .u8 0), (.int .u8 0), (.int .u8 0), (.int .u8 0), (.int .u8 0), (.int .u8 0), (.int .u8 0), (.int .u8 0), (.int .u8 0), (.int .u8 0), (.int .u8 0), (.int .u8 0), (.int .u8 0), (.int .u8 0), (.int .u8 0), (.int .u8 0), (.int .u8 0)] .any)], (.int .u32 3737780532)),
   ([(.slice 1 [(.int .u8 2), (.int .u8 0), (.int .u8 0), (.int .u8 0), (.int .u8 0)] .any)], (.int .u32 983043)),
   ([(.slice 1 [(.int .u8 1), (.int .u8 2), (.int .u8 3)] .any)], (.int .u32 851975)),
   ([(.slice 1 [(.int .u8 3), (.int .u8 0), (.int .u8 0), (.int .u8 0), (.int .u8 0)] .any)], (.int .u32 1310724))]
theorem puS_all : (puS.all (pureRun Tryz.prog Pu4 1000 7)) = true := by kernel_rfl
/-- The table for closed runs of chapter 53's StoreFull. -/
noncomputable def PuS : PExt := Pu4.add 7 (fun _ args σ => match gPures puS args with | some p => some (p, σ) | none => none)
theorem PuS_ok : ExtOk Tryz.prog PuS := Pu4_ok.addPures fol puS puS_all
noncomputable def PuR : PExt := (PuS.add 10 (fun _ args σ => match gPures pu_10 args with | some p => some (p, σ) | none => none)).add 12 (fun _ args σ => match gPures pu_12 args with | some p => some (p, σ) | none => none)
end Go.Kz

/-
  Chapter 53: a store after undos and redos in turn.
-/
namespace Go.Kz
open Go Go.Proofs
set_option maxRecDepth 100000
noncomputable def oA : PD := (.agg [(.str [97]), (.slice 0 [] .any), (.slice 5 [(.agg [(.str [100]), (.bool .false), (.int .i64 36), (.int .i64 36), (.slice 0 [] .any)])] .any), (.slice 0 [] .any)])
noncomputable def oB : PD := (.agg [(.str [98]), (.slice 0 [] .any), (.slice 5 [(.agg [(.str [100]), (.bool .false), (.int .i64 36), (.int .i64 36), (.slice 0 [] .any)])] .any), (.slice 0 [] .any)])
def bs (l : List Nat) : List PD := l.map fun n => .int .u8 (Int.ofNat n)
def is (l : List Nat) : List PD := l.map fun n => .int .i64 (Int.ofNat n)
/-- By a number's parity. -/
def par {α : Type} (i : Nat) (x y : α) : α := match i % 2 with
  | 0 => x
  | _ => y
/-- The journal of the first two entries; those of an undo and a redo. -/
def jb0 : List Nat := 0 :: 74 :: 0 :: 0 :: 0 :: 1 :: 0 :: 0 :: 0 :: 0 :: 0 :: 0 :: 0 :: 97 :: 0 :: 0 :: 0 :: 0 :: 0 :: 0 :: 0 :: 0 :: 1 :: 0 :: 0 :: 0 :: 0 :: 0 :: 0 :: 0 :: 1 :: 0 :: 0 :: 0 :: 0 :: 0 :: 0 :: 0 :: 100 :: 0 :: 0 :: 0 :: 0 :: 0 :: 0 :: 0 :: 0 :: 36 :: 0 :: 0 :: 0 :: 0 :: 0 :: 0 :: 0 :: 36 :: 0 :: 0 :: 0 :: 0 :: 0 :: 0 :: 0 :: 0 :: 0 :: 0 :: 0 :: 0 :: 0 :: 0 :: 0 :: 0 :: 0 :: 0 :: 0 :: 0 :: 0 :: 0 :: 0 :: 91 :: 1 :: 117 :: 72 :: 1 :: 193 :: 0 :: 0 :: 0 :: 13 :: 0 :: 0 :: 0 :: 0 :: 0 :: 0 :: 0 :: 0 :: 0 :: 0 :: 0 :: 0 :: 0 :: 0 :: 0 :: 0 :: 0 :: 0 :: 0 :: 0 :: 0 :: 0 :: 0 :: 1 :: 0 :: 0 :: 0 :: 0 :: 0 :: 0 :: 0 :: 98 :: 0 :: 0 :: 0 :: 0 :: 0 :: 0 :: 0 :: 0 :: 0 :: 0 :: 0 :: 0 :: 0 :: 0 :: 0 :: 0 :: 0 :: 0 :: 0 :: 0 :: 0 :: 0 :: 0 :: 0 :: 0 :: 0 :: 0 :: 0 :: 0 :: 0 :: 0 :: 0 :: 0 :: 0 :: 0 :: 0 :: 0 :: 0 :: 0 :: 0 :: 0 :: 0 :: 0 :: 0 :: 0 :: 0 :: 0 :: 0 :: 0 :: 0 :: 0 :: 0 :: 0 :: 0 :: 0 :: 0 :: 0 :: 0 :: 0 :: 0 :: 0 :: 0 :: 0 :: 0 :: 0 :: 0 :: 0 :: 0 :: 0 :: 0 :: 0 :: 0 :: 0 :: 0 :: 0 :: 0 :: 0 :: 0 :: 0 :: 0 :: 0 :: 0 :: 0 :: 0 :: 0 :: 0 :: 0 :: 0 :: 0 :: 0 :: 0 :: 0 :: 0 :: 0 :: 0 :: 0 :: 0 :: 0 :: 0 :: 0 :: 0 :: 0 :: 0 :: 0 :: 0 :: 0 :: 0 :: 0 :: 0 :: 0 :: 0 :: 0 :: 0 :: 0 :: 0 :: 0 :: 0 :: 0 :: 0 :: 0 :: 0 :: 0 :: 0 :: 0 :: 0 :: 0 :: 0 :: 0 :: 0 :: 0 :: 0 :: 0 :: 0 :: 0 :: 0 :: 0 :: 0 :: 0 :: 0 :: 0 :: 0 :: 0 :: 0 :: 0 :: 0 :: 0 :: 0 :: 0 :: 0 :: 0 :: 0 :: 0 :: 0 :: 0 :: 0 :: 0 :: 0 :: 0 :: 0 :: 0 :: 51 :: 1 :: 41 :: 222 :: []
def eU : List Nat := [2, 0, 0, 0, 0, 3, 0, 15, 0]
def eR : List Nat := [3, 0, 0, 0, 0, 4, 0, 20, 0]
def jbs (i : Nat) : List Nat := jb0 ++ (List.range i).flatMap fun j => par j eU eR
def kis (i : Nat) : List Nat := 1 :: (List.range i).map fun j => par j 2 3
noncomputable def ors (i : Nat) : List PD := oA :: oB :: (List.range i).map fun j => par j oA oB
noncomputable def junkM (i : Nat) : List SObj := (List.range i).flatMap fun j => par j [.box oB, .box oB, .box oA, .own 5 1 9, .own 36 4 1] [.box oA, .box oA, .box oB, .own 5 1 9, .own 36 4 1]
noncomputable def midM : List SObj :=
  [(.box (.agg [(.int .i64 13), (.int .i64 0), (.int .i64 0), (.str [98]), (.str []), (.str []), (.int .i64 0), (.int .i64 0), (.int .i64 0), (.slice 0 [] .any), (.str []), (.bool .false), (.int .i64 0), (.int .i64 0), (.slice 0 [] .any), (.str []), (.int .i64 0), (.int .i64 0), (.slice 0 [] .any), (.str []), (.int .i64 0), (.int .i64 0), (.int .i64 0), (.bool .false)])),
   (.box oA),
   (.box oA),
   (.box oB),
   (.box (.agg [(.slice 1 (bs (13 :: 0 :: 0 :: 0 :: 0 :: 0 :: 0 :: 0 :: 0 :: 0 :: 0 :: 0 :: 0 :: 0 :: 0 :: 0 :: 0 :: 0 :: 0 :: 0 :: 0 :: 0 :: 0 :: 0 :: 1 :: 0 :: 0 :: 0 :: 0 :: 0 :: 0 :: 0 :: 98 :: 0 :: 0 :: 0 :: 0 :: 0 :: 0 :: 0 :: 0 :: 0 :: 0 :: 0 :: 0 :: 0 :: 0 :: 0 :: 0 :: 0 :: 0 :: 0 :: 0 :: 0 :: 0 :: 0 :: 0 :: 0 :: 0 :: 0 :: 0 :: 0 :: 0 :: 0 :: 0 :: 0 :: 0 :: 0 :: 0 :: 0 :: 0 :: 0 :: 0 :: 0 :: 0 :: 0 :: 0 :: 0 :: 0 :: 0 :: 0 :: 0 :: 0 :: 0 :: 0 :: 0 :: 0 :: 0 :: 0 :: 0 :: 0 :: 0 :: 0 :: 0 :: 0 :: 0 :: 0 :: 0 :: 0 :: 0 :: 0 :: 0 :: 0 :: 0 :: 0 :: 0 :: 0 :: 0 :: 0 :: 0 :: 0 :: 0 :: 0 :: 0 :: 0 :: 0 :: 0 :: 0 :: 0 :: 0 :: 0 :: 0 :: 0 :: 0 :: 0 :: 0 :: 0 :: 0 :: 0 :: 0 :: 0 :: 0 :: 0 :: 0 :: 0 :: 0 :: 0 :: 0 :: 0 :: 0 :: 0 :: 0 :: 0 :: 0 :: 0 :: 0 :: 0 :: 0 :: 0 :: 0 :: 0 :: 0 :: 0 :: 0 :: 0 :: 0 :: 0 :: 0 :: 0 :: 0 :: 0 :: 0 :: 0 :: 0 :: 0 :: 0 :: 0 :: 0 :: 0 :: 0 :: 0 :: 0 :: 0 :: 0 :: 0 :: 0 :: 0 :: 0 :: 0 :: 0 :: 0 :: 0 :: 0 :: 0 :: 0 :: 0 :: 0 :: 0 :: 0 :: 0 :: 0 :: 0 :: 0 :: [])) (.own 10))])),
   (.box (.agg [(.int .i64 13), (.int .i64 0), (.int .i64 0), (.str [98]), (.str []), (.str []), (.int .i64 0), (.int .i64 0), (.int .i64 0), (.slice 0 [] .any), (.str []), (.bool .false), (.int .i64 0), (.int .i64 0), (.slice 0 [] .any), (.str []), (.int .i64 0), (.int .i64 0), (.slice 0 [] .any), (.str []), (.int .i64 0), (.int .i64 0), (.int .i64 0), (.bool .false)])),
   (.own 5 1 193),
   (.box (.agg [(.str []), (.str []), (.int .i64 0), (.int .i64 0), (.int .i64 0), (.slice 0 [] .any)])),
   (.box (.agg [(.int .i64 0), (.int .i64 0)])),
   (.box (.agg [(.str []), (.bool .false), (.int .i64 0), (.int .i64 0), (.slice 0 [] .any)])),
   (.box (.ptr 8 0)),
   (.box (.agg [(.str []), (.int .i64 0), (.int .i64 0), (.slice 0 [] .any)])),
   (.box (.agg [(.int .i64 0), (.int .i64 0)])),
   (.box (.agg [(.str []), (.int .i64 0), (.int .i64 0), (.int .i64 0), (.bool .false)])),
   (.box oB),
   (.own 5 1 202)]
noncomputable def boxM (i : Nat) : PD := .agg [.slice 1 (bs (jbs i)) (.own 2), .slice 1 (is (kis i)) (.own 20), .slice 4 (ors i) (.own 21), par i (.slice 4 [oA] (.own (22 + 5 * i))) (.slice 4 [] .full), par i (.slice (if i = 0 then 0 else 4) [] .full) (.slice 4 [oB] (.own (22 + 5 * i)))]
/-- The store of objects after i moves. -/
noncomputable def SM (i : Nat) : List SObj := .box oA :: .box oA :: .own 5 1 (285 + 9 * i) :: .box (boxM i) :: (midM ++ .own 3 1 (1 + i) :: .own 36 4 (2 + i) :: .own 36 4 1 :: junkM i)
/-- A move is made. -/
noncomputable def chkM (i : Nat) : Bool := match pcallF Tryz.prog PuS 1000 0 (.inl (par i 14 15)) [.ptr 3 0] (SM i) with
  | some (.int .i64 e, σ) => (e == 0) && bList bObj σ (SM (i + 1))
  | _ => false
noncomputable def chkV (i : Nat) : Bool := match pcallF Tryz.prog PuS 1000 0 (.inl 13) [.ptr 3 0] (SM i) with
  | some (.int .i64 e, σ) => (e == Int.ofNat (1 + i)) && bList bObj σ (SM i)
  | _ => false
end Go.Kz

/-
  Chapter 53: sums of entries over the bare table, for Decode.
-/
namespace Go.Kz
open Go Go.Proofs
set_option maxRecDepth 100000
theorem puS_all0 : (puS.all (pureRun Tryz.prog ClE 1000 7)) = true := by kernel_rfl
noncomputable def PuD : PExt := ClE.add 7 (fun _ args σ => match gPures puS args with | some p => some (p, σ) | none => none)
theorem PuD_ok : ExtOk Tryz.prog PuD := ClE_ok.addPures fol puS puS_all0
end Go.Kz

/-
  Chapter 53: the store that Open builds from an empty one, after i moves.
-/
namespace Go.Kz
open Go Go.Proofs
set_option maxRecDepth 100000
noncomputable def midO : List SObj :=
  [(.box (.agg [(.slice 1 [] .any), (.bool .false)])),
   (.box (.agg [(.int .i64 13), (.int .i64 0), (.int .i64 0), (.str [98]), (.str []), (.str []), (.int .i64 0), (.int .i64 0), (.int .i64 0), (.slice 0 [] .full), (.str []), (.bool .false), (.int .i64 0), (.int .i64 0), (.slice 0 [] .full), (.str []), (.int .i64 0), (.int .i64 0), (.slice 0 [] .full), (.str []), (.int .i64 0), (.int .i64 0), (.int .i64 0), (.bool .false)])),
   (.box (.agg [(.str []), (.str []), (.int .i64 0), (.int .i64 0), (.int .i64 0), (.slice 0 [] .full)])),
   (.box (.agg [(.int .i64 0), (.int .i64 0)])),
   (.box (.agg [(.str []), (.bool .false), (.int .i64 0), (.int .i64 0), (.slice 0 [] .full)])),
   (.box (.agg [(.str []), (.int .i64 0), (.int .i64 0), (.slice 0 [] .full)])),
   (.box (.agg [(.int .i64 0), (.int .i64 0)])),
   (.box (.agg [(.str []), (.int .i64 0), (.int .i64 0), (.int .i64 0), (.bool .false)])),
   (.box (.agg [(.int .i64 13), (.int .i64 0), (.int .i64 0), (.str [98]), (.str []), (.str []), (.int .i64 0), (.int .i64 0), (.int .i64 0), (.slice 0 [] .full), (.str []), (.bool .false), (.int .i64 0), (.int .i64 0), (.slice 0 [] .full), (.str []), (.int .i64 0), (.int .i64 0), (.slice 0 [] .full), (.str []), (.int .i64 0), (.int .i64 0), (.int .i64 0), (.bool .false)])),
   (.box (.agg [(.int .i64 13), (.int .i64 0), (.int .i64 0), (.str [98]), (.str []), (.str []), (.int .i64 0), (.int .i64 0), (.int .i64 0), (.slice 0 [] .full), (.str []), (.bool .false), (.int .i64 0), (.int .i64 0), (.slice 0 [] .full), (.str []), (.int .i64 0), (.int .i64 0), (.slice 0 [] .full), (.str []), (.int .i64 0), (.int .i64 0), (.int .i64 0), (.bool .false)])),
   (.box oA),
   (.box oA),
   (.box oB),
   (.box (.agg [(.slice 1 (bs (13 :: 0 :: 0 :: 0 :: 0 :: 0 :: 0 :: 0 :: 0 :: 0 :: 0 :: 0 :: 0 :: 0 :: 0 :: 0 :: 0 :: 0 :: 0 :: 0 :: 0 :: 0 :: 0 :: 0 :: 1 :: 0 :: 0 :: 0 :: 0 :: 0 :: 0 :: 0 :: 98 :: 0 :: 0 :: 0 :: 0 :: 0 :: 0 :: 0 :: 0 :: 0 :: 0 :: 0 :: 0 :: 0 :: 0 :: 0 :: 0 :: 0 :: 0 :: 0 :: 0 :: 0 :: 0 :: 0 :: 0 :: 0 :: 0 :: 0 :: 0 :: 0 :: 0 :: 0 :: 0 :: 0 :: 0 :: 0 :: 0 :: 0 :: 0 :: 0 :: 0 :: 0 :: 0 :: 0 :: 0 :: 0 :: 0 :: 0 :: 0 :: 0 :: 0 :: 0 :: 0 :: 0 :: 0 :: 0 :: 0 :: 0 :: 0 :: 0 :: 0 :: 0 :: 0 :: 0 :: 0 :: 0 :: 0 :: 0 :: 0 :: 0 :: 0 :: 0 :: 0 :: 0 :: 0 :: 0 :: 0 :: 0 :: 0 :: 0 :: 0 :: 0 :: 0 :: 0 :: 0 :: 0 :: 0 :: 0 :: 0 :: 0 :: 0 :: 0 :: 0 :: 0 :: 0 :: 0 :: 0 :: 0 :: 0 :: 0 :: 0 :: 0 :: 0 :: 0 :: 0 :: 0 :: 0 :: 0 :: 0 :: 0 :: 0 :: 0 :: 0 :: 0 :: 0 :: 0 :: 0 :: 0 :: 0 :: 0 :: 0 :: 0 :: 0 :: 0 :: 0 :: 0 :: 0 :: 0 :: 0 :: 0 :: 0 :: 0 :: 0 :: 0 :: 0 :: 0 :: 0 :: 0 :: 0 :: 0 :: 0 :: 0 :: 0 :: 0 :: 0 :: 0 :: 0 :: 0 :: 0 :: 0 :: 0 :: 0 :: 0 :: 0 :: 0 :: 0 :: 0 :: 0 :: 0 :: 0 :: 0 :: [])) (.own 18))])),
   (.box (.agg [(.int .i64 13), (.int .i64 0), (.int .i64 0), (.str [98]), (.str []), (.str []), (.int .i64 0), (.int .i64 0), (.int .i64 0), (.slice 0 [] .full), (.str []), (.bool .false), (.int .i64 0), (.int .i64 0), (.slice 0 [] .full), (.str []), (.int .i64 0), (.int .i64 0), (.slice 0 [] .full), (.str []), (.int .i64 0), (.int .i64 0), (.int .i64 0), (.bool .false)])),
   (.own 5 1 193),
   (.box (.agg [(.str []), (.str []), (.int .i64 0), (.int .i64 0), (.int .i64 0), (.slice 0 [] .full)])),
   (.box (.agg [(.int .i64 0), (.int .i64 0)])),
   (.box (.agg [(.str []), (.bool .false), (.int .i64 0), (.int .i64 0), (.slice 0 [] .full)])),
   (.box (.ptr 16 0)),
   (.box (.agg [(.str []), (.int .i64 0), (.int .i64 0), (.slice 0 [] .full)])),
   (.box (.agg [(.int .i64 0), (.int .i64 0)])),
   (.box (.agg [(.str []), (.int .i64 0), (.int .i64 0), (.int .i64 0), (.bool .false)])),
   (.box oB),
   (.own 5 1 202)]
noncomputable def boxO (i : Nat) : PD := .agg [.slice 1 (bs (jbs i)) (.own 1), .slice 1 (is (kis i)) (.own 28), .slice 4 (ors i) (.own 29), par i (.slice 4 [oA] (.own (30 + 5 * i))) (.slice 4 [] .full), par i (.slice (if i = 0 then 0 else 4) [] .full) (.slice 4 [oB] (.own (30 + 5 * i)))]
noncomputable def SO (i : Nat) : List SObj := .box oA :: .own 5 1 (285 + 9 * i) :: .box (boxO i) :: (midO ++ .own 3 1 (1 + i) :: .own 36 4 (2 + i) :: .own 36 4 1 :: junkM i)
/-- The store that begin makes. -/
noncomputable def SB : List SObj :=
  [(.box oA),
   (.own 5 1 83),
   (.box (.agg [(.slice 1 (bs (0 :: 74 :: 0 :: 0 :: 0 :: 1 :: 0 :: 0 :: 0 :: 0 :: 0 :: 0 :: 0 :: 97 :: 0 :: 0 :: 0 :: 0 :: 0 :: 0 :: 0 :: 0 :: 1 :: 0 :: 0 :: 0 :: 0 :: 0 :: 0 :: 0 :: 1 :: 0 :: 0 :: 0 :: 0 :: 0 :: 0 :: 0 :: 100 :: 0 :: 0 :: 0 :: 0 :: 0 :: 0 :: 0 :: 0 :: 36 :: 0 :: 0 :: 0 :: 0 :: 0 :: 0 :: 0 :: 36 :: 0 :: 0 :: 0 :: 0 :: 0 :: 0 :: 0 :: 0 :: 0 :: 0 :: 0 :: 0 :: 0 :: 0 :: 0 :: 0 :: 0 :: 0 :: 0 :: 0 :: 0 :: 0 :: 0 :: 91 :: 1 :: 117 :: 72 :: [])) (.own 1)), (.slice 0 [] .full), (.slice 4 [oA] .full), (.slice 0 [] .full), (.slice 0 [] .full)]))]
/-- The same behind the box of Open's own variable. -/
noncomputable def SP (i : Nat) : List SObj := .box oA :: (SO i).map (SObj.sh 1)
/-- An entry is made again. -/
noncomputable def chkR (i : Nat) : Bool := match pcallF Tryz.prog PuS 1000 0 (.inl 36) [.ptr 3 0, .int .i64 (par i 2 3), .slice 0 [] .any] (SP i) with
  | some (.bool b, σ) => b && bList bObj σ (SP (i + 1))
  | _ => false
end Go.Kz

/-
  Chapter 53: the closed calls of StoreFull but Open's.
-/
namespace Go.Kz
open Go Go.Proofs
set_option maxRecDepth 100000
noncomputable def rB : PD := (.agg [(.int .i64 13), (.int .i64 0), (.int .i64 0), (.str [98]), (.str []), (.str []), (.int .i64 0), (.int .i64 0), (.int .i64 0), (.slice 0 [] .any), (.str []), (.bool .false), (.int .i64 0), (.int .i64 0), (.slice 0 [] .any), (.str []), (.int .i64 0), (.int .i64 0), (.slice 0 [] .any), (.str []), (.int .i64 0), (.int .i64 0), (.int .i64 0), (.bool .false)])
noncomputable def rC : PD := (.agg [(.int .i64 13), (.int .i64 0), (.int .i64 0), (.str [99]), (.str []), (.str []), (.int .i64 0), (.int .i64 0), (.int .i64 0), (.slice 0 [] .any), (.str []), (.bool .false), (.int .i64 0), (.int .i64 0), (.slice 0 [] .any), (.str []), (.int .i64 0), (.int .i64 0), (.slice 0 [] .any), (.str []), (.int .i64 0), (.int .i64 0), (.int .i64 0), (.bool .false)])
def zE : PD := (.agg [.int .i64 0, .int .i64 0, .int .i64 0, .str [], .str [], .str [], .int .i64 0, .int .i64 0, .int .i64 0, .slice 0 [] .full, .str [], .bool false, .int .i64 0, .int .i64 0, .slice 0 [] .full, .str [], .int .i64 0, .int .i64 0, .slice 0 [] .full, .str [], .int .i64 0, .int .i64 0, .int .i64 0, .bool false])
noncomputable def S0 : List SObj :=
  [(.box oA),
   (.box oA),
   (.own 5 1 83),
   (.box (.agg [(.slice 1 (bs (0 :: 74 :: 0 :: 0 :: 0 :: 1 :: 0 :: 0 :: 0 :: 0 :: 0 :: 0 :: 0 :: 97 :: 0 :: 0 :: 0 :: 0 :: 0 :: 0 :: 0 :: 0 :: 1 :: 0 :: 0 :: 0 :: 0 :: 0 :: 0 :: 0 :: 1 :: 0 :: 0 :: 0 :: 0 :: 0 :: 0 :: 0 :: 100 :: 0 :: 0 :: 0 :: 0 :: 0 :: 0 :: 0 :: 0 :: 36 :: 0 :: 0 :: 0 :: 0 :: 0 :: 0 :: 0 :: 36 :: 0 :: 0 :: 0 :: 0 :: 0 :: 0 :: 0 :: 0 :: 0 :: 0 :: 0 :: 0 :: 0 :: 0 :: 0 :: 0 :: 0 :: 0 :: 0 :: 0 :: 0 :: 0 :: 0 :: 91 :: 1 :: 117 :: 72 :: [])) (.own 2)), (.slice 0 [] .full), (.slice 4 [oA] .full), (.slice 0 [] .full), (.slice 0 [] .full)]))]
noncomputable def J199 : List PD := bs (jbs 199)
noncomputable def X1 : List SObj := SM 199 ++ [.own 5 1 2076]
noncomputable def X2 : List SObj := X1 ++ [.box rC]
noncomputable def X3 : List SObj := X2 ++ [.box zE]
noncomputable def X4 : List SObj := X3 ++ [.own 5 1 2076]
noncomputable def X5 : List SObj := X4 ++ [.own 5 1 2076]
noncomputable def X6 : List SObj := X5 ++ [.own 5 1 9]
noncomputable def X7 : List SObj := X4 ++ [.own 5 1 2085, .own 5 1 9]
def eK (k : Int) : List PD := if k = 2 then bs eU else bs eR
/-- A closed call ends so. -/
noncomputable def chkC (f : Nat) (args : List PD) (σ : List SObj) (p : PD) (σ' : List SObj) : Bool := match pcallF Tryz.prog PuR 1000 0 (.inl f) args σ with
  | some (q, τ) => bPD 40 q p && bList bObj τ σ'
  | none => false
/-- The same over the table without tiny and rename. -/
noncomputable def chkS (f : Nat) (args : List PD) (σ : List SObj) (p : PD) (σ' : List SObj) : Bool := match pcallF Tryz.prog PuS 1000 0 (.inl f) args σ with
  | some (q, τ) => bPD 40 q p && bList bObj τ σ'
  | none => false
end Go.Kz
