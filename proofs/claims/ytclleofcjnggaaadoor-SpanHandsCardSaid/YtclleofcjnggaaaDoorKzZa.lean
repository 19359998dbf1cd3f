/-
  A function whose runs begin in an empty store and end in a datum that names no object: it stands in the table for every store.
-/
import Derived.Test.YtclleofcjnggaaaDoorKzZ
set_option linter.all false
namespace Go.Kz

/-- The same world, and nothing known of the store. -/
def Cx.bare (c : Cx) : Cx := { w := c.w, ρ := fun _ => undef, σ := [], D := fun _ => False, X := c.av }

theorem av_fresh {c : Cx} (hs : Sr c) {a : Addr} (h : c.w.heap.size ≤ a.block) : c.av a := by
  refine ⟨hs.fresh a h, fun id o hd ho => ?_⟩
  have key : ∀ b, blk (c.ρ id) = some b → a.block ≠ b := fun b hb e => by
    have := hs.lt id b hd hb
    omega
  cases o with
  | none => trivial
  | box p => exact key
  | own e size n => intro b hb e; exact absurd e (key b hb)
  | mark => trivial
  | loop st fr ps as bd => trivial

theorem bare_av {c : Cx} (a : Addr) : c.bare.av a ↔ c.av a := ⟨fun h => h.1, fun h => ⟨h, fun _ _ hd => hd.elim⟩⟩

theorem gcells_free {g : Nat} {ds : List PD} (h : gcells g = some ds) : PD.idfreeL ds = true := by
  unfold gcells at h
  split at h
  · simp only [Option.some.injEq] at h; subst h
    rw [PD.idfreeL_all]
    simp only [List.all_eq_true, List.mem_map]
    rintro x ⟨y, _, rfl⟩
    simp [PD.idfree]
  · simp at h

theorem Sr.bare {c : Cx} (hs : Sr c) : Sr c.bare where
  box := fun _ _ h => h.elim
  own := fun _ _ _ _ h => h.elim
  mark := fun _ h => h.elim
  loop := fun _ _ _ _ _ _ h => h.elim
  inj := fun _ _ _ h => h.elim
  lt := fun _ _ h => h.elim
  dom := fun _ h => h.elim
  fresh := fun _ h => av_fresh hs h
  glob := fun g ds e => (hs.glob g ds e).free (fun a v h1 h2 => ⟨(bare_av a).2 h1, h2⟩) (by simpa [PD.idfree] using gcells_free e)

/-- **The table, one more.** -/
theorem ExtOk.addFree {P : Program} {E : PExt} (hE : ExtOk P E) (hP : P.follows .mixedOrders = true) {f : FuncId} {g : List PD → Option PD}
    (h : ∀ args p, g args = some p → ∃ p1 σ1, EvC P E 0 (.inl f) (args.map PD.strip) [] p1 σ1 ∧ p1.strip = p ∧ PD.idfreeL (args.map PD.strip) = true ∧ p.idfree = true) :
    ExtOk P (E.add f (fun _ args σ => match g args with | some p => some (p, σ) | none => none)) := by
  intro F fl f' g' args c vs p σ' hF hg hgo hs hX hv
  unfold PExt.add at hg
  split at hg
  · rename_i e
    subst e
    simp only [Option.some.injEq] at hg; subst hg
    cases hga : g args with
    | none => simp only [hga] at hgo; cases hgo
    | some q =>
      simp only [hga, Option.some.injEq, Prod.mk.injEq] at hgo
      obtain ⟨rfl, rfl⟩ := hgo
      obtain ⟨p1, σ1, ⟨N, hN⟩, e1, e2, e3⟩ := h args q hga
      have hv0 : VRs c.bare vs (args.map PD.strip) := hv.strip.free (fun a v h1 h2 => ⟨(bare_av a).2 h1, h2⟩) e2
      have := (pcall_ok hE hP hF N).fn (c := c.bare) (hN N (Nat.le_refl _)) hs.bare (fun _ _ h => h.elim) hv0
      refine ⟨this.1, fun m => CallsIn.mono (this.2 m) fun e w' he => ?_⟩
      cases e with
      | returned v =>
        obtain ⟨c1, rfl, rfl, hs1, nx, hvv, _⟩ := he
        have hgr : c.w.grownBy c1.w none := ⟨nx.os, nx.tape, nx.output, nx.size, fun k hk _ => nx.frame k hk (fun _ h => h.elim)⟩
        refine ⟨c.at c1.w, rfl, rfl, hs.grow hgr, Nx.grow hs hgr, ?_, fun _ h => .inl h⟩
        have hp := hvv.strip
        rw [e1] at hp
        have hav : ∀ a, c1.av a → (c.at c1.w).av a := fun a h1 => by
          have h3 : c1.X a := h1.1
          rw [nx.X] at h3
          exact h3
        exact VR.free (c := c1) (c' := c.at c1.w) (fun a _ h1 h2 => ⟨hav a h1, h2⟩) hp e3
      | panicked ch => exact he.elim
      | outgrown => exact he.elim
  · exact hE hF hg hgo hs hX hv

end Go.Kz
