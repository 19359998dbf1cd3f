/-
  From a pure run that answers true to the law: what stands behind the call.
-/
import Derived.Test.YtclleofcjnggaaaDoorKzZh
import Derived.ProofKit
import Derived.LaidMore
import Derived.OpenShut
import Derived.Stop.Joined
set_option linter.all false
namespace Go.Kz
open Go.RowKit Go.ChangeShapes

/-- A closed call, run once. -/
theorem ExtOk.addOnce {P : Program} {E : PExt} (hE : ExtOk P E) (hP : P.follows .mixedOrders = true) {f : FuncId} {b : Bool} {N : Nat} {σ1 : List SObj} (h : pcall P E N 0 (.inl f) [] [] = some (.bool b, σ1)) :
    ExtOk P (E.add f (entry (gf0 Em.bool (some b)))) := by
  intro F fl f' g' args c vs p σ' hF hg hgo hs hX hv
  unfold PExt.add at hg
  split at hg
  · rename_i e
    subst e
    simp only [Option.some.injEq] at hg; subst hg
    match args, hgo, hv with
    | [], hgo, hv =>
      simp only [entry, gf0, Option.some.injEq, Prod.mk.injEq] at hgo
      obtain ⟨rfl, rfl⟩ := hgo
      have hv0 : VRs c.bare vs [] := ⟨hv.1, fun i v d _ h2 => by simp at h2⟩
      have := (pcall_ok hE hP hF N).fn (c := c.bare) h hs.bare (fun _ _ h => h.elim) hv0
      refine ⟨this.1, fun m => CallsIn.mono (this.2 m) fun e w' he => ?_⟩
      cases e with
      | returned v =>
        obtain ⟨c1, rfl, rfl, hs1, nx, hvv, _⟩ := he
        have hgr : c.w.grownBy c1.w none := ⟨nx.os, nx.tape, nx.output, nx.size, fun k hk _ => nx.frame k hk (fun _ h => h.elim)⟩
        refine ⟨c.at c1.w, rfl, rfl, hs.grow hgr, Nx.grow hs hgr, ?_, fun _ h => .inl h⟩
        rw [hvv.inv_bool]
        exact .bool b
      | panicked ch => exact he.elim
      | outgrown => exact he.elim
  · exact hE hF hg hgo hs hX hv

theorem Run.calls {P : Program} {E : PExt} (hE : ExtOk P E) (hP : P.follows .mixedOrders = true) (hN : ∀ (f : FuncId) fn, P.funcs[f]? = some fn → (fn.name == "runtime.NumGoroutine") = false)
    {f : FuncId} {args : List PD} {vs : Array Value} {w : World} {b : Bool} (h : Run P E f args (.bool b)) (hg : Gl (.start w)) (hv : VRs (.start w) vs.toList args) :
    Calls P f vs w fun e w' => e = .returned (.bool b) ∧ Below w.heap.size w w' := by
  obtain ⟨p1, σ1, ⟨N, hN'⟩, hp⟩ := h
  have hb : p1 = .bool b := by
    cases p1 with
    | slice n xs tok => cases xs <;> simp [PD.strip] at hp
    | _ => simpa [PD.strip] using hp
  subst hb
  have := calls_bool hE hP hN (hN' N (Nat.le_refl _)) hg hv
  simpa using this

section
variable {H : Type} {enc : TypeId × Value → H} {P : Program}

theorem trodAll_below (hl : laidOutB P = true) {W W' : World} (hb : Below W.heap.size W W') : ∀ (ts : List TypeId) (vs : List Value) (ds : List (DataW H)) (ps : List MemPlace), (∀ t ∈ ts, P.readableRec t = true ∧ t < P.types.size) → (∀ x ∈ ps, x.block < W.heap.size) →
    DataW.TrodAll enc P W 0 (fun _ => true) true ts vs ds ps → DataW.TrodAll enc P W' 0 (fun b => decide (b < W.heap.size)) true ts vs ds ps
  | [], [], [], _, _, _, h => h
  | t :: ts, v :: vs, d :: ds, ps, ht, hp, h => by
    obtain ⟨p, q, h1, h2, rfl⟩ := h
    obtain ⟨h3, h4⟩ := ht t (by simp)
    exact ⟨p, q, Below.trod hl h3 h4 h1 hb (fun x hx => hp x (by simp [hx])), trodAll_below hl hb ts vs ds q (fun t' h' => ht t' (by simp [h'])) (fun x hx => hp x (by simp [hx])) h2, rfl⟩
  | [], [], _ :: _, _, _, _, h => h.elim
  | [], _ :: _, _, _, _, _, h => by cases h
  | _ :: _, [], _, _, _, _, h => by cases h
  | _ :: _, _ :: _, [], _, _, _, h => h.elim

/-- The law's answer is true, and its arguments read as they did. -/
theorem law_post (hl : laidOutB P = true) {f : Func} {s : ChangeSpec} {W W' : World} {args : Array Value} {ds gs : List (DataW H)} {before : List MemPlace} {tb : TypeId} (hvars : s.vars = [])
    (hW : DataW.Whole enc P f.params.toList s.vars false W args.toList ds gs before) (hb : Below W.heap.size W W') (hres : f.resultTypes = #[tb]) (htb : P.underlying tb = some .bool)
    (hps : (f.params.toList.all fun t => P.readableRec t && decide (t < P.types.size)) = true) (hs : ∀ ds : List (DataW H), gs = [] → ds.length = f.params.size → s.fn H (ds ++ gs) = { results := [.lit (.bool true)], args := ds }) :
    s.post enc P f false true false false W args (.bool true) W' := by
  have hW' := hW
  obtain ⟨p, q, hA, hV, rfl, hfz, hnd⟩ := hW
  rw [hvars] at hV
  obtain ⟨rfl, rfl⟩ : gs = [] ∧ q = [] := by
    cases gs with
    | nil => exact ⟨rfl, hV⟩
    | cons g r => exact absurd hV (by intro h; cases h)
  have hlen : ds.length = f.params.size := by
    have : ∀ (ts : List TypeId) (vs : List Value) (ds : List (DataW H)) (ps : List MemPlace), DataW.TrodAll enc P W 0 (fun _ => true) true ts vs ds ps → ds.length = ts.length := by
      intro ts
      induction ts with
      | nil =>
        intro vs ds ps h
        cases vs <;> cases ds <;> first | rfl | (exact h.elim) | cases h
      | cons t ts ih =>
        intro vs ds ps h
        cases vs with
        | nil => cases h
        | cons v vs =>
          cases ds with
          | nil => exact h.elim
          | cons d ds =>
            obtain ⟨p, q, _, h2, _⟩ := h
            simp [ih vs ds q h2]
    have := this _ _ _ _ hA
    simpa using this
  have e := hs ds rfl hlen
  have hlt : ∀ x ∈ p, x.block < W.heap.size := fun x hx => by simpa using hW'.lt x (by simpa using hx)
  refine ⟨ds, [], _, [], p, [], hW', ?_, ?_, ?_, hb.frame _, fun h => by cases h⟩
  · rw [e, hres]; exact trodAll_mk1 (shut_bool htb true)
  · rw [e]
    exact trodAll_below hl hb _ _ _ _ (fun t ht => by simpa using List.all_eq_true.1 hps t ht) hlt hA
  · rw [e, hvars]; rfl

end
end Go.Kz
