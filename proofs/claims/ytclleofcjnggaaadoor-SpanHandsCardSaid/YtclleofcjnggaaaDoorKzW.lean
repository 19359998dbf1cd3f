/-
  From the pure call to a call from a handed start.
-/
import Derived.Test.YtclleofcjnggaaaDoorKzV
import Derived.Below
set_option linter.all false
namespace Go.Kz
open Go.RowKit

/-- Nothing is known of the world but the plain tables. -/
def Cx.start (w : World) : Cx := { w := w, ρ := fun _ => undef, σ := [], D := fun _ => False, X := fun _ => True }

theorem Sr.start {w : World} (hg : Gl (.start w)) : Sr (.start w) where
  box := fun _ _ h => h.elim
  own := fun _ _ _ _ h => h.elim
  mark := fun _ h => h.elim
  loop := fun _ _ _ _ _ _ h => h.elim
  inj := fun _ _ _ h => h.elim
  lt := fun _ _ h => h.elim
  dom := fun _ h => h.elim
  fresh := fun _ _ => trivial
  glob := hg

theorem av_start {w : World} (a : Addr) : (Cx.start w).av a := ⟨trivial, fun _ _ h => h.elim⟩

theorem open_wide {P : Program} (hN : ∀ (f : FuncId) fn, P.funcs[f]? = some fn → (fn.name == "runtime.NumGoroutine") = false) : Open Fence.wide P := ⟨fun _ => trivial, rfl, hN⟩

/-- **The bridge.** -/
theorem calls_of_pcall {P : Program} {E : PExt} (hE : ExtOk P E) (hP : P.follows .mixedOrders = true) (hN : ∀ (f : FuncId) fn, P.funcs[f]? = some fn → (fn.name == "runtime.NumGoroutine") = false)
    {n : Nat} {f : FuncId} {args : List PD} {vs : List Value} {w : World} {p : PD} {σ' : List SObj} (h : pcall P E n 0 (.inl f) args [] = some (p, σ')) (hg : Gl (.start w)) (hv : VRs (.start w) vs args) :
    Calls P f vs.toArray w fun e w' => ∃ v c', e = .returned v ∧ c'.w = w' ∧ VR c' v p ∧ Nx 0 (.start w) c' ∧ Below w.heap.size w w' := by
  have := ((pcall_ok hE hP (open_wide hN) n).fn (c := .start w) (fl := 0) h (.start hg) (fun _ _ h => h.elim) hv).2 0
  refine Calls.mono (callsIn_wide.1 this) fun e w' he => ?_
  cases e with
  | returned v =>
    obtain ⟨c', e1, _, _, nx, hvv, _⟩ := he
    refine ⟨v, c', rfl, e1, hvv, nx, ?_⟩
    subst e1
    exact ⟨nx.os, nx.tape, nx.output, nx.size, fun k hk => nx.frame k hk (fun _ h => h.elim)⟩
  | panicked ch => exact he.elim
  | outgrown => exact he.elim

/-- The same, of a plain answer. -/
theorem calls_bool {P : Program} {E : PExt} (hE : ExtOk P E) (hP : P.follows .mixedOrders = true) (hN : ∀ (f : FuncId) fn, P.funcs[f]? = some fn → (fn.name == "runtime.NumGoroutine") = false)
    {n : Nat} {f : FuncId} {args : List PD} {vs : List Value} {w : World} {b : Bool} {σ' : List SObj} (h : pcall P E n 0 (.inl f) args [] = some (.bool b, σ')) (hg : Gl (.start w)) (hv : VRs (.start w) vs args) :
    Calls P f vs.toArray w fun e w' => e = .returned (.bool b) ∧ Below w.heap.size w w' := by
  refine Calls.mono (calls_of_pcall hE hP hN h hg hv) fun e w' ⟨v, c', h1, h2, h3, h4, h5⟩ => ?_
  rw [h3.inv_bool] at h1
  exact ⟨h1, h5⟩

theorem noExt (P : Program) : ExtOk P (fun _ => none) := by
  intro F fl f g args c vs p σ' _ h
  cases h

end Go.Kz
