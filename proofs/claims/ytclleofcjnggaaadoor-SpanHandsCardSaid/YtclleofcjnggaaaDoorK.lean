/-
  The base of the table: the chapter's examples.
-/
import Derived.Test.YtclleofcjnggaaaDoorK1
set_option linter.all false
namespace Go.Kz
open Go.Proofs

theorem follows : Tryd.prog.follows .mixedOrders = true := by kernel_rfl
theorem named : (Tryd.prog.funcs.toList.all fun fn => !(fn.name == "runtime.NumGoroutine")) = true := by kernel_rfl
theorem names (f : FuncId) (fn : Func) (h : Tryd.prog.funcs[f]? = some fn) : (fn.name == "runtime.NumGoroutine") = false := by
  have := List.all_eq_true.1 named fn (Array.mem_toList_iff.2 (Array.mem_of_getElem? h))
  simpa using this

noncomputable def E0 : PExt := PExt.add (fun _ => none) 12 (entry (gf0 Em.bool (some true)))
theorem E0_ok : ExtOk Tryd.prog E0 := by
  have h := known_run
  split at h
  · rename_i σ1 hr
    have h0 : ExtOk Tryd.prog (fun _ => none) := noExt _
    exact @ExtOk.addOnce Tryd.prog (fun _ => none) h0 follows 12 true 1000 σ1 hr
  · cases h

end Go.Kz
