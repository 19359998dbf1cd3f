/-
  Part K5 of the way: an interpreter over pure data, its soundness, walks through functions.
-/
import Derived.Test.YtefkonhamghgfaaGreatDoorK4
set_option linter.all false

namespace Go.Kz
open Go Go.Proofs
set_option maxRecDepth 100000
theorem PuK_ok:ExtOk Tryz.prog (PuE.add 5 (entry (gf0 Em.bool (some true)))):=PuE_ok.addOnceF (f:=5) (N:=1000) fol (by kernel_rfl)
end Go.Kz
