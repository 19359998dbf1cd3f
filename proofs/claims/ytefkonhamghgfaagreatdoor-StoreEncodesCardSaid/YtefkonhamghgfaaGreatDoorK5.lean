/-
  Part K5 of the way: an interpreter over pure data, its soundness, walks through functions.
-/
import Derived.Test.YtefkonhamghgfaaGreatDoorK4
set_option linter.all false

set_option maxHeartbeats 40000000
open Go.Proofs.Tryz
namespace Go.Kz
open Go Go.Proofs
set_option maxRecDepth 100000
theorem aMa:aE prog (PuE.add 5 (entry (uH Em.bool (some true)))):=aP7.aHE (f:=5) (N:=1000) aU (by kernel_rfl)
end Go.Kz
