/-
  Part K3 of the way: an interpreter over pure data, its soundness, walks through functions.
-/
import Derived.Test.YtefkonhamghgfaaGreatDoorK0
set_option linter.all false

set_option maxRecDepth 100000
namespace Go.Kz
open Go Go.Proofs
theorem pu_20_all:(pu_20.all (pureRun Tryz.prog Pu4 1000 20))=true:=by kernel_rfl
end Go.Kz
