/-
  Part P6 of the way: an interpreter over pure data, its soundness, walks through functions.
-/
import Derived.Test.YtkmkgiaejlkjlaaGreatP5
set_option linter.all false

/-
  The closed calls of function 32 run.
-/
set_option maxRecDepth 100000
namespace Go.Kz
open Go Go.Proofs
theorem pu_32_all : (pu_32.all (pureRun Tryz.prog Pu2 1000 32)) = true := by kernel_rfl
end Go.Kz
