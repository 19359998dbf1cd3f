/-
  Part PGa of the way: an interpreter over pure data, its soundness, walks through functions.
-/
import Derived.Test.YtkmkgiaejlkjlaaGreatP9
set_option linter.all false

/-
  Chapter 53: moves 0 to 27.
-/
namespace Go.Kz
open Go Go.Proofs
set_option maxRecDepth 100000
theorem mv_0 : ((List.range' 0 28).all chkM) = true := by kernel_rfl
end Go.Kz
