/-
  Part PGh of the way: an interpreter over pure data, its soundness, walks through functions.
-/
import Derived.Test.YtkmkgiaejlkjlaaGreatP9
set_option linter.all false

/-
  Chapter 53: moves 123 to 133.
-/
namespace Go.Kz
open Go Go.Proofs
set_option maxRecDepth 100000
theorem mv_123 : ((List.range' 123 11).all chkM) = true := by kernel_rfl
end Go.Kz
