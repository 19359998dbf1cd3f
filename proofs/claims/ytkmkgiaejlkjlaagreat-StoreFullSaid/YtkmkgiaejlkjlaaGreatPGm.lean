/-
  Part PGm of the way: an interpreter over pure data, its soundness, walks through functions.
-/
import Derived.Test.YtkmkgiaejlkjlaaGreatP9
set_option linter.all false

/-
  Chapter 53: moves 172 to 179.
-/
namespace Go.Kz
open Go Go.Proofs
set_option maxRecDepth 100000
theorem mv_172 : ((List.range' 172 8).all chkM) = true := by kernel_rfl
end Go.Kz
