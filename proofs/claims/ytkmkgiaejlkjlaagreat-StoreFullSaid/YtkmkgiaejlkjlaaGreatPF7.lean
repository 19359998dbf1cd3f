/-
  Part PF7 of the way: an interpreter over pure data, its soundness, walks through functions.
-/
import Derived.Test.YtkmkgiaejlkjlaaGreatP9
set_option linter.all false

/-
  Chapter 53: closed calls of StoreFull, part 7.
-/
namespace Go.Kz
open Go Go.Proofs
set_option maxRecDepth 100000
theorem c_version3 : ((List.range' 150 50).all chkV) = true := by kernel_rfl
end Go.Kz
