/-
  Part PIn of the way: an interpreter over pure data, its soundness, walks through functions.
-/
import Derived.Test.YtkmkgiaejlkjlaaGreatP9
set_option linter.all false

/-
  Chapter 53: entries 180 to 187 made again.
-/
namespace Go.Kz
open Go Go.Proofs
set_option maxRecDepth 100000
theorem rp_180 : ((List.range' 180 8).all chkR) = true := by kernel_rfl
end Go.Kz
