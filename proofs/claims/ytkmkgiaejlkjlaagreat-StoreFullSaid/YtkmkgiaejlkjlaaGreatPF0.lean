/-
  Part PF0 of the way: an interpreter over pure data, its soundness, walks through functions.
-/
import Derived.Test.YtkmkgiaejlkjlaaGreatP9
set_option linter.all false

/-
  Chapter 53: closed calls of StoreFull, part 0.
-/
namespace Go.Kz
open Go Go.Proofs
set_option maxRecDepth 100000
theorem c_tiny : chkC 10 [.str [97]] [] oA [] = true := by kernel_rfl
theorem c_new : chkC 9 [oA] [] (.tup [.ptr 3 0, .int .i64 0]) S0 = true := by kernel_rfl
theorem c_edit : chkC 11 [.ptr 3 0, rB] S0 (.int .i64 0) (SM 0) = true := by kernel_rfl
end Go.Kz

/-
  Chapter 53: closed calls of StoreFull, part 1.
-/
namespace Go.Kz
open Go Go.Proofs
set_option maxRecDepth 100000
theorem c_bytes : chkC 16 [.ptr 3 0] (SM 199) (.slice 1 J199 (.own 1018)) X1 = true := by kernel_rfl
theorem c_undo : chkS 14 [.ptr 3 0] X1 (.int .i64 4) X1 = true := by kernel_rfl
theorem c_redo : chkS 15 [.ptr 3 0] X1 (.int .i64 4) X1 = true := by kernel_rfl
theorem c_edit2 : chkC 11 [.ptr 3 0, rC] X1 (.int .i64 4) X2 = true := by kernel_rfl
theorem c_edit3 : chkC 11 [.ptr 3 0, zE] X2 (.int .i64 4) X3 = true := by kernel_rfl
end Go.Kz

/-
  Chapter 53: closed calls of StoreFull, part 2.
-/
namespace Go.Kz
open Go Go.Proofs
set_option maxRecDepth 100000
theorem c_bytes2 : chkC 16 [.ptr 3 0] X3 (.slice 1 J199 (.own 1021)) X4 = true := by kernel_rfl
theorem c_clone : chkC 19 [.slice 1 J199 (.own 1018)] X4 (.slice 1 J199 (.own 1022)) X5 = true := by kernel_rfl
end Go.Kz

/-
  Chapter 53: closed calls of StoreFull, part 3.
-/
namespace Go.Kz
open Go Go.Proofs
set_option maxRecDepth 100000
theorem c_entry2 : chkC 20 [.int .i64 2, .slice 0 [] .full] X5 (.slice 1 (eK 2) (.own 1023)) X6 = true := by kernel_rfl
theorem c_entry3 : chkC 20 [.int .i64 3, .slice 0 [] .full] X5 (.slice 1 (eK 3) (.own 1023)) X6 = true := by kernel_rfl
end Go.Kz
