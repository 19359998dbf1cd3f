/-
  Part PD of the way: an interpreter over pure data, its soundness, walks through functions.
-/
import Derived.Test.YtkmkgiaejlkjlaaGreatP9
set_option linter.all false

/-
  Chapter 53: the first and the last entry that Open makes again.
-/
namespace Go.Kz
open Go Go.Proofs
set_option maxRecDepth 100000
noncomputable def chkP (args : List PD) (σ : List SObj) (p : PD) (σ' : List SObj) : Bool := match pcallF Tryz.prog PuS 1000 0 (.inl 36) args σ with
  | some (q, τ) => bPD 40 q p && bList bObj τ σ'
  | none => false
theorem rp_first : chkP [.ptr 3 0, .int .i64 1, .slice 1 (bs ((jb0.drop 88).take 193)) .any] (.box oA :: SB.map (SObj.sh 1)) (.bool true) (SP 0) = true := by kernel_rfl
theorem rp_last2 : chkP [.ptr 3 0, .int .i64 2, .slice 0 [] .any] (SP 199) (.bool false) (SP 199) = true := by kernel_rfl
theorem rp_last3 : chkP [.ptr 3 0, .int .i64 3, .slice 0 [] .any] (SP 199) (.bool false) (SP 199) = true := by kernel_rfl
end Go.Kz
