/-
  Part K1 of the way: an interpreter over pure data, its soundness, walks through functions.
-/
import Derived.Test.YtefkonhamghgfaaGreatDoorK0
set_option linter.all false

set_option maxRecDepth 100000
namespace Go.Kz
open Go Go.Proofs
theorem pu_60_all:(pu_60.all (pureRun Tryz.prog Pu0 1000 60))=true:=by kernel_rfl
end Go.Kz

set_option maxRecDepth 100000
namespace Go.Kz
open Go Go.Proofs
theorem pu_10_all:(pu_10.all (pureRun Tryz.prog Pu1 1000 10))=true:=by kernel_rfl
end Go.Kz

set_option maxRecDepth 100000
namespace Go.Kz
open Go Go.Proofs
theorem pu_51_all:(pu_51.all (pureRun Tryz.prog Pu3 1000 51))=true:=by kernel_rfl
end Go.Kz

set_option maxRecDepth 100000
namespace Go.Kz
open Go Go.Proofs
theorem pu_19_all:(pu_19.all (pureRun Tryz.prog Pu5 1000 19))=true:=by kernel_rfl
end Go.Kz

set_option maxRecDepth 100000
namespace Go.Kz
open Go Go.Proofs
theorem pu_22_all:(pu_22.all (pureRun Tryz.prog Pu6 1000 22))=true:=by kernel_rfl
end Go.Kz
