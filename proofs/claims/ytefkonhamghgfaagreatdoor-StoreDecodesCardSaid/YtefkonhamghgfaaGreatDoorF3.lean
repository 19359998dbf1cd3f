/-
  Part F3 of the way: an interpreter over pure data, its soundness, walks through functions.
-/
import Derived.Test.YtefkonhamghgfaaGreatDoorC7
set_option linter.all false

namespace Go.Kz
open Go Go.Proofs
set_option maxRecDepth 100000
def puFc0:List (List PD×PD):=
 [([.agg [.int .i64 8,.int .i64 3],.agg [.int .i64 8,.int .i64 1]],.tup [.int .i64 19,.int .i64 0]),
  ([.agg [.int .i64 8,.int .i64 3],.agg [.int .i64 4,.int .i64 1]],.tup [.int .i64 7,.int .i64 0]),
  ([.agg [.int .i64 8,.int .i64 3],.agg [.int .i64 16,.int .i64 1]],.tup [.int .i64 31,.int .i64 0]),
  ([.agg [.int .i64 8,.int .i64 3],.agg [.int .i64 2,.int .i64 1]],.tup [.int .i64 (-5),.int .i64 0]),
  ([.agg [.int .i64 8,.int .i64 3],.agg [.int .i64 8,.int .i64 3]],.tup [.int .i64 0,.int .i64 0]),
  ([.agg [.int .i64 8,.int .i64 3],.agg [.int .i64 8,.int .i64 5]],.tup [.int .i64 (-9),.int .i64 0]),
  ([.agg [.int .i64 8,.int .i64 3],.agg [.int .i64 4,.int .i64 3]],.tup [.int .i64 (-12),.int .i64 0]),
  ([.agg [.int .i64 8,.int .i64 3],.agg [.int .i64 1,.int .i64 1]],.tup [.int .i64 (-17),.int .i64 0])]
theorem puFc0_all:(puFc0.all (pureRun Tryz.prog Bt2 1000 70))=true:=by kernel_rfl
def puFc1:List (List PD×PD):=
 [([.agg [.int .i64 8,.int .i64 3],.agg [.int .i64 32,.int .i64 1]],.tup [.int .i64 43,.int .i64 0]),
  ([.agg [.int .i64 8,.int .i64 3],.agg [.int .i64 16,.int .i64 3]],.tup [.int .i64 12,.int .i64 0]),
  ([.agg [.int .i64 8,.int .i64 3],.agg [.int .i64 16,.int .i64 5]],.tup [.int .i64 3,.int .i64 0]),
  ([.agg [.int .i64 8,.int .i64 3],.agg [.int .i64 32,.int .i64 3]],.tup [.int .i64 24,.int .i64 0]),
  ([.agg [.int .i64 8,.int .i64 3],.agg [.int .i64 8,.int .i64 7]],.tup [.int .i64 (-15),.int .i64 0]),
  ([.agg [.int .i64 8,.int .i64 3],.agg [.int .i64 2,.int .i64 3]],.tup [.int .i64 (-24),.int .i64 0]),
  ([.agg [.int .i64 8,.int .i64 3],.agg [.int .i64 1,.int .i64 2]],.tup [.int .i64 (-29),.int .i64 0]),
  ([.agg [.int .i64 8,.int .i64 3],.agg [.int .i64 64,.int .i64 1]],.tup [.int .i64 55,.int .i64 0])]
theorem puFc1_all:(puFc1.all (pureRun Tryz.prog Bt2 1000 70))=true:=by kernel_rfl
def puFc2:List (List PD×PD):=
 [([.agg [.int .i64 2,.int .i64 1],.agg [.int .i64 8,.int .i64 1]],.tup [.int .i64 24,.int .i64 0]),
  ([.agg [.int .i64 2,.int .i64 1],.agg [.int .i64 4,.int .i64 1]],.tup [.int .i64 12,.int .i64 0]),
  ([.agg [.int .i64 2,.int .i64 1],.agg [.int .i64 16,.int .i64 1]],.tup [.int .i64 36,.int .i64 0]),
  ([.agg [.int .i64 2,.int .i64 1],.agg [.int .i64 2,.int .i64 1]],.tup [.int .i64 0,.int .i64 0]),
  ([.agg [.int .i64 2,.int .i64 1],.agg [.int .i64 8,.int .i64 3]],.tup [.int .i64 5,.int .i64 0]),
  ([.agg [.int .i64 2,.int .i64 1],.agg [.int .i64 8,.int .i64 5]],.tup [.int .i64 (-4),.int .i64 0]),
  ([.agg [.int .i64 2,.int .i64 1],.agg [.int .i64 4,.int .i64 3]],.tup [.int .i64 (-7),.int .i64 0]),
  ([.agg [.int .i64 2,.int .i64 1],.agg [.int .i64 1,.int .i64 1]],.tup [.int .i64 (-12),.int .i64 0])]
theorem puFc2_all:(puFc2.all (pureRun Tryz.prog Bt2 1000 70))=true:=by kernel_rfl
end Go.Kz
