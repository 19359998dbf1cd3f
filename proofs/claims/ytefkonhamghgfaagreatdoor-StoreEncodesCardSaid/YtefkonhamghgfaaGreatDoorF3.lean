/-
  Part F3 of the way: an interpreter over pure data, its soundness, walks through functions.
-/
import Derived.Test.YtefkonhamghgfaaGreatDoorC7
set_option linter.all false

set_option maxHeartbeats 40000000
open Go.Proofs.Tryz
namespace Go.Kz
open Go Go.Proofs
set_option maxRecDepth 100000
def aEK:List (List PD×PD):=
 [([.agg [.int .i64 8,.int .i64 3],.agg [.int .i64 8,.int .i64 1]],.aH [.int .i64 19,.int .i64 0]),
  ([.agg [.int .i64 8,.int .i64 3],.agg [.int .i64 4,.int .i64 1]],.aH [.int .i64 7,.int .i64 0]),
  ([.agg [.int .i64 8,.int .i64 3],.agg [.int .i64 16,.int .i64 1]],.aH [.int .i64 31,.int .i64 0]),
  ([.agg [.int .i64 8,.int .i64 3],.agg [.int .i64 2,.int .i64 1]],.aH [.int .i64 (-5),.int .i64 0]),
  ([.agg [.int .i64 8,.int .i64 3],.agg [.int .i64 8,.int .i64 3]],.aH [.int .i64 0,.int .i64 0]),
  ([.agg [.int .i64 8,.int .i64 3],.agg [.int .i64 8,.int .i64 5]],.aH [.int .i64 (-9),.int .i64 0]),
  ([.agg [.int .i64 8,.int .i64 3],.agg [.int .i64 4,.int .i64 3]],.aH [.int .i64 (-12),.int .i64 0]),
  ([.agg [.int .i64 8,.int .i64 3],.agg [.int .i64 1,.int .i64 1]],.aH [.int .i64 (-17),.int .i64 0])]
theorem aPv:(aEK.all (eS prog pF 1000 70))=true:=by kernel_rfl
def aEL:List (List PD×PD):=
 [([.agg [.int .i64 8,.int .i64 3],.agg [.int .i64 32,.int .i64 1]],.aH [.int .i64 43,.int .i64 0]),
  ([.agg [.int .i64 8,.int .i64 3],.agg [.int .i64 16,.int .i64 3]],.aH [.int .i64 12,.int .i64 0]),
  ([.agg [.int .i64 8,.int .i64 3],.agg [.int .i64 16,.int .i64 5]],.aH [.int .i64 3,.int .i64 0]),
  ([.agg [.int .i64 8,.int .i64 3],.agg [.int .i64 32,.int .i64 3]],.aH [.int .i64 24,.int .i64 0]),
  ([.agg [.int .i64 8,.int .i64 3],.agg [.int .i64 8,.int .i64 7]],.aH [.int .i64 (-15),.int .i64 0]),
  ([.agg [.int .i64 8,.int .i64 3],.agg [.int .i64 2,.int .i64 3]],.aH [.int .i64 (-24),.int .i64 0]),
  ([.agg [.int .i64 8,.int .i64 3],.agg [.int .i64 1,.int .i64 2]],.aH [.int .i64 (-29),.int .i64 0]),
  ([.agg [.int .i64 8,.int .i64 3],.agg [.int .i64 64,.int .i64 1]],.aH [.int .i64 55,.int .i64 0])]
theorem aPw:(aEL.all (eS prog pF 1000 70))=true:=by kernel_rfl
def aEM:List (List PD×PD):=
 [([.agg [.int .i64 2,.int .i64 1],.agg [.int .i64 8,.int .i64 1]],.aH [.int .i64 24,.int .i64 0]),
  ([.agg [.int .i64 2,.int .i64 1],.agg [.int .i64 4,.int .i64 1]],.aH [.int .i64 12,.int .i64 0]),
  ([.agg [.int .i64 2,.int .i64 1],.agg [.int .i64 16,.int .i64 1]],.aH [.int .i64 36,.int .i64 0]),
  ([.agg [.int .i64 2,.int .i64 1],.agg [.int .i64 2,.int .i64 1]],.aH [.int .i64 0,.int .i64 0]),
  ([.agg [.int .i64 2,.int .i64 1],.agg [.int .i64 8,.int .i64 3]],.aH [.int .i64 5,.int .i64 0]),
  ([.agg [.int .i64 2,.int .i64 1],.agg [.int .i64 8,.int .i64 5]],.aH [.int .i64 (-4),.int .i64 0]),
  ([.agg [.int .i64 2,.int .i64 1],.agg [.int .i64 4,.int .i64 3]],.aH [.int .i64 (-7),.int .i64 0]),
  ([.agg [.int .i64 2,.int .i64 1],.agg [.int .i64 1,.int .i64 1]],.aH [.int .i64 (-12),.int .i64 0])]
theorem aPx:(aEM.all (eS prog pF 1000 70))=true:=by kernel_rfl
end Go.Kz
