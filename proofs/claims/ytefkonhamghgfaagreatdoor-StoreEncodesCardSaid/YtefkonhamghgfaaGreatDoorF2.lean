/-
  Part F2 of the way: an interpreter over pure data, its soundness, walks through functions.
-/
import Derived.Test.YtefkonhamghgfaaGreatDoorC7
set_option linter.all false

set_option maxHeartbeats 40000000
open Go.Proofs.Tryz
namespace Go.Kz
open Go Go.Proofs
set_option maxRecDepth 100000
def aEH:List (List PD×PD):=
 [([.agg [.int .i64 4,.int .i64 1],.agg [.int .i64 32,.int .i64 1]],.aH [.int .i64 36,.int .i64 0]),
  ([.agg [.int .i64 4,.int .i64 1],.agg [.int .i64 16,.int .i64 3]],.aH [.int .i64 5,.int .i64 0]),
  ([.agg [.int .i64 4,.int .i64 1],.agg [.int .i64 16,.int .i64 5]],.aH [.int .i64 (-4),.int .i64 0]),
  ([.agg [.int .i64 4,.int .i64 1],.agg [.int .i64 32,.int .i64 3]],.aH [.int .i64 17,.int .i64 0]),
  ([.agg [.int .i64 4,.int .i64 1],.agg [.int .i64 8,.int .i64 7]],.aH [.int .i64 (-22),.int .i64 0]),
  ([.agg [.int .i64 4,.int .i64 1],.agg [.int .i64 2,.int .i64 3]],.aH [.int .i64 (-31),.int .i64 0]),
  ([.agg [.int .i64 4,.int .i64 1],.agg [.int .i64 1,.int .i64 2]],.aH [.int .i64 (-36),.int .i64 0]),
  ([.agg [.int .i64 4,.int .i64 1],.agg [.int .i64 64,.int .i64 1]],.aH [.int .i64 48,.int .i64 0])]
theorem aPs:(aEH.all (eS prog pF 1000 70))=true:=by kernel_rfl
def aEI:List (List PD×PD):=
 [([.agg [.int .i64 16,.int .i64 1],.agg [.int .i64 8,.int .i64 1]],.aH [.int .i64 (-12),.int .i64 0]),
  ([.agg [.int .i64 16,.int .i64 1],.agg [.int .i64 4,.int .i64 1]],.aH [.int .i64 (-24),.int .i64 0]),
  ([.agg [.int .i64 16,.int .i64 1],.agg [.int .i64 16,.int .i64 1]],.aH [.int .i64 0,.int .i64 0]),
  ([.agg [.int .i64 16,.int .i64 1],.agg [.int .i64 2,.int .i64 1]],.aH [.int .i64 (-36),.int .i64 0]),
  ([.agg [.int .i64 16,.int .i64 1],.agg [.int .i64 8,.int .i64 3]],.aH [.int .i64 (-31),.int .i64 0]),
  ([.agg [.int .i64 16,.int .i64 1],.agg [.int .i64 8,.int .i64 5]],.aH [.int .i64 (-40),.int .i64 0]),
  ([.agg [.int .i64 16,.int .i64 1],.agg [.int .i64 4,.int .i64 3]],.aH [.int .i64 (-43),.int .i64 0]),
  ([.agg [.int .i64 16,.int .i64 1],.agg [.int .i64 1,.int .i64 1]],.aH [.int .i64 (-48),.int .i64 0])]
theorem aPt:(aEI.all (eS prog pF 1000 70))=true:=by kernel_rfl
def aEJ:List (List PD×PD):=
 [([.agg [.int .i64 16,.int .i64 1],.agg [.int .i64 32,.int .i64 1]],.aH [.int .i64 12,.int .i64 0]),
  ([.agg [.int .i64 16,.int .i64 1],.agg [.int .i64 16,.int .i64 3]],.aH [.int .i64 (-19),.int .i64 0]),
  ([.agg [.int .i64 16,.int .i64 1],.agg [.int .i64 16,.int .i64 5]],.aH [.int .i64 (-28),.int .i64 0]),
  ([.agg [.int .i64 16,.int .i64 1],.agg [.int .i64 32,.int .i64 3]],.aH [.int .i64 (-7),.int .i64 0]),
  ([.agg [.int .i64 16,.int .i64 1],.agg [.int .i64 8,.int .i64 7]],.aH [.int .i64 (-46),.int .i64 0]),
  ([.agg [.int .i64 16,.int .i64 1],.agg [.int .i64 2,.int .i64 3]],.aH [.int .i64 (-55),.int .i64 0]),
  ([.agg [.int .i64 16,.int .i64 1],.agg [.int .i64 1,.int .i64 2]],.aH [.int .i64 (-60),.int .i64 0]),
  ([.agg [.int .i64 16,.int .i64 1],.agg [.int .i64 64,.int .i64 1]],.aH [.int .i64 24,.int .i64 0])]
theorem aPu:(aEJ.all (eS prog pF 1000 70))=true:=by kernel_rfl
end Go.Kz
