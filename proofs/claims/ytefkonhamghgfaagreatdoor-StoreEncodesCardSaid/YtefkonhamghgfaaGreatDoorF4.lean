/-
  Part F4 of the way: an interpreter over pure data, its soundness, walks through functions.
-/
import Derived.Test.YtefkonhamghgfaaGreatDoorC7
set_option linter.all false

set_option maxHeartbeats 40000000
open Go.Proofs.Tryz
namespace Go.Kz
open Go Go.Proofs
set_option maxRecDepth 100000
def aEN:List (List PD×PD):=
 [([.agg [.int .i64 2,.int .i64 1],.agg [.int .i64 32,.int .i64 1]],.aH [.int .i64 48,.int .i64 0]),
  ([.agg [.int .i64 2,.int .i64 1],.agg [.int .i64 16,.int .i64 3]],.aH [.int .i64 17,.int .i64 0]),
  ([.agg [.int .i64 2,.int .i64 1],.agg [.int .i64 16,.int .i64 5]],.aH [.int .i64 8,.int .i64 0]),
  ([.agg [.int .i64 2,.int .i64 1],.agg [.int .i64 32,.int .i64 3]],.aH [.int .i64 29,.int .i64 0]),
  ([.agg [.int .i64 2,.int .i64 1],.agg [.int .i64 8,.int .i64 7]],.aH [.int .i64 (-10),.int .i64 0]),
  ([.agg [.int .i64 2,.int .i64 1],.agg [.int .i64 2,.int .i64 3]],.aH [.int .i64 (-19),.int .i64 0]),
  ([.agg [.int .i64 2,.int .i64 1],.agg [.int .i64 1,.int .i64 2]],.aH [.int .i64 (-24),.int .i64 0]),
  ([.agg [.int .i64 2,.int .i64 1],.agg [.int .i64 64,.int .i64 1]],.aH [.int .i64 60,.int .i64 0])]
theorem aPy:(aEN.all (eS prog pF 1000 70))=true:=by kernel_rfl
def aEO:List (List PD×PD):=
 [([.agg [.int .i64 8,.int .i64 5],.agg [.int .i64 8,.int .i64 1]],.aH [.int .i64 28,.int .i64 0]),
  ([.agg [.int .i64 8,.int .i64 5],.agg [.int .i64 4,.int .i64 1]],.aH [.int .i64 16,.int .i64 0]),
  ([.agg [.int .i64 8,.int .i64 5],.agg [.int .i64 16,.int .i64 1]],.aH [.int .i64 40,.int .i64 0]),
  ([.agg [.int .i64 8,.int .i64 5],.agg [.int .i64 2,.int .i64 1]],.aH [.int .i64 4,.int .i64 0]),
  ([.agg [.int .i64 8,.int .i64 5],.agg [.int .i64 8,.int .i64 3]],.aH [.int .i64 9,.int .i64 0]),
  ([.agg [.int .i64 8,.int .i64 5],.agg [.int .i64 8,.int .i64 5]],.aH [.int .i64 0,.int .i64 0]),
  ([.agg [.int .i64 8,.int .i64 5],.agg [.int .i64 4,.int .i64 3]],.aH [.int .i64 (-3),.int .i64 0]),
  ([.agg [.int .i64 8,.int .i64 5],.agg [.int .i64 1,.int .i64 1]],.aH [.int .i64 (-8),.int .i64 0])]
theorem aPz:(aEO.all (eS prog pF 1000 70))=true:=by kernel_rfl
def aEP:List (List PD×PD):=
 [([.agg [.int .i64 8,.int .i64 5],.agg [.int .i64 32,.int .i64 1]],.aH [.int .i64 52,.int .i64 0]),
  ([.agg [.int .i64 8,.int .i64 5],.agg [.int .i64 16,.int .i64 3]],.aH [.int .i64 21,.int .i64 0]),
  ([.agg [.int .i64 8,.int .i64 5],.agg [.int .i64 16,.int .i64 5]],.aH [.int .i64 12,.int .i64 0]),
  ([.agg [.int .i64 8,.int .i64 5],.agg [.int .i64 32,.int .i64 3]],.aH [.int .i64 33,.int .i64 0]),
  ([.agg [.int .i64 8,.int .i64 5],.agg [.int .i64 8,.int .i64 7]],.aH [.int .i64 (-6),.int .i64 0]),
  ([.agg [.int .i64 8,.int .i64 5],.agg [.int .i64 2,.int .i64 3]],.aH [.int .i64 (-15),.int .i64 0]),
  ([.agg [.int .i64 8,.int .i64 5],.agg [.int .i64 1,.int .i64 2]],.aH [.int .i64 (-20),.int .i64 0]),
  ([.agg [.int .i64 8,.int .i64 5],.agg [.int .i64 64,.int .i64 1]],.aH [.int .i64 64,.int .i64 0])]
theorem aPA:(aEP.all (eS prog pF 1000 70))=true:=by kernel_rfl
end Go.Kz
