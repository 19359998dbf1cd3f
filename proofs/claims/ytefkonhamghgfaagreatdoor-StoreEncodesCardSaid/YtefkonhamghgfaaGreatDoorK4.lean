/-
  Part K4 of the way: an interpreter over pure data, its soundness, walks through functions.
-/
import Derived.Test.YtefkonhamghgfaaGreatDoorK1
import Derived.Test.YtefkonhamghgfaaGreatDoorK2
import Derived.Test.YtefkonhamghgfaaGreatDoorK3
set_option linter.all false

set_option maxHeartbeats 40000000
open Go.Proofs.Tryz
namespace Go.Kz
open Go Go.Proofs
theorem aP8:aE prog W7:=aON
theorem aP9:aE prog W8:=aP8.xS aU W9 aQa
theorem aQb:aE prog XA:=aP9.xS aU XB aQc
theorem aQd:aE prog XC:=aQb.xS aU XD aQe
theorem aQf:aE prog XE:=aQd.xS aU XF aQg
theorem aQh:aE prog XG:=aQf.aPe aU XH aQi
theorem aQj:aE prog XI:=aQh.xS aU XJ aQk
theorem aQl:aE prog Pu7:=aQj.xS aU XK aQm
theorem aP7:aE prog PuE:=aQl
end Go.Kz
