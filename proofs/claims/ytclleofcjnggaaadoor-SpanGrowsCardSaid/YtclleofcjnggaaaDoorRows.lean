/-
  NARROWER THAN 'FOR EVERY INPUT', by the rows' own cells (each row's printed sentence says how): SpanDivides: laid · SpanCrosses: laid · SpanLeast: laid · SpanCounts: laid · SpanHands: laid · SpanGrows: laid · SpanFeet: laid · SpanPlays: laid · SpanErrors: laid.
  DERIVED. THE GIVEN ROWS OF THIS SEAT. 9 by the template 'for every input the law returns true; each argument reads behind the call as it read before'; 0 by the template 'total and deterministic' (their statements: YtclleofcjnggaaaDoorTotals.lean).
  GIVEN WITH THE SEED: the statements are not yours to turn. If you find one false, say at which input.
  Laid BY PROGRAM, IN A SANDBOX (cutbox-rows.mjs): the forced cells as the released guide's own fill.sh prints them over the translation 1653038fd905b907… (all of the seat's roots in one cut). By AI agents, Wed Nov 11 2026. No macro, syntax, notation, axiom, sorry.
-/
import Derived.Test.YtclleofcjnggaaaDoorChecked
import GoSem.Claim
import GoSem.ClaimJoined
import GoSem.ClaimMapViews
import Derived.JoinedTies
import Derived.KernelRfl
namespace Go.Proofs.YtclleofcjnggaaaDoor
/- THE CELL 'sum', in the pinned program and in every row, IS THE sha256 OF THE DUMP (.gsa) THAT YtclleofcjnggaaaDoorProg.lean LOADS. Nothing in Lean hashes anything: it is a label: what it is worth is what the hold of that sum in a sandbox is worth. -/
noncomputable def Tryd.pinned : Pinned := { name := "ytclleofcjnggaaadoor", sum := "1653038fd905b907faf0bedb4184cccc621462d9d26149e05ba57ad213c03073", checked := Tryd.checked }
namespace Rows
def none {H : Type} : Left H := { results := [], args := [] }

/- WHAT THE LISTED PACKAGE-LEVEL VARIABLES READ AS WHEN THE CALL BEGINS. Each datum BY PROGRAM (the guide's laid-datum.mjs) off the statement by which the dump's own 'gosem.cut.vars' lays the variable. In a bare row this is a premise. The card (YtclleofcjnggaaaDoorCards.lean) ties it to the program's text. -/
def laid_math_bits_deBruijn64tab {H : Type} : DataW H := .agg [.lit (.int .u8 0), .lit (.int .u8 1), .lit (.int .u8 56), .lit (.int .u8 2), .lit (.int .u8 57), .lit (.int .u8 49), .lit (.int .u8 28), .lit (.int .u8 3), .lit (.int .u8 61), .lit (.int .u8 58), .lit (.int .u8 42), .lit (.int .u8 50), .lit (.int .u8 38), .lit (.int .u8 29), .lit (.int .u8 17), .lit (.int .u8 4), .lit (.int .u8 62), .lit (.int .u8 47), .lit (.int .u8 59), .lit (.int .u8 36), .lit (.int .u8 45), .lit (.int .u8 43), .lit (.int .u8 51), .lit (.int .u8 22), .lit (.int .u8 53), .lit (.int .u8 39), .lit (.int .u8 33), .lit (.int .u8 30), .lit (.int .u8 24), .lit (.int .u8 18), .lit (.int .u8 12), .lit (.int .u8 5), .lit (.int .u8 63), .lit (.int .u8 55), .lit (.int .u8 48), .lit (.int .u8 27), .lit (.int .u8 60), .lit (.int .u8 41), .lit (.int .u8 37), .lit (.int .u8 16), .lit (.int .u8 46), .lit (.int .u8 35), .lit (.int .u8 44), .lit (.int .u8 21), .lit (.int .u8 52), .lit (.int .u8 32), .lit (.int .u8 23), .lit (.int .u8 11), .lit (.int .u8 54), .lit (.int .u8 26), .lit (.int .u8 40), .lit (.int .u8 15), .lit (.int .u8 34), .lit (.int .u8 20), .lit (.int .u8 31), .lit (.int .u8 10), .lit (.int .u8 25), .lit (.int .u8 14), .lit (.int .u8 19), .lit (.int .u8 9), .lit (.int .u8 13), .lit (.int .u8 8), .lit (.int .u8 7), .lit (.int .u8 6)]

/-- 'bombardelaw11.SpanDivides': WHATEVER THE INPUT: true; the input reads as it did. -/
def spanDividesSpec : ChangeSpec := { name := "spanDivides", fn := fun _ => fun
  | [d1, d2] => { results := [.lit (.bool true)], args := [d1, d2] }
  | _ => none }
def spanDividesRow : OpenClaim := { program := "ytclleofcjnggaaadoor", sum := "1653038fd905b907faf0bedb4184cccc621462d9d26149e05ba57ad213c03073", func := "bombarde/bombardelaw11.SpanDivides", spec := "spanDivides", unfollowed := true, recurses := true, named := ["math/bits.deBruijn64tab"], apart := false, laid := [("math/bits.deBruijn64tab", laid_math_bits_deBruijn64tab)] }
def SpanDividesSaid : Prop := spanDividesRow.holds Tryd.pinned (OpenSpec.ofChange spanDividesSpec)

/-- ITS FALSE NEIGHBOUR: 'it returns false'. Refute it at one input. -/
def spanDividesWrong : ChangeSpec := { name := "spanDivides", fn := fun _ => fun
  | [d1, d2] => { results := [.lit (.bool false)], args := [d1, d2] }
  | _ => none }
def SpanDividesWrongFalsely : Prop := spanDividesRow.holds Tryd.pinned (OpenSpec.ofChange spanDividesWrong)

/-- 'bombardelaw11.SpanCrosses': WHATEVER THE INPUT: true; the input reads as it did. -/
def spanCrossesSpec : ChangeSpec := { name := "spanCrosses", fn := fun _ => fun
  | [d1, d2] => { results := [.lit (.bool true)], args := [d1, d2] }
  | _ => none }
def spanCrossesRow : OpenClaim := { program := "ytclleofcjnggaaadoor", sum := "1653038fd905b907faf0bedb4184cccc621462d9d26149e05ba57ad213c03073", func := "bombarde/bombardelaw11.SpanCrosses", spec := "spanCrosses", unfollowed := true, recurses := true, named := ["math/bits.deBruijn64tab"], apart := false, laid := [("math/bits.deBruijn64tab", laid_math_bits_deBruijn64tab)] }
def SpanCrossesSaid : Prop := spanCrossesRow.holds Tryd.pinned (OpenSpec.ofChange spanCrossesSpec)

/-- ITS FALSE NEIGHBOUR: 'it returns false'. Refute it at one input. -/
def spanCrossesWrong : ChangeSpec := { name := "spanCrosses", fn := fun _ => fun
  | [d1, d2] => { results := [.lit (.bool false)], args := [d1, d2] }
  | _ => none }
def SpanCrossesWrongFalsely : Prop := spanCrossesRow.holds Tryd.pinned (OpenSpec.ofChange spanCrossesWrong)

/-- 'bombardelaw11.SpanLeast': WHATEVER THE INPUT: true; the input reads as it did. -/
def spanLeastSpec : ChangeSpec := { name := "spanLeast", fn := fun _ => fun
  | [d1, d2] => { results := [.lit (.bool true)], args := [d1, d2] }
  | _ => none }
def spanLeastRow : OpenClaim := { program := "ytclleofcjnggaaadoor", sum := "1653038fd905b907faf0bedb4184cccc621462d9d26149e05ba57ad213c03073", func := "bombarde/bombardelaw11.SpanLeast", spec := "spanLeast", unfollowed := true, recurses := true, named := ["math/bits.deBruijn64tab"], apart := false, laid := [("math/bits.deBruijn64tab", laid_math_bits_deBruijn64tab)] }
def SpanLeastSaid : Prop := spanLeastRow.holds Tryd.pinned (OpenSpec.ofChange spanLeastSpec)

/-- ITS FALSE NEIGHBOUR: 'it returns false'. Refute it at one input. -/
def spanLeastWrong : ChangeSpec := { name := "spanLeast", fn := fun _ => fun
  | [d1, d2] => { results := [.lit (.bool false)], args := [d1, d2] }
  | _ => none }
def SpanLeastWrongFalsely : Prop := spanLeastRow.holds Tryd.pinned (OpenSpec.ofChange spanLeastWrong)

/-- 'bombardelaw11.SpanCounts': WHATEVER THE INPUT: true; the input reads as it did. -/
def spanCountsSpec : ChangeSpec := { name := "spanCounts", fn := fun _ => fun
  | [d1, d2] => { results := [.lit (.bool true)], args := [d1, d2] }
  | _ => none }
def spanCountsRow : OpenClaim := { program := "ytclleofcjnggaaadoor", sum := "1653038fd905b907faf0bedb4184cccc621462d9d26149e05ba57ad213c03073", func := "bombarde/bombardelaw11.SpanCounts", spec := "spanCounts", unfollowed := true, recurses := true, named := ["math/bits.deBruijn64tab"], apart := false, laid := [("math/bits.deBruijn64tab", laid_math_bits_deBruijn64tab)] }
def SpanCountsSaid : Prop := spanCountsRow.holds Tryd.pinned (OpenSpec.ofChange spanCountsSpec)

/-- ITS FALSE NEIGHBOUR: 'it returns false'. Refute it at one input. -/
def spanCountsWrong : ChangeSpec := { name := "spanCounts", fn := fun _ => fun
  | [d1, d2] => { results := [.lit (.bool false)], args := [d1, d2] }
  | _ => none }
def SpanCountsWrongFalsely : Prop := spanCountsRow.holds Tryd.pinned (OpenSpec.ofChange spanCountsWrong)

/-- 'bombardelaw11.SpanHands': WHATEVER THE INPUT: true; the input reads as it did. -/
def spanHandsSpec : ChangeSpec := { name := "spanHands", fn := fun _ => fun
  | [d1, d2] => { results := [.lit (.bool true)], args := [d1, d2] }
  | _ => none }
def spanHandsRow : OpenClaim := { program := "ytclleofcjnggaaadoor", sum := "1653038fd905b907faf0bedb4184cccc621462d9d26149e05ba57ad213c03073", func := "bombarde/bombardelaw11.SpanHands", spec := "spanHands", unfollowed := true, recurses := true, named := ["math/bits.deBruijn64tab"], apart := false, laid := [("math/bits.deBruijn64tab", laid_math_bits_deBruijn64tab)] }
def SpanHandsSaid : Prop := spanHandsRow.holds Tryd.pinned (OpenSpec.ofChange spanHandsSpec)

/-- ITS FALSE NEIGHBOUR: 'it returns false'. Refute it at one input. -/
def spanHandsWrong : ChangeSpec := { name := "spanHands", fn := fun _ => fun
  | [d1, d2] => { results := [.lit (.bool false)], args := [d1, d2] }
  | _ => none }
def SpanHandsWrongFalsely : Prop := spanHandsRow.holds Tryd.pinned (OpenSpec.ofChange spanHandsWrong)

/-- 'bombardelaw11.SpanGrows': WHATEVER THE INPUT: true; the input reads as it did. -/
def spanGrowsSpec : ChangeSpec := { name := "spanGrows", fn := fun _ => fun
  | [d1, d2] => { results := [.lit (.bool true)], args := [d1, d2] }
  | _ => none }
def spanGrowsRow : OpenClaim := { program := "ytclleofcjnggaaadoor", sum := "1653038fd905b907faf0bedb4184cccc621462d9d26149e05ba57ad213c03073", func := "bombarde/bombardelaw11.SpanGrows", spec := "spanGrows", unfollowed := true, recurses := true, named := ["math/bits.deBruijn64tab"], apart := false, laid := [("math/bits.deBruijn64tab", laid_math_bits_deBruijn64tab)] }
def SpanGrowsSaid : Prop := spanGrowsRow.holds Tryd.pinned (OpenSpec.ofChange spanGrowsSpec)

/-- ITS FALSE NEIGHBOUR: 'it returns false'. Refute it at one input. -/
def spanGrowsWrong : ChangeSpec := { name := "spanGrows", fn := fun _ => fun
  | [d1, d2] => { results := [.lit (.bool false)], args := [d1, d2] }
  | _ => none }
def SpanGrowsWrongFalsely : Prop := spanGrowsRow.holds Tryd.pinned (OpenSpec.ofChange spanGrowsWrong)

/-- 'bombardelaw11.SpanFeet': WHATEVER THE INPUT: true; the input reads as it did. -/
def spanFeetSpec : ChangeSpec := { name := "spanFeet", fn := fun _ => fun
  | [d1, d2] => { results := [.lit (.bool true)], args := [d1, d2] }
  | _ => none }
def spanFeetRow : OpenClaim := { program := "ytclleofcjnggaaadoor", sum := "1653038fd905b907faf0bedb4184cccc621462d9d26149e05ba57ad213c03073", func := "bombarde/bombardelaw11.SpanFeet", spec := "spanFeet", unfollowed := true, recurses := true, named := ["math/bits.deBruijn64tab"], apart := false, laid := [("math/bits.deBruijn64tab", laid_math_bits_deBruijn64tab)] }
def SpanFeetSaid : Prop := spanFeetRow.holds Tryd.pinned (OpenSpec.ofChange spanFeetSpec)

/-- ITS FALSE NEIGHBOUR: 'it returns false'. Refute it at one input. -/
def spanFeetWrong : ChangeSpec := { name := "spanFeet", fn := fun _ => fun
  | [d1, d2] => { results := [.lit (.bool false)], args := [d1, d2] }
  | _ => none }
def SpanFeetWrongFalsely : Prop := spanFeetRow.holds Tryd.pinned (OpenSpec.ofChange spanFeetWrong)

/-- 'bombardelaw11.SpanPlays': WHATEVER THE INPUT: true; the input reads as it did. -/
def spanPlaysSpec : ChangeSpec := { name := "spanPlays", fn := fun _ => fun
  | [d1, d2, d3] => { results := [.lit (.bool true)], args := [d1, d2, d3] }
  | _ => none }
def spanPlaysRow : OpenClaim := { program := "ytclleofcjnggaaadoor", sum := "1653038fd905b907faf0bedb4184cccc621462d9d26149e05ba57ad213c03073", func := "bombarde/bombardelaw11.SpanPlays", spec := "spanPlays", unfollowed := true, recurses := true, named := ["math/bits.deBruijn64tab"], apart := false, laid := [("math/bits.deBruijn64tab", laid_math_bits_deBruijn64tab)] }
def SpanPlaysSaid : Prop := spanPlaysRow.holds Tryd.pinned (OpenSpec.ofChange spanPlaysSpec)

/-- ITS FALSE NEIGHBOUR: 'it returns false'. Refute it at one input. -/
def spanPlaysWrong : ChangeSpec := { name := "spanPlays", fn := fun _ => fun
  | [d1, d2, d3] => { results := [.lit (.bool false)], args := [d1, d2, d3] }
  | _ => none }
def SpanPlaysWrongFalsely : Prop := spanPlaysRow.holds Tryd.pinned (OpenSpec.ofChange spanPlaysWrong)

/-- 'bombardelaw11.SpanErrors': WHATEVER THE INPUT: true; the input reads as it did. -/
def spanErrorsSpec : ChangeSpec := { name := "spanErrors", fn := fun _ => fun
  | [d1, d2] => { results := [.lit (.bool true)], args := [d1, d2] }
  | _ => none }
def spanErrorsRow : OpenClaim := { program := "ytclleofcjnggaaadoor", sum := "1653038fd905b907faf0bedb4184cccc621462d9d26149e05ba57ad213c03073", func := "bombarde/bombardelaw11.SpanErrors", spec := "spanErrors", unfollowed := true, recurses := true, named := ["math/bits.deBruijn64tab"], apart := false, laid := [("math/bits.deBruijn64tab", laid_math_bits_deBruijn64tab)] }
def SpanErrorsSaid : Prop := spanErrorsRow.holds Tryd.pinned (OpenSpec.ofChange spanErrorsSpec)

/-- ITS FALSE NEIGHBOUR: 'it returns false'. Refute it at one input. -/
def spanErrorsWrong : ChangeSpec := { name := "spanErrors", fn := fun _ => fun
  | [d1, d2] => { results := [.lit (.bool false)], args := [d1, d2] }
  | _ => none }
def SpanErrorsWrongFalsely : Prop := spanErrorsRow.holds Tryd.pinned (OpenSpec.ofChange spanErrorsWrong)

/- THE SECOND FORM. 'bulk': how many values and letters a reading holds, each counted each time it is reached (what is shared counts as often as it is met; a slice's spare places count too). A statement '..UptoSaid' is the law's where the arguments, and the package variables that the reading takes, are together of bulk at most 1048576: NARROWER than '..Said'. Prove '..Said' where nothing that the law and all that it calls make is longer than what came in: it says more and counts as full. Else prove '..UptoSaid'. A law counts once. -/
mutual
def uptoBulk {H : Type} : DataW H → Nat
  | .lit (.string bytes) => bytes.length + 1
  | .lit _ => 1
  | .nil => 1
  | .ptr d => uptoBulk d + 1
  | .slice elems spare => uptoBulkAll elems + uptoBulkAll spare + 1
  | .agg parts => uptoBulkAll parts + 1
  | .iface _ d => uptoBulk d + 1
  | .map entries => uptoBulkEntries entries + 1
  | .held _ => 1
def uptoBulkAll {H : Type} : List (DataW H) → Nat
  | [] => 0
  | d :: r => uptoBulk d + uptoBulkAll r
def uptoBulkEntries {H : Type} : List (Lit × DataW H) → Nat
  | [] => 0
  | x :: r => uptoBulkEntry x + uptoBulkEntries r
def uptoBulkEntry {H : Type} : Lit × DataW H → Nat
  | (.string bytes, d) => bytes.length + uptoBulk d + 1
  | (_, d) => uptoBulk d + 1
 end
def uptoSmall : (H : Type) → List (DataW H) → Bool := fun _ ds => decide (uptoBulkAll ds ≤ 1048576)
def OpenSpec.upto (s : _root_.Go.ChangeSpec) : _root_.Go.OpenSpec := { _root_.Go.OpenSpec.ofChange s with cond := some uptoSmall }

/-- 'bombardelaw11.SpanDivides', WHERE WHAT IT READS IS OF BULK AT MOST 1048576: true; the input reads as it did. -/
def spanDividesUptoRow : OpenClaim := { program := "ytclleofcjnggaaadoor", sum := "1653038fd905b907faf0bedb4184cccc621462d9d26149e05ba57ad213c03073", func := "bombarde/bombardelaw11.SpanDivides", spec := "spanDivides", unfollowed := true, recurses := true, named := ["math/bits.deBruijn64tab"], apart := false, laid := [("math/bits.deBruijn64tab", laid_math_bits_deBruijn64tab)], narrowed := true }
def SpanDividesUptoSaid : Prop := spanDividesUptoRow.holds Tryd.pinned (OpenSpec.upto spanDividesSpec)

/-- 'bombardelaw11.SpanCrosses', WHERE WHAT IT READS IS OF BULK AT MOST 1048576: true; the input reads as it did. -/
def spanCrossesUptoRow : OpenClaim := { program := "ytclleofcjnggaaadoor", sum := "1653038fd905b907faf0bedb4184cccc621462d9d26149e05ba57ad213c03073", func := "bombarde/bombardelaw11.SpanCrosses", spec := "spanCrosses", unfollowed := true, recurses := true, named := ["math/bits.deBruijn64tab"], apart := false, laid := [("math/bits.deBruijn64tab", laid_math_bits_deBruijn64tab)], narrowed := true }
def SpanCrossesUptoSaid : Prop := spanCrossesUptoRow.holds Tryd.pinned (OpenSpec.upto spanCrossesSpec)

/-- 'bombardelaw11.SpanLeast', WHERE WHAT IT READS IS OF BULK AT MOST 1048576: true; the input reads as it did. -/
def spanLeastUptoRow : OpenClaim := { program := "ytclleofcjnggaaadoor", sum := "1653038fd905b907faf0bedb4184cccc621462d9d26149e05ba57ad213c03073", func := "bombarde/bombardelaw11.SpanLeast", spec := "spanLeast", unfollowed := true, recurses := true, named := ["math/bits.deBruijn64tab"], apart := false, laid := [("math/bits.deBruijn64tab", laid_math_bits_deBruijn64tab)], narrowed := true }
def SpanLeastUptoSaid : Prop := spanLeastUptoRow.holds Tryd.pinned (OpenSpec.upto spanLeastSpec)

/-- 'bombardelaw11.SpanCounts', WHERE WHAT IT READS IS OF BULK AT MOST 1048576: true; the input reads as it did. -/
def spanCountsUptoRow : OpenClaim := { program := "ytclleofcjnggaaadoor", sum := "1653038fd905b907faf0bedb4184cccc621462d9d26149e05ba57ad213c03073", func := "bombarde/bombardelaw11.SpanCounts", spec := "spanCounts", unfollowed := true, recurses := true, named := ["math/bits.deBruijn64tab"], apart := false, laid := [("math/bits.deBruijn64tab", laid_math_bits_deBruijn64tab)], narrowed := true }
def SpanCountsUptoSaid : Prop := spanCountsUptoRow.holds Tryd.pinned (OpenSpec.upto spanCountsSpec)

/-- 'bombardelaw11.SpanHands', WHERE WHAT IT READS IS OF BULK AT MOST 1048576: true; the input reads as it did. -/
def spanHandsUptoRow : OpenClaim := { program := "ytclleofcjnggaaadoor", sum := "1653038fd905b907faf0bedb4184cccc621462d9d26149e05ba57ad213c03073", func := "bombarde/bombardelaw11.SpanHands", spec := "spanHands", unfollowed := true, recurses := true, named := ["math/bits.deBruijn64tab"], apart := false, laid := [("math/bits.deBruijn64tab", laid_math_bits_deBruijn64tab)], narrowed := true }
def SpanHandsUptoSaid : Prop := spanHandsUptoRow.holds Tryd.pinned (OpenSpec.upto spanHandsSpec)

/-- 'bombardelaw11.SpanGrows', WHERE WHAT IT READS IS OF BULK AT MOST 1048576: true; the input reads as it did. -/
def spanGrowsUptoRow : OpenClaim := { program := "ytclleofcjnggaaadoor", sum := "1653038fd905b907faf0bedb4184cccc621462d9d26149e05ba57ad213c03073", func := "bombarde/bombardelaw11.SpanGrows", spec := "spanGrows", unfollowed := true, recurses := true, named := ["math/bits.deBruijn64tab"], apart := false, laid := [("math/bits.deBruijn64tab", laid_math_bits_deBruijn64tab)], narrowed := true }
def SpanGrowsUptoSaid : Prop := spanGrowsUptoRow.holds Tryd.pinned (OpenSpec.upto spanGrowsSpec)

/-- 'bombardelaw11.SpanFeet', WHERE WHAT IT READS IS OF BULK AT MOST 1048576: true; the input reads as it did. -/
def spanFeetUptoRow : OpenClaim := { program := "ytclleofcjnggaaadoor", sum := "1653038fd905b907faf0bedb4184cccc621462d9d26149e05ba57ad213c03073", func := "bombarde/bombardelaw11.SpanFeet", spec := "spanFeet", unfollowed := true, recurses := true, named := ["math/bits.deBruijn64tab"], apart := false, laid := [("math/bits.deBruijn64tab", laid_math_bits_deBruijn64tab)], narrowed := true }
def SpanFeetUptoSaid : Prop := spanFeetUptoRow.holds Tryd.pinned (OpenSpec.upto spanFeetSpec)

/-- 'bombardelaw11.SpanPlays', WHERE WHAT IT READS IS OF BULK AT MOST 1048576: true; the input reads as it did. -/
def spanPlaysUptoRow : OpenClaim := { program := "ytclleofcjnggaaadoor", sum := "1653038fd905b907faf0bedb4184cccc621462d9d26149e05ba57ad213c03073", func := "bombarde/bombardelaw11.SpanPlays", spec := "spanPlays", unfollowed := true, recurses := true, named := ["math/bits.deBruijn64tab"], apart := false, laid := [("math/bits.deBruijn64tab", laid_math_bits_deBruijn64tab)], narrowed := true }
def SpanPlaysUptoSaid : Prop := spanPlaysUptoRow.holds Tryd.pinned (OpenSpec.upto spanPlaysSpec)

/-- 'bombardelaw11.SpanErrors', WHERE WHAT IT READS IS OF BULK AT MOST 1048576: true; the input reads as it did. -/
def spanErrorsUptoRow : OpenClaim := { program := "ytclleofcjnggaaadoor", sum := "1653038fd905b907faf0bedb4184cccc621462d9d26149e05ba57ad213c03073", func := "bombarde/bombardelaw11.SpanErrors", spec := "spanErrors", unfollowed := true, recurses := true, named := ["math/bits.deBruijn64tab"], apart := false, laid := [("math/bits.deBruijn64tab", laid_math_bits_deBruijn64tab)], narrowed := true }
def SpanErrorsUptoSaid : Prop := spanErrorsUptoRow.holds Tryd.pinned (OpenSpec.upto spanErrorsSpec)

end Rows
end Go.Proofs.YtclleofcjnggaaaDoor
