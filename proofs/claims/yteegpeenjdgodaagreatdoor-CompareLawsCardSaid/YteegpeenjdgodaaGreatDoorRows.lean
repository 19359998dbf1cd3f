/-
  NARROWER THAN 'FOR EVERY INPUT', by the rows' own cells (each row's printed sentence says how): CompareSlips: laid · CompareLists: laid · CompareCommon: laid · CompareBacks: laid · CompareDifferences: laid · CompareLaws: laid · CompareApplies: laid.
  DERIVED. THE GIVEN ROWS OF THIS SEAT. 7 by the template 'for every input the law returns true; each argument reads behind the call as it read before'; 0 by the template 'total and deterministic' (their statements: YteegpeenjdgodaaGreatDoorTotals.lean).
  GIVEN WITH THE SEED: the statements are not yours to turn. If you find one false, say at which input.
  Laid BY PROGRAM, IN A SANDBOX (cutbox-rows.mjs): the forced cells as the released guide's own fill.sh prints them over the translation afefbc2b7451abc7… (all of the seat's roots in one cut). By AI agents, Wed Nov 11 2026. No macro, syntax, notation, axiom, sorry.
-/
import Derived.Test.YteegpeenjdgodaaGreatDoorChecked
import GoSem.Claim
import GoSem.ClaimJoined
import GoSem.ClaimMapViews
import Derived.JoinedTies
import Derived.KernelRfl
namespace Go.Proofs.YteegpeenjdgodaaGreatDoor
/- THE CELL 'sum', in the pinned program and in every row, IS THE sha256 OF THE DUMP (.gsa) THAT YteegpeenjdgodaaGreatDoorProg.lean LOADS. Nothing in Lean hashes anything: it is a label: what it is worth is what the hold of that sum in a sandbox is worth. -/
noncomputable def Tryz.pinned : Pinned := { name := "yteegpeenjdgodaagreatdoor", sum := "afefbc2b7451abc7178dc2b68f2bda0052e27aae5f0a435709c9d2c0f3cefb2d", checked := Tryz.checked }
namespace Rows
def none {H : Type} : Left H := { results := [], args := [] }

/- WHAT THE LISTED PACKAGE-LEVEL VARIABLES READ AS WHEN THE CALL BEGINS. Each datum BY PROGRAM (the guide's laid-datum.mjs) off the statement by which the dump's own 'gosem.cut.vars' lays the variable. In a bare row this is a premise. The card (YteegpeenjdgodaaGreatDoorCards.lean) ties it to the program's text. -/
def laid_math_bits_deBruijn32tab {H : Type} : DataW H := .agg [.lit (.int .u8 0), .lit (.int .u8 1), .lit (.int .u8 28), .lit (.int .u8 2), .lit (.int .u8 29), .lit (.int .u8 14), .lit (.int .u8 24), .lit (.int .u8 3), .lit (.int .u8 30), .lit (.int .u8 22), .lit (.int .u8 20), .lit (.int .u8 15), .lit (.int .u8 25), .lit (.int .u8 17), .lit (.int .u8 4), .lit (.int .u8 8), .lit (.int .u8 31), .lit (.int .u8 27), .lit (.int .u8 13), .lit (.int .u8 23), .lit (.int .u8 21), .lit (.int .u8 19), .lit (.int .u8 16), .lit (.int .u8 7), .lit (.int .u8 26), .lit (.int .u8 12), .lit (.int .u8 18), .lit (.int .u8 6), .lit (.int .u8 11), .lit (.int .u8 5), .lit (.int .u8 10), .lit (.int .u8 9)]
def laid_math_bits_deBruijn64tab {H : Type} : DataW H := .agg [.lit (.int .u8 0), .lit (.int .u8 1), .lit (.int .u8 56), .lit (.int .u8 2), .lit (.int .u8 57), .lit (.int .u8 49), .lit (.int .u8 28), .lit (.int .u8 3), .lit (.int .u8 61), .lit (.int .u8 58), .lit (.int .u8 42), .lit (.int .u8 50), .lit (.int .u8 38), .lit (.int .u8 29), .lit (.int .u8 17), .lit (.int .u8 4), .lit (.int .u8 62), .lit (.int .u8 47), .lit (.int .u8 59), .lit (.int .u8 36), .lit (.int .u8 45), .lit (.int .u8 43), .lit (.int .u8 51), .lit (.int .u8 22), .lit (.int .u8 53), .lit (.int .u8 39), .lit (.int .u8 33), .lit (.int .u8 30), .lit (.int .u8 24), .lit (.int .u8 18), .lit (.int .u8 12), .lit (.int .u8 5), .lit (.int .u8 63), .lit (.int .u8 55), .lit (.int .u8 48), .lit (.int .u8 27), .lit (.int .u8 60), .lit (.int .u8 41), .lit (.int .u8 37), .lit (.int .u8 16), .lit (.int .u8 46), .lit (.int .u8 35), .lit (.int .u8 44), .lit (.int .u8 21), .lit (.int .u8 52), .lit (.int .u8 32), .lit (.int .u8 23), .lit (.int .u8 11), .lit (.int .u8 54), .lit (.int .u8 26), .lit (.int .u8 40), .lit (.int .u8 15), .lit (.int .u8 34), .lit (.int .u8 20), .lit (.int .u8 31), .lit (.int .u8 10), .lit (.int .u8 25), .lit (.int .u8 14), .lit (.int .u8 19), .lit (.int .u8 9), .lit (.int .u8 13), .lit (.int .u8 8), .lit (.int .u8 7), .lit (.int .u8 6)]
def laid_internal_strconv_uint64pow10 {H : Type} : DataW H := .agg [.lit (.int .u64 1), .lit (.int .u64 10), .lit (.int .u64 100), .lit (.int .u64 1000), .lit (.int .u64 10000), .lit (.int .u64 100000), .lit (.int .u64 1000000), .lit (.int .u64 10000000), .lit (.int .u64 100000000), .lit (.int .u64 1000000000), .lit (.int .u64 10000000000), .lit (.int .u64 100000000000), .lit (.int .u64 1000000000000), .lit (.int .u64 10000000000000), .lit (.int .u64 100000000000000), .lit (.int .u64 1000000000000000), .lit (.int .u64 10000000000000000), .lit (.int .u64 100000000000000000), .lit (.int .u64 1000000000000000000), .lit (.int .u64 10000000000000000000)]

/-- 'bombardelaw51.CompareSlips': WHATEVER THE INPUT: true; the input reads as it did. -/
def compareSlipsSpec : ChangeSpec := { name := "compareSlips", fn := fun _ => fun
  | [d1, d2, d3] => { results := [.lit (.bool true)], args := [d1, d2, d3] }
  | _ => none }
def compareSlipsRow : OpenClaim := { program := "yteegpeenjdgodaagreatdoor", sum := "afefbc2b7451abc7178dc2b68f2bda0052e27aae5f0a435709c9d2c0f3cefb2d", func := "bombarde/bombardelaw51.CompareSlips", spec := "compareSlips", inPlace := ["slices.overlaps[bombarde/api.Rank]", "slices.overlaps[bombarde/api.Division]", "slices.overlaps[bombarde/api.Stop]", "slices.overlaps[bombarde/api.Coupler]", "internal/abi.NoEscape", "internal/bytealg.MakeNoZero", "internal/bytealg.abigen_runtime_cmpstring"], unfollowed := true, recurses := true, named := ["internal/strconv.uint64pow10", "math/bits.deBruijn32tab", "math/bits.deBruijn64tab"], apart := false, laid := [("math/bits.deBruijn32tab", laid_math_bits_deBruijn32tab), ("math/bits.deBruijn64tab", laid_math_bits_deBruijn64tab), ("internal/strconv.uint64pow10", laid_internal_strconv_uint64pow10)] }
def CompareSlipsSaid : Prop := compareSlipsRow.holds Tryz.pinned (OpenSpec.ofChange compareSlipsSpec)

/-- ITS FALSE NEIGHBOUR: 'it returns false'. Refute it at one input. -/
def compareSlipsWrong : ChangeSpec := { name := "compareSlips", fn := fun _ => fun
  | [d1, d2, d3] => { results := [.lit (.bool false)], args := [d1, d2, d3] }
  | _ => none }
def CompareSlipsWrongFalsely : Prop := compareSlipsRow.holds Tryz.pinned (OpenSpec.ofChange compareSlipsWrong)

/-- 'bombardelaw51.CompareLists': WHATEVER THE INPUT: true; the input reads as it did. -/
def compareListsSpec : ChangeSpec := { name := "compareLists", fn := fun _ => fun
  | [d1, d2] => { results := [.lit (.bool true)], args := [d1, d2] }
  | _ => none }
def compareListsRow : OpenClaim := { program := "yteegpeenjdgodaagreatdoor", sum := "afefbc2b7451abc7178dc2b68f2bda0052e27aae5f0a435709c9d2c0f3cefb2d", func := "bombarde/bombardelaw51.CompareLists", spec := "compareLists", inPlace := ["slices.overlaps[bombarde/api.Rank]", "slices.overlaps[bombarde/api.Division]", "slices.overlaps[bombarde/api.Stop]", "slices.overlaps[bombarde/api.Coupler]", "internal/abi.NoEscape", "internal/bytealg.MakeNoZero", "internal/bytealg.abigen_runtime_cmpstring"], unfollowed := true, recurses := true, named := ["internal/strconv.uint64pow10", "math/bits.deBruijn32tab", "math/bits.deBruijn64tab"], apart := false, laid := [("math/bits.deBruijn32tab", laid_math_bits_deBruijn32tab), ("math/bits.deBruijn64tab", laid_math_bits_deBruijn64tab), ("internal/strconv.uint64pow10", laid_internal_strconv_uint64pow10)] }
def CompareListsSaid : Prop := compareListsRow.holds Tryz.pinned (OpenSpec.ofChange compareListsSpec)

/-- ITS FALSE NEIGHBOUR: 'it returns false'. Refute it at one input. -/
def compareListsWrong : ChangeSpec := { name := "compareLists", fn := fun _ => fun
  | [d1, d2] => { results := [.lit (.bool false)], args := [d1, d2] }
  | _ => none }
def CompareListsWrongFalsely : Prop := compareListsRow.holds Tryz.pinned (OpenSpec.ofChange compareListsWrong)

/-- 'bombardelaw51.CompareCommon': WHATEVER THE INPUT: true; the input reads as it did. -/
def compareCommonSpec : ChangeSpec := { name := "compareCommon", fn := fun _ => fun
  | [d1, d2] => { results := [.lit (.bool true)], args := [d1, d2] }
  | _ => none }
def compareCommonRow : OpenClaim := { program := "yteegpeenjdgodaagreatdoor", sum := "afefbc2b7451abc7178dc2b68f2bda0052e27aae5f0a435709c9d2c0f3cefb2d", func := "bombarde/bombardelaw51.CompareCommon", spec := "compareCommon", inPlace := ["slices.overlaps[bombarde/api.Rank]", "slices.overlaps[bombarde/api.Division]", "slices.overlaps[bombarde/api.Stop]", "slices.overlaps[bombarde/api.Coupler]", "internal/abi.NoEscape", "internal/bytealg.MakeNoZero", "internal/bytealg.abigen_runtime_cmpstring"], unfollowed := true, recurses := true, named := ["internal/strconv.uint64pow10", "math/bits.deBruijn32tab", "math/bits.deBruijn64tab"], apart := false, laid := [("math/bits.deBruijn32tab", laid_math_bits_deBruijn32tab), ("math/bits.deBruijn64tab", laid_math_bits_deBruijn64tab), ("internal/strconv.uint64pow10", laid_internal_strconv_uint64pow10)] }
def CompareCommonSaid : Prop := compareCommonRow.holds Tryz.pinned (OpenSpec.ofChange compareCommonSpec)

/-- ITS FALSE NEIGHBOUR: 'it returns false'. Refute it at one input. -/
def compareCommonWrong : ChangeSpec := { name := "compareCommon", fn := fun _ => fun
  | [d1, d2] => { results := [.lit (.bool false)], args := [d1, d2] }
  | _ => none }
def CompareCommonWrongFalsely : Prop := compareCommonRow.holds Tryz.pinned (OpenSpec.ofChange compareCommonWrong)

/-- 'bombardelaw51.CompareBacks': WHATEVER THE INPUT: true; the input reads as it did. -/
def compareBacksSpec : ChangeSpec := { name := "compareBacks", fn := fun _ => fun
  | [d1, d2] => { results := [.lit (.bool true)], args := [d1, d2] }
  | _ => none }
def compareBacksRow : OpenClaim := { program := "yteegpeenjdgodaagreatdoor", sum := "afefbc2b7451abc7178dc2b68f2bda0052e27aae5f0a435709c9d2c0f3cefb2d", func := "bombarde/bombardelaw51.CompareBacks", spec := "compareBacks", inPlace := ["slices.overlaps[bombarde/api.Rank]", "slices.overlaps[bombarde/api.Division]", "slices.overlaps[bombarde/api.Stop]", "slices.overlaps[bombarde/api.Coupler]", "internal/abi.NoEscape", "internal/bytealg.MakeNoZero", "internal/bytealg.abigen_runtime_cmpstring"], unfollowed := true, recurses := true, named := ["internal/strconv.uint64pow10", "math/bits.deBruijn32tab", "math/bits.deBruijn64tab"], apart := false, laid := [("math/bits.deBruijn32tab", laid_math_bits_deBruijn32tab), ("math/bits.deBruijn64tab", laid_math_bits_deBruijn64tab), ("internal/strconv.uint64pow10", laid_internal_strconv_uint64pow10)] }
def CompareBacksSaid : Prop := compareBacksRow.holds Tryz.pinned (OpenSpec.ofChange compareBacksSpec)

/-- ITS FALSE NEIGHBOUR: 'it returns false'. Refute it at one input. -/
def compareBacksWrong : ChangeSpec := { name := "compareBacks", fn := fun _ => fun
  | [d1, d2] => { results := [.lit (.bool false)], args := [d1, d2] }
  | _ => none }
def CompareBacksWrongFalsely : Prop := compareBacksRow.holds Tryz.pinned (OpenSpec.ofChange compareBacksWrong)

/-- 'bombardelaw51.CompareDifferences': WHATEVER THE INPUT: true; the input reads as it did. -/
def compareDifferencesSpec : ChangeSpec := { name := "compareDifferences", fn := fun _ => fun
  | [d1, d2] => { results := [.lit (.bool true)], args := [d1, d2] }
  | _ => none }
def compareDifferencesRow : OpenClaim := { program := "yteegpeenjdgodaagreatdoor", sum := "afefbc2b7451abc7178dc2b68f2bda0052e27aae5f0a435709c9d2c0f3cefb2d", func := "bombarde/bombardelaw51.CompareDifferences", spec := "compareDifferences", inPlace := ["slices.overlaps[bombarde/api.Rank]", "slices.overlaps[bombarde/api.Division]", "slices.overlaps[bombarde/api.Stop]", "slices.overlaps[bombarde/api.Coupler]", "internal/abi.NoEscape", "internal/bytealg.MakeNoZero", "internal/bytealg.abigen_runtime_cmpstring"], unfollowed := true, recurses := true, named := ["internal/strconv.uint64pow10", "math/bits.deBruijn32tab", "math/bits.deBruijn64tab"], apart := false, laid := [("math/bits.deBruijn32tab", laid_math_bits_deBruijn32tab), ("math/bits.deBruijn64tab", laid_math_bits_deBruijn64tab), ("internal/strconv.uint64pow10", laid_internal_strconv_uint64pow10)] }
def CompareDifferencesSaid : Prop := compareDifferencesRow.holds Tryz.pinned (OpenSpec.ofChange compareDifferencesSpec)

/-- ITS FALSE NEIGHBOUR: 'it returns false'. Refute it at one input. -/
def compareDifferencesWrong : ChangeSpec := { name := "compareDifferences", fn := fun _ => fun
  | [d1, d2] => { results := [.lit (.bool false)], args := [d1, d2] }
  | _ => none }
def CompareDifferencesWrongFalsely : Prop := compareDifferencesRow.holds Tryz.pinned (OpenSpec.ofChange compareDifferencesWrong)

/-- 'bombardelaw51.CompareLaws': WHATEVER THE INPUT: true; the input reads as it did. -/
def compareLawsSpec : ChangeSpec := { name := "compareLaws", fn := fun _ => fun
  | [d1, d2] => { results := [.lit (.bool true)], args := [d1, d2] }
  | _ => none }
def compareLawsRow : OpenClaim := { program := "yteegpeenjdgodaagreatdoor", sum := "afefbc2b7451abc7178dc2b68f2bda0052e27aae5f0a435709c9d2c0f3cefb2d", func := "bombarde/bombardelaw51.CompareLaws", spec := "compareLaws", inPlace := ["slices.overlaps[bombarde/api.Rank]", "slices.overlaps[bombarde/api.Division]", "slices.overlaps[bombarde/api.Stop]", "slices.overlaps[bombarde/api.Coupler]", "internal/abi.NoEscape", "internal/bytealg.MakeNoZero", "internal/bytealg.abigen_runtime_cmpstring"], unfollowed := true, recurses := true, named := ["internal/strconv.uint64pow10", "math/bits.deBruijn32tab", "math/bits.deBruijn64tab"], apart := false, laid := [("math/bits.deBruijn32tab", laid_math_bits_deBruijn32tab), ("math/bits.deBruijn64tab", laid_math_bits_deBruijn64tab), ("internal/strconv.uint64pow10", laid_internal_strconv_uint64pow10)] }
def CompareLawsSaid : Prop := compareLawsRow.holds Tryz.pinned (OpenSpec.ofChange compareLawsSpec)

/-- ITS FALSE NEIGHBOUR: 'it returns false'. Refute it at one input. -/
def compareLawsWrong : ChangeSpec := { name := "compareLaws", fn := fun _ => fun
  | [d1, d2] => { results := [.lit (.bool false)], args := [d1, d2] }
  | _ => none }
def CompareLawsWrongFalsely : Prop := compareLawsRow.holds Tryz.pinned (OpenSpec.ofChange compareLawsWrong)

/-- 'bombardelaw51.CompareApplies': WHATEVER THE INPUT: true; the input reads as it did. -/
def compareAppliesSpec : ChangeSpec := { name := "compareApplies", fn := fun _ => fun
  | [d1, d2] => { results := [.lit (.bool true)], args := [d1, d2] }
  | _ => none }
def compareAppliesRow : OpenClaim := { program := "yteegpeenjdgodaagreatdoor", sum := "afefbc2b7451abc7178dc2b68f2bda0052e27aae5f0a435709c9d2c0f3cefb2d", func := "bombarde/bombardelaw51.CompareApplies", spec := "compareApplies", inPlace := ["slices.overlaps[bombarde/api.Rank]", "slices.overlaps[bombarde/api.Division]", "slices.overlaps[bombarde/api.Stop]", "slices.overlaps[bombarde/api.Coupler]", "internal/abi.NoEscape", "internal/bytealg.MakeNoZero", "internal/bytealg.abigen_runtime_cmpstring"], unfollowed := true, recurses := true, named := ["internal/strconv.uint64pow10", "math/bits.deBruijn32tab", "math/bits.deBruijn64tab"], apart := false, laid := [("math/bits.deBruijn32tab", laid_math_bits_deBruijn32tab), ("math/bits.deBruijn64tab", laid_math_bits_deBruijn64tab), ("internal/strconv.uint64pow10", laid_internal_strconv_uint64pow10)] }
def CompareAppliesSaid : Prop := compareAppliesRow.holds Tryz.pinned (OpenSpec.ofChange compareAppliesSpec)

/-- ITS FALSE NEIGHBOUR: 'it returns false'. Refute it at one input. -/
def compareAppliesWrong : ChangeSpec := { name := "compareApplies", fn := fun _ => fun
  | [d1, d2] => { results := [.lit (.bool false)], args := [d1, d2] }
  | _ => none }
def CompareAppliesWrongFalsely : Prop := compareAppliesRow.holds Tryz.pinned (OpenSpec.ofChange compareAppliesWrong)

/- THE SECOND FORM. 'bulk': how many values and letters a reading holds, each counted each time it is reached (what is shared counts as often as it is met; a slice's spare places count too). A statement '..UptoSaid' is the law's where the arguments, and the package variables that the reading takes, are together of bulk at most 1048576: NARROWER than '..Said'. Prove '..Said' where nothing that the law and all that it calls make is longer than what came in: it says more and counts as full. Else prove '..UptoSaid'. A law counts once. -/
mutual
def uptoBulk {H : Type} : DataW H → Nat
  | .lit (.string bytes) => bytes.length + 1
  | .lit _ => 1
  | .nil => 1
  | .ptr d => uptoBulk d + 1
  | .slice elems spare => uptoBulkAll elems + uptoBulkAll spare + 1
  | .agg parts => uptoBulkAll parts + 1
  | .iface _ d => uptoBulk d + 1
  | .map entries => uptoBulkEntries entries + 1
  | .held _ => 1
def uptoBulkAll {H : Type} : List (DataW H) → Nat
  | [] => 0
  | d :: r => uptoBulk d + uptoBulkAll r
def uptoBulkEntries {H : Type} : List (Lit × DataW H) → Nat
  | [] => 0
  | x :: r => uptoBulkEntry x + uptoBulkEntries r
def uptoBulkEntry {H : Type} : Lit × DataW H → Nat
  | (.string bytes, d) => bytes.length + uptoBulk d + 1
  | (_, d) => uptoBulk d + 1
 end
def uptoSmall : (H : Type) → List (DataW H) → Bool := fun _ ds => decide (uptoBulkAll ds ≤ 1048576)
def OpenSpec.upto (s : _root_.Go.ChangeSpec) : _root_.Go.OpenSpec := { _root_.Go.OpenSpec.ofChange s with cond := some uptoSmall }

/-- 'bombardelaw51.CompareSlips', WHERE WHAT IT READS IS OF BULK AT MOST 1048576: true; the input reads as it did. -/
def compareSlipsUptoRow : OpenClaim := { program := "yteegpeenjdgodaagreatdoor", sum := "afefbc2b7451abc7178dc2b68f2bda0052e27aae5f0a435709c9d2c0f3cefb2d", func := "bombarde/bombardelaw51.CompareSlips", spec := "compareSlips", inPlace := ["slices.overlaps[bombarde/api.Rank]", "slices.overlaps[bombarde/api.Division]", "slices.overlaps[bombarde/api.Stop]", "slices.overlaps[bombarde/api.Coupler]", "internal/abi.NoEscape", "internal/bytealg.MakeNoZero", "internal/bytealg.abigen_runtime_cmpstring"], unfollowed := true, recurses := true, named := ["internal/strconv.uint64pow10", "math/bits.deBruijn32tab", "math/bits.deBruijn64tab"], apart := false, laid := [("math/bits.deBruijn32tab", laid_math_bits_deBruijn32tab), ("math/bits.deBruijn64tab", laid_math_bits_deBruijn64tab), ("internal/strconv.uint64pow10", laid_internal_strconv_uint64pow10)], narrowed := true }
def CompareSlipsUptoSaid : Prop := compareSlipsUptoRow.holds Tryz.pinned (OpenSpec.upto compareSlipsSpec)

/-- 'bombardelaw51.CompareLists', WHERE WHAT IT READS IS OF BULK AT MOST 1048576: true; the input reads as it did. -/
def compareListsUptoRow : OpenClaim := { program := "yteegpeenjdgodaagreatdoor", sum := "afefbc2b7451abc7178dc2b68f2bda0052e27aae5f0a435709c9d2c0f3cefb2d", func := "bombarde/bombardelaw51.CompareLists", spec := "compareLists", inPlace := ["slices.overlaps[bombarde/api.Rank]", "slices.overlaps[bombarde/api.Division]", "slices.overlaps[bombarde/api.Stop]", "slices.overlaps[bombarde/api.Coupler]", "internal/abi.NoEscape", "internal/bytealg.MakeNoZero", "internal/bytealg.abigen_runtime_cmpstring"], unfollowed := true, recurses := true, named := ["internal/strconv.uint64pow10", "math/bits.deBruijn32tab", "math/bits.deBruijn64tab"], apart := false, laid := [("math/bits.deBruijn32tab", laid_math_bits_deBruijn32tab), ("math/bits.deBruijn64tab", laid_math_bits_deBruijn64tab), ("internal/strconv.uint64pow10", laid_internal_strconv_uint64pow10)], narrowed := true }
def CompareListsUptoSaid : Prop := compareListsUptoRow.holds Tryz.pinned (OpenSpec.upto compareListsSpec)

/-- 'bombardelaw51.CompareCommon', WHERE WHAT IT READS IS OF BULK AT MOST 1048576: true; the input reads as it did. -/
def compareCommonUptoRow : OpenClaim := { program := "yteegpeenjdgodaagreatdoor", sum := "afefbc2b7451abc7178dc2b68f2bda0052e27aae5f0a435709c9d2c0f3cefb2d", func := "bombarde/bombardelaw51.CompareCommon", spec := "compareCommon", inPlace := ["slices.overlaps[bombarde/api.Rank]", "slices.overlaps[bombarde/api.Division]", "slices.overlaps[bombarde/api.Stop]", "slices.overlaps[bombarde/api.Coupler]", "internal/abi.NoEscape", "internal/bytealg.MakeNoZero", "internal/bytealg.abigen_runtime_cmpstring"], unfollowed := true, recurses := true, named := ["internal/strconv.uint64pow10", "math/bits.deBruijn32tab", "math/bits.deBruijn64tab"], apart := false, laid := [("math/bits.deBruijn32tab", laid_math_bits_deBruijn32tab), ("math/bits.deBruijn64tab", laid_math_bits_deBruijn64tab), ("internal/strconv.uint64pow10", laid_internal_strconv_uint64pow10)], narrowed := true }
def CompareCommonUptoSaid : Prop := compareCommonUptoRow.holds Tryz.pinned (OpenSpec.upto compareCommonSpec)

/-- 'bombardelaw51.CompareBacks', WHERE WHAT IT READS IS OF BULK AT MOST 1048576: true; the input reads as it did. -/
def compareBacksUptoRow : OpenClaim := { program := "yteegpeenjdgodaagreatdoor", sum := "afefbc2b7451abc7178dc2b68f2bda0052e27aae5f0a435709c9d2c0f3cefb2d", func := "bombarde/bombardelaw51.CompareBacks", spec := "compareBacks", inPlace := ["slices.overlaps[bombarde/api.Rank]", "slices.overlaps[bombarde/api.Division]", "slices.overlaps[bombarde/api.Stop]", "slices.overlaps[bombarde/api.Coupler]", "internal/abi.NoEscape", "internal/bytealg.MakeNoZero", "internal/bytealg.abigen_runtime_cmpstring"], unfollowed := true, recurses := true, named := ["internal/strconv.uint64pow10", "math/bits.deBruijn32tab", "math/bits.deBruijn64tab"], apart := false, laid := [("math/bits.deBruijn32tab", laid_math_bits_deBruijn32tab), ("math/bits.deBruijn64tab", laid_math_bits_deBruijn64tab), ("internal/strconv.uint64pow10", laid_internal_strconv_uint64pow10)], narrowed := true }
def CompareBacksUptoSaid : Prop := compareBacksUptoRow.holds Tryz.pinned (OpenSpec.upto compareBacksSpec)

/-- 'bombardelaw51.CompareDifferences', WHERE WHAT IT READS IS OF BULK AT MOST 1048576: true; the input reads as it did. -/
def compareDifferencesUptoRow : OpenClaim := { program := "yteegpeenjdgodaagreatdoor", sum := "afefbc2b7451abc7178dc2b68f2bda0052e27aae5f0a435709c9d2c0f3cefb2d", func := "bombarde/bombardelaw51.CompareDifferences", spec := "compareDifferences", inPlace := ["slices.overlaps[bombarde/api.Rank]", "slices.overlaps[bombarde/api.Division]", "slices.overlaps[bombarde/api.Stop]", "slices.overlaps[bombarde/api.Coupler]", "internal/abi.NoEscape", "internal/bytealg.MakeNoZero", "internal/bytealg.abigen_runtime_cmpstring"], unfollowed := true, recurses := true, named := ["internal/strconv.uint64pow10", "math/bits.deBruijn32tab", "math/bits.deBruijn64tab"], apart := false, laid := [("math/bits.deBruijn32tab", laid_math_bits_deBruijn32tab), ("math/bits.deBruijn64tab", laid_math_bits_deBruijn64tab), ("internal/strconv.uint64pow10", laid_internal_strconv_uint64pow10)], narrowed := true }
def CompareDifferencesUptoSaid : Prop := compareDifferencesUptoRow.holds Tryz.pinned (OpenSpec.upto compareDifferencesSpec)

/-- 'bombardelaw51.CompareLaws', WHERE WHAT IT READS IS OF BULK AT MOST 1048576: true; the input reads as it did. -/
def compareLawsUptoRow : OpenClaim := { program := "yteegpeenjdgodaagreatdoor", sum := "afefbc2b7451abc7178dc2b68f2bda0052e27aae5f0a435709c9d2c0f3cefb2d", func := "bombarde/bombardelaw51.CompareLaws", spec := "compareLaws", inPlace := ["slices.overlaps[bombarde/api.Rank]", "slices.overlaps[bombarde/api.Division]", "slices.overlaps[bombarde/api.Stop]", "slices.overlaps[bombarde/api.Coupler]", "internal/abi.NoEscape", "internal/bytealg.MakeNoZero", "internal/bytealg.abigen_runtime_cmpstring"], unfollowed := true, recurses := true, named := ["internal/strconv.uint64pow10", "math/bits.deBruijn32tab", "math/bits.deBruijn64tab"], apart := false, laid := [("math/bits.deBruijn32tab", laid_math_bits_deBruijn32tab), ("math/bits.deBruijn64tab", laid_math_bits_deBruijn64tab), ("internal/strconv.uint64pow10", laid_internal_strconv_uint64pow10)], narrowed := true }
def CompareLawsUptoSaid : Prop := compareLawsUptoRow.holds Tryz.pinned (OpenSpec.upto compareLawsSpec)

/-- 'bombardelaw51.CompareApplies', WHERE WHAT IT READS IS OF BULK AT MOST 1048576: true; the input reads as it did. -/
def compareAppliesUptoRow : OpenClaim := { program := "yteegpeenjdgodaagreatdoor", sum := "afefbc2b7451abc7178dc2b68f2bda0052e27aae5f0a435709c9d2c0f3cefb2d", func := "bombarde/bombardelaw51.CompareApplies", spec := "compareApplies", inPlace := ["slices.overlaps[bombarde/api.Rank]", "slices.overlaps[bombarde/api.Division]", "slices.overlaps[bombarde/api.Stop]", "slices.overlaps[bombarde/api.Coupler]", "internal/abi.NoEscape", "internal/bytealg.MakeNoZero", "internal/bytealg.abigen_runtime_cmpstring"], unfollowed := true, recurses := true, named := ["internal/strconv.uint64pow10", "math/bits.deBruijn32tab", "math/bits.deBruijn64tab"], apart := false, laid := [("math/bits.deBruijn32tab", laid_math_bits_deBruijn32tab), ("math/bits.deBruijn64tab", laid_math_bits_deBruijn64tab), ("internal/strconv.uint64pow10", laid_internal_strconv_uint64pow10)], narrowed := true }
def CompareAppliesUptoSaid : Prop := compareAppliesUptoRow.holds Tryz.pinned (OpenSpec.upto compareAppliesSpec)

end Rows
end Go.Proofs.YteegpeenjdgodaaGreatDoor
