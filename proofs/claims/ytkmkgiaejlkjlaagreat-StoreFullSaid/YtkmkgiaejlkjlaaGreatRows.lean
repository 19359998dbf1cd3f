/-
  No cell of these rows narrows 'for every input' (looked for: loops, veiled, ifaces, maps, wideKeys, modest, calm, conditions, laid).
  DERIVED. THE GIVEN ROWS OF THIS SEAT. 2 by the template 'for every input the law returns true; each argument reads behind the call as it read before'; 0 by the template 'total and deterministic' (their statements: YtkmkgiaejlkjlaaGreatTotals.lean).
  GIVEN WITH THE SEED: the statements are not yours to turn. If you find one false, say at which input.
  Laid BY PROGRAM, IN A SANDBOX (cutbox-rows.mjs): the forced cells as the released guide's own fill.sh prints them over the translation c606c38c6ebd0705… (all of the seat's roots in one cut). By AI agents, Wed Nov 11 2026. No macro, syntax, notation, axiom, sorry.
-/
import Derived.Test.YtkmkgiaejlkjlaaGreatChecked
import GoSem.Claim
import GoSem.ClaimJoined
import GoSem.ClaimMapViews
import Derived.JoinedTies
import Derived.KernelRfl
namespace Go.Proofs.YtkmkgiaejlkjlaaGreat
/- THE CELL 'sum', in the pinned program and in every row, IS THE sha256 OF THE DUMP (.gsa) THAT YtkmkgiaejlkjlaaGreatProg.lean LOADS. Nothing in Lean hashes anything: it is a label: what it is worth is what the hold of that sum in a sandbox is worth. -/
noncomputable def Tryz.pinned : Pinned := { name := "ytkmkgiaejlkjlaagreat", sum := "c606c38c6ebd070575fc84f441965986869f9dd017022952a2a9fda6a1fca9e3", checked := Tryz.checked }
namespace Rows
def none {H : Type} : Left H := { results := [], args := [] }

/-- 'bombardelaw53.StoreSums': WHATEVER THE INPUT: true; the input reads as it did. -/
def storeSumsSpec : ChangeSpec := { name := "storeSums", fn := fun _ => fun
  | [d1, d2] => { results := [.lit (.bool true)], args := [d1, d2] }
  | _ => none }
def storeSumsRow : OpenClaim := { program := "ytkmkgiaejlkjlaagreat", sum := "c606c38c6ebd070575fc84f441965986869f9dd017022952a2a9fda6a1fca9e3", func := "bombarde/bombardelaw53.StoreSums", spec := "storeSums", inPlace := ["slices.overlaps[bombarde/api.Rank]", "slices.overlaps[bombarde/api.Division]", "slices.overlaps[bombarde/api.Stop]", "slices.overlaps[bombarde/api.Coupler]"], unfollowed := true, recurses := true, apart := false }
def StoreSumsSaid : Prop := storeSumsRow.holds Tryz.pinned (OpenSpec.ofChange storeSumsSpec)

/-- ITS FALSE NEIGHBOUR: 'it returns false'. Refute it at one input. -/
def storeSumsWrong : ChangeSpec := { name := "storeSums", fn := fun _ => fun
  | [d1, d2] => { results := [.lit (.bool false)], args := [d1, d2] }
  | _ => none }
def StoreSumsWrongFalsely : Prop := storeSumsRow.holds Tryz.pinned (OpenSpec.ofChange storeSumsWrong)

/-- 'bombardelaw53.StoreFull': WHATEVER THE INPUT: true; the input reads as it did. -/
def storeFullSpec : ChangeSpec := { name := "storeFull", fn := fun _ => fun
  | [d] => { results := [.lit (.bool true)], args := [d] }
  | _ => none }
def storeFullRow : OpenClaim := { program := "ytkmkgiaejlkjlaagreat", sum := "c606c38c6ebd070575fc84f441965986869f9dd017022952a2a9fda6a1fca9e3", func := "bombarde/bombardelaw53.StoreFull", spec := "storeFull", inPlace := ["slices.overlaps[bombarde/api.Rank]", "slices.overlaps[bombarde/api.Division]", "slices.overlaps[bombarde/api.Stop]", "slices.overlaps[bombarde/api.Coupler]"], unfollowed := true, recurses := true, apart := false }
def StoreFullSaid : Prop := storeFullRow.holds Tryz.pinned (OpenSpec.ofChange storeFullSpec)

/-- ITS FALSE NEIGHBOUR: 'it returns false'. Refute it at one input. -/
def storeFullWrong : ChangeSpec := { name := "storeFull", fn := fun _ => fun
  | [d] => { results := [.lit (.bool false)], args := [d] }
  | _ => none }
def StoreFullWrongFalsely : Prop := storeFullRow.holds Tryz.pinned (OpenSpec.ofChange storeFullWrong)

/- THE SECOND FORM. 'bulk': how many values and letters a reading holds, each counted each time it is reached (what is shared counts as often as it is met; a slice's spare places count too). A statement '..UptoSaid' is the law's where the arguments, and the package variables that the reading takes, are together of bulk at most 1048576: NARROWER than '..Said'. Prove '..Said' where nothing that the law and all that it calls make is longer than what came in: it says more and counts as full. Else prove '..UptoSaid'. A law counts once. -/
mutual
def uptoBulk {H : Type} : DataW H → Nat
  | .lit (.string bytes) => bytes.length + 1
  | .lit _ => 1
  | .nil => 1
  | .ptr d => uptoBulk d + 1
  | .slice elems spare => uptoBulkAll elems + uptoBulkAll spare + 1
  | .agg parts => uptoBulkAll parts + 1
  | .iface _ d => uptoBulk d + 1
  | .map entries => uptoBulkEntries entries + 1
  | .held _ => 1
def uptoBulkAll {H : Type} : List (DataW H) → Nat
  | [] => 0
  | d :: r => uptoBulk d + uptoBulkAll r
def uptoBulkEntries {H : Type} : List (Lit × DataW H) → Nat
  | [] => 0
  | x :: r => uptoBulkEntry x + uptoBulkEntries r
def uptoBulkEntry {H : Type} : Lit × DataW H → Nat
  | (.string bytes, d) => bytes.length + uptoBulk d + 1
  | (_, d) => uptoBulk d + 1
 end
def uptoSmall : (H : Type) → List (DataW H) → Bool := fun _ ds => decide (uptoBulkAll ds ≤ 1048576)
def OpenSpec.upto (s : _root_.Go.ChangeSpec) : _root_.Go.OpenSpec := { _root_.Go.OpenSpec.ofChange s with cond := some uptoSmall }

/-- 'bombardelaw53.StoreSums', WHERE WHAT IT READS IS OF BULK AT MOST 1048576: true; the input reads as it did. -/
def storeSumsUptoRow : OpenClaim := { program := "ytkmkgiaejlkjlaagreat", sum := "c606c38c6ebd070575fc84f441965986869f9dd017022952a2a9fda6a1fca9e3", func := "bombarde/bombardelaw53.StoreSums", spec := "storeSums", inPlace := ["slices.overlaps[bombarde/api.Rank]", "slices.overlaps[bombarde/api.Division]", "slices.overlaps[bombarde/api.Stop]", "slices.overlaps[bombarde/api.Coupler]"], unfollowed := true, recurses := true, apart := false, narrowed := true }
def StoreSumsUptoSaid : Prop := storeSumsUptoRow.holds Tryz.pinned (OpenSpec.upto storeSumsSpec)

/-- 'bombardelaw53.StoreFull', WHERE WHAT IT READS IS OF BULK AT MOST 1048576: true; the input reads as it did. -/
def storeFullUptoRow : OpenClaim := { program := "ytkmkgiaejlkjlaagreat", sum := "c606c38c6ebd070575fc84f441965986869f9dd017022952a2a9fda6a1fca9e3", func := "bombarde/bombardelaw53.StoreFull", spec := "storeFull", inPlace := ["slices.overlaps[bombarde/api.Rank]", "slices.overlaps[bombarde/api.Division]", "slices.overlaps[bombarde/api.Stop]", "slices.overlaps[bombarde/api.Coupler]"], unfollowed := true, recurses := true, apart := false, narrowed := true }
def StoreFullUptoSaid : Prop := storeFullUptoRow.holds Tryz.pinned (OpenSpec.upto storeFullSpec)

end Rows
end Go.Proofs.YtkmkgiaejlkjlaaGreat
