/-
  Part P5 of the way: an interpreter over pure data, its soundness, walks through functions.
-/
import Derived.Test.YtkmkgiaejlkjlaaGreatP4
set_option linter.all false

/-
  Closed calls, listed: arguments and answers.
-/
set_option maxRecDepth 100000
namespace Go.Kz
open Go Go.Proofs
noncomputable abbrev Pu0 : PExt := ClE
noncomputable def pu_29 : List (List PD × PD) :=
  [([(.agg [(.str [97]), (.slice 0 [] .any), (.slice 5 [(.agg [(.str [100]), (.bool .false), (.int .i64 36), (.int .i64 36), (.slice 0 [] .any)])] .any), (.slice 0 [] .any)]), (.agg [(.int .i64 13), (.int .i64 0), (.int .i64 0), (.str [98]), (.str []), (.str []), (.int .i64 0), (.int .i64 0), (.int .i64 0), (.slice 0 [] .any), (.str []), (.bool .false), (.int .i64 0), (.int .i64 0), (.slice 0 [] .any), (.str []), (.int .i64 0), (.int .i64 0), (.slice 0 [] .any), (.str []), (.int .i64 0), (.int .i64 0), (.int .i64 0), (.bool .false)])], (.tup [(.agg [(.str [98]), (.slice 0 [] .any), (.slice 5 [(.agg [(.str [100]), (.bool .false), (.int .i64 36), (.int .i64 36), (.slice 0 [] .any)])] .any), (.slice 0 [] .any)]), (.int .i64 0)])),
   ([(.agg [(.str [97]), (.slice 0 [] .any), (.slice 5 [(.agg [(.str [100]), (.bool .false), (.int .i64 36), (.int .i64 36), (.slice 0 [] .any)])] .any), (.slice 0 [] .any)]), (.agg [(.int .i64 13), (.int .i64 0), (.int .i64 0), (.str [99]), (.str []), (.str []), (.int .i64 0), (.int .i64 0), (.int .i64 0), (.slice 0 [] .any), (.str []), (.bool .false), (.int .i64 0), (.int .i64 0), (.slice 0 [] .any), (.str []), (.int .i64 0), (.int .i64 0), (.slice 0 [] .any), (.str []), (.int .i64 0), (.int .i64 0), (.int .i64 0), (.bool .false)])], (.tup [(.agg [(.str [99]), (.slice 0 [] .any), (.slice 5 [(.agg [(.str [100]), (.bool .false), (.int .i64 36), (.int .i64 36), (.slice 0 [] .any)])] .any), (.slice 0 [] .any)]), (.int .i64 0)]))]
noncomputable def Pu1 : PExt := Pu0.add 29 (fun _ args σ => match gPures pu_29 args with | some p => some (p, σ) | none => none)
noncomputable def pu_26 : List (List PD × PD) :=
  [([(.agg [(.str [97]), (.slice 0 [] .any), (.slice 5 [(.agg [(.str [100]), (.bool .false), (.int .i64 36), (.int .i64 36), (.slice 0 [] .any)])] .any), (.slice 0 [] .any)])], (.int .i64 0)),
   ([(.agg [(.str [98]), (.slice 0 [] .any), (.slice 5 [(.agg [(.str [100]), (.bool .false), (.int .i64 36), (.int .i64 36), (.slice 0 [] .any)])] .any), (.slice 0 [] .any)])], (.int .i64 0)),
   ([(.agg [(.str [99]), (.slice 0 [] .any), (.slice 5 [(.agg [(.str [100]), (.bool .false), (.int .i64 36), (.int .i64 36), (.slice 0 [] .any)])] .any), (.slice 0 [] .any)])], (.int .i64 0))]
noncomputable def Pu2 : PExt := Pu1.add 26 (fun _ args σ => match gPures pu_26 args with | some p => some (p, σ) | none => none)
noncomputable def pu_32 : List (List PD × PD) :=
  [([(.agg [(.str [97]), (.slice 0 [] .any), (.slice 5 [(.agg [(.str [100]), (.bool .false), (.int .i64 36), (.int .i64 36), (.slice 0 [] .any)])] .any), (.slice 0 [] .any)])], (.agg [(.str [97]), (.slice 0 [] .any), (.slice 5 [(.agg [(.str [100]), (.bool .false), (.int .i64 36), (.int .i64 36), (.slice 0 [] .any)])] .any), (.slice 0 [] .any)])),
   ([(.agg [(.str [98]), (.slice 0 [] .any), (.slice 5 [(.agg [(.str [100]), (.bool .false), (.int .i64 36), (.int .i64 36), (.slice 0 [] .any)])] .any), (.slice 0 [] .any)])], (.agg [(.str [98]), (.slice 0 [] .any), (.slice 5 [(.agg [(.str [100]), (.bool .false), (.int .i64 36), (.int .i64 36), (.slice 0 [] .any)])] .any), (.slice 0 [] .any)])),
   ([(.agg [(.str [99]), (.slice 0 [] .any), (.slice 5 [(.agg [(.str [100]), (.bool .false), (.int .i64 36), (.int .i64 36), (.slice 0 [] .any)])] .any), (.slice 0 [] .any)])], (.agg [(.str [99]), (.slice 0 [] .any), (.slice 5 [(.agg [(.str [100]), (.bool .false), (.int .i64 36), (.int .i64 36), (.slice 0 [] .any)])] .any), (.slice 0 [] .any)]))]
noncomputable def Pu3 : PExt := Pu2.add 32 (fun _ args σ => match gPures pu_32 args with | some p => some (p, σ) | none => none)
noncomputable def pu_56 : List (List PD × PD) :=
  [([(.agg [(.str [97]), (.slice 0 [] .any), (.slice 5 [(.agg [(.str [100]), (.bool .false), (.int .i64 36), (.int .i64 36), (.slice 0 [] .any)])] .any), (.slice 0 [] .any)])], (.slice 1 [(.int .u8 1), (.int .u8 0), (.int .u8 0), (.int .u8 0), (.int .u8 0), (.int .u8 0), (.int .u8 0), (.int .u8 0), (.int .u8 97), (.int .u8 0), (.int .u8 0), (.int .u8 0), (.int .u8 0), (.int .u8 0), (.int .u8 0), (.int .u8 0), (.int .u8 0), (.int .u8 1), (.int .u8 0), (.int .u8 0), (.int .u8 0), (.int .u8 0), (.int .u8 0), (.int .u8 0), (.int .u8 0), (.int .u8 1), (.int .u8 0), (.int .u8 0), (.int .u8 0), (.int .u8 0), (.int .u8 0), (.int .u8 0), (.int .u8 0), (.int .u8 100), (.int .u8 0), (.int .u8 0), (.int .u8 0), (.int .u8 0), (.int .u8 0), (.int .u8 0), (.int .u8 0), (.int .u8 0), (.int .u8 36), (.int .u8 0), (.int .u8 0), (.int .u8 0), (.int .u8 0), (.int .u8 0), (.int .u8 0), (.int .u8 0), (.int .u8 36), (.int .u8 0), (.int .u8 0), (.int .u8 0), (.int .u8 0), (.int .u8 0), (.int .u8 0), (.int .u8 0), (.int .u8 0), (.int .u8 0), (.int .u8 0), (.int .u8 0), (.int .u8 0), (.int .u8 0), (.int .u8 0), (.int .u8 0), (.int .u8 0), (.int .u8 0), (.int .u8 0), (.int .u8 0), (.int .u8 0), (.int .u8 0), (.int .u8 0), (.int .u8 0)] .any))]
noncomputable def Pu4 : PExt := Pu3.add 56 (fun _ args σ => match gPures pu_56 args with | some p => some (p, σ) | none => none)
noncomputable def pu_7 : List (List PD × PD) :=
  [([(.slice 1 [(.int .u8 0), (.int .u8 74), (.int .u8 0), (.int .u8 0), (.int .u8 0), (.int .u8 1), (.int .u8 0), (.int .u8 0), (.int .u8 0), (.int .u8 0), (.int .u8 0), (.int .u8 0), (.int .u8 0), (.int .u8 97), (.int .u8 0), (.int .u8 0), (.int .u8 0), (.int .u8 0), (.int .u8 0), (.int .u8 0), (.int .u8 0), (.int .u8 0), (.int .u8 1), (.int .u8 0), (.int .u8 0), (.int .u8 0), (.int .u8 0), (.int .u8 0), (.int .u8 0), (.int .u8 0), (.int .u8 1), (.int .u8 0), (.int .u8 0), (.int .u8 0), (.int .u8 0), (.int .u8 0), (.int .u8 0), (.int .u8 0), (.int .u8 100), (.int .u8 0), (.int .u8 0), (.int .u8 0), (.int .u8 0), (.int .u8 0), (.int .u8 0), (.int .u8 0), (.int .u8 0), (.int .u8 36), (.int .u8 0), (.int .u8 0), (.int .u8 0), (.int .u8 0), (.int .u8 0), (.int .u8 0), (.int .u8 0), (.int .u8 36), (.int .u8 0), (.int .u8 0), (.int .u8 0), (.int .u8 0), (.int .u8 0), (.int .u8 0), (.int .u8 0), (.int .u8 0), (.int .u8 0), (.int .u8 0), (.int .u8 0), (.int .u8 0), (.int .u8 0), (.int .u8 0), (.int .u8 0), (.int .u8 0), (.int .u8 0), (.int .u8 0), (.int .u8 0), (.int .u8 0), (.int .u8 0), (.int .u8 0), (.int .u8 0)] .any)], (.int .u32 1215627611)),
   ([(.slice 1 [(.int .u8 1), (.int .u8 193), (.int .u8 0), (.int .u8 0), (.int .u8 0), (.int .u8 13), (.int .u8 0), (.int .u8 0), (.int .u8 0), (.int .u8 0), (.int .u8 0), (.int .u8 0), (.int .u8 0), (.int .u8 0), (.int .u8 0), (.int .u8 0), (.int .u8 0), (.int .u8 0), (.int .u8 0), (.int .u8 0), (.int .u8 0), (.int .u8 0), (.int .u8 0), (.int .u8 0), (.int .u8 0), (.int .u8 0), (.int .u8 0), (.int .u8 0), (.int .u8 0), (.int .u8 1), (.int .u8 0), (.int .u8 0), (.int .u8 0), (.int .u8 0), (.int .u8 0), (.int .u8 0), (.int .u8 0), (.int .u8 98), (.int .u8 0), (.int .u8 0), (.int .u8 0), (.int .u8 0), (.int .u8 0), (.int .u8 0), (.int .u8 0), (.int .u8 0), (.int .u8 0), (.int .u8 0), (.int .u8 0), (.int .u8 0), (.int .u8 0), (.int .u8 0), (.int .u8 0), (.int .u8 0), (.int .u8 0), (.int .u8 0), (.int .u8 0), (.int .u8 0), (.int .u8 0), (.int .u8 0), (.int .u8 0), (.int .u8 0), (.int .u8 0), (.int .u8 0), (.int .u8 0), (.int .u8 0), (.int .u8 0), (.int .u8 0), (.int .u8 0), (.int .u8 0), (.int .u8 0), (.int .u8 0), (.int .u8 0), (.int .u8 0), (.int .u8 0), (.int .u8 0), (.int .u8 0), (.int .u8 0), (.int .u8 0), (.int .u8 0), (.int .u8 0), (.int .u8 0), (.int .u8 0), (.int .u8 0), (.int .u8 0), (.int .u8 0), (.int .u8 0), (.int .u8 0), (.int .u8 0), (.int .u8 0), (.int .u8 0), (.int .u8 0), (.int .u8 0), (.int .u8 0), (.int .u8 0), (.int .u8 0), (.int .u8 0), (.int .u8 0), (.int .u8 0), (.int .u8 0), (.int .u8 0), (.int .u8 0), (.int .u8 0), (.int .u8 0), (.int .u8 0), (.int .u8 0), (.int .u8 0), (.int .u8 0), (.int .u8 0), (.int .u8 0), (.int .u8 0), (.int .u8 0), (.int .u8 0), (.int .u8 0), (.int .u8 0), (.int .u8 0), (.int .u8 0), (.int .u8 0), (.int .u8 0), (.int .u8 0), (.int .u8 0), (.int .u8 0), (.int .u8 0), (.int .u8 0), (.int .u8 0), (.int .u8 0), (.int .u8 0), (.int .u8 0), (.int .u8 0), (.int .u8 0), (.int .u8 0), (.int .u8 0), (.int .u8 0), (.int .u8 0), (.int .u8 0), (.int .u8 0), (.int .u8 0), (.int .u8 0), (.int .u8 0), (.int .u8 0), (.int .u8 0), (.int .u8 0), (.int .u8 0), (.int .u8 0), (.int .u8 0), (.int .u8 0), (.int .u8 0), (.int .u8 0), (.int .u8 0), (.int .u8 0), (.int .u8 0), (.int .u8 0), (.int .u8 0), (.int .u8 0), (.int .u8 0), (.int .u8 0), (.int .u8 0), (.int .u8 0), (.int .u8 0), (.int .u8 0), (.int .u8 0), (.int .u8 0), (.int .u8 0), (.int .u8 0), (.int .u8 0), (.int .u8 0), (.int .u8 0), (.int .u8 0), (.int .u8 0), (.int .u8 0), (.int .u8 0), (.int .u8 0), (.int .u8 0), (.int .u8 0), (.int .u8 0), (.int .u8 0), (.int .u8 0), (.int .u8 0), (.int .u8 0), (.int .u8 0), (.int .u8 0), (.int .u8 0), (.int .u8 0), (.int .u8 0), (.int .u8 0), (.int .u8 0), (.int .u8 0), (.int .u8 0), (.int .u8 0), (.int .u8 0), (.int .u8 0), (.int .u8 0), (.int .u8 0), (.int .u8 0), (.int .u8 0), (.int .u8 0), (.int .u8 0), (.int .u8 0)] .any)], (.int .u32 3727229235)),
   ([(.slice 1 [(.int .u8 1), (.int .u8 193), (.int .u8 0), (.int .u8 0), (.int .u8 0), (.int .u8 13), (.int .u8 0), (.int .u8 0), (.int .u8 0), (.int .u8 0), (.int .u8 0), (.int .u8 0), (.int .u8 0), (.int .u8 0), (.int .u8 0), (.int .u8 0), (.int .u8 0), (.int .u8 0), (.int .u8 0), (.int .u8 0), (.int .u8 0), (.int .u8 0), (.int .u8 0), (.int .u8 0), (.int .u8 0), (.int .u8 0), (.int .u8 0), (.int .u8 0), (.int .u8 0), (.int .u8 1), (.int .u8 0), (.int .u8 0), (.int .u8 0), (.int .u8 0), (.int .u8 0), (.int .u8 0), (.int .u8 0), (.int .u8 99), (.int .u8 0), (.int .u8 0), (.int .u8 0), (.int .u8 0), (.int .u8 0), (.int .u8 0), (.int .u8 0), (.int .u8 0), (.int .u8 0), (.int .u8 0), (.int .u8 0), (.int .u8 0), (.int .u8 0), (.int .u8 0), (.int .u8 0), (.int .u8 0), (.int .u8 0), (.int .u8 0), (.int .u8 0), (.int .u8 0), (.int .u8 0), (.int .u8 0), (.int .u8 0), (.int .u8 0), (.int .u8 0), (.int .u8 0), (.int .u8 0), (.int .u8 0), (.int .u8 0), (.int .u8 0), (.int .u8 0), (.int .u8 0), (.int .u8 0), (.int .u8 0), (.int .u8 0), (.int .u8 0), (.int .u8 0), (.int .u8 0), (.int .u8 0), (.int .u8 0), (.int .u8 0), (.int .u8 0), (.int .u8 0), (.int .u8 0), (.int .u8 0), (.int .u8 0), (.int .u8 0), (.int .u8 0), (.int .u8 0), (.int .u8 0), (.int .u8 0), (.int .u8 0), (.int .u8 0), (.int .u8 0), (.int .u8 0), (.int .u8 0), (.int .u8 0), (.int .u8 0), (.int .u8 0), (.int .u8 0), (.int .u8 0), (.int .u8 0), (.int .u8 0), (.int .u8 0), (.int .u8 0), (.int .u8 0), (.int .u8 0), (.int .u8 0), (.int .u8 0), (.int .u8 0), (.int .u8 0), (.int .u8 0), (.int .u8 0), (.int .u8 0), (.int .u8 0), (.int .u8 0), (.int .u8 0), (.int .u8 0), (.int .u8 0), (.int .u8 0), (.int .u8 0), (.int .u8 0), (.int .u8 0), (.int .u8 0), (.int .u8 0), (.int .u8 0), (.int .u8 0), (.int .u8 0), (.int .u8 0), (.int .u8 0), (.int .u8 0), (.int .u8 0), (.int .u8 0), (.int .u8 0), (.int .u8 0), (.int .u8 0), (.int .u8 0), (.int .u8 0), (.int .u8 0), (.int .u8 0), (.int .u8 0), (.int .u8 0), (.int .u8 0), (.int .u8 0), (.int .u8 0), (.int .u8 0), (.int .u8 0), (.int .u8 0), (.int .u8 0), (.int .u8 0), (.int .u8 0), (.int .u8 0), (.int .u8 0), (.int .u8 0), (.int .u8 0), (.int .u8 0), (.int .u8 0), (.int .u8 0), (.int .u8 0), (.int .u8 0), (.int .u8 0), (.int .u8 0), (.int .u8 0), (.int .u8 0), (.int .u8 0), (.int .u8 0), (.int .u8 0), (.int .u8 0), (.int .u8 0), (.int .u8 0), (.int .u8 0), (.int .u8 0), (.int .u8 0), (.int .u8 0), (.int .u8 0), (.int .u8 0), (.int .u8 0), (.int .u8 0), (.int .u8 0), (.int .u8 0), (.int .u8 0), (.int .u8 0), (.int .u8 0), (.int .u8 0), (.int .u8 0), (.int .u8 0), (.int .u8 0), (.int .u8 0), (.int .u8 0), (.int .u8 0), (.int .u8 0), (.int .u8 0), (.int .u8 0), (.int .u8 0), (.int .u8 0), (.int .u8 0), (.int .u8 0), (.int .u8 0), (.int .u8 0), (.int .u8 0)] .any)], (.int .u32 3737780532)),
   ([(.slice 1 [(.int .u8 2), (.int .u8 0), (.int .u8 0), (.int .u8 0), (.int .u8 0)] .any)], (.int .u32 983043)),
   ([(.slice 1 [(.int .u8 1), (.int .u8 2), (.int .u8 3)] .any)], (.int .u32 851975))]
noncomputable def Pu5 : PExt := Pu4.add 7 (fun _ args σ => match gPures pu_7 args with | some p => some (p, σ) | none => none)
noncomputable def pu_10 : List (List PD × PD) :=
  [([(.str [97])], (.agg [(.str [97]), (.slice 0 [] .any), (.slice 5 [(.agg [(.str [100]), (.bool .false), (.int .i64 36), (.int .i64 36), (.slice 0 [] .any)])] .any), (.slice 0 [] .any)]))]
noncomputable def Pu6 : PExt := Pu5.add 10 (fun _ args σ => match gPures pu_10 args with | some p => some (p, σ) | none => none)
noncomputable def pu_12 : List (List PD × PD) :=
  [([(.str [98])], (.agg [(.int .i64 13), (.int .i64 0), (.int .i64 0), (.str [98]), (.str []), (.str []), (.int .i64 0), (.int .i64 0), (.int .i64 0), (.slice 0 [] .any), (.str []), (.bool .false), (.int .i64 0), (.int .i64 0), (.slice 0 [] .any), (.str []), (.int .i64 0), (.int .i64 0), (.slice 0 [] .any), (.str []), (.int .i64 0), (.int .i64 0), (.int .i64 0), (.bool .false)])),
   ([(.str [99])], (.agg [(.int .i64 13), (.int .i64 0), (.int .i64 0), (.str [99]), (.str []), (.str []), (.int .i64 0), (.int .i64 0), (.int .i64 0), (.slice 0 [] .any), (.str []), (.bool .false), (.int .i64 0), (.int .i64 0), (.slice 0 [] .any), (.str []), (.int .i64 0), (.int .i64 0), (.slice 0 [] .any), (.str []), (.int .i64 0), (.int .i64 0), (.int .i64 0), (.bool .false)]))]
noncomputable def Pu7 : PExt := Pu6.add 12 (fun _ args σ => match gPures pu_12 args with | some p => some (p, σ) | none => none)
noncomputable abbrev PuE : PExt := Pu7
end Go.Kz

/-
  The closed calls of function 29 run.
-/
set_option maxRecDepth 100000
namespace Go.Kz
open Go Go.Proofs
theorem pu_29_all : (pu_29.all (pureRun Tryz.prog Pu0 1000 29)) = true := by kernel_rfl
end Go.Kz

/-
  The closed calls of function 26 run.
-/
set_option maxRecDepth 100000
namespace Go.Kz
open Go Go.Proofs
theorem pu_26_all : (pu_26.all (pureRun Tryz.prog Pu1 1000 26)) = true := by kernel_rfl
end Go.Kz

/-
  The closed calls of function 56 run.
-/
set_option maxRecDepth 100000
namespace Go.Kz
open Go Go.Proofs
theorem pu_56_all : (pu_56.all (pureRun Tryz.prog Pu3 1000 56)) = true := by kernel_rfl
end Go.Kz

/-
  The closed calls of function 10 run.
-/
set_option maxRecDepth 100000
namespace Go.Kz
open Go Go.Proofs
theorem pu_10_all : (pu_10.all (pureRun Tryz.prog Pu5 1000 10)) = true := by kernel_rfl
end Go.Kz

/-
  The closed calls of function 12 run.
-/
set_option maxRecDepth 100000
namespace Go.Kz
open Go Go.Proofs
theorem pu_12_all : (pu_12.all (pureRun Tryz.prog Pu6 1000 12)) = true := by kernel_rfl
end Go.Kz
