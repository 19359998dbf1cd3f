/-
  What is known of the types of this seat.
-/
import Derived.Test.YtclleofcjnggaaaDoorProg
import Derived.Test.YtclleofcjnggaaaDoorKzZd
import Derived.KernelRfl
set_option linter.all false
namespace Go.Kz
open Go Go.Proofs

@[simp] theorem Tryd.ps1 : psize Tryd.prog 1 = some 1 := by kernel_rfl
@[simp] theorem Tryd.pz1 : pzero Tryd.prog 1 = some (.nilfunc) := by kernel_rfl
@[simp] theorem Tryd.pe1 : pelem Tryd.prog 1 = some (1, 8) := by kernel_rfl
@[simp] theorem Tryd.ps2 : psize Tryd.prog 2 = some 1 := by kernel_rfl
@[simp] theorem Tryd.pz2 : pzero Tryd.prog 2 = some (.int .i64 0) := by kernel_rfl
@[simp] theorem Tryd.pe2 : pelem Tryd.prog 2 = some (1, 8) := by kernel_rfl
@[simp] theorem Tryd.ps3 : psize Tryd.prog 3 = some 1 := by kernel_rfl
@[simp] theorem Tryd.pz3 : pzero Tryd.prog 3 = some (.int .i64 0) := by kernel_rfl
@[simp] theorem Tryd.pe3 : pelem Tryd.prog 3 = some (1, 8) := by kernel_rfl
@[simp] theorem Tryd.ps4 : psize Tryd.prog 4 = some 1 := by kernel_rfl
@[simp] theorem Tryd.pz4 : pzero Tryd.prog 4 = some (.bool false) := by kernel_rfl
@[simp] theorem Tryd.pe4 : pelem Tryd.prog 4 = some (1, 1) := by kernel_rfl
@[simp] theorem Tryd.ps5 : psize Tryd.prog 5 = some 1 := by kernel_rfl
@[simp] theorem Tryd.pz5 : pzero Tryd.prog 5 = some (.int .u8 0) := by kernel_rfl
@[simp] theorem Tryd.pe5 : pelem Tryd.prog 5 = some (1, 1) := by kernel_rfl
@[simp] theorem Tryd.ps6 : psize Tryd.prog 6 = some 1 := by kernel_rfl
@[simp] theorem Tryd.pz6 : pzero Tryd.prog 6 = some (.int .u8 0) := by kernel_rfl
@[simp] theorem Tryd.pe6 : pelem Tryd.prog 6 = some (1, 1) := by kernel_rfl
@[simp] theorem Tryd.ps7 : psize Tryd.prog 7 = some 4 := by kernel_rfl
@[simp] theorem Tryd.pz7 : pzero Tryd.prog 7 = some (.agg [.int .i64 0, .int .i64 0, .bool false, .int .u8 0]) := by kernel_rfl
@[simp] theorem Tryd.pe7 : pelem Tryd.prog 7 = some (4, 24) := by kernel_rfl
@[simp] theorem Tryd.ps8 : psize Tryd.prog 8 = some 4 := by kernel_rfl
@[simp] theorem Tryd.pz8 : pzero Tryd.prog 8 = some (.agg [.int .i64 0, .int .i64 0, .bool false, .int .u8 0]) := by kernel_rfl
@[simp] theorem Tryd.pe8 : pelem Tryd.prog 8 = some (4, 24) := by kernel_rfl
@[simp] theorem Tryd.ps9 : psize Tryd.prog 9 = some 1 := by kernel_rfl
@[simp] theorem Tryd.pz9 : pzero Tryd.prog 9 = some (.str []) := by kernel_rfl
@[simp] theorem Tryd.pe9 : pelem Tryd.prog 9 = some (1, 16) := by kernel_rfl
@[simp] theorem Tryd.ps10 : psize Tryd.prog 10 = some 1 := by kernel_rfl
@[simp] theorem Tryd.pz10 : pzero Tryd.prog 10 = some (.str []) := by kernel_rfl
@[simp] theorem Tryd.pe10 : pelem Tryd.prog 10 = some (1, 16) := by kernel_rfl
@[simp] theorem Tryd.ps11 : psize Tryd.prog 11 = some 1 := by kernel_rfl
@[simp] theorem Tryd.pz11 : pzero Tryd.prog 11 = some (.str []) := by kernel_rfl
@[simp] theorem Tryd.pe11 : pelem Tryd.prog 11 = some (1, 16) := by kernel_rfl
@[simp] theorem Tryd.ps12 : psize Tryd.prog 12 = some 1 := by kernel_rfl
@[simp] theorem Tryd.pz12 : pzero Tryd.prog 12 = some (.int .u64 0) := by kernel_rfl
@[simp] theorem Tryd.pe12 : pelem Tryd.prog 12 = some (1, 8) := by kernel_rfl
@[simp] theorem Tryd.ps13 : psize Tryd.prog 13 = some 2 := by kernel_rfl
@[simp] theorem Tryd.pz13 : pzero Tryd.prog 13 = some (.agg [.str [], .int .u64 0]) := by kernel_rfl
@[simp] theorem Tryd.pe13 : pelem Tryd.prog 13 = some (2, 24) := by kernel_rfl
@[simp] theorem Tryd.ps14 : psize Tryd.prog 14 = some 2 := by kernel_rfl
@[simp] theorem Tryd.pz14 : pzero Tryd.prog 14 = some (.agg [.str [], .int .u64 0]) := by kernel_rfl
@[simp] theorem Tryd.pe14 : pelem Tryd.prog 14 = some (2, 24) := by kernel_rfl
@[simp] theorem Tryd.ps15 : psize Tryd.prog 15 = some 1 := by kernel_rfl
@[simp] theorem Tryd.pz15 : pzero Tryd.prog 15 = some (.nilptr) := by kernel_rfl
@[simp] theorem Tryd.pe15 : pelem Tryd.prog 15 = some (1, 8) := by kernel_rfl
@[simp] theorem Tryd.ps16 : psize Tryd.prog 16 = some 1 := by kernel_rfl
@[simp] theorem Tryd.pz16 : pzero Tryd.prog 16 = some (.nilptr) := by kernel_rfl
@[simp] theorem Tryd.pe16 : pelem Tryd.prog 16 = some (1, 8) := by kernel_rfl
@[simp] theorem Tryd.ps17 : psize Tryd.prog 17 = some 1 := by kernel_rfl
@[simp] theorem Tryd.pz17 : pzero Tryd.prog 17 = some (.nilptr) := by kernel_rfl
@[simp] theorem Tryd.pe17 : pelem Tryd.prog 17 = some (1, 8) := by kernel_rfl
@[simp] theorem Tryd.ps18 : psize Tryd.prog 18 = some 1 := by kernel_rfl
@[simp] theorem Tryd.pz18 : pzero Tryd.prog 18 = some (.agg [.nilptr]) := by kernel_rfl
@[simp] theorem Tryd.pe18 : pelem Tryd.prog 18 = some (1, 8) := by kernel_rfl
@[simp] theorem Tryd.ps19 : psize Tryd.prog 19 = some 1 := by kernel_rfl
@[simp] theorem Tryd.pz19 : pzero Tryd.prog 19 = some (.agg [.nilptr]) := by kernel_rfl
@[simp] theorem Tryd.pe19 : pelem Tryd.prog 19 = some (1, 8) := by kernel_rfl
@[simp] theorem Tryd.ps20 : psize Tryd.prog 20 = some 1 := by kernel_rfl
@[simp] theorem Tryd.pe20 : pelem Tryd.prog 20 = some (1, 16) := by kernel_rfl
@[simp] theorem Tryd.ps21 : psize Tryd.prog 21 = some 1 := by kernel_rfl
@[simp] theorem Tryd.pz21 : pzero Tryd.prog 21 = some (.int .i32 0) := by kernel_rfl
@[simp] theorem Tryd.pe21 : pelem Tryd.prog 21 = some (1, 4) := by kernel_rfl
@[simp] theorem Tryd.ps22 : psize Tryd.prog 22 = some 4 := by kernel_rfl
@[simp] theorem Tryd.pz22 : pzero Tryd.prog 22 = some (.agg [.int .i64 0, .int .i64 0, .int .i64 0, .int .i64 0]) := by kernel_rfl
@[simp] theorem Tryd.pe22 : pelem Tryd.prog 22 = some (4, 32) := by kernel_rfl
@[simp] theorem Tryd.ps23 : psize Tryd.prog 23 = some 4 := by kernel_rfl
@[simp] theorem Tryd.pz23 : pzero Tryd.prog 23 = some (.agg [.int .i64 0, .int .i64 0, .int .i64 0, .int .i64 0]) := by kernel_rfl
@[simp] theorem Tryd.pe23 : pelem Tryd.prog 23 = some (4, 32) := by kernel_rfl
@[simp] theorem Tryd.ps24 : psize Tryd.prog 24 = some 1 := by kernel_rfl
@[simp] theorem Tryd.pz24 : pzero Tryd.prog 24 = some (.int .u64 0) := by kernel_rfl
@[simp] theorem Tryd.pe24 : pelem Tryd.prog 24 = some (1, 8) := by kernel_rfl
@[simp] theorem Tryd.ps25 : psize Tryd.prog 25 = some 2 := by kernel_rfl
@[simp] theorem Tryd.pz25 : pzero Tryd.prog 25 = some (.agg [.int .u64 0, .int .u64 0]) := by kernel_rfl
@[simp] theorem Tryd.pe25 : pelem Tryd.prog 25 = some (2, 16) := by kernel_rfl
@[simp] theorem Tryd.ps26 : psize Tryd.prog 26 = some 2 := by kernel_rfl
@[simp] theorem Tryd.pz26 : pzero Tryd.prog 26 = some (.agg [.int .u64 0, .int .u64 0]) := by kernel_rfl
@[simp] theorem Tryd.pe26 : pelem Tryd.prog 26 = some (2, 16) := by kernel_rfl
@[simp] theorem Tryd.ps27 : psize Tryd.prog 27 = some 1 := by kernel_rfl
@[simp] theorem Tryd.pz27 : pzero Tryd.prog 27 = some (.nilfunc) := by kernel_rfl
@[simp] theorem Tryd.pe27 : pelem Tryd.prog 27 = some (1, 8) := by kernel_rfl
@[simp] theorem Tryd.ps28 : psize Tryd.prog 28 = some 1 := by kernel_rfl
@[simp] theorem Tryd.pz28 : pzero Tryd.prog 28 = some (.int .i64 0) := by kernel_rfl
@[simp] theorem Tryd.pe28 : pelem Tryd.prog 28 = some (1, 8) := by kernel_rfl
@[simp] theorem Tryd.ps29 : psize Tryd.prog 29 = some 1 := by kernel_rfl
@[simp] theorem Tryd.pz29 : pzero Tryd.prog 29 = some (.nilfunc) := by kernel_rfl
@[simp] theorem Tryd.pe29 : pelem Tryd.prog 29 = some (1, 8) := by kernel_rfl
@[simp] theorem Tryd.ps30 : psize Tryd.prog 30 = some 1 := by kernel_rfl
@[simp] theorem Tryd.pz30 : pzero Tryd.prog 30 = some (.slice 0 [] .full) := by kernel_rfl
@[simp] theorem Tryd.pe30 : pelem Tryd.prog 30 = some (1, 24) := by kernel_rfl
@[simp] theorem Tryd.ps31 : psize Tryd.prog 31 = some 1 := by kernel_rfl
@[simp] theorem Tryd.pz31 : pzero Tryd.prog 31 = some (.nilfunc) := by kernel_rfl
@[simp] theorem Tryd.pe31 : pelem Tryd.prog 31 = some (1, 8) := by kernel_rfl
@[simp] theorem Tryd.ps32 : psize Tryd.prog 32 = some 1 := by kernel_rfl
@[simp] theorem Tryd.pz32 : pzero Tryd.prog 32 = some (.nilfunc) := by kernel_rfl
@[simp] theorem Tryd.pe32 : pelem Tryd.prog 32 = some (1, 8) := by kernel_rfl
@[simp] theorem Tryd.ps33 : psize Tryd.prog 33 = some 1 := by kernel_rfl
@[simp] theorem Tryd.pz33 : pzero Tryd.prog 33 = some (.slice 0 [] .full) := by kernel_rfl
@[simp] theorem Tryd.pe33 : pelem Tryd.prog 33 = some (1, 24) := by kernel_rfl
@[simp] theorem Tryd.ps35 : psize Tryd.prog 35 = some 1 := by kernel_rfl
@[simp] theorem Tryd.pz35 : pzero Tryd.prog 35 = some (.nilfunc) := by kernel_rfl
@[simp] theorem Tryd.pe35 : pelem Tryd.prog 35 = some (1, 8) := by kernel_rfl
@[simp] theorem Tryd.ps37 : psize Tryd.prog 37 = some 1 := by kernel_rfl
@[simp] theorem Tryd.pz37 : pzero Tryd.prog 37 = some (.nilfunc) := by kernel_rfl
@[simp] theorem Tryd.pe37 : pelem Tryd.prog 37 = some (1, 8) := by kernel_rfl
@[simp] theorem Tryd.ps38 : psize Tryd.prog 38 = some 4 := by kernel_rfl
@[simp] theorem Tryd.pz38 : pzero Tryd.prog 38 = some (.agg [.int .u64 0, .int .u64 0, .int .u64 0, .int .u64 0]) := by kernel_rfl
@[simp] theorem Tryd.pe38 : pelem Tryd.prog 38 = some (4, 32) := by kernel_rfl
@[simp] theorem Tryd.ps39 : psize Tryd.prog 39 = some 1 := by kernel_rfl
@[simp] theorem Tryd.pz39 : pzero Tryd.prog 39 = some (.nilfunc) := by kernel_rfl
@[simp] theorem Tryd.pe39 : pelem Tryd.prog 39 = some (1, 8) := by kernel_rfl
@[simp] theorem Tryd.ps40 : psize Tryd.prog 40 = some 1 := by kernel_rfl
@[simp] theorem Tryd.pz40 : pzero Tryd.prog 40 = some (.nilfunc) := by kernel_rfl
@[simp] theorem Tryd.pe40 : pelem Tryd.prog 40 = some (1, 8) := by kernel_rfl
@[simp] theorem Tryd.ps41 : psize Tryd.prog 41 = some 1 := by kernel_rfl
@[simp] theorem Tryd.pz41 : pzero Tryd.prog 41 = some (.int .u16 0) := by kernel_rfl
@[simp] theorem Tryd.pe41 : pelem Tryd.prog 41 = some (1, 2) := by kernel_rfl
@[simp] theorem Tryd.ps42 : psize Tryd.prog 42 = some 2 := by kernel_rfl
@[simp] theorem Tryd.pz42 : pzero Tryd.prog 42 = some (.agg [.int .u8 0, .int .u16 0]) := by kernel_rfl
@[simp] theorem Tryd.pe42 : pelem Tryd.prog 42 = some (2, 4) := by kernel_rfl
@[simp] theorem Tryd.ps43 : psize Tryd.prog 43 = some 2 := by kernel_rfl
@[simp] theorem Tryd.pz43 : pzero Tryd.prog 43 = some (.agg [.int .u8 0, .int .u16 0]) := by kernel_rfl
@[simp] theorem Tryd.pe43 : pelem Tryd.prog 43 = some (2, 4) := by kernel_rfl
@[simp] theorem Tryd.ps44 : psize Tryd.prog 44 = some 1 := by kernel_rfl
@[simp] theorem Tryd.pz44 : pzero Tryd.prog 44 = some (.nilfunc) := by kernel_rfl
@[simp] theorem Tryd.pe44 : pelem Tryd.prog 44 = some (1, 8) := by kernel_rfl
@[simp] theorem Tryd.ps45 : psize Tryd.prog 45 = some 1 := by kernel_rfl
@[simp] theorem Tryd.pz45 : pzero Tryd.prog 45 = some (.nilfunc) := by kernel_rfl
@[simp] theorem Tryd.pe45 : pelem Tryd.prog 45 = some (1, 8) := by kernel_rfl
@[simp] theorem Tryd.ps46 : psize Tryd.prog 46 = some 1 := by kernel_rfl
@[simp] theorem Tryd.pz46 : pzero Tryd.prog 46 = some (.nilfunc) := by kernel_rfl
@[simp] theorem Tryd.pe46 : pelem Tryd.prog 46 = some (1, 8) := by kernel_rfl
@[simp] theorem Tryd.ps48 : psize Tryd.prog 48 = some 1 := by kernel_rfl
@[simp] theorem Tryd.pz48 : pzero Tryd.prog 48 = some (.nilfunc) := by kernel_rfl
@[simp] theorem Tryd.pe48 : pelem Tryd.prog 48 = some (1, 8) := by kernel_rfl
@[simp] theorem Tryd.ps49 : psize Tryd.prog 49 = some 2 := by kernel_rfl
@[simp] theorem Tryd.pz49 : pzero Tryd.prog 49 = some (.agg [.int .i64 0, .int .i64 0]) := by kernel_rfl
@[simp] theorem Tryd.pe49 : pelem Tryd.prog 49 = some (2, 16) := by kernel_rfl
@[simp] theorem Tryd.ps50 : psize Tryd.prog 50 = some 2 := by kernel_rfl
@[simp] theorem Tryd.pz50 : pzero Tryd.prog 50 = some (.agg [.int .i64 0, .int .i64 0]) := by kernel_rfl
@[simp] theorem Tryd.pe50 : pelem Tryd.prog 50 = some (2, 16) := by kernel_rfl
@[simp] theorem Tryd.ps51 : psize Tryd.prog 51 = some 1 := by kernel_rfl
@[simp] theorem Tryd.pz51 : pzero Tryd.prog 51 = some (.nilfunc) := by kernel_rfl
@[simp] theorem Tryd.pe51 : pelem Tryd.prog 51 = some (1, 8) := by kernel_rfl
@[simp] theorem Tryd.ps53 : psize Tryd.prog 53 = some 1 := by kernel_rfl
@[simp] theorem Tryd.pz53 : pzero Tryd.prog 53 = some (.nilfunc) := by kernel_rfl
@[simp] theorem Tryd.pe53 : pelem Tryd.prog 53 = some (1, 8) := by kernel_rfl
@[simp] theorem Tryd.ps54 : psize Tryd.prog 54 = some 1 := by kernel_rfl
@[simp] theorem Tryd.pz54 : pzero Tryd.prog 54 = some (.nilfunc) := by kernel_rfl
@[simp] theorem Tryd.pe54 : pelem Tryd.prog 54 = some (1, 8) := by kernel_rfl
@[simp] theorem Tryd.ps56 : psize Tryd.prog 56 = some 1 := by kernel_rfl
@[simp] theorem Tryd.pz56 : pzero Tryd.prog 56 = some (.nilfunc) := by kernel_rfl
@[simp] theorem Tryd.pe56 : pelem Tryd.prog 56 = some (1, 8) := by kernel_rfl
@[simp] theorem Tryd.ps58 : psize Tryd.prog 58 = some 1 := by kernel_rfl
@[simp] theorem Tryd.pz58 : pzero Tryd.prog 58 = some (.nilfunc) := by kernel_rfl
@[simp] theorem Tryd.pe58 : pelem Tryd.prog 58 = some (1, 8) := by kernel_rfl
@[simp] theorem Tryd.ps60 : psize Tryd.prog 60 = some 1 := by kernel_rfl
@[simp] theorem Tryd.pz60 : pzero Tryd.prog 60 = some (.nilfunc) := by kernel_rfl
@[simp] theorem Tryd.pe60 : pelem Tryd.prog 60 = some (1, 8) := by kernel_rfl
@[simp] theorem Tryd.ps61 : psize Tryd.prog 61 = some 1 := by kernel_rfl
@[simp] theorem Tryd.pz61 : pzero Tryd.prog 61 = some (.nilfunc) := by kernel_rfl
@[simp] theorem Tryd.pe61 : pelem Tryd.prog 61 = some (1, 8) := by kernel_rfl
@[simp] theorem Tryd.ps62 : psize Tryd.prog 62 = some 1 := by kernel_rfl
@[simp] theorem Tryd.pz62 : pzero Tryd.prog 62 = some (.slice 0 [] .full) := by kernel_rfl
@[simp] theorem Tryd.pe62 : pelem Tryd.prog 62 = some (1, 24) := by kernel_rfl
@[simp] theorem Tryd.ps63 : psize Tryd.prog 63 = some 1 := by kernel_rfl
@[simp] theorem Tryd.pz63 : pzero Tryd.prog 63 = some (.nilfunc) := by kernel_rfl
@[simp] theorem Tryd.pe63 : pelem Tryd.prog 63 = some (1, 8) := by kernel_rfl
@[simp] theorem Tryd.ps64 : psize Tryd.prog 64 = some 1 := by kernel_rfl
@[simp] theorem Tryd.pz64 : pzero Tryd.prog 64 = some (.slice 0 [] .full) := by kernel_rfl
@[simp] theorem Tryd.pe64 : pelem Tryd.prog 64 = some (1, 24) := by kernel_rfl
@[simp] theorem Tryd.ps65 : psize Tryd.prog 65 = some 1 := by kernel_rfl
@[simp] theorem Tryd.pz65 : pzero Tryd.prog 65 = some (.nilfunc) := by kernel_rfl
@[simp] theorem Tryd.pe65 : pelem Tryd.prog 65 = some (1, 8) := by kernel_rfl
@[simp] theorem Tryd.ps66 : psize Tryd.prog 66 = some 1 := by kernel_rfl
@[simp] theorem Tryd.pz66 : pzero Tryd.prog 66 = some (.slice 0 [] .full) := by kernel_rfl
@[simp] theorem Tryd.pe66 : pelem Tryd.prog 66 = some (1, 24) := by kernel_rfl
@[simp] theorem Tryd.ps67 : psize Tryd.prog 67 = some 1 := by kernel_rfl
@[simp] theorem Tryd.pz67 : pzero Tryd.prog 67 = some (.slice 0 [] .full) := by kernel_rfl
@[simp] theorem Tryd.pe67 : pelem Tryd.prog 67 = some (1, 24) := by kernel_rfl
@[simp] theorem Tryd.ps68 : psize Tryd.prog 68 = some 5 := by kernel_rfl
@[simp] theorem Tryd.pz68 : pzero Tryd.prog 68 = some (.agg [.str [], .bool false, .int .i64 0, .int .i64 0, .slice 0 [] .full]) := by kernel_rfl
@[simp] theorem Tryd.pe68 : pelem Tryd.prog 68 = some (5, 64) := by kernel_rfl
@[simp] theorem Tryd.ps69 : psize Tryd.prog 69 = some 5 := by kernel_rfl
@[simp] theorem Tryd.pz69 : pzero Tryd.prog 69 = some (.agg [.str [], .bool false, .int .i64 0, .int .i64 0, .slice 0 [] .full]) := by kernel_rfl
@[simp] theorem Tryd.pe69 : pelem Tryd.prog 69 = some (5, 64) := by kernel_rfl
@[simp] theorem Tryd.ps70 : psize Tryd.prog 70 = some 1 := by kernel_rfl
@[simp] theorem Tryd.pz70 : pzero Tryd.prog 70 = some (.nilfunc) := by kernel_rfl
@[simp] theorem Tryd.pe70 : pelem Tryd.prog 70 = some (1, 8) := by kernel_rfl
@[simp] theorem Tryd.ps71 : psize Tryd.prog 71 = some 1 := by kernel_rfl
@[simp] theorem Tryd.pz71 : pzero Tryd.prog 71 = some (.nilfunc) := by kernel_rfl
@[simp] theorem Tryd.pe71 : pelem Tryd.prog 71 = some (1, 8) := by kernel_rfl
@[simp] theorem Tryd.ps72 : psize Tryd.prog 72 = some 1 := by kernel_rfl
@[simp] theorem Tryd.pz72 : pzero Tryd.prog 72 = some (.nilfunc) := by kernel_rfl
@[simp] theorem Tryd.pe72 : pelem Tryd.prog 72 = some (1, 8) := by kernel_rfl
@[simp] theorem Tryd.ps73 : psize Tryd.prog 73 = some 1 := by kernel_rfl
@[simp] theorem Tryd.pz73 : pzero Tryd.prog 73 = some (.slice 0 [] .full) := by kernel_rfl
@[simp] theorem Tryd.pe73 : pelem Tryd.prog 73 = some (1, 24) := by kernel_rfl
@[simp] theorem Tryd.ps74 : psize Tryd.prog 74 = some 1 := by kernel_rfl
@[simp] theorem Tryd.pz74 : pzero Tryd.prog 74 = some (.nilfunc) := by kernel_rfl
@[simp] theorem Tryd.pe74 : pelem Tryd.prog 74 = some (1, 8) := by kernel_rfl
@[simp] theorem Tryd.ps75 : psize Tryd.prog 75 = some 1 := by kernel_rfl
@[simp] theorem Tryd.pz75 : pzero Tryd.prog 75 = some (.nilfunc) := by kernel_rfl
@[simp] theorem Tryd.pe75 : pelem Tryd.prog 75 = some (1, 8) := by kernel_rfl
@[simp] theorem Tryd.ps76 : psize Tryd.prog 76 = some 1 := by kernel_rfl
@[simp] theorem Tryd.pz76 : pzero Tryd.prog 76 = some (.nilfunc) := by kernel_rfl
@[simp] theorem Tryd.pe76 : pelem Tryd.prog 76 = some (1, 8) := by kernel_rfl
@[simp] theorem Tryd.ps77 : psize Tryd.prog 77 = some 1 := by kernel_rfl
@[simp] theorem Tryd.pz77 : pzero Tryd.prog 77 = some (.nilfunc) := by kernel_rfl
@[simp] theorem Tryd.pe77 : pelem Tryd.prog 77 = some (1, 8) := by kernel_rfl
@[simp] theorem Tryd.ps78 : psize Tryd.prog 78 = some 1 := by kernel_rfl
@[simp] theorem Tryd.pz78 : pzero Tryd.prog 78 = some (.nilfunc) := by kernel_rfl
@[simp] theorem Tryd.pe78 : pelem Tryd.prog 78 = some (1, 8) := by kernel_rfl
@[simp] theorem Tryd.ps79 : psize Tryd.prog 79 = some 1 := by kernel_rfl
@[simp] theorem Tryd.pz79 : pzero Tryd.prog 79 = some (.int .u64 0) := by kernel_rfl
@[simp] theorem Tryd.pe79 : pelem Tryd.prog 79 = some (1, 8) := by kernel_rfl
@[simp] theorem Tryd.ps80 : psize Tryd.prog 80 = some 1 := by kernel_rfl
@[simp] theorem Tryd.pz80 : pzero Tryd.prog 80 = some (.nilfunc) := by kernel_rfl
@[simp] theorem Tryd.pe80 : pelem Tryd.prog 80 = some (1, 8) := by kernel_rfl
@[simp] theorem Tryd.ps81 : psize Tryd.prog 81 = some 1 := by kernel_rfl
@[simp] theorem Tryd.pz81 : pzero Tryd.prog 81 = some (.nilfunc) := by kernel_rfl
@[simp] theorem Tryd.pe81 : pelem Tryd.prog 81 = some (1, 8) := by kernel_rfl
@[simp] theorem Tryd.ps82 : psize Tryd.prog 82 = some 1 := by kernel_rfl
@[simp] theorem Tryd.pz82 : pzero Tryd.prog 82 = some (.nilfunc) := by kernel_rfl
@[simp] theorem Tryd.pe82 : pelem Tryd.prog 82 = some (1, 8) := by kernel_rfl
@[simp] theorem Tryd.ps83 : psize Tryd.prog 83 = some 1 := by kernel_rfl
@[simp] theorem Tryd.pz83 : pzero Tryd.prog 83 = some (.nilfunc) := by kernel_rfl
@[simp] theorem Tryd.pe83 : pelem Tryd.prog 83 = some (1, 8) := by kernel_rfl
@[simp] theorem Tryd.ps84 : psize Tryd.prog 84 = some 1 := by kernel_rfl
@[simp] theorem Tryd.pz84 : pzero Tryd.prog 84 = some (.nilfunc) := by kernel_rfl
@[simp] theorem Tryd.pe84 : pelem Tryd.prog 84 = some (1, 8) := by kernel_rfl
@[simp] theorem Tryd.ps85 : psize Tryd.prog 85 = some 1 := by kernel_rfl
@[simp] theorem Tryd.pz85 : pzero Tryd.prog 85 = some (.slice 0 [] .full) := by kernel_rfl
@[simp] theorem Tryd.pe85 : pelem Tryd.prog 85 = some (1, 24) := by kernel_rfl
@[simp] theorem Tryd.ps86 : psize Tryd.prog 86 = some 1 := by kernel_rfl
@[simp] theorem Tryd.pz86 : pzero Tryd.prog 86 = some (.nilfunc) := by kernel_rfl
@[simp] theorem Tryd.pe86 : pelem Tryd.prog 86 = some (1, 8) := by kernel_rfl
@[simp] theorem Tryd.ps87 : psize Tryd.prog 87 = some 1 := by kernel_rfl
@[simp] theorem Tryd.pz87 : pzero Tryd.prog 87 = some (.nilfunc) := by kernel_rfl
@[simp] theorem Tryd.pe87 : pelem Tryd.prog 87 = some (1, 8) := by kernel_rfl
@[simp] theorem Tryd.ps88 : psize Tryd.prog 88 = some 1 := by kernel_rfl
@[simp] theorem Tryd.pz88 : pzero Tryd.prog 88 = some (.nilfunc) := by kernel_rfl
@[simp] theorem Tryd.pe88 : pelem Tryd.prog 88 = some (1, 8) := by kernel_rfl
@[simp] theorem Tryd.ps89 : psize Tryd.prog 89 = some 2 := by kernel_rfl
@[simp] theorem Tryd.pz89 : pzero Tryd.prog 89 = some (.agg [.int .i64 0, .int .i64 0]) := by kernel_rfl
@[simp] theorem Tryd.pe89 : pelem Tryd.prog 89 = some (2, 16) := by kernel_rfl
@[simp] theorem Tryd.ps90 : psize Tryd.prog 90 = some 1 := by kernel_rfl
@[simp] theorem Tryd.pz90 : pzero Tryd.prog 90 = some (.nilfunc) := by kernel_rfl
@[simp] theorem Tryd.pe90 : pelem Tryd.prog 90 = some (1, 8) := by kernel_rfl
@[simp] theorem Tryd.ps91 : psize Tryd.prog 91 = some 2 := by kernel_rfl
@[simp] theorem Tryd.pz91 : pzero Tryd.prog 91 = some (.agg [.int .u64 0, .int .u64 0]) := by kernel_rfl
@[simp] theorem Tryd.pe91 : pelem Tryd.prog 91 = some (2, 16) := by kernel_rfl
@[simp] theorem Tryd.ps92 : psize Tryd.prog 92 = some 1 := by kernel_rfl
@[simp] theorem Tryd.pz92 : pzero Tryd.prog 92 = some (.nilfunc) := by kernel_rfl
@[simp] theorem Tryd.pe92 : pelem Tryd.prog 92 = some (1, 8) := by kernel_rfl
@[simp] theorem Tryd.ps93 : psize Tryd.prog 93 = some 1 := by kernel_rfl
@[simp] theorem Tryd.pz93 : pzero Tryd.prog 93 = some (.nilfunc) := by kernel_rfl
@[simp] theorem Tryd.pe93 : pelem Tryd.prog 93 = some (1, 8) := by kernel_rfl
@[simp] theorem Tryd.ps94 : psize Tryd.prog 94 = some 64 := by kernel_rfl
@[simp] theorem Tryd.pz94 : pzero Tryd.prog 94 = some (.agg [.int .u8 0, .int .u8 0, .int .u8 0, .int .u8 0, .int .u8 0, .int .u8 0, .int .u8 0, .int .u8 0, .int .u8 0, .int .u8 0, .int .u8 0, .int .u8 0, .int .u8 0, .int .u8 0, .int .u8 0, .int .u8 0, .int .u8 0, .int .u8 0, .int .u8 0, .int .u8 0, .int .u8 0, .int .u8 0, .int .u8 0, .int .u8 0, .int .u8 0, .int .u8 0, .int .u8 0, .int .u8 0, .int .u8 0, .int .u8 0, .int .u8 0, .int .u8 0, .int .u8 0, .int .u8 0, .int .u8 0, .int .u8 0, .int .u8 0, .int .u8 0, .int .u8 0, .int .u8 0, .int .u8 0, .int .u8 0, .int .u8 0, .int .u8 0, .int .u8 0, .int .u8 0, .int .u8 0, .int .u8 0, .int .u8 0, .int .u8 0, .int .u8 0, .int .u8 0, .int .u8 0, .int .u8 0, .int .u8 0, .int .u8 0, .int .u8 0, .int .u8 0, .int .u8 0, .int .u8 0, .int .u8 0, .int .u8 0, .int .u8 0, .int .u8 0]) := by kernel_rfl
@[simp] theorem Tryd.pe94 : pelem Tryd.prog 94 = some (64, 64) := by kernel_rfl
@[simp] theorem Tryd.ps95 : psize Tryd.prog 95 = some 1 := by kernel_rfl
@[simp] theorem Tryd.pz95 : pzero Tryd.prog 95 = some (.nilfunc) := by kernel_rfl
@[simp] theorem Tryd.pe95 : pelem Tryd.prog 95 = some (1, 8) := by kernel_rfl
@[simp] theorem Tryd.ps96 : psize Tryd.prog 96 = some 4 := by kernel_rfl
@[simp] theorem Tryd.pz96 : pzero Tryd.prog 96 = some (.agg [.nilptr, .nilptr, .nilptr, .str []]) := by kernel_rfl
@[simp] theorem Tryd.pe96 : pelem Tryd.prog 96 = some (4, 40) := by kernel_rfl
@[simp] theorem Tryd.ps97 : psize Tryd.prog 97 = some 4 := by kernel_rfl
@[simp] theorem Tryd.pz97 : pzero Tryd.prog 97 = some (.agg [.nilptr, .nilptr, .nilptr, .str []]) := by kernel_rfl
@[simp] theorem Tryd.pe97 : pelem Tryd.prog 97 = some (4, 40) := by kernel_rfl
@[simp] theorem Tryd.ps98 : psize Tryd.prog 98 = some 0 := by kernel_rfl
@[simp] theorem Tryd.pz98 : pzero Tryd.prog 98 = some (.agg []) := by kernel_rfl
@[simp] theorem Tryd.ps99 : psize Tryd.prog 99 = some 0 := by kernel_rfl
@[simp] theorem Tryd.pz99 : pzero Tryd.prog 99 = some (.agg []) := by kernel_rfl
@[simp] theorem Tryd.ps100 : psize Tryd.prog 100 = some 0 := by kernel_rfl
@[simp] theorem Tryd.pz100 : pzero Tryd.prog 100 = some (.agg []) := by kernel_rfl
@[simp] theorem Tryd.ps101 : psize Tryd.prog 101 = some 1 := by kernel_rfl
@[simp] theorem Tryd.pz101 : pzero Tryd.prog 101 = some (.nilfunc) := by kernel_rfl
@[simp] theorem Tryd.pe101 : pelem Tryd.prog 101 = some (1, 8) := by kernel_rfl
@[simp] theorem Tryd.ps102 : psize Tryd.prog 102 = some 1 := by kernel_rfl
@[simp] theorem Tryd.pz102 : pzero Tryd.prog 102 = some (.int .u32 0) := by kernel_rfl
@[simp] theorem Tryd.pe102 : pelem Tryd.prog 102 = some (1, 4) := by kernel_rfl
@[simp] theorem Tryd.ps103 : psize Tryd.prog 103 = some 1 := by kernel_rfl
@[simp] theorem Tryd.pz103 : pzero Tryd.prog 103 = some (.int .u8 0) := by kernel_rfl
@[simp] theorem Tryd.pe103 : pelem Tryd.prog 103 = some (1, 1) := by kernel_rfl
@[simp] theorem Tryd.ps104 : psize Tryd.prog 104 = some 1 := by kernel_rfl
@[simp] theorem Tryd.pz104 : pzero Tryd.prog 104 = some (.int .u8 0) := by kernel_rfl
@[simp] theorem Tryd.pe104 : pelem Tryd.prog 104 = some (1, 1) := by kernel_rfl
@[simp] theorem Tryd.ps105 : psize Tryd.prog 105 = some 1 := by kernel_rfl
@[simp] theorem Tryd.pz105 : pzero Tryd.prog 105 = some (.nilfunc) := by kernel_rfl
@[simp] theorem Tryd.pe105 : pelem Tryd.prog 105 = some (1, 8) := by kernel_rfl
@[simp] theorem Tryd.ps106 : psize Tryd.prog 106 = some 1 := by kernel_rfl
@[simp] theorem Tryd.pz106 : pzero Tryd.prog 106 = some (.nilptr) := by kernel_rfl
@[simp] theorem Tryd.pe106 : pelem Tryd.prog 106 = some (1, 8) := by kernel_rfl
@[simp] theorem Tryd.ps107 : psize Tryd.prog 107 = some 1 := by kernel_rfl
@[simp] theorem Tryd.pz107 : pzero Tryd.prog 107 = some (.int .i32 0) := by kernel_rfl
@[simp] theorem Tryd.pe107 : pelem Tryd.prog 107 = some (1, 4) := by kernel_rfl
@[simp] theorem Tryd.ps108 : psize Tryd.prog 108 = some 1 := by kernel_rfl
@[simp] theorem Tryd.pz108 : pzero Tryd.prog 108 = some (.int .i32 0) := by kernel_rfl
@[simp] theorem Tryd.pe108 : pelem Tryd.prog 108 = some (1, 4) := by kernel_rfl
@[simp] theorem Tryd.ps109 : psize Tryd.prog 109 = some 11 := by kernel_rfl
@[simp] theorem Tryd.pz109 : pzero Tryd.prog 109 = some (.agg [.int .u64 0, .int .u64 0, .int .u32 0, .int .u8 0, .int .u8 0, .int .u8 0, .int .u8 0, .nilfunc, .nilptr, .int .i32 0, .int .i32 0]) := by kernel_rfl
@[simp] theorem Tryd.pe109 : pelem Tryd.prog 109 = some (11, 48) := by kernel_rfl
@[simp] theorem Tryd.ps110 : psize Tryd.prog 110 = some 11 := by kernel_rfl
@[simp] theorem Tryd.pz110 : pzero Tryd.prog 110 = some (.agg [.int .u64 0, .int .u64 0, .int .u32 0, .int .u8 0, .int .u8 0, .int .u8 0, .int .u8 0, .nilfunc, .nilptr, .int .i32 0, .int .i32 0]) := by kernel_rfl
@[simp] theorem Tryd.pe110 : pelem Tryd.prog 110 = some (11, 48) := by kernel_rfl
@[simp] theorem Tryd.ps111 : psize Tryd.prog 111 = some 2 := by kernel_rfl
@[simp] theorem Tryd.pz111 : pzero Tryd.prog 111 = some (.agg [.int .i64 0, .int .i64 0]) := by kernel_rfl
@[simp] theorem Tryd.pe111 : pelem Tryd.prog 111 = some (2, 16) := by kernel_rfl
@[simp] theorem Tryd.ps112 : psize Tryd.prog 112 = some 2 := by kernel_rfl
@[simp] theorem Tryd.pz112 : pzero Tryd.prog 112 = some (.agg [.int .i64 0, .int .i64 0]) := by kernel_rfl
@[simp] theorem Tryd.pe112 : pelem Tryd.prog 112 = some (2, 16) := by kernel_rfl
@[simp] theorem Tryd.ps113 : psize Tryd.prog 113 = some 1 := by kernel_rfl
@[simp] theorem Tryd.pz113 : pzero Tryd.prog 113 = some (.slice 0 [] .full) := by kernel_rfl
@[simp] theorem Tryd.pe113 : pelem Tryd.prog 113 = some (1, 24) := by kernel_rfl
@[simp] theorem Tryd.ps114 : psize Tryd.prog 114 = some 4 := by kernel_rfl
@[simp] theorem Tryd.pz114 : pzero Tryd.prog 114 = some (.agg [.str [], .int .i64 0, .int .i64 0, .slice 0 [] .full]) := by kernel_rfl
@[simp] theorem Tryd.pe114 : pelem Tryd.prog 114 = some (4, 56) := by kernel_rfl
@[simp] theorem Tryd.ps115 : psize Tryd.prog 115 = some 4 := by kernel_rfl
@[simp] theorem Tryd.pz115 : pzero Tryd.prog 115 = some (.agg [.str [], .int .i64 0, .int .i64 0, .slice 0 [] .full]) := by kernel_rfl
@[simp] theorem Tryd.pe115 : pelem Tryd.prog 115 = some (4, 56) := by kernel_rfl
@[simp] theorem Tryd.ps116 : psize Tryd.prog 116 = some 1 := by kernel_rfl
@[simp] theorem Tryd.pz116 : pzero Tryd.prog 116 = some (.nilptr) := by kernel_rfl
@[simp] theorem Tryd.pe116 : pelem Tryd.prog 116 = some (1, 8) := by kernel_rfl
@[simp] theorem Tryd.ps117 : psize Tryd.prog 117 = some 1 := by kernel_rfl
@[simp] theorem Tryd.pz117 : pzero Tryd.prog 117 = some (.slice 0 [] .full) := by kernel_rfl
@[simp] theorem Tryd.pe117 : pelem Tryd.prog 117 = some (1, 24) := by kernel_rfl
@[simp] theorem Tryd.ps118 : psize Tryd.prog 118 = some 3 := by kernel_rfl
@[simp] theorem Tryd.pz118 : pzero Tryd.prog 118 = some (.agg [.int .i64 0, .int .i64 0, .slice 0 [] .full]) := by kernel_rfl
@[simp] theorem Tryd.pe118 : pelem Tryd.prog 118 = some (3, 40) := by kernel_rfl
@[simp] theorem Tryd.ps119 : psize Tryd.prog 119 = some 3 := by kernel_rfl
@[simp] theorem Tryd.pz119 : pzero Tryd.prog 119 = some (.agg [.int .i64 0, .int .i64 0, .slice 0 [] .full]) := by kernel_rfl
@[simp] theorem Tryd.pe119 : pelem Tryd.prog 119 = some (3, 40) := by kernel_rfl
@[simp] theorem Tryd.ps120 : psize Tryd.prog 120 = some 2 := by kernel_rfl
@[simp] theorem Tryd.pz120 : pzero Tryd.prog 120 = some (.agg [.int .i64 0, .int .i64 0]) := by kernel_rfl
@[simp] theorem Tryd.pe120 : pelem Tryd.prog 120 = some (2, 16) := by kernel_rfl
@[simp] theorem Tryd.ps121 : psize Tryd.prog 121 = some 2 := by kernel_rfl
@[simp] theorem Tryd.pz121 : pzero Tryd.prog 121 = some (.agg [.int .i64 0, .int .i64 0]) := by kernel_rfl
@[simp] theorem Tryd.pe121 : pelem Tryd.prog 121 = some (2, 16) := by kernel_rfl
attribute [simp] Tryd.underlying1 Tryd.underlying2 Tryd.underlying3 Tryd.underlying4 Tryd.underlying5 Tryd.underlying6 Tryd.underlying7 Tryd.underlying8 Tryd.underlying9 Tryd.underlying10 Tryd.underlying11 Tryd.underlying12 Tryd.underlying13 Tryd.underlying14 Tryd.underlying15 Tryd.underlying16 Tryd.underlying17 Tryd.underlying18 Tryd.underlying19 Tryd.underlying20 Tryd.underlying21 Tryd.underlying22 Tryd.underlying23 Tryd.underlying24 Tryd.underlying25 Tryd.underlying26 Tryd.underlying27 Tryd.underlying28 Tryd.underlying29 Tryd.underlying30 Tryd.underlying31 Tryd.underlying32 Tryd.underlying33 Tryd.underlying35 Tryd.underlying37 Tryd.underlying38 Tryd.underlying39 Tryd.underlying40 Tryd.underlying41 Tryd.underlying42 Tryd.underlying43 Tryd.underlying44 Tryd.underlying45 Tryd.underlying46 Tryd.underlying48 Tryd.underlying49 Tryd.underlying50 Tryd.underlying51 Tryd.underlying53 Tryd.underlying54 Tryd.underlying56 Tryd.underlying58 Tryd.underlying60 Tryd.underlying61 Tryd.underlying62 Tryd.underlying63 Tryd.underlying64 Tryd.underlying65 Tryd.underlying66 Tryd.underlying67 Tryd.underlying68 Tryd.underlying69 Tryd.underlying70 Tryd.underlying71 Tryd.underlying72 Tryd.underlying73 Tryd.underlying74 Tryd.underlying75 Tryd.underlying76 Tryd.underlying77 Tryd.underlying78 Tryd.underlying79 Tryd.underlying80 Tryd.underlying81 Tryd.underlying82 Tryd.underlying83 Tryd.underlying84 Tryd.underlying85 Tryd.underlying86 Tryd.underlying87 Tryd.underlying88 Tryd.underlying89 Tryd.underlying90 Tryd.underlying91 Tryd.underlying92 Tryd.underlying93 Tryd.underlying94 Tryd.underlying95 Tryd.underlying96 Tryd.underlying97 Tryd.underlying98 Tryd.underlying99 Tryd.underlying100 Tryd.underlying101 Tryd.underlying102 Tryd.underlying103 Tryd.underlying104 Tryd.underlying105 Tryd.underlying106 Tryd.underlying107 Tryd.underlying108 Tryd.underlying109 Tryd.underlying110 Tryd.underlying111 Tryd.underlying112 Tryd.underlying113 Tryd.underlying114 Tryd.underlying115 Tryd.underlying116 Tryd.underlying117 Tryd.underlying118 Tryd.underlying119 Tryd.underlying120 Tryd.underlying121

end Go.Kz
