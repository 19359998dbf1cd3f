/-
  Part P8 of the way: an interpreter over pure data, its soundness, walks through functions.
-/
import Derived.Test.YtoedmmmhcmppgaaGreatDoorP5
import Derived.Test.YtoedmmmhcmppgaaGreatDoorP7
import Derived.Test.YtoedmmmhcmppgaaGreatDoorP4
import Derived.Lib.ItoaLen
import Derived.Test.YtoedmmmhcmppgaaGreatDoorCards
import Derived.Test.YtoedmmmhcmppgaaGreatDoorTie
import Derived.SevenTiedAt
set_option linter.all false

/-
  Chapter 51: CompareTexts, kind by kind.
-/
namespace Go.Kz
open Go Go.Proofs
set_option maxRecDepth 100000
set_option maxHeartbeats 4000000
section
variable {E : PExt} (hU : Uni E)
include hU

theorem r_Law_1 (d i : Int) (nm rn rt fn sn cn : List UInt8) (ra rb rf fl fh sa sb ca cb cs : Int) (fp ct : Bool) (wk sk gk : Nat) (W S G : List PD) (h0 : E 3 = none) (hk : E 4 = some (entry (gf0 Em.bool (some true)))) {gT gO : Nat → List PD → List SObj → Option (PD × List SObj)} (hT : E 5 = some gT) (hT1 : ∀ fl0 σ, gT fl0 [(.agg [.int .i64 1, .int .i64 d, .int .i64 i, .str nm, .str rn, .str rt, .int .i64 ra, .int .i64 rb, .int .i64 rf, .slice wk W .any, .str fn, .bool fp, .int .i64 fl, .int .i64 fh, .slice sk S .any, .str sn, .int .i64 sa, .int .i64 sb, .slice gk G .any, .str cn, .int .i64 ca, .int .i64 cb, .int .i64 cs, .bool ct])] σ = some (.tup [.str (Lib.join [[97, 100, 100], [114, 97, 110, 107], Lib.itoa i, rn] [32]), .int .i64 0], σ)) (hO : E 6 = some gO) (hO1 : ∀ fl0 σ, gO fl0 [(.agg [.int .i64 1, .int .i64 d, .int .i64 i, .str nm, .str rn, .str rt, .int .i64 ra, .int .i64 rb, .int .i64 rf, .slice wk W .any, .str fn, .bool fp, .int .i64 fl, .int .i64 fh, .slice sk S .any, .str sn, .int .i64 sa, .int .i64 sb, .slice gk G .any, .str cn, .int .i64 ca, .int .i64 cb, .int .i64 cs, .bool ct])] σ = some (.tup [.int .i64 0, .int .i64 0], σ)) (hI : E 7 = some gItoa) (hli : (Lib.itoa i).length ≤ 100) (hld : (Lib.itoa d).length ≤ 100) (hi : -9223372036854775808 ≤ i ∧ i ≤ 9223372036854775807) (hd : -9223372036854775808 ≤ d ∧ d ≤ 9223372036854775807) (hs : nm.length + rn.length + fn.length + sn.length + cn.length ≤ 60) : Run Tryz.prog E 3 [(.agg [.int .i64 1, .int .i64 d, .int .i64 i, .str nm, .str rn, .str rt, .int .i64 ra, .int .i64 rb, .int .i64 rf, .slice wk W .any, .str fn, .bool fp, .int .i64 fl, .int .i64 fh, .slice sk S .any, .str sn, .int .i64 sa, .int .i64 sb, .slice gk G .any, .str cn, .int .i64 ca, .int .i64 cb, .int .i64 cs, .bool ct])] (Em.bool.emb true) := by
  have f1 := gItoa_of i hi
  have f2 := gItoa_of d hd
  have s1 : ¬ (60 : Int) < nm.length + rn.length + fn.length + sn.length + cn.length := by omega
  apply Run.bodyL h0 Tryz.func3 rfl
  focus (simp [show Tryz.f3.ntmps = _ from rfl, List.replicate]; rfl)
  have hj : Lib.join [[97, 100, 100], [114, 97, 110, 107], Lib.itoa i, rn] [32] = 97 :: 100 :: 100 :: 32 :: (114 :: 97 :: 110 :: 107 :: 32 :: (Lib.itoa i ++ 32 :: (rn))) := by simp [Lib.join, List.intercalate]
  have gx := And.intro @hk (And.intro @hT (And.intro @hT1 (And.intro @hO (And.intro @hO1 (And.intro @hI (And.intro @f1 (And.intro @f2 (And.intro @s1 (@hj)))))))))
  refine goA ?_
  clear gx
  exact ⟨_, _, rfl, rfl⟩

theorem r_Law_2 (d i : Int) (nm rn rt fn sn cn : List UInt8) (ra rb rf fl fh sa sb ca cb cs : Int) (fp ct : Bool) (wk sk gk : Nat) (W S G : List PD) (h0 : E 3 = none) (hk : E 4 = some (entry (gf0 Em.bool (some true)))) {gT gO : Nat → List PD → List SObj → Option (PD × List SObj)} (hT : E 5 = some gT) (hT1 : ∀ fl0 σ, gT fl0 [(.agg [.int .i64 2, .int .i64 d, .int .i64 i, .str nm, .str rn, .str rt, .int .i64 ra, .int .i64 rb, .int .i64 rf, .slice wk W .any, .str fn, .bool fp, .int .i64 fl, .int .i64 fh, .slice sk S .any, .str sn, .int .i64 sa, .int .i64 sb, .slice gk G .any, .str cn, .int .i64 ca, .int .i64 cb, .int .i64 cs, .bool ct])] σ = some (.tup [.str (Lib.join [[114, 101, 109, 111, 118, 101], [114, 97, 110, 107], Lib.itoa i] [32]), .int .i64 0], σ)) (hO : E 6 = some gO) (hO1 : ∀ fl0 σ, gO fl0 [(.agg [.int .i64 2, .int .i64 d, .int .i64 i, .str nm, .str rn, .str rt, .int .i64 ra, .int .i64 rb, .int .i64 rf, .slice wk W .any, .str fn, .bool fp, .int .i64 fl, .int .i64 fh, .slice sk S .any, .str sn, .int .i64 sa, .int .i64 sb, .slice gk G .any, .str cn, .int .i64 ca, .int .i64 cb, .int .i64 cs, .bool ct])] σ = some (.tup [.int .i64 0, .int .i64 1], σ)) (hI : E 7 = some gItoa) (hli : (Lib.itoa i).length ≤ 100) (hld : (Lib.itoa d).length ≤ 100) (hi : -9223372036854775808 ≤ i ∧ i ≤ 9223372036854775807) (hd : -9223372036854775808 ≤ d ∧ d ≤ 9223372036854775807) (hs : nm.length + rn.length + fn.length + sn.length + cn.length ≤ 60) : Run Tryz.prog E 3 [(.agg [.int .i64 2, .int .i64 d, .int .i64 i, .str nm, .str rn, .str rt, .int .i64 ra, .int .i64 rb, .int .i64 rf, .slice wk W .any, .str fn, .bool fp, .int .i64 fl, .int .i64 fh, .slice sk S .any, .str sn, .int .i64 sa, .int .i64 sb, .slice gk G .any, .str cn, .int .i64 ca, .int .i64 cb, .int .i64 cs, .bool ct])] (Em.bool.emb true) := by
  have f1 := gItoa_of i hi
  have f2 := gItoa_of d hd
  have s1 : ¬ (60 : Int) < nm.length + rn.length + fn.length + sn.length + cn.length := by omega
  apply Run.bodyL h0 Tryz.func3 rfl
  focus (simp [show Tryz.f3.ntmps = _ from rfl, List.replicate]; rfl)
  have hj : Lib.join [[114, 101, 109, 111, 118, 101], [114, 97, 110, 107], Lib.itoa i] [32] = 114 :: 101 :: 109 :: 111 :: 118 :: 101 :: 32 :: (114 :: 97 :: 110 :: 107 :: 32 :: (Lib.itoa i)) := by simp [Lib.join, List.intercalate]
  have gx := And.intro @hk (And.intro @hT (And.intro @hT1 (And.intro @hO (And.intro @hO1 (And.intro @hI (And.intro @f1 (And.intro @f2 (And.intro @s1 (@hj)))))))))
  refine goA ?_
  clear gx
  exact ⟨_, _, rfl, rfl⟩

theorem r_Law_3 (d i : Int) (nm rn rt fn sn cn : List UInt8) (ra rb rf fl fh sa sb ca cb cs : Int) (fp ct : Bool) (wk sk gk : Nat) (W S G : List PD) (h0 : E 3 = none) (hk : E 4 = some (entry (gf0 Em.bool (some true)))) {gT gO : Nat → List PD → List SObj → Option (PD × List SObj)} (hT : E 5 = some gT) (hT1 : ∀ fl0 σ, gT fl0 [(.agg [.int .i64 3, .int .i64 d, .int .i64 i, .str nm, .str rn, .str rt, .int .i64 ra, .int .i64 rb, .int .i64 rf, .slice wk W .any, .str fn, .bool fp, .int .i64 fl, .int .i64 fh, .slice sk S .any, .str sn, .int .i64 sa, .int .i64 sb, .slice gk G .any, .str cn, .int .i64 ca, .int .i64 cb, .int .i64 cs, .bool ct])] σ = some (.tup [.str (Lib.join [[112, 117, 116], [114, 97, 110, 107], Lib.itoa i, rn] [32]), .int .i64 0], σ)) (hO : E 6 = some gO) (hO1 : ∀ fl0 σ, gO fl0 [(.agg [.int .i64 3, .int .i64 d, .int .i64 i, .str nm, .str rn, .str rt, .int .i64 ra, .int .i64 rb, .int .i64 rf, .slice wk W .any, .str fn, .bool fp, .int .i64 fl, .int .i64 fh, .slice sk S .any, .str sn, .int .i64 sa, .int .i64 sb, .slice gk G .any, .str cn, .int .i64 ca, .int .i64 cb, .int .i64 cs, .bool ct])] σ = some (.tup [.int .i64 0, .int .i64 2], σ)) (hI : E 7 = some gItoa) (hli : (Lib.itoa i).length ≤ 100) (hld : (Lib.itoa d).length ≤ 100) (hi : -9223372036854775808 ≤ i ∧ i ≤ 9223372036854775807) (hd : -9223372036854775808 ≤ d ∧ d ≤ 9223372036854775807) (hs : nm.length + rn.length + fn.length + sn.length + cn.length ≤ 60) : Run Tryz.prog E 3 [(.agg [.int .i64 3, .int .i64 d, .int .i64 i, .str nm, .str rn, .str rt, .int .i64 ra, .int .i64 rb, .int .i64 rf, .slice wk W .any, .str fn, .bool fp, .int .i64 fl, .int .i64 fh, .slice sk S .any, .str sn, .int .i64 sa, .int .i64 sb, .slice gk G .any, .str cn, .int .i64 ca, .int .i64 cb, .int .i64 cs, .bool ct])] (Em.bool.emb true) := by
  have f1 := gItoa_of i hi
  have f2 := gItoa_of d hd
  have s1 : ¬ (60 : Int) < nm.length + rn.length + fn.length + sn.length + cn.length := by omega
  apply Run.bodyL h0 Tryz.func3 rfl
  focus (simp [show Tryz.f3.ntmps = _ from rfl, List.replicate]; rfl)
  have hj : Lib.join [[112, 117, 116], [114, 97, 110, 107], Lib.itoa i, rn] [32] = 112 :: 117 :: 116 :: 32 :: (114 :: 97 :: 110 :: 107 :: 32 :: (Lib.itoa i ++ 32 :: (rn))) := by simp [Lib.join, List.intercalate]
  have gx := And.intro @hk (And.intro @hT (And.intro @hT1 (And.intro @hO (And.intro @hO1 (And.intro @hI (And.intro @f1 (And.intro @f2 (And.intro @s1 (@hj)))))))))
  refine goA ?_
  clear gx
  exact ⟨_, _, rfl, rfl⟩

theorem r_Law_4 (d i : Int) (nm rn rt fn sn cn : List UInt8) (ra rb rf fl fh sa sb ca cb cs : Int) (fp ct : Bool) (wk sk gk : Nat) (W S G : List PD) (h0 : E 3 = none) (hk : E 4 = some (entry (gf0 Em.bool (some true)))) {gT gO : Nat → List PD → List SObj → Option (PD × List SObj)} (hT : E 5 = some gT) (hT1 : ∀ fl0 σ, gT fl0 [(.agg [.int .i64 4, .int .i64 d, .int .i64 i, .str nm, .str rn, .str rt, .int .i64 ra, .int .i64 rb, .int .i64 rf, .slice wk W .any, .str fn, .bool fp, .int .i64 fl, .int .i64 fh, .slice sk S .any, .str sn, .int .i64 sa, .int .i64 sb, .slice gk G .any, .str cn, .int .i64 ca, .int .i64 cb, .int .i64 cs, .bool ct])] σ = some (.tup [.str (Lib.join [[97, 100, 100], [100, 105, 118, 105, 115, 105, 111, 110], Lib.itoa i, fn] [32]), .int .i64 0], σ)) (hO : E 6 = some gO) (hO1 : ∀ fl0 σ, gO fl0 [(.agg [.int .i64 4, .int .i64 d, .int .i64 i, .str nm, .str rn, .str rt, .int .i64 ra, .int .i64 rb, .int .i64 rf, .slice wk W .any, .str fn, .bool fp, .int .i64 fl, .int .i64 fh, .slice sk S .any, .str sn, .int .i64 sa, .int .i64 sb, .slice gk G .any, .str cn, .int .i64 ca, .int .i64 cb, .int .i64 cs, .bool ct])] σ = some (.tup [.int .i64 1, .int .i64 0], σ)) (hI : E 7 = some gItoa) (hli : (Lib.itoa i).length ≤ 100) (hld : (Lib.itoa d).length ≤ 100) (hi : -9223372036854775808 ≤ i ∧ i ≤ 9223372036854775807) (hd : -9223372036854775808 ≤ d ∧ d ≤ 9223372036854775807) (hs : nm.length + rn.length + fn.length + sn.length + cn.length ≤ 60) : Run Tryz.prog E 3 [(.agg [.int .i64 4, .int .i64 d, .int .i64 i, .str nm, .str rn, .str rt, .int .i64 ra, .int .i64 rb, .int .i64 rf, .slice wk W .any, .str fn, .bool fp, .int .i64 fl, .int .i64 fh, .slice sk S .any, .str sn, .int .i64 sa, .int .i64 sb, .slice gk G .any, .str cn, .int .i64 ca, .int .i64 cb, .int .i64 cs, .bool ct])] (Em.bool.emb true) := by
  have f1 := gItoa_of i hi
  have f2 := gItoa_of d hd
  have s1 : ¬ (60 : Int) < nm.length + rn.length + fn.length + sn.length + cn.length := by omega
  apply Run.bodyL h0 Tryz.func3 rfl
  focus (simp [show Tryz.f3.ntmps = _ from rfl, List.replicate]; rfl)
  have hj : Lib.join [[97, 100, 100], [100, 105, 118, 105, 115, 105, 111, 110], Lib.itoa i, fn] [32] = 97 :: 100 :: 100 :: 32 :: (100 :: 105 :: 118 :: 105 :: 115 :: 105 :: 111 :: 110 :: 32 :: (Lib.itoa i ++ 32 :: (fn))) := by simp [Lib.join, List.intercalate]
  have gx := And.intro @hk (And.intro @hT (And.intro @hT1 (And.intro @hO (And.intro @hO1 (And.intro @hI (And.intro @f1 (And.intro @f2 (And.intro @s1 (@hj)))))))))
  refine goA ?_
  clear gx
  exact ⟨_, _, rfl, rfl⟩

theorem r_Law_5 (d i : Int) (nm rn rt fn sn cn : List UInt8) (ra rb rf fl fh sa sb ca cb cs : Int) (fp ct : Bool) (wk sk gk : Nat) (W S G : List PD) (h0 : E 3 = none) (hk : E 4 = some (entry (gf0 Em.bool (some true)))) {gT gO : Nat → List PD → List SObj → Option (PD × List SObj)} (hT : E 5 = some gT) (hT1 : ∀ fl0 σ, gT fl0 [(.agg [.int .i64 5, .int .i64 d, .int .i64 i, .str nm, .str rn, .str rt, .int .i64 ra, .int .i64 rb, .int .i64 rf, .slice wk W .any, .str fn, .bool fp, .int .i64 fl, .int .i64 fh, .slice sk S .any, .str sn, .int .i64 sa, .int .i64 sb, .slice gk G .any, .str cn, .int .i64 ca, .int .i64 cb, .int .i64 cs, .bool ct])] σ = some (.tup [.str (Lib.join [[114, 101, 109, 111, 118, 101], [100, 105, 118, 105, 115, 105, 111, 110], Lib.itoa i] [32]), .int .i64 0], σ)) (hO : E 6 = some gO) (hO1 : ∀ fl0 σ, gO fl0 [(.agg [.int .i64 5, .int .i64 d, .int .i64 i, .str nm, .str rn, .str rt, .int .i64 ra, .int .i64 rb, .int .i64 rf, .slice wk W .any, .str fn, .bool fp, .int .i64 fl, .int .i64 fh, .slice sk S .any, .str sn, .int .i64 sa, .int .i64 sb, .slice gk G .any, .str cn, .int .i64 ca, .int .i64 cb, .int .i64 cs, .bool ct])] σ = some (.tup [.int .i64 1, .int .i64 1], σ)) (hI : E 7 = some gItoa) (hli : (Lib.itoa i).length ≤ 100) (hld : (Lib.itoa d).length ≤ 100) (hi : -9223372036854775808 ≤ i ∧ i ≤ 9223372036854775807) (hd : -9223372036854775808 ≤ d ∧ d ≤ 9223372036854775807) (hs : nm.length + rn.length + fn.length + sn.length + cn.length ≤ 60) : Run Tryz.prog E 3 [(.agg [.int .i64 5, .int .i64 d, .int .i64 i, .str nm, .str rn, .str rt, .int .i64 ra, .int .i64 rb, .int .i64 rf, .slice wk W .any, .str fn, .bool fp, .int .i64 fl, .int .i64 fh, .slice sk S .any, .str sn, .int .i64 sa, .int .i64 sb, .slice gk G .any, .str cn, .int .i64 ca, .int .i64 cb, .int .i64 cs, .bool ct])] (Em.bool.emb true) := by
  have f1 := gItoa_of i hi
  have f2 := gItoa_of d hd
  have s1 : ¬ (60 : Int) < nm.length + rn.length + fn.length + sn.length + cn.length := by omega
  apply Run.bodyL h0 Tryz.func3 rfl
  focus (simp [show Tryz.f3.ntmps = _ from rfl, List.replicate]; rfl)
  have hj : Lib.join [[114, 101, 109, 111, 118, 101], [100, 105, 118, 105, 115, 105, 111, 110], Lib.itoa i] [32] = 114 :: 101 :: 109 :: 111 :: 118 :: 101 :: 32 :: (100 :: 105 :: 118 :: 105 :: 115 :: 105 :: 111 :: 110 :: 32 :: (Lib.itoa i)) := by simp [Lib.join, List.intercalate]
  have gx := And.intro @hk (And.intro @hT (And.intro @hT1 (And.intro @hO (And.intro @hO1 (And.intro @hI (And.intro @f1 (And.intro @f2 (And.intro @s1 (@hj)))))))))
  refine goA ?_
  clear gx
  exact ⟨_, _, rfl, rfl⟩

theorem r_Law_6 (d i : Int) (nm rn rt fn sn cn : List UInt8) (ra rb rf fl fh sa sb ca cb cs : Int) (fp ct : Bool) (wk sk gk : Nat) (W S G : List PD) (h0 : E 3 = none) (hk : E 4 = some (entry (gf0 Em.bool (some true)))) {gT gO : Nat → List PD → List SObj → Option (PD × List SObj)} (hT : E 5 = some gT) (hT1 : ∀ fl0 σ, gT fl0 [(.agg [.int .i64 6, .int .i64 d, .int .i64 i, .str nm, .str rn, .str rt, .int .i64 ra, .int .i64 rb, .int .i64 rf, .slice wk W .any, .str fn, .bool fp, .int .i64 fl, .int .i64 fh, .slice sk S .any, .str sn, .int .i64 sa, .int .i64 sb, .slice gk G .any, .str cn, .int .i64 ca, .int .i64 cb, .int .i64 cs, .bool ct])] σ = some (.tup [.str (Lib.join [[112, 117, 116], [100, 105, 118, 105, 115, 105, 111, 110], Lib.itoa i, fn] [32]), .int .i64 0], σ)) (hO : E 6 = some gO) (hO1 : ∀ fl0 σ, gO fl0 [(.agg [.int .i64 6, .int .i64 d, .int .i64 i, .str nm, .str rn, .str rt, .int .i64 ra, .int .i64 rb, .int .i64 rf, .slice wk W .any, .str fn, .bool fp, .int .i64 fl, .int .i64 fh, .slice sk S .any, .str sn, .int .i64 sa, .int .i64 sb, .slice gk G .any, .str cn, .int .i64 ca, .int .i64 cb, .int .i64 cs, .bool ct])] σ = some (.tup [.int .i64 1, .int .i64 2], σ)) (hI : E 7 = some gItoa) (hli : (Lib.itoa i).length ≤ 100) (hld : (Lib.itoa d).length ≤ 100) (hi : -9223372036854775808 ≤ i ∧ i ≤ 9223372036854775807) (hd : -9223372036854775808 ≤ d ∧ d ≤ 9223372036854775807) (hs : nm.length + rn.length + fn.length + sn.length + cn.length ≤ 60) : Run Tryz.prog E 3 [(.agg [.int .i64 6, .int .i64 d, .int .i64 i, .str nm, .str rn, .str rt, .int .i64 ra, .int .i64 rb, .int .i64 rf, .slice wk W .any, .str fn, .bool fp, .int .i64 fl, .int .i64 fh, .slice sk S .any, .str sn, .int .i64 sa, .int .i64 sb, .slice gk G .any, .str cn, .int .i64 ca, .int .i64 cb, .int .i64 cs, .bool ct])] (Em.bool.emb true) := by
  have f1 := gItoa_of i hi
  have f2 := gItoa_of d hd
  have s1 : ¬ (60 : Int) < nm.length + rn.length + fn.length + sn.length + cn.length := by omega
  apply Run.bodyL h0 Tryz.func3 rfl
  focus (simp [show Tryz.f3.ntmps = _ from rfl, List.replicate]; rfl)
  have hj : Lib.join [[112, 117, 116], [100, 105, 118, 105, 115, 105, 111, 110], Lib.itoa i, fn] [32] = 112 :: 117 :: 116 :: 32 :: (100 :: 105 :: 118 :: 105 :: 115 :: 105 :: 111 :: 110 :: 32 :: (Lib.itoa i ++ 32 :: (fn))) := by simp [Lib.join, List.intercalate]
  have gx := And.intro @hk (And.intro @hT (And.intro @hT1 (And.intro @hO (And.intro @hO1 (And.intro @hI (And.intro @f1 (And.intro @f2 (And.intro @s1 (@hj)))))))))
  refine goA ?_
  clear gx
  exact ⟨_, _, rfl, rfl⟩

theorem r_Law_7 (d i : Int) (nm rn rt fn sn cn : List UInt8) (ra rb rf fl fh sa sb ca cb cs : Int) (fp ct : Bool) (wk sk gk : Nat) (W S G : List PD) (h0 : E 3 = none) (hk : E 4 = some (entry (gf0 Em.bool (some true)))) {gT gO : Nat → List PD → List SObj → Option (PD × List SObj)} (hT : E 5 = some gT) (hT1 : ∀ fl0 σ, gT fl0 [(.agg [.int .i64 7, .int .i64 d, .int .i64 i, .str nm, .str rn, .str rt, .int .i64 ra, .int .i64 rb, .int .i64 rf, .slice wk W .any, .str fn, .bool fp, .int .i64 fl, .int .i64 fh, .slice sk S .any, .str sn, .int .i64 sa, .int .i64 sb, .slice gk G .any, .str cn, .int .i64 ca, .int .i64 cb, .int .i64 cs, .bool ct])] σ = some (.tup [.str (Lib.join [[97, 100, 100], [115, 116, 111, 112], Lib.itoa d, Lib.itoa i, sn] [32]), .int .i64 0], σ)) (hO : E 6 = some gO) (hO1 : ∀ fl0 σ, gO fl0 [(.agg [.int .i64 7, .int .i64 d, .int .i64 i, .str nm, .str rn, .str rt, .int .i64 ra, .int .i64 rb, .int .i64 rf, .slice wk W .any, .str fn, .bool fp, .int .i64 fl, .int .i64 fh, .slice sk S .any, .str sn, .int .i64 sa, .int .i64 sb, .slice gk G .any, .str cn, .int .i64 ca, .int .i64 cb, .int .i64 cs, .bool ct])] σ = some (.tup [.int .i64 2, .int .i64 0], σ)) (hI : E 7 = some gItoa) (hli : (Lib.itoa i).length ≤ 100) (hld : (Lib.itoa d).length ≤ 100) (hi : -9223372036854775808 ≤ i ∧ i ≤ 9223372036854775807) (hd : -9223372036854775808 ≤ d ∧ d ≤ 9223372036854775807) (hs : nm.length + rn.length + fn.length + sn.length + cn.length ≤ 60) : Run Tryz.prog E 3 [(.agg [.int .i64 7, .int .i64 d, .int .i64 i, .str nm, .str rn, .str rt, .int .i64 ra, .int .i64 rb, .int .i64 rf, .slice wk W .any, .str fn, .bool fp, .int .i64 fl, .int .i64 fh, .slice sk S .any, .str sn, .int .i64 sa, .int .i64 sb, .slice gk G .any, .str cn, .int .i64 ca, .int .i64 cb, .int .i64 cs, .bool ct])] (Em.bool.emb true) := by
  have f1 := gItoa_of i hi
  have f2 := gItoa_of d hd
  have s1 : ¬ (60 : Int) < nm.length + rn.length + fn.length + sn.length + cn.length := by omega
  apply Run.bodyL h0 Tryz.func3 rfl
  focus (simp [show Tryz.f3.ntmps = _ from rfl, List.replicate]; rfl)
  have hj : Lib.join [[97, 100, 100], [115, 116, 111, 112], Lib.itoa d, Lib.itoa i, sn] [32] = 97 :: 100 :: 100 :: 32 :: (115 :: 116 :: 111 :: 112 :: 32 :: (Lib.itoa d ++ 32 :: (Lib.itoa i ++ 32 :: (sn)))) := by simp [Lib.join, List.intercalate]
  have gx := And.intro @hk (And.intro @hT (And.intro @hT1 (And.intro @hO (And.intro @hO1 (And.intro @hI (And.intro @f1 (And.intro @f2 (And.intro @s1 (@hj)))))))))
  refine goA ?_
  clear gx
  exact ⟨_, _, rfl, rfl⟩

theorem r_Law_8 (d i : Int) (nm rn rt fn sn cn : List UInt8) (ra rb rf fl fh sa sb ca cb cs : Int) (fp ct : Bool) (wk sk gk : Nat) (W S G : List PD) (h0 : E 3 = none) (hk : E 4 = some (entry (gf0 Em.bool (some true)))) {gT gO : Nat → List PD → List SObj → Option (PD × List SObj)} (hT : E 5 = some gT) (hT1 : ∀ fl0 σ, gT fl0 [(.agg [.int .i64 8, .int .i64 d, .int .i64 i, .str nm, .str rn, .str rt, .int .i64 ra, .int .i64 rb, .int .i64 rf, .slice wk W .any, .str fn, .bool fp, .int .i64 fl, .int .i64 fh, .slice sk S .any, .str sn, .int .i64 sa, .int .i64 sb, .slice gk G .any, .str cn, .int .i64 ca, .int .i64 cb, .int .i64 cs, .bool ct])] σ = some (.tup [.str (Lib.join [[114, 101, 109, 111, 118, 101], [115, 116, 111, 112], Lib.itoa d, Lib.itoa i] [32]), .int .i64 0], σ)) (hO : E 6 = some gO) (hO1 : ∀ fl0 σ, gO fl0 [(.agg [.int .i64 8, .int .i64 d, .int .i64 i, .str nm, .str rn, .str rt, .int .i64 ra, .int .i64 rb, .int .i64 rf, .slice wk W .any, .str fn, .bool fp, .int .i64 fl, .int .i64 fh, .slice sk S .any, .str sn, .int .i64 sa, .int .i64 sb, .slice gk G .any, .str cn, .int .i64 ca, .int .i64 cb, .int .i64 cs, .bool ct])] σ = some (.tup [.int .i64 2, .int .i64 1], σ)) (hI : E 7 = some gItoa) (hli : (Lib.itoa i).length ≤ 100) (hld : (Lib.itoa d).length ≤ 100) (hi : -9223372036854775808 ≤ i ∧ i ≤ 9223372036854775807) (hd : -9223372036854775808 ≤ d ∧ d ≤ 9223372036854775807) (hs : nm.length + rn.length + fn.length + sn.length + cn.length ≤ 60) : Run Tryz.prog E 3 [(.agg [.int .i64 8, .int .i64 d, .int .i64 i, .str nm, .str rn, .str rt, .int .i64 ra, .int .i64 rb, .int .i64 rf, .slice wk W .any, .str fn, .bool fp, .int .i64 fl, .int .i64 fh, .slice sk S .any, .str sn, .int .i64 sa, .int .i64 sb, .slice gk G .any, .str cn, .int .i64 ca, .int .i64 cb, .int .i64 cs, .bool ct])] (Em.bool.emb true) := by
  have f1 := gItoa_of i hi
  have f2 := gItoa_of d hd
  have s1 : ¬ (60 : Int) < nm.length + rn.length + fn.length + sn.length + cn.length := by omega
  apply Run.bodyL h0 Tryz.func3 rfl
  focus (simp [show Tryz.f3.ntmps = _ from rfl, List.replicate]; rfl)
  have hj : Lib.join [[114, 101, 109, 111, 118, 101], [115, 116, 111, 112], Lib.itoa d, Lib.itoa i] [32] = 114 :: 101 :: 109 :: 111 :: 118 :: 101 :: 32 :: (115 :: 116 :: 111 :: 112 :: 32 :: (Lib.itoa d ++ 32 :: (Lib.itoa i))) := by simp [Lib.join, List.intercalate]
  have gx := And.intro @hk (And.intro @hT (And.intro @hT1 (And.intro @hO (And.intro @hO1 (And.intro @hI (And.intro @f1 (And.intro @f2 (And.intro @s1 (@hj)))))))))
  refine goA ?_
  clear gx
  exact ⟨_, _, rfl, rfl⟩

theorem r_Law_9 (d i : Int) (nm rn rt fn sn cn : List UInt8) (ra rb rf fl fh sa sb ca cb cs : Int) (fp ct : Bool) (wk sk gk : Nat) (W S G : List PD) (h0 : E 3 = none) (hk : E 4 = some (entry (gf0 Em.bool (some true)))) {gT gO : Nat → List PD → List SObj → Option (PD × List SObj)} (hT : E 5 = some gT) (hT1 : ∀ fl0 σ, gT fl0 [(.agg [.int .i64 9, .int .i64 d, .int .i64 i, .str nm, .str rn, .str rt, .int .i64 ra, .int .i64 rb, .int .i64 rf, .slice wk W .any, .str fn, .bool fp, .int .i64 fl, .int .i64 fh, .slice sk S .any, .str sn, .int .i64 sa, .int .i64 sb, .slice gk G .any, .str cn, .int .i64 ca, .int .i64 cb, .int .i64 cs, .bool ct])] σ = some (.tup [.str (Lib.join [[112, 117, 116], [115, 116, 111, 112], Lib.itoa d, Lib.itoa i, sn] [32]), .int .i64 0], σ)) (hO : E 6 = some gO) (hO1 : ∀ fl0 σ, gO fl0 [(.agg [.int .i64 9, .int .i64 d, .int .i64 i, .str nm, .str rn, .str rt, .int .i64 ra, .int .i64 rb, .int .i64 rf, .slice wk W .any, .str fn, .bool fp, .int .i64 fl, .int .i64 fh, .slice sk S .any, .str sn, .int .i64 sa, .int .i64 sb, .slice gk G .any, .str cn, .int .i64 ca, .int .i64 cb, .int .i64 cs, .bool ct])] σ = some (.tup [.int .i64 2, .int .i64 2], σ)) (hI : E 7 = some gItoa) (hli : (Lib.itoa i).length ≤ 100) (hld : (Lib.itoa d).length ≤ 100) (hi : -9223372036854775808 ≤ i ∧ i ≤ 9223372036854775807) (hd : -9223372036854775808 ≤ d ∧ d ≤ 9223372036854775807) (hs : nm.length + rn.length + fn.length + sn.length + cn.length ≤ 60) : Run Tryz.prog E 3 [(.agg [.int .i64 9, .int .i64 d, .int .i64 i, .str nm, .str rn, .str rt, .int .i64 ra, .int .i64 rb, .int .i64 rf, .slice wk W .any, .str fn, .bool fp, .int .i64 fl, .int .i64 fh, .slice sk S .any, .str sn, .int .i64 sa, .int .i64 sb, .slice gk G .any, .str cn, .int .i64 ca, .int .i64 cb, .int .i64 cs, .bool ct])] (Em.bool.emb true) := by
  have f1 := gItoa_of i hi
  have f2 := gItoa_of d hd
  have s1 : ¬ (60 : Int) < nm.length + rn.length + fn.length + sn.length + cn.length := by omega
  apply Run.bodyL h0 Tryz.func3 rfl
  focus (simp [show Tryz.f3.ntmps = _ from rfl, List.replicate]; rfl)
  have hj : Lib.join [[112, 117, 116], [115, 116, 111, 112], Lib.itoa d, Lib.itoa i, sn] [32] = 112 :: 117 :: 116 :: 32 :: (115 :: 116 :: 111 :: 112 :: 32 :: (Lib.itoa d ++ 32 :: (Lib.itoa i ++ 32 :: (sn)))) := by simp [Lib.join, List.intercalate]
  have gx := And.intro @hk (And.intro @hT (And.intro @hT1 (And.intro @hO (And.intro @hO1 (And.intro @hI (And.intro @f1 (And.intro @f2 (And.intro @s1 (@hj)))))))))
  refine goA ?_
  clear gx
  exact ⟨_, _, rfl, rfl⟩

theorem r_Law_10 (d i : Int) (nm rn rt fn sn cn : List UInt8) (ra rb rf fl fh sa sb ca cb cs : Int) (fp ct : Bool) (wk sk gk : Nat) (W S G : List PD) (h0 : E 3 = none) (hk : E 4 = some (entry (gf0 Em.bool (some true)))) {gT gO : Nat → List PD → List SObj → Option (PD × List SObj)} (hT : E 5 = some gT) (hT1 : ∀ fl0 σ, gT fl0 [(.agg [.int .i64 10, .int .i64 d, .int .i64 i, .str nm, .str rn, .str rt, .int .i64 ra, .int .i64 rb, .int .i64 rf, .slice wk W .any, .str fn, .bool fp, .int .i64 fl, .int .i64 fh, .slice sk S .any, .str sn, .int .i64 sa, .int .i64 sb, .slice gk G .any, .str cn, .int .i64 ca, .int .i64 cb, .int .i64 cs, .bool ct])] σ = some (.tup [.str (Lib.join [[97, 100, 100], [99, 111, 117, 112, 108, 101, 114], Lib.itoa i, cn] [32]), .int .i64 0], σ)) (hO : E 6 = some gO) (hO1 : ∀ fl0 σ, gO fl0 [(.agg [.int .i64 10, .int .i64 d, .int .i64 i, .str nm, .str rn, .str rt, .int .i64 ra, .int .i64 rb, .int .i64 rf, .slice wk W .any, .str fn, .bool fp, .int .i64 fl, .int .i64 fh, .slice sk S .any, .str sn, .int .i64 sa, .int .i64 sb, .slice gk G .any, .str cn, .int .i64 ca, .int .i64 cb, .int .i64 cs, .bool ct])] σ = some (.tup [.int .i64 3, .int .i64 0], σ)) (hI : E 7 = some gItoa) (hli : (Lib.itoa i).length ≤ 100) (hld : (Lib.itoa d).length ≤ 100) (hi : -9223372036854775808 ≤ i ∧ i ≤ 9223372036854775807) (hd : -9223372036854775808 ≤ d ∧ d ≤ 9223372036854775807) (hs : nm.length + rn.length + fn.length + sn.length + cn.length ≤ 60) : Run Tryz.prog E 3 [(.agg [.int .i64 10, .int .i64 d, .int .i64 i, .str nm, .str rn, .str rt, .int .i64 ra, .int .i64 rb, .int .i64 rf, .slice wk W .any, .str fn, .bool fp, .int .i64 fl, .int .i64 fh, .slice sk S .any, .str sn, .int .i64 sa, .int .i64 sb, .slice gk G .any, .str cn, .int .i64 ca, .int .i64 cb, .int .i64 cs, .bool ct])] (Em.bool.emb true) := by
  have f1 := gItoa_of i hi
  have f2 := gItoa_of d hd
  have s1 : ¬ (60 : Int) < nm.length + rn.length + fn.length + sn.length + cn.length := by omega
  apply Run.bodyL h0 Tryz.func3 rfl
  focus (simp [show Tryz.f3.ntmps = _ from rfl, List.replicate]; rfl)
  have hj : Lib.join [[97, 100, 100], [99, 111, 117, 112, 108, 101, 114], Lib.itoa i, cn] [32] = 97 :: 100 :: 100 :: 32 :: (99 :: 111 :: 117 :: 112 :: 108 :: 101 :: 114 :: 32 :: (Lib.itoa i ++ 32 :: (cn))) := by simp [Lib.join, List.intercalate]
  have gx := And.intro @hk (And.intro @hT (And.intro @hT1 (And.intro @hO (And.intro @hO1 (And.intro @hI (And.intro @f1 (And.intro @f2 (And.intro @s1 (@hj)))))))))
  refine goA ?_
  clear gx
  exact ⟨_, _, rfl, rfl⟩

theorem r_Law_11 (d i : Int) (nm rn rt fn sn cn : List UInt8) (ra rb rf fl fh sa sb ca cb cs : Int) (fp ct : Bool) (wk sk gk : Nat) (W S G : List PD) (h0 : E 3 = none) (hk : E 4 = some (entry (gf0 Em.bool (some true)))) {gT gO : Nat → List PD → List SObj → Option (PD × List SObj)} (hT : E 5 = some gT) (hT1 : ∀ fl0 σ, gT fl0 [(.agg [.int .i64 11, .int .i64 d, .int .i64 i, .str nm, .str rn, .str rt, .int .i64 ra, .int .i64 rb, .int .i64 rf, .slice wk W .any, .str fn, .bool fp, .int .i64 fl, .int .i64 fh, .slice sk S .any, .str sn, .int .i64 sa, .int .i64 sb, .slice gk G .any, .str cn, .int .i64 ca, .int .i64 cb, .int .i64 cs, .bool ct])] σ = some (.tup [.str (Lib.join [[114, 101, 109, 111, 118, 101], [99, 111, 117, 112, 108, 101, 114], Lib.itoa i] [32]), .int .i64 0], σ)) (hO : E 6 = some gO) (hO1 : ∀ fl0 σ, gO fl0 [(.agg [.int .i64 11, .int .i64 d, .int .i64 i, .str nm, .str rn, .str rt, .int .i64 ra, .int .i64 rb, .int .i64 rf, .slice wk W .any, .str fn, .bool fp, .int .i64 fl, .int .i64 fh, .slice sk S .any, .str sn, .int .i64 sa, .int .i64 sb, .slice gk G .any, .str cn, .int .i64 ca, .int .i64 cb, .int .i64 cs, .bool ct])] σ = some (.tup [.int .i64 3, .int .i64 1], σ)) (hI : E 7 = some gItoa) (hli : (Lib.itoa i).length ≤ 100) (hld : (Lib.itoa d).length ≤ 100) (hi : -9223372036854775808 ≤ i ∧ i ≤ 9223372036854775807) (hd : -9223372036854775808 ≤ d ∧ d ≤ 9223372036854775807) (hs : nm.length + rn.length + fn.length + sn.length + cn.length ≤ 60) : Run Tryz.prog E 3 [(.agg [.int .i64 11, .int .i64 d, .int .i64 i, .str nm, .str rn, .str rt, .int .i64 ra, .int .i64 rb, .int .i64 rf, .slice wk W .any, .str fn, .bool fp, .int .i64 fl, .int .i64 fh, .slice sk S .any, .str sn, .int .i64 sa, .int .i64 sb, .slice gk G .any, .str cn, .int .i64 ca, .int .i64 cb, .int .i64 cs, .bool ct])] (Em.bool.emb true) := by
  have f1 := gItoa_of i hi
  have f2 := gItoa_of d hd
  have s1 : ¬ (60 : Int) < nm.length + rn.length + fn.length + sn.length + cn.length := by omega
  apply Run.bodyL h0 Tryz.func3 rfl
  focus (simp [show Tryz.f3.ntmps = _ from rfl, List.replicate]; rfl)
  have hj : Lib.join [[114, 101, 109, 111, 118, 101], [99, 111, 117, 112, 108, 101, 114], Lib.itoa i] [32] = 114 :: 101 :: 109 :: 111 :: 118 :: 101 :: 32 :: (99 :: 111 :: 117 :: 112 :: 108 :: 101 :: 114 :: 32 :: (Lib.itoa i)) := by simp [Lib.join, List.intercalate]
  have gx := And.intro @hk (And.intro @hT (And.intro @hT1 (And.intro @hO (And.intro @hO1 (And.intro @hI (And.intro @f1 (And.intro @f2 (And.intro @s1 (@hj)))))))))
  refine goA ?_
  clear gx
  exact ⟨_, _, rfl, rfl⟩

theorem r_Law_12 (d i : Int) (nm rn rt fn sn cn : List UInt8) (ra rb rf fl fh sa sb ca cb cs : Int) (fp ct : Bool) (wk sk gk : Nat) (W S G : List PD) (h0 : E 3 = none) (hk : E 4 = some (entry (gf0 Em.bool (some true)))) {gT gO : Nat → List PD → List SObj → Option (PD × List SObj)} (hT : E 5 = some gT) (hT1 : ∀ fl0 σ, gT fl0 [(.agg [.int .i64 12, .int .i64 d, .int .i64 i, .str nm, .str rn, .str rt, .int .i64 ra, .int .i64 rb, .int .i64 rf, .slice wk W .any, .str fn, .bool fp, .int .i64 fl, .int .i64 fh, .slice sk S .any, .str sn, .int .i64 sa, .int .i64 sb, .slice gk G .any, .str cn, .int .i64 ca, .int .i64 cb, .int .i64 cs, .bool ct])] σ = some (.tup [.str (Lib.join [[112, 117, 116], [99, 111, 117, 112, 108, 101, 114], Lib.itoa i, cn] [32]), .int .i64 0], σ)) (hO : E 6 = some gO) (hO1 : ∀ fl0 σ, gO fl0 [(.agg [.int .i64 12, .int .i64 d, .int .i64 i, .str nm, .str rn, .str rt, .int .i64 ra, .int .i64 rb, .int .i64 rf, .slice wk W .any, .str fn, .bool fp, .int .i64 fl, .int .i64 fh, .slice sk S .any, .str sn, .int .i64 sa, .int .i64 sb, .slice gk G .any, .str cn, .int .i64 ca, .int .i64 cb, .int .i64 cs, .bool ct])] σ = some (.tup [.int .i64 3, .int .i64 2], σ)) (hI : E 7 = some gItoa) (hli : (Lib.itoa i).length ≤ 100) (hld : (Lib.itoa d).length ≤ 100) (hi : -9223372036854775808 ≤ i ∧ i ≤ 9223372036854775807) (hd : -9223372036854775808 ≤ d ∧ d ≤ 9223372036854775807) (hs : nm.length + rn.length + fn.length + sn.length + cn.length ≤ 60) : Run Tryz.prog E 3 [(.agg [.int .i64 12, .int .i64 d, .int .i64 i, .str nm, .str rn, .str rt, .int .i64 ra, .int .i64 rb, .int .i64 rf, .slice wk W .any, .str fn, .bool fp, .int .i64 fl, .int .i64 fh, .slice sk S .any, .str sn, .int .i64 sa, .int .i64 sb, .slice gk G .any, .str cn, .int .i64 ca, .int .i64 cb, .int .i64 cs, .bool ct])] (Em.bool.emb true) := by
  have f1 := gItoa_of i hi
  have f2 := gItoa_of d hd
  have s1 : ¬ (60 : Int) < nm.length + rn.length + fn.length + sn.length + cn.length := by omega
  apply Run.bodyL h0 Tryz.func3 rfl
  focus (simp [show Tryz.f3.ntmps = _ from rfl, List.replicate]; rfl)
  have hj : Lib.join [[112, 117, 116], [99, 111, 117, 112, 108, 101, 114], Lib.itoa i, cn] [32] = 112 :: 117 :: 116 :: 32 :: (99 :: 111 :: 117 :: 112 :: 108 :: 101 :: 114 :: 32 :: (Lib.itoa i ++ 32 :: (cn))) := by simp [Lib.join, List.intercalate]
  have gx := And.intro @hk (And.intro @hT (And.intro @hT1 (And.intro @hO (And.intro @hO1 (And.intro @hI (And.intro @f1 (And.intro @f2 (And.intro @s1 (@hj)))))))))
  refine goA ?_
  clear gx
  exact ⟨_, _, rfl, rfl⟩

theorem r_Law_13 (d i : Int) (nm rn rt fn sn cn : List UInt8) (ra rb rf fl fh sa sb ca cb cs : Int) (fp ct : Bool) (wk sk gk : Nat) (W S G : List PD) (h0 : E 3 = none) (hk : E 4 = some (entry (gf0 Em.bool (some true)))) {gT gO : Nat → List PD → List SObj → Option (PD × List SObj)} (hT : E 5 = some gT) (hT1 : ∀ fl0 σ, gT fl0 [(.agg [.int .i64 13, .int .i64 d, .int .i64 i, .str nm, .str rn, .str rt, .int .i64 ra, .int .i64 rb, .int .i64 rf, .slice wk W .any, .str fn, .bool fp, .int .i64 fl, .int .i64 fh, .slice sk S .any, .str sn, .int .i64 sa, .int .i64 sb, .slice gk G .any, .str cn, .int .i64 ca, .int .i64 cb, .int .i64 cs, .bool ct])] σ = some (.tup [.str ([114, 101, 110, 97, 109, 101, 32] ++ nm), .int .i64 0], σ)) (hO : E 6 = some gO) (hO1 : ∀ fl0 σ, gO fl0 [(.agg [.int .i64 13, .int .i64 d, .int .i64 i, .str nm, .str rn, .str rt, .int .i64 ra, .int .i64 rb, .int .i64 rf, .slice wk W .any, .str fn, .bool fp, .int .i64 fl, .int .i64 fh, .slice sk S .any, .str sn, .int .i64 sa, .int .i64 sb, .slice gk G .any, .str cn, .int .i64 ca, .int .i64 cb, .int .i64 cs, .bool ct])] σ = some (.tup [.int .i64 4, .int .i64 0], σ)) (hI : E 7 = some gItoa) (hli : (Lib.itoa i).length ≤ 100) (hld : (Lib.itoa d).length ≤ 100) (hi : -9223372036854775808 ≤ i ∧ i ≤ 9223372036854775807) (hd : -9223372036854775808 ≤ d ∧ d ≤ 9223372036854775807) (hs : nm.length + rn.length + fn.length + sn.length + cn.length ≤ 60) : Run Tryz.prog E 3 [(.agg [.int .i64 13, .int .i64 d, .int .i64 i, .str nm, .str rn, .str rt, .int .i64 ra, .int .i64 rb, .int .i64 rf, .slice wk W .any, .str fn, .bool fp, .int .i64 fl, .int .i64 fh, .slice sk S .any, .str sn, .int .i64 sa, .int .i64 sb, .slice gk G .any, .str cn, .int .i64 ca, .int .i64 cb, .int .i64 cs, .bool ct])] (Em.bool.emb true) := by
  have f1 := gItoa_of i hi
  have f2 := gItoa_of d hd
  have s1 : ¬ (60 : Int) < nm.length + rn.length + fn.length + sn.length + cn.length := by omega
  apply Run.bodyL h0 Tryz.func3 rfl
  focus (simp [show Tryz.f3.ntmps = _ from rfl, List.replicate]; rfl)
  have gx := And.intro @hk (And.intro @hT (And.intro @hT1 (And.intro @hO (And.intro @hO1 (And.intro @hI (And.intro @f1 (And.intro @f2 (@s1))))))))
  refine goA ?_
  clear gx
  exact ⟨_, _, rfl, rfl⟩

end
end Go.Kz

/-
  Chapter 51: CompareTexts, at any edit.
-/
namespace Go.Kz
open Go Go.Proofs
set_option maxRecDepth 100000
theorem itoa_small (n : Int) (h : -9223372036854775808 ≤ n ∧ n ≤ 9223372036854775807) : (Lib.itoa n).length ≤ 100 := by
  have := Lib.itoa_length_le n h.1 h.2
  omega
section

def edt (k : Int) (d i : Int) (nm rn rt fn sn cn : List UInt8) (ra rb rf fl fh sa sb ca cb cs : Int) (fp ct : Bool) (wk sk gk : Nat) (W S G : List PD) : PD := (.agg [.int .i64 k, .int .i64 d, .int .i64 i, .str nm, .str rn, .str rt, .int .i64 ra, .int .i64 rb, .int .i64 rf, .slice wk W .any, .str fn, .bool fp, .int .i64 fl, .int .i64 fh, .slice sk S .any, .str sn, .int .i64 sa, .int .i64 sb, .slice gk G .any, .str cn, .int .i64 ca, .int .i64 cb, .int .i64 cs, .bool ct])
theorem edt_fine (k : Int) (d i : Int) (nm rn rt fn sn cn : List UInt8) (ra rb rf fl fh sa sb ca cb cs : Int) (fp ct : Bool) (wk sk gk : Nat) (W S G : List PD) (hW : Fine (.slice wk W .any)) (hS : Fine (.slice sk S .any)) (hG : Fine (.slice gk G .any)) : ([edt k d i nm rn rt fn sn cn ra rb rf fl fh sa sb ca cb cs fp ct wk sk gk W S G].map PD.strip = [edt k d i nm rn rt fn sn cn ra rb rf fl fh sa sb ca cb cs fp ct wk sk gk W S G]) ∧ PD.idfreeL ([edt k d i nm rn rt fn sn cn ra rb rf fl fh sa sb ca cb cs fp ct wk sk gk W S G].map PD.strip) = true := by
  have h : Fine (edt k d i nm rn rt fn sn cn ra rb rf fl fh sa sb ca cb cs fp ct wk sk gk W S G) := fine_agg fun p hp => by
    simp only [List.mem_cons, List.not_mem_nil, or_false] at hp
    rcases hp with rfl | rfl | rfl | rfl | rfl | rfl | rfl | rfl | rfl | rfl | rfl | rfl | rfl | rfl | rfl | rfl | rfl | rfl | rfl | rfl | rfl | rfl | rfl | rfl <;> first | exact ⟨rfl, rfl⟩ | exact hW | exact hS | exact hG
  have e : [edt k d i nm rn rt fn sn cn ra rb rf fl fh sa sb ca cb cs fp ct wk sk gk W S G].map PD.strip = [edt k d i nm rn rt fn sn cn ra rb rf fl fh sa sb ca cb cs fp ct wk sk gk W S G] := by show [PD.strip _] = _; rw [h.1]
  refine ⟨e, ?_⟩
  rw [e]
  show (PD.idfree _ && true) = true
  rw [h.2]
  rfl

theorem run_CompareTexts (k : Int) (d i : Int) (nm rn rt fn sn cn : List UInt8) (ra rb rf fl fh sa sb ca cb cs : Int) (fp ct : Bool) (wk sk gk : Nat) (W S G : List PD) (hW : Fine (.slice wk W .any)) (hS : Fine (.slice sk S .any)) (hG : Fine (.slice gk G .any)) (hi : -9223372036854775808 ≤ i ∧ i ≤ 9223372036854775807) (hd : -9223372036854775808 ≤ d ∧ d ≤ 9223372036854775807)
    (h1 : nm.length ≤ 140737488355328 ∧ rn.length ≤ 140737488355328 ∧ fn.length ≤ 140737488355328 ∧ sn.length ≤ 140737488355328 ∧ cn.length ≤ 140737488355328) : Run Tryz.prog Lx 3 [edt k d i nm rn rt fn sn cn ra rb rf fl fh sa sb ca cb cs fp ct wk sk gk W S G] (Em.bool.emb true) := by
  have F := fun k => edt_fine k d i nm rn rt fn sn cn ra rb rf fl fh sa sb ca cb cs fp ct wk sk gk W S G hW hS hG
  have hli := itoa_small i hi
  have hld := itoa_small d hd
  by_cases hs : nm.length + rn.length + fn.length + sn.length + cn.length ≤ 60
  rotate_left
  · exact r_Law_long Lx_uni k d i nm rn rt fn sn cn ra rb rf fl fh sa sb ca cb cs fp ct wk sk gk W S G rfl rfl h1 hs
  by_cases hlo : k < 1
  · exact r_Law_lo (gO := fun _ _ _ => none) Lx_uni k d i nm rn rt fn sn cn ra rb rf fl fh sa sb ca cb cs fp ct wk sk gk W S G rfl rfl rfl (fun fl0 σ => entry_gEv (by rw [(F k).1]; exact r_Text_lo Sx3_uni rfl k d i nm rn rt fn sn cn ra rb rf fl fh sa sb ca cb cs fp ct wk sk gk W S G hlo) (F k).2 rfl fl0 σ) hs hlo
  by_cases hhi : 13 < k
  · exact r_Law_hi (gO := fun _ _ _ => none) Lx_uni k d i nm rn rt fn sn cn ra rb rf fl fh sa sb ca cb cs fp ct wk sk gk W S G rfl rfl rfl (fun fl0 σ => entry_gEv (by rw [(F k).1]; exact r_Text_hi Sx3_uni rfl k d i nm rn rt fn sn cn ra rb rf fl fh sa sb ca cb cs fp ct wk sk gk W S G hhi) (F k).2 rfl fl0 σ) hs hhi
  have hk : k = 1 ∨ k = 2 ∨ k = 3 ∨ k = 4 ∨ k = 5 ∨ k = 6 ∨ k = 7 ∨ k = 8 ∨ k = 9 ∨ k = 10 ∨ k = 11 ∨ k = 12 ∨ k = 13 := by omega
  rcases hk with hk | hk | hk | hk | hk | hk | hk | hk | hk | hk | hk | hk | hk
  · subst hk
    have hw : ∀ fl0 σ, entry (gEv Tryz.prog Sx2 10) fl0 [edt 1 d i nm rn rt fn sn cn ra rb rf fl fh sa sb ca cb cs fp ct wk sk gk W S G] σ = some (.tup [.int .i64 0, .int .i64 0], σ) := fun fl0 σ => entry_gEv (by rw [(F 1).1]; exact r_what_1 Sx2_uni rfl d i nm rn rt fn sn cn ra rb rf fl fh sa sb ca cb cs fp ct wk sk gk W S G) (F 1).2 rfl fl0 σ
    have ht := r_Text_1 Sx3_uni d i nm rn rt fn sn cn ra rb rf fl fh sa sb ca cb cs fp ct wk sk gk W S G rfl rfl hw rfl rfl hli hld hi hd (by simp [Lib.join, List.intercalate]; omega)
    exact r_Law_1 Lx_uni d i nm rn rt fn sn cn ra rb rf fl fh sa sb ca cb cs fp ct wk sk gk W S G rfl rfl rfl (fun fl0 σ => entry_gEv (by rw [(F 1).1]; exact ht) (F 1).2 rfl fl0 σ) rfl (fun fl0 σ => entry_gEv (by rw [(F 1).1]; exact r_object_1 Sx4_uni rfl d i nm rn rt fn sn cn ra rb rf fl fh sa sb ca cb cs fp ct wk sk gk W S G) (F 1).2 rfl fl0 σ) rfl hli hld hi hd hs
  · subst hk
    have hw : ∀ fl0 σ, entry (gEv Tryz.prog Sx2 10) fl0 [edt 2 d i nm rn rt fn sn cn ra rb rf fl fh sa sb ca cb cs fp ct wk sk gk W S G] σ = some (.tup [.int .i64 0, .int .i64 1], σ) := fun fl0 σ => entry_gEv (by rw [(F 2).1]; exact r_what_2 Sx2_uni rfl d i nm rn rt fn sn cn ra rb rf fl fh sa sb ca cb cs fp ct wk sk gk W S G) (F 2).2 rfl fl0 σ
    have ht := r_Text_2 Sx3_uni d i nm rn rt fn sn cn ra rb rf fl fh sa sb ca cb cs fp ct wk sk gk W S G rfl rfl hw rfl rfl hli hld hi hd (by simp [Lib.join, List.intercalate]; omega)
    exact r_Law_2 Lx_uni d i nm rn rt fn sn cn ra rb rf fl fh sa sb ca cb cs fp ct wk sk gk W S G rfl rfl rfl (fun fl0 σ => entry_gEv (by rw [(F 2).1]; exact ht) (F 2).2 rfl fl0 σ) rfl (fun fl0 σ => entry_gEv (by rw [(F 2).1]; exact r_object_2 Sx4_uni rfl d i nm rn rt fn sn cn ra rb rf fl fh sa sb ca cb cs fp ct wk sk gk W S G) (F 2).2 rfl fl0 σ) rfl hli hld hi hd hs
  · subst hk
    have hw : ∀ fl0 σ, entry (gEv Tryz.prog Sx2 10) fl0 [edt 3 d i nm rn rt fn sn cn ra rb rf fl fh sa sb ca cb cs fp ct wk sk gk W S G] σ = some (.tup [.int .i64 0, .int .i64 2], σ) := fun fl0 σ => entry_gEv (by rw [(F 3).1]; exact r_what_3 Sx2_uni rfl d i nm rn rt fn sn cn ra rb rf fl fh sa sb ca cb cs fp ct wk sk gk W S G) (F 3).2 rfl fl0 σ
    have ht := r_Text_3 Sx3_uni d i nm rn rt fn sn cn ra rb rf fl fh sa sb ca cb cs fp ct wk sk gk W S G rfl rfl hw rfl rfl hli hld hi hd (by simp [Lib.join, List.intercalate]; omega)
    exact r_Law_3 Lx_uni d i nm rn rt fn sn cn ra rb rf fl fh sa sb ca cb cs fp ct wk sk gk W S G rfl rfl rfl (fun fl0 σ => entry_gEv (by rw [(F 3).1]; exact ht) (F 3).2 rfl fl0 σ) rfl (fun fl0 σ => entry_gEv (by rw [(F 3).1]; exact r_object_3 Sx4_uni rfl d i nm rn rt fn sn cn ra rb rf fl fh sa sb ca cb cs fp ct wk sk gk W S G) (F 3).2 rfl fl0 σ) rfl hli hld hi hd hs
  · subst hk
    have hw : ∀ fl0 σ, entry (gEv Tryz.prog Sx2 10) fl0 [edt 4 d i nm rn rt fn sn cn ra rb rf fl fh sa sb ca cb cs fp ct wk sk gk W S G] σ = some (.tup [.int .i64 1, .int .i64 0], σ) := fun fl0 σ => entry_gEv (by rw [(F 4).1]; exact r_what_4 Sx2_uni rfl d i nm rn rt fn sn cn ra rb rf fl fh sa sb ca cb cs fp ct wk sk gk W S G) (F 4).2 rfl fl0 σ
    have ht := r_Text_4 Sx3_uni d i nm rn rt fn sn cn ra rb rf fl fh sa sb ca cb cs fp ct wk sk gk W S G rfl rfl hw rfl rfl hli hld hi hd (by simp [Lib.join, List.intercalate]; omega)
    exact r_Law_4 Lx_uni d i nm rn rt fn sn cn ra rb rf fl fh sa sb ca cb cs fp ct wk sk gk W S G rfl rfl rfl (fun fl0 σ => entry_gEv (by rw [(F 4).1]; exact ht) (F 4).2 rfl fl0 σ) rfl (fun fl0 σ => entry_gEv (by rw [(F 4).1]; exact r_object_4 Sx4_uni rfl d i nm rn rt fn sn cn ra rb rf fl fh sa sb ca cb cs fp ct wk sk gk W S G) (F 4).2 rfl fl0 σ) rfl hli hld hi hd hs
  · subst hk
    have hw : ∀ fl0 σ, entry (gEv Tryz.prog Sx2 10) fl0 [edt 5 d i nm rn rt fn sn cn ra rb rf fl fh sa sb ca cb cs fp ct wk sk gk W S G] σ = some (.tup [.int .i64 1, .int .i64 1], σ) := fun fl0 σ => entry_gEv (by rw [(F 5).1]; exact r_what_5 Sx2_uni rfl d i nm rn rt fn sn cn ra rb rf fl fh sa sb ca cb cs fp ct wk sk gk W S G) (F 5).2 rfl fl0 σ
    have ht := r_Text_5 Sx3_uni d i nm rn rt fn sn cn ra rb rf fl fh sa sb ca cb cs fp ct wk sk gk W S G rfl rfl hw rfl rfl hli hld hi hd (by simp [Lib.join, List.intercalate]; omega)
    exact r_Law_5 Lx_uni d i nm rn rt fn sn cn ra rb rf fl fh sa sb ca cb cs fp ct wk sk gk W S G rfl rfl rfl (fun fl0 σ => entry_gEv (by rw [(F 5).1]; exact ht) (F 5).2 rfl fl0 σ) rfl (fun fl0 σ => entry_gEv (by rw [(F 5).1]; exact r_object_5 Sx4_uni rfl d i nm rn rt fn sn cn ra rb rf fl fh sa sb ca cb cs fp ct wk sk gk W S G) (F 5).2 rfl fl0 σ) rfl hli hld hi hd hs
  · subst hk
    have hw : ∀ fl0 σ, entry (gEv Tryz.prog Sx2 10) fl0 [edt 6 d i nm rn rt fn sn cn ra rb rf fl fh sa sb ca cb cs fp ct wk sk gk W S G] σ = some (.tup [.int .i64 1, .int .i64 2], σ) := fun fl0 σ => entry_gEv (by rw [(F 6).1]; exact r_what_6 Sx2_uni rfl d i nm rn rt fn sn cn ra rb rf fl fh sa sb ca cb cs fp ct wk sk gk W S G) (F 6).2 rfl fl0 σ
    have ht := r_Text_6 Sx3_uni d i nm rn rt fn sn cn ra rb rf fl fh sa sb ca cb cs fp ct wk sk gk W S G rfl rfl hw rfl rfl hli hld hi hd (by simp [Lib.join, List.intercalate]; omega)
    exact r_Law_6 Lx_uni d i nm rn rt fn sn cn ra rb rf fl fh sa sb ca cb cs fp ct wk sk gk W S G rfl rfl rfl (fun fl0 σ => entry_gEv (by rw [(F 6).1]; exact ht) (F 6).2 rfl fl0 σ) rfl (fun fl0 σ => entry_gEv (by rw [(F 6).1]; exact r_object_6 Sx4_uni rfl d i nm rn rt fn sn cn ra rb rf fl fh sa sb ca cb cs fp ct wk sk gk W S G) (F 6).2 rfl fl0 σ) rfl hli hld hi hd hs
  · subst hk
    have hw : ∀ fl0 σ, entry (gEv Tryz.prog Sx2 10) fl0 [edt 7 d i nm rn rt fn sn cn ra rb rf fl fh sa sb ca cb cs fp ct wk sk gk W S G] σ = some (.tup [.int .i64 2, .int .i64 0], σ) := fun fl0 σ => entry_gEv (by rw [(F 7).1]; exact r_what_7 Sx2_uni rfl d i nm rn rt fn sn cn ra rb rf fl fh sa sb ca cb cs fp ct wk sk gk W S G) (F 7).2 rfl fl0 σ
    have ht := r_Text_7 Sx3_uni d i nm rn rt fn sn cn ra rb rf fl fh sa sb ca cb cs fp ct wk sk gk W S G rfl rfl hw rfl rfl hli hld hi hd (by simp [Lib.join, List.intercalate]; omega)
    exact r_Law_7 Lx_uni d i nm rn rt fn sn cn ra rb rf fl fh sa sb ca cb cs fp ct wk sk gk W S G rfl rfl rfl (fun fl0 σ => entry_gEv (by rw [(F 7).1]; exact ht) (F 7).2 rfl fl0 σ) rfl (fun fl0 σ => entry_gEv (by rw [(F 7).1]; exact r_object_7 Sx4_uni rfl d i nm rn rt fn sn cn ra rb rf fl fh sa sb ca cb cs fp ct wk sk gk W S G) (F 7).2 rfl fl0 σ) rfl hli hld hi hd hs
  · subst hk
    have hw : ∀ fl0 σ, entry (gEv Tryz.prog Sx2 10) fl0 [edt 8 d i nm rn rt fn sn cn ra rb rf fl fh sa sb ca cb cs fp ct wk sk gk W S G] σ = some (.tup [.int .i64 2, .int .i64 1], σ) := fun fl0 σ => entry_gEv (by rw [(F 8).1]; exact r_what_8 Sx2_uni rfl d i nm rn rt fn sn cn ra rb rf fl fh sa sb ca cb cs fp ct wk sk gk W S G) (F 8).2 rfl fl0 σ
    have ht := r_Text_8 Sx3_uni d i nm rn rt fn sn cn ra rb rf fl fh sa sb ca cb cs fp ct wk sk gk W S G rfl rfl hw rfl rfl hli hld hi hd (by simp [Lib.join, List.intercalate]; omega)
    exact r_Law_8 Lx_uni d i nm rn rt fn sn cn ra rb rf fl fh sa sb ca cb cs fp ct wk sk gk W S G rfl rfl rfl (fun fl0 σ => entry_gEv (by rw [(F 8).1]; exact ht) (F 8).2 rfl fl0 σ) rfl (fun fl0 σ => entry_gEv (by rw [(F 8).1]; exact r_object_8 Sx4_uni rfl d i nm rn rt fn sn cn ra rb rf fl fh sa sb ca cb cs fp ct wk sk gk W S G) (F 8).2 rfl fl0 σ) rfl hli hld hi hd hs
  · subst hk
    have hw : ∀ fl0 σ, entry (gEv Tryz.prog Sx2 10) fl0 [edt 9 d i nm rn rt fn sn cn ra rb rf fl fh sa sb ca cb cs fp ct wk sk gk W S G] σ = some (.tup [.int .i64 2, .int .i64 2], σ) := fun fl0 σ => entry_gEv (by rw [(F 9).1]; exact r_what_9 Sx2_uni rfl d i nm rn rt fn sn cn ra rb rf fl fh sa sb ca cb cs fp ct wk sk gk W S G) (F 9).2 rfl fl0 σ
    have ht := r_Text_9 Sx3_uni d i nm rn rt fn sn cn ra rb rf fl fh sa sb ca cb cs fp ct wk sk gk W S G rfl rfl hw rfl rfl hli hld hi hd (by simp [Lib.join, List.intercalate]; omega)
    exact r_Law_9 Lx_uni d i nm rn rt fn sn cn ra rb rf fl fh sa sb ca cb cs fp ct wk sk gk W S G rfl rfl rfl (fun fl0 σ => entry_gEv (by rw [(F 9).1]; exact ht) (F 9).2 rfl fl0 σ) rfl (fun fl0 σ => entry_gEv (by rw [(F 9).1]; exact r_object_9 Sx4_uni rfl d i nm rn rt fn sn cn ra rb rf fl fh sa sb ca cb cs fp ct wk sk gk W S G) (F 9).2 rfl fl0 σ) rfl hli hld hi hd hs
  · subst hk
    have hw : ∀ fl0 σ, entry (gEv Tryz.prog Sx2 10) fl0 [edt 10 d i nm rn rt fn sn cn ra rb rf fl fh sa sb ca cb cs fp ct wk sk gk W S G] σ = some (.tup [.int .i64 3, .int .i64 0], σ) := fun fl0 σ => entry_gEv (by rw [(F 10).1]; exact r_what_10 Sx2_uni rfl d i nm rn rt fn sn cn ra rb rf fl fh sa sb ca cb cs fp ct wk sk gk W S G) (F 10).2 rfl fl0 σ
    have ht := r_Text_10 Sx3_uni d i nm rn rt fn sn cn ra rb rf fl fh sa sb ca cb cs fp ct wk sk gk W S G rfl rfl hw rfl rfl hli hld hi hd (by simp [Lib.join, List.intercalate]; omega)
    exact r_Law_10 Lx_uni d i nm rn rt fn sn cn ra rb rf fl fh sa sb ca cb cs fp ct wk sk gk W S G rfl rfl rfl (fun fl0 σ => entry_gEv (by rw [(F 10).1]; exact ht) (F 10).2 rfl fl0 σ) rfl (fun fl0 σ => entry_gEv (by rw [(F 10).1]; exact r_object_10 Sx4_uni rfl d i nm rn rt fn sn cn ra rb rf fl fh sa sb ca cb cs fp ct wk sk gk W S G) (F 10).2 rfl fl0 σ) rfl hli hld hi hd hs
  · subst hk
    have hw : ∀ fl0 σ, entry (gEv Tryz.prog Sx2 10) fl0 [edt 11 d i nm rn rt fn sn cn ra rb rf fl fh sa sb ca cb cs fp ct wk sk gk W S G] σ = some (.tup [.int .i64 3, .int .i64 1], σ) := fun fl0 σ => entry_gEv (by rw [(F 11).1]; exact r_what_11 Sx2_uni rfl d i nm rn rt fn sn cn ra rb rf fl fh sa sb ca cb cs fp ct wk sk gk W S G) (F 11).2 rfl fl0 σ
    have ht := r_Text_11 Sx3_uni d i nm rn rt fn sn cn ra rb rf fl fh sa sb ca cb cs fp ct wk sk gk W S G rfl rfl hw rfl rfl hli hld hi hd (by simp [Lib.join, List.intercalate]; omega)
    exact r_Law_11 Lx_uni d i nm rn rt fn sn cn ra rb rf fl fh sa sb ca cb cs fp ct wk sk gk W S G rfl rfl rfl (fun fl0 σ => entry_gEv (by rw [(F 11).1]; exact ht) (F 11).2 rfl fl0 σ) rfl (fun fl0 σ => entry_gEv (by rw [(F 11).1]; exact r_object_11 Sx4_uni rfl d i nm rn rt fn sn cn ra rb rf fl fh sa sb ca cb cs fp ct wk sk gk W S G) (F 11).2 rfl fl0 σ) rfl hli hld hi hd hs
  · subst hk
    have hw : ∀ fl0 σ, entry (gEv Tryz.prog Sx2 10) fl0 [edt 12 d i nm rn rt fn sn cn ra rb rf fl fh sa sb ca cb cs fp ct wk sk gk W S G] σ = some (.tup [.int .i64 3, .int .i64 2], σ) := fun fl0 σ => entry_gEv (by rw [(F 12).1]; exact r_what_12 Sx2_uni rfl d i nm rn rt fn sn cn ra rb rf fl fh sa sb ca cb cs fp ct wk sk gk W S G) (F 12).2 rfl fl0 σ
    have ht := r_Text_12 Sx3_uni d i nm rn rt fn sn cn ra rb rf fl fh sa sb ca cb cs fp ct wk sk gk W S G rfl rfl hw rfl rfl hli hld hi hd (by simp [Lib.join, List.intercalate]; omega)
    exact r_Law_12 Lx_uni d i nm rn rt fn sn cn ra rb rf fl fh sa sb ca cb cs fp ct wk sk gk W S G rfl rfl rfl (fun fl0 σ => entry_gEv (by rw [(F 12).1]; exact ht) (F 12).2 rfl fl0 σ) rfl (fun fl0 σ => entry_gEv (by rw [(F 12).1]; exact r_object_12 Sx4_uni rfl d i nm rn rt fn sn cn ra rb rf fl fh sa sb ca cb cs fp ct wk sk gk W S G) (F 12).2 rfl fl0 σ) rfl hli hld hi hd hs
  · subst hk
    have ht := r_Text_13 Sx3_uni rfl d i nm rn rt fn sn cn ra rb rf fl fh sa sb ca cb cs fp ct wk sk gk W S G (by omega)
    exact r_Law_13 Lx_uni d i nm rn rt fn sn cn ra rb rf fl fh sa sb ca cb cs fp ct wk sk gk W S G rfl rfl rfl (fun fl0 σ => entry_gEv (by rw [(F 13).1]; exact ht) (F 13).2 rfl fl0 σ) rfl (fun fl0 σ => entry_gEv (by rw [(F 13).1]; exact r_object_13 Sx4_uni rfl d i nm rn rt fn sn cn ra rb rf fl fh sa sb ca cb cs fp ct wk sk gk W S G) (F 13).2 rfl fl0 σ) rfl hli hld hi hd hs

end
end Go.Kz

/-
  What CompareTexts is handed, as typed data; the tables that lie in the world.
-/
namespace Go.Proofs.YtoedmmmhcmppgaaGreatDoor
open Go Go.Kz Go.ChangeShapes Go.WideShapes Go.ChangeAt Go.WideMaps Go.WideElems Go.RowKit
set_option maxRecDepth 100000

theorem own : ownKnob Tryz.prog.godebug = none := by kernel_rfl
theorem laidOut : laidOutB Tryz.prog = true := by kernel_rfl

abbrev laidL : List (String × DataW Unit) := [("math/bits.deBruijn32tab", Rows.laid_math_bits_deBruijn32tab), ("math/bits.deBruijn64tab", Rows.laid_math_bits_deBruijn64tab), ("internal/strconv.uint64pow10", Rows.laid_internal_strconv_uint64pow10)]
theorem laidL_plain : (laidL.all fun x => x.2.handleName?.isNone) = true := by decide +kernel

def tabOf (g : Nat) : List Int := match gtab g with | some (_, xs) => xs | none => []
theorem gtab0 : gtab 0 = some (.u64, tabOf 0) := rfl
theorem gtab2 : gtab 2 = some (.u8, tabOf 2) := rfl
theorem gtab3 : gtab 3 = some (.u8, tabOf 3) := rfl
theorem gtab_ne {g : Nat} (h0 : g ≠ 0) (h2 : g ≠ 2) (h3 : g ≠ 3) : gtab g = none := by unfold gtab; rw [if_neg h0, if_neg h2, if_neg h3]
theorem gint_ne {g : Nat} (h : g ≠ 1) : gint g = none := by unfold gint; rw [if_neg h]
theorem ghold_tab {g : Nat} {k : IntKind} {xs : List Int} (h : gtab g = some (k, xs)) (hi : gint g = none) : ghold g (xs.map (Value.int k)).toArray := by
  refine ⟨fun k' zs hk => ?_, fun k' hk => ?_⟩
  · rw [h] at hk
    simp only [Option.some.injEq, Prod.mk.injEq] at hk
    obtain ⟨rfl, rfl⟩ := hk
    rfl
  · rw [hi] at hk
    cases hk

theorem glob {W : World} (hs : W.ShapedOpen Tryz.prog) (h : laidMetH Tryz.prog laidL W) : Gl (.start W) := by
  rw [MakeChecks.laidMetH_plain _ _ _ laidL_plain] at h
  obtain ⟨ps, hv, _, _⟩ := h
  obtain ⟨Ta, fa, ha⟩ := held_of_laid (P := Tryz.prog) (nm := "internal/strconv.uint64pow10") (k := .u64) (xs := tabOf 0) (g := 0) (n := 20) hv (List.Mem.tail _ (List.Mem.tail _ (List.Mem.head _))) (by kernel_rfl) (t := 137) (by kernel_rfl) Tryz.underlying137 Tryz.underlying98 (by kernel_rfl) (by kernel_rfl)
  obtain ⟨Tb, fb, hb⟩ := held_of_laid (P := Tryz.prog) (nm := "math/bits.deBruijn32tab") (k := .u8) (xs := tabOf 2) (g := 2) (n := 32) hv (List.Mem.head _) (by kernel_rfl) (t := 164) (by kernel_rfl) Tryz.underlying164 Tryz.underlying5 (by kernel_rfl) (by kernel_rfl)
  obtain ⟨Tc, fc, hc⟩ := held_of_laid (P := Tryz.prog) (nm := "math/bits.deBruijn64tab") (k := .u8) (xs := tabOf 3) (g := 3) (n := 64) hv (List.Mem.tail _ (List.Mem.head _)) (by kernel_rfl) (t := 165) (by kernel_rfl) Tryz.underlying165 Tryz.underlying5 (by kernel_rfl) (by kernel_rfl)
  obtain ⟨m, T0, fz0, h0⟩ := int_of_shaped (g := 1) (t := 3) (k := .i64) (zero := #[.int .i64 0]) hs (by decide +kernel) (by kernel_rfl) rfl (by kernel_rfl) (by kernel_rfl) Tryz.underlying3
  refine ⟨?_, ?_⟩
  · intro g ds hg
    by_cases e0 : g = 0
    · subst e0
      simp only [gcells, gtab0, Option.some.injEq] at hg
      subst hg
      exact eptr_of_held ha
    by_cases e2 : g = 2
    · subst e2
      simp only [gcells, gtab2, Option.some.injEq] at hg
      subst hg
      exact eptr_of_held hb
    by_cases e3 : g = 3
    · subst e3
      simp only [gcells, gtab3, Option.some.injEq] at hg
      subst hg
      exact eptr_of_held hc
    simp only [gcells, gtab_ne e0 e2 e3] at hg
    cases hg
  · intro g hg
    refine ⟨?_, fun id hd => hd.elim⟩
    by_cases e0 : g = 0
    · subst e0
      exact ⟨_, Ta, fa, ha, ghold_tab gtab0 (gint_ne (by decide))⟩
    by_cases e2 : g = 2
    · subst e2
      exact ⟨_, Tb, fb, hb, ghold_tab gtab2 (gint_ne (by decide))⟩
    by_cases e3 : g = 3
    · subst e3
      exact ⟨_, Tc, fc, hc, ghold_tab gtab3 (gint_ne (by decide))⟩
    by_cases e1 : g = 1
    · subst e1
      refine ⟨_, T0, fz0, h0, ?_, ?_⟩
      · intro k zs hk
        rw [gtab_ne e0 e2 e3] at hk
        cases hk
      · intro k hk
        have : k = .i64 := by
          have : gint 1 = some .i64 := rfl
          rw [this] at hk
          exact (Option.some.inj hk).symm
        subst this
        exact ⟨m, rfl⟩
    unfold gheld at hg
    rw [gtab_ne e0 e2 e3, gint_ne e1] at hg
    cases hg

noncomputable def door (os : Os) : World := World.doorLaid Tryz.prog 400 os
theorem door_met (os : Os) (args : Array Value) : laidMetH Tryz.prog laidL ((door os).forCall (fun _ _ => 0) ⟨#[], args, []⟩).memory :=
  laidMetH_of_parts3 (fuel := 8) (laidMet_of_run' 8 (by kernel_rfl) (by kernel_rfl)) (by kernel_rfl) (by kernel_rfl)
theorem named : (Tryz.prog.funcs.toList.all fun fn => !(fn.name == "runtime.NumGoroutine")) = true := by kernel_rfl
theorem names (f : FuncId) (fn : Func) (h : Tryz.prog.funcs[f]? = some fn) : (fn.name == "runtime.NumGoroutine") = false := by
  have := List.all_eq_true.1 named fn (Array.mem_toList_iff.2 (Array.mem_of_getElem? h))
  simpa using this

theorem typed_sl {d : Nat} {t e : TypeId} {qs : List PD} (hu : Tryz.prog.underlying t = some (.slice e)) (h : Typed Tryz.prog (d + 1) t qs) : ∃ k xs, qs = [.slice k xs .any] ∧ Fine (.slice k xs .any) := by
  have hf := typed_fine _ _ _ h
  simp only [Typed, hu] at h
  obtain ⟨xs, _, _, rfl⟩ := h
  exact ⟨_, _, rfl, hf _ (by simp)⟩
theorem ty_edit {d : Nat} {qs : List PD} (h : Typed Tryz.prog (d + 5) 38 qs) : ∃ (k : Int) (d i : Int) (nm rn rt fn sn cn : List UInt8) (ra rb rf fl fh sa sb ca cb cs : Int) (fp ct : Bool) (wk sk gk : Nat) (W S G : List PD), PD.agg qs = edt k d i nm rn rt fn sn cn ra rb rf fl fh sa sb ca cb cs fp ct wk sk gk W S G ∧
    Fine (.slice wk W .any) ∧ Fine (.slice sk S .any) ∧ Fine (.slice gk G .any) ∧ (-9223372036854775808 ≤ i ∧ i ≤ 9223372036854775807) ∧ (-9223372036854775808 ≤ d ∧ d ≤ 9223372036854775807) := by
  obtain ⟨q0, r0, rfl, h0, h⟩ := typedF_cons (typed_struct Tryz.underlying38 h)
  obtain ⟨q1, r1, rfl, h1, h⟩ := typedF_cons h
  obtain ⟨q2, r2, rfl, h2, h⟩ := typedF_cons h
  obtain ⟨q3, r3, rfl, h3, h⟩ := typedF_cons h
  obtain ⟨q4, r4, rfl, h4, h⟩ := typedF_cons h
  obtain ⟨q5, r5, rfl, h5, h⟩ := typedF_cons h
  obtain ⟨q6, r6, rfl, h6, h⟩ := typedF_cons h
  obtain ⟨q7, r7, rfl, h7, h⟩ := typedF_cons h
  obtain rfl := typedF_nil h
  obtain ⟨k, rfl, _⟩ := typed_int Tryz.underlying3 h0
  obtain ⟨d0, rfl, wd⟩ := typed_int Tryz.underlying3 h1
  obtain ⟨i, rfl, wi⟩ := typed_int Tryz.underlying3 h2
  obtain ⟨nm, rfl, _⟩ := typed_str Tryz.underlying9 h3
  -- the rank
  obtain ⟨a0, s0, rfl, b0, h4⟩ := typedF_cons (typed_struct Tryz.underlying26 h4)
  obtain ⟨a1, s1, rfl, b1, h4⟩ := typedF_cons h4
  obtain ⟨a2, s2, rfl, b2, h4⟩ := typedF_cons h4
  obtain ⟨a3, s3, rfl, b3, h4⟩ := typedF_cons h4
  obtain ⟨a4, s4, rfl, b4, h4⟩ := typedF_cons h4
  obtain rfl := typedF_nil h4
  obtain ⟨rn, rfl, _⟩ := typed_str Tryz.underlying9 b0
  obtain ⟨rt, rfl, _⟩ := typed_str Tryz.underlying9 b1
  obtain ⟨c0, u0, rfl, e0, b2⟩ := typedF_cons (typed_struct Tryz.underlying23 b2)
  obtain ⟨c1, u1, rfl, e1, b2⟩ := typedF_cons b2
  obtain rfl := typedF_nil b2
  obtain ⟨ra, rfl, _⟩ := typed_int Tryz.underlying3 e0
  obtain ⟨rb, rfl, _⟩ := typed_int Tryz.underlying3 e1
  obtain ⟨rf, rfl, _⟩ := typed_int Tryz.underlying3 b3
  obtain ⟨wk, W, rfl, hW⟩ := typed_sl Tryz.underlying24 b4
  -- the division
  obtain ⟨a0, s0, rfl, b0, h5⟩ := typedF_cons (typed_struct Tryz.underlying31 h5)
  obtain ⟨a1, s1, rfl, b1, h5⟩ := typedF_cons h5
  obtain ⟨a2, s2, rfl, b2, h5⟩ := typedF_cons h5
  obtain ⟨a3, s3, rfl, b3, h5⟩ := typedF_cons h5
  obtain rfl := typedF_nil h5
  obtain ⟨fn, rfl, _⟩ := typed_str Tryz.underlying9 b0
  obtain ⟨fp, rfl⟩ := typed_bool Tryz.underlying4 b1
  obtain ⟨c0, u0, rfl, e0, b2⟩ := typedF_cons (typed_struct Tryz.underlying28 b2)
  obtain ⟨c1, u1, rfl, e1, b2⟩ := typedF_cons b2
  obtain rfl := typedF_nil b2
  obtain ⟨fl, rfl, _⟩ := typed_int Tryz.underlying3 e0
  obtain ⟨fh, rfl, _⟩ := typed_int Tryz.underlying3 e1
  obtain ⟨sk, S, rfl, hS⟩ := typed_sl Tryz.underlying29 b3
  -- the stop
  obtain ⟨a0, s0, rfl, b0, h6⟩ := typedF_cons (typed_struct Tryz.underlying34 h6)
  obtain ⟨a1, s1, rfl, b1, h6⟩ := typedF_cons h6
  obtain ⟨a2, s2, rfl, b2, h6⟩ := typedF_cons h6
  obtain rfl := typedF_nil h6
  obtain ⟨sn, rfl, _⟩ := typed_str Tryz.underlying9 b0
  obtain ⟨c0, u0, rfl, e0, b1⟩ := typedF_cons (typed_struct Tryz.underlying23 b1)
  obtain ⟨c1, u1, rfl, e1, b1⟩ := typedF_cons b1
  obtain rfl := typedF_nil b1
  obtain ⟨sa, rfl, _⟩ := typed_int Tryz.underlying3 e0
  obtain ⟨sb, rfl, _⟩ := typed_int Tryz.underlying3 e1
  obtain ⟨gk, G, rfl, hG⟩ := typed_sl Tryz.underlying32 b2
  -- the coupler
  obtain ⟨a0, s0, rfl, b0, h7⟩ := typedF_cons (typed_struct Tryz.underlying36 h7)
  obtain ⟨a1, s1, rfl, b1, h7⟩ := typedF_cons h7
  obtain ⟨a2, s2, rfl, b2, h7⟩ := typedF_cons h7
  obtain ⟨a3, s3, rfl, b3, h7⟩ := typedF_cons h7
  obtain ⟨a4, s4, rfl, b4, h7⟩ := typedF_cons h7
  obtain rfl := typedF_nil h7
  obtain ⟨cn, rfl, _⟩ := typed_str Tryz.underlying9 b0
  obtain ⟨ca, rfl, _⟩ := typed_int Tryz.underlying3 b1
  obtain ⟨cb, rfl, _⟩ := typed_int Tryz.underlying3 b2
  obtain ⟨cs, rfl, _⟩ := typed_int Tryz.underlying3 b3
  obtain ⟨ct, rfl⟩ := typed_bool Tryz.underlying4 b4
  exact ⟨k, d0, i, nm, rn, rt, fn, sn, cn, ra, rb, rf, fl, fh, sa, sb, ca, cb, cs, fp, ct, wk, sk, gk, W, S, G, rfl, hW, hS, hG, wf_i64 wi, wf_i64 wd⟩
theorem str_len {c : Cx} {cs : Array Value} {qs : List PD} {R : Nat} (h : VR c (.agg cs) (.agg qs)) (hR : ∀ s, Value.string s ∈ cs.toList → s.size ≤ R) {j : Nat} {nm : List UInt8} (hj : qs[j]? = some (.str nm)) : nm.length ≤ R := by
  cases h with
  | agg cs' ds hl h1 hv =>
    have hlt : j < cs'.length := by rw [hl]; exact (List.getElem?_eq_some_iff.1 hj).1
    have e := (hv j cs'[j] (.str nm) (List.getElem?_eq_getElem hlt) hj).str_eq
    have := hR ⟨nm.toArray⟩ (by rw [← e]; exact List.getElem_mem hlt)
    simpa [ByteArray.size] using this
end Go.Proofs.YtoedmmmhcmppgaaGreatDoor
