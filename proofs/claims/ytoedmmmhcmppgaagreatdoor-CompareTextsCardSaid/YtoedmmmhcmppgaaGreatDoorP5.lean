/-
  Part P5 of the way: an interpreter over pure data, its soundness, walks through functions.
-/
import Derived.Test.YtoedmmmhcmppgaaGreatDoorP4
import Derived.Lib.Itoa
import Derived.Lib.ItoaNum
import Derived.Lib.Join
set_option linter.all false

/-
  Chapter 51: strconv.Itoa and strings.Join as entries of the table.
-/
namespace Go.Kz
open Go Go.Proofs
abbrev i64 : Em Int := Em.int .i64
noncomputable def gItoa : Nat → List PD → List SObj → Option (PD × List SObj) := entry (gf1 i64 .text fun n => gif (-9223372036854775808 ≤ n ∧ n ≤ 9223372036854775807) (some (Lib.itoa n)))
theorem gItoa_of (n : Int) (h : -9223372036854775808 ≤ n ∧ n ≤ 9223372036854775807) (fl : Nat) (σ : List SObj) : gItoa fl [.int .i64 n] σ = some (.str (Lib.itoa n), σ) := by
  have e : i64.dec (.int .i64 n) = some n := Em.dec_some rfl
  unfold gItoa entry gf1
  simp only [e]
  rw [gif_pos h]
  rfl
def okJ (l : List (List UInt8)) (s : List UInt8) : Prop := l ≠ [] ∧ l.length ≤ 1000 ∧ (Lib.join l s).length ≤ 1000000
noncomputable def gJoin : Nat → List PD → List SObj → Option (PD × List SObj) := entry (gf2 (Em.text.list 1) .text .text fun l s => gif (okJ l s) (some (Lib.join l s)))
theorem gJoin_of (l : List (List UInt8)) (s : List UInt8) (h : okJ l s) (t : Tok) (fl : Nat) (σ : List SObj) : gJoin fl [.slice 1 (l.map PD.str) t, .str s] σ = some (.str (Lib.join l s), σ) := by
  have e1 : (Em.text.list 1).dec (.slice 1 (l.map PD.str) t) = some l := Em.dec_some (by
    rw [PD.strip_slice]
    show _ = PD.slice (sz 1 l) (l.map PD.str) .any
    rw [sz_ne h.1, if_neg (by simp [h.1]), List.map_map]
    rfl)
  have e2 : Em.text.dec (.str s) = some s := Em.dec_some rfl
  unfold gJoin entry gf2
  simp only [e1, e2]
  rw [gif_pos h]
  rfl
theorem gJoinOf {k : Nat} (hk : k = 1) {xs : List PD} {l : List (List UInt8)} (hxs : xs = l.map PD.str) {s : List UInt8} (h : okJ l s) (t : Tok) (fl : Nat) (σ : List SObj) : gJoin fl [.slice k xs t, .str s] σ = some (.str (Lib.join l s), σ) := by
  subst hk hxs
  exact gJoin_of l s h t fl σ
end Go.Kz

/-
  Chapter 51: the text of an edit, kind by kind.
-/
namespace Go.Kz
open Go Go.Proofs
set_option maxRecDepth 100000
set_option maxHeartbeats 4000000
section
variable {E : PExt} (hU : Uni E)
include hU

theorem r_Text_1 (d i : Int) (nm rn rt fn sn cn : List UInt8) (ra rb rf fl fh sa sb ca cb cs : Int) (fp ct : Bool) (wk sk gk : Nat) (W S G : List PD) (h0 : E 5 = none) {gW : Nat → List PD → List SObj → Option (PD × List SObj)} (hW : E 10 = some gW) (hW1 : ∀ fl0 σ, gW fl0 [(.agg [.int .i64 1, .int .i64 d, .int .i64 i, .str nm, .str rn, .str rt, .int .i64 ra, .int .i64 rb, .int .i64 rf, .slice wk W .any, .str fn, .bool fp, .int .i64 fl, .int .i64 fh, .slice sk S .any, .str sn, .int .i64 sa, .int .i64 sb, .slice gk G .any, .str cn, .int .i64 ca, .int .i64 cb, .int .i64 cs, .bool ct])] σ = some (.tup [.int .i64 0, .int .i64 0], σ)) (hI : E 7 = some gItoa) (hJ : E 11 = some gJoin) (hli : (Lib.itoa i).length ≤ 100) (hld : (Lib.itoa d).length ≤ 100) (hi : -9223372036854775808 ≤ i ∧ i ≤ 9223372036854775807) (hd : -9223372036854775808 ≤ d ∧ d ≤ 9223372036854775807) (hl : (Lib.join [[97, 100, 100], [114, 97, 110, 107], Lib.itoa i, rn] [32]).length ≤ 100000) : Run Tryz.prog E 5 [(.agg [.int .i64 1, .int .i64 d, .int .i64 i, .str nm, .str rn, .str rt, .int .i64 ra, .int .i64 rb, .int .i64 rf, .slice wk W .any, .str fn, .bool fp, .int .i64 fl, .int .i64 fh, .slice sk S .any, .str sn, .int .i64 sa, .int .i64 sb, .slice gk G .any, .str cn, .int .i64 ca, .int .i64 cb, .int .i64 cs, .bool ct])] (.tup [.str (Lib.join [[97, 100, 100], [114, 97, 110, 107], Lib.itoa i, rn] [32]), .int .i64 0]) := by
  have f1 := gItoa_of i hi
  have f2 := gItoa_of d hd
  have hj : okJ [[97, 100, 100], [114, 97, 110, 107], Lib.itoa i, rn] [32] := ⟨by simp, by simp, by omega⟩
  have f3 : ∀ t fl σ, gJoin fl [.slice Tryz.prog.types[9].size [.str ([97, 100, 100]), .str ([114, 97, 110, 107]), .str (Lib.itoa i), .str (rn)] t, .str [32]] σ = some (.str (Lib.join [[97, 100, 100], [114, 97, 110, 107], Lib.itoa i, rn] [32]), σ) := fun t fl σ => gJoinOf (by kernel_rfl) rfl hj t fl σ
  have f4 : ∀ t fl σ, gJoin fl [.slice 1 [.str ([97, 100, 100]), .str ([114, 97, 110, 107]), .str (Lib.itoa i), .str (rn)] t, .str [32]] σ = some (.str (Lib.join [[97, 100, 100], [114, 97, 110, 107], Lib.itoa i, rn] [32]), σ) := fun t fl σ => gJoinOf rfl rfl hj t fl σ
  apply Run.bodyL h0 Tryz.func5 rfl
  focus (simp [show Tryz.f5.ntmps = _ from rfl, List.replicate]; rfl)
  have gx := And.intro @hW (And.intro @hW1 (And.intro @hI (And.intro @hJ (And.intro @f1 (And.intro @f2 (And.intro @f3 (@f4)))))))
  refine goA ?_
  clear gx
  exact ⟨_, _, rfl, rfl⟩

theorem r_Text_2 (d i : Int) (nm rn rt fn sn cn : List UInt8) (ra rb rf fl fh sa sb ca cb cs : Int) (fp ct : Bool) (wk sk gk : Nat) (W S G : List PD) (h0 : E 5 = none) {gW : Nat → List PD → List SObj → Option (PD × List SObj)} (hW : E 10 = some gW) (hW1 : ∀ fl0 σ, gW fl0 [(.agg [.int .i64 2, .int .i64 d, .int .i64 i, .str nm, .str rn, .str rt, .int .i64 ra, .int .i64 rb, .int .i64 rf, .slice wk W .any, .str fn, .bool fp, .int .i64 fl, .int .i64 fh, .slice sk S .any, .str sn, .int .i64 sa, .int .i64 sb, .slice gk G .any, .str cn, .int .i64 ca, .int .i64 cb, .int .i64 cs, .bool ct])] σ = some (.tup [.int .i64 0, .int .i64 1], σ)) (hI : E 7 = some gItoa) (hJ : E 11 = some gJoin) (hli : (Lib.itoa i).length ≤ 100) (hld : (Lib.itoa d).length ≤ 100) (hi : -9223372036854775808 ≤ i ∧ i ≤ 9223372036854775807) (hd : -9223372036854775808 ≤ d ∧ d ≤ 9223372036854775807) (hl : (Lib.join [[114, 101, 109, 111, 118, 101], [114, 97, 110, 107], Lib.itoa i] [32]).length ≤ 100000) : Run Tryz.prog E 5 [(.agg [.int .i64 2, .int .i64 d, .int .i64 i, .str nm, .str rn, .str rt, .int .i64 ra, .int .i64 rb, .int .i64 rf, .slice wk W .any, .str fn, .bool fp, .int .i64 fl, .int .i64 fh, .slice sk S .any, .str sn, .int .i64 sa, .int .i64 sb, .slice gk G .any, .str cn, .int .i64 ca, .int .i64 cb, .int .i64 cs, .bool ct])] (.tup [.str (Lib.join [[114, 101, 109, 111, 118, 101], [114, 97, 110, 107], Lib.itoa i] [32]), .int .i64 0]) := by
  have f1 := gItoa_of i hi
  have f2 := gItoa_of d hd
  have hj : okJ [[114, 101, 109, 111, 118, 101], [114, 97, 110, 107], Lib.itoa i] [32] := ⟨by simp, by simp, by omega⟩
  have f3 : ∀ t fl σ, gJoin fl [.slice Tryz.prog.types[9].size [.str ([114, 101, 109, 111, 118, 101]), .str ([114, 97, 110, 107]), .str (Lib.itoa i)] t, .str [32]] σ = some (.str (Lib.join [[114, 101, 109, 111, 118, 101], [114, 97, 110, 107], Lib.itoa i] [32]), σ) := fun t fl σ => gJoinOf (by kernel_rfl) rfl hj t fl σ
  have f4 : ∀ t fl σ, gJoin fl [.slice 1 [.str ([114, 101, 109, 111, 118, 101]), .str ([114, 97, 110, 107]), .str (Lib.itoa i)] t, .str [32]] σ = some (.str (Lib.join [[114, 101, 109, 111, 118, 101], [114, 97, 110, 107], Lib.itoa i] [32]), σ) := fun t fl σ => gJoinOf rfl rfl hj t fl σ
  apply Run.bodyL h0 Tryz.func5 rfl
  focus (simp [show Tryz.f5.ntmps = _ from rfl, List.replicate]; rfl)
  have gx := And.intro @hW (And.intro @hW1 (And.intro @hI (And.intro @hJ (And.intro @f1 (And.intro @f2 (And.intro @f3 (@f4)))))))
  refine goA ?_
  clear gx
  exact ⟨_, _, rfl, rfl⟩

theorem r_Text_3 (d i : Int) (nm rn rt fn sn cn : List UInt8) (ra rb rf fl fh sa sb ca cb cs : Int) (fp ct : Bool) (wk sk gk : Nat) (W S G : List PD) (h0 : E 5 = none) {gW : Nat → List PD → List SObj → Option (PD × List SObj)} (hW : E 10 = some gW) (hW1 : ∀ fl0 σ, gW fl0 [(.agg [.int .i64 3, .int .i64 d, .int .i64 i, .str nm, .str rn, .str rt, .int .i64 ra, .int .i64 rb, .int .i64 rf, .slice wk W .any, .str fn, .bool fp, .int .i64 fl, .int .i64 fh, .slice sk S .any, .str sn, .int .i64 sa, .int .i64 sb, .slice gk G .any, .str cn, .int .i64 ca, .int .i64 cb, .int .i64 cs, .bool ct])] σ = some (.tup [.int .i64 0, .int .i64 2], σ)) (hI : E 7 = some gItoa) (hJ : E 11 = some gJoin) (hli : (Lib.itoa i).length ≤ 100) (hld : (Lib.itoa d).length ≤ 100) (hi : -9223372036854775808 ≤ i ∧ i ≤ 9223372036854775807) (hd : -9223372036854775808 ≤ d ∧ d ≤ 9223372036854775807) (hl : (Lib.join [[112, 117, 116], [114, 97, 110, 107], Lib.itoa i, rn] [32]).length ≤ 100000) : Run Tryz.prog E 5 [(.agg [.int .i64 3, .int .i64 d, .int .i64 i, .str nm, .str rn, .str rt, .int .i64 ra, .int .i64 rb, .int .i64 rf, .slice wk W .any, .str fn, .bool fp, .int .i64 fl, .int .i64 fh, .slice sk S .any, .str sn, .int .i64 sa, .int .i64 sb, .slice gk G .any, .str cn, .int .i64 ca, .int .i64 cb, .int .i64 cs, .bool ct])] (.tup [.str (Lib.join [[112, 117, 116], [114, 97, 110, 107], Lib.itoa i, rn] [32]), .int .i64 0]) := by
  have f1 := gItoa_of i hi
  have f2 := gItoa_of d hd
  have hj : okJ [[112, 117, 116], [114, 97, 110, 107], Lib.itoa i, rn] [32] := ⟨by simp, by simp, by omega⟩
  have f3 : ∀ t fl σ, gJoin fl [.slice Tryz.prog.types[9].size [.str ([112, 117, 116]), .str ([114, 97, 110, 107]), .str (Lib.itoa i), .str (rn)] t, .str [32]] σ = some (.str (Lib.join [[112, 117, 116], [114, 97, 110, 107], Lib.itoa i, rn] [32]), σ) := fun t fl σ => gJoinOf (by kernel_rfl) rfl hj t fl σ
  have f4 : ∀ t fl σ, gJoin fl [.slice 1 [.str ([112, 117, 116]), .str ([114, 97, 110, 107]), .str (Lib.itoa i), .str (rn)] t, .str [32]] σ = some (.str (Lib.join [[112, 117, 116], [114, 97, 110, 107], Lib.itoa i, rn] [32]), σ) := fun t fl σ => gJoinOf rfl rfl hj t fl σ
  apply Run.bodyL h0 Tryz.func5 rfl
  focus (simp [show Tryz.f5.ntmps = _ from rfl, List.replicate]; rfl)
  have gx := And.intro @hW (And.intro @hW1 (And.intro @hI (And.intro @hJ (And.intro @f1 (And.intro @f2 (And.intro @f3 (@f4)))))))
  refine goA ?_
  clear gx
  exact ⟨_, _, rfl, rfl⟩

theorem r_Text_4 (d i : Int) (nm rn rt fn sn cn : List UInt8) (ra rb rf fl fh sa sb ca cb cs : Int) (fp ct : Bool) (wk sk gk : Nat) (W S G : List PD) (h0 : E 5 = none) {gW : Nat → List PD → List SObj → Option (PD × List SObj)} (hW : E 10 = some gW) (hW1 : ∀ fl0 σ, gW fl0 [(.agg [.int .i64 4, .int .i64 d, .int .i64 i, .str nm, .str rn, .str rt, .int .i64 ra, .int .i64 rb, .int .i64 rf, .slice wk W .any, .str fn, .bool fp, .int .i64 fl, .int .i64 fh, .slice sk S .any, .str sn, .int .i64 sa, .int .i64 sb, .slice gk G .any, .str cn, .int .i64 ca, .int .i64 cb, .int .i64 cs, .bool ct])] σ = some (.tup [.int .i64 1, .int .i64 0], σ)) (hI : E 7 = some gItoa) (hJ : E 11 = some gJoin) (hli : (Lib.itoa i).length ≤ 100) (hld : (Lib.itoa d).length ≤ 100) (hi : -9223372036854775808 ≤ i ∧ i ≤ 9223372036854775807) (hd : -9223372036854775808 ≤ d ∧ d ≤ 9223372036854775807) (hl : (Lib.join [[97, 100, 100], [100, 105, 118, 105, 115, 105, 111, 110], Lib.itoa i, fn] [32]).length ≤ 100000) : Run Tryz.prog E 5 [(.agg [.int .i64 4, .int .i64 d, .int .i64 i, .str nm, .str rn, .str rt, .int .i64 ra, .int .i64 rb, .int .i64 rf, .slice wk W .any, .str fn, .bool fp, .int .i64 fl, .int .i64 fh, .slice sk S .any, .str sn, .int .i64 sa, .int .i64 sb, .slice gk G .any, .str cn, .int .i64 ca, .int .i64 cb, .int .i64 cs, .bool ct])] (.tup [.str (Lib.join [[97, 100, 100], [100, 105, 118, 105, 115, 105, 111, 110], Lib.itoa i, fn] [32]), .int .i64 0]) := by
  have f1 := gItoa_of i hi
  have f2 := gItoa_of d hd
  have hj : okJ [[97, 100, 100], [100, 105, 118, 105, 115, 105, 111, 110], Lib.itoa i, fn] [32] := ⟨by simp, by simp, by omega⟩
  have f3 : ∀ t fl σ, gJoin fl [.slice Tryz.prog.types[9].size [.str ([97, 100, 100]), .str ([100, 105, 118, 105, 115, 105, 111, 110]), .str (Lib.itoa i), .str (fn)] t, .str [32]] σ = some (.str (Lib.join [[97, 100, 100], [100, 105, 118, 105, 115, 105, 111, 110], Lib.itoa i, fn] [32]), σ) := fun t fl σ => gJoinOf (by kernel_rfl) rfl hj t fl σ
  have f4 : ∀ t fl σ, gJoin fl [.slice 1 [.str ([97, 100, 100]), .str ([100, 105, 118, 105, 115, 105, 111, 110]), .str (Lib.itoa i), .str (fn)] t, .str [32]] σ = some (.str (Lib.join [[97, 100, 100], [100, 105, 118, 105, 115, 105, 111, 110], Lib.itoa i, fn] [32]), σ) := fun t fl σ => gJoinOf rfl rfl hj t fl σ
  apply Run.bodyL h0 Tryz.func5 rfl
  focus (simp [show Tryz.f5.ntmps = _ from rfl, List.replicate]; rfl)
  have gx := And.intro @hW (And.intro @hW1 (And.intro @hI (And.intro @hJ (And.intro @f1 (And.intro @f2 (And.intro @f3 (@f4)))))))
  refine goA ?_
  clear gx
  exact ⟨_, _, rfl, rfl⟩

theorem r_Text_5 (d i : Int) (nm rn rt fn sn cn : List UInt8) (ra rb rf fl fh sa sb ca cb cs : Int) (fp ct : Bool) (wk sk gk : Nat) (W S G : List PD) (h0 : E 5 = none) {gW : Nat → List PD → List SObj → Option (PD × List SObj)} (hW : E 10 = some gW) (hW1 : ∀ fl0 σ, gW fl0 [(.agg [.int .i64 5, .int .i64 d, .int .i64 i, .str nm, .str rn, .str rt, .int .i64 ra, .int .i64 rb, .int .i64 rf, .slice wk W .any, .str fn, .bool fp, .int .i64 fl, .int .i64 fh, .slice sk S .any, .str sn, .int .i64 sa, .int .i64 sb, .slice gk G .any, .str cn, .int .i64 ca, .int .i64 cb, .int .i64 cs, .bool ct])] σ = some (.tup [.int .i64 1, .int .i64 1], σ)) (hI : E 7 = some gItoa) (hJ : E 11 = some gJoin) (hli : (Lib.itoa i).length ≤ 100) (hld : (Lib.itoa d).length ≤ 100) (hi : -9223372036854775808 ≤ i ∧ i ≤ 9223372036854775807) (hd : -9223372036854775808 ≤ d ∧ d ≤ 9223372036854775807) (hl : (Lib.join [[114, 101, 109, 111, 118, 101], [100, 105, 118, 105, 115, 105, 111, 110], Lib.itoa i] [32]).length ≤ 100000) : Run Tryz.prog E 5 [(.agg [.int .i64 5, .int .i64 d, .int .i64 i, .str nm, .str rn, .str rt, .int .i64 ra, .int .i64 rb, .int .i64 rf, .slice wk W .any, .str fn, .bool fp, .int .i64 fl, .int .i64 fh, .slice sk S .any, .str sn, .int .i64 sa, .int .i64 sb, .slice gk G .any, .str cn, .int .i64 ca, .int .i64 cb, .int .i64 cs, .bool ct])] (.tup [.str (Lib.join [[114, 101, 109, 111, 118, 101], [100, 105, 118, 105, 115, 105, 111, 110], Lib.itoa i] [32]), .int .i64 0]) := by
  have f1 := gItoa_of i hi
  have f2 := gItoa_of d hd
  have hj : okJ [[114, 101, 109, 111, 118, 101], [100, 105, 118, 105, 115, 105, 111, 110], Lib.itoa i] [32] := ⟨by simp, by simp, by omega⟩
  have f3 : ∀ t fl σ, gJoin fl [.slice Tryz.prog.types[9].size [.str ([114, 101, 109, 111, 118, 101]), .str ([100, 105, 118, 105, 115, 105, 111, 110]), .str (Lib.itoa i)] t, .str [32]] σ = some (.str (Lib.join [[114, 101, 109, 111, 118, 101], [100, 105, 118, 105, 115, 105, 111, 110], Lib.itoa i] [32]), σ) := fun t fl σ => gJoinOf (by kernel_rfl) rfl hj t fl σ
  have f4 : ∀ t fl σ, gJoin fl [.slice 1 [.str ([114, 101, 109, 111, 118, 101]), .str ([100, 105, 118, 105, 115, 105, 111, 110]), .str (Lib.itoa i)] t, .str [32]] σ = some (.str (Lib.join [[114, 101, 109, 111, 118, 101], [100, 105, 118, 105, 115, 105, 111, 110], Lib.itoa i] [32]), σ) := fun t fl σ => gJoinOf rfl rfl hj t fl σ
  apply Run.bodyL h0 Tryz.func5 rfl
  focus (simp [show Tryz.f5.ntmps = _ from rfl, List.replicate]; rfl)
  have gx := And.intro @hW (And.intro @hW1 (And.intro @hI (And.intro @hJ (And.intro @f1 (And.intro @f2 (And.intro @f3 (@f4)))))))
  refine goA ?_
  clear gx
  exact ⟨_, _, rfl, rfl⟩

theorem r_Text_6 (d i : Int) (nm rn rt fn sn cn : List UInt8) (ra rb rf fl fh sa sb ca cb cs : Int) (fp ct : Bool) (wk sk gk : Nat) (W S G : List PD) (h0 : E 5 = none) {gW : Nat → List PD → List SObj → Option (PD × List SObj)} (hW : E 10 = some gW) (hW1 : ∀ fl0 σ, gW fl0 [(.agg [.int .i64 6, .int .i64 d, .int .i64 i, .str nm, .str rn, .str rt, .int .i64 ra, .int .i64 rb, .int .i64 rf, .slice wk W .any, .str fn, .bool fp, .int .i64 fl, .int .i64 fh, .slice sk S .any, .str sn, .int .i64 sa, .int .i64 sb, .slice gk G .any, .str cn, .int .i64 ca, .int .i64 cb, .int .i64 cs, .bool ct])] σ = some (.tup [.int .i64 1, .int .i64 2], σ)) (hI : E 7 = some gItoa) (hJ : E 11 = some gJoin) (hli : (Lib.itoa i).length ≤ 100) (hld : (Lib.itoa d).length ≤ 100) (hi : -9223372036854775808 ≤ i ∧ i ≤ 9223372036854775807) (hd : -9223372036854775808 ≤ d ∧ d ≤ 9223372036854775807) (hl : (Lib.join [[112, 117, 116], [100, 105, 118, 105, 115, 105, 111, 110], Lib.itoa i, fn] [32]).length ≤ 100000) : Run Tryz.prog E 5 [(.agg [.int .i64 6, .int .i64 d, .int .i64 i, .str nm, .str rn, .str rt, .int .i64 ra, .int .i64 rb, .int .i64 rf, .slice wk W .any, .str fn, .bool fp, .int .i64 fl, .int .i64 fh, .slice sk S .any, .str sn, .int .i64 sa, .int .i64 sb, .slice gk G .any, .str cn, .int .i64 ca, .int .i64 cb, .int .i64 cs, .bool ct])] (.tup [.str (Lib.join [[112, 117, 116], [100, 105, 118, 105, 115, 105, 111, 110], Lib.itoa i, fn] [32]), .int .i64 0]) := by
  have f1 := gItoa_of i hi
  have f2 := gItoa_of d hd
  have hj : okJ [[112, 117, 116], [100, 105, 118, 105, 115, 105, 111, 110], Lib.itoa i, fn] [32] := ⟨by simp, by simp, by omega⟩
  have f3 : ∀ t fl σ, gJoin fl [.slice Tryz.prog.types[9].size [.str ([112, 117, 116]), .str ([100, 105, 118, 105, 115, 105, 111, 110]), .str (Lib.itoa i), .str (fn)] t, .str [32]] σ = some (.str (Lib.join [[112, 117, 116], [100, 105, 118, 105, 115, 105, 111, 110], Lib.itoa i, fn] [32]), σ) := fun t fl σ => gJoinOf (by kernel_rfl) rfl hj t fl σ
  have f4 : ∀ t fl σ, gJoin fl [.slice 1 [.str ([112, 117, 116]), .str ([100, 105, 118, 105, 115, 105, 111, 110]), .str (Lib.itoa i), .str (fn)] t, .str [32]] σ = some (.str (Lib.join [[112, 117, 116], [100, 105, 118, 105, 115, 105, 111, 110], Lib.itoa i, fn] [32]), σ) := fun t fl σ => gJoinOf rfl rfl hj t fl σ
  apply Run.bodyL h0 Tryz.func5 rfl
  focus (simp [show Tryz.f5.ntmps = _ from rfl, List.replicate]; rfl)
  have gx := And.intro @hW (And.intro @hW1 (And.intro @hI (And.intro @hJ (And.intro @f1 (And.intro @f2 (And.intro @f3 (@f4)))))))
  refine goA ?_
  clear gx
  exact ⟨_, _, rfl, rfl⟩

theorem r_Text_7 (d i : Int) (nm rn rt fn sn cn : List UInt8) (ra rb rf fl fh sa sb ca cb cs : Int) (fp ct : Bool) (wk sk gk : Nat) (W S G : List PD) (h0 : E 5 = none) {gW : Nat → List PD → List SObj → Option (PD × List SObj)} (hW : E 10 = some gW) (hW1 : ∀ fl0 σ, gW fl0 [(.agg [.int .i64 7, .int .i64 d, .int .i64 i, .str nm, .str rn, .str rt, .int .i64 ra, .int .i64 rb, .int .i64 rf, .slice wk W .any, .str fn, .bool fp, .int .i64 fl, .int .i64 fh, .slice sk S .any, .str sn, .int .i64 sa, .int .i64 sb, .slice gk G .any, .str cn, .int .i64 ca, .int .i64 cb, .int .i64 cs, .bool ct])] σ = some (.tup [.int .i64 2, .int .i64 0], σ)) (hI : E 7 = some gItoa) (hJ : E 11 = some gJoin) (hli : (Lib.itoa i).length ≤ 100) (hld : (Lib.itoa d).length ≤ 100) (hi : -9223372036854775808 ≤ i ∧ i ≤ 9223372036854775807) (hd : -9223372036854775808 ≤ d ∧ d ≤ 9223372036854775807) (hl : (Lib.join [[97, 100, 100], [115, 116, 111, 112], Lib.itoa d, Lib.itoa i, sn] [32]).length ≤ 100000) : Run Tryz.prog E 5 [(.agg [.int .i64 7, .int .i64 d, .int .i64 i, .str nm, .str rn, .str rt, .int .i64 ra, .int .i64 rb, .int .i64 rf, .slice wk W .any, .str fn, .bool fp, .int .i64 fl, .int .i64 fh, .slice sk S .any, .str sn, .int .i64 sa, .int .i64 sb, .slice gk G .any, .str cn, .int .i64 ca, .int .i64 cb, .int .i64 cs, .bool ct])] (.tup [.str (Lib.join [[97, 100, 100], [115, 116, 111, 112], Lib.itoa d, Lib.itoa i, sn] [32]), .int .i64 0]) := by
  have f1 := gItoa_of i hi
  have f2 := gItoa_of d hd
  have hj : okJ [[97, 100, 100], [115, 116, 111, 112], Lib.itoa d, Lib.itoa i, sn] [32] := ⟨by simp, by simp, by omega⟩
  have f3 : ∀ t fl σ, gJoin fl [.slice Tryz.prog.types[9].size [.str ([97, 100, 100]), .str ([115, 116, 111, 112]), .str (Lib.itoa d), .str (Lib.itoa i), .str (sn)] t, .str [32]] σ = some (.str (Lib.join [[97, 100, 100], [115, 116, 111, 112], Lib.itoa d, Lib.itoa i, sn] [32]), σ) := fun t fl σ => gJoinOf (by kernel_rfl) rfl hj t fl σ
  have f4 : ∀ t fl σ, gJoin fl [.slice 1 [.str ([97, 100, 100]), .str ([115, 116, 111, 112]), .str (Lib.itoa d), .str (Lib.itoa i), .str (sn)] t, .str [32]] σ = some (.str (Lib.join [[97, 100, 100], [115, 116, 111, 112], Lib.itoa d, Lib.itoa i, sn] [32]), σ) := fun t fl σ => gJoinOf rfl rfl hj t fl σ
  apply Run.bodyL h0 Tryz.func5 rfl
  focus (simp [show Tryz.f5.ntmps = _ from rfl, List.replicate]; rfl)
  have gx := And.intro @hW (And.intro @hW1 (And.intro @hI (And.intro @hJ (And.intro @f1 (And.intro @f2 (And.intro @f3 (@f4)))))))
  refine goA ?_
  clear gx
  exact ⟨_, _, rfl, rfl⟩

theorem r_Text_8 (d i : Int) (nm rn rt fn sn cn : List UInt8) (ra rb rf fl fh sa sb ca cb cs : Int) (fp ct : Bool) (wk sk gk : Nat) (W S G : List PD) (h0 : E 5 = none) {gW : Nat → List PD → List SObj → Option (PD × List SObj)} (hW : E 10 = some gW) (hW1 : ∀ fl0 σ, gW fl0 [(.agg [.int .i64 8, .int .i64 d, .int .i64 i, .str nm, .str rn, .str rt, .int .i64 ra, .int .i64 rb, .int .i64 rf, .slice wk W .any, .str fn, .bool fp, .int .i64 fl, .int .i64 fh, .slice sk S .any, .str sn, .int .i64 sa, .int .i64 sb, .slice gk G .any, .str cn, .int .i64 ca, .int .i64 cb, .int .i64 cs, .bool ct])] σ = some (.tup [.int .i64 2, .int .i64 1], σ)) (hI : E 7 = some gItoa) (hJ : E 11 = some gJoin) (hli : (Lib.itoa i).length ≤ 100) (hld : (Lib.itoa d).length ≤ 100) (hi : -9223372036854775808 ≤ i ∧ i ≤ 9223372036854775807) (hd : -9223372036854775808 ≤ d ∧ d ≤ 9223372036854775807) (hl : (Lib.join [[114, 101, 109, 111, 118, 101], [115, 116, 111, 112], Lib.itoa d, Lib.itoa i] [32]).length ≤ 100000) : Run Tryz.prog E 5 [(.agg [.int .i64 8, .int .i64 d, .int .i64 i, .str nm, .str rn, .str rt, .int .i64 ra, .int .i64 rb, .int .i64 rf, .slice wk W .any, .str fn, .bool fp, .int .i64 fl, .int .i64 fh, .slice sk S .any, .str sn, .int .i64 sa, .int .i64 sb, .slice gk G .any, .str cn, .int .i64 ca, .int .i64 cb, .int .i64 cs, .bool ct])] (.tup [.str (Lib.join [[114, 101, 109, 111, 118, 101], [115, 116, 111, 112], Lib.itoa d, Lib.itoa i] [32]), .int .i64 0]) := by
  have f1 := gItoa_of i hi
  have f2 := gItoa_of d hd
  have hj : okJ [[114, 101, 109, 111, 118, 101], [115, 116, 111, 112], Lib.itoa d, Lib.itoa i] [32] := ⟨by simp, by simp, by omega⟩
  have f3 : ∀ t fl σ, gJoin fl [.slice Tryz.prog.types[9].size [.str ([114, 101, 109, 111, 118, 101]), .str ([115, 116, 111, 112]), .str (Lib.itoa d), .str (Lib.itoa i)] t, .str [32]] σ = some (.str (Lib.join [[114, 101, 109, 111, 118, 101], [115, 116, 111, 112], Lib.itoa d, Lib.itoa i] [32]), σ) := fun t fl σ => gJoinOf (by kernel_rfl) rfl hj t fl σ
  have f4 : ∀ t fl σ, gJoin fl [.slice 1 [.str ([114, 101, 109, 111, 118, 101]), .str ([115, 116, 111, 112]), .str (Lib.itoa d), .str (Lib.itoa i)] t, .str [32]] σ = some (.str (Lib.join [[114, 101, 109, 111, 118, 101], [115, 116, 111, 112], Lib.itoa d, Lib.itoa i] [32]), σ) := fun t fl σ => gJoinOf rfl rfl hj t fl σ
  apply Run.bodyL h0 Tryz.func5 rfl
  focus (simp [show Tryz.f5.ntmps = _ from rfl, List.replicate]; rfl)
  have gx := And.intro @hW (And.intro @hW1 (And.intro @hI (And.intro @hJ (And.intro @f1 (And.intro @f2 (And.intro @f3 (@f4)))))))
  refine goA ?_
  clear gx
  exact ⟨_, _, rfl, rfl⟩

theorem r_Text_9 (d i : Int) (nm rn rt fn sn cn : List UInt8) (ra rb rf fl fh sa sb ca cb cs : Int) (fp ct : Bool) (wk sk gk : Nat) (W S G : List PD) (h0 : E 5 = none) {gW : Nat → List PD → List SObj → Option (PD × List SObj)} (hW : E 10 = some gW) (hW1 : ∀ fl0 σ, gW fl0 [(.agg [.int .i64 9, .int .i64 d, .int .i64 i, .str nm, .str rn, .str rt, .int .i64 ra, .int .i64 rb, .int .i64 rf, .slice wk W .any, .str fn, .bool fp, .int .i64 fl, .int .i64 fh, .slice sk S .any, .str sn, .int .i64 sa, .int .i64 sb, .slice gk G .any, .str cn, .int .i64 ca, .int .i64 cb, .int .i64 cs, .bool ct])] σ = some (.tup [.int .i64 2, .int .i64 2], σ)) (hI : E 7 = some gItoa) (hJ : E 11 = some gJoin) (hli : (Lib.itoa i).length ≤ 100) (hld : (Lib.itoa d).length ≤ 100) (hi : -9223372036854775808 ≤ i ∧ i ≤ 9223372036854775807) (hd : -9223372036854775808 ≤ d ∧ d ≤ 9223372036854775807) (hl : (Lib.join [[112, 117, 116], [115, 116, 111, 112], Lib.itoa d, Lib.itoa i, sn] [32]).length ≤ 100000) : Run Tryz.prog E 5 [(.agg [.int .i64 9, .int .i64 d, .int .i64 i, .str nm, .str rn, .str rt, .int .i64 ra, .int .i64 rb, .int .i64 rf, .slice wk W .any, .str fn, .bool fp, .int .i64 fl, .int .i64 fh, .slice sk S .any, .str sn, .int .i64 sa, .int .i64 sb, .slice gk G .any, .str cn, .int .i64 ca, .int .i64 cb, .int .i64 cs, .bool ct])] (.tup [.str (Lib.join [[112, 117, 116], [115, 116, 111, 112], Lib.itoa d, Lib.itoa i, sn] [32]), .int .i64 0]) := by
  have f1 := gItoa_of i hi
  have f2 := gItoa_of d hd
  have hj : okJ [[112, 117, 116], [115, 116, 111, 112], Lib.itoa d, Lib.itoa i, sn] [32] := ⟨by simp, by simp, by omega⟩
  have f3 : ∀ t fl σ, gJoin fl [.slice Tryz.prog.types[9].size [.str ([112, 117, 116]), .str ([115, 116, 111, 112]), .str (Lib.itoa d), .str (Lib.itoa i), .str (sn)] t, .str [32]] σ = some (.str (Lib.join [[112, 117, 116], [115, 116, 111, 112], Lib.itoa d, Lib.itoa i, sn] [32]), σ) := fun t fl σ => gJoinOf (by kernel_rfl) rfl hj t fl σ
  have f4 : ∀ t fl σ, gJoin fl [.slice 1 [.str ([112, 117, 116]), .str ([115, 116, 111, 112]), .str (Lib.itoa d), .str (Lib.itoa i), .str (sn)] t, .str [32]] σ = some (.str (Lib.join [[112, 117, 116], [115, 116, 111, 112], Lib.itoa d, Lib.itoa i, sn] [32]), σ) := fun t fl σ => gJoinOf rfl rfl hj t fl σ
  apply Run.bodyL h0 Tryz.func5 rfl
  focus (simp [show Tryz.f5.ntmps = _ from rfl, List.replicate]; rfl)
  have gx := And.intro @hW (And.intro @hW1 (And.intro @hI (And.intro @hJ (And.intro @f1 (And.intro @f2 (And.intro @f3 (@f4)))))))
  refine goA ?_
  clear gx
  exact ⟨_, _, rfl, rfl⟩

theorem r_Text_10 (d i : Int) (nm rn rt fn sn cn : List UInt8) (ra rb rf fl fh sa sb ca cb cs : Int) (fp ct : Bool) (wk sk gk : Nat) (W S G : List PD) (h0 : E 5 = none) {gW : Nat → List PD → List SObj → Option (PD × List SObj)} (hW : E 10 = some gW) (hW1 : ∀ fl0 σ, gW fl0 [(.agg [.int .i64 10, .int .i64 d, .int .i64 i, .str nm, .str rn, .str rt, .int .i64 ra, .int .i64 rb, .int .i64 rf, .slice wk W .any, .str fn, .bool fp, .int .i64 fl, .int .i64 fh, .slice sk S .any, .str sn, .int .i64 sa, .int .i64 sb, .slice gk G .any, .str cn, .int .i64 ca, .int .i64 cb, .int .i64 cs, .bool ct])] σ = some (.tup [.int .i64 3, .int .i64 0], σ)) (hI : E 7 = some gItoa) (hJ : E 11 = some gJoin) (hli : (Lib.itoa i).length ≤ 100) (hld : (Lib.itoa d).length ≤ 100) (hi : -9223372036854775808 ≤ i ∧ i ≤ 9223372036854775807) (hd : -9223372036854775808 ≤ d ∧ d ≤ 9223372036854775807) (hl : (Lib.join [[97, 100, 100], [99, 111, 117, 112, 108, 101, 114], Lib.itoa i, cn] [32]).length ≤ 100000) : Run Tryz.prog E 5 [(.agg [.int .i64 10, .int .i64 d, .int .i64 i, .str nm, .str rn, .str rt, .int .i64 ra, .int .i64 rb, .int .i64 rf, .slice wk W .any, .str fn, .bool fp, .int .i64 fl, .int .i64 fh, .slice sk S .any, .str sn, .int .i64 sa, .int .i64 sb, .slice gk G .any, .str cn, .int .i64 ca, .int .i64 cb, .int .i64 cs, .bool ct])] (.tup [.str (Lib.join [[97, 100, 100], [99, 111, 117, 112, 108, 101, 114], Lib.itoa i, cn] [32]), .int .i64 0]) := by
  have f1 := gItoa_of i hi
  have f2 := gItoa_of d hd
  have hj : okJ [[97, 100, 100], [99, 111, 117, 112, 108, 101, 114], Lib.itoa i, cn] [32] := ⟨by simp, by simp, by omega⟩
  have f3 : ∀ t fl σ, gJoin fl [.slice Tryz.prog.types[9].size [.str ([97, 100, 100]), .str ([99, 111, 117, 112, 108, 101, 114]), .str (Lib.itoa i), .str (cn)] t, .str [32]] σ = some (.str (Lib.join [[97, 100, 100], [99, 111, 117, 112, 108, 101, 114], Lib.itoa i, cn] [32]), σ) := fun t fl σ => gJoinOf (by kernel_rfl) rfl hj t fl σ
  have f4 : ∀ t fl σ, gJoin fl [.slice 1 [.str ([97, 100, 100]), .str ([99, 111, 117, 112, 108, 101, 114]), .str (Lib.itoa i), .str (cn)] t, .str [32]] σ = some (.str (Lib.join [[97, 100, 100], [99, 111, 117, 112, 108, 101, 114], Lib.itoa i, cn] [32]), σ) := fun t fl σ => gJoinOf rfl rfl hj t fl σ
  apply Run.bodyL h0 Tryz.func5 rfl
  focus (simp [show Tryz.f5.ntmps = _ from rfl, List.replicate]; rfl)
  have gx := And.intro @hW (And.intro @hW1 (And.intro @hI (And.intro @hJ (And.intro @f1 (And.intro @f2 (And.intro @f3 (@f4)))))))
  refine goA ?_
  clear gx
  exact ⟨_, _, rfl, rfl⟩

theorem r_Text_11 (d i : Int) (nm rn rt fn sn cn : List UInt8) (ra rb rf fl fh sa sb ca cb cs : Int) (fp ct : Bool) (wk sk gk : Nat) (W S G : List PD) (h0 : E 5 = none) {gW : Nat → List PD → List SObj → Option (PD × List SObj)} (hW : E 10 = some gW) (hW1 : ∀ fl0 σ, gW fl0 [(.agg [.int .i64 11, .int .i64 d, .int .i64 i, .str nm, .str rn, .str rt, .int .i64 ra, .int .i64 rb, .int .i64 rf, .slice wk W .any, .str fn, .bool fp, .int .i64 fl, .int .i64 fh, .slice sk S .any, .str sn, .int .i64 sa, .int .i64 sb, .slice gk G .any, .str cn, .int .i64 ca, .int .i64 cb, .int .i64 cs, .bool ct])] σ = some (.tup [.int .i64 3, .int .i64 1], σ)) (hI : E 7 = some gItoa) (hJ : E 11 = some gJoin) (hli : (Lib.itoa i).length ≤ 100) (hld : (Lib.itoa d).length ≤ 100) (hi : -9223372036854775808 ≤ i ∧ i ≤ 9223372036854775807) (hd : -9223372036854775808 ≤ d ∧ d ≤ 9223372036854775807) (hl : (Lib.join [[114, 101, 109, 111, 118, 101], [99, 111, 117, 112, 108, 101, 114], Lib.itoa i] [32]).length ≤ 100000) : Run Tryz.prog E 5 [(.agg [.int .i64 11, .int .i64 d, .int .i64 i, .str nm, .str rn, .str rt, .int .i64 ra, .int .i64 rb, .int .i64 rf, .slice wk W .any, .str fn, .bool fp, .int .i64 fl, .int .i64 fh, .slice sk S .any, .str sn, .int .i64 sa, .int .i64 sb, .slice gk G .any, .str cn, .int .i64 ca, .int .i64 cb, .int .i64 cs, .bool ct])] (.tup [.str (Lib.join [[114, 101, 109, 111, 118, 101], [99, 111, 117, 112, 108, 101, 114], Lib.itoa i] [32]), .int .i64 0]) := by
  have f1 := gItoa_of i hi
  have f2 := gItoa_of d hd
  have hj : okJ [[114, 101, 109, 111, 118, 101], [99, 111, 117, 112, 108, 101, 114], Lib.itoa i] [32] := ⟨by simp, by simp, by omega⟩
  have f3 : ∀ t fl σ, gJoin fl [.slice Tryz.prog.types[9].size [.str ([114, 101, 109, 111, 118, 101]), .str ([99, 111, 117, 112, 108, 101, 114]), .str (Lib.itoa i)] t, .str [32]] σ = some (.str (Lib.join [[114, 101, 109, 111, 118, 101], [99, 111, 117, 112, 108, 101, 114], Lib.itoa i] [32]), σ) := fun t fl σ => gJoinOf (by kernel_rfl) rfl hj t fl σ
  have f4 : ∀ t fl σ, gJoin fl [.slice 1 [.str ([114, 101, 109, 111, 118, 101]), .str ([99, 111, 117, 112, 108, 101, 114]), .str (Lib.itoa i)] t, .str [32]] σ = some (.str (Lib.join [[114, 101, 109, 111, 118, 101], [99, 111, 117, 112, 108, 101, 114], Lib.itoa i] [32]), σ) := fun t fl σ => gJoinOf rfl rfl hj t fl σ
  apply Run.bodyL h0 Tryz.func5 rfl
  focus (simp [show Tryz.f5.ntmps = _ from rfl, List.replicate]; rfl)
  have gx := And.intro @hW (And.intro @hW1 (And.intro @hI (And.intro @hJ (And.intro @f1 (And.intro @f2 (And.intro @f3 (@f4)))))))
  refine goA ?_
  clear gx
  exact ⟨_, _, rfl, rfl⟩

theorem r_Text_12 (d i : Int) (nm rn rt fn sn cn : List UInt8) (ra rb rf fl fh sa sb ca cb cs : Int) (fp ct : Bool) (wk sk gk : Nat) (W S G : List PD) (h0 : E 5 = none) {gW : Nat → List PD → List SObj → Option (PD × List SObj)} (hW : E 10 = some gW) (hW1 : ∀ fl0 σ, gW fl0 [(.agg [.int .i64 12, .int .i64 d, .int .i64 i, .str nm, .str rn, .str rt, .int .i64 ra, .int .i64 rb, .int .i64 rf, .slice wk W .any, .str fn, .bool fp, .int .i64 fl, .int .i64 fh, .slice sk S .any, .str sn, .int .i64 sa, .int .i64 sb, .slice gk G .any, .str cn, .int .i64 ca, .int .i64 cb, .int .i64 cs, .bool ct])] σ = some (.tup [.int .i64 3, .int .i64 2], σ)) (hI : E 7 = some gItoa) (hJ : E 11 = some gJoin) (hli : (Lib.itoa i).length ≤ 100) (hld : (Lib.itoa d).length ≤ 100) (hi : -9223372036854775808 ≤ i ∧ i ≤ 9223372036854775807) (hd : -9223372036854775808 ≤ d ∧ d ≤ 9223372036854775807) (hl : (Lib.join [[112, 117, 116], [99, 111, 117, 112, 108, 101, 114], Lib.itoa i, cn] [32]).length ≤ 100000) : Run Tryz.prog E 5 [(.agg [.int .i64 12, .int .i64 d, .int .i64 i, .str nm, .str rn, .str rt, .int .i64 ra, .int .i64 rb, .int .i64 rf, .slice wk W .any, .str fn, .bool fp, .int .i64 fl, .int .i64 fh, .slice sk S .any, .str sn, .int .i64 sa, .int .i64 sb, .slice gk G .any, .str cn, .int .i64 ca, .int .i64 cb, .int .i64 cs, .bool ct])] (.tup [.str (Lib.join [[112, 117, 116], [99, 111, 117, 112, 108, 101, 114], Lib.itoa i, cn] [32]), .int .i64 0]) := by
  have f1 := gItoa_of i hi
  have f2 := gItoa_of d hd
  have hj : okJ [[112, 117, 116], [99, 111, 117, 112, 108, 101, 114], Lib.itoa i, cn] [32] := ⟨by simp, by simp, by omega⟩
  have f3 : ∀ t fl σ, gJoin fl [.slice Tryz.prog.types[9].size [.str ([112, 117, 116]), .str ([99, 111, 117, 112, 108, 101, 114]), .str (Lib.itoa i), .str (cn)] t, .str [32]] σ = some (.str (Lib.join [[112, 117, 116], [99, 111, 117, 112, 108, 101, 114], Lib.itoa i, cn] [32]), σ) := fun t fl σ => gJoinOf (by kernel_rfl) rfl hj t fl σ
  have f4 : ∀ t fl σ, gJoin fl [.slice 1 [.str ([112, 117, 116]), .str ([99, 111, 117, 112, 108, 101, 114]), .str (Lib.itoa i), .str (cn)] t, .str [32]] σ = some (.str (Lib.join [[112, 117, 116], [99, 111, 117, 112, 108, 101, 114], Lib.itoa i, cn] [32]), σ) := fun t fl σ => gJoinOf rfl rfl hj t fl σ
  apply Run.bodyL h0 Tryz.func5 rfl
  focus (simp [show Tryz.f5.ntmps = _ from rfl, List.replicate]; rfl)
  have gx := And.intro @hW (And.intro @hW1 (And.intro @hI (And.intro @hJ (And.intro @f1 (And.intro @f2 (And.intro @f3 (@f4)))))))
  refine goA ?_
  clear gx
  exact ⟨_, _, rfl, rfl⟩

theorem r_Text_13 (h0 : E 5 = none) (d i : Int) (nm rn rt fn sn cn : List UInt8) (ra rb rf fl fh sa sb ca cb cs : Int) (fp ct : Bool) (wk sk gk : Nat) (W S G : List PD) (hl : nm.length ≤ 100000) : Run Tryz.prog E 5 [(.agg [.int .i64 13, .int .i64 d, .int .i64 i, .str nm, .str rn, .str rt, .int .i64 ra, .int .i64 rb, .int .i64 rf, .slice wk W .any, .str fn, .bool fp, .int .i64 fl, .int .i64 fh, .slice sk S .any, .str sn, .int .i64 sa, .int .i64 sb, .slice gk G .any, .str cn, .int .i64 ca, .int .i64 cb, .int .i64 cs, .bool ct])] (.tup [.str ([114, 101, 110, 97, 109, 101, 32] ++ nm), .int .i64 0]) := by
  apply Run.bodyL h0 Tryz.func5 rfl
  focus (simp [show Tryz.f5.ntmps = _ from rfl, List.replicate]; rfl)
  have gx := True.intro
  refine goA ?_
  clear gx
  exact ⟨_, _, rfl, rfl⟩

end
end Go.Kz

/-
  Chapter 51: edits of no kind, names that are too long, small functions.
-/
namespace Go.Kz
open Go Go.Proofs
set_option maxRecDepth 100000
set_option maxHeartbeats 4000000
section
variable {E : PExt} (hU : Uni E)
include hU

theorem r_Text_lo (h0 : E 5 = none) (k : Int) (d i : Int) (nm rn rt fn sn cn : List UInt8) (ra rb rf fl fh sa sb ca cb cs : Int) (fp ct : Bool) (wk sk gk : Nat) (W S G : List PD) (hk : k < 1) : Run Tryz.prog E 5 [(.agg [.int .i64 k, .int .i64 d, .int .i64 i, .str nm, .str rn, .str rt, .int .i64 ra, .int .i64 rb, .int .i64 rf, .slice wk W .any, .str fn, .bool fp, .int .i64 fl, .int .i64 fh, .slice sk S .any, .str sn, .int .i64 sa, .int .i64 sb, .slice gk G .any, .str cn, .int .i64 ca, .int .i64 cb, .int .i64 cs, .bool ct])] (.tup [.str [], .int .i64 12]) := by
  have g0 : k < 1 := by omega
  apply Run.bodyL h0 Tryz.func5 rfl
  focus (simp [show Tryz.f5.ntmps = _ from rfl, List.replicate]; rfl)
  have gx := @g0
  refine goA ?_
  clear gx
  exact ⟨_, _, rfl, rfl⟩

theorem r_Text_hi (h0 : E 5 = none) (k : Int) (d i : Int) (nm rn rt fn sn cn : List UInt8) (ra rb rf fl fh sa sb ca cb cs : Int) (fp ct : Bool) (wk sk gk : Nat) (W S G : List PD) (hk : 13 < k) : Run Tryz.prog E 5 [(.agg [.int .i64 k, .int .i64 d, .int .i64 i, .str nm, .str rn, .str rt, .int .i64 ra, .int .i64 rb, .int .i64 rf, .slice wk W .any, .str fn, .bool fp, .int .i64 fl, .int .i64 fh, .slice sk S .any, .str sn, .int .i64 sa, .int .i64 sb, .slice gk G .any, .str cn, .int .i64 ca, .int .i64 cb, .int .i64 cs, .bool ct])] (.tup [.str [], .int .i64 12]) := by
  have g0 : ¬ k < 1 := by omega
  have g1 : 13 < k := by omega
  apply Run.bodyL h0 Tryz.func5 rfl
  focus (simp [show Tryz.f5.ntmps = _ from rfl, List.replicate]; rfl)
  have gx := And.intro @g0 (@g1)
  refine goA ?_
  clear gx
  exact ⟨_, _, rfl, rfl⟩

theorem r_Law_lo (k : Int) (d i : Int) (nm rn rt fn sn cn : List UInt8) (ra rb rf fl fh sa sb ca cb cs : Int) (fp ct : Bool) (wk sk gk : Nat) (W S G : List PD) (h0 : E 3 = none) (hk : E 4 = some (entry (gf0 Em.bool (some true)))) {gT gO : Nat → List PD → List SObj → Option (PD × List SObj)} (hT : E 5 = some gT) (hT1 : ∀ fl0 σ, gT fl0 [(.agg [.int .i64 k, .int .i64 d, .int .i64 i, .str nm, .str rn, .str rt, .int .i64 ra, .int .i64 rb, .int .i64 rf, .slice wk W .any, .str fn, .bool fp, .int .i64 fl, .int .i64 fh, .slice sk S .any, .str sn, .int .i64 sa, .int .i64 sb, .slice gk G .any, .str cn, .int .i64 ca, .int .i64 cb, .int .i64 cs, .bool ct])] σ = some (.tup [.str [], .int .i64 12], σ)) (hs : nm.length + rn.length + fn.length + sn.length + cn.length ≤ 60) (hc : k < 1) : Run Tryz.prog E 3 [(.agg [.int .i64 k, .int .i64 d, .int .i64 i, .str nm, .str rn, .str rt, .int .i64 ra, .int .i64 rb, .int .i64 rf, .slice wk W .any, .str fn, .bool fp, .int .i64 fl, .int .i64 fh, .slice sk S .any, .str sn, .int .i64 sa, .int .i64 sb, .slice gk G .any, .str cn, .int .i64 ca, .int .i64 cb, .int .i64 cs, .bool ct])] (Em.bool.emb true) := by
  have s1 : ¬ (60 : Int) < nm.length + rn.length + fn.length + sn.length + cn.length := by omega
  have g0 : k < 1 := by omega
  apply Run.bodyL h0 Tryz.func3 rfl
  focus (simp [show Tryz.f3.ntmps = _ from rfl, List.replicate]; rfl)
  have gx := And.intro @hk (And.intro @hT (And.intro @hT1 (And.intro @s1 (@g0))))
  refine goA ?_
  clear gx
  exact ⟨_, _, rfl, rfl⟩

theorem r_Law_hi (k : Int) (d i : Int) (nm rn rt fn sn cn : List UInt8) (ra rb rf fl fh sa sb ca cb cs : Int) (fp ct : Bool) (wk sk gk : Nat) (W S G : List PD) (h0 : E 3 = none) (hk : E 4 = some (entry (gf0 Em.bool (some true)))) {gT gO : Nat → List PD → List SObj → Option (PD × List SObj)} (hT : E 5 = some gT) (hT1 : ∀ fl0 σ, gT fl0 [(.agg [.int .i64 k, .int .i64 d, .int .i64 i, .str nm, .str rn, .str rt, .int .i64 ra, .int .i64 rb, .int .i64 rf, .slice wk W .any, .str fn, .bool fp, .int .i64 fl, .int .i64 fh, .slice sk S .any, .str sn, .int .i64 sa, .int .i64 sb, .slice gk G .any, .str cn, .int .i64 ca, .int .i64 cb, .int .i64 cs, .bool ct])] σ = some (.tup [.str [], .int .i64 12], σ)) (hs : nm.length + rn.length + fn.length + sn.length + cn.length ≤ 60) (hc : 13 < k) : Run Tryz.prog E 3 [(.agg [.int .i64 k, .int .i64 d, .int .i64 i, .str nm, .str rn, .str rt, .int .i64 ra, .int .i64 rb, .int .i64 rf, .slice wk W .any, .str fn, .bool fp, .int .i64 fl, .int .i64 fh, .slice sk S .any, .str sn, .int .i64 sa, .int .i64 sb, .slice gk G .any, .str cn, .int .i64 ca, .int .i64 cb, .int .i64 cs, .bool ct])] (Em.bool.emb true) := by
  have s1 : ¬ (60 : Int) < nm.length + rn.length + fn.length + sn.length + cn.length := by omega
  have g0 : ¬ k < 1 := by omega
  have g1 : 13 < k := by omega
  apply Run.bodyL h0 Tryz.func3 rfl
  focus (simp [show Tryz.f3.ntmps = _ from rfl, List.replicate]; rfl)
  have gx := And.intro @hk (And.intro @hT (And.intro @hT1 (And.intro @s1 (And.intro @g0 (@g1)))))
  refine goA ?_
  clear gx
  exact ⟨_, _, rfl, rfl⟩

theorem r_Law_long (k : Int) (d i : Int) (nm rn rt fn sn cn : List UInt8) (ra rb rf fl fh sa sb ca cb cs : Int) (fp ct : Bool) (wk sk gk : Nat) (W S G : List PD) (h0 : E 3 = none) (hk : E 4 = some (entry (gf0 Em.bool (some true)))) (h1 : nm.length ≤ 140737488355328 ∧ rn.length ≤ 140737488355328 ∧ fn.length ≤ 140737488355328 ∧ sn.length ≤ 140737488355328 ∧ cn.length ≤ 140737488355328) (hs : ¬ nm.length + rn.length + fn.length + sn.length + cn.length ≤ 60) : Run Tryz.prog E 3 [(.agg [.int .i64 k, .int .i64 d, .int .i64 i, .str nm, .str rn, .str rt, .int .i64 ra, .int .i64 rb, .int .i64 rf, .slice wk W .any, .str fn, .bool fp, .int .i64 fl, .int .i64 fh, .slice sk S .any, .str sn, .int .i64 sa, .int .i64 sb, .slice gk G .any, .str cn, .int .i64 ca, .int .i64 cb, .int .i64 cs, .bool ct])] (Em.bool.emb true) := by
  have s1 : (60 : Int) < nm.length + rn.length + fn.length + sn.length + cn.length := by omega
  apply Run.bodyL h0 Tryz.func3 rfl
  focus (simp [show Tryz.f3.ntmps = _ from rfl, List.replicate]; rfl)
  have gx := And.intro @hk (@s1)
  refine goA ?_
  clear gx
  exact ⟨_, _, rfl, rfl⟩

theorem r_what_1 (h0 : E 10 = none) (d i : Int) (nm rn rt fn sn cn : List UInt8) (ra rb rf fl fh sa sb ca cb cs : Int) (fp ct : Bool) (wk sk gk : Nat) (W S G : List PD) : Run Tryz.prog E 10 [(.agg [.int .i64 1, .int .i64 d, .int .i64 i, .str nm, .str rn, .str rt, .int .i64 ra, .int .i64 rb, .int .i64 rf, .slice wk W .any, .str fn, .bool fp, .int .i64 fl, .int .i64 fh, .slice sk S .any, .str sn, .int .i64 sa, .int .i64 sb, .slice gk G .any, .str cn, .int .i64 ca, .int .i64 cb, .int .i64 cs, .bool ct])] (.tup [.int .i64 0, .int .i64 0]) := by
  apply Run.bodyL h0 Tryz.func10 rfl
  focus (simp [show Tryz.f10.ntmps = _ from rfl, List.replicate]; rfl)
  have gx := True.intro
  refine goA ?_
  clear gx
  exact ⟨_, _, rfl, rfl⟩

theorem r_object_1 (h0 : E 6 = none) (d i : Int) (nm rn rt fn sn cn : List UInt8) (ra rb rf fl fh sa sb ca cb cs : Int) (fp ct : Bool) (wk sk gk : Nat) (W S G : List PD) : Run Tryz.prog E 6 [(.agg [.int .i64 1, .int .i64 d, .int .i64 i, .str nm, .str rn, .str rt, .int .i64 ra, .int .i64 rb, .int .i64 rf, .slice wk W .any, .str fn, .bool fp, .int .i64 fl, .int .i64 fh, .slice sk S .any, .str sn, .int .i64 sa, .int .i64 sb, .slice gk G .any, .str cn, .int .i64 ca, .int .i64 cb, .int .i64 cs, .bool ct])] (.tup [.int .i64 0, .int .i64 0]) := by
  apply Run.bodyL h0 Tryz.func6 rfl
  focus (simp [show Tryz.f6.ntmps = _ from rfl, List.replicate]; rfl)
  have gx := True.intro
  refine goA ?_
  clear gx
  exact ⟨_, _, rfl, rfl⟩

theorem r_what_2 (h0 : E 10 = none) (d i : Int) (nm rn rt fn sn cn : List UInt8) (ra rb rf fl fh sa sb ca cb cs : Int) (fp ct : Bool) (wk sk gk : Nat) (W S G : List PD) : Run Tryz.prog E 10 [(.agg [.int .i64 2, .int .i64 d, .int .i64 i, .str nm, .str rn, .str rt, .int .i64 ra, .int .i64 rb, .int .i64 rf, .slice wk W .any, .str fn, .bool fp, .int .i64 fl, .int .i64 fh, .slice sk S .any, .str sn, .int .i64 sa, .int .i64 sb, .slice gk G .any, .str cn, .int .i64 ca, .int .i64 cb, .int .i64 cs, .bool ct])] (.tup [.int .i64 0, .int .i64 1]) := by
  apply Run.bodyL h0 Tryz.func10 rfl
  focus (simp [show Tryz.f10.ntmps = _ from rfl, List.replicate]; rfl)
  have gx := True.intro
  refine goA ?_
  clear gx
  exact ⟨_, _, rfl, rfl⟩

theorem r_object_2 (h0 : E 6 = none) (d i : Int) (nm rn rt fn sn cn : List UInt8) (ra rb rf fl fh sa sb ca cb cs : Int) (fp ct : Bool) (wk sk gk : Nat) (W S G : List PD) : Run Tryz.prog E 6 [(.agg [.int .i64 2, .int .i64 d, .int .i64 i, .str nm, .str rn, .str rt, .int .i64 ra, .int .i64 rb, .int .i64 rf, .slice wk W .any, .str fn, .bool fp, .int .i64 fl, .int .i64 fh, .slice sk S .any, .str sn, .int .i64 sa, .int .i64 sb, .slice gk G .any, .str cn, .int .i64 ca, .int .i64 cb, .int .i64 cs, .bool ct])] (.tup [.int .i64 0, .int .i64 1]) := by
  apply Run.bodyL h0 Tryz.func6 rfl
  focus (simp [show Tryz.f6.ntmps = _ from rfl, List.replicate]; rfl)
  have gx := True.intro
  refine goA ?_
  clear gx
  exact ⟨_, _, rfl, rfl⟩

theorem r_what_3 (h0 : E 10 = none) (d i : Int) (nm rn rt fn sn cn : List UInt8) (ra rb rf fl fh sa sb ca cb cs : Int) (fp ct : Bool) (wk sk gk : Nat) (W S G : List PD) : Run Tryz.prog E 10 [(.agg [.int .i64 3, .int .i64 d, .int .i64 i, .str nm, .str rn, .str rt, .int .i64 ra, .int .i64 rb, .int .i64 rf, .slice wk W .any, .str fn, .bool fp, .int .i64 fl, .int .i64 fh, .slice sk S .any, .str sn, .int .i64 sa, .int .i64 sb, .slice gk G .any, .str cn, .int .i64 ca, .int .i64 cb, .int .i64 cs, .bool ct])] (.tup [.int .i64 0, .int .i64 2]) := by
  apply Run.bodyL h0 Tryz.func10 rfl
  focus (simp [show Tryz.f10.ntmps = _ from rfl, List.replicate]; rfl)
  have gx := True.intro
  refine goA ?_
  clear gx
  exact ⟨_, _, rfl, rfl⟩

theorem r_object_3 (h0 : E 6 = none) (d i : Int) (nm rn rt fn sn cn : List UInt8) (ra rb rf fl fh sa sb ca cb cs : Int) (fp ct : Bool) (wk sk gk : Nat) (W S G : List PD) : Run Tryz.prog E 6 [(.agg [.int .i64 3, .int .i64 d, .int .i64 i, .str nm, .str rn, .str rt, .int .i64 ra, .int .i64 rb, .int .i64 rf, .slice wk W .any, .str fn, .bool fp, .int .i64 fl, .int .i64 fh, .slice sk S .any, .str sn, .int .i64 sa, .int .i64 sb, .slice gk G .any, .str cn, .int .i64 ca, .int .i64 cb, .int .i64 cs, .bool ct])] (.tup [.int .i64 0, .int .i64 2]) := by
  apply Run.bodyL h0 Tryz.func6 rfl
  focus (simp [show Tryz.f6.ntmps = _ from rfl, List.replicate]; rfl)
  have gx := True.intro
  refine goA ?_
  clear gx
  exact ⟨_, _, rfl, rfl⟩

theorem r_what_4 (h0 : E 10 = none) (d i : Int) (nm rn rt fn sn cn : List UInt8) (ra rb rf fl fh sa sb ca cb cs : Int) (fp ct : Bool) (wk sk gk : Nat) (W S G : List PD) : Run Tryz.prog E 10 [(.agg [.int .i64 4, .int .i64 d, .int .i64 i, .str nm, .str rn, .str rt, .int .i64 ra, .int .i64 rb, .int .i64 rf, .slice wk W .any, .str fn, .bool fp, .int .i64 fl, .int .i64 fh, .slice sk S .any, .str sn, .int .i64 sa, .int .i64 sb, .slice gk G .any, .str cn, .int .i64 ca, .int .i64 cb, .int .i64 cs, .bool ct])] (.tup [.int .i64 1, .int .i64 0]) := by
  apply Run.bodyL h0 Tryz.func10 rfl
  focus (simp [show Tryz.f10.ntmps = _ from rfl, List.replicate]; rfl)
  have gx := True.intro
  refine goA ?_
  clear gx
  exact ⟨_, _, rfl, rfl⟩

theorem r_object_4 (h0 : E 6 = none) (d i : Int) (nm rn rt fn sn cn : List UInt8) (ra rb rf fl fh sa sb ca cb cs : Int) (fp ct : Bool) (wk sk gk : Nat) (W S G : List PD) : Run Tryz.prog E 6 [(.agg [.int .i64 4, .int .i64 d, .int .i64 i, .str nm, .str rn, .str rt, .int .i64 ra, .int .i64 rb, .int .i64 rf, .slice wk W .any, .str fn, .bool fp, .int .i64 fl, .int .i64 fh, .slice sk S .any, .str sn, .int .i64 sa, .int .i64 sb, .slice gk G .any, .str cn, .int .i64 ca, .int .i64 cb, .int .i64 cs, .bool ct])] (.tup [.int .i64 1, .int .i64 0]) := by
  apply Run.bodyL h0 Tryz.func6 rfl
  focus (simp [show Tryz.f6.ntmps = _ from rfl, List.replicate]; rfl)
  have gx := True.intro
  refine goA ?_
  clear gx
  exact ⟨_, _, rfl, rfl⟩

theorem r_what_5 (h0 : E 10 = none) (d i : Int) (nm rn rt fn sn cn : List UInt8) (ra rb rf fl fh sa sb ca cb cs : Int) (fp ct : Bool) (wk sk gk : Nat) (W S G : List PD) : Run Tryz.prog E 10 [(.agg [.int .i64 5, .int .i64 d, .int .i64 i, .str nm, .str rn, .str rt, .int .i64 ra, .int .i64 rb, .int .i64 rf, .slice wk W .any, .str fn, .bool fp, .int .i64 fl, .int .i64 fh, .slice sk S .any, .str sn, .int .i64 sa, .int .i64 sb, .slice gk G .any, .str cn, .int .i64 ca, .int .i64 cb, .int .i64 cs, .bool ct])] (.tup [.int .i64 1, .int .i64 1]) := by
  apply Run.bodyL h0 Tryz.func10 rfl
  focus (simp [show Tryz.f10.ntmps = _ from rfl, List.replicate]; rfl)
  have gx := True.intro
  refine goA ?_
  clear gx
  exact ⟨_, _, rfl, rfl⟩

theorem r_object_5 (h0 : E 6 = none) (d i : Int) (nm rn rt fn sn cn : List UInt8) (ra rb rf fl fh sa sb ca cb cs : Int) (fp ct : Bool) (wk sk gk : Nat) (W S G : List PD) : Run Tryz.prog E 6 [(.agg [.int .i64 5, .int .i64 d, .int .i64 i, .str nm, .str rn, .str rt, .int .i64 ra, .int .i64 rb, .int .i64 rf, .slice wk W .any, .str fn, .bool fp, .int .i64 fl, .int .i64 fh, .slice sk S .any, .str sn, .int .i64 sa, .int .i64 sb, .slice gk G .any, .str cn, .int .i64 ca, .int .i64 cb, .int .i64 cs, .bool ct])] (.tup [.int .i64 1, .int .i64 1]) := by
  apply Run.bodyL h0 Tryz.func6 rfl
  focus (simp [show Tryz.f6.ntmps = _ from rfl, List.replicate]; rfl)
  have gx := True.intro
  refine goA ?_
  clear gx
  exact ⟨_, _, rfl, rfl⟩

theorem r_what_6 (h0 : E 10 = none) (d i : Int) (nm rn rt fn sn cn : List UInt8) (ra rb rf fl fh sa sb ca cb cs : Int) (fp ct : Bool) (wk sk gk : Nat) (W S G : List PD) : Run Tryz.prog E 10 [(.agg [.int .i64 6, .int .i64 d, .int .i64 i, .str nm, .str rn, .str rt, .int .i64 ra, .int .i64 rb, .int .i64 rf, .slice wk W .any, .str fn, .bool fp, .int .i64 fl, .int .i64 fh, .slice sk S .any, .str sn, .int .i64 sa, .int .i64 sb, .slice gk G .any, .str cn, .int .i64 ca, .int .i64 cb, .int .i64 cs, .bool ct])] (.tup [.int .i64 1, .int .i64 2]) := by
  apply Run.bodyL h0 Tryz.func10 rfl
  focus (simp [show Tryz.f10.ntmps = _ from rfl, List.replicate]; rfl)
  have gx := True.intro
  refine goA ?_
  clear gx
  exact ⟨_, _, rfl, rfl⟩

theorem r_object_6 (h0 : E 6 = none) (d i : Int) (nm rn rt fn sn cn : List UInt8) (ra rb rf fl fh sa sb ca cb cs : Int) (fp ct : Bool) (wk sk gk : Nat) (W S G : List PD) : Run Tryz.prog E 6 [(.agg [.int .i64 6, .int .i64 d, .int .i64 i, .str nm, .str rn, .str rt, .int .i64 ra, .int .i64 rb, .int .i64 rf, .slice wk W .any, .str fn, .bool fp, .int .i64 fl, .int .i64 fh, .slice sk S .any, .str sn, .int .i64 sa, .int .i64 sb, .slice gk G .any, .str cn, .int .i64 ca, .int .i64 cb, .int .i64 cs, .bool ct])] (.tup [.int .i64 1, .int .i64 2]) := by
  apply Run.bodyL h0 Tryz.func6 rfl
  focus (simp [show Tryz.f6.ntmps = _ from rfl, List.replicate]; rfl)
  have gx := True.intro
  refine goA ?_
  clear gx
  exact ⟨_, _, rfl, rfl⟩

theorem r_what_7 (h0 : E 10 = none) (d i : Int) (nm rn rt fn sn cn : List UInt8) (ra rb rf fl fh sa sb ca cb cs : Int) (fp ct : Bool) (wk sk gk : Nat) (W S G : List PD) : Run Tryz.prog E 10 [(.agg [.int .i64 7, .int .i64 d, .int .i64 i, .str nm, .str rn, .str rt, .int .i64 ra, .int .i64 rb, .int .i64 rf, .slice wk W .any, .str fn, .bool fp, .int .i64 fl, .int .i64 fh, .slice sk S .any, .str sn, .int .i64 sa, .int .i64 sb, .slice gk G .any, .str cn, .int .i64 ca, .int .i64 cb, .int .i64 cs, .bool ct])] (.tup [.int .i64 2, .int .i64 0]) := by
  apply Run.bodyL h0 Tryz.func10 rfl
  focus (simp [show Tryz.f10.ntmps = _ from rfl, List.replicate]; rfl)
  have gx := True.intro
  refine goA ?_
  clear gx
  exact ⟨_, _, rfl, rfl⟩

theorem r_object_7 (h0 : E 6 = none) (d i : Int) (nm rn rt fn sn cn : List UInt8) (ra rb rf fl fh sa sb ca cb cs : Int) (fp ct : Bool) (wk sk gk : Nat) (W S G : List PD) : Run Tryz.prog E 6 [(.agg [.int .i64 7, .int .i64 d, .int .i64 i, .str nm, .str rn, .str rt, .int .i64 ra, .int .i64 rb, .int .i64 rf, .slice wk W .any, .str fn, .bool fp, .int .i64 fl, .int .i64 fh, .slice sk S .any, .str sn, .int .i64 sa, .int .i64 sb, .slice gk G .any, .str cn, .int .i64 ca, .int .i64 cb, .int .i64 cs, .bool ct])] (.tup [.int .i64 2, .int .i64 0]) := by
  apply Run.bodyL h0 Tryz.func6 rfl
  focus (simp [show Tryz.f6.ntmps = _ from rfl, List.replicate]; rfl)
  have gx := True.intro
  refine goA ?_
  clear gx
  exact ⟨_, _, rfl, rfl⟩

theorem r_what_8 (h0 : E 10 = none) (d i : Int) (nm rn rt fn sn cn : List UInt8) (ra rb rf fl fh sa sb ca cb cs : Int) (fp ct : Bool) (wk sk gk : Nat) (W S G : List PD) : Run Tryz.prog E 10 [(.agg [.int .i64 8, .int .i64 d, .int .i64 i, .str nm, .str rn, .str rt, .int .i64 ra, .int .i64 rb, .int .i64 rf, .slice wk W .any, .str fn, .bool fp, .int .i64 fl, .int .i64 fh, .slice sk S .any, .str sn, .int .i64 sa, .int .i64 sb, .slice gk G .any, .str cn, .int .i64 ca, .int .i64 cb, .int .i64 cs, .bool ct])] (.tup [.int .i64 2, .int .i64 1]) := by
  apply Run.bodyL h0 Tryz.func10 rfl
  focus (simp [show Tryz.f10.ntmps = _ from rfl, List.replicate]; rfl)
  have gx := True.intro
  refine goA ?_
  clear gx
  exact ⟨_, _, rfl, rfl⟩

theorem r_object_8 (h0 : E 6 = none) (d i : Int) (nm rn rt fn sn cn : List UInt8) (ra rb rf fl fh sa sb ca cb cs : Int) (fp ct : Bool) (wk sk gk : Nat) (W S G : List PD) : Run Tryz.prog E 6 [(.agg [.int .i64 8, .int .i64 d, .int .i64 i, .str nm, .str rn, .str rt, .int .i64 ra, .int .i64 rb, .int .i64 rf, .slice wk W .any, .str fn, .bool fp, .int .i64 fl, .int .i64 fh, .slice sk S .any, .str sn, .int .i64 sa, .int .i64 sb, .slice gk G .any, .str cn, .int .i64 ca, .int .i64 cb, .int .i64 cs, .bool ct])] (.tup [.int .i64 2, .int .i64 1]) := by
  apply Run.bodyL h0 Tryz.func6 rfl
  focus (simp [show Tryz.f6.ntmps = _ from rfl, List.replicate]; rfl)
  have gx := True.intro
  refine goA ?_
  clear gx
  exact ⟨_, _, rfl, rfl⟩

theorem r_what_9 (h0 : E 10 = none) (d i : Int) (nm rn rt fn sn cn : List UInt8) (ra rb rf fl fh sa sb ca cb cs : Int) (fp ct : Bool) (wk sk gk : Nat) (W S G : List PD) : Run Tryz.prog E 10 [(.agg [.int .i64 9, .int .i64 d, .int .i64 i, .str nm, .str rn, .str rt, .int .i64 ra, .int .i64 rb, .int .i64 rf, .slice wk W .any, .str fn, .bool fp, .int .i64 fl, .int .i64 fh, .slice sk S .any, .str sn, .int .i64 sa, .int .i64 sb, .slice gk G .any, .str cn, .int .i64 ca, .int .i64 cb, .int .i64 cs, .bool ct])] (.tup [.int .i64 2, .int .i64 2]) := by
  apply Run.bodyL h0 Tryz.func10 rfl
  focus (simp [show Tryz.f10.ntmps = _ from rfl, List.replicate]; rfl)
  have gx := True.intro
  refine goA ?_
  clear gx
  exact ⟨_, _, rfl, rfl⟩

theorem r_object_9 (h0 : E 6 = none) (d i : Int) (nm rn rt fn sn cn : List UInt8) (ra rb rf fl fh sa sb ca cb cs : Int) (fp ct : Bool) (wk sk gk : Nat) (W S G : List PD) : Run Tryz.prog E 6 [(.agg [.int .i64 9, .int .i64 d, .int .i64 i, .str nm, .str rn, .str rt, .int .i64 ra, .int .i64 rb, .int .i64 rf, .slice wk W .any, .str fn, .bool fp, .int .i64 fl, .int .i64 fh, .slice sk S .any, .str sn, .int .i64 sa, .int .i64 sb, .slice gk G .any, .str cn, .int .i64 ca, .int .i64 cb, .int .i64 cs, .bool ct])] (.tup [.int .i64 2, .int .i64 2]) := by
  apply Run.bodyL h0 Tryz.func6 rfl
  focus (simp [show Tryz.f6.ntmps = _ from rfl, List.replicate]; rfl)
  have gx := True.intro
  refine goA ?_
  clear gx
  exact ⟨_, _, rfl, rfl⟩

theorem r_what_10 (h0 : E 10 = none) (d i : Int) (nm rn rt fn sn cn : List UInt8) (ra rb rf fl fh sa sb ca cb cs : Int) (fp ct : Bool) (wk sk gk : Nat) (W S G : List PD) : Run Tryz.prog E 10 [(.agg [.int .i64 10, .int .i64 d, .int .i64 i, .str nm, .str rn, .str rt, .int .i64 ra, .int .i64 rb, .int .i64 rf, .slice wk W .any, .str fn, .bool fp, .int .i64 fl, .int .i64 fh, .slice sk S .any, .str sn, .int .i64 sa, .int .i64 sb, .slice gk G .any, .str cn, .int .i64 ca, .int .i64 cb, .int .i64 cs, .bool ct])] (.tup [.int .i64 3, .int .i64 0]) := by
  apply Run.bodyL h0 Tryz.func10 rfl
  focus (simp [show Tryz.f10.ntmps = _ from rfl, List.replicate]; rfl)
  have gx := True.intro
  refine goA ?_
  clear gx
  exact ⟨_, _, rfl, rfl⟩

theorem r_object_10 (h0 : E 6 = none) (d i : Int) (nm rn rt fn sn cn : List UInt8) (ra rb rf fl fh sa sb ca cb cs : Int) (fp ct : Bool) (wk sk gk : Nat) (W S G : List PD) : Run Tryz.prog E 6 [(.agg [.int .i64 10, .int .i64 d, .int .i64 i, .str nm, .str rn, .str rt, .int .i64 ra, .int .i64 rb, .int .i64 rf, .slice wk W .any, .str fn, .bool fp, .int .i64 fl, .int .i64 fh, .slice sk S .any, .str sn, .int .i64 sa, .int .i64 sb, .slice gk G .any, .str cn, .int .i64 ca, .int .i64 cb, .int .i64 cs, .bool ct])] (.tup [.int .i64 3, .int .i64 0]) := by
  apply Run.bodyL h0 Tryz.func6 rfl
  focus (simp [show Tryz.f6.ntmps = _ from rfl, List.replicate]; rfl)
  have gx := True.intro
  refine goA ?_
  clear gx
  exact ⟨_, _, rfl, rfl⟩

theorem r_what_11 (h0 : E 10 = none) (d i : Int) (nm rn rt fn sn cn : List UInt8) (ra rb rf fl fh sa sb ca cb cs : Int) (fp ct : Bool) (wk sk gk : Nat) (W S G : List PD) : Run Tryz.prog E 10 [(.agg [.int .i64 11, .int .i64 d, .int .i64 i, .str nm, .str rn, .str rt, .int .i64 ra, .int .i64 rb, .int .i64 rf, .slice wk W .any, .str fn, .bool fp, .int .i64 fl, .int .i64 fh, .slice sk S .any, .str sn, .int .i64 sa, .int .i64 sb, .slice gk G .any, .str cn, .int .i64 ca, .int .i64 cb, .int .i64 cs, .bool ct])] (.tup [.int .i64 3, .int .i64 1]) := by
  apply Run.bodyL h0 Tryz.func10 rfl
  focus (simp [show Tryz.f10.ntmps = _ from rfl, List.replicate]; rfl)
  have gx := True.intro
  refine goA ?_
  clear gx
  exact ⟨_, _, rfl, rfl⟩

theorem r_object_11 (h0 : E 6 = none) (d i : Int) (nm rn rt fn sn cn : List UInt8) (ra rb rf fl fh sa sb ca cb cs : Int) (fp ct : Bool) (wk sk gk : Nat) (W S G : List PD) : Run Tryz.prog E 6 [(.agg [.int .i64 11, .int .i64 d, .int .i64 i, .str nm, .str rn, .str rt, .int .i64 ra, .int .i64 rb, .int .i64 rf, .slice wk W .any, .str fn, .bool fp, .int .i64 fl, .int .i64 fh, .slice sk S .any, .str sn, .int .i64 sa, .int .i64 sb, .slice gk G .any, .str cn, .int .i64 ca, .int .i64 cb, .int .i64 cs, .bool ct])] (.tup [.int .i64 3, .int .i64 1]) := by
  apply Run.bodyL h0 Tryz.func6 rfl
  focus (simp [show Tryz.f6.ntmps = _ from rfl, List.replicate]; rfl)
  have gx := True.intro
  refine goA ?_
  clear gx
  exact ⟨_, _, rfl, rfl⟩

theorem r_what_12 (h0 : E 10 = none) (d i : Int) (nm rn rt fn sn cn : List UInt8) (ra rb rf fl fh sa sb ca cb cs : Int) (fp ct : Bool) (wk sk gk : Nat) (W S G : List PD) : Run Tryz.prog E 10 [(.agg [.int .i64 12, .int .i64 d, .int .i64 i, .str nm, .str rn, .str rt, .int .i64 ra, .int .i64 rb, .int .i64 rf, .slice wk W .any, .str fn, .bool fp, .int .i64 fl, .int .i64 fh, .slice sk S .any, .str sn, .int .i64 sa, .int .i64 sb, .slice gk G .any, .str cn, .int .i64 ca, .int .i64 cb, .int .i64 cs, .bool ct])] (.tup [.int .i64 3, .int .i64 2]) := by
  apply Run.bodyL h0 Tryz.func10 rfl
  focus (simp [show Tryz.f10.ntmps = _ from rfl, List.replicate]; rfl)
  have gx := True.intro
  refine goA ?_
  clear gx
  exact ⟨_, _, rfl, rfl⟩

theorem r_object_12 (h0 : E 6 = none) (d i : Int) (nm rn rt fn sn cn : List UInt8) (ra rb rf fl fh sa sb ca cb cs : Int) (fp ct : Bool) (wk sk gk : Nat) (W S G : List PD) : Run Tryz.prog E 6 [(.agg [.int .i64 12, .int .i64 d, .int .i64 i, .str nm, .str rn, .str rt, .int .i64 ra, .int .i64 rb, .int .i64 rf, .slice wk W .any, .str fn, .bool fp, .int .i64 fl, .int .i64 fh, .slice sk S .any, .str sn, .int .i64 sa, .int .i64 sb, .slice gk G .any, .str cn, .int .i64 ca, .int .i64 cb, .int .i64 cs, .bool ct])] (.tup [.int .i64 3, .int .i64 2]) := by
  apply Run.bodyL h0 Tryz.func6 rfl
  focus (simp [show Tryz.f6.ntmps = _ from rfl, List.replicate]; rfl)
  have gx := True.intro
  refine goA ?_
  clear gx
  exact ⟨_, _, rfl, rfl⟩

theorem r_object_13 (h0 : E 6 = none) (d i : Int) (nm rn rt fn sn cn : List UInt8) (ra rb rf fl fh sa sb ca cb cs : Int) (fp ct : Bool) (wk sk gk : Nat) (W S G : List PD) : Run Tryz.prog E 6 [(.agg [.int .i64 13, .int .i64 d, .int .i64 i, .str nm, .str rn, .str rt, .int .i64 ra, .int .i64 rb, .int .i64 rf, .slice wk W .any, .str fn, .bool fp, .int .i64 fl, .int .i64 fh, .slice sk S .any, .str sn, .int .i64 sa, .int .i64 sb, .slice gk G .any, .str cn, .int .i64 ca, .int .i64 cb, .int .i64 cs, .bool ct])] (.tup [.int .i64 4, .int .i64 0]) := by
  apply Run.bodyL h0 Tryz.func6 rfl
  focus (simp [show Tryz.f6.ntmps = _ from rfl, List.replicate]; rfl)
  have gx := True.intro
  refine goA ?_
  clear gx
  exact ⟨_, _, rfl, rfl⟩

end
end Go.Kz
