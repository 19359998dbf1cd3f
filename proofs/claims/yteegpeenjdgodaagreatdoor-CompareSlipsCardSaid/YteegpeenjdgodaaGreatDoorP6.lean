/-
  Part P6 of the way: an interpreter over pure data, its soundness, walks through functions.
-/
import Derived.Test.YteegpeenjdgodaaGreatDoorP5
import Derived.Test.YteegpeenjdgodaaGreatDoorP8
import Derived.Test.YteegpeenjdgodaaGreatDoorP4
set_option linter.all false

/-
  Layer 15: stops.
-/
namespace Go.Kz
open Go Go.Proofs
set_option maxRecDepth 100000
set_option maxHeartbeats 4000000
def EmC.place : EmC (List RankD × Int × Int) := ((EmC.one ranks).pair ((EmC.one i64).pair (.one i64))).iso (fun r => (r.1, r.2.1, r.2.2)) (fun x y h => by obtain ⟨_, _, _⟩ := x; obtain ⟨_, _, _⟩ := y; simpa using h)
def Em.place : Em (List RankD × Int × Int) := .agg .place
@[simp] theorem emb_place {r : List RankD × Int × Int} : Em.place.emb r = .agg [ranks.emb r.1, .int .i64 r.2.1, .int .i64 r.2.2] := rfl
variable {E : PExt} (hU : Uni E)
include hU
end Go.Kz

/-
  Layer 16: where a coupler with a name lies.
-/
namespace Go.Kz
open Go Go.Proofs
set_option maxRecDepth 100000
set_option maxHeartbeats 4000000
variable {E : PExt} (hU : Uni E)
include hU
omit hU in
def coupL : List PD → Option (List CoupD)
  | [] => some []
  | .agg [.str n, .int .i64 a, .int .i64 b, .int .i64 c, .bool t] :: r => match coupL r with | some l => some (⟨n, a, b, c, t⟩ :: l) | none => none
  | _ => none
omit hU in
@[simp] theorem coupL_emb : ∀ l : List CoupD, coupL (l.map Em.coup.emb) = some l
  | [] => rfl
  | x :: l => by
    show coupL (.agg [.str x.name, .int .i64 x.org, .int .i64 x.dst, .int .i64 x.shift, .bool x.thr] :: l.map Em.coup.emb) = _
    simp only [coupL, coupL_emb l]
end Go.Kz

/-
  Layer 16: coupler.Check.
-/
namespace Go.Kz
open Go Go.Proofs
set_option maxRecDepth 100000
set_option maxHeartbeats 4000000
variable {E : PExt} (hU : Uni E)
include hU
end Go.Kz

/-
  Layer 18: names that must be new.
-/
namespace Go.Kz
open Go Go.Proofs
set_option maxRecDepth 100000
set_option maxHeartbeats 4000000
def mapE (ns : List (List UInt8)) : List (PD × PD) := ns.map fun n => (.str n, .bool true)
variable {E : PExt} (hU : Uni E)
include hU
omit hU in
def namesL : List (PD × PD) → Option (List (List UInt8))
  | [] => some []
  | (.str n, .bool true) :: r => match namesL r with | some l => some (n :: l) | none => none
  | _ => none
omit hU in
@[simp] theorem namesL_map : ∀ l : List (List UInt8), namesL (mapE l) = some l
  | [] => rfl
  | n :: l => by
    show namesL ((.str n, .bool true) :: mapE l) = _
    simp only [namesL, namesL_map l]
end Go.Kz

/-
  Layer 18: a division behind its name.
-/
namespace Go.Kz
open Go Go.Proofs
set_option maxRecDepth 100000
set_option maxHeartbeats 4000000
-- %maps
variable {E : PExt} (hU : Uni E)
include hU
end Go.Kz

/-
  Layer 14: the rank of a plan, walked.
-/
namespace Go.Kz
open Go Go.Proofs
set_option maxRecDepth 100000
set_option maxHeartbeats 4000000
theorem tone_at (n : Int) (h : okU8 n) : pindexAddr Tryz.prog 96 (.slice 1 [.str [79, 112, 101, 110], .str [70, 108, 117, 116, 101], .str [82, 101, 101, 100]] .full) (.int .u8 (n.tmod 3)) = some (.eptr [.str (toneAt n)] 0) := by
  obtain ⟨k, rfl⟩ : ∃ k : Nat, n = k := ⟨n.toNat, by have := h.1; omega⟩
  have hm : (k : Int).tmod 3 = ((k % 3 : Nat) : Int) := rfl
  have hs : toneAt k = tones.getD (k % 3) [] := by
    unfold toneAt
    congr 1
  rw [hm, hs]
  have hlt : k % 3 < 3 := Nat.mod_lt _ (by decide)
  generalize k % 3 = j at hlt
  match j, hlt with
  | 0, _ => exact rfl
  | 1, _ => exact rfl
  | 2, _ => exact rfl
theorem wind_at (x : RPlan) (k : Nat) (hk : k ≤ 1000) (id off : Nat) : pindexAddr Tryz.prog 101 (.ptr id off) (.int .i64 ((k : Int).tmod 5)) = some (.ptr id (off + k % 5)) ∧
    [PD.int .u8 x.tone, .int .u8 x.feet, .int .i8 x.first, .int .u8 x.pipes, .int .u8 x.w0, .int .u8 x.w1, .int .u8 x.w2, .int .u8 x.w3, .int .u8 x.w4][4 + k % 5]? = some (.int .u8 (windAt x k)) := by
  have hm : (k : Int).tmod 5 = ((k % 5 : Nat) : Int) := rfl
  have hs : windAt x k = [x.w0, x.w1, x.w2, x.w3, x.w4].getD (k % 5) 0 := rfl
  rw [hm, hs]
  have hlt : k % 5 < 5 := Nat.mod_lt _ (by decide)
  generalize k % 5 = j at hlt
  match j, hlt with
  | 0, _ => exact ⟨rfl, rfl⟩
  | 1, _ => exact ⟨rfl, rfl⟩
  | 2, _ => exact ⟨rfl, rfl⟩
  | 3, _ => exact ⟨rfl, rfl⟩
  | 4, _ => exact ⟨rfl, rfl⟩
variable {E : PExt} (hU : Uni E)
include hU
theorem r_rankMake (h0 : E 30 = none) (h1 : E 67 = some (entry (gf1 u8e Em.feet fun n => gif (okU8 n) (some (allAt n))))) (x : RPlan) (hx : okRp x) (i : Nat) (hi : i < 10) :
    Run Tryz.prog E 30 [Em.rplan.emb x, .int .i64 i] (Em.rank.emb (rankS x i)) := by
  have hw := wind_at x
  have hwl : ∀ k, (windS x k).length = k := fun k => by simp [windS]
  have hws : ∀ k, windS x (k + 1) = windS x k ++ [windAt x k] := fun k => by simp [windS, List.range_succ]
  have hwb : ∀ k, 0 ≤ windAt x k ∧ windAt x k ≤ 255 := fun k => by
    have hlt : k % 5 < 5 := Nat.mod_lt _ (by decide)
    unfold windAt
    generalize k % 5 = j at hlt
    match j, hlt with
    | 0, _ => exact hx.2.2.2.2.1
    | 1, _ => exact hx.2.2.2.2.2.1
    | 2, _ => exact hx.2.2.2.2.2.2.1
    | 3, _ => exact hx.2.2.2.2.2.2.2.1
    | 4, _ => exact hx.2.2.2.2.2.2.2.2
  obtain ⟨W, hW⟩ : ∃ W, windS x = W := ⟨_, rfl⟩
  obtain ⟨wa, hwa⟩ : ∃ w, windAt x = w := ⟨_, rfl⟩
  obtain ⟨dg, hdg⟩ : ∃ d, UInt8.ofNat (48 + (i : Int)).toNat = d := ⟨_, rfl⟩
  have hR : rankS x i = ⟨[82, dg], toneAt x.tone, (allAt x.feet).1, (allAt x.feet).2, x.first, W (1 + (x.pipes % 25).toNat)⟩ := by
    rw [← hW]
    unfold rankS digit
    rw [Nat.mod_eq_of_lt hi, ← hdg, show (48 + (i : Int)).toNat = 48 + i by omega]
  rw [hR]
  rw [hwa] at hw hws hwb
  rw [hW] at hws hwl
  clear hR hW hwa
  obtain ⟨t, f, fi, pi, w0, w1, w2, w3, w4⟩ := x
  obtain ⟨ht, hf, hfi, hpi, g0, g1, g2, g3, g4⟩ := hx
  simp only at hw ht hf hfi hpi
  obtain ⟨p, rfl⟩ : ∃ p : Nat, pi = p := ⟨pi.toNat, by have := hpi.1; omega⟩
  have hp25 : p % 25 < 25 := Nat.mod_lt _ (by decide)
  obtain ⟨N, hN⟩ : ∃ N, p % 25 = N := ⟨_, rfl⟩
  have e1 : ((p : Int)).tmod 25 = (N : Int) := by rw [← hN]; rfl
  have e2 : IntKind.i64.wrap (N : Int) = (N : Int) := by rw [IntKind.wrap_i64]; omega
  have e3 : IntKind.i64.wrap (1 + (N : Int)) = 1 + (N : Int) := by rw [IntKind.wrap_i64]; omega
  have e4 : ((p : Int) % 25).toNat = N := by omega
  simp only [emb_rplan, emb_rank, emb_list, e4]
  have hT := tone_at t ht
  have d1 : ((i : Int)).tmod 10 = (i : Int) := Int.tmod_eq_of_lt (by omega) (by omega)
  have d2 : IntKind.i64.wrap (48 + (i : Int)) = 48 + (i : Int) := by rw [IntKind.wrap_i64]; omega
  have d3 : IntKind.u8.wrap (48 + (i : Int)) = 48 + (i : Int) := by simp only [IntKind.wrap, IntKind.bits, IntKind.signed]; simp; omega
  have d4 : IntKind.i64.wrap fi = fi := by have := hfi.1; have := hfi.2; rw [IntKind.wrap_i64]; omega
  have hF : ∀ fl σ, entry (gf1 u8e Em.feet fun n => gif (okU8 n) (some (allAt n))) fl [.int .u8 f] σ = some (.agg [.int .i64 (allAt f).1, .int .i64 (allAt f).2], σ) := fun fl σ => by
    have e : u8e.dec (.int .u8 f) = some f := Em.dec_some rfl
    unfold entry gf1
    simp only [e]
    rw [gif_pos hf]
    rfl
  apply Run.bodyL h0 Tryz.func30 rfl
  focus (simp [show Tryz.f30.ntmps = _ from rfl, List.replicate]; rfl)
  have gx := And.intro @h1 (And.intro @hT (And.intro @d1 (And.intro @d2 (And.intro @d3 (And.intro @d4 (And.intro @hdg (@hF)))))))
  refine goA ?_
  clear gx
  have hW0 : W 0 = [] := List.eq_nil_of_length_eq_zero (hwl 0)
  refine Wp.loopI (fun m fr σ => ∃ (k z : Nat), ∃ gg : Nat → PD, (k + m = 1 + N ∧ (W k = [] ∨ z = 1)) ∧ fr = [gg 0, gg 1, .ptr 0 0, gg 3, .ptr 1 0, .ptr 2 0, .int .i64 k, gg 7, gg 8, gg 9, gg 10, gg 11, gg 12, gg 13, gg 14, gg 15, gg 16, gg 17, gg 18, gg 19, gg 20, gg 21, gg 22, gg 23, gg 24, gg 25, gg 26, gg 27, gg 28, gg 29, gg 30, gg 31, gg 32, gg 33, gg 34, gg 35, gg 36, gg 37, gg 38, gg 39, gg 40, gg 41, gg 42, gg 43, gg 44, gg 45, gg 46, gg 47] ∧ σ = St [.box (.agg [.int .u8 t, .int .u8 f, .int .i8 fi, .int .u8 p, .int .u8 w0, .int .u8 w1, .int .u8 w2, .int .u8 w3, .int .u8 w4]), .box (.agg [.str [], .str [], .int .i64 0, .int .i64 0, .int .i64 0, .slice 0 [] .full]), .box (.agg [.str [82, dg], .str (toneAt t), .int .i64 (allAt f).1, .int .i64 (allAt f).2, .int .i64 fi, .slice z ((W k).map i64.emb) (outTok 3 (W k).length)])] 3 1 (W k).length) ?_ (1 + N) (by refine ⟨0, 0, ?_⟩; exact exF (⟨by omega, .inl hW0⟩) (by (first | rfl | (simp [hW0, outTok]; repeat (first | rfl | (apply And.intro))) | (simp [hW0, outTok]; done))) (by (first | rfl | (simp [hW0, outTok]; repeat (first | rfl | (apply And.intro))) | (simp [hW0, outTok]; done))))
  rintro m fr σ ⟨k, z, gg, hI, rfl, rfl⟩
  obtain ⟨hm, hz⟩ := hI
  by_cases hk : k < 1 + N
  · have q1 : (k : Int) < 1 + (N : Int) := by omega
    obtain ⟨hw1, hw2⟩ := hw k (by omega) 0 4
    obtain ⟨hlt9, hw3⟩ := List.getElem?_eq_some_iff.1 hw2
    have hb1 : IntKind.i64.wrap (wa k) = wa k := by have := hwb k; rw [IntKind.wrap_i64]; omega
    have hl := hwl k
    have gx := And.intro @e1 (And.intro @e2 (And.intro @e3 (And.intro @q1 (And.intro @hw1 (And.intro @hw2 (And.intro @hw3 (And.intro @hb1 (And.intro @hz (@hl)))))))))
    refine goA ?_
    clear gx
    refine LoopI.normal (m - 1) (by omega) (by refine ⟨k + 1, 1, ?_⟩; exact exF (⟨by omega, .inr rfl⟩) (by (first | rfl | (simp [hws, hl]; repeat (first | rfl | (apply And.intro))) | (simp [hws, hl]; done))) (by (first | rfl | (simp [hws, hl]; repeat (first | rfl | (apply And.intro))) | (simp [hws, hl]; done))))
  · have q1 : ¬ (k : Int) < 1 + (N : Int) := by omega
    obtain rfl : k = 1 + N := by omega
    have gx := And.intro @e1 (And.intro @e2 (And.intro @e3 (@q1)))
    refine goA ?_
    clear gx
    have hne : W (1 + N) ≠ [] := fun h => by have := hwl (1 + N); rw [h] at this; simp at this; omega
    have hz1 : z = 1 := hz.resolve_left hne
    subst hz1
    simp (disch := first | omega | (simp; done) | (simp; omega)) [decide_eq_decide, hwl, sz_ne hne] <;> try rfl
end Go.Kz

/-
  Layer 18: the stop of a division, walked.
-/
namespace Go.Kz
open Go Go.Proofs
set_option maxRecDepth 100000
set_option maxHeartbeats 4000000
theorem six_mem (n : Int) (h : okU8 n) : sixAt n ∈ feetSix := by
  obtain ⟨k, rfl⟩ : ∃ k : Nat, n = k := ⟨n.toNat, by have := h.1; omega⟩
  have hs : sixAt k = feetSix.getD (k % 6) (8, 1) := by
    unfold sixAt
    congr 1
  rw [hs]
  have hlt : k % 6 < 6 := Nat.mod_lt _ (by decide)
  generalize k % 6 = j at hlt
  match j, hlt with
  | 0, _ => decide
  | 1, _ => decide
  | 2, _ => decide
  | 3, _ => decide
  | 4, _ => decide
  | 5, _ => decide
theorem all_mem (n : Int) (h : okU8 n) : allAt n ∈ feetAll := by
  obtain ⟨k, rfl⟩ : ∃ k : Nat, n = k := ⟨n.toNat, by have := h.1; omega⟩
  have hs : allAt k = feetAll.getD (k % 16) (8, 1) := by
    unfold allAt
    congr 1
  rw [hs]
  have hlt : k % 16 < feetAll.length := Nat.mod_lt _ (by decide)
  rw [List.getD_eq_getElem?_getD, List.getElem?_eq_getElem hlt]
  exact List.getElem_mem hlt
theorem shift_bound (a b : Int × Int) : -60 ≤ shiftOf a b ∧ shiftOf a b ≤ 64 := by
  unfold shiftOf
  cases h : shiftTab.find? fun t => decide (t.1 = a) && decide (t.2.1 = b) with
  | none => exact ⟨by decide, by decide⟩
  | some t =>
    have hm := List.mem_of_find?_eq_some h
    exact (by decide : ∀ t ∈ shiftTab, -60 ≤ t.2.2 ∧ t.2.2 ≤ 64) t hm
noncomputable def gSh : Nat → List PD → List SObj → Option (PD × List SObj) := entry (gf2 Em.feet Em.feet (Em.tup2 i64 i64) fun a b => gif (a ∈ feetSix ∧ b ∈ feetAll) (some (shiftOf a b, 0)))
theorem gSh_of {a b : Int × Int} (ha : a ∈ feetSix) (hb : b ∈ feetAll) (fl : Nat) (σ : List SObj) : gSh fl [.agg [.int .i64 a.1, .int .i64 a.2], .agg [.int .i64 b.1, .int .i64 b.2]] σ = some (.tup [.int .i64 (shiftOf a b), .int .i64 0], σ) := by
  have e1 : Em.feet.dec (.agg [.int .i64 a.1, .int .i64 a.2]) = some a := Em.dec_some (Em.feet.str a)
  have e2 : Em.feet.dec (.agg [.int .i64 b.1, .int .i64 b.2]) = some b := Em.dec_some (Em.feet.str b)
  unfold gSh entry gf2
  simp only [e1, e2]
  rw [gif_pos ⟨ha, hb⟩]
  rfl
variable {E : PExt} (hU : Uni E)
include hU
theorem r_pull (h0 : E 31 = none) (h1 : E 68 = some (entry (gf1 u8e Em.feet fun n => gif (okU8 n) (some (sixAt n))))) (h2 : E 69 = some gSh)
    (rs : List RankD) (hrs : ∀ r ∈ rs, (r.num, r.den) ∈ feetAll) (hr1 : 1 ≤ rs.length) (hr2 : rs.length ≤ 60) (lo hg : Int) (hlo : 0 ≤ lo) (hlh : lo ≤ hg) (hhg : hg ≤ 200) (x : PullD) (hx : okPu x) (i : Nat) (hi10 : i < 10) :
    Run Tryz.prog E 31 [ranks.emb rs, .agg [.int .i64 lo, .int .i64 hg], Em.pull.emb x, .int .i64 i] (Em.stop.emb (pullS rs lo hg x i)) := by
  obtain ⟨r, f, k, a⟩ := x
  obtain ⟨hr, hf, hk, ha⟩ := hx
  simp only at hr hf hk ha
  obtain ⟨r, rfl⟩ : ∃ q : Nat, r = q := ⟨r.toNat, by have := hr.1; omega⟩
  obtain ⟨k, rfl⟩ : ∃ q : Nat, k = q := ⟨k.toNat, by have := hk.1; omega⟩
  obtain ⟨a, rfl⟩ : ∃ q : Nat, a = q := ⟨a.toNat, by have := ha.1; omega⟩
  have hrb := hr.2
  have hab := ha.2
  obtain ⟨n, hn⟩ : ∃ n, r % rs.length = n := ⟨_, rfl⟩
  have hnl : n < rs.length := by rw [← hn]; exact Nat.mod_lt _ hr1
  obtain ⟨m, hm⟩ : ∃ m, (n + 1) % rs.length = m := ⟨_, rfl⟩
  have hml : m < rs.length := by rw [← hm]; exact Nat.mod_lt _ hr1
  have c1 : (r : Int).tmod (rs.length : Int) = n := by rw [← hn]; rfl
  have c1' : (r : Int) % (rs.length : Int) = n := by rw [← hn]; rfl
  have c2 : ((n : Int) + 1).tmod (rs.length : Int) = m := by rw [← hm]; rfl
  have c2' : ((n : Int) + 1) % (rs.length : Int) = m := by rw [← hm]; rfl
  obtain ⟨j, hj⟩ : ∃ j, k % 6 = j := ⟨_, rfl⟩
  have hj6 : j < 6 := by rw [← hj]; exact Nat.mod_lt _ (by decide)
  have c3 : (k : Int).tmod 6 = (j : Int) := by rw [← hj]; rfl
  have c3' : (k : Int) % 6 = (j : Int) := by rw [← hj]; rfl
  obtain ⟨w, hw⟩ : ∃ w : Nat, hg - lo + 1 = w := ⟨(hg - lo + 1).toNat, by omega⟩
  obtain ⟨u, hu⟩ : ∃ u, a % w = u := ⟨_, rfl⟩
  have huw : u < w := by rw [← hu]; exact Nat.mod_lt _ (by omega)
  have c4 : (a : Int).tmod (w : Int) = u := by rw [← hu]; rfl
  have c4' : (a : Int) % (w : Int) = u := by rw [← hu]; rfl
  obtain ⟨q, hq⟩ : ∃ q, rs[n] = q := ⟨_, rfl⟩
  obtain ⟨p, hp⟩ : ∃ q, rs[m] = q := ⟨_, rfl⟩
  have hqf := hrs q (hq ▸ List.getElem_mem hnl)
  have hpf := hrs p (hp ▸ List.getElem_mem hml)
  have hF1 : feetOf rs n = (q.num, q.den) := by unfold feetOf; rw [List.getD_eq_getElem?_getD, List.getElem?_eq_getElem hnl, hq]; rfl
  have hF2 : feetOf rs m = (p.num, p.den) := by unfold feetOf; rw [List.getD_eq_getElem?_getD, List.getElem?_eq_getElem hml, hp]; rfl
  obtain ⟨sh, hsh⟩ : ∃ s, shiftOf (sixAt f) (q.num, q.den) = s := ⟨_, rfl⟩
  obtain ⟨st, hst⟩ : ∃ s, shiftOf (sixAt f) (p.num, p.den) = s := ⟨_, rfl⟩
  have hS1 := gSh_of (six_mem f hf) hqf
  have hS2 := gSh_of (six_mem f hf) hpf
  rw [hsh] at hS1
  rw [hst] at hS2
  obtain ⟨dg, hdg⟩ : ∃ d, UInt8.ofNat (48 + (i : Int)).toNat = d := ⟨_, rfl⟩
  have hR : pullS rs lo hg ⟨r, f, k, a⟩ i = ⟨[83, dg], (sixAt f).1, (sixAt f).2, segsS j n sh lo hg (lo + u) m st⟩ := by
    unfold pullS digit
    simp only [c1', c2', c3', hw, c4', Int.toNat_natCast, hF1, hF2, hsh, hst, ← hdg, show (48 + (i : Int)).toNat = 48 + i by omega]
  rw [hR]
  have hsh0 : -60 ≤ sh ∧ sh ≤ 64 := hsh ▸ shift_bound _ _
  clear hR hF1 hF2 hsh hst
  obtain ⟨q0, q1, q2, q3, q4, q5⟩ := q
  obtain ⟨p0, p1, p2, p3, p4, p5⟩ := p
  simp only at hS1 hS2
  have d2 : IntKind.i64.wrap (48 + (i : Int)) = 48 + (i : Int) := by rw [IntKind.wrap_i64]; omega
  have d3 : IntKind.u8.wrap (48 + (i : Int)) = 48 + (i : Int) := by simp only [IntKind.wrap, IntKind.bits, IntKind.signed]; simp; omega
  have d4 : IntKind.i64.wrap (r : Int) = r := by rw [IntKind.wrap_i64]; omega
  have d5 : IntKind.i64.wrap (a : Int) = a := by rw [IntKind.wrap_i64]; omega
  have d6 : IntKind.i64.wrap (hg - lo) = hg - lo := by rw [IntKind.wrap_i64]; omega
  have d7 : IntKind.i64.wrap (hg - lo + 1) = w := by rw [IntKind.wrap_i64]; omega
  have d8 : IntKind.i64.wrap (lo + (u : Int)) = lo + u := by rw [IntKind.wrap_i64]; omega
  have d9 : ¬ (rs.length : Int) = 0 := by omega
  have d10 : ¬ (w : Int) = 0 := by omega
  have d11 : ¬ rs = [] := fun h => by rw [h] at hr1; simp at hr1
  have d12 : ¬ w = 0 := by omega
  have hF : ∀ fl σ, entry (gf1 u8e Em.feet fun n => gif (okU8 n) (some (sixAt n))) fl [.int .u8 f] σ = some (.agg [.int .i64 (sixAt f).1, .int .i64 (sixAt f).2], σ) := fun fl σ => by
    have e : u8e.dec (.int .u8 f) = some f := Em.dec_some rfl
    unfold entry gf1
    simp only [e]
    rw [gif_pos hf]
    rfl
  simp only [emb_pull, emb_stop, emb_list]
  apply Run.bodyL h0 Tryz.func31 rfl
  focus (simp [show Tryz.f31.ntmps = _ from rfl, List.replicate]; rfl)
  have gx := And.intro @h1 (And.intro @h2 (And.intro @c1 (And.intro @c3 (And.intro @c4 (And.intro @d2 (And.intro @d3 (And.intro @d4 (And.intro @d5 (And.intro @d6 (And.intro @d7 (And.intro @d8 (And.intro @d9 (And.intro @d10 (And.intro @d11 (And.intro @d12 (And.intro @hF (And.intro @hS1 (And.intro @hnl (And.intro @hq (@hdg))))))))))))))))))))
  refine goA ?_
  clear gx
  have hsb : -60 ≤ sh ∧ sh ≤ 64 := hsh0
  have b1 : IntKind.i64.wrap (sh + 7) = sh + 7 := by rw [IntKind.wrap_i64]; omega
  have b2 : IntKind.i64.wrap (sh - 12) = sh - 12 := by rw [IntKind.wrap_i64]; omega
  have b3 : IntKind.i64.wrap (lo + (u : Int) - 1) = lo + u - 1 := by rw [IntKind.wrap_i64]; omega
  have b4 : IntKind.i64.wrap ((n : Int) + 1) = (n : Int) + 1 := by rw [IntKind.wrap_i64]; omega
  match j, hj6 with
  | 0, _ =>
    have gx := @b1
    refine goA ?_
    clear gx
    simp (disch := first | omega | (simp; done) | (simp; omega)) [decide_eq_decide, segsS] <;> try rfl
    exact ⟨rfl, rfl⟩
  | 1, _ =>
    have gx := @b1
    refine goA ?_
    clear gx
    simp (disch := first | omega | (simp; done) | (simp; omega)) [decide_eq_decide, segsS] <;> try rfl
    exact ⟨rfl, rfl⟩
  | 2, _ =>
    have gx := @b1
    refine goA ?_
    clear gx
    simp (disch := first | omega | (simp; done) | (simp; omega)) [decide_eq_decide, segsS] <;> try rfl
    exact ⟨rfl, rfl⟩
  | 3, _ =>
    by_cases hu0 : lo < lo + (u : Int)
    · have gx := And.intro @b1 (And.intro @b2 (And.intro @b3 (And.intro @b4 (And.intro @c2 (And.intro @c3 (And.intro @d9 (And.intro @d11 (And.intro @hml (And.intro @hp (And.intro @h2 (And.intro @hS2 (@hu0))))))))))))
      refine goA ?_
      clear gx
      have hu1 := hu0
      simp (disch := first | omega | (simp; done) | (simp; omega)) [decide_eq_decide, segsS, hu1] <;> try rfl
      first | exact ⟨by kernel_rfl, rfl, rfl⟩ | exact ⟨by kernel_rfl, rfl⟩
    · have gx := And.intro @b1 (And.intro @b2 (And.intro @b3 (And.intro @b4 (And.intro @c2 (And.intro @c3 (And.intro @d9 (And.intro @d11 (And.intro @hml (And.intro @hp (And.intro @h2 (And.intro @hS2 (@hu0))))))))))))
      refine goA ?_
      clear gx
      have hu1 := hu0
      simp (disch := first | omega | (simp; done) | (simp; omega)) [decide_eq_decide, segsS, hu1] <;> try rfl
      first | exact ⟨by kernel_rfl, rfl, rfl⟩ | exact ⟨by kernel_rfl, rfl⟩
  | 4, _ =>
    by_cases hu0 : lo < lo + (u : Int)
    · have gx := And.intro @b1 (And.intro @b2 (And.intro @b3 (And.intro @c3 (@hu0))))
      refine goA ?_
      clear gx
      have hu1 := hu0
      simp (disch := first | omega | (simp; done) | (simp; omega)) [decide_eq_decide, segsS, hu1] <;> try rfl
      first | exact ⟨by kernel_rfl, rfl, rfl⟩ | exact ⟨by kernel_rfl, rfl⟩
    · have gx := And.intro @b1 (And.intro @b2 (And.intro @b3 (And.intro @c3 (@hu0))))
      refine goA ?_
      clear gx
      have hu1 := hu0
      simp (disch := first | omega | (simp; done) | (simp; omega)) [decide_eq_decide, segsS, hu1] <;> try rfl
      first | exact ⟨by kernel_rfl, rfl, rfl⟩ | exact ⟨by kernel_rfl, rfl⟩
  | 5, _ =>
    have gx := @b1
    refine goA ?_
    clear gx
    simp (disch := first | omega | (simp; done) | (simp; omega)) [decide_eq_decide, segsS] <;> try rfl
    exact ⟨rfl, rfl⟩
end Go.Kz
