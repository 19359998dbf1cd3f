/-
  Part P5 of the way: an interpreter over pure data, its soundness, walks through functions.
-/
import Derived.Test.YteegpeenjdgodaaGreatDoorP4
set_option linter.all false

/-
  Chapter 51: organs as data.
-/
namespace Go.Kz
open Go Go.Proofs
abbrev i64 : Em Int := Em.int .i64
abbrev i64s : Em (List Int) := i64.list 1

structure RankD where
  name : List UInt8
  tone : List UInt8
  num : Int
  den : Int
  first : Int
  wind : List Int
  deriving DecidableEq
structure DrawD where
  rank : Int
  shift : Int
  deriving DecidableEq
structure SegD where
  lo : Int
  hi : Int
  draws : List DrawD
  deriving DecidableEq
structure StopD where
  name : List UInt8
  num : Int
  den : Int
  segs : List SegD
  deriving DecidableEq
structure DivD where
  name : List UInt8
  pedal : Bool
  low : Int
  high : Int
  stops : List StopD
  deriving DecidableEq
structure CoupD where
  name : List UInt8
  org : Int
  dst : Int
  shift : Int
  thr : Bool
  deriving DecidableEq
structure OrganD where
  name : List UInt8
  ranks : List RankD
  divs : List DivD
  coups : List CoupD
  deriving DecidableEq

def EmC.rank : EmC RankD := ((EmC.one .text).pair ((EmC.one .text).pair ((EmC.one i64).pair ((EmC.one i64).pair ((EmC.one i64).pair (.one i64s)))))).iso (fun r => (r.name, r.tone, r.num, r.den, r.first, r.wind)) (fun x y h => by cases x; cases y; simpa using h)
def Em.rank : Em RankD := .agg .rank
@[simp] theorem emb_rank {r : RankD} : Em.rank.emb r = .agg [.str r.name, .str r.tone, .int .i64 r.num, .int .i64 r.den, .int .i64 r.first, i64s.emb r.wind] := rfl
abbrev ranks : Em (List RankD) := Em.rank.list 6
def EmC.draw : EmC DrawD := ((EmC.one i64).pair (.one i64)).iso (fun r => (r.rank, r.shift)) (fun x y h => by cases x; cases y; simpa using h)
def Em.draw : Em DrawD := .agg .draw
@[simp] theorem emb_draw {r : DrawD} : Em.draw.emb r = .agg [.int .i64 r.rank, .int .i64 r.shift] := rfl
abbrev drawsE : Em (List DrawD) := Em.draw.list 2
def EmC.seg : EmC SegD := ((EmC.one i64).pair ((EmC.one i64).pair (.one drawsE))).iso (fun r => (r.lo, r.hi, r.draws)) (fun x y h => by cases x; cases y; simpa using h)
def Em.seg : Em SegD := .agg .seg
@[simp] theorem emb_seg {r : SegD} : Em.seg.emb r = .agg [.int .i64 r.lo, .int .i64 r.hi, drawsE.emb r.draws] := rfl
abbrev segsE : Em (List SegD) := Em.seg.list 3
def EmC.stop : EmC StopD := ((EmC.one .text).pair ((EmC.one i64).pair ((EmC.one i64).pair (.one segsE)))).iso (fun r => (r.name, r.num, r.den, r.segs)) (fun x y h => by cases x; cases y; simpa using h)
def Em.stop : Em StopD := .agg .stop
@[simp] theorem emb_stop {r : StopD} : Em.stop.emb r = .agg [.str r.name, .int .i64 r.num, .int .i64 r.den, segsE.emb r.segs] := rfl
abbrev stopsE : Em (List StopD) := Em.stop.list 4
def EmC.div : EmC DivD := ((EmC.one .text).pair ((EmC.one .bool).pair ((EmC.one i64).pair ((EmC.one i64).pair (.one stopsE))))).iso (fun r => (r.name, r.pedal, r.low, r.high, r.stops)) (fun x y h => by cases x; cases y; simpa using h)
def Em.div : Em DivD := .agg .div
@[simp] theorem emb_div {r : DivD} : Em.div.emb r = .agg [.str r.name, .bool r.pedal, .int .i64 r.low, .int .i64 r.high, stopsE.emb r.stops] := rfl
abbrev divsE : Em (List DivD) := Em.div.list 5
def EmC.coup : EmC CoupD := ((EmC.one .text).pair ((EmC.one i64).pair ((EmC.one i64).pair ((EmC.one i64).pair (.one .bool))))).iso (fun r => (r.name, r.org, r.dst, r.shift, r.thr)) (fun x y h => by cases x; cases y; simpa using h)
def Em.coup : Em CoupD := .agg .coup
@[simp] theorem emb_coup {r : CoupD} : Em.coup.emb r = .agg [.str r.name, .int .i64 r.org, .int .i64 r.dst, .int .i64 r.shift, .bool r.thr] := rfl
abbrev coupsE : Em (List CoupD) := Em.coup.list 5
def EmC.organ : EmC OrganD := ((EmC.one .text).pair ((EmC.one ranks).pair ((EmC.one divsE).pair (.one coupsE)))).iso (fun r => (r.name, r.ranks, r.divs, r.coups)) (fun x y h => by cases x; cases y; simpa using h)
def Em.organ : Em OrganD := .agg .organ
@[simp] theorem emb_organ {r : OrganD} : Em.organ.emb r = .agg [.str r.name, ranks.emb r.ranks, divsE.emb r.divs, coupsE.emb r.coups] := rfl

def okI (l : List Int) : Prop := l.length ≤ 1000000
def okDs (l : List DrawD) : Prop := l.length ≤ 1000000
def okCs (l : List CoupD) : Prop := l.length ≤ 1000000
def okR (r : RankD) : Prop := okI r.wind
def okRs (l : List RankD) : Prop := l.length ≤ 1000000 ∧ ∀ r ∈ l, okR r
def okG (g : SegD) : Prop := okDs g.draws
def okGs (l : List SegD) : Prop := l.length ≤ 1000000 ∧ ∀ r ∈ l, okG r
def okS (s : StopD) : Prop := okGs s.segs
def okSs (l : List StopD) : Prop := l.length ≤ 1000000 ∧ ∀ r ∈ l, okS r
def okD (d : DivD) : Prop := okSs d.stops
def okDd (l : List DivD) : Prop := l.length ≤ 1000000 ∧ ∀ r ∈ l, okD r
def okO (o : OrganD) : Prop := okRs o.ranks ∧ okDd o.divs ∧ okCs o.coups

noncomputable def eqE {α : Type} [DecidableEq α] (a : Em α) (R : α → Prop) : Nat → List PD → List SObj → Option (PD × List SObj) := entry (gf2 a a .bool fun x y => gif (R x ∧ R y) (some (decide (x = y))))
theorem eqE_of {α : Type} [DecidableEq α] {a : Em α} {R : α → Prop} {p q : PD} {x y : α} (hx : R x) (hy : R y) (hp : p.strip = a.emb x) (hq : q.strip = a.emb y) (fl : Nat) (σ : List SObj) : eqE a R fl [p, q] σ = some (.bool (decide (x = y)), σ) := by
  have e1 := Em.dec_some hp
  have e2 := Em.dec_some hq
  unfold eqE entry gf2
  simp only [e1, e2]
  rw [gif_pos ⟨hx, hy⟩]
  rfl
theorem eqE_emb {α : Type} [DecidableEq α] {a : Em α} {R : α → Prop} {x y : α} (hx : R x) (hy : R y) (fl : Nat) (σ : List SObj) : eqE a R fl [a.emb x, a.emb y] σ = some (.bool (decide (x = y)), σ) := eqE_of hx hy (a.str x) (a.str y) fl σ
noncomputable def eqG {α : Type} [DecidableEq α] (a : Em α) (R : α → Prop) (f : FuncId) : List PD → Option PD := fun args => match args with
  | [p, q, .func g []] => if g = f then gf2 a a .bool (fun x y => gif (R x ∧ R y) (some (decide (x = y)))) [p, q] else none
  | _ => none
noncomputable def eqF {α : Type} [DecidableEq α] (a : Em α) (R : α → Prop) (f : FuncId) : Nat → List PD → List SObj → Option (PD × List SObj) := entry (eqG a R f)
@[simp] theorem eqF_eq {α : Type} [DecidableEq α] {a : Em α} {R : α → Prop} {f : FuncId} {fl : Nat} {p q : PD} {σ : List SObj} : eqF a R f fl [p, q, .func f []] σ = eqE a R fl [p, q] σ := by
  unfold eqF eqE entry eqG
  simp only [if_true]
theorem ExtOk.addEqE {P : Program} {E : PExt} (hE : ExtOk P E) (hP : P.follows .mixedOrders = true) {α : Type} [DecidableEq α] {a : Em α} {R : α → Prop} {f : FuncId} (h : ∀ x y, R x → R y → Run P E f [a.emb x, a.emb y] (Em.bool.emb (decide (x = y)))) : ExtOk P (E.add f (eqE a R)) :=
  hE.add2 hP fun x y z hz => by
    obtain ⟨⟨hx, hy⟩, e⟩ := gif_some hz
    cases e
    exact h x y hx hy
theorem ExtOk.addEqF {P : Program} {E : PExt} (hE : ExtOk P E) (hP : P.follows .mixedOrders = true) {α : Type} [DecidableEq α] {a : Em α} {R : α → Prop} {f g : FuncId} (h : ∀ x y, R x → R y → Run P E f [a.emb x, a.emb y, .func g []] (Em.bool.emb (decide (x = y)))) : ExtOk P (E.add f (eqF a R g)) := by
  refine hE.addFree hP fun args p hg => ?_
  unfold eqG at hg
  split at hg
  rotate_left
  · cases hg
  rename_i p1 q1 g1
  split at hg
  rotate_left
  · cases hg
  rename_i e
  subst e
  simp only [gf2] at hg
  split at hg
  rotate_left
  · cases hg
  rename_i x y hx hy
  split at hg
  rotate_left
  · cases hg
  rename_i z hz
  simp only [Option.some.injEq] at hg
  subst hg
  obtain ⟨⟨rx, ry⟩, e⟩ := gif_some hz
  cases e
  have e1 := Em.of_dec hx
  have e2 := Em.of_dec hy
  obtain ⟨p2, σ2, h1, h2⟩ := h x y rx ry
  exact ⟨p2, σ2, by simpa [e1, e2, PD.strip] using h1, h2, by simp [e1, e2, PD.strip, PD.idfreeL, PD.idfree, a.fre], rfl⟩
theorem dec_cons2 {α : Type} [DecidableEq α] (a b : α) (x y : List α) : decide (a :: x = b :: y) = (decide (a = b) && decide (x = y)) := by
  by_cases h : a = b <;> by_cases k : x = y <;> simp [h, k]
theorem dec_len {α : Type} [DecidableEq α] {x y : List α} (h : ¬ x.length = y.length) : decide (x = y) = false := by
  simp only [decide_eq_false_iff_not]
  exact fun e => h (by rw [e])
end Go.Kz

/-
  Layer 18: plans of organs as data; Fits.
-/
namespace Go.Kz
open Go Go.Proofs
structure RPlan where
  tone : Int
  feet : Int
  first : Int
  pipes : Int
  w0 : Int
  w1 : Int
  w2 : Int
  w3 : Int
  w4 : Int
structure PullD where
  rank : Int
  feet : Int
  kind : Int
  at_ : Int
structure BoardD where
  low : Int
  keys : Int
  pedal : Bool
  stops : List PullD
structure LinkD where
  org : Int
  dst : Int
  shift : Int
  thr : Bool
structure PlanD where
  ranks : List RPlan
  divs : List BoardD
  coups : List LinkD
structure SlipD where
  kind : Int
  at_ : Int
abbrev u8e : Em Int := Em.int .u8
abbrev i8e : Em Int := Em.int .i8
def Em.rplan : Em RPlan := .agg (((EmC.one u8e).pair ((EmC.one u8e).pair ((EmC.one i8e).pair ((EmC.one u8e).pair ((EmC.one u8e).pair ((EmC.one u8e).pair ((EmC.one u8e).pair ((EmC.one u8e).pair (.one u8e))))))))).iso (fun r => (r.tone, r.feet, r.first, r.pipes, r.w0, r.w1, r.w2, r.w3, r.w4)) (fun x y h => by cases x; cases y; simpa using h))
@[simp] theorem emb_rplan {r : RPlan} : Em.rplan.emb r = .agg [.int .u8 r.tone, .int .u8 r.feet, .int .i8 r.first, .int .u8 r.pipes, .int .u8 r.w0, .int .u8 r.w1, .int .u8 r.w2, .int .u8 r.w3, .int .u8 r.w4] := rfl
abbrev rplans : Em (List RPlan) := Em.rplan.list 9
def Em.pull : Em PullD := .agg (((EmC.one u8e).pair ((EmC.one u8e).pair ((EmC.one u8e).pair (.one u8e)))).iso (fun r => (r.rank, r.feet, r.kind, r.at_)) (fun x y h => by cases x; cases y; simpa using h))
@[simp] theorem emb_pull {r : PullD} : Em.pull.emb r = .agg [.int .u8 r.rank, .int .u8 r.feet, .int .u8 r.kind, .int .u8 r.at_] := rfl
abbrev pullsE : Em (List PullD) := Em.pull.list 4
def Em.board : Em BoardD := .agg (((EmC.one u8e).pair ((EmC.one u8e).pair ((EmC.one .bool).pair (.one pullsE)))).iso (fun r => (r.low, r.keys, r.pedal, r.stops)) (fun x y h => by cases x; cases y; simpa using h))
@[simp] theorem emb_board {r : BoardD} : Em.board.emb r = .agg [.int .u8 r.low, .int .u8 r.keys, .bool r.pedal, pullsE.emb r.stops] := rfl
abbrev boards : Em (List BoardD) := Em.board.list 4
def Em.link : Em LinkD := .agg (((EmC.one u8e).pair ((EmC.one u8e).pair ((EmC.one i8e).pair (.one .bool)))).iso (fun r => (r.org, r.dst, r.shift, r.thr)) (fun x y h => by cases x; cases y; simpa using h))
@[simp] theorem emb_link {r : LinkD} : Em.link.emb r = .agg [.int .u8 r.org, .int .u8 r.dst, .int .i8 r.shift, .bool r.thr] := rfl
abbrev linksE : Em (List LinkD) := Em.link.list 4
def Em.plan : Em PlanD := .agg (((EmC.one rplans).pair ((EmC.one boards).pair (.one linksE))).iso (fun r => (r.ranks, r.divs, r.coups)) (fun x y h => by cases x; cases y; simpa using h))
@[simp] theorem emb_plan {r : PlanD} : Em.plan.emb r = .agg [rplans.emb r.ranks, boards.emb r.divs, linksE.emb r.coups] := rfl
def Em.slip : Em SlipD := .agg (((EmC.one u8e).pair (.one u8e)).iso (fun r => (r.kind, r.at_)) (fun x y h => by cases x; cases y; simpa using h))
@[simp] theorem emb_slip {r : SlipD} : Em.slip.emb r = .agg [.int .u8 r.kind, .int .u8 r.at_] := rfl
def okU8 (n : Int) : Prop := 0 ≤ n ∧ n ≤ 255
def okI8 (n : Int) : Prop := -128 ≤ n ∧ n ≤ 127
def okRp (r : RPlan) : Prop := okU8 r.tone ∧ okU8 r.feet ∧ okI8 r.first ∧ okU8 r.pipes ∧ okU8 r.w0 ∧ okU8 r.w1 ∧ okU8 r.w2 ∧ okU8 r.w3 ∧ okU8 r.w4
def okPu (r : PullD) : Prop := okU8 r.rank ∧ okU8 r.feet ∧ okU8 r.kind ∧ okU8 r.at_
def okB (r : BoardD) : Prop := okU8 r.low ∧ okU8 r.keys ∧ ∀ s ∈ r.stops, okPu s
def okLk (r : LinkD) : Prop := okU8 r.org ∧ okU8 r.dst ∧ okI8 r.shift
def okPl (p : PlanD) : Prop := (∀ r ∈ p.ranks, okRp r) ∧ (∀ b ∈ p.divs, okB b) ∧ ∀ l ∈ p.coups, okLk l
def okSl (s : SlipD) : Prop := okU8 s.kind ∧ okU8 s.at_
def fitsB (p : PlanD) : Bool := decide (1 ≤ p.ranks.length) && decide (p.ranks.length ≤ 3) && decide (1 ≤ p.divs.length) && decide (p.divs.length ≤ 3) && decide (p.coups.length ≤ 3) && p.divs.all fun b => decide (b.stops.length ≤ 3)
set_option maxRecDepth 100000
set_option maxHeartbeats 4000000
variable {E : PExt} (hU : Uni E)
include hU
theorem r_Fits (h0 : E 11 = none) (p : PlanD) : Run Tryz.prog E 11 [Em.plan.emb p] (Em.bool.emb (fitsB p)) := by
  obtain ⟨R, D, C⟩ := p
  simp only [emb_plan, emb_list]
  apply Run.bodyL h0 Tryz.func11 rfl
  focus (simp [show Tryz.f11.ntmps = _ from rfl, List.replicate]; rfl)
  by_cases c1 : (R.length : Int) < 1
  · have z : ¬ 1 ≤ R.length := by omega
    have gx := @c1
    refine goA ?_
    clear gx
    simp (disch := first | omega | (simp; done) | (simp; omega)) [decide_eq_decide, fitsB, z] <;> try rfl
  have z1 : 1 ≤ R.length := by omega
  by_cases c2 : 3 < (R.length : Int)
  · have z : ¬ R.length ≤ 3 := by omega
    have gx := And.intro @c1 (@c2)
    refine goA ?_
    clear gx
    simp (disch := first | omega | (simp; done) | (simp; omega)) [decide_eq_decide, fitsB, z] <;> try rfl
  have z2 : R.length ≤ 3 := by omega
  by_cases c3 : (D.length : Int) < 1
  · have z : ¬ 1 ≤ D.length := by omega
    have gx := And.intro @c1 (And.intro @c2 (@c3))
    refine goA ?_
    clear gx
    simp (disch := first | omega | (simp; done) | (simp; omega)) [decide_eq_decide, fitsB, z] <;> try rfl
  have z3 : 1 ≤ D.length := by omega
  by_cases c4 : 3 < (D.length : Int)
  · have z : ¬ D.length ≤ 3 := by omega
    have gx := And.intro @c1 (And.intro @c2 (And.intro @c3 (@c4)))
    refine goA ?_
    clear gx
    simp (disch := first | omega | (simp; done) | (simp; omega)) [decide_eq_decide, fitsB, z] <;> try rfl
  have z4 : D.length ≤ 3 := by omega
  by_cases c5 : 3 < (C.length : Int)
  · have z : ¬ C.length ≤ 3 := by omega
    have gx := And.intro @c1 (And.intro @c2 (And.intro @c3 (And.intro @c4 (@c5))))
    refine goA ?_
    clear gx
    simp (disch := first | omega | (simp; done) | (simp; omega)) [decide_eq_decide, fitsB, z] <;> try rfl
  have z5 : C.length ≤ 3 := by omega
  obtain ⟨B, hB⟩ : ∃ B, fitsB ⟨R, D, C⟩ = B := ⟨_, rfl⟩
  have hB0 : (D.all fun b => decide (b.stops.length ≤ 3)) = B := by rw [← hB]; simp [fitsB, z1, z2, z3, z4, z5]
  rw [hB]
  have gx := And.intro @c1 (And.intro @c2 (And.intro @c3 (And.intro @c4 (@c5))))
  refine goA ?_
  clear gx
  refine Wp.loopI (fun m fr σ => ∃ (i : Nat), ∃ gg : Nat → PD, (i + m = D.length ∧ ((D.drop i).all fun b => decide (b.stops.length ≤ 3)) = B) ∧ fr = [gg 0, .ptr 0 0, .bool false, .int .i64 i, gg 4, gg 5, gg 6, gg 7, gg 8, gg 9, gg 10, gg 11, gg 12, gg 13, gg 14, gg 15, gg 16, gg 17, gg 18, gg 19, gg 20, gg 21, gg 22, gg 23, gg 24, gg 25, gg 26, gg 27, gg 28, gg 29, gg 30, gg 31, gg 32, gg 33, gg 34, gg 35, gg 36, gg 37, gg 38, gg 39, gg 40, gg 41, gg 42, gg 43, gg 44, gg 45, gg 46] ∧ σ = [.box (.agg [.slice (sz 9 R) (R.map Em.rplan.emb) .any, .slice (sz 4 D) (D.map Em.board.emb) .any, .slice (sz 4 C) (C.map Em.link.emb) .any])]) ?_ (D.length) (by refine ⟨0, ?_⟩; exact exF (⟨by omega, hB0⟩) (by (first | rfl | (simp []; repeat (first | rfl | (apply And.intro))) | (simp []; done))) (by (first | rfl | (simp []; repeat (first | rfl | (apply And.intro))) | (simp []; done))))
  rintro m fr σ ⟨i, gg, hI, rfl, rfl⟩
  obtain ⟨hm, hs⟩ := hI
  by_cases hi : i < D.length
  · have q1 : (i : Int) < (D.length : Int) := by omega
    obtain ⟨b, hb⟩ : ∃ b, D[i] = b := ⟨_, rfl⟩
    have hc1 : D.drop i = b :: D.drop (i + 1) := by rw [List.drop_eq_getElem_cons hi, hb]
    rw [hc1, List.all_cons] at hs
    obtain ⟨b0, b1, b2, b3⟩ := b
    by_cases hl : 3 < (b3.length : Int)
    · have hz : ¬ b3.length ≤ 3 := by omega
      simp only [hz, decide_false, Bool.false_and] at hs
      have hB2 : B = false := hs.symm
      have gx := And.intro @q1 (And.intro @hi (And.intro @hb (@hl)))
      refine goA ?_
      clear gx
      simp (disch := first | omega | (simp; done) | (simp; omega)) [decide_eq_decide, hB2] <;> try rfl
    · have hz : b3.length ≤ 3 := by omega
      simp only [hz, decide_true, Bool.true_and] at hs
      have gx := And.intro @q1 (And.intro @hi (And.intro @hb (@hl)))
      refine goA ?_
      clear gx
      refine LoopI.normal (m - 1) (by omega) (by refine ⟨i + 1, ?_⟩; exact exF (⟨by omega, hs⟩) (by (first | rfl | (simp []; repeat (first | rfl | (apply And.intro))) | (simp []; done))) (by (first | rfl | (simp []; repeat (first | rfl | (apply And.intro))) | (simp []; done))))
  · have q1 : ¬ (i : Int) < (D.length : Int) := by omega
    rw [List.drop_eq_nil_of_le (by omega)] at hs
    have hB2 : B = true := hs.symm
    have gx := @q1
    refine goA ?_
    clear gx
    simp (disch := first | omega | (simp; done) | (simp; omega)) [decide_eq_decide, hB2] <;> try rfl
end Go.Kz

/-
  Layer 18: the organ of a plan, in plain words.
-/
namespace Go.Kz
instance : Inhabited RPlan := ⟨⟨0, 0, 0, 0, 0, 0, 0, 0, 0⟩⟩
instance : Inhabited PullD := ⟨⟨0, 0, 0, 0⟩⟩
instance : Inhabited BoardD := ⟨⟨0, 0, false, []⟩⟩
instance : Inhabited LinkD := ⟨⟨0, 0, 0, false⟩⟩
instance : Inhabited RankD := ⟨⟨[], [], 0, 0, 0, []⟩⟩
def feetSix : List (Int × Int) := [(8, 1), (4, 1), (16, 1), (8, 3), (2, 1), (8, 5)]
def feetAll : List (Int × Int) := [(8, 1), (4, 1), (16, 1), (2, 1), (8, 3), (8, 5), (4, 3), (1, 1), (32, 1), (16, 3), (16, 5), (32, 3), (8, 7), (2, 3), (1, 2), (64, 1)]
def sixAt (n : Int) : Int × Int := feetSix.getD (n % 6).toNat (8, 1)
def allAt (n : Int) : Int × Int := feetAll.getD (n % 16).toNat (8, 1)
def tones : List (List UInt8) := [[79, 112, 101, 110], [70, 108, 117, 116, 101], [82, 101, 101, 100]]
def toneAt (n : Int) : List UInt8 := tones.getD (n % 3).toNat []
def shiftTab : List ((Int × Int) × (Int × Int) × Int) := [((8, 1), (8, 1), 0), ((8, 1), (4, 1), -12), ((8, 1), (16, 1), 12), ((8, 1), (2, 1), -24), ((8, 1), (8, 3), -19), ((8, 1), (8, 5), -28), ((8, 1), (4, 3), -31), ((8, 1), (1, 1), -36), ((8, 1), (32, 1), 24), ((8, 1), (16, 3), -7), ((8, 1), (16, 5), -16), ((8, 1), (32, 3), 5), ((8, 1), (8, 7), -34), ((8, 1), (2, 3), -43), ((8, 1), (1, 2), -48), ((8, 1), (64, 1), 36), ((4, 1), (8, 1), 12), ((4, 1), (4, 1), 0), ((4, 1), (16, 1), 24), ((4, 1), (2, 1), -12), ((4, 1), (8, 3), -7), ((4, 1), (8, 5), -16), ((4, 1), (4, 3), -19), ((4, 1), (1, 1), -24), ((4, 1), (32, 1), 36), ((4, 1), (16, 3), 5), ((4, 1), (16, 5), -4), ((4, 1), (32, 3), 17), ((4, 1), (8, 7), -22), ((4, 1), (2, 3), -31), ((4, 1), (1, 2), -36), ((4, 1), (64, 1), 48), ((16, 1), (8, 1), -12), ((16, 1), (4, 1), -24), ((16, 1), (16, 1), 0), ((16, 1), (2, 1), -36), ((16, 1), (8, 3), -31), ((16, 1), (8, 5), -40), ((16, 1), (4, 3), -43), ((16, 1), (1, 1), -48), ((16, 1), (32, 1), 12), ((16, 1), (16, 3), -19), ((16, 1), (16, 5), -28), ((16, 1), (32, 3), -7), ((16, 1), (8, 7), -46), ((16, 1), (2, 3), -55), ((16, 1), (1, 2), -60), ((16, 1), (64, 1), 24), ((8, 3), (8, 1), 19), ((8, 3), (4, 1), 7), ((8, 3), (16, 1), 31), ((8, 3), (2, 1), -5), ((8, 3), (8, 3), 0), ((8, 3), (8, 5), -9), ((8, 3), (4, 3), -12), ((8, 3), (1, 1), -17), ((8, 3), (32, 1), 43), ((8, 3), (16, 3), 12), ((8, 3), (16, 5), 3), ((8, 3), (32, 3), 24), ((8, 3), (8, 7), -15), ((8, 3), (2, 3), -24), ((8, 3), (1, 2), -29), ((8, 3), (64, 1), 55), ((2, 1), (8, 1), 24), ((2, 1), (4, 1), 12), ((2, 1), (16, 1), 36), ((2, 1), (2, 1), 0), ((2, 1), (8, 3), 5), ((2, 1), (8, 5), -4), ((2, 1), (4, 3), -7), ((2, 1), (1, 1), -12), ((2, 1), (32, 1), 48), ((2, 1), (16, 3), 17), ((2, 1), (16, 5), 8), ((2, 1), (32, 3), 29), ((2, 1), (8, 7), -10), ((2, 1), (2, 3), -19), ((2, 1), (1, 2), -24), ((2, 1), (64, 1), 60), ((8, 5), (8, 1), 28), ((8, 5), (4, 1), 16), ((8, 5), (16, 1), 40), ((8, 5), (2, 1), 4), ((8, 5), (8, 3), 9), ((8, 5), (8, 5), 0), ((8, 5), (4, 3), -3), ((8, 5), (1, 1), -8), ((8, 5), (32, 1), 52), ((8, 5), (16, 3), 21), ((8, 5), (16, 5), 12), ((8, 5), (32, 3), 33), ((8, 5), (8, 7), -6), ((8, 5), (2, 3), -15), ((8, 5), (1, 2), -20), ((8, 5), (64, 1), 64)]
def shiftOf (f o : Int × Int) : Int := ((shiftTab.find? fun t => decide (t.1 = f) && decide (t.2.1 = o)).map (·.2.2)).getD 0
def windAt (x : RPlan) (k : Nat) : Int := [x.w0, x.w1, x.w2, x.w3, x.w4].getD (k % 5) 0
def windS (x : RPlan) (n : Nat) : List Int := (List.range n).map (windAt x)
def digit (i : Nat) : UInt8 := UInt8.ofNat (48 + i)
def rankS (x : RPlan) (i : Nat) : RankD := ⟨[82, digit (i % 10)], toneAt x.tone, (allAt x.feet).1, (allAt x.feet).2, x.first, windS x (1 + (x.pipes % 25).toNat)⟩
def ranksS (l : List RPlan) (n : Nat) : List RankD := (List.range n).map fun i => rankS (l.getD i default) i
def segsS (k n sh lo hi at_ m other : Int) : List SegD :=
  if k = 2 then [⟨lo, hi, [⟨n, sh⟩, ⟨n, sh + 7⟩]⟩]
  else if k = 3 ∨ k = 4 then (if lo < at_ then [⟨lo, at_ - 1, [⟨n, sh⟩]⟩] else []) ++ [⟨at_, hi, if k = 3 then [⟨m, other⟩] else [⟨n, sh - 12⟩]⟩]
  else if k = 5 then [⟨at_, hi, [⟨n, sh⟩]⟩]
  else [⟨lo, hi, [⟨n, sh⟩]⟩]
def feetOf (rs : List RankD) (n : Nat) : Int × Int := ((rs.getD n default).num, (rs.getD n default).den)
def pullS (rs : List RankD) (lo hi : Int) (x : PullD) (i : Nat) : StopD :=
  ⟨[83, digit i], (sixAt x.feet).1, (sixAt x.feet).2, segsS (x.kind % 6) (x.rank % rs.length) (shiftOf (sixAt x.feet) (feetOf rs (x.rank % rs.length).toNat)) lo hi (lo + x.at_ % (hi - lo + 1))
    ((x.rank % rs.length + 1) % rs.length) (shiftOf (sixAt x.feet) (feetOf rs ((x.rank % rs.length + 1) % rs.length).toNat))⟩
def pullsS (rs : List RankD) (lo hi : Int) (l : List PullD) (n : Nat) : List StopD := (List.range n).map fun i => pullS rs lo hi (l.getD i default) i
def boardS (rs : List RankD) (b : BoardD) (i : Nat) : DivD := ⟨[68, digit i], b.pedal, 36 + b.low % 12, 36 + b.low % 12 + b.keys % 9, pullsS rs (36 + b.low % 12) (36 + b.low % 12 + b.keys % 9) b.stops b.stops.length⟩
def boardsS (rs : List RankD) (l : List BoardD) (n : Nat) : List DivD := (List.range n).map fun i => boardS rs (l.getD i default) i
def linkS (n : Nat) (c : LinkD) (i : Nat) : CoupD :=
  ⟨[67, digit i], c.org % n, c.dst % n, if c.org % n = c.dst % n ∧ c.shift.tmod 25 = 0 then 12 else c.shift.tmod 25, c.thr⟩
def linksS (n : Nat) (l : List LinkD) (k : Nat) : List CoupD := (List.range k).map fun i => linkS n (l.getD i default) i
def organS (p : PlanD) : OrganD := ⟨[79, 114, 103, 97, 110], ranksS p.ranks p.ranks.length, boardsS (ranksS p.ranks p.ranks.length) p.divs p.divs.length, linksS p.divs.length p.coups p.coups.length⟩
end Go.Kz

/-
  Layer 18: the organ of a plan, walked: pitches.
-/
namespace Go.Kz
open Go Go.Proofs
set_option maxRecDepth 100000
set_option maxHeartbeats 4000000
def Em.feet : Em (Int × Int) := .agg (((EmC.one i64).pair (.one i64)).iso (fun r => (r.1, r.2)) (fun x y h => by cases x; cases y; simpa using h))
@[simp] theorem emb_feet {r : Int × Int} : Em.feet.emb r = .agg [.int .i64 r.1, .int .i64 r.2] := rfl
variable {E : PExt} (hU : Uni E)
include hU
theorem r_six (h0 : E 68 = none) (n : Int) (hn : okU8 n) : Run Tryz.prog E 68 [.int .u8 n] (Em.feet.emb (sixAt n)) := by
  obtain ⟨k, rfl⟩ : ∃ k : Nat, n = k := ⟨n.toNat, by have := hn.1; omega⟩
  have hm : (k : Int).tmod 6 = ((k % 6 : Nat) : Int) := rfl
  apply Run.bodyL h0 Tryz.func68 rfl
  focus (simp [show Tryz.f68.ntmps = _ from rfl, List.replicate]; rfl)
  have hlt : k % 6 < 6 := Nat.mod_lt _ (by decide)
  have hs : sixAt k = feetSix.getD (k % 6) (8, 1) := by
    unfold sixAt
    congr 1
  rw [hs]
  clear hs
  obtain ⟨j, hj⟩ : ∃ j, k % 6 = j := ⟨_, rfl⟩
  rw [hj] at hm hlt ⊢
  match j, hlt with
  | 0, _ =>
    have gx := @hm
    refine goA ?_
    clear gx
    exact ⟨_, _, rfl, rfl⟩
  | 1, _ =>
    have gx := @hm
    refine goA ?_
    clear gx
    exact ⟨_, _, rfl, rfl⟩
  | 2, _ =>
    have gx := @hm
    refine goA ?_
    clear gx
    exact ⟨_, _, rfl, rfl⟩
  | 3, _ =>
    have gx := @hm
    refine goA ?_
    clear gx
    exact ⟨_, _, rfl, rfl⟩
  | 4, _ =>
    have gx := @hm
    refine goA ?_
    clear gx
    exact ⟨_, _, rfl, rfl⟩
  | 5, _ =>
    have gx := @hm
    refine goA ?_
    clear gx
    exact ⟨_, _, rfl, rfl⟩
  | j + 6, h => exact absurd h (by omega)
theorem r_all (h0 : E 67 = none) (n : Int) (hn : okU8 n) : Run Tryz.prog E 67 [.int .u8 n] (Em.feet.emb (allAt n)) := by
  obtain ⟨k, rfl⟩ : ∃ k : Nat, n = k := ⟨n.toNat, by have := hn.1; omega⟩
  have hm : (k : Int).tmod 16 = ((k % 16 : Nat) : Int) := rfl
  apply Run.bodyL h0 Tryz.func67 rfl
  focus (simp [show Tryz.f67.ntmps = _ from rfl, List.replicate]; rfl)
  have hlt : k % 16 < 16 := Nat.mod_lt _ (by decide)
  have hs : allAt k = feetAll.getD (k % 16) (8, 1) := by
    unfold allAt
    congr 1
  rw [hs]
  clear hs
  obtain ⟨j, hj⟩ : ∃ j, k % 16 = j := ⟨_, rfl⟩
  rw [hj] at hm hlt ⊢
  match j, hlt with
  | 0, _ =>
    have gx := @hm
    refine goA ?_
    clear gx
    exact ⟨_, _, rfl, rfl⟩
  | 1, _ =>
    have gx := @hm
    refine goA ?_
    clear gx
    exact ⟨_, _, rfl, rfl⟩
  | 2, _ =>
    have gx := @hm
    refine goA ?_
    clear gx
    exact ⟨_, _, rfl, rfl⟩
  | 3, _ =>
    have gx := @hm
    refine goA ?_
    clear gx
    exact ⟨_, _, rfl, rfl⟩
  | 4, _ =>
    have gx := @hm
    refine goA ?_
    clear gx
    exact ⟨_, _, rfl, rfl⟩
  | 5, _ =>
    have gx := @hm
    refine goA ?_
    clear gx
    exact ⟨_, _, rfl, rfl⟩
  | 6, _ =>
    have gx := @hm
    refine goA ?_
    clear gx
    exact ⟨_, _, rfl, rfl⟩
  | 7, _ =>
    have gx := @hm
    refine goA ?_
    clear gx
    exact ⟨_, _, rfl, rfl⟩
  | 8, _ =>
    have gx := @hm
    refine goA ?_
    clear gx
    exact ⟨_, _, rfl, rfl⟩
  | 9, _ =>
    have gx := @hm
    refine goA ?_
    clear gx
    exact ⟨_, _, rfl, rfl⟩
  | 10, _ =>
    have gx := @hm
    refine goA ?_
    clear gx
    exact ⟨_, _, rfl, rfl⟩
  | 11, _ =>
    have gx := @hm
    refine goA ?_
    clear gx
    exact ⟨_, _, rfl, rfl⟩
  | 12, _ =>
    have gx := @hm
    refine goA ?_
    clear gx
    exact ⟨_, _, rfl, rfl⟩
  | 13, _ =>
    have gx := @hm
    refine goA ?_
    clear gx
    exact ⟨_, _, rfl, rfl⟩
  | 14, _ =>
    have gx := @hm
    refine goA ?_
    clear gx
    exact ⟨_, _, rfl, rfl⟩
  | 15, _ =>
    have gx := @hm
    refine goA ?_
    clear gx
    exact ⟨_, _, rfl, rfl⟩
  | j + 16, h => exact absurd h (by omega)
end Go.Kz

/-
  Layers 4, 14: names, compasses, the checks of numbers.
-/
namespace Go.Kz
open Go Go.Proofs
set_option maxRecDepth 100000
set_option maxHeartbeats 4000000
variable {E : PExt} (hU : Uni E)
include hU
end Go.Kz

/-
  Chapter 51: slices.Equal at ints, draws, couplers.
-/
namespace Go.Kz
open Go Go.Proofs
set_option maxRecDepth 100000
set_option maxHeartbeats 4000000
variable {E : PExt} (hU : Uni E)
include hU
theorem r_EqualI (h0 : E 70 = none) (l r : List Int) (hl : l.length ≤ 1000000) (hr : r.length ≤ 1000000) : Run Tryz.prog E 70 [(i64s).emb l, (i64s).emb r] (Em.bool.emb (decide (l = r))) := by
  apply Run.bodyL h0 Tryz.func70 rfl
  focus (simp [show Tryz.f70.ntmps = _ from rfl, List.replicate]; rfl)
  by_cases hq : l.length = r.length
  · have hq' : (l.length : Int) = (r.length : Int) := by omega
    obtain ⟨B, hB⟩ : ∃ B, decide (l = r) = B := ⟨_, rfl⟩
    rw [hB]
    have gx := And.intro @hq (@hq')
    refine goA ?_
    clear gx
    refine Wp.loopI (fun m fr σ => ∃ (i : Nat), ∃ gg : Nat → PD, (i + m = l.length ∧ decide (l.drop i = r.drop i) = B) ∧ fr = [(i64s).emb l, (i64s).emb r, gg 2, gg 3, .bool false, gg 5, gg 6, gg 7, gg 8, gg 9, gg 10, (i64s).emb l, .int .i64 l.length, .int .i64 i, gg 14, gg 15, gg 16, gg 17, gg 18, gg 19, gg 20, gg 21, gg 22, gg 23, gg 24, gg 25] ∧ σ = []) ?_ (l.length) (by refine ⟨0, ?_⟩; exact exF (⟨by omega, hB⟩) (by (first | rfl | (simp [hq]; repeat (first | rfl | (apply And.intro))) | (simp [hq]; done))) (by (first | rfl | (simp [hq]; repeat (first | rfl | (apply And.intro))) | (simp [hq]; done))))
    rintro m fr σ ⟨i, gg, hI, rfl, rfl⟩
    obtain ⟨hm, hs⟩ := hI
    by_cases hi : i < l.length
    · have q1 : (i : Int) < (l.length : Int) := by omega
      have hir : i < r.length := by omega
      have q2 : (i : Int) < (r.length : Int) := by omega
      obtain ⟨a, ha⟩ : ∃ a, l[i] = a := ⟨_, rfl⟩
      obtain ⟨b, hb⟩ : ∃ b, r[i] = b := ⟨_, rfl⟩
      have hc1 : l.drop i = a :: l.drop (i + 1) := by rw [List.drop_eq_getElem_cons hi, ha]
      have hc2 : r.drop i = b :: r.drop (i + 1) := by rw [List.drop_eq_getElem_cons hir, hb]
      rw [hc1, hc2, dec_cons2] at hs
      by_cases e : a = b
      · rw [decide_eq_true e, Bool.true_and] at hs
        have gx := And.intro @q1 (And.intro @q2 (And.intro @hi (And.intro @hir (And.intro @ha (And.intro @hb (@e))))))
        refine goA ?_
        clear gx
        refine LoopI.normal (m - 1) (by omega) (by refine ⟨i + 1, ?_⟩; exact exF (⟨by omega, hs⟩) (by (first | rfl | (simp []; repeat (first | rfl | (apply And.intro))) | (simp []; done))) (by (first | rfl | (simp []; repeat (first | rfl | (apply And.intro))) | (simp []; done))))
      · rw [decide_eq_false e, Bool.false_and] at hs
        have gx := And.intro @q1 (And.intro @q2 (And.intro @hi (And.intro @hir (And.intro @ha (And.intro @hb (@e))))))
        refine goA ?_
        clear gx
        simp (disch := first | omega | (simp; done) | (simp; omega)) [decide_eq_decide, hs] <;> try rfl
    · have q1 : ¬ (i : Int) < (l.length : Int) := by omega
      rw [List.drop_eq_nil_of_le (by omega), List.drop_eq_nil_of_le (by omega)] at hs
      have hB2 : B = true := hs.symm
      have gx := @q1
      refine goA ?_
      clear gx
      simp (disch := first | omega | (simp; done) | (simp; omega)) [decide_eq_decide, hB2] <;> try rfl
  · have hq' : ¬ (l.length : Int) = (r.length : Int) := by omega
    have hF := dec_len hq
    have gx := And.intro @hq (@hq')
    refine goA ?_
    clear gx
    simp (disch := first | omega | (simp; done) | (simp; omega)) [decide_eq_decide, hF] <;> try rfl

theorem r_EqualD (h0 : E 108 = none) (l r : List DrawD) (hl : l.length ≤ 1000000) (hr : r.length ≤ 1000000) : Run Tryz.prog E 108 [(drawsE).emb l, (drawsE).emb r] (Em.bool.emb (decide (l = r))) := by
  apply Run.bodyL h0 Tryz.func108 rfl
  focus (simp [show Tryz.f108.ntmps = _ from rfl, List.replicate]; rfl)
  by_cases hq : l.length = r.length
  · have hq' : (l.length : Int) = (r.length : Int) := by omega
    obtain ⟨B, hB⟩ : ∃ B, decide (l = r) = B := ⟨_, rfl⟩
    rw [hB]
    have gx := And.intro @hq (@hq')
    refine goA ?_
    clear gx
    refine Wp.loopI (fun m fr σ => ∃ (i : Nat), ∃ gg : Nat → PD, (i + m = l.length ∧ decide (l.drop i = r.drop i) = B) ∧ fr = [(drawsE).emb l, (drawsE).emb r, gg 2, gg 3, .bool false, gg 5, gg 6, gg 7, gg 8, gg 9, gg 10, (drawsE).emb l, .int .i64 l.length, .int .i64 i, gg 14, gg 15, gg 16, gg 17, gg 18, gg 19, gg 20, gg 21, gg 22, gg 23, gg 24, gg 25] ∧ σ = []) ?_ (l.length) (by refine ⟨0, ?_⟩; exact exF (⟨by omega, hB⟩) (by (first | rfl | (simp [hq]; repeat (first | rfl | (apply And.intro))) | (simp [hq]; done))) (by (first | rfl | (simp [hq]; repeat (first | rfl | (apply And.intro))) | (simp [hq]; done))))
    rintro m fr σ ⟨i, gg, hI, rfl, rfl⟩
    obtain ⟨hm, hs⟩ := hI
    by_cases hi : i < l.length
    · have q1 : (i : Int) < (l.length : Int) := by omega
      have hir : i < r.length := by omega
      have q2 : (i : Int) < (r.length : Int) := by omega
      obtain ⟨a, ha⟩ : ∃ a, l[i] = a := ⟨_, rfl⟩
      obtain ⟨b, hb⟩ : ∃ b, r[i] = b := ⟨_, rfl⟩
      have hc1 : l.drop i = a :: l.drop (i + 1) := by rw [List.drop_eq_getElem_cons hi, ha]
      have hc2 : r.drop i = b :: r.drop (i + 1) := by rw [List.drop_eq_getElem_cons hir, hb]
      rw [hc1, hc2, dec_cons2] at hs
      obtain ⟨a0, a1⟩ := a
      obtain ⟨b0, b1⟩ := b
      by_cases e0 : a0 = b0
      rotate_left
      · rw [show decide ((⟨a0, a1⟩ : DrawD) = ⟨b0, b1⟩) = false by simp [e0], Bool.false_and] at hs
        have gx := And.intro @q1 (And.intro @q2 (And.intro @hi (And.intro @hir (And.intro @ha (And.intro @hb (@e0))))))
        refine goA ?_
        clear gx
        simp (disch := first | omega | (simp; done) | (simp; omega)) [decide_eq_decide, hs] <;> try rfl
      by_cases e1 : a1 = b1
      rotate_left
      · rw [show decide ((⟨a0, a1⟩ : DrawD) = ⟨b0, b1⟩) = false by simp [e1], Bool.false_and] at hs
        have gx := And.intro @q1 (And.intro @q2 (And.intro @hi (And.intro @hir (And.intro @ha (And.intro @hb (And.intro @e0 (@e1)))))))
        refine goA ?_
        clear gx
        simp (disch := first | omega | (simp; done) | (simp; omega)) [decide_eq_decide, hs] <;> try rfl
      rw [show decide ((⟨a0, a1⟩ : DrawD) = ⟨b0, b1⟩) = true by simp [e0, e1], Bool.true_and] at hs
      have gx := And.intro @q1 (And.intro @q2 (And.intro @hi (And.intro @hir (And.intro @ha (And.intro @hb (And.intro @e0 (@e1)))))))
      refine goA ?_
      clear gx
      refine LoopI.normal (m - 1) (by omega) (by refine ⟨i + 1, ?_⟩; exact exF (⟨by omega, hs⟩) (by (first | rfl | (simp []; repeat (first | rfl | (apply And.intro))) | (simp []; done))) (by (first | rfl | (simp []; repeat (first | rfl | (apply And.intro))) | (simp []; done))))
    · have q1 : ¬ (i : Int) < (l.length : Int) := by omega
      rw [List.drop_eq_nil_of_le (by omega), List.drop_eq_nil_of_le (by omega)] at hs
      have hB2 : B = true := hs.symm
      have gx := @q1
      refine goA ?_
      clear gx
      simp (disch := first | omega | (simp; done) | (simp; omega)) [decide_eq_decide, hB2] <;> try rfl
  · have hq' : ¬ (l.length : Int) = (r.length : Int) := by omega
    have hF := dec_len hq
    have gx := And.intro @hq (@hq')
    refine goA ?_
    clear gx
    simp (disch := first | omega | (simp; done) | (simp; omega)) [decide_eq_decide, hF] <;> try rfl

theorem r_EqualC (h0 : E 36 = none) (l r : List CoupD) (hl : l.length ≤ 1000000) (hr : r.length ≤ 1000000) : Run Tryz.prog E 36 [(coupsE).emb l, (coupsE).emb r] (Em.bool.emb (decide (l = r))) := by
  apply Run.bodyL h0 Tryz.func36 rfl
  focus (simp [show Tryz.f36.ntmps = _ from rfl, List.replicate]; rfl)
  by_cases hq : l.length = r.length
  · have hq' : (l.length : Int) = (r.length : Int) := by omega
    obtain ⟨B, hB⟩ : ∃ B, decide (l = r) = B := ⟨_, rfl⟩
    rw [hB]
    have gx := And.intro @hq (@hq')
    refine goA ?_
    clear gx
    refine Wp.loopI (fun m fr σ => ∃ (i : Nat), ∃ gg : Nat → PD, (i + m = l.length ∧ decide (l.drop i = r.drop i) = B) ∧ fr = [(coupsE).emb l, (coupsE).emb r, gg 2, gg 3, .bool false, gg 5, gg 6, gg 7, gg 8, gg 9, gg 10, (coupsE).emb l, .int .i64 l.length, .int .i64 i, gg 14, gg 15, gg 16, gg 17, gg 18, gg 19, gg 20, gg 21, gg 22, gg 23, gg 24, gg 25] ∧ σ = []) ?_ (l.length) (by refine ⟨0, ?_⟩; exact exF (⟨by omega, hB⟩) (by (first | rfl | (simp [hq]; repeat (first | rfl | (apply And.intro))) | (simp [hq]; done))) (by (first | rfl | (simp [hq]; repeat (first | rfl | (apply And.intro))) | (simp [hq]; done))))
    rintro m fr σ ⟨i, gg, hI, rfl, rfl⟩
    obtain ⟨hm, hs⟩ := hI
    by_cases hi : i < l.length
    · have q1 : (i : Int) < (l.length : Int) := by omega
      have hir : i < r.length := by omega
      have q2 : (i : Int) < (r.length : Int) := by omega
      obtain ⟨a, ha⟩ : ∃ a, l[i] = a := ⟨_, rfl⟩
      obtain ⟨b, hb⟩ : ∃ b, r[i] = b := ⟨_, rfl⟩
      have hc1 : l.drop i = a :: l.drop (i + 1) := by rw [List.drop_eq_getElem_cons hi, ha]
      have hc2 : r.drop i = b :: r.drop (i + 1) := by rw [List.drop_eq_getElem_cons hir, hb]
      rw [hc1, hc2, dec_cons2] at hs
      obtain ⟨a0, a1, a2, a3, a4⟩ := a
      obtain ⟨b0, b1, b2, b3, b4⟩ := b
      by_cases e0 : a0 = b0
      rotate_left
      · rw [show decide ((⟨a0, a1, a2, a3, a4⟩ : CoupD) = ⟨b0, b1, b2, b3, b4⟩) = false by simp [e0], Bool.false_and] at hs
        have gx := And.intro @q1 (And.intro @q2 (And.intro @hi (And.intro @hir (And.intro @ha (And.intro @hb (@e0))))))
        refine goA ?_
        clear gx
        simp (disch := first | omega | (simp; done) | (simp; omega)) [decide_eq_decide, hs] <;> try rfl
      by_cases e1 : a1 = b1
      rotate_left
      · rw [show decide ((⟨a0, a1, a2, a3, a4⟩ : CoupD) = ⟨b0, b1, b2, b3, b4⟩) = false by simp [e1], Bool.false_and] at hs
        have gx := And.intro @q1 (And.intro @q2 (And.intro @hi (And.intro @hir (And.intro @ha (And.intro @hb (And.intro @e0 (@e1)))))))
        refine goA ?_
        clear gx
        simp (disch := first | omega | (simp; done) | (simp; omega)) [decide_eq_decide, hs] <;> try rfl
      by_cases e2 : a2 = b2
      rotate_left
      · rw [show decide ((⟨a0, a1, a2, a3, a4⟩ : CoupD) = ⟨b0, b1, b2, b3, b4⟩) = false by simp [e2], Bool.false_and] at hs
        have gx := And.intro @q1 (And.intro @q2 (And.intro @hi (And.intro @hir (And.intro @ha (And.intro @hb (And.intro @e0 (And.intro @e1 (@e2))))))))
        refine goA ?_
        clear gx
        simp (disch := first | omega | (simp; done) | (simp; omega)) [decide_eq_decide, hs] <;> try rfl
      by_cases e3 : a3 = b3
      rotate_left
      · rw [show decide ((⟨a0, a1, a2, a3, a4⟩ : CoupD) = ⟨b0, b1, b2, b3, b4⟩) = false by simp [e3], Bool.false_and] at hs
        have gx := And.intro @q1 (And.intro @q2 (And.intro @hi (And.intro @hir (And.intro @ha (And.intro @hb (And.intro @e0 (And.intro @e1 (And.intro @e2 (@e3)))))))))
        refine goA ?_
        clear gx
        simp (disch := first | omega | (simp; done) | (simp; omega)) [decide_eq_decide, hs] <;> try rfl
      by_cases e4 : a4 = b4
      rotate_left
      · rw [show decide ((⟨a0, a1, a2, a3, a4⟩ : CoupD) = ⟨b0, b1, b2, b3, b4⟩) = false by simp [e4], Bool.false_and] at hs
        have gx := And.intro @q1 (And.intro @q2 (And.intro @hi (And.intro @hir (And.intro @ha (And.intro @hb (And.intro @e0 (And.intro @e1 (And.intro @e2 (And.intro @e3 (@e4))))))))))
        refine goA ?_
        clear gx
        simp (disch := first | omega | (simp; done) | (simp; omega)) [decide_eq_decide, hs] <;> try rfl
      rw [show decide ((⟨a0, a1, a2, a3, a4⟩ : CoupD) = ⟨b0, b1, b2, b3, b4⟩) = true by simp [e0, e1, e2, e3, e4], Bool.true_and] at hs
      have gx := And.intro @q1 (And.intro @q2 (And.intro @hi (And.intro @hir (And.intro @ha (And.intro @hb (And.intro @e0 (And.intro @e1 (And.intro @e2 (And.intro @e3 (@e4))))))))))
      refine goA ?_
      clear gx
      refine LoopI.normal (m - 1) (by omega) (by refine ⟨i + 1, ?_⟩; exact exF (⟨by omega, hs⟩) (by (first | rfl | (simp []; repeat (first | rfl | (apply And.intro))) | (simp []; done))) (by (first | rfl | (simp []; repeat (first | rfl | (apply And.intro))) | (simp []; done))))
    · have q1 : ¬ (i : Int) < (l.length : Int) := by omega
      rw [List.drop_eq_nil_of_le (by omega), List.drop_eq_nil_of_le (by omega)] at hs
      have hB2 : B = true := hs.symm
      have gx := @q1
      refine goA ?_
      clear gx
      simp (disch := first | omega | (simp; done) | (simp; omega)) [decide_eq_decide, hB2] <;> try rfl
  · have hq' : ¬ (l.length : Int) = (r.length : Int) := by omega
    have hF := dec_len hq
    have gx := And.intro @hq (@hq')
    refine goA ?_
    clear gx
    simp (disch := first | omega | (simp; done) | (simp; omega)) [decide_eq_decide, hF] <;> try rfl

end Go.Kz

/-
  Chapter 51: slices.EqualFunc at ranks, divisions, stops, segments.
-/
namespace Go.Kz
open Go Go.Proofs
set_option maxRecDepth 100000
set_option maxHeartbeats 4000000
variable {E : PExt} (hU : Uni E)
include hU
theorem r_EqualFuncR (h0 : E 32 = none) (h1 : E 33 = some (eqE Em.rank okR)) (l r : List RankD) (hl : l.length ≤ 1000000 ∧ ∀ x ∈ l, okR x) (hr : r.length ≤ 1000000 ∧ ∀ x ∈ r, okR x) :
    Run Tryz.prog E 32 [(ranks).emb l, (ranks).emb r, .func 33 []] (Em.bool.emb (decide (l = r))) := by
  have hl1 := hl.1
  have hr1 := hr.1
  apply Run.bodyL h0 Tryz.func32 rfl
  focus (simp [show Tryz.f32.ntmps = _ from rfl, List.replicate]; rfl)
  by_cases hq : l.length = r.length
  · have hq' : (l.length : Int) = (r.length : Int) := by omega
    obtain ⟨B, hB⟩ : ∃ B, decide (l = r) = B := ⟨_, rfl⟩
    rw [hB]
    have gx := And.intro @hq (@hq')
    refine goA ?_
    clear gx
    refine Wp.loopI (fun m fr σ => ∃ (i : Nat) (σ1 : List SObj), ∃ gg : Nat → PD, (i + m = l.length ∧ decide (l.drop i = r.drop i) = B) ∧ fr = [(ranks).emb l, (ranks).emb r, .func 33 [], gg 3, gg 4, gg 5, .bool false, gg 7, gg 8, gg 9, (ranks).emb l, gg 11, gg 12, gg 13, gg 14, (ranks).emb l, .int .i64 l.length, .int .i64 i, gg 18, gg 19, gg 20, gg 21, gg 22, gg 23, gg 24, gg 25, gg 26, gg 27, gg 28, gg 29, gg 30, gg 31] ∧ σ = σ1) ?_ (l.length) (by refine ⟨0, [], ?_⟩; exact exF (⟨by omega, hB⟩) (by (first | rfl | (simp [hq]; repeat (first | rfl | (apply And.intro))) | (simp [hq]; done))) (by (first | rfl | (simp [hq]; repeat (first | rfl | (apply And.intro))) | (simp [hq]; done))))
    rintro m fr σ ⟨i, σ1, gg, hI, rfl, rfl⟩
    obtain ⟨hm, hs⟩ := hI
    by_cases hi : i < l.length
    · have q1 : (i : Int) < (l.length : Int) := by omega
      have hir : i < r.length := by omega
      obtain ⟨a, ha⟩ : ∃ a, l[i] = a := ⟨_, rfl⟩
      obtain ⟨b, hb⟩ : ∃ b, r[i] = b := ⟨_, rfl⟩
      have hc1 : l.drop i = a :: l.drop (i + 1) := by rw [List.drop_eq_getElem_cons hi, ha]
      have hc2 : r.drop i = b :: r.drop (i + 1) := by rw [List.drop_eq_getElem_cons hir, hb]
      rw [hc1, hc2, dec_cons2] at hs
      have j0 : ∀ x y : SObj, (σ ++ [x, y])[σ.length]? = some x := fun x y => by simp
      have j1 : ∀ x y : SObj, (σ ++ [x, y])[σ.length + 1]? = some y := fun x y => by simp
      have q2 : (i : Int) < (r.length : Int) := by omega
      have hE := fun fl σ => eqE_emb (a := Em.rank) (hl.2 a (ha ▸ List.getElem_mem hi)) (hr.2 b (hb ▸ List.getElem_mem hir)) fl σ
      by_cases hab : a = b
      rotate_left
      · rw [decide_eq_false hab, Bool.false_and] at hs
        rw [decide_eq_false hab] at hE
        simp only [emb_rank, emb_list] at hE
        have hB2 : B = false := hs.symm
        have gx := And.intro @q1 (And.intro @q2 (And.intro @hi (And.intro @hir (And.intro @ha (And.intro @hb (And.intro @j0 (@j1)))))))
        refine goA ?_
        clear gx
        first | refine Wp.seq ?_ | skip
        apply Wp.regionS
        repeat (first
          | (refine Fr.i ?_; simp only [pput, List.set_cons_zero, List.set_cons_succ]; try rfl)
          | (refine By.i ?_; (focus (simp (disch := first | omega | (simp; done) | (simp; omega)) [wrap_i64, wrap_u64, h1, hE, j0, j1]; first | done | rfl | exact ⟨rfl, rfl⟩)))
          | (refine By.i ?_; simp (disch := first | omega | (simp; done) | (simp; omega)) [wrap_i64, wrap_u64, h1, hE, j0, j1]; refine ⟨(by (try simp only [List.length_append, List.length_cons, List.length_nil, maxLen]); omega), rfl⟩)
          | (refine Wt.i ?_; first | rfl | (focus (simp [h1, hE, j0, j1]; done)))
          | (refine Ns.i ?_; (try simp only [List.append_nil, List.nil_append, List.cons_append, List.append_assoc, List.length_append, List.length_cons, List.length_nil, Nat.zero_add, Nat.reduceAdd]); rfl) | rfl
          | (apply SL.pass; (focus (refine Wt.i ?_; rfl))) | (apply SL.convertR; (focus rfl)) | apply SL.move | apply SL.assign | apply SL.load | apply SL.isnilE | apply SL.isnilN | apply SL.make | apply SL.binOp | apply SL.append
          | apply SL.copy | apply SL.builtin | apply SL.fieldAddr | apply SL.indexAddr | apply SL.field | apply SL.extract | apply SL.fcall | apply SL.pick | apply SL.store | apply SL.unOp | apply SL.convert | apply SL.index | apply SL.slice
          | apply SL.build | apply SL.nilCheck | apply SL.buildSlice | apply SL.box | apply SL.alloc | apply SL.makeFunc)
        apply SQ.nil
        have gx := @q1
        refine goA ?_
        clear gx
        simp (disch := first | omega | (simp; done) | (simp; omega)) [decide_eq_decide, hB2] <;> try rfl
      · rw [decide_eq_true hab, Bool.true_and] at hs
        rw [decide_eq_true hab] at hE
        simp only [emb_rank, emb_list] at hE
        have gx := And.intro @q1 (And.intro @q2 (And.intro @hi (And.intro @hir (And.intro @ha (And.intro @hb (And.intro @j0 (@j1)))))))
        refine goA ?_
        clear gx
        first | refine Wp.seq ?_ | skip
        apply Wp.regionS
        repeat (first
          | (refine Fr.i ?_; simp only [pput, List.set_cons_zero, List.set_cons_succ]; try rfl)
          | (refine By.i ?_; (focus (simp (disch := first | omega | (simp; done) | (simp; omega)) [wrap_i64, wrap_u64, h1, hE, j0, j1]; first | done | rfl | exact ⟨rfl, rfl⟩)))
          | (refine By.i ?_; simp (disch := first | omega | (simp; done) | (simp; omega)) [wrap_i64, wrap_u64, h1, hE, j0, j1]; refine ⟨(by (try simp only [List.length_append, List.length_cons, List.length_nil, maxLen]); omega), rfl⟩)
          | (refine Wt.i ?_; first | rfl | (focus (simp [h1, hE, j0, j1]; done)))
          | (refine Ns.i ?_; (try simp only [List.append_nil, List.nil_append, List.cons_append, List.append_assoc, List.length_append, List.length_cons, List.length_nil, Nat.zero_add, Nat.reduceAdd]); rfl) | rfl
          | (apply SL.pass; (focus (refine Wt.i ?_; rfl))) | (apply SL.convertR; (focus rfl)) | apply SL.move | apply SL.assign | apply SL.load | apply SL.isnilE | apply SL.isnilN | apply SL.make | apply SL.binOp | apply SL.append
          | apply SL.copy | apply SL.builtin | apply SL.fieldAddr | apply SL.indexAddr | apply SL.field | apply SL.extract | apply SL.fcall | apply SL.pick | apply SL.store | apply SL.unOp | apply SL.convert | apply SL.index | apply SL.slice
          | apply SL.build | apply SL.nilCheck | apply SL.buildSlice | apply SL.box | apply SL.alloc | apply SL.makeFunc)
        apply SQ.nil
        have gx := @q1
        refine goA ?_
        clear gx
        refine LoopI.normal (m - 1) (by omega) ⟨i + 1, _, exF (⟨by omega, hs⟩) (by (first | rfl | (simp []; repeat (first | rfl | (apply And.intro))) | (simp []; done))) (by (first | rfl | (simp []; repeat (first | rfl | (apply And.intro))) | (simp []; done)))⟩
    · have q1 : ¬ (i : Int) < (l.length : Int) := by omega
      rw [List.drop_eq_nil_of_le (by omega), List.drop_eq_nil_of_le (by omega)] at hs
      have hB2 : B = true := hs.symm
      have q2 : ¬ (i : Int) < (r.length : Int) := by omega
      have gx := And.intro @q1 (@q2)
      refine goA ?_
      clear gx
      simp (disch := first | omega | (simp; done) | (simp; omega)) [decide_eq_decide, hB2] <;> try rfl
  · have hq' : ¬ (l.length : Int) = (r.length : Int) := by omega
    have hF := dec_len hq
    have gx := And.intro @hq (@hq')
    refine goA ?_
    clear gx
    simp (disch := first | omega | (simp; done) | (simp; omega)) [decide_eq_decide, hF] <;> try rfl

theorem r_EqualFuncD (h0 : E 34 = none) (h1 : E 35 = some (eqE Em.div okD)) (l r : List DivD) (hl : l.length ≤ 1000000 ∧ ∀ x ∈ l, okD x) (hr : r.length ≤ 1000000 ∧ ∀ x ∈ r, okD x) :
    Run Tryz.prog E 34 [(divsE).emb l, (divsE).emb r, .func 35 []] (Em.bool.emb (decide (l = r))) := by
  have hl1 := hl.1
  have hr1 := hr.1
  apply Run.bodyL h0 Tryz.func34 rfl
  focus (simp [show Tryz.f34.ntmps = _ from rfl, List.replicate]; rfl)
  by_cases hq : l.length = r.length
  · have hq' : (l.length : Int) = (r.length : Int) := by omega
    obtain ⟨B, hB⟩ : ∃ B, decide (l = r) = B := ⟨_, rfl⟩
    rw [hB]
    have gx := And.intro @hq (@hq')
    refine goA ?_
    clear gx
    refine Wp.loopI (fun m fr σ => ∃ (i : Nat) (σ1 : List SObj), ∃ gg : Nat → PD, (i + m = l.length ∧ decide (l.drop i = r.drop i) = B) ∧ fr = [(divsE).emb l, (divsE).emb r, .func 35 [], gg 3, gg 4, gg 5, .bool false, gg 7, gg 8, gg 9, (divsE).emb l, gg 11, gg 12, gg 13, gg 14, (divsE).emb l, .int .i64 l.length, .int .i64 i, gg 18, gg 19, gg 20, gg 21, gg 22, gg 23, gg 24, gg 25, gg 26, gg 27, gg 28, gg 29, gg 30, gg 31] ∧ σ = σ1) ?_ (l.length) (by refine ⟨0, [], ?_⟩; exact exF (⟨by omega, hB⟩) (by (first | rfl | (simp [hq]; repeat (first | rfl | (apply And.intro))) | (simp [hq]; done))) (by (first | rfl | (simp [hq]; repeat (first | rfl | (apply And.intro))) | (simp [hq]; done))))
    rintro m fr σ ⟨i, σ1, gg, hI, rfl, rfl⟩
    obtain ⟨hm, hs⟩ := hI
    by_cases hi : i < l.length
    · have q1 : (i : Int) < (l.length : Int) := by omega
      have hir : i < r.length := by omega
      obtain ⟨a, ha⟩ : ∃ a, l[i] = a := ⟨_, rfl⟩
      obtain ⟨b, hb⟩ : ∃ b, r[i] = b := ⟨_, rfl⟩
      have hc1 : l.drop i = a :: l.drop (i + 1) := by rw [List.drop_eq_getElem_cons hi, ha]
      have hc2 : r.drop i = b :: r.drop (i + 1) := by rw [List.drop_eq_getElem_cons hir, hb]
      rw [hc1, hc2, dec_cons2] at hs
      have j0 : ∀ x y : SObj, (σ ++ [x, y])[σ.length]? = some x := fun x y => by simp
      have j1 : ∀ x y : SObj, (σ ++ [x, y])[σ.length + 1]? = some y := fun x y => by simp
      have q2 : (i : Int) < (r.length : Int) := by omega
      have hE := fun fl σ => eqE_emb (a := Em.div) (hl.2 a (ha ▸ List.getElem_mem hi)) (hr.2 b (hb ▸ List.getElem_mem hir)) fl σ
      by_cases hab : a = b
      rotate_left
      · rw [decide_eq_false hab, Bool.false_and] at hs
        rw [decide_eq_false hab] at hE
        simp only [emb_div, emb_list] at hE
        have hB2 : B = false := hs.symm
        have gx := And.intro @q1 (And.intro @q2 (And.intro @hi (And.intro @hir (And.intro @ha (And.intro @hb (And.intro @j0 (@j1)))))))
        refine goA ?_
        clear gx
        first | refine Wp.seq ?_ | skip
        apply Wp.regionS
        repeat (first
          | (refine Fr.i ?_; simp only [pput, List.set_cons_zero, List.set_cons_succ]; try rfl)
          | (refine By.i ?_; (focus (simp (disch := first | omega | (simp; done) | (simp; omega)) [wrap_i64, wrap_u64, h1, hE, j0, j1]; first | done | rfl | exact ⟨rfl, rfl⟩)))
          | (refine By.i ?_; simp (disch := first | omega | (simp; done) | (simp; omega)) [wrap_i64, wrap_u64, h1, hE, j0, j1]; refine ⟨(by (try simp only [List.length_append, List.length_cons, List.length_nil, maxLen]); omega), rfl⟩)
          | (refine Wt.i ?_; first | rfl | (focus (simp [h1, hE, j0, j1]; done)))
          | (refine Ns.i ?_; (try simp only [List.append_nil, List.nil_append, List.cons_append, List.append_assoc, List.length_append, List.length_cons, List.length_nil, Nat.zero_add, Nat.reduceAdd]); rfl) | rfl
          | (apply SL.pass; (focus (refine Wt.i ?_; rfl))) | (apply SL.convertR; (focus rfl)) | apply SL.move | apply SL.assign | apply SL.load | apply SL.isnilE | apply SL.isnilN | apply SL.make | apply SL.binOp | apply SL.append
          | apply SL.copy | apply SL.builtin | apply SL.fieldAddr | apply SL.indexAddr | apply SL.field | apply SL.extract | apply SL.fcall | apply SL.pick | apply SL.store | apply SL.unOp | apply SL.convert | apply SL.index | apply SL.slice
          | apply SL.build | apply SL.nilCheck | apply SL.buildSlice | apply SL.box | apply SL.alloc | apply SL.makeFunc)
        apply SQ.nil
        have gx := @q1
        refine goA ?_
        clear gx
        simp (disch := first | omega | (simp; done) | (simp; omega)) [decide_eq_decide, hB2] <;> try rfl
      · rw [decide_eq_true hab, Bool.true_and] at hs
        rw [decide_eq_true hab] at hE
        simp only [emb_div, emb_list] at hE
        have gx := And.intro @q1 (And.intro @q2 (And.intro @hi (And.intro @hir (And.intro @ha (And.intro @hb (And.intro @j0 (@j1)))))))
        refine goA ?_
        clear gx
        first | refine Wp.seq ?_ | skip
        apply Wp.regionS
        repeat (first
          | (refine Fr.i ?_; simp only [pput, List.set_cons_zero, List.set_cons_succ]; try rfl)
          | (refine By.i ?_; (focus (simp (disch := first | omega | (simp; done) | (simp; omega)) [wrap_i64, wrap_u64, h1, hE, j0, j1]; first | done | rfl | exact ⟨rfl, rfl⟩)))
          | (refine By.i ?_; simp (disch := first | omega | (simp; done) | (simp; omega)) [wrap_i64, wrap_u64, h1, hE, j0, j1]; refine ⟨(by (try simp only [List.length_append, List.length_cons, List.length_nil, maxLen]); omega), rfl⟩)
          | (refine Wt.i ?_; first | rfl | (focus (simp [h1, hE, j0, j1]; done)))
          | (refine Ns.i ?_; (try simp only [List.append_nil, List.nil_append, List.cons_append, List.append_assoc, List.length_append, List.length_cons, List.length_nil, Nat.zero_add, Nat.reduceAdd]); rfl) | rfl
          | (apply SL.pass; (focus (refine Wt.i ?_; rfl))) | (apply SL.convertR; (focus rfl)) | apply SL.move | apply SL.assign | apply SL.load | apply SL.isnilE | apply SL.isnilN | apply SL.make | apply SL.binOp | apply SL.append
          | apply SL.copy | apply SL.builtin | apply SL.fieldAddr | apply SL.indexAddr | apply SL.field | apply SL.extract | apply SL.fcall | apply SL.pick | apply SL.store | apply SL.unOp | apply SL.convert | apply SL.index | apply SL.slice
          | apply SL.build | apply SL.nilCheck | apply SL.buildSlice | apply SL.box | apply SL.alloc | apply SL.makeFunc)
        apply SQ.nil
        have gx := @q1
        refine goA ?_
        clear gx
        refine LoopI.normal (m - 1) (by omega) ⟨i + 1, _, exF (⟨by omega, hs⟩) (by (first | rfl | (simp []; repeat (first | rfl | (apply And.intro))) | (simp []; done))) (by (first | rfl | (simp []; repeat (first | rfl | (apply And.intro))) | (simp []; done)))⟩
    · have q1 : ¬ (i : Int) < (l.length : Int) := by omega
      rw [List.drop_eq_nil_of_le (by omega), List.drop_eq_nil_of_le (by omega)] at hs
      have hB2 : B = true := hs.symm
      have q2 : ¬ (i : Int) < (r.length : Int) := by omega
      have gx := And.intro @q1 (@q2)
      refine goA ?_
      clear gx
      simp (disch := first | omega | (simp; done) | (simp; omega)) [decide_eq_decide, hB2] <;> try rfl
  · have hq' : ¬ (l.length : Int) = (r.length : Int) := by omega
    have hF := dec_len hq
    have gx := And.intro @hq (@hq')
    refine goA ?_
    clear gx
    simp (disch := first | omega | (simp; done) | (simp; omega)) [decide_eq_decide, hF] <;> try rfl

theorem r_EqualFuncS (h0 : E 71 = none) (h1 : E 72 = some (eqE Em.stop okS)) (l r : List StopD) (hl : l.length ≤ 1000000 ∧ ∀ x ∈ l, okS x) (hr : r.length ≤ 1000000 ∧ ∀ x ∈ r, okS x) :
    Run Tryz.prog E 71 [(stopsE).emb l, (stopsE).emb r, .func 72 []] (Em.bool.emb (decide (l = r))) := by
  have hl1 := hl.1
  have hr1 := hr.1
  apply Run.bodyL h0 Tryz.func71 rfl
  focus (simp [show Tryz.f71.ntmps = _ from rfl, List.replicate]; rfl)
  by_cases hq : l.length = r.length
  · have hq' : (l.length : Int) = (r.length : Int) := by omega
    obtain ⟨B, hB⟩ : ∃ B, decide (l = r) = B := ⟨_, rfl⟩
    rw [hB]
    have gx := And.intro @hq (@hq')
    refine goA ?_
    clear gx
    refine Wp.loopI (fun m fr σ => ∃ (i : Nat) (σ1 : List SObj), ∃ gg : Nat → PD, (i + m = l.length ∧ decide (l.drop i = r.drop i) = B) ∧ fr = [(stopsE).emb l, (stopsE).emb r, .func 72 [], gg 3, gg 4, gg 5, .bool false, gg 7, gg 8, gg 9, (stopsE).emb l, gg 11, gg 12, gg 13, gg 14, (stopsE).emb l, .int .i64 l.length, .int .i64 i, gg 18, gg 19, gg 20, gg 21, gg 22, gg 23, gg 24, gg 25, gg 26, gg 27, gg 28, gg 29, gg 30, gg 31] ∧ σ = σ1) ?_ (l.length) (by refine ⟨0, [], ?_⟩; exact exF (⟨by omega, hB⟩) (by (first | rfl | (simp [hq]; repeat (first | rfl | (apply And.intro))) | (simp [hq]; done))) (by (first | rfl | (simp [hq]; repeat (first | rfl | (apply And.intro))) | (simp [hq]; done))))
    rintro m fr σ ⟨i, σ1, gg, hI, rfl, rfl⟩
    obtain ⟨hm, hs⟩ := hI
    by_cases hi : i < l.length
    · have q1 : (i : Int) < (l.length : Int) := by omega
      have hir : i < r.length := by omega
      obtain ⟨a, ha⟩ : ∃ a, l[i] = a := ⟨_, rfl⟩
      obtain ⟨b, hb⟩ : ∃ b, r[i] = b := ⟨_, rfl⟩
      have hc1 : l.drop i = a :: l.drop (i + 1) := by rw [List.drop_eq_getElem_cons hi, ha]
      have hc2 : r.drop i = b :: r.drop (i + 1) := by rw [List.drop_eq_getElem_cons hir, hb]
      rw [hc1, hc2, dec_cons2] at hs
      have j0 : ∀ x y : SObj, (σ ++ [x, y])[σ.length]? = some x := fun x y => by simp
      have j1 : ∀ x y : SObj, (σ ++ [x, y])[σ.length + 1]? = some y := fun x y => by simp
      have q2 : (i : Int) < (r.length : Int) := by omega
      have hE := fun fl σ => eqE_emb (a := Em.stop) (hl.2 a (ha ▸ List.getElem_mem hi)) (hr.2 b (hb ▸ List.getElem_mem hir)) fl σ
      by_cases hab : a = b
      rotate_left
      · rw [decide_eq_false hab, Bool.false_and] at hs
        rw [decide_eq_false hab] at hE
        simp only [emb_stop, emb_list] at hE
        have hB2 : B = false := hs.symm
        have gx := And.intro @q1 (And.intro @q2 (And.intro @hi (And.intro @hir (And.intro @ha (And.intro @hb (And.intro @j0 (@j1)))))))
        refine goA ?_
        clear gx
        first | refine Wp.seq ?_ | skip
        apply Wp.regionS
        repeat (first
          | (refine Fr.i ?_; simp only [pput, List.set_cons_zero, List.set_cons_succ]; try rfl)
          | (refine By.i ?_; (focus (simp (disch := first | omega | (simp; done) | (simp; omega)) [wrap_i64, wrap_u64, h1, hE, j0, j1]; first | done | rfl | exact ⟨rfl, rfl⟩)))
          | (refine By.i ?_; simp (disch := first | omega | (simp; done) | (simp; omega)) [wrap_i64, wrap_u64, h1, hE, j0, j1]; refine ⟨(by (try simp only [List.length_append, List.length_cons, List.length_nil, maxLen]); omega), rfl⟩)
          | (refine Wt.i ?_; first | rfl | (focus (simp [h1, hE, j0, j1]; done)))
          | (refine Ns.i ?_; (try simp only [List.append_nil, List.nil_append, List.cons_append, List.append_assoc, List.length_append, List.length_cons, List.length_nil, Nat.zero_add, Nat.reduceAdd]); rfl) | rfl
          | (apply SL.pass; (focus (refine Wt.i ?_; rfl))) | (apply SL.convertR; (focus rfl)) | apply SL.move | apply SL.assign | apply SL.load | apply SL.isnilE | apply SL.isnilN | apply SL.make | apply SL.binOp | apply SL.append
          | apply SL.copy | apply SL.builtin | apply SL.fieldAddr | apply SL.indexAddr | apply SL.field | apply SL.extract | apply SL.fcall | apply SL.pick | apply SL.store | apply SL.unOp | apply SL.convert | apply SL.index | apply SL.slice
          | apply SL.build | apply SL.nilCheck | apply SL.buildSlice | apply SL.box | apply SL.alloc | apply SL.makeFunc)
        apply SQ.nil
        have gx := @q1
        refine goA ?_
        clear gx
        simp (disch := first | omega | (simp; done) | (simp; omega)) [decide_eq_decide, hB2] <;> try rfl
      · rw [decide_eq_true hab, Bool.true_and] at hs
        rw [decide_eq_true hab] at hE
        simp only [emb_stop, emb_list] at hE
        have gx := And.intro @q1 (And.intro @q2 (And.intro @hi (And.intro @hir (And.intro @ha (And.intro @hb (And.intro @j0 (@j1)))))))
        refine goA ?_
        clear gx
        first | refine Wp.seq ?_ | skip
        apply Wp.regionS
        repeat (first
          | (refine Fr.i ?_; simp only [pput, List.set_cons_zero, List.set_cons_succ]; try rfl)
          | (refine By.i ?_; (focus (simp (disch := first | omega | (simp; done) | (simp; omega)) [wrap_i64, wrap_u64, h1, hE, j0, j1]; first | done | rfl | exact ⟨rfl, rfl⟩)))
          | (refine By.i ?_; simp (disch := first | omega | (simp; done) | (simp; omega)) [wrap_i64, wrap_u64, h1, hE, j0, j1]; refine ⟨(by (try simp only [List.length_append, List.length_cons, List.length_nil, maxLen]); omega), rfl⟩)
          | (refine Wt.i ?_; first | rfl | (focus (simp [h1, hE, j0, j1]; done)))
          | (refine Ns.i ?_; (try simp only [List.append_nil, List.nil_append, List.cons_append, List.append_assoc, List.length_append, List.length_cons, List.length_nil, Nat.zero_add, Nat.reduceAdd]); rfl) | rfl
          | (apply SL.pass; (focus (refine Wt.i ?_; rfl))) | (apply SL.convertR; (focus rfl)) | apply SL.move | apply SL.assign | apply SL.load | apply SL.isnilE | apply SL.isnilN | apply SL.make | apply SL.binOp | apply SL.append
          | apply SL.copy | apply SL.builtin | apply SL.fieldAddr | apply SL.indexAddr | apply SL.field | apply SL.extract | apply SL.fcall | apply SL.pick | apply SL.store | apply SL.unOp | apply SL.convert | apply SL.index | apply SL.slice
          | apply SL.build | apply SL.nilCheck | apply SL.buildSlice | apply SL.box | apply SL.alloc | apply SL.makeFunc)
        apply SQ.nil
        have gx := @q1
        refine goA ?_
        clear gx
        refine LoopI.normal (m - 1) (by omega) ⟨i + 1, _, exF (⟨by omega, hs⟩) (by (first | rfl | (simp []; repeat (first | rfl | (apply And.intro))) | (simp []; done))) (by (first | rfl | (simp []; repeat (first | rfl | (apply And.intro))) | (simp []; done)))⟩
    · have q1 : ¬ (i : Int) < (l.length : Int) := by omega
      rw [List.drop_eq_nil_of_le (by omega), List.drop_eq_nil_of_le (by omega)] at hs
      have hB2 : B = true := hs.symm
      have q2 : ¬ (i : Int) < (r.length : Int) := by omega
      have gx := And.intro @q1 (@q2)
      refine goA ?_
      clear gx
      simp (disch := first | omega | (simp; done) | (simp; omega)) [decide_eq_decide, hB2] <;> try rfl
  · have hq' : ¬ (l.length : Int) = (r.length : Int) := by omega
    have hF := dec_len hq
    have gx := And.intro @hq (@hq')
    refine goA ?_
    clear gx
    simp (disch := first | omega | (simp; done) | (simp; omega)) [decide_eq_decide, hF] <;> try rfl

theorem r_EqualFuncG (h0 : E 106 = none) (h1 : E 107 = some (eqE Em.seg okG)) (l r : List SegD) (hl : l.length ≤ 1000000 ∧ ∀ x ∈ l, okG x) (hr : r.length ≤ 1000000 ∧ ∀ x ∈ r, okG x) :
    Run Tryz.prog E 106 [(segsE).emb l, (segsE).emb r, .func 107 []] (Em.bool.emb (decide (l = r))) := by
  have hl1 := hl.1
  have hr1 := hr.1
  apply Run.bodyL h0 Tryz.func106 rfl
  focus (simp [show Tryz.f106.ntmps = _ from rfl, List.replicate]; rfl)
  by_cases hq : l.length = r.length
  · have hq' : (l.length : Int) = (r.length : Int) := by omega
    obtain ⟨B, hB⟩ : ∃ B, decide (l = r) = B := ⟨_, rfl⟩
    rw [hB]
    have gx := And.intro @hq (@hq')
    refine goA ?_
    clear gx
    refine Wp.loopI (fun m fr σ => ∃ (i : Nat) (σ1 : List SObj), ∃ gg : Nat → PD, (i + m = l.length ∧ decide (l.drop i = r.drop i) = B) ∧ fr = [(segsE).emb l, (segsE).emb r, .func 107 [], gg 3, gg 4, gg 5, .bool false, gg 7, gg 8, gg 9, (segsE).emb l, gg 11, gg 12, gg 13, gg 14, (segsE).emb l, .int .i64 l.length, .int .i64 i, gg 18, gg 19, gg 20, gg 21, gg 22, gg 23, gg 24, gg 25, gg 26, gg 27, gg 28, gg 29, gg 30, gg 31] ∧ σ = σ1) ?_ (l.length) (by refine ⟨0, [], ?_⟩; exact exF (⟨by omega, hB⟩) (by (first | rfl | (simp [hq]; repeat (first | rfl | (apply And.intro))) | (simp [hq]; done))) (by (first | rfl | (simp [hq]; repeat (first | rfl | (apply And.intro))) | (simp [hq]; done))))
    rintro m fr σ ⟨i, σ1, gg, hI, rfl, rfl⟩
    obtain ⟨hm, hs⟩ := hI
    by_cases hi : i < l.length
    · have q1 : (i : Int) < (l.length : Int) := by omega
      have hir : i < r.length := by omega
      obtain ⟨a, ha⟩ : ∃ a, l[i] = a := ⟨_, rfl⟩
      obtain ⟨b, hb⟩ : ∃ b, r[i] = b := ⟨_, rfl⟩
      have hc1 : l.drop i = a :: l.drop (i + 1) := by rw [List.drop_eq_getElem_cons hi, ha]
      have hc2 : r.drop i = b :: r.drop (i + 1) := by rw [List.drop_eq_getElem_cons hir, hb]
      rw [hc1, hc2, dec_cons2] at hs
      have j0 : ∀ x y : SObj, (σ ++ [x, y])[σ.length]? = some x := fun x y => by simp
      have j1 : ∀ x y : SObj, (σ ++ [x, y])[σ.length + 1]? = some y := fun x y => by simp
      have q2 : (i : Int) < (r.length : Int) := by omega
      have hE := fun fl σ => eqE_emb (a := Em.seg) (hl.2 a (ha ▸ List.getElem_mem hi)) (hr.2 b (hb ▸ List.getElem_mem hir)) fl σ
      by_cases hab : a = b
      rotate_left
      · rw [decide_eq_false hab, Bool.false_and] at hs
        rw [decide_eq_false hab] at hE
        simp only [emb_seg, emb_list] at hE
        have hB2 : B = false := hs.symm
        have gx := And.intro @q1 (And.intro @q2 (And.intro @hi (And.intro @hir (And.intro @ha (And.intro @hb (And.intro @j0 (@j1)))))))
        refine goA ?_
        clear gx
        first | refine Wp.seq ?_ | skip
        apply Wp.regionS
        repeat (first
          | (refine Fr.i ?_; simp only [pput, List.set_cons_zero, List.set_cons_succ]; try rfl)
          | (refine By.i ?_; (focus (simp (disch := first | omega | (simp; done) | (simp; omega)) [wrap_i64, wrap_u64, h1, hE, j0, j1]; first | done | rfl | exact ⟨rfl, rfl⟩)))
          | (refine By.i ?_; simp (disch := first | omega | (simp; done) | (simp; omega)) [wrap_i64, wrap_u64, h1, hE, j0, j1]; refine ⟨(by (try simp only [List.length_append, List.length_cons, List.length_nil, maxLen]); omega), rfl⟩)
          | (refine Wt.i ?_; first | rfl | (focus (simp [h1, hE, j0, j1]; done)))
          | (refine Ns.i ?_; (try simp only [List.append_nil, List.nil_append, List.cons_append, List.append_assoc, List.length_append, List.length_cons, List.length_nil, Nat.zero_add, Nat.reduceAdd]); rfl) | rfl
          | (apply SL.pass; (focus (refine Wt.i ?_; rfl))) | (apply SL.convertR; (focus rfl)) | apply SL.move | apply SL.assign | apply SL.load | apply SL.isnilE | apply SL.isnilN | apply SL.make | apply SL.binOp | apply SL.append
          | apply SL.copy | apply SL.builtin | apply SL.fieldAddr | apply SL.indexAddr | apply SL.field | apply SL.extract | apply SL.fcall | apply SL.pick | apply SL.store | apply SL.unOp | apply SL.convert | apply SL.index | apply SL.slice
          | apply SL.build | apply SL.nilCheck | apply SL.buildSlice | apply SL.box | apply SL.alloc | apply SL.makeFunc)
        apply SQ.nil
        have gx := @q1
        refine goA ?_
        clear gx
        simp (disch := first | omega | (simp; done) | (simp; omega)) [decide_eq_decide, hB2] <;> try rfl
      · rw [decide_eq_true hab, Bool.true_and] at hs
        rw [decide_eq_true hab] at hE
        simp only [emb_seg, emb_list] at hE
        have gx := And.intro @q1 (And.intro @q2 (And.intro @hi (And.intro @hir (And.intro @ha (And.intro @hb (And.intro @j0 (@j1)))))))
        refine goA ?_
        clear gx
        first | refine Wp.seq ?_ | skip
        apply Wp.regionS
        repeat (first
          | (refine Fr.i ?_; simp only [pput, List.set_cons_zero, List.set_cons_succ]; try rfl)
          | (refine By.i ?_; (focus (simp (disch := first | omega | (simp; done) | (simp; omega)) [wrap_i64, wrap_u64, h1, hE, j0, j1]; first | done | rfl | exact ⟨rfl, rfl⟩)))
          | (refine By.i ?_; simp (disch := first | omega | (simp; done) | (simp; omega)) [wrap_i64, wrap_u64, h1, hE, j0, j1]; refine ⟨(by (try simp only [List.length_append, List.length_cons, List.length_nil, maxLen]); omega), rfl⟩)
          | (refine Wt.i ?_; first | rfl | (focus (simp [h1, hE, j0, j1]; done)))
          | (refine Ns.i ?_; (try simp only [List.append_nil, List.nil_append, List.cons_append, List.append_assoc, List.length_append, List.length_cons, List.length_nil, Nat.zero_add, Nat.reduceAdd]); rfl) | rfl
          | (apply SL.pass; (focus (refine Wt.i ?_; rfl))) | (apply SL.convertR; (focus rfl)) | apply SL.move | apply SL.assign | apply SL.load | apply SL.isnilE | apply SL.isnilN | apply SL.make | apply SL.binOp | apply SL.append
          | apply SL.copy | apply SL.builtin | apply SL.fieldAddr | apply SL.indexAddr | apply SL.field | apply SL.extract | apply SL.fcall | apply SL.pick | apply SL.store | apply SL.unOp | apply SL.convert | apply SL.index | apply SL.slice
          | apply SL.build | apply SL.nilCheck | apply SL.buildSlice | apply SL.box | apply SL.alloc | apply SL.makeFunc)
        apply SQ.nil
        have gx := @q1
        refine goA ?_
        clear gx
        refine LoopI.normal (m - 1) (by omega) ⟨i + 1, _, exF (⟨by omega, hs⟩) (by (first | rfl | (simp []; repeat (first | rfl | (apply And.intro))) | (simp []; done))) (by (first | rfl | (simp []; repeat (first | rfl | (apply And.intro))) | (simp []; done)))⟩
    · have q1 : ¬ (i : Int) < (l.length : Int) := by omega
      rw [List.drop_eq_nil_of_le (by omega), List.drop_eq_nil_of_le (by omega)] at hs
      have hB2 : B = true := hs.symm
      have q2 : ¬ (i : Int) < (r.length : Int) := by omega
      have gx := And.intro @q1 (@q2)
      refine goA ?_
      clear gx
      simp (disch := first | omega | (simp; done) | (simp; omega)) [decide_eq_decide, hB2] <;> try rfl
  · have hq' : ¬ (l.length : Int) = (r.length : Int) := by omega
    have hF := dec_len hq
    have gx := And.intro @hq (@hq')
    refine goA ?_
    clear gx
    simp (disch := first | omega | (simp; done) | (simp; omega)) [decide_eq_decide, hF] <;> try rfl

end Go.Kz

/-
  Chapter 51: ranks, segments, stops, divisions, organs are the same: the program.
-/
namespace Go.Kz
open Go Go.Proofs
set_option maxRecDepth 100000
set_option maxHeartbeats 4000000
variable {E : PExt} (hU : Uni E)
include hU
theorem r_rankEqual (h0 : E 33 = none) (h1 : E 70 = some (eqE i64s okI)) (a b : RankD) (hx : okR a) (hy : okR b) : Run Tryz.prog E 33 [Em.rank.emb a, Em.rank.emb b] (Em.bool.emb (decide (a = b))) := by
  obtain ⟨a0, a1, a2, a3, a4, a5⟩ := a
  obtain ⟨b0, b1, b2, b3, b4, b5⟩ := b
  simp only [emb_rank, emb_list]
  apply Run.bodyL h0 Tryz.func33 rfl
  focus (simp [show Tryz.f33.ntmps = _ from rfl, List.replicate]; rfl)
  by_cases e0 : a0 = b0
  rotate_left
  · have f0 : (a0 == b0) = false := by simpa using e0
    have gx := And.intro @h1 (And.intro @e0 (@f0))
    refine goA ?_
    clear gx
    simp (disch := first | omega | (simp; done) | (simp; omega)) [decide_eq_decide, RankD.mk.injEq, e0] <;> try rfl
  by_cases e1 : a1 = b1
  rotate_left
  · have f1 : (a1 == b1) = false := by simpa using e1
    have gx := And.intro @h1 (And.intro @e0 (And.intro @e1 (@f1)))
    refine goA ?_
    clear gx
    simp (disch := first | omega | (simp; done) | (simp; omega)) [decide_eq_decide, RankD.mk.injEq, e1] <;> try rfl
  by_cases e2 : a2 = b2
  rotate_left
  · have gx := And.intro @h1 (And.intro @e0 (And.intro @e1 (@e2)))
    refine goA ?_
    clear gx
    simp (disch := first | omega | (simp; done) | (simp; omega)) [decide_eq_decide, RankD.mk.injEq, e2] <;> try rfl
  by_cases e3 : a3 = b3
  rotate_left
  · have gx := And.intro @h1 (And.intro @e0 (And.intro @e1 (And.intro @e2 (@e3))))
    refine goA ?_
    clear gx
    simp (disch := first | omega | (simp; done) | (simp; omega)) [decide_eq_decide, RankD.mk.injEq, e3] <;> try rfl
  by_cases e4 : a4 = b4
  rotate_left
  · have gx := And.intro @h1 (And.intro @e0 (And.intro @e1 (And.intro @e2 (And.intro @e3 (@e4)))))
    refine goA ?_
    clear gx
    simp (disch := first | omega | (simp; done) | (simp; omega)) [decide_eq_decide, RankD.mk.injEq, e4] <;> try rfl
  have l5 := fun fl σ => eqE_emb (a := i64s) (R := okI) (x := a5) (y := b5) (hx) (hy) fl σ
  simp only [emb_list] at l5
  obtain ⟨B5, hB5⟩ : ∃ B, decide (a5 = b5) = B := ⟨_, rfl⟩
  rw [hB5] at l5
  have gx := And.intro @h1 (And.intro @e0 (And.intro @e1 (And.intro @e2 (And.intro @e3 (And.intro @e4 (@l5))))))
  refine goA ?_
  clear gx
  simp (disch := first | omega | (simp; done) | (simp; omega)) [decide_eq_decide, RankD.mk.injEq, e0, e1, e2, e3, e4, hB5] <;> try rfl

theorem r_segEqual (h0 : E 107 = none) (h1 : E 108 = some (eqE drawsE okDs)) (a b : SegD) (hx : okG a) (hy : okG b) : Run Tryz.prog E 107 [Em.seg.emb a, Em.seg.emb b] (Em.bool.emb (decide (a = b))) := by
  obtain ⟨a0, a1, a2⟩ := a
  obtain ⟨b0, b1, b2⟩ := b
  simp only [emb_seg, emb_list]
  apply Run.bodyL h0 Tryz.func107 rfl
  focus (simp [show Tryz.f107.ntmps = _ from rfl, List.replicate]; rfl)
  by_cases e0 : a0 = b0
  rotate_left
  · have gx := And.intro @h1 (@e0)
    refine goA ?_
    clear gx
    simp (disch := first | omega | (simp; done) | (simp; omega)) [decide_eq_decide, SegD.mk.injEq, e0] <;> try rfl
  by_cases e1 : a1 = b1
  rotate_left
  · have gx := And.intro @h1 (And.intro @e0 (@e1))
    refine goA ?_
    clear gx
    simp (disch := first | omega | (simp; done) | (simp; omega)) [decide_eq_decide, SegD.mk.injEq, e1] <;> try rfl
  have l2 := fun fl σ => eqE_emb (a := drawsE) (R := okDs) (x := a2) (y := b2) (hx) (hy) fl σ
  simp only [emb_list] at l2
  obtain ⟨B2, hB2⟩ : ∃ B, decide (a2 = b2) = B := ⟨_, rfl⟩
  rw [hB2] at l2
  have gx := And.intro @h1 (And.intro @e0 (And.intro @e1 (@l2)))
  refine goA ?_
  clear gx
  simp (disch := first | omega | (simp; done) | (simp; omega)) [decide_eq_decide, SegD.mk.injEq, e0, e1, hB2] <;> try rfl

theorem r_stopEqual (h0 : E 72 = none) (h1 : E 106 = some (eqF segsE okGs 107)) (a b : StopD) (hx : okS a) (hy : okS b) : Run Tryz.prog E 72 [Em.stop.emb a, Em.stop.emb b] (Em.bool.emb (decide (a = b))) := by
  obtain ⟨a0, a1, a2, a3⟩ := a
  obtain ⟨b0, b1, b2, b3⟩ := b
  simp only [emb_stop, emb_list]
  apply Run.bodyL h0 Tryz.func72 rfl
  focus (simp [show Tryz.f72.ntmps = _ from rfl, List.replicate]; rfl)
  by_cases e0 : a0 = b0
  rotate_left
  · have f0 : (a0 == b0) = false := by simpa using e0
    have gx := And.intro @h1 (And.intro @eqF_eq (And.intro @e0 (@f0)))
    refine goA ?_
    clear gx
    simp (disch := first | omega | (simp; done) | (simp; omega)) [decide_eq_decide, StopD.mk.injEq, e0] <;> try rfl
  by_cases e1 : a1 = b1
  rotate_left
  · have gx := And.intro @h1 (And.intro @eqF_eq (And.intro @e0 (@e1)))
    refine goA ?_
    clear gx
    simp (disch := first | omega | (simp; done) | (simp; omega)) [decide_eq_decide, StopD.mk.injEq, e1] <;> try rfl
  by_cases e2 : a2 = b2
  rotate_left
  · have gx := And.intro @h1 (And.intro @eqF_eq (And.intro @e0 (And.intro @e1 (@e2))))
    refine goA ?_
    clear gx
    simp (disch := first | omega | (simp; done) | (simp; omega)) [decide_eq_decide, StopD.mk.injEq, e2] <;> try rfl
  have l3 := fun fl σ => eqE_emb (a := segsE) (R := okGs) (x := a3) (y := b3) (hx) (hy) fl σ
  simp only [emb_list] at l3
  obtain ⟨B3, hB3⟩ : ∃ B, decide (a3 = b3) = B := ⟨_, rfl⟩
  rw [hB3] at l3
  have gx := And.intro @h1 (And.intro @eqF_eq (And.intro @e0 (And.intro @e1 (And.intro @e2 (@l3)))))
  refine goA ?_
  clear gx
  simp (disch := first | omega | (simp; done) | (simp; omega)) [decide_eq_decide, StopD.mk.injEq, e0, e1, e2, hB3] <;> try rfl

theorem r_divEqual (h0 : E 35 = none) (h1 : E 71 = some (eqF stopsE okSs 72)) (a b : DivD) (hx : okD a) (hy : okD b) : Run Tryz.prog E 35 [Em.div.emb a, Em.div.emb b] (Em.bool.emb (decide (a = b))) := by
  obtain ⟨a0, a1, a2, a3, a4⟩ := a
  obtain ⟨b0, b1, b2, b3, b4⟩ := b
  simp only [emb_div, emb_list]
  apply Run.bodyL h0 Tryz.func35 rfl
  focus (simp [show Tryz.f35.ntmps = _ from rfl, List.replicate]; rfl)
  by_cases e0 : a0 = b0
  rotate_left
  · have f0 : (a0 == b0) = false := by simpa using e0
    have gx := And.intro @h1 (And.intro @eqF_eq (And.intro @e0 (@f0)))
    refine goA ?_
    clear gx
    simp (disch := first | omega | (simp; done) | (simp; omega)) [decide_eq_decide, DivD.mk.injEq, e0] <;> try rfl
  by_cases e1 : a1 = b1
  rotate_left
  · have f1 : (a1 == b1) = false := by simpa using e1
    have gx := And.intro @h1 (And.intro @eqF_eq (And.intro @e0 (And.intro @e1 (@f1))))
    refine goA ?_
    clear gx
    simp (disch := first | omega | (simp; done) | (simp; omega)) [decide_eq_decide, DivD.mk.injEq, e1] <;> try rfl
  by_cases e2 : a2 = b2
  rotate_left
  · have gx := And.intro @h1 (And.intro @eqF_eq (And.intro @e0 (And.intro @e1 (@e2))))
    refine goA ?_
    clear gx
    simp (disch := first | omega | (simp; done) | (simp; omega)) [decide_eq_decide, DivD.mk.injEq, e2] <;> try rfl
  by_cases e3 : a3 = b3
  rotate_left
  · have gx := And.intro @h1 (And.intro @eqF_eq (And.intro @e0 (And.intro @e1 (And.intro @e2 (@e3)))))
    refine goA ?_
    clear gx
    simp (disch := first | omega | (simp; done) | (simp; omega)) [decide_eq_decide, DivD.mk.injEq, e3] <;> try rfl
  have l4 := fun fl σ => eqE_emb (a := stopsE) (R := okSs) (x := a4) (y := b4) (hx) (hy) fl σ
  simp only [emb_list] at l4
  obtain ⟨B4, hB4⟩ : ∃ B, decide (a4 = b4) = B := ⟨_, rfl⟩
  rw [hB4] at l4
  have gx := And.intro @h1 (And.intro @eqF_eq (And.intro @e0 (And.intro @e1 (And.intro @e2 (And.intro @e3 (@l4))))))
  refine goA ?_
  clear gx
  simp (disch := first | omega | (simp; done) | (simp; omega)) [decide_eq_decide, DivD.mk.injEq, e0, e1, e2, e3, hB4] <;> try rfl

theorem r_Equal (h0 : E 14 = none) (h1 : E 32 = some (eqF ranks okRs 33)) (h2 : E 34 = some (eqF divsE okDd 35)) (h3 : E 36 = some (eqE coupsE okCs)) (a b : OrganD) (hx : okO a) (hy : okO b) : Run Tryz.prog E 14 [Em.organ.emb a, Em.organ.emb b] (Em.bool.emb (decide (a = b))) := by
  obtain ⟨a0, a1, a2, a3⟩ := a
  obtain ⟨b0, b1, b2, b3⟩ := b
  simp only [emb_organ, emb_list]
  apply Run.bodyL h0 Tryz.func14 rfl
  focus (simp [show Tryz.f14.ntmps = _ from rfl, List.replicate]; rfl)
  by_cases e0 : a0 = b0
  rotate_left
  · have f0 : (a0 == b0) = false := by simpa using e0
    have gx := And.intro @h1 (And.intro @h2 (And.intro @h3 (And.intro @eqF_eq (And.intro @e0 (@f0)))))
    refine goA ?_
    clear gx
    simp (disch := first | omega | (simp; done) | (simp; omega)) [decide_eq_decide, OrganD.mk.injEq, e0] <;> try rfl
  have l1 := fun fl σ => eqE_emb (a := ranks) (R := okRs) (x := a1) (y := b1) (hx.1) (hy.1) fl σ
  simp only [emb_list] at l1
  obtain ⟨B1, hB1⟩ : ∃ B, decide (a1 = b1) = B := ⟨_, rfl⟩
  rw [hB1] at l1
  cases B1 with
  | false =>
    have e1 : ¬ a1 = b1 := by simpa using hB1
    have gx := And.intro @h1 (And.intro @h2 (And.intro @h3 (And.intro @eqF_eq (And.intro @e0 (@l1)))))
    refine goA ?_
    clear gx
    simp (disch := first | omega | (simp; done) | (simp; omega)) [decide_eq_decide, OrganD.mk.injEq, e1] <;> try rfl
  | true =>
  have e1 : a1 = b1 := by simpa using hB1
  have l2 := fun fl σ => eqE_emb (a := divsE) (R := okDd) (x := a2) (y := b2) (hx.2.1) (hy.2.1) fl σ
  simp only [emb_list] at l2
  obtain ⟨B2, hB2⟩ : ∃ B, decide (a2 = b2) = B := ⟨_, rfl⟩
  rw [hB2] at l2
  cases B2 with
  | false =>
    have e2 : ¬ a2 = b2 := by simpa using hB2
    have gx := And.intro @h1 (And.intro @h2 (And.intro @h3 (And.intro @eqF_eq (And.intro @e0 (And.intro @l1 (@l2))))))
    refine goA ?_
    clear gx
    simp (disch := first | omega | (simp; done) | (simp; omega)) [decide_eq_decide, OrganD.mk.injEq, e2] <;> try rfl
  | true =>
  have e2 : a2 = b2 := by simpa using hB2
  have l3 := fun fl σ => eqE_emb (a := coupsE) (R := okCs) (x := a3) (y := b3) (hx.2.2) (hy.2.2) fl σ
  simp only [emb_list] at l3
  obtain ⟨B3, hB3⟩ : ∃ B, decide (a3 = b3) = B := ⟨_, rfl⟩
  rw [hB3] at l3
  have gx := And.intro @h1 (And.intro @h2 (And.intro @h3 (And.intro @eqF_eq (And.intro @e0 (And.intro @l1 (And.intro @l2 (@l3)))))))
  refine goA ?_
  clear gx
  simp (disch := first | omega | (simp; done) | (simp; omega)) [decide_eq_decide, OrganD.mk.injEq, e0, e1, e2, hB3] <;> try rfl

end Go.Kz

/-
  Layers 14, 15, 51: two organs are the same: the model.
-/
namespace Go.Kz
open Go Go.Proofs
set_option maxRecDepth 100000
set_option maxHeartbeats 4000000
variable {E : PExt} (hU : Uni E)
include hU
theorem r_sameDraws (h0 : E 88 = none) (l r : List DrawD) (hl : l.length ≤ 1000000) (hr : r.length ≤ 1000000) : Run Tryz.prog E 88 [drawsE.emb l, drawsE.emb r] (Em.bool.emb (decide (l = r))) := by
  apply Run.bodyL h0 Tryz.func88 rfl
  focus (simp [show Tryz.f88.ntmps = _ from rfl, List.replicate]; rfl)
  by_cases hq : l.length = r.length
  · have hq' : (l.length : Int) = (r.length : Int) := by omega
    obtain ⟨B, hB⟩ : ∃ B, decide (l = r) = B := ⟨_, rfl⟩
    rw [hB]
    have gx := And.intro @hq (@hq')
    refine goA ?_
    clear gx
    refine Wp.loopI (fun m fr σ => ∃ (i : Nat), ∃ gg : Nat → PD, (i + m = l.length ∧ decide (l.drop i = r.drop i) = B) ∧ fr = [drawsE.emb l, drawsE.emb r, gg 2, gg 3, .bool false, .int .i64 i, gg 6, gg 7, gg 8, gg 9, gg 10, gg 11, gg 12, gg 13, gg 14, gg 15, gg 16, gg 17, gg 18, gg 19, gg 20, gg 21, gg 22, gg 23, gg 24, gg 25] ∧ σ = []) ?_ (l.length) (by refine ⟨0, ?_⟩; exact exF (⟨by omega, hB⟩) (by (first | rfl | (simp [hq]; repeat (first | rfl | (apply And.intro))) | (simp [hq]; done))) (by (first | rfl | (simp [hq]; repeat (first | rfl | (apply And.intro))) | (simp [hq]; done))))
    rintro m fr σ ⟨i, gg, hI, rfl, rfl⟩
    obtain ⟨hm, hs⟩ := hI
    by_cases hi : i < l.length
    · have q1 : (i : Int) < (l.length : Int) := by omega
      have hir : i < r.length := by omega
      have q2 : (i : Int) < (r.length : Int) := by omega
      obtain ⟨a, ha⟩ : ∃ a, l[i] = a := ⟨_, rfl⟩
      obtain ⟨b, hb⟩ : ∃ b, r[i] = b := ⟨_, rfl⟩
      have hc1 : l.drop i = a :: l.drop (i + 1) := by rw [List.drop_eq_getElem_cons hi, ha]
      have hc2 : r.drop i = b :: r.drop (i + 1) := by rw [List.drop_eq_getElem_cons hir, hb]
      rw [hc1, hc2, dec_cons2] at hs
      obtain ⟨a0, a1⟩ := a
      obtain ⟨b0, b1⟩ := b
      by_cases e0 : a0 = b0
      rotate_left
      · rw [show decide ((⟨a0, a1⟩ : DrawD) = ⟨b0, b1⟩) = false by simp [e0], Bool.false_and] at hs
        have gx := And.intro @q1 (And.intro @q2 (And.intro @hi (And.intro @hir (And.intro @ha (And.intro @hb (@e0))))))
        refine goA ?_
        clear gx
        simp (disch := first | omega | (simp; done) | (simp; omega)) [decide_eq_decide, hs] <;> try rfl
      by_cases e1 : a1 = b1
      rotate_left
      · rw [show decide ((⟨a0, a1⟩ : DrawD) = ⟨b0, b1⟩) = false by simp [e1], Bool.false_and] at hs
        have gx := And.intro @q1 (And.intro @q2 (And.intro @hi (And.intro @hir (And.intro @ha (And.intro @hb (And.intro @e0 (@e1)))))))
        refine goA ?_
        clear gx
        simp (disch := first | omega | (simp; done) | (simp; omega)) [decide_eq_decide, hs] <;> try rfl
      rw [show decide ((⟨a0, a1⟩ : DrawD) = ⟨b0, b1⟩) = true by simp [e0, e1], Bool.true_and] at hs
      have gx := And.intro @q1 (And.intro @q2 (And.intro @hi (And.intro @hir (And.intro @ha (And.intro @hb (And.intro @e0 (@e1)))))))
      refine goA ?_
      clear gx
      refine LoopI.normal (m - 1) (by omega) (by refine ⟨i + 1, ?_⟩; exact exF (⟨by omega, hs⟩) (by (first | rfl | (simp []; repeat (first | rfl | (apply And.intro))) | (simp []; done))) (by (first | rfl | (simp []; repeat (first | rfl | (apply And.intro))) | (simp []; done))))
    · have q1 : ¬ (i : Int) < (l.length : Int) := by omega
      rw [List.drop_eq_nil_of_le (by omega), List.drop_eq_nil_of_le (by omega)] at hs
      have hB2 : B = true := hs.symm
      have gx := @q1
      refine goA ?_
      clear gx
      simp (disch := first | omega | (simp; done) | (simp; omega)) [decide_eq_decide, hB2] <;> try rfl
  · have hq' : ¬ (l.length : Int) = (r.length : Int) := by omega
    have hF := dec_len hq
    have gx := And.intro @hq (@hq')
    refine goA ?_
    clear gx
    simp (disch := first | omega | (simp; done) | (simp; omega)) [decide_eq_decide, hF] <;> try rfl
theorem r_rankSame (h0 : E 37 = none) (a b : RankD) (hx : okR a) (hy : okR b) : Run Tryz.prog E 37 [Em.rank.emb a, Em.rank.emb b] (Em.bool.emb (decide (a = b))) := by
  obtain ⟨a0, a1, a2, a3, a4, a5⟩ := a
  obtain ⟨b0, b1, b2, b3, b4, b5⟩ := b
  simp only [emb_rank, emb_list]
  apply Run.bodyL h0 Tryz.func37 rfl
  focus (simp [show Tryz.f37.ntmps = _ from rfl, List.replicate]; rfl)
  by_cases e0 : a0 = b0
  rotate_left
  · have f0 : (a0 == b0) = false := by simpa using e0
    have gx := And.intro @e0 (@f0)
    refine goA ?_
    clear gx
    simp (disch := first | omega | (simp; done) | (simp; omega)) [decide_eq_decide, RankD.mk.injEq, e0] <;> try rfl
  by_cases e1 : a1 = b1
  rotate_left
  · have f1 : (a1 == b1) = false := by simpa using e1
    have gx := And.intro @e0 (And.intro @e1 (@f1))
    refine goA ?_
    clear gx
    simp (disch := first | omega | (simp; done) | (simp; omega)) [decide_eq_decide, RankD.mk.injEq, e1] <;> try rfl
  by_cases e2 : a2 = b2
  rotate_left
  · have gx := And.intro @e0 (And.intro @e1 (@e2))
    refine goA ?_
    clear gx
    simp (disch := first | omega | (simp; done) | (simp; omega)) [decide_eq_decide, RankD.mk.injEq, e2] <;> try rfl
  by_cases e3 : a3 = b3
  rotate_left
  · have gx := And.intro @e0 (And.intro @e1 (And.intro @e2 (@e3)))
    refine goA ?_
    clear gx
    simp (disch := first | omega | (simp; done) | (simp; omega)) [decide_eq_decide, RankD.mk.injEq, e3] <;> try rfl
  by_cases e4 : a4 = b4
  rotate_left
  · have gx := And.intro @e0 (And.intro @e1 (And.intro @e2 (And.intro @e3 (@e4))))
    refine goA ?_
    clear gx
    simp (disch := first | omega | (simp; done) | (simp; omega)) [decide_eq_decide, RankD.mk.injEq, e4] <;> try rfl
  by_cases hq : a5.length = b5.length
  rotate_left
  · have hq' : ¬ (a5.length : Int) = (b5.length : Int) := by omega
    have hF := dec_len hq
    have hne : ¬ a5 = b5 := by simpa using hF
    have gx := And.intro @e0 (And.intro @e1 (And.intro @e2 (And.intro @e3 (And.intro @e4 (And.intro @hq (@hq'))))))
    refine goA ?_
    clear gx
    simp (disch := first | omega | (simp; done) | (simp; omega)) [decide_eq_decide, RankD.mk.injEq, hne] <;> try rfl
  have hq' : (a5.length : Int) = (b5.length : Int) := by omega
  have hx1 : a5.length ≤ 1000000 := hx
  obtain ⟨B, hB⟩ : ∃ B, decide (a5 = b5) = B := ⟨_, rfl⟩
  rw [show decide ((⟨a0, a1, a2, a3, a4, a5⟩ : RankD) = ⟨b0, b1, b2, b3, b4, b5⟩) = B by rw [← hB]; simp [e0, e1, e2, e3, e4]]
  have gx := And.intro @e0 (And.intro @e1 (And.intro @e2 (And.intro @e3 (And.intro @e4 (And.intro @hq (@hq'))))))
  refine goA ?_
  clear gx
  refine Wp.loopI (fun m fr σ => ∃ (i : Nat), ∃ gg : Nat → PD, (i + m = a5.length ∧ decide (a5.drop i = b5.drop i) = B) ∧ fr = [gg 0, gg 1, .ptr 0 0, .ptr 1 0, .bool false, .int .i64 i, gg 6, gg 7, gg 8, gg 9, gg 10, gg 11, gg 12, gg 13, gg 14, gg 15, gg 16, gg 17, gg 18, gg 19, gg 20, gg 21, gg 22, gg 23, gg 24, gg 25, gg 26, gg 27, gg 28, gg 29, gg 30, gg 31, gg 32, gg 33, gg 34, gg 35, gg 36, gg 37, gg 38, gg 39, gg 40, gg 41, gg 42, gg 43, gg 44, gg 45, gg 46, gg 47, gg 48, gg 49, gg 50, gg 51, gg 52, gg 53, gg 54, gg 55, gg 56, gg 57, gg 58] ∧ σ = [.box (.agg [.str a0, .str a1, .int .i64 a2, .int .i64 a3, .int .i64 a4, .slice (sz 1 a5) (a5.map i64.emb) .any]), .box (.agg [.str b0, .str b1, .int .i64 b2, .int .i64 b3, .int .i64 b4, .slice (sz 1 b5) (b5.map i64.emb) .any])]) ?_ (a5.length) (by refine ⟨0, ?_⟩; exact exF (⟨by omega, hB⟩) (by (first | rfl | (simp [hq]; repeat (first | rfl | (apply And.intro))) | (simp [hq]; done))) (by (first | rfl | (simp [hq]; repeat (first | rfl | (apply And.intro))) | (simp [hq]; done))))
  rintro m fr σ ⟨i, gg, hI, rfl, rfl⟩
  obtain ⟨hm, hs⟩ := hI
  by_cases hi : i < a5.length
  · have q1 : (i : Int) < (a5.length : Int) := by omega
    have hir : i < b5.length := by omega
    have q2 : (i : Int) < (b5.length : Int) := by omega
    obtain ⟨a, ha⟩ : ∃ a, a5[i] = a := ⟨_, rfl⟩
    obtain ⟨b, hb⟩ : ∃ b, b5[i] = b := ⟨_, rfl⟩
    have hc1 : a5.drop i = a :: a5.drop (i + 1) := by rw [List.drop_eq_getElem_cons hi, ha]
    have hc2 : b5.drop i = b :: b5.drop (i + 1) := by rw [List.drop_eq_getElem_cons hir, hb]
    rw [hc1, hc2, dec_cons2] at hs
    by_cases e : a = b
    · rw [decide_eq_true e, Bool.true_and] at hs
      have gx := And.intro @q1 (And.intro @q2 (And.intro @hi (And.intro @hir (And.intro @ha (And.intro @hb (@e))))))
      refine goA ?_
      clear gx
      refine LoopI.normal (m - 1) (by omega) (by refine ⟨i + 1, ?_⟩; exact exF (⟨by omega, hs⟩) (by (first | rfl | (simp []; repeat (first | rfl | (apply And.intro))) | (simp []; done))) (by (first | rfl | (simp []; repeat (first | rfl | (apply And.intro))) | (simp []; done))))
    · rw [decide_eq_false e, Bool.false_and] at hs
      have gx := And.intro @q1 (And.intro @q2 (And.intro @hi (And.intro @hir (And.intro @ha (And.intro @hb (@e))))))
      refine goA ?_
      clear gx
      simp (disch := first | omega | (simp; done) | (simp; omega)) [decide_eq_decide, hs] <;> try rfl
  · have q1 : ¬ (i : Int) < (a5.length : Int) := by omega
    rw [List.drop_eq_nil_of_le (by omega), List.drop_eq_nil_of_le (by omega)] at hs
    have hB2 : B = true := hs.symm
    have gx := @q1
    refine goA ?_
    clear gx
    simp (disch := first | omega | (simp; done) | (simp; omega)) [decide_eq_decide, hB2] <;> try rfl
end Go.Kz

/-
  Layers 15, 51: stops, divisions, organs are the same: the model.
-/
namespace Go.Kz
open Go Go.Proofs
set_option maxRecDepth 100000
set_option maxHeartbeats 4000000
variable {E : PExt} (hU : Uni E)
include hU
theorem r_stopSame (h0 : E 57 = none) (h1 : E 88 = some (eqE drawsE okDs)) (a b : StopD) (hx : okS a) (hy : okS b) : Run Tryz.prog E 57 [Em.stop.emb a, Em.stop.emb b] (Em.bool.emb (decide (a = b))) := by
  obtain ⟨a0, a1, a2, a3⟩ := a
  obtain ⟨b0, b1, b2, b3⟩ := b
  simp only [emb_stop, emb_list]
  apply Run.bodyL h0 Tryz.func57 rfl
  focus (simp [show Tryz.f57.ntmps = _ from rfl, List.replicate]; rfl)
  by_cases e0 : a0 = b0
  rotate_left
  · have f0 : (a0 == b0) = false := by simpa using e0
    have gx := And.intro @e0 (@f0)
    refine goA ?_
    clear gx
    simp (disch := first | omega | (simp; done) | (simp; omega)) [decide_eq_decide, StopD.mk.injEq, e0] <;> try rfl
  by_cases e1 : a1 = b1
  rotate_left
  · have gx := And.intro @e0 (@e1)
    refine goA ?_
    clear gx
    simp (disch := first | omega | (simp; done) | (simp; omega)) [decide_eq_decide, StopD.mk.injEq, e1] <;> try rfl
  by_cases e2 : a2 = b2
  rotate_left
  · have gx := And.intro @e0 (And.intro @e1 (@e2))
    refine goA ?_
    clear gx
    simp (disch := first | omega | (simp; done) | (simp; omega)) [decide_eq_decide, StopD.mk.injEq, e2] <;> try rfl
  by_cases hq : a3.length = b3.length
  rotate_left
  · have hq' : ¬ (a3.length : Int) = (b3.length : Int) := by omega
    have hF := dec_len hq
    have hne : ¬ a3 = b3 := by simpa using hF
    have gx := And.intro @e0 (And.intro @e1 (And.intro @e2 (And.intro @hq (@hq'))))
    refine goA ?_
    clear gx
    simp (disch := first | omega | (simp; done) | (simp; omega)) [decide_eq_decide, StopD.mk.injEq, hne] <;> try rfl
  have hq' : (a3.length : Int) = (b3.length : Int) := by omega
  obtain ⟨B, hB⟩ : ∃ B, decide (a3 = b3) = B := ⟨_, rfl⟩
  rw [show decide ((⟨a0, a1, a2, a3⟩ : StopD) = ⟨b0, b1, b2, b3⟩) = B by rw [← hB]; simp [e0, e1, e2]]
  have hx1 : a3.length ≤ 1000000 := hx.1
  have gx := And.intro @e0 (And.intro @e1 (And.intro @e2 (And.intro @hq (@hq'))))
  refine goA ?_
  clear gx
  refine Wp.loopI (fun m fr σ => ∃ (i : Nat) (σ1 : List SObj), ∃ gg : Nat → PD, (i + m = a3.length ∧ decide (a3.drop i = b3.drop i) = B) ∧ fr = gg 0 :: gg 1 :: .ptr 0 0 :: .ptr 1 0 :: .bool false :: .int .i64 i :: gg 6 :: gg 7 :: gg 8 :: gg 9 :: gg 10 :: gg 11 :: gg 12 :: gg 13 :: gg 14 :: gg 15 :: gg 16 :: gg 17 :: gg 18 :: gg 19 :: gg 20 :: gg 21 :: gg 22 :: gg 23 :: gg 24 :: gg 25 :: gg 26 :: gg 27 :: gg 28 :: gg 29 :: gg 30 :: gg 31 :: gg 32 :: gg 33 :: gg 34 :: gg 35 :: gg 36 :: gg 37 :: gg 38 :: gg 39 :: gg 40 :: gg 41 :: gg 42 :: gg 43 :: gg 44 :: gg 45 :: gg 46 :: gg 47 :: gg 48 :: gg 49 :: gg 50 :: gg 51 :: gg 52 :: gg 53 :: gg 54 :: gg 55 :: gg 56 :: gg 57 :: gg 58 :: gg 59 :: gg 60 :: gg 61 :: gg 62 :: gg 63 :: gg 64 :: gg 65 :: [] ∧ σ = .box (.agg [.str a0, .int .i64 a1, .int .i64 a2, .slice (sz 3 a3) (a3.map Em.seg.emb) .any]) :: .box (.agg [.str b0, .int .i64 b1, .int .i64 b2, .slice (sz 3 b3) (b3.map Em.seg.emb) .any]) :: σ1) ?_ (a3.length) (by refine ⟨0, [], ?_⟩; exact exF (⟨by omega, hB⟩) (by (first | rfl | (simp [hq]; repeat (first | rfl | (apply And.intro))) | (simp [hq]; done))) (by (first | rfl | (simp [hq]; repeat (first | rfl | (apply And.intro))) | (simp [hq]; done))))
  rintro m fr σ ⟨i, σ1, gg, hI, rfl, rfl⟩
  obtain ⟨hm, hs⟩ := hI
  by_cases hi : i < a3.length
  · have q1 : (i : Int) < (a3.length : Int) := by omega
    have hir : i < b3.length := by omega
    have q2 : (i : Int) < (b3.length : Int) := by omega
    obtain ⟨a, ha⟩ : ∃ a, a3[i] = a := ⟨_, rfl⟩
    obtain ⟨b, hb⟩ : ∃ b, b3[i] = b := ⟨_, rfl⟩
    have hc1 : a3.drop i = a :: a3.drop (i + 1) := by rw [List.drop_eq_getElem_cons hi, ha]
    have hc2 : b3.drop i = b :: b3.drop (i + 1) := by rw [List.drop_eq_getElem_cons hir, hb]
    rw [hc1, hc2, dec_cons2] at hs
    have ka : okG a := hx.2 a (ha ▸ List.getElem_mem hi)
    have kb : okG b := hy.2 b (hb ▸ List.getElem_mem hir)
    obtain ⟨x0, x1, x2⟩ := a
    obtain ⟨y0, y1, y2⟩ := b
    have hE := fun fl σ => eqE_emb (a := drawsE) (R := okDs) (x := x2) (y := y2) ka kb fl σ
    simp only [emb_list] at hE
    have j0 : ∀ x y : SObj, (σ1 ++ [x, y])[σ1.length]? = some x := fun x y => by simp
    have j1 : ∀ x y : SObj, (σ1 ++ [x, y])[σ1.length + 1]? = some y := fun x y => by simp
    have hseg : ∀ D, decide (x2 = y2) = D → decide ((⟨x0, x1, x2⟩ : SegD) = ⟨y0, y1, y2⟩) = (decide (x0 = y0) && (decide (x1 = y1) && D)) := fun D hD => by
      rw [← hD]
      by_cases e0 : x0 = y0 <;> by_cases e1 : x1 = y1 <;> by_cases e2 : x2 = y2 <;> simp [e0, e1, e2]
    obtain ⟨D, hD⟩ : ∃ D, decide (x2 = y2) = D := ⟨_, rfl⟩
    rw [hseg D hD] at hs
    rw [hD] at hE
    have gx := And.intro @q1 (And.intro @q2 (And.intro @hi (And.intro @hir (And.intro @ha (@hb)))))
    refine goA ?_
    clear gx
    first | apply Wp.drawT2 (by assumption) [(41, 6), (44, 6)] (by decide +kernel) | apply Wp.drawT1 (by assumption) [(41, 6), (44, 6)] (by decide +kernel)
    repeat (first
      | (refine Fr.i ?_; simp only [pput, List.set_cons_zero, List.set_cons_succ]; try rfl)
      | (refine By.i ?_; (focus (simp (disch := first | omega | (simp; done) | (simp; omega)) [wrap_i64, wrap_u64, q1, q2, hi, hir, ha, hb]; first | done | rfl | exact ⟨rfl, rfl⟩)))
      | (refine By.i ?_; simp (disch := first | omega | (simp; done) | (simp; omega)) [wrap_i64, wrap_u64, q1, q2, hi, hir, ha, hb]; refine ⟨(by (try simp only [List.length_append, List.length_cons, List.length_nil, maxLen]); omega), rfl⟩)
      | (refine Wt.i ?_; first | rfl | (focus (simp [q1, q2, hi, hir, ha, hb]; done)))
      | (refine Ns.i ?_; (try simp only [List.append_nil, List.nil_append, List.cons_append, List.append_assoc, List.length_append, List.length_cons, List.length_nil, Nat.zero_add, Nat.reduceAdd]); rfl) | rfl
      | (apply SL.pass; (focus (refine Wt.i ?_; rfl))) | (apply SL.convertR; (focus rfl)) | apply SL.move | apply SL.assign | apply SL.load | apply SL.isnilE | apply SL.isnilN | apply SL.make | apply SL.binOp | apply SL.append | apply SL.copy
      | apply SL.builtin | apply SL.fieldAddr | apply SL.indexAddr | apply SL.field | apply SL.extract | apply SL.fcall | apply SL.pick | apply SL.store | apply SL.unOp | apply SL.convert | apply SL.index | apply SL.slice | apply SL.build
      | apply SL.nilCheck | apply SL.buildSlice | apply SL.box | apply SL.alloc | apply SL.makeFunc)
    apply SQ.nil
    refine ⟨(by simp [apartT, ptrId] <;> omega), ?_⟩
    by_cases e0 : x0 = y0
    rotate_left
    · rw [decide_eq_false e0, Bool.false_and, Bool.false_and] at hs
      have hB2 : B = false := hs.symm
      first | refine Wp.seq ?_ | skip
      apply Wp.regionS
      repeat (first
        | (refine Fr.i ?_; simp only [pput, List.set_cons_zero, List.set_cons_succ]; try rfl)
        | (refine By.i ?_; (focus (simp (disch := first | omega | (simp; done) | (simp; omega)) [wrap_i64, wrap_u64, j0, j1, e0]; first | done | rfl | exact ⟨rfl, rfl⟩)))
        | (refine By.i ?_; simp (disch := first | omega | (simp; done) | (simp; omega)) [wrap_i64, wrap_u64, j0, j1, e0]; refine ⟨(by (try simp only [List.length_append, List.length_cons, List.length_nil, maxLen]); omega), rfl⟩)
        | (refine Wt.i ?_; first | rfl | (focus (simp [j0, j1, e0]; done)))
        | (refine Ns.i ?_; (try simp only [List.append_nil, List.nil_append, List.cons_append, List.append_assoc, List.length_append, List.length_cons, List.length_nil, Nat.zero_add, Nat.reduceAdd]); rfl) | rfl
        | (apply SL.pass; (focus (refine Wt.i ?_; rfl))) | (apply SL.convertR; (focus rfl)) | apply SL.move | apply SL.assign | apply SL.load | apply SL.isnilE | apply SL.isnilN | apply SL.make | apply SL.binOp | apply SL.append
        | apply SL.copy | apply SL.builtin | apply SL.fieldAddr | apply SL.indexAddr | apply SL.field | apply SL.extract | apply SL.fcall | apply SL.pick | apply SL.store | apply SL.unOp | apply SL.convert | apply SL.index | apply SL.slice
        | apply SL.build | apply SL.nilCheck | apply SL.buildSlice | apply SL.box | apply SL.alloc | apply SL.makeFunc)
      apply SQ.nil
      have gx := True.intro
      refine goA ?_
      clear gx
      simp (disch := first | omega | (simp; done) | (simp; omega)) [decide_eq_decide, hB2] <;> try rfl
    rw [decide_eq_true e0, Bool.true_and] at hs
    by_cases e1 : x1 = y1
    rotate_left
    · rw [decide_eq_false e1, Bool.false_and, Bool.false_and] at hs
      have hB2 : B = false := hs.symm
      first | refine Wp.seq ?_ | skip
      apply Wp.regionS
      repeat (first
        | (refine Fr.i ?_; simp only [pput, List.set_cons_zero, List.set_cons_succ]; try rfl)
        | (refine By.i ?_; (focus (simp (disch := first | omega | (simp; done) | (simp; omega)) [wrap_i64, wrap_u64, j0, j1, e0, e1]; first | done | rfl | exact ⟨rfl, rfl⟩)))
        | (refine By.i ?_; simp (disch := first | omega | (simp; done) | (simp; omega)) [wrap_i64, wrap_u64, j0, j1, e0, e1]; refine ⟨(by (try simp only [List.length_append, List.length_cons, List.length_nil, maxLen]); omega), rfl⟩)
        | (refine Wt.i ?_; first | rfl | (focus (simp [j0, j1, e0, e1]; done)))
        | (refine Ns.i ?_; (try simp only [List.append_nil, List.nil_append, List.cons_append, List.append_assoc, List.length_append, List.length_cons, List.length_nil, Nat.zero_add, Nat.reduceAdd]); rfl) | rfl
        | (apply SL.pass; (focus (refine Wt.i ?_; rfl))) | (apply SL.convertR; (focus rfl)) | apply SL.move | apply SL.assign | apply SL.load | apply SL.isnilE | apply SL.isnilN | apply SL.make | apply SL.binOp | apply SL.append
        | apply SL.copy | apply SL.builtin | apply SL.fieldAddr | apply SL.indexAddr | apply SL.field | apply SL.extract | apply SL.fcall | apply SL.pick | apply SL.store | apply SL.unOp | apply SL.convert | apply SL.index | apply SL.slice
        | apply SL.build | apply SL.nilCheck | apply SL.buildSlice | apply SL.box | apply SL.alloc | apply SL.makeFunc)
      apply SQ.nil
      have gx := True.intro
      refine goA ?_
      clear gx
      simp (disch := first | omega | (simp; done) | (simp; omega)) [decide_eq_decide, hB2] <;> try rfl
    rw [decide_eq_true e1, Bool.true_and] at hs
    cases D with
    | false =>
      have hB2 : B = false := hs.symm
      first | refine Wp.seq ?_ | skip
      apply Wp.regionS
      repeat (first
        | (refine Fr.i ?_; simp only [pput, List.set_cons_zero, List.set_cons_succ]; try rfl)
        | (refine By.i ?_; (focus (simp (disch := first | omega | (simp; done) | (simp; omega)) [wrap_i64, wrap_u64, j0, j1, e0, e1, h1, hE]; first | done | rfl | exact ⟨rfl, rfl⟩)))
        | (refine By.i ?_; simp (disch := first | omega | (simp; done) | (simp; omega)) [wrap_i64, wrap_u64, j0, j1, e0, e1, h1, hE]; refine ⟨(by (try simp only [List.length_append, List.length_cons, List.length_nil, maxLen]); omega), rfl⟩)
        | (refine Wt.i ?_; first | rfl | (focus (simp [j0, j1, e0, e1, h1, hE]; done)))
        | (refine Ns.i ?_; (try simp only [List.append_nil, List.nil_append, List.cons_append, List.append_assoc, List.length_append, List.length_cons, List.length_nil, Nat.zero_add, Nat.reduceAdd]); rfl) | rfl
        | (apply SL.pass; (focus (refine Wt.i ?_; rfl))) | (apply SL.convertR; (focus rfl)) | apply SL.move | apply SL.assign | apply SL.load | apply SL.isnilE | apply SL.isnilN | apply SL.make | apply SL.binOp | apply SL.append
        | apply SL.copy | apply SL.builtin | apply SL.fieldAddr | apply SL.indexAddr | apply SL.field | apply SL.extract | apply SL.fcall | apply SL.pick | apply SL.store | apply SL.unOp | apply SL.convert | apply SL.index | apply SL.slice
        | apply SL.build | apply SL.nilCheck | apply SL.buildSlice | apply SL.box | apply SL.alloc | apply SL.makeFunc)
      apply SQ.nil
      have gx := True.intro
      refine goA ?_
      clear gx
      simp (disch := first | omega | (simp; done) | (simp; omega)) [decide_eq_decide, hB2] <;> try rfl
    | true =>
      rw [Bool.true_and] at hs
      first | refine Wp.seq ?_ | skip
      apply Wp.regionS
      repeat (first
        | (refine Fr.i ?_; simp only [pput, List.set_cons_zero, List.set_cons_succ]; try rfl)
        | (refine By.i ?_; (focus (simp (disch := first | omega | (simp; done) | (simp; omega)) [wrap_i64, wrap_u64, j0, j1, e0, e1, h1, hE]; first | done | rfl | exact ⟨rfl, rfl⟩)))
        | (refine By.i ?_; simp (disch := first | omega | (simp; done) | (simp; omega)) [wrap_i64, wrap_u64, j0, j1, e0, e1, h1, hE]; refine ⟨(by (try simp only [List.length_append, List.length_cons, List.length_nil, maxLen]); omega), rfl⟩)
        | (refine Wt.i ?_; first | rfl | (focus (simp [j0, j1, e0, e1, h1, hE]; done)))
        | (refine Ns.i ?_; (try simp only [List.append_nil, List.nil_append, List.cons_append, List.append_assoc, List.length_append, List.length_cons, List.length_nil, Nat.zero_add, Nat.reduceAdd]); rfl) | rfl
        | (apply SL.pass; (focus (refine Wt.i ?_; rfl))) | (apply SL.convertR; (focus rfl)) | apply SL.move | apply SL.assign | apply SL.load | apply SL.isnilE | apply SL.isnilN | apply SL.make | apply SL.binOp | apply SL.append
        | apply SL.copy | apply SL.builtin | apply SL.fieldAddr | apply SL.indexAddr | apply SL.field | apply SL.extract | apply SL.fcall | apply SL.pick | apply SL.store | apply SL.unOp | apply SL.convert | apply SL.index | apply SL.slice
        | apply SL.build | apply SL.nilCheck | apply SL.buildSlice | apply SL.box | apply SL.alloc | apply SL.makeFunc)
      apply SQ.nil
      have gx := True.intro
      refine goA ?_
      clear gx
      refine LoopI.normal (m - 1) (by omega) ⟨i + 1, _, exF (⟨by omega, hs⟩) (by (first | rfl | (simp []; repeat (first | rfl | (apply And.intro))) | (simp []; done))) (by (first | rfl | (simp []; repeat (first | rfl | (apply And.intro))) | (simp []; done)))⟩
  · have q1 : ¬ (i : Int) < (a3.length : Int) := by omega
    rw [List.drop_eq_nil_of_le (by omega), List.drop_eq_nil_of_le (by omega)] at hs
    have hB2 : B = true := hs.symm
    have gx := @q1
    refine goA ?_
    clear gx
    simp (disch := first | omega | (simp; done) | (simp; omega)) [decide_eq_decide, hB2] <;> try rfl
theorem r_divSame (h0 : E 38 = none) (h1 : E 57 = some (eqE Em.stop okS)) (a b : DivD) (hx : okD a) (hy : okD b) : Run Tryz.prog E 38 [Em.div.emb a, Em.div.emb b] (Em.bool.emb (decide (a = b))) := by
  obtain ⟨a0, a1, a2, a3, a4⟩ := a
  obtain ⟨b0, b1, b2, b3, b4⟩ := b
  simp only [emb_div, emb_list]
  apply Run.bodyL h0 Tryz.func38 rfl
  focus (simp [show Tryz.f38.ntmps = _ from rfl, List.replicate]; rfl)
  by_cases e0 : a0 = b0
  rotate_left
  · have f0 : (a0 == b0) = false := by simpa using e0
    have gx := And.intro @e0 (@f0)
    refine goA ?_
    clear gx
    simp (disch := first | omega | (simp; done) | (simp; omega)) [decide_eq_decide, DivD.mk.injEq, e0] <;> try rfl
  by_cases e1 : a1 = b1
  rotate_left
  · have f1 : (a1 == b1) = false := by simpa using e1
    have gx := And.intro @e0 (And.intro @e1 (@f1))
    refine goA ?_
    clear gx
    simp (disch := first | omega | (simp; done) | (simp; omega)) [decide_eq_decide, DivD.mk.injEq, e1] <;> try rfl
  by_cases e2 : a2 = b2
  rotate_left
  · have gx := And.intro @e0 (And.intro @e1 (@e2))
    refine goA ?_
    clear gx
    simp (disch := first | omega | (simp; done) | (simp; omega)) [decide_eq_decide, DivD.mk.injEq, e2] <;> try rfl
  by_cases e3 : a3 = b3
  rotate_left
  · have gx := And.intro @e0 (And.intro @e1 (And.intro @e2 (@e3)))
    refine goA ?_
    clear gx
    simp (disch := first | omega | (simp; done) | (simp; omega)) [decide_eq_decide, DivD.mk.injEq, e3] <;> try rfl
  by_cases hq : a4.length = b4.length
  rotate_left
  · have hq' : ¬ (a4.length : Int) = (b4.length : Int) := by omega
    have hF := dec_len hq
    have hne : ¬ a4 = b4 := by simpa using hF
    have gx := And.intro @e0 (And.intro @e1 (And.intro @e2 (And.intro @e3 (And.intro @hq (@hq')))))
    refine goA ?_
    clear gx
    simp (disch := first | omega | (simp; done) | (simp; omega)) [decide_eq_decide, DivD.mk.injEq, hne] <;> try rfl
  have hq' : (a4.length : Int) = (b4.length : Int) := by omega
  obtain ⟨B, hB⟩ : ∃ B, decide (a4 = b4) = B := ⟨_, rfl⟩
  rw [show decide ((⟨a0, a1, a2, a3, a4⟩ : DivD) = ⟨b0, b1, b2, b3, b4⟩) = B by rw [← hB]; simp [e0, e1, e2, e3]]
  have hx1 : a4.length ≤ 1000000 := hx.1
  have gx := And.intro @e0 (And.intro @e1 (And.intro @e2 (And.intro @e3 (And.intro @hq (@hq')))))
  refine goA ?_
  clear gx
  refine Wp.loopI (fun m fr σ => ∃ (i : Nat), ∃ gg : Nat → PD, (i + m = a4.length ∧ decide (a4.drop i = b4.drop i) = B) ∧ fr = [gg 0, gg 1, .ptr 0 0, .ptr 1 0, .bool false, .int .i64 i, gg 6, gg 7, gg 8, gg 9, gg 10, gg 11, gg 12, gg 13, gg 14, gg 15, gg 16, gg 17, gg 18, gg 19, gg 20, gg 21, gg 22, gg 23, gg 24, gg 25, gg 26, gg 27, gg 28, gg 29, gg 30, gg 31, gg 32, gg 33, gg 34, gg 35, gg 36, gg 37, gg 38, gg 39, gg 40, gg 41, gg 42, gg 43, gg 44, gg 45, gg 46, gg 47, gg 48, gg 49, gg 50, gg 51, gg 52] ∧ σ = [.box (.agg [.str a0, .bool a1, .int .i64 a2, .int .i64 a3, .slice (sz 4 a4) (a4.map Em.stop.emb) .any]), .box (.agg [.str b0, .bool b1, .int .i64 b2, .int .i64 b3, .slice (sz 4 b4) (b4.map Em.stop.emb) .any])]) ?_ (a4.length) (by refine ⟨0, ?_⟩; exact exF (⟨by omega, hB⟩) (by (first | rfl | (simp [hq]; repeat (first | rfl | (apply And.intro))) | (simp [hq]; done))) (by (first | rfl | (simp [hq]; repeat (first | rfl | (apply And.intro))) | (simp [hq]; done))))
  rintro m fr σ ⟨i, gg, hI, rfl, rfl⟩
  obtain ⟨hm, hs⟩ := hI
  by_cases hi : i < a4.length
  · have q1 : (i : Int) < (a4.length : Int) := by omega
    have hir : i < b4.length := by omega
    have q2 : (i : Int) < (b4.length : Int) := by omega
    obtain ⟨a, ha⟩ : ∃ a, a4[i] = a := ⟨_, rfl⟩
    obtain ⟨b, hb⟩ : ∃ b, b4[i] = b := ⟨_, rfl⟩
    have hc1 : a4.drop i = a :: a4.drop (i + 1) := by rw [List.drop_eq_getElem_cons hi, ha]
    have hc2 : b4.drop i = b :: b4.drop (i + 1) := by rw [List.drop_eq_getElem_cons hir, hb]
    rw [hc1, hc2, dec_cons2] at hs
    have ka : okS a := hx.2 a (ha ▸ List.getElem_mem hi)
    have kb : okS b := hy.2 b (hb ▸ List.getElem_mem hir)
    have hE := fun fl σ => eqE_emb (a := Em.stop) ka kb fl σ
    simp only [emb_stop, emb_list] at hE
    by_cases e : a = b
    · rw [decide_eq_true e, Bool.true_and] at hs
      rw [decide_eq_true e] at hE
      have gx := And.intro @q1 (And.intro @q2 (And.intro @hi (And.intro @hir (And.intro @ha (And.intro @hb (And.intro @h1 (@hE)))))))
      refine goA ?_
      clear gx
      refine LoopI.normal (m - 1) (by omega) (by refine ⟨i + 1, ?_⟩; exact exF (⟨by omega, hs⟩) (by (first | rfl | (simp []; repeat (first | rfl | (apply And.intro))) | (simp []; done))) (by (first | rfl | (simp []; repeat (first | rfl | (apply And.intro))) | (simp []; done))))
    · rw [decide_eq_false e, Bool.false_and] at hs
      rw [decide_eq_false e] at hE
      have hB2 : B = false := hs.symm
      have gx := And.intro @q1 (And.intro @q2 (And.intro @hi (And.intro @hir (And.intro @ha (And.intro @hb (And.intro @h1 (@hE)))))))
      refine goA ?_
      clear gx
      simp (disch := first | omega | (simp; done) | (simp; omega)) [decide_eq_decide, hB2] <;> try rfl
  · have q1 : ¬ (i : Int) < (a4.length : Int) := by omega
    rw [List.drop_eq_nil_of_le (by omega), List.drop_eq_nil_of_le (by omega)] at hs
    have hB2 : B = true := hs.symm
    have gx := @q1
    refine goA ?_
    clear gx
    simp (disch := first | omega | (simp; done) | (simp; omega)) [decide_eq_decide, hB2] <;> try rfl
theorem r_Same (h0 : E 15 = none) (h1 : E 37 = some (eqE Em.rank okR)) (h2 : E 38 = some (eqE Em.div okD)) (a b : OrganD) (hx : okO a) (hy : okO b) :
    Run Tryz.prog E 15 [Em.organ.emb a, Em.organ.emb b] (Em.bool.emb (decide (a = b))) := by
  obtain ⟨a0, a1, a2, a3⟩ := a
  obtain ⟨b0, b1, b2, b3⟩ := b
  simp only [emb_organ, emb_list]
  apply Run.bodyL h0 Tryz.func15 rfl
  focus (simp [show Tryz.f15.ntmps = _ from rfl, List.replicate]; rfl)
  by_cases e0 : a0 = b0
  rotate_left
  · have f0 : (a0 == b0) = false := by simpa using e0
    have gx := And.intro @e0 (@f0)
    refine goA ?_
    clear gx
    simp (disch := first | omega | (simp; done) | (simp; omega)) [decide_eq_decide, OrganD.mk.injEq, e0] <;> try rfl
  by_cases l1 : a1.length = b1.length
  rotate_left
  · have hq' : ¬ (a1.length : Int) = (b1.length : Int) := by omega
    have hne : ¬ a1 = b1 := by simpa using dec_len l1
    have gx := And.intro @e0 (And.intro @l1 (@hq'))
    refine goA ?_
    clear gx
    simp (disch := first | omega | (simp; done) | (simp; omega)) [decide_eq_decide, OrganD.mk.injEq, hne] <;> try rfl
  by_cases l2 : a2.length = b2.length
  rotate_left
  · have hq' : ¬ (a2.length : Int) = (b2.length : Int) := by omega
    have hne : ¬ a2 = b2 := by simpa using dec_len l2
    have gx := And.intro @e0 (And.intro @l1 (And.intro @l2 (@hq')))
    refine goA ?_
    clear gx
    simp (disch := first | omega | (simp; done) | (simp; omega)) [decide_eq_decide, OrganD.mk.injEq, hne] <;> try rfl
  by_cases l3 : a3.length = b3.length
  rotate_left
  · have hq' : ¬ (a3.length : Int) = (b3.length : Int) := by omega
    have hne : ¬ a3 = b3 := by simpa using dec_len l3
    have gx := And.intro @e0 (And.intro @l1 (And.intro @l2 (And.intro @l3 (@hq'))))
    refine goA ?_
    clear gx
    simp (disch := first | omega | (simp; done) | (simp; omega)) [decide_eq_decide, OrganD.mk.injEq, hne] <;> try rfl
  obtain ⟨B1, hB1⟩ : ∃ B, decide (a1 = b1) = B := ⟨_, rfl⟩
  obtain ⟨B2, hB2⟩ : ∃ B, decide (a2 = b2) = B := ⟨_, rfl⟩
  obtain ⟨B3, hB3⟩ : ∃ B, decide (a3 = b3) = B := ⟨_, rfl⟩
  rw [show decide ((⟨a0, a1, a2, a3⟩ : OrganD) = ⟨b0, b1, b2, b3⟩) = (B1 && (B2 && B3)) by
    rw [← hB1, ← hB2, ← hB3]
    by_cases f1 : a1 = b1 <;> by_cases f2 : a2 = b2 <;> by_cases f3 : a3 = b3 <;> simp [e0, f1, f2, f3]]
  have hx1 : a1.length ≤ 1000000 := hx.1.1
  have hx2 : a2.length ≤ 1000000 := hx.2.1.1
  have hx3 : a3.length ≤ 1000000 := hx.2.2
  have gx := And.intro @e0 (And.intro @l1 (And.intro @l2 (@l3)))
  refine goA ?_
  clear gx
  refine Wp.loopI (fun m fr σ => ∃ (i : Nat), ∃ gg : Nat → PD, (i + m = a1.length ∧ decide (a1.drop i = b1.drop i) = B1) ∧ fr = gg 0 :: gg 1 :: .ptr 0 0 :: .ptr 1 0 :: .bool false :: .int .i64 i :: gg 6 :: gg 7 :: gg 8 :: gg 9 :: gg 10 :: gg 11 :: gg 12 :: gg 13 :: gg 14 :: gg 15 :: gg 16 :: gg 17 :: gg 18 :: gg 19 :: gg 20 :: gg 21 :: gg 22 :: gg 23 :: gg 24 :: gg 25 :: gg 26 :: gg 27 :: gg 28 :: gg 29 :: gg 30 :: gg 31 :: gg 32 :: gg 33 :: gg 34 :: gg 35 :: gg 36 :: gg 37 :: gg 38 :: gg 39 :: gg 40 :: gg 41 :: gg 42 :: gg 43 :: gg 44 :: gg 45 :: gg 46 :: gg 47 :: gg 48 :: gg 49 :: gg 50 :: gg 51 :: gg 52 :: gg 53 :: gg 54 :: gg 55 :: gg 56 :: gg 57 :: gg 58 :: gg 59 :: gg 60 :: gg 61 :: gg 62 :: gg 63 :: gg 64 :: gg 65 :: gg 66 :: gg 67 :: gg 68 :: gg 69 :: gg 70 :: gg 71 :: gg 72 :: gg 73 :: gg 74 :: gg 75 :: gg 76 :: gg 77 :: gg 78 :: gg 79 :: gg 80 :: gg 81 :: gg 82 :: gg 83 :: gg 84 :: gg 85 :: gg 86 :: gg 87 :: gg 88 :: gg 89 :: gg 90 :: gg 91 :: gg 92 :: gg 93 :: gg 94 :: gg 95 :: [] ∧ σ = [.box (.agg [.str a0, .slice (sz 6 a1) (a1.map Em.rank.emb) .any, .slice (sz 5 a2) (a2.map Em.div.emb) .any, .slice (sz 5 a3) (a3.map Em.coup.emb) .any]), .box (.agg [.str b0, .slice (sz 6 b1) (b1.map Em.rank.emb) .any, .slice (sz 5 b2) (b2.map Em.div.emb) .any, .slice (sz 5 b3) (b3.map Em.coup.emb) .any])]) ?_ (a1.length) (by refine ⟨0, ?_⟩; exact exF (⟨by omega, hB1⟩) (by (first | rfl | (simp [l1]; repeat (first | rfl | (apply And.intro))) | (simp [l1]; done))) (by (first | rfl | (simp [l1]; repeat (first | rfl | (apply And.intro))) | (simp [l1]; done))))
  rintro m fr σ ⟨i, gg, hI, rfl, rfl⟩
  obtain ⟨hm, hs⟩ := hI
  by_cases hi : i < a1.length
  · have q1 : (i : Int) < (a1.length : Int) := by omega
    have hir : i < b1.length := by omega
    have q2 : (i : Int) < (b1.length : Int) := by omega
    obtain ⟨a, ha⟩ : ∃ a, a1[i] = a := ⟨_, rfl⟩
    obtain ⟨b, hb⟩ : ∃ b, b1[i] = b := ⟨_, rfl⟩
    have hc1 : a1.drop i = a :: a1.drop (i + 1) := by rw [List.drop_eq_getElem_cons hi, ha]
    have hc2 : b1.drop i = b :: b1.drop (i + 1) := by rw [List.drop_eq_getElem_cons hir, hb]
    rw [hc1, hc2, dec_cons2] at hs
    have ka : okR a := hx.1.2 a (ha ▸ List.getElem_mem hi)
    have kb : okR b := hy.1.2 b (hb ▸ List.getElem_mem hir)
    have hE := fun fl σ => eqE_emb (a := Em.rank) ka kb fl σ
    simp only [emb_rank, emb_list] at hE
    by_cases e : a = b
    · rw [decide_eq_true e, Bool.true_and] at hs
      rw [decide_eq_true e] at hE
      have gx := And.intro @q1 (And.intro @q2 (And.intro @hi (And.intro @hir (And.intro @ha (And.intro @hb (And.intro @h1 (@hE)))))))
      refine goA ?_
      clear gx
      refine LoopI.normal (m - 1) (by omega) (by refine ⟨i + 1, ?_⟩; exact exF (⟨by omega, hs⟩) (by (first | rfl | (simp []; repeat (first | rfl | (apply And.intro))) | (simp []; done))) (by (first | rfl | (simp []; repeat (first | rfl | (apply And.intro))) | (simp []; done))))
    · rw [decide_eq_false e, Bool.false_and] at hs
      rw [decide_eq_false e] at hE
      rw [← hs]
      have gx := And.intro @q1 (And.intro @q2 (And.intro @hi (And.intro @hir (And.intro @ha (And.intro @hb (And.intro @h1 (@hE)))))))
      refine goA ?_
      clear gx
      simp (disch := first | omega | (simp; done) | (simp; omega)) [decide_eq_decide] <;> try rfl
  · have q1 : ¬ (i : Int) < (a1.length : Int) := by omega
    rw [List.drop_eq_nil_of_le (by omega), List.drop_eq_nil_of_le (by omega)] at hs
    have hB9 : B1 = true := hs.symm
    subst hB9
    have gx := @q1
    refine goA ?_
    clear gx
    refine Wp.loopI (fun m fr σ => ∃ (i : Nat), ∃ gg : Nat → PD, (i + m = a2.length ∧ decide (a2.drop i = b2.drop i) = B2) ∧ fr = gg 0 :: gg 1 :: .ptr 0 0 :: .ptr 1 0 :: .bool false :: gg 5 :: .int .i64 i :: gg 7 :: gg 8 :: gg 9 :: gg 10 :: gg 11 :: gg 12 :: gg 13 :: gg 14 :: gg 15 :: gg 16 :: gg 17 :: gg 18 :: gg 19 :: gg 20 :: gg 21 :: gg 22 :: gg 23 :: gg 24 :: gg 25 :: gg 26 :: gg 27 :: gg 28 :: gg 29 :: gg 30 :: gg 31 :: gg 32 :: gg 33 :: gg 34 :: gg 35 :: gg 36 :: gg 37 :: gg 38 :: gg 39 :: gg 40 :: gg 41 :: gg 42 :: gg 43 :: gg 44 :: gg 45 :: gg 46 :: gg 47 :: gg 48 :: gg 49 :: gg 50 :: gg 51 :: gg 52 :: gg 53 :: gg 54 :: gg 55 :: gg 56 :: gg 57 :: gg 58 :: gg 59 :: gg 60 :: gg 61 :: gg 62 :: gg 63 :: gg 64 :: gg 65 :: gg 66 :: gg 67 :: gg 68 :: gg 69 :: gg 70 :: gg 71 :: gg 72 :: gg 73 :: gg 74 :: gg 75 :: gg 76 :: gg 77 :: gg 78 :: gg 79 :: gg 80 :: gg 81 :: gg 82 :: gg 83 :: gg 84 :: gg 85 :: gg 86 :: gg 87 :: gg 88 :: gg 89 :: gg 90 :: gg 91 :: gg 92 :: gg 93 :: gg 94 :: gg 95 :: [] ∧ σ = [.box (.agg [.str a0, .slice (sz 6 a1) (a1.map Em.rank.emb) .any, .slice (sz 5 a2) (a2.map Em.div.emb) .any, .slice (sz 5 a3) (a3.map Em.coup.emb) .any]), .box (.agg [.str b0, .slice (sz 6 b1) (b1.map Em.rank.emb) .any, .slice (sz 5 b2) (b2.map Em.div.emb) .any, .slice (sz 5 b3) (b3.map Em.coup.emb) .any])]) ?_ (a2.length) (by refine ⟨0, ?_⟩; exact exF (⟨by omega, hB2⟩) (by (first | rfl | (simp [l2]; repeat (first | rfl | (apply And.intro))) | (simp [l2]; done))) (by (first | rfl | (simp [l2]; repeat (first | rfl | (apply And.intro))) | (simp [l2]; done))))
    rintro m fr σ ⟨i, gg, hI, rfl, rfl⟩
    obtain ⟨hm, hs⟩ := hI
    by_cases hi : i < a2.length
    · have q1 : (i : Int) < (a2.length : Int) := by omega
      have hir : i < b2.length := by omega
      have q2 : (i : Int) < (b2.length : Int) := by omega
      obtain ⟨a, ha⟩ : ∃ a, a2[i] = a := ⟨_, rfl⟩
      obtain ⟨b, hb⟩ : ∃ b, b2[i] = b := ⟨_, rfl⟩
      have hc1 : a2.drop i = a :: a2.drop (i + 1) := by rw [List.drop_eq_getElem_cons hi, ha]
      have hc2 : b2.drop i = b :: b2.drop (i + 1) := by rw [List.drop_eq_getElem_cons hir, hb]
      rw [hc1, hc2, dec_cons2] at hs
      have ka : okD a := hx.2.1.2 a (ha ▸ List.getElem_mem hi)
      have kb : okD b := hy.2.1.2 b (hb ▸ List.getElem_mem hir)
      have hE := fun fl σ => eqE_emb (a := Em.div) ka kb fl σ
      simp only [emb_div, emb_list] at hE
      by_cases e : a = b
      · rw [decide_eq_true e, Bool.true_and] at hs
        rw [decide_eq_true e] at hE
        have gx := And.intro @q1 (And.intro @q2 (And.intro @hi (And.intro @hir (And.intro @ha (And.intro @hb (And.intro @h2 (@hE)))))))
        refine goA ?_
        clear gx
        refine LoopI.normal (m - 1) (by omega) (by refine ⟨i + 1, ?_⟩; exact exF (⟨by omega, hs⟩) (by (first | rfl | (simp []; repeat (first | rfl | (apply And.intro))) | (simp []; done))) (by (first | rfl | (simp []; repeat (first | rfl | (apply And.intro))) | (simp []; done))))
      · rw [decide_eq_false e, Bool.false_and] at hs
        rw [decide_eq_false e] at hE
        rw [← hs]
        have gx := And.intro @q1 (And.intro @q2 (And.intro @hi (And.intro @hir (And.intro @ha (And.intro @hb (And.intro @h2 (@hE)))))))
        refine goA ?_
        clear gx
        simp (disch := first | omega | (simp; done) | (simp; omega)) [decide_eq_decide] <;> try rfl
    · have q1 : ¬ (i : Int) < (a2.length : Int) := by omega
      rw [List.drop_eq_nil_of_le (by omega), List.drop_eq_nil_of_le (by omega)] at hs
      have hB9 : B2 = true := hs.symm
      subst hB9
      have gx := @q1
      refine goA ?_
      clear gx
      refine Wp.loopI (fun m fr σ => ∃ (i : Nat), ∃ gg : Nat → PD, (i + m = a3.length ∧ decide (a3.drop i = b3.drop i) = B3) ∧ fr = gg 0 :: gg 1 :: .ptr 0 0 :: .ptr 1 0 :: .bool false :: gg 5 :: gg 6 :: .int .i64 i :: gg 8 :: gg 9 :: gg 10 :: gg 11 :: gg 12 :: gg 13 :: gg 14 :: gg 15 :: gg 16 :: gg 17 :: gg 18 :: gg 19 :: gg 20 :: gg 21 :: gg 22 :: gg 23 :: gg 24 :: gg 25 :: gg 26 :: gg 27 :: gg 28 :: gg 29 :: gg 30 :: gg 31 :: gg 32 :: gg 33 :: gg 34 :: gg 35 :: gg 36 :: gg 37 :: gg 38 :: gg 39 :: gg 40 :: gg 41 :: gg 42 :: gg 43 :: gg 44 :: gg 45 :: gg 46 :: gg 47 :: gg 48 :: gg 49 :: gg 50 :: gg 51 :: gg 52 :: gg 53 :: gg 54 :: gg 55 :: gg 56 :: gg 57 :: gg 58 :: gg 59 :: gg 60 :: gg 61 :: gg 62 :: gg 63 :: gg 64 :: gg 65 :: gg 66 :: gg 67 :: gg 68 :: gg 69 :: gg 70 :: gg 71 :: gg 72 :: gg 73 :: gg 74 :: gg 75 :: gg 76 :: gg 77 :: gg 78 :: gg 79 :: gg 80 :: gg 81 :: gg 82 :: gg 83 :: gg 84 :: gg 85 :: gg 86 :: gg 87 :: gg 88 :: gg 89 :: gg 90 :: gg 91 :: gg 92 :: gg 93 :: gg 94 :: gg 95 :: [] ∧ σ = [.box (.agg [.str a0, .slice (sz 6 a1) (a1.map Em.rank.emb) .any, .slice (sz 5 a2) (a2.map Em.div.emb) .any, .slice (sz 5 a3) (a3.map Em.coup.emb) .any]), .box (.agg [.str b0, .slice (sz 6 b1) (b1.map Em.rank.emb) .any, .slice (sz 5 b2) (b2.map Em.div.emb) .any, .slice (sz 5 b3) (b3.map Em.coup.emb) .any])]) ?_ (a3.length) (by refine ⟨0, ?_⟩; exact exF (⟨by omega, hB3⟩) (by (first | rfl | (simp [l3]; repeat (first | rfl | (apply And.intro))) | (simp [l3]; done))) (by (first | rfl | (simp [l3]; repeat (first | rfl | (apply And.intro))) | (simp [l3]; done))))
      rintro m fr σ ⟨i, gg, hI, rfl, rfl⟩
      obtain ⟨hm, hs⟩ := hI
      by_cases hi : i < a3.length
      · have q1 : (i : Int) < (a3.length : Int) := by omega
        have hir : i < b3.length := by omega
        have q2 : (i : Int) < (b3.length : Int) := by omega
        obtain ⟨a, ha⟩ : ∃ a, a3[i] = a := ⟨_, rfl⟩
        obtain ⟨b, hb⟩ : ∃ b, b3[i] = b := ⟨_, rfl⟩
        have hc1 : a3.drop i = a :: a3.drop (i + 1) := by rw [List.drop_eq_getElem_cons hi, ha]
        have hc2 : b3.drop i = b :: b3.drop (i + 1) := by rw [List.drop_eq_getElem_cons hir, hb]
        rw [hc1, hc2, dec_cons2] at hs
        obtain ⟨c0, c1, c2, c3, c4⟩ := a
        obtain ⟨d0, d1, d2, d3, d4⟩ := b
        by_cases f0 : c0 = d0
        rotate_left
        · rw [show decide ((⟨c0, c1, c2, c3, c4⟩ : CoupD) = ⟨d0, d1, d2, d3, d4⟩) = false by simp [f0], Bool.false_and] at hs
          rw [← hs]
          have gx := And.intro @q1 (And.intro @q2 (And.intro @hi (And.intro @hir (And.intro @ha (And.intro @hb (@f0))))))
          refine goA ?_
          clear gx
          simp (disch := first | omega | (simp; done) | (simp; omega)) [decide_eq_decide] <;> try rfl
        by_cases f1 : c1 = d1
        rotate_left
        · rw [show decide ((⟨c0, c1, c2, c3, c4⟩ : CoupD) = ⟨d0, d1, d2, d3, d4⟩) = false by simp [f1], Bool.false_and] at hs
          rw [← hs]
          have gx := And.intro @q1 (And.intro @q2 (And.intro @hi (And.intro @hir (And.intro @ha (And.intro @hb (And.intro @f0 (@f1)))))))
          refine goA ?_
          clear gx
          simp (disch := first | omega | (simp; done) | (simp; omega)) [decide_eq_decide] <;> try rfl
        by_cases f2 : c2 = d2
        rotate_left
        · rw [show decide ((⟨c0, c1, c2, c3, c4⟩ : CoupD) = ⟨d0, d1, d2, d3, d4⟩) = false by simp [f2], Bool.false_and] at hs
          rw [← hs]
          have gx := And.intro @q1 (And.intro @q2 (And.intro @hi (And.intro @hir (And.intro @ha (And.intro @hb (And.intro @f0 (And.intro @f1 (@f2))))))))
          refine goA ?_
          clear gx
          simp (disch := first | omega | (simp; done) | (simp; omega)) [decide_eq_decide] <;> try rfl
        by_cases f3 : c3 = d3
        rotate_left
        · rw [show decide ((⟨c0, c1, c2, c3, c4⟩ : CoupD) = ⟨d0, d1, d2, d3, d4⟩) = false by simp [f3], Bool.false_and] at hs
          rw [← hs]
          have gx := And.intro @q1 (And.intro @q2 (And.intro @hi (And.intro @hir (And.intro @ha (And.intro @hb (And.intro @f0 (And.intro @f1 (And.intro @f2 (@f3)))))))))
          refine goA ?_
          clear gx
          simp (disch := first | omega | (simp; done) | (simp; omega)) [decide_eq_decide] <;> try rfl
        by_cases f4 : c4 = d4
        rotate_left
        · rw [show decide ((⟨c0, c1, c2, c3, c4⟩ : CoupD) = ⟨d0, d1, d2, d3, d4⟩) = false by simp [f4], Bool.false_and] at hs
          rw [← hs]
          have gx := And.intro @q1 (And.intro @q2 (And.intro @hi (And.intro @hir (And.intro @ha (And.intro @hb (And.intro @f0 (And.intro @f1 (And.intro @f2 (And.intro @f3 (@f4))))))))))
          refine goA ?_
          clear gx
          simp (disch := first | omega | (simp; done) | (simp; omega)) [decide_eq_decide] <;> try rfl
        rw [show decide ((⟨c0, c1, c2, c3, c4⟩ : CoupD) = ⟨d0, d1, d2, d3, d4⟩) = true by simp [f0, f1, f2, f3, f4], Bool.true_and] at hs
        have gx := And.intro @q1 (And.intro @q2 (And.intro @hi (And.intro @hir (And.intro @ha (And.intro @hb (And.intro @f0 (And.intro @f1 (And.intro @f2 (And.intro @f3 (@f4))))))))))
        refine goA ?_
        clear gx
        refine LoopI.normal (m - 1) (by omega) (by refine ⟨i + 1, ?_⟩; exact exF (⟨by omega, hs⟩) (by (first | rfl | (simp []; repeat (first | rfl | (apply And.intro))) | (simp []; done))) (by (first | rfl | (simp []; repeat (first | rfl | (apply And.intro))) | (simp []; done))))
      · have q1 : ¬ (i : Int) < (a3.length : Int) := by omega
        rw [List.drop_eq_nil_of_le (by omega), List.drop_eq_nil_of_le (by omega)] at hs
        have hB9 : B3 = true := hs.symm
        subst hB9
        have gx := @q1
        refine goA ?_
        clear gx
        simp (disch := first | omega | (simp; done) | (simp; omega)) [decide_eq_decide] <;> try rfl
end Go.Kz

/-
  Layers 1 and 13: the checks of fractions and of pitches.
-/
namespace Go.Kz
open Go Go.Proofs
set_option maxRecDepth 100000
set_option maxHeartbeats 4000000
variable {E : PExt} (hU : Uni E)
include hU
end Go.Kz

/-
  Layer 14: rank.Check.
-/
namespace Go.Kz
open Go Go.Proofs
set_option maxRecDepth 100000
set_option maxHeartbeats 4000000
variable {E : PExt} (hU : Uni E)
include hU
end Go.Kz

/-
  Layer 15: draws.
-/
namespace Go.Kz
open Go Go.Proofs
set_option maxRecDepth 100000
set_option maxHeartbeats 4000000
variable {E : PExt} (hU : Uni E)
include hU
end Go.Kz

/-
  Layer 15: places.
-/
namespace Go.Kz
open Go Go.Proofs
set_option maxRecDepth 100000
set_option maxHeartbeats 4000000
variable {E : PExt} (hU : Uni E)
include hU
end Go.Kz

/-
  Maps as steps: look up, update, make.
-/
namespace Go.Kz
open Go
section
variable {P : Program} {call : PCall} {fl : Nat} {ops : Array Oper} {l : List Oper} {fr fr1 : List PD} {σ σ1 : List SObj} {K : List PD → List SObj → Prop}
variable {dst : Option Tmp} {x y z : Operand} {t ty : TypeId} {pos : String} {edges : Array Edge} {guard : Option (Nat × Bool)} {p q v r : PD} {ok : Bool}
theorem SL.lookup (hw : Wt (Region.wanted ⟨dst, .lookup t x y ok, ty, pos, edges, guard⟩ (pyield ops fr) = true)) (hx : evalO fr x = some p) (hy : evalO fr y = some q) (hr : By (plookup P σ t p q ok = some r)) (hf : Fr (pput fr dst r = fr1)) (k : SQ P call fl ops l fr1 σ K) :
    SQ P call fl ops (⟨dst, .lookup t x y ok, ty, pos, edges, guard⟩ :: l) fr σ K :=
  .step hw.h (pstep_mem rfl rfl (by simp only [pmem, evalO_ok hx, evalO_ok hy, hr.h])) (hf.h ▸ k)
theorem SL.mapUpdate (hw : Wt (Region.wanted ⟨dst, .mapUpdate t x y z, ty, pos, edges, guard⟩ (pyield ops fr) = true)) (hx : evalO fr x = some p) (hy : evalO fr y = some q) (hz : evalO fr z = some v) (hr : By (pmapUpdate P fl σ t p q v = some σ1)) (hf : Fr (pput fr dst (.tup []) = fr1)) (k : SQ P call fl ops l fr1 σ1 K) :
    SQ P call fl ops (⟨dst, .mapUpdate t x y z, ty, pos, edges, guard⟩ :: l) fr σ K :=
  .step hw.h (pstep_mem rfl rfl (by simp only [pmem, evalO_ok hx, evalO_ok hy, evalO_ok hz, hr.h])) (hf.h ▸ k)
theorem SL.makeMap {kt e : TypeId} (hw : Wt (Region.wanted ⟨dst, .makeMap t none, ty, pos, edges, guard⟩ (pyield ops fr) = true)) (hx : By (P.underlying t = some (.map kt e))) (hr : Ns (σ ++ [.map []] = σ1)) {n : Nat} (hn : Ns (σ.length = n)) (hf : Fr (pput fr dst (.mref n) = fr1)) (k : SQ P call fl ops l fr1 σ1 K) :
    SQ P call fl ops (⟨dst, .makeMap t none, ty, pos, edges, guard⟩ :: l) fr σ K := by
  obtain ⟨rfl⟩ := hr.h
  obtain ⟨rfl⟩ := hn.h
  exact .step hw.h (pstep_mem rfl rfl (by simp only [pmem, hx.h])) (hf.h ▸ k)
end
end Go.Kz
