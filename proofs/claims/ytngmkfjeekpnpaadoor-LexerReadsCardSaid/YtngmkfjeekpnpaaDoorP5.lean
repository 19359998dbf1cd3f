/-
  Part P5 of the way: an interpreter over pure data, its soundness, walks through functions.
-/
import Derived.Test.YtngmkfjeekpnpaaDoorP4
import Derived.Test.YtngmkfjeekpnpaaDoorP3
set_option linter.all false

/-
  Layer 2: fractions of what is not negative.
-/
namespace Go.Kz
open Go Go.Proofs

abbrev u64 : Em Int := Em.int .u64
abbrev Frac := Int × Int
def EmC.frac : EmC Frac := (EmC.one i64).pair (.one i64)
def Em.frac : Em Frac := .agg .frac
@[simp] theorem emb_frac {p : Frac} : Em.frac.emb p = .agg [.int .i64 p.1, .int .i64 p.2] := rfl
@[simp] theorem dec_frac {a b : Int} : Em.frac.dec (.agg [.int .i64 a, .int .i64 b]) = some (a, b) := Em.dec_some rfl

/-- The fraction of two numbers, the lower one greater than 0. -/
def makeF (n d : Nat) : Frac × Int := if 1000000 < n / n.gcd d ∨ 1000000 < d / n.gcd d then ((0, 0), 4) else (((n / n.gcd d : Nat), (d / n.gcd d : Nat)), 0)

variable {E : PExt} (hU : Uni E)
include hU
set_option maxRecDepth 10000
set_option maxHeartbeats 4000000

theorem r_magnitude (h0 : E 84 = none) (n : Int) (hn : 0 ≤ n) (hn2 : n ≤ 9223372036854775807) : Run Tryd.prog E 84 [i64.emb n] (u64.emb n) := by
  apply Run.bodyL h0 Tryd.func84 rfl
  focus (simp [show Tryd.f84.ntmps = _ from rfl, List.replicate]; rfl)
  have h1 : ¬ n < 0 := by omega
  have gx := @h1
  refine goA ?_
  clear gx
  simp (disch := first | omega | (simp; done) | (simp; omega)) [decide_eq_decide] <;> try rfl

theorem r_gcd (h0 : E 85 = none) (a b : Nat) (ha : (a : Int) ≤ 9223372036854775807) (hb : (b : Int) ≤ 9223372036854775807) : Run Tryd.prog E 85 [.int .u64 a, .int .u64 b] (.int .u64 (a.gcd b)) := by
  apply Run.bodyL h0 Tryd.func85 rfl
  focus (simp [show Tryd.f85.ntmps = _ from rfl, List.replicate]; rfl)
  have gx := True.intro
  refine goA ?_
  clear gx
  refine Wp.loopI (fun m fr σ => ∃ (x y : Nat), ∃ gg : Nat → PD, (m = y ∧ x.gcd y = a.gcd b ∧ (x : Int) ≤ 9223372036854775807 ∧ (y : Int) ≤ 9223372036854775807) ∧ fr = [.int .u64 x, .int .u64 y, gg 2, gg 3, gg 4, gg 5, gg 6, gg 7, gg 8, gg 9, gg 10, gg 11] ∧ σ = []) ?_ (b) (by refine ⟨a, b, ?_⟩; exact exF (⟨rfl, rfl, ha, hb⟩) (by (first | rfl | (simp []; repeat (first | rfl | (apply And.intro))) | (simp []; done))) (by (first | rfl | (simp []; repeat (first | rfl | (apply And.intro))) | (simp []; done))))
  rintro m fr σ ⟨x, y, gg, hI, rfl, rfl⟩
  obtain ⟨hm, hg, hx, hy⟩ := hI
  by_cases h1 : y = 0
  · have q1 : ¬ 0 < (y : Int) := by omega
    have q2 : ¬ 0 < y := by omega
    subst h1
    rw [Nat.gcd_zero_right] at hg
    have gx := And.intro @q1 (@q2)
    refine goA ?_
    clear gx
    simp (disch := first | omega | (simp; done) | (simp; omega)) [decide_eq_decide, hg] <;> try rfl
  · have q1 : 0 < (y : Int) := by omega
    have q2 : 0 < y := by omega
    have hlt := Nat.mod_lt x q2
    have hr : (x : Int) % (y : Int) = ((x % y : Nat) : Int) := by omega
    have hr2 : (x : Int).tmod (y : Int) = ((x % y : Nat) : Int) := by rw [Int.tmod_eq_emod_of_nonneg (by omega)]; exact hr
    obtain ⟨z, hz⟩ : ∃ z, x % y = z := ⟨_, rfl⟩
    have hgn : y.gcd z = a.gcd b := by rw [← hz, ← hg, Nat.gcd_comm x y, Nat.gcd_rec y x, Nat.gcd_comm]
    rw [hz] at hr hr2 hlt
    have gx := And.intro @q1 (And.intro @q2 (And.intro @h1 (And.intro @hr (@hr2))))
    refine goA ?_
    clear gx
    refine LoopI.normal (z) (by omega) (by refine ⟨y, z, ?_⟩; exact exF (⟨rfl, hgn, hy, by omega⟩) (by (first | rfl | (simp []; repeat (first | rfl | (apply And.intro))) | (simp []; done))) (by (first | rfl | (simp []; repeat (first | rfl | (apply And.intro))) | (simp []; done))))

theorem r_Make (h0 : E 67 = none) (h1 : E 84 = some (entry (gf1 i64 u64 fun n => gif (0 ≤ n ∧ n ≤ 9223372036854775807) (some n))))
    (h2 : E 85 = some (entry (gf2 u64 u64 u64 fun a b => gif (0 ≤ a ∧ a ≤ 9223372036854775807 ∧ 0 ≤ b ∧ b ≤ 9223372036854775807) (some (a.toNat.gcd b.toNat : Nat)))))
    (n d : Nat) (hn : (n : Int) ≤ 9000000000000000000) (hd : (d : Int) ≤ 9000000000000000000) (hd0 : d ≠ 0) : Run Tryd.prog E 67 [.int .i64 n, .int .i64 d] ((Em.frac.tup2 i64).emb (makeF n d)) := by
  apply Run.bodyL h0 Tryd.func67 rfl
  focus (simp [show Tryd.f67.ntmps = _ from rfl, List.replicate]; rfl)
  have q0 : ¬ (d : Int) = 0 := by omega
  obtain ⟨g, hg⟩ : ∃ g, n.gcd d = g := ⟨_, rfl⟩
  have hg0 : g ≠ 0 := by
    rw [← hg]
    intro h
    exact hd0 (Nat.eq_zero_of_gcd_eq_zero_right h)
  have hgi : ¬ (g : Int) = 0 := by omega
  obtain ⟨x, hx⟩ : ∃ x, n / g = x := ⟨_, rfl⟩
  obtain ⟨y, hy⟩ : ∃ y, d / g = y := ⟨_, rfl⟩
  have hxl : x ≤ n := by rw [← hx]; exact Nat.div_le_self _ _
  have hyl : y ≤ d := by rw [← hy]; exact Nat.div_le_self _ _
  have hxi : (n : Int) / (g : Int) = (x : Int) := by rw [← hx]; rfl
  have hyi : (d : Int) / (g : Int) = (y : Int) := by rw [← hy]; rfl
  have n1 : ¬ (n : Int) < 0 := by omega
  have n2 : ¬ (d : Int) < 0 := by omega
  by_cases c1 : 1000000 < x
  · have e1 : 1000000 < (x : Int) := by omega
    have hm : makeF n d = ((0, 0), 4) := by
      unfold makeF
      rw [hg, hx, if_pos (.inl c1)]
    have gx := And.intro @h1 (And.intro @h2 (And.intro @q0 (And.intro @hd0 (And.intro @hg (And.intro @hg0 (And.intro @hgi (And.intro @hxi (And.intro @hyi (And.intro @e1 (@c1))))))))))
    refine goA ?_
    clear gx
    simp (disch := first | omega | (simp; done) | (simp; omega)) [decide_eq_decide, hm] <;> try rfl
  · have e1 : ¬ 1000000 < (x : Int) := by omega
    by_cases c2 : 1000000 < y
    · have e2 : 1000000 < (y : Int) := by omega
      have hm : makeF n d = ((0, 0), 4) := by
        unfold makeF
        rw [hg, hx, hy, if_pos (.inr c2)]
      have gx := And.intro @h1 (And.intro @h2 (And.intro @q0 (And.intro @hd0 (And.intro @hg (And.intro @hg0 (And.intro @hgi (And.intro @hxi (And.intro @hyi (And.intro @e1 (And.intro @c1 (And.intro @e2 (@c2))))))))))))
      refine goA ?_
      clear gx
      simp (disch := first | omega | (simp; done) | (simp; omega)) [decide_eq_decide, hm] <;> try rfl
    · have e2 : ¬ 1000000 < (y : Int) := by omega
      have hm : makeF n d = (((x : Int), (y : Int)), 0) := by
        unfold makeF
        rw [hg, hx, hy, if_neg (by omega)]
      have gx := And.intro @h1 (And.intro @h2 (And.intro @q0 (And.intro @hd0 (And.intro @hg (And.intro @hg0 (And.intro @hgi (And.intro @hxi (And.intro @hyi (And.intro @e1 (And.intro @c1 (And.intro @e2 (And.intro @c2 (And.intro @n1 (@n2))))))))))))))
      refine goA ?_
      clear gx
      simp (disch := first | omega | (simp; done) | (simp; omega)) [decide_eq_decide, hm] <;> try rfl

end Go.Kz

/-
  Layer 19: the tokens of feet and of numbers.
-/
namespace Go.Kz
open Go Go.Proofs

structure Tk where
  kind : Int
  text : List UInt8
  num : Int
  feet : Frac
  line : Int
  col : Int
  deriving DecidableEq
def EmC.tk : EmC Tk := ((EmC.one i64).pair ((EmC.one .text).pair ((EmC.one i64).pair (.pair .frac ((EmC.one i64).pair (.one i64)))))).iso (fun t => (t.kind, t.text, t.num, t.feet, t.line, t.col)) (fun x y h => by cases x; cases y; simpa using h)
def Em.tk : Em Tk := .agg .tk
@[simp] theorem emb_tk {t : Tk} : Em.tk.emb t = .agg [.int .i64 t.kind, .str t.text, .int .i64 t.num, .int .i64 t.feet.1, .int .i64 t.feet.2, .int .i64 t.line, .int .i64 t.col] := rfl
@[simp] theorem dec_tk {a c d e f g : Int} {b : List UInt8} : Em.tk.dec (.agg [.int .i64 a, .str b, .int .i64 c, .int .i64 d, .int .i64 e, .int .i64 f, .int .i64 g]) = some ⟨a, b, c, (d, e), f, g⟩ := Em.dec_some rfl
def noTk : Tk := ⟨0, [], 0, (0, 0), 0, 0⟩

def wv (l : List UInt8) (d : Nat) : Nat := if l = [] then d else valN l
def okV (l : List UInt8) : Prop := l = [] ∨ valN l ≤ 1000000
instance (l : List UInt8) : Decidable (okV l) := by unfold okV; infer_instance
/-- A number as it is written for pitches. -/
def fracText (a b : Nat) : List UInt8 :=
  if a % b = 0 then Lib.itoa ((a / b : Nat) : Int) else if a / b = 0 then Lib.itoa ((a % b : Nat) : Int) ++ [47] ++ Lib.itoa (b : Int) else Lib.itoa ((a / b : Nat) : Int) ++ [45] ++ (Lib.itoa ((a % b : Nat) : Int) ++ [47] ++ Lib.itoa (b : Int))
def feetS (p : Parts) : Tk × Int :=
  if ¬ (okV p.1 ∧ okV p.2.1 ∧ okV p.2.2) ∨ wv p.2.2 1 = 0 then (noTk, 2) else
  if (makeF (wv p.1 0 * wv p.2.2 1 + wv p.2.1 0) (wv p.2.2 1)).2 ≠ 0 then (noTk, 2) else
    (⟨3, fracText (makeF (wv p.1 0 * wv p.2.2 1 + wv p.2.1 0) (wv p.2.2 1)).1.1.toNat (makeF (wv p.1 0 * wv p.2.2 1 + wv p.2.1 0) (wv p.2.2 1)).1.2.toNat ++ [39], 0, (makeF (wv p.1 0 * wv p.2.2 1 + wv p.2.1 0) (wv p.2.2 1)).1, 0, 0⟩, 0)

theorem decDigits_len (u : Nat) : (Lib.decDigits u).length ≤ u + 1 := by
  induction u using Nat.strongRecOn with
  | ind u ih =>
    rw [Lib.decDigits]
    split
    · simp
    · rename_i h
      have := ih (u / 10) (by omega)
      rw [List.length_append, List.length_singleton]
      omega
theorem itoa_len (n : Nat) : (Lib.itoa (n : Int)).length ≤ n + 1 := by
  unfold Lib.itoa
  rw [if_neg (by omega), Int.toNat_natCast]
  exact decDigits_len n

theorem wv_le {l : List UInt8} {d : Nat} (h : okV l) (hd : d ≤ 1000000) : wv l d ≤ 1000000 := by
  unfold wv
  split
  · exact hd
  · rename_i hl
    exact h.resolve_left hl

theorem makeF_form {n d : Nat} (hd : d ≠ 0) : makeF n d = ((0, 0), 4) ∨ ∃ x y : Nat, makeF n d = (((x : Int), (y : Int)), 0) ∧ y ≠ 0 ∧ x ≤ 1000000 ∧ y ≤ 1000000 := by
  unfold makeF
  split
  · exact .inl rfl
  · rename_i h
    have hg : n.gcd d ≠ 0 := fun e => hd (Nat.eq_zero_of_gcd_eq_zero_right e)
    have hle : n.gcd d ≤ d := Nat.gcd_le_right _ (by omega)
    have := Nat.div_pos hle (by omega)
    exact .inr ⟨_, _, rfl, by omega, by omega, by omega⟩

/-- The token of digits, with a sign or without one. -/
def numS (s : List UInt8) : Tk × Int :=
  let v := valN (Lib.trimPrefix s [45])
  if 1000000000 < v then (noTk, 2) else
  let n : Int := if pk s 0 = 45 then -(v : Int) else v
  (⟨2, Lib.itoa n, n, (0, 0), 0, 0⟩, 0)

variable {E : PExt} (hU : Uni E)
include hU
set_option maxRecDepth 10000
set_option maxHeartbeats 4000000

theorem r_number (h0 : E 53 = none) (h1 : E 68 = some (entry (gf2 .text .text .text fun s t => some (Lib.trimPrefix s t))))
    (h2 : E 66 = some (entry (gf2 .text i64 (i64.tup2 .bool) fun s m => gif (allDig s ∧ 0 ≤ m ∧ m ≤ 2000000000 ∧ (s.length : Int) < 4000000000) (some (valP s m)))))
    (h3 : E 60 = some (entry (gf1 i64 .text fun n => gif (-9223372036854775808 ≤ n ∧ n ≤ 9223372036854775807) (some (Lib.itoa n)))))
    (s : List UInt8) (hs : 0 < s.length) (hd : allDig (Lib.trimPrefix s [45])) (hl : (s.length : Int) < 4000000000) : Run Tryd.prog E 53 [.str s] ((Em.tk.tup2 i64).emb (numS s)) := by
  have hl2 : ((Lib.trimPrefix s [45]).length : Int) < 4000000000 := by
    have : (Lib.trimPrefix s [45]).length ≤ s.length := by
      unfold Lib.trimPrefix
      split
      · rw [List.length_drop]; omega
      · exact Nat.le_refl _
    omega
  obtain ⟨t, ht⟩ : ∃ t, Lib.trimPrefix s [45] = t := ⟨_, rfl⟩
  rw [ht] at hd hl2
  have hpk := pk_at hs
  apply Run.bodyL h0 Tryd.func53 rfl
  focus (simp [show Tryd.f53.ntmps = _ from rfl, List.replicate]; rfl)
  by_cases hv : 1000000000 < valN t
  · have hP : valP t 1000000000 = (0, false) := by
      unfold valP
      rw [if_neg (by omega)]
    have hn : numS s = (noTk, 2) := by
      unfold numS
      rw [ht]
      simp only [hv, if_true]
    have gx := And.intro @h1 (And.intro @h2 (And.intro @ht (And.intro @hd (And.intro @hl2 (@hP)))))
    refine goA ?_
    clear gx
    simp (disch := first | omega | (simp; done) | (simp; omega)) [decide_eq_decide, hn, noTk] <;> try rfl
  · have hP : valP t 1000000000 = ((valN t : Int), true) := by
      unfold valP
      rw [if_pos (by omega)]
    by_cases hc : pk s 0 = 45
    · have hq : (s[0].toNat : Int) = 45 := by omega
      have hn : numS s = (⟨2, Lib.itoa (-(valN t : Int)), -(valN t : Int), (0, 0), 0, 0⟩, 0) := by
        unfold numS
        rw [ht]
        simp only [hv, hc, if_true, if_false]
      have gx := And.intro @h1 (And.intro @h2 (And.intro @h3 (And.intro @ht (And.intro @hd (And.intro @hl2 (And.intro @hP (And.intro @hs (@hq))))))))
      refine goA ?_
      clear gx
      simp (disch := first | omega | (simp; done) | (simp; omega)) [decide_eq_decide, hn] <;> try rfl
    · have hq : ¬ (s[0].toNat : Int) = 45 := by omega
      have hn : numS s = (⟨2, Lib.itoa (valN t : Int), (valN t : Int), (0, 0), 0, 0⟩, 0) := by
        unfold numS
        rw [ht]
        simp only [hv, hc, if_false]
      have gx := And.intro @h1 (And.intro @h2 (And.intro @h3 (And.intro @ht (And.intro @hd (And.intro @hl2 (And.intro @hP (And.intro @hs (@hq))))))))
      refine goA ?_
      clear gx
      simp (disch := first | omega | (simp; done) | (simp; omega)) [decide_eq_decide, hn] <;> try rfl

theorem r_feet (h0 : E 52 = none)
    (h2 : E 66 = some (entry (gf2 .text i64 (i64.tup2 .bool) fun s m => gif (allDig s ∧ 0 ≤ m ∧ m ≤ 2000000000 ∧ (s.length : Int) < 4000000000) (some (valP s m)))))
    (h3 : E 60 = some (entry (gf1 i64 .text fun n => gif (-9223372036854775808 ≤ n ∧ n ≤ 9223372036854775807) (some (Lib.itoa n)))))
    (h4 : E 67 = some (entry (gf2 i64 i64 (Em.frac.tup2 i64) fun n d => gif (0 ≤ n ∧ n ≤ 9000000000000000000 ∧ 0 < d ∧ d ≤ 9000000000000000000) (some (makeF n.toNat d.toNat)))))
    (p : Parts) (hd0 : allDig p.1) (hd1 : allDig p.2.1) (hd2 : allDig p.2.2) (hl0 : (p.1.length : Int) < 4000000000) (hl1 : (p.2.1.length : Int) < 4000000000) (hl2 : (p.2.2.length : Int) < 4000000000) :
    Run Tryd.prog E 52 [Em.parts.emb p] ((Em.tk.tup2 i64).emb (feetS p)) := by
  obtain ⟨s0, s1, s2⟩ := p
  simp only at hd0 hd1 hd2 hl0 hl1 hl2
  apply Run.bodyL h0 Tryd.func52 rfl
  focus (simp [show Tryd.f52.ntmps = _ from rfl, List.replicate]; rfl)
  have gx := True.intro
  refine goA ?_
  clear gx
  refine Wp.loopI (fun m fr σ => ∃ (i w0 w1 w2 : Nat), ∃ gg : Nat → PD, (i + m = 3 ∧ (w0 = if 0 < i then wv s0 0 else 0) ∧ (w1 = if 1 < i then wv s1 0 else 0) ∧ (w2 = if 2 < i then wv s2 1 else 1) ∧ (0 < i → okV s0) ∧ (1 < i → okV s1) ∧ (2 < i → okV s2)) ∧ fr = .agg [.str s0, .str s1, .str s2] :: .ptr 0 0 :: .ptr 1 0 :: .int .i64 0 :: .ptr 2 0 :: gg 5 :: gg 6 :: gg 7 :: gg 8 :: gg 9 :: gg 10 :: gg 11 :: gg 12 :: gg 13 :: .ptr 2 2 :: .agg [.str s0, .str s1, .str s2] :: .int .i64 i :: gg 17 :: gg 18 :: gg 19 :: gg 20 :: gg 21 :: gg 22 :: gg 23 :: gg 24 :: gg 25 :: gg 26 :: gg 27 :: gg 28 :: gg 29 :: gg 30 :: gg 31 :: gg 32 :: gg 33 :: gg 34 :: gg 35 :: gg 36 :: gg 37 :: gg 38 :: gg 39 :: gg 40 :: gg 41 :: gg 42 :: gg 43 :: gg 44 :: gg 45 :: gg 46 :: gg 47 :: gg 48 :: gg 49 :: gg 50 :: gg 51 :: gg 52 :: gg 53 :: gg 54 :: gg 55 :: gg 56 :: gg 57 :: gg 58 :: gg 59 :: gg 60 :: gg 61 :: gg 62 :: gg 63 :: gg 64 :: gg 65 :: gg 66 :: gg 67 :: gg 68 :: gg 69 :: gg 70 :: gg 71 :: gg 72 :: gg 73 :: gg 74 :: gg 75 :: gg 76 :: gg 77 :: gg 78 :: gg 79 :: gg 80 :: gg 81 :: gg 82 :: gg 83 :: gg 84 :: gg 85 :: gg 86 :: [] ∧ σ = [.box (.agg [.str s0, .str s1, .str s2]), .box (Em.tk.emb noTk), .box (.agg [.int .i64 w0, .int .i64 w1, .int .i64 w2])]) ?_ (3) (by refine ⟨0, 0, 0, 1, ?_⟩; exact exF (⟨by omega, rfl, rfl, rfl, fun h => absurd h (by omega), fun h => absurd h (by omega), fun h => absurd h (by omega)⟩) (by (first | rfl | (simp [noTk]; repeat (first | rfl | (apply And.intro))) | (simp [noTk]; done))) (by (first | rfl | (simp [noTk]; repeat (first | rfl | (apply And.intro))) | (simp [noTk]; done))))
  rintro m fr σ ⟨i, w0, w1, w2, gg, hI, rfl, rfl⟩
  obtain ⟨hm, hw0, hw1, hw2, ho0, ho1, ho2⟩ := hI
  rcases (show i = 0 ∨ i = 1 ∨ i = 2 ∨ i = 3 by omega) with rfl | rfl | rfl | rfl
  · simp at hw0 hw1 hw2
    by_cases he : s0 = []
    · have he2 : (s0 == []) = true := by simp [he]
      have gx := And.intro @he (@he2)
      refine goA ?_
      clear gx
      refine LoopI.normal (m - 1) (by omega) (by refine ⟨1, w0, w1, w2, ?_⟩; exact exF (⟨by omega, by rw [hw0]; simp [wv, he], by rw [hw1]; simp, by rw [hw2]; simp, fun _ => .inl he, fun h => absurd h (by omega), fun h => absurd h (by omega)⟩) (by (first | rfl | (simp [noTk]; repeat (first | rfl | (apply And.intro))) | (simp [noTk]; done))) (by (first | rfl | (simp [noTk]; repeat (first | rfl | (apply And.intro))) | (simp [noTk]; done))))
    · have he2 : (s0 == []) = false := by simpa using he
      have he3 : s0.isEmpty = false := by simpa using he
      by_cases hv : 1000000 < valN s0
      · have hP : valP s0 1000000 = (0, false) := by
          unfold valP
          rw [if_neg (by omega)]
        have hf : feetS (s0, s1, s2) = (noTk, 2) := by
          unfold feetS
          rw [if_pos (.inl fun h => by
            have : okV s0 := h.1
            rcases this with e | e
            · exact he e
            · omega)]
        have gx := And.intro @he (And.intro @he2 (And.intro @he3 (And.intro @h2 (And.intro @hd0 (And.intro @hl0 (@hP))))))
        refine goA ?_
        clear gx
        simp (disch := first | omega | (simp; done) | (simp; omega)) [decide_eq_decide, hf, noTk] <;> try rfl
      · have hP : valP s0 1000000 = ((valN s0 : Int), true) := by
          unfold valP
          rw [if_pos (by omega)]
        have gx := And.intro @he (And.intro @he2 (And.intro @he3 (And.intro @h2 (And.intro @hd0 (And.intro @hl0 (@hP))))))
        refine goA ?_
        clear gx
        refine LoopI.normal (m - 1) (by omega) (by refine ⟨1, valN s0, w1, w2, ?_⟩; exact exF (⟨by omega, by simp [wv, he], by rw [hw1]; simp, by rw [hw2]; simp, fun _ => .inr (by omega), fun h => absurd h (by omega), fun h => absurd h (by omega)⟩) (by (first | rfl | (simp [noTk]; repeat (first | rfl | (apply And.intro))) | (simp [noTk]; done))) (by (first | rfl | (simp [noTk]; repeat (first | rfl | (apply And.intro))) | (simp [noTk]; done))))
  · simp at hw0 hw1 hw2
    by_cases he : s1 = []
    · have he2 : (s1 == []) = true := by simp [he]
      have gx := And.intro @he (@he2)
      refine goA ?_
      clear gx
      refine LoopI.normal (m - 1) (by omega) (by refine ⟨2, w0, w1, w2, ?_⟩; exact exF (⟨by omega, by rw [hw0]; simp, by rw [hw1]; simp [wv, he], by rw [hw2]; simp, fun _ => ho0 (by omega), fun _ => .inl he, fun h => absurd h (by omega)⟩) (by (first | rfl | (simp [noTk]; repeat (first | rfl | (apply And.intro))) | (simp [noTk]; done))) (by (first | rfl | (simp [noTk]; repeat (first | rfl | (apply And.intro))) | (simp [noTk]; done))))
    · have he2 : (s1 == []) = false := by simpa using he
      have he3 : s1.isEmpty = false := by simpa using he
      by_cases hv : 1000000 < valN s1
      · have hP : valP s1 1000000 = (0, false) := by
          unfold valP
          rw [if_neg (by omega)]
        have hf : feetS (s0, s1, s2) = (noTk, 2) := by
          unfold feetS
          rw [if_pos (.inl fun h => by
            have : okV s1 := h.2.1
            rcases this with e | e
            · exact he e
            · omega)]
        have gx := And.intro @he (And.intro @he2 (And.intro @he3 (And.intro @h2 (And.intro @hd1 (And.intro @hl1 (@hP))))))
        refine goA ?_
        clear gx
        simp (disch := first | omega | (simp; done) | (simp; omega)) [decide_eq_decide, hf, noTk] <;> try rfl
      · have hP : valP s1 1000000 = ((valN s1 : Int), true) := by
          unfold valP
          rw [if_pos (by omega)]
        have gx := And.intro @he (And.intro @he2 (And.intro @he3 (And.intro @h2 (And.intro @hd1 (And.intro @hl1 (@hP))))))
        refine goA ?_
        clear gx
        refine LoopI.normal (m - 1) (by omega) (by refine ⟨2, w0, valN s1, w2, ?_⟩; exact exF (⟨by omega, by rw [hw0]; simp, by simp [wv, he], by rw [hw2]; simp, fun _ => ho0 (by omega), fun _ => .inr (by omega), fun h => absurd h (by omega)⟩) (by (first | rfl | (simp [noTk]; repeat (first | rfl | (apply And.intro))) | (simp [noTk]; done))) (by (first | rfl | (simp [noTk]; repeat (first | rfl | (apply And.intro))) | (simp [noTk]; done))))
  · simp at hw0 hw1 hw2
    by_cases he : s2 = []
    · have he2 : (s2 == []) = true := by simp [he]
      have gx := And.intro @he (@he2)
      refine goA ?_
      clear gx
      refine LoopI.normal (m - 1) (by omega) (by refine ⟨3, w0, w1, w2, ?_⟩; exact exF (⟨by omega, by rw [hw0]; simp, by rw [hw1]; simp, by rw [hw2]; simp [wv, he], fun _ => ho0 (by omega), fun _ => ho1 (by omega), fun _ => .inl he⟩) (by (first | rfl | (simp [noTk]; repeat (first | rfl | (apply And.intro))) | (simp [noTk]; done))) (by (first | rfl | (simp [noTk]; repeat (first | rfl | (apply And.intro))) | (simp [noTk]; done))))
    · have he2 : (s2 == []) = false := by simpa using he
      have he3 : s2.isEmpty = false := by simpa using he
      by_cases hv : 1000000 < valN s2
      · have hP : valP s2 1000000 = (0, false) := by
          unfold valP
          rw [if_neg (by omega)]
        have hf : feetS (s0, s1, s2) = (noTk, 2) := by
          unfold feetS
          rw [if_pos (.inl fun h => by
            have : okV s2 := h.2.2
            rcases this with e | e
            · exact he e
            · omega)]
        have gx := And.intro @he (And.intro @he2 (And.intro @he3 (And.intro @h2 (And.intro @hd2 (And.intro @hl2 (@hP))))))
        refine goA ?_
        clear gx
        simp (disch := first | omega | (simp; done) | (simp; omega)) [decide_eq_decide, hf, noTk] <;> try rfl
      · have hP : valP s2 1000000 = ((valN s2 : Int), true) := by
          unfold valP
          rw [if_pos (by omega)]
        have gx := And.intro @he (And.intro @he2 (And.intro @he3 (And.intro @h2 (And.intro @hd2 (And.intro @hl2 (@hP))))))
        refine goA ?_
        clear gx
        refine LoopI.normal (m - 1) (by omega) (by refine ⟨3, w0, w1, valN s2, ?_⟩; exact exF (⟨by omega, by rw [hw0]; simp, by rw [hw1]; simp, by simp [wv, he], fun _ => ho0 (by omega), fun _ => ho1 (by omega), fun _ => .inr (by omega)⟩) (by (first | rfl | (simp [noTk]; repeat (first | rfl | (apply And.intro))) | (simp [noTk]; done))) (by (first | rfl | (simp [noTk]; repeat (first | rfl | (apply And.intro))) | (simp [noTk]; done))))
  · simp at hw0 hw1 hw2
    have ok0 := ho0 (by omega)
    have ok1 := ho1 (by omega)
    have ok2 := ho2 (by omega)
    have b0 : w0 ≤ 1000000 := by rw [hw0]; exact wv_le ok0 (by omega)
    have b1 : w1 ≤ 1000000 := by rw [hw1]; exact wv_le ok1 (by omega)
    have b2 : w2 ≤ 1000000 := by rw [hw2]; exact wv_le ok2 (by omega)
    by_cases hz : w2 = 0
    · have hf : feetS (s0, s1, s2) = (noTk, 2) := by
        unfold feetS
        rw [if_pos (.inr (by simp only; rw [← hw2]; exact hz))]
      subst hz
      have gx := True.intro
      refine goA ?_
      clear gx
      simp (disch := first | omega | (simp; done) | (simp; omega)) [decide_eq_decide, hf, noTk] <;> try rfl
    · have hzi : ¬ (w2 : Int) = 0 := by omega
      obtain ⟨N, hN⟩ : ∃ N, N = w0 * w2 + w1 := ⟨_, rfl⟩
      obtain ⟨K, hK⟩ : ∃ K, w0 * w2 = K := ⟨_, rfl⟩
      have hm1 : w0 * w2 ≤ 1000000 * 1000000 := Nat.mul_le_mul b0 b2
      have hmi : (w0 : Int) * (w2 : Int) = (K : Int) := by rw [← hK]; simp
      have hNi : (K : Int) + (w1 : Int) = (N : Int) := by omega
      have hfS : feetS (s0, s1, s2) = if (makeF N w2).2 ≠ 0 then (noTk, 2) else (⟨3, fracText (makeF N w2).1.1.toNat (makeF N w2).1.2.toNat ++ [39], 0, (makeF N w2).1, 0, 0⟩, 0) := by
        unfold feetS
        simp only
        rw [← hw0, ← hw1, ← hw2, ← hN, if_neg (by
          rintro (h | h)
          · exact h ⟨ok0, ok1, ok2⟩
          · exact hz h)]
      rcases makeF_form (n := N) hz with hM | ⟨x, y, hM, hy, hxl, hyl⟩
      · rw [hM] at hfS
        rw [if_pos (by simp)] at hfS
        have gx := And.intro @hz (And.intro @hzi (And.intro @h4 (And.intro @hNi (And.intro @hmi (@hM)))))
        refine goA ?_
        clear gx
        simp (disch := first | omega | (simp; done) | (simp; omega)) [decide_eq_decide, hfS, noTk] <;> try rfl
      · rw [hM] at hfS
        simp only [ne_eq, not_true_eq_false, if_false, Int.toNat_natCast] at hfS
        have hyi : ¬ (y : Int) = 0 := by omega
        obtain ⟨q, hq⟩ : ∃ q, x / y = q := ⟨_, rfl⟩
        obtain ⟨r, hr⟩ : ∃ r, x % y = r := ⟨_, rfl⟩
        have hqi : (x : Int) / (y : Int) = (q : Int) := by rw [← hq]; rfl
        have hqi2 : (x : Int).tdiv (y : Int) = (q : Int) := by rw [Int.tdiv_eq_ediv_of_nonneg (by omega)]; exact hqi
        have hri : (x : Int) % (y : Int) = (r : Int) := by rw [← hr]; rfl
        have hri2 : (x : Int).tmod (y : Int) = (r : Int) := by rw [Int.tmod_eq_emod_of_nonneg (by omega)]; exact hri
        have hql : q ≤ x := by rw [← hq]; exact Nat.div_le_self _ _
        have hrl : r ≤ x := by rw [← hr]; exact Nat.mod_le _ _
        have lq := itoa_len q
        have lr := itoa_len r
        have ly := itoa_len y
        unfold fracText at hfS
        rw [hq, hr] at hfS
        by_cases hr0 : r = 0
        · simp only [hr0, if_true] at hfS
          have gx := And.intro @hz (And.intro @hzi (And.intro @h3 (And.intro @h4 (And.intro @hNi (And.intro @hmi (And.intro @hM (And.intro @hy (And.intro @hyi (And.intro @hqi (And.intro @hqi2 (And.intro @hri (And.intro @hri2 (@hr0)))))))))))))
          refine goA ?_
          clear gx
          simp (disch := first | omega | (simp; done) | (simp; omega)) [decide_eq_decide, hfS] <;> try rfl
        · have hr0i : ¬ (r : Int) = 0 := by omega
          by_cases hq0 : q = 0
          · simp only [hr0, hq0, if_true, if_false] at hfS
            have gx := And.intro @hz (And.intro @hzi (And.intro @h3 (And.intro @h4 (And.intro @hNi (And.intro @hmi (And.intro @hM (And.intro @hy (And.intro @hyi (And.intro @hqi (And.intro @hqi2 (And.intro @hri (And.intro @hri2 (And.intro @hr0 (And.intro @hr0i (@hq0)))))))))))))))
            refine goA ?_
            clear gx
            simp (disch := first | omega | (simp; done) | (simp; omega)) [decide_eq_decide, hfS] <;> try rfl
          · have hq0i : ¬ (q : Int) = 0 := by omega
            simp only [hr0, hq0, if_false] at hfS
            have gx := And.intro @hz (And.intro @hzi (And.intro @h3 (And.intro @h4 (And.intro @hNi (And.intro @hmi (And.intro @hM (And.intro @hy (And.intro @hyi (And.intro @hqi (And.intro @hqi2 (And.intro @hri (And.intro @hri2 (And.intro @hr0 (And.intro @hr0i (And.intro @hq0 (@hq0i))))))))))))))))
            refine goA ?_
            clear gx
            simp (disch := first | omega | (simp; done) | (simp; omega)) [decide_eq_decide, hfS] <;> try rfl

end Go.Kz

/-
  Layer 19: the first token of a text.
-/
namespace Go.Kz
open Go Go.Proofs

theorem allDig_span : ∀ s : List UInt8, allDig (s.take (spanN digN s))
  | [] => by intro b hb; simp at hb
  | c :: r => by
    rw [spanN_cons]
    split
    · rename_i h
      intro b hb
      rw [List.take_succ_cons] at hb
      rcases List.mem_cons.1 hb with rfl | hb
      · exact h
      · exact allDig_span r b hb
    · intro b hb; simp at hb
theorem allDig_nil : allDig [] := by intro b hb; simp at hb
theorem partsS_dig (s : List UInt8) : allDig (partsS s).1.1 ∧ allDig (partsS s).1.2.1 ∧ allDig (partsS s).1.2.2 ∧ (partsS s).1.1.length ≤ s.length ∧ (partsS s).1.2.1.length ≤ s.length ∧ (partsS s).1.2.2.length ≤ s.length := by
  have h1 := allDig_span s
  have h2 := fun n => allDig_span (s.drop n)
  have l1 : ∀ n, (s.take n).length ≤ s.length := fun n => by rw [List.length_take]; omega
  have l2 : ∀ a n, ((s.drop a).take n).length ≤ s.length := fun a n => by rw [List.length_take, List.length_drop]; omega
  unfold partsS noParts
  simp only
  repeat' split
  all_goals first
    | exact ⟨h1, allDig_nil, allDig_nil, l1 _, Nat.zero_le _, Nat.zero_le _⟩
    | exact ⟨h1, h2 _, h2 _, l1 _, l2 _ _, l2 _ _⟩
    | exact ⟨allDig_nil, h1, h2 _, Nat.zero_le _, l1 _, l2 _ _⟩
    | exact ⟨allDig_nil, allDig_nil, allDig_nil, Nat.zero_le _, Nat.zero_le _, Nat.zero_le _⟩

def marks : List UInt8 := [40, 41, 91, 93, 123, 125, 58, 44, 59, 61, 43, 46, 63, 42, 47]
/-- The first token, how many bytes it takes, and the error. -/
def tokS (s : List UInt8) : Tk × Int × Int :=
  if letN (pk s 0) = true then
    if 32 < spanN wordN s then (noTk, 0, 8) else (⟨1, s.take (spanN wordN s), 0, (0, 0), 0, 0⟩, spanN wordN s, 0)
  else if digN (pk s 0) = true then
    if 0 < (partsS s).2 then ((feetS (partsS s).1).1, (partsS s).2, (feetS (partsS s).1).2)
    else ((numS (s.take (spanN digN s))).1, spanN digN s, (numS (s.take (spanN digN s))).2)
  else if pk s 0 = 45 ∧ digN (pk s 1) = true then
    ((numS (s.take (1 + spanN digN (s.drop 1)))).1, 1 + spanN digN (s.drop 1), (numS (s.take (1 + spanN digN (s.drop 1)))).2)
  else if pk s 0 = 34 then
    if Lib.indexByte (s.drop 1) 34 < 0 then (noTk, 0, 15) else (⟨4, (s.drop 1).take (Lib.indexByte (s.drop 1) 34).toNat, 0, (0, 0), 0, 0⟩, Lib.indexByte (s.drop 1) 34 + 2, 0)
  else if Lib.hasPrefix s [45, 62] = true then (⟨5, s.take 2, 0, (0, 0), 0, 0⟩, 2, 0)
  else if 0 ≤ Lib.indexByte marks (pk s 0).toUInt8 then (⟨5, s.take 1, 0, (0, 0), 0, 0⟩, 1, 0)
  else (noTk, 0, 15)

@[simp] theorem take_tail_all {α : Type} {s : List α} : s.tail.take (s.length - 1) = s.tail := List.take_of_length_le (by simp)
theorem indexByte_lt : ∀ (s : List UInt8) (c : UInt8), Lib.indexByte s c < s.length
  | [], c => by simp [Lib.indexByte]
  | b :: r, c => by
    have h := indexByte_lt r c
    unfold Lib.indexByte
    rw [List.length_cons]
    split
    · omega
    · split
      · omega
      · omega
theorem hasPrefix_two {s : List UInt8} (h : Lib.hasPrefix s [45, 62] = true) : 2 ≤ s.length := by
  match s, h with
  | [], h => simp [Lib.hasPrefix, List.isPrefixOf] at h
  | [a], h => simp [Lib.hasPrefix, List.isPrefixOf] at h
  | a :: b :: r, _ => simp

variable {E : PExt} (hU : Uni E)
include hU
set_option maxRecDepth 10000
set_option maxHeartbeats 4000000

theorem r_first (h0 : E 32 = none) (h1 : E 48 = some (entry gWhile)) (h2 : E 47 = some (entry (gf1 u8 .bool fun n => some (letN n)))) (h3 : E 50 = some (entry (gf1 u8 .bool fun n => some (digN n))))
    (h4 : E 51 = some (entry (gf1 .text (Em.parts.tup2 i64) fun s => gif ((s.length : Int) < 4000000000) (some (partsS s)))))
    (h5 : E 52 = some (entry (gf1 .parts (Em.tk.tup2 i64) fun p => gif (allDig p.1 ∧ allDig p.2.1 ∧ allDig p.2.2 ∧ (p.1.length : Int) < 4000000000 ∧ (p.2.1.length : Int) < 4000000000 ∧ (p.2.2.length : Int) < 4000000000) (some (feetS p)))))
    (h6 : E 53 = some (entry (gf1 .text (Em.tk.tup2 i64) fun s => gif (0 < s.length ∧ allDig (Lib.trimPrefix s [45]) ∧ (s.length : Int) < 4000000000) (some (numS s)))))
    (h7 : E 54 = some (entry (gf2 .text u8 i64 fun s n => gif (0 ≤ n ∧ n ≤ 255) (some (Lib.indexByte s n.toNat.toUInt8)))))
    (h8 : E 55 = some (entry (gf2 .text .text .bool fun s t => some (Lib.hasPrefix s t))))
    (s : List UInt8) (hs : 0 < s.length) (hl : (s.length : Int) < 4000000000) : Run Tryd.prog E 32 [.str s] ((Em.tk.tup3 i64 i64).emb (tokS s)) := by
  have hpk := pk_at hs
  apply Run.bodyL h0 Tryd.func32 rfl
  focus (simp [show Tryd.f32.ntmps = _ from rfl, List.replicate]; rfl)
  cases c1 : letN (pk s 0) with
  | true =>
    have c1' : letN (s[0].toNat : Int) = true := by rw [← hpk]; exact c1
    obtain ⟨n, hn⟩ : ∃ n, spanN wordN s = n := ⟨_, rfl⟩
    have hnl := spanN_le wordN s
    rw [hn] at hnl
    by_cases c3 : 32 < n
    · have c3' : 32 < (n : Int) := by omega
      have hT : tokS s = (noTk, 0, 8) := by
        unfold tokS
        rw [if_pos c1, hn, if_pos c3]
      repeat (first
        | (refine Fr.i ?_; simp only [pput, List.set_cons_zero, List.set_cons_succ]; try rfl)
        | (refine By.i ?_; (focus (simp (disch := first | omega | (simp; done) | (simp; omega)) [wrap_i64, wrap_u64, hs, h1, h2, c1', gWhile, hl, hn, c3, c3', entry, gf1]; first | done | rfl | exact ⟨rfl, rfl⟩)))
        | (refine By.i ?_; simp (disch := first | omega | (simp; done) | (simp; omega)) [wrap_i64, wrap_u64, hs, h1, h2, c1', gWhile, hl, hn, c3, c3', entry, gf1]; refine ⟨(by (try simp only [List.length_append, List.length_cons, List.length_nil, maxLen]); omega), rfl⟩)
        | (refine Wt.i ?_; first | rfl | (focus (simp [hs, h1, h2, c1', gWhile, hl, hn, c3, c3', entry, gf1]; done)))
        | (refine Ns.i ?_; (try simp only [List.append_nil, List.nil_append, List.cons_append, List.append_assoc, List.length_append, List.length_cons, List.length_nil, Nat.zero_add, Nat.reduceAdd]); rfl) | rfl
        | (apply SL.pass; (focus (refine Wt.i ?_; rfl))) | (apply SL.convertR; (focus rfl)) | apply SL.move | apply SL.assign | apply SL.load | apply SL.isnilE | apply SL.isnilN | apply SL.make | apply SL.binOp | apply SL.append
        | apply SL.builtin | apply SL.fieldAddr | apply SL.indexAddr | apply SL.field | apply SL.extract | apply SL.fcall | apply SL.pick | apply SL.store | apply SL.unOp | apply SL.convert | apply SL.index | apply SL.slice | apply SL.build
        | apply SL.nilCheck | apply SL.buildSlice | apply SL.box | apply SL.alloc | apply SL.makeFunc | apply SQ.nil | (apply WL.reg; (focus decide +kernel)) | (apply WL.drawP (by assumption); (focus decide +kernel); (focus decide +kernel))
        | (apply WL.drawF; (focus decide +kernel); (focus decide +kernel)) | (apply WL.reg1; (focus decide +kernel)) | (apply WL.drawP1 (by assumption); (focus decide +kernel); (focus decide +kernel))
        | (apply WL.drawF1; (focus decide +kernel); (focus decide +kernel)) | (apply WL.drawM (by assumption); (focus decide +kernel); (focus decide +kernel)) | (apply WL.drawM1 (by assumption); (focus decide +kernel); (focus decide +kernel))
        | (apply WL.drawA (by assumption); (focus decide +kernel); (focus decide +kernel)) | (apply WL.drawA1 (by assumption); (focus decide +kernel); (focus decide +kernel)) | apply WL.skip | (apply WL.ct; (focus rfl))
        | (apply WL.cf; (focus rfl)) | refine SeqQ.normal ?_ | refine SeqQ.ret ?_ | refine SeqQ.exit ?_ | refine BlockQ.normal ?_ | refine BlockQ.ret ?_ | refine BlockQ.here ?_ | refine BlockQ.there (by decide) ?_ | refine Wp.block ?_
        | refine Wp.skip ?_ | refine Wp.ret ?_ | refine Wp.exit ?_ | refine LoopI.ret ?_ | refine LoopI.exit ?_ | refine LoopQ.normal ?_ | refine LoopQ.ret ?_ | refine LoopQ.exit ?_ | refine Wp.seq (Wp.seq ?_) | refine Wp.seq (Wp.block ?_)
        | (refine Wp.seq ?_; apply WL.ct; (focus rfl)) | (refine Wp.seq ?_; apply WL.cf; (focus rfl)))
      simp (disch := first | omega | (simp; done) | (simp; omega)) [decide_eq_decide, hT, noTk] <;> try rfl
    · have c3' : ¬ 32 < (n : Int) := by omega
      have hT : tokS s = (⟨1, s.take n, 0, (0, 0), 0, 0⟩, (n : Int), 0) := by
        unfold tokS
        rw [if_pos c1, hn, if_neg c3]
      repeat (first
        | (refine Fr.i ?_; simp only [pput, List.set_cons_zero, List.set_cons_succ]; try rfl)
        | (refine By.i ?_; (focus (simp (disch := first | omega | (simp; done) | (simp; omega)) [wrap_i64, wrap_u64, hs, h1, h2, c1', gWhile, hl, hn, c3, c3', entry, gf1]; first | done | rfl | exact ⟨rfl, rfl⟩)))
        | (refine By.i ?_; simp (disch := first | omega | (simp; done) | (simp; omega)) [wrap_i64, wrap_u64, hs, h1, h2, c1', gWhile, hl, hn, c3, c3', entry, gf1]; refine ⟨(by (try simp only [List.length_append, List.length_cons, List.length_nil, maxLen]); omega), rfl⟩)
        | (refine Wt.i ?_; first | rfl | (focus (simp [hs, h1, h2, c1', gWhile, hl, hn, c3, c3', entry, gf1]; done)))
        | (refine Ns.i ?_; (try simp only [List.append_nil, List.nil_append, List.cons_append, List.append_assoc, List.length_append, List.length_cons, List.length_nil, Nat.zero_add, Nat.reduceAdd]); rfl) | rfl
        | (apply SL.pass; (focus (refine Wt.i ?_; rfl))) | (apply SL.convertR; (focus rfl)) | apply SL.move | apply SL.assign | apply SL.load | apply SL.isnilE | apply SL.isnilN | apply SL.make | apply SL.binOp | apply SL.append
        | apply SL.builtin | apply SL.fieldAddr | apply SL.indexAddr | apply SL.field | apply SL.extract | apply SL.fcall | apply SL.pick | apply SL.store | apply SL.unOp | apply SL.convert | apply SL.index | apply SL.slice | apply SL.build
        | apply SL.nilCheck | apply SL.buildSlice | apply SL.box | apply SL.alloc | apply SL.makeFunc | apply SQ.nil | (apply WL.reg; (focus decide +kernel)) | (apply WL.drawP (by assumption); (focus decide +kernel); (focus decide +kernel))
        | (apply WL.drawF; (focus decide +kernel); (focus decide +kernel)) | (apply WL.reg1; (focus decide +kernel)) | (apply WL.drawP1 (by assumption); (focus decide +kernel); (focus decide +kernel))
        | (apply WL.drawF1; (focus decide +kernel); (focus decide +kernel)) | (apply WL.drawM (by assumption); (focus decide +kernel); (focus decide +kernel)) | (apply WL.drawM1 (by assumption); (focus decide +kernel); (focus decide +kernel))
        | (apply WL.drawA (by assumption); (focus decide +kernel); (focus decide +kernel)) | (apply WL.drawA1 (by assumption); (focus decide +kernel); (focus decide +kernel)) | apply WL.skip | (apply WL.ct; (focus rfl))
        | (apply WL.cf; (focus rfl)) | refine SeqQ.normal ?_ | refine SeqQ.ret ?_ | refine SeqQ.exit ?_ | refine BlockQ.normal ?_ | refine BlockQ.ret ?_ | refine BlockQ.here ?_ | refine BlockQ.there (by decide) ?_ | refine Wp.block ?_
        | refine Wp.skip ?_ | refine Wp.ret ?_ | refine Wp.exit ?_ | refine LoopI.ret ?_ | refine LoopI.exit ?_ | refine LoopQ.normal ?_ | refine LoopQ.ret ?_ | refine LoopQ.exit ?_ | refine Wp.seq (Wp.seq ?_) | refine Wp.seq (Wp.block ?_)
        | (refine Wp.seq ?_; apply WL.ct; (focus rfl)) | (refine Wp.seq ?_; apply WL.cf; (focus rfl)))
      simp (disch := first | omega | (simp; done) | (simp; omega)) [decide_eq_decide, hT] <;> try rfl
  | false =>
    have c1' : letN (s[0].toNat : Int) = false := by rw [← hpk]; exact c1
    have c1n : ¬ letN (pk s 0) = true := by rw [c1]; simp
    cases c2 : digN (pk s 0) with
    | true =>
      have c2' : digN (s[0].toNat : Int) = true := by rw [← hpk]; exact c2
      obtain ⟨P, k, hP⟩ : ∃ P k, partsS s = (P, k) := ⟨_, _, rfl⟩
      obtain ⟨d1, d2, d3, l1, l2, l3⟩ := partsS_dig s
      rw [hP] at d1 d2 d3 l1 l2 l3
      simp only at d1 d2 d3 l1 l2 l3
      have l1' : (P.1.length : Int) < 4000000000 := by omega
      have l2' : (P.2.1.length : Int) < 4000000000 := by omega
      have l3' : (P.2.2.length : Int) < 4000000000 := by omega
      obtain ⟨p1, p2, p3⟩ := P
      simp only at d1 d2 d3 l1' l2' l3'
      by_cases c3 : 0 < k
      · obtain ⟨f, e, hF⟩ : ∃ f e, feetS (p1, p2, p3) = (f, e) := ⟨_, _, rfl⟩
        have hT : tokS s = (f, k, e) := by
          unfold tokS
          rw [if_neg c1n, if_pos c2, hP]
          simp only [c3, if_true, hF]
        have gx := And.intro @hs (And.intro @h1 (And.intro @h2 (And.intro @h3 (And.intro @h4 (And.intro @h5 (And.intro @c1' (And.intro @c2' (And.intro @hl (And.intro @hP (And.intro @d1 (And.intro @d2 (And.intro @d3 (And.intro @l1' (And.intro @l2' (And.intro @l3' (And.intro @c3 (@hF)))))))))))))))))
        refine goA ?_
        clear gx
        simp (disch := first | omega | (simp; done) | (simp; omega)) [decide_eq_decide, hT] <;> try rfl
      · obtain ⟨n, hn⟩ : ∃ n, spanN digN s = n := ⟨_, rfl⟩
        have hnl := spanN_le digN s
        rw [hn] at hnl
        have hpos : 0 < n := by
          rw [← hn]
          obtain ⟨b, r, rfl⟩ := List.exists_cons_of_ne_nil (List.length_pos_iff.1 hs)
          rw [spanN_cons, if_pos (by simpa [pk] using c2)]
          omega
        have hdn := allDig_span s
        rw [hn] at hdn
        have htr : Lib.trimPrefix (s.take n) [45] = s.take n := by
          unfold Lib.trimPrefix
          rw [if_neg]
          intro h
          obtain ⟨b, r, rfl⟩ := List.exists_cons_of_ne_nil (List.length_pos_iff.1 hs)
          obtain ⟨n', rfl⟩ : ∃ n', n = n' + 1 := ⟨n - 1, by omega⟩
          simp only [Lib.hasPrefix, List.take_succ_cons, List.isPrefixOf, Bool.and_true, beq_iff_eq] at h
          subst h
          simp [pk, digN] at c2
        have hlen : 0 < (s.take n).length := by rw [List.length_take]; omega
        have hlen2 : ((s.take n).length : Int) < 4000000000 := by rw [List.length_take]; omega
        obtain ⟨t, ht⟩ : ∃ t, s.take n = t := ⟨_, rfl⟩
        rw [ht] at hdn htr hlen hlen2
        have hdn2 : allDig (Lib.trimPrefix t [45]) := by rw [htr]; exact hdn
        have hlen3 : ¬ t = [] := List.length_pos_iff.1 hlen
        obtain ⟨f, e, hF⟩ : ∃ f e, numS t = (f, e) := ⟨_, _, rfl⟩
        have hT : tokS s = (f, (n : Int), e) := by
          unfold tokS
          rw [if_neg c1n, if_pos c2, hP]
          simp only [c3, if_false, hn, ht, hF]
        repeat (first
          | (refine Fr.i ?_; simp only [pput, List.set_cons_zero, List.set_cons_succ]; try rfl)
          | (refine By.i ?_; (focus (simp (disch := first | omega | (simp; done) | (simp; omega)) [wrap_i64, wrap_u64, hs, h1, h2, h3, h4, h6, c1', c2', hl, hP, gWhile, c3, hn, ht, hdn2, hlen, hlen2, hlen3, hF, entry, gf1]; first | done | rfl | exact ⟨rfl, rfl⟩)))
          | (refine By.i ?_; simp (disch := first | omega | (simp; done) | (simp; omega)) [wrap_i64, wrap_u64, hs, h1, h2, h3, h4, h6, c1', c2', hl, hP, gWhile, c3, hn, ht, hdn2, hlen, hlen2, hlen3, hF, entry, gf1]; refine ⟨(by (try simp only [List.length_append, List.length_cons, List.length_nil, maxLen]); omega), rfl⟩)
          | (refine Wt.i ?_; first | rfl | (focus (simp [hs, h1, h2, h3, h4, h6, c1', c2', hl, hP, gWhile, c3, hn, ht, hdn2, hlen, hlen2, hlen3, hF, entry, gf1]; done)))
          | (refine Ns.i ?_; (try simp only [List.append_nil, List.nil_append, List.cons_append, List.append_assoc, List.length_append, List.length_cons, List.length_nil, Nat.zero_add, Nat.reduceAdd]); rfl) | rfl
          | (apply SL.pass; (focus (refine Wt.i ?_; rfl))) | (apply SL.convertR; (focus rfl)) | apply SL.move | apply SL.assign | apply SL.load | apply SL.isnilE | apply SL.isnilN | apply SL.make | apply SL.binOp | apply SL.append
          | apply SL.builtin | apply SL.fieldAddr | apply SL.indexAddr | apply SL.field | apply SL.extract | apply SL.fcall | apply SL.pick | apply SL.store | apply SL.unOp | apply SL.convert | apply SL.index | apply SL.slice | apply SL.build
          | apply SL.nilCheck | apply SL.buildSlice | apply SL.box | apply SL.alloc | apply SL.makeFunc | apply SQ.nil | (apply WL.reg; (focus decide +kernel)) | (apply WL.drawP (by assumption); (focus decide +kernel); (focus decide +kernel))
          | (apply WL.drawF; (focus decide +kernel); (focus decide +kernel)) | (apply WL.reg1; (focus decide +kernel)) | (apply WL.drawP1 (by assumption); (focus decide +kernel); (focus decide +kernel))
          | (apply WL.drawF1; (focus decide +kernel); (focus decide +kernel)) | (apply WL.drawM (by assumption); (focus decide +kernel); (focus decide +kernel))
          | (apply WL.drawM1 (by assumption); (focus decide +kernel); (focus decide +kernel)) | (apply WL.drawA (by assumption); (focus decide +kernel); (focus decide +kernel))
          | (apply WL.drawA1 (by assumption); (focus decide +kernel); (focus decide +kernel)) | apply WL.skip | (apply WL.ct; (focus rfl)) | (apply WL.cf; (focus rfl)) | refine SeqQ.normal ?_ | refine SeqQ.ret ?_ | refine SeqQ.exit ?_
          | refine BlockQ.normal ?_ | refine BlockQ.ret ?_ | refine BlockQ.here ?_ | refine BlockQ.there (by decide) ?_ | refine Wp.block ?_ | refine Wp.skip ?_ | refine Wp.ret ?_ | refine Wp.exit ?_ | refine LoopI.ret ?_
          | refine LoopI.exit ?_ | refine LoopQ.normal ?_ | refine LoopQ.ret ?_ | refine LoopQ.exit ?_ | refine Wp.seq (Wp.seq ?_) | refine Wp.seq (Wp.block ?_) | (refine Wp.seq ?_; apply WL.ct; (focus rfl))
          | (refine Wp.seq ?_; apply WL.cf; (focus rfl)))
        simp (disch := first | omega | (simp; done) | (simp; omega)) [decide_eq_decide, hT] <;> try rfl
    | false =>
      have c2' : digN (s[0].toNat : Int) = false := by rw [← hpk]; exact c2
      have c2n : ¬ digN (pk s 0) = true := by rw [c2]; simp
      by_cases c3 : pk s 0 = 45 ∧ digN (pk s 1) = true
      · obtain ⟨c3, c4⟩ := c3
        have c3' : (s[0].toNat : Int) = 45 := by omega
        have hl1 : 1 < s.length := by
          refine Nat.lt_of_not_le fun h => ?_
          rw [pk_end h] at c4
          simp [digN] at c4
        have hpk1 := pk_at hl1
        have c4' : digN (s[1].toNat : Int) = true := by rw [← hpk1]; exact c4
        have hl1' : 1 < (s.length : Int) := by omega
        obtain ⟨n, hn⟩ : ∃ n, spanN digN (s.drop 1) = n := ⟨_, rfl⟩
        have hnl := spanN_le digN (s.drop 1)
        rw [hn, List.length_drop] at hnl
        obtain ⟨b, r, rfl⟩ := List.exists_cons_of_ne_nil (List.length_pos_iff.1 hs)
        have hb : b = 45 := by
          have : b.toNat = 45 := by simpa [pk] using c3
          exact UInt8.toNat_inj.1 this
        subst hb
        have hdn := allDig_span r
        rw [List.drop_one, List.tail_cons] at hn
        rw [hn] at hdn
        have htk : (45 :: r).take (1 + n) = 45 :: r.take n := by rw [Nat.add_comm, List.take_succ_cons]
        have htr : Lib.trimPrefix (45 :: r.take n) [45] = r.take n := by simp [Lib.trimPrefix, Lib.hasPrefix, List.isPrefixOf]
        have hlen2 : ((45 :: r.take n).length : Int) < 4000000000 := by
          rw [List.length_cons, List.length_take]
          rw [List.length_cons] at hl
          omega
        obtain ⟨t, ht⟩ : ∃ t, 45 :: r.take n = t := ⟨_, rfl⟩
        have hdn2 : allDig (Lib.trimPrefix t [45]) := by rw [← ht, htr]; exact hdn
        have hlen3 : ¬ t = [] := by rw [← ht]; simp
        have hlen : 0 < t.length := List.length_pos_iff.2 hlen3
        rw [ht] at hlen2 htk
        obtain ⟨f, e, hF⟩ : ∃ f e, numS t = (f, e) := ⟨_, _, rfl⟩
        have hT : tokS (45 :: r) = (f, 1 + (n : Int), e) := by
          unfold tokS
          rw [if_neg c1n, if_neg c2n, if_pos ⟨c3, c4⟩]
          simp only [List.drop_one, List.tail_cons, hn, htk, hF]
        obtain ⟨S, hS⟩ : ∃ S : List UInt8, S = 45 :: r := ⟨_, rfl⟩
        have hd1 : S.drop 1 = r := by rw [hS]; rfl
        have ht1 : S.tail = r := by rw [hS]; rfl
        have e1 : (1 + (n : Int)).toNat = 1 + n := by omega
        rw [← hS] at hT hl hs hl1 hl1' htk
        simp only [← hS] at c1' c2' c3' c4' hnl ⊢
        have hrl : (r.length : Int) < 4000000000 := by rw [hS, List.length_cons] at hl; omega
        have hrt : r.take (S.length - 1) = r := by rw [hS, List.length_cons, Nat.add_sub_cancel, List.take_length]
        repeat (first
          | (refine Fr.i ?_; simp only [pput, List.set_cons_zero, List.set_cons_succ]; try rfl)
          | (refine By.i ?_; (focus (simp (disch := first | omega | (simp; done) | (simp; omega)) [wrap_i64, wrap_u64, hs, h1, h2, h3, h6, c1', c2', c3', c4', hl, hl1, hl1', gWhile, hrt, hd1, ht1, hn, hrl, e1, htk, hdn2, hlen, hlen2, hlen3, hF, entry, gf1]; first | done | rfl | exact ⟨rfl, rfl⟩)))
          | (refine By.i ?_; simp (disch := first | omega | (simp; done) | (simp; omega)) [wrap_i64, wrap_u64, hs, h1, h2, h3, h6, c1', c2', c3', c4', hl, hl1, hl1', gWhile, hrt, hd1, ht1, hn, hrl, e1, htk, hdn2, hlen, hlen2, hlen3, hF, entry, gf1]; refine ⟨(by (try simp only [List.length_append, List.length_cons, List.length_nil, maxLen]); omega), rfl⟩)
          | (refine Wt.i ?_; first | rfl | (focus (simp [hs, h1, h2, h3, h6, c1', c2', c3', c4', hl, hl1, hl1', gWhile, hrt, hd1, ht1, hn, hrl, e1, htk, hdn2, hlen, hlen2, hlen3, hF, entry, gf1]; done)))
          | (refine Ns.i ?_; (try simp only [List.append_nil, List.nil_append, List.cons_append, List.append_assoc, List.length_append, List.length_cons, List.length_nil, Nat.zero_add, Nat.reduceAdd]); rfl) | rfl
          | (apply SL.pass; (focus (refine Wt.i ?_; rfl))) | (apply SL.convertR; (focus rfl)) | apply SL.move | apply SL.assign | apply SL.load | apply SL.isnilE | apply SL.isnilN | apply SL.make | apply SL.binOp | apply SL.append
          | apply SL.builtin | apply SL.fieldAddr | apply SL.indexAddr | apply SL.field | apply SL.extract | apply SL.fcall | apply SL.pick | apply SL.store | apply SL.unOp | apply SL.convert | apply SL.index | apply SL.slice | apply SL.build
          | apply SL.nilCheck | apply SL.buildSlice | apply SL.box | apply SL.alloc | apply SL.makeFunc | apply SQ.nil | (apply WL.reg; (focus decide +kernel)) | (apply WL.drawP (by assumption); (focus decide +kernel); (focus decide +kernel))
          | (apply WL.drawF; (focus decide +kernel); (focus decide +kernel)) | (apply WL.reg1; (focus decide +kernel)) | (apply WL.drawP1 (by assumption); (focus decide +kernel); (focus decide +kernel))
          | (apply WL.drawF1; (focus decide +kernel); (focus decide +kernel)) | (apply WL.drawM (by assumption); (focus decide +kernel); (focus decide +kernel))
          | (apply WL.drawM1 (by assumption); (focus decide +kernel); (focus decide +kernel)) | (apply WL.drawA (by assumption); (focus decide +kernel); (focus decide +kernel))
          | (apply WL.drawA1 (by assumption); (focus decide +kernel); (focus decide +kernel)) | apply WL.skip | (apply WL.ct; (focus rfl)) | (apply WL.cf; (focus rfl)) | refine SeqQ.normal ?_ | refine SeqQ.ret ?_ | refine SeqQ.exit ?_
          | refine BlockQ.normal ?_ | refine BlockQ.ret ?_ | refine BlockQ.here ?_ | refine BlockQ.there (by decide) ?_ | refine Wp.block ?_ | refine Wp.skip ?_ | refine Wp.ret ?_ | refine Wp.exit ?_ | refine LoopI.ret ?_
          | refine LoopI.exit ?_ | refine LoopQ.normal ?_ | refine LoopQ.ret ?_ | refine LoopQ.exit ?_ | refine Wp.seq (Wp.seq ?_) | refine Wp.seq (Wp.block ?_) | (refine Wp.seq ?_; apply WL.ct; (focus rfl))
          | (refine Wp.seq ?_; apply WL.cf; (focus rfl)))
        simp (disch := first | omega | (simp; done) | (simp; omega)) [decide_eq_decide, hT] <;> try rfl
      · have hrest : (if pk s 0 = 34 then (if Lib.indexByte (s.drop 1) 34 < 0 then ((noTk, 0, 15) : Tk × Int × Int) else (⟨4, (s.drop 1).take (Lib.indexByte (s.drop 1) 34).toNat, 0, (0, 0), 0, 0⟩, Lib.indexByte (s.drop 1) 34 + 2, 0))
            else if Lib.hasPrefix s [45, 62] = true then (⟨5, s.take 2, 0, (0, 0), 0, 0⟩, 2, 0)
            else if 0 ≤ Lib.indexByte marks (pk s 0).toUInt8 then (⟨5, s.take 1, 0, (0, 0), 0, 0⟩, 1, 0) else (noTk, 0, 15)) = tokS s := by
          unfold tokS
          rw [if_neg c1n, if_neg c2n, if_neg c3]
        by_cases c4 : pk s 0 = 45
        · have c4' : (s[0].toNat : Int) = 45 := by omega
          have n34 : ¬ pk s 0 = 34 := by omega
          by_cases hl1 : 1 < s.length
          · have hl1' : 1 < (s.length : Int) := by omega
            have hpk1 := pk_at hl1
            have c4n : digN (s[1].toNat : Int) = false := by
              cases h : digN (s[1].toNat : Int) with
              | false => rfl
              | true => exact absurd ⟨c4, by rw [hpk1]; exact h⟩ c3
            rw [if_neg (by omega)] at hrest
            cases c6 : Lib.hasPrefix s [45, 62] with
            | true =>
              have hl2 : 2 ≤ s.length := hasPrefix_two c6
              have hl2' : (2 : Int) ≤ (s.length : Int) := by omega
              rw [if_pos c6] at hrest
              have gx := And.intro @hs (And.intro @h1 (And.intro @h2 (And.intro @h3 (And.intro @h7 (And.intro @h8 (And.intro @c1' (And.intro @c2' (And.intro @c4' (And.intro @hl (And.intro @hl1 (And.intro @hl1' (And.intro @c4n (And.intro @c6 (And.intro @hl2 (@hl2')))))))))))))))
              refine goA ?_
              clear gx
              simp (disch := first | omega | (simp; done) | (simp; omega)) [decide_eq_decide, ← hrest] <;> try rfl
            | false =>
              rw [if_neg (by rw [c6]; simp)] at hrest
              obtain ⟨k, hk⟩ : ∃ k, Lib.indexByte marks s[0] = k := ⟨_, rfl⟩
              have hk2 : Lib.indexByte [40, 41, 91, 93, 123, 125, 58, 44, 59, 61, 43, 46, 63, 42, 47] s[0] = k := hk
              have hk3 : Lib.indexByte [40, 41, 91, 93, 123, 125, 58, 44, 59, 61, 43, 46, 63, 42, 47] (s[0].toNat).toUInt8 = k := by rw [show (s[0].toNat).toUInt8 = s[0] from by simp]; exact hk
              have hb8 : (s[0].toNat : Int) ≤ 255 := by have := s[0].toNat_lt; omega
              rw [hpk, show (s[0].toNat).toUInt8 = s[0] from by simp, hk] at hrest
              have h45 : s[0] = 45 := UInt8.toNat_inj.1 (by simp; omega)
              have hkm : k = -1 := by rw [← hk, h45]; decide
              have c7 : ¬ 0 ≤ k := by omega
              have hk45 : Lib.indexByte [40, 41, 91, 93, 123, 125, 58, 44, 59, 61, 43, 46, 63, 42, 47] 45 = -1 := by decide
              rw [if_neg c7] at hrest
              have gx := And.intro @hs (And.intro @h1 (And.intro @h2 (And.intro @h3 (And.intro @h7 (And.intro @h8 (And.intro @c1' (And.intro @c2' (And.intro @c4' (And.intro @hl (And.intro @hl1 (And.intro @hl1' (And.intro @c4n (And.intro @c6 (And.intro @hk2 (And.intro @hk3 (And.intro @hb8 (And.intro @c7 (And.intro @hk45 (@hkm)))))))))))))))))))
              refine goA ?_
              clear gx
              simp (disch := first | omega | (simp; done) | (simp; omega)) [decide_eq_decide, ← hrest, noTk] <;> try rfl
          · have hl1' : ¬ 1 < (s.length : Int) := by omega
            rw [if_neg (by omega)] at hrest
            cases c6 : Lib.hasPrefix s [45, 62] with
            | true =>
              have hl2 : 2 ≤ s.length := hasPrefix_two c6
              have hl2' : (2 : Int) ≤ (s.length : Int) := by omega
              omega
            | false =>
              rw [if_neg (by rw [c6]; simp)] at hrest
              obtain ⟨k, hk⟩ : ∃ k, Lib.indexByte marks s[0] = k := ⟨_, rfl⟩
              have hk2 : Lib.indexByte [40, 41, 91, 93, 123, 125, 58, 44, 59, 61, 43, 46, 63, 42, 47] s[0] = k := hk
              have hk3 : Lib.indexByte [40, 41, 91, 93, 123, 125, 58, 44, 59, 61, 43, 46, 63, 42, 47] (s[0].toNat).toUInt8 = k := by rw [show (s[0].toNat).toUInt8 = s[0] from by simp]; exact hk
              have hb8 : (s[0].toNat : Int) ≤ 255 := by have := s[0].toNat_lt; omega
              rw [hpk, show (s[0].toNat).toUInt8 = s[0] from by simp, hk] at hrest
              have h45 : s[0] = 45 := UInt8.toNat_inj.1 (by simp; omega)
              have hkm : k = -1 := by rw [← hk, h45]; decide
              have c7 : ¬ 0 ≤ k := by omega
              have hk45 : Lib.indexByte [40, 41, 91, 93, 123, 125, 58, 44, 59, 61, 43, 46, 63, 42, 47] 45 = -1 := by decide
              rw [if_neg c7] at hrest
              have gx := And.intro @hs (And.intro @h1 (And.intro @h2 (And.intro @h3 (And.intro @h7 (And.intro @h8 (And.intro @c1' (And.intro @c2' (And.intro @c4' (And.intro @hl (And.intro @hl1 (And.intro @hl1' (And.intro @c6 (And.intro @hk2 (And.intro @hk3 (And.intro @hb8 (And.intro @c7 (And.intro @hk45 (@hkm))))))))))))))))))
              refine goA ?_
              clear gx
              simp (disch := first | omega | (simp; done) | (simp; omega)) [decide_eq_decide, ← hrest, noTk] <;> try rfl
        · have c4' : ¬ (s[0].toNat : Int) = 45 := by omega
          by_cases c5 : pk s 0 = 34
          · have c5' : (s[0].toNat : Int) = 34 := by omega
            obtain ⟨k, hk⟩ : ∃ k, Lib.indexByte (s.drop 1) 34 = k := ⟨_, rfl⟩
            have hkt : Lib.indexByte s.tail 34 = k := by rw [← hk, List.drop_one]
            have hkn := indexByte_lt (s.drop 1) 34
            rw [hk, List.length_drop] at hkn
            rw [if_pos c5, hk] at hrest
            by_cases c6 : k < 0
            · rw [if_pos c6] at hrest
              have gx := And.intro @hs (And.intro @h1 (And.intro @h2 (And.intro @h3 (And.intro @h7 (And.intro @c1' (And.intro @c2' (And.intro @c4' (And.intro @hl (And.intro @c5' (And.intro @hk (And.intro @hkt (@c6))))))))))))
              refine goA ?_
              clear gx
              simp (disch := first | omega | (simp; done) | (simp; omega)) [decide_eq_decide, ← hrest, noTk] <;> try rfl
            · rw [if_neg c6] at hrest
              obtain ⟨k', rfl⟩ : ∃ k' : Nat, k = (k' : Int) := ⟨k.toNat, by omega⟩
              have e1 : k' + 1 - 1 = k' := by omega
              have e2 : ((k' : Int) + 1).toNat = k' + 1 := by omega
              have e3 : k' + 1 ≤ s.length := by omega
              rw [Int.toNat_natCast] at hrest
              have gx := And.intro @hs (And.intro @h1 (And.intro @h2 (And.intro @h3 (And.intro @h7 (And.intro @c1' (And.intro @c2' (And.intro @c4' (And.intro @hl (And.intro @c5' (And.intro @hk (And.intro @hkt (And.intro @c6 (And.intro @e1 (And.intro @e2 (@e3)))))))))))))))
              refine goA ?_
              clear gx
              simp (disch := first | omega | (simp; done) | (simp; omega)) [decide_eq_decide, ← hrest] <;> try rfl
          · have c5' : ¬ (s[0].toNat : Int) = 34 := by omega
            rw [if_neg c5] at hrest
            cases c6 : Lib.hasPrefix s [45, 62] with
            | true =>
              have hl2 : 2 ≤ s.length := hasPrefix_two c6
              have hl2' : (2 : Int) ≤ (s.length : Int) := by omega
              rw [if_pos c6] at hrest
              have gx := And.intro @hs (And.intro @h1 (And.intro @h2 (And.intro @h3 (And.intro @h7 (And.intro @h8 (And.intro @c1' (And.intro @c2' (And.intro @c4' (And.intro @hl (And.intro @c5' (And.intro @c6 (And.intro @hl2 (@hl2')))))))))))))
              refine goA ?_
              clear gx
              simp (disch := first | omega | (simp; done) | (simp; omega)) [decide_eq_decide, ← hrest] <;> try rfl
            | false =>
              rw [if_neg (by rw [c6]; simp)] at hrest
              obtain ⟨k, hk⟩ : ∃ k, Lib.indexByte marks s[0] = k := ⟨_, rfl⟩
              have hk2 : Lib.indexByte [40, 41, 91, 93, 123, 125, 58, 44, 59, 61, 43, 46, 63, 42, 47] s[0] = k := hk
              have hk3 : Lib.indexByte [40, 41, 91, 93, 123, 125, 58, 44, 59, 61, 43, 46, 63, 42, 47] (s[0].toNat).toUInt8 = k := by rw [show (s[0].toNat).toUInt8 = s[0] from by simp]; exact hk
              have hb8 : (s[0].toNat : Int) ≤ 255 := by have := s[0].toNat_lt; omega
              rw [hpk, show (s[0].toNat).toUInt8 = s[0] from by simp, hk] at hrest
              by_cases c7 : 0 ≤ k
              · rw [if_pos c7] at hrest
                have gx := And.intro @hs (And.intro @h1 (And.intro @h2 (And.intro @h3 (And.intro @h7 (And.intro @h8 (And.intro @c1' (And.intro @c2' (And.intro @c4' (And.intro @hl (And.intro @c5' (And.intro @c6 (And.intro @hk2 (And.intro @hk3 (And.intro @hb8 (@c7)))))))))))))))
                refine goA ?_
                clear gx
                simp (disch := first | omega | (simp; done) | (simp; omega)) [decide_eq_decide, ← hrest] <;> try rfl
              · rw [if_neg c7] at hrest
                have gx := And.intro @hs (And.intro @h1 (And.intro @h2 (And.intro @h3 (And.intro @h7 (And.intro @h8 (And.intro @c1' (And.intro @c2' (And.intro @c4' (And.intro @hl (And.intro @c5' (And.intro @c6 (And.intro @hk2 (And.intro @hk3 (And.intro @hb8 (@c7)))))))))))))))
                refine goA ?_
                clear gx
                simp (disch := first | omega | (simp; done) | (simp; omega)) [decide_eq_decide, ← hrest, noTk] <;> try rfl

end Go.Kz

/-
  Layer 19: what Scan does, in plain words.
-/
namespace Go.Kz
open Go Go.Proofs

theorem partsS_le (s : List UInt8) : (partsS s).2 ≤ s.length := by
  have lt : ∀ i, pk s i = 39 → i < s.length := fun i h => Nat.lt_of_not_le fun h' => by rw [pk_end h'] at h; cases h
  unfold partsS noParts
  simp only
  split
  · rename_i h
    have := lt _ h
    simp only
    omega
  · split
    · split
      · rename_i h
        have := lt _ h.2.2.2
        simp only
        omega
      · simp only; omega
    · split
      · split
        · rename_i h
          have := lt _ h.2
          simp only
          omega
        · simp only; omega
      · simp only; omega

theorem spanN_pos {p : Int → Bool} {s : List UInt8} (hs : 0 < s.length) (h : p (pk s 0) = true) : 1 ≤ spanN p s := by
  obtain ⟨b, r, rfl⟩ := List.exists_cons_of_ne_nil (List.length_pos_iff.1 hs)
  rw [spanN_cons, if_pos (by simpa [pk] using h)]
  omega

/-- A token takes at least one byte, and not more than there are. -/
theorem tokS_pos {s : List UInt8} (hs : 0 < s.length) (h : (tokS s).2.2 = 0) : 1 ≤ (tokS s).2.1 ∧ (tokS s).2.1 ≤ s.length := by
  unfold tokS at h ⊢
  split at h
  · rename_i c
    rw [if_pos c]
    split at h
    · cases h
    · rename_i c3
      rw [if_neg c3]
      have h1 := spanN_pos (p := wordN) hs (by unfold wordN; rw [c]; rfl)
      have h2 := spanN_le wordN s
      simp only
      omega
  · rename_i c
    rw [if_neg c]
    split at h
    · rename_i c2
      rw [if_pos c2]
      split at h
      · rename_i c3
        rw [if_pos c3]
        have := partsS_le s
        simp only
        omega
      · rename_i c3
        rw [if_neg c3]
        have h1 := spanN_pos (p := digN) hs c2
        have h2 := spanN_le digN s
        simp only
        omega
    · rename_i c2
      rw [if_neg c2]
      split at h
      · rename_i c3
        rw [if_pos c3]
        have h2 := spanN_le digN (s.drop 1)
        rw [List.length_drop] at h2
        simp only
        omega
      · rename_i c3
        rw [if_neg c3]
        split at h
        · rename_i c4
          rw [if_pos c4]
          split at h
          · cases h
          · rename_i c5
            rw [if_neg c5]
            have h2 := indexByte_lt (s.drop 1) 34
            rw [List.length_drop] at h2
            simp only
            omega
        · rename_i c4
          rw [if_neg c4]
          split at h
          · rename_i c5
            rw [if_pos c5]
            have := hasPrefix_two c5
            simp only
            omega
          · rename_i c5
            rw [if_neg c5]
            split at h
            · rename_i c6
              rw [if_pos c6]
              simp only
              omega
            · cases h

/-- One line: the tokens, the column at which it stops, the error. -/
def lineS : Nat → List UInt8 → Int → Int → List Tk → List Tk × Int × Int
  | 0, _, _, col, out => (out, col, 0)
  | n + 1, r, ln, col, out =>
    if r = [] ∨ pk r 0 = 37 then (out, col, 0)
    else if pk r 0 = 32 ∨ pk r 0 = 9 then lineS n (r.drop 1) ln (col + 1) out
    else if (tokS r).2.2 ≠ 0 then (out, col, (tokS r).2.2)
    else if out.length = 20000 then (out, col, 4)
    else lineS n (r.drop (tokS r).2.1.toNat) ln (col + (tokS r).2.1) (out ++ [{ (tokS r).1 with line := ln, col := col }])

/-- The lines, from one on. -/
def scanL : List (List UInt8) → Int → List Tk → List Tk × (Int × Int) × Int
  | [], _, out => (out, (0, 0), 0)
  | l :: ls, ln, out =>
    if (lineS (l.length + 1) l ln 1 out).2.2 ≠ 0 then ([], (ln, (lineS (l.length + 1) l ln 1 out).2.1), (lineS (l.length + 1) l ln 1 out).2.2)
    else if (lineS (l.length + 1) l ln 1 out).1.length = out.length then scanL ls (ln + 1) out
    else if (lineS (l.length + 1) l ln 1 out).1.length = 20000 then ([], (ln, (l.length : Int) + 1), 4)
    else scanL ls (ln + 1) ((lineS (l.length + 1) l ln 1 out).1 ++ [⟨6, [10], 0, (0, 0), ln, (l.length : Int) + 1⟩])

def scanS (s : List UInt8) : List Tk × (Int × Int) × Int := if 65536 < (s.length : Int) then ([], (0, 0), 16) else scanL (splitNL s) 1 []

theorem lineS_len : ∀ (n : Nat) (r : List UInt8) (ln col : Int) (out : List Tk), out.length ≤ 20000 → (lineS n r ln col out).1.length ≤ 20000
  | 0, _, _, _, _, h => h
  | n + 1, r, ln, col, out, h => by
    unfold lineS
    split
    · exact h
    · split
      · exact lineS_len n _ _ _ _ h
      · split
        · exact h
        · split
          · exact h
          · exact lineS_len n _ _ _ _ (by rw [List.length_append, List.length_singleton]; omega)

theorem splitNL_len : ∀ (s : List UInt8), (splitNL s).length ≤ s.length + 1 ∧ ∀ l ∈ splitNL s, l.length ≤ s.length
  | [] => by simp [splitNL]
  | b :: r => by
    obtain ⟨h1, h2⟩ := splitNL_len r
    unfold splitNL
    split
    · refine ⟨by simp only [List.length_cons]; omega, fun l hl => ?_⟩
      rcases List.mem_cons.1 hl with rfl | hl
      · exact Nat.zero_le _
      · have := h2 l hl
        rw [List.length_cons]
        omega
    · split
      · rename_i x xs heq
        rw [heq] at h1 h2
        refine ⟨by simp only [List.length_cons] at h1 ⊢; omega, fun l hl => ?_⟩
        rcases List.mem_cons.1 hl with rfl | hl
        · have := h2 x (by simp)
          simp only [List.length_cons]
          omega
        · have := h2 l (by simp [hl])
          rw [List.length_cons]
          omega
      · exact ⟨by simp, fun l hl => by simp at hl; subst hl; simp⟩

end Go.Kz

/-
  Layer 19: Scan, walked.
-/
namespace Go.Kz
open Go Go.Proofs

abbrev tks : Em (List Tk) := Em.tk.list 7
abbrev Em.pos : Em (Int × Int) := Em.frac

theorem rowat_ne {σ : List SObj} {tok : Tok} {e : TypeId} {k n q : Nat} {p : PD} (h : RowAt σ tok e k n) (hq : σ[q]? = some (.box p)) : tok ≠ .own q := by
  rintro rfl
  rcases h with ⟨_, h⟩ | ⟨_, id, h1, h2⟩
  · cases h
  · simp only [Tok.own.injEq] at h1
    subst h1
    rw [hq] at h2
    cases h2
theorem rowat_set {σ : List SObj} {tok : Tok} {e : TypeId} {k n q : Nat} {p : PD} {o : SObj} (h : RowAt σ tok e k n) (hq : σ[q]? = some (.box p)) : RowAt (σ.set q o) tok e k n :=
  h.keep fun id o' ht h' => by
    have : q ≠ id := fun e => rowat_ne h hq (by rw [ht, e])
    rw [List.getElem?_set_ne this]
    exact h'

theorem lineS_pre : ∀ (n : Nat) (r : List UInt8) (ln col : Int) (out : List Tk), ∃ x, (lineS n r ln col out).1 = out ++ x
  | 0, _, _, _, _ => ⟨[], by simp [lineS]⟩
  | n + 1, r, ln, col, out => by
    unfold lineS
    split
    · exact ⟨[], by simp⟩
    · split
      · exact lineS_pre n _ _ _ _
      · split
        · exact ⟨[], by simp⟩
        · split
          · exact ⟨[], by simp⟩
          · obtain ⟨x, h⟩ := lineS_pre n (r.drop (tokS r).2.1.toNat) ln (col + (tokS r).2.1) (out ++ [{ (tokS r).1 with line := ln, col := col }])
            exact ⟨_ :: x, by rw [h, List.append_assoc]; rfl⟩

variable {E : PExt} (hU : Uni E)
include hU
set_option maxRecDepth 10000
set_option maxHeartbeats 4000000

theorem r_Scan (h0 : E 12 = none) (h1 : E 31 = some (entry (gf2 .text .text texts fun s c => gif (c = [10] ∧ (s.length : Int) < 4000000000) (some (splitNL s)))))
    (h2 : E 32 = some (entry (gf1 .text (Em.tk.tup3 i64 i64) fun s => gif (0 < s.length ∧ (s.length : Int) < 4000000000) (some (tokS s)))))
    (s : List UInt8) (hl : (s.length : Int) < 4000000000) : Run Tryd.prog E 12 [.str s] ((tks.tup3 .pos i64).emb (scanS s)) := by
  apply Run.bodyL h0 Tryd.func12 rfl
  focus (simp [show Tryd.f12.ntmps = _ from rfl, List.replicate]; rfl)
  by_cases hq : 65536 < (s.length : Int)
  · have hS : scanS s = ([], (0, 0), 16) := by
      unfold scanS
      rw [if_pos hq]
    have gx := @hq
    refine goA ?_
    clear gx
    simp (disch := first | omega | (simp; done) | (simp; omega)) [decide_eq_decide, hS] <;> try rfl
  · obtain ⟨hLn, hLl⟩ := splitNL_len s
    obtain ⟨L, hL⟩ : ∃ L, splitNL s = L := ⟨_, rfl⟩
    have hS : scanS s = scanL L 1 [] := by
      unfold scanS
      rw [if_neg hq, hL]
    rw [hL] at hLn hLl
    obtain ⟨F, hF⟩ : ∃ F, scanL L 1 [] = F := ⟨_, rfl⟩
    rw [hS, hF]
    have gx := And.intro @hq (And.intro @h1 (And.intro @hl (@hL)))
    refine goA ?_
    clear gx
    refine Wp.loopI (fun m fr σ => ∃ (i z : Nat) (o : List Tk) (tok : Tok) (σ0 : List SObj), ∃ gg : Nat → PD, (i + m = L.length ∧ scanL (L.drop i) ((i : Int) + 1) o = F ∧ (o = [] ∨ z = 7) ∧ RowAt σ0 tok 41 7 o.length ∧ σ0[0]? = some (SObj.box (.agg [.int .i64 0, .int .i64 0])) ∧ o.length ≤ 20000) ∧ fr = .str s :: gg 1 :: .slice 0 [] .full :: .ptr 0 0 :: .int .i64 0 :: .slice z (o.map Em.tk.emb) tok :: gg 6 :: gg 7 :: gg 8 :: gg 9 :: gg 10 :: gg 11 :: gg 12 :: gg 13 :: gg 14 :: gg 15 :: gg 16 :: gg 17 :: gg 18 :: texts.emb L :: .int .i64 L.length :: .int .i64 i :: gg 22 :: gg 23 :: gg 24 :: gg 25 :: gg 26 :: gg 27 :: gg 28 :: gg 29 :: gg 30 :: gg 31 :: gg 32 :: gg 33 :: gg 34 :: gg 35 :: gg 36 :: gg 37 :: gg 38 :: gg 39 :: gg 40 :: gg 41 :: gg 42 :: gg 43 :: gg 44 :: gg 45 :: gg 46 :: gg 47 :: gg 48 :: gg 49 :: gg 50 :: gg 51 :: gg 52 :: gg 53 :: gg 54 :: gg 55 :: gg 56 :: gg 57 :: gg 58 :: gg 59 :: gg 60 :: gg 61 :: gg 62 :: gg 63 :: gg 64 :: gg 65 :: gg 66 :: gg 67 :: gg 68 :: gg 69 :: gg 70 :: gg 71 :: gg 72 :: gg 73 :: gg 74 :: gg 75 :: gg 76 :: gg 77 :: gg 78 :: gg 79 :: gg 80 :: gg 81 :: gg 82 :: gg 83 :: gg 84 :: gg 85 :: gg 86 :: gg 87 :: gg 88 :: gg 89 :: gg 90 :: gg 91 :: gg 92 :: gg 93 :: gg 94 :: gg 95 :: gg 96 :: gg 97 :: gg 98 :: gg 99 :: gg 100 :: gg 101 :: gg 102 :: gg 103 :: gg 104 :: gg 105 :: gg 106 :: gg 107 :: gg 108 :: gg 109 :: gg 110 :: [] ∧ σ = σ0) ?_ (L.length) (by refine ⟨0, 0, [], .full, [SObj.box (.agg [.int .i64 0, .int .i64 0])], ?_⟩; exact exF (⟨by omega, by simpa using hF, .inl rfl, .inl ⟨rfl, rfl⟩, rfl, by simp⟩) (by (first | rfl | (simp []; repeat (first | rfl | (apply And.intro))) | (simp []; done))) (by (first | rfl | (simp []; repeat (first | rfl | (apply And.intro))) | (simp []; done))))
    rintro m fr σ ⟨i, z, o, tok, σ0, gg, hI, rfl, rfl⟩
    obtain ⟨hm, hsc, hz, hrow, hσ0, hol⟩ := hI
    have hpos0 : 0 < σ.length := (List.getElem?_eq_some_iff.1 hσ0).1
    have hs0 : ∀ x, (σ.set 0 x)[0]? = some x := fun x => List.getElem?_set_self hpos0
    have hσ0' : σ[0] = SObj.box (.agg [.int .i64 0, .int .i64 0]) := by rw [List.getElem?_eq_getElem hpos0] at hσ0; simpa using hσ0
    by_cases hi : i < L.length
    · have q1 : (i : Int) < (L.length : Int) := by omega
      have hll := hLl L[i] (List.getElem_mem hi)
      have hcons : L.drop i = L[i] :: L.drop (i + 1) := List.drop_eq_getElem_cons hi
      obtain ⟨l, hll2⟩ : ∃ l, L[i] = l := ⟨_, rfl⟩
      rw [hll2] at hll hcons
      obtain ⟨q, hqv⟩ : ∃ q, σ.length = q := ⟨_, rfl⟩
      obtain ⟨M, hM⟩ : ∃ M, M = m := ⟨_, rfl⟩
      obtain ⟨o0, ho0⟩ : ∃ o0, o0 = o := ⟨_, rfl⟩
      obtain ⟨ln, hln⟩ : ∃ ln : Int, (i : Int) + 1 = ln := ⟨_, rfl⟩
      obtain ⟨R, hR⟩ : ∃ R, lineS (l.length + 1) l ln 1 o0 = R := ⟨_, rfl⟩
      have hR0 : lineS (l.length + 1) l ln 1 o = R := by rw [← ho0]; exact hR
      rw [hcons, hln] at hsc
      have hsc2 : scanL (l :: L.drop (i + 1)) ln o0 = F := by rw [ho0]; exact hsc
      clear hsc
      unfold scanL at hsc2
      rw [hR] at hsc2
      have hRl : R.1.length ≤ 20000 := by rw [← hR]; exact lineS_len _ _ _ _ _ (by rw [ho0]; exact hol)
      have ha1 : ∀ (σ' : List SObj) (x : SObj), 0 < σ'.length → (σ' ++ [x])[0]? = σ'[0]? := fun σ' x h => List.getElem?_append_left h
      have hq0 : 0 < q := by omega
      have gx := And.intro @q1 (And.intro @hll2 (And.intro @hqv (@hln)))
      refine goA ?_
      clear gx
      refine Wp.loopI (fun m fr σ => ∃ (z fuel : Nat) (rest : List UInt8) (col : Int) (o : List Tk) (tok : Tok) (σ1 : List SObj), ∃ gg : Nat → PD, (m = rest.length ∧ rest.length < fuel ∧ lineS fuel rest ln col o = R ∧ (o = [] ∨ z = 7) ∧ RowAt σ1 tok 41 7 o.length ∧ σ1[0]? = some (.box (.agg [.int .i64 0, .int .i64 0])) ∧ σ1[q]? = some (.box (.agg [.int .i64 ln, .int .i64 col])) ∧ o.length ≤ 20000 ∧ 1 ≤ col ∧ col + rest.length ≤ l.length + 1) ∧ fr = .str s :: gg 1 :: .slice 0 [] .full :: .ptr 0 0 :: .int .i64 0 :: .slice z (o.map Em.tk.emb) tok :: .int .i64 i :: .str l :: .int .i64 o0.length :: .ptr q 0 :: .str rest :: gg 11 :: gg 12 :: gg 13 :: gg 14 :: gg 15 :: gg 16 :: gg 17 :: gg 18 :: texts.emb L :: .int .i64 L.length :: .int .i64 i :: gg 22 :: gg 23 :: gg 24 :: gg 25 :: gg 26 :: gg 27 :: gg 28 :: gg 29 :: gg 30 :: gg 31 :: gg 32 :: gg 33 :: gg 34 :: gg 35 :: gg 36 :: gg 37 :: gg 38 :: gg 39 :: gg 40 :: gg 41 :: gg 42 :: gg 43 :: gg 44 :: gg 45 :: gg 46 :: gg 47 :: gg 48 :: gg 49 :: gg 50 :: gg 51 :: gg 52 :: gg 53 :: gg 54 :: gg 55 :: gg 56 :: gg 57 :: gg 58 :: gg 59 :: gg 60 :: gg 61 :: gg 62 :: gg 63 :: gg 64 :: gg 65 :: gg 66 :: gg 67 :: gg 68 :: gg 69 :: gg 70 :: gg 71 :: gg 72 :: gg 73 :: gg 74 :: gg 75 :: gg 76 :: gg 77 :: gg 78 :: gg 79 :: gg 80 :: gg 81 :: gg 82 :: gg 83 :: gg 84 :: gg 85 :: gg 86 :: gg 87 :: gg 88 :: gg 89 :: gg 90 :: gg 91 :: gg 92 :: gg 93 :: gg 94 :: gg 95 :: gg 96 :: gg 97 :: gg 98 :: gg 99 :: gg 100 :: gg 101 :: gg 102 :: gg 103 :: gg 104 :: gg 105 :: gg 106 :: gg 107 :: gg 108 :: gg 109 :: gg 110 :: [] ∧ σ = σ1) ?_ (l.length) (by refine ⟨z, l.length + 1, l, 1, o, tok, σ ++ [.box (.agg [.int .i64 ln, .int .i64 1])], ?_⟩; exact exF (⟨rfl, by omega, hR0, hz, hrow.more, by rw [List.getElem?_append_left hpos0]; exact hσ0, by rw [← hqv]; exact List.getElem?_concat_length, hol, by omega, by omega⟩) (by (first | rfl | (simp [ho0, hqv]; repeat (first | rfl | (apply And.intro))) | (simp [ho0, hqv]; done))) (by (first | rfl | (simp [ho0, hqv]; repeat (first | rfl | (apply And.intro))) | (simp [ho0, hqv]; done))))
      rintro m fr σ ⟨z, fuel, rest, col, o, tok, σ1, gg, hI, rfl, rfl⟩
      obtain ⟨hm2, hfu, hli, hz2, hrow2, hb0, hbq, hol2, hc1, hc2⟩ := hI
      have hql : q < σ.length := (List.getElem?_eq_some_iff.1 hbq).1
      have h0l : 0 < σ.length := (List.getElem?_eq_some_iff.1 hb0).1
      have hb0' : σ[0] = SObj.box (.agg [.int .i64 0, .int .i64 0]) := by rw [List.getElem?_eq_getElem h0l] at hb0; simpa using hb0
      have hset00 : ∀ (y x : SObj), ((σ.set q y).set 0 x)[0]? = some x := fun y x => List.getElem?_set_self (by rw [List.length_set]; exact h0l)
      have hbq' : σ[q] = SObj.box (.agg [.int .i64 ln, .int .i64 col]) := by rw [List.getElem?_eq_getElem hql] at hbq; simpa using hbq
      obtain ⟨f, rfl⟩ : ∃ f, fuel = f + 1 := ⟨fuel - 1, by omega⟩
      unfold lineS at hli
      by_cases hre : rest = []
      · subst hre
        rw [if_pos (.inl rfl)] at hli
        have hpre := lineS_pre (l.length + 1) l ln 1 o0
        rw [hR] at hpre
        rw [← hli] at hsc2 hpre
        simp only [ne_eq, not_true_eq_false, if_false] at hsc2 hpre
        by_cases ho : o.length = o0.length
        · have hoo : o = o0 := by
            obtain ⟨x, hx⟩ := hpre
            have hxl := congrArg List.length hx
            rw [List.length_append] at hxl
            have : x = [] := List.eq_nil_of_length_eq_zero (by omega)
            rw [hx, this, List.append_nil]
          rw [if_pos ho] at hsc2
          have gx := And.intro @ho (And.intro @hbq (@hbq'))
          refine goA ?_
          clear gx
          refine LoopI.normal (M - 1) (by omega) ⟨i + 1, z, o, tok, _, exF (⟨by omega, by rw [hoo, Int.natCast_add, Int.natCast_one, hln]; exact hsc2, hz2, hrow2, hb0, hol2⟩) (by (first | rfl | (simp []; repeat (first | rfl | (apply And.intro))) | (simp []; done))) (by (first | rfl | (simp []; repeat (first | rfl | (apply And.intro))) | (simp []; done)))⟩
        · rw [if_neg ho] at hsc2
          have ho' : ¬ (o.length : Int) = (o0.length : Int) := by omega
          have hset0 : ∀ x, (σ.set q x)[0]? = σ[0]? := fun x => List.getElem?_set_ne (by omega)
          have hsetq : ∀ x, (σ.set q x)[q]? = some x := fun x => List.getElem?_set_self hql
          have hwl : IntKind.i64.wrap ((l.length : Int) + 1) = (l.length : Int) + 1 := wrap_i64 (by omega) (by omega)
          by_cases hoc : o.length = 20000
          · rw [if_pos hoc] at hsc2
            have hoc' : (o.length : Int) = 20000 := by omega
            have hoc2 : ¬ 20000 = o0.length := by omega
            have hoc3 : ¬ (20000 : Int) = (o0.length : Int) := by omega
            have gx := And.intro @ho (And.intro @ho' (And.intro @hbq (And.intro @hbq' (And.intro @hwl (And.intro @hoc (And.intro @hoc' (And.intro @hoc2 (And.intro @hoc3 (And.intro @hset0 (And.intro @hsetq (And.intro @hb0 (@hb0'))))))))))))
            refine goA ?_
            clear gx
            simp (disch := first | omega | (simp; done) | (simp; omega)) [decide_eq_decide, ← hsc2, hset00] <;> try rfl
          · rw [if_neg hoc] at hsc2
            have hoc' : ¬ (o.length : Int) = 20000 := by omega
            have hrow3 := rowat_set (o := .box (.agg [.int .i64 ln, .int .i64 ((l.length : Int) + 1)])) hrow2 hbq
            focus
              obtain ⟨tok', σ3, hap, hr', hkeep, _⟩ := pappend_row (P := Tryd.prog) (t := 24) (e := 41) (k := 7) (b := 64) (s := z) (xs := o.map Em.tk.emb) (p := Em.tk.emb ⟨6, [10], 0, (0, 0), ln, (l.length : Int) + 1⟩) (tk := .any) Tryd.underlying24 (by kernel_rfl) (by simpa using hz2) (by rw [List.length_map]; exact hrow3) (by rw [List.length_map]; omega) (by rw [List.length_map]; omega)
              have hn0 : tok ≠ .own 0 := rowat_ne hrow2 hb0
              have hk0 := hkeep 0 _ hn0 ((hset0 _).trans hb0)
              simp only [emb_tk] at hap
              have gx := And.intro @ho (And.intro @ho' (And.intro @hbq (And.intro @hbq' (And.intro @hwl (And.intro @hoc (And.intro @hoc' (And.intro @hset0 (And.intro @hsetq (@hap)))))))))
              refine goA ?_
              clear gx
              refine LoopI.normal (M - 1) (by omega) (by refine ⟨i + 1, 7, o ++ [⟨6, [10], 0, (0, 0), ln, (l.length : Int) + 1⟩], tok', σ3, ?_⟩; exact exF (⟨by omega, by rw [Int.natCast_add, Int.natCast_one, hln]; exact hsc2, .inr rfl, by simpa using hr', hk0, by rw [List.length_append, List.length_singleton]; omega⟩) (by (first | rfl | (simp []; repeat (first | rfl | (apply And.intro))) | (simp []; done))) (by (first | rfl | (simp []; repeat (first | rfl | (apply And.intro))) | (simp []; done))))
      · have hrp : 0 < rest.length := List.length_pos_iff.2 hre
        have hre2 : (rest == []) = false := by simpa using hre
        have hre3 : rest.isEmpty = false := by simpa using hre
        have hpk := pk_at hrp
        by_cases c1 : pk rest 0 = 37
        · have c1' : (rest[0].toNat : Int) = 37 := by omega
          rw [if_pos (.inr c1)] at hli
          have hpre := lineS_pre (l.length + 1) l ln 1 o0
          rw [hR] at hpre
          rw [← hli] at hsc2 hpre
          simp only [ne_eq, not_true_eq_false, if_false] at hsc2 hpre
          by_cases ho : o.length = o0.length
          · have hoo : o = o0 := by
              obtain ⟨x, hx⟩ := hpre
              have hxl := congrArg List.length hx
              rw [List.length_append] at hxl
              have : x = [] := List.eq_nil_of_length_eq_zero (by omega)
              rw [hx, this, List.append_nil]
            rw [if_pos ho] at hsc2
            have gx := And.intro @hre (And.intro @hre2 (And.intro @hre3 (And.intro @hrp (And.intro @c1' (And.intro @ho (And.intro @hbq (@hbq')))))))
            refine goA ?_
            clear gx
            refine LoopI.normal (M - 1) (by omega) ⟨i + 1, z, o, tok, _, exF (⟨by omega, by rw [hoo, Int.natCast_add, Int.natCast_one, hln]; exact hsc2, hz2, hrow2, hb0, hol2⟩) (by (first | rfl | (simp []; repeat (first | rfl | (apply And.intro))) | (simp []; done))) (by (first | rfl | (simp []; repeat (first | rfl | (apply And.intro))) | (simp []; done)))⟩
          · rw [if_neg ho] at hsc2
            have ho' : ¬ (o.length : Int) = (o0.length : Int) := by omega
            have hset0 : ∀ x, (σ.set q x)[0]? = σ[0]? := fun x => List.getElem?_set_ne (by omega)
            have hsetq : ∀ x, (σ.set q x)[q]? = some x := fun x => List.getElem?_set_self hql
            have hwl : IntKind.i64.wrap ((l.length : Int) + 1) = (l.length : Int) + 1 := wrap_i64 (by omega) (by omega)
            by_cases hoc : o.length = 20000
            · rw [if_pos hoc] at hsc2
              have hoc' : (o.length : Int) = 20000 := by omega
              have hoc2 : ¬ 20000 = o0.length := by omega
              have hoc3 : ¬ (20000 : Int) = (o0.length : Int) := by omega
              have gx := And.intro @hre (And.intro @hre2 (And.intro @hre3 (And.intro @hrp (And.intro @c1' (And.intro @ho (And.intro @ho' (And.intro @hbq (And.intro @hbq' (And.intro @hwl (And.intro @hoc (And.intro @hoc' (And.intro @hoc2 (And.intro @hoc3 (And.intro @hset0 (And.intro @hsetq (And.intro @hb0 (@hb0')))))))))))))))))
              refine goA ?_
              clear gx
              simp (disch := first | omega | (simp; done) | (simp; omega)) [decide_eq_decide, ← hsc2, hset00] <;> try rfl
            · rw [if_neg hoc] at hsc2
              have hoc' : ¬ (o.length : Int) = 20000 := by omega
              have hrow3 := rowat_set (o := .box (.agg [.int .i64 ln, .int .i64 ((l.length : Int) + 1)])) hrow2 hbq
              focus
                obtain ⟨tok', σ3, hap, hr', hkeep, _⟩ := pappend_row (P := Tryd.prog) (t := 24) (e := 41) (k := 7) (b := 64) (s := z) (xs := o.map Em.tk.emb) (p := Em.tk.emb ⟨6, [10], 0, (0, 0), ln, (l.length : Int) + 1⟩) (tk := .any) Tryd.underlying24 (by kernel_rfl) (by simpa using hz2) (by rw [List.length_map]; exact hrow3) (by rw [List.length_map]; omega) (by rw [List.length_map]; omega)
                have hn0 : tok ≠ .own 0 := rowat_ne hrow2 hb0
                have hk0 := hkeep 0 _ hn0 ((hset0 _).trans hb0)
                simp only [emb_tk] at hap
                have gx := And.intro @hre (And.intro @hre2 (And.intro @hre3 (And.intro @hrp (And.intro @c1' (And.intro @ho (And.intro @ho' (And.intro @hbq (And.intro @hbq' (And.intro @hwl (And.intro @hoc (And.intro @hoc' (And.intro @hset0 (And.intro @hsetq (@hap))))))))))))))
                refine goA ?_
                clear gx
                refine LoopI.normal (M - 1) (by omega) (by refine ⟨i + 1, 7, o ++ [⟨6, [10], 0, (0, 0), ln, (l.length : Int) + 1⟩], tok', σ3, ?_⟩; exact exF (⟨by omega, by rw [Int.natCast_add, Int.natCast_one, hln]; exact hsc2, .inr rfl, by simpa using hr', hk0, by rw [List.length_append, List.length_singleton]; omega⟩) (by (first | rfl | (simp []; repeat (first | rfl | (apply And.intro))) | (simp []; done))) (by (first | rfl | (simp []; repeat (first | rfl | (apply And.intro))) | (simp []; done))))
        · have c1' : ¬ (rest[0].toNat : Int) = 37 := by omega
          rw [if_neg (by rintro (h | h); exact hre h; exact c1 h)] at hli
          by_cases c2 : pk rest 0 = 32 ∨ pk rest 0 = 9
          · rw [if_pos c2] at hli
            have hw : IntKind.i64.wrap (col + 1) = col + 1 := wrap_i64 (by omega) (by omega)
            have hrow3 := rowat_set (o := .box (.agg [.int .i64 ln, .int .i64 (col + 1)])) hrow2 hbq
            have hset0 : ∀ x, (σ.set q x)[0]? = σ[0]? := fun x => List.getElem?_set_ne (by omega)
            have hsetq : ∀ x, (σ.set q x)[q]? = some x := fun x => List.getElem?_set_self hql
            have hlen : (rest.drop 1).length = rest.length - 1 := List.length_drop ..
            by_cases c3 : pk rest 0 = 32
            · have c3' : (rest[0].toNat : Int) = 32 := by omega
              have gx := And.intro @hre (And.intro @hre2 (And.intro @hre3 (And.intro @hrp (And.intro @c1' (And.intro @c3' (And.intro @hbq (And.intro @hbq' (@hw))))))))
              refine goA ?_
              clear gx
              refine LoopI.normal ((rest.drop 1).length) (by omega) ⟨z, f, rest.drop 1, col + 1, o, tok, _, exF (⟨rfl, by omega, hli, hz2, hrow3, by rw [hset0]; exact hb0, hsetq _, hol2, by omega, by omega⟩) (by (first | rfl | (simp []; repeat (first | rfl | (apply And.intro))) | (simp []; done))) (by (first | rfl | (simp []; repeat (first | rfl | (apply And.intro))) | (simp []; done)))⟩
            · have c3' : ¬ (rest[0].toNat : Int) = 32 := by omega
              have c4' : (rest[0].toNat : Int) = 9 := by omega
              have gx := And.intro @hre (And.intro @hre2 (And.intro @hre3 (And.intro @hrp (And.intro @c1' (And.intro @c3' (And.intro @c4' (And.intro @hbq (And.intro @hbq' (@hw)))))))))
              refine goA ?_
              clear gx
              refine LoopI.normal ((rest.drop 1).length) (by omega) ⟨z, f, rest.drop 1, col + 1, o, tok, _, exF (⟨rfl, by omega, hli, hz2, hrow3, by rw [hset0]; exact hb0, hsetq _, hol2, by omega, by omega⟩) (by (first | rfl | (simp []; repeat (first | rfl | (apply And.intro))) | (simp []; done))) (by (first | rfl | (simp []; repeat (first | rfl | (apply And.intro))) | (simp []; done)))⟩
          · rw [if_neg c2] at hli
            have c3' : ¬ (rest[0].toNat : Int) = 32 := by omega
            have c4' : ¬ (rest[0].toNat : Int) = 9 := by omega
            obtain ⟨t, n, e, hT⟩ : ∃ t n e, tokS rest = (t, n, e) := ⟨_, _, _, rfl⟩
            have htp := fun h => tokS_pos (s := rest) hrp h
            rw [hT] at hli htp
            simp only at hli htp
            have hrl : (rest.length : Int) < 4000000000 := by omega
            have hx0 : ∀ x, (σ ++ [x])[0]? = some (.box (.agg [.int .i64 0, .int .i64 0])) := fun x => by rw [List.getElem?_append_left h0l]; exact hb0
            have hxq : ∀ x, (σ ++ [x])[q]? = some (.box (.agg [.int .i64 ln, .int .i64 col])) := fun x => by rw [List.getElem?_append_left hql]; exact hbq
            have hxs : ∀ x y, ((σ ++ [x]).set 0 y)[0]? = some y := fun x y => List.getElem?_set_self (by rw [List.length_append]; omega)
            have hxs2 : ∀ x y : SObj, (σ.set 0 y ++ [x])[0]? = some y := fun x y => by rw [List.getElem?_append_left (by rw [List.length_set]; exact h0l)]; exact List.getElem?_set_self h0l
            by_cases he : e = 0
            · subst he
              obtain ⟨hn1, hn2⟩ := htp rfl
              obtain ⟨k, rfl⟩ : ∃ k : Nat, n = (k : Int) := ⟨n.toNat, by omega⟩
              rw [if_neg (by simp)] at hli
              by_cases hoc : o.length = 20000
              · rw [if_pos hoc] at hli
                rw [← hli] at hsc2
                rw [if_pos (by simp)] at hsc2
                have hoc' : (o.length : Int) = 20000 := by omega
                have gx := And.intro @hre (And.intro @hre2 (And.intro @hre3 (And.intro @hrp (And.intro @c1' (And.intro @c3' (And.intro @c4' (And.intro @hbq (And.intro @hbq' (And.intro @h2 (And.intro @hrl (And.intro @hT (And.intro @hoc (And.intro @hoc' (And.intro @hx0 (And.intro @hxq (And.intro @hb0 (@hb0')))))))))))))))))
                refine goA ?_
                clear gx
                simp (disch := first | omega | (simp; done) | (simp; omega)) [decide_eq_decide, ← hsc2, hxs, hxs2] <;> try rfl
              · rw [if_neg hoc] at hli
                have hoc' : ¬ (o.length : Int) = 20000 := by omega
                have e1 : k ≤ rest.length := by omega
                have hw : IntKind.i64.wrap (col + (k : Int)) = col + (k : Int) := wrap_i64 (by omega) (by omega)
                have hrow3 : RowAt (σ ++ [.box (Em.tk.emb { t with line := ln, col := col })]) tok 41 7 o.length := hrow2.more
                rw [Int.toNat_natCast] at hli
                have hlen : (rest.drop k).length = rest.length - k := List.length_drop ..
                have hst : ∀ x y, (σ ++ [x]).set σ.length y = σ ++ [y] := fun x y => by simp
                focus
                  obtain ⟨tok', σ3, hap, hr', hkeep, _⟩ := pappend_row (P := Tryd.prog) (t := 24) (e := 41) (k := 7) (b := 64) (s := z) (xs := o.map Em.tk.emb) (p := Em.tk.emb { t with line := ln, col := col }) (tk := .any) Tryd.underlying24 (by kernel_rfl) (by simpa using hz2) (by rw [List.length_map]; exact hrow3) (by rw [List.length_map]; omega) (by rw [List.length_map]; omega)
                  have hk0 := hkeep 0 _ (rowat_ne hrow2 hb0) (hx0 _)
                  have hkq := hkeep q _ (rowat_ne hrow2 hbq) (hxq _)
                  have hql3 : q < σ3.length := (List.getElem?_eq_some_iff.1 hkq).1
                  have hkq' : σ3[q] = SObj.box (.agg [.int .i64 ln, .int .i64 col]) := by rw [List.getElem?_eq_getElem hql3] at hkq; simpa using hkq
                  have hrow4 := rowat_set (o := .box (.agg [.int .i64 ln, .int .i64 (col + (k : Int))])) (by simpa using hr') hkq
                  have hset0 : ∀ x, (σ3.set q x)[0]? = σ3[0]? := fun x => List.getElem?_set_ne (by omega)
                  have hsetq : ∀ x, (σ3.set q x)[q]? = some x := fun x => List.getElem?_set_self hql3
                  simp only [emb_tk] at hap
                  have gx := And.intro @hre (And.intro @hre2 (And.intro @hre3 (And.intro @hrp (And.intro @c1' (And.intro @c3' (And.intro @c4' (And.intro @hbq (And.intro @hbq' (And.intro @h2 (And.intro @hrl (And.intro @hT (And.intro @hoc (@hoc')))))))))))))
                  refine goA ?_
                  clear gx
                  apply Wp.drawB2 hU [(9, q), (11, σ.length)] [(some q, some σ.length)] (by decide +kernel) ⟨⟨0, rfl⟩, ⟨0, rfl⟩, trivial⟩ (by kernel_rfl) ⟨by omega, trivial⟩
                  have gx := And.intro @hbq (And.intro @hbq' (And.intro @hx0 (And.intro @hxq (And.intro @hst (And.intro @hap (And.intro @hkq (And.intro @hkq' (And.intro @hw (@e1)))))))))
                  refine goA ?_
                  clear gx
                  refine LoopI.normal ((rest.drop k).length) (by omega) ⟨7, f, rest.drop k, col + (k : Int), o ++ [{ t with line := ln, col := col }], tok', _, exF (⟨rfl, by omega, hli, .inr rfl, by simpa using hrow4, by rw [hset0]; exact hk0, hsetq _, by rw [List.length_append, List.length_singleton]; omega, by omega, by omega⟩) (by (first | rfl | (simp []; repeat (first | rfl | (apply And.intro))) | (simp []; done))) (by (first | rfl | (simp []; repeat (first | rfl | (apply And.intro))) | (simp []; done)))⟩
            · rw [if_pos he] at hli
              rw [← hli] at hsc2
              rw [if_pos he] at hsc2
              have gx := And.intro @hre (And.intro @hre2 (And.intro @hre3 (And.intro @hrp (And.intro @c1' (And.intro @c3' (And.intro @c4' (And.intro @hbq (And.intro @hbq' (And.intro @h2 (And.intro @hrl (And.intro @hT (And.intro @he (And.intro @hx0 (And.intro @hxq (And.intro @hb0 (@hb0'))))))))))))))))
              refine goA ?_
              clear gx
              simp (disch := first | omega | (simp; done) | (simp; omega)) [decide_eq_decide, ← hsc2, hxs, hxs2] <;> try rfl
    · have q1 : ¬ (i : Int) < (L.length : Int) := by omega
      have he : i = L.length := by omega
      rw [he, List.drop_length] at hsc
      have hsc2 : F = (o, (0, 0), 0) := hsc.symm
      have gx := And.intro @q1 (And.intro @hσ0 (@hσ0'))
      refine goA ?_
      clear gx
      simp (disch := first | omega | (simp; done) | (simp; omega)) [decide_eq_decide, hsc2, sz_of hz, hs0] <;> try rfl
end Go.Kz

/-
  strings.Builder: its writes, as entries of the table.
-/
namespace Go.Kz
open Go Go.Proofs

/-- What a write does: the place laid down, the bytes appended. -/
noncomputable def gPut (fl id : Nat) (σ : List SObj) (x : PD) (r : PD) : Option (PD × List SObj) := match σ[id]? with
  | some (.box (.typed 68 [p, .slice z xs tok])) => gif (fl ≤ id ∧ (p = .nilptr ∨ p = .ptr id 0)) (match pappend Tryd.prog fl (σ.set id (.box (.typed 68 [.ptr id 0, .slice z xs tok]))) 23 (.slice z xs tok) x with
    | some (.slice z' xs' tok', σ2) => gif (σ2[id]? = some (.box (.typed 68 [.ptr id 0, .slice z xs tok]))) (some (r, σ2.set id (.box (.typed 68 [.ptr id 0, .slice z' xs' tok']))))
    | _ => none)
  | _ => none
noncomputable def gWS : Nat → List PD → List SObj → Option (PD × List SObj) := fun fl args σ => match args with
  | [.ptr id 0, .str l] => gPut fl id σ (textPD l) (.tup [.int .i64 l.length, .opq .nilIface])
  | _ => none
noncomputable def gWB : Nat → List PD → List SObj → Option (PD × List SObj) := fun fl args σ => match args with
  | [.ptr id 0, .int .u8 c] => gPut fl id σ (.slice 1 [.int .u8 c] .any) (.opq .nilIface)
  | _ => none

theorem gPut_some {fl id : Nat} {σ σ' : List SObj} {x r p' : PD} (h : gPut fl id σ x r = some (p', σ')) : p' = r ∧ fl ≤ id ∧ ∃ p z xs tok z' xs' tok' σ2, σ[id]? = some (.box (.typed 68 [p, .slice z xs tok])) ∧ (p = .nilptr ∨ p = .ptr id 0) ∧
    pappend Tryd.prog fl (σ.set id (.box (.typed 68 [.ptr id 0, .slice z xs tok]))) 23 (.slice z xs tok) x = some (.slice z' xs' tok', σ2) ∧ σ2[id]? = some (.box (.typed 68 [.ptr id 0, .slice z xs tok])) ∧ σ' = σ2.set id (.box (.typed 68 [.ptr id 0, .slice z' xs' tok'])) := by
  unfold gPut at h
  split at h
  · rename_i p z xs tok hb
    obtain ⟨⟨h1, h2⟩, h⟩ := gif_some h
    split at h
    · rename_i z' xs' tok' σ2 ha
      obtain ⟨h3, h⟩ := gif_some h
      simp only [Option.some.injEq, Prod.mk.injEq] at h
      exact ⟨h.1.symm, h1, p, z, xs, tok, z', xs', tok', σ2, hb, h2, ha, h3, h.2.symm⟩
    · cases h
  · cases h

theorem gCheck_at {fl id : Nat} {σ : List SObj} {p s : PD} (hfl : fl ≤ id) (hb : σ[id]? = some (.box (.typed 68 [p, s]))) (hp : p = .nilptr ∨ p = .ptr id 0) : gCheck fl [.ptr id 0] σ = some (.tup [], σ.set id (.box (.typed 68 [.ptr id 0, s]))) := by
  rcases hp with rfl | rfl
  · simp only [gCheck, hb, hfl, if_true]
  · have hl : id < σ.length := (List.getElem?_eq_some_iff.1 hb).1
    have : σ.set id (.box (.typed 68 [.ptr id 0, s])) = σ := by
      refine List.ext_getElem? fun j => ?_
      by_cases e : id = j
      · subst e
        rw [List.getElem?_set_self hl, hb]
      · rw [List.getElem?_set_ne e]
    simp only [gCheck, hb, this, if_true]

variable {E : PExt} (hU : Uni E)
set_option maxRecDepth 10000
set_option maxHeartbeats 4000000

include hU in
theorem r_WS (h0 : E 34 = none) (h1 : E 56 = some gCheck) (fl : Nat) (args : List PD) (σ : List SObj) (p : PD) (σ' : List SObj) (h : gWS fl args σ = some (p, σ')) :
    EvC Tryd.prog E fl (.inl 34) args σ p σ' := by
  unfold gWS at h
  split at h
  · rename_i id l
    obtain ⟨rfl, hfl, q, z, xs, tok, z', xs', tok', σ2, hb, hq, ha, h2, rfl⟩ := gPut_some h
    have hl : id < σ.length := (List.getElem?_eq_some_iff.1 hb).1
    have hs1 : ∀ x, (σ.set id x)[id]? = some x := fun x => List.getElem?_set_self hl
    have hc := gCheck_at hfl hb hq
    obtain ⟨p1, σ1, h3, h4, h5⟩ : ∃ p1 σ1, EvC Tryd.prog E fl (.inl 34) [.ptr id 0, .str l] σ p1 σ1 ∧ p1 = .tup [.int .i64 l.length, .opq .nilIface] ∧ σ1 = σ2.set id (.box (.typed 68 [.ptr id 0, .slice z' xs' tok'])) := by
      suffices hh : WpC Tryd.prog E fl (.inl 34) [.ptr id 0, .str l] σ (fun p1 σ1 => p1 = .tup [.int .i64 l.length, .opq .nilIface] ∧ σ1 = σ2.set id (.box (.typed 68 [.ptr id 0, .slice z' xs' tok']))) from hh.ex
      apply WpC.bodyL h0 Tryd.func34 rfl
      focus (simp [show Tryd.f34.ntmps = _ from rfl, List.replicate]; rfl)
      have gx := And.intro @h1 (And.intro @hc (And.intro @hs1 (And.intro @ha (And.intro @h2 (@hfl)))))
      refine goA ?_
      clear gx
      simp (disch := first | omega | (simp; done) | (simp; omega)) [decide_eq_decide] <;> try rfl
    rw [← h4, ← h5]
    exact h3
  · cases h

include hU in
theorem r_WB (h0 : E 33 = none) (h1 : E 56 = some gCheck) (fl : Nat) (args : List PD) (σ : List SObj) (p : PD) (σ' : List SObj) (h : gWB fl args σ = some (p, σ')) :
    EvC Tryd.prog E fl (.inl 33) args σ p σ' := by
  unfold gWB at h
  split at h
  · rename_i id c
    obtain ⟨rfl, hfl, q, z, xs, tok, z', xs', tok', σ2, hb, hq, ha, h2, rfl⟩ := gPut_some h
    have hl : id < σ.length := (List.getElem?_eq_some_iff.1 hb).1
    have hs1 : ∀ x, (σ.set id x)[id]? = some x := fun x => List.getElem?_set_self hl
    have hc := gCheck_at hfl hb hq
    obtain ⟨p1, σ1, h3, h4, h5⟩ : ∃ p1 σ1, EvC Tryd.prog E fl (.inl 33) [.ptr id 0, .int .u8 c] σ p1 σ1 ∧ p1 = .opq .nilIface ∧ σ1 = σ2.set id (.box (.typed 68 [.ptr id 0, .slice z' xs' tok'])) := by
      suffices hh : WpC Tryd.prog E fl (.inl 33) [.ptr id 0, .int .u8 c] σ (fun p1 σ1 => p1 = .opq .nilIface ∧ σ1 = σ2.set id (.box (.typed 68 [.ptr id 0, .slice z' xs' tok']))) from hh.ex
      apply WpC.bodyL h0 Tryd.func33 rfl
      focus (simp [show Tryd.f33.ntmps = _ from rfl, List.replicate]; rfl)
      have gx := And.intro @h1 (And.intro @hc (And.intro @hs1 (And.intro @ha (And.intro @h2 (@hfl)))))
      refine goA ?_
      clear gx
      simp (disch := first | omega | (simp; done) | (simp; omega)) [decide_eq_decide] <;> try rfl
    rw [← h4, ← h5]
    exact h3
  · cases h

theorem lib_WS (hE : ExtOk Tryd.prog E) (hU : Uni E) (h0 : E 34 = none) (h1 : E 56 = some gCheck) : ExtOk Tryd.prog (E.add 34 gWS) :=
  hE.add (by kernel_rfl) fun fl args σ p σ' h => r_WS hU h0 h1 fl args σ p σ' h
theorem lib_WB (hE : ExtOk Tryd.prog E) (hU : Uni E) (h0 : E 33 = none) (h1 : E 56 = some gCheck) : ExtOk Tryd.prog (E.add 33 gWB) :=
  hE.add (by kernel_rfl) fun fl args σ p σ' h => r_WB hU h0 h1 fl args σ p σ' h
end Go.Kz

/-
  Layer 19: Write: its text, and the builder along the way.
-/
namespace Go.Kz
open Go Go.Proofs

abbrev bytesD (s : List UInt8) : List PD := s.map fun b => PD.int .u8 b.toNat

/-- A builder in box b, into which s has been written. -/
structure BW (σ : List SObj) (id : Nat) (s : List UInt8) : Prop where
  ex : ∃ p z tok, σ[id]? = some (.box (.typed 68 [p, .slice z (bytesD s) tok])) ∧ (p = .nilptr ∨ p = .ptr id 0) ∧ ((s = [] ∧ tok = .nil) ∨ (s ≠ [] ∧ z = 1 ∧ ∃ id2, tok = .own id2 ∧ σ[id2]? = some (.own 5 1 s.length)))

theorem BW.put {σ : List SObj} {id : Nat} {s l : List UInt8} (h : BW σ id s) (hr : s.length + l.length ≤ 100000000000000) {z0 : Nat} (hz : l = [] ∨ z0 = 1) (tk : Tok) (r : PD) : ∃ σ', gPut 0 id σ (.slice z0 (bytesD l) tk) r = some (r, σ') ∧ BW σ' id (s ++ l) ∧ ∀ j q, j ≠ id → σ[j]? = some (.box q) → σ'[j]? = some (.box q) := by
  obtain ⟨p, z, tok, hb, hp, hc⟩ := h.ex
  have hl : id < σ.length := (List.getElem?_eq_some_iff.1 hb).1
  have hu : Tryd.prog.underlying 23 = some (.slice 5) := by kernel_rfl
  obtain ⟨i, hi, hi1, hi2, z', hi3, hi4⟩ : ∃ i, Tryd.prog.info? 5 = some i ∧ i.size = 1 ∧ i.bytes = 1 ∧ ∃ z, i.zero = some z ∧ z.cells.size = 1 := by
    have h : pbyteRow Tryd.prog 23 = true := by decide +kernel
    unfold pbyteRow at h
    rw [hu] at h
    simp only at h
    split at h
    · rename_i i hi
      split at h
      · rename_i hz
        simp only [Bool.and_eq_true, beq_iff_eq] at h
        exact ⟨i, hi, h.1, h.2, _, hz, by simp [Value.cells]⟩
      · cases h
    · cases h
  have hs1 : ∀ x, (σ.set id x)[id]? = some x := fun x => List.getElem?_set_self hl
  have hs2 : ∀ x y : SObj, (σ.set id x ++ [y])[id]? = some x := fun x y => by rw [List.getElem?_append_left (by rw [List.length_set]; exact hl)]; exact hs1 x
  have hmm : (bytesD s).length + (bytesD l).length ≤ maxLen := by simp only [List.length_map, maxLen]; omega
  have hbb : ((bytesD s).length + (bytesD l).length) * 1 ≤ 140737488355328 := by simp only [List.length_map]; omega
  have hzl : (bytesD l).length = 0 ∨ z0 = 1 := hz.imp (fun h => by rw [h]; rfl) (fun h => h)
  by_cases hl0 : l = []
  · subst hl0
    have hc0 : (bytesD s).length = 0 ∨ z = 1 := by
      rcases hc with ⟨h, _⟩ | ⟨_, h, _⟩
      · left; rw [h]; rfl
      · exact .inr h
    refine ⟨(σ.set id (.box (.typed 68 [.ptr id 0, .slice z (bytesD s) tok]))).set id (.box (.typed 68 [.ptr id 0, .slice z (bytesD s) tok])), ?_, ⟨⟨.ptr id 0, z, tok, ?_, .inr rfl, ?_⟩⟩, fun j q hj h => by rw [List.set_set, List.getElem?_set_ne (Ne.symm hj)]; exact h⟩
    · have ha : pappend Tryd.prog 0 (σ.set id (.box (.typed 68 [.ptr id 0, .slice z (bytesD s) tok]))) 23 (.slice z (bytesD s) tok) (.slice z0 (bytesD []) tk) = some (.slice z (bytesD s) tok, σ.set id (.box (.typed 68 [.ptr id 0, .slice z (bytesD s) tok]))) := by
        simp only [pappend, hu, hi, hi1, hi2, hi3, hi4]
        rw [if_pos ⟨hc0, hzl, by omega, trivial, hmm, hbb⟩]
        rfl
      simp only [gPut, hb]
      rw [gif_pos ⟨Nat.zero_le _, hp⟩, ha]
      simp only
      rw [gif_pos (hs1 _)]
    · rw [List.set_set, List.append_nil]
      exact hs1 _
    · rw [List.append_nil, List.set_set]
      rcases hc with h | ⟨h1, h2, id2, h3, h4⟩
      · exact .inl h
      · have hne : id ≠ id2 := by
          rintro rfl
          rw [hb] at h4
          cases h4
        exact .inr ⟨h1, h2, id2, h3, by rw [List.getElem?_set_ne hne]; exact h4⟩
  · have hll : ¬ (bytesD l).length = 0 := by rw [List.length_map]; exact fun h => hl0 (List.eq_nil_of_length_eq_zero h)
    have hne : s ++ l ≠ [] := by simp [hl0]
    rcases hc with ⟨rfl, rfl⟩ | ⟨h1, rfl, id2, rfl, h4⟩
    · refine ⟨((σ.set id (.box (.typed 68 [.ptr id 0, .slice z (bytesD []) .nil]))) ++ [SObj.own 5 1 ((bytesD []).length + (bytesD l).length)]).set id (.box (.typed 68 [.ptr id 0, .slice 1 (bytesD [] ++ bytesD l) (.own σ.length)])), ?_, ⟨⟨.ptr id 0, 1, .own σ.length, ?_, .inr rfl, ?_⟩⟩, fun j q hj h => by rw [List.getElem?_set_ne (Ne.symm hj), List.getElem?_append_left (by rw [List.length_set]; exact (List.getElem?_eq_some_iff.1 h).1), List.getElem?_set_ne (Ne.symm hj)]; exact h⟩
      · have ha : pappend Tryd.prog 0 (σ.set id (.box (.typed 68 [.ptr id 0, .slice z (bytesD []) .nil]))) 23 (.slice z (bytesD []) .nil) (.slice z0 (bytesD l) tk) = some (.slice 1 (bytesD [] ++ bytesD l) (.own σ.length), (σ.set id (.box (.typed 68 [.ptr id 0, .slice z (bytesD []) .nil]))) ++ [SObj.own 5 1 ((bytesD []).length + (bytesD l).length)]) := by
          simp only [pappend, hu, hi, hi1, hi2, hi3, hi4]
          rw [if_pos ⟨.inl rfl, hzl, by omega, trivial, hmm, hbb⟩, if_neg hll, List.length_set]
        simp only [gPut, hb]
        rw [gif_pos ⟨Nat.zero_le _, hp⟩, ha]
        simp only
        rw [gif_pos (hs2 _ _)]
      · rw [List.getElem?_set_self (by rw [List.length_append, List.length_set]; omega)]
        simp [bytesD]
      · refine .inr ⟨hne, rfl, σ.length, rfl, ?_⟩
        rw [List.getElem?_set_ne (by omega), List.getElem?_append_right (by rw [List.length_set]; exact Nat.le_refl _), List.length_set, Nat.sub_self]
        simp
    · have hn2 : id ≠ id2 := by
        rintro rfl
        rw [hb] at h4
        cases h4
      have hl2 : id2 < σ.length := (List.getElem?_eq_some_iff.1 h4).1
      have hs3 : ∀ x y : SObj, ((σ.set id x).set id2 y)[id]? = some x := fun x y => by rw [List.getElem?_set_ne (Ne.symm hn2)]; exact hs1 x
      refine ⟨((σ.set id (.box (.typed 68 [.ptr id 0, .slice 1 (bytesD s) (.own id2)]))).set id2 (.own 5 1 ((bytesD s).length + (bytesD l).length))).set id (.box (.typed 68 [.ptr id 0, .slice 1 (bytesD s ++ bytesD l) (.own id2)])), ?_, ⟨⟨.ptr id 0, 1, .own id2, ?_, .inr rfl, ?_⟩⟩, fun j q hj h => by
        have hj2 : id2 ≠ j := by
          rintro rfl
          rw [h4] at h
          cases h
        rw [List.getElem?_set_ne (Ne.symm hj), List.getElem?_set_ne hj2, List.getElem?_set_ne (Ne.symm hj)]; exact h⟩
      · have ha : pappend Tryd.prog 0 (σ.set id (.box (.typed 68 [.ptr id 0, .slice 1 (bytesD s) (.own id2)]))) 23 (.slice 1 (bytesD s) (.own id2)) (.slice z0 (bytesD l) tk) = some (.slice 1 (bytesD s ++ bytesD l) (.own id2), (σ.set id (.box (.typed 68 [.ptr id 0, .slice 1 (bytesD s) (.own id2)]))).set id2 (.own 5 1 ((bytesD s).length + (bytesD l).length))) := by
          simp only [pappend, hu, hi, hi1, hi2, hi3, hi4]
          rw [if_pos ⟨.inr trivial, hzl, by omega, trivial, hmm, hbb⟩, if_neg hll, if_pos ⟨Nat.zero_le _, trivial⟩, List.getElem?_set_ne hn2, h4]
          simp
        simp only [gPut, hb]
        rw [gif_pos ⟨Nat.zero_le _, hp⟩, ha]
        simp only
        rw [gif_pos (hs3 _ _)]
      · rw [List.getElem?_set_self (by simp only [List.length_set]; exact hl)]
        simp [bytesD]
      · refine .inr ⟨hne, rfl, id2, rfl, ?_⟩
        rw [List.getElem?_set_ne hn2, List.getElem?_set_self (by rw [List.length_set]; exact hl2)]
        simp

theorem BW.more {σ τ : List SObj} {id : Nat} {s : List UInt8} (h : BW σ id s) : BW (σ ++ τ) id s := by
  obtain ⟨p, z, tok, hb, hp, hc⟩ := h.ex
  have up : ∀ (j : Nat) (o : SObj), σ[j]? = some o → (σ ++ τ)[j]? = some o := fun j o h => by rw [List.getElem?_append_left (List.getElem?_eq_some_iff.1 h).1]; exact h
  exact ⟨p, z, tok, up _ _ hb, hp, hc.imp (fun h => h) fun ⟨h1, h2, id2, h3, h4⟩ => ⟨h1, h2, id2, h3, up _ _ h4⟩⟩

set_option maxRecDepth 10000
theorem BW.writeS {σ : List SObj} {id : Nat} {s : List UInt8} (h : BW σ id s) (l : List UInt8) (hr : s.length + l.length ≤ 100000000000000) : ∃ σ', gWS 0 [.ptr id 0, .str l] σ = some (.tup [.int .i64 l.length, .opq .nilIface], σ') ∧ BW σ' id (s ++ l) ∧ ∀ j q, j ≠ id → σ[j]? = some (.box q) → σ'[j]? = some (.box q) := by
  unfold gWS textPD
  exact h.put hr (z0 := if l.length = 0 then 0 else 1) (by by_cases h : l.length = 0; exact .inl (List.eq_nil_of_length_eq_zero h); right; rw [if_neg h]) .any _
theorem BW.writeB {σ : List SObj} {id : Nat} {s : List UInt8} (h : BW σ id s) (b : UInt8) (n : Int) (hn : (b.toNat : Int) = n) (hr : s.length + 1 ≤ 100000000000000) : ∃ σ', gWB 0 [.ptr id 0, .int .u8 n] σ = some (.opq .nilIface, σ') ∧ BW σ' id (s ++ [b]) ∧ ∀ j q, j ≠ id → σ[j]? = some (.box q) → σ'[j]? = some (.box q) := by
  subst hn
  unfold gWB
  exact h.put (l := [b]) hr (z0 := 1) (.inr rfl) .any _

theorem BW.text {σ : List SObj} {id : Nat} {s : List UInt8} (h : BW σ id s) : gText 0 [.ptr id 0] σ = some (.str s, σ) := by
  obtain ⟨p, z, tok, hb, hp, hc⟩ := h.ex
  rcases hc with ⟨rfl, rfl⟩ | ⟨h1, rfl, id2, rfl, h4⟩
  · simp only [gText, hb]
  · have h0 : 0 < s.length := List.length_pos_iff.2 h1
    simp only [gText, hb, h4, bytesD, bytesPD_map]
    simp [h0]
end Go.Kz
