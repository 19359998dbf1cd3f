/-
  Part P8 of the way: an interpreter over pure data, its soundness, walks through functions.
-/
import Derived.Test.YtngmkfjeekpnpaaDoorP7
import Derived.Test.YtngmkfjeekpnpaaDoorP3
import Derived.Test.YtngmkfjeekpnpaaDoorP5
import Derived.Test.YtngmkfjeekpnpaaDoorP6
set_option linter.all false

/-
  Layer 19: the model's length of a token.
-/
namespace Go.Kz
open Go Go.Proofs

theorem pk_u8 (r : List UInt8) (i : Nat) : ((pk r i).toUInt8) = r.getD i 0 := by simp [pk]
theorem mem_pk {r : List UInt8} {b : UInt8} {l : List UInt8} (hb : b ∈ l) (h : b.toNat = pk r 0) : (pk r 0).toUInt8 ∈ l := by
  have : (pk r 0).toUInt8 = b := by rw [← h]; simp
  rw [this]
  exact hb

noncomputable def gLen : List PD → Option PD
  | [.eptr [.str s, .int .i64 a, .int .i64 ln, .int .i64 col, o, .int .i64 f] 0] => gif (0 ≤ a ∧ a ≤ s.length ∧ s.length ≤ 50000 ∧ o.idfree = true) (some ((i64.tup2 i64).emb (lenM (s.drop a.toNat))))
  | _ => none

variable {E : PExt} (hU : Uni E)
include hU
set_option maxRecDepth 10000
set_option maxHeartbeats 4000000

theorem r_length (h0 : E 58 = none) (h1 : E 72 = some (rentry gPeek)) (h2 : E 75 = some (rentry gDigits)) (h3 : E 61 = some (rentry gFeet))
    (h4 : E 73 = some (entry (gf1 u8 .bool fun n => some (letN n)))) (h5 : E 74 = some (entry (gf1 u8 .bool fun n => some (digN n))))
    (s : List UInt8) (t : Nat) (ln col f : Int) (o : PD) (ho : o.idfree = true) (ht : t ≤ s.length) (hs : s.length ≤ 50000) :
    Run Tryd.prog E 58 [.eptr (scC s t ln col o f) 0] ((i64.tup2 i64).emb (lenM (s.drop t))) := by
  obtain ⟨r, hr⟩ : ∃ r, s.drop t = r := ⟨_, rfl⟩
  rw [hr]
  have hrl := congrArg List.length hr
  rw [List.length_drop] at hrl
  have pe := fun (b : Int) h0 h1 => peek_e (ln := ln) (col := col) (f := f) (b := b) hr ho (by omega) h0 h1
  have de := fun (b : Int) h0 h1 => digits_e (ln := ln) (col := col) (f := f) (b := b) hr ho (by omega) (by omega) h0 h1
  have fe := feet_e (ln := ln) (col := col) (f := f) hr ho ht hs
  have p0 := pe 0 (by omega) (by omega)
  rw [show (0 : Int).toNat = 0 from rfl] at p0
  obtain ⟨fn, l0, l1, l2, hF⟩ : ∃ fn l0 l1 l2, partsF r = (fn, l0, l1, l2) := ⟨_, _, _, _, rfl⟩
  rw [hF] at fe
  obtain ⟨L, hL⟩ : ∃ L, lenM r = L := ⟨_, rfl⟩
  rw [hL]
  have hL0 := hL
  unfold lenM at hL
  rw [hF] at hL
  simp only at hL
  apply Run.bodyL h0 Tryd.func58 rfl
  focus (simp [show Tryd.f58.ntmps = _ from rfl, List.replicate]; rfl)
  by_cases c0 : 0 < fn
  · rw [if_pos c0] at hL
    subst hL
    have gx := And.intro @h1 (And.intro @h3 (And.intro @p0 (And.intro @fe (@c0))))
    refine goP ?_
    clear gx
    simp (disch := first | omega | (simp; done) | (simp; omega)) [decide_eq_decide] <;> try rfl
  · rw [if_neg c0] at hL
    cases c1 : letN (pk r 0) with
    | true =>
      rw [if_pos c1] at hL
      obtain ⟨N, hN⟩ : ∃ N, spanN wordN r = N := ⟨_, rfl⟩
      have hNl := spanN_le wordN r
      rw [hN] at hNl hL
      subst hL
      have hN1 : 1 ≤ N := by
        rw [← hN]
        have hr0 : 0 < r.length := Nat.lt_of_not_le fun h => by
          rw [pk_end h] at c1
          revert c1
          decide
        exact spanN_pos hr0 (by unfold wordN; rw [c1]; rfl)
      have gx := And.intro @h1 (And.intro @h3 (And.intro @h4 (And.intro @p0 (And.intro @fe (And.intro @c0 (@c1))))))
      refine goP ?_
      clear gx
      refine Wp.loopI (fun m fr σ => ∃ (i : Nat), ∃ gg : Nat → PD, (i + m = r.length + 1 ∧ i ≤ N) ∧ fr = .eptr (scC s t ln col o f) 0 :: gg 1 :: gg 2 :: gg 3 :: gg 4 :: gg 5 :: gg 6 :: .int .i64 i :: gg 8 :: gg 9 :: gg 10 :: gg 11 :: gg 12 :: gg 13 :: gg 14 :: gg 15 :: gg 16 :: gg 17 :: gg 18 :: gg 19 :: gg 20 :: gg 21 :: gg 22 :: gg 23 :: gg 24 :: gg 25 :: gg 26 :: gg 27 :: gg 28 :: gg 29 :: gg 30 :: gg 31 :: gg 32 :: gg 33 :: gg 34 :: gg 35 :: gg 36 :: gg 37 :: gg 38 :: gg 39 :: gg 40 :: gg 41 :: gg 42 :: gg 43 :: gg 44 :: gg 45 :: gg 46 :: gg 47 :: gg 48 :: gg 49 :: gg 50 :: gg 51 :: gg 52 :: gg 53 :: gg 54 :: gg 55 :: gg 56 :: gg 57 :: gg 58 :: gg 59 :: gg 60 :: gg 61 :: gg 62 :: gg 63 :: gg 64 :: gg 65 :: gg 66 :: gg 67 :: gg 68 :: gg 69 :: gg 70 :: gg 71 :: gg 72 :: gg 73 :: gg 74 :: gg 75 :: gg 76 :: gg 77 :: gg 78 :: gg 79 :: gg 80 :: gg 81 :: gg 82 :: gg 83 :: gg 84 :: gg 85 :: gg 86 :: gg 87 :: gg 88 :: gg 89 :: gg 90 :: gg 91 :: gg 92 :: gg 93 :: gg 94 :: gg 95 :: gg 96 :: gg 97 :: gg 98 :: gg 99 :: gg 100 :: gg 101 :: gg 102 :: gg 103 :: gg 104 :: gg 105 :: gg 106 :: gg 107 :: gg 108 :: gg 109 :: gg 110 :: gg 111 :: [] ∧ σ = [SObj.box (.agg [.str l0, .str l1, .str l2])]) ?_ (r.length) (by refine ⟨1, ?_⟩; exact exF (⟨by omega, hN1⟩) (by (first | rfl | (simp []; repeat (first | rfl | (apply And.intro))) | (simp []; done))) (by (first | rfl | (simp []; repeat (first | rfl | (apply And.intro))) | (simp []; done))))
      rintro m fr σ ⟨i, gg, hI, rfl, rfl⟩
      obtain ⟨hm, hi⟩ := hI
      have pi := pe (i : Int) (by omega) (by omega)
      rw [Int.toNat_natCast] at pi
      have hat : wordN (pk r i) = decide (i < N) := by
        by_cases hl : i < r.length
        · have q := spanN_at wordN r i (by rw [hN]; exact hi) hl
          rw [hN, ← pk_at hl] at q
          cases hd : wordN (pk r i) with
          | true => rw [hd] at q; simp at q; simp [q]
          | false => rw [hd] at q; simp at q; simp; omega
        · rw [pk_end (by omega)]
          have : ¬ i < N := by omega
          simp [this]
          decide
      by_cases hc : i < N
      · rw [decide_eq_true hc] at hat
        cases e1 : letN (pk r i) with
        | true =>
          have gx := And.intro @h1 (And.intro @h4 (And.intro @h5 (And.intro @pi (@e1))))
          refine goP ?_
          clear gx
          refine LoopI.normal (m - 1) (by omega) (by refine ⟨i + 1, ?_⟩; exact exF (⟨by omega, by omega⟩) (by (first | rfl | (simp []; repeat (first | rfl | (apply And.intro))) | (simp []; done))) (by (first | rfl | (simp []; repeat (first | rfl | (apply And.intro))) | (simp []; done))))
        | false =>
          cases e2 : digN (pk r i) with
          | true =>
            have gx := And.intro @h1 (And.intro @h4 (And.intro @h5 (And.intro @pi (And.intro @e1 (@e2)))))
            refine goP ?_
            clear gx
            refine LoopI.normal (m - 1) (by omega) (by refine ⟨i + 1, ?_⟩; exact exF (⟨by omega, by omega⟩) (by (first | rfl | (simp []; repeat (first | rfl | (apply And.intro))) | (simp []; done))) (by (first | rfl | (simp []; repeat (first | rfl | (apply And.intro))) | (simp []; done))))
          | false =>
            have e3 : (pk r i : Int) = 95 := by
              unfold wordN at hat
              rw [e1, e2] at hat
              simpa using hat
            have e3' : pk r i = 95 := by omega
            have e1' : letN 95 = false := by decide
            have e2' : digN 95 = false := by decide
            have gx := And.intro @h1 (And.intro @h4 (And.intro @h5 (And.intro @pi (And.intro @e1 (And.intro @e2 (And.intro @e3 (And.intro @e3' (And.intro @e1' (@e2')))))))))
            refine goP ?_
            clear gx
            refine LoopI.normal (m - 1) (by omega) (by refine ⟨i + 1, ?_⟩; exact exF (⟨by omega, by omega⟩) (by (first | rfl | (simp []; repeat (first | rfl | (apply And.intro))) | (simp []; done))) (by (first | rfl | (simp []; repeat (first | rfl | (apply And.intro))) | (simp []; done))))
      · rw [decide_eq_false hc] at hat
        have he : i = N := by omega
        unfold wordN at hat
        simp only [Bool.or_eq_false_iff, decide_eq_false_iff_not] at hat
        obtain ⟨⟨e1, e2⟩, e3⟩ := hat
        have gx := And.intro @h1 (And.intro @h4 (And.intro @h5 (And.intro @pi (And.intro @e1 (And.intro @e2 (@e3))))))
        refine goP ?_
        clear gx
        simp (disch := first | omega | (simp; done) | (simp; omega)) [decide_eq_decide, he] <;> try rfl
    | false =>
      rw [if_neg (by rw [c1]; decide)] at hL
      cases c2 : digN (pk r 0) with
      | true =>
        rw [if_pos c2] at hL
        have d0 := de 0 (by omega) (by omega)
        rw [show (0 : Int).toNat = 0 from rfl, List.drop_zero] at d0
        subst hL
        have gx := And.intro @h1 (And.intro @h2 (And.intro @h3 (And.intro @h4 (And.intro @h5 (And.intro @p0 (And.intro @fe (And.intro @d0 (And.intro @c0 (And.intro @c1 (@c2))))))))))
        refine goP ?_
        clear gx
        simp (disch := first | omega | (simp; done) | (simp; omega)) [decide_eq_decide] <;> try rfl
      | false =>
        rw [if_neg (by rw [c2]; decide)] at hL
        have p1 := pe 1 (by omega) (by omega)
        rw [show (1 : Int).toNat = 1 from rfl] at p1
        by_cases c3 : pk r 0 = 45
        · rw [if_neg (show ¬ pk r 0 = 34 by omega)] at hL
          have c3' : (pk r 0 : Int) = 45 := by omega
          cases c4 : digN (pk r 1) with
          | true =>
            rw [if_pos ⟨c3, c4⟩] at hL
            have d1 := de 1 (by omega) (by omega)
            rw [show (1 : Int).toNat = 1 from rfl] at d1
            have hdl := spanN_le digN (r.drop 1)
            rw [List.length_drop] at hdl
            obtain ⟨N, hN⟩ : ∃ N, spanN digN (r.drop 1) = N := ⟨_, rfl⟩
            rw [hN] at d1 hL hdl
            subst hL
            have gx := And.intro @h1 (And.intro @h2 (And.intro @h3 (And.intro @h4 (And.intro @h5 (And.intro @p0 (And.intro @p1 (And.intro @fe (And.intro @d1 (And.intro @c0 (And.intro @c1 (And.intro @c2 (And.intro @c3 (And.intro @c3' (@c4))))))))))))))
            refine goP ?_
            clear gx
            simp (disch := first | omega | (simp; done) | (simp; omega)) [decide_eq_decide] <;> try rfl
          | false =>
            rw [if_neg (by rw [c4]; simp)] at hL
            by_cases c5 : pk r 1 = 62
            · rw [if_pos ⟨c3, c5⟩] at hL
              have c5' : (pk r 1 : Int) = 62 := by omega
              subst hL
              have gx := And.intro @h1 (And.intro @h2 (And.intro @h3 (And.intro @h4 (And.intro @h5 (And.intro @p0 (And.intro @p1 (And.intro @fe (And.intro @c0 (And.intro @c1 (And.intro @c2 (And.intro @c3 (And.intro @c3' (And.intro @c4 (And.intro @c5 (@c5')))))))))))))))
              refine goP ?_
              clear gx
              simp (disch := first | omega | (simp; done) | (simp; omega)) [decide_eq_decide] <;> try rfl
            · rw [if_neg (fun h => c5 h.2)] at hL
              have c5' : ¬ (pk r 1 : Int) = 62 := by omega
              have hm : ¬ (pk r 0).toUInt8 ∈ marks := by rw [c3]; decide
              rw [if_neg hm] at hL
              subst hL
              have gx := And.intro @h1 (And.intro @h2 (And.intro @h3 (And.intro @h4 (And.intro @h5 (And.intro @p0 (And.intro @p1 (And.intro @fe (And.intro @c0 (And.intro @c1 (And.intro @c2 (And.intro @c3 (And.intro @c3' (And.intro @c4 (And.intro @c5 (@c5')))))))))))))))
              refine goP ?_
              clear gx
              refine Wp.loopI (fun m fr σ => ∃ (i : Nat), ∃ gg : Nat → PD, (i + m = 15) ∧ fr = gg 0 :: gg 1 :: gg 2 :: gg 3 :: .int .u8 45 :: gg 5 :: gg 6 :: gg 7 :: gg 8 :: gg 9 :: gg 10 :: gg 11 :: gg 12 :: gg 13 :: gg 14 :: gg 15 :: gg 16 :: gg 17 :: gg 18 :: gg 19 :: gg 20 :: gg 21 :: gg 22 :: gg 23 :: gg 24 :: gg 25 :: gg 26 :: gg 27 :: gg 28 :: gg 29 :: gg 30 :: gg 31 :: gg 32 :: gg 33 :: gg 34 :: gg 35 :: gg 36 :: gg 37 :: gg 38 :: gg 39 :: gg 40 :: gg 41 :: gg 42 :: gg 43 :: gg 44 :: gg 45 :: gg 46 :: gg 47 :: gg 48 :: gg 49 :: gg 50 :: gg 51 :: gg 52 :: gg 53 :: gg 54 :: gg 55 :: gg 56 :: gg 57 :: gg 58 :: gg 59 :: gg 60 :: gg 61 :: gg 62 :: gg 63 :: gg 64 :: gg 65 :: gg 66 :: gg 67 :: gg 68 :: gg 69 :: gg 70 :: gg 71 :: gg 72 :: gg 73 :: gg 74 :: gg 75 :: gg 76 :: gg 77 :: gg 78 :: gg 79 :: gg 80 :: gg 81 :: gg 82 :: gg 83 :: gg 84 :: gg 85 :: gg 86 :: gg 87 :: gg 88 :: gg 89 :: gg 90 :: gg 91 :: gg 92 :: gg 93 :: gg 94 :: gg 95 :: gg 96 :: gg 97 :: gg 98 :: gg 99 :: gg 100 :: gg 101 :: .slice 1 (marks.map fun b => PD.int .u8 b.toNat) .full :: .int .i64 15 :: .int .i64 i :: gg 105 :: gg 106 :: gg 107 :: gg 108 :: gg 109 :: gg 110 :: gg 111 :: [] ∧ σ = [SObj.box (.agg [.str l0, .str l1, .str l2])]) ?_ (15) (by refine ⟨0, ?_⟩; exact exF (by omega) (by (first | rfl | (simp []; repeat (first | rfl | (apply And.intro))) | (simp []; done))) (by (first | rfl | (simp []; repeat (first | rfl | (apply And.intro))) | (simp []; done))))
              rintro m fr σ ⟨i, gg, hI, rfl, rfl⟩
              by_cases hi : i < 15
              · have q1 : (i : Int) < 15 := by omega
                have hil : i < marks.length := hi
                obtain ⟨c, hc⟩ : ∃ c, marks[i] = c := ⟨_, rfl⟩
                have hcm : c ∈ marks := by rw [← hc]; exact List.getElem_mem hil
                have hall : ∀ b ∈ marks, b.toNat ≠ 45 := by decide
                have hne0 := hall c hcm
                have hne : ¬ (45 : Int) = (c.toNat : Int) := by omega
                have hne2 : ¬ 45 = c.toNat := by omega
                have gx := And.intro @q1 (And.intro @hi (And.intro @hil (And.intro @hc (And.intro @hne (@hne2)))))
                refine goP ?_
                clear gx
                refine LoopI.normal (m - 1) (by omega) (by refine ⟨i + 1, ?_⟩; exact exF (by omega) (by (first | rfl | (simp []; repeat (first | rfl | (apply And.intro))) | (simp []; done))) (by (first | rfl | (simp []; repeat (first | rfl | (apply And.intro))) | (simp []; done))))
              · have q1 : ¬ (i : Int) < 15 := by omega
                have gx := @q1
                refine goP ?_
                clear gx
                simp (disch := first | omega | (simp; done) | (simp; omega)) [decide_eq_decide] <;> try rfl
        · rw [if_neg (fun h => c3 h.1), if_neg (fun h => c3 h.1)] at hL
          have c3' : ¬ (pk r 0 : Int) = 45 := by omega
          by_cases c6 : pk r 0 = 34
          · rw [if_pos c6] at hL
            have c6' : (pk r 0 : Int) = 34 := by omega
            obtain ⟨K, hK⟩ : ∃ K, spanN quoN (r.drop 1) = K := ⟨_, rfl⟩
            have hKl := spanN_le quoN (r.drop 1)
            rw [hK, List.length_drop] at hKl
            rw [hK] at hL
            have hr0 : 0 < r.length := Nat.lt_of_not_le fun h => by rw [pk_end h] at c6; cases c6
            have gx := And.intro @h1 (And.intro @h2 (And.intro @h3 (And.intro @h4 (And.intro @h5 (And.intro @p0 (And.intro @p1 (And.intro @fe (And.intro @c0 (And.intro @c1 (And.intro @c2 (And.intro @c3 (And.intro @c3' (And.intro @c6 (@c6'))))))))))))))
            refine goP ?_
            clear gx
            refine Wp.loopI (fun m fr σ => ∃ (i : Nat), ∃ gg : Nat → PD, (i + m = r.length + 1 ∧ 1 ≤ i ∧ i ≤ 1 + K) ∧ fr = .eptr (scC s t ln col o f) 0 :: gg 1 :: gg 2 :: gg 3 :: gg 4 :: gg 5 :: gg 6 :: .int .i64 i :: gg 8 :: gg 9 :: gg 10 :: gg 11 :: gg 12 :: gg 13 :: gg 14 :: gg 15 :: gg 16 :: gg 17 :: gg 18 :: gg 19 :: gg 20 :: gg 21 :: gg 22 :: gg 23 :: gg 24 :: gg 25 :: gg 26 :: gg 27 :: gg 28 :: gg 29 :: gg 30 :: gg 31 :: gg 32 :: gg 33 :: gg 34 :: gg 35 :: gg 36 :: gg 37 :: gg 38 :: gg 39 :: gg 40 :: gg 41 :: gg 42 :: gg 43 :: gg 44 :: gg 45 :: gg 46 :: gg 47 :: gg 48 :: gg 49 :: gg 50 :: gg 51 :: gg 52 :: gg 53 :: gg 54 :: gg 55 :: gg 56 :: gg 57 :: gg 58 :: gg 59 :: gg 60 :: gg 61 :: gg 62 :: gg 63 :: gg 64 :: gg 65 :: gg 66 :: gg 67 :: gg 68 :: gg 69 :: gg 70 :: gg 71 :: gg 72 :: gg 73 :: gg 74 :: gg 75 :: gg 76 :: gg 77 :: gg 78 :: gg 79 :: gg 80 :: gg 81 :: gg 82 :: gg 83 :: gg 84 :: gg 85 :: gg 86 :: gg 87 :: gg 88 :: gg 89 :: gg 90 :: gg 91 :: gg 92 :: gg 93 :: gg 94 :: gg 95 :: gg 96 :: gg 97 :: gg 98 :: gg 99 :: gg 100 :: gg 101 :: gg 102 :: gg 103 :: gg 104 :: gg 105 :: gg 106 :: gg 107 :: gg 108 :: gg 109 :: gg 110 :: gg 111 :: [] ∧ σ = [SObj.box (.agg [.str l0, .str l1, .str l2])]) ?_ (r.length) (by refine ⟨1, ?_⟩; exact exF (⟨by omega, by omega, by omega⟩) (by (first | rfl | (simp []; repeat (first | rfl | (apply And.intro))) | (simp []; done))) (by (first | rfl | (simp []; repeat (first | rfl | (apply And.intro))) | (simp []; done))))
            rintro m fr σ ⟨i, gg, hI, rfl, rfl⟩
            obtain ⟨hm, hi1, hi⟩ := hI
            have pi := pe (i : Int) (by omega) (by omega)
            rw [Int.toNat_natCast] at pi
            by_cases hl : i < r.length
            · have q1 : (t : Int) + (i : Int) < (s.length : Int) := by omega
              have hat : quoN (pk r i) = decide (i < 1 + K) := by
                have q := spanN_at quoN (r.drop 1) (i - 1) (by rw [hK]; omega) (by rw [List.length_drop]; omega)
                have h4 : (r.drop 1)[i - 1]'(by rw [List.length_drop]; omega) = r[i] := by
                  simp only [List.getElem_drop]
                  congr 1
                  omega
                rw [hK, h4, ← pk_at hl] at q
                cases hd : quoN (pk r i) with
                | true => rw [hd] at q; simp at q; simp; omega
                | false => rw [hd] at q; simp at q; simp; omega
              by_cases hc : i < 1 + K
              · rw [decide_eq_true hc] at hat
                unfold quoN at hat
                simp only [Bool.and_eq_true, Bool.not_eq_true', decide_eq_false_iff_not] at hat
                obtain ⟨e1, e2⟩ := hat
                have gx := And.intro @h1 (And.intro @pi (And.intro @q1 (And.intro @e1 (@e2))))
                refine goP ?_
                clear gx
                refine LoopI.normal (m - 1) (by omega) (by refine ⟨i + 1, ?_⟩; exact exF (⟨by omega, by omega, by omega⟩) (by (first | rfl | (simp []; repeat (first | rfl | (apply And.intro))) | (simp []; done))) (by (first | rfl | (simp []; repeat (first | rfl | (apply And.intro))) | (simp []; done))))
              · rw [decide_eq_false hc] at hat
                have he : i = 1 + K := by omega
                rw [← he] at hL
                have hLk : (K : Int) + 2 = (i : Int) + 1 := by omega
                rw [hLk] at hL
                by_cases e1 : pk r i = 34
                · rw [if_pos e1] at hL
                  subst hL
                  have e1' : (pk r i : Int) = 34 := by omega
                  have gx := And.intro @h1 (And.intro @pi (And.intro @q1 (And.intro @e1 (@e1'))))
                  refine goP ?_
                  clear gx
                  simp (disch := first | omega | (simp; done) | (simp; omega)) [decide_eq_decide] <;> try rfl
                · rw [if_neg e1] at hL
                  subst hL
                  have e1' : ¬ (pk r i : Int) = 34 := by omega
                  unfold quoN at hat
                  have e2' : (pk r i : Int) = 10 := by
                    simp only [Bool.and_eq_false_iff, Bool.not_eq_false', decide_eq_true_eq] at hat
                    omega
                  have e2 : pk r i = 10 := by omega
                  have gx := And.intro @h1 (And.intro @pi (And.intro @q1 (And.intro @e2 (@e2'))))
                  refine goP ?_
                  clear gx
                  simp (disch := first | omega | (simp; done) | (simp; omega)) [decide_eq_decide] <;> try rfl
            · have q1 : ¬ (t : Int) + (i : Int) < (s.length : Int) := by omega
              have he : i = 1 + K := by omega
              rw [← he] at hL
              have e0 := pk_end (s := r) (i := i) (by omega)
              rw [e0] at pi
              rw [if_neg (by rw [e0]; decide)] at hL
              subst hL
              have gx := And.intro @h1 (And.intro @pi (@q1))
              refine goP ?_
              clear gx
              simp (disch := first | omega | (simp; done) | (simp; omega)) [decide_eq_decide] <;> try rfl
          · rw [if_neg c6] at hL
            have c6' : ¬ (pk r 0 : Int) = 34 := by omega
            have gx := And.intro @h1 (And.intro @h2 (And.intro @h3 (And.intro @h4 (And.intro @h5 (And.intro @p0 (And.intro @p1 (And.intro @fe (And.intro @c0 (And.intro @c1 (And.intro @c2 (And.intro @c3 (And.intro @c3' (And.intro @c6 (@c6'))))))))))))))
            refine goP ?_
            clear gx
            refine Wp.loopI (fun m fr σ => ∃ (i : Nat), ∃ gg : Nat → PD, (i + m = 15 ∧ ∀ j (h : j < i) (h' : j < marks.length), marks[j].toNat ≠ pk r 0) ∧ fr = gg 0 :: gg 1 :: gg 2 :: gg 3 :: .int .u8 (pk r 0) :: gg 5 :: gg 6 :: gg 7 :: gg 8 :: gg 9 :: gg 10 :: gg 11 :: gg 12 :: gg 13 :: gg 14 :: gg 15 :: gg 16 :: gg 17 :: gg 18 :: gg 19 :: gg 20 :: gg 21 :: gg 22 :: gg 23 :: gg 24 :: gg 25 :: gg 26 :: gg 27 :: gg 28 :: gg 29 :: gg 30 :: gg 31 :: gg 32 :: gg 33 :: gg 34 :: gg 35 :: gg 36 :: gg 37 :: gg 38 :: gg 39 :: gg 40 :: gg 41 :: gg 42 :: gg 43 :: gg 44 :: gg 45 :: gg 46 :: gg 47 :: gg 48 :: gg 49 :: gg 50 :: gg 51 :: gg 52 :: gg 53 :: gg 54 :: gg 55 :: gg 56 :: gg 57 :: gg 58 :: gg 59 :: gg 60 :: gg 61 :: gg 62 :: gg 63 :: gg 64 :: gg 65 :: gg 66 :: gg 67 :: gg 68 :: gg 69 :: gg 70 :: gg 71 :: gg 72 :: gg 73 :: gg 74 :: gg 75 :: gg 76 :: gg 77 :: gg 78 :: gg 79 :: gg 80 :: gg 81 :: gg 82 :: gg 83 :: gg 84 :: gg 85 :: gg 86 :: gg 87 :: gg 88 :: gg 89 :: gg 90 :: gg 91 :: gg 92 :: gg 93 :: gg 94 :: gg 95 :: gg 96 :: gg 97 :: gg 98 :: gg 99 :: gg 100 :: gg 101 :: .slice 1 (marks.map fun b => PD.int .u8 b.toNat) .full :: .int .i64 15 :: .int .i64 i :: gg 105 :: gg 106 :: gg 107 :: gg 108 :: gg 109 :: gg 110 :: gg 111 :: [] ∧ σ = [SObj.box (.agg [.str l0, .str l1, .str l2])]) ?_ (15) (by refine ⟨0, ?_⟩; exact exF (⟨by omega, fun j h => absurd h (Nat.not_lt_zero _)⟩) (by (first | rfl | (simp []; repeat (first | rfl | (apply And.intro))) | (simp []; done))) (by (first | rfl | (simp []; repeat (first | rfl | (apply And.intro))) | (simp []; done))))
            rintro m fr σ ⟨i, gg, hI, rfl, rfl⟩
            obtain ⟨hm, hI⟩ := hI
            by_cases hi : i < 15
            · have q1 : (i : Int) < 15 := by omega
              have hil : i < marks.length := hi
              obtain ⟨c, hc⟩ : ∃ c, marks[i] = c := ⟨_, rfl⟩
              have hcm : c ∈ marks := by rw [← hc]; exact List.getElem_mem hil
              by_cases hv : c.toNat = pk r 0
              · have hv' : (pk r 0 : Int) = (c.toNat : Int) := by omega
                rw [if_pos (mem_pk hcm hv)] at hL
                subst hL
                have gx := And.intro @q1 (And.intro @hi (And.intro @hil (And.intro @hc (And.intro @hv (@hv')))))
                refine goP ?_
                clear gx
                simp (disch := first | omega | (simp; done) | (simp; omega)) [decide_eq_decide] <;> try rfl
              · have hv' : ¬ (pk r 0 : Int) = (c.toNat : Int) := by omega
                have hv2 : ¬ pk r 0 = c.toNat := by omega
                have gx := And.intro @q1 (And.intro @hi (And.intro @hil (And.intro @hc (And.intro @hv' (@hv2)))))
                refine goP ?_
                clear gx
                refine LoopI.normal (m - 1) (by omega) (by refine ⟨i + 1, ?_⟩; exact exF (⟨by omega, fun j h h' => (by rcases Nat.lt_succ_iff_lt_or_eq.1 h with h1 | h1; exact hI j h1 h'; subst h1; rw [hc]; exact hv)⟩) (by (first | rfl | (simp []; repeat (first | rfl | (apply And.intro))) | (simp []; done))) (by (first | rfl | (simp []; repeat (first | rfl | (apply And.intro))) | (simp []; done))))
            · have q1 : ¬ (i : Int) < 15 := by omega
              have hno : ¬ (pk r 0).toUInt8 ∈ marks := fun h => by
                obtain ⟨j, hj, e⟩ := List.getElem_of_mem h
                refine hI j (by have : marks.length = 15 := rfl; omega) hj ?_
                rw [e]
                unfold pk
                simp
              rw [if_neg hno] at hL
              subst hL
              have gx := @q1
              refine goP ?_
              clear gx
              simp (disch := first | omega | (simp; done) | (simp; omega)) [decide_eq_decide] <;> try rfl
end Go.Kz

/-
  Layer 19: the model's scanner puts tokens, ends lines.
-/
namespace Go.Kz
open Go Go.Proofs

/-- A scanner in a box. -/
structure ScAt (σ : List SObj) (id : Nat) (s : List UInt8) (a : Nat) (ln col : Int) (o : List Tk) (f : Int) : Prop where
  ex : ∃ z tok, σ[id]? = some (.box (.agg (scC s a ln col (.slice z (o.map Em.tk.emb) tok) f))) ∧ (o = [] ∨ z = 7) ∧ RowAt σ tok 41 7 o.length

theorem out_free {z : Nat} {o : List Tk} {tok : Tok} : (PD.slice z (o.map Em.tk.emb) tok).strip.idfree = true := by
  rw [PD.strip_slice]
  simp only [PD.idfree, PD.idfreeL_all, Bool.and_true, List.map_map, List.all_map]
  exact List.all_eq_true.2 fun x _ => by simp only [Function.comp, Em.str, Em.fre]

theorem len_at {σ : List SObj} {id : Nat} {s : List UInt8} {a : Nat} {ln col f : Int} {z : Nat} {o : List Tk} {tok : Tok} (hb : σ[id]? = some (.box (.agg (scC s a ln col (.slice z (o.map Em.tk.emb) tok) f)))) (ha : a ≤ s.length) (hs : s.length ≤ 50000) (fl : Nat) :
    rentry gLen fl [.ptr id 0] σ = some ((i64.tup2 i64).emb (lenM (s.drop a)), σ) := by
  have e : preadArgs σ [.ptr id 0] = some [.eptr (scC s a ln col ((PD.slice z (o.map Em.tk.emb) tok).strip) f) 0] := by simp [preadArgs, preadArg, hb, PD.cells, PD.strip]
  simp only [rentry, e, gLen]
  rw [gif_pos ⟨by omega, by omega, hs, out_free⟩]
  simp
theorem feet_at {σ : List SObj} {id : Nat} {s : List UInt8} {a : Nat} {ln col f : Int} {z : Nat} {o : List Tk} {tok : Tok} (hb : σ[id]? = some (.box (.agg (scC s a ln col (.slice z (o.map Em.tk.emb) tok) f)))) (ha : a ≤ s.length) (hs : s.length ≤ 50000) (fl : Nat) :
    rentry gFeet fl [.ptr id 0] σ = some ((i64.tup2 Em.parts).emb (partsF (s.drop a)), σ) := by
  have e : preadArgs σ [.ptr id 0] = some [.eptr (scC s a ln col ((PD.slice z (o.map Em.tk.emb) tok).strip) f) 0] := by simp [preadArgs, preadArg, hb, PD.cells, PD.strip]
  simp only [rentry, e, gFeet]
  rw [gif_pos ⟨by omega, by omega, hs, out_free⟩]
  simp

theorem ScAt.uniq {σ : List SObj} {id : Nat} {s s' : List UInt8} {a a' : Nat} {ln ln' col col' f f' : Int} {o o' : List Tk} (h : ScAt σ id s a ln col o f) (h' : ScAt σ id s' a' ln' col' o' f') : s = s' ∧ a = a' ∧ ln = ln' ∧ col = col' ∧ o = o' ∧ f = f' := by
  obtain ⟨z, tok, hb, _⟩ := h.ex
  obtain ⟨z', tok', hb', _⟩ := h'.ex
  rw [hb] at hb'
  simp only [Option.some.injEq, SObj.box.injEq, PD.agg.injEq, List.cons.injEq, PD.str.injEq, PD.int.injEq, PD.slice.injEq, true_and, and_true] at hb'
  obtain ⟨h1, h2, h3, h4, ⟨_, h5, _⟩, h6⟩ := hb'
  exact ⟨h1, by omega, h3, h4, map_inj' (fun _ _ h => Em.tk.inj h) _ _ h5, h6⟩

/-- All other boxes stay. -/
def Kp (id : Nat) (σ σ' : List SObj) : Prop := ∀ (j : Nat) (q : PD), j ≠ id → σ[j]? = some (.box q) → σ'[j]? = some (.box q)
theorem Kp.rfl' {id : Nat} {σ : List SObj} : Kp id σ σ := fun _ _ _ h => h
theorem Kp.trans {id : Nat} {a b c : List SObj} (h : Kp id a b) (k : Kp id b c) : Kp id a c := fun j q hj h1 => k j q hj (h j q hj h1)
theorem Kp.more {id : Nat} {σ τ : List SObj} : Kp id σ (σ ++ τ) := fun j q _ h => by rw [List.getElem?_append_left (List.getElem?_eq_some_iff.1 h).1]; exact h
theorem Kp.set {id : Nat} {σ : List SObj} {x : SObj} : Kp id σ (σ.set id x) := fun j q hj h => by rw [List.getElem?_set_ne (Ne.symm hj)]; exact h
/-- What put does. -/
def PutQ : List PD → List SObj → PD → List SObj → Prop := fun args σ p σ' => σ ≠ [] ∧ ∀ id t s a ln col o f, args = [.ptr id 0, Em.tk.emb t] → ScAt σ id s a ln col o f → p = .tup [] ∧ ScAt σ' id s a ln col (o ++ [t]) f ∧ Kp id σ σ'
def EndQ : List PD → List SObj → PD → List SObj → Prop := fun args σ p σ' => σ ≠ [] ∧ ∀ id s a ln col o f, args = [.ptr id 0] → ScAt σ id s a ln col o f → p = .tup [] ∧ ScAt σ' id s a ln col (endM o ln col) f ∧ Kp id σ σ'

variable {E : PExt} (hU : Uni E)
include hU
set_option maxRecDepth 10000
set_option maxHeartbeats 4000000

theorem w_put (h0 : E 57 = none) {σ : List SObj} {id : Nat} {s : List UInt8} {a : Nat} {ln col f : Int} {o : List Tk} (h : ScAt σ id s a ln col o f) (ho : o.length < 20000) (t : Tk) :
    WpC Tryd.prog E 0 (.inl 57) [.ptr id 0, Em.tk.emb t] σ (PutQ [.ptr id 0, Em.tk.emb t] σ) := by
  obtain ⟨z, tok, hb, hz, hrow⟩ := h.ex
  have hl : id < σ.length := (List.getElem?_eq_some_iff.1 hb).1
  have hb' : σ[id] = .box (.agg (scC s a ln col (.slice z (o.map Em.tk.emb) tok) f)) := by rw [List.getElem?_eq_getElem hl] at hb; simpa using hb
  have hb1 : ∀ x, (σ ++ [x])[id]? = some (.box (.agg (scC s a ln col (.slice z (o.map Em.tk.emb) tok) f))) := fun x => by rw [List.getElem?_append_left hl]; exact hb
  have hq : ¬ o.length = 20000 := by omega
  have hq' : ¬ (o.length : Int) = 20000 := by omega
  have hrow2 : RowAt (σ ++ [.box (Em.tk.emb t)]) tok 41 7 o.length := hrow.more
  obtain ⟨tok', σ3, hap, hr', hkeep, _⟩ := pappend_row (P := Tryd.prog) (t := 24) (e := 41) (k := 7) (b := 64) (s := z) (xs := o.map Em.tk.emb) (p := Em.tk.emb t) (tk := .any) Tryd.underlying24 (by kernel_rfl) (by simpa using hz) (by rw [List.length_map]; exact hrow2) (by rw [List.length_map]; omega) (by rw [List.length_map]; omega)
  have hk := hkeep id _ (rowat_ne hrow2 (hb1 _)) (hb1 _)
  have hl3 : id < σ3.length := (List.getElem?_eq_some_iff.1 hk).1
  have hk' : σ3[id] = .box (.agg (scC s a ln col (.slice z (o.map Em.tk.emb) tok) f)) := by rw [List.getElem?_eq_getElem hl3] at hk; simpa using hk
  have hrow3 := rowat_set (o := .box (.agg (scC s a ln col (.slice 7 (o.map Em.tk.emb ++ [Em.tk.emb t]) tok') f))) (by simpa using hr') hk
  have hfin : ScAt (σ3.set id (.box (.agg (scC s a ln col (.slice 7 (o.map Em.tk.emb ++ [Em.tk.emb t]) tok') f)))) id s a ln col (o ++ [t]) f := ⟨⟨7, tok', by rw [List.getElem?_set_self hl3]; simp, .inr rfl, by simpa using hrow3⟩⟩
  have hpost : PutQ [.ptr id 0, Em.tk.emb t] σ (.tup []) (σ3.set id (.box (.agg (scC s a ln col (.slice 7 (o.map Em.tk.emb ++ [Em.tk.emb t]) tok') f)))) := by
    refine ⟨fun e => by rw [e] at hl; simp at hl, fun id' t' s' a' ln' col' o' f' e1 e2 => ⟨rfl, ?_⟩⟩
    simp only [List.cons.injEq, PD.ptr.injEq, and_true] at e1
    obtain ⟨rfl, e1⟩ := e1
    have := Em.tk.inj e1
    subst this
    obtain ⟨rfl, rfl, rfl, rfl, rfl, rfl⟩ := h.uniq e2
    refine ⟨hfin, Kp.trans (fun j q hj hj2 => ?_) Kp.set⟩
    have hj3 : (σ ++ [.box (Em.tk.emb t)])[j]? = some (.box q) := by rw [List.getElem?_append_left (List.getElem?_eq_some_iff.1 hj2).1]; exact hj2
    exact hkeep j _ (rowat_ne hrow2 hj3) hj3
  simp only [emb_tk] at hap hpost
  apply WpC.bodyL h0 Tryd.func57 rfl
  focus (simp [show Tryd.f57.ntmps = _ from rfl, List.replicate]; rfl)
  have gx := And.intro @hl (And.intro @hb (And.intro @hb' (And.intro @hb1 (And.intro @hq (And.intro @hq' (And.intro @hap (And.intro @hk (And.intro @hk' (@hl3)))))))))
  refine goP ?_
  clear gx
  simp
  exact ⟨_, _, ⟨rfl, rfl⟩, hpost⟩

theorem w_end {E0 : PExt} (hU0 : Uni E0) (hp0 : E0 57 = none) (h0 : E 37 = none) (h1 : E 57 = some (qentry Tryd.prog E0 57 PutQ)) {σ : List SObj} {id : Nat} {s : List UInt8} {a : Nat} {ln col f : Int} {o : List Tk} (h : ScAt σ id s a ln col o f) (ho : o.length < 20000) :
    WpC Tryd.prog E 0 (.inl 37) [.ptr id 0] σ (EndQ [.ptr id 0] σ) := by
  obtain ⟨z, tok, hb, hz, hrow⟩ := h.ex
  have hl : id < σ.length := (List.getElem?_eq_some_iff.1 hb).1
  have hb' : σ[id] = .box (.agg (scC s a ln col (.slice z (o.map Em.tk.emb) tok) f)) := by rw [List.getElem?_eq_getElem hl] at hb; simpa using hb
  have hpost : ∀ σ', ScAt σ' id s a ln col (endM o ln col) f → Kp id σ σ' → EndQ [.ptr id 0] σ (.tup []) σ' := by
    refine fun σ' hσ hkp => ⟨fun e => by rw [e] at hl; simp at hl, fun id' s' a' ln' col' o' f' e1 e2 => ⟨rfl, ?_⟩⟩
    simp only [List.cons.injEq, PD.ptr.injEq, and_true] at e1
    subst e1
    obtain ⟨rfl, rfl, rfl, rfl, rfl, rfl⟩ := h.uniq e2
    exact ⟨hσ, hkp⟩
  by_cases h0l : o = []
  · have hend : endM o ln col = o := by rw [h0l]; rfl
    subst h0l
    have hfin := hpost σ (by rw [hend]; exact h) Kp.rfl'
    simp only [List.map_nil] at hb hb'
    apply WpC.bodyL h0 Tryd.func37 rfl
    focus (simp [show Tryd.f37.ntmps = _ from rfl, List.replicate]; rfl)
    have gx := And.intro @hl (And.intro @hb (@hb'))
    refine goP ?_
    clear gx
    simp
    exact ⟨_, _, ⟨rfl, rfl⟩, hfin⟩
  · obtain ⟨k, hk⟩ : ∃ k, o.length = k + 1 := ⟨o.length - 1, by have := List.length_pos_iff.2 h0l; omega⟩
    have hkl : k < o.length := by omega
    obtain rfl : z = 7 := hz.resolve_left h0l
    have q1 : 0 < o.length := by omega
    have q1' : (0 : Int) < (o.length : Int) := by omega
    have hkm : (o.length : Int) - 1 = (k : Int) := by omega
    obtain ⟨x, hxx⟩ : ∃ x, o[k] = x := ⟨_, rfl⟩
    have hgl : o.getLast? = some x := by
      rw [List.getLast?_eq_getElem?, hk, Nat.add_sub_cancel, List.getElem?_eq_getElem hkl, hxx]
    by_cases hx : x.kind = 6
    · have hend : endM o ln col = o := by simp [endM, hgl, hx]
      have hfin := hpost σ (by rw [hend]; exact h) Kp.rfl'
      apply WpC.bodyL h0 Tryd.func37 rfl
      focus (simp [show Tryd.f37.ntmps = _ from rfl, List.replicate]; rfl)
      have gx := And.intro @hl (And.intro @hb (And.intro @hb' (And.intro @q1 (And.intro @q1' (And.intro @hkm (And.intro @hkl (And.intro @hxx (@hx))))))))
      refine goP ?_
      clear gx
      simp
      exact ⟨_, _, ⟨rfl, rfl⟩, hfin⟩
    · have hend : endM o ln col = o ++ [⟨6, [10], 0, (0, 0), ln, col⟩] := by simp [endM, hgl, hx]
      obtain ⟨p3, σ3, hp, hQ⟩ := qentry_of (w_put hU0 hp0 h ho ⟨6, [10], 0, (0, 0), ln, col⟩)
      obtain ⟨rfl, hQ2, hQ3⟩ := hQ.2 _ _ _ _ _ _ _ _ rfl h
      have hfin := hpost σ3 (by rw [hend]; exact hQ2) hQ3
      simp only [emb_tk] at hp
      apply WpC.bodyL h0 Tryd.func37 rfl
      focus (simp [show Tryd.f37.ntmps = _ from rfl, List.replicate]; rfl)
      have gx := And.intro @hl (And.intro @hb (And.intro @hb' (And.intro @q1 (And.intro @q1' (And.intro @hkm (And.intro @hkl (And.intro @hxx (And.intro @hx (And.intro @h1 (@hp))))))))))
      refine goP ?_
      clear gx
      simp
      exact ⟨_, _, ⟨rfl, rfl⟩, hfin⟩
end Go.Kz

/-
  Layer 19: the model's scanner takes a token.
-/
namespace Go.Kz
open Go Go.Proofs

theorem lenM_le (r : List UInt8) : 0 ≤ (lenM r).1 ∧ (lenM r).1 ≤ r.length := by
  have hw := spanN_le wordN r
  have hd := spanN_le digN r
  have hd1 := spanN_le digN (r.drop 1)
  rw [List.length_drop] at hd1
  unfold lenM
  split
  · rename_i h
    unfold partsF at h ⊢
    split at h
    · rename_i c
      rw [if_pos c]
      have := partsS_le r
      simp only at h ⊢
      omega
    · simp at h
  · split
    · simp only; omega
    · split
      · simp only; omega
      · split
        · rename_i h
          have := lt_of_pk h.1 (by decide)
          simp only; omega
        · split
          · rename_i h
            have := lt_of_pk h.2 (by decide)
            simp only; omega
          · split
            · split
              · rename_i h
                have := lt_of_pk h (by decide)
                simp only; omega
              · simp only; omega
            · split
              · rename_i h
                have : 0 < r.length := Nat.lt_of_not_le fun h' => by
                  rw [pk_end h'] at h
                  revert h
                  decide
                simp only; omega
              · simp only; omega

theorem lenM_kind (r : List UInt8) : (lenM r).1 ≠ 0 → (lenM r).2 = 1 ∨ (lenM r).2 = 2 ∨ (lenM r).2 = 3 ∨ (lenM r).2 = 4 ∨ (lenM r).2 = 5 := by
  unfold lenM
  intro h
  repeat' split
  all_goals simp_all
theorem lenM_num {r : List UInt8} (h : (lenM r).2 = 2) (h0 : (lenM r).1 ≠ 0) : 0 < (r.take (lenM r).1.toNat).length ∧ allDig (if pk (r.take (lenM r).1.toNat) 0 = 45 then (r.take (lenM r).1.toNat).drop 1 else r.take (lenM r).1.toNat) := by
  obtain ⟨b1, b2⟩ := lenM_le r
  have hlen : 0 < (r.take (lenM r).1.toNat).length := by
    rw [List.length_take]
    omega
  refine ⟨hlen, ?_⟩
  have hr : 0 < r.length := by
    rw [List.length_take] at hlen
    omega
  have p0 : pk (r.take (lenM r).1.toNat) 0 = pk r 0 := by
    rw [pk_at hlen, pk_at hr, List.getElem_take]
  rw [p0]
  revert h h0 hlen
  unfold lenM
  split
  · intro h; simp at h
  · split
    · intro h; simp at h
    · split
      · rename_i c
        intro _ _ _
        have : ¬ pk r 0 = 45 := fun e => by rw [e] at c; revert c; decide
        rw [if_neg this]
        simp only [Int.toNat_natCast]
        exact allDig_span r
      · split
        · rename_i c
          intro _ _ _
          rw [if_pos c.1]
          have e : (1 + (spanN digN (r.drop 1) : Int)).toNat = 1 + spanN digN (r.drop 1) := by omega
          simp only [e]
          have : (r.take (1 + spanN digN (r.drop 1))).drop 1 = (r.drop 1).take (spanN digN (r.drop 1)) := by
            rw [List.drop_take, Nat.add_sub_cancel_left]
          rw [this]
          exact allDig_span _
        · split
          · intro h; simp at h
          · split
            · split
              · intro h; simp at h
              · intro h; simp at h
            · split
              · intro h; simp at h
              · intro h; simp at h
theorem partsF_iff (r : List UInt8) : (partsF r).2.2.1 = [] ↔ (partsF r).2.2.2 = [] := by
  unfold partsF
  split
  · rename_i c
    have ha : spanN digN r ≠ 0 := fun e => by rw [span_zero (by decide)] at e; rw [e] at c; cases c
    have hal := spanN_le digN r
    have ne : ∀ {l : List UInt8} {k : Nat}, k ≠ 0 → k ≤ l.length → l.take k ≠ [] := fun {l k} h1 h2 e => by
      have := congrArg List.length e
      rw [List.length_take, List.length_nil] at this
      omega
    unfold partsS
    simp only
    split
    · simp
    · split
      · split
        · rename_i h
          simp only
          exact ⟨fun e => absurd e (ne h.1 (spanN_le _ _)), fun e => absurd e (ne h.2.2.1 (spanN_le _ _))⟩
        · simp [noParts]
      · split
        · split
          · rename_i h
            simp only
            exact ⟨fun e => absurd e (ne ha hal), fun e => absurd e (ne h.1 (spanN_le _ _))⟩
          · simp [noParts]
        · simp [noParts]
  · simp [noParts]
theorem partsF_dig (r : List UInt8) : allDig (partsF r).2.1 ∧ allDig (partsF r).2.2.1 ∧ allDig (partsF r).2.2.2 ∧ (partsF r).2.1.length ≤ r.length ∧ (partsF r).2.2.1.length ≤ r.length ∧ (partsF r).2.2.2.length ≤ r.length := by
  unfold partsF
  split
  · exact partsS_dig r
  · exact ⟨allDig_nil, allDig_nil, allDig_nil, Nat.zero_le _, Nat.zero_le _, Nat.zero_le _⟩

theorem ScAt.more {σ : List SObj} {id : Nat} {s : List UInt8} {a : Nat} {ln col f : Int} {o : List Tk} (h : ScAt σ id s a ln col o f) (τ : List SObj) : ScAt (σ ++ τ) id s a ln col o f := by
  obtain ⟨z, tok, hb, hz, hrow⟩ := h.ex
  exact ⟨⟨z, tok, by rw [List.getElem?_append_left (List.getElem?_eq_some_iff.1 hb).1]; exact hb, hz, hrow.more⟩⟩
theorem ScAt.set {σ : List SObj} {id : Nat} {s : List UInt8} {a : Nat} {ln col f : Int} {o : List Tk} {z : Nat} {tok : Tok} (hb : σ[id]? = some (.box (.agg (scC s a ln col (.slice z (o.map Em.tk.emb) tok) f)))) (hz : o = [] ∨ z = 7) (hrow : RowAt σ tok 41 7 o.length) (a' : Nat) (ln' col' f' : Int) :
    ScAt (σ.set id (.box (.agg (scC s a' ln' col' (.slice z (o.map Em.tk.emb) tok) f')))) id s a' ln' col' o f' :=
  ⟨⟨z, tok, by rw [List.getElem?_set_self (List.getElem?_eq_some_iff.1 hb).1], hz, rowat_set hrow hb⟩⟩

theorem put_at {E0 : PExt} (hU0 : Uni E0) (hp0 : E0 57 = none) {σ : List SObj} {id : Nat} {s : List UInt8} {a : Nat} {ln col : Int} {o : List Tk} (h : ScAt σ id s a ln col o 0) (ho : o.length < 20000) (τ : List SObj) (t : Tk) :
    ∃ σ3 z3 tok3, qentry Tryd.prog E0 57 PutQ 0 [.ptr id 0, .agg [.int .i64 t.kind, .str t.text, .int .i64 t.num, .int .i64 t.feet.1, .int .i64 t.feet.2, .int .i64 t.line, .int .i64 t.col]] (σ ++ τ) = some (.tup [], σ3) ∧
      (∃ hl : id < σ3.length, σ3[id] = .box (.agg (scC s a ln col (.slice z3 ((o ++ [t]).map Em.tk.emb) tok3) 0))) ∧
      (∀ a' col', ScAt (σ3.set id (.box (.agg (scC s a' ln col' (.slice z3 ((o ++ [t]).map Em.tk.emb) tok3) 0)))) id s a' ln col' (o ++ [t]) 0) ∧ ∀ x, Kp id σ (σ3.set id x) := by
  obtain ⟨p3, σ3, hp, hQ⟩ := qentry_of (w_put hU0 hp0 (h.more τ) ho t)
  obtain ⟨rfl, hQ2, hQ3⟩ := hQ.2 _ _ _ _ _ _ _ _ rfl (h.more τ)
  obtain ⟨z3, tok3, hb3, hz3, hrow3⟩ := hQ2.ex
  have hl3 := (List.getElem?_eq_some_iff.1 hb3).1
  exact ⟨σ3, z3, tok3, hp, ⟨hl3, by rw [List.getElem?_eq_getElem hl3] at hb3; simpa using hb3⟩, fun a' col' => ScAt.set hb3 hz3 hrow3 a' ln col' 0, fun x => Kp.trans (Kp.trans Kp.more hQ3) Kp.set⟩

theorem lenM_quote {r : List UInt8} (h : (lenM r).2 = 4) : 2 ≤ (lenM r).1 := by
  revert h
  unfold lenM
  repeat' split
  all_goals intro h; simp at h
  simp only
  omega
theorem lenM_feet {r : List UInt8} (h : (lenM r).2 = 3) : (lenM r).1 = (partsF r).1 := by
  revert h
  unfold lenM
  split
  · intro _; rfl
  · repeat' split
    all_goals intro h; simp at h
theorem numS_form (w : List UInt8) : ((numS w).2 = 0 ∧ ∃ v, numS w = (⟨2, Lib.itoa v, v, (0, 0), 0, 0⟩, 0)) ∨ ((numS w).2 = 2 ∧ numS w = (noTk, 2)) := by
  unfold numS
  simp only
  split
  · exact .inr ⟨rfl, rfl⟩
  · exact .inl ⟨rfl, _, rfl⟩
theorem numM_bd (w : List UInt8) : -1000000000 ≤ (numM w).1 ∧ (numM w).1 ≤ 1000000000 := by
  have key : ∀ l, -1 ≤ valR l 1000000000 ∧ valR l 1000000000 ≤ 1000000000 := fun l => by
    unfold valR
    split <;> omega
  have h1 := key w
  have h2 := key (w.drop 1)
  unfold numM
  simp only
  split <;> omega
theorem feetS_form (p : Parts) : ((feetS p).2 = 0 ∧ ∃ tx x y, feetS p = (⟨3, tx, 0, (x, y), 0, 0⟩, 0)) ∨ ((feetS p).2 = 2 ∧ feetS p = (noTk, 2)) := by
  unfold feetS
  split
  · exact .inr ⟨rfl, rfl⟩
  · split
    · exact .inr ⟨rfl, rfl⟩
    · exact .inl ⟨rfl, _, _, _, rfl⟩

def numOk (w : List UInt8) : Prop := allDig (if pk w 0 = 45 then w.drop 1 else w)
/-- What token does. -/
def TokenQ : List PD → List SObj → PD → List SObj → Prop := fun args σ p σ' => σ ≠ [] ∧ ∀ id s a ln col o, args = [.ptr id 0] → ScAt σ id s a ln col o 0 → p = .tup [] ∧ Kp id σ σ' ∧
  if (tokM (s.drop a)).2.2 ≠ 0 then ScAt σ' id s a ln col o (tokM (s.drop a)).2.2 else ScAt σ' id s (a + (tokM (s.drop a)).2.1.toNat) ln (col + (tokM (s.drop a)).2.1) (o ++ [(tokM (s.drop a)).1.place ln col]) 0

variable {E : PExt} (hU : Uni E)
include hU
set_option maxRecDepth 10000
set_option maxHeartbeats 4000000

theorem w_token {E0 : PExt} (hU0 : Uni E0) (hp0 : E0 57 = none) (h0 : E 38 = none) (h1 : E 57 = some (qentry Tryd.prog E0 57 PutQ))
    (h2 : E 58 = some (rentry gLen)) (h3 : E 61 = some (rentry gFeet))
    (h4 : E 59 = some (entry (gf1 .text (i64.tup2 .bool) fun s => gif (0 < s.length ∧ numOk s ∧ (s.length : Int) < 4000000000) (some (numM s)))))
    (h5 : E 60 = some (entry (gf1 i64 .text fun n => gif (-9223372036854775808 ≤ n ∧ n ≤ 9223372036854775807) (some (Lib.itoa n)))))
    (h6 : E 62 = some (entry (gf1 .parts (Em.frac.tup3 .text .bool) fun p => gif (allDig p.1 ∧ allDig p.2.1 ∧ allDig p.2.2 ∧ (p.1.length : Int) < 4000000000 ∧ (p.2.1.length : Int) < 4000000000 ∧ (p.2.2.length : Int) < 4000000000 ∧ (p.2.1 = [] ↔ p.2.2 = [])) (some (quoM p)))))
    {σ : List SObj} {id : Nat} {s : List UInt8} {a : Nat} {ln col : Int} {o : List Tk} (h : ScAt σ id s a ln col o 0) (ho : o.length < 20000) (ha : a ≤ s.length) (hs : s.length ≤ 50000) (hc0 : 0 ≤ col) (hc1 : col ≤ 1000000) :
    WpC Tryd.prog E 0 (.inl 38) [.ptr id 0] σ (TokenQ [.ptr id 0] σ) := by
  obtain ⟨z, tok, hb, hz, hrow⟩ := h.ex
  have hl : id < σ.length := (List.getElem?_eq_some_iff.1 hb).1
  have hb' : σ[id] = .box (.agg (scC s a ln col (.slice z (o.map Em.tk.emb) tok) 0)) := by rw [List.getElem?_eq_getElem hl] at hb; simpa using hb
  have hb1 : ∀ x, (σ ++ [x])[id]? = some (.box (.agg (scC s a ln col (.slice z (o.map Em.tk.emb) tok) 0))) := fun x => by rw [List.getElem?_append_left hl]; exact hb
  have le := len_at hb ha hs
  obtain ⟨r, hr⟩ : ∃ r, s.drop a = r := ⟨_, rfl⟩
  obtain ⟨b1, b2⟩ := lenM_le r
  have hrl := congrArg List.length hr
  rw [List.length_drop] at hrl
  rw [hr] at le
  obtain ⟨n, hn⟩ : ∃ n : Nat, (lenM r).1 = n := ⟨(lenM r).1.toNat, by omega⟩
  obtain ⟨k, hk⟩ : ∃ k, (lenM r).2 = k := ⟨_, rfl⟩
  have hL : lenM r = ((n : Int), k) := Prod.ext hn hk
  rw [hL] at le b1 b2
  have hpost : ∀ σ', (if (tokM r).2.2 ≠ 0 then ScAt σ' id s a ln col o (tokM r).2.2 else ScAt σ' id s (a + (tokM r).2.1.toNat) ln (col + (tokM r).2.1) (o ++ [(tokM r).1.place ln col]) 0) → Kp id σ σ' → TokenQ [.ptr id 0] σ (.tup []) σ' := by
    refine fun σ' hσ hkp => ⟨fun e => by rw [e] at hl; simp at hl, fun id' s' a' ln' col' o' e1 e2 => ⟨rfl, ?_⟩⟩
    simp only [List.cons.injEq, PD.ptr.injEq, and_true] at e1
    subst e1
    obtain ⟨rfl, rfl, rfl, rfl, rfl, _⟩ := h.uniq e2
    rw [hr]
    exact ⟨hkp, hσ⟩
  obtain ⟨T, hT⟩ : ∃ T, tokM r = T := ⟨_, rfl⟩
  rw [hT] at hpost
  unfold tokM at hT
  simp only [hL] at hT
  have hne : σ ≠ [] := fun e => by rw [e] at hl; simp at hl
  have hrow1 : ∀ x, RowAt (σ ++ [x]) tok 41 7 o.length := fun x => hrow.more
  have hb2 : ∀ x y, (σ ++ [x, y])[id]? = some (.box (.agg (scC s a ln col (.slice z (o.map Em.tk.emb) tok) 0))) := fun x y => by rw [List.getElem?_append_left hl]; exact hb
  have hcat : ∀ x y, (σ ++ [x]) ++ [y] = σ ++ [x, y] := fun x y => by simp
  have tn : ((a : Int) + (n : Int)).toNat = a + n := by omega
  have hnr : (n : Int).toNat = n := Int.toNat_natCast n
  rw [hnr] at hT
  have stop : ∀ (τ : List SObj) (e : Int), T.2.2 = e → e ≠ 0 → TokenQ [.ptr id 0] σ (.tup []) (σ.set id (.box (.agg (scC s a ln col (.slice z (o.map Em.tk.emb) tok) e))) ++ τ) := fun τ e h1 h2 => hpost _ (by rw [if_pos (by rw [h1]; exact h2), h1]; exact (ScAt.set hb hz hrow a ln col e).more τ) (Kp.trans Kp.set Kp.more)
  by_cases hn0 : n = 0
  · rw [if_pos (by rw [hn0]; rfl)] at hT
    subst hT
    have hfin := fun τ => stop τ 15 rfl (by decide)
    subst hn0
    apply WpC.bodyL h0 Tryd.func38 rfl
    focus (simp [show Tryd.f38.ntmps = _ from rfl, List.replicate]; rfl)
    have gx := And.intro @hl (And.intro @hb (And.intro @hb' (And.intro @hb1 (And.intro @h2 (@le)))))
    refine goA ?_
    clear gx
    simp
    exact ⟨_, _, ⟨rfl, rfl⟩, hfin _⟩
  · have n1 : 0 < n := by omega
    have n1' : (0 : Int) < (n : Int) := by omega
    have n0' : ¬ (n : Int) = 0 := by omega
    rw [if_neg n0'] at hT
    have kk := lenM_kind r (by rw [hn]; exact n0')
    rw [hk] at kk
    rcases kk with rfl | rfl | rfl | rfl | rfl
    · by_cases hbig : 32 < n
      · have hbig' : 32 < (n : Int) := by omega
        rw [if_pos ⟨rfl, hbig'⟩] at hT
        subst hT
        have hfin := fun τ => stop τ 8 rfl (by decide)
        apply WpC.bodyL h0 Tryd.func38 rfl
        focus (simp [show Tryd.f38.ntmps = _ from rfl, List.replicate]; rfl)
        have gx := And.intro @hl (And.intro @hb (And.intro @hb' (And.intro @hb1 (And.intro @h2 (And.intro @le (And.intro @n1 (And.intro @n1' (And.intro @n0' (And.intro @hn0 (And.intro @hbig (And.intro @hbig' (And.intro @tn (@hr)))))))))))))
        refine goA ?_
        clear gx
        simp
        exact ⟨_, _, ⟨rfl, rfl⟩, hfin _⟩
      · have hbig' : ¬ 32 < (n : Int) := by omega
        rw [if_neg (fun h => hbig' h.2), if_neg (by decide), if_neg (by decide), if_neg (by decide)] at hT
        subst hT
        obtain ⟨σ3, z3, tok3, hp, ⟨hl3, hb3'⟩, hfin, hkp⟩ := put_at hU0 hp0 h ho [.box (.agg [.int .i64 1, .str (r.take n), .int .i64 0, .int .i64 0, .int .i64 0, .int .i64 ln, .int .i64 col])] ⟨1, r.take n, 0, (0, 0), ln, col⟩
        have hs3 : ∀ x, (σ3.set id x)[id]? = some x := fun x => List.getElem?_set_self hl3
        have hp1 := hpost _ (by rw [if_neg (by simp)]; exact hfin (a + n) (col + (n : Int))) (hkp _)
        simp only [List.map_append, List.map_cons, List.map_nil, emb_tk, scC, Int.natCast_add] at hp hp1 hb3'
        apply WpC.bodyL h0 Tryd.func38 rfl
        focus (simp [show Tryd.f38.ntmps = _ from rfl, List.replicate]; rfl)
        have gx := And.intro @hl (And.intro @hb (And.intro @hb' (And.intro @hb1 (And.intro @hb2 (And.intro @h1 (And.intro @h2 (And.intro @le (And.intro @n1 (And.intro @n1' (And.intro @n0' (And.intro @hn0 (And.intro @tn (And.intro @hr (And.intro @hnr (And.intro @hp (And.intro @hl3 (And.intro @hb3' (And.intro @hs3 (And.intro @hbig (@hbig'))))))))))))))))))))
        refine goA ?_
        clear gx
        simp
        exact ⟨_, _, ⟨rfl, rfl⟩, hp1⟩
    · rw [if_neg (by simp), if_pos rfl] at hT
      obtain ⟨d1, d2⟩ := lenM_num hk (by rw [hn]; exact n0')
      rw [hn, hnr] at d1 d2
      obtain ⟨w, hw⟩ : ∃ w, r.take n = w := ⟨_, rfl⟩
      rw [hw] at hT d1 d2
      have d2 : numOk w := d2
      have hwl : (w.length : Int) < 4000000000 := by
        rw [← hw, List.length_take]
        omega
      have hok := numM_ok d1
      have hbd := numM_bd w
      rcases numS_form w with ⟨e1, v, e2⟩ | ⟨e1, e2⟩
      · rw [if_pos e1, e2] at hok
        simp only at hok
        rw [e2] at hT
        subst hT
        rw [hok] at hbd
        have v1 : -9223372036854775808 ≤ v := by omega
        have v2 : v ≤ 9223372036854775807 := by omega
        obtain ⟨σ3, z3, tok3, hp, ⟨hl3, hb3'⟩, hfin, hkp⟩ := put_at hU0 hp0 h ho [.box (.agg [.int .i64 2, .str (Lib.itoa v), .int .i64 v, .int .i64 0, .int .i64 0, .int .i64 ln, .int .i64 col])] ⟨2, Lib.itoa v, v, (0, 0), ln, col⟩
        have hs3 : ∀ x, (σ3.set id x)[id]? = some x := fun x => List.getElem?_set_self hl3
        have hp1 := hpost _ (by rw [if_neg (by simp)]; exact hfin (a + n) (col + (n : Int))) (hkp _)
        simp only [List.map_append, List.map_cons, List.map_nil, emb_tk, scC, Int.natCast_add] at hp hp1 hb3'
        apply WpC.bodyL h0 Tryd.func38 rfl
        focus (simp [show Tryd.f38.ntmps = _ from rfl, List.replicate]; rfl)
        have gx := And.intro @hl (And.intro @hb (And.intro @hb' (And.intro @hb1 (And.intro @hb2 (And.intro @h1 (And.intro @h2 (And.intro @le (And.intro @n1 (And.intro @n1' (And.intro @n0' (And.intro @hn0 (And.intro @tn (And.intro @hr (And.intro @hnr (And.intro @hp (And.intro @hl3 (And.intro @hb3' (And.intro @hs3 (And.intro @hw (And.intro @h4 (And.intro @h5 (And.intro @d1 (And.intro @d2 (And.intro @hwl (And.intro @hok (And.intro @v1 (@v2)))))))))))))))))))))))))))
        refine goA ?_
        clear gx
        simp
        exact ⟨_, _, ⟨rfl, rfl⟩, hp1⟩
      · rw [if_neg (by rw [e1]; decide)] at hok
        rw [e2] at hT
        subst hT
        obtain ⟨v, hv⟩ : ∃ v, (numM w).1 = v := ⟨_, rfl⟩
        have hnm : numM w = (v, false) := Prod.ext hv hok
        rw [hv] at hbd
        have v1 : -9223372036854775808 ≤ v := by omega
        have v2 : v ≤ 9223372036854775807 := by omega
        have hfin := fun τ => stop τ 2 rfl (by decide)
        apply WpC.bodyL h0 Tryd.func38 rfl
        focus (simp [show Tryd.f38.ntmps = _ from rfl, List.replicate]; rfl)
        have gx := And.intro @hl (And.intro @hb (And.intro @hb' (And.intro @hb1 (And.intro @hb2 (And.intro @h1 (And.intro @h2 (And.intro @le (And.intro @n1 (And.intro @n1' (And.intro @n0' (And.intro @hn0 (And.intro @tn (And.intro @hr (And.intro @hnr (And.intro @hw (And.intro @h4 (And.intro @h5 (And.intro @d1 (And.intro @d2 (And.intro @hwl (And.intro @hnm (And.intro @v1 (@v2)))))))))))))))))))))))
        refine goA ?_
        clear gx
        simp
        exact ⟨_, _, ⟨rfl, rfl⟩, hfin _⟩
    · rw [if_neg (by simp), if_neg (by decide), if_pos rfl] at hT
      have fe := fun x => feet_at (hb1 x) ha hs
      rw [hr] at fe
      have hpn := lenM_feet hk
      rw [hn] at hpn
      have hdig := partsF_dig r
      have hiff := partsF_iff r
      obtain ⟨P, hP⟩ : ∃ P, (partsF r).2 = P := ⟨_, rfl⟩
      have hpF : partsF r = ((n : Int), P) := Prod.ext hpn.symm hP
      rw [hP] at hdig hiff hT
      rw [hpF] at fe
      obtain ⟨p0, p1, p2⟩ := P
      simp only at hdig hiff
      obtain ⟨d0, d1, d2, l0, l1, l2⟩ := hdig
      have l0' : (p0.length : Int) < 4000000000 := by omega
      have l1' : (p1.length : Int) < 4000000000 := by omega
      have l2' : (p2.length : Int) < 4000000000 := by omega
      rcases feetS_form (p0, p1, p2) with ⟨e1, tx, x, y, e2⟩ | ⟨e1, e2⟩
      · have hQ : quoM (p0, p1, p2) = ((x, y), tx, true) := by
          unfold quoM
          rw [if_pos e1, e2]
        rw [e2] at hT
        subst hT
        obtain ⟨σ3, z3, tok3, hp, ⟨hl3, hb3'⟩, hfin, hkp⟩ := put_at hU0 hp0 h ho [.box (.agg [.int .i64 3, .str (tx), .int .i64 0, .int .i64 x, .int .i64 y, .int .i64 ln, .int .i64 col]), .box (.agg [.str p0, .str p1, .str p2])] ⟨3, tx, 0, (x, y), ln, col⟩
        have hs3 : ∀ x, (σ3.set id x)[id]? = some x := fun x => List.getElem?_set_self hl3
        have hp1 := hpost _ (by rw [if_neg (by simp)]; exact hfin (a + n) (col + (n : Int))) (hkp _)
        simp only [List.map_append, List.map_cons, List.map_nil, emb_tk, scC, Int.natCast_add] at hp hp1 hb3'
        apply WpC.bodyL h0 Tryd.func38 rfl
        focus (simp [show Tryd.f38.ntmps = _ from rfl, List.replicate]; rfl)
        have gx := And.intro @hl (And.intro @hb (And.intro @hb' (And.intro @hb1 (And.intro @hb2 (And.intro @h1 (And.intro @h2 (And.intro @le (And.intro @n1 (And.intro @n1' (And.intro @n0' (And.intro @hn0 (And.intro @tn (And.intro @hr (And.intro @hnr (And.intro @hp (And.intro @hl3 (And.intro @hb3' (And.intro @hs3 (And.intro @h3 (And.intro @h6 (And.intro @fe (And.intro @d0 (And.intro @d1 (And.intro @d2 (And.intro @l0' (And.intro @l1' (And.intro @l2' (And.intro @hiff (And.intro @hQ (@hcat))))))))))))))))))))))))))))))
        refine goA ?_
        clear gx
        simp
        exact ⟨_, _, ⟨rfl, rfl⟩, hp1⟩
      · have hQ : quoM (p0, p1, p2) = ((0, 0), [], false) := by
          unfold quoM
          rw [if_neg (by rw [e1]; decide)]
        rw [e2] at hT
        subst hT
        have hfin := fun τ => stop τ 2 rfl (by decide)
        apply WpC.bodyL h0 Tryd.func38 rfl
        focus (simp [show Tryd.f38.ntmps = _ from rfl, List.replicate]; rfl)
        have gx := And.intro @hl (And.intro @hb (And.intro @hb' (And.intro @hb1 (And.intro @hb2 (And.intro @h1 (And.intro @h2 (And.intro @le (And.intro @n1 (And.intro @n1' (And.intro @n0' (And.intro @hn0 (And.intro @tn (And.intro @hr (And.intro @hnr (And.intro @h3 (And.intro @h6 (And.intro @fe (And.intro @d0 (And.intro @d1 (And.intro @d2 (And.intro @l0' (And.intro @l1' (And.intro @l2' (And.intro @hiff (And.intro @hQ (@hcat))))))))))))))))))))))))))
        refine goA ?_
        clear gx
        simp
        exact ⟨_, _, ⟨rfl, rfl⟩, hfin _⟩
    · rw [if_neg (by simp), if_neg (by decide), if_neg (by decide), if_pos rfl] at hT
      have hq := lenM_quote hk
      rw [hn] at hq
      obtain ⟨m, hm⟩ : ∃ m, n = m + 2 := ⟨n - 2, by omega⟩
      rw [show n - 2 = m by omega] at hT
      obtain ⟨X, hX⟩ : ∃ X, (r.drop 1).take m = X := ⟨_, rfl⟩
      have hdd : (s.drop (a + 1)).take m = X := by rw [← hX, ← hr, List.drop_drop]
      have t1 : ((a : Int) + 1).toNat = a + 1 := by omega
      have t2 : ((a : Int) + (n : Int) - 1).toNat = a + 1 + m := by omega
      rw [hX] at hT
      subst hT
      obtain ⟨σ3, z3, tok3, hp, ⟨hl3, hb3'⟩, hfin, hkp⟩ := put_at hU0 hp0 h ho [.box (.agg [.int .i64 4, .str (X), .int .i64 0, .int .i64 0, .int .i64 0, .int .i64 ln, .int .i64 col])] ⟨4, X, 0, (0, 0), ln, col⟩
      have hs3 : ∀ x, (σ3.set id x)[id]? = some x := fun x => List.getElem?_set_self hl3
      have hp1 := hpost _ (by rw [if_neg (by simp)]; exact hfin (a + n) (col + (n : Int))) (hkp _)
      simp only [List.map_append, List.map_cons, List.map_nil, emb_tk, scC, Int.natCast_add] at hp hp1 hb3'
      apply WpC.bodyL h0 Tryd.func38 rfl
      focus (simp [show Tryd.f38.ntmps = _ from rfl, List.replicate]; rfl)
      have gx := And.intro @hl (And.intro @hb (And.intro @hb' (And.intro @hb1 (And.intro @hb2 (And.intro @h1 (And.intro @h2 (And.intro @le (And.intro @n1 (And.intro @n1' (And.intro @n0' (And.intro @hn0 (And.intro @tn (And.intro @hr (And.intro @hnr (And.intro @hp (And.intro @hl3 (And.intro @hb3' (And.intro @hs3 (And.intro @hdd (And.intro @t1 (@t2)))))))))))))))))))))
      refine goA ?_
      clear gx
      simp
      exact ⟨_, _, ⟨rfl, rfl⟩, hp1⟩
    · rw [if_neg (by simp), if_neg (by decide), if_neg (by decide), if_neg (by decide)] at hT
      subst hT
      obtain ⟨σ3, z3, tok3, hp, ⟨hl3, hb3'⟩, hfin, hkp⟩ := put_at hU0 hp0 h ho [.box (.agg [.int .i64 5, .str (r.take n), .int .i64 0, .int .i64 0, .int .i64 0, .int .i64 ln, .int .i64 col])] ⟨5, r.take n, 0, (0, 0), ln, col⟩
      have hs3 : ∀ x, (σ3.set id x)[id]? = some x := fun x => List.getElem?_set_self hl3
      have hp1 := hpost _ (by rw [if_neg (by simp)]; exact hfin (a + n) (col + (n : Int))) (hkp _)
      simp only [List.map_append, List.map_cons, List.map_nil, emb_tk, scC, Int.natCast_add] at hp hp1 hb3'
      apply WpC.bodyL h0 Tryd.func38 rfl
      focus (simp [show Tryd.f38.ntmps = _ from rfl, List.replicate]; rfl)
      have gx := And.intro @hl (And.intro @hb (And.intro @hb' (And.intro @hb1 (And.intro @hb2 (And.intro @h1 (And.intro @h2 (And.intro @le (And.intro @n1 (And.intro @n1' (And.intro @n0' (And.intro @hn0 (And.intro @tn (And.intro @hr (And.intro @hnr (And.intro @hp (And.intro @hl3 (And.intro @hb3' (@hs3))))))))))))))))))
      refine goA ?_
      clear gx
      simp
      exact ⟨_, _, ⟨rfl, rfl⟩, hp1⟩
end Go.Kz

/-
  Layer 19: the model's scan.
-/
namespace Go.Kz
open Go Go.Proofs

theorem tokM_pos {r : List UInt8} (h : (tokM r).2.2 = 0) : 1 ≤ (tokM r).2.1 ∧ (tokM r).2.1 ≤ r.length := by
  obtain ⟨b1, b2⟩ := lenM_le r
  have key : (tokM r).2.1 = (lenM r).1 ∧ (lenM r).1 ≠ 0 := by
    revert h
    unfold tokM
    split
    · intro h; cases h
    · rename_i h0
      split
      · intro h; cases h
      · repeat' split
        all_goals intro _; exact ⟨rfl, h0⟩
  omega

variable {E : PExt} (hU : Uni E)
include hU
set_option maxRecDepth 10000
set_option maxHeartbeats 4000000

theorem r_scan {E1 E2 : PExt} (h0 : E 15 = none) (h1 : E 37 = some (qentry Tryd.prog E1 37 EndQ)) (h2 : E 38 = some (qentry Tryd.prog E2 38 TokenQ))
    (wE : ∀ {σ : List SObj} {id : Nat} {s : List UInt8} {a : Nat} {ln col f : Int} {o : List Tk}, ScAt σ id s a ln col o f → o.length < 20000 → WpC Tryd.prog E1 0 (.inl 37) [.ptr id 0] σ (EndQ [.ptr id 0] σ))
    (wT : ∀ {σ : List SObj} {id : Nat} {s : List UInt8} {a : Nat} {ln col : Int} {o : List Tk}, ScAt σ id s a ln col o 0 → o.length < 20000 → a ≤ s.length → s.length ≤ 50000 → 0 ≤ col → col ≤ 1000000 → WpC Tryd.prog E2 0 (.inl 38) [.ptr id 0] σ (TokenQ [.ptr id 0] σ))
    (s : List UInt8) (hs : s.length ≤ 10000) :
    Run Tryd.prog E 15 [.str s] ((tks.tup3 .pos i64).emb (scanM (s.length + 1) s 1 1 [])) := by
  obtain ⟨F, hF⟩ : ∃ F, scanM (s.length + 1) s 1 1 [] = F := ⟨_, rfl⟩
  rw [hF]
  apply Run.bodyL h0 Tryd.func15 rfl
  focus (simp [show Tryd.f15.ntmps = _ from rfl, List.replicate]; rfl)
  have gx := True.intro
  refine goA ?_
  clear gx
  refine Wp.loopI (fun m fr σ => ∃ (a fuel : Nat) (ln col f : Int) (o : List Tk) (σ1 : List SObj), ∃ gg : Nat → PD, (ScAt σ1 1 s a ln col o f ∧ σ1[0]? = some (.box (.agg [.int .i64 0, .int .i64 0])) ∧ a ≤ s.length ∧ o.length ≤ a ∧ 1 ≤ col ∧ col ≤ 1 + a ∧ 1 ≤ ln ∧ ln ≤ 1 + a ∧ ((f = 0 ∧ m = s.length - a + 1 ∧ s.length - a < fuel ∧ scanM fuel (s.drop a) ln col o = F) ∨ (f ≠ 0 ∧ m = 0 ∧ F = ([], (ln, col), f)))) ∧ fr = .str s :: gg 1 :: .slice 0 [] .full :: .ptr 0 0 :: .int .i64 0 :: .ptr 1 0 :: gg 6 :: gg 7 :: gg 8 :: gg 9 :: gg 10 :: gg 11 :: gg 12 :: gg 13 :: gg 14 :: gg 15 :: gg 16 :: gg 17 :: gg 18 :: gg 19 :: gg 20 :: gg 21 :: gg 22 :: gg 23 :: gg 24 :: gg 25 :: gg 26 :: gg 27 :: gg 28 :: gg 29 :: gg 30 :: gg 31 :: gg 32 :: gg 33 :: gg 34 :: gg 35 :: gg 36 :: gg 37 :: gg 38 :: gg 39 :: gg 40 :: gg 41 :: gg 42 :: gg 43 :: gg 44 :: gg 45 :: gg 46 :: gg 47 :: gg 48 :: gg 49 :: gg 50 :: gg 51 :: gg 52 :: gg 53 :: gg 54 :: gg 55 :: gg 56 :: gg 57 :: gg 58 :: gg 59 :: gg 60 :: gg 61 :: gg 62 :: gg 63 :: gg 64 :: gg 65 :: gg 66 :: gg 67 :: gg 68 :: gg 69 :: gg 70 :: gg 71 :: gg 72 :: gg 73 :: gg 74 :: gg 75 :: gg 76 :: gg 77 :: gg 78 :: gg 79 :: gg 80 :: gg 81 :: gg 82 :: gg 83 :: gg 84 :: gg 85 :: gg 86 :: gg 87 :: gg 88 :: gg 89 :: gg 90 :: gg 91 :: gg 92 :: gg 93 :: gg 94 :: gg 95 :: gg 96 :: gg 97 :: gg 98 :: gg 99 :: gg 100 :: gg 101 :: gg 102 :: gg 103 :: gg 104 :: gg 105 :: gg 106 :: gg 107 :: gg 108 :: gg 109 :: gg 110 :: gg 111 :: gg 112 :: gg 113 :: gg 114 :: gg 115 :: gg 116 :: gg 117 :: gg 118 :: gg 119 :: gg 120 :: gg 121 :: gg 122 :: gg 123 :: gg 124 :: gg 125 :: gg 126 :: gg 127 :: gg 128 :: gg 129 :: gg 130 :: gg 131 :: gg 132 :: gg 133 :: gg 134 :: gg 135 :: gg 136 :: gg 137 :: gg 138 :: gg 139 :: gg 140 :: gg 141 :: gg 142 :: gg 143 :: gg 144 :: gg 145 :: gg 146 :: gg 147 :: gg 148 :: [] ∧ σ = σ1) ?_ (s.length + 1) (by refine ⟨0, s.length + 1, 1, 1, 0, [], [SObj.box (.agg [.int .i64 0, .int .i64 0]), .box (.agg [.str s, .int .i64 0, .int .i64 1, .int .i64 1, .slice 0 [] .full, .int .i64 0])], ?_⟩; exact exF (⟨⟨⟨0, .full, rfl, .inl rfl, .inl ⟨rfl, rfl⟩⟩⟩, rfl, by omega, by simp, by omega, by omega, by omega, by omega, .inl ⟨rfl, by omega, by omega, by simpa using hF⟩⟩) (by (first | rfl | (simp []; repeat (first | rfl | (apply And.intro))) | (simp []; done))) (by (first | rfl | (simp []; repeat (first | rfl | (apply And.intro))) | (simp []; done))))
  rintro m fr σ ⟨a, fuel, ln, col, f, o, σ1, gg, hI, rfl, rfl⟩
  obtain ⟨hsc, hp0, hal, hol, hc1, hc2, hn1, hn2, hcase⟩ := hI
  obtain ⟨z, tok, hb, hz, hrow⟩ := hsc.ex
  have hl : 1 < σ.length := (List.getElem?_eq_some_iff.1 hb).1
  have hl0 : 0 < σ.length := by omega
  have hb' : σ[1] = .box (.agg (scC s a ln col (.slice z (o.map Em.tk.emb) tok) f)) := by rw [List.getElem?_eq_getElem hl] at hb; simpa using hb
  have hp0' : σ[0] = .box (.agg [.int .i64 0, .int .i64 0]) := by rw [List.getElem?_eq_getElem hl0] at hp0; simpa using hp0
  rcases hcase with ⟨rfl, hm, hfu, hscan⟩ | ⟨hf0, hm, hFe⟩
  · obtain ⟨g, rfl⟩ : ∃ g, fuel = g + 1 := ⟨fuel - 1, by omega⟩
    obtain ⟨r, hr⟩ : ∃ r, s.drop a = r := ⟨_, rfl⟩
    have hrl := congrArg List.length hr
    rw [List.length_drop] at hrl
    rw [hr, scanM_succ] at hscan
    by_cases hlt : a < s.length
    · have q1 : (a : Int) < (s.length : Int) := by omega
      have hr0 : ¬ r = [] := fun e => by rw [e] at hrl; simp at hrl; omega
      have hrp : 0 < r.length := by omega
      have hpk : pk r 0 = s[a].toNat := by
        rw [pk_at hrp]
        have : r[0] = s[a] := by simp [← hr]
        rw [this]
      have hdrop : ∀ k, s.drop (a + k) = r.drop k := fun k => by rw [← hr, List.drop_drop]
      rw [if_neg hr0] at hscan
      have hset : ∀ x, (σ.set 1 x)[1]? = some x := fun x => List.getElem?_set_self hl
      have hset0 : ∀ x, (σ.set 1 x)[0]? = some (.box (.agg [.int .i64 0, .int .i64 0])) := fun x => by rw [List.getElem?_set_ne (by decide)]; exact hp0
      by_cases c1 : pk r 0 = 10
      · rw [if_pos c1] at hscan
        have c1' : (s[a].toNat : Int) = 10 := by omega
        obtain ⟨p3, σ3, hp, hQ⟩ := qentry_of (wE hsc (by omega))
        obtain ⟨rfl, hQ2, hQ3⟩ := hQ.2 _ _ _ _ _ _ _ rfl hsc
        obtain ⟨z3, tok3, hb3, hz3, hrow3⟩ := hQ2.ex
        have hl3 := (List.getElem?_eq_some_iff.1 hb3).1
        have hb3' : σ3[1] = .box (.agg (scC s a ln col (.slice z3 ((endM o ln col).map Em.tk.emb) tok3) 0)) := by rw [List.getElem?_eq_getElem hl3] at hb3; simpa using hb3
        have hs3 : ∀ x, (σ3.set 1 x)[1]? = some x := fun x => List.getElem?_set_self hl3
        have h03 := hQ3 0 _ (by decide) hp0
        have hel : (endM o ln col).length ≤ o.length + 1 := by
          unfold endM
          split
          · split
            · simp
            · omega
          · omega
        have hsn := ScAt.set hb3 hz3 hrow3 (a + 1) (ln + 1) 1 0
        have gx := And.intro @q1 (And.intro @hlt (And.intro @hl (And.intro @hb (And.intro @hb' (And.intro @h1 (And.intro @hp (And.intro @c1' (And.intro @hl3 (And.intro @hb3 (And.intro @hb3' (@hs3)))))))))))
        refine goA ?_
        clear gx
        refine LoopI.normal (m - 1) (by omega) ⟨a + 1, g, ln + 1, 1, 0, endM o ln col, _, exF (⟨hsn, by rw [List.getElem?_set_ne (by decide)]; exact h03, by omega, by omega, by omega, by omega, by omega, by omega, .inl ⟨rfl, by omega, by omega, by rw [hdrop]; exact hscan⟩⟩) (by (first | rfl | (simp []; repeat (first | rfl | (apply And.intro))) | (simp []; done))) (by (first | rfl | (simp []; repeat (first | rfl | (apply And.intro))) | (simp []; done)))⟩
      · rw [if_neg c1] at hscan
        have c1' : ¬ (s[a].toNat : Int) = 10 := by omega
        by_cases c2 : pk r 0 = 32 ∨ pk r 0 = 9
        · rw [if_pos c2] at hscan
          have hsn := ScAt.set hb hz hrow (a + 1) ln (col + 1) 0
          by_cases c3 : pk r 0 = 32
          · have c3' : (s[a].toNat : Int) = 32 := by omega
            have gx := And.intro @q1 (And.intro @hlt (And.intro @hl (And.intro @hb (And.intro @hb' (And.intro @c1' (And.intro @c3' (@hset)))))))
            refine goA ?_
            clear gx
            refine LoopI.normal (m - 1) (by omega) ⟨a + 1, g, ln, col + 1, 0, o, _, exF (⟨hsn, hset0 _, by omega, by omega, by omega, by omega, by omega, by omega, .inl ⟨rfl, by omega, by omega, by rw [hdrop]; exact hscan⟩⟩) (by (first | rfl | (simp []; repeat (first | rfl | (apply And.intro))) | (simp []; done))) (by (first | rfl | (simp []; repeat (first | rfl | (apply And.intro))) | (simp []; done)))⟩
          · have c3' : ¬ (s[a].toNat : Int) = 32 := by omega
            have c4' : (s[a].toNat : Int) = 9 := by omega
            have gx := And.intro @q1 (And.intro @hlt (And.intro @hl (And.intro @hb (And.intro @hb' (And.intro @c1' (And.intro @c3' (And.intro @c4' (@hset))))))))
            refine goA ?_
            clear gx
            refine LoopI.normal (m - 1) (by omega) ⟨a + 1, g, ln, col + 1, 0, o, _, exF (⟨hsn, hset0 _, by omega, by omega, by omega, by omega, by omega, by omega, .inl ⟨rfl, by omega, by omega, by rw [hdrop]; exact hscan⟩⟩) (by (first | rfl | (simp []; repeat (first | rfl | (apply And.intro))) | (simp []; done))) (by (first | rfl | (simp []; repeat (first | rfl | (apply And.intro))) | (simp []; done)))⟩
        · rw [if_neg c2] at hscan
          have c3' : ¬ (s[a].toNat : Int) = 32 := by omega
          have c4' : ¬ (s[a].toNat : Int) = 9 := by omega
          by_cases c5 : pk r 0 = 37
          · rw [if_pos c5] at hscan
            have c5' : (s[a].toNat : Int) = 37 := by omega
            obtain ⟨K, hK⟩ : ∃ K, spanN notNL r = K := ⟨_, rfl⟩
            have hKl := spanN_le notNL r
            have hK1 := spanN_pos (p := notNL) hrp (by rw [c5]; decide)
            rw [hK] at hKl hK1 hscan
            obtain ⟨M, hM⟩ : ∃ M, M = m := ⟨_, rfl⟩
            have gx := And.intro @q1 (And.intro @hlt (And.intro @hl (And.intro @hb (And.intro @hb' (And.intro @c1' (And.intro @c3' (And.intro @c4' (And.intro @c5' (@hset)))))))))
            refine goA ?_
            clear gx
            refine Wp.loopI (fun m fr σ => ∃ (i A : Nat) (C : Int) (σ2 : List SObj), ∃ gg : Nat → PD, (i + m = K ∧ A = a + i ∧ C = col + (i : Int) ∧ ScAt σ2 1 s A ln C o 0 ∧ σ2[0]? = some (.box (.agg [.int .i64 0, .int .i64 0]))) ∧ fr = .str s :: gg 1 :: .slice 0 [] .full :: .ptr 0 0 :: .int .i64 0 :: .ptr 1 0 :: gg 6 :: gg 7 :: gg 8 :: gg 9 :: gg 10 :: gg 11 :: gg 12 :: gg 13 :: gg 14 :: gg 15 :: gg 16 :: gg 17 :: gg 18 :: gg 19 :: gg 20 :: gg 21 :: gg 22 :: gg 23 :: gg 24 :: gg 25 :: gg 26 :: gg 27 :: gg 28 :: gg 29 :: gg 30 :: gg 31 :: gg 32 :: gg 33 :: gg 34 :: gg 35 :: gg 36 :: gg 37 :: gg 38 :: gg 39 :: gg 40 :: gg 41 :: gg 42 :: gg 43 :: gg 44 :: gg 45 :: gg 46 :: gg 47 :: gg 48 :: gg 49 :: gg 50 :: gg 51 :: gg 52 :: gg 53 :: gg 54 :: gg 55 :: gg 56 :: gg 57 :: gg 58 :: gg 59 :: gg 60 :: gg 61 :: gg 62 :: gg 63 :: gg 64 :: gg 65 :: gg 66 :: gg 67 :: gg 68 :: gg 69 :: gg 70 :: gg 71 :: gg 72 :: gg 73 :: gg 74 :: gg 75 :: gg 76 :: gg 77 :: gg 78 :: gg 79 :: gg 80 :: gg 81 :: gg 82 :: gg 83 :: gg 84 :: gg 85 :: gg 86 :: gg 87 :: gg 88 :: gg 89 :: gg 90 :: gg 91 :: gg 92 :: gg 93 :: gg 94 :: gg 95 :: gg 96 :: gg 97 :: gg 98 :: gg 99 :: gg 100 :: gg 101 :: gg 102 :: gg 103 :: gg 104 :: gg 105 :: gg 106 :: gg 107 :: gg 108 :: gg 109 :: gg 110 :: gg 111 :: gg 112 :: gg 113 :: gg 114 :: gg 115 :: gg 116 :: gg 117 :: gg 118 :: gg 119 :: gg 120 :: gg 121 :: gg 122 :: gg 123 :: gg 124 :: gg 125 :: gg 126 :: gg 127 :: gg 128 :: gg 129 :: gg 130 :: gg 131 :: gg 132 :: gg 133 :: gg 134 :: gg 135 :: gg 136 :: gg 137 :: gg 138 :: gg 139 :: gg 140 :: gg 141 :: gg 142 :: gg 143 :: gg 144 :: gg 145 :: gg 146 :: gg 147 :: gg 148 :: [] ∧ σ = σ2) ?_ (K) (by refine ⟨0, a, col, σ, ?_⟩; exact exF (⟨by omega, by omega, by omega, hsc, hp0⟩) (by (first | rfl | (simp []; repeat (first | rfl | (apply And.intro))) | (simp []; done))) (by (first | rfl | (simp []; repeat (first | rfl | (apply And.intro))) | (simp []; done))))
            rintro m fr σ ⟨i, A, C, σ2, gg, hI, rfl, rfl⟩
            obtain ⟨hm2, hA, hC, hsc2, hp2⟩ := hI
            obtain ⟨z2, tok2, hb2, hz2, hrow2⟩ := hsc2.ex
            have hl2 : 1 < σ.length := (List.getElem?_eq_some_iff.1 hb2).1
            have hb2' : σ[1] = .box (.agg (scC s A ln C (.slice z2 (o.map Em.tk.emb) tok2) 0)) := by rw [List.getElem?_eq_getElem hl2] at hb2; simpa using hb2
            have hs2 : ∀ x, (σ.set 1 x)[1]? = some x := fun x => List.getElem?_set_self hl2
            have hs20 : ∀ x, (σ.set 1 x)[0]? = some (.box (.agg [.int .i64 0, .int .i64 0])) := fun x => by rw [List.getElem?_set_ne (by decide)]; exact hp2
            by_cases hAl : A < s.length
            · have q2 : (A : Int) < (s.length : Int) := by omega
              have hiR : i < r.length := by omega
              have hel : r[i] = s[A] := by simp [← hr, hA]
              have hat := spanN_at notNL r i (by rw [hK]; omega) hiR
              rw [hK, hel] at hat
              by_cases hiK : i < K
              · have e1 : ¬ (s[A].toNat : Int) = 10 := by
                  have : notNL (s[A].toNat : Int) = true := by rw [← hat]; exact hiK
                  simpa [notNL] using this
                have hsn := ScAt.set hb2 hz2 hrow2 (A + 1) ln (C + 1) 0
                have gx := And.intro @q2 (And.intro @hAl (And.intro @hl2 (And.intro @hb2 (And.intro @hb2' (And.intro @e1 (@hs2))))))
                refine goA ?_
                clear gx
                refine LoopI.normal (m - 1) (by omega) ⟨i + 1, A + 1, C + 1, _, exF (⟨by omega, by omega, by omega, hsn, hs20 _⟩) (by (first | rfl | (simp []; repeat (first | rfl | (apply And.intro))) | (simp []; done))) (by (first | rfl | (simp []; repeat (first | rfl | (apply And.intro))) | (simp []; done)))⟩
              · have e1 : (s[A].toNat : Int) = 10 := by
                  have : ¬ notNL (s[A].toNat : Int) = true := by rw [← hat]; exact hiK
                  simpa [notNL] using this
                have hiE : i = K := by omega
                subst hiE
                have gx := And.intro @q2 (And.intro @hAl (And.intro @hl2 (And.intro @hb2 (And.intro @hb2' (And.intro @e1 (@hs2))))))
                refine goA ?_
                clear gx
                refine LoopI.normal (s.length - A + 1) (by omega) ⟨A, g, ln, C, 0, o, _, exF (⟨hsc2, hp2, by omega, by omega, by omega, by omega, by omega, by omega, .inl ⟨rfl, by omega, by omega, by rw [hA, hC, hdrop]; exact hscan⟩⟩) (by (first | rfl | (simp []; repeat (first | rfl | (apply And.intro))) | (simp []; done))) (by (first | rfl | (simp []; repeat (first | rfl | (apply And.intro))) | (simp []; done)))⟩
            · have q2 : ¬ (A : Int) < (s.length : Int) := by omega
              have hiE : i = K := by omega
              subst hiE
              have gx := And.intro @q2 (And.intro @hAl (And.intro @hl2 (And.intro @hb2 (And.intro @hb2' (@hs2)))))
              refine goA ?_
              clear gx
              refine LoopI.normal (s.length - A + 1) (by omega) ⟨A, g, ln, C, 0, o, _, exF (⟨hsc2, hp2, by omega, by omega, by omega, by omega, by omega, by omega, .inl ⟨rfl, by omega, by omega, by rw [hA, hC, hdrop]; exact hscan⟩⟩) (by (first | rfl | (simp []; repeat (first | rfl | (apply And.intro))) | (simp []; done))) (by (first | rfl | (simp []; repeat (first | rfl | (apply And.intro))) | (simp []; done)))⟩
          · rw [if_neg c5] at hscan
            have c5' : ¬ (s[a].toNat : Int) = 37 := by omega
            obtain ⟨p3, σ3, hp, hQ⟩ := qentry_of (wT hsc (by omega) (by omega) (by omega) (by omega) (by omega))
            obtain ⟨rfl, hQ3, hQ2⟩ := hQ.2 _ _ _ _ _ _ rfl hsc
            have h03 := hQ3 0 _ (by decide) hp0
            rw [hr] at hQ2
            by_cases he : (tokM r).2.2 ≠ 0
            · rw [if_pos he] at hscan hQ2
              have gx := And.intro @q1 (And.intro @hlt (And.intro @hl (And.intro @hb (And.intro @hb' (And.intro @h2 (And.intro @hp (And.intro @c1' (And.intro @c3' (And.intro @c4' (@c5'))))))))))
              refine goA ?_
              clear gx
              refine LoopI.normal (0) (by omega) (by refine ⟨a, g, ln, col, (tokM r).2.2, o, σ3, ?_⟩; exact exF (⟨hQ2, h03, by omega, by omega, by omega, by omega, by omega, by omega, .inr ⟨he, rfl, hscan.symm⟩⟩) (by (first | rfl | (simp []; repeat (first | rfl | (apply And.intro))) | (simp []; done))) (by (first | rfl | (simp []; repeat (first | rfl | (apply And.intro))) | (simp []; done))))
            · rw [if_neg he] at hscan hQ2
              simp only [ne_eq, Decidable.not_not] at he
              obtain ⟨n1, n2⟩ := tokM_pos he
              obtain ⟨k, hk⟩ : ∃ k : Nat, (tokM r).2.1 = k := ⟨(tokM r).2.1.toNat, by omega⟩
              rw [hk] at n1 n2 hscan hQ2
              rw [Int.toNat_natCast] at hscan hQ2
              have hlen1 : (o ++ [(tokM r).1.place ln col]).length = o.length + 1 := by simp
              have gx := And.intro @q1 (And.intro @hlt (And.intro @hl (And.intro @hb (And.intro @hb' (And.intro @h2 (And.intro @hp (And.intro @c1' (And.intro @c3' (And.intro @c4' (@c5'))))))))))
              refine goA ?_
              clear gx
              refine LoopI.normal (s.length - (a + k) + 1) (by omega) (by refine ⟨a + k, g, ln, col + (k : Int), 0, o ++ [(tokM r).1.place ln col], σ3, ?_⟩; exact exF (⟨hQ2, h03, by omega, by omega, by omega, by omega, by omega, by omega, .inl ⟨rfl, by omega, by omega, by rw [hdrop]; exact hscan⟩⟩) (by (first | rfl | (simp []; repeat (first | rfl | (apply And.intro))) | (simp []; done))) (by (first | rfl | (simp []; repeat (first | rfl | (apply And.intro))) | (simp []; done))))
    · have q1 : ¬ (a : Int) < (s.length : Int) := by omega
      have hr0 : r = [] := List.eq_nil_of_length_eq_zero (by omega)
      rw [if_pos hr0] at hscan
      obtain ⟨p3, σ3, hp, hQ⟩ := qentry_of (wE hsc (by omega))
      obtain ⟨rfl, hQ2, hQ3⟩ := hQ.2 _ _ _ _ _ _ _ rfl hsc
      obtain ⟨z3, tok3, hb3, hz3, hrow3⟩ := hQ2.ex
      have hl3 := (List.getElem?_eq_some_iff.1 hb3).1
      have hb3' : σ3[1] = .box (.agg (scC s a ln col (.slice z3 ((endM o ln col).map Em.tk.emb) tok3) 0)) := by rw [List.getElem?_eq_getElem hl3] at hb3; simpa using hb3
      have h03 := hQ3 0 _ (by decide) hp0
      have hl30 : 0 < σ3.length := by omega
      have h03' : σ3[0] = .box (.agg [.int .i64 0, .int .i64 0]) := by rw [List.getElem?_eq_getElem hl30] at h03; simpa using h03
      have hs30 : ∀ x, (σ3.set 0 x)[0]? = some x := fun x => List.getElem?_set_self hl30
      generalize endM o ln col = O at *
      subst hscan
      have gx := And.intro @q1 (And.intro @hl (And.intro @hb (And.intro @hb' (And.intro @h1 (And.intro @hp (And.intro @hl3 (And.intro @hb3 (And.intro @hb3' (And.intro @hl30 (And.intro @h03 (And.intro @h03' (@hs30))))))))))))
      refine goA ?_
      clear gx
      simp (disch := first | omega | (simp; done) | (simp; omega)) [decide_eq_decide, sz_of hz3, hs30, hl30] <;> try rfl
  · have hs0 : ∀ x, (σ.set 0 x)[0]? = some x := fun x => List.getElem?_set_self hl0
    have q1 : f ≠ 0 := hf0
    by_cases hlt : (a : Int) < (s.length : Int)
    · have gx := And.intro @hlt (And.intro @hl (And.intro @hb (And.intro @hb' (And.intro @hf0 (And.intro @hl0 (And.intro @hp0 (And.intro @hp0' (@hs0))))))))
      refine goA ?_
      clear gx
      apply Wp.drawB2 hU [(5, 1), (3, 0)] [(some 1, some 0)] (by decide +kernel) ⟨⟨0, rfl⟩, ⟨0, rfl⟩, trivial⟩ (by kernel_rfl) ⟨by omega, trivial⟩
      have gx := And.intro @hlt (And.intro @hl (And.intro @hb (And.intro @hb' (And.intro @hf0 (And.intro @hl0 (And.intro @hp0 (And.intro @hp0' (@hs0))))))))
      refine goA ?_
      clear gx
      simp (disch := first | omega | (simp; done) | (simp; omega)) [decide_eq_decide, hFe, hs0, hl0] <;> try rfl
    · have gx := And.intro @hlt (And.intro @hl (And.intro @hb (And.intro @hb' (And.intro @hf0 (And.intro @hl0 (And.intro @hp0 (And.intro @hp0' (@hs0))))))))
      refine goA ?_
      clear gx
      apply Wp.drawB2 hU [(5, 1), (3, 0)] [(some 1, some 0)] (by decide +kernel) ⟨⟨0, rfl⟩, ⟨0, rfl⟩, trivial⟩ (by kernel_rfl) ⟨by omega, trivial⟩
      have gx := And.intro @hlt (And.intro @hl (And.intro @hb (And.intro @hb' (And.intro @hf0 (And.intro @hl0 (And.intro @hp0 (And.intro @hp0' (@hs0))))))))
      refine goA ?_
      clear gx
      simp (disch := first | omega | (simp; done) | (simp; omega)) [decide_eq_decide, hFe, hs0, hl0] <;> try rfl
end Go.Kz

/-
  The table of the model's functions.
-/
namespace Go.Kz
open Go Go.Proofs
set_option maxRecDepth 10000

theorem scanL_len : ∀ (L : List (List UInt8)) (ln : Int) (out : List Tk), out.length ≤ 20000 → (scanL L ln out).1.length ≤ 20000
  | [], _, _, h => h
  | l :: L, ln, out, h => by
    have hl := lineS_len (l.length + 1) l ln 1 out h
    unfold scanL
    split
    · simp
    · split
      · exact scanL_len L _ _ h
      · split
        · simp
        · exact scanL_len L _ _ (by rw [List.length_append, List.length_singleton]; omega)
theorem scanS_len (s : List UInt8) : (scanS s).1.length ≤ 20000 := by
  unfold scanS
  split
  · simp
  · exact scanL_len _ _ _ (by simp)

theorem peek_ok {E : PExt} (hU : Uni E) (hE : ExtOk Tryd.prog E) (h0 : E 72 = none) : ExtOk Tryd.prog (E.add 72 (rentry gPeek)) := hE.addRead follows fun args p hg => by
  unfold gPeek at hg
  split at hg
  · rename_i s a ln col o f b
    obtain ⟨⟨h1, h2, h3, h4, h5⟩, hg⟩ := gif_some hg
    simp only [Option.some.injEq] at hg
    subst hg
    obtain ⟨a', rfl⟩ : ∃ a' : Nat, a = a' := ⟨a.toNat, by omega⟩
    obtain ⟨b', rfl⟩ : ∃ b' : Nat, b = b' := ⟨b.toNat, by omega⟩
    rw [Int.toNat_natCast, Int.toNat_natCast]
    exact ⟨r_peek hU h0 s a' b' ln col f o (by omega) (by omega), by simp [PD.idfreeL, PD.idfree, h5], rfl⟩
  · cases hg
theorem digits_ok {E : PExt} (hU : Uni E) (hE : ExtOk Tryd.prog E) (h0 : E 75 = none) (h1 : E 72 = some (rentry gPeek)) (h2 : E 74 = some (entry (gf1 u8 .bool fun n => some (digN n)))) :
    ExtOk Tryd.prog (E.add 75 (rentry gDigits)) := hE.addRead follows fun args p hg => by
  unfold gDigits at hg
  split at hg
  · rename_i s a ln col o f b
    obtain ⟨⟨g1, g2, g3, g4, g5, g6⟩, hg⟩ := gif_some hg
    simp only [Option.some.injEq] at hg
    subst hg
    obtain ⟨a', rfl⟩ : ∃ a' : Nat, a = a' := ⟨a.toNat, by omega⟩
    obtain ⟨b', rfl⟩ : ∃ b' : Nat, b = b' := ⟨b.toNat, by omega⟩
    rw [Int.toNat_natCast, Int.toNat_natCast]
    exact ⟨r_digits hU h0 h1 h2 s a' b' ln col f o g6 (by omega) (by omega) g5, by simp [PD.idfreeL, PD.idfree, g6], rfl⟩
  · cases hg
theorem feet_ok' {E : PExt} (hU : Uni E) (hE : ExtOk Tryd.prog E) (h0 : E 61 = none) (h1 : E 72 = some (rentry gPeek)) (h2 : E 75 = some (rentry gDigits)) :
    ExtOk Tryd.prog (E.add 61 (rentry gFeet)) := hE.addRead follows fun args p hg => by
  unfold gFeet at hg
  split at hg
  · rename_i s a ln col o f
    obtain ⟨⟨g1, g2, g3, g4⟩, hg⟩ := gif_some hg
    simp only [Option.some.injEq] at hg
    subst hg
    obtain ⟨a', rfl⟩ : ∃ a' : Nat, a = a' := ⟨a.toNat, by omega⟩
    rw [Int.toNat_natCast]
    exact ⟨r_feetM hU h0 h1 h2 s a' ln col f o g4 (by omega) g3, by simp [PD.idfreeL, PD.idfree, g4], rfl⟩
  · cases hg
theorem length_ok {E : PExt} (hU : Uni E) (hE : ExtOk Tryd.prog E) (h0 : E 58 = none) (h1 : E 72 = some (rentry gPeek)) (h2 : E 75 = some (rentry gDigits)) (h3 : E 61 = some (rentry gFeet))
    (h4 : E 73 = some (entry (gf1 u8 .bool fun n => some (letN n)))) (h5 : E 74 = some (entry (gf1 u8 .bool fun n => some (digN n)))) :
    ExtOk Tryd.prog (E.add 58 (rentry gLen)) := hE.addRead follows fun args p hg => by
  unfold gLen at hg
  split at hg
  · rename_i s a ln col o f
    obtain ⟨⟨g1, g2, g3, g4⟩, hg⟩ := gif_some hg
    simp only [Option.some.injEq] at hg
    subst hg
    obtain ⟨a', rfl⟩ : ∃ a' : Nat, a = a' := ⟨a.toNat, by omega⟩
    rw [Int.toNat_natCast]
    exact ⟨r_length hU h0 h1 h2 h3 h4 h5 s a' ln col f o g4 (by omega) g3, by simp [PD.idfreeL, PD.idfree, g4], rfl⟩
  · cases hg
theorem r_gcdMI {E : PExt} (hU : Uni E) (h0 : E 78 = none) {x y : Int} (h : 0 ≤ x ∧ x ≤ 9223372036854775807 ∧ 0 ≤ y ∧ y ≤ 9223372036854775807) : Run Tryd.prog E 78 [i64.emb x, i64.emb y] (i64.emb ((x.toNat.gcd y.toNat : Nat) : Int)) := by
  obtain ⟨a, rfl⟩ : ∃ a : Nat, x = a := ⟨x.toNat, by omega⟩
  obtain ⟨b, rfl⟩ : ∃ b : Nat, y = b := ⟨y.toNat, by omega⟩
  exact r_gcdM hU h0 a b (by omega) (by omega)
theorem r_CheckI {E : PExt} (hU : Uni E) (h0 : E 79 = none) (h1 : E 84 = some (entry (gf1 i64 u64 fun n => gif (0 ≤ n ∧ n ≤ 9223372036854775807) (some n))))
    (h2 : E 85 = some (entry (gf2 u64 u64 u64 fun a b => gif (0 ≤ a ∧ a ≤ 9223372036854775807 ∧ 0 ≤ b ∧ b ≤ 9223372036854775807) (some (a.toNat.gcd b.toNat : Nat)))))
    {x : Frac} (h : 0 ≤ x.1 ∧ x.1 ≤ 9000000000000000000 ∧ 0 ≤ x.2 ∧ x.2 ≤ 9000000000000000000) : Run Tryd.prog E 79 [Em.frac.emb x] (i64.emb (checkF x.1.toNat x.2.toNat)) := by
  obtain ⟨x, y⟩ := x
  simp only at h
  obtain ⟨a, rfl⟩ : ∃ a : Nat, x = a := ⟨x.toNat, by omega⟩
  obtain ⟨b, rfl⟩ : ∃ b : Nat, y = b := ⟨y.toNat, by omega⟩
  exact r_Check hU h0 h1 h2 a b (by omega) (by omega)

noncomputable def Ed1 : PExt := Ec4.add 73 (entry (gf1 u8 .bool fun n => some (letN n)))
theorem Ed1_uni : Uni Ed1 := Ec4_uni.entry
theorem Ed1_ok : ExtOk Tryd.prog Ed1 := Ec4_ok.add1 follows (fun x z hz => by simp only [Option.some.injEq] at hz; subst hz; exact r_letter' Ec4_uni rfl x)
noncomputable def Ed2 : PExt := Ed1.add 74 (entry (gf1 u8 .bool fun n => some (digN n)))
theorem Ed2_uni : Uni Ed2 := Ed1_uni.entry
theorem Ed2_ok : ExtOk Tryd.prog Ed2 := Ed1_ok.add1 follows (fun x z hz => by simp only [Option.some.injEq] at hz; subst hz; exact r_digit' Ed1_uni rfl x)
noncomputable def Ed3 : PExt := Ed2.add 76 (entry (gf2 .text i64 i64 fun s m => gif (allDig s ∧ 0 ≤ m ∧ m ≤ 2000000000 ∧ (s.length : Int) < 4000000000) (some (valR s m))))
theorem Ed3_uni : Uni Ed3 := Ed2_uni.entry
theorem Ed3_ok : ExtOk Tryd.prog Ed3 := Ed2_ok.add2 follows (fun x y z hz => by obtain ⟨hg, hz⟩ := gif_some hz; simp only [Option.some.injEq] at hz; subst hz; exact r_valueR Ed2_uni rfl x y hg.1 hg.2.1 hg.2.2.1 hg.2.2.2)
noncomputable def Ed4 : PExt := Ed3.add 78 (entry (gf2 i64 i64 i64 fun a b => gif (0 ≤ a ∧ a ≤ 9223372036854775807 ∧ 0 ≤ b ∧ b ≤ 9223372036854775807) (some (a.toNat.gcd b.toNat : Nat))))
theorem Ed4_uni : Uni Ed4 := Ed3_uni.entry
theorem Ed4_ok : ExtOk Tryd.prog Ed4 := Ed3_ok.add2 follows (fun x y z hz => by obtain ⟨hg, hz⟩ := gif_some hz; simp only [Option.some.injEq] at hz; subst hz; exact r_gcdMI Ed3_uni rfl hg)
noncomputable def Ed5 : PExt := Ed4.add 79 (entry (gf1 .frac i64 fun x => gif (0 ≤ x.1 ∧ x.1 ≤ 9000000000000000000 ∧ 0 ≤ x.2 ∧ x.2 ≤ 9000000000000000000) (some (checkF x.1.toNat x.2.toNat))))
theorem Ed5_uni : Uni Ed5 := Ed4_uni.entry
theorem Ed5_ok : ExtOk Tryd.prog Ed5 := Ed4_ok.add1 follows (fun x z hz => by obtain ⟨hg, hz⟩ := gif_some hz; simp only [Option.some.injEq] at hz; subst hz; exact r_CheckI Ed4_uni rfl rfl rfl hg)
noncomputable def Ed6 : PExt := Ed5.add 59 (entry (gf1 .text (i64.tup2 .bool) fun s => gif (0 < s.length ∧ numOk s ∧ (s.length : Int) < 4000000000) (some (numM s))))
theorem Ed6_uni : Uni Ed6 := Ed5_uni.entry
theorem Ed6_ok : ExtOk Tryd.prog Ed6 := Ed5_ok.add1 follows (fun x z hz => by obtain ⟨hg, hz⟩ := gif_some hz; simp only [Option.some.injEq] at hz; subst hz; exact r_numberM Ed5_uni rfl rfl x hg.1 hg.2.1 hg.2.2)
noncomputable def Ed7 : PExt := Ed6.add 62 (entry (gf1 .parts (Em.frac.tup3 .text .bool) fun p => gif (allDig p.1 ∧ allDig p.2.1 ∧ allDig p.2.2 ∧ (p.1.length : Int) < 4000000000 ∧ (p.2.1.length : Int) < 4000000000 ∧ (p.2.2.length : Int) < 4000000000 ∧ (p.2.1 = [] ↔ p.2.2 = [])) (some (quoM p))))
theorem Ed7_uni : Uni Ed7 := Ed6_uni.entry
theorem Ed7_ok : ExtOk Tryd.prog Ed7 := Ed6_ok.add1 follows (fun x z hz => by obtain ⟨hg, hz⟩ := gif_some hz; simp only [Option.some.injEq] at hz; subst hz; exact r_quotient Ed6_uni rfl rfl rfl rfl rfl x hg.1 hg.2.1 hg.2.2.1 hg.2.2.2.1 hg.2.2.2.2.1 hg.2.2.2.2.2.1 hg.2.2.2.2.2.2)
noncomputable def Em1 : PExt := Ed7.add 72 (rentry gPeek)
theorem Em1_uni : Uni Em1 := Ed7_uni.rentry
theorem Em1_ok : ExtOk Tryd.prog Em1 := peek_ok Ed7_uni Ed7_ok rfl
noncomputable def Em2 : PExt := Em1.add 75 (rentry gDigits)
theorem Em2_uni : Uni Em2 := Em1_uni.rentry
theorem Em2_ok : ExtOk Tryd.prog Em2 := digits_ok Em1_uni Em1_ok rfl rfl rfl
noncomputable def Em3 : PExt := Em2.add 61 (rentry gFeet)
theorem Em3_uni : Uni Em3 := Em2_uni.rentry
theorem Em3_ok : ExtOk Tryd.prog Em3 := feet_ok' Em2_uni Em2_ok rfl rfl rfl
noncomputable def Em4 : PExt := Em3.add 58 (rentry gLen)
theorem Em4_uni : Uni Em4 := Em3_uni.rentry
theorem Em4_ok : ExtOk Tryd.prog Em4 := length_ok Em3_uni Em3_ok rfl rfl rfl rfl rfl rfl
noncomputable def Em5 : PExt := Em4.add 57 (qentry Tryd.prog Em4 57 PutQ)
theorem Em5_uni : Uni Em5 := Em4_uni.qentry fun _ _ h => h.1 rfl
theorem Em5_ok : ExtOk Tryd.prog Em5 := Em4_ok.addQ follows
noncomputable def Em6 : PExt := Em5.add 37 (qentry Tryd.prog Em5 37 EndQ)
theorem Em6_uni : Uni Em6 := Em5_uni.qentry fun _ _ h => h.1 rfl
theorem Em6_ok : ExtOk Tryd.prog Em6 := Em5_ok.addQ follows
noncomputable def Em7 : PExt := Em6.add 38 (qentry Tryd.prog Em6 38 TokenQ)
theorem Em7_uni : Uni Em7 := Em6_uni.qentry fun _ _ h => h.1 rfl
theorem Em7_ok : ExtOk Tryd.prog Em7 := Em6_ok.addQ follows
noncomputable def Em8 : PExt := Em7.add 15 (entry (gf1 .text (tks.tup3 .pos i64) fun s => gif (s.length ≤ 10000) (some (scanS s))))
theorem Em8_uni : Uni Em8 := Em7_uni.entry
theorem Em8_ok : ExtOk Tryd.prog Em8 := Em7_ok.add1 follows (fun x z hz => by
  obtain ⟨hg, hz⟩ := gif_some hz
  simp only [Option.some.injEq] at hz
  subst hz
  rw [← scanM_eq hg]
  exact r_scan Em7_uni rfl rfl rfl (fun h ho => w_end Em5_uni Em4_uni rfl rfl rfl h ho) (fun h ho ha hs hc0 hc1 => w_token Em6_uni Em4_uni rfl rfl rfl rfl rfl rfl rfl rfl h ho ha hs hc0 hc1) x hg)
end Go.Kz
