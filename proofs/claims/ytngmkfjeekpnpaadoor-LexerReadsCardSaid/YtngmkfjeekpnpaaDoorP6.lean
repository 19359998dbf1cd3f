/-
  Part P6 of the way: an interpreter over pure data, its soundness, walks through functions.
-/
import Derived.Test.YtngmkfjeekpnpaaDoorP5
import Derived.Test.YtngmkfjeekpnpaaDoorP3
import Derived.Test.YtngmkfjeekpnpaaDoorCards
import Derived.Test.YtngmkfjeekpnpaaDoorTie
import Derived.SevenTiedAt
set_option linter.all false

/-
  Layer 19: Write.
-/
namespace Go.Kz
open Go Go.Proofs

/-- The text of one token. -/
def itemS (t : Tk) : List UInt8 := if t.kind = 4 then [34] ++ t.text ++ [34] else if t.kind = 6 then [10] else t.text
/-- The text of tokens; the kind of the one before, if any. -/
def writeL : Option Int → List Tk → List UInt8
  | _, [] => []
  | k, t :: r => (if k.isSome ∧ t.kind ≠ 6 ∧ k ≠ some 6 then [32] else []) ++ (itemS t ++ writeL (some t.kind) r)

def prevK (l : List Tk) (i : Nat) : Option Int := if i = 0 then none else (l[i - 1]?).map (·.kind)

theorem writeL_le {k : Option Int} {t : Tk} {r : List Tk} : (itemS t).length ≤ (writeL k (t :: r)).length := by
  rw [writeL, List.length_append, List.length_append]
  omega

variable {E : PExt} (hU : Uni E)
include hU
set_option maxRecDepth 10000
set_option maxHeartbeats 4000000

theorem r_Write (h0 : E 13 = none) (h1 : E 34 = some gWS) (h2 : E 33 = some gWB) (h3 : E 35 = some gText)
    (h4 : E 12 = some (entry (gf1 .text (tks.tup3 .pos i64) fun s => gif ((s.length : Int) < 4000000000) (some (scanS s)))))
    (eqs : List Tk → List Tk → Bool) (h5 : E 36 = some (entry fun args => match args with | [a, b, .func 18 []] => gf2 tks tks .bool (fun x y => gif (y.length ≤ 100000000000) (some (eqs x y))) [a, b] | _ => none))
    (l : List Tk) (hw : (writeL none l).length < 4000000000) :
    Run Tryd.prog E 13 [tks.emb l] ((Em.text.tup2 i64).emb (if 20000 < l.length then ([], 4) else if (scanS (writeL none l)).2.2 ≠ 0 ∨ eqs (scanS (writeL none l)).1 l = false then ([], 7) else (writeL none l, 0))) := by
  apply Run.bodyL h0 Tryd.func13 rfl
  focus (simp [show Tryd.f13.ntmps = _ from rfl, List.replicate]; rfl)
  by_cases hq : 20000 < (l.length : Int)
  · have hq' : 20000 < l.length := by omega
    have gx := @hq
    refine goA ?_
    clear gx
    simp (disch := first | omega | (simp; done) | (simp; omega)) [decide_eq_decide, hq'] <;> try rfl
  · have hq' : ¬ 20000 < l.length := by omega
    obtain ⟨W, hW⟩ : ∃ W, writeL none l = W := ⟨_, rfl⟩
    rw [hW] at hw ⊢
    have gx := @hq
    refine goA ?_
    clear gx
    refine Wp.loopI (fun m fr σ => ∃ (i : Nat) (s : List UInt8) (σ1 : List SObj), ∃ gg : Nat → PD, (i + m = l.length ∧ s ++ writeL (prevK l i) (l.drop i) = W ∧ BW σ1 0 s) ∧ fr = tks.emb l :: gg 1 :: .str [] :: .int .i64 0 :: .ptr 0 0 :: gg 5 :: gg 6 :: gg 7 :: gg 8 :: gg 9 :: tks.emb l :: .int .i64 l.length :: gg 12 :: tks.emb l :: .int .i64 l.length :: .int .i64 i :: gg 16 :: gg 17 :: gg 18 :: gg 19 :: gg 20 :: gg 21 :: gg 22 :: gg 23 :: gg 24 :: gg 25 :: gg 26 :: gg 27 :: gg 28 :: gg 29 :: gg 30 :: gg 31 :: gg 32 :: gg 33 :: gg 34 :: gg 35 :: gg 36 :: gg 37 :: gg 38 :: gg 39 :: gg 40 :: gg 41 :: gg 42 :: gg 43 :: gg 44 :: gg 45 :: gg 46 :: gg 47 :: gg 48 :: gg 49 :: gg 50 :: gg 51 :: gg 52 :: gg 53 :: gg 54 :: gg 55 :: gg 56 :: gg 57 :: gg 58 :: gg 59 :: gg 60 :: gg 61 :: gg 62 :: gg 63 :: gg 64 :: gg 65 :: gg 66 :: gg 67 :: [] ∧ σ = σ1) ?_ (l.length) (by refine ⟨0, [], [SObj.box (.typed 68 [.nilptr, .slice 0 [] .nil])], ?_⟩; exact exF (⟨by omega, by simpa [prevK] using hW, ⟨⟨.nilptr, 0, .nil, rfl, .inl rfl, .inl ⟨rfl, rfl⟩⟩⟩⟩) (by (first | rfl | (simp []; repeat (first | rfl | (apply And.intro))) | (simp []; done))) (by (first | rfl | (simp []; repeat (first | rfl | (apply And.intro))) | (simp []; done))))
    rintro m fr σ ⟨i, s, σ1, gg, hI, rfl, rfl⟩
    obtain ⟨hm, hs, hbw⟩ := hI
    by_cases hi : i < l.length
    · have q1 : (i : Int) < (l.length : Int) := by omega
      obtain ⟨t, ht⟩ : ∃ t, l[i] = t := ⟨_, rfl⟩
      have hcons : l.drop i = t :: l.drop (i + 1) := by rw [List.drop_eq_getElem_cons hi, ht]
      have hpk : prevK l (i + 1) = some t.kind := by simp [prevK, hi, ht]
      rw [hcons, writeL, ← hpk] at hs
      have hlenW := congrArg List.length hs
      rw [List.length_append, List.length_append, List.length_append] at hlenW
      obtain ⟨q, hqv⟩ : ∃ q, σ.length = q := ⟨_, rfl⟩
      have hb1 := hbw.more (τ := [.box (Em.tk.emb t)])
      have hq0 : 0 < σ.length := by
        obtain ⟨p, z, tok, hb, _⟩ := hbw.ex
        exact (List.getElem?_eq_some_iff.1 hb).1
      have hbox : (σ ++ [.box (Em.tk.emb t)])[q]? = some (.box (Em.tk.emb t)) := by rw [← hqv]; exact List.getElem?_concat_length
      by_cases hi0 : i = 0
      · subst hi0
        rw [if_neg (by simp [prevK])] at hs hlenW
        simp only [List.nil_append, List.length_nil] at hs hlenW
        by_cases k4 : t.kind = 4
        · have hit : itemS t = [34] ++ t.text ++ [34] := by simp [itemS, k4]
          rw [hit] at hs hlenW
          simp only [List.length_append, List.length_cons, List.length_nil] at hlenW
          obtain ⟨σ3, g3, b3, _⟩ := hb1.writeS (34 :: (t.text ++ [34])) (by simp only [List.length_append, List.length_cons, List.length_nil]; omega)
          simp only [emb_tk, k4] at g3 hbox
          have gx := And.intro @q1 (And.intro @hi (And.intro @ht (And.intro @hqv (And.intro @h1 (And.intro @h2 (And.intro @k4 (And.intro @g3 (@hbox))))))))
          refine goA ?_
          clear gx
          refine LoopI.normal (m - 1) (by omega) (by refine ⟨0 + 1, s ++ (34 :: (t.text ++ [34])), σ3, ?_⟩; exact exF (⟨by omega, by rw [← hs]; simp, b3⟩) (by (first | rfl | (simp []; repeat (first | rfl | (apply And.intro))) | (simp []; done))) (by (first | rfl | (simp []; repeat (first | rfl | (apply And.intro))) | (simp []; done))))
        · by_cases k6 : t.kind = 6
          · have hit : itemS t = [10] := by simp [itemS, k4, k6]
            rw [hit] at hs hlenW
            simp only [List.length_append, List.length_cons, List.length_nil] at hlenW
            obtain ⟨σ3, g3, b3, _⟩ := hb1.writeB 10 10 rfl (by omega)
            simp only [emb_tk, k6] at g3 hbox
            have gx := And.intro @q1 (And.intro @hi (And.intro @ht (And.intro @hqv (And.intro @h1 (And.intro @h2 (And.intro @k4 (And.intro @k6 (And.intro @g3 (@hbox)))))))))
            refine goA ?_
            clear gx
            refine LoopI.normal (m - 1) (by omega) (by refine ⟨0 + 1, s ++ [10], σ3, ?_⟩; exact exF (⟨by omega, by rw [← hs]; simp, b3⟩) (by (first | rfl | (simp []; repeat (first | rfl | (apply And.intro))) | (simp []; done))) (by (first | rfl | (simp []; repeat (first | rfl | (apply And.intro))) | (simp []; done))))
          · have hit : itemS t = t.text := by simp [itemS, k4, k6]
            rw [hit] at hs hlenW
            obtain ⟨σ3, g3, b3, _⟩ := hb1.writeS t.text (by omega)
            simp only [emb_tk, k6] at g3 hbox
            have gx := And.intro @q1 (And.intro @hi (And.intro @ht (And.intro @hqv (And.intro @h1 (And.intro @h2 (And.intro @k4 (And.intro @k6 (And.intro @g3 (@hbox)))))))))
            refine goA ?_
            clear gx
            refine LoopI.normal (m - 1) (by omega) (by refine ⟨0 + 1, s ++ t.text, σ3, ?_⟩; exact exF (⟨by omega, by rw [← hs]; simp, b3⟩) (by (first | rfl | (simp []; repeat (first | rfl | (apply And.intro))) | (simp []; done))) (by (first | rfl | (simp []; repeat (first | rfl | (apply And.intro))) | (simp []; done))))
      · obtain ⟨j, hij⟩ : ∃ j, i = j + 1 := ⟨i - 1, by omega⟩
        have hj : j < l.length := by omega
        have hj1 : (0 : Int) < (i : Int) := by omega
        have hj0 : 0 < i := by omega
        have hj2 : (i : Int) - 1 = (j : Int) := by omega
        obtain ⟨u, hu⟩ : ∃ u, l[j] = u := ⟨_, rfl⟩
        have hpj : prevK l i = some u.kind := by simp [prevK, hij, hj, hu]
        rw [hpj] at hs hlenW
        by_cases hu6 : u.kind = 6
        · rw [if_neg (by simp [hu6])] at hs hlenW
          simp only [List.nil_append, List.length_nil] at hs hlenW
          by_cases k4 : t.kind = 4
          · have hit : itemS t = [34] ++ t.text ++ [34] := by simp [itemS, k4]
            rw [hit] at hs hlenW
            simp only [List.length_append, List.length_cons, List.length_nil] at hlenW
            obtain ⟨σ3, g3, b3, _⟩ := hb1.writeS (34 :: (t.text ++ [34])) (by simp only [List.length_append, List.length_cons, List.length_nil]; omega)
            simp only [emb_tk, k4] at g3 hbox
            have gx := And.intro @q1 (And.intro @hi (And.intro @ht (And.intro @hqv (And.intro @h1 (And.intro @h2 (And.intro @hj (And.intro @hj0 (And.intro @hj1 (And.intro @hj2 (And.intro @hu (And.intro @hu6 (And.intro @k4 (And.intro @g3 (@hbox))))))))))))))
            refine goA ?_
            clear gx
            refine LoopI.normal (m - 1) (by omega) (by refine ⟨i + 1, s ++ (34 :: (t.text ++ [34])), σ3, ?_⟩; exact exF (⟨by omega, by rw [← hs]; simp, b3⟩) (by (first | rfl | (simp []; repeat (first | rfl | (apply And.intro))) | (simp []; done))) (by (first | rfl | (simp []; repeat (first | rfl | (apply And.intro))) | (simp []; done))))
          · by_cases k6 : t.kind = 6
            · have hit : itemS t = [10] := by simp [itemS, k4, k6]
              rw [hit] at hs hlenW
              simp only [List.length_append, List.length_cons, List.length_nil] at hlenW
              obtain ⟨σ3, g3, b3, _⟩ := hb1.writeB 10 10 rfl (by omega)
              simp only [emb_tk, k6] at g3 hbox
              have gx := And.intro @q1 (And.intro @hi (And.intro @ht (And.intro @hqv (And.intro @h1 (And.intro @h2 (And.intro @hj (And.intro @hj0 (And.intro @hj1 (And.intro @hj2 (And.intro @hu (And.intro @hu6 (And.intro @k4 (And.intro @k6 (And.intro @g3 (@hbox)))))))))))))))
              refine goA ?_
              clear gx
              refine LoopI.normal (m - 1) (by omega) (by refine ⟨i + 1, s ++ [10], σ3, ?_⟩; exact exF (⟨by omega, by rw [← hs]; simp, b3⟩) (by (first | rfl | (simp []; repeat (first | rfl | (apply And.intro))) | (simp []; done))) (by (first | rfl | (simp []; repeat (first | rfl | (apply And.intro))) | (simp []; done))))
            · have hit : itemS t = t.text := by simp [itemS, k4, k6]
              rw [hit] at hs hlenW
              obtain ⟨σ3, g3, b3, _⟩ := hb1.writeS t.text (by omega)
              simp only [emb_tk, k6] at g3 hbox
              have gx := And.intro @q1 (And.intro @hi (And.intro @ht (And.intro @hqv (And.intro @h1 (And.intro @h2 (And.intro @hj (And.intro @hj0 (And.intro @hj1 (And.intro @hj2 (And.intro @hu (And.intro @hu6 (And.intro @k4 (And.intro @k6 (And.intro @g3 (@hbox)))))))))))))))
              refine goA ?_
              clear gx
              refine LoopI.normal (m - 1) (by omega) (by refine ⟨i + 1, s ++ t.text, σ3, ?_⟩; exact exF (⟨by omega, by rw [← hs]; simp, b3⟩) (by (first | rfl | (simp []; repeat (first | rfl | (apply And.intro))) | (simp []; done))) (by (first | rfl | (simp []; repeat (first | rfl | (apply And.intro))) | (simp []; done))))
        · by_cases ht6 : t.kind = 6
          · rw [if_neg (by simp [ht6])] at hs hlenW
            simp only [List.nil_append, List.length_nil] at hs hlenW
            by_cases k4 : t.kind = 4
            · omega
            · by_cases k6 : t.kind = 6
              · have hit : itemS t = [10] := by simp [itemS, k4, k6]
                rw [hit] at hs hlenW
                simp only [List.length_append, List.length_cons, List.length_nil] at hlenW
                obtain ⟨σ3, g3, b3, _⟩ := hb1.writeB 10 10 rfl (by omega)
                simp only [emb_tk, k6] at g3 hbox
                have gx := And.intro @q1 (And.intro @hi (And.intro @ht (And.intro @hqv (And.intro @h1 (And.intro @h2 (And.intro @hj (And.intro @hj0 (And.intro @hj1 (And.intro @hj2 (And.intro @hu (And.intro @hu6 (And.intro @ht6 (And.intro @k4 (And.intro @k6 (And.intro @g3 (@hbox))))))))))))))))
                refine goA ?_
                clear gx
                refine LoopI.normal (m - 1) (by omega) (by refine ⟨i + 1, s ++ [10], σ3, ?_⟩; exact exF (⟨by omega, by rw [← hs]; simp, b3⟩) (by (first | rfl | (simp []; repeat (first | rfl | (apply And.intro))) | (simp []; done))) (by (first | rfl | (simp []; repeat (first | rfl | (apply And.intro))) | (simp []; done))))
              · exact absurd ht6 k6
          · rw [if_pos (by simp [hu6, ht6])] at hs hlenW
            simp only [List.length_cons, List.length_nil] at hlenW
            obtain ⟨σ2, g2, b2, kp⟩ := hb1.writeB 32 32 rfl (by omega)
            have hbox2 := kp q _ (by omega) hbox
            have hlen2 : (s ++ [32]).length = s.length + 1 := by simp
            have hb0 := hbox2
            by_cases k4 : t.kind = 4
            · have hit : itemS t = [34] ++ t.text ++ [34] := by simp [itemS, k4]
              rw [hit] at hs hlenW
              simp only [List.length_append, List.length_cons, List.length_nil] at hlenW
              obtain ⟨σ3, g3, b3, _⟩ := b2.writeS (34 :: (t.text ++ [34])) (by simp only [List.length_append, List.length_cons, List.length_nil]; omega)
              simp only [emb_tk, k4] at g2 g3 hbox hbox2
              have gx := And.intro @q1 (And.intro @hi (And.intro @ht (And.intro @hqv (And.intro @h1 (And.intro @h2 (And.intro @hj (And.intro @hj0 (And.intro @hj1 (And.intro @hj2 (And.intro @hu (And.intro @hu6 (And.intro @ht6 (And.intro @g2 (And.intro @k4 (And.intro @g3 (And.intro @hbox (@hbox2)))))))))))))))))
              refine goA ?_
              clear gx
              refine LoopI.normal (m - 1) (by omega) (by refine ⟨i + 1, (s ++ [32]) ++ (34 :: (t.text ++ [34])), σ3, ?_⟩; exact exF (⟨by omega, by rw [← hs]; simp, b3⟩) (by (first | rfl | (simp []; repeat (first | rfl | (apply And.intro))) | (simp []; done))) (by (first | rfl | (simp []; repeat (first | rfl | (apply And.intro))) | (simp []; done))))
            · by_cases k6 : t.kind = 6
              · exact absurd k6 ht6
              · have hit : itemS t = t.text := by simp [itemS, k4, k6]
                rw [hit] at hs hlenW
                obtain ⟨σ3, g3, b3, _⟩ := b2.writeS t.text (by omega)
                simp only [emb_tk, k6] at g2 g3 hbox hbox2
                have gx := And.intro @q1 (And.intro @hi (And.intro @ht (And.intro @hqv (And.intro @h1 (And.intro @h2 (And.intro @hj (And.intro @hj0 (And.intro @hj1 (And.intro @hj2 (And.intro @hu (And.intro @hu6 (And.intro @ht6 (And.intro @g2 (And.intro @k4 (And.intro @k6 (And.intro @g3 (And.intro @hbox (@hbox2))))))))))))))))))
                refine goA ?_
                clear gx
                refine LoopI.normal (m - 1) (by omega) (by refine ⟨i + 1, (s ++ [32]) ++ t.text, σ3, ?_⟩; exact exF (⟨by omega, by rw [← hs]; simp, b3⟩) (by (first | rfl | (simp []; repeat (first | rfl | (apply And.intro))) | (simp []; done))) (by (first | rfl | (simp []; repeat (first | rfl | (apply And.intro))) | (simp []; done))))
    · have q1 : ¬ (i : Int) < (l.length : Int) := by omega
      have he : i = l.length := by omega
      rw [he, List.drop_length, writeL, List.append_nil] at hs
      subst hs
      have hgt := hbw.text
      have hwl : (s.length : Int) < 4000000000 := by omega
      obtain ⟨own, ps, e, hS⟩ : ∃ own ps e, scanS s = (own, ps, e) := ⟨_, _, _, rfl⟩
      have hl5 : l.length ≤ 100000000000 := by omega
      have hgt2 : ∀ x, gText 0 [.ptr 0 0] (σ ++ [x]) = some (.str s, σ ++ [x]) := fun x => hbw.more.text
      by_cases he0 : e = 0
      · subst he0
        cases hE : eqs own l with
        | false =>
          have gx := And.intro @q1 (And.intro @h3 (And.intro @hgt (And.intro @hgt2 (And.intro @h4 (And.intro @hwl (And.intro @hS (And.intro @h5 (And.intro @hl5 (@hE)))))))))
          refine goA ?_
          clear gx
          simp (disch := first | omega | (simp; done) | (simp; omega)) [decide_eq_decide, hq', hS, hE] <;> try rfl
        | true =>
          have gx := And.intro @q1 (And.intro @h3 (And.intro @hgt (And.intro @hgt2 (And.intro @h4 (And.intro @hwl (And.intro @hS (And.intro @h5 (And.intro @hl5 (@hE)))))))))
          refine goA ?_
          clear gx
          simp (disch := first | omega | (simp; done) | (simp; omega)) [decide_eq_decide, hq', hS, hE] <;> try rfl
      · have gx := And.intro @q1 (And.intro @h3 (And.intro @hgt (And.intro @hgt2 (And.intro @h4 (And.intro @hwl (And.intro @hS (@he0)))))))
        refine goA ?_
        clear gx
        simp (disch := first | omega | (simp; done) | (simp; omega)) [decide_eq_decide, hq', hS, he0] <;> try rfl
end Go.Kz

/-
  Layer 19: Equal, EqualFunc, and the model's equal, same, write, short.
-/
namespace Go.Kz
open Go Go.Proofs

def eqT (a b : Tk) : Bool := decide (a.kind = b.kind) && (decide (a.text = b.text) && (decide (a.num = b.num) && decide (a.feet = b.feet)))
def eqTs : List Tk → List Tk → Bool
  | [], [] => true
  | a :: l, b :: r => eqT a b && eqTs l r
  | _, _ => false

theorem eqTs_len : ∀ {l r : List Tk}, eqTs l r = true → l.length = r.length
  | [], [], _ => rfl
  | _ :: l, _ :: r, h => by
    simp only [eqTs, Bool.and_eq_true] at h
    simp [eqTs_len h.2]
  | [], _ :: _, h => by cases h
  | _ :: _, [], h => by cases h

variable {E : PExt} (hU : Uni E)
include hU
set_option maxRecDepth 10000
set_option maxHeartbeats 4000000

theorem r_Equal (h0 : E 18 = none) (a b : Tk) : Run Tryd.prog E 18 [Em.tk.emb a, Em.tk.emb b] (Em.bool.emb (eqT a b)) := by
  obtain ⟨k1, t1, n1, ⟨f1, g1⟩, l1, c1⟩ := a
  obtain ⟨k2, t2, n2, ⟨f2, g2⟩, l2, c2⟩ := b
  simp only [emb_tk]
  apply Run.bodyL h0 Tryd.func18 rfl
  focus (simp [show Tryd.f18.ntmps = _ from rfl, List.replicate]; rfl)
  by_cases e1 : k1 = k2
  · by_cases e2 : t1 = t2
    · by_cases e3 : n1 = n2
      · by_cases e4 : f1 = f2 <;> by_cases e5 : g1 = g2
        all_goals
          have gx := And.intro @e1 (And.intro @e2 (And.intro @e3 (And.intro @e4 (@e5))))
          refine goA ?_
          clear gx
          simp (disch := first | omega | (simp; done) | (simp; omega)) [decide_eq_decide, eqT, e1, e2, e3, e4, e5] <;> try rfl
      · have gx := And.intro @e1 (And.intro @e2 (@e3))
        refine goA ?_
        clear gx
        simp (disch := first | omega | (simp; done) | (simp; omega)) [decide_eq_decide, eqT, e3] <;> try rfl
    · have e2' : (t1 == t2) = false := by simpa using e2
      have gx := And.intro @e1 (And.intro @e2 (@e2'))
      refine goA ?_
      clear gx
      simp (disch := first | omega | (simp; done) | (simp; omega)) [decide_eq_decide, eqT, e2] <;> try rfl
  · have gx := @e1
    refine goA ?_
    clear gx
    simp (disch := first | omega | (simp; done) | (simp; omega)) [decide_eq_decide, eqT, e1] <;> try rfl

theorem r_EqualFunc (h0 : E 36 = none) (h1 : E 18 = some (entry (gf2 .tk .tk .bool fun a b => some (eqT a b)))) (l r : List Tk) (hl : r.length ≤ 100000000000) :
    Run Tryd.prog E 36 [tks.emb l, tks.emb r, .func 18 []] (Em.bool.emb (eqTs l r)) := by
  apply Run.bodyL h0 Tryd.func36 rfl
  focus (simp [show Tryd.f36.ntmps = _ from rfl, List.replicate]; rfl)
  by_cases hq : l.length = r.length
  · have hq' : (l.length : Int) = (r.length : Int) := by omega
    obtain ⟨B, hB⟩ : ∃ B, eqTs l r = B := ⟨_, rfl⟩
    rw [hB]
    have gx := And.intro @hq (@hq')
    refine goA ?_
    clear gx
    refine Wp.loopI (fun m fr σ => ∃ (i : Nat) (σ1 : List SObj), ∃ gg : Nat → PD, (i + m = l.length ∧ eqTs (l.drop i) (r.drop i) = B) ∧ fr = [tks.emb l, tks.emb r, .func 18 [], gg 3, gg 4, gg 5, .bool false, gg 7, gg 8, gg 9, tks.emb l, gg 11, gg 12, gg 13, gg 14, tks.emb l, .int .i64 l.length, .int .i64 i, gg 18, gg 19, gg 20, gg 21, gg 22, gg 23, gg 24, gg 25, gg 26, gg 27, gg 28, gg 29, gg 30, gg 31] ∧ σ = σ1) ?_ (l.length) (by refine ⟨0, [], ?_⟩; exact exF (⟨by omega, hB⟩) (by (first | rfl | (simp [hq]; repeat (first | rfl | (apply And.intro))) | (simp [hq]; done))) (by (first | rfl | (simp [hq]; repeat (first | rfl | (apply And.intro))) | (simp [hq]; done))))
    rintro m fr σ ⟨i, σ1, gg, hI, rfl, rfl⟩
    obtain ⟨hm, hs⟩ := hI
    by_cases hi : i < l.length
    · have q1 : (i : Int) < (l.length : Int) := by omega
      have hir : i < r.length := by omega
      obtain ⟨a, ha⟩ : ∃ a, l[i] = a := ⟨_, rfl⟩
      obtain ⟨b, hb⟩ : ∃ b, r[i] = b := ⟨_, rfl⟩
      have hc1 : l.drop i = a :: l.drop (i + 1) := by rw [List.drop_eq_getElem_cons hi, ha]
      have hc2 : r.drop i = b :: r.drop (i + 1) := by rw [List.drop_eq_getElem_cons hir, hb]
      rw [hc1, hc2, eqTs] at hs
      have j0 : ∀ x y : SObj, (σ ++ [x, y])[σ.length]? = some x := fun x y => by simp
      have j1 : ∀ x y : SObj, (σ ++ [x, y])[σ.length + 1]? = some y := fun x y => by simp
      have q2 : (i : Int) < (r.length : Int) := by omega
      cases hab : eqT a b with
      | false =>
        rw [hab, Bool.false_and] at hs
        have hB2 : B = false := hs.symm
        have gx := And.intro @q1 (And.intro @q2 (And.intro @hi (And.intro @hir (And.intro @ha (And.intro @hb (And.intro @j0 (@j1)))))))
        refine goA ?_
        clear gx
        first | refine Wp.seq ?_ | skip
        apply Wp.regionS
        repeat (first
          | (refine Fr.i ?_; simp only [pput, List.set_cons_zero, List.set_cons_succ]; try rfl)
          | (refine By.i ?_; (focus (simp (disch := first | omega | (simp; done) | (simp; omega)) [wrap_i64, wrap_u64, h1, hab, j0, j1, entry, gf2]; first | done | rfl | exact ⟨rfl, rfl⟩)))
          | (refine By.i ?_; simp (disch := first | omega | (simp; done) | (simp; omega)) [wrap_i64, wrap_u64, h1, hab, j0, j1, entry, gf2]; refine ⟨(by (try simp only [List.length_append, List.length_cons, List.length_nil, maxLen]); omega), rfl⟩)
          | (refine Wt.i ?_; first | rfl | (focus (simp [h1, hab, j0, j1, entry, gf2]; done)))
          | (refine Ns.i ?_; (try simp only [List.append_nil, List.nil_append, List.cons_append, List.append_assoc, List.length_append, List.length_cons, List.length_nil, Nat.zero_add, Nat.reduceAdd]); rfl) | rfl
          | (apply SL.pass; (focus (refine Wt.i ?_; rfl))) | (apply SL.convertR; (focus rfl)) | apply SL.move | apply SL.assign | apply SL.load | apply SL.isnilE | apply SL.isnilN | apply SL.make | apply SL.binOp | apply SL.append
          | apply SL.builtin | apply SL.fieldAddr | apply SL.indexAddr | apply SL.field | apply SL.extract | apply SL.fcall | apply SL.pick | apply SL.store | apply SL.unOp | apply SL.convert | apply SL.index | apply SL.slice | apply SL.build
          | apply SL.nilCheck | apply SL.buildSlice | apply SL.box | apply SL.alloc | apply SL.makeFunc)
        apply SQ.nil
        have gx := @q1
        refine goA ?_
        clear gx
        simp (disch := first | omega | (simp; done) | (simp; omega)) [decide_eq_decide, hB2] <;> try rfl
      | true =>
        rw [hab, Bool.true_and] at hs
        have gx := And.intro @q1 (And.intro @q2 (And.intro @hi (And.intro @hir (And.intro @ha (And.intro @hb (And.intro @j0 (@j1)))))))
        refine goA ?_
        clear gx
        first | refine Wp.seq ?_ | skip
        apply Wp.regionS
        repeat (first
          | (refine Fr.i ?_; simp only [pput, List.set_cons_zero, List.set_cons_succ]; try rfl)
          | (refine By.i ?_; (focus (simp (disch := first | omega | (simp; done) | (simp; omega)) [wrap_i64, wrap_u64, h1, hab, j0, j1, entry, gf2]; first | done | rfl | exact ⟨rfl, rfl⟩)))
          | (refine By.i ?_; simp (disch := first | omega | (simp; done) | (simp; omega)) [wrap_i64, wrap_u64, h1, hab, j0, j1, entry, gf2]; refine ⟨(by (try simp only [List.length_append, List.length_cons, List.length_nil, maxLen]); omega), rfl⟩)
          | (refine Wt.i ?_; first | rfl | (focus (simp [h1, hab, j0, j1, entry, gf2]; done)))
          | (refine Ns.i ?_; (try simp only [List.append_nil, List.nil_append, List.cons_append, List.append_assoc, List.length_append, List.length_cons, List.length_nil, Nat.zero_add, Nat.reduceAdd]); rfl) | rfl
          | (apply SL.pass; (focus (refine Wt.i ?_; rfl))) | (apply SL.convertR; (focus rfl)) | apply SL.move | apply SL.assign | apply SL.load | apply SL.isnilE | apply SL.isnilN | apply SL.make | apply SL.binOp | apply SL.append
          | apply SL.builtin | apply SL.fieldAddr | apply SL.indexAddr | apply SL.field | apply SL.extract | apply SL.fcall | apply SL.pick | apply SL.store | apply SL.unOp | apply SL.convert | apply SL.index | apply SL.slice | apply SL.build
          | apply SL.nilCheck | apply SL.buildSlice | apply SL.box | apply SL.alloc | apply SL.makeFunc)
        apply SQ.nil
        have gx := @q1
        refine goA ?_
        clear gx
        refine LoopI.normal (m - 1) (by omega) ⟨i + 1, _, exF (⟨by omega, hs⟩) (by (first | rfl | (simp []; repeat (first | rfl | (apply And.intro))) | (simp []; done))) (by (first | rfl | (simp []; repeat (first | rfl | (apply And.intro))) | (simp []; done)))⟩
    · have q1 : ¬ (i : Int) < (l.length : Int) := by omega
      rw [List.drop_eq_nil_of_le (by omega), List.drop_eq_nil_of_le (by omega)] at hs
      have hB2 : B = true := hs.symm
      have q2 : ¬ (i : Int) < (r.length : Int) := by omega
      have gx := And.intro @q1 (@q2)
      refine goA ?_
      clear gx
      simp (disch := first | omega | (simp; done) | (simp; omega)) [decide_eq_decide, hB2] <;> try rfl
  · have hq' : ¬ (l.length : Int) = (r.length : Int) := by omega
    have hF : eqTs l r = false := by
      cases h : eqTs l r with
      | false => rfl
      | true => exact absurd (eqTs_len h) hq
    have gx := And.intro @hq (@hq')
    refine goA ?_
    clear gx
    simp (disch := first | omega | (simp; done) | (simp; omega)) [decide_eq_decide, hF] <;> try rfl
end Go.Kz

/-
  Layer 19: the model's equal and same.
-/
namespace Go.Kz
open Go Go.Proofs

def sameT (all : Bool) (a b : Tk) : Bool := eqT a b && (!all || decide (a.line = b.line) && decide (a.col = b.col))
def sameTs (all : Bool) : List Tk → List Tk → Bool
  | [], [] => true
  | a :: l, b :: r => sameT all a b && sameTs all l r
  | _, _ => false

theorem sameTs_len {all : Bool} : ∀ {l r : List Tk}, sameTs all l r = true → l.length = r.length
  | [], [], _ => rfl
  | _ :: l, _ :: r, h => by
    simp only [sameTs, Bool.and_eq_true] at h
    simp [sameTs_len h.2]
  | [], _ :: _, h => by cases h
  | _ :: _, [], h => by cases h

variable {E : PExt} (hU : Uni E)
include hU
set_option maxRecDepth 10000
set_option maxHeartbeats 4000000

theorem r_equal (h0 : E 19 = none) (a b : Tk) : Run Tryd.prog E 19 [Em.tk.emb a, Em.tk.emb b] (Em.bool.emb (eqT a b)) := by
  obtain ⟨k1, t1, n1, ⟨f1, g1⟩, l1, c1⟩ := a
  obtain ⟨k2, t2, n2, ⟨f2, g2⟩, l2, c2⟩ := b
  simp only [emb_tk]
  apply Run.bodyL h0 Tryd.func19 rfl
  focus (simp [show Tryd.f19.ntmps = _ from rfl, List.replicate]; rfl)
  by_cases e1 : k1 = k2
  · by_cases e2 : t1 = t2
    · by_cases e3 : n1 = n2
      · by_cases e4 : f1 = f2 <;> by_cases e5 : g1 = g2
        all_goals
          have gx := And.intro @e1 (And.intro @e2 (And.intro @e3 (And.intro @e4 (@e5))))
          refine goA ?_
          clear gx
          simp (disch := first | omega | (simp; done) | (simp; omega)) [decide_eq_decide, eqT, e1, e2, e3, e4, e5] <;> try rfl
      · have gx := And.intro @e1 (And.intro @e2 (@e3))
        refine goA ?_
        clear gx
        simp (disch := first | omega | (simp; done) | (simp; omega)) [decide_eq_decide, eqT, e3] <;> try rfl
    · have e2' : (t1 == t2) = false := by simpa using e2
      have gx := And.intro @e1 (And.intro @e2 (@e2'))
      refine goA ?_
      clear gx
      simp (disch := first | omega | (simp; done) | (simp; omega)) [decide_eq_decide, eqT, e2] <;> try rfl
  · have gx := @e1
    refine goA ?_
    clear gx
    simp (disch := first | omega | (simp; done) | (simp; omega)) [decide_eq_decide, eqT, e1] <;> try rfl

theorem r_same (h0 : E 14 = none) (h1 : E 19 = some (entry (gf2 .tk .tk .bool fun a b => some (eqT a b)))) (l r : List Tk) (all : Bool) (hl : l.length ≤ 100000000000) :
    Run Tryd.prog E 14 [tks.emb l, tks.emb r, Em.bool.emb all] (Em.bool.emb (sameTs all l r)) := by
  apply Run.bodyL h0 Tryd.func14 rfl
  focus (simp [show Tryd.f14.ntmps = _ from rfl, List.replicate]; rfl)
  by_cases hq : l.length = r.length
  · have hq' : (l.length : Int) = (r.length : Int) := by omega
    obtain ⟨B, hB⟩ : ∃ B, sameTs all l r = B := ⟨_, rfl⟩
    rw [hB]
    have gx := And.intro @hq (@hq')
    refine goA ?_
    clear gx
    refine Wp.loopI (fun m fr σ => ∃ (i : Nat), ∃ gg : Nat → PD, (i + m = l.length ∧ sameTs all (l.drop i) (r.drop i) = B) ∧ fr = [tks.emb l, tks.emb r, .bool all, gg 3, gg 4, gg 5, .bool false, .int .i64 i, gg 8, gg 9, gg 10, gg 11, gg 12, gg 13, gg 14, gg 15, gg 16, gg 17, gg 18, gg 19, gg 20, gg 21, gg 22, gg 23, gg 24, gg 25, gg 26, gg 27, gg 28, gg 29, gg 30, gg 31, gg 32, gg 33, gg 34, gg 35, gg 36, gg 37, gg 38, gg 39, gg 40, gg 41, gg 42] ∧ σ = []) ?_ (l.length) (by refine ⟨0, ?_⟩; exact exF (⟨by omega, hB⟩) (by (first | rfl | (simp [hq]; repeat (first | rfl | (apply And.intro))) | (simp [hq]; done))) (by (first | rfl | (simp [hq]; repeat (first | rfl | (apply And.intro))) | (simp [hq]; done))))
    rintro m fr σ ⟨i, gg, hI, rfl, rfl⟩
    obtain ⟨hm, hs⟩ := hI
    by_cases hi : i < l.length
    · have q1 : (i : Int) < (l.length : Int) := by omega
      have hir : i < r.length := by omega
      obtain ⟨a, ha⟩ : ∃ a, l[i] = a := ⟨_, rfl⟩
      obtain ⟨b, hb⟩ : ∃ b, r[i] = b := ⟨_, rfl⟩
      have hc1 : l.drop i = a :: l.drop (i + 1) := by rw [List.drop_eq_getElem_cons hi, ha]
      have hc2 : r.drop i = b :: r.drop (i + 1) := by rw [List.drop_eq_getElem_cons hir, hb]
      rw [hc1, hc2, sameTs, sameT] at hs
      have q2 : (i : Int) < (r.length : Int) := by omega
      cases hab : eqT a b with
      | false =>
        rw [hab, Bool.false_and, Bool.false_and] at hs
        have hB2 : B = false := hs.symm
        have gx := And.intro @q1 (And.intro @q2 (And.intro @hi (And.intro @hir (And.intro @ha (And.intro @hb (And.intro @h1 (@hab)))))))
        refine goA ?_
        clear gx
        simp (disch := first | omega | (simp; done) | (simp; omega)) [decide_eq_decide, hB2] <;> try rfl
      | true =>
        rw [hab, Bool.true_and] at hs
        cases all with
        | false =>
          simp only [Bool.not_false, Bool.true_or, Bool.true_and] at hs
          have gx := And.intro @q1 (And.intro @q2 (And.intro @hi (And.intro @hir (And.intro @ha (And.intro @hb (And.intro @h1 (@hab)))))))
          refine goA ?_
          clear gx
          refine LoopI.normal (m - 1) (by omega) (by refine ⟨i + 1, ?_⟩; exact exF (⟨by omega, hs⟩) (by (first | rfl | (simp []; repeat (first | rfl | (apply And.intro))) | (simp []; done))) (by (first | rfl | (simp []; repeat (first | rfl | (apply And.intro))) | (simp []; done))))
        | true =>
          simp only [Bool.not_true, Bool.false_or] at hs
          have hab' := hab
          simp only [eqT, Bool.and_eq_true, decide_eq_true_eq] at hab'
          obtain ⟨k1, t1, n1, ⟨f1, g1⟩, l1, c1⟩ := a
          obtain ⟨k2, t2, n2, ⟨f2, g2⟩, l2, c2⟩ := b
          simp only [Prod.mk.injEq] at hab'
          obtain ⟨rfl, rfl, rfl, rfl, rfl⟩ := hab'
          by_cases e5 : l1 = l2
          · subst e5
            by_cases e6 : c1 = c2
            · subst e6
              simp only [decide_true, Bool.true_and] at hs
              have gx := And.intro @q1 (And.intro @q2 (And.intro @hi (And.intro @hir (And.intro @ha (And.intro @hb (And.intro @h1 (@hab)))))))
              refine goA ?_
              clear gx
              refine LoopI.normal (m - 1) (by omega) (by refine ⟨i + 1, ?_⟩; exact exF (⟨by omega, hs⟩) (by (first | rfl | (simp []; repeat (first | rfl | (apply And.intro))) | (simp []; done))) (by (first | rfl | (simp []; repeat (first | rfl | (apply And.intro))) | (simp []; done))))
            · simp only [e6, decide_false, Bool.and_false, Bool.false_and] at hs
              have hB2 : B = false := hs.symm
              have gx := And.intro @q1 (And.intro @q2 (And.intro @hi (And.intro @hir (And.intro @ha (And.intro @hb (And.intro @h1 (And.intro @hab (@e6))))))))
              refine goA ?_
              clear gx
              simp (disch := first | omega | (simp; done) | (simp; omega)) [decide_eq_decide, hB2] <;> try rfl
          · simp only [e5, decide_false, Bool.false_and] at hs
            have hB2 : B = false := hs.symm
            have gx := And.intro @q1 (And.intro @q2 (And.intro @hi (And.intro @hir (And.intro @ha (And.intro @hb (And.intro @h1 (And.intro @hab (@e5))))))))
            refine goA ?_
            clear gx
            simp (disch := first | omega | (simp; done) | (simp; omega)) [decide_eq_decide, hB2] <;> try rfl
    · have q1 : ¬ (i : Int) < (l.length : Int) := by omega
      rw [List.drop_eq_nil_of_le (by omega), List.drop_eq_nil_of_le (by omega)] at hs
      have hB2 : B = true := hs.symm
      have q2 : ¬ (i : Int) < (r.length : Int) := by omega
      have gx := And.intro @q1 (@q2)
      refine goA ?_
      clear gx
      simp (disch := first | omega | (simp; done) | (simp; omega)) [decide_eq_decide, hB2] <;> try rfl
  · have hq' : ¬ (l.length : Int) = (r.length : Int) := by omega
    have hF : sameTs all l r = false := by
      cases h : sameTs all l r with
      | false => rfl
      | true => exact absurd (sameTs_len h) hq
    have gx := And.intro @hq (@hq')
    refine goA ?_
    clear gx
    simp (disch := first | omega | (simp; done) | (simp; omega)) [decide_eq_decide, hF] <;> try rfl
end Go.Kz

/-
  Layer 19: known.
-/
namespace Go.Kz
open Go Go.Proofs

def known1 : List UInt8 := [115, 116, 111, 112, 32, 34, 82, 111, 104, 114, 32, 102, 108, 117, 116, 101, 34, 32, 50, 45, 50, 47, 51, 39, 32, 37, 32, 116, 104, 105, 114, 100]
def known2 : List UInt8 := [97, 32, 45, 51, 32, 98, 45, 62, 99, 32, 56, 47, 50, 39]
def known3 : List UInt8 := [97, 32, 45, 51, 32, 98, 32, 45, 62, 32, 99, 32, 52, 39, 10]
set_option maxRecDepth 10000
theorem scan1 : scanS known1 = ((scanS known1).1, (0, 0), 0) := by kernel_rfl
def tk0 : Tk := ⟨0, [], 0, (0, 0), 0, 0⟩
theorem scan1_len : (scanS known1).1.length = 4 := by decide +kernel
theorem scan1_feet : ((scanS known1).1.getD 2 tk0).feet = (8, 3) := by decide +kernel
theorem scan1_col : ((scanS known1).1.getD 3 tk0).col = 33 := by decide +kernel
theorem scan1_all : ∃ a b c d, scanS known1 = ([a, b, c, d], (0, 0), 0) ∧ c.feet = (8, 3) ∧ d.col = 33 := by
  have h1 := scan1_len
  have h2 := scan1_feet
  have h3 := scan1_col
  rw [scan1]
  generalize (scanS known1).1 = L at *
  match L, h1 with
  | [a, b, c, d], _ => exact ⟨a, b, c, d, rfl, h2, h3⟩
theorem scan2 : scanS known2 = ((scanS known2).1, (0, 0), 0) := by kernel_rfl
theorem scan2_len : (scanS known2).1.length ≤ 20000 := by decide +kernel
theorem write2 : writeL none (scanS known2).1 = known3 := by decide +kernel
theorem back2 : eqTs (scanS known3).1 (scanS known2).1 = true := by decide +kernel
theorem back2e : (scanS known3).2.2 = 0 := by decide +kernel

/-- What Write answers. -/
def writeS (l : List Tk) : List UInt8 × Int := if 20000 < l.length then ([], 4) else if (scanS (writeL none l)).2.2 ≠ 0 ∨ eqTs (scanS (writeL none l)).1 l = false then ([], 7) else (writeL none l, 0)
theorem write2S : writeS (scanS known2).1 = (known3, 0) := by
  unfold writeS
  rw [if_neg (by have := scan2_len; omega), write2, if_neg (by rw [back2, back2e]; simp)]

variable {E : PExt} (hU : Uni E)
include hU
set_option maxHeartbeats 4000000
theorem r_known (h0 : E 11 = none) (h1 : E 12 = some (entry (gf1 .text (tks.tup3 .pos i64) fun s => gif ((s.length : Int) < 4000000000) (some (scanS s)))))
    (h2 : E 13 = some (entry (gf1 tks (Em.text.tup2 i64) fun l => gif ((writeL none l).length < 4000000000) (some (writeS l))))) :
    Run Tryd.prog E 11 [] (Em.bool.emb true) := by
  obtain ⟨a, b, c, d, hs1, hf, hc⟩ := scan1_all
  unfold known1 at hs1
  obtain ⟨L2, hL2⟩ : ∃ L2, (scanS known2).1 = L2 := ⟨_, rfl⟩
  have hs2 := scan2
  have hw := write2S
  have hw2 : (writeL none (scanS known2).1).length < 4000000000 := by rw [write2]; decide
  rw [hL2] at hs2 hw hw2
  unfold known2 at hs2
  unfold known3 at hw
  apply Run.bodyL h0 Tryd.func11 rfl
  focus (simp [show Tryd.f11.ntmps = _ from rfl, List.replicate]; rfl)
  have gx := And.intro @h1 (And.intro @h2 (And.intro @hs1 (And.intro @hs2 (And.intro @hw (And.intro @hw2 (And.intro @hf (@hc)))))))
  refine goA ?_
  clear gx
  simp (disch := first | omega | (simp; done) | (simp; omega)) [decide_eq_decide] <;> try rfl
end Go.Kz

/-
  Layer 19: two texts with a line feed between: the plain law.
-/
namespace Go.Kz
open Go Go.Proofs

theorem eqT_refl (t : Tk) : eqT t t = true := by simp [eqT]
theorem eqTs_refl : ∀ l : List Tk, eqTs l l = true
  | [] => rfl
  | t :: l => by rw [eqTs, eqT_refl, eqTs_refl l]; rfl
theorem eqTs_append : ∀ {a b c d : List Tk}, eqTs a b = true → eqTs c d = true → eqTs (a ++ c) (b ++ d) = true
  | [], [], _, _, _, h => h
  | x :: a, y :: b, c, d, h, h' => by
    simp only [eqTs, Bool.and_eq_true, List.cons_append] at h ⊢
    exact ⟨h.1, eqTs_append h.2 h'⟩
  | [], _ :: _, _, _, h, _ => by cases h
  | _ :: _, [], _, _, h, _ => by cases h
theorem sameTs_eq : ∀ (l r : List Tk), sameTs false l r = eqTs l r
  | [], [] => rfl
  | a :: l, b :: r => by
    rw [sameTs, eqTs, sameTs_eq l r, sameT]
    simp
  | [], _ :: _ => rfl
  | _ :: _, [] => rfl

/-- A line's tokens do not hang on its number, nor on the tokens before. -/
theorem lineS_shift : ∀ (n : Nat) (r : List UInt8) (ln ln' col : Int) (out out' x : List Tk) (c : Int), r.length < n → lineS n r ln col out = (out ++ x, c, 0) → out'.length + r.length < 20000 →
    x.length ≤ r.length ∧ ∃ x', lineS n r ln' col out' = (out' ++ x', c, 0) ∧ eqTs x x' = true
  | 0, _, _, _, _, _, _, _, _, h, _, _ => absurd h (Nat.not_lt_zero _)
  | n + 1, r, ln, ln', col, out, out', x, c, hn, h, hl => by
    unfold lineS at h ⊢
    split at h
    · rename_i hc
      rw [if_pos hc]
      simp only [Prod.mk.injEq] at h
      obtain ⟨h1, h2, _⟩ := h
      have hx : x = [] := by simpa using h1.symm
      subst hx
      exact ⟨Nat.zero_le _, [], by rw [List.append_nil, h2], rfl⟩
    · rename_i hc
      rw [if_neg hc]
      have hr : 0 < r.length := List.length_pos_iff.2 fun h => hc (.inl h)
      split at h
      · rename_i hc2
        rw [if_pos hc2]
        have hd : (r.drop 1).length = r.length - 1 := List.length_drop ..
        obtain ⟨h1, x', h2, h3⟩ := lineS_shift n (r.drop 1) ln ln' (col + 1) out out' x c (by omega) h (by omega)
        exact ⟨by omega, x', h2, h3⟩
      · rename_i hc2
        rw [if_neg hc2]
        split at h
        · rename_i he
          simp only [Prod.mk.injEq] at h
          exact absurd h.2.2 he
        · rename_i he
          rw [if_neg he]
          simp only [ne_eq, Decidable.not_not] at he
          split at h
          · simp only [Prod.mk.injEq] at h
            exact absurd h.2.2 (by decide)
          · rw [if_neg (by omega)]
            obtain ⟨hp1, hp2⟩ := tokS_pos hr he
            have hd : (r.drop (tokS r).2.1.toNat).length = r.length - (tokS r).2.1.toNat := List.length_drop ..
            obtain ⟨y, hy⟩ := lineS_pre n (r.drop (tokS r).2.1.toNat) ln (col + (tokS r).2.1) (out ++ [{ (tokS r).1 with line := ln, col := col }])
            have hx : x = { (tokS r).1 with line := ln, col := col } :: y := by
              have := congrArg Prod.fst h
              rw [hy] at this
              simpa using this.symm
            subst hx
            obtain ⟨h1, x', h2, h3⟩ := lineS_shift n (r.drop (tokS r).2.1.toNat) ln ln' (col + (tokS r).2.1) (out ++ [{ (tokS r).1 with line := ln, col := col }]) (out' ++ [{ (tokS r).1 with line := ln', col := col }]) y c (by omega) (by rw [h]; simp) (by rw [List.length_append, List.length_singleton]; omega)
            refine ⟨by rw [List.length_cons]; omega, { (tokS r).1 with line := ln', col := col } :: x', by rw [h2]; simp, ?_⟩
            rw [eqTs, h3]
            simp [eqT]

theorem splitNL_join : ∀ s t : List UInt8, splitNL (s ++ 10 :: t) = splitNL s ++ splitNL t := by
  intro s t
  induction s with
  | nil => simp [splitNL]
  | cons b r ih =>
    simp only [List.cons_append, splitNL, ih]
    split
    · simp
    · cases h : splitNL r with
      | nil => exact absurd h (splitNL_ne r)
      | cons x xs => simp

def totalL (L : List (List UInt8)) : Nat := (L.map fun l => l.length + 1).sum
theorem totalL_cons (l : List UInt8) (L : List (List UInt8)) : totalL (l :: L) = l.length + 1 + totalL L := by simp [totalL]
theorem totalL_split : ∀ s : List UInt8, totalL (splitNL s) = s.length + 1 := by
  intro s
  induction s with
  | nil => simp [splitNL, totalL]
  | cons b r ih =>
    simp only [splitNL]
    split
    · rw [totalL_cons, ih]
      simp only [List.length_nil, List.length_cons]
      omega
    · cases h : splitNL r with
      | nil => exact absurd h (splitNL_ne r)
      | cons x xs =>
        rw [h] at ih
        simp only [totalL_cons, List.length_cons] at ih ⊢
        omega

/-- The lines' tokens do not hang on the number of the first line, nor on the tokens before. -/
theorem scanL_shift : ∀ (L : List (List UInt8)) (ln ln' : Int) (out out' y : List Tk) (p : Int × Int), scanL L ln out = (y, p, 0) → out'.length + totalL L < 20000 → out.length + totalL L < 20000 →
    ∃ x x', y = out ++ x ∧ x.length ≤ totalL L ∧ scanL L ln' out' = (out' ++ x', (0, 0), 0) ∧ eqTs x x' = true
  | [], ln, ln', out, out', y, p, h, _, _ => by
    simp only [scanL, Prod.mk.injEq] at h
    exact ⟨[], [], by rw [List.append_nil, h.1], Nat.zero_le _, by simp [scanL], rfl⟩
  | l :: L, ln, ln', out, out', y, p, h, hl, hl2 => by
    rw [totalL_cons] at hl hl2
    unfold scanL at h ⊢
    split at h
    · rename_i he
      simp only [Prod.mk.injEq] at h
      exact absurd h.2.2 he
    · rename_i he
      simp only [ne_eq, Decidable.not_not] at he
      obtain ⟨x, hx⟩ := lineS_pre (l.length + 1) l ln 1 out
      have hfull : lineS (l.length + 1) l ln 1 out = (out ++ x, (lineS (l.length + 1) l ln 1 out).2.1, 0) := by rw [← hx, ← he]
      obtain ⟨h1, x', h2, h3⟩ := lineS_shift (l.length + 1) l ln ln' 1 out out' x _ (by omega) hfull (by omega)
      have hxl := eqTs_len h3
      rw [h2]
      simp only [ne_eq, not_true_eq_false, if_false]
      rw [hx] at h
      split at h
      · rename_i hlen
        rw [List.length_append] at hlen
        have hx0 : x = [] := List.eq_nil_of_length_eq_zero (by omega)
        have hx0' : x' = [] := List.eq_nil_of_length_eq_zero (by omega)
        subst hx0 hx0'
        rw [if_pos (by simp)]
        obtain ⟨z, z', e1, e2, e3, e4⟩ := scanL_shift L (ln + 1) (ln' + 1) out out' y p h (by omega) (by omega)
        exact ⟨z, z', e1, by rw [totalL_cons]; omega, e3, e4⟩
      · rename_i hlen
        rw [List.length_append] at hlen
        rw [if_neg (by rw [List.length_append]; omega)]
        split at h
        · simp only [Prod.mk.injEq] at h
          exact absurd h.2.2 (by decide)
        · rw [if_neg (by rw [List.length_append]; omega)]
          obtain ⟨z, z', e1, e2, e3, e4⟩ := scanL_shift L (ln + 1) (ln' + 1) (out ++ x ++ [⟨6, [10], 0, (0, 0), ln, (l.length : Int) + 1⟩]) (out' ++ x' ++ [⟨6, [10], 0, (0, 0), ln', (l.length : Int) + 1⟩]) y p h
            (by simp only [List.length_append, List.length_singleton]; omega) (by simp only [List.length_append, List.length_singleton]; omega)
          refine ⟨x ++ [⟨6, [10], 0, (0, 0), ln, (l.length : Int) + 1⟩] ++ z, x' ++ [⟨6, [10], 0, (0, 0), ln', (l.length : Int) + 1⟩] ++ z', by rw [e1]; simp, ?_, by rw [e3]; simp, ?_⟩
          · rw [totalL_cons]
            simp only [List.length_append, List.length_singleton]
            omega
          · refine eqTs_append (eqTs_append h3 ?_) e4
            simp [eqTs, eqT]

theorem scanL_append : ∀ (L1 L2 : List (List UInt8)) (ln : Int) (out o : List Tk) (p : Int × Int), scanL L1 ln out = (o, p, 0) → scanL (L1 ++ L2) ln out = scanL L2 (ln + (L1.length : Int)) o
  | [], L2, ln, out, o, p, h => by
    simp only [scanL, Prod.mk.injEq] at h
    simp [h.1]
  | l :: L, L2, ln, out, o, p, h => by
    have e : ln + ((l :: L).length : Int) = ln + 1 + (L.length : Int) := by simp only [List.length_cons]; omega
    rw [e, List.cons_append]
    obtain ⟨R, hR⟩ : ∃ R, scanL L2 (ln + 1 + (L.length : Int)) o = R := ⟨_, rfl⟩
    rw [hR]
    unfold scanL at h ⊢
    split at h
    · rename_i he
      simp only [Prod.mk.injEq] at h
      exact absurd h.2.2 he
    · rename_i he
      rw [if_neg he]
      split at h
      · rename_i hc
        rw [if_pos hc]
        exact (scanL_append L L2 _ _ _ _ h).trans hR
      · rename_i hc
        rw [if_neg hc]
        split at h
        · simp only [Prod.mk.injEq] at h
          exact absurd h.2.2 (by decide)
        · rename_i hc2
          rw [if_neg hc2]
          exact (scanL_append L L2 _ _ _ _ h).trans hR

theorem law_Joins (s t : List UInt8) (a b : List Tk) (p q : Int × Int) (hs : s.length ≤ 100) (ht : t.length ≤ 100) (h1 : scanS s = (a, p, 0)) (h2 : scanS t = (b, q, 0)) :
    a.length ≤ 20000 ∧ b.length ≤ 20000 ∧ ∃ c r, c.length ≤ 20000 ∧ scanS (s ++ 10 :: t) = (c, r, 0) ∧ sameTs false c (a ++ b) = true := by
  have t1 := totalL_split s
  have t2 := totalL_split t
  unfold scanS at h1 h2 ⊢
  rw [if_neg (by omega)] at h1 h2
  rw [if_neg (by simp only [List.length_append, List.length_cons]; omega), splitNL_join]
  obtain ⟨x, x', e1, e2, _, _⟩ := scanL_shift _ _ 1 _ [] _ _ h1 (by simp only [List.length_nil]; omega) (by simp only [List.length_nil]; omega)
  rw [List.nil_append] at e1
  subst e1
  obtain ⟨z, z', f1, f2, f3, f4⟩ := scanL_shift _ _ (1 + ((splitNL s).length : Int)) _ a _ _ h2 (by omega) (by simp only [List.length_nil]; omega)
  rw [List.nil_append] at f1
  subst f1
  have hl := eqTs_len f4
  refine ⟨by omega, by omega, a ++ z', (0, 0), by rw [List.length_append]; omega, ?_, ?_⟩
  · rw [scanL_append _ _ _ _ _ _ h1, f3]
  · rw [sameTs_eq]
    refine eqTs_append (eqTs_refl a) ?_
    have sym : ∀ {l r : List Tk}, eqTs l r = true → eqTs r l = true := by
      intro l
      induction l with
      | nil => intro r h; cases r with
        | nil => rfl
        | cons _ _ => cases h
      | cons x l ih => intro r h; cases r with
        | nil => cases h
        | cons y r =>
          simp only [eqTs, Bool.and_eq_true] at h ⊢
          refine ⟨?_, ih h.2⟩
          have := h.1
          simp only [eqT, Bool.and_eq_true, decide_eq_true_eq] at this ⊢
          exact ⟨this.1.symm, this.2.1.symm, this.2.2.1.symm, this.2.2.2.symm⟩
    exact sym f4
theorem sameTs_refl (all : Bool) : ∀ l : List Tk, sameTs all l l = true
  | [] => rfl
  | t :: l => by rw [sameTs, sameTs_refl all l, sameT, eqT_refl]; simp
/-- A whole slice appended to a row of one's own. -/
theorem pappend_many {P : Program} {σ : List SObj} {t e : TypeId} {k b s : Nat} {xs ys : List PD} {tk tok : Tok} (hu : P.underlying t = some (.slice e)) (hi : pelem P e = some (k, b)) (hs : ys = [] ∨ s = k) (hr : RowAt σ tok e k xs.length)
    (hm : xs.length + ys.length ≤ 100000000000000) (hb : (xs.length + ys.length) * b ≤ 140737488355328) :
    ∃ tok' σ', pappend P 0 σ t (.slice k xs tok) (.slice s ys tk) = some (.slice k (xs ++ ys) tok', σ') ∧ RowAt σ' tok' e k (xs.length + ys.length) := by
  unfold pelem at hi
  split at hi
  · rename_i i h1
    split at hi
    · rename_i z h2
      split at hi
      · rename_i h3
        simp only [Option.some.injEq, Prod.mk.injEq] at hi
        obtain ⟨rfl, rfl⟩ := hi
        have hmm : xs.length + ys.length ≤ maxLen := by simp only [maxLen]; omega
        have hs' : ys.length = 0 ∨ s = i.size := hs.imp (fun h => by rw [h]; rfl) (fun h => h)
        by_cases hy : ys = []
        · subst hy
          refine ⟨tok, σ, ?_, by simpa using hr⟩
          simp only [pappend, hu, h1, h2]
          rw [if_pos ⟨.inr trivial, hs', h3.2, h3.1, hmm, hb⟩, if_pos (show ([] : List PD).length = 0 from rfl), List.append_nil]
        · have hy0 : ¬ ys.length = 0 := fun h => hy (List.eq_nil_of_length_eq_zero h)
          rcases hr with ⟨hn, rfl⟩ | ⟨hpos, id, rfl, hid⟩
          · refine ⟨.own σ.length, σ ++ [.own e i.size (xs.length + ys.length)], ?_, .inr ⟨by omega, _, rfl, List.getElem?_concat_length⟩⟩
            simp only [pappend, hu, h1, h2]
            rw [if_pos ⟨.inr trivial, hs', h3.2, h3.1, hmm, hb⟩, if_neg hy0]
          · have hlt := (List.getElem?_eq_some_iff.1 hid).1
            refine ⟨.own id, σ.set id (.own e i.size (xs.length + ys.length)), ?_, .inr ⟨by omega, id, rfl, by rw [List.getElem?_set_self hlt]⟩⟩
            simp only [pappend, hu, h1, h2]
            rw [if_pos ⟨.inr trivial, hs', h3.2, h3.1, hmm, hb⟩, if_neg hy0, if_pos ⟨Nat.zero_le _, trivial⟩, hid]
            simp
      · cases hi
    · cases hi
  · cases hi
end Go.Kz

/-
  The table of the lexer's functions.
-/
namespace Go.Kz
open Go Go.Proofs
set_option maxRecDepth 10000

noncomputable def EL0 : PExt := fun _ => none
theorem EL0_uni : Uni EL0 := Uni.none
theorem EL0_ok : ExtOk Tryd.prog EL0 := noExt _
theorem r_gcdI {E : PExt} (hU : Uni E) (h0 : E 85 = none) {x y : Int} (h : 0 ≤ x ∧ x ≤ 9223372036854775807 ∧ 0 ≤ y ∧ y ≤ 9223372036854775807) : Run Tryd.prog E 85 [u64.emb x, u64.emb y] (u64.emb ((x.toNat.gcd y.toNat : Nat) : Int)) := by
  obtain ⟨a, rfl⟩ : ∃ a : Nat, x = a := ⟨x.toNat, by omega⟩
  obtain ⟨b, rfl⟩ : ∃ b : Nat, y = b := ⟨y.toNat, by omega⟩
  exact r_gcd hU h0 a b (by omega) (by omega)
theorem r_MakeI {E : PExt} (hU : Uni E) (h0 : E 67 = none) (h1 : E 84 = some (entry (gf1 i64 u64 fun n => gif (0 ≤ n ∧ n ≤ 9223372036854775807) (some n))))
    (h2 : E 85 = some (entry (gf2 u64 u64 u64 fun a b => gif (0 ≤ a ∧ a ≤ 9223372036854775807 ∧ 0 ≤ b ∧ b ≤ 9223372036854775807) (some (a.toNat.gcd b.toNat : Nat)))))
    {x y : Int} (h : 0 ≤ x ∧ x ≤ 9000000000000000000 ∧ 0 < y ∧ y ≤ 9000000000000000000) : Run Tryd.prog E 67 [i64.emb x, i64.emb y] ((Em.frac.tup2 i64).emb (makeF x.toNat y.toNat)) := by
  obtain ⟨a, rfl⟩ : ∃ a : Nat, x = a := ⟨x.toNat, by omega⟩
  obtain ⟨b, rfl⟩ : ∃ b : Nat, y = b := ⟨y.toNat, by omega⟩
  exact r_Make hU h0 h1 h2 a b (by omega) (by omega) (by omega)

noncomputable def EL1 : PExt := EL0.add 31 (entry (gf2 .text .text texts fun s c => gif (c = [10] ∧ (s.length : Int) < 4000000000) (some (splitNL s))))
theorem EL1_uni : Uni EL1 := EL0_uni.entry
theorem EL1_ok : ExtOk Tryd.prog EL1 := lib_Split EL0_ok
noncomputable def EL2 : PExt := EL1.add 60 (entry (gf1 i64 .text fun n => gif (-9223372036854775808 ≤ n ∧ n ≤ 9223372036854775807) (some (Lib.itoa n))))
theorem EL2_uni : Uni EL2 := EL1_uni.entry
theorem EL2_ok : ExtOk Tryd.prog EL2 := lib_Itoa EL1_ok
noncomputable def EL3 : PExt := EL2.add 54 (entry (gf2 .text u8 i64 fun s n => gif (0 ≤ n ∧ n ≤ 255) (some (Lib.indexByte s n.toNat.toUInt8))))
theorem EL3_uni : Uni EL3 := EL2_uni.entry
theorem EL3_ok : ExtOk Tryd.prog EL3 := lib_IndexByte EL2_ok
noncomputable def EL4 : PExt := EL3.add 55 (entry (gf2 .text .text .bool fun s t => some (Lib.hasPrefix s t)))
theorem EL4_uni : Uni EL4 := EL3_uni.entry
theorem EL4_ok : ExtOk Tryd.prog EL4 := lib_HasPrefix EL3_ok
noncomputable def EL5 : PExt := EL4.add 68 (entry (gf2 .text .text .text fun s t => some (Lib.trimPrefix s t)))
theorem EL5_uni : Uni EL5 := EL4_uni.entry
theorem EL5_ok : ExtOk Tryd.prog EL5 := lib_TrimPrefix EL4_ok
noncomputable def EL6 : PExt := EL5.add 56 gCheck
theorem EL6_uni : Uni EL6 := EL5_uni.other (by
    intro args p h
    simp [gCheck] at h
    split at h <;> cases h)
theorem EL6_ok : ExtOk Tryd.prog EL6 := lib_Check EL5_ok
noncomputable def EL7 : PExt := EL6.add 35 gText
theorem EL7_uni : Uni EL7 := EL6_uni.other (by
    intro args p h
    simp [gText] at h
    split at h <;> cases h)
theorem EL7_ok : ExtOk Tryd.prog EL7 := lib_Text EL6_ok
noncomputable def EL8 : PExt := EL7.add 34 gWS
theorem EL8_uni : Uni EL8 := EL7_uni.other (by
    intro args p h
    simp [gWS, gPut] at h
    split at h <;> cases h)
theorem EL8_ok : ExtOk Tryd.prog EL8 := lib_WS EL7_ok EL7_uni rfl rfl
noncomputable def EL9 : PExt := EL8.add 33 gWB
theorem EL9_uni : Uni EL9 := EL8_uni.other (by
    intro args p h
    simp [gWB, gPut] at h
    split at h <;> cases h)
theorem EL9_ok : ExtOk Tryd.prog EL9 := lib_WB EL8_ok EL8_uni rfl rfl
noncomputable def Ea1 : PExt := EL9.add 47 (entry (gf1 u8 .bool fun n => some (letN n)))
theorem Ea1_uni : Uni Ea1 := EL9_uni.entry
theorem Ea1_ok : ExtOk Tryd.prog Ea1 := EL9_ok.add1 follows (fun x z hz => by simp only [Option.some.injEq] at hz; subst hz; exact r_letter EL9_uni rfl x)
noncomputable def Ea2 : PExt := Ea1.add 50 (entry (gf1 u8 .bool fun n => some (digN n)))
theorem Ea2_uni : Uni Ea2 := Ea1_uni.entry
theorem Ea2_ok : ExtOk Tryd.prog Ea2 := Ea1_ok.add1 follows (fun x z hz => by simp only [Option.some.injEq] at hz; subst hz; exact r_digit Ea1_uni rfl x)
noncomputable def Ea3 : PExt := Ea2.add 49 (entry (gf1 u8 .bool fun n => some (wordN n)))
theorem Ea3_uni : Uni Ea3 := Ea2_uni.entry
theorem Ea3_ok : ExtOk Tryd.prog Ea3 := Ea2_ok.add1 follows (fun x z hz => by simp only [Option.some.injEq] at hz; subst hz; exact r_first1 Ea2_uni rfl rfl rfl x)
noncomputable def Ea4 : PExt := Ea3.add 48 (entry gWhile)
theorem Ea4_uni : Uni Ea4 := Ea3_uni.entry
theorem Ea4_ok : ExtOk Tryd.prog Ea4 := while_ok Ea3_uni Ea3_ok rfl rfl rfl
noncomputable def Eb1 : PExt := Ea4.add 51 (entry (gf1 .text (Em.parts.tup2 i64) fun s => gif ((s.length : Int) < 4000000000) (some (partsS s))))
theorem Eb1_uni : Uni Eb1 := Ea4_uni.entry
theorem Eb1_ok : ExtOk Tryd.prog Eb1 := Ea4_ok.add1 follows (fun x z hz => by obtain ⟨hg, hz⟩ := gif_some hz; simp only [Option.some.injEq] at hz; subst hz; exact r_parts Ea4_uni rfl rfl x hg)
noncomputable def Eb2 : PExt := Eb1.add 66 (entry (gf2 .text i64 (i64.tup2 .bool) fun s m => gif (allDig s ∧ 0 ≤ m ∧ m ≤ 2000000000 ∧ (s.length : Int) < 4000000000) (some (valP s m))))
theorem Eb2_uni : Uni Eb2 := Eb1_uni.entry
theorem Eb2_ok : ExtOk Tryd.prog Eb2 := Eb1_ok.add2 follows (fun x y z hz => by obtain ⟨hg, hz⟩ := gif_some hz; simp only [Option.some.injEq] at hz; subst hz; exact r_value Eb1_uni rfl x y hg.1 hg.2.1 hg.2.2.1 hg.2.2.2)
noncomputable def Eb3 : PExt := Eb2.add 84 (entry (gf1 i64 u64 fun n => gif (0 ≤ n ∧ n ≤ 9223372036854775807) (some n)))
theorem Eb3_uni : Uni Eb3 := Eb2_uni.entry
theorem Eb3_ok : ExtOk Tryd.prog Eb3 := Eb2_ok.add1 follows (fun x z hz => by obtain ⟨hg, hz⟩ := gif_some hz; simp only [Option.some.injEq] at hz; subst hz; exact r_magnitude Eb2_uni rfl x hg.1 hg.2)
noncomputable def Eb4 : PExt := Eb3.add 85 (entry (gf2 u64 u64 u64 fun a b => gif (0 ≤ a ∧ a ≤ 9223372036854775807 ∧ 0 ≤ b ∧ b ≤ 9223372036854775807) (some (a.toNat.gcd b.toNat : Nat))))
theorem Eb4_uni : Uni Eb4 := Eb3_uni.entry
theorem Eb4_ok : ExtOk Tryd.prog Eb4 := Eb3_ok.add2 follows (fun x y z hz => by obtain ⟨hg, hz⟩ := gif_some hz; simp only [Option.some.injEq] at hz; subst hz; exact r_gcdI Eb3_uni rfl hg)
noncomputable def Eb5 : PExt := Eb4.add 67 (entry (gf2 i64 i64 (Em.frac.tup2 i64) fun n d => gif (0 ≤ n ∧ n ≤ 9000000000000000000 ∧ 0 < d ∧ d ≤ 9000000000000000000) (some (makeF n.toNat d.toNat))))
theorem Eb5_uni : Uni Eb5 := Eb4_uni.entry
theorem Eb5_ok : ExtOk Tryd.prog Eb5 := Eb4_ok.add2 follows (fun x y z hz => by obtain ⟨hg, hz⟩ := gif_some hz; simp only [Option.some.injEq] at hz; subst hz; exact r_MakeI Eb4_uni rfl rfl rfl hg)
noncomputable def Eb6 : PExt := Eb5.add 52 (entry (gf1 .parts (Em.tk.tup2 i64) fun p => gif (allDig p.1 ∧ allDig p.2.1 ∧ allDig p.2.2 ∧ (p.1.length : Int) < 4000000000 ∧ (p.2.1.length : Int) < 4000000000 ∧ (p.2.2.length : Int) < 4000000000) (some (feetS p))))
theorem Eb6_uni : Uni Eb6 := Eb5_uni.entry
theorem Eb6_ok : ExtOk Tryd.prog Eb6 := Eb5_ok.add1 follows (fun x z hz => by obtain ⟨hg, hz⟩ := gif_some hz; simp only [Option.some.injEq] at hz; subst hz; exact r_feet Eb5_uni rfl rfl rfl rfl x hg.1 hg.2.1 hg.2.2.1 hg.2.2.2.1 hg.2.2.2.2.1 hg.2.2.2.2.2)
noncomputable def Eb7 : PExt := Eb6.add 53 (entry (gf1 .text (Em.tk.tup2 i64) fun s => gif (0 < s.length ∧ allDig (Lib.trimPrefix s [45]) ∧ (s.length : Int) < 4000000000) (some (numS s))))
theorem Eb7_uni : Uni Eb7 := Eb6_uni.entry
theorem Eb7_ok : ExtOk Tryd.prog Eb7 := Eb6_ok.add1 follows (fun x z hz => by obtain ⟨hg, hz⟩ := gif_some hz; simp only [Option.some.injEq] at hz; subst hz; exact r_number Eb6_uni rfl rfl rfl rfl x hg.1 hg.2.1 hg.2.2)
noncomputable def Eb8 : PExt := Eb7.add 32 (entry (gf1 .text (Em.tk.tup3 i64 i64) fun s => gif (0 < s.length ∧ (s.length : Int) < 4000000000) (some (tokS s))))
theorem Eb8_uni : Uni Eb8 := Eb7_uni.entry
theorem Eb8_ok : ExtOk Tryd.prog Eb8 := Eb7_ok.add1 follows (fun x z hz => by obtain ⟨hg, hz⟩ := gif_some hz; simp only [Option.some.injEq] at hz; subst hz; exact r_first Eb7_uni rfl rfl rfl rfl rfl rfl rfl rfl rfl x hg.1 hg.2)
noncomputable def Eb9 : PExt := Eb8.add 12 (entry (gf1 .text (tks.tup3 .pos i64) fun s => gif ((s.length : Int) < 4000000000) (some (scanS s))))
theorem Eb9_uni : Uni Eb9 := Eb8_uni.entry
theorem Eb9_ok : ExtOk Tryd.prog Eb9 := Eb8_ok.add1 follows (fun x z hz => by obtain ⟨hg, hz⟩ := gif_some hz; simp only [Option.some.injEq] at hz; subst hz; exact r_Scan Eb8_uni rfl rfl rfl x hg)
noncomputable def Eb10 : PExt := Eb9.add 18 (entry (gf2 .tk .tk .bool fun a b => some (eqT a b)))
theorem Eb10_uni : Uni Eb10 := Eb9_uni.entry
theorem Eb10_ok : ExtOk Tryd.prog Eb10 := Eb9_ok.add2 follows (fun x y z hz => by simp only [Option.some.injEq] at hz; subst hz; exact r_Equal Eb9_uni rfl x y)
noncomputable def gEqualFunc : List PD → Option PD := fun args => match args with | [a, b, .func 18 []] => gf2 tks tks .bool (fun x y => gif (y.length ≤ 100000000000) (some (eqTs x y))) [a, b] | _ => none
noncomputable def Eb11 : PExt := Eb10.add 36 (entry gEqualFunc)
theorem Eb11_uni : Uni Eb11 := Eb10_uni.entry
theorem Eb11_ok : ExtOk Tryd.prog Eb11 := by
  refine Eb10_ok.addFree follows fun args p hg => ?_
  unfold gEqualFunc at hg
  split at hg
  · rename_i a b
    simp only [gf2] at hg
    split at hg
    · rename_i x y hx hy
      split at hg
      · rename_i z hz
        obtain ⟨hl, hz⟩ := gif_some hz
        simp only [Option.some.injEq] at hg hz
        subst hg hz
        have fa : a.strip.idfree = true := by rw [Em.of_dec hx]; exact tks.fre x
        have fb : b.strip.idfree = true := by rw [Em.of_dec hy]; exact tks.fre y
        obtain ⟨p1, σ1, e1, e2⟩ := r_EqualFunc Eb10_uni rfl rfl x y hl
        exact ⟨p1, σ1, by simpa [PD.strip, Em.of_dec hx, Em.of_dec hy] using e1, e2, by simp [PD.strip, PD.idfreeL, PD.idfree, fa, fb], rfl⟩
      · cases hg
    · cases hg
  · cases hg
noncomputable def Ec1 : PExt := Eb11.add 13 (entry (gf1 tks (Em.text.tup2 i64) fun l => gif ((writeL none l).length < 4000000000) (some (writeS l))))
theorem Ec1_uni : Uni Ec1 := Eb11_uni.entry
theorem Ec1_ok : ExtOk Tryd.prog Ec1 := Eb11_ok.add1 follows (fun x z hz => by obtain ⟨hg, hz⟩ := gif_some hz; simp only [Option.some.injEq] at hz; subst hz; exact r_Write Eb11_uni rfl rfl rfl rfl rfl eqTs rfl x hg)
noncomputable def Ec2 : PExt := Ec1.add 19 (entry (gf2 .tk .tk .bool fun a b => some (eqT a b)))
theorem Ec2_uni : Uni Ec2 := Ec1_uni.entry
theorem Ec2_ok : ExtOk Tryd.prog Ec2 := Ec1_ok.add2 follows (fun x y z hz => by simp only [Option.some.injEq] at hz; subst hz; exact r_equal Ec1_uni rfl x y)
noncomputable def Ec3 : PExt := Ec2.add 14 (entry (gf3 tks tks .bool .bool fun l r all => gif (l.length ≤ 100000000000) (some (sameTs all l r))))
theorem Ec3_uni : Uni Ec3 := Ec2_uni.entry
theorem Ec3_ok : ExtOk Tryd.prog Ec3 := Ec2_ok.add3 follows (fun x y u z hz => by obtain ⟨hg, hz⟩ := gif_some hz; simp only [Option.some.injEq] at hz; subst hz; exact r_same Ec2_uni rfl rfl x y u hg)
noncomputable def Ec4 : PExt := Ec3.add 11 (entry (gf0 .bool (some true)))
theorem Ec4_uni : Uni Ec4 := Ec3_uni.entry
theorem Ec4_ok : ExtOk Tryd.prog Ec4 := Ec3_ok.add0 follows (fun z hz => by simp only [Option.some.injEq] at hz; subst hz; exact r_known Ec3_uni rfl rfl rfl)
end Go.Kz

/-
  What the laws of layer 19 are handed, as typed data; the tables that lie in the world.
-/
namespace Go.Proofs.YtngmkfjeekpnpaaDoor
open Go Go.Kz Go.ChangeShapes Go.WideShapes Go.ChangeAt Go.WideMaps Go.WideElems Go.RowKit
set_option maxRecDepth 100000

theorem own : ownKnob Tryd.prog.godebug = none := by kernel_rfl
theorem laidOut : laidOutB Tryd.prog = true := by kernel_rfl

abbrev laidL : List (String × DataW Unit) := [("math/bits.deBruijn32tab", Rows.laid_math_bits_deBruijn32tab), ("math/bits.deBruijn64tab", Rows.laid_math_bits_deBruijn64tab), ("internal/strconv.uint64pow10", Rows.laid_internal_strconv_uint64pow10), ("unicode/utf8.acceptRanges", Rows.laid_unicode_utf8_acceptRanges), ("unicode/utf8.first", Rows.laid_unicode_utf8_first)]
theorem laidL_plain : (laidL.all fun x => x.2.handleName?.isNone) = true := by decide +kernel

def pow10 : List Int := match gtab 3 with | some (_, xs) => xs | none => []
theorem gtab3 : gtab 3 = some (.u64, pow10) := rfl
theorem gtab_ne {g : Nat} (h : g ≠ 3) : gtab g = none := by unfold gtab; rw [if_neg h]
theorem gint_ne {g : Nat} (h : g ≠ 0) : gint g = none := by unfold gint; rw [if_neg h]

theorem glob {W : World} (hs : W.ShapedOpen Tryd.prog) (h : laidMetH Tryd.prog laidL W) : Gl (.start W) := by
  rw [MakeChecks.laidMetH_plain _ _ _ laidL_plain] at h
  obtain ⟨ps, hv, _, _⟩ := h
  obtain ⟨T, fz, h3⟩ := held_of_laid (P := Tryd.prog) (nm := "internal/strconv.uint64pow10") (k := .u64) (xs := pow10) (g := 3) (n := 20) hv (List.Mem.tail _ (List.Mem.tail _ (List.Mem.head _))) (by kernel_rfl) (t := 140) (by kernel_rfl) Tryd.underlying140 Tryd.underlying122 (by kernel_rfl) (by kernel_rfl)
  obtain ⟨m, T0, fz0, h0⟩ := int_of_shaped (g := 0) (t := 3) (k := .i64) (zero := #[.int .i64 0]) hs (by decide +kernel) (by kernel_rfl) rfl (by kernel_rfl) (by kernel_rfl) Tryd.underlying3
  refine ⟨?_, ?_⟩
  · intro g ds hg
    by_cases e : g = 3
    · subst e
      simp only [gcells, gtab3, Option.some.injEq] at hg
      subst hg
      exact eptr_of_held h3
    · simp only [gcells, gtab_ne e] at hg
      cases hg
  · intro g hg
    refine ⟨?_, fun id hd => hd.elim⟩
    by_cases e : g = 3
    · subst e
      refine ⟨_, T, fz, h3, ?_, ?_⟩
      · intro k zs hk
        rw [gtab3] at hk
        simp only [Option.some.injEq, Prod.mk.injEq] at hk
        obtain ⟨rfl, rfl⟩ := hk
        rfl
      · intro k hk
        rw [gint_ne (by decide)] at hk
        cases hk
    · by_cases e0 : g = 0
      · subst e0
        refine ⟨_, T0, fz0, h0, ?_, ?_⟩
        · intro k zs hk
          rw [gtab_ne e] at hk
          cases hk
        · intro k hk
          have : k = .i64 := by
            have : gint 0 = some .i64 := rfl
            rw [this] at hk
            exact (Option.some.inj hk).symm
          subst this
          exact ⟨m, rfl⟩
      · unfold gheld at hg
        rw [gtab_ne e, gint_ne e0] at hg
        cases hg

/-- A world as the door's, the last table laid by hand. -/
noncomputable def lexDoor (os : Os) : World := { World.doorLaid Tryd.prog 400 os with heap := (World.doorLaid Tryd.prog 400 os).heap.modify ((Tryd.prog.globalNamed "unicode/utf8.first").getD 0) fun o => match o with
  | .cells _ t fz => .cells ((Go.Pinned.utf8FirstZ.map fun (n : Nat) => Value.int .u8 n).toArray) t fz
  | o => o }
theorem door_met (os : Os) (args : Array Value) : laidMetH Tryd.prog laidL ((lexDoor os).forCall (fun _ _ => 0) ⟨#[], args, []⟩).memory :=
  laidMetH_of_parts3 (fuel := 8) (laidMet_of_run' 8 (by kernel_rfl) (by kernel_rfl)) (by kernel_rfl) (by kernel_rfl)
theorem named : (Tryd.prog.funcs.toList.all fun fn => !(fn.name == "runtime.NumGoroutine")) = true := by kernel_rfl
theorem names (f : FuncId) (fn : Func) (h : Tryd.prog.funcs[f]? = some fn) : (fn.name == "runtime.NumGoroutine") = false := by
  have := List.all_eq_true.1 named fn (Array.mem_toList_iff.2 (Array.mem_of_getElem? h))
  simpa using this

theorem ty_text {d : Nat} {qs : List PD} (h : Typed Tryd.prog (d + 2) 9 qs) : ∃ s : List UInt8, asPD Tryd.prog 9 qs = .str s := by
  obtain ⟨s, rfl, _⟩ := typed_str Tryd.underlying9 h
  exact ⟨s, by rfl⟩
end Go.Proofs.YtngmkfjeekpnpaaDoor
