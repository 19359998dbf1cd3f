/-
  SpanLeast holds: the law answers true, whatever it is handed.
-/
import Derived.Test.YtclleofcjnggaaaDoorP7
import Derived.Test.YtclleofcjnggaaaDoorP4
import Derived.KernelRfl
import Derived.Test.YtclleofcjnggaaaDoorP5
set_option linter.all false

/-
  Layer 11: the least span, in plain words.
-/
namespace Go.Kz
open Go Go.Proofs

def withHs (p : Player) (w : Int) : Player := ⟨p.hn, w, p.fn, p.fs⟩

/-- What a division of a list asks for. -/
def cost (l : List Int) (t : Nat) : Int := max (widthP (l.take t)) (widthP (l.drop t))
/-- The parts are not too long. -/
def fitsN (p : Player) (l : List Int) (t : Nat) : Bool := decide (((l.take t).length : Int) ≤ p.hn) && decide (((l.drop t).length : Int) ≤ p.hn)

def leastStep (l : List Int) (st : Int × Bool) (t : Nat) : Int × Bool := if st.2 = false ∨ cost l t < st.1 then (cost l t, true) else st
def leastL (l : List Int) (ts : List Nat) : Int × Bool := ts.foldl (leastStep l) (0, false)

theorem widthP_range {s : Notes} {l : List Int} (h : ∀ n ∈ l, n ∈ s.list) (hs : l.Pairwise (· < ·)) : 0 ≤ widthP l ∧ widthP l ≤ 127 := by
  unfold widthP
  by_cases hn : l = []
  · subst hn; simp
  · have m1 := head_mem hn
    have m2 := last_mem hn
    have r1 := list_range (h _ m1)
    have r2 := list_range (h _ m2)
    have := head_le hs m2
    rw [wrap_i64 (by omega) (by omega)]
    omega

theorem cost_range (s : Notes) (t : Nat) : 0 ≤ cost s.list t ∧ cost s.list t ≤ 127 := by
  have h1 := widthP_range (s := s) (l := s.list.take t) (fun n hn => List.mem_of_mem_take hn) ((list_sorted s).sublist (List.take_sublist _ _))
  have h2 := widthP_range (s := s) (l := s.list.drop t) (fun n hn => List.mem_of_mem_drop hn) ((list_sorted s).sublist (List.drop_sublist _ _))
  unfold cost
  omega

theorem ok1_cost (p : Player) (l : List Int) (t : Nat) (w : Int) : ok1 (withHs p w) l t = (fitsN p l t && decide (cost l t ≤ w)) := by
  have e1 : ∀ x, oneOk (withHs p w) x = (decide ((x.length : Int) ≤ p.hn) && decide (widthP x ≤ w)) := fun x => rfl
  unfold ok1 fitsN cost
  rw [e1, e1, Bool.eq_iff_iff]
  simp only [Bool.and_eq_true, decide_eq_true_eq]
  omega

theorem divs127 (p : Player) (s : Notes) : divs1 (withHs p 127) s.list = (List.range (s.list.length + 1)).filter (fitsN p s.list) := by
  unfold divs1
  apply List.filter_congr
  intro t _
  rw [ok1_cost]
  have := (cost_range s t).2
  simp [this]

theorem least_spec (l : List Int) : ∀ (ts : List Nat) (st : Int × Bool), (st.2 = false → st.1 = 0) →
    ((ts.foldl (leastStep l) st).2 = false → ts = [] ∧ st.2 = false ∧ (ts.foldl (leastStep l) st).1 = 0) ∧
    ((ts.foldl (leastStep l) st).2 = true → ((∃ t ∈ ts, (ts.foldl (leastStep l) st).1 = cost l t) ∨ (st.2 = true ∧ (ts.foldl (leastStep l) st).1 = st.1)) ∧ (∀ t ∈ ts, (ts.foldl (leastStep l) st).1 ≤ cost l t) ∧ (st.2 = true → (ts.foldl (leastStep l) st).1 ≤ st.1))
  | [], st, h => ⟨fun h1 => ⟨rfl, h1, h h1⟩, fun h1 => ⟨.inr ⟨h1, rfl⟩, by simp, fun _ => Int.le_refl _⟩⟩
  | t :: ts, st, h => by
    rw [List.foldl_cons]
    by_cases hc : st.2 = false ∨ cost l t < st.1
    · have e : leastStep l st t = (cost l t, true) := if_pos hc
      rw [e]
      obtain ⟨h1, h2⟩ := least_spec l ts (cost l t, true) (by simp)
      refine ⟨fun h3 => absurd ((h1 h3).2.1) (by simp), fun h3 => ?_⟩
      obtain ⟨a1, a2, a3⟩ := h2 h3
      have a3 := a3 rfl
      simp only at a3
      refine ⟨?_, ?_, fun hst => ?_⟩
      · rcases a1 with ⟨u, hu, e2⟩ | ⟨_, e2⟩
        · exact .inl ⟨u, by simp [hu], e2⟩
        · exact .inl ⟨t, by simp, e2⟩
      · intro u hu
        rcases List.mem_cons.1 hu with rfl | hu
        · exact a3
        · exact a2 u hu
      · rcases hc with hc | hc
        · rw [hst] at hc; cases hc
        · omega
    · have e : leastStep l st t = st := if_neg hc
      rw [e]
      have hst : st.2 = true := by
        cases hq : st.2 with
        | true => rfl
        | false => exact absurd (.inl hq) hc
      obtain ⟨h1, h2⟩ := least_spec l ts st h
      refine ⟨fun h3 => absurd ((h1 h3).2.1) (by rw [hst]; simp), fun h3 => ?_⟩
      obtain ⟨a1, a2, a3⟩ := h2 h3
      refine ⟨?_, ?_, a3⟩
      · rcases a1 with ⟨u, hu, e2⟩ | e2
        · exact .inl ⟨u, by simp [hu], e2⟩
        · exact .inr e2
      · intro u hu
        rcases List.mem_cons.1 hu with rfl | hu
        · have := a3 hst
          omega
        · exact a2 u hu

/-- What Least answers for a right player. -/
def leastF (p : Player) (s : Notes) : Int × Bool × Int := ((leastL s.list (divs1 (withHs p 127) s.list)).1, (leastL s.list (divs1 (withHs p 127) s.list)).2, 0)

theorem held_cost (p : Player) (s : Notes) (w : Int) (hw : 0 ≤ w) : heldF (withHs p w) s = true ↔ ∃ t ∈ divs1 (withHs p 127) s.list, cost s.list t ≤ w := by
  rw [held_divs _ _ (show ¬ (withHs p w).hs < 0 by show ¬ w < 0; omega), divs127, decide_eq_true_eq]
  have key : divs1 (withHs p w) s.list ≠ [] ↔ ∃ t, t ∈ divs1 (withHs p w) s.list := by
    constructor
    · intro h
      obtain ⟨x, xs, e⟩ := List.exists_cons_of_ne_nil h
      exact ⟨x, by rw [e]; simp⟩
    · rintro ⟨t, ht⟩ h
      rw [h] at ht
      simp at ht
  rw [key]
  unfold divs1
  simp only [List.mem_filter, List.mem_range, ok1_cost, Bool.and_eq_true, decide_eq_true_eq]
  constructor
  · rintro ⟨t, h1, h2, h3⟩
    exact ⟨t, ⟨h1, h2⟩, h3⟩
  · rintro ⟨t, ⟨h1, h2⟩, h3⟩
    exact ⟨t, h1, h2, h3⟩

theorem least_none (p : Player) (s : Notes) (h : (leastL s.list (divs1 (withHs p 127) s.list)).2 = false) : (leastL s.list (divs1 (withHs p 127) s.list)).1 = 0 ∧ ∀ w, 0 ≤ w → heldF (withHs p w) s = false := by
  obtain ⟨h1, _⟩ := least_spec s.list (divs1 (withHs p 127) s.list) (0, false) (fun _ => rfl)
  obtain ⟨a1, _, a3⟩ := h1 h
  refine ⟨a3, fun w hw => ?_⟩
  cases hh : heldF (withHs p w) s with
  | false => rfl
  | true =>
    obtain ⟨t, ht, _⟩ := (held_cost p s w hw).1 hh
    rw [a1] at ht
    simp at ht
theorem least_some (p : Player) (s : Notes) (h : (leastL s.list (divs1 (withHs p 127) s.list)).2 = true) :
    0 ≤ (leastL s.list (divs1 (withHs p 127) s.list)).1 ∧ (leastL s.list (divs1 (withHs p 127) s.list)).1 ≤ 127 ∧ ∀ w, 0 ≤ w → heldF (withHs p w) s = decide ((leastL s.list (divs1 (withHs p 127) s.list)).1 ≤ w) := by
  obtain ⟨_, h2⟩ := least_spec s.list (divs1 (withHs p 127) s.list) (0, false) (fun _ => rfl)
  obtain ⟨a1, a2, _⟩ := h2 h
  have e : (divs1 (withHs p 127) s.list).foldl (leastStep s.list) (0, false) = leastL s.list (divs1 (withHs p 127) s.list) := rfl
  rw [e] at a1 a2
  generalize leastL s.list (divs1 (withHs p 127) s.list) = x at *
  rcases a1 with ⟨t, ht, e1⟩ | ⟨e1, _⟩
  · have hr := cost_range s t
    refine ⟨by omega, by omega, fun w hw => ?_⟩
    rw [Bool.eq_iff_iff, held_cost p s w hw, decide_eq_true_eq]
    constructor
    · rintro ⟨u, hu, hc⟩
      have := a2 u hu
      omega
    · intro hle
      exact ⟨t, ht, by omega⟩
  · cases e1

theorem divs1_len (p : Player) (l : List Int) : (divs1 p l).length ≤ l.length + 1 := by
  unfold divs1
  exact Nat.le_trans (List.length_filter_le _ _) (by simp)
theorem divs1_mem {p : Player} {l : List Int} {t : Nat} (h : t ∈ divs1 p l) : t ≤ l.length ∧ ok1 p l t = true := by
  unfold divs1 at h
  rw [List.mem_filter, List.mem_range] at h
  exact ⟨by omega, h.2⟩

end Go.Kz

/-
  Layer 11: Least.
-/
namespace Go.Kz
open Go Go.Proofs

def leastG (p : Player) (s : Notes) : Int × Bool × Int := if errOf p = 0 then leastF p s else (0, false, errOf p)

variable {E : PExt} (hU : Uni E)
include hU
set_option maxRecDepth 10000
set_option maxHeartbeats 4000000

theorem r_Least (h0 : E 21 = none) (h1 : E 35 = some (entry (gf1 .player i64 fun p => some (errOf p)))) (h2 : E 38 = some (entry (gf1 .notes i64s fun s => some s.list)))
    (h3 : E 39 = some gDiv) (h4 : E 53 = none) (h5 : E 43 = some (entry (gf2 .player i64s .bool fun p l => gif ((l.length : Int) < 1000000) (some (oneOk p l)))))
    (h6 : E 41 = some (entry (gf1 i64s i64 fun l => gif ((l.length : Int) < 1000000) (some (widthP l))))) (p : Player) (s : Notes) :
    Run Tryd.prog E 21 [Em.player.emb p, Em.notes.emb s] ((i64.tup3 .bool i64).emb (leastG p s)) := by
  apply Run.bodyL h0 Tryd.func21 rfl
  focus (simp [show Tryd.f21.ntmps = _ from rfl, List.replicate]; rfl)
  by_cases h : errOf p = 0
  · have hlen : s.list.length ≤ 128 := listTo_len s 128
    repeat (first
      | (refine Fr.i ?_; simp only [pput, List.set_cons_zero, List.set_cons_succ]; try rfl)
      | (refine By.i ?_; simp (disch := first | omega | (simp; done) | (simp; omega)) [wrap_i64, wrap_u64, h, h1, h2, h3, gDiv, entry, gf1]; first | done | rfl | exact ⟨rfl, rfl⟩)
      | (refine Wt.i ?_; first | rfl | (simp [h, h1, h2, h3, gDiv, entry, gf1]; done))
      | (refine Ns.i ?_; (try simp only [List.append_nil, List.nil_append, List.cons_append, List.append_assoc, List.length_append, List.length_cons, List.length_nil, Nat.zero_add, Nat.reduceAdd]); rfl) | rfl
      | (apply SL.pass; (focus (refine Wt.i ?_; rfl))) | apply SL.move | apply SL.assign | apply SL.load | apply SL.binOp | apply SL.append | apply SL.builtin | apply SL.fieldAddr | apply SL.indexAddr | apply SL.field | apply SL.extract
      | apply SL.fcall | apply SL.pick | apply SL.store | apply SL.unOp | apply SL.convert | apply SL.index | apply SL.slice | apply SL.build | apply SL.nilCheck | apply SL.buildSlice | apply SL.box | apply SL.alloc | apply SL.makeFunc
      | apply SQ.nil | (apply WL.reg; (focus decide +kernel)) | (apply WL.drawP (by assumption); (focus decide +kernel); (focus decide +kernel)) | (apply WL.drawF; (focus decide +kernel); (focus decide +kernel))
      | (apply WL.reg1; (focus decide +kernel)) | (apply WL.drawP1 (by assumption); (focus decide +kernel); (focus decide +kernel)) | (apply WL.drawF1; (focus decide +kernel); (focus decide +kernel)) | apply WL.skip
      | (apply WL.ct; (focus rfl)) | (apply WL.cf; (focus rfl)) | refine SeqQ.normal ?_ | refine SeqQ.ret ?_ | refine SeqQ.exit ?_ | refine BlockQ.normal ?_ | refine BlockQ.ret ?_ | refine BlockQ.here ?_ | refine BlockQ.there (by decide) ?_
      | refine Wp.block ?_ | refine Wp.skip ?_ | refine Wp.ret ?_ | refine Wp.exit ?_ | refine LoopI.ret ?_ | refine LoopI.exit ?_ | refine LoopQ.normal ?_ | refine LoopQ.ret ?_ | refine LoopQ.exit ?_ | refine Wp.seq (Wp.seq ?_)
      | refine Wp.seq (Wp.block ?_) | (refine Wp.seq ?_; apply WL.ct; (focus rfl)) | (refine Wp.seq ?_; apply WL.cf; (focus rfl)))
    obtain ⟨D, hD⟩ : ∃ D, D = divs1 (withHs p 127) s.list := ⟨_, rfl⟩
    obtain ⟨l, hl⟩ : ∃ l, l = s.list := ⟨_, rfl⟩
    have hmem : ∀ t ∈ D, t ≤ l.length := fun t ht => by rw [hD] at ht; rw [hl]; exact (divs1_mem ht).1
    have hfin : leastG p s = ((leastL l D).1, (leastL l D).2, 0) := by rw [leastG, if_pos h, leastF, ← hD, ← hl]
    rw [hfin, ← hl]
    rw [← hl] at hD hlen
    have hit := iter_div hU h4 h5 (withHs p 127) l (by omega) 6 5
    rw [← hD] at hit
    clear hfin hD hl
    refine Wp.rangeFuncL (n := 7) (σ1 := fun L => [.box (Em.player.emb (withHs p 127)), .box (Em.notes.emb s), .box (.int .i64 0), .box (.bool false), .box (i64s.emb l), .box (Em.player.emb (withHs p 127)), .box (i64s.emb l), .mark, L]) hit rfl rfl (by decide) (fun L => rfl) (fun L hL => ?_)
    refine RoundsQ.ind (fun t : Nat => [PD.int .i64 (t : Int)]) (fun done rest σ => D = done ++ rest ∧
      σ = [.box (Em.player.emb (withHs p 127)), .box (Em.notes.emb s), .box (.int .i64 (leastL l done).1), .box (.bool (leastL l done).2), .box (i64s.emb l), .box (Em.player.emb (withHs p 127)), .box (i64s.emb l), .mark, L]) ?_ ?_ D [] _ ⟨rfl, rfl⟩
    · rintro done t rest σ ⟨hd, rfl⟩
      have ht : t ≤ l.length := hmem t (by rw [hd]; simp)
      have hstep : ∀ done t, leastL l (done ++ [t]) = leastStep l (leastL l done) t := fun done t => by unfold leastL; rw [List.foldl_append]; rfl
      have hcm : (if widthP (l.take t) < widthP (l.drop t) then widthP (l.drop t) else widthP (l.take t)) = cost l t := max_if.symm
      have c1 : ((l.take t).length : Int) < 1000000 := by rw [List.length_take]; omega
      have c2 : ((l.drop t).length : Int) < 1000000 := by rw [List.length_drop]; omega
      have hd' : D = (done ++ [t]) ++ rest := by rw [hd, List.append_assoc]; rfl
      rw [hstep]
      clear hstep
      generalize leastL l done = st
      obtain ⟨a, b⟩ := st
      refine ⟨⟨rfl, rfl⟩, WpC.roundL hL (by decide) (by simp) rfl (by simp only [pargs, List.set_cons_zero, List.set_cons_succ]; rfl) fun LB hLB => ?_⟩
      repeat (first
        | (refine Fr.i ?_; simp only [pput, List.set_cons_zero, List.set_cons_succ]; try rfl) | (refine By.i ?_; simp (disch := first | omega | (simp; done) | (simp; omega)) [wrap_i64, wrap_u64]; first | done | rfl | exact ⟨rfl, rfl⟩)
        | (refine Wt.i ?_; first | rfl | (simp; done))
        | (refine Ns.i ?_; (try simp only [List.append_nil, List.nil_append, List.cons_append, List.append_assoc, List.length_append, List.length_cons, List.length_nil, Nat.zero_add, Nat.reduceAdd]); rfl) | rfl
        | (apply SL.pass; (focus (refine Wt.i ?_; rfl))) | apply SL.move | apply SL.assign | apply SL.load | apply SL.binOp | apply SL.append | apply SL.builtin | apply SL.fieldAddr | apply SL.indexAddr | apply SL.field | apply SL.extract
        | apply SL.fcall | apply SL.pick | apply SL.store | apply SL.unOp | apply SL.convert | apply SL.index | apply SL.slice | apply SL.build | apply SL.nilCheck | apply SL.buildSlice | apply SL.box | apply SL.alloc | apply SL.makeFunc
        | apply SQ.nil | (apply WL.reg; (focus decide +kernel)) | (apply WL.drawP (by assumption); (focus decide +kernel); (focus decide +kernel)) | (apply WL.drawF; (focus decide +kernel); (focus decide +kernel))
        | (apply WL.reg1; (focus decide +kernel)) | (apply WL.drawP1 (by assumption); (focus decide +kernel); (focus decide +kernel)) | (apply WL.drawF1; (focus decide +kernel); (focus decide +kernel)) | apply WL.skip
        | (apply WL.ct; (focus rfl)) | (apply WL.cf; (focus rfl)) | refine SeqQ.normal ?_ | refine SeqQ.ret ?_ | refine SeqQ.exit ?_ | refine BlockQ.normal ?_ | refine BlockQ.ret ?_ | refine BlockQ.here ?_ | refine BlockQ.there (by decide) ?_
        | refine Wp.block ?_ | refine Wp.skip ?_ | refine Wp.ret ?_ | refine Wp.exit ?_ | refine LoopI.ret ?_ | refine LoopI.exit ?_ | refine LoopQ.normal ?_ | refine LoopQ.ret ?_ | refine LoopQ.exit ?_ | refine Wp.seq (Wp.seq ?_)
        | refine Wp.seq (Wp.block ?_) | (refine Wp.seq ?_; apply WL.ct; (focus rfl)) | (refine Wp.seq ?_; apply WL.cf; (focus rfl)))
      refine ⟨rfl, by simp, _, by simp; rfl, ?_⟩
      cases b with
      | false =>
        have hs : leastStep l (a, false) t = (cost l t, true) := by simp [leastStep]
        rw [hs]
        repeat (first
          | (refine Fr.i ?_; simp only [pput, List.set_cons_zero, List.set_cons_succ]; try rfl)
          | (refine By.i ?_; simp (disch := first | omega | (simp; done) | (simp; omega)) [wrap_i64, wrap_u64, h6, c1, c2, hcm, entry, gf1]; first | done | rfl | exact ⟨rfl, rfl⟩)
          | (refine Wt.i ?_; first | rfl | (simp [h6, c1, c2, hcm, entry, gf1]; done))
          | (refine Ns.i ?_; (try simp only [List.append_nil, List.nil_append, List.cons_append, List.append_assoc, List.length_append, List.length_cons, List.length_nil, Nat.zero_add, Nat.reduceAdd]); rfl) | rfl
          | (apply SL.pass; (focus (refine Wt.i ?_; rfl))) | apply SL.move | apply SL.assign | apply SL.load | apply SL.binOp | apply SL.append | apply SL.builtin | apply SL.fieldAddr | apply SL.indexAddr | apply SL.field | apply SL.extract
          | apply SL.fcall | apply SL.pick | apply SL.store | apply SL.unOp | apply SL.convert | apply SL.index | apply SL.slice | apply SL.build | apply SL.nilCheck | apply SL.buildSlice | apply SL.box | apply SL.alloc | apply SL.makeFunc
          | apply SQ.nil | (apply WL.reg; (focus decide +kernel)) | (apply WL.drawP (by assumption); (focus decide +kernel); (focus decide +kernel)) | (apply WL.drawF; (focus decide +kernel); (focus decide +kernel))
          | (apply WL.reg1; (focus decide +kernel)) | (apply WL.drawP1 (by assumption); (focus decide +kernel); (focus decide +kernel)) | (apply WL.drawF1; (focus decide +kernel); (focus decide +kernel)) | apply WL.skip
          | (apply WL.ct; (focus rfl)) | (apply WL.cf; (focus rfl)) | refine SeqQ.normal ?_ | refine SeqQ.ret ?_ | refine SeqQ.exit ?_ | refine BlockQ.normal ?_ | refine BlockQ.ret ?_ | refine BlockQ.here ?_
          | refine BlockQ.there (by decide) ?_ | refine Wp.block ?_ | refine Wp.skip ?_ | refine Wp.ret ?_ | refine Wp.exit ?_ | refine LoopI.ret ?_ | refine LoopI.exit ?_ | refine LoopQ.normal ?_ | refine LoopQ.ret ?_ | refine LoopQ.exit ?_
          | refine Wp.seq (Wp.seq ?_) | refine Wp.seq (Wp.block ?_) | (refine Wp.seq ?_; apply WL.ct; (focus rfl)) | (refine Wp.seq ?_; apply WL.cf; (focus rfl)))
        refine ⟨by simp, ?_⟩
        unfold RoundR
        refine .inl ⟨rfl, hd', ?_⟩
        simp
      | true =>
        by_cases hc : cost l t < a
        · have hs : leastStep l (a, true) t = (cost l t, true) := by simp [leastStep, hc]
          rw [hs]
          repeat (first
            | (refine Fr.i ?_; simp only [pput, List.set_cons_zero, List.set_cons_succ]; try rfl)
            | (refine By.i ?_; simp (disch := first | omega | (simp; done) | (simp; omega)) [wrap_i64, wrap_u64, h6, c1, c2, hcm, hc, entry, gf1]; first | done | rfl | exact ⟨rfl, rfl⟩)
            | (refine Wt.i ?_; first | rfl | (simp [h6, c1, c2, hcm, hc, entry, gf1]; done))
            | (refine Ns.i ?_; (try simp only [List.append_nil, List.nil_append, List.cons_append, List.append_assoc, List.length_append, List.length_cons, List.length_nil, Nat.zero_add, Nat.reduceAdd]); rfl) | rfl
            | (apply SL.pass; (focus (refine Wt.i ?_; rfl))) | apply SL.move | apply SL.assign | apply SL.load | apply SL.binOp | apply SL.append | apply SL.builtin | apply SL.fieldAddr | apply SL.indexAddr | apply SL.field | apply SL.extract
            | apply SL.fcall | apply SL.pick | apply SL.store | apply SL.unOp | apply SL.convert | apply SL.index | apply SL.slice | apply SL.build | apply SL.nilCheck | apply SL.buildSlice | apply SL.box | apply SL.alloc | apply SL.makeFunc
            | apply SQ.nil | (apply WL.reg; (focus decide +kernel)) | (apply WL.drawP (by assumption); (focus decide +kernel); (focus decide +kernel)) | (apply WL.drawF; (focus decide +kernel); (focus decide +kernel))
            | (apply WL.reg1; (focus decide +kernel)) | (apply WL.drawP1 (by assumption); (focus decide +kernel); (focus decide +kernel)) | (apply WL.drawF1; (focus decide +kernel); (focus decide +kernel)) | apply WL.skip
            | (apply WL.ct; (focus rfl)) | (apply WL.cf; (focus rfl)) | refine SeqQ.normal ?_ | refine SeqQ.ret ?_ | refine SeqQ.exit ?_ | refine BlockQ.normal ?_ | refine BlockQ.ret ?_ | refine BlockQ.here ?_
            | refine BlockQ.there (by decide) ?_ | refine Wp.block ?_ | refine Wp.skip ?_ | refine Wp.ret ?_ | refine Wp.exit ?_ | refine LoopI.ret ?_ | refine LoopI.exit ?_ | refine LoopQ.normal ?_ | refine LoopQ.ret ?_ | refine LoopQ.exit ?_
            | refine Wp.seq (Wp.seq ?_) | refine Wp.seq (Wp.block ?_) | (refine Wp.seq ?_; apply WL.ct; (focus rfl)) | (refine Wp.seq ?_; apply WL.cf; (focus rfl)))
          refine ⟨by simp, ?_⟩
          unfold RoundR
          refine .inl ⟨rfl, hd', ?_⟩
          simp
        · have hs : leastStep l (a, true) t = (a, true) := by simp [leastStep, hc]
          rw [hs]
          repeat (first
            | (refine Fr.i ?_; simp only [pput, List.set_cons_zero, List.set_cons_succ]; try rfl)
            | (refine By.i ?_; simp (disch := first | omega | (simp; done) | (simp; omega)) [wrap_i64, wrap_u64, h6, c1, c2, hcm, hc, entry, gf1]; first | done | rfl | exact ⟨rfl, rfl⟩)
            | (refine Wt.i ?_; first | rfl | (simp [h6, c1, c2, hcm, hc, entry, gf1]; done))
            | (refine Ns.i ?_; (try simp only [List.append_nil, List.nil_append, List.cons_append, List.append_assoc, List.length_append, List.length_cons, List.length_nil, Nat.zero_add, Nat.reduceAdd]); rfl) | rfl
            | (apply SL.pass; (focus (refine Wt.i ?_; rfl))) | apply SL.move | apply SL.assign | apply SL.load | apply SL.binOp | apply SL.append | apply SL.builtin | apply SL.fieldAddr | apply SL.indexAddr | apply SL.field | apply SL.extract
            | apply SL.fcall | apply SL.pick | apply SL.store | apply SL.unOp | apply SL.convert | apply SL.index | apply SL.slice | apply SL.build | apply SL.nilCheck | apply SL.buildSlice | apply SL.box | apply SL.alloc | apply SL.makeFunc
            | apply SQ.nil | (apply WL.reg; (focus decide +kernel)) | (apply WL.drawP (by assumption); (focus decide +kernel); (focus decide +kernel)) | (apply WL.drawF; (focus decide +kernel); (focus decide +kernel))
            | (apply WL.reg1; (focus decide +kernel)) | (apply WL.drawP1 (by assumption); (focus decide +kernel); (focus decide +kernel)) | (apply WL.drawF1; (focus decide +kernel); (focus decide +kernel)) | apply WL.skip
            | (apply WL.ct; (focus rfl)) | (apply WL.cf; (focus rfl)) | refine SeqQ.normal ?_ | refine SeqQ.ret ?_ | refine SeqQ.exit ?_ | refine BlockQ.normal ?_ | refine BlockQ.ret ?_ | refine BlockQ.here ?_
            | refine BlockQ.there (by decide) ?_ | refine Wp.block ?_ | refine Wp.skip ?_ | refine Wp.ret ?_ | refine Wp.exit ?_ | refine LoopI.ret ?_ | refine LoopI.exit ?_ | refine LoopQ.normal ?_ | refine LoopQ.ret ?_ | refine LoopQ.exit ?_
            | refine Wp.seq (Wp.seq ?_) | refine Wp.seq (Wp.block ?_) | (refine Wp.seq ?_; apply WL.ct; (focus rfl)) | (refine Wp.seq ?_; apply WL.cf; (focus rfl)))
          refine ⟨by simp, ?_⟩
          unfold RoundR
          refine .inl ⟨rfl, hd', ?_⟩
          simp
    · rintro done σ ⟨hd, rfl⟩
      rw [List.append_nil] at hd
      subst hd
      refine ⟨⟨rfl, rfl⟩, _, by simp [hL]; rfl, ?_⟩
      repeat (first
        | (refine Fr.i ?_; simp only [pput, List.set_cons_zero, List.set_cons_succ]; try rfl) | (refine By.i ?_; simp (disch := first | omega | (simp; done) | (simp; omega)) [wrap_i64, wrap_u64]; first | done | rfl | exact ⟨rfl, rfl⟩)
        | (refine Wt.i ?_; first | rfl | (simp; done))
        | (refine Ns.i ?_; (try simp only [List.append_nil, List.nil_append, List.cons_append, List.append_assoc, List.length_append, List.length_cons, List.length_nil, Nat.zero_add, Nat.reduceAdd]); rfl) | rfl
        | (apply SL.pass; (focus (refine Wt.i ?_; rfl))) | apply SL.move | apply SL.assign | apply SL.load | apply SL.binOp | apply SL.append | apply SL.builtin | apply SL.fieldAddr | apply SL.indexAddr | apply SL.field | apply SL.extract
        | apply SL.fcall | apply SL.pick | apply SL.store | apply SL.unOp | apply SL.convert | apply SL.index | apply SL.slice | apply SL.build | apply SL.nilCheck | apply SL.buildSlice | apply SL.box | apply SL.alloc | apply SL.makeFunc
        | apply SQ.nil | (apply WL.reg; (focus decide +kernel)) | (apply WL.drawP (by assumption); (focus decide +kernel); (focus decide +kernel)) | (apply WL.drawF; (focus decide +kernel); (focus decide +kernel))
        | (apply WL.reg1; (focus decide +kernel)) | (apply WL.drawP1 (by assumption); (focus decide +kernel); (focus decide +kernel)) | (apply WL.drawF1; (focus decide +kernel); (focus decide +kernel)) | apply WL.skip
        | (apply WL.ct; (focus rfl)) | (apply WL.cf; (focus rfl)) | refine SeqQ.normal ?_ | refine SeqQ.ret ?_ | refine SeqQ.exit ?_ | refine BlockQ.normal ?_ | refine BlockQ.ret ?_ | refine BlockQ.here ?_ | refine BlockQ.there (by decide) ?_
        | refine Wp.block ?_ | refine Wp.skip ?_ | refine Wp.ret ?_ | refine Wp.exit ?_ | refine LoopI.ret ?_ | refine LoopI.exit ?_ | refine LoopQ.normal ?_ | refine LoopQ.ret ?_ | refine LoopQ.exit ?_ | refine Wp.seq (Wp.seq ?_)
        | refine Wp.seq (Wp.block ?_) | (refine Wp.seq ?_; apply WL.ct; (focus rfl)) | (refine Wp.seq ?_; apply WL.cf; (focus rfl)))
      refine Wp.seq (Wp.drawD [Em.player.emb p, Em.notes.emb s, .ptr 0 0, .ptr 1 0, .ptr 2 0, .ptr 3 0, .int .i64 0, .int .i64 0, .ptr 4 0, .tup [], .tup [], Em.player.emb p, .int .i64 0, .int .i64 0, .bool false, .tup [], Em.notes.emb s, i64s.emb l, .ptr 0 1, Em.player.emb (withHs p 127), i64s.emb l, .func 53 [.ptr 6 0, .ptr 5 0],
        .tup [], .tup [], .tup [], .tup [], .tup [], .tup [], .tup [], .tup [], .tup [], .tup [], .tup [], .tup [], .tup [], .tup [], .tup [], .tup [], .tup [], .tup [], .int .i64 (leastL l D).1, .bool (leastL l D).2]
        [.box (Em.player.emb (withHs p 127)), .box (Em.notes.emb s), .box (.int .i64 (leastL l D).1), .box (.bool (leastL l D).2), .box (i64s.emb l), .box (Em.player.emb (withHs p 127)), .box (i64s.emb l), .mark, .none] (fun n => by kernel_rfl) (SeqQ.normal ?_))
      trace_state
      repeat (first
        | (refine Fr.i ?_; simp only [pput, List.set_cons_zero, List.set_cons_succ]; try rfl) | (refine By.i ?_; simp (disch := first | omega | (simp; done) | (simp; omega)) [wrap_i64, wrap_u64]; first | done | rfl | exact ⟨rfl, rfl⟩)
        | (refine Wt.i ?_; first | rfl | (simp; done))
        | (refine Ns.i ?_; (try simp only [List.append_nil, List.nil_append, List.cons_append, List.append_assoc, List.length_append, List.length_cons, List.length_nil, Nat.zero_add, Nat.reduceAdd]); rfl) | rfl
        | (apply SL.pass; (focus (refine Wt.i ?_; rfl))) | apply SL.move | apply SL.assign | apply SL.load | apply SL.binOp | apply SL.append | apply SL.builtin | apply SL.fieldAddr | apply SL.indexAddr | apply SL.field | apply SL.extract
        | apply SL.fcall | apply SL.pick | apply SL.store | apply SL.unOp | apply SL.convert | apply SL.index | apply SL.slice | apply SL.build | apply SL.nilCheck | apply SL.buildSlice | apply SL.box | apply SL.alloc | apply SL.makeFunc
        | apply SQ.nil | (apply WL.reg; (focus decide +kernel)) | (apply WL.drawP (by assumption); (focus decide +kernel); (focus decide +kernel)) | (apply WL.drawF; (focus decide +kernel); (focus decide +kernel))
        | (apply WL.reg1; (focus decide +kernel)) | (apply WL.drawP1 (by assumption); (focus decide +kernel); (focus decide +kernel)) | (apply WL.drawF1; (focus decide +kernel); (focus decide +kernel)) | apply WL.skip
        | (apply WL.ct; (focus rfl)) | (apply WL.cf; (focus rfl)) | refine SeqQ.normal ?_ | refine SeqQ.ret ?_ | refine SeqQ.exit ?_ | refine BlockQ.normal ?_ | refine BlockQ.ret ?_ | refine BlockQ.here ?_ | refine BlockQ.there (by decide) ?_
        | refine Wp.block ?_ | refine Wp.skip ?_ | refine Wp.ret ?_ | refine Wp.exit ?_ | refine LoopI.ret ?_ | refine LoopI.exit ?_ | refine LoopQ.normal ?_ | refine LoopQ.ret ?_ | refine LoopQ.exit ?_ | refine Wp.seq (Wp.seq ?_)
        | refine Wp.seq (Wp.block ?_) | (refine Wp.seq ?_; apply WL.ct; (focus rfl)) | (refine Wp.seq ?_; apply WL.cf; (focus rfl)))
      simp (disch := first | omega | (simp; done) | (simp; omega)) [decide_eq_decide] <;> try rfl
  · repeat (first
      | (refine Fr.i ?_; simp only [pput, List.set_cons_zero, List.set_cons_succ]; try rfl)
      | (refine By.i ?_; simp (disch := first | omega | (simp; done) | (simp; omega)) [wrap_i64, wrap_u64, h, h1, entry, gf1]; first | done | rfl | exact ⟨rfl, rfl⟩) | (refine Wt.i ?_; first | rfl | (simp [h, h1, entry, gf1]; done))
      | (refine Ns.i ?_; (try simp only [List.append_nil, List.nil_append, List.cons_append, List.append_assoc, List.length_append, List.length_cons, List.length_nil, Nat.zero_add, Nat.reduceAdd]); rfl) | rfl
      | (apply SL.pass; (focus (refine Wt.i ?_; rfl))) | apply SL.move | apply SL.assign | apply SL.load | apply SL.binOp | apply SL.append | apply SL.builtin | apply SL.fieldAddr | apply SL.indexAddr | apply SL.field | apply SL.extract
      | apply SL.fcall | apply SL.pick | apply SL.store | apply SL.unOp | apply SL.convert | apply SL.index | apply SL.slice | apply SL.build | apply SL.nilCheck | apply SL.buildSlice | apply SL.box | apply SL.alloc | apply SL.makeFunc
      | apply SQ.nil | (apply WL.reg; (focus decide +kernel)) | (apply WL.drawP (by assumption); (focus decide +kernel); (focus decide +kernel)) | (apply WL.drawF; (focus decide +kernel); (focus decide +kernel))
      | (apply WL.reg1; (focus decide +kernel)) | (apply WL.drawP1 (by assumption); (focus decide +kernel); (focus decide +kernel)) | (apply WL.drawF1; (focus decide +kernel); (focus decide +kernel)) | apply WL.skip
      | (apply WL.ct; (focus rfl)) | (apply WL.cf; (focus rfl)) | refine SeqQ.normal ?_ | refine SeqQ.ret ?_ | refine SeqQ.exit ?_ | refine BlockQ.normal ?_ | refine BlockQ.ret ?_ | refine BlockQ.here ?_ | refine BlockQ.there (by decide) ?_
      | refine Wp.block ?_ | refine Wp.skip ?_ | refine Wp.ret ?_ | refine Wp.exit ?_ | refine LoopI.ret ?_ | refine LoopI.exit ?_ | refine LoopQ.normal ?_ | refine LoopQ.ret ?_ | refine LoopQ.exit ?_ | refine Wp.seq (Wp.seq ?_)
      | refine Wp.seq (Wp.block ?_) | (refine Wp.seq ?_; apply WL.ct; (focus rfl)) | (refine Wp.seq ?_; apply WL.cf; (focus rfl)))
    simp (disch := first | omega | (simp; done) | (simp; omega)) [decide_eq_decide, leastG, h] <;> try rfl

end Go.Kz

/-
  SpanLeast, out of the walks: the run answers true.
-/
namespace Go.Kz
open Go Go.Proofs

@[simp] theorem emb_withHs {p : Player} {w : Int} : Em.player.emb (withHs p w) = .agg [.int .i64 p.hn, .int .i64 w, .int .i64 p.fn, .int .i64 p.fs] := rfl

variable {E : PExt} (hU : Uni E)
include hU
set_option maxRecDepth 10000
set_option maxHeartbeats 4000000

theorem r_SpanLeast (h0 : E 5 = none) (hk : E 12 = some (entry (gf0 .bool (some true)))) (hc : E 13 = some (entry (gf1 .player i64 fun p => some (errOf p))))
    (h1 : E 21 = some (entry (gf2 .player .notes (i64.tup3 .bool i64) fun p s => some (leastG p s))))
    (h2 : E 22 = some (entry (gf2 .player .notes .bool fun p s => some (heldF p s)))) (p : Player) (s : Notes) :
    Run Tryd.prog E 5 [Em.player.emb p, Em.notes.emb s] (.bool true) := by
  apply Run.bodyL h0 Tryd.func5 rfl
  focus (simp [show Tryd.f5.ntmps = _ from rfl, List.replicate]; rfl)
  by_cases h : errOf p = 0
  · have hF : leastG p s = leastF p s := if_pos h
    obtain ⟨n, b, hnb⟩ : ∃ n b, leastF p s = (n, b, 0) := ⟨_, _, rfl⟩
    rw [hnb] at hF
    repeat (first
      | (refine Fr.i ?_; simp only [pput, List.set_cons_zero, List.set_cons_succ]; try rfl)
      | (refine By.i ?_; simp (disch := first | omega | (simp; done) | (simp; omega)) [wrap_i64, wrap_u64, h, hk, hc, h1, hF, entry, gf0, gf1, gf2]; first | done | rfl | exact ⟨rfl, rfl⟩)
      | (refine Wt.i ?_; first | rfl | (simp [h, hk, hc, h1, hF, entry, gf0, gf1, gf2]; done))
      | (refine Ns.i ?_; (try simp only [List.append_nil, List.nil_append, List.cons_append, List.append_assoc, List.length_append, List.length_cons, List.length_nil, Nat.zero_add, Nat.reduceAdd]); rfl) | rfl
      | (apply SL.pass; (focus (refine Wt.i ?_; rfl))) | apply SL.move | apply SL.assign | apply SL.load | apply SL.binOp | apply SL.append | apply SL.builtin | apply SL.fieldAddr | apply SL.indexAddr | apply SL.field | apply SL.extract
      | apply SL.fcall | apply SL.pick | apply SL.store | apply SL.unOp | apply SL.convert | apply SL.index | apply SL.slice | apply SL.build | apply SL.nilCheck | apply SL.buildSlice | apply SL.box | apply SL.alloc | apply SL.makeFunc
      | apply SQ.nil | (apply WL.reg; (focus decide +kernel)) | (apply WL.drawP (by assumption); (focus decide +kernel); (focus decide +kernel)) | (apply WL.drawF; (focus decide +kernel); (focus decide +kernel))
      | (apply WL.reg1; (focus decide +kernel)) | (apply WL.drawP1 (by assumption); (focus decide +kernel); (focus decide +kernel)) | (apply WL.drawF1; (focus decide +kernel); (focus decide +kernel)) | apply WL.skip
      | (apply WL.ct; (focus rfl)) | (apply WL.cf; (focus rfl)) | refine SeqQ.normal ?_ | refine SeqQ.ret ?_ | refine SeqQ.exit ?_ | refine BlockQ.normal ?_ | refine BlockQ.ret ?_ | refine BlockQ.here ?_ | refine BlockQ.there (by decide) ?_
      | refine Wp.block ?_ | refine Wp.skip ?_ | refine Wp.ret ?_ | refine Wp.exit ?_ | refine LoopI.ret ?_ | refine LoopI.exit ?_ | refine LoopQ.normal ?_ | refine LoopQ.ret ?_ | refine LoopQ.exit ?_ | refine Wp.seq (Wp.seq ?_)
      | refine Wp.seq (Wp.block ?_) | (refine Wp.seq ?_; apply WL.ct; (focus rfl)) | (refine Wp.seq ?_; apply WL.cf; (focus rfl)))
    have hn : n = (leastL s.list (divs1 (withHs p 127) s.list)).1 := by rw [leastF] at hnb; simp only [Prod.mk.injEq] at hnb; exact hnb.1.symm
    have hb : b = (leastL s.list (divs1 (withHs p 127) s.list)).2 := by rw [leastF] at hnb; simp only [Prod.mk.injEq] at hnb; exact hnb.2.1.symm
    have key : (b = true ∧ 0 ≤ n ∧ n ≤ 127 ∧ ∀ w : Nat, heldF ⟨p.hn, (w : Int), p.fn, p.fs⟩ s = decide (n ≤ (w : Int))) ∨ (b = false ∧ n = 0 ∧ ∀ w : Nat, heldF ⟨p.hn, (w : Int), p.fn, p.fs⟩ s = false) := by
      cases hb2 : b with
      | true =>
        rw [hb2] at hb
        obtain ⟨a1, a2, a3⟩ := least_some p s hb.symm
        rw [← hn] at a1 a2 a3
        exact .inl ⟨rfl, a1, a2, fun w => a3 (w : Int) (by omega)⟩
      | false =>
        rw [hb2] at hb
        obtain ⟨a1, a2⟩ := least_none p s hb.symm
        rw [← hn] at a1
        exact .inr ⟨rfl, a1, fun w => a2 (w : Int) (by omega)⟩
    clear hn hb hF hnb
    rcases key with ⟨rfl, a1, a2, a3⟩ | ⟨rfl, rfl, a3⟩
    · clear h
      refine Wp.loopI (fun m fr σ => ∃ (w : Nat), ∃ gg : Nat → PD, (w + m = 128 ∧ (w : Int) ≤ n) ∧ fr = [Em.player.emb p, Em.notes.emb s, .ptr 0 0, .ptr 1 0, .bool false, .int .i64 n, .bool true, .int .i64 0, .ptr 2 0, gg 9, gg 10, gg 11, gg 12, gg 13, gg 14, gg 15, gg 16, gg 17, gg 18, gg 19, gg 20, gg 21, gg 22, gg 23, gg 24, gg 25, gg 26, gg 27, gg 28, gg 29, gg 30, gg 31, gg 32, gg 33, gg 34, gg 35, gg 36, gg 37, gg 38, gg 39, gg 40, gg 41, gg 42, gg 43, gg 44, gg 45, gg 46, gg 47, gg 48, gg 49, gg 50, gg 51, gg 52, gg 53, gg 54, gg 55, gg 56] ∧ σ = [.box (Em.player.emb p), .box (Em.notes.emb s), .box (Em.player.emb ⟨p.hn, (w : Int), p.fn, p.fs⟩)]) ?_ (128) (by refine ⟨0, ?_⟩; exact exF (⟨by omega, by omega⟩) (by (first | rfl | (simp []; repeat (first | rfl | (apply And.intro))) | (simp []; done))) (by (first | rfl | (simp []; repeat (first | rfl | (apply And.intro))) | (simp []; done))))
      rintro m fr σ ⟨w, gg, hI, rfl, rfl⟩
      obtain ⟨hm, hw⟩ := hI
      have q1 : (w : Int) ≤ 127 := by omega
      have q2 := a3 w
      by_cases hc2 : n ≤ (w : Int)
      · have q3 : n = (w : Int) := by omega
        subst q3
        repeat (first
          | (refine Fr.i ?_; simp only [pput, List.set_cons_zero, List.set_cons_succ]; try rfl)
          | (refine By.i ?_; simp (disch := first | omega | (simp; done) | (simp; omega)) [wrap_i64, wrap_u64, q1, h2, q2, entry, gf2]; first | done | rfl | exact ⟨rfl, rfl⟩)
          | (refine Wt.i ?_; first | rfl | (simp [q1, h2, q2, entry, gf2]; done))
          | (refine Ns.i ?_; (try simp only [List.append_nil, List.nil_append, List.cons_append, List.append_assoc, List.length_append, List.length_cons, List.length_nil, Nat.zero_add, Nat.reduceAdd]); rfl) | rfl
          | (apply SL.pass; (focus (refine Wt.i ?_; rfl))) | apply SL.move | apply SL.assign | apply SL.load | apply SL.binOp | apply SL.append | apply SL.builtin | apply SL.fieldAddr | apply SL.indexAddr | apply SL.field | apply SL.extract
          | apply SL.fcall | apply SL.pick | apply SL.store | apply SL.unOp | apply SL.convert | apply SL.index | apply SL.slice | apply SL.build | apply SL.nilCheck | apply SL.buildSlice | apply SL.box | apply SL.alloc | apply SL.makeFunc
          | apply SQ.nil | (apply WL.reg; (focus decide +kernel)) | (apply WL.drawP (by assumption); (focus decide +kernel); (focus decide +kernel)) | (apply WL.drawF; (focus decide +kernel); (focus decide +kernel))
          | (apply WL.reg1; (focus decide +kernel)) | (apply WL.drawP1 (by assumption); (focus decide +kernel); (focus decide +kernel)) | (apply WL.drawF1; (focus decide +kernel); (focus decide +kernel)) | apply WL.skip
          | (apply WL.ct; (focus rfl)) | (apply WL.cf; (focus rfl)) | refine SeqQ.normal ?_ | refine SeqQ.ret ?_ | refine SeqQ.exit ?_ | refine BlockQ.normal ?_ | refine BlockQ.ret ?_ | refine BlockQ.here ?_
          | refine BlockQ.there (by decide) ?_ | refine Wp.block ?_ | refine Wp.skip ?_ | refine Wp.ret ?_ | refine Wp.exit ?_ | refine LoopI.ret ?_ | refine LoopI.exit ?_ | refine LoopQ.normal ?_ | refine LoopQ.ret ?_ | refine LoopQ.exit ?_
          | refine Wp.seq (Wp.seq ?_) | refine Wp.seq (Wp.block ?_) | (refine Wp.seq ?_; apply WL.ct; (focus rfl)) | (refine Wp.seq ?_; apply WL.cf; (focus rfl)))
        simp (disch := first | omega | (simp; done) | (simp; omega)) [decide_eq_decide] <;> try rfl
      · repeat (first
          | (refine Fr.i ?_; simp only [pput, List.set_cons_zero, List.set_cons_succ]; try rfl)
          | (refine By.i ?_; simp (disch := first | omega | (simp; done) | (simp; omega)) [wrap_i64, wrap_u64, q1, h2, q2, hc2, entry, gf2]; first | done | rfl | exact ⟨rfl, rfl⟩)
          | (refine Wt.i ?_; first | rfl | (simp [q1, h2, q2, hc2, entry, gf2]; done))
          | (refine Ns.i ?_; (try simp only [List.append_nil, List.nil_append, List.cons_append, List.append_assoc, List.length_append, List.length_cons, List.length_nil, Nat.zero_add, Nat.reduceAdd]); rfl) | rfl
          | (apply SL.pass; (focus (refine Wt.i ?_; rfl))) | apply SL.move | apply SL.assign | apply SL.load | apply SL.binOp | apply SL.append | apply SL.builtin | apply SL.fieldAddr | apply SL.indexAddr | apply SL.field | apply SL.extract
          | apply SL.fcall | apply SL.pick | apply SL.store | apply SL.unOp | apply SL.convert | apply SL.index | apply SL.slice | apply SL.build | apply SL.nilCheck | apply SL.buildSlice | apply SL.box | apply SL.alloc | apply SL.makeFunc
          | apply SQ.nil | (apply WL.reg; (focus decide +kernel)) | (apply WL.drawP (by assumption); (focus decide +kernel); (focus decide +kernel)) | (apply WL.drawF; (focus decide +kernel); (focus decide +kernel))
          | (apply WL.reg1; (focus decide +kernel)) | (apply WL.drawP1 (by assumption); (focus decide +kernel); (focus decide +kernel)) | (apply WL.drawF1; (focus decide +kernel); (focus decide +kernel)) | apply WL.skip
          | (apply WL.ct; (focus rfl)) | (apply WL.cf; (focus rfl)) | refine SeqQ.normal ?_ | refine SeqQ.ret ?_ | refine SeqQ.exit ?_ | refine BlockQ.normal ?_ | refine BlockQ.ret ?_ | refine BlockQ.here ?_
          | refine BlockQ.there (by decide) ?_ | refine Wp.block ?_ | refine Wp.skip ?_ | refine Wp.ret ?_ | refine Wp.exit ?_ | refine LoopI.ret ?_ | refine LoopI.exit ?_ | refine LoopQ.normal ?_ | refine LoopQ.ret ?_ | refine LoopQ.exit ?_
          | refine Wp.seq (Wp.seq ?_) | refine Wp.seq (Wp.block ?_) | (refine Wp.seq ?_; apply WL.ct; (focus rfl)) | (refine Wp.seq ?_; apply WL.cf; (focus rfl)))
        refine LoopI.normal (m - 1) (by omega) (by refine ⟨w + 1, ?_⟩; exact exF (⟨by omega, by omega⟩) (by (first | rfl | (simp []; repeat (first | rfl | (apply And.intro))) | (simp []; done))) (by (first | rfl | (simp []; repeat (first | rfl | (apply And.intro))) | (simp []; done))))
    · clear h
      refine Wp.loopI (fun m fr σ => ∃ (w : Nat), ∃ gg : Nat → PD, (w + m = 128) ∧ fr = [Em.player.emb p, Em.notes.emb s, .ptr 0 0, .ptr 1 0, .bool false, .int .i64 0, .bool false, .int .i64 0, .ptr 2 0, gg 9, gg 10, gg 11, gg 12, gg 13, gg 14, gg 15, gg 16, gg 17, gg 18, gg 19, gg 20, gg 21, gg 22, gg 23, gg 24, gg 25, gg 26, gg 27, gg 28, gg 29, gg 30, gg 31, gg 32, gg 33, gg 34, gg 35, gg 36, gg 37, gg 38, gg 39, gg 40, gg 41, gg 42, gg 43, gg 44, gg 45, gg 46, gg 47, gg 48, gg 49, gg 50, gg 51, gg 52, gg 53, gg 54, gg 55, gg 56] ∧ σ = [.box (Em.player.emb p), .box (Em.notes.emb s), .box (Em.player.emb ⟨p.hn, (w : Int), p.fn, p.fs⟩)]) ?_ (128) (by refine ⟨0, ?_⟩; exact exF (by omega) (by (first | rfl | (simp []; repeat (first | rfl | (apply And.intro))) | (simp []; done))) (by (first | rfl | (simp []; repeat (first | rfl | (apply And.intro))) | (simp []; done))))
      rintro m fr σ ⟨w, gg, hI, rfl, rfl⟩
      have q2 := a3 w
      by_cases q1 : (w : Int) ≤ 127
      · repeat (first
          | (refine Fr.i ?_; simp only [pput, List.set_cons_zero, List.set_cons_succ]; try rfl)
          | (refine By.i ?_; simp (disch := first | omega | (simp; done) | (simp; omega)) [wrap_i64, wrap_u64, q1, h2, q2, entry, gf2]; first | done | rfl | exact ⟨rfl, rfl⟩)
          | (refine Wt.i ?_; first | rfl | (simp [q1, h2, q2, entry, gf2]; done))
          | (refine Ns.i ?_; (try simp only [List.append_nil, List.nil_append, List.cons_append, List.append_assoc, List.length_append, List.length_cons, List.length_nil, Nat.zero_add, Nat.reduceAdd]); rfl) | rfl
          | (apply SL.pass; (focus (refine Wt.i ?_; rfl))) | apply SL.move | apply SL.assign | apply SL.load | apply SL.binOp | apply SL.append | apply SL.builtin | apply SL.fieldAddr | apply SL.indexAddr | apply SL.field | apply SL.extract
          | apply SL.fcall | apply SL.pick | apply SL.store | apply SL.unOp | apply SL.convert | apply SL.index | apply SL.slice | apply SL.build | apply SL.nilCheck | apply SL.buildSlice | apply SL.box | apply SL.alloc | apply SL.makeFunc
          | apply SQ.nil | (apply WL.reg; (focus decide +kernel)) | (apply WL.drawP (by assumption); (focus decide +kernel); (focus decide +kernel)) | (apply WL.drawF; (focus decide +kernel); (focus decide +kernel))
          | (apply WL.reg1; (focus decide +kernel)) | (apply WL.drawP1 (by assumption); (focus decide +kernel); (focus decide +kernel)) | (apply WL.drawF1; (focus decide +kernel); (focus decide +kernel)) | apply WL.skip
          | (apply WL.ct; (focus rfl)) | (apply WL.cf; (focus rfl)) | refine SeqQ.normal ?_ | refine SeqQ.ret ?_ | refine SeqQ.exit ?_ | refine BlockQ.normal ?_ | refine BlockQ.ret ?_ | refine BlockQ.here ?_
          | refine BlockQ.there (by decide) ?_ | refine Wp.block ?_ | refine Wp.skip ?_ | refine Wp.ret ?_ | refine Wp.exit ?_ | refine LoopI.ret ?_ | refine LoopI.exit ?_ | refine LoopQ.normal ?_ | refine LoopQ.ret ?_ | refine LoopQ.exit ?_
          | refine Wp.seq (Wp.seq ?_) | refine Wp.seq (Wp.block ?_) | (refine Wp.seq ?_; apply WL.ct; (focus rfl)) | (refine Wp.seq ?_; apply WL.cf; (focus rfl)))
        refine LoopI.normal (m - 1) (by omega) (by refine ⟨w + 1, ?_⟩; exact exF (by omega) (by (first | rfl | (simp []; repeat (first | rfl | (apply And.intro))) | (simp []; done))) (by (first | rfl | (simp []; repeat (first | rfl | (apply And.intro))) | (simp []; done))))
      · repeat (first
          | (refine Fr.i ?_; simp only [pput, List.set_cons_zero, List.set_cons_succ]; try rfl) | (refine By.i ?_; simp (disch := first | omega | (simp; done) | (simp; omega)) [wrap_i64, wrap_u64, q1]; first | done | rfl | exact ⟨rfl, rfl⟩)
          | (refine Wt.i ?_; first | rfl | (simp [q1]; done))
          | (refine Ns.i ?_; (try simp only [List.append_nil, List.nil_append, List.cons_append, List.append_assoc, List.length_append, List.length_cons, List.length_nil, Nat.zero_add, Nat.reduceAdd]); rfl) | rfl
          | (apply SL.pass; (focus (refine Wt.i ?_; rfl))) | apply SL.move | apply SL.assign | apply SL.load | apply SL.binOp | apply SL.append | apply SL.builtin | apply SL.fieldAddr | apply SL.indexAddr | apply SL.field | apply SL.extract
          | apply SL.fcall | apply SL.pick | apply SL.store | apply SL.unOp | apply SL.convert | apply SL.index | apply SL.slice | apply SL.build | apply SL.nilCheck | apply SL.buildSlice | apply SL.box | apply SL.alloc | apply SL.makeFunc
          | apply SQ.nil | (apply WL.reg; (focus decide +kernel)) | (apply WL.drawP (by assumption); (focus decide +kernel); (focus decide +kernel)) | (apply WL.drawF; (focus decide +kernel); (focus decide +kernel))
          | (apply WL.reg1; (focus decide +kernel)) | (apply WL.drawP1 (by assumption); (focus decide +kernel); (focus decide +kernel)) | (apply WL.drawF1; (focus decide +kernel); (focus decide +kernel)) | apply WL.skip
          | (apply WL.ct; (focus rfl)) | (apply WL.cf; (focus rfl)) | refine SeqQ.normal ?_ | refine SeqQ.ret ?_ | refine SeqQ.exit ?_ | refine BlockQ.normal ?_ | refine BlockQ.ret ?_ | refine BlockQ.here ?_
          | refine BlockQ.there (by decide) ?_ | refine Wp.block ?_ | refine Wp.skip ?_ | refine Wp.ret ?_ | refine Wp.exit ?_ | refine LoopI.ret ?_ | refine LoopI.exit ?_ | refine LoopQ.normal ?_ | refine LoopQ.ret ?_ | refine LoopQ.exit ?_
          | refine Wp.seq (Wp.seq ?_) | refine Wp.seq (Wp.block ?_) | (refine Wp.seq ?_; apply WL.ct; (focus rfl)) | (refine Wp.seq ?_; apply WL.cf; (focus rfl)))
        simp (disch := first | omega | (simp; done) | (simp; omega)) [decide_eq_decide] <;> try rfl
  · repeat (first
      | (refine Fr.i ?_; simp only [pput, List.set_cons_zero, List.set_cons_succ]; try rfl)
      | (refine By.i ?_; simp (disch := first | omega | (simp; done) | (simp; omega)) [wrap_i64, wrap_u64, h, hk, hc, entry, gf0, gf1]; first | done | rfl | exact ⟨rfl, rfl⟩)
      | (refine Wt.i ?_; first | rfl | (simp [h, hk, hc, entry, gf0, gf1]; done))
      | (refine Ns.i ?_; (try simp only [List.append_nil, List.nil_append, List.cons_append, List.append_assoc, List.length_append, List.length_cons, List.length_nil, Nat.zero_add, Nat.reduceAdd]); rfl) | rfl
      | (apply SL.pass; (focus (refine Wt.i ?_; rfl))) | apply SL.move | apply SL.assign | apply SL.load | apply SL.binOp | apply SL.append | apply SL.builtin | apply SL.fieldAddr | apply SL.indexAddr | apply SL.field | apply SL.extract
      | apply SL.fcall | apply SL.pick | apply SL.store | apply SL.unOp | apply SL.convert | apply SL.index | apply SL.slice | apply SL.build | apply SL.nilCheck | apply SL.buildSlice | apply SL.box | apply SL.alloc | apply SL.makeFunc
      | apply SQ.nil | (apply WL.reg; (focus decide +kernel)) | (apply WL.drawP (by assumption); (focus decide +kernel); (focus decide +kernel)) | (apply WL.drawF; (focus decide +kernel); (focus decide +kernel))
      | (apply WL.reg1; (focus decide +kernel)) | (apply WL.drawP1 (by assumption); (focus decide +kernel); (focus decide +kernel)) | (apply WL.drawF1; (focus decide +kernel); (focus decide +kernel)) | apply WL.skip
      | (apply WL.ct; (focus rfl)) | (apply WL.cf; (focus rfl)) | refine SeqQ.normal ?_ | refine SeqQ.ret ?_ | refine SeqQ.exit ?_ | refine BlockQ.normal ?_ | refine BlockQ.ret ?_ | refine BlockQ.here ?_ | refine BlockQ.there (by decide) ?_
      | refine Wp.block ?_ | refine Wp.skip ?_ | refine Wp.ret ?_ | refine Wp.exit ?_ | refine LoopI.ret ?_ | refine LoopI.exit ?_ | refine LoopQ.normal ?_ | refine LoopQ.ret ?_ | refine LoopQ.exit ?_ | refine Wp.seq (Wp.seq ?_)
      | refine Wp.seq (Wp.block ?_) | (refine Wp.seq ?_; apply WL.ct; (focus rfl)) | (refine Wp.seq ?_; apply WL.cf; (focus rfl)))
    simp (disch := first | omega | (simp; done) | (simp; omega)) [decide_eq_decide] <;> try rfl

end Go.Kz

/-
  The table, with Least.
-/
namespace Go.Kz
open Go Go.Proofs
set_option maxRecDepth 10000

noncomputable def El1 : PExt := E11.add 15 (entry (gf2 .player i64s i64s fun p l => gif ((l.length : Int) < 900000) (some (divF p l))))
theorem El1_uni : Uni El1 := E11_uni.entry
theorem El1_ok : ExtOk Tryd.prog El1 := E11_ok.add2 follows (fun x y z hz => by obtain ⟨hg, hz⟩ := gif_some hz; simp only [Option.some.injEq] at hz; subst hz; exact r_divisions E11_uni rfl rfl x y hg)
noncomputable def El2 : PExt := El1.add 22 (entry (gf2 .player .notes .bool fun p s => some (heldF p s)))
theorem El2_uni : Uni El2 := El1_uni.entry
theorem El2_ok : ExtOk Tryd.prog El2 := El1_ok.add2 follows (fun x y z hz => by simp only [Option.some.injEq] at hz; subst hz; exact r_Held El1_uni rfl rfl rfl x y)
noncomputable def El3 : PExt := El2.add 39 gDiv
theorem El3_uni : Uni El3 := El2_uni.other (fun args p h => by unfold gDiv at h; split at h <;> simp at h)
theorem El3_ok : ExtOk Tryd.prog El3 := El2_ok.add follows (fun fl args σ p σ1 h => ev_div El2_uni rfl fl args σ p σ1 h)
noncomputable def El4 : PExt := El3.add 21 (entry (gf2 .player .notes (i64.tup3 .bool i64) fun p s => some (leastG p s)))
theorem El4_uni : Uni El4 := El3_uni.entry
theorem El4_ok : ExtOk Tryd.prog El4 := El3_ok.add2 follows (fun x y z hz => by simp only [Option.some.injEq] at hz; subst hz; exact r_Least El3_uni rfl rfl rfl rfl rfl rfl rfl x y)

end Go.Kz

/-
  SpanLeast holds: the law answers true, whatever it is handed.
-/
namespace Go.Proofs.YtclleofcjnggaaaDoor
open Go Go.Kz Go.ChangeShapes Go.WideShapes Go.ChangeAt Go.WideMaps Go.WideElems Go.RowKit
set_option maxRecDepth 100000

theorem lifted_SpanLeast (os : Os) (started : os.Started) (H : Type) (enc : TypeId × Value → H) :
    ReturnsInHanded {} Tryd.checked os 5 .any (fun w args => (Rows.spanLeastSpec.pre enc Tryd.prog Tryd.f5 [] false w args ∧ laidMetH Tryd.prog laidL w) ∧ sizedMet enc Tryd.prog Tryd.f5 (OpenSpec.ofChange Rows.spanLeastSpec) false w args)
      (Rows.spanLeastSpec.post enc Tryd.prog Tryd.f5 false true false false) := by
  refine returnsInHanded_of_change_and (C := Tryd.checked) (X := fun w _ => laidMetH Tryd.prog laidL w) (fun _ _ _ hh h => h.of_heap hh) own started (by kernel_rfl) Tryd.func5
    (ChangeSpec.witness_shaped (enc := enc) (C := Tryd.checked) (os := os) (X := fun w _ => laidMetH Tryd.prog laidL w) false (World.doorLaid Tryd.prog 400 os) #[.agg #[.int .i64 0, .int .i64 0, .int .i64 0, .int .i64 0], .agg #[.int .u64 0, .int .u64 0]] 12 rfl (World.shaped_of_RefB (by kernel_rfl) (by kernel_rfl)) (by kernel_rfl) (by kernel_rfl) (by kernel_rfl) (door_met os _)) ?_
  intro W base args ds gs before hval hW _ _ hL _
  have hval : ∀ (j : Nat) t v, Tryd.f5.params[j]? = some t → args[j]? = some v → Value.okWide Tryd.prog W .any base t v := hval
  have hW' := hW
  obtain ⟨p, q, hA, _, _, _, _⟩ := hW
  have hA : DataW.TrodAll enc Tryd.prog W 0 (fun _ => true) true Tryd.f5.params.toList args.toList ds p := hA
  rw [Tryd.params5] at hA hval
  obtain ⟨v1, v2, d1, d2, p1, p2, rfl, _, _, h1, h2⟩ := trodAll_two hA
  obtain ⟨q1, t1, r1⟩ := arg_typed (n := 12) (t := 23) (v := v1) (by kernel_rfl) (hval 0 _ _ rfl rfl) h1
  obtain ⟨p1', e1⟩ := ty_player t1
  rw [e1] at r1
  obtain ⟨q2, t2, r2⟩ := arg_typed (n := 12) (t := 26) (v := v2) (by kernel_rfl) (hval 1 _ _ rfl rfl) h2
  obtain ⟨s1, e2⟩ := ty_notes t2
  rw [e2] at r2
  have run := r_SpanLeast El4_uni rfl rfl rfl rfl rfl p1' s1
  refine (Run.calls El4_ok follows names run (glob hL) (vrs_cons r1 (vrs_cons r2 vrs_nil))).mono fun e' W' ⟨he, hb⟩ => ?_
  subst he
  exact ⟨_, rfl, law_post laidOut rfl hW' hb rfl Tryd.underlying4 (by kernel_rfl) (fun ds hg hd => by
    subst hg
    match ds, hd with
    | [d1, d2], _ => rfl)⟩

theorem spanLeast_holds : Rows.SpanLeastSaid :=
  OpenClaim.holds_of_wide 5 Tryd.f5 rfl rfl rfl rfl rfl rfl rfl ⟨rfl, rfl, rfl, rfl, rfl⟩ rfl rfl rfl rfl rfl (by kernel_rfl) Tryd.func5 (by kernel_rfl)
    (of_decide_eq_true (by kernel_rfl)) (by unfold Func.isWrapper; first | (rw [if_pos (by decide +kernel)]; kernel_rfl) | (rw [if_neg (by decide +kernel)]; exact ⟨rfl, rfl⟩))
    (fun os started H enc _ => lifted_SpanLeast os started H enc)

theorem spanLeast_card : Rows.SpanLeastCardSaid :=
  Claim7.holds_tied_plain_at .later [] [.data] true (true, "40abfb383b17e30e6d7cad2be2972cbafc1276e76edec2d6e229a2e74b8f3c14") false
    spanLeast_holds (fun _ h => by cases h) (by kernel_rfl) (fun _ h => by cases h) spanLeast_row_tie rfl ⟨rfl, rfl⟩ (by kernel_rfl) rfl
    (fun f fn hf hfn => by
      obtain rfl : f = 5 := Option.some.inj ((show Tryd.prog.funcNamed "bombarde/bombardelaw11.SpanLeast" = some 5 by kernel_rfl).symm.trans hf) |>.symm
      obtain rfl : fn = Tryd.f5 := (Option.some.inj (Tryd.func5.symm.trans hfn)).symm
      exact ⟨by kernel_rfl, fun j t ht => by
        rw [Tryd.params5] at ht
        have hm := Array.mem_of_getElem? ht
        have hall : (#[23, 26].all fun u => !Tryd.prog.wantsStandIn u) = true := by kernel_rfl
        have := Array.all_eq_true_iff_forall_mem.1 hall t hm
        exact (show Tryd.prog.wantsStandIn t = false by simpa using this)⟩)
    (by kernel_rfl)
end Go.Proofs.YtclleofcjnggaaaDoor
