/-
  SpanFeet holds: the law answers true, whatever it is handed.
-/
import Derived.Test.YtclleofcjnggaaaDoorP6
import Derived.Test.YtclleofcjnggaaaDoorP4
import Derived.Test.YtclleofcjnggaaaDoorP5
set_option linter.all false

/-
  SpanFeet, out of the walks: the run answers true.
-/
namespace Go.Kz
open Go Go.Proofs

/-! ### the least and the greatest of a sorted list -/
theorem sorted_head {l : List Int} (hs : l.Pairwise (· < ·)) {m : Int} (hm : m ∈ l) (h : ∀ n ∈ l, m ≤ n) : l.head?.getD 0 = m := by
  cases l with
  | nil => simp at hm
  | cons x xs =>
    simp only [List.head?_cons, Option.getD_some]
    have h1 := h x (by simp)
    rcases List.mem_cons.1 hm with e | e
    · exact e.symm
    · have := (List.pairwise_cons.1 hs).1 m e
      omega
theorem sorted_last {l : List Int} (hs : l.Pairwise (· < ·)) {m : Int} (hm : m ∈ l) (h : ∀ n ∈ l, n ≤ m) : l.getLast?.getD 0 = m := by
  have hne : l ≠ [] := List.ne_nil_of_mem hm
  rw [List.getLast?_eq_getLast hne, Option.getD_some]
  have h1 := h _ (List.getLast_mem hne)
  obtain ⟨i, hi, rfl⟩ := List.getElem_of_mem hm
  rw [List.getLast_eq_getElem] at h1 ⊢
  rw [List.pairwise_iff_getElem] at hs
  by_cases e : i = l.length - 1
  · subst e; rfl
  · have := hs i (l.length - 1) hi (by omega) (by omega)
    omega
theorem head_mem {l : List Int} (h : l ≠ []) : l.head?.getD 0 ∈ l := by
  cases l with
  | nil => exact absurd rfl h
  | cons x xs => simp
theorem last_mem {l : List Int} (h : l ≠ []) : l.getLast?.getD 0 ∈ l := by
  rw [List.getLast?_eq_getLast h]
  exact List.getLast_mem h
theorem head_le {l : List Int} (hs : l.Pairwise (· < ·)) {n : Int} (h : n ∈ l) : l.head?.getD 0 ≤ n := by
  cases l with
  | nil => simp at h
  | cons x xs =>
    simp only [List.head?_cons, Option.getD_some]
    rcases List.mem_cons.1 h with e | e
    · omega
    · have := (List.pairwise_cons.1 hs).1 n e
      omega
theorem le_last {l : List Int} (hs : l.Pairwise (· < ·)) {n : Int} (h : n ∈ l) : n ≤ l.getLast?.getD 0 := by
  have hne : l ≠ [] := List.ne_nil_of_mem h
  rw [List.getLast?_eq_getLast hne, Option.getD_some]
  obtain ⟨i, hi, rfl⟩ := List.getElem_of_mem h
  rw [List.getLast_eq_getElem]
  rw [List.pairwise_iff_getElem] at hs
  by_cases e : i = l.length - 1
  · subst e; omega
  · have := hs i (l.length - 1) hi (by omega) (by omega)
    omega

theorem mem_union {a b : Notes} {n : Int} : n ∈ (unionN a b).list ↔ n ∈ a.list ∨ n ∈ b.list := by
  have h : ∀ k, (unionN a b).mem k = (a.mem k || b.mem k) := fun k => by
    unfold unionN Notes.mem
    split <;> simp
  simp only [mem_list, h, Bool.or_eq_true]
  constructor
  · rintro ⟨k, e, hk, h | h⟩
    · exact .inl ⟨k, e, hk, h⟩
    · exact .inr ⟨k, e, hk, h⟩
  · rintro (⟨k, e, hk, h⟩ | ⟨k, e, hk, h⟩)
    · exact ⟨k, e, hk, .inl h⟩
    · exact ⟨k, e, hk, .inr h⟩
theorem noNotes_list : noNotes.list = [] := by decide +kernel

def pedal1 : Division := ⟨[], true, ⟨0, 0⟩, []⟩

/-- What the feet hold, by the model's fold. -/
def pedalSt (U : Notes) (c : Nat) (st : PlaySt) : Prop := st.hands = [] ∧ st.feet = c ∧ (c = 0 → U.list = [] ∧ st.low = 127 ∧ st.high = 0) ∧ (0 < c → st.low ∈ U.list ∧ st.high ∈ U.list ∧ ∀ n ∈ U.list, st.low ≤ n ∧ n ≤ st.high)

theorem pedal_step {U : Notes} {c : Nat} {st : PlaySt} {d : Division} {s : Notes} (hd : d.pedal = true) (h : pedalSt U c st) : pedalSt (unionN U s) (c + s.list.length) (playStep st (d, s)) := by
  obtain ⟨h1, h2, h3, h4⟩ := h
  unfold playStep
  by_cases hs : s.list = []
  · have hl : s.list.length = 0 := by rw [hs]; rfl
    have hm : ∀ n, n ∈ (unionN U s).list ↔ n ∈ U.list := fun n => by rw [mem_union, hs]; simp
    rw [if_pos hs, hl]
    refine ⟨h1, h2, fun hc => ?_, fun hc => ?_⟩
    · obtain ⟨a1, a2, a3⟩ := h3 hc
      refine ⟨?_, a2, a3⟩
      rw [List.eq_nil_iff_forall_not_mem]
      intro n hn
      rw [hm, a1] at hn
      simp at hn
    · obtain ⟨a1, a2, a3⟩ := h4 hc
      exact ⟨(hm _).2 a1, (hm _).2 a2, fun n hn => a3 n ((hm n).1 hn)⟩
  · have hl : 0 < s.list.length := List.length_pos_iff.2 hs
    rw [if_neg hs, if_pos hd]
    refine ⟨h1, by simp only; rw [h2]; omega, fun hc => by omega, fun _ => ?_⟩
    have m1 := head_mem hs
    have m2 := last_mem hs
    have b1 := fun n hn => head_le (list_sorted s) (n := n) hn
    have b2 := fun n hn => le_last (list_sorted s) (n := n) hn
    simp only
    by_cases hc : c = 0
    · obtain ⟨a1, a2, a3⟩ := h3 hc
      have r1 := list_range m1
      have r2 := list_range m2
      rw [a2, a3, Int.min_eq_right (by omega), Int.max_eq_right (by omega)]
      refine ⟨mem_union.2 (.inr m1), mem_union.2 (.inr m2), fun n hn => ?_⟩
      rcases mem_union.1 hn with hn | hn
      · rw [a1] at hn; simp at hn
      · exact ⟨b1 n hn, b2 n hn⟩
    · obtain ⟨a1, a2, a3⟩ := h4 (by omega)
      refine ⟨?_, ?_, fun n hn => ?_⟩
      · rcases (show min st.low (s.list.head?.getD 0) = st.low ∨ min st.low (s.list.head?.getD 0) = s.list.head?.getD 0 by omega) with e | e
        · rw [e]; exact mem_union.2 (.inl a1)
        · rw [e]; exact mem_union.2 (.inr m1)
      · rcases (show max st.high (s.list.getLast?.getD 0) = st.high ∨ max st.high (s.list.getLast?.getD 0) = s.list.getLast?.getD 0 by omega) with e | e
        · rw [e]; exact mem_union.2 (.inl a2)
        · rw [e]; exact mem_union.2 (.inr m2)
      · rcases mem_union.1 hn with hn | hn
        · have := a3 n hn
          exact ⟨by omega, by omega⟩
        · have c1 := b1 n hn
          have c2 := b2 n hn
          exact ⟨by omega, by omega⟩

theorem pedal_all (l : List Notes) : ∀ (n : Nat) (U : Notes) (c : Nat) (st : PlaySt), pedalSt U c st → pedalSt (l.foldl unionN U) (c + countL l) (((List.replicate l.length pedal1).zip l).foldl playStep st) := by
  induction l with
  | nil => intro n U c st h; simpa [countL] using h
  | cons s l ih =>
    intro n U c st h
    have := ih n _ _ _ (pedal_step (d := pedal1) (s := s) rfl h)
    simp only [List.length_cons, List.replicate_succ, List.zip_cons_cons, List.foldl_cons]
    have e : c + s.list.length + countL l = c + countL (s :: l) := by simp [countL]; omega
    rw [← e]
    exact this

theorem feet_plays (p : Player) (l : List Notes) (h : 0 ≤ p.fs) : playsF p (List.replicate l.length pedal1) l = feetOk p l := by
  have hp := pedal_all l 0 noNotes 0 play0 ⟨rfl, rfl, fun _ => ⟨noNotes_list, rfl, rfl⟩, fun h => absurd h (by omega)⟩
  rw [Nat.zero_add] at hp
  obtain ⟨h1, h2, h3, h4⟩ := hp
  have hst : playL ((List.replicate l.length pedal1).zip l) = ((List.replicate l.length pedal1).zip l).foldl playStep play0 := rfl
  have hU : unionL l = l.foldl unionN noNotes := rfl
  unfold playsF feetOk
  simp only
  rw [hst, hU]
  generalize ((List.replicate l.length pedal1).zip l).foldl playStep play0 = st at *
  generalize l.foldl unionN noNotes = U at *
  rw [h1, h2]
  have hw : widthP U.list = if 0 < countL l then st.high - st.low else 0 := by
    unfold widthP
    split
    · rename_i hc
      obtain ⟨a1, a2, a3⟩ := h4 hc
      have r1 := list_range a1
      have r2 := list_range a2
      rw [sorted_head (list_sorted U) a1 (fun n hn => (a3 n hn).1), sorted_last (list_sorted U) a2 (fun n hn => (a3 n hn).2)]
      exact wrap_i64 (by omega) (by omega)
    · rename_i hc
      obtain ⟨a1, _, _⟩ := h3 (by omega)
      rw [a1]
      rfl
  rw [hw]
  simp only [playHands]
  by_cases hc : 0 < countL l
  · have hc' : (0 : Int) < (countL l : Int) := by omega
    rw [if_pos hc]
    by_cases c1 : (countL l : Int) ≤ p.fn
    · by_cases c2 : st.high - st.low ≤ p.fs
      · rw [if_neg (by omega)]; simp [c1, c2]
      · rw [if_pos (by omega)]; simp [c1, c2]
    · rw [if_pos (by omega)]; simp [c1]
  · rw [if_neg hc]
    by_cases c1 : (countL l : Int) ≤ p.fn
    · rw [if_neg (by omega)]; simp [c1, h]
    · rw [if_pos (by omega)]; simp [c1]

theorem err_fs {p : Player} (h : errOf p = 0) : 0 ≤ p.fs := by
  unfold errOf at h
  split at h
  · cases h
  · omega

variable {E : PExt} (hU : Uni E)
include hU
set_option maxRecDepth 10000
set_option maxHeartbeats 4000000

theorem r_SpanFeet (h0 : E 9 = none) (hk : E 12 = some (entry (gf0 .bool (some true)))) (hc : E 13 = some (entry (gf1 .player i64 fun p => some (errOf p))))
    (h1 : E 31 = some (entry (gf2 .player notesL (Em.bool.tup2 i64) fun p l => gif ((l.length : Int) < 1000000) (some (feetF p l)))))
    (h2 : E 32 = some (entry (gf3 .player divisionsL notesL .bool fun p l k => gif ((l.length : Int) < 1000000 ∧ (k.length : Int) < 1000000) (some (playsF p l k)))))
    (p : Player) (l : List Notes) :
    Run Tryd.prog E 9 [Em.player.emb p, notesL.emb l] (.bool true) := by
  apply Run.bodyL h0 Tryd.func9 rfl
  focus (simp [show Tryd.f9.ntmps = _ from rfl, List.replicate]; rfl)
  by_cases h : errOf p = 0
  · by_cases hl : 4 < (l.length : Int)
    · repeat (first
        | (refine Fr.i ?_; simp only [pput, List.set_cons_zero, List.set_cons_succ]; try rfl)
        | (refine By.i ?_; simp (disch := first | omega | (simp; done) | (simp; omega)) [wrap_i64, wrap_u64, h, hk, hc, hl, entry, gf0, gf1]; first | done | rfl | exact ⟨rfl, rfl⟩)
        | (refine Wt.i ?_; first | rfl | (simp [h, hk, hc, hl, entry, gf0, gf1]; done))
        | (refine Ns.i ?_; (try simp only [List.append_nil, List.nil_append, List.cons_append, List.append_assoc, List.length_append, List.length_cons, List.length_nil, Nat.zero_add, Nat.reduceAdd]); rfl) | rfl
        | (apply SL.pass; (focus (refine Wt.i ?_; rfl))) | apply SL.move | apply SL.assign | apply SL.load | apply SL.binOp | apply SL.append | apply SL.builtin | apply SL.fieldAddr | apply SL.indexAddr | apply SL.field | apply SL.extract
        | apply SL.fcall | apply SL.pick | apply SL.store | apply SL.unOp | apply SL.convert | apply SL.index | apply SL.slice | apply SL.build | apply SL.nilCheck | apply SL.buildSlice | apply SL.box | apply SL.alloc | apply SL.makeFunc
        | apply SQ.nil | (apply WL.reg; (focus decide +kernel)) | (apply WL.drawP (by assumption); (focus decide +kernel); (focus decide +kernel)) | (apply WL.drawF; (focus decide +kernel); (focus decide +kernel))
        | (apply WL.reg1; (focus decide +kernel)) | (apply WL.drawP1 (by assumption); (focus decide +kernel); (focus decide +kernel)) | (apply WL.drawF1; (focus decide +kernel); (focus decide +kernel)) | apply WL.skip
        | (apply WL.ct; (focus rfl)) | (apply WL.cf; (focus rfl)) | refine SeqQ.normal ?_ | refine SeqQ.ret ?_ | refine SeqQ.exit ?_ | refine BlockQ.normal ?_ | refine BlockQ.ret ?_ | refine BlockQ.here ?_ | refine BlockQ.there (by decide) ?_
        | refine Wp.block ?_ | refine Wp.skip ?_ | refine Wp.ret ?_ | refine Wp.exit ?_ | refine LoopI.ret ?_ | refine LoopI.exit ?_ | refine LoopQ.normal ?_ | refine LoopQ.ret ?_ | refine LoopQ.exit ?_ | refine Wp.seq (Wp.seq ?_)
        | refine Wp.seq (Wp.block ?_) | (refine Wp.seq ?_; apply WL.ct; (focus rfl)) | (refine Wp.seq ?_; apply WL.cf; (focus rfl)))
      simp (disch := first | omega | (simp; done) | (simp; omega)) [decide_eq_decide] <;> try rfl
    · have hf : feetF p l = (feetOk p l, 0) := by rw [feetF, if_pos h]
      repeat (first
        | (refine Fr.i ?_; simp only [pput, List.set_cons_zero, List.set_cons_succ]; try rfl)
        | (refine By.i ?_; simp (disch := first | omega | (simp; done) | (simp; omega)) [wrap_i64, wrap_u64, h, hk, hc, h1, hl, hf, entry, gf0, gf1, gf2]; first | done | rfl | exact ⟨rfl, rfl⟩)
        | (refine Wt.i ?_; first | rfl | (simp [h, hk, hc, h1, hl, hf, entry, gf0, gf1, gf2]; done))
        | (refine Ns.i ?_; (try simp only [List.append_nil, List.nil_append, List.cons_append, List.append_assoc, List.length_append, List.length_cons, List.length_nil, Nat.zero_add, Nat.reduceAdd]); rfl) | rfl
        | (apply SL.pass; (focus (refine Wt.i ?_; rfl))) | apply SL.move | apply SL.assign | apply SL.load | apply SL.binOp | apply SL.append | apply SL.builtin | apply SL.fieldAddr | apply SL.indexAddr | apply SL.field | apply SL.extract
        | apply SL.fcall | apply SL.pick | apply SL.store | apply SL.unOp | apply SL.convert | apply SL.index | apply SL.slice | apply SL.build | apply SL.nilCheck | apply SL.buildSlice | apply SL.box | apply SL.alloc | apply SL.makeFunc
        | apply SQ.nil | (apply WL.reg; (focus decide +kernel)) | (apply WL.drawP (by assumption); (focus decide +kernel); (focus decide +kernel)) | (apply WL.drawF; (focus decide +kernel); (focus decide +kernel))
        | (apply WL.reg1; (focus decide +kernel)) | (apply WL.drawP1 (by assumption); (focus decide +kernel); (focus decide +kernel)) | (apply WL.drawF1; (focus decide +kernel); (focus decide +kernel)) | apply WL.skip
        | (apply WL.ct; (focus rfl)) | (apply WL.cf; (focus rfl)) | refine SeqQ.normal ?_ | refine SeqQ.ret ?_ | refine SeqQ.exit ?_ | refine BlockQ.normal ?_ | refine BlockQ.ret ?_ | refine BlockQ.here ?_ | refine BlockQ.there (by decide) ?_
        | refine Wp.block ?_ | refine Wp.skip ?_ | refine Wp.ret ?_ | refine Wp.exit ?_ | refine LoopI.ret ?_ | refine LoopI.exit ?_ | refine LoopQ.normal ?_ | refine LoopQ.ret ?_ | refine LoopQ.exit ?_ | refine Wp.seq (Wp.seq ?_)
        | refine Wp.seq (Wp.block ?_) | (refine Wp.seq ?_; apply WL.ct; (focus rfl)) | (refine Wp.seq ?_; apply WL.cf; (focus rfl)))
      refine Wp.loopI (fun m fr σ => ∃ (i z : Nat) (q : List Division), ∃ gg : Nat → PD, (i + m = l.length ∧ q = List.replicate i pedal1 ∧ (q = [] ∨ z = 5)) ∧ fr = [Em.player.emb p, notesL.emb l, .ptr 0 0, .tup [], .bool false, .bool (feetOk p l), .int .i64 0, .slice z (q.map Em.division.emb) (outTok 1 q.length), .int .i64 i, gg 9, gg 10, gg 11, gg 12, gg 13, gg 14, gg 15, gg 16, gg 17, gg 18, gg 19, gg 20, gg 21, gg 22, gg 23, gg 24, gg 25, gg 26, gg 27, gg 28, gg 29, gg 30, gg 31, gg 32, gg 33, gg 34, gg 35, gg 36, gg 37, gg 38, gg 39, gg 40, gg 41, gg 42, gg 43, gg 44, gg 45, gg 46, gg 47] ∧ σ = St [.box (Em.player.emb p)] 69 5 q.length) ?_ (l.length) ⟨0, 0, [], exF (⟨by omega, rfl, .inl rfl⟩) (by (first | rfl | (simp []; repeat (first | rfl | (apply And.intro))) | (simp []; done))) (by (first | rfl | (simp []; repeat (first | rfl | (apply And.intro))) | (simp []; done)))⟩
      rintro m fr σ ⟨i, z, q, gg, hI, rfl, rfl⟩
      obtain ⟨hm, hq, hz⟩ := hI
      have hql : q.length = i := by rw [hq, List.length_replicate]
      by_cases hi : i < l.length
      · have h5 : (i : Int) < (l.length : Int) := by omega
        repeat (first
          | (refine Fr.i ?_; simp only [pput, List.set_cons_zero, List.set_cons_succ]; try rfl)
          | (refine By.i ?_; simp (disch := first | omega | (simp; done) | (simp; omega)) [wrap_i64, wrap_u64, h5, hz]; first | done | rfl | exact ⟨rfl, rfl⟩) | (refine Wt.i ?_; first | rfl | (simp [h5, hz]; done))
          | (refine Ns.i ?_; (try simp only [List.append_nil, List.nil_append, List.cons_append, List.append_assoc, List.length_append, List.length_cons, List.length_nil, Nat.zero_add, Nat.reduceAdd]); rfl) | rfl
          | (apply SL.pass; (focus (refine Wt.i ?_; rfl))) | apply SL.move | apply SL.assign | apply SL.load | apply SL.binOp | apply SL.append | apply SL.builtin | apply SL.fieldAddr | apply SL.indexAddr | apply SL.field | apply SL.extract
          | apply SL.fcall | apply SL.pick | apply SL.store | apply SL.unOp | apply SL.convert | apply SL.index | apply SL.slice | apply SL.build | apply SL.nilCheck | apply SL.buildSlice | apply SL.box | apply SL.alloc | apply SL.makeFunc
          | apply SQ.nil | (apply WL.reg; (focus decide +kernel)) | (apply WL.drawP (by assumption); (focus decide +kernel); (focus decide +kernel)) | (apply WL.drawF; (focus decide +kernel); (focus decide +kernel))
          | (apply WL.reg1; (focus decide +kernel)) | (apply WL.drawP1 (by assumption); (focus decide +kernel); (focus decide +kernel)) | (apply WL.drawF1; (focus decide +kernel); (focus decide +kernel)) | apply WL.skip
          | (apply WL.ct; (focus rfl)) | (apply WL.cf; (focus rfl)) | refine SeqQ.normal ?_ | refine SeqQ.ret ?_ | refine SeqQ.exit ?_ | refine BlockQ.normal ?_ | refine BlockQ.ret ?_ | refine BlockQ.here ?_
          | refine BlockQ.there (by decide) ?_ | refine Wp.block ?_ | refine Wp.skip ?_ | refine Wp.ret ?_ | refine Wp.exit ?_ | refine LoopI.ret ?_ | refine LoopI.exit ?_ | refine LoopQ.normal ?_ | refine LoopQ.ret ?_ | refine LoopQ.exit ?_
          | refine Wp.seq (Wp.seq ?_) | refine Wp.seq (Wp.block ?_) | (refine Wp.seq ?_; apply WL.ct; (focus rfl)) | (refine Wp.seq ?_; apply WL.cf; (focus rfl)))
        refine LoopI.normal (m - 1) (by omega) ⟨i + 1, 5, q ++ [pedal1], exF (⟨by omega, by rw [hq, List.replicate_succ'], .inr rfl⟩) (by (first | rfl | (simp [pedal1]; repeat (first | rfl | (apply And.intro))) | (simp [pedal1]; done))) (by (first | rfl | (simp [pedal1]; repeat (first | rfl | (apply And.intro))) | (simp [pedal1]; done)))⟩
      · have h5 : ¬ (i : Int) < (l.length : Int) := by omega
        have h6 : i = l.length := by omega
        subst h6
        have hp : playsF p q l = feetOk p l := by rw [hq]; exact feet_plays p l (err_fs h)
        have h7 : (l.length : Int) < 1000000 := by omega
        have h8 : (q.length : Int) < 1000000 := by omega
        have h9 := dec_list (e := Em.division) (tok := outTok 1 q.length) hz
        clear hq
        repeat (first
          | (refine Fr.i ?_; simp only [pput, List.set_cons_zero, List.set_cons_succ]; try rfl)
          | (refine By.i ?_; simp (disch := first | omega | (simp; done) | (simp; omega)) [wrap_i64, wrap_u64, h5, h2, hp, h7, h8, h9, entry, gf3]; first | done | rfl | exact ⟨rfl, rfl⟩)
          | (refine Wt.i ?_; first | rfl | (simp [h5, h2, hp, h7, h8, h9, entry, gf3]; done))
          | (refine Ns.i ?_; (try simp only [List.append_nil, List.nil_append, List.cons_append, List.append_assoc, List.length_append, List.length_cons, List.length_nil, Nat.zero_add, Nat.reduceAdd]); rfl) | rfl
          | (apply SL.pass; (focus (refine Wt.i ?_; rfl))) | apply SL.move | apply SL.assign | apply SL.load | apply SL.binOp | apply SL.append | apply SL.builtin | apply SL.fieldAddr | apply SL.indexAddr | apply SL.field | apply SL.extract
          | apply SL.fcall | apply SL.pick | apply SL.store | apply SL.unOp | apply SL.convert | apply SL.index | apply SL.slice | apply SL.build | apply SL.nilCheck | apply SL.buildSlice | apply SL.box | apply SL.alloc | apply SL.makeFunc
          | apply SQ.nil | (apply WL.reg; (focus decide +kernel)) | (apply WL.drawP (by assumption); (focus decide +kernel); (focus decide +kernel)) | (apply WL.drawF; (focus decide +kernel); (focus decide +kernel))
          | (apply WL.reg1; (focus decide +kernel)) | (apply WL.drawP1 (by assumption); (focus decide +kernel); (focus decide +kernel)) | (apply WL.drawF1; (focus decide +kernel); (focus decide +kernel)) | apply WL.skip
          | (apply WL.ct; (focus rfl)) | (apply WL.cf; (focus rfl)) | refine SeqQ.normal ?_ | refine SeqQ.ret ?_ | refine SeqQ.exit ?_ | refine BlockQ.normal ?_ | refine BlockQ.ret ?_ | refine BlockQ.here ?_
          | refine BlockQ.there (by decide) ?_ | refine Wp.block ?_ | refine Wp.skip ?_ | refine Wp.ret ?_ | refine Wp.exit ?_ | refine LoopI.ret ?_ | refine LoopI.exit ?_ | refine LoopQ.normal ?_ | refine LoopQ.ret ?_ | refine LoopQ.exit ?_
          | refine Wp.seq (Wp.seq ?_) | refine Wp.seq (Wp.block ?_) | (refine Wp.seq ?_; apply WL.ct; (focus rfl)) | (refine Wp.seq ?_; apply WL.cf; (focus rfl)))
        simp (disch := first | omega | (simp; done) | (simp; omega)) [decide_eq_decide] <;> try rfl
  · repeat (first
      | (refine Fr.i ?_; simp only [pput, List.set_cons_zero, List.set_cons_succ]; try rfl)
      | (refine By.i ?_; simp (disch := first | omega | (simp; done) | (simp; omega)) [wrap_i64, wrap_u64, h, hk, hc, entry, gf0, gf1]; first | done | rfl | exact ⟨rfl, rfl⟩)
      | (refine Wt.i ?_; first | rfl | (simp [h, hk, hc, entry, gf0, gf1]; done))
      | (refine Ns.i ?_; (try simp only [List.append_nil, List.nil_append, List.cons_append, List.append_assoc, List.length_append, List.length_cons, List.length_nil, Nat.zero_add, Nat.reduceAdd]); rfl) | rfl
      | (apply SL.pass; (focus (refine Wt.i ?_; rfl))) | apply SL.move | apply SL.assign | apply SL.load | apply SL.binOp | apply SL.append | apply SL.builtin | apply SL.fieldAddr | apply SL.indexAddr | apply SL.field | apply SL.extract
      | apply SL.fcall | apply SL.pick | apply SL.store | apply SL.unOp | apply SL.convert | apply SL.index | apply SL.slice | apply SL.build | apply SL.nilCheck | apply SL.buildSlice | apply SL.box | apply SL.alloc | apply SL.makeFunc
      | apply SQ.nil | (apply WL.reg; (focus decide +kernel)) | (apply WL.drawP (by assumption); (focus decide +kernel); (focus decide +kernel)) | (apply WL.drawF; (focus decide +kernel); (focus decide +kernel))
      | (apply WL.reg1; (focus decide +kernel)) | (apply WL.drawP1 (by assumption); (focus decide +kernel); (focus decide +kernel)) | (apply WL.drawF1; (focus decide +kernel); (focus decide +kernel)) | apply WL.skip
      | (apply WL.ct; (focus rfl)) | (apply WL.cf; (focus rfl)) | refine SeqQ.normal ?_ | refine SeqQ.ret ?_ | refine SeqQ.exit ?_ | refine BlockQ.normal ?_ | refine BlockQ.ret ?_ | refine BlockQ.here ?_ | refine BlockQ.there (by decide) ?_
      | refine Wp.block ?_ | refine Wp.skip ?_ | refine Wp.ret ?_ | refine Wp.exit ?_ | refine LoopI.ret ?_ | refine LoopI.exit ?_ | refine LoopQ.normal ?_ | refine LoopQ.ret ?_ | refine LoopQ.exit ?_ | refine Wp.seq (Wp.seq ?_)
      | refine Wp.seq (Wp.block ?_) | (refine Wp.seq ?_; apply WL.ct; (focus rfl)) | (refine Wp.seq ?_; apply WL.cf; (focus rfl)))
    simp (disch := first | omega | (simp; done) | (simp; omega)) [decide_eq_decide] <;> try rfl

end Go.Kz

/-
  The table, with feet.
-/
namespace Go.Kz
open Go Go.Proofs
set_option maxRecDepth 10000

noncomputable def Ef1 : PExt := E11.add 58 (entry (gf1 .bv64 i64 fun x => some ((bits x).length : Int)))
theorem Ef1_uni : Uni Ef1 := E11_uni.entry
theorem Ef1_ok : ExtOk Tryd.prog Ef1 := E11_ok.add1 follows (fun x z hz => by simp only [Option.some.injEq] at hz; subst hz; exact r_ones E11_uni rfl x)
noncomputable def Ef2 : PExt := Ef1.add 57 (entry (gf2 .notes .notes .notes fun a b => some (unionN a b)))
theorem Ef2_uni : Uni Ef2 := Ef1_uni.entry
theorem Ef2_ok : ExtOk Tryd.prog Ef2 := Ef1_ok.add2 follows (fun x y z hz => by simp only [Option.some.injEq] at hz; subst hz; exact r_union Ef1_uni rfl x y)
noncomputable def Ef3 : PExt := Ef2.add 51 (entry (gf1 .notes i64 fun s => some (s.list.length : Int)))
theorem Ef3_uni : Uni Ef3 := Ef2_uni.entry
theorem Ef3_ok : ExtOk Tryd.prog Ef3 := Ef2_ok.add1 follows (fun x z hz => by simp only [Option.some.injEq] at hz; subst hz; exact r_Count3 Ef2_uni rfl rfl x)
noncomputable def Ef4 : PExt := Ef3.add 48 (entry (gf2 .player notesL .bool fun p l => gif ((l.length : Int) < 1000000) (some (feetOk p l))))
theorem Ef4_uni : Uni Ef4 := Ef3_uni.entry
theorem Ef4_ok : ExtOk Tryd.prog Ef4 := Ef3_ok.add2 follows (fun x y z hz => by obtain ⟨hg, hz⟩ := gif_some hz; simp only [Option.some.injEq] at hz; subst hz; exact r_feet Ef3_uni rfl rfl rfl rfl rfl x y hg)
noncomputable def Ef5 : PExt := Ef4.add 31 (entry (gf2 .player notesL (Em.bool.tup2 i64) fun p l => gif ((l.length : Int) < 1000000) (some (feetF p l))))
theorem Ef5_uni : Uni Ef5 := Ef4_uni.entry
theorem Ef5_ok : ExtOk Tryd.prog Ef5 := Ef4_ok.add2 follows (fun x y z hz => by obtain ⟨hg, hz⟩ := gif_some hz; simp only [Option.some.injEq] at hz; subst hz; exact r_Feet Ef4_uni rfl rfl rfl x y hg)
noncomputable def Ef6 : PExt := Ef5.add 15 (entry (gf2 .player i64s i64s fun p l => gif ((l.length : Int) < 900000) (some (divF p l))))
theorem Ef6_uni : Uni Ef6 := Ef5_uni.entry
theorem Ef6_ok : ExtOk Tryd.prog Ef6 := Ef5_ok.add2 follows (fun x y z hz => by obtain ⟨hg, hz⟩ := gif_some hz; simp only [Option.some.injEq] at hz; subst hz; exact r_divisions Ef5_uni rfl rfl x y hg)
noncomputable def Ef7 : PExt := Ef6.add 22 (entry (gf2 .player .notes .bool fun p s => some (heldF p s)))
theorem Ef7_uni : Uni Ef7 := Ef6_uni.entry
theorem Ef7_ok : ExtOk Tryd.prog Ef7 := Ef6_ok.add2 follows (fun x y z hz => by simp only [Option.some.injEq] at hz; subst hz; exact r_Held Ef6_uni rfl rfl rfl x y)
noncomputable def Ef8 : PExt := Ef7.add 32 (entry (gf3 .player divisionsL notesL .bool fun p l k => gif ((l.length : Int) < 1000000 ∧ (k.length : Int) < 1000000) (some (playsF p l k))))
theorem Ef8_uni : Uni Ef8 := Ef7_uni.entry
theorem Ef8_ok : ExtOk Tryd.prog Ef8 := Ef7_ok.add3 follows (fun x y u z hz => by obtain ⟨hg, hz⟩ := gif_some hz; simp only [Option.some.injEq] at hz; subst hz; exact r_Plays Ef7_uni rfl rfl rfl rfl x y u hg.1 hg.2)

end Go.Kz

/-
  SpanFeet holds: the law answers true, whatever it is handed.
-/
namespace Go.Proofs.YtclleofcjnggaaaDoor
open Go Go.Kz Go.ChangeShapes Go.WideShapes Go.ChangeAt Go.WideMaps Go.WideElems Go.RowKit
set_option maxRecDepth 100000

theorem lifted_SpanFeet (os : Os) (started : os.Started) (H : Type) (enc : TypeId × Value → H) :
    ReturnsInHanded {} Tryd.checked os 9 .any (fun w args => (Rows.spanFeetSpec.pre enc Tryd.prog Tryd.f9 [] false w args ∧ laidMetH Tryd.prog laidL w) ∧ sizedMet enc Tryd.prog Tryd.f9 (OpenSpec.ofChange Rows.spanFeetSpec) false w args)
      (Rows.spanFeetSpec.post enc Tryd.prog Tryd.f9 false true false false) := by
  refine returnsInHanded_of_change_and (C := Tryd.checked) (X := fun w _ => laidMetH Tryd.prog laidL w) (fun _ _ _ hh h => h.of_heap hh) own started (by kernel_rfl) Tryd.func9
    (ChangeSpec.witness_shaped (enc := enc) (C := Tryd.checked) (os := os) (X := fun w _ => laidMetH Tryd.prog laidL w) false (World.doorLaid Tryd.prog 400 os) #[.agg #[.int .i64 0, .int .i64 0, .int .i64 0, .int .i64 0], .slice none 0 0] 12 rfl (World.shaped_of_RefB (by kernel_rfl) (by kernel_rfl)) (by kernel_rfl) (by kernel_rfl) (by kernel_rfl) (door_met os _)) ?_
  intro W base args ds gs before hval hW _ _ hL _
  have hval : ∀ (j : Nat) t v, Tryd.f9.params[j]? = some t → args[j]? = some v → Value.okWide Tryd.prog W .any base t v := hval
  have hW' := hW
  obtain ⟨p, q, hA, _, _, _, _⟩ := hW
  have hA : DataW.TrodAll enc Tryd.prog W 0 (fun _ => true) true Tryd.f9.params.toList args.toList ds p := hA
  rw [Tryd.params9] at hA hval
  obtain ⟨v1, v2, d1, d2, p1, p2, rfl, _, _, h1, h2⟩ := trodAll_two hA
  obtain ⟨q1, t1, r1⟩ := arg_typed (n := 12) (t := 23) (v := v1) (by kernel_rfl) (hval 0 _ _ rfl rfl) h1
  obtain ⟨p1', e1⟩ := ty_player t1
  rw [e1] at r1
  obtain ⟨q2, t2, r2⟩ := arg_typed (n := 12) (t := 64) (v := v2) (by kernel_rfl) (hval 1 _ _ rfl rfl) h2
  obtain ⟨s1, e2, _⟩ := ty_notesL t2
  rw [e2] at r2
  have run := r_SpanFeet Ef8_uni rfl rfl rfl rfl rfl p1' s1
  refine (Run.calls Ef8_ok follows names run (glob hL) (vrs_cons r1 (vrs_cons r2 vrs_nil))).mono fun e' W' ⟨he, hb⟩ => ?_
  subst he
  exact ⟨_, rfl, law_post laidOut rfl hW' hb rfl Tryd.underlying4 (by kernel_rfl) (fun ds hg hd => by
    subst hg
    match ds, hd with
    | [d1, d2], _ => rfl)⟩

theorem spanFeet_holds : Rows.SpanFeetSaid :=
  OpenClaim.holds_of_wide 9 Tryd.f9 rfl rfl rfl rfl rfl rfl rfl ⟨rfl, rfl, rfl, rfl, rfl⟩ rfl rfl rfl rfl rfl (by kernel_rfl) Tryd.func9 (by kernel_rfl)
    (of_decide_eq_true (by kernel_rfl)) (by unfold Func.isWrapper; first | (rw [if_pos (by decide +kernel)]; kernel_rfl) | (rw [if_neg (by decide +kernel)]; exact ⟨rfl, rfl⟩))
    (fun os started H enc _ => lifted_SpanFeet os started H enc)

theorem spanFeet_card : Rows.SpanFeetCardSaid :=
  Claim7.holds_tied_plain_at .later [] [.data] true (true, "40abfb383b17e30e6d7cad2be2972cbafc1276e76edec2d6e229a2e74b8f3c14") false
    spanFeet_holds (fun _ h => by cases h) (by kernel_rfl) (fun _ h => by cases h) spanFeet_row_tie rfl ⟨rfl, rfl⟩ (by kernel_rfl) rfl
    (fun f fn hf hfn => by
      obtain rfl : f = 9 := Option.some.inj ((show Tryd.prog.funcNamed "bombarde/bombardelaw11.SpanFeet" = some 9 by kernel_rfl).symm.trans hf) |>.symm
      obtain rfl : fn = Tryd.f9 := (Option.some.inj (Tryd.func9.symm.trans hfn)).symm
      exact ⟨by kernel_rfl, fun j t ht => by
        rw [Tryd.params9] at ht
        have hm := Array.mem_of_getElem? ht
        have hall : (#[23, 64].all fun u => !Tryd.prog.wantsStandIn u) = true := by kernel_rfl
        have := Array.all_eq_true_iff_forall_mem.1 hall t hm
        exact (show Tryd.prog.wantsStandIn t = false by simpa using this)⟩)
    (by kernel_rfl)
end Go.Proofs.YtclleofcjnggaaaDoor
