/-
  Layer 11: the checks of a player; trailing zeros.
-/
import Derived.Test.YtclleofcjnggaaaDoorSa
set_option linter.all false
namespace Go.Kz
open Go Go.Proofs

theorem right_cases (p : Player) : p.hn < 0 ∨ (¬ p.hn < 0 ∧ 10 < p.hn) ∨ (¬ p.hn < 0 ∧ ¬ 10 < p.hn ∧ p.fn < 0) ∨ (¬ p.hn < 0 ∧ ¬ 10 < p.hn ∧ ¬ p.fn < 0 ∧ 10 < p.fn) ∨
    (¬ p.hn < 0 ∧ ¬ 10 < p.hn ∧ ¬ p.fn < 0 ∧ ¬ 10 < p.fn ∧ p.hs < 0) ∨ (¬ p.hn < 0 ∧ ¬ 10 < p.hn ∧ ¬ p.fn < 0 ∧ ¬ 10 < p.fn ∧ ¬ p.hs < 0 ∧ 127 < p.hs) ∨
    (¬ p.hn < 0 ∧ ¬ 10 < p.hn ∧ ¬ p.fn < 0 ∧ ¬ 10 < p.fn ∧ ¬ p.hs < 0 ∧ ¬ 127 < p.hs ∧ p.fs < 0) ∨ (¬ p.hn < 0 ∧ ¬ 10 < p.hn ∧ ¬ p.fn < 0 ∧ ¬ 10 < p.fn ∧ ¬ p.hs < 0 ∧ ¬ 127 < p.hs ∧ ¬ p.fs < 0 ∧ 127 < p.fs) ∨
    (¬ p.hn < 0 ∧ ¬ 10 < p.hn ∧ ¬ p.fn < 0 ∧ ¬ 10 < p.fn ∧ ¬ p.hs < 0 ∧ ¬ 127 < p.hs ∧ ¬ p.fs < 0 ∧ ¬ 127 < p.fs) := by omega

/-- The error of a player. -/
def errOf (p : Player) : Int := if p.hn < 0 ∨ 10 < p.hn ∨ p.fn < 0 ∨ 10 < p.fn ∨ p.hs < 0 ∨ 127 < p.hs ∨ p.fs < 0 ∨ 127 < p.fs then 3 else 0

variable {E : PExt} (hU : Uni E)
include hU
set_option maxRecDepth 10000
set_option linter.unusedSectionVars false

theorem r_check (h0 : E 13 = none) (p : Player) : Run Tryd.prog E 13 [Em.player.emb p] (i64.emb (errOf p)) := by
  apply Run.bodyL h0 Tryd.func13 rfl
  focus (simp [show Tryd.f13.ntmps = _ from rfl, List.replicate]; rfl)
  rcases right_cases p with h | ⟨a1, h⟩ | ⟨a1, a2, h⟩ | ⟨a1, a2, a3, h⟩ | ⟨a1, a2, a3, a4, h⟩ | ⟨a1, a2, a3, a4, a5, h⟩ | ⟨a1, a2, a3, a4, a5, a6, h⟩ | ⟨a1, a2, a3, a4, a5, a6, a7, h⟩ | ⟨a1, a2, a3, a4, a5, a6, a7, h⟩
  · repeat (first
      | (refine Fr.i ?_; simp only [pput, List.set_cons_zero, List.set_cons_succ]; try rfl) | (refine By.i ?_; simp (disch := first | omega | (simp; done) | (simp; omega)) [wrap_i64, wrap_u64, h]; first | done | rfl | exact ⟨rfl, rfl⟩)
      | (refine Wt.i ?_; first | rfl | (simp [h]; done))
      | (refine Ns.i ?_; (try simp only [List.append_nil, List.nil_append, List.cons_append, List.append_assoc, List.length_append, List.length_cons, List.length_nil, Nat.zero_add, Nat.reduceAdd]); rfl) | rfl
      | (apply SL.pass; (focus (refine Wt.i ?_; rfl))) | apply SL.move | apply SL.assign | apply SL.load | apply SL.binOp | apply SL.append | apply SL.builtin | apply SL.fieldAddr | apply SL.indexAddr | apply SL.field | apply SL.extract
      | apply SL.fcall | apply SL.pick | apply SL.store | apply SL.unOp | apply SL.convert | apply SL.index | apply SL.slice | apply SL.build | apply SL.nilCheck | apply SL.buildSlice | apply SL.box | apply SL.alloc | apply SL.makeFunc
      | apply SQ.nil | (apply WL.reg; (focus decide +kernel)) | (apply WL.drawP (by assumption); (focus decide +kernel)) | (apply WL.drawF; (focus decide +kernel)) | (apply WL.reg1; (focus decide +kernel)) | apply WL.skip
      | (apply WL.ct; (focus rfl)) | (apply WL.cf; (focus rfl)) | refine SeqQ.normal ?_ | refine SeqQ.ret ?_ | refine SeqQ.exit ?_ | refine BlockQ.normal ?_ | refine BlockQ.ret ?_ | refine BlockQ.here ?_ | refine BlockQ.there (by decide) ?_
      | refine Wp.block ?_ | refine Wp.skip ?_ | refine Wp.ret ?_ | refine Wp.exit ?_ | refine LoopI.ret ?_ | refine LoopI.exit ?_ | refine LoopQ.normal ?_ | refine LoopQ.ret ?_ | refine LoopQ.exit ?_ | refine Wp.seq (Wp.seq ?_)
      | refine Wp.seq (Wp.block ?_) | (refine Wp.seq ?_; apply WL.ct; (focus rfl)) | (refine Wp.seq ?_; apply WL.cf; (focus rfl)) | refine Wp.seq (Wp.loop ?_) | refine Wp.loop ?_)
    simp (disch := first | omega | (simp; done) | (simp; omega)) [decide_eq_decide, errOf, h] <;> try rfl
  · repeat (first
      | (refine Fr.i ?_; simp only [pput, List.set_cons_zero, List.set_cons_succ]; try rfl) | (refine By.i ?_; simp (disch := first | omega | (simp; done) | (simp; omega)) [wrap_i64, wrap_u64, a1, h]; first | done | rfl | exact ⟨rfl, rfl⟩)
      | (refine Wt.i ?_; first | rfl | (simp [a1, h]; done))
      | (refine Ns.i ?_; (try simp only [List.append_nil, List.nil_append, List.cons_append, List.append_assoc, List.length_append, List.length_cons, List.length_nil, Nat.zero_add, Nat.reduceAdd]); rfl) | rfl
      | (apply SL.pass; (focus (refine Wt.i ?_; rfl))) | apply SL.move | apply SL.assign | apply SL.load | apply SL.binOp | apply SL.append | apply SL.builtin | apply SL.fieldAddr | apply SL.indexAddr | apply SL.field | apply SL.extract
      | apply SL.fcall | apply SL.pick | apply SL.store | apply SL.unOp | apply SL.convert | apply SL.index | apply SL.slice | apply SL.build | apply SL.nilCheck | apply SL.buildSlice | apply SL.box | apply SL.alloc | apply SL.makeFunc
      | apply SQ.nil | (apply WL.reg; (focus decide +kernel)) | (apply WL.drawP (by assumption); (focus decide +kernel)) | (apply WL.drawF; (focus decide +kernel)) | (apply WL.reg1; (focus decide +kernel)) | apply WL.skip
      | (apply WL.ct; (focus rfl)) | (apply WL.cf; (focus rfl)) | refine SeqQ.normal ?_ | refine SeqQ.ret ?_ | refine SeqQ.exit ?_ | refine BlockQ.normal ?_ | refine BlockQ.ret ?_ | refine BlockQ.here ?_ | refine BlockQ.there (by decide) ?_
      | refine Wp.block ?_ | refine Wp.skip ?_ | refine Wp.ret ?_ | refine Wp.exit ?_ | refine LoopI.ret ?_ | refine LoopI.exit ?_ | refine LoopQ.normal ?_ | refine LoopQ.ret ?_ | refine LoopQ.exit ?_ | refine Wp.seq (Wp.seq ?_)
      | refine Wp.seq (Wp.block ?_) | (refine Wp.seq ?_; apply WL.ct; (focus rfl)) | (refine Wp.seq ?_; apply WL.cf; (focus rfl)) | refine Wp.seq (Wp.loop ?_) | refine Wp.loop ?_)
    simp (disch := first | omega | (simp; done) | (simp; omega)) [decide_eq_decide, errOf, h] <;> try rfl
  · repeat (first
      | (refine Fr.i ?_; simp only [pput, List.set_cons_zero, List.set_cons_succ]; try rfl) | (refine By.i ?_; simp (disch := first | omega | (simp; done) | (simp; omega)) [wrap_i64, wrap_u64, a1, a2, h]; first | done | rfl | exact ⟨rfl, rfl⟩)
      | (refine Wt.i ?_; first | rfl | (simp [a1, a2, h]; done))
      | (refine Ns.i ?_; (try simp only [List.append_nil, List.nil_append, List.cons_append, List.append_assoc, List.length_append, List.length_cons, List.length_nil, Nat.zero_add, Nat.reduceAdd]); rfl) | rfl
      | (apply SL.pass; (focus (refine Wt.i ?_; rfl))) | apply SL.move | apply SL.assign | apply SL.load | apply SL.binOp | apply SL.append | apply SL.builtin | apply SL.fieldAddr | apply SL.indexAddr | apply SL.field | apply SL.extract
      | apply SL.fcall | apply SL.pick | apply SL.store | apply SL.unOp | apply SL.convert | apply SL.index | apply SL.slice | apply SL.build | apply SL.nilCheck | apply SL.buildSlice | apply SL.box | apply SL.alloc | apply SL.makeFunc
      | apply SQ.nil | (apply WL.reg; (focus decide +kernel)) | (apply WL.drawP (by assumption); (focus decide +kernel)) | (apply WL.drawF; (focus decide +kernel)) | (apply WL.reg1; (focus decide +kernel)) | apply WL.skip
      | (apply WL.ct; (focus rfl)) | (apply WL.cf; (focus rfl)) | refine SeqQ.normal ?_ | refine SeqQ.ret ?_ | refine SeqQ.exit ?_ | refine BlockQ.normal ?_ | refine BlockQ.ret ?_ | refine BlockQ.here ?_ | refine BlockQ.there (by decide) ?_
      | refine Wp.block ?_ | refine Wp.skip ?_ | refine Wp.ret ?_ | refine Wp.exit ?_ | refine LoopI.ret ?_ | refine LoopI.exit ?_ | refine LoopQ.normal ?_ | refine LoopQ.ret ?_ | refine LoopQ.exit ?_ | refine Wp.seq (Wp.seq ?_)
      | refine Wp.seq (Wp.block ?_) | (refine Wp.seq ?_; apply WL.ct; (focus rfl)) | (refine Wp.seq ?_; apply WL.cf; (focus rfl)) | refine Wp.seq (Wp.loop ?_) | refine Wp.loop ?_)
    simp (disch := first | omega | (simp; done) | (simp; omega)) [decide_eq_decide, errOf, h] <;> try rfl
  · repeat (first
      | (refine Fr.i ?_; simp only [pput, List.set_cons_zero, List.set_cons_succ]; try rfl)
      | (refine By.i ?_; simp (disch := first | omega | (simp; done) | (simp; omega)) [wrap_i64, wrap_u64, a1, a2, a3, h]; first | done | rfl | exact ⟨rfl, rfl⟩) | (refine Wt.i ?_; first | rfl | (simp [a1, a2, a3, h]; done))
      | (refine Ns.i ?_; (try simp only [List.append_nil, List.nil_append, List.cons_append, List.append_assoc, List.length_append, List.length_cons, List.length_nil, Nat.zero_add, Nat.reduceAdd]); rfl) | rfl
      | (apply SL.pass; (focus (refine Wt.i ?_; rfl))) | apply SL.move | apply SL.assign | apply SL.load | apply SL.binOp | apply SL.append | apply SL.builtin | apply SL.fieldAddr | apply SL.indexAddr | apply SL.field | apply SL.extract
      | apply SL.fcall | apply SL.pick | apply SL.store | apply SL.unOp | apply SL.convert | apply SL.index | apply SL.slice | apply SL.build | apply SL.nilCheck | apply SL.buildSlice | apply SL.box | apply SL.alloc | apply SL.makeFunc
      | apply SQ.nil | (apply WL.reg; (focus decide +kernel)) | (apply WL.drawP (by assumption); (focus decide +kernel)) | (apply WL.drawF; (focus decide +kernel)) | (apply WL.reg1; (focus decide +kernel)) | apply WL.skip
      | (apply WL.ct; (focus rfl)) | (apply WL.cf; (focus rfl)) | refine SeqQ.normal ?_ | refine SeqQ.ret ?_ | refine SeqQ.exit ?_ | refine BlockQ.normal ?_ | refine BlockQ.ret ?_ | refine BlockQ.here ?_ | refine BlockQ.there (by decide) ?_
      | refine Wp.block ?_ | refine Wp.skip ?_ | refine Wp.ret ?_ | refine Wp.exit ?_ | refine LoopI.ret ?_ | refine LoopI.exit ?_ | refine LoopQ.normal ?_ | refine LoopQ.ret ?_ | refine LoopQ.exit ?_ | refine Wp.seq (Wp.seq ?_)
      | refine Wp.seq (Wp.block ?_) | (refine Wp.seq ?_; apply WL.ct; (focus rfl)) | (refine Wp.seq ?_; apply WL.cf; (focus rfl)) | refine Wp.seq (Wp.loop ?_) | refine Wp.loop ?_)
    simp (disch := first | omega | (simp; done) | (simp; omega)) [decide_eq_decide, errOf, h] <;> try rfl
  · repeat (first
      | (refine Fr.i ?_; simp only [pput, List.set_cons_zero, List.set_cons_succ]; try rfl)
      | (refine By.i ?_; simp (disch := first | omega | (simp; done) | (simp; omega)) [wrap_i64, wrap_u64, a1, a2, a3, a4, h]; first | done | rfl | exact ⟨rfl, rfl⟩) | (refine Wt.i ?_; first | rfl | (simp [a1, a2, a3, a4, h]; done))
      | (refine Ns.i ?_; (try simp only [List.append_nil, List.nil_append, List.cons_append, List.append_assoc, List.length_append, List.length_cons, List.length_nil, Nat.zero_add, Nat.reduceAdd]); rfl) | rfl
      | (apply SL.pass; (focus (refine Wt.i ?_; rfl))) | apply SL.move | apply SL.assign | apply SL.load | apply SL.binOp | apply SL.append | apply SL.builtin | apply SL.fieldAddr | apply SL.indexAddr | apply SL.field | apply SL.extract
      | apply SL.fcall | apply SL.pick | apply SL.store | apply SL.unOp | apply SL.convert | apply SL.index | apply SL.slice | apply SL.build | apply SL.nilCheck | apply SL.buildSlice | apply SL.box | apply SL.alloc | apply SL.makeFunc
      | apply SQ.nil | (apply WL.reg; (focus decide +kernel)) | (apply WL.drawP (by assumption); (focus decide +kernel)) | (apply WL.drawF; (focus decide +kernel)) | (apply WL.reg1; (focus decide +kernel)) | apply WL.skip
      | (apply WL.ct; (focus rfl)) | (apply WL.cf; (focus rfl)) | refine SeqQ.normal ?_ | refine SeqQ.ret ?_ | refine SeqQ.exit ?_ | refine BlockQ.normal ?_ | refine BlockQ.ret ?_ | refine BlockQ.here ?_ | refine BlockQ.there (by decide) ?_
      | refine Wp.block ?_ | refine Wp.skip ?_ | refine Wp.ret ?_ | refine Wp.exit ?_ | refine LoopI.ret ?_ | refine LoopI.exit ?_ | refine LoopQ.normal ?_ | refine LoopQ.ret ?_ | refine LoopQ.exit ?_ | refine Wp.seq (Wp.seq ?_)
      | refine Wp.seq (Wp.block ?_) | (refine Wp.seq ?_; apply WL.ct; (focus rfl)) | (refine Wp.seq ?_; apply WL.cf; (focus rfl)) | refine Wp.seq (Wp.loop ?_) | refine Wp.loop ?_)
    simp (disch := first | omega | (simp; done) | (simp; omega)) [decide_eq_decide, errOf, h] <;> try rfl
  · repeat (first
      | (refine Fr.i ?_; simp only [pput, List.set_cons_zero, List.set_cons_succ]; try rfl)
      | (refine By.i ?_; simp (disch := first | omega | (simp; done) | (simp; omega)) [wrap_i64, wrap_u64, a1, a2, a3, a4, a5, h]; first | done | rfl | exact ⟨rfl, rfl⟩) | (refine Wt.i ?_; first | rfl | (simp [a1, a2, a3, a4, a5, h]; done))
      | (refine Ns.i ?_; (try simp only [List.append_nil, List.nil_append, List.cons_append, List.append_assoc, List.length_append, List.length_cons, List.length_nil, Nat.zero_add, Nat.reduceAdd]); rfl) | rfl
      | (apply SL.pass; (focus (refine Wt.i ?_; rfl))) | apply SL.move | apply SL.assign | apply SL.load | apply SL.binOp | apply SL.append | apply SL.builtin | apply SL.fieldAddr | apply SL.indexAddr | apply SL.field | apply SL.extract
      | apply SL.fcall | apply SL.pick | apply SL.store | apply SL.unOp | apply SL.convert | apply SL.index | apply SL.slice | apply SL.build | apply SL.nilCheck | apply SL.buildSlice | apply SL.box | apply SL.alloc | apply SL.makeFunc
      | apply SQ.nil | (apply WL.reg; (focus decide +kernel)) | (apply WL.drawP (by assumption); (focus decide +kernel)) | (apply WL.drawF; (focus decide +kernel)) | (apply WL.reg1; (focus decide +kernel)) | apply WL.skip
      | (apply WL.ct; (focus rfl)) | (apply WL.cf; (focus rfl)) | refine SeqQ.normal ?_ | refine SeqQ.ret ?_ | refine SeqQ.exit ?_ | refine BlockQ.normal ?_ | refine BlockQ.ret ?_ | refine BlockQ.here ?_ | refine BlockQ.there (by decide) ?_
      | refine Wp.block ?_ | refine Wp.skip ?_ | refine Wp.ret ?_ | refine Wp.exit ?_ | refine LoopI.ret ?_ | refine LoopI.exit ?_ | refine LoopQ.normal ?_ | refine LoopQ.ret ?_ | refine LoopQ.exit ?_ | refine Wp.seq (Wp.seq ?_)
      | refine Wp.seq (Wp.block ?_) | (refine Wp.seq ?_; apply WL.ct; (focus rfl)) | (refine Wp.seq ?_; apply WL.cf; (focus rfl)) | refine Wp.seq (Wp.loop ?_) | refine Wp.loop ?_)
    simp (disch := first | omega | (simp; done) | (simp; omega)) [decide_eq_decide, errOf, h] <;> try rfl
  · repeat (first
      | (refine Fr.i ?_; simp only [pput, List.set_cons_zero, List.set_cons_succ]; try rfl)
      | (refine By.i ?_; simp (disch := first | omega | (simp; done) | (simp; omega)) [wrap_i64, wrap_u64, a1, a2, a3, a4, a5, a6, h]; first | done | rfl | exact ⟨rfl, rfl⟩)
      | (refine Wt.i ?_; first | rfl | (simp [a1, a2, a3, a4, a5, a6, h]; done))
      | (refine Ns.i ?_; (try simp only [List.append_nil, List.nil_append, List.cons_append, List.append_assoc, List.length_append, List.length_cons, List.length_nil, Nat.zero_add, Nat.reduceAdd]); rfl) | rfl
      | (apply SL.pass; (focus (refine Wt.i ?_; rfl))) | apply SL.move | apply SL.assign | apply SL.load | apply SL.binOp | apply SL.append | apply SL.builtin | apply SL.fieldAddr | apply SL.indexAddr | apply SL.field | apply SL.extract
      | apply SL.fcall | apply SL.pick | apply SL.store | apply SL.unOp | apply SL.convert | apply SL.index | apply SL.slice | apply SL.build | apply SL.nilCheck | apply SL.buildSlice | apply SL.box | apply SL.alloc | apply SL.makeFunc
      | apply SQ.nil | (apply WL.reg; (focus decide +kernel)) | (apply WL.drawP (by assumption); (focus decide +kernel)) | (apply WL.drawF; (focus decide +kernel)) | (apply WL.reg1; (focus decide +kernel)) | apply WL.skip
      | (apply WL.ct; (focus rfl)) | (apply WL.cf; (focus rfl)) | refine SeqQ.normal ?_ | refine SeqQ.ret ?_ | refine SeqQ.exit ?_ | refine BlockQ.normal ?_ | refine BlockQ.ret ?_ | refine BlockQ.here ?_ | refine BlockQ.there (by decide) ?_
      | refine Wp.block ?_ | refine Wp.skip ?_ | refine Wp.ret ?_ | refine Wp.exit ?_ | refine LoopI.ret ?_ | refine LoopI.exit ?_ | refine LoopQ.normal ?_ | refine LoopQ.ret ?_ | refine LoopQ.exit ?_ | refine Wp.seq (Wp.seq ?_)
      | refine Wp.seq (Wp.block ?_) | (refine Wp.seq ?_; apply WL.ct; (focus rfl)) | (refine Wp.seq ?_; apply WL.cf; (focus rfl)) | refine Wp.seq (Wp.loop ?_) | refine Wp.loop ?_)
    simp (disch := first | omega | (simp; done) | (simp; omega)) [decide_eq_decide, errOf, h] <;> try rfl
  · repeat (first
      | (refine Fr.i ?_; simp only [pput, List.set_cons_zero, List.set_cons_succ]; try rfl)
      | (refine By.i ?_; simp (disch := first | omega | (simp; done) | (simp; omega)) [wrap_i64, wrap_u64, a1, a2, a3, a4, a5, a6, a7, h]; first | done | rfl | exact ⟨rfl, rfl⟩)
      | (refine Wt.i ?_; first | rfl | (simp [a1, a2, a3, a4, a5, a6, a7, h]; done))
      | (refine Ns.i ?_; (try simp only [List.append_nil, List.nil_append, List.cons_append, List.append_assoc, List.length_append, List.length_cons, List.length_nil, Nat.zero_add, Nat.reduceAdd]); rfl) | rfl
      | (apply SL.pass; (focus (refine Wt.i ?_; rfl))) | apply SL.move | apply SL.assign | apply SL.load | apply SL.binOp | apply SL.append | apply SL.builtin | apply SL.fieldAddr | apply SL.indexAddr | apply SL.field | apply SL.extract
      | apply SL.fcall | apply SL.pick | apply SL.store | apply SL.unOp | apply SL.convert | apply SL.index | apply SL.slice | apply SL.build | apply SL.nilCheck | apply SL.buildSlice | apply SL.box | apply SL.alloc | apply SL.makeFunc
      | apply SQ.nil | (apply WL.reg; (focus decide +kernel)) | (apply WL.drawP (by assumption); (focus decide +kernel)) | (apply WL.drawF; (focus decide +kernel)) | (apply WL.reg1; (focus decide +kernel)) | apply WL.skip
      | (apply WL.ct; (focus rfl)) | (apply WL.cf; (focus rfl)) | refine SeqQ.normal ?_ | refine SeqQ.ret ?_ | refine SeqQ.exit ?_ | refine BlockQ.normal ?_ | refine BlockQ.ret ?_ | refine BlockQ.here ?_ | refine BlockQ.there (by decide) ?_
      | refine Wp.block ?_ | refine Wp.skip ?_ | refine Wp.ret ?_ | refine Wp.exit ?_ | refine LoopI.ret ?_ | refine LoopI.exit ?_ | refine LoopQ.normal ?_ | refine LoopQ.ret ?_ | refine LoopQ.exit ?_ | refine Wp.seq (Wp.seq ?_)
      | refine Wp.seq (Wp.block ?_) | (refine Wp.seq ?_; apply WL.ct; (focus rfl)) | (refine Wp.seq ?_; apply WL.cf; (focus rfl)) | refine Wp.seq (Wp.loop ?_) | refine Wp.loop ?_)
    simp (disch := first | omega | (simp; done) | (simp; omega)) [decide_eq_decide, errOf, h] <;> try rfl
  · repeat (first
      | (refine Fr.i ?_; simp only [pput, List.set_cons_zero, List.set_cons_succ]; try rfl)
      | (refine By.i ?_; simp (disch := first | omega | (simp; done) | (simp; omega)) [wrap_i64, wrap_u64, a1, a2, a3, a4, a5, a6, a7, h]; first | done | rfl | exact ⟨rfl, rfl⟩)
      | (refine Wt.i ?_; first | rfl | (simp [a1, a2, a3, a4, a5, a6, a7, h]; done))
      | (refine Ns.i ?_; (try simp only [List.append_nil, List.nil_append, List.cons_append, List.append_assoc, List.length_append, List.length_cons, List.length_nil, Nat.zero_add, Nat.reduceAdd]); rfl) | rfl
      | (apply SL.pass; (focus (refine Wt.i ?_; rfl))) | apply SL.move | apply SL.assign | apply SL.load | apply SL.binOp | apply SL.append | apply SL.builtin | apply SL.fieldAddr | apply SL.indexAddr | apply SL.field | apply SL.extract
      | apply SL.fcall | apply SL.pick | apply SL.store | apply SL.unOp | apply SL.convert | apply SL.index | apply SL.slice | apply SL.build | apply SL.nilCheck | apply SL.buildSlice | apply SL.box | apply SL.alloc | apply SL.makeFunc
      | apply SQ.nil | (apply WL.reg; (focus decide +kernel)) | (apply WL.drawP (by assumption); (focus decide +kernel)) | (apply WL.drawF; (focus decide +kernel)) | (apply WL.reg1; (focus decide +kernel)) | apply WL.skip
      | (apply WL.ct; (focus rfl)) | (apply WL.cf; (focus rfl)) | refine SeqQ.normal ?_ | refine SeqQ.ret ?_ | refine SeqQ.exit ?_ | refine BlockQ.normal ?_ | refine BlockQ.ret ?_ | refine BlockQ.here ?_ | refine BlockQ.there (by decide) ?_
      | refine Wp.block ?_ | refine Wp.skip ?_ | refine Wp.ret ?_ | refine Wp.exit ?_ | refine LoopI.ret ?_ | refine LoopI.exit ?_ | refine LoopQ.normal ?_ | refine LoopQ.ret ?_ | refine LoopQ.exit ?_ | refine Wp.seq (Wp.seq ?_)
      | refine Wp.seq (Wp.block ?_) | (refine Wp.seq ?_; apply WL.ct; (focus rfl)) | (refine Wp.seq ?_; apply WL.cf; (focus rfl)) | refine Wp.seq (Wp.loop ?_) | refine Wp.loop ?_)
    simp (disch := first | omega | (simp; done) | (simp; omega)) [decide_eq_decide, errOf, a1, a2, a3, a4, a5, a6, a7, h] <;> try rfl

end Go.Kz
