/-
  SpanHands, out of the walks: the run answers true.
-/
import Derived.Test.YtclleofcjnggaaaDoorF
import Derived.Test.YtclleofcjnggaaaDoorKzZi
set_option linter.all false
namespace Go.Kz
open Go Go.Proofs

theorem one_holds (p : Player) (l : List Int) (h : ¬ p.hs < 0) : oneOk p l = holdsOk l p.hn p.hs := by
  unfold oneOk holdsOk
  cases l with
  | nil =>
    have : (0 : Int) ≤ p.hs := by omega
    simp [this]
  | cons x l => simp

theorem err_hs {p : Player} (h : errOf p = 0) : ¬ p.hs < 0 := by
  intro h2
  unfold errOf at h
  rw [if_pos (by omega)] at h
  cases h

variable {E : PExt} (hU : Uni E)
include hU
set_option maxRecDepth 10000
set_option linter.unusedSectionVars false

theorem r_SpanHands (h0 : E 7 = none) (hk : E 12 = some (entry (gf0 .bool (some true)))) (hc : E 13 = some (entry (gf1 .player i64 fun p => some (errOf p))))
    (ho : E 25 = some (entry (gf2 .player .notes (Em.bool.tup2 i64) fun p s => some (oneF p s)))) (hl : E 14 = some (entry (gf1 .notes i64s fun s => some s.list)))
    (hh : E 20 = some (entry (gf3 i64s i64 i64 .bool fun l n w => gif ((l.length : Int) < 1000000) (some (holdsOk l n w))))) (p : Player) (s : Notes) :
    Run Tryd.prog E 7 [Em.player.emb p, Em.notes.emb s] (.bool true) := by
  have hlen : s.list.length ≤ 128 := listTo_len s 128
  apply Run.bodyL h0 Tryd.func7 rfl
  focus (simp [show Tryd.f7.ntmps = _ from rfl, List.replicate]; rfl)
  by_cases h : errOf p = 0
  · have h9 := one_holds p s.list (err_hs h)
    repeat (first
      | (refine Fr.i ?_; simp only [pput, List.set_cons_zero, List.set_cons_succ]; try rfl)
      | (refine By.i ?_; simp (disch := first | omega | (simp; done) | (simp; omega)) [wrap_i64, wrap_u64, h, hk, hc, ho, hl, hh, entry, gf0, gf1, gf2, gf3, oneF, h9]; first | done | rfl | exact ⟨rfl, rfl⟩)
      | (refine Wt.i ?_; first | rfl | (simp [h, hk, hc, ho, hl, hh, entry, gf0, gf1, gf2, gf3, oneF, h9]; done))
      | (refine Ns.i ?_; (try simp only [List.append_nil, List.nil_append, List.cons_append, List.append_assoc, List.length_append, List.length_cons, List.length_nil, Nat.zero_add, Nat.reduceAdd]); rfl) | rfl
      | (apply SL.pass; (focus (refine Wt.i ?_; rfl))) | apply SL.move | apply SL.assign | apply SL.load | apply SL.binOp | apply SL.append | apply SL.builtin | apply SL.fieldAddr | apply SL.indexAddr | apply SL.field | apply SL.extract
      | apply SL.fcall | apply SL.pick | apply SL.store | apply SL.unOp | apply SL.convert | apply SL.index | apply SL.slice | apply SL.build | apply SL.nilCheck | apply SL.buildSlice | apply SL.box | apply SL.alloc | apply SL.makeFunc
      | apply SQ.nil | (apply WL.reg; (focus decide +kernel)) | (apply WL.drawP (by assumption); (focus decide +kernel)) | (apply WL.drawF; (focus decide +kernel)) | (apply WL.reg1; (focus decide +kernel)) | apply WL.skip
      | (apply WL.ct; (focus rfl)) | (apply WL.cf; (focus rfl)) | refine SeqQ.normal ?_ | refine SeqQ.ret ?_ | refine SeqQ.exit ?_ | refine BlockQ.normal ?_ | refine BlockQ.ret ?_ | refine BlockQ.here ?_ | refine BlockQ.there (by decide) ?_
      | refine Wp.block ?_ | refine Wp.skip ?_ | refine Wp.ret ?_ | refine Wp.exit ?_ | refine LoopI.ret ?_ | refine LoopI.exit ?_ | refine LoopQ.normal ?_ | refine LoopQ.ret ?_ | refine LoopQ.exit ?_ | refine Wp.seq (Wp.seq ?_)
      | refine Wp.seq (Wp.block ?_) | (refine Wp.seq ?_; apply WL.ct; (focus rfl)) | (refine Wp.seq ?_; apply WL.cf; (focus rfl)))
    simp (disch := first | omega | (simp; done) | (simp; omega)) [decide_eq_decide] <;> try rfl
  · repeat (first
      | (refine Fr.i ?_; simp only [pput, List.set_cons_zero, List.set_cons_succ]; try rfl)
      | (refine By.i ?_; simp (disch := first | omega | (simp; done) | (simp; omega)) [wrap_i64, wrap_u64, h, hk, hc, ho, hl, hh, entry, gf0, gf1, gf2, gf3, oneF]; first | done | rfl | exact ⟨rfl, rfl⟩)
      | (refine Wt.i ?_; first | rfl | (simp [h, hk, hc, ho, hl, hh, entry, gf0, gf1, gf2, gf3, oneF]; done))
      | (refine Ns.i ?_; (try simp only [List.append_nil, List.nil_append, List.cons_append, List.append_assoc, List.length_append, List.length_cons, List.length_nil, Nat.zero_add, Nat.reduceAdd]); rfl) | rfl
      | (apply SL.pass; (focus (refine Wt.i ?_; rfl))) | apply SL.move | apply SL.assign | apply SL.load | apply SL.binOp | apply SL.append | apply SL.builtin | apply SL.fieldAddr | apply SL.indexAddr | apply SL.field | apply SL.extract
      | apply SL.fcall | apply SL.pick | apply SL.store | apply SL.unOp | apply SL.convert | apply SL.index | apply SL.slice | apply SL.build | apply SL.nilCheck | apply SL.buildSlice | apply SL.box | apply SL.alloc | apply SL.makeFunc
      | apply SQ.nil | (apply WL.reg; (focus decide +kernel)) | (apply WL.drawP (by assumption); (focus decide +kernel)) | (apply WL.drawF; (focus decide +kernel)) | (apply WL.reg1; (focus decide +kernel)) | apply WL.skip
      | (apply WL.ct; (focus rfl)) | (apply WL.cf; (focus rfl)) | refine SeqQ.normal ?_ | refine SeqQ.ret ?_ | refine SeqQ.exit ?_ | refine BlockQ.normal ?_ | refine BlockQ.ret ?_ | refine BlockQ.here ?_ | refine BlockQ.there (by decide) ?_
      | refine Wp.block ?_ | refine Wp.skip ?_ | refine Wp.ret ?_ | refine Wp.exit ?_ | refine LoopI.ret ?_ | refine LoopI.exit ?_ | refine LoopQ.normal ?_ | refine LoopQ.ret ?_ | refine LoopQ.exit ?_ | refine Wp.seq (Wp.seq ?_)
      | refine Wp.seq (Wp.block ?_) | (refine Wp.seq ?_; apply WL.ct; (focus rfl)) | (refine Wp.seq ?_; apply WL.cf; (focus rfl)))
    simp (disch := first | omega | (simp; done) | (simp; omega)) [decide_eq_decide] <;> try rfl

end Go.Kz
