/-
  The place of the lowest bit, as math/bits finds it.
-/
import Derived.Test.YtclleofcjnggaaaDoorB
set_option linter.all false
namespace Go.Kz
open Go Go.Proofs

def tab64 : List Int := [0, 1, 56, 2, 57, 49, 28, 3, 61, 58, 42, 50, 38, 29, 17, 4, 62, 47, 59, 36, 45, 43, 51, 22, 53, 39, 33, 30, 24, 18, 12, 5, 63, 55, 48, 27, 60, 41, 37, 16, 46, 35, 44, 21, 52, 32, 23, 11, 54, 26, 40, 15, 34, 20, 31, 10, 25, 14, 19, 9, 13, 8, 7, 6]
def idx64 (k : Nat) : Nat := ((BitVec.twoPow 64 k * 285870213051353865#64) >>> 58).toNat

theorem idx64_ok : ∀ k : Fin 64, idx64 k.val < 64 ∧ tab64[idx64 k.val]? = some (k.val : Int) := by decide +kernel

theorem tn_idx (k : Nat) : tn ((BitVec.twoPow 64 k * 285870213051353865#64) >>> 58) = (idx64 k : Int) := by
  have h := tn_eq ((BitVec.twoPow 64 k * 285870213051353865#64) >>> 58)
  rw [h, idx64]

theorem gcells0 : gcells 0 = some (tab64.map (PD.int .u8)) := rfl

theorem wrap_mul_deBruijn {a : BitVec 64} : IntKind.u64.wrap (tn a * 285870213051353865) = tn (a * 285870213051353865#64) := wrap_mul64_lit 285870213051353865 (by omega)

theorem tab_at {k : Nat} (h : k < 64) : (tab64.map (PD.int .u8))[idx64 k]? = some (.int .u8 (k : Int)) := by
  rw [List.getElem?_map, (idx64_ok ⟨k, h⟩).2]
  rfl

variable {E : PExt} (hU : Uni E)
include hU
set_option maxRecDepth 10000
set_option linter.unusedSectionVars false

theorem r_tz (h0 : E 55 = none) (x : BitVec 64) : Run Tryd.prog E 55 [Em.bv64.emb x] (i64.emb (tz x)) := by
  apply Run.bodyL h0 Tryd.func55 rfl
  focus (simp [show Tryd.f55.ntmps = _ from rfl, List.replicate]; rfl)
  by_cases hx : x = 0#64
  · subst hx
    repeat (first
      | (refine Fr.i ?_; simp only [pput, List.set_cons_zero, List.set_cons_succ]; try rfl) | (refine By.i ?_; simp (disch := first | omega | (simp; done) | (simp; omega)) [wrap_i64, wrap_u64, tn]; first | done | rfl | exact ⟨rfl, rfl⟩)
      | (refine Wt.i ?_; first | rfl | (simp [tn]; done))
      | (refine Ns.i ?_; (try simp only [List.append_nil, List.nil_append, List.cons_append, List.append_assoc, List.length_append, List.length_cons, List.length_nil, Nat.zero_add, Nat.reduceAdd]); rfl) | rfl
      | (apply SL.pass; (focus (refine Wt.i ?_; rfl))) | apply SL.move | apply SL.assign | apply SL.load | apply SL.binOp | apply SL.append | apply SL.builtin | apply SL.fieldAddr | apply SL.indexAddr | apply SL.field | apply SL.extract
      | apply SL.fcall | apply SL.pick | apply SL.store | apply SL.unOp | apply SL.convert | apply SL.index | apply SL.slice | apply SL.build | apply SL.nilCheck | apply SL.buildSlice | apply SL.box | apply SL.alloc | apply SL.makeFunc
      | apply SQ.nil | (apply WL.reg; (focus decide +kernel)) | (apply WL.drawP (by assumption); (focus decide +kernel)) | (apply WL.drawF; (focus decide +kernel)) | (apply WL.reg1; (focus decide +kernel)) | apply WL.skip
      | (apply WL.ct; (focus rfl)) | (apply WL.cf; (focus rfl)) | refine SeqQ.normal ?_ | refine SeqQ.ret ?_ | refine SeqQ.exit ?_ | refine BlockQ.normal ?_ | refine BlockQ.ret ?_ | refine BlockQ.here ?_ | refine BlockQ.there (by decide) ?_
      | refine Wp.block ?_ | refine Wp.skip ?_ | refine Wp.ret ?_ | refine Wp.exit ?_ | refine LoopI.ret ?_ | refine LoopI.exit ?_ | refine LoopQ.normal ?_ | refine LoopQ.ret ?_ | refine LoopQ.exit ?_ | refine Wp.seq (Wp.seq ?_)
      | refine Wp.seq (Wp.block ?_) | (refine Wp.seq ?_; apply WL.ct; (focus rfl)) | (refine Wp.seq ?_; apply WL.cf; (focus rfl)))
    simp (disch := first | omega | (simp; done) | (simp; omega)) [decide_eq_decide, tz, bits_zero] <;> try rfl
  · have hz : ¬ tn x = 0 := fun h => hx (BitVec.eq_of_toNat_eq (by unfold tn at h; simp; omega))
    obtain ⟨h1, _⟩ := tz_spec hx
    obtain ⟨t, ht⟩ : ∃ t, t = tz x := ⟨_, rfl⟩
    rw [← ht] at h1 ⊢
    have hl : x &&& -x = BitVec.twoPow 64 t := by rw [ht]; exact low_and_neg hx
    obtain ⟨i, e1, e2, e3⟩ : ∃ i : Nat, tn ((BitVec.twoPow 64 t * 285870213051353865#64) >>> 58) = (i : Int) ∧ i < 64 ∧ (tab64.map (PD.int .u8))[i]? = some (.int .u8 (t : Int)) :=
      ⟨idx64 t, tn_idx t, (idx64_ok ⟨t, h1⟩).1, tab_at h1⟩
    simp only [tab64, List.map_cons, List.map_nil] at e3
    obtain ⟨_, e4⟩ := List.getElem?_eq_some_iff.1 e3
    clear ht
    repeat (first
      | (refine Fr.i ?_; simp only [pput, List.set_cons_zero, List.set_cons_succ]; try rfl)
      | (refine By.i ?_; simp (disch := first | omega | (simp; done) | (simp; omega)) [wrap_i64, wrap_u64, hz, hl, wrap_mul_deBruijn, e1, e3, e4]; first | done | rfl | exact ⟨rfl, rfl⟩)
      | (refine Wt.i ?_; first | rfl | (simp [hz, hl, wrap_mul_deBruijn, e1, e3, e4]; done))
      | (refine Ns.i ?_; (try simp only [List.append_nil, List.nil_append, List.cons_append, List.append_assoc, List.length_append, List.length_cons, List.length_nil, Nat.zero_add, Nat.reduceAdd]); rfl) | rfl
      | (apply SL.pass; (focus (refine Wt.i ?_; rfl))) | apply SL.move | apply SL.assign | apply SL.load | apply SL.binOp | apply SL.append | apply SL.builtin | apply SL.fieldAddr | apply SL.indexAddr | apply SL.field | apply SL.extract
      | apply SL.fcall | apply SL.pick | apply SL.store | apply SL.unOp | apply SL.convert | apply SL.index | apply SL.slice | apply SL.build | apply SL.nilCheck | apply SL.buildSlice | apply SL.box | apply SL.alloc | apply SL.makeFunc
      | apply SQ.nil | (apply WL.reg; (focus decide +kernel)) | (apply WL.drawP (by assumption); (focus decide +kernel)) | (apply WL.drawF; (focus decide +kernel)) | (apply WL.reg1; (focus decide +kernel)) | apply WL.skip
      | (apply WL.ct; (focus rfl)) | (apply WL.cf; (focus rfl)) | refine SeqQ.normal ?_ | refine SeqQ.ret ?_ | refine SeqQ.exit ?_ | refine BlockQ.normal ?_ | refine BlockQ.ret ?_ | refine BlockQ.here ?_ | refine BlockQ.there (by decide) ?_
      | refine Wp.block ?_ | refine Wp.skip ?_ | refine Wp.ret ?_ | refine Wp.exit ?_ | refine LoopI.ret ?_ | refine LoopI.exit ?_ | refine LoopQ.normal ?_ | refine LoopQ.ret ?_ | refine LoopQ.exit ?_ | refine Wp.seq (Wp.seq ?_)
      | refine Wp.seq (Wp.block ?_) | (refine Wp.seq ?_; apply WL.ct; (focus rfl)) | (refine Wp.seq ?_; apply WL.cf; (focus rfl)))
    simp (disch := first | omega | (simp; done) | (simp; omega)) [decide_eq_decide] <;> try rfl

end Go.Kz
