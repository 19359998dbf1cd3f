/-
  The end: SpanErrors holds: the law answers true, whatever it is handed.
-/
import Derived.Test.YtclleofcjnggaaaDoorVe2
import Derived.Test.YtclleofcjnggaaaDoorVe3
import Derived.ChangeArms
import Derived.OpenShut
import Derived.DataReads
import Derived.Test.YtclleofcjnggaaaDoorCards
import Derived.Test.YtclleofcjnggaaaDoorTie
import Derived.SevenTiedAt
set_option linter.all false

/-
  Types whose values are compared.
-/
namespace Go.Kz
open Go Go.Proofs
set_option maxRecDepth 10000
theorem Tryd.eg23 : Tryd.prog.eqGuardType Tryd.prog.depth 23 = false := by kernel_rfl
theorem Tryd.pl23 : pplan Tryd.prog 12 23 = some [.i .i64, .i .i64, .i .i64, .i .i64] := by kernel_rfl
theorem Tryd.pa23 : pagg Tryd.prog 23 = some true := by kernel_rfl
@[simp] theorem Tryd.eq23 {a0 b0 : Int} {a1 b1 : Int} {a2 b2 : Int} {a3 b3 : Int} : pbin Tryd.prog .eql 23 (.agg [.int .i64 a0, .int .i64 a1, .int .i64 a2, .int .i64 a3]) (.agg [.int .i64 b0, .int .i64 b1, .int .i64 b2, .int .i64 b3]) = some (.bool (decide (a0 = b0) && (decide (a1 = b1) && (decide (a2 = b2) && (decide (a3 = b3) && true))))) := pbin_eql_plan Tryd.eg23 Tryd.pl23 Tryd.pa23 rfl
@[simp] theorem Tryd.ne23 {a0 b0 : Int} {a1 b1 : Int} {a2 b2 : Int} {a3 b3 : Int} : pbin Tryd.prog .neq 23 (.agg [.int .i64 a0, .int .i64 a1, .int .i64 a2, .int .i64 a3]) (.agg [.int .i64 b0, .int .i64 b1, .int .i64 b2, .int .i64 b3]) = some (.bool (!(decide (a0 = b0) && (decide (a1 = b1) && (decide (a2 = b2) && (decide (a3 = b3) && true)))))) := pbin_neq_plan Tryd.eg23 Tryd.pl23 Tryd.pa23 rfl
theorem Tryd.eg26 : Tryd.prog.eqGuardType Tryd.prog.depth 26 = false := by kernel_rfl
theorem Tryd.pl26 : pplan Tryd.prog 12 26 = some [.i .u64, .i .u64] := by kernel_rfl
theorem Tryd.pa26 : pagg Tryd.prog 26 = some true := by kernel_rfl
@[simp] theorem Tryd.eq26 {a0 b0 : Int} {a1 b1 : Int} : pbin Tryd.prog .eql 26 (.agg [.int .u64 a0, .int .u64 a1]) (.agg [.int .u64 b0, .int .u64 b1]) = some (.bool (decide (a0 = b0) && (decide (a1 = b1) && true))) := pbin_eql_plan Tryd.eg26 Tryd.pl26 Tryd.pa26 rfl
@[simp] theorem Tryd.ne26 {a0 b0 : Int} {a1 b1 : Int} : pbin Tryd.prog .neq 26 (.agg [.int .u64 a0, .int .u64 a1]) (.agg [.int .u64 b0, .int .u64 b1]) = some (.bool (!(decide (a0 = b0) && (decide (a1 = b1) && true)))) := pbin_neq_plan Tryd.eg26 Tryd.pl26 Tryd.pa26 rfl
theorem Tryd.eg38 : Tryd.prog.eqGuardType Tryd.prog.depth 38 = false := by kernel_rfl
theorem Tryd.pl38 : pplan Tryd.prog 12 38 = some [.i .u64, .i .u64, .i .u64, .i .u64] := by kernel_rfl
theorem Tryd.pa38 : pagg Tryd.prog 38 = some true := by kernel_rfl
@[simp] theorem Tryd.eq38 {a0 b0 : Int} {a1 b1 : Int} {a2 b2 : Int} {a3 b3 : Int} : pbin Tryd.prog .eql 38 (.agg [.int .u64 a0, .int .u64 a1, .int .u64 a2, .int .u64 a3]) (.agg [.int .u64 b0, .int .u64 b1, .int .u64 b2, .int .u64 b3]) = some (.bool (decide (a0 = b0) && (decide (a1 = b1) && (decide (a2 = b2) && (decide (a3 = b3) && true))))) := pbin_eql_plan Tryd.eg38 Tryd.pl38 Tryd.pa38 rfl
@[simp] theorem Tryd.ne38 {a0 b0 : Int} {a1 b1 : Int} {a2 b2 : Int} {a3 b3 : Int} : pbin Tryd.prog .neq 38 (.agg [.int .u64 a0, .int .u64 a1, .int .u64 a2, .int .u64 a3]) (.agg [.int .u64 b0, .int .u64 b1, .int .u64 b2, .int .u64 b3]) = some (.bool (!(decide (a0 = b0) && (decide (a1 = b1) && (decide (a2 = b2) && (decide (a3 = b3) && true)))))) := pbin_neq_plan Tryd.eg38 Tryd.pl38 Tryd.pa38 rfl
theorem Tryd.eg43 : Tryd.prog.eqGuardType Tryd.prog.depth 43 = false := by kernel_rfl
theorem Tryd.pl43 : pplan Tryd.prog 12 43 = some [.i .u8, .i .u16] := by kernel_rfl
theorem Tryd.pa43 : pagg Tryd.prog 43 = some true := by kernel_rfl
@[simp] theorem Tryd.eq43 {a0 b0 : Int} {a1 b1 : Int} : pbin Tryd.prog .eql 43 (.agg [.int .u8 a0, .int .u16 a1]) (.agg [.int .u8 b0, .int .u16 b1]) = some (.bool (decide (a0 = b0) && (decide (a1 = b1) && true))) := pbin_eql_plan Tryd.eg43 Tryd.pl43 Tryd.pa43 rfl
@[simp] theorem Tryd.ne43 {a0 b0 : Int} {a1 b1 : Int} : pbin Tryd.prog .neq 43 (.agg [.int .u8 a0, .int .u16 a1]) (.agg [.int .u8 b0, .int .u16 b1]) = some (.bool (!(decide (a0 = b0) && (decide (a1 = b1) && true)))) := pbin_neq_plan Tryd.eg43 Tryd.pl43 Tryd.pa43 rfl
theorem Tryd.eg50 : Tryd.prog.eqGuardType Tryd.prog.depth 50 = false := by kernel_rfl
theorem Tryd.pl50 : pplan Tryd.prog 12 50 = some [.i .i64, .i .i64] := by kernel_rfl
theorem Tryd.pa50 : pagg Tryd.prog 50 = some true := by kernel_rfl
@[simp] theorem Tryd.eq50 {a0 b0 : Int} {a1 b1 : Int} : pbin Tryd.prog .eql 50 (.agg [.int .i64 a0, .int .i64 a1]) (.agg [.int .i64 b0, .int .i64 b1]) = some (.bool (decide (a0 = b0) && (decide (a1 = b1) && true))) := pbin_eql_plan Tryd.eg50 Tryd.pl50 Tryd.pa50 rfl
@[simp] theorem Tryd.ne50 {a0 b0 : Int} {a1 b1 : Int} : pbin Tryd.prog .neq 50 (.agg [.int .i64 a0, .int .i64 a1]) (.agg [.int .i64 b0, .int .i64 b1]) = some (.bool (!(decide (a0 = b0) && (decide (a1 = b1) && true)))) := pbin_neq_plan Tryd.eg50 Tryd.pl50 Tryd.pa50 rfl
theorem Tryd.eg89 : Tryd.prog.eqGuardType Tryd.prog.depth 89 = false := by kernel_rfl
theorem Tryd.pl89 : pplan Tryd.prog 12 89 = some [.i .i64, .i .i64] := by kernel_rfl
theorem Tryd.pa89 : pagg Tryd.prog 89 = some true := by kernel_rfl
@[simp] theorem Tryd.eq89 {a0 b0 : Int} {a1 b1 : Int} : pbin Tryd.prog .eql 89 (.agg [.int .i64 a0, .int .i64 a1]) (.agg [.int .i64 b0, .int .i64 b1]) = some (.bool (decide (a0 = b0) && (decide (a1 = b1) && true))) := pbin_eql_plan Tryd.eg89 Tryd.pl89 Tryd.pa89 rfl
@[simp] theorem Tryd.ne89 {a0 b0 : Int} {a1 b1 : Int} : pbin Tryd.prog .neq 89 (.agg [.int .i64 a0, .int .i64 a1]) (.agg [.int .i64 b0, .int .i64 b1]) = some (.bool (!(decide (a0 = b0) && (decide (a1 = b1) && true)))) := pbin_neq_plan Tryd.eg89 Tryd.pl89 Tryd.pa89 rfl
theorem Tryd.eg91 : Tryd.prog.eqGuardType Tryd.prog.depth 91 = false := by kernel_rfl
theorem Tryd.pl91 : pplan Tryd.prog 12 91 = some [.i .u64, .i .u64] := by kernel_rfl
theorem Tryd.pa91 : pagg Tryd.prog 91 = some true := by kernel_rfl
@[simp] theorem Tryd.eq91 {a0 b0 : Int} {a1 b1 : Int} : pbin Tryd.prog .eql 91 (.agg [.int .u64 a0, .int .u64 a1]) (.agg [.int .u64 b0, .int .u64 b1]) = some (.bool (decide (a0 = b0) && (decide (a1 = b1) && true))) := pbin_eql_plan Tryd.eg91 Tryd.pl91 Tryd.pa91 rfl
@[simp] theorem Tryd.ne91 {a0 b0 : Int} {a1 b1 : Int} : pbin Tryd.prog .neq 91 (.agg [.int .u64 a0, .int .u64 a1]) (.agg [.int .u64 b0, .int .u64 b1]) = some (.bool (!(decide (a0 = b0) && (decide (a1 = b1) && true)))) := pbin_neq_plan Tryd.eg91 Tryd.pl91 Tryd.pa91 rfl
theorem Tryd.eg112 : Tryd.prog.eqGuardType Tryd.prog.depth 112 = false := by kernel_rfl
theorem Tryd.pl112 : pplan Tryd.prog 12 112 = some [.i .i64, .i .i64] := by kernel_rfl
theorem Tryd.pa112 : pagg Tryd.prog 112 = some true := by kernel_rfl
@[simp] theorem Tryd.eq112 {a0 b0 : Int} {a1 b1 : Int} : pbin Tryd.prog .eql 112 (.agg [.int .i64 a0, .int .i64 a1]) (.agg [.int .i64 b0, .int .i64 b1]) = some (.bool (decide (a0 = b0) && (decide (a1 = b1) && true))) := pbin_eql_plan Tryd.eg112 Tryd.pl112 Tryd.pa112 rfl
@[simp] theorem Tryd.ne112 {a0 b0 : Int} {a1 b1 : Int} : pbin Tryd.prog .neq 112 (.agg [.int .i64 a0, .int .i64 a1]) (.agg [.int .i64 b0, .int .i64 b1]) = some (.bool (!(decide (a0 = b0) && (decide (a1 = b1) && true)))) := pbin_neq_plan Tryd.eg112 Tryd.pl112 Tryd.pa112 rfl
theorem Tryd.eg121 : Tryd.prog.eqGuardType Tryd.prog.depth 121 = false := by kernel_rfl
theorem Tryd.pl121 : pplan Tryd.prog 12 121 = some [.i .i64, .i .i64] := by kernel_rfl
theorem Tryd.pa121 : pagg Tryd.prog 121 = some true := by kernel_rfl
@[simp] theorem Tryd.eq121 {a0 b0 : Int} {a1 b1 : Int} : pbin Tryd.prog .eql 121 (.agg [.int .i64 a0, .int .i64 a1]) (.agg [.int .i64 b0, .int .i64 b1]) = some (.bool (decide (a0 = b0) && (decide (a1 = b1) && true))) := pbin_eql_plan Tryd.eg121 Tryd.pl121 Tryd.pa121 rfl
@[simp] theorem Tryd.ne121 {a0 b0 : Int} {a1 b1 : Int} : pbin Tryd.prog .neq 121 (.agg [.int .i64 a0, .int .i64 a1]) (.agg [.int .i64 b0, .int .i64 b1]) = some (.bool (!(decide (a0 = b0) && (decide (a1 = b1) && true)))) := pbin_neq_plan Tryd.eg121 Tryd.pl121 Tryd.pa121 rfl
end Go.Kz

/-
  Divisions of an organ as data; what layer 11 answers for a player who is not right.
-/
namespace Go.Kz
open Go Go.Proofs

structure Draw where
  rank : Int
  shift : Int
def EmC.draw : EmC Draw := (cI.pair cI).iso (fun p => (p.rank, p.shift)) (fun x y h => by cases x; cases y; simpa using h)
def Em.draw : Em Draw := .agg .draw
structure Segment where
  from' : Int
  to : Int
  draws : List Draw
def EmC.segment : EmC Segment := (cI.pair (cI.pair (.one (Em.draw.list 2)))).iso (fun p => (p.from', p.to, p.draws)) (fun x y h => by cases x; cases y; simpa using h)
def Em.segment : Em Segment := .agg .segment
structure Fract where
  num : Int
  den : Int
def EmC.fract : EmC Fract := (cI.pair cI).iso (fun p => (p.num, p.den)) (fun x y h => by cases x; cases y; simpa using h)
structure Stop where
  name : List UInt8
  feet : Fract
  segments : List Segment
def EmC.stop : EmC Stop := ((EmC.one .text).pair (EmC.fract.pair (.one (Em.segment.list 3)))).iso (fun p => (p.name, p.feet, p.segments)) (fun x y h => by cases x; cases y; simpa using h)
def Em.stop : Em Stop := .agg .stop
structure Division where
  name : List UInt8
  pedal : Bool
  keys : Compass
  stops : List Stop
abbrev Em.stops : Em (List Stop) := Em.stop.list 4
def EmC.division : EmC Division := ((EmC.one .text).pair ((EmC.one .bool).pair (EmC.compass.pair (.one Em.stops)))).iso (fun p => (p.name, p.pedal, p.keys, p.stops)) (fun x y h => by cases x; cases y; simpa using h)
def Em.division : Em Division := .agg .division
@[simp] theorem emb_division {p : Division} : Em.division.emb p = .agg [.str p.name, .bool p.pedal, .int .i64 p.keys.low, .int .i64 p.keys.high, .slice (sz 4 p.stops) (p.stops.map Em.stop.emb) .any] := rfl
@[simp] theorem dec_division {n : List UInt8} {b : Bool} {l h : Int} {s : Nat} {xs : List Stop} {tok : Tok} (hs : xs = [] ∨ s = 4) : Em.division.dec (.agg [.str n, .bool b, .int .i64 l, .int .i64 h, .slice s (xs.map Em.stop.emb) tok]) = some ⟨n, b, ⟨l, h⟩, xs⟩ := by
  refine Em.dec_some ?_
  have h1 := Em.of_dec (dec_list (e := Em.stop) (tok := tok) hs)
  simp only [emb_list] at h1
  simp only [PD.strip, PD.stripL, emb_division, h1]

abbrev notesL : Em (List Notes) := Em.notes.list 2
abbrev divisionsL : Em (List Division) := Em.division.list 5
def EmC.notes2 : EmC (Notes × Notes) := EmC.notes.pair EmC.notes
def Em.notes2 : Em (Notes × Notes) := .agg .notes2
@[simp] theorem emb_notes2 {p : Notes × Notes} : Em.notes2.emb p = .agg [.int .u64 (tn p.1.low), .int .u64 (tn p.1.high), .int .u64 (tn p.2.low), .int .u64 (tn p.2.high)] := rfl

variable {E : PExt} (hU : Uni E)
include hU
set_option maxRecDepth 10000

theorem r_FeetE (h0 : E 31 = none) (h1 : E 35 = some (entry (gf1 .player i64 fun p => some (errOf p)))) (p : Player) (l : List Notes) (h : errOf p ≠ 0) :
    Run Tryd.prog E 31 [Em.player.emb p, notesL.emb l] ((Em.bool.tup2 i64).emb (false, errOf p)) := by
  apply Run.bodyL h0 Tryd.func31 rfl
  focus (simp [show Tryd.f31.ntmps = _ from rfl, List.replicate]; rfl)
  repeat (first
    | (refine Fr.i ?_; simp only [pput, List.set_cons_zero, List.set_cons_succ]; try rfl)
    | (refine By.i ?_; simp (disch := first | omega | (simp; done) | (simp; omega)) [wrap_i64, wrap_u64, h, h1, entry, gf1]; first | done | rfl | exact ⟨rfl, rfl⟩) | (refine Wt.i ?_; first | rfl | (simp [h, h1, entry, gf1]; done))
    | (refine Ns.i ?_; (try simp only [List.append_nil, List.nil_append, List.cons_append, List.append_assoc, List.length_append, List.length_cons, List.length_nil, Nat.zero_add, Nat.reduceAdd]); rfl) | rfl
    | (apply SL.pass; (focus (refine Wt.i ?_; rfl))) | apply SL.move | apply SL.assign | apply SL.load | apply SL.binOp | apply SL.append | apply SL.builtin | apply SL.fieldAddr | apply SL.indexAddr | apply SL.field | apply SL.extract
    | apply SL.fcall | apply SL.pick | apply SL.store | apply SL.unOp | apply SL.convert | apply SL.index | apply SL.slice | apply SL.build | apply SL.nilCheck | apply SL.buildSlice | apply SL.box | apply SL.alloc | apply SL.makeFunc
    | apply SQ.nil | (apply WL.reg; (focus decide +kernel)) | (apply WL.drawP (by assumption); (focus decide +kernel); (focus decide +kernel)) | (apply WL.drawF; (focus decide +kernel); (focus decide +kernel))
    | (apply WL.reg1; (focus decide +kernel)) | (apply WL.drawP1 (by assumption); (focus decide +kernel); (focus decide +kernel)) | (apply WL.drawF1; (focus decide +kernel); (focus decide +kernel)) | apply WL.skip | (apply WL.ct; (focus rfl))
    | (apply WL.cf; (focus rfl)) | refine SeqQ.normal ?_ | refine SeqQ.ret ?_ | refine SeqQ.exit ?_ | refine BlockQ.normal ?_ | refine BlockQ.ret ?_ | refine BlockQ.here ?_ | refine BlockQ.there (by decide) ?_ | refine Wp.block ?_
    | refine Wp.skip ?_ | refine Wp.ret ?_ | refine Wp.exit ?_ | refine LoopI.ret ?_ | refine LoopI.exit ?_ | refine LoopQ.normal ?_ | refine LoopQ.ret ?_ | refine LoopQ.exit ?_ | refine Wp.seq (Wp.seq ?_) | refine Wp.seq (Wp.block ?_)
    | (refine Wp.seq ?_; apply WL.ct; (focus rfl)) | (refine Wp.seq ?_; apply WL.cf; (focus rfl)))
  simp (disch := first | omega | (simp; done) | (simp; omega)) [decide_eq_decide] <;> try rfl

theorem r_AllE (h0 : E 16 = none) (h1 : E 35 = some (entry (gf1 .player i64 fun p => some (errOf p)))) (p : Player) (s : Notes) (h : errOf p ≠ 0) :
    Run Tryd.prog E 16 [Em.player.emb p, Em.notes.emb s] (((Em.notes2.list 4).tup2 i64).emb ([], errOf p)) := by
  apply Run.bodyL h0 Tryd.func16 rfl
  focus (simp [show Tryd.f16.ntmps = _ from rfl, List.replicate]; rfl)
  repeat (first
    | (refine Fr.i ?_; simp only [pput, List.set_cons_zero, List.set_cons_succ]; try rfl)
    | (refine By.i ?_; simp (disch := first | omega | (simp; done) | (simp; omega)) [wrap_i64, wrap_u64, h, h1, entry, gf1]; first | done | rfl | exact ⟨rfl, rfl⟩) | (refine Wt.i ?_; first | rfl | (simp [h, h1, entry, gf1]; done))
    | (refine Ns.i ?_; (try simp only [List.append_nil, List.nil_append, List.cons_append, List.append_assoc, List.length_append, List.length_cons, List.length_nil, Nat.zero_add, Nat.reduceAdd]); rfl) | rfl
    | (apply SL.pass; (focus (refine Wt.i ?_; rfl))) | apply SL.move | apply SL.assign | apply SL.load | apply SL.binOp | apply SL.append | apply SL.builtin | apply SL.fieldAddr | apply SL.indexAddr | apply SL.field | apply SL.extract
    | apply SL.fcall | apply SL.pick | apply SL.store | apply SL.unOp | apply SL.convert | apply SL.index | apply SL.slice | apply SL.build | apply SL.nilCheck | apply SL.buildSlice | apply SL.box | apply SL.alloc | apply SL.makeFunc
    | apply SQ.nil | (apply WL.reg; (focus decide +kernel)) | (apply WL.drawP (by assumption); (focus decide +kernel); (focus decide +kernel)) | (apply WL.drawF; (focus decide +kernel); (focus decide +kernel))
    | (apply WL.reg1; (focus decide +kernel)) | (apply WL.drawP1 (by assumption); (focus decide +kernel); (focus decide +kernel)) | (apply WL.drawF1; (focus decide +kernel); (focus decide +kernel)) | apply WL.skip | (apply WL.ct; (focus rfl))
    | (apply WL.cf; (focus rfl)) | refine SeqQ.normal ?_ | refine SeqQ.ret ?_ | refine SeqQ.exit ?_ | refine BlockQ.normal ?_ | refine BlockQ.ret ?_ | refine BlockQ.here ?_ | refine BlockQ.there (by decide) ?_ | refine Wp.block ?_
    | refine Wp.skip ?_ | refine Wp.ret ?_ | refine Wp.exit ?_ | refine LoopI.ret ?_ | refine LoopI.exit ?_ | refine LoopQ.normal ?_ | refine LoopQ.ret ?_ | refine LoopQ.exit ?_ | refine Wp.seq (Wp.seq ?_) | refine Wp.seq (Wp.block ?_)
    | (refine Wp.seq ?_; apply WL.ct; (focus rfl)) | (refine Wp.seq ?_; apply WL.cf; (focus rfl)))
  simp (disch := first | omega | (simp; done) | (simp; omega)) [decide_eq_decide] <;> try rfl

theorem r_TwoE (h0 : E 17 = none) (h1 : E 16 = some (entry (gf2 .player .notes ((Em.notes2.list 4).tup2 i64) fun p s => gif (errOf p ≠ 0) (some ([], errOf p))))) (p : Player) (s : Notes) (h : errOf p ≠ 0) :
    Run Tryd.prog E 17 [Em.player.emb p, Em.notes.emb s] ((Em.notes.tup4 .notes .bool i64).emb (noNotes, noNotes, false, errOf p)) := by
  apply Run.bodyL h0 Tryd.func17 rfl
  focus (simp [show Tryd.f17.ntmps = _ from rfl, List.replicate]; rfl)
  repeat (first
    | (refine Fr.i ?_; simp only [pput, List.set_cons_zero, List.set_cons_succ]; try rfl)
    | (refine By.i ?_; simp (disch := first | omega | (simp; done) | (simp; omega)) [wrap_i64, wrap_u64, h, h1, entry, gf2]; first | done | rfl | exact ⟨rfl, rfl⟩) | (refine Wt.i ?_; first | rfl | (simp [h, h1, entry, gf2]; done))
    | (refine Ns.i ?_; (try simp only [List.append_nil, List.nil_append, List.cons_append, List.append_assoc, List.length_append, List.length_cons, List.length_nil, Nat.zero_add, Nat.reduceAdd]); rfl) | rfl
    | (apply SL.pass; (focus (refine Wt.i ?_; rfl))) | apply SL.move | apply SL.assign | apply SL.load | apply SL.binOp | apply SL.append | apply SL.builtin | apply SL.fieldAddr | apply SL.indexAddr | apply SL.field | apply SL.extract
    | apply SL.fcall | apply SL.pick | apply SL.store | apply SL.unOp | apply SL.convert | apply SL.index | apply SL.slice | apply SL.build | apply SL.nilCheck | apply SL.buildSlice | apply SL.box | apply SL.alloc | apply SL.makeFunc
    | apply SQ.nil | (apply WL.reg; (focus decide +kernel)) | (apply WL.drawP (by assumption); (focus decide +kernel); (focus decide +kernel)) | (apply WL.drawF; (focus decide +kernel); (focus decide +kernel))
    | (apply WL.reg1; (focus decide +kernel)) | (apply WL.drawP1 (by assumption); (focus decide +kernel); (focus decide +kernel)) | (apply WL.drawF1; (focus decide +kernel); (focus decide +kernel)) | apply WL.skip | (apply WL.ct; (focus rfl))
    | (apply WL.cf; (focus rfl)) | refine SeqQ.normal ?_ | refine SeqQ.ret ?_ | refine SeqQ.exit ?_ | refine BlockQ.normal ?_ | refine BlockQ.ret ?_ | refine BlockQ.here ?_ | refine BlockQ.there (by decide) ?_ | refine Wp.block ?_
    | refine Wp.skip ?_ | refine Wp.ret ?_ | refine Wp.exit ?_ | refine LoopI.ret ?_ | refine LoopI.exit ?_ | refine LoopQ.normal ?_ | refine LoopQ.ret ?_ | refine LoopQ.exit ?_ | refine Wp.seq (Wp.seq ?_) | refine Wp.seq (Wp.block ?_)
    | (refine Wp.seq ?_; apply WL.ct; (focus rfl)) | (refine Wp.seq ?_; apply WL.cf; (focus rfl)))
  simp (disch := first | omega | (simp; done) | (simp; omega)) [decide_eq_decide, noNotes, tn] <;> try rfl

theorem r_LeastE (h0 : E 21 = none) (h1 : E 35 = some (entry (gf1 .player i64 fun p => some (errOf p)))) (p : Player) (s : Notes) (h : errOf p ≠ 0) :
    Run Tryd.prog E 21 [Em.player.emb p, Em.notes.emb s] ((i64.tup3 .bool i64).emb (0, false, errOf p)) := by
  apply Run.bodyL h0 Tryd.func21 rfl
  focus (simp [show Tryd.f21.ntmps = _ from rfl, List.replicate]; rfl)
  repeat (first
    | (refine Fr.i ?_; simp only [pput, List.set_cons_zero, List.set_cons_succ]; try rfl)
    | (refine By.i ?_; simp (disch := first | omega | (simp; done) | (simp; omega)) [wrap_i64, wrap_u64, h, h1, entry, gf1]; first | done | rfl | exact ⟨rfl, rfl⟩) | (refine Wt.i ?_; first | rfl | (simp [h, h1, entry, gf1]; done))
    | (refine Ns.i ?_; (try simp only [List.append_nil, List.nil_append, List.cons_append, List.append_assoc, List.length_append, List.length_cons, List.length_nil, Nat.zero_add, Nat.reduceAdd]); rfl) | rfl
    | (apply SL.pass; (focus (refine Wt.i ?_; rfl))) | apply SL.move | apply SL.assign | apply SL.load | apply SL.binOp | apply SL.append | apply SL.builtin | apply SL.fieldAddr | apply SL.indexAddr | apply SL.field | apply SL.extract
    | apply SL.fcall | apply SL.pick | apply SL.store | apply SL.unOp | apply SL.convert | apply SL.index | apply SL.slice | apply SL.build | apply SL.nilCheck | apply SL.buildSlice | apply SL.box | apply SL.alloc | apply SL.makeFunc
    | apply SQ.nil | (apply WL.reg; (focus decide +kernel)) | (apply WL.drawP (by assumption); (focus decide +kernel); (focus decide +kernel)) | (apply WL.drawF; (focus decide +kernel); (focus decide +kernel))
    | (apply WL.reg1; (focus decide +kernel)) | (apply WL.drawP1 (by assumption); (focus decide +kernel); (focus decide +kernel)) | (apply WL.drawF1; (focus decide +kernel); (focus decide +kernel)) | apply WL.skip | (apply WL.ct; (focus rfl))
    | (apply WL.cf; (focus rfl)) | refine SeqQ.normal ?_ | refine SeqQ.ret ?_ | refine SeqQ.exit ?_ | refine BlockQ.normal ?_ | refine BlockQ.ret ?_ | refine BlockQ.here ?_ | refine BlockQ.there (by decide) ?_ | refine Wp.block ?_
    | refine Wp.skip ?_ | refine Wp.ret ?_ | refine Wp.exit ?_ | refine LoopI.ret ?_ | refine LoopI.exit ?_ | refine LoopQ.normal ?_ | refine LoopQ.ret ?_ | refine LoopQ.exit ?_ | refine Wp.seq (Wp.seq ?_) | refine Wp.seq (Wp.block ?_)
    | (refine Wp.seq ?_; apply WL.ct; (focus rfl)) | (refine Wp.seq ?_; apply WL.cf; (focus rfl)))
  simp (disch := first | omega | (simp; done) | (simp; omega)) [decide_eq_decide] <;> try rfl

theorem r_PossibleE (h0 : E 33 = none) (h1 : E 35 = some (entry (gf1 .player i64 fun p => some (errOf p)))) (p : Player) (l : List Division) (k : List Notes) (h : errOf p ≠ 0) :
    Run Tryd.prog E 33 [Em.player.emb p, divisionsL.emb l, notesL.emb k] ((Em.bool.tup2 i64).emb (false, errOf p)) := by
  apply Run.bodyL h0 Tryd.func33 rfl
  focus (simp [show Tryd.f33.ntmps = _ from rfl, List.replicate]; rfl)
  repeat (first
    | (refine Fr.i ?_; simp only [pput, List.set_cons_zero, List.set_cons_succ]; try rfl)
    | (refine By.i ?_; simp (disch := first | omega | (simp; done) | (simp; omega)) [wrap_i64, wrap_u64, h, h1, entry, gf1]; first | done | rfl | exact ⟨rfl, rfl⟩) | (refine Wt.i ?_; first | rfl | (simp [h, h1, entry, gf1]; done))
    | (refine Ns.i ?_; (try simp only [List.append_nil, List.nil_append, List.cons_append, List.append_assoc, List.length_append, List.length_cons, List.length_nil, Nat.zero_add, Nat.reduceAdd]); rfl) | rfl
    | (apply SL.pass; (focus (refine Wt.i ?_; rfl))) | apply SL.move | apply SL.assign | apply SL.load | apply SL.binOp | apply SL.append | apply SL.builtin | apply SL.fieldAddr | apply SL.indexAddr | apply SL.field | apply SL.extract
    | apply SL.fcall | apply SL.pick | apply SL.store | apply SL.unOp | apply SL.convert | apply SL.index | apply SL.slice | apply SL.build | apply SL.nilCheck | apply SL.buildSlice | apply SL.box | apply SL.alloc | apply SL.makeFunc
    | apply SQ.nil | (apply WL.reg; (focus decide +kernel)) | (apply WL.drawP (by assumption); (focus decide +kernel); (focus decide +kernel)) | (apply WL.drawF; (focus decide +kernel); (focus decide +kernel))
    | (apply WL.reg1; (focus decide +kernel)) | (apply WL.drawP1 (by assumption); (focus decide +kernel); (focus decide +kernel)) | (apply WL.drawF1; (focus decide +kernel); (focus decide +kernel)) | apply WL.skip | (apply WL.ct; (focus rfl))
    | (apply WL.cf; (focus rfl)) | refine SeqQ.normal ?_ | refine SeqQ.ret ?_ | refine SeqQ.exit ?_ | refine BlockQ.normal ?_ | refine BlockQ.ret ?_ | refine BlockQ.here ?_ | refine BlockQ.there (by decide) ?_ | refine Wp.block ?_
    | refine Wp.skip ?_ | refine Wp.ret ?_ | refine Wp.exit ?_ | refine LoopI.ret ?_ | refine LoopI.exit ?_ | refine LoopQ.normal ?_ | refine LoopQ.ret ?_ | refine LoopQ.exit ?_ | refine Wp.seq (Wp.seq ?_) | refine Wp.seq (Wp.block ?_)
    | (refine Wp.seq ?_; apply WL.ct; (focus rfl)) | (refine Wp.seq ?_; apply WL.cf; (focus rfl)))
  simp (disch := first | omega | (simp; done) | (simp; omega)) [decide_eq_decide] <;> try rfl

theorem r_CountE (h0 : E 24 = none) (h1 : E 35 = some (entry (gf1 .player i64 fun p => some (errOf p)))) (p : Player) (c : Compass) (h : errOf p ≠ 0) :
    Run Tryd.prog E 24 [Em.player.emb p, Em.compass.emb c] ((i64.tup2 i64).emb (0, errOf p)) := by
  apply Run.bodyL h0 Tryd.func24 rfl
  focus (simp [show Tryd.f24.ntmps = _ from rfl, List.replicate]; rfl)
  repeat (first
    | (refine Fr.i ?_; simp only [pput, List.set_cons_zero, List.set_cons_succ]; try rfl)
    | (refine By.i ?_; simp (disch := first | omega | (simp; done) | (simp; omega)) [wrap_i64, wrap_u64, h, h1, entry, gf1]; first | done | rfl | exact ⟨rfl, rfl⟩) | (refine Wt.i ?_; first | rfl | (simp [h, h1, entry, gf1]; done))
    | (refine Ns.i ?_; (try simp only [List.append_nil, List.nil_append, List.cons_append, List.append_assoc, List.length_append, List.length_cons, List.length_nil, Nat.zero_add, Nat.reduceAdd]); rfl) | rfl
    | (apply SL.pass; (focus (refine Wt.i ?_; rfl))) | apply SL.move | apply SL.assign | apply SL.load | apply SL.binOp | apply SL.append | apply SL.builtin | apply SL.fieldAddr | apply SL.indexAddr | apply SL.field | apply SL.extract
    | apply SL.fcall | apply SL.pick | apply SL.store | apply SL.unOp | apply SL.convert | apply SL.index | apply SL.slice | apply SL.build | apply SL.nilCheck | apply SL.buildSlice | apply SL.box | apply SL.alloc | apply SL.makeFunc
    | apply SQ.nil | (apply WL.reg; (focus decide +kernel)) | (apply WL.drawP (by assumption); (focus decide +kernel); (focus decide +kernel)) | (apply WL.drawF; (focus decide +kernel); (focus decide +kernel))
    | (apply WL.reg1; (focus decide +kernel)) | (apply WL.drawP1 (by assumption); (focus decide +kernel); (focus decide +kernel)) | (apply WL.drawF1; (focus decide +kernel); (focus decide +kernel)) | apply WL.skip | (apply WL.ct; (focus rfl))
    | (apply WL.cf; (focus rfl)) | refine SeqQ.normal ?_ | refine SeqQ.ret ?_ | refine SeqQ.exit ?_ | refine BlockQ.normal ?_ | refine BlockQ.ret ?_ | refine BlockQ.here ?_ | refine BlockQ.there (by decide) ?_ | refine Wp.block ?_
    | refine Wp.skip ?_ | refine Wp.ret ?_ | refine Wp.exit ?_ | refine LoopI.ret ?_ | refine LoopI.exit ?_ | refine LoopQ.normal ?_ | refine LoopQ.ret ?_ | refine LoopQ.exit ?_ | refine Wp.seq (Wp.seq ?_) | refine Wp.seq (Wp.block ?_)
    | (refine Wp.seq ?_; apply WL.ct; (focus rfl)) | (refine Wp.seq ?_; apply WL.cf; (focus rfl)))
  simp (disch := first | omega | (simp; done) | (simp; omega)) [decide_eq_decide] <;> try rfl

end Go.Kz

/-
  SpanErrors, out of the walks: the run answers true.
-/
namespace Go.Kz
open Go Go.Proofs

variable {E : PExt} (hU : Uni E)
include hU
set_option maxRecDepth 10000

theorem r_SpanErrors (h0 : E 11 = none) (hk : E 12 = some (entry (gf0 .bool (some true)))) (hc : E 13 = some (entry (gf1 .player i64 fun p => some (errOf p))))
    (h1 : E 35 = some (entry (gf1 .player i64 fun p => some (errOf p))))
    (h2 : E 25 = some (entry (gf2 .player .notes (Em.bool.tup2 i64) fun p s => some (oneF p s))))
    (h3 : E 31 = some (entry (gf2 .player notesL (Em.bool.tup2 i64) fun p l => gif (errOf p ≠ 0) (some (false, errOf p)))))
    (h4 : E 16 = some (entry (gf2 .player .notes ((Em.notes2.list 4).tup2 i64) fun p s => gif (errOf p ≠ 0) (some ([], errOf p)))))
    (h5 : E 17 = some (entry (gf2 .player .notes (Em.notes.tup4 .notes .bool i64) fun p s => gif (errOf p ≠ 0) (some (noNotes, noNotes, false, errOf p)))))
    (h6 : E 21 = some (entry (gf2 .player .notes (i64.tup3 .bool i64) fun p s => gif (errOf p ≠ 0) (some (0, false, errOf p)))))
    (h7 : E 33 = some (entry (gf3 .player divisionsL notesL (Em.bool.tup2 i64) fun p l k => gif (errOf p ≠ 0) (some (false, errOf p)))))
    (h8 : E 24 = some (entry (gf2 .player .compass (i64.tup2 i64) fun p c => gif (errOf p ≠ 0) (some (0, errOf p)))))
    (p : Player) (s : Notes) :
    Run Tryd.prog E 11 [Em.player.emb p, Em.notes.emb s] (.bool true) := by
  apply Run.bodyL h0 Tryd.func11 rfl
  focus (simp [show Tryd.f11.ntmps = _ from rfl, List.replicate]; rfl)
  by_cases h : errOf p = 0
  · repeat (first
      | (refine Fr.i ?_; simp only [pput, List.set_cons_zero, List.set_cons_succ]; try rfl)
      | (refine By.i ?_; simp (disch := first | omega | (simp; done) | (simp; omega)) [wrap_i64, wrap_u64, h, hk, hc, h1, entry, gf0, gf1]; first | done | rfl | exact ⟨rfl, rfl⟩)
      | (refine Wt.i ?_; first | rfl | (simp [h, hk, hc, h1, entry, gf0, gf1]; done))
      | (refine Ns.i ?_; (try simp only [List.append_nil, List.nil_append, List.cons_append, List.append_assoc, List.length_append, List.length_cons, List.length_nil, Nat.zero_add, Nat.reduceAdd]); rfl) | rfl
      | (apply SL.pass; (focus (refine Wt.i ?_; rfl))) | apply SL.move | apply SL.assign | apply SL.load | apply SL.binOp | apply SL.append | apply SL.builtin | apply SL.fieldAddr | apply SL.indexAddr | apply SL.field | apply SL.extract
      | apply SL.fcall | apply SL.pick | apply SL.store | apply SL.unOp | apply SL.convert | apply SL.index | apply SL.slice | apply SL.build | apply SL.nilCheck | apply SL.buildSlice | apply SL.box | apply SL.alloc | apply SL.makeFunc
      | apply SQ.nil | (apply WL.reg; (focus decide +kernel)) | (apply WL.drawP (by assumption); (focus decide +kernel); (focus decide +kernel)) | (apply WL.drawF; (focus decide +kernel); (focus decide +kernel))
      | (apply WL.reg1; (focus decide +kernel)) | (apply WL.drawP1 (by assumption); (focus decide +kernel); (focus decide +kernel)) | (apply WL.drawF1; (focus decide +kernel); (focus decide +kernel)) | apply WL.skip
      | (apply WL.ct; (focus rfl)) | (apply WL.cf; (focus rfl)) | refine SeqQ.normal ?_ | refine SeqQ.ret ?_ | refine SeqQ.exit ?_ | refine BlockQ.normal ?_ | refine BlockQ.ret ?_ | refine BlockQ.here ?_ | refine BlockQ.there (by decide) ?_
      | refine Wp.block ?_ | refine Wp.skip ?_ | refine Wp.ret ?_ | refine Wp.exit ?_ | refine LoopI.ret ?_ | refine LoopI.exit ?_ | refine LoopQ.normal ?_ | refine LoopQ.ret ?_ | refine LoopQ.exit ?_ | refine Wp.seq (Wp.seq ?_)
      | refine Wp.seq (Wp.block ?_) | (refine Wp.seq ?_; apply WL.ct; (focus rfl)) | (refine Wp.seq ?_; apply WL.cf; (focus rfl)))
    simp (disch := first | omega | (simp; done) | (simp; omega)) [decide_eq_decide] <;> try rfl
  · repeat (first
      | (refine Fr.i ?_; simp only [pput, List.set_cons_zero, List.set_cons_succ]; try rfl)
      | (refine By.i ?_; simp (disch := first | omega | (simp; done) | (simp; omega)) [wrap_i64, wrap_u64, h, hk, hc, h1, h2, h3, h4, h5, h6, h7, h8, entry, gf0, gf1, gf2, gf3, oneF]; first | done | rfl | exact ⟨rfl, rfl⟩)
      | (refine Wt.i ?_; first | rfl | (simp [h, hk, hc, h1, h2, h3, h4, h5, h6, h7, h8, entry, gf0, gf1, gf2, gf3, oneF]; done))
      | (refine Ns.i ?_; (try simp only [List.append_nil, List.nil_append, List.cons_append, List.append_assoc, List.length_append, List.length_cons, List.length_nil, Nat.zero_add, Nat.reduceAdd]); rfl) | rfl
      | (apply SL.pass; (focus (refine Wt.i ?_; rfl))) | apply SL.move | apply SL.assign | apply SL.load | apply SL.binOp | apply SL.append | apply SL.builtin | apply SL.fieldAddr | apply SL.indexAddr | apply SL.field | apply SL.extract
      | apply SL.fcall | apply SL.pick | apply SL.store | apply SL.unOp | apply SL.convert | apply SL.index | apply SL.slice | apply SL.build | apply SL.nilCheck | apply SL.buildSlice | apply SL.box | apply SL.alloc | apply SL.makeFunc
      | apply SQ.nil | (apply WL.reg; (focus decide +kernel)) | (apply WL.drawP (by assumption); (focus decide +kernel); (focus decide +kernel)) | (apply WL.drawF; (focus decide +kernel); (focus decide +kernel))
      | (apply WL.reg1; (focus decide +kernel)) | (apply WL.drawP1 (by assumption); (focus decide +kernel); (focus decide +kernel)) | (apply WL.drawF1; (focus decide +kernel); (focus decide +kernel)) | apply WL.skip
      | (apply WL.ct; (focus rfl)) | (apply WL.cf; (focus rfl)) | refine SeqQ.normal ?_ | refine SeqQ.ret ?_ | refine SeqQ.exit ?_ | refine BlockQ.normal ?_ | refine BlockQ.ret ?_ | refine BlockQ.here ?_ | refine BlockQ.there (by decide) ?_
      | refine Wp.block ?_ | refine Wp.skip ?_ | refine Wp.ret ?_ | refine Wp.exit ?_ | refine LoopI.ret ?_ | refine LoopI.exit ?_ | refine LoopQ.normal ?_ | refine LoopQ.ret ?_ | refine LoopQ.exit ?_ | refine Wp.seq (Wp.seq ?_)
      | refine Wp.seq (Wp.block ?_) | (refine Wp.seq ?_; apply WL.ct; (focus rfl)) | (refine Wp.seq ?_; apply WL.cf; (focus rfl)))
    trace_state
    simp (disch := first | omega | (simp; done) | (simp; omega)) [decide_eq_decide] <;> try rfl

end Go.Kz

/-
  The table, for a player who is not right.
-/
namespace Go.Kz
open Go Go.Proofs
set_option maxRecDepth 10000

noncomputable def Er1 : PExt := E11.add 31 (entry (gf2 .player notesL (Em.bool.tup2 i64) fun p l => gif (errOf p ≠ 0) (some (false, errOf p))))
theorem Er1_uni : Uni Er1 := E11_uni.entry
theorem Er1_ok : ExtOk Tryd.prog Er1 := E11_ok.add2 follows (fun x y z hz => by obtain ⟨hg, hz⟩ := gif_some hz; simp only [Option.some.injEq] at hz; subst hz; exact r_FeetE E11_uni rfl rfl x y hg)
noncomputable def Er2 : PExt := Er1.add 16 (entry (gf2 .player .notes ((Em.notes2.list 4).tup2 i64) fun p s => gif (errOf p ≠ 0) (some ([], errOf p))))
theorem Er2_uni : Uni Er2 := Er1_uni.entry
theorem Er2_ok : ExtOk Tryd.prog Er2 := Er1_ok.add2 follows (fun x y z hz => by obtain ⟨hg, hz⟩ := gif_some hz; simp only [Option.some.injEq] at hz; subst hz; exact r_AllE Er1_uni rfl rfl x y hg)
noncomputable def Er3 : PExt := Er2.add 17 (entry (gf2 .player .notes (Em.notes.tup4 .notes .bool i64) fun p s => gif (errOf p ≠ 0) (some (noNotes, noNotes, false, errOf p))))
theorem Er3_uni : Uni Er3 := Er2_uni.entry
theorem Er3_ok : ExtOk Tryd.prog Er3 := Er2_ok.add2 follows (fun x y z hz => by obtain ⟨hg, hz⟩ := gif_some hz; simp only [Option.some.injEq] at hz; subst hz; exact r_TwoE Er2_uni rfl rfl x y hg)
noncomputable def Er4 : PExt := Er3.add 21 (entry (gf2 .player .notes (i64.tup3 .bool i64) fun p s => gif (errOf p ≠ 0) (some (0, false, errOf p))))
theorem Er4_uni : Uni Er4 := Er3_uni.entry
theorem Er4_ok : ExtOk Tryd.prog Er4 := Er3_ok.add2 follows (fun x y z hz => by obtain ⟨hg, hz⟩ := gif_some hz; simp only [Option.some.injEq] at hz; subst hz; exact r_LeastE Er3_uni rfl rfl x y hg)
noncomputable def Er5 : PExt := Er4.add 33 (entry (gf3 .player divisionsL notesL (Em.bool.tup2 i64) fun p l k => gif (errOf p ≠ 0) (some (false, errOf p))))
theorem Er5_uni : Uni Er5 := Er4_uni.entry
theorem Er5_ok : ExtOk Tryd.prog Er5 := Er4_ok.add3 follows (fun x y u z hz => by obtain ⟨hg, hz⟩ := gif_some hz; simp only [Option.some.injEq] at hz; subst hz; exact r_PossibleE Er4_uni rfl rfl x y u hg)
noncomputable def Er6 : PExt := Er5.add 24 (entry (gf2 .player .compass (i64.tup2 i64) fun p c => gif (errOf p ≠ 0) (some (0, errOf p))))
theorem Er6_uni : Uni Er6 := Er5_uni.entry
theorem Er6_ok : ExtOk Tryd.prog Er6 := Er5_ok.add2 follows (fun x y z hz => by obtain ⟨hg, hz⟩ := gif_some hz; simp only [Option.some.injEq] at hz; subst hz; exact r_CountE Er5_uni rfl rfl x y hg)

end Go.Kz

/-
  Arguments of plain data, of whatever type: what is handed stands for typed data.
-/
namespace Go.Kz
open Go.RowKit

def pureF (pl : TypeId → Bool) (P : Program) : Nat → List Field → Option Nat
  | off, [] => some off
  | off, f :: fs => if f.offset = off ∧ pl f.type = true then pureF pl P (off + P.cellsOf f.type) fs else none

/-- A type of plain data: booleans, integers, strings, slices, structs, arrays. -/
def pureT (P : Program) : Nat → TypeId → Bool
  | 0, _ => false
  | d + 1, t => match P.underlying t with
    | some .bool | some (.int _) | some .string => P.cellsOf t == 1
    | some (.slice e) => P.cellsOf t == 1 && pureT P d e && decide (0 < P.cellsOf e)
    | some (.struct fs) => pureF (pureT P d) P 0 fs.toList == some (P.cellsOf t)
    | some (.array n e) => pureT P d e && P.cellsOf t == n * P.cellsOf e
    | _ => false

def TypedF (T : TypeId → List PD → Prop) : List Field → List PD → Prop
  | [], ps => ps = []
  | f :: fs, ps => ∃ a b, ps = a ++ b ∧ T f.type a ∧ TypedF T fs b

/-- The datum of some cells. -/
def asPD (P : Program) (t : TypeId) (ps : List PD) : PD := match pagg P t with
  | some true => .agg ps
  | _ => ps.headD (.tup [])

/-- Cells of a type. -/
def Typed (P : Program) : Nat → TypeId → List PD → Prop
  | 0, _, _ => False
  | d + 1, t, ps => match P.underlying t with
    | some .bool => ∃ b, ps = [.bool b]
    | some (.int k) => ∃ n, ps = [.int k n] ∧ (Lit.int k n).wf = true
    | some .string => ∃ s, ps = [.str s] ∧ s.length ≤ maxLen
    | some (.slice e) => ∃ xs : List (List PD), xs.length ≤ maxLen ∧ (∀ x ∈ xs, Typed P d e x) ∧ ps = [.slice (sz (P.cellsOf e) xs) (xs.map (asPD P e)) .any]
    | some (.struct fs) => TypedF (Typed P d) fs.toList ps
    | some (.array n e) => ∃ xs : List (List PD), xs.length = n ∧ (∀ x ∈ xs, Typed P d e x) ∧ ps = xs.flatten
    | _ => False

theorem TypedF.length {P : Program} {d : Nat} (ih : ∀ t ps, pureT P d t = true → Typed P d t ps → ps.length = P.cellsOf t) : ∀ (fs : List Field) (off n : Nat) (ps : List PD), pureF (pureT P d) P off fs = some n → TypedF (Typed P d) fs ps → off + ps.length = n
  | [], off, n, ps, h, ht => by
    simp only [pureF, Option.some.injEq] at h
    simp only [TypedF] at ht
    subst ht h
    rfl
  | f :: fs, off, n, ps, h, ht => by
    simp only [pureF] at h
    split at h
    · rename_i hf
      obtain ⟨a, b, rfl, ha, hb⟩ := ht
      have h1 := ih _ _ hf.2 ha
      have h2 := TypedF.length ih fs _ n b h hb
      simp only [List.length_append]
      omega
    · cases h

theorem Typed.length {P : Program} : ∀ (d : Nat) (t : TypeId) (ps : List PD), pureT P d t = true → Typed P d t ps → ps.length = P.cellsOf t
  | 0, _, _, h, _ => by cases h
  | d + 1, t, ps, h, ht => by
    unfold pureT at h
    unfold Typed at ht
    split at h <;> rename_i hu <;> try simp only [hu] at ht
    · obtain ⟨b, rfl⟩ := ht; simp at h; simp [h]
    · obtain ⟨b, rfl, _⟩ := ht; simp at h; simp [h]
    · obtain ⟨b, rfl, _⟩ := ht; simp at h; simp [h]
    · obtain ⟨xs, _, _, rfl⟩ := ht; simp at h; simp [h]
    · simp only [beq_iff_eq] at h
      have := TypedF.length (Typed.length d) _ 0 _ ps h ht
      omega
    · rename_i n e
      simp only [Bool.and_eq_true, beq_iff_eq] at h
      obtain ⟨xs, h1, h2, rfl⟩ := ht
      rw [h.2, ← h1]
      have key : ∀ (xs : List (List PD)), (∀ x ∈ xs, Typed P d e x) → xs.flatten.length = xs.length * P.cellsOf e := by
        intro xs
        induction xs with
        | nil => intro _; simp
        | cons x xs ih =>
          intro hx
          rw [List.flatten_cons, List.length_append, Typed.length d e x h.1 (hx x (by simp)), ih (fun y hy => hx y (by simp [hy])), List.length_cons, Nat.succ_mul]
          omega
      exact key xs h2

section
variable {H : Type} {enc : TypeId × Value → H} {P : Program} {w : World} {base : Nat} {sp : Nat → Bool} {held : Bool}

/-- Cells stand for cells. -/
structure Stands (w : World) (cs : List Value) (ps : List PD) : Prop where
  vrs : VRs (.start w) cs ps
  one : ∀ v ∈ cs, v.oneCell' = true

theorem Stands.nil : Stands w [] [] := ⟨⟨rfl, by simp⟩, by simp⟩
theorem Stands.single {v : Value} {p : PD} (h : VR (.start w) v p) (ho : v.oneCell' = true) : Stands w [v] [p] :=
  ⟨⟨rfl, fun i u d h1 h2 => by cases i with
    | zero => simp at h1 h2; subst h1 h2; exact h
    | succ i => simp at h1⟩, by simpa using ho⟩
theorem Stands.append {a b : List Value} {ps qs : List PD} (h : Stands w a ps) (k : Stands w b qs) : Stands w (a ++ b) (ps ++ qs) :=
  ⟨h.vrs.append k.vrs, fun v hv => (List.mem_append.1 hv).elim (h.one v) (k.one v)⟩

theorem Stands.agg {cs : List Value} {ps : List PD} (h : Stands w cs ps) : VR (.start w) (.agg cs.toArray) (.agg ps) := .agg cs ps h.vrs.1 h.one h.vrs.2

theorem asPD_cells {t : TypeId} {d : Nat} {ps : List PD} (h : pureT P d t = true) (ht : Typed P d t ps) : (asPD P t ps).cells = ps := by
  cases d with
  | zero => cases h
  | succ d =>
    unfold pureT at h
    unfold Typed at ht
    unfold asPD pagg
    split at h <;> rename_i hu <;> try simp only [hu] at ht ⊢
    · obtain ⟨b, rfl⟩ := ht; rfl
    · obtain ⟨b, rfl, _⟩ := ht; rfl
    · obtain ⟨b, rfl, _⟩ := ht; rfl
    · obtain ⟨xs, _, _, rfl⟩ := ht; rfl
    · rfl
    · rfl

theorem trod_bool' {fuel : Nat} {t : TypeId} {cs : List Value} {x : DataW H × List MemPlace} (ht : P.underlying t = some .bool) (h : DataW.trod enc P w base sp held fuel t cs = some x) : ∃ b, cs = [.bool b] := by
  cases fuel with
  | zero => simp [DataW.trod] at h
  | succ n =>
    unfold DataW.trod at h
    rw [ht] at h
    split at h <;> simp_all

theorem trod_typed : ∀ (fuel d : Nat) (t : TypeId) (cs : List Value) (x : DataW H × List MemPlace), DataW.trod enc P w base sp held fuel t cs = some x → pureT P d t = true → ∃ ps, Typed P d t ps ∧ Stands w cs ps
  | _, 0, _, _, _, _, h => by cases h
  | fuel, d + 1, t, cs, x, hx, h => by
    unfold pureT at h
    split at h <;> rename_i hu <;> try simp only [Typed, hu]
    · obtain ⟨b, rfl⟩ := trod_bool' hu hx
      exact ⟨_, ⟨b, rfl⟩, Stands.single (.bool _) rfl⟩
    · rename_i k
      obtain ⟨n, rfl, _, hw⟩ := DataW.trod_int hu hx
      exact ⟨_, ⟨n, rfl, hw⟩, Stands.single (.int _ _) rfl⟩
    · obtain ⟨s, rfl, _, hs⟩ := DataW.trod_string hu hx
      refine ⟨_, ⟨s.data.toList, rfl, by rw [Array.length_toList]; exact hs⟩, Stands.single ?_ rfl⟩
      have : s = ⟨s.data.toList.toArray⟩ := by simp
      conv => lhs; rw [this]
      exact .str _
    · rename_i e
      simp only [Bool.and_eq_true, decide_eq_true_eq] at h
      obtain ⟨⟨_, he⟩, hpos⟩ := h
      rcases DataW.trod_slice hu hx with ⟨rfl, _⟩ | ⟨a, len, cap, elems, rest, n, rfl, rfl, hrest⟩
      · exact ⟨_, ⟨[], by simp, by simp, rfl⟩, Stands.single (.slice none 0 0 0 [] .any [] rfl (Nat.le_refl _) (Nat.zero_le _) (by simp) rfl (by simp) (by simp) (by simp) trivial) rfl⟩
      · obtain ⟨_, hlc, hcm, hel, hall, _, _⟩ := hrest.2
        have key : ∀ (k i : Nat), i + k = len → ∃ (ys : List (List PD)) (fl : List Value), ys.length = k ∧ (∀ y ∈ ys, Typed P d e y) ∧ Stands w fl ys.flatten ∧ fl.length = k * P.cellsOf e ∧
            ∀ (j : Nat) (v : Value), fl[j]? = some v → w.cell? (a.add (i * P.cellsOf e + j)) = some v := by
          intro k
          induction k with
          | zero => intro i _; exact ⟨[], [], rfl, by simp, Stands.nil, by simp, by simp⟩
          | succ k ih =>
            intro i hi
            obtain ⟨ys, fl, h1, h2, h3, h4, h5⟩ := ih (i + 1) (by omega)
            have h6 := hall i (by omega)
            have hlt : i < elems.length := by omega
            rw [List.getElem?_eq_getElem hlt, Option.bind_eq_some_iff] at h6
            obtain ⟨vs, h7, h8⟩ := h6
            obtain ⟨_, h9, h10⟩ := World.cells?_some h7
            obtain ⟨qs, h11, h12⟩ := trod_typed n d e _ _ h8 he
            refine ⟨qs :: ys, vs ++ fl, by simp [h1], by simpa using ⟨h11, h2⟩, by rw [List.flatten_cons]; exact h12.append h3, by rw [List.length_append, h9, h4, Nat.succ_mul]; omega, fun j v hv => ?_⟩
            rcases Nat.lt_or_ge j vs.length with hj | hj
            · rw [List.getElem?_append_left hj] at hv
              have := h10 j (by omega)
              rw [add_add'] at this
              rw [this, hv]
            · rw [List.getElem?_append_right hj] at hv
              have := h5 _ v hv
              rw [h9] at this hj
              rw [← this, Nat.succ_mul]
              congr 2
              omega
        obtain ⟨ys, fl, h1, h2, h3, h4, h5⟩ := key len 0 (by omega)
        have hcells : ∀ y ∈ ys, (asPD P e y).cells = y := fun y hy => asPD_cells he (h2 y hy)
        have hflat : (ys.map (asPD P e)).flatMap PD.cells = ys.flatten := by
          have : ∀ (ys : List (List PD)), (∀ y ∈ ys, (asPD P e y).cells = y) → (ys.map (asPD P e)).flatMap PD.cells = ys.flatten := by
            intro ys
            induction ys with
            | nil => intro _; rfl
            | cons y ys ih =>
              intro hy
              rw [List.map_cons, List.flatMap_cons, List.flatten_cons, hy y (by simp), ih (fun z hz => hy z (by simp [hz]))]
          exact this ys hcells
        refine ⟨_, ⟨ys, by omega, h2, rfl⟩, Stands.single (.slice (some a) len cap _ _ .any fl (by simp [h1]) hlc hcm ?_ ?_ h3.one ?_ ?_ trivial) rfl⟩
        · intro x hx
          obtain ⟨y, hy, rfl⟩ := List.mem_map.1 hx
          rw [hcells y hy, Typed.length d e y he (h2 y hy), sz_ne (List.ne_nil_of_mem hy)]
        · rw [h4]
          cases ys with
          | nil => simp at h1; subst h1; simp
          | cons y ys => simp [sz]
        · intro j v hv
          have := h5 j v hv
          rw [Nat.zero_mul, Nat.zero_add] at this
          exact ⟨a, rfl, this, av_start _⟩
        · intro j v p hv hp
          rw [hflat] at hp
          exact h3.vrs.2 j v p hv hp
    · rename_i fs
      simp only [beq_iff_eq] at h
      obtain ⟨xs, n, rfl, _, hl, hn, hf⟩ := DataW.trod_struct hu hx
      have key : ∀ (gs : List Field) (i : Nat) (off m : Nat), gs = fs.toList.drop i → pureF (pureT P d) P off gs = some m → m ≤ cs.length → off ≤ m ∧ ∃ ps, TypedF (Typed P d) gs ps ∧ Stands w ((cs.drop off).take (m - off)) ps := by
        intro gs
        induction gs with
        | nil =>
          intro i off m _ hp hm
          simp only [pureF, Option.some.injEq] at hp
          subst hp
          exact ⟨Nat.le_refl _, [], rfl, by simpa using Stands.nil⟩
        | cons g gs ih =>
          intro i off m hg hp hm
          simp only [pureF] at hp
          split at hp
          · rename_i hc
            have hgi : fs[i]? = some g := by
              have : (fs.toList.drop i)[0]? = some g := by rw [← hg]; rfl
              simpa using this
            have hgs : gs = fs.toList.drop (i + 1) := by
              rw [← List.tail_drop, ← hg]; rfl
            obtain ⟨h1, ps, h2, h3⟩ := ih (i + 1) _ m hgs hp hm
            have h4 := hf i g hgi
            have hlt : i < xs.length := by
              rw [hn]
              exact (Array.getElem?_eq_some_iff.1 hgi).1
            rw [List.getElem?_eq_getElem hlt] at h4
            obtain ⟨qs, h5, h6⟩ := trod_typed n d g.type _ _ h4 hc.2
            refine ⟨by omega, qs ++ ps, ⟨qs, ps, rfl, h5, h2⟩, ?_⟩
            rw [hc.1] at h6
            have e : (cs.drop off).take (m - off) = (cs.drop off).take (P.cellsOf g.type) ++ (cs.drop (off + P.cellsOf g.type)).take (m - (off + P.cellsOf g.type)) := by
              have : m - off = P.cellsOf g.type + (m - (off + P.cellsOf g.type)) := by omega
              rw [this, List.take_add, List.drop_drop]
            rw [e]
            exact h6.append h3
          · cases hp
      obtain ⟨_, ps, h1, h2⟩ := key fs.toList 0 0 _ (by simp) h (by omega)
      refine ⟨ps, h1, ?_⟩
      simpa [← hl] using h2
    · rename_i n e
      simp only [Bool.and_eq_true, beq_iff_eq] at h
      obtain ⟨xs, m, rfl, _, hl, hn, hf⟩ := DataW.trod_array hu hx
      have key : ∀ (k i : Nat), i + k = n → ∃ ys : List (List PD), ys.length = k ∧ (∀ y ∈ ys, Typed P d e y) ∧ Stands w (cs.drop (i * P.cellsOf e)) ys.flatten := by
        intro k
        induction k with
        | zero =>
          intro i hi
          have : cs.drop (i * P.cellsOf e) = [] := List.drop_eq_nil_of_le (by rw [hl, h.2]; simp at hi; subst hi; omega)
          exact ⟨[], rfl, by simp, by rw [this]; exact Stands.nil⟩
        | succ k ih =>
          intro i hi
          obtain ⟨ys, h1, h2, h3⟩ := ih (i + 1) (by omega)
          have h4 := hf i (by omega)
          have hlt : i < xs.length := by omega
          rw [List.getElem?_eq_getElem hlt] at h4
          obtain ⟨qs, h5, h6⟩ := trod_typed m d e _ _ h4 h.1
          refine ⟨qs :: ys, by simp [h1], by simpa using ⟨h5, h2⟩, ?_⟩
          rw [List.flatten_cons]
          have e' : cs.drop (i * P.cellsOf e) = (cs.drop (i * P.cellsOf e)).take (P.cellsOf e) ++ cs.drop ((i + 1) * P.cellsOf e) := by
            rw [Nat.succ_mul, ← List.drop_drop, List.take_append_drop]
          rw [e']
          exact h6.append h3
      obtain ⟨ys, h1, h2, h3⟩ := key n 0 (by omega)
      exact ⟨_, ⟨ys, h1, h2, rfl⟩, by simpa using h3⟩
    · cases h

end
end Go.Kz

/-
  What is handed, as typed data.
-/
namespace Go.Kz
open Go.RowKit

section
variable {H : Type} {enc : TypeId × Value → H} {P : Program} {w : World} {base : Nat} {sp : Nat → Bool} {held : Bool}

theorem arg_typed {n : Nat} {t : TypeId} {v : Value} {d : DataW H} {ms : List MemPlace} (hp : pureT P n t = true) (hv : Value.okWide P w .any base t v) (h : DataW.Trod enc P w 0 sp held t v d ms) :
    ∃ qs, Typed P n t qs ∧ VR (.start w) v (asPD P t qs) := by
  obtain ⟨fuel, h⟩ := h
  obtain ⟨qs, h1, h2⟩ := trod_typed fuel n t _ _ h hp
  refine ⟨qs, h1, ?_⟩
  have hlen := Typed.length n t qs hp h1
  cases n with
  | zero => cases hp
  | succ n =>
    have cell : pagg P t = some false → (∀ cs, v ≠ .agg cs) → VR (.start w) v (asPD P t qs) := fun ha hna => by
      have hc : v.cells = #[v] := by
        cases v <;> first | rfl | exact absurd rfl (hna _)
      rw [hc] at h2
      obtain ⟨hl, hr⟩ := h2.vrs
      match qs, hl with
      | [q], _ =>
        have := hr 0 v q rfl rfl
        simpa only [asPD, ha, List.headD_cons] using this
    have row : pagg P t = some true → (∃ cs, v = .agg cs) → VR (.start w) v (asPD P t qs) := fun ha ⟨cs, e⟩ => by
      subst e
      have := h2.agg
      simpa only [asPD, ha, Value.cells] using this
    unfold pureT at hp
    unfold Value.okWide at hv
    split at hp <;> rename_i hu
    · refine cell (by simp only [pagg, hu]) (fun cs e => ?_)
      subst e
      simp [hu, Cell.okWide, Cell.ok] at hv
    · refine cell (by simp only [pagg, hu]) (fun cs e => ?_)
      subst e
      simp [hu, Cell.okWide, Cell.ok] at hv
    · refine cell (by simp only [pagg, hu]) (fun cs e => ?_)
      subst e
      simp [hu, Cell.okWide, Cell.ok] at hv
    · refine cell (by simp only [pagg, hu]) (fun cs e => ?_)
      subst e
      simp [hu, Cell.okWide, Cell.ok] at hv
    · rw [hu] at hv
      obtain ⟨cs, e, _⟩ := hv
      exact row (by simp only [pagg, hu]) ⟨cs, e⟩
    · rw [hu] at hv
      obtain ⟨cs, e, _⟩ := hv
      exact row (by simp only [pagg, hu]) ⟨cs, e⟩
    · cases hp

end

section
variable {P : Program}

theorem typed_int {d : Nat} {t : TypeId} {k : IntKind} {qs : List PD} (hu : P.underlying t = some (.int k)) (h : Typed P (d + 1) t qs) : ∃ n, qs = [.int k n] ∧ (Lit.int k n).wf = true := by
  simpa only [Typed, hu] using h
theorem typed_bool {d : Nat} {t : TypeId} {qs : List PD} (hu : P.underlying t = some .bool) (h : Typed P (d + 1) t qs) : ∃ b, qs = [.bool b] := by
  simpa only [Typed, hu] using h
theorem typed_str {d : Nat} {t : TypeId} {qs : List PD} (hu : P.underlying t = some .string) (h : Typed P (d + 1) t qs) : ∃ s, qs = [.str s] ∧ s.length ≤ maxLen := by
  simpa only [Typed, hu] using h
theorem typed_struct {d : Nat} {t : TypeId} {fs : Array Field} {qs : List PD} (hu : P.underlying t = some (.struct fs)) (h : Typed P (d + 1) t qs) : TypedF (Typed P d) fs.toList qs := by
  simpa only [Typed, hu] using h
theorem typed_list {α : Type} {em : Em α} {R : α → Prop} {d : Nat} {t e : TypeId} {k : Nat} {qs : List PD} (hu : P.underlying t = some (.slice e)) (hk : P.cellsOf e = k) (hf : ∀ x, Typed P d e x → ∃ y, asPD P e x = em.emb y ∧ R y) (h : Typed P (d + 1) t qs) :
    ∃ ys, qs = [(em.list k).emb ys] ∧ ys.length ≤ maxLen ∧ ∀ y ∈ ys, R y := by
  simp only [Typed, hu] at h
  obtain ⟨xs, h1, h2, rfl⟩ := h
  have key : ∀ xs : List (List PD), (∀ x ∈ xs, Typed P d e x) → ∃ ys : List α, ys.length = xs.length ∧ xs.map (asPD P e) = ys.map em.emb ∧ ∀ y ∈ ys, R y := by
    intro xs
    induction xs with
    | nil => intro _; exact ⟨[], rfl, rfl, by simp⟩
    | cons x xs ih =>
      intro hx
      obtain ⟨ys, h3, h4, h5⟩ := ih (fun z hz => hx z (by simp [hz]))
      obtain ⟨y, h6, h7⟩ := hf x (hx x (by simp))
      exact ⟨y :: ys, by simp [h3], by simp [h4, h6], by simpa using ⟨h7, h5⟩⟩
  obtain ⟨ys, h3, h4, h5⟩ := key xs h2
  refine ⟨ys, ?_, by omega, h5⟩
  rw [emb_list, h4, hk]
  have : sz k xs = sz k ys := by simp only [sz, h3]
  rw [this]

theorem asPD_one {t : TypeId} {q : PD} (ha : pagg P t = some false) : asPD P t [q] = q := by simp only [asPD, ha, List.headD_cons]
theorem asPD_agg {t : TypeId} {qs : List PD} (ha : pagg P t = some true) : asPD P t qs = .agg qs := by simp only [asPD, ha]

theorem typedF_cons {T : TypeId → List PD → Prop} {f : Field} {fs : List Field} {ps : List PD} (h : TypedF T (f :: fs) ps) : ∃ a b, ps = a ++ b ∧ T f.type a ∧ TypedF T fs b := h
theorem typedF_nil {T : TypeId → List PD → Prop} {ps : List PD} (h : TypedF T [] ps) : ps = [] := h

theorem wf_u64 {z : Int} (hz : (Lit.int .u64 z).wf = true) : ∃ a : BitVec 64, z = (a.toNat : Int) := by
  simp only [Lit.wf, IntKind.min, IntKind.max, IntKind.signed, IntKind.bits] at hz
  have h5 : 0 ≤ z ∧ z < 18446744073709551616 := by
    simp at hz
    omega
  refine ⟨BitVec.ofNat 64 z.toNat, ?_⟩
  rw [BitVec.toNat_ofNat, Nat.mod_eq_of_lt (by omega)]
  omega
theorem wf_i64 {z : Int} (hz : (Lit.int .i64 z).wf = true) : -9223372036854775808 ≤ z ∧ z ≤ 9223372036854775807 := by
  simp only [Lit.wf, IntKind.min, IntKind.max, IntKind.signed, IntKind.bits] at hz
  simp at hz
  omega
theorem wf_u8 {z : Int} (hz : (Lit.int .u8 z).wf = true) : 0 ≤ z ∧ z ≤ 255 := by
  simp only [Lit.wf, IntKind.min, IntKind.max, IntKind.signed, IntKind.bits] at hz
  simp at hz
  omega
theorem wf_u16 {z : Int} (hz : (Lit.int .u16 z).wf = true) : 0 ≤ z ∧ z ≤ 65535 := by
  simp only [Lit.wf, IntKind.min, IntKind.max, IntKind.signed, IntKind.bits] at hz
  simp at hz
  omega

theorem vrs_nil {c : Cx} : VRs c [] [] := ⟨rfl, by simp⟩
theorem vrs_cons {c : Cx} {v : Value} {p : PD} {vs : List Value} {ps : List PD} (h : VR c v p) (hs : VRs c vs ps) : VRs c (v :: vs) (p :: ps) :=
  ⟨by simp [hs.1], fun i u d hu hd => by
    cases i with
    | zero => simp at hu hd; subst hu hd; exact h
    | succ i => exact hs.2 i u d (by simpa using hu) (by simpa using hd)⟩

theorem trodAll_cons' {H : Type} {enc : TypeId × Value → H} {w : World} {base : Nat} {sp : Nat → Bool} {held : Bool} {t : TypeId} {ts : List TypeId} {vs : List Value} {ds : List (DataW H)} {ps : List MemPlace} (h : DataW.TrodAll enc P w base sp held (t :: ts) vs ds ps) :
    ∃ v vs' d ds' p q, vs = v :: vs' ∧ ds = d :: ds' ∧ DataW.Trod enc P w base sp held t v d p ∧ DataW.TrodAll enc P w base sp held ts vs' ds' q := by
  match vs, ds, h with
  | v :: vs, d :: ds, h =>
    obtain ⟨p, q, h1, h2, _⟩ := h
    exact ⟨v, vs, d, ds, p, q, rfl, rfl, h1, h2⟩
theorem trodAll_nil' {H : Type} {enc : TypeId × Value → H} {w : World} {base : Nat} {sp : Nat → Bool} {held : Bool} {vs : List Value} {ds : List (DataW H)} {ps : List MemPlace} (h : DataW.TrodAll enc P w base sp held [] vs ds ps) : vs = [] ∧ ds = [] := by
  match vs, ds, h with
  | [], [], _ => exact ⟨rfl, rfl⟩

end
end Go.Kz

/-
  What the laws of layer 11 are handed, as typed data; the tables that lie in the world.
-/
namespace Go.Proofs.YtclleofcjnggaaaDoor
open Go Go.Kz Go.ChangeShapes Go.WideShapes Go.ChangeAt Go.WideMaps Go.WideElems Go.RowKit
set_option maxRecDepth 100000

theorem own : ownKnob Tryd.prog.godebug = none := by kernel_rfl
theorem laidOut : laidOutB Tryd.prog = true := by kernel_rfl
theorem gDb : Tryd.prog.globalNamed "math/bits.deBruijn64tab" = some 0 := by kernel_rfl
theorem tDb : (Tryd.prog.globals[0]?).map (·.type) = some 94 := by kernel_rfl

abbrev laidL {H : Type} : List (String × DataW H) := [("math/bits.deBruijn64tab", Rows.laid_math_bits_deBruijn64tab)]

theorem door_met (os : Os) (args : Array Value) : laidMetH Tryd.prog laidL ((World.doorLaid Tryd.prog 400 os).forCall (fun _ _ => 0) ⟨#[], args, []⟩).memory :=
  laidMetH_of_parts3 (fuel := 8) (laidMet_of_run' 8 (by kernel_rfl) (by kernel_rfl)) (by kernel_rfl) (by kernel_rfl)

theorem glob {W : World} (h : laidMetH Tryd.prog laidL W) : Gl (.start W) := by
  intro g ds hg
  by_cases h0 : g = 0
  · subst h0
    rw [gcells0] at hg
    simp only [Option.some.injEq] at hg
    subst hg
    exact glob_of_laid (P := Tryd.prog) (nm := "math/bits.deBruijn64tab") (k := .u8) (xs := tab64) (g := 0) (n := 64) h (by kernel_rfl) gDb tDb Tryd.underlying94 Tryd.underlying5 (by kernel_rfl)
  · unfold gcells gtab at hg
    simp [h0] at hg

section
variable {d : Nat} {qs : List PD}
theorem ty_player (h : Typed Tryd.prog (d + 2) 23 qs) : ∃ p : Player, asPD Tryd.prog 23 qs = Em.player.emb p := by
  obtain ⟨q0, r0, rfl, h0, h⟩ := typedF_cons (typed_struct Tryd.underlying23 h)
  obtain ⟨q1, r1, rfl, h1, h⟩ := typedF_cons h
  obtain ⟨q2, r2, rfl, h2, h⟩ := typedF_cons h
  obtain ⟨q3, r3, rfl, h3, h⟩ := typedF_cons h
  obtain rfl := typedF_nil h
  obtain ⟨a, rfl, _⟩ := typed_int Tryd.underlying3 h0
  obtain ⟨b, rfl, _⟩ := typed_int Tryd.underlying3 h1
  obtain ⟨c, rfl, _⟩ := typed_int Tryd.underlying3 h2
  obtain ⟨e, rfl, _⟩ := typed_int Tryd.underlying3 h3
  exact ⟨⟨a, b, c, e⟩, asPD_agg (by kernel_rfl)⟩
theorem ty_notes (h : Typed Tryd.prog (d + 2) 26 qs) : ∃ s : Notes, asPD Tryd.prog 26 qs = Em.notes.emb s := by
  obtain ⟨q0, r0, rfl, h0, h⟩ := typedF_cons (typed_struct Tryd.underlying26 h)
  obtain ⟨q1, r1, rfl, h1, h⟩ := typedF_cons h
  obtain rfl := typedF_nil h
  obtain ⟨a, rfl, wa⟩ := typed_int Tryd.underlying24 h0
  obtain ⟨b, rfl, wb⟩ := typed_int Tryd.underlying24 h1
  obtain ⟨a', rfl⟩ := wf_u64 wa
  obtain ⟨b', rfl⟩ := wf_u64 wb
  refine ⟨⟨a', b'⟩, ?_⟩
  rw [emb_notes, tn_eq, tn_eq]
  exact asPD_agg (by kernel_rfl)
theorem ty_compass (h : Typed Tryd.prog (d + 2) 50 qs) : ∃ c : Compass, qs = [.int .i64 c.low, .int .i64 c.high] ∧ -9223372036854775808 ≤ c.low ∧ c.low ≤ 9223372036854775807 ∧ -9223372036854775808 ≤ c.high ∧ c.high ≤ 9223372036854775807 := by
  obtain ⟨q0, r0, rfl, h0, h⟩ := typedF_cons (typed_struct Tryd.underlying50 h)
  obtain ⟨q1, r1, rfl, h1, h⟩ := typedF_cons h
  obtain rfl := typedF_nil h
  obtain ⟨a, rfl, wa⟩ := typed_int Tryd.underlying3 h0
  obtain ⟨b, rfl, wb⟩ := typed_int Tryd.underlying3 h1
  exact ⟨⟨a, b⟩, rfl, (wf_i64 wa).1, (wf_i64 wa).2, (wf_i64 wb).1, (wf_i64 wb).2⟩
theorem ty_compass' (h : Typed Tryd.prog (d + 2) 50 qs) : ∃ c : Compass, asPD Tryd.prog 50 qs = Em.compass.emb c ∧ -9223372036854775808 ≤ c.low ∧ c.low ≤ 9223372036854775807 ∧ -9223372036854775808 ≤ c.high ∧ c.high ≤ 9223372036854775807 := by
  obtain ⟨c, rfl, hc⟩ := ty_compass h
  exact ⟨c, asPD_agg (by kernel_rfl), hc⟩
theorem ty_notesL (h : Typed Tryd.prog (d + 3) 64 qs) : ∃ l : List Notes, asPD Tryd.prog 64 qs = notesL.emb l ∧ l.length ≤ maxLen := by
  obtain ⟨ys, rfl, h1, _⟩ := typed_list (em := Em.notes) (R := fun _ => True) Tryd.underlying64 (k := 2) (by kernel_rfl) (fun x hx => by obtain ⟨s, hs⟩ := ty_notes hx; exact ⟨s, hs, trivial⟩) h
  exact ⟨ys, asPD_one (by kernel_rfl), h1⟩
theorem ty_draw (h : Typed Tryd.prog (d + 2) 121 qs) : ∃ s : Draw, asPD Tryd.prog 121 qs = Em.draw.emb s := by
  obtain ⟨q0, r0, rfl, h0, h⟩ := typedF_cons (typed_struct Tryd.underlying121 h)
  obtain ⟨q1, r1, rfl, h1, h⟩ := typedF_cons h
  obtain rfl := typedF_nil h
  obtain ⟨a, rfl, wa⟩ := typed_int Tryd.underlying3 h0
  obtain ⟨b, rfl, wb⟩ := typed_int Tryd.underlying3 h1
  exact ⟨⟨a, b⟩, asPD_agg (by kernel_rfl)⟩
theorem ty_segment (h : Typed Tryd.prog (d + 4) 119 qs) : ∃ s : Segment, asPD Tryd.prog 119 qs = Em.segment.emb s := by
  obtain ⟨q0, r0, rfl, h0, h⟩ := typedF_cons (typed_struct Tryd.underlying119 h)
  obtain ⟨q1, r1, rfl, h1, h⟩ := typedF_cons h
  obtain ⟨q2, r2, rfl, h2, h⟩ := typedF_cons h
  obtain rfl := typedF_nil h
  obtain ⟨a, rfl, wa⟩ := typed_int Tryd.underlying3 h0
  obtain ⟨b, rfl, wb⟩ := typed_int Tryd.underlying3 h1
  obtain ⟨ys, rfl, _, _⟩ := typed_list (em := Em.draw) (R := fun _ => True) Tryd.underlying117 (k := 2) (by kernel_rfl) (fun x hx => by obtain ⟨s, hs⟩ := ty_draw hx; exact ⟨s, hs, trivial⟩) h2
  exact ⟨⟨a, b, ys⟩, asPD_agg (by kernel_rfl)⟩
theorem ty_fract (h : Typed Tryd.prog (d + 2) 112 qs) : ∃ s : Fract, qs = EmC.fract.cells s := by
  obtain ⟨q0, r0, rfl, h0, h⟩ := typedF_cons (typed_struct Tryd.underlying112 h)
  obtain ⟨q1, r1, rfl, h1, h⟩ := typedF_cons h
  obtain rfl := typedF_nil h
  obtain ⟨a, rfl, wa⟩ := typed_int Tryd.underlying3 h0
  obtain ⟨b, rfl, wb⟩ := typed_int Tryd.underlying3 h1
  exact ⟨⟨a, b⟩, rfl⟩
theorem ty_stop (h : Typed Tryd.prog (d + 6) 115 qs) : ∃ s : Stop, asPD Tryd.prog 115 qs = Em.stop.emb s := by
  obtain ⟨q0, r0, rfl, h0, h⟩ := typedF_cons (typed_struct Tryd.underlying115 h)
  obtain ⟨q1, r1, rfl, h1, h⟩ := typedF_cons h
  obtain ⟨q2, r2, rfl, h2, h⟩ := typedF_cons h
  obtain rfl := typedF_nil h
  obtain ⟨a, rfl, _⟩ := typed_str Tryd.underlying9 h0
  obtain ⟨b, rfl⟩ := ty_fract h1
  obtain ⟨ys, rfl, _, _⟩ := typed_list (em := Em.segment) (R := fun _ => True) Tryd.underlying113 (k := 3) (by kernel_rfl) (fun x hx => by obtain ⟨s, hs⟩ := ty_segment hx; exact ⟨s, hs, trivial⟩) h2
  exact ⟨⟨a, b, ys⟩, asPD_agg (by kernel_rfl)⟩
def keysIn (c : Compass) : Prop := -9223372036854775808 ≤ c.low ∧ c.low ≤ 9223372036854775807 ∧ -9223372036854775808 ≤ c.high ∧ c.high ≤ 9223372036854775807
theorem ty_division (h : Typed Tryd.prog (d + 8) 69 qs) : ∃ s : Division, asPD Tryd.prog 69 qs = Em.division.emb s ∧ keysIn s.keys := by
  obtain ⟨q0, r0, rfl, h0, h⟩ := typedF_cons (typed_struct Tryd.underlying69 h)
  obtain ⟨q1, r1, rfl, h1, h⟩ := typedF_cons h
  obtain ⟨q2, r2, rfl, h2, h⟩ := typedF_cons h
  obtain ⟨q3, r3, rfl, h3, h⟩ := typedF_cons h
  obtain rfl := typedF_nil h
  obtain ⟨a, rfl, _⟩ := typed_str Tryd.underlying9 h0
  obtain ⟨b, rfl⟩ := typed_bool Tryd.underlying4 h1
  obtain ⟨c, rfl, hc⟩ := ty_compass h2
  obtain ⟨ys, rfl, _, _⟩ := typed_list (em := Em.stop) (R := fun _ => True) Tryd.underlying67 (k := 4) (by kernel_rfl) (fun x hx => by obtain ⟨s, hs⟩ := ty_stop hx; exact ⟨s, hs, trivial⟩) h3
  exact ⟨⟨a, b, c, ys⟩, asPD_agg (by kernel_rfl), hc⟩
theorem ty_divisionsL (h : Typed Tryd.prog (d + 9) 66 qs) : ∃ l : List Division, asPD Tryd.prog 66 qs = divisionsL.emb l ∧ l.length ≤ maxLen ∧ ∀ x ∈ l, keysIn x.keys := by
  obtain ⟨ys, rfl, h1, h2⟩ := typed_list (em := Em.division) (R := fun x => keysIn x.keys) Tryd.underlying66 (k := 5) (by kernel_rfl) (fun x hx => ty_division hx) h
  exact ⟨ys, asPD_one (by kernel_rfl), h1, h2⟩
end
end Go.Proofs.YtclleofcjnggaaaDoor

/-
  SpanErrors holds: the law answers true, whatever it is handed.
-/
namespace Go.Proofs.YtclleofcjnggaaaDoor
open Go Go.Kz Go.ChangeShapes Go.WideShapes Go.ChangeAt Go.WideMaps Go.WideElems Go.RowKit
set_option maxRecDepth 100000

theorem lifted_SpanErrors (os : Os) (started : os.Started) (H : Type) (enc : TypeId × Value → H) :
    ReturnsInHanded {} Tryd.checked os 11 .any (fun w args => (Rows.spanErrorsSpec.pre enc Tryd.prog Tryd.f11 [] false w args ∧ laidMetH Tryd.prog laidL w) ∧ sizedMet enc Tryd.prog Tryd.f11 (OpenSpec.ofChange Rows.spanErrorsSpec) false w args)
      (Rows.spanErrorsSpec.post enc Tryd.prog Tryd.f11 false true false false) := by
  refine returnsInHanded_of_change_and (C := Tryd.checked) (X := fun w _ => laidMetH Tryd.prog laidL w) (fun _ _ _ hh h => h.of_heap hh) own started (by kernel_rfl) Tryd.func11
    (ChangeSpec.witness_shaped (enc := enc) (C := Tryd.checked) (os := os) (X := fun w _ => laidMetH Tryd.prog laidL w) false (World.doorLaid Tryd.prog 400 os) #[.agg #[.int .i64 0, .int .i64 0, .int .i64 0, .int .i64 0], .agg #[.int .u64 0, .int .u64 0]] 12 rfl (World.shaped_of_RefB (by kernel_rfl) (by kernel_rfl)) (by kernel_rfl) (by kernel_rfl) (by kernel_rfl) (door_met os _)) ?_
  intro W base args ds gs before hval hW _ _ hL _
  have hval : ∀ (j : Nat) t v, Tryd.f11.params[j]? = some t → args[j]? = some v → Value.okWide Tryd.prog W .any base t v := hval
  have hW' := hW
  obtain ⟨p, q, hA, _, _, _, _⟩ := hW
  have hA : DataW.TrodAll enc Tryd.prog W 0 (fun _ => true) true Tryd.f11.params.toList args.toList ds p := hA
  rw [Tryd.params11] at hA hval
  obtain ⟨v1, v2, d1, d2, p1, p2, rfl, _, _, h1, h2⟩ := trodAll_two hA
  obtain ⟨q1, t1, r1⟩ := arg_typed (n := 12) (t := 23) (v := v1) (by kernel_rfl) (hval 0 _ _ rfl rfl) h1
  obtain ⟨p1', e1⟩ := ty_player t1
  rw [e1] at r1
  obtain ⟨q2, t2, r2⟩ := arg_typed (n := 12) (t := 26) (v := v2) (by kernel_rfl) (hval 1 _ _ rfl rfl) h2
  obtain ⟨s1, e2⟩ := ty_notes t2
  rw [e2] at r2
  have run := r_SpanErrors Er6_uni rfl rfl rfl rfl rfl rfl rfl rfl rfl rfl rfl p1' s1
  refine (Run.calls Er6_ok follows names run (glob hL) (vrs_cons r1 (vrs_cons r2 vrs_nil))).mono fun e' W' ⟨he, hb⟩ => ?_
  subst he
  exact ⟨_, rfl, law_post laidOut rfl hW' hb rfl Tryd.underlying4 (by kernel_rfl) (fun ds hg hd => by
    subst hg
    match ds, hd with
    | [d1, d2], _ => rfl)⟩

theorem spanErrors_holds : Rows.SpanErrorsSaid :=
  OpenClaim.holds_of_wide 11 Tryd.f11 rfl rfl rfl rfl rfl rfl rfl ⟨rfl, rfl, rfl, rfl, rfl⟩ rfl rfl rfl rfl rfl (by kernel_rfl) Tryd.func11 (by kernel_rfl)
    (of_decide_eq_true (by kernel_rfl)) (by unfold Func.isWrapper; first | (rw [if_pos (by decide +kernel)]; kernel_rfl) | (rw [if_neg (by decide +kernel)]; exact ⟨rfl, rfl⟩))
    (fun os started H enc _ => lifted_SpanErrors os started H enc)

theorem spanErrors_card : Rows.SpanErrorsCardSaid :=
  Claim7.holds_tied_plain_at .later [] [.data] true (true, "40abfb383b17e30e6d7cad2be2972cbafc1276e76edec2d6e229a2e74b8f3c14") false
    spanErrors_holds (fun _ h => by cases h) (by kernel_rfl) (fun _ h => by cases h) spanErrors_row_tie rfl ⟨rfl, rfl⟩ (by kernel_rfl) rfl
    (fun f fn hf hfn => by
      obtain rfl : f = 11 := Option.some.inj ((show Tryd.prog.funcNamed "bombarde/bombardelaw11.SpanErrors" = some 11 by kernel_rfl).symm.trans hf) |>.symm
      obtain rfl : fn = Tryd.f11 := (Option.some.inj (Tryd.func11.symm.trans hfn)).symm
      exact ⟨by kernel_rfl, fun j t ht => by
        rw [Tryd.params11] at ht
        have hm := Array.mem_of_getElem? ht
        have hall : (#[23, 26].all fun u => !Tryd.prog.wantsStandIn u) = true := by kernel_rfl
        have := Array.all_eq_true_iff_forall_mem.1 hall t hm
        exact (show Tryd.prog.wantsStandIn t = false by simpa using this)⟩)
    (by kernel_rfl)
end Go.Proofs.YtclleofcjnggaaaDoor
