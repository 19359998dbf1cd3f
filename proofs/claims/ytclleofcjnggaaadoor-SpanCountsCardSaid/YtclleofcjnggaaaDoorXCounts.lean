/-
  SpanCounts holds: the law answers true, whatever it is handed.
-/
import Derived.Test.YtclleofcjnggaaaDoorP8
import Derived.Test.YtclleofcjnggaaaDoorP4
import Derived.Test.YtclleofcjnggaaaDoorP5
set_option linter.all false

/-
  Rows of one's own behind some objects and others of which little is known.
-/
namespace Go.Kz

theorem pappend_rowB {P : Program} {B J : List SObj} {t e : TypeId} {k b s : Nat} {xs : List PD} {p : PD} {tk tok : Tok} (hB : ∀ o ∈ B, notOwn (some o)) (hu : P.underlying t = some (.slice e)) (hi : pelem P e = some (k, b)) (hs : xs = [] ∨ s = k) (hr : RowAt (B ++ J) tok e k xs.length)
    (hm : xs.length + 1 ≤ 100000000000000) (hb : (xs.length + 1) * b ≤ 140737488355328) :
    ∃ tok' J', pappend P 0 (B ++ J) t (.slice s xs tok) (.slice k [p] tk) = some (.slice k (xs ++ [p]) tok', B ++ J') ∧ RowAt (B ++ J') tok' e k (xs.length + 1) ∧
      ∀ tok2 e2 k2 n2, RowAt (B ++ J) tok2 e2 k2 n2 → (∀ id, tok = .own id → tok2 ≠ .own id) → RowAt (B ++ J') tok2 e2 k2 n2 ∧ (∀ id, tok' = .own id → tok2 ≠ .own id) := by
  obtain ⟨tok', σ', h1, h2, h3, h4⟩ := pappend_row (tk := tk) (p := p) hu hi hs hr hm hb
  have hpre : ∀ (id : Nat) (o : SObj), B[id]? = some o → σ'[id]? = some o := by
    intro id o ho
    have ho2 : (B ++ J)[id]? = some o := by rw [List.getElem?_append_left (List.getElem?_eq_some_iff.1 ho).1]; exact ho
    refine h3 id o ?_ ho2
    intro e
    subst e
    rcases hr with ⟨_, e⟩ | ⟨_, id', e, h5⟩
    · cases e
    · simp only [Tok.own.injEq] at e
      subst e
      rw [ho2, Option.some.injEq] at h5
      subst h5
      exact hB _ (List.mem_of_getElem? ho)
  have hsp : σ' = B ++ σ'.drop B.length := by
    have : σ'.take B.length = B := by
      apply List.ext_getElem?
      intro i
      rw [List.getElem?_take]
      split
      · rename_i hlt
        rw [hpre i B[i] (by simp [hlt]), List.getElem?_eq_getElem hlt]
      · rename_i hge
        rw [List.getElem?_eq_none (by omega)]
    conv => lhs; rw [← List.take_append_drop B.length σ', this]
  refine ⟨tok', σ'.drop B.length, by rw [← hsp]; exact h1, by rw [← hsp]; exact h2, fun tok2 e2 k2 n2 hr2 hne => ?_⟩
  rw [← hsp]
  refine ⟨hr2.keep fun id o e h => h3 id o (fun e2 => hne id e2 e) h, fun id e e2 => ?_⟩
  rcases h4 id e with e3 | e3
  · exact hne id e3 e2
  · subst e3
    rcases hr2 with ⟨_, e4⟩ | ⟨_, id', e4, h5⟩
    · rw [e4] at e2; cases e2
    · rw [e4] at e2
      simp only [Tok.own.injEq] at e2
      subst e2
      have := (List.getElem?_eq_some_iff.1 h5).1
      omega

/-! ### bits of small integers -/
theorem shr_i64 {n i : Nat} (hn : n < 9223372036854775808) (hi : i < 64) : pshift .shr .i64 (n : Int) (i : Int) = some (.int .i64 ((n / 2 ^ i : Nat) : Int)) := by
  have h1 : ¬ ((i : Int) < 0) := by omega
  have h2 : min ((i : Int).toNat) IntKind.i64.bits = i := by simp [IntKind.bits]; omega
  simp only [pshift, h1, if_false, h2]
  have h3 : (0 : Int) ≤ 2 ^ i := Int.pow_nonneg (by omega)
  rw [Int.fdiv_eq_ediv_of_nonneg _ h3, Int.natCast_ediv, Int.natCast_pow]
  rfl
theorem and_one_i64 {n : Nat} (hn : n < 9223372036854775808) : pbits .and .i64 (n : Int) 1 = some ((n % 2 : Nat) : Int) := by
  show some (IntKind.i64.wrap ((BitVec.ofInt 64 (n : Int) &&& BitVec.ofInt 64 1).toNat : Int)) = _
  have h1 : (BitVec.ofInt 64 (n : Int)).toNat = n := by
    rw [BitVec.toNat_ofInt]
    omega
  have h2 : (BitVec.ofInt 64 1).toNat = 1 := by decide
  rw [BitVec.toNat_and, h1, h2, show (1 : Nat) = 2 ^ 1 - 1 from rfl, Nat.and_two_pow_sub_one_eq_mod]
  rw [wrap_i64 (by omega) (by omega)]
theorem shl_one_i64 {w : Nat} (hw : w < 62) : pshift .shl .i64 1 (w : Int) = some (.int .i64 ((2 ^ w : Nat) : Int)) := by
  have h1 : ¬ ((w : Int) < 0) := by omega
  have h2 : min ((w : Int).toNat) IntKind.i64.bits = w := by simp [IntKind.bits]; omega
  simp only [pshift, h1, if_false, h2]
  have h4 : (2 : Nat) ^ w ≤ 2 ^ 62 := Nat.pow_le_pow_right (by omega) (by omega)
  rw [Int.one_mul, wrap_i64 (by have : (0 : Int) ≤ 2 ^ w := Int.pow_nonneg (by omega); omega) (by
    have : ((2 ^ w : Nat) : Int) ≤ ((2 ^ 62 : Nat) : Int) := by exact_mod_cast h4
    rw [Int.natCast_pow] at this
    have e : ((2 ^ 62 : Nat) : Int) = 4611686018427387904 := rfl
    rw [e] at this
    have e2 : (((2 : Nat) : Int)) ^ w = (2 : Int) ^ w := rfl
    omega)]
  rw [Int.natCast_pow]
  rfl

end Go.Kz

/-
  Layer 11: how many sets two hands can hold, in plain words.
-/
namespace Go.Kz
open Go Go.Proofs

def setN (k : Nat) : Notes := ⟨BitVec.ofNat 64 k, 0#64⟩
def lowL (lo : Int) (k w : Nat) : List Int := ((List.range w).filter k.testBit).map fun i : Nat => lo + (i : Int)
def canHold (p : Player) (k : Nat) : Bool := decide (divs1 p (setN k).list ≠ [])
def countTo (p : Player) (n : Nat) : Nat := ((List.range n).filter (canHold p)).length

theorem countTo_succ (p : Player) (n : Nat) : countTo p (n + 1) = if canHold p n then countTo p n + 1 else countTo p n := by
  unfold countTo
  rw [List.range_succ, List.filter_append]
  cases h : canHold p n <;> simp [h]
theorem countTo_le (p : Player) (n : Nat) : countTo p n ≤ n := by
  unfold countTo
  exact Nat.le_trans (List.length_filter_le _ _) (by simp)
theorem lowL_succ (lo : Int) (k w : Nat) : lowL lo k (w + 1) = if k.testBit w then lowL lo k w ++ [lo + (w : Int)] else lowL lo k w := by
  unfold lowL
  rw [List.range_succ, List.filter_append, List.map_append]
  cases h : k.testBit w <;> simp [h]
theorem lowL_len (lo : Int) (k w : Nat) : (lowL lo k w).length ≤ w := by
  unfold lowL
  rw [List.length_map]
  exact Nat.le_trans (List.length_filter_le _ _) (by simp)

theorem bits_small {k w : Nat} (hk : k < 2 ^ w) (hw : w ≤ 64) : bits (BitVec.ofNat 64 k) = (List.range w).filter k.testBit := by
  have h64 : k < 2 ^ 64 := Nat.lt_of_lt_of_le hk (Nat.pow_le_pow_right (by omega) hw)
  have e1 : (BitVec.ofNat 64 k).getLsbD = k.testBit := by
    funext i
    rw [BitVec.getLsbD, BitVec.toNat_ofNat, Nat.mod_eq_of_lt h64]
  unfold bits
  rw [e1]
  obtain ⟨d, hd⟩ : ∃ d, 64 = w + d := ⟨64 - w, by omega⟩
  rw [hd, List.range_add, List.filter_append]
  have : ((List.range d).map (w + ·)).filter k.testBit = [] := by
    rw [List.filter_eq_nil_iff]
    intro x hx
    obtain ⟨i, _, rfl⟩ := List.mem_map.1 hx
    rw [Nat.testBit_lt_two_pow (Nat.lt_of_lt_of_le hk (Nat.pow_le_pow_right (by omega) (by omega)))]
    simp
  rw [this, List.append_nil]

theorem setN_list {k w : Nat} (hk : k < 2 ^ w) (hw : w ≤ 64) : (setN k).list = ((List.range w).filter k.testBit).map fun i : Nat => (i : Int) := by
  rw [list_bits]
  show (bits (BitVec.ofNat 64 k)).map _ ++ (bits 0#64).map _ = _
  rw [bits_small hk hw, bits_zero, List.map_nil, List.append_nil]

theorem lowL_shift {k w : Nat} (hk : k < 2 ^ w) (hw : w ≤ 64) (lo : Int) : lowL lo k w = (setN k).list.map fun n => lo + n := by
  rw [setN_list hk hw, List.map_map]
  rfl

theorem widthP_shift (l : List Int) (lo : Int) : widthP (l.map fun n => lo + n) = widthP l := by
  unfold widthP
  cases l with
  | nil => rfl
  | cons x xs =>
    rw [List.getLast?_map, List.head?_map]
    rw [List.getLast?_eq_getLast (by simp)]
    simp only [List.head?_cons, Option.map_some, Option.getD_some]
    congr 1
    omega
theorem oneOk_shift (p : Player) (l : List Int) (lo : Int) : oneOk p (l.map fun n => lo + n) = oneOk p l := by
  have h := widthP_shift l lo
  unfold widthP at h
  unfold oneOk
  rw [h, List.length_map]
theorem divs1_shift (p : Player) (l : List Int) (lo : Int) : divs1 p (l.map fun n => lo + n) = divs1 p l := by
  unfold divs1
  rw [List.length_map]
  apply List.filter_congr
  intro t _
  unfold ok1
  rw [← List.map_take, ← List.map_drop, oneOk_shift, oneOk_shift]

theorem divF_low {p : Player} (h : errOf p = 0) {k w : Nat} (hk : k < 2 ^ w) (hw : w ≤ 64) (lo : Int) : (0 < (divF p (lowL lo k w)).length) = (canHold p k = true) := by
  rw [divF_divs1 p _ (err_hs h), List.length_map, lowL_shift hk hw, divs1_shift]
  unfold canHold
  rw [decide_eq_true_eq, List.length_pos_iff]

theorem canHold_zero {p : Player} (h : errOf p = 0) : canHold p 0 = true := by
  have hr : ¬ (p.hn < 0 ∨ 10 < p.hn ∨ p.fn < 0 ∨ 10 < p.fn ∨ p.hs < 0 ∨ 127 < p.hs ∨ p.fs < 0 ∨ 127 < p.fs) := by
    intro hc
    unfold errOf at h
    rw [if_pos hc] at h
    cases h
  have e : (setN 0).list = [] := by rw [setN_list (w := 0) (by decide) (by omega)]; rfl
  have h1 : oneOk p [] = true := by
    have a1 : 0 ≤ p.hn := by omega
    have a2 : 0 ≤ p.hs := by omega
    simp [oneOk, a1, a2]
  unfold canHold
  rw [e]
  have : divs1 p [] = [0] := by
    unfold divs1
    simp [ok1, h1]
  rw [this]
  simp

theorem countTo_pos {p : Player} (h : errOf p = 0) {n : Nat} (hn : 0 < n) : 1 ≤ countTo p n := by
  induction n with
  | zero => omega
  | succ n ih =>
    rw [countTo_succ]
    rcases Nat.eq_zero_or_pos n with e | e
    · subst e
      rw [canHold_zero h]
      simp
    · have := ih e
      split <;> omega

/-- What Count answers. -/
def countF (p : Player) (c : Compass) : Int × Int := if errOf p ≠ 0 then (0, errOf p) else if errC c ≠ 0 then (0, errC c) else if 16 ≤ c.high - c.low then (0, 4) else ((countTo p (2 ^ (c.high - c.low + 1).toNat) : Nat), 0)

end Go.Kz

/-
  Layer 11: Count.
-/
namespace Go.Kz
open Go Go.Proofs

variable {E : PExt} (hU : Uni E)
include hU
set_option maxRecDepth 10000
set_option maxHeartbeats 4000000

theorem r_Count (h0 : E 24 = none) (h1 : E 35 = some (entry (gf1 .player i64 fun p => some (errOf p)))) (h2 : E 34 = some (entry (gf1 .compass i64 fun c => some (errC c))))
    (h3 : E 38 = some (entry (gf1 .notes i64s fun s => some s.list))) (h4 : E 42 = some (entry (gf2 .player i64s .bool fun p l => gif ((l.length : Int) < 900000) (some (decide (divs1 p l ≠ [])))))) (p : Player) (c : Compass) :
    Run Tryd.prog E 24 [Em.player.emb p, Em.compass.emb c] ((i64.tup2 i64).emb (countF p c)) := by
  apply Run.bodyL h0 Tryd.func24 rfl
  focus (simp [show Tryd.f24.ntmps = _ from rfl, List.replicate]; rfl)
  by_cases h : errOf p = 0
  · by_cases hc : errC c = 0
    · obtain ⟨c1, c2, c3⟩ := errC_ok hc
      by_cases h16 : 16 ≤ c.high - c.low
      · repeat (first
          | (refine Fr.i ?_; simp only [pput, List.set_cons_zero, List.set_cons_succ]; try rfl)
          | (refine By.i ?_; simp (disch := first | omega | (simp; done) | (simp; omega)) [wrap_i64, wrap_u64, h, hc, h16, h1, h2, entry, gf1]; first | done | rfl | exact ⟨rfl, rfl⟩)
          | (refine Wt.i ?_; first | rfl | (simp [h, hc, h16, h1, h2, entry, gf1]; done))
          | (refine Ns.i ?_; (try simp only [List.append_nil, List.nil_append, List.cons_append, List.append_assoc, List.length_append, List.length_cons, List.length_nil, Nat.zero_add, Nat.reduceAdd]); rfl) | rfl
          | (apply SL.pass; (focus (refine Wt.i ?_; rfl))) | apply SL.move | apply SL.assign | apply SL.load | apply SL.binOp | apply SL.append | apply SL.builtin | apply SL.fieldAddr | apply SL.indexAddr | apply SL.field | apply SL.extract
          | apply SL.fcall | apply SL.pick | apply SL.store | apply SL.unOp | apply SL.convert | apply SL.index | apply SL.slice | apply SL.build | apply SL.nilCheck | apply SL.buildSlice | apply SL.box | apply SL.alloc | apply SL.makeFunc
          | apply SQ.nil | (apply WL.reg; (focus decide +kernel)) | (apply WL.drawP (by assumption); (focus decide +kernel); (focus decide +kernel)) | (apply WL.drawF; (focus decide +kernel); (focus decide +kernel))
          | (apply WL.reg1; (focus decide +kernel)) | (apply WL.drawP1 (by assumption); (focus decide +kernel); (focus decide +kernel)) | (apply WL.drawF1; (focus decide +kernel); (focus decide +kernel)) | apply WL.skip
          | (apply WL.ct; (focus rfl)) | (apply WL.cf; (focus rfl)) | refine SeqQ.normal ?_ | refine SeqQ.ret ?_ | refine SeqQ.exit ?_ | refine BlockQ.normal ?_ | refine BlockQ.ret ?_ | refine BlockQ.here ?_
          | refine BlockQ.there (by decide) ?_ | refine Wp.block ?_ | refine Wp.skip ?_ | refine Wp.ret ?_ | refine Wp.exit ?_ | refine LoopI.ret ?_ | refine LoopI.exit ?_ | refine LoopQ.normal ?_ | refine LoopQ.ret ?_ | refine LoopQ.exit ?_
          | refine Wp.seq (Wp.seq ?_) | refine Wp.seq (Wp.block ?_) | (refine Wp.seq ?_; apply WL.ct; (focus rfl)) | (refine Wp.seq ?_; apply WL.cf; (focus rfl)))
        simp (disch := first | omega | (simp; done) | (simp; omega)) [decide_eq_decide, countF, h, hc, h16] <;> try rfl
      · obtain ⟨w, hw⟩ : ∃ w : Nat, c.high - c.low + 1 = w := ⟨(c.high - c.low + 1).toNat, by omega⟩
        have hw16 : w ≤ 16 := by omega
        obtain ⟨N, hN⟩ : ∃ N, N = 2 ^ w := ⟨_, rfl⟩
        have hN16 : N ≤ 65536 := by rw [hN]; exact Nat.pow_le_pow_right (n := 2) (j := 16) (by omega) hw16
        have hsh : pshift .shl .u64 1 (w : Int) = some (.int .u64 (N : Int)) := by
          rw [pshl64_one (by omega) (by omega), tn_eq, BitVec.toNat_shiftLeft, Nat.shiftLeft_eq]
          have e1 : (1#64).toNat = 1 := by decide
          have e2 : ((w : Int)).toNat = w := by omega
          rw [e1, e2, Nat.one_mul, ← hN, Nat.mod_eq_of_lt (by omega)]
        have hF : countF p c = (((countTo p N : Nat) : Int), 0) := by
          unfold countF
          rw [if_neg (by simp [h]), if_neg (by simp [hc]), if_neg h16, hw, hN]
          rfl
        rw [hF]
        repeat (first
          | (refine Fr.i ?_; simp only [pput, List.set_cons_zero, List.set_cons_succ]; try rfl)
          | (refine By.i ?_; simp (disch := first | omega | (simp; done) | (simp; omega)) [wrap_i64, wrap_u64, h, hc, h16, h1, h2, hw, hsh, entry, gf1]; first | done | rfl | exact ⟨rfl, rfl⟩)
          | (refine Wt.i ?_; first | rfl | (simp [h, hc, h16, h1, h2, hw, hsh, entry, gf1]; done))
          | (refine Ns.i ?_; (try simp only [List.append_nil, List.nil_append, List.cons_append, List.append_assoc, List.length_append, List.length_cons, List.length_nil, Nat.zero_add, Nat.reduceAdd]); rfl) | rfl
          | (apply SL.pass; (focus (refine Wt.i ?_; rfl))) | apply SL.move | apply SL.assign | apply SL.load | apply SL.binOp | apply SL.append | apply SL.builtin | apply SL.fieldAddr | apply SL.indexAddr | apply SL.field | apply SL.extract
          | apply SL.fcall | apply SL.pick | apply SL.store | apply SL.unOp | apply SL.convert | apply SL.index | apply SL.slice | apply SL.build | apply SL.nilCheck | apply SL.buildSlice | apply SL.box | apply SL.alloc | apply SL.makeFunc
          | apply SQ.nil | (apply WL.reg; (focus decide +kernel)) | (apply WL.drawP (by assumption); (focus decide +kernel); (focus decide +kernel)) | (apply WL.drawF; (focus decide +kernel); (focus decide +kernel))
          | (apply WL.reg1; (focus decide +kernel)) | (apply WL.drawP1 (by assumption); (focus decide +kernel); (focus decide +kernel)) | (apply WL.drawF1; (focus decide +kernel); (focus decide +kernel)) | apply WL.skip
          | (apply WL.ct; (focus rfl)) | (apply WL.cf; (focus rfl)) | refine SeqQ.normal ?_ | refine SeqQ.ret ?_ | refine SeqQ.exit ?_ | refine BlockQ.normal ?_ | refine BlockQ.ret ?_ | refine BlockQ.here ?_
          | refine BlockQ.there (by decide) ?_ | refine Wp.block ?_ | refine Wp.skip ?_ | refine Wp.ret ?_ | refine Wp.exit ?_ | refine LoopI.ret ?_ | refine LoopI.exit ?_ | refine LoopQ.normal ?_ | refine LoopQ.ret ?_ | refine LoopQ.exit ?_
          | refine Wp.seq (Wp.seq ?_) | refine Wp.seq (Wp.block ?_) | (refine Wp.seq ?_; apply WL.ct; (focus rfl)) | (refine Wp.seq ?_; apply WL.cf; (focus rfl)))
        refine Wp.loopI (fun m fr σ => ∃ (k : Nat), ∃ gg : Nat → PD, (k + m = N) ∧ fr = [Em.player.emb p, Em.compass.emb c, .ptr 0 0, .ptr 1 0, .int .i64 0, .int .i64 0, gg 6, gg 7, .int .i64 (countTo p k), gg 9, gg 10, gg 11, gg 12, gg 13, gg 14, gg 15, gg 16, gg 17, gg 18, gg 19, gg 20, gg 21, gg 22, gg 23, gg 24, gg 25, gg 26, gg 27, gg 28, gg 29, gg 30, gg 31, .int .u64 N, .int .u64 k, gg 34, gg 35, gg 36, gg 37, gg 38, gg 39, gg 40, gg 41, gg 42, gg 43, gg 44] ∧ σ = [.box (Em.player.emb p), .box (Em.compass.emb c)]) ?_ (N) (by refine ⟨0, ?_⟩; exact exF (by omega) (by (first | rfl | (simp []; repeat (first | rfl | (apply And.intro))) | (simp []; done))) (by (first | rfl | (simp []; repeat (first | rfl | (apply And.intro))) | (simp []; done))))
        rintro m fr σ ⟨k, gg, hI, rfl, rfl⟩
        by_cases hk : k < N
        · have q1 : (k : Int) < (N : Int) := by omega
          have hdec : Em.notes.dec (.agg [.int .u64 (k : Int), .int .u64 0]) = some (setN k) := Em.dec_some (by
            have e1 : tn (setN k).low = (k : Int) := by rw [tn_eq]; show ((BitVec.ofNat 64 k).toNat : Int) = _; rw [BitVec.toNat_ofNat, Nat.mod_eq_of_lt (by omega)]
            have e2 : tn (setN k).high = 0 := rfl
            rw [emb_notes, e1, e2]
            rfl)
          have hlen : (setN k).list.length ≤ 128 := listTo_len (setN k) 128
          have hle := countTo_le p k
          have hs := countTo_succ p k
          by_cases hd : divs1 p (setN k).list = []
          · have hch : canHold p k = false := by simp [canHold, hd]
            rw [hch] at hs
            repeat (first
              | (refine Fr.i ?_; simp only [pput, List.set_cons_zero, List.set_cons_succ]; try rfl)
              | (refine By.i ?_; simp (disch := first | omega | (simp; done) | (simp; omega)) [wrap_i64, wrap_u64, q1, h3, h4, hdec, hd, entry, gf1, gf2]; first | done | rfl | exact ⟨rfl, rfl⟩)
              | (refine Wt.i ?_; first | rfl | (simp [q1, h3, h4, hdec, hd, entry, gf1, gf2]; done))
              | (refine Ns.i ?_; (try simp only [List.append_nil, List.nil_append, List.cons_append, List.append_assoc, List.length_append, List.length_cons, List.length_nil, Nat.zero_add, Nat.reduceAdd]); rfl) | rfl
              | (apply SL.pass; (focus (refine Wt.i ?_; rfl))) | apply SL.move | apply SL.assign | apply SL.load | apply SL.binOp | apply SL.append | apply SL.builtin | apply SL.fieldAddr | apply SL.indexAddr | apply SL.field
              | apply SL.extract | apply SL.fcall | apply SL.pick | apply SL.store | apply SL.unOp | apply SL.convert | apply SL.index | apply SL.slice | apply SL.build | apply SL.nilCheck | apply SL.buildSlice | apply SL.box | apply SL.alloc
              | apply SL.makeFunc | apply SQ.nil | (apply WL.reg; (focus decide +kernel)) | (apply WL.drawP (by assumption); (focus decide +kernel); (focus decide +kernel)) | (apply WL.drawF; (focus decide +kernel); (focus decide +kernel))
              | (apply WL.reg1; (focus decide +kernel)) | (apply WL.drawP1 (by assumption); (focus decide +kernel); (focus decide +kernel)) | (apply WL.drawF1; (focus decide +kernel); (focus decide +kernel)) | apply WL.skip
              | (apply WL.ct; (focus rfl)) | (apply WL.cf; (focus rfl)) | refine SeqQ.normal ?_ | refine SeqQ.ret ?_ | refine SeqQ.exit ?_ | refine BlockQ.normal ?_ | refine BlockQ.ret ?_ | refine BlockQ.here ?_
              | refine BlockQ.there (by decide) ?_ | refine Wp.block ?_ | refine Wp.skip ?_ | refine Wp.ret ?_ | refine Wp.exit ?_ | refine LoopI.ret ?_ | refine LoopI.exit ?_ | refine LoopQ.normal ?_ | refine LoopQ.ret ?_
              | refine LoopQ.exit ?_ | refine Wp.seq (Wp.seq ?_) | refine Wp.seq (Wp.block ?_) | (refine Wp.seq ?_; apply WL.ct; (focus rfl)) | (refine Wp.seq ?_; apply WL.cf; (focus rfl)))
            refine LoopI.normal (m - 1) (by omega) (by refine ⟨k + 1, ?_⟩; exact exF (by omega) (by (first | rfl | (simp [hs]; repeat (first | rfl | (apply And.intro))) | (simp [hs]; done))) (by (first | rfl | (simp [hs]; repeat (first | rfl | (apply And.intro))) | (simp [hs]; done))))
          · have hch : canHold p k = true := by simp [canHold, hd]
            rw [hch] at hs
            repeat (first
              | (refine Fr.i ?_; simp only [pput, List.set_cons_zero, List.set_cons_succ]; try rfl)
              | (refine By.i ?_; simp (disch := first | omega | (simp; done) | (simp; omega)) [wrap_i64, wrap_u64, q1, h3, h4, hdec, hd, entry, gf1, gf2]; first | done | rfl | exact ⟨rfl, rfl⟩)
              | (refine Wt.i ?_; first | rfl | (simp [q1, h3, h4, hdec, hd, entry, gf1, gf2]; done))
              | (refine Ns.i ?_; (try simp only [List.append_nil, List.nil_append, List.cons_append, List.append_assoc, List.length_append, List.length_cons, List.length_nil, Nat.zero_add, Nat.reduceAdd]); rfl) | rfl
              | (apply SL.pass; (focus (refine Wt.i ?_; rfl))) | apply SL.move | apply SL.assign | apply SL.load | apply SL.binOp | apply SL.append | apply SL.builtin | apply SL.fieldAddr | apply SL.indexAddr | apply SL.field
              | apply SL.extract | apply SL.fcall | apply SL.pick | apply SL.store | apply SL.unOp | apply SL.convert | apply SL.index | apply SL.slice | apply SL.build | apply SL.nilCheck | apply SL.buildSlice | apply SL.box | apply SL.alloc
              | apply SL.makeFunc | apply SQ.nil | (apply WL.reg; (focus decide +kernel)) | (apply WL.drawP (by assumption); (focus decide +kernel); (focus decide +kernel)) | (apply WL.drawF; (focus decide +kernel); (focus decide +kernel))
              | (apply WL.reg1; (focus decide +kernel)) | (apply WL.drawP1 (by assumption); (focus decide +kernel); (focus decide +kernel)) | (apply WL.drawF1; (focus decide +kernel); (focus decide +kernel)) | apply WL.skip
              | (apply WL.ct; (focus rfl)) | (apply WL.cf; (focus rfl)) | refine SeqQ.normal ?_ | refine SeqQ.ret ?_ | refine SeqQ.exit ?_ | refine BlockQ.normal ?_ | refine BlockQ.ret ?_ | refine BlockQ.here ?_
              | refine BlockQ.there (by decide) ?_ | refine Wp.block ?_ | refine Wp.skip ?_ | refine Wp.ret ?_ | refine Wp.exit ?_ | refine LoopI.ret ?_ | refine LoopI.exit ?_ | refine LoopQ.normal ?_ | refine LoopQ.ret ?_
              | refine LoopQ.exit ?_ | refine Wp.seq (Wp.seq ?_) | refine Wp.seq (Wp.block ?_) | (refine Wp.seq ?_; apply WL.ct; (focus rfl)) | (refine Wp.seq ?_; apply WL.cf; (focus rfl)))
            refine LoopI.normal (m - 1) (by omega) (by refine ⟨k + 1, ?_⟩; exact exF (by omega) (by (first | rfl | (simp [hs]; repeat (first | rfl | (apply And.intro))) | (simp [hs]; done))) (by (first | rfl | (simp [hs]; repeat (first | rfl | (apply And.intro))) | (simp [hs]; done))))
        · have q1 : ¬ (k : Int) < (N : Int) := by omega
          have hkN : k = N := by omega
          subst hkN
          repeat (first
            | (refine Fr.i ?_; simp only [pput, List.set_cons_zero, List.set_cons_succ]; try rfl) | (refine By.i ?_; simp (disch := first | omega | (simp; done) | (simp; omega)) [wrap_i64, wrap_u64, q1]; first | done | rfl | exact ⟨rfl, rfl⟩)
            | (refine Wt.i ?_; first | rfl | (simp [q1]; done))
            | (refine Ns.i ?_; (try simp only [List.append_nil, List.nil_append, List.cons_append, List.append_assoc, List.length_append, List.length_cons, List.length_nil, Nat.zero_add, Nat.reduceAdd]); rfl) | rfl
            | (apply SL.pass; (focus (refine Wt.i ?_; rfl))) | apply SL.move | apply SL.assign | apply SL.load | apply SL.binOp | apply SL.append | apply SL.builtin | apply SL.fieldAddr | apply SL.indexAddr | apply SL.field | apply SL.extract
            | apply SL.fcall | apply SL.pick | apply SL.store | apply SL.unOp | apply SL.convert | apply SL.index | apply SL.slice | apply SL.build | apply SL.nilCheck | apply SL.buildSlice | apply SL.box | apply SL.alloc | apply SL.makeFunc
            | apply SQ.nil | (apply WL.reg; (focus decide +kernel)) | (apply WL.drawP (by assumption); (focus decide +kernel); (focus decide +kernel)) | (apply WL.drawF; (focus decide +kernel); (focus decide +kernel))
            | (apply WL.reg1; (focus decide +kernel)) | (apply WL.drawP1 (by assumption); (focus decide +kernel); (focus decide +kernel)) | (apply WL.drawF1; (focus decide +kernel); (focus decide +kernel)) | apply WL.skip
            | (apply WL.ct; (focus rfl)) | (apply WL.cf; (focus rfl)) | refine SeqQ.normal ?_ | refine SeqQ.ret ?_ | refine SeqQ.exit ?_ | refine BlockQ.normal ?_ | refine BlockQ.ret ?_ | refine BlockQ.here ?_
            | refine BlockQ.there (by decide) ?_ | refine Wp.block ?_ | refine Wp.skip ?_ | refine Wp.ret ?_ | refine Wp.exit ?_ | refine LoopI.ret ?_ | refine LoopI.exit ?_ | refine LoopQ.normal ?_ | refine LoopQ.ret ?_ | refine LoopQ.exit ?_
            | refine Wp.seq (Wp.seq ?_) | refine Wp.seq (Wp.block ?_) | (refine Wp.seq ?_; apply WL.ct; (focus rfl)) | (refine Wp.seq ?_; apply WL.cf; (focus rfl)))
          simp (disch := first | omega | (simp; done) | (simp; omega)) [decide_eq_decide] <;> try rfl
    · repeat (first
        | (refine Fr.i ?_; simp only [pput, List.set_cons_zero, List.set_cons_succ]; try rfl)
        | (refine By.i ?_; simp (disch := first | omega | (simp; done) | (simp; omega)) [wrap_i64, wrap_u64, h, hc, h1, h2, entry, gf1]; first | done | rfl | exact ⟨rfl, rfl⟩)
        | (refine Wt.i ?_; first | rfl | (simp [h, hc, h1, h2, entry, gf1]; done))
        | (refine Ns.i ?_; (try simp only [List.append_nil, List.nil_append, List.cons_append, List.append_assoc, List.length_append, List.length_cons, List.length_nil, Nat.zero_add, Nat.reduceAdd]); rfl) | rfl
        | (apply SL.pass; (focus (refine Wt.i ?_; rfl))) | apply SL.move | apply SL.assign | apply SL.load | apply SL.binOp | apply SL.append | apply SL.builtin | apply SL.fieldAddr | apply SL.indexAddr | apply SL.field | apply SL.extract
        | apply SL.fcall | apply SL.pick | apply SL.store | apply SL.unOp | apply SL.convert | apply SL.index | apply SL.slice | apply SL.build | apply SL.nilCheck | apply SL.buildSlice | apply SL.box | apply SL.alloc | apply SL.makeFunc
        | apply SQ.nil | (apply WL.reg; (focus decide +kernel)) | (apply WL.drawP (by assumption); (focus decide +kernel); (focus decide +kernel)) | (apply WL.drawF; (focus decide +kernel); (focus decide +kernel))
        | (apply WL.reg1; (focus decide +kernel)) | (apply WL.drawP1 (by assumption); (focus decide +kernel); (focus decide +kernel)) | (apply WL.drawF1; (focus decide +kernel); (focus decide +kernel)) | apply WL.skip
        | (apply WL.ct; (focus rfl)) | (apply WL.cf; (focus rfl)) | refine SeqQ.normal ?_ | refine SeqQ.ret ?_ | refine SeqQ.exit ?_ | refine BlockQ.normal ?_ | refine BlockQ.ret ?_ | refine BlockQ.here ?_ | refine BlockQ.there (by decide) ?_
        | refine Wp.block ?_ | refine Wp.skip ?_ | refine Wp.ret ?_ | refine Wp.exit ?_ | refine LoopI.ret ?_ | refine LoopI.exit ?_ | refine LoopQ.normal ?_ | refine LoopQ.ret ?_ | refine LoopQ.exit ?_ | refine Wp.seq (Wp.seq ?_)
        | refine Wp.seq (Wp.block ?_) | (refine Wp.seq ?_; apply WL.ct; (focus rfl)) | (refine Wp.seq ?_; apply WL.cf; (focus rfl)))
      simp (disch := first | omega | (simp; done) | (simp; omega)) [decide_eq_decide, countF, h, hc] <;> try rfl
  · repeat (first
      | (refine Fr.i ?_; simp only [pput, List.set_cons_zero, List.set_cons_succ]; try rfl)
      | (refine By.i ?_; simp (disch := first | omega | (simp; done) | (simp; omega)) [wrap_i64, wrap_u64, h, h1, entry, gf1]; first | done | rfl | exact ⟨rfl, rfl⟩) | (refine Wt.i ?_; first | rfl | (simp [h, h1, entry, gf1]; done))
      | (refine Ns.i ?_; (try simp only [List.append_nil, List.nil_append, List.cons_append, List.append_assoc, List.length_append, List.length_cons, List.length_nil, Nat.zero_add, Nat.reduceAdd]); rfl) | rfl
      | (apply SL.pass; (focus (refine Wt.i ?_; rfl))) | apply SL.move | apply SL.assign | apply SL.load | apply SL.binOp | apply SL.append | apply SL.builtin | apply SL.fieldAddr | apply SL.indexAddr | apply SL.field | apply SL.extract
      | apply SL.fcall | apply SL.pick | apply SL.store | apply SL.unOp | apply SL.convert | apply SL.index | apply SL.slice | apply SL.build | apply SL.nilCheck | apply SL.buildSlice | apply SL.box | apply SL.alloc | apply SL.makeFunc
      | apply SQ.nil | (apply WL.reg; (focus decide +kernel)) | (apply WL.drawP (by assumption); (focus decide +kernel); (focus decide +kernel)) | (apply WL.drawF; (focus decide +kernel); (focus decide +kernel))
      | (apply WL.reg1; (focus decide +kernel)) | (apply WL.drawP1 (by assumption); (focus decide +kernel); (focus decide +kernel)) | (apply WL.drawF1; (focus decide +kernel); (focus decide +kernel)) | apply WL.skip
      | (apply WL.ct; (focus rfl)) | (apply WL.cf; (focus rfl)) | refine SeqQ.normal ?_ | refine SeqQ.ret ?_ | refine SeqQ.exit ?_ | refine BlockQ.normal ?_ | refine BlockQ.ret ?_ | refine BlockQ.here ?_ | refine BlockQ.there (by decide) ?_
      | refine Wp.block ?_ | refine Wp.skip ?_ | refine Wp.ret ?_ | refine Wp.exit ?_ | refine LoopI.ret ?_ | refine LoopI.exit ?_ | refine LoopQ.normal ?_ | refine LoopQ.ret ?_ | refine LoopQ.exit ?_ | refine Wp.seq (Wp.seq ?_)
      | refine Wp.seq (Wp.block ?_) | (refine Wp.seq ?_; apply WL.ct; (focus rfl)) | (refine Wp.seq ?_; apply WL.cf; (focus rfl)))
    simp (disch := first | omega | (simp; done) | (simp; omega)) [decide_eq_decide, countF, h] <;> try rfl

end Go.Kz

/-
  SpanCounts, out of the walks: the run answers true.
-/
namespace Go.Kz
open Go Go.Proofs

variable {E : PExt} (hU : Uni E)
include hU
set_option maxRecDepth 10000
set_option maxHeartbeats 4000000

theorem r_SpanCounts (h0 : E 6 = none) (hk : E 12 = some (entry (gf0 .bool (some true)))) (hc : E 13 = some (entry (gf1 .player i64 fun p => some (errOf p))))
    (h1 : E 23 = some (entry (gf1 .compass i64 fun c => some (errC c)))) (h2 : E 24 = some (entry (gf2 .player .compass (i64.tup2 i64) fun p c => some (countF p c))))
    (h3 : E 15 = some (entry (gf2 .player i64s i64s fun p l => gif ((l.length : Int) < 900000) (some (divF p l))))) (p : Player) (c : Compass) :
    Run Tryd.prog E 6 [Em.player.emb p, Em.compass.emb c] (.bool true) := by
  apply Run.bodyL h0 Tryd.func6 rfl
  focus (simp [show Tryd.f6.ntmps = _ from rfl, List.replicate]; rfl)
  by_cases h : errOf p = 0
  · by_cases hcc : errC c = 0
    · obtain ⟨c1, c2, c3⟩ := errC_ok hcc
      by_cases h16 : 16 ≤ c.high - c.low
      · have hF : countF p c = (0, 4) := by unfold countF; rw [if_neg (by simp [h]), if_neg (by simp [hcc]), if_pos h16]
        repeat (first
          | (refine Fr.i ?_; simp only [pput, List.set_cons_zero, List.set_cons_succ]; try rfl)
          | (refine By.i ?_; simp (disch := first | omega | (simp; done) | (simp; omega)) [wrap_i64, wrap_u64, h, hk, hc, hcc, h16, h1, h2, hF, entry, gf0, gf1, gf2]; first | done | rfl | exact ⟨rfl, rfl⟩)
          | (refine Wt.i ?_; first | rfl | (simp [h, hk, hc, hcc, h16, h1, h2, hF, entry, gf0, gf1, gf2]; done))
          | (refine Ns.i ?_; (try simp only [List.append_nil, List.nil_append, List.cons_append, List.append_assoc, List.length_append, List.length_cons, List.length_nil, Nat.zero_add, Nat.reduceAdd]); rfl) | rfl
          | (apply SL.pass; (focus (refine Wt.i ?_; rfl))) | apply SL.move | apply SL.assign | apply SL.load | apply SL.binOp | apply SL.append | apply SL.builtin | apply SL.fieldAddr | apply SL.indexAddr | apply SL.field | apply SL.extract
          | apply SL.fcall | apply SL.pick | apply SL.store | apply SL.unOp | apply SL.convert | apply SL.index | apply SL.slice | apply SL.build | apply SL.nilCheck | apply SL.buildSlice | apply SL.box | apply SL.alloc | apply SL.makeFunc
          | apply SQ.nil | (apply WL.reg; (focus decide +kernel)) | (apply WL.drawP (by assumption); (focus decide +kernel); (focus decide +kernel)) | (apply WL.drawF; (focus decide +kernel); (focus decide +kernel))
          | (apply WL.reg1; (focus decide +kernel)) | (apply WL.drawP1 (by assumption); (focus decide +kernel); (focus decide +kernel)) | (apply WL.drawF1; (focus decide +kernel); (focus decide +kernel)) | apply WL.skip
          | (apply WL.ct; (focus rfl)) | (apply WL.cf; (focus rfl)) | refine SeqQ.normal ?_ | refine SeqQ.ret ?_ | refine SeqQ.exit ?_ | refine BlockQ.normal ?_ | refine BlockQ.ret ?_ | refine BlockQ.here ?_
          | refine BlockQ.there (by decide) ?_ | refine Wp.block ?_ | refine Wp.skip ?_ | refine Wp.ret ?_ | refine Wp.exit ?_ | refine LoopI.ret ?_ | refine LoopI.exit ?_ | refine LoopQ.normal ?_ | refine LoopQ.ret ?_ | refine LoopQ.exit ?_
          | refine Wp.seq (Wp.seq ?_) | refine Wp.seq (Wp.block ?_) | (refine Wp.seq ?_; apply WL.ct; (focus rfl)) | (refine Wp.seq ?_; apply WL.cf; (focus rfl)))
        simp (disch := first | omega | (simp; done) | (simp; omega)) [decide_eq_decide] <;> try rfl
      · obtain ⟨w, hw⟩ : ∃ w : Nat, c.high - c.low + 1 = w := ⟨(c.high - c.low + 1).toNat, by omega⟩
        obtain ⟨N, hN⟩ : ∃ N, N = 2 ^ w := ⟨_, rfl⟩
        have hF : countF p c = (((countTo p N : Nat) : Int), 0) := by
          unfold countF
          rw [if_neg (by simp [h]), if_neg (by simp [hcc]), if_neg h16, hw, hN]
          rfl
        have hle := countTo_le p N
        have hpos := countTo_pos h (n := N) (by rw [hN]; exact Nat.pow_pos (by omega))
        have hN16 : N ≤ 65536 := by rw [hN]; exact Nat.pow_le_pow_right (n := 2) (j := 16) (by omega) (by omega)
        obtain ⟨C, hC⟩ : ∃ C, C = countTo p N := ⟨_, rfl⟩
        rw [← hC] at hF hle hpos
        by_cases h8 : 8 ≤ c.high - c.low
        · have q1 : (1 : Int) ≤ (C : Int) := by omega
          have q2 : (C : Int) ≤ 65536 := by omega
          repeat (first
            | (refine Fr.i ?_; simp only [pput, List.set_cons_zero, List.set_cons_succ]; try rfl)
            | (refine By.i ?_; simp (disch := first | omega | (simp; done) | (simp; omega)) [wrap_i64, wrap_u64, h, hk, hc, hcc, h16, h8, h1, h2, hF, q1, q2, entry, gf0, gf1, gf2]; first | done | rfl | exact ⟨rfl, rfl⟩)
            | (refine Wt.i ?_; first | rfl | (simp [h, hk, hc, hcc, h16, h8, h1, h2, hF, q1, q2, entry, gf0, gf1, gf2]; done))
            | (refine Ns.i ?_; (try simp only [List.append_nil, List.nil_append, List.cons_append, List.append_assoc, List.length_append, List.length_cons, List.length_nil, Nat.zero_add, Nat.reduceAdd]); rfl) | rfl
            | (apply SL.pass; (focus (refine Wt.i ?_; rfl))) | apply SL.move | apply SL.assign | apply SL.load | apply SL.binOp | apply SL.append | apply SL.builtin | apply SL.fieldAddr | apply SL.indexAddr | apply SL.field | apply SL.extract
            | apply SL.fcall | apply SL.pick | apply SL.store | apply SL.unOp | apply SL.convert | apply SL.index | apply SL.slice | apply SL.build | apply SL.nilCheck | apply SL.buildSlice | apply SL.box | apply SL.alloc | apply SL.makeFunc
            | apply SQ.nil | (apply WL.reg; (focus decide +kernel)) | (apply WL.drawP (by assumption); (focus decide +kernel); (focus decide +kernel)) | (apply WL.drawF; (focus decide +kernel); (focus decide +kernel))
            | (apply WL.reg1; (focus decide +kernel)) | (apply WL.drawP1 (by assumption); (focus decide +kernel); (focus decide +kernel)) | (apply WL.drawF1; (focus decide +kernel); (focus decide +kernel)) | apply WL.skip
            | (apply WL.ct; (focus rfl)) | (apply WL.cf; (focus rfl)) | refine SeqQ.normal ?_ | refine SeqQ.ret ?_ | refine SeqQ.exit ?_ | refine BlockQ.normal ?_ | refine BlockQ.ret ?_ | refine BlockQ.here ?_
            | refine BlockQ.there (by decide) ?_ | refine Wp.block ?_ | refine Wp.skip ?_ | refine Wp.ret ?_ | refine Wp.exit ?_ | refine LoopI.ret ?_ | refine LoopI.exit ?_ | refine LoopQ.normal ?_ | refine LoopQ.ret ?_ | refine LoopQ.exit ?_
            | refine Wp.seq (Wp.seq ?_) | refine Wp.seq (Wp.block ?_) | (refine Wp.seq ?_; apply WL.ct; (focus rfl)) | (refine Wp.seq ?_; apply WL.cf; (focus rfl)))
          simp (disch := first | omega | (simp; done) | (simp; omega)) [decide_eq_decide] <;> try rfl
        · have hw8 : w ≤ 8 := by omega
          have hsh := shl_one_i64 (w := w) (by omega)
          rw [← hN] at hsh
          have hN8 : N ≤ 256 := by rw [hN]; exact Nat.pow_le_pow_right (n := 2) (j := 8) (by omega) hw8
          repeat (first
            | (refine Fr.i ?_; simp only [pput, List.set_cons_zero, List.set_cons_succ]; try rfl)
            | (refine By.i ?_; simp (disch := first | omega | (simp; done) | (simp; omega)) [wrap_i64, wrap_u64, h, hk, hc, hcc, h16, h8, h1, h2, hF, hw, hsh, entry, gf0, gf1, gf2]; first | done | rfl | exact ⟨rfl, rfl⟩)
            | (refine Wt.i ?_; first | rfl | (simp [h, hk, hc, hcc, h16, h8, h1, h2, hF, hw, hsh, entry, gf0, gf1, gf2]; done))
            | (refine Ns.i ?_; (try simp only [List.append_nil, List.nil_append, List.cons_append, List.append_assoc, List.length_append, List.length_cons, List.length_nil, Nat.zero_add, Nat.reduceAdd]); rfl) | rfl
            | (apply SL.pass; (focus (refine Wt.i ?_; rfl))) | apply SL.move | apply SL.assign | apply SL.load | apply SL.binOp | apply SL.append | apply SL.builtin | apply SL.fieldAddr | apply SL.indexAddr | apply SL.field | apply SL.extract
            | apply SL.fcall | apply SL.pick | apply SL.store | apply SL.unOp | apply SL.convert | apply SL.index | apply SL.slice | apply SL.build | apply SL.nilCheck | apply SL.buildSlice | apply SL.box | apply SL.alloc | apply SL.makeFunc
            | apply SQ.nil | (apply WL.reg; (focus decide +kernel)) | (apply WL.drawP (by assumption); (focus decide +kernel); (focus decide +kernel)) | (apply WL.drawF; (focus decide +kernel); (focus decide +kernel))
            | (apply WL.reg1; (focus decide +kernel)) | (apply WL.drawP1 (by assumption); (focus decide +kernel); (focus decide +kernel)) | (apply WL.drawF1; (focus decide +kernel); (focus decide +kernel)) | apply WL.skip
            | (apply WL.ct; (focus rfl)) | (apply WL.cf; (focus rfl)) | refine SeqQ.normal ?_ | refine SeqQ.ret ?_ | refine SeqQ.exit ?_ | refine BlockQ.normal ?_ | refine BlockQ.ret ?_ | refine BlockQ.here ?_
            | refine BlockQ.there (by decide) ?_ | refine Wp.block ?_ | refine Wp.skip ?_ | refine Wp.ret ?_ | refine Wp.exit ?_ | refine LoopI.ret ?_ | refine LoopI.exit ?_ | refine LoopQ.normal ?_ | refine LoopQ.ret ?_ | refine LoopQ.exit ?_
            | refine Wp.seq (Wp.seq ?_) | refine Wp.seq (Wp.block ?_) | (refine Wp.seq ?_; apply WL.ct; (focus rfl)) | (refine Wp.seq ?_; apply WL.cf; (focus rfl)))
          refine Wp.loopI (fun m fr σ => ∃ (k : Nat) (J : List SObj), ∃ gg : Nat → PD, (k + m = N) ∧ fr = Em.player.emb p :: Em.compass.emb c :: .ptr 0 0 :: .ptr 1 0 :: .bool false :: .int .i64 0 :: .int .i64 C :: .int .i64 0 :: .int .i64 (countTo p k) :: .int .i64 k :: gg 10 :: gg 11 :: gg 12 :: gg 13 :: gg 14 :: gg 15 :: gg 16 :: gg 17 :: gg 18 :: gg 19 :: gg 20 :: gg 21 :: gg 22 :: gg 23 :: gg 24 :: gg 25 :: gg 26 :: gg 27 :: gg 28 :: gg 29 :: gg 30 :: gg 31 :: gg 32 :: gg 33 :: gg 34 :: gg 35 :: gg 36 :: gg 37 :: gg 38 :: gg 39 :: gg 40 :: gg 41 :: gg 42 :: gg 43 :: gg 44 :: gg 45 :: gg 46 :: gg 47 :: gg 48 :: gg 49 :: gg 50 :: gg 51 :: gg 52 :: gg 53 :: gg 54 :: gg 55 :: gg 56 :: gg 57 :: gg 58 :: gg 59 :: gg 60 :: gg 61 :: gg 62 :: gg 63 :: gg 64 :: gg 65 :: gg 66 :: gg 67 :: gg 68 :: gg 69 :: gg 70 :: gg 71 :: gg 72 :: gg 73 :: gg 74 :: gg 75 :: gg 76 :: gg 77 :: gg 78 :: gg 79 :: gg 80 :: gg 81 :: gg 82 :: gg 83 :: gg 84 :: gg 85 :: gg 86 :: gg 87 :: gg 88 :: gg 89 :: gg 90 :: gg 91 :: gg 92 :: gg 93 :: gg 94 :: gg 95 :: gg 96 :: gg 97 :: gg 98 :: gg 99 :: gg 100 :: gg 101 :: gg 102 :: gg 103 :: gg 104 :: gg 105 :: gg 106 :: gg 107 :: gg 108 :: [] ∧ σ = .box (Em.player.emb p) :: .box (Em.compass.emb c) :: J) ?_ (N) (by refine ⟨0, [], ?_⟩; exact exF (by omega) (by (first | rfl | (simp []; repeat (first | rfl | (apply And.intro))) | (simp []; done))) (by (first | rfl | (simp []; repeat (first | rfl | (apply And.intro))) | (simp []; done))))
          rintro m fr σ ⟨k, J, gg, hI, rfl, rfl⟩
          by_cases hkN : k < N
          · have q1 : (k : Int) < (N : Int) := by omega
            have hkw : k < 2 ^ w := by rw [← hN]; exact hkN
            obtain ⟨M, hM⟩ : ∃ M, M = m := ⟨_, rfl⟩
            repeat (first
              | (refine Fr.i ?_; simp only [pput, List.set_cons_zero, List.set_cons_succ]; try rfl)
              | (refine By.i ?_; simp (disch := first | omega | (simp; done) | (simp; omega)) [wrap_i64, wrap_u64, q1, hw, hsh]; first | done | rfl | exact ⟨rfl, rfl⟩) | (refine Wt.i ?_; first | rfl | (simp [q1, hw, hsh]; done))
              | (refine Ns.i ?_; (try simp only [List.append_nil, List.nil_append, List.cons_append, List.append_assoc, List.length_append, List.length_cons, List.length_nil, Nat.zero_add, Nat.reduceAdd]); rfl) | rfl
              | (apply SL.pass; (focus (refine Wt.i ?_; rfl))) | apply SL.move | apply SL.assign | apply SL.load | apply SL.binOp | apply SL.append | apply SL.builtin | apply SL.fieldAddr | apply SL.indexAddr | apply SL.field
              | apply SL.extract | apply SL.fcall | apply SL.pick | apply SL.store | apply SL.unOp | apply SL.convert | apply SL.index | apply SL.slice | apply SL.build | apply SL.nilCheck | apply SL.buildSlice | apply SL.box | apply SL.alloc
              | apply SL.makeFunc | apply SQ.nil | (apply WL.reg; (focus decide +kernel)) | (apply WL.drawP (by assumption); (focus decide +kernel); (focus decide +kernel)) | (apply WL.drawF; (focus decide +kernel); (focus decide +kernel))
              | (apply WL.reg1; (focus decide +kernel)) | (apply WL.drawP1 (by assumption); (focus decide +kernel); (focus decide +kernel)) | (apply WL.drawF1; (focus decide +kernel); (focus decide +kernel)) | apply WL.skip
              | (apply WL.ct; (focus rfl)) | (apply WL.cf; (focus rfl)) | refine SeqQ.normal ?_ | refine SeqQ.ret ?_ | refine SeqQ.exit ?_ | refine BlockQ.normal ?_ | refine BlockQ.ret ?_ | refine BlockQ.here ?_
              | refine BlockQ.there (by decide) ?_ | refine Wp.block ?_ | refine Wp.skip ?_ | refine Wp.ret ?_ | refine Wp.exit ?_ | refine LoopI.ret ?_ | refine LoopI.exit ?_ | refine LoopQ.normal ?_ | refine LoopQ.ret ?_
              | refine LoopQ.exit ?_ | refine Wp.seq (Wp.seq ?_) | refine Wp.seq (Wp.block ?_) | (refine Wp.seq ?_; apply WL.ct; (focus rfl)) | (refine Wp.seq ?_; apply WL.cf; (focus rfl)))
            refine Wp.loopI (fun m fr σ => ∃ (i z : Nat) (q : List Int) (tok : Tok) (J2 : List SObj), ∃ gg : Nat → PD, (i + m = w ∧ q = lowL c.low k i ∧ (q = [] ∨ z = 1) ∧ RowAt ([.box (Em.player.emb p), .box (Em.compass.emb c)] ++ J2) tok 3 1 q.length) ∧ fr = Em.player.emb p :: Em.compass.emb c :: .ptr 0 0 :: .ptr 1 0 :: .bool false :: .int .i64 0 :: .int .i64 C :: .int .i64 0 :: .int .i64 (countTo p k) :: .int .i64 k :: .slice z (q.map i64.emb) tok :: .int .i64 i :: gg 12 :: gg 13 :: gg 14 :: gg 15 :: gg 16 :: gg 17 :: gg 18 :: gg 19 :: gg 20 :: gg 21 :: gg 22 :: gg 23 :: gg 24 :: gg 25 :: gg 26 :: gg 27 :: gg 28 :: gg 29 :: gg 30 :: gg 31 :: gg 32 :: gg 33 :: gg 34 :: gg 35 :: gg 36 :: gg 37 :: gg 38 :: gg 39 :: gg 40 :: gg 41 :: gg 42 :: gg 43 :: gg 44 :: gg 45 :: gg 46 :: gg 47 :: gg 48 :: gg 49 :: gg 50 :: gg 51 :: gg 52 :: gg 53 :: gg 54 :: gg 55 :: gg 56 :: gg 57 :: gg 58 :: gg 59 :: gg 60 :: gg 61 :: gg 62 :: gg 63 :: gg 64 :: gg 65 :: gg 66 :: gg 67 :: gg 68 :: gg 69 :: gg 70 :: gg 71 :: gg 72 :: gg 73 :: gg 74 :: gg 75 :: gg 76 :: gg 77 :: gg 78 :: gg 79 :: gg 80 :: gg 81 :: gg 82 :: gg 83 :: gg 84 :: gg 85 :: gg 86 :: gg 87 :: gg 88 :: gg 89 :: gg 90 :: gg 91 :: gg 92 :: gg 93 :: gg 94 :: gg 95 :: gg 96 :: gg 97 :: gg 98 :: gg 99 :: gg 100 :: gg 101 :: gg 102 :: gg 103 :: gg 104 :: gg 105 :: gg 106 :: gg 107 :: gg 108 :: [] ∧ σ = .box (Em.player.emb p) :: .box (Em.compass.emb c) :: J2) ?_ (w) (by refine ⟨0, 0, [], .full, J, ?_⟩; exact exF (⟨by omega, rfl, .inl rfl, .inl ⟨rfl, rfl⟩⟩) (by (first | rfl | (simp []; repeat (first | rfl | (apply And.intro))) | (simp []; done))) (by (first | rfl | (simp []; repeat (first | rfl | (apply And.intro))) | (simp []; done))))
            rintro m fr σ ⟨i, z, q, tok, J2, gg, hI, rfl, rfl⟩
            obtain ⟨hm2, hq, hz, hr⟩ := hI
            have hql : q.length ≤ i := by rw [hq]; exact lowL_len _ _ _
            by_cases hi : i < w
            · have q2 : (i : Int) ≤ c.high - c.low := by omega
              obtain ⟨d, hd⟩ : ∃ d, d = k / 2 ^ i := ⟨_, rfl⟩
              have hdk : d ≤ k := by rw [hd]; exact Nat.div_le_self _ _
              have hshr := shr_i64 (n := k) (i := i) (by omega) (by omega)
              rw [← hd] at hshr
              have htb : k.testBit i = decide (d % 2 = 1) := by rw [Nat.testBit_eq_decide_div_mod_eq, ← hd]
              have hls := lowL_succ c.low k i
              rw [← hq] at hls
              by_cases hb : d % 2 = 1
              · have hand : pbits .and .i64 (d : Int) 1 = some 1 := by rw [and_one_i64 (by omega), hb]; rfl
                rw [htb, hb] at hls
                simp only [decide_true, if_true] at hls
                obtain ⟨tok', J3, hap, hr', _⟩ := pappend_rowB (P := Tryd.prog) (B := [.box (Em.player.emb p), .box (Em.compass.emb c)]) (J := J2) (t := 30) (e := 3) (k := 1) (b := 8) (s := z) (xs := q.map i64.emb) (p := i64.emb (c.low + (i : Int))) (tk := .any) (tok := tok)
                  (by intro o ho; simp only [List.mem_cons, List.not_mem_nil, or_false] at ho; rcases ho with rfl | rfl <;> trivial) Tryd.underlying30 (by kernel_rfl) (by simpa using hz) (by rw [List.length_map]; exact hr) (by rw [List.length_map]; omega) (by rw [List.length_map]; omega)
                obtain ⟨X, hX⟩ : ∃ X, X = (q ++ [c.low + (i : Int)]).map i64.emb := ⟨_, rfl⟩
                rw [show q.map i64.emb ++ [i64.emb (c.low + (i : Int))] = X by rw [hX, List.map_append]; rfl] at hap
                simp only [emb_player, emb_compass, emb_int, List.cons_append, List.nil_append] at hap
                repeat (first
                  | (refine Fr.i ?_; simp only [pput, List.set_cons_zero, List.set_cons_succ]; try rfl)
                  | (refine By.i ?_; simp (disch := first | omega | (simp; done) | (simp; omega)) [wrap_i64, wrap_u64, q2, hshr, hand, hap]; first | done | rfl | exact ⟨rfl, rfl⟩)
                  | (refine Wt.i ?_; first | rfl | (simp [q2, hshr, hand, hap]; done))
                  | (refine Ns.i ?_; (try simp only [List.append_nil, List.nil_append, List.cons_append, List.append_assoc, List.length_append, List.length_cons, List.length_nil, Nat.zero_add, Nat.reduceAdd]); rfl) | rfl
                  | (apply SL.pass; (focus (refine Wt.i ?_; rfl))) | apply SL.move | apply SL.assign | apply SL.load | apply SL.binOp | apply SL.append | apply SL.builtin | apply SL.fieldAddr | apply SL.indexAddr | apply SL.field
                  | apply SL.extract | apply SL.fcall | apply SL.pick | apply SL.store | apply SL.unOp | apply SL.convert | apply SL.index | apply SL.slice | apply SL.build | apply SL.nilCheck | apply SL.buildSlice | apply SL.box
                  | apply SL.alloc | apply SL.makeFunc | apply SQ.nil | (apply WL.reg; (focus decide +kernel)) | (apply WL.drawP (by assumption); (focus decide +kernel); (focus decide +kernel))
                  | (apply WL.drawF; (focus decide +kernel); (focus decide +kernel)) | (apply WL.reg1; (focus decide +kernel)) | (apply WL.drawP1 (by assumption); (focus decide +kernel); (focus decide +kernel))
                  | (apply WL.drawF1; (focus decide +kernel); (focus decide +kernel)) | apply WL.skip | (apply WL.ct; (focus rfl)) | (apply WL.cf; (focus rfl)) | refine SeqQ.normal ?_ | refine SeqQ.ret ?_ | refine SeqQ.exit ?_
                  | refine BlockQ.normal ?_ | refine BlockQ.ret ?_ | refine BlockQ.here ?_ | refine BlockQ.there (by decide) ?_ | refine Wp.block ?_ | refine Wp.skip ?_ | refine Wp.ret ?_ | refine Wp.exit ?_ | refine LoopI.ret ?_
                  | refine LoopI.exit ?_ | refine LoopQ.normal ?_ | refine LoopQ.ret ?_ | refine LoopQ.exit ?_ | refine Wp.seq (Wp.seq ?_) | refine Wp.seq (Wp.block ?_) | (refine Wp.seq ?_; apply WL.ct; (focus rfl))
                  | (refine Wp.seq ?_; apply WL.cf; (focus rfl)))
                subst hX
                refine LoopI.normal (m - 1) (by omega) (by refine ⟨i + 1, 1, q ++ [c.low + (i : Int)], tok', J3, ?_⟩; exact exF (⟨by omega, hls.symm, .inr rfl, by simpa using hr'⟩) (by (first | rfl | (simp []; repeat (first | rfl | (apply And.intro))) | (simp []; done))) (by (first | rfl | (simp []; repeat (first | rfl | (apply And.intro))) | (simp []; done))))
              · have hb0 : d % 2 = 0 := by omega
                have hand : pbits .and .i64 (d : Int) 1 = some 0 := by rw [and_one_i64 (by omega), hb0]; rfl
                rw [htb, hb0] at hls
                simp only [Nat.zero_ne_one, decide_false, Bool.false_eq_true, if_false] at hls
                repeat (first
                  | (refine Fr.i ?_; simp only [pput, List.set_cons_zero, List.set_cons_succ]; try rfl)
                  | (refine By.i ?_; simp (disch := first | omega | (simp; done) | (simp; omega)) [wrap_i64, wrap_u64, q2, hshr, hand]; first | done | rfl | exact ⟨rfl, rfl⟩) | (refine Wt.i ?_; first | rfl | (simp [q2, hshr, hand]; done))
                  | (refine Ns.i ?_; (try simp only [List.append_nil, List.nil_append, List.cons_append, List.append_assoc, List.length_append, List.length_cons, List.length_nil, Nat.zero_add, Nat.reduceAdd]); rfl) | rfl
                  | (apply SL.pass; (focus (refine Wt.i ?_; rfl))) | apply SL.move | apply SL.assign | apply SL.load | apply SL.binOp | apply SL.append | apply SL.builtin | apply SL.fieldAddr | apply SL.indexAddr | apply SL.field
                  | apply SL.extract | apply SL.fcall | apply SL.pick | apply SL.store | apply SL.unOp | apply SL.convert | apply SL.index | apply SL.slice | apply SL.build | apply SL.nilCheck | apply SL.buildSlice | apply SL.box
                  | apply SL.alloc | apply SL.makeFunc | apply SQ.nil | (apply WL.reg; (focus decide +kernel)) | (apply WL.drawP (by assumption); (focus decide +kernel); (focus decide +kernel))
                  | (apply WL.drawF; (focus decide +kernel); (focus decide +kernel)) | (apply WL.reg1; (focus decide +kernel)) | (apply WL.drawP1 (by assumption); (focus decide +kernel); (focus decide +kernel))
                  | (apply WL.drawF1; (focus decide +kernel); (focus decide +kernel)) | apply WL.skip | (apply WL.ct; (focus rfl)) | (apply WL.cf; (focus rfl)) | refine SeqQ.normal ?_ | refine SeqQ.ret ?_ | refine SeqQ.exit ?_
                  | refine BlockQ.normal ?_ | refine BlockQ.ret ?_ | refine BlockQ.here ?_ | refine BlockQ.there (by decide) ?_ | refine Wp.block ?_ | refine Wp.skip ?_ | refine Wp.ret ?_ | refine Wp.exit ?_ | refine LoopI.ret ?_
                  | refine LoopI.exit ?_ | refine LoopQ.normal ?_ | refine LoopQ.ret ?_ | refine LoopQ.exit ?_ | refine Wp.seq (Wp.seq ?_) | refine Wp.seq (Wp.block ?_) | (refine Wp.seq ?_; apply WL.ct; (focus rfl))
                  | (refine Wp.seq ?_; apply WL.cf; (focus rfl)))
                refine LoopI.normal (m - 1) (by omega) (by refine ⟨i + 1, z, q, tok, J2, ?_⟩; exact exF (⟨by omega, hls.symm, hz, hr⟩) (by (first | rfl | (simp []; repeat (first | rfl | (apply And.intro))) | (simp []; done))) (by (first | rfl | (simp []; repeat (first | rfl | (apply And.intro))) | (simp []; done))))
            · have q2 : ¬ (i : Int) ≤ c.high - c.low := by omega
              have hiw : i = w := by omega
              subst hiw
              have hcl := divF_low h hkw (by omega) c.low
              rw [← hq] at hcl
              have hdec := dec_list (e := i64) (tok := tok) hz
              have q3 : (q.length : Int) < 900000 := by omega
              obtain ⟨dq, hdq⟩ : ∃ dq, divF p q = dq := ⟨_, rfl⟩
              rw [hdq] at hcl
              have hs := countTo_succ p k
              have hle2 := countTo_le p k
              by_cases hd0 : dq = []
              · have hch : canHold p k = false := by
                  cases hcan : canHold p k with
                  | false => rfl
                  | true => rw [hcan, hd0] at hcl; simp at hcl
                rw [hch] at hs
                simp only [Bool.false_eq_true, if_false] at hs
                repeat (first
                  | (refine Fr.i ?_; simp only [pput, List.set_cons_zero, List.set_cons_succ]; try rfl)
                  | (refine By.i ?_; simp (disch := first | omega | (simp; done) | (simp; omega)) [wrap_i64, wrap_u64, q2, h3, hdec, q3, hdq, hd0, entry, gf2]; first | done | rfl | exact ⟨rfl, rfl⟩)
                  | (refine Wt.i ?_; first | rfl | (simp [q2, h3, hdec, q3, hdq, hd0, entry, gf2]; done))
                  | (refine Ns.i ?_; (try simp only [List.append_nil, List.nil_append, List.cons_append, List.append_assoc, List.length_append, List.length_cons, List.length_nil, Nat.zero_add, Nat.reduceAdd]); rfl) | rfl
                  | (apply SL.pass; (focus (refine Wt.i ?_; rfl))) | apply SL.move | apply SL.assign | apply SL.load | apply SL.binOp | apply SL.append | apply SL.builtin | apply SL.fieldAddr | apply SL.indexAddr | apply SL.field
                  | apply SL.extract | apply SL.fcall | apply SL.pick | apply SL.store | apply SL.unOp | apply SL.convert | apply SL.index | apply SL.slice | apply SL.build | apply SL.nilCheck | apply SL.buildSlice | apply SL.box
                  | apply SL.alloc | apply SL.makeFunc | apply SQ.nil | (apply WL.reg; (focus decide +kernel)) | (apply WL.drawP (by assumption); (focus decide +kernel); (focus decide +kernel))
                  | (apply WL.drawF; (focus decide +kernel); (focus decide +kernel)) | (apply WL.reg1; (focus decide +kernel)) | (apply WL.drawP1 (by assumption); (focus decide +kernel); (focus decide +kernel))
                  | (apply WL.drawF1; (focus decide +kernel); (focus decide +kernel)) | apply WL.skip | (apply WL.ct; (focus rfl)) | (apply WL.cf; (focus rfl)) | refine SeqQ.normal ?_ | refine SeqQ.ret ?_ | refine SeqQ.exit ?_
                  | refine BlockQ.normal ?_ | refine BlockQ.ret ?_ | refine BlockQ.here ?_ | refine BlockQ.there (by decide) ?_ | refine Wp.block ?_ | refine Wp.skip ?_ | refine Wp.ret ?_ | refine Wp.exit ?_ | refine LoopI.ret ?_
                  | refine LoopI.exit ?_ | refine LoopQ.normal ?_ | refine LoopQ.ret ?_ | refine LoopQ.exit ?_ | refine Wp.seq (Wp.seq ?_) | refine Wp.seq (Wp.block ?_) | (refine Wp.seq ?_; apply WL.ct; (focus rfl))
                  | (refine Wp.seq ?_; apply WL.cf; (focus rfl)))
                rw [← hs]
                refine LoopI.normal (M - 1) (by omega) (by refine ⟨k + 1, J2, ?_⟩; exact exF (by omega) (by (first | rfl | (simp []; repeat (first | rfl | (apply And.intro))) | (simp []; done))) (by (first | rfl | (simp []; repeat (first | rfl | (apply And.intro))) | (simp []; done))))
              · have hp : 0 < dq.length := List.length_pos_iff.2 hd0
                have hch : canHold p k = true := hcl ▸ hp
                rw [hch] at hs
                simp only [if_true] at hs
                repeat (first
                  | (refine Fr.i ?_; simp only [pput, List.set_cons_zero, List.set_cons_succ]; try rfl)
                  | (refine By.i ?_; simp (disch := first | omega | (simp; done) | (simp; omega)) [wrap_i64, wrap_u64, q2, h3, hdec, q3, hdq, hd0, hp, entry, gf2]; first | done | rfl | exact ⟨rfl, rfl⟩)
                  | (refine Wt.i ?_; first | rfl | (simp [q2, h3, hdec, q3, hdq, hd0, hp, entry, gf2]; done))
                  | (refine Ns.i ?_; (try simp only [List.append_nil, List.nil_append, List.cons_append, List.append_assoc, List.length_append, List.length_cons, List.length_nil, Nat.zero_add, Nat.reduceAdd]); rfl) | rfl
                  | (apply SL.pass; (focus (refine Wt.i ?_; rfl))) | apply SL.move | apply SL.assign | apply SL.load | apply SL.binOp | apply SL.append | apply SL.builtin | apply SL.fieldAddr | apply SL.indexAddr | apply SL.field
                  | apply SL.extract | apply SL.fcall | apply SL.pick | apply SL.store | apply SL.unOp | apply SL.convert | apply SL.index | apply SL.slice | apply SL.build | apply SL.nilCheck | apply SL.buildSlice | apply SL.box
                  | apply SL.alloc | apply SL.makeFunc | apply SQ.nil | (apply WL.reg; (focus decide +kernel)) | (apply WL.drawP (by assumption); (focus decide +kernel); (focus decide +kernel))
                  | (apply WL.drawF; (focus decide +kernel); (focus decide +kernel)) | (apply WL.reg1; (focus decide +kernel)) | (apply WL.drawP1 (by assumption); (focus decide +kernel); (focus decide +kernel))
                  | (apply WL.drawF1; (focus decide +kernel); (focus decide +kernel)) | apply WL.skip | (apply WL.ct; (focus rfl)) | (apply WL.cf; (focus rfl)) | refine SeqQ.normal ?_ | refine SeqQ.ret ?_ | refine SeqQ.exit ?_
                  | refine BlockQ.normal ?_ | refine BlockQ.ret ?_ | refine BlockQ.here ?_ | refine BlockQ.there (by decide) ?_ | refine Wp.block ?_ | refine Wp.skip ?_ | refine Wp.ret ?_ | refine Wp.exit ?_ | refine LoopI.ret ?_
                  | refine LoopI.exit ?_ | refine LoopQ.normal ?_ | refine LoopQ.ret ?_ | refine LoopQ.exit ?_ | refine Wp.seq (Wp.seq ?_) | refine Wp.seq (Wp.block ?_) | (refine Wp.seq ?_; apply WL.ct; (focus rfl))
                  | (refine Wp.seq ?_; apply WL.cf; (focus rfl)))
                refine LoopI.normal (M - 1) (by omega) (by refine ⟨k + 1, J2, ?_⟩; exact exF (by omega) (by (first | rfl | (simp [hs]; repeat (first | rfl | (apply And.intro))) | (simp [hs]; done))) (by (first | rfl | (simp [hs]; repeat (first | rfl | (apply And.intro))) | (simp [hs]; done))))
          · have q1 : ¬ (k : Int) < (N : Int) := by omega
            have hkN2 : k = N := by omega
            subst hkN2
            repeat (first
              | (refine Fr.i ?_; simp only [pput, List.set_cons_zero, List.set_cons_succ]; try rfl)
              | (refine By.i ?_; simp (disch := first | omega | (simp; done) | (simp; omega)) [wrap_i64, wrap_u64, q1, hw, hsh]; first | done | rfl | exact ⟨rfl, rfl⟩) | (refine Wt.i ?_; first | rfl | (simp [q1, hw, hsh]; done))
              | (refine Ns.i ?_; (try simp only [List.append_nil, List.nil_append, List.cons_append, List.append_assoc, List.length_append, List.length_cons, List.length_nil, Nat.zero_add, Nat.reduceAdd]); rfl) | rfl
              | (apply SL.pass; (focus (refine Wt.i ?_; rfl))) | apply SL.move | apply SL.assign | apply SL.load | apply SL.binOp | apply SL.append | apply SL.builtin | apply SL.fieldAddr | apply SL.indexAddr | apply SL.field
              | apply SL.extract | apply SL.fcall | apply SL.pick | apply SL.store | apply SL.unOp | apply SL.convert | apply SL.index | apply SL.slice | apply SL.build | apply SL.nilCheck | apply SL.buildSlice | apply SL.box | apply SL.alloc
              | apply SL.makeFunc | apply SQ.nil | (apply WL.reg; (focus decide +kernel)) | (apply WL.drawP (by assumption); (focus decide +kernel); (focus decide +kernel)) | (apply WL.drawF; (focus decide +kernel); (focus decide +kernel))
              | (apply WL.reg1; (focus decide +kernel)) | (apply WL.drawP1 (by assumption); (focus decide +kernel); (focus decide +kernel)) | (apply WL.drawF1; (focus decide +kernel); (focus decide +kernel)) | apply WL.skip
              | (apply WL.ct; (focus rfl)) | (apply WL.cf; (focus rfl)) | refine SeqQ.normal ?_ | refine SeqQ.ret ?_ | refine SeqQ.exit ?_ | refine BlockQ.normal ?_ | refine BlockQ.ret ?_ | refine BlockQ.here ?_
              | refine BlockQ.there (by decide) ?_ | refine Wp.block ?_ | refine Wp.skip ?_ | refine Wp.ret ?_ | refine Wp.exit ?_ | refine LoopI.ret ?_ | refine LoopI.exit ?_ | refine LoopQ.normal ?_ | refine LoopQ.ret ?_
              | refine LoopQ.exit ?_ | refine Wp.seq (Wp.seq ?_) | refine Wp.seq (Wp.block ?_) | (refine Wp.seq ?_; apply WL.ct; (focus rfl)) | (refine Wp.seq ?_; apply WL.cf; (focus rfl)))
            simp (disch := first | omega | (simp; done) | (simp; omega)) [decide_eq_decide, hC] <;> try rfl
    · have hF : countF p c = (0, errC c) := by unfold countF; rw [if_neg (by simp [h]), if_pos hcc]
      repeat (first
        | (refine Fr.i ?_; simp only [pput, List.set_cons_zero, List.set_cons_succ]; try rfl)
        | (refine By.i ?_; simp (disch := first | omega | (simp; done) | (simp; omega)) [wrap_i64, wrap_u64, h, hk, hc, hcc, h1, h2, hF, entry, gf0, gf1, gf2]; first | done | rfl | exact ⟨rfl, rfl⟩)
        | (refine Wt.i ?_; first | rfl | (simp [h, hk, hc, hcc, h1, h2, hF, entry, gf0, gf1, gf2]; done))
        | (refine Ns.i ?_; (try simp only [List.append_nil, List.nil_append, List.cons_append, List.append_assoc, List.length_append, List.length_cons, List.length_nil, Nat.zero_add, Nat.reduceAdd]); rfl) | rfl
        | (apply SL.pass; (focus (refine Wt.i ?_; rfl))) | apply SL.move | apply SL.assign | apply SL.load | apply SL.binOp | apply SL.append | apply SL.builtin | apply SL.fieldAddr | apply SL.indexAddr | apply SL.field | apply SL.extract
        | apply SL.fcall | apply SL.pick | apply SL.store | apply SL.unOp | apply SL.convert | apply SL.index | apply SL.slice | apply SL.build | apply SL.nilCheck | apply SL.buildSlice | apply SL.box | apply SL.alloc | apply SL.makeFunc
        | apply SQ.nil | (apply WL.reg; (focus decide +kernel)) | (apply WL.drawP (by assumption); (focus decide +kernel); (focus decide +kernel)) | (apply WL.drawF; (focus decide +kernel); (focus decide +kernel))
        | (apply WL.reg1; (focus decide +kernel)) | (apply WL.drawP1 (by assumption); (focus decide +kernel); (focus decide +kernel)) | (apply WL.drawF1; (focus decide +kernel); (focus decide +kernel)) | apply WL.skip
        | (apply WL.ct; (focus rfl)) | (apply WL.cf; (focus rfl)) | refine SeqQ.normal ?_ | refine SeqQ.ret ?_ | refine SeqQ.exit ?_ | refine BlockQ.normal ?_ | refine BlockQ.ret ?_ | refine BlockQ.here ?_ | refine BlockQ.there (by decide) ?_
        | refine Wp.block ?_ | refine Wp.skip ?_ | refine Wp.ret ?_ | refine Wp.exit ?_ | refine LoopI.ret ?_ | refine LoopI.exit ?_ | refine LoopQ.normal ?_ | refine LoopQ.ret ?_ | refine LoopQ.exit ?_ | refine Wp.seq (Wp.seq ?_)
        | refine Wp.seq (Wp.block ?_) | (refine Wp.seq ?_; apply WL.ct; (focus rfl)) | (refine Wp.seq ?_; apply WL.cf; (focus rfl)))
      simp (disch := first | omega | (simp; done) | (simp; omega)) [decide_eq_decide] <;> try rfl
  · repeat (first
      | (refine Fr.i ?_; simp only [pput, List.set_cons_zero, List.set_cons_succ]; try rfl)
      | (refine By.i ?_; simp (disch := first | omega | (simp; done) | (simp; omega)) [wrap_i64, wrap_u64, h, hk, hc, entry, gf0, gf1]; first | done | rfl | exact ⟨rfl, rfl⟩)
      | (refine Wt.i ?_; first | rfl | (simp [h, hk, hc, entry, gf0, gf1]; done))
      | (refine Ns.i ?_; (try simp only [List.append_nil, List.nil_append, List.cons_append, List.append_assoc, List.length_append, List.length_cons, List.length_nil, Nat.zero_add, Nat.reduceAdd]); rfl) | rfl
      | (apply SL.pass; (focus (refine Wt.i ?_; rfl))) | apply SL.move | apply SL.assign | apply SL.load | apply SL.binOp | apply SL.append | apply SL.builtin | apply SL.fieldAddr | apply SL.indexAddr | apply SL.field | apply SL.extract
      | apply SL.fcall | apply SL.pick | apply SL.store | apply SL.unOp | apply SL.convert | apply SL.index | apply SL.slice | apply SL.build | apply SL.nilCheck | apply SL.buildSlice | apply SL.box | apply SL.alloc | apply SL.makeFunc
      | apply SQ.nil | (apply WL.reg; (focus decide +kernel)) | (apply WL.drawP (by assumption); (focus decide +kernel); (focus decide +kernel)) | (apply WL.drawF; (focus decide +kernel); (focus decide +kernel))
      | (apply WL.reg1; (focus decide +kernel)) | (apply WL.drawP1 (by assumption); (focus decide +kernel); (focus decide +kernel)) | (apply WL.drawF1; (focus decide +kernel); (focus decide +kernel)) | apply WL.skip
      | (apply WL.ct; (focus rfl)) | (apply WL.cf; (focus rfl)) | refine SeqQ.normal ?_ | refine SeqQ.ret ?_ | refine SeqQ.exit ?_ | refine BlockQ.normal ?_ | refine BlockQ.ret ?_ | refine BlockQ.here ?_ | refine BlockQ.there (by decide) ?_
      | refine Wp.block ?_ | refine Wp.skip ?_ | refine Wp.ret ?_ | refine Wp.exit ?_ | refine LoopI.ret ?_ | refine LoopI.exit ?_ | refine LoopQ.normal ?_ | refine LoopQ.ret ?_ | refine LoopQ.exit ?_ | refine Wp.seq (Wp.seq ?_)
      | refine Wp.seq (Wp.block ?_) | (refine Wp.seq ?_; apply WL.ct; (focus rfl)) | (refine Wp.seq ?_; apply WL.cf; (focus rfl)))
    simp (disch := first | omega | (simp; done) | (simp; omega)) [decide_eq_decide] <;> try rfl

end Go.Kz

/-
  The table, with Count.
-/
namespace Go.Kz
open Go Go.Proofs
set_option maxRecDepth 10000

noncomputable def Ec1 : PExt := E11.add 23 (entry (gf1 .compass i64 fun c => some (errC c)))
theorem Ec1_uni : Uni Ec1 := E11_uni.entry
theorem Ec1_ok : ExtOk Tryd.prog Ec1 := E11_ok.add1 follows (fun x z hz => by simp only [Option.some.injEq] at hz; subst hz; exact r_Right E11_uni rfl x)
noncomputable def Ec2 : PExt := Ec1.add 34 (entry (gf1 .compass i64 fun c => some (errC c)))
theorem Ec2_uni : Uni Ec2 := Ec1_uni.entry
theorem Ec2_ok : ExtOk Tryd.prog Ec2 := Ec1_ok.add1 follows (fun x z hz => by simp only [Option.some.injEq] at hz; subst hz; exact r_CheckCompass Ec1_uni rfl x)
noncomputable def Ec3 : PExt := Ec2.add 15 (entry (gf2 .player i64s i64s fun p l => gif ((l.length : Int) < 900000) (some (divF p l))))
theorem Ec3_uni : Uni Ec3 := Ec2_uni.entry
theorem Ec3_ok : ExtOk Tryd.prog Ec3 := Ec2_ok.add2 follows (fun x y z hz => by obtain ⟨hg, hz⟩ := gif_some hz; simp only [Option.some.injEq] at hz; subst hz; exact r_divisions Ec2_uni rfl rfl x y hg)
noncomputable def Ec4 : PExt := Ec3.add 39 gDiv
theorem Ec4_uni : Uni Ec4 := Ec3_uni.other (fun args p h => by unfold gDiv at h; split at h <;> simp at h)
theorem Ec4_ok : ExtOk Tryd.prog Ec4 := Ec3_ok.add follows (fun fl args σ p σ1 h => ev_div Ec3_uni rfl fl args σ p σ1 h)
noncomputable def Ec5 : PExt := Ec4.add 42 (entry (gf2 .player i64s .bool fun p l => gif ((l.length : Int) < 900000) (some (decide (divs1 p l ≠ [])))))
theorem Ec5_uni : Uni Ec5 := Ec4_uni.entry
theorem Ec5_ok : ExtOk Tryd.prog Ec5 := Ec4_ok.add2 follows (fun x y z hz => by obtain ⟨hg, hz⟩ := gif_some hz; simp only [Option.some.injEq] at hz; subst hz; exact r_two Ec4_uni rfl rfl rfl rfl x y hg)
noncomputable def Ec6 : PExt := Ec5.add 24 (entry (gf2 .player .compass (i64.tup2 i64) fun p c => some (countF p c)))
theorem Ec6_uni : Uni Ec6 := Ec5_uni.entry
theorem Ec6_ok : ExtOk Tryd.prog Ec6 := Ec5_ok.add2 follows (fun x y z hz => by simp only [Option.some.injEq] at hz; subst hz; exact r_Count Ec5_uni rfl rfl rfl rfl rfl x y)

end Go.Kz

/-
  SpanCounts holds: the law answers true, whatever it is handed.
-/
namespace Go.Proofs.YtclleofcjnggaaaDoor
open Go Go.Kz Go.ChangeShapes Go.WideShapes Go.ChangeAt Go.WideMaps Go.WideElems Go.RowKit
set_option maxRecDepth 100000

theorem lifted_SpanCounts (os : Os) (started : os.Started) (H : Type) (enc : TypeId × Value → H) :
    ReturnsInHanded {} Tryd.checked os 6 .any (fun w args => (Rows.spanCountsSpec.pre enc Tryd.prog Tryd.f6 [] false w args ∧ laidMetH Tryd.prog laidL w) ∧ sizedMet enc Tryd.prog Tryd.f6 (OpenSpec.ofChange Rows.spanCountsSpec) false w args)
      (Rows.spanCountsSpec.post enc Tryd.prog Tryd.f6 false true false false) := by
  refine returnsInHanded_of_change_and (C := Tryd.checked) (X := fun w _ => laidMetH Tryd.prog laidL w) (fun _ _ _ hh h => h.of_heap hh) own started (by kernel_rfl) Tryd.func6
    (ChangeSpec.witness_shaped (enc := enc) (C := Tryd.checked) (os := os) (X := fun w _ => laidMetH Tryd.prog laidL w) false (World.doorLaid Tryd.prog 400 os) #[.agg #[.int .i64 0, .int .i64 0, .int .i64 0, .int .i64 0], .agg #[.int .i64 0, .int .i64 0]] 12 rfl (World.shaped_of_RefB (by kernel_rfl) (by kernel_rfl)) (by kernel_rfl) (by kernel_rfl) (by kernel_rfl) (door_met os _)) ?_
  intro W base args ds gs before hval hW _ _ hL _
  have hval : ∀ (j : Nat) t v, Tryd.f6.params[j]? = some t → args[j]? = some v → Value.okWide Tryd.prog W .any base t v := hval
  have hW' := hW
  obtain ⟨p, q, hA, _, _, _, _⟩ := hW
  have hA : DataW.TrodAll enc Tryd.prog W 0 (fun _ => true) true Tryd.f6.params.toList args.toList ds p := hA
  rw [Tryd.params6] at hA hval
  obtain ⟨v1, v2, d1, d2, p1, p2, rfl, _, _, h1, h2⟩ := trodAll_two hA
  obtain ⟨q1, t1, r1⟩ := arg_typed (n := 12) (t := 23) (v := v1) (by kernel_rfl) (hval 0 _ _ rfl rfl) h1
  obtain ⟨p1', e1⟩ := ty_player t1
  rw [e1] at r1
  obtain ⟨q2, t2, r2⟩ := arg_typed (n := 12) (t := 50) (v := v2) (by kernel_rfl) (hval 1 _ _ rfl rfl) h2
  obtain ⟨c1', e2, _⟩ := ty_compass' t2
  rw [e2] at r2
  have run := r_SpanCounts Ec6_uni rfl rfl rfl rfl rfl rfl p1' c1'
  refine (Run.calls Ec6_ok follows names run (glob hL) (vrs_cons r1 (vrs_cons r2 vrs_nil))).mono fun e' W' ⟨he, hb⟩ => ?_
  subst he
  exact ⟨_, rfl, law_post laidOut rfl hW' hb rfl Tryd.underlying4 (by kernel_rfl) (fun ds hg hd => by
    subst hg
    match ds, hd with
    | [d1, d2], _ => rfl)⟩

theorem spanCounts_holds : Rows.SpanCountsSaid :=
  OpenClaim.holds_of_wide 6 Tryd.f6 rfl rfl rfl rfl rfl rfl rfl ⟨rfl, rfl, rfl, rfl, rfl⟩ rfl rfl rfl rfl rfl (by kernel_rfl) Tryd.func6 (by kernel_rfl)
    (of_decide_eq_true (by kernel_rfl)) (by unfold Func.isWrapper; first | (rw [if_pos (by decide +kernel)]; kernel_rfl) | (rw [if_neg (by decide +kernel)]; exact ⟨rfl, rfl⟩))
    (fun os started H enc _ => lifted_SpanCounts os started H enc)

theorem spanCounts_card : Rows.SpanCountsCardSaid :=
  Claim7.holds_tied_plain_at .later [] [.data] true (true, "40abfb383b17e30e6d7cad2be2972cbafc1276e76edec2d6e229a2e74b8f3c14") false
    spanCounts_holds (fun _ h => by cases h) (by kernel_rfl) (fun _ h => by cases h) spanCounts_row_tie rfl ⟨rfl, rfl⟩ (by kernel_rfl) rfl
    (fun f fn hf hfn => by
      obtain rfl : f = 6 := Option.some.inj ((show Tryd.prog.funcNamed "bombarde/bombardelaw11.SpanCounts" = some 6 by kernel_rfl).symm.trans hf) |>.symm
      obtain rfl : fn = Tryd.f6 := (Option.some.inj (Tryd.func6.symm.trans hfn)).symm
      exact ⟨by kernel_rfl, fun j t ht => by
        rw [Tryd.params6] at ht
        have hm := Array.mem_of_getElem? ht
        have hall : (#[23, 50].all fun u => !Tryd.prog.wantsStandIn u) = true := by kernel_rfl
        have := Array.all_eq_true_iff_forall_mem.1 hall t hm
        exact (show Tryd.prog.wantsStandIn t = false by simpa using this)⟩)
    (by kernel_rfl)
end Go.Proofs.YtclleofcjnggaaaDoor
