/-
  Part PA of the way: an interpreter over pure data, its soundness, walks through functions.
-/
import Derived.Test.YtkmkgiaejlkjlaaGreatP4
import Derived.Test.YtkmkgiaejlkjlaaGreatP9
set_option linter.all false

/-
  Chapter 53: the sum.
-/
namespace Go.Kz
open Go Go.Proofs

abbrev i64 : Em Int := Em.int .i64
abbrev u8 : Em Int := Em.int .u8
abbrev u32 : Em Int := Em.int .u32
abbrev u8s : Em (List Int) := u8.list 1

/-- The two sums of some bytes, from others on. -/
def sumFrom : Int × Int → List Int → Int × Int
  | s, [] => s
  | s, c :: l => sumFrom (((s.1 + c) % 65521), ((s.2 + (s.1 + c) % 65521) % 65521)) l
def sumOf (l : List Int) : Int := (sumFrom (1, 0) l).2 * 65536 + (sumFrom (1, 0) l).1

theorem sumFrom_ok : ∀ (l : List Int) (s : Int × Int), (∀ c ∈ l, 0 ≤ c ∧ c ≤ 255) → (0 ≤ s.1 ∧ s.1 < 65521 ∧ 0 ≤ s.2 ∧ s.2 < 65521) → 0 ≤ (sumFrom s l).1 ∧ (sumFrom s l).1 < 65521 ∧ 0 ≤ (sumFrom s l).2 ∧ (sumFrom s l).2 < 65521
  | [], s, _, h => h
  | c :: l, s, hl, h => by
    have hc := hl c (by simp)
    refine sumFrom_ok l _ (fun d hd => hl d (by simp [hd])) ?_
    simp only
    omega
theorem sumFrom_snoc (l : List Int) : ∀ (s : Int × Int) (c : Int), sumFrom s (l ++ [c]) = (((sumFrom s l).1 + c) % 65521, ((sumFrom s l).2 + ((sumFrom s l).1 + c) % 65521) % 65521) := by
  induction l with
  | nil => intro s c; rfl
  | cons d l ih => intro s c; simp only [List.cons_append, sumFrom, ih]

theorem wrap_u32' (n : Int) (h0 : 0 ≤ n) (h1 : n < 4294967296) : IntKind.u32.wrap n = n := by
  unfold IntKind.wrap
  simp [IntKind.bits, IntKind.signed]
  omega
theorem join16 {x y : Int} (hx0 : 0 ≤ x) (hx1 : x < 65536) (hy0 : 0 ≤ y) (hy1 : y < 65536) : IntKind.u32.wrap (((BitVec.ofInt 32 (IntKind.u32.wrap (y * 2 ^ 16)) ||| BitVec.ofInt 32 x).toNat : Nat) : Int) = y * 65536 + x := by
  obtain ⟨a, rfl⟩ := Int.eq_ofNat_of_zero_le hx0
  obtain ⟨b, rfl⟩ := Int.eq_ofNat_of_zero_le hy0
  have ha : a < 2 ^ 16 := by omega
  rw [wrap_u32' ((b : Int) * 2 ^ 16) (by omega) (by omega)]
  have e1 : (BitVec.ofInt 32 ((b : Int) * 2 ^ 16)).toNat = b <<< 16 := by
    have : ((b : Int) * 2 ^ 16) = ((b * 2 ^ 16 : Nat) : Int) := by omega
    rw [this, BitVec.ofInt_natCast, BitVec.toNat_ofNat, Nat.shiftLeft_eq]
    omega
  have e2 : (BitVec.ofInt 32 (a : Int)).toNat = a := by
    rw [BitVec.ofInt_natCast, BitVec.toNat_ofNat]
    omega
  rw [BitVec.toNat_or, e1, e2, ← Nat.shiftLeft_add_eq_or_of_lt ha, Nat.shiftLeft_eq]
  rw [wrap_u32' _ (by omega) (by omega)]
  omega

variable {E : PExt} (hU : Uni E)
include hU
set_option maxHeartbeats 4000000
theorem r_Sum (h0 : E 7 = none) (l : List Int) (hl : ∀ c ∈ l, 0 ≤ c ∧ c ≤ 255) (hn : l.length < 100000) : Run Tryz.prog E 7 [u8s.emb l] (u32.emb (sumOf l)) := by
  apply Run.bodyL h0 Tryz.func7 rfl
  focus (simp [show Tryz.f7.ntmps = _ from rfl, List.replicate]; rfl)
  have gx := True.intro
  refine goA ?_
  clear gx
  refine Wp.loopI (fun m fr σ => ∃ (k : Nat) (x y : Int), ∃ gg : Nat → PD, (k + m = l.length ∧ (x, y) = sumFrom (1, 0) (l.take k)) ∧ fr = [u8s.emb l, gg 1, .int .u32 0, .int .u32 x, .int .u32 y, gg 5, gg 6, u8s.emb l, .int .i64 l.length, .int .i64 k, gg 10, gg 11, gg 12, gg 13, gg 14, gg 15, gg 16, gg 17, gg 18, gg 19, gg 20, gg 21, gg 22, gg 23, gg 24, gg 25, gg 26] ∧ σ = []) ?_ (l.length) (by refine ⟨0, 1, 0, ?_⟩; exact exF (⟨by omega, rfl⟩) (by (first | rfl | (simp []; repeat (first | rfl | (apply And.intro))) | (simp []; done))) (by (first | rfl | (simp []; repeat (first | rfl | (apply And.intro))) | (simp []; done))))
  rintro m fr σ ⟨k, x, y, gg, hI, rfl, rfl⟩
  obtain ⟨hm, hxy⟩ := hI
  have hb := sumFrom_ok (l.take k) (1, 0) (fun c hc => hl c (List.mem_of_mem_take hc)) (by simp)
  rw [← hxy] at hb
  obtain ⟨hx0, hx1, hy0, hy1⟩ := hb
  by_cases hk : k < l.length
  · have hk' : (k : Int) < l.length := by omega
    obtain ⟨c, hc⟩ : ∃ c, l[k] = c := ⟨_, rfl⟩
    obtain ⟨hc0, hc1⟩ := hl l[k] (List.getElem_mem hk)
    rw [hc] at hc0 hc1
    have hx0 : 0 ≤ x := hx0
    have hx1 : x < 65521 := hx1
    have hy0 : 0 ≤ y := hy0
    have hy1 : y < 65521 := hy1
    have wr : ∀ n : Int, 0 ≤ n → n < 4294967296 → IntKind.u32.wrap n = n := fun n h0 h1 => by
      unfold IntKind.wrap
      simp [IntKind.bits, IntKind.signed]
      omega
    have e1 := wr c hc0 (by omega)
    have e2 := wr (x + c) (by omega) (by omega)
    have e3 : (x + c).tmod 65521 = (x + c) % 65521 := Int.tmod_eq_emod_of_nonneg (by omega)
    obtain ⟨x', hx'⟩ : ∃ x', (x + c) % 65521 = x' := ⟨_, rfl⟩
    have hx'0 : 0 ≤ x' ∧ x' < 65521 := by omega
    have e4 := wr (y + x') (by omega) (by omega)
    have e5 : (y + x').tmod 65521 = (y + x') % 65521 := Int.tmod_eq_emod_of_nonneg (by omega)
    obtain ⟨y', hy'⟩ : ∃ y', (y + x') % 65521 = y' := ⟨_, rfl⟩
    rw [hx'] at e3
    rw [hy'] at e5
    have gx := And.intro @hk (And.intro @hk' (And.intro @hc (And.intro @e1 (And.intro @e2 (And.intro @e3 (And.intro @e4 (@e5)))))))
    refine goA ?_
    clear gx
    refine LoopI.normal (m - 1) (by omega) (by refine ⟨k + 1, x', y', ?_⟩; exact exF (⟨by omega, by rw [List.take_succ_eq_append_getElem hk, sumFrom_snoc, ← hxy, hc, hx', hy']⟩) (by (first | rfl | (simp [hk]; repeat (first | rfl | (apply And.intro))) | (simp [hk]; done))) (by (first | rfl | (simp [hk]; repeat (first | rfl | (apply And.intro))) | (simp [hk]; done))))
  · have hk' : ¬ (k : Int) < l.length := by omega
    have hxy' : (x, y) = sumFrom (1, 0) l := by rw [hxy, List.take_of_length_le (by omega)]
    have gx := @hk'
    refine goA ?_
    clear gx
    have hj := join16 hx0 (by have : x < 65521 := hx1; omega) hy0 (by have : y < 65521 := hy1; omega)
    have hs : sumOf l = y * 65536 + x := by unfold sumOf; rw [← hxy']
    exact ⟨_, _, rfl, by rw [hs, ← hj]; rfl⟩

theorem r_sum (h0 : E 8 = none) (l : List Int) (hl : ∀ c ∈ l, 0 ≤ c ∧ c ≤ 255) (hn : l.length < 100000) : Run Tryz.prog E 8 [u8s.emb l] (u32.emb (sumOf l)) := by
  apply Run.bodyL h0 Tryz.func8 rfl
  focus (simp [show Tryz.f8.ntmps = _ from rfl, List.replicate]; rfl)
  have gx := True.intro
  refine goA ?_
  clear gx
  refine Wp.loopI (fun m fr σ => ∃ (k : Nat) (x y : Int), ∃ gg : Nat → PD, (k + m = l.length ∧ (x, y) = sumFrom (1, 0) (l.take k)) ∧ fr = [u8s.emb l, gg 1, .int .u32 0, .int .i64 x, .int .i64 y, gg 5, gg 6, u8s.emb l, .int .i64 l.length, .int .i64 k, gg 10, gg 11, gg 12, gg 13, gg 14, gg 15, gg 16, gg 17, gg 18, gg 19, gg 20, gg 21, gg 22, gg 23, gg 24, gg 25, gg 26, gg 27, gg 28] ∧ σ = []) ?_ (l.length) (by refine ⟨0, 1, 0, ?_⟩; exact exF (⟨by omega, rfl⟩) (by (first | rfl | (simp []; repeat (first | rfl | (apply And.intro))) | (simp []; done))) (by (first | rfl | (simp []; repeat (first | rfl | (apply And.intro))) | (simp []; done))))
  rintro m fr σ ⟨k, x, y, gg, hI, rfl, rfl⟩
  obtain ⟨hm, hxy⟩ := hI
  have hb := sumFrom_ok (l.take k) (1, 0) (fun c hc => hl c (List.mem_of_mem_take hc)) (by simp)
  rw [← hxy] at hb
  obtain ⟨hx0, hx1, hy0, hy1⟩ := hb
  by_cases hk : k < l.length
  · have hk' : (k : Int) < l.length := by omega
    obtain ⟨c, hc⟩ : ∃ c, l[k] = c := ⟨_, rfl⟩
    obtain ⟨hc0, hc1⟩ := hl l[k] (List.getElem_mem hk)
    rw [hc] at hc0 hc1
    have hx0 : 0 ≤ x := hx0
    have hx1 : x < 65521 := hx1
    have hy0 : 0 ≤ y := hy0
    have hy1 : y < 65521 := hy1
    have e3 : (x + c).tmod 65521 = (x + c) % 65521 := Int.tmod_eq_emod_of_nonneg (by omega)
    obtain ⟨x', hx'⟩ : ∃ x', (x + c) % 65521 = x' := ⟨_, rfl⟩
    have hx'0 : 0 ≤ x' ∧ x' < 65521 := by omega
    have e5 : (y + x').tmod 65521 = (y + x') % 65521 := Int.tmod_eq_emod_of_nonneg (by omega)
    obtain ⟨y', hy'⟩ : ∃ y', (y + x') % 65521 = y' := ⟨_, rfl⟩
    have f1 : x + c < 9223372036854775808 := by omega
    have f2 : y + x' < 9223372036854775808 := by omega
    have f3 : 0 ≤ x + c := by omega
    have f4 : 0 ≤ y + x' := by omega
    rw [hx'] at e3
    rw [hy'] at e5
    have gx := And.intro @hk (And.intro @hk' (And.intro @hc (And.intro @e3 (@e5))))
    refine goA ?_
    clear gx
    refine LoopI.normal (m - 1) (by omega) (by refine ⟨k + 1, x', y', ?_⟩; exact exF (⟨by omega, by rw [List.take_succ_eq_append_getElem hk, sumFrom_snoc, ← hxy, hc, hx', hy']⟩) (by (first | rfl | (simp [hk]; repeat (first | rfl | (apply And.intro))) | (simp [hk]; done))) (by (first | rfl | (simp [hk]; repeat (first | rfl | (apply And.intro))) | (simp [hk]; done))))
  · have hk' : ¬ (k : Int) < l.length := by omega
    have hxy' : (x, y) = sumFrom (1, 0) l := by rw [hxy, List.take_of_length_le (by omega)]
    have hx1' : x < 65521 := hx1
    have hy1' : y < 65521 := hy1
    have e1 := wrap_u32' x hx0 (by omega)
    have e2 := wrap_u32' y hy0 (by omega)
    have e3 : IntKind.u32.wrap (y * 2 ^ 16) = y * 65536 := by rw [wrap_u32' _ (by omega) (by omega)]; omega
    have e4 := wrap_u32' (y * 65536 + x) (by omega) (by omega)
    have gx := @hk'
    refine goA ?_
    clear gx
    have hs : sumOf l = y * 65536 + x := by unfold sumOf; rw [← hxy']
    refine ⟨_, _, rfl, ?_⟩
    show PD.int .u32 (IntKind.u32.wrap (IntKind.u32.wrap (IntKind.u32.wrap y * 2 ^ 16) + IntKind.u32.wrap x)) = _
    rw [e1, e2, e3, e4, hs]
    rfl
end Go.Kz

/-
  Chapter 53: slices.Repeat.
-/
namespace Go.Kz
open Go Go.Proofs
abbrev u64 : Em Int := Em.int .u64
theorem wrap_u64' (n : Int) (h0 : 0 ≤ n) (h1 : n < 18446744073709551616) : IntKind.u64.wrap n = n := by
  unfold IntKind.wrap
  simp [IntKind.bits, IntKind.signed]
  omega
theorem and32 {n : Int} (h0 : 0 ≤ n) (h1 : n < 4294967296) : IntKind.u64.wrap (((BitVec.ofInt 64 n &&& BitVec.ofInt 64 4294967295).toNat : Nat) : Int) = n := by
  obtain ⟨a, rfl⟩ := Int.eq_ofNat_of_zero_le h0
  have e1 : (BitVec.ofInt 64 (a : Int)).toNat = a := by
    rw [BitVec.ofInt_natCast, BitVec.toNat_ofNat]
    omega
  have e2 : (BitVec.ofInt 64 4294967295).toNat = 2 ^ 32 - 1 := by decide
  rw [BitVec.toNat_and, e1, e2, Nat.and_two_pow_sub_one_eq_mod]
  rw [wrap_u64' _ (by omega) (by omega)]
  omega
variable {E : PExt} (hU : Uni E)
include hU
set_option maxHeartbeats 4000000
set_option maxRecDepth 100000
theorem r_Mul64 (h0 : E 49 = none) (a b : Int) (ha : 0 ≤ a ∧ a ≤ 200) (hb : 0 ≤ b ∧ b ≤ 60) : Run Tryz.prog E 49 [u64.emb a, u64.emb b] ((u64.tup2 u64).emb (0, a * b)) := by
  obtain ⟨ha0, ha1⟩ := ha
  obtain ⟨hb0, hb1⟩ := hb
  have fd : ∀ n : Int, 0 ≤ n → n < 4294967296 → n.fdiv (2 ^ min 32 IntKind.u64.bits) = 0 := fun n h0 h1 => by
    show n.fdiv 4294967296 = 0
    rw [Int.fdiv_eq_ediv_of_nonneg _ (by omega)]
    omega
  have hab0 : 0 ≤ a * b := Int.mul_nonneg ha0 hb0
  have hab1 : a * b ≤ 12000 := by
    have : a * b ≤ 200 * 60 := Int.mul_le_mul ha1 hb1 hb0 (by omega)
    omega
  have an : ∀ n : Int, 0 ≤ n → n < 4294967296 → IntKind.u64.wrap ((((n % 2 ^ IntKind.u64.bits).toNat &&& 4294967295 % 2 ^ IntKind.u64.bits) : Nat) : Int) = n := fun n h0 h1 => by
    have := and32 h0 h1
    simp only [BitVec.toNat_and, BitVec.toNat_ofInt] at this
    exact this
  have a1 := an a ha0 (by omega)
  have a2 := an b hb0 (by omega)
  have a3 := an 0 (by omega) (by omega)
  have z1 := fd a ha0 (by omega)
  have z2 := fd b hb0 (by omega)
  have z3 := fd (a * b) hab0 (by omega)
  have z4 := fd 0 (by omega) (by omega)
  have w1 := wrap_u64' (a * b) hab0 (by omega)
  have w2 := wrap_u64' 0 (by omega) (by omega)
  apply Run.bodyL h0 Tryz.func49 rfl
  focus (simp [show Tryz.f49.ntmps = _ from rfl, List.replicate]; rfl)
  have gx := And.intro @a1 (And.intro @a2 (And.intro @a3 (And.intro @z1 (And.intro @z2 (And.intro @z3 (And.intro @z4 (And.intro @w1 (@w2))))))))
  refine goA ?_
  clear gx
  exact ⟨_, _, rfl, rfl⟩
def mulOk (a b : Int) : Prop := (0 ≤ a ∧ a ≤ 200) ∧ 0 ≤ b ∧ b ≤ 60
theorem r_Mul (h0 : E 25 = none) (h1 : E 49 = some (entry (gf2 u64 u64 (u64.tup2 u64) fun a b => gif (mulOk a b) (some (0, a * b))))) (a b : Int) (hab : mulOk a b) : Run Tryz.prog E 25 [u64.emb a, u64.emb b] ((u64.tup2 u64).emb (0, a * b)) := by
  apply Run.bodyL h0 Tryz.func25 rfl
  focus (simp [show Tryz.f25.ntmps = _ from rfl, List.replicate]; rfl)
  have gx := And.intro @h1 (@hab)
  refine goA ?_
  clear gx
  exact ⟨_, _, rfl, rfl⟩

omit hU in
theorem elem_info' {P : Program} {e : Nat} {n b : Nat} (h : pelem P e = some (n, b)) : ∃ i, P.info? e = some i ∧ i.size = n ∧ i.bytes = b := by
  unfold pelem at h
  split at h
  · rename_i i hi
    split at h
    · split at h
      · simp only [Option.some.injEq, Prod.mk.injEq] at h
        exact ⟨i, hi, h.1, h.2⟩
      · cases h
    · cases h
  · cases h
omit hU in
theorem make_bytes (σ : List SObj) (n : Nat) (hn : n ≤ 2000000) : pmake Tryz.prog σ 22 5 n n = some (.sref σ.length 0 n 1, σ ++ [.box (.agg ((List.replicate n 0).map u8.emb))]) := by
  obtain ⟨i, hi, h0, hb⟩ := elem_info' (P := Tryz.prog) (e := 5) (n := 1) (b := 1) (by kernel_rfl)
  have h1 : psize Tryz.prog 5 = some 1 := by kernel_rfl
  have h2 : pzero Tryz.prog 5 = some (.int .u8 0) := by kernel_rfl
  have hz : pzeros (.int .u8 0) 1 n = (List.replicate n 0).map u8.emb := by
    refine List.ext_getElem? fun j => ?_
    by_cases hj : j < n
    · simp [pzeros, PD.cells, hj, List.getElem?_replicate, Nat.mod_one, Em.int]
    · rw [List.getElem?_eq_none (by rw [pzeros_len]; omega), List.getElem?_eq_none (by simp; omega)]
  unfold pmake
  simp only [hi, h1, h2, hb]
  rw [if_pos ⟨Nat.le_refl _, by decide, rfl, rfl, by simp only [maxLen]; omega, by omega⟩, if_neg (fun h => h.2 h.1), if_pos trivial, if_pos (by decide), hz]
omit hU in
theorem emb_flat : ∀ l : List Int, (l.map u8.emb).flatMap PD.cells = l.map u8.emb
  | [] => rfl
  | x :: l => by
    rw [List.map_cons, List.flatMap_cons, emb_flat l]
    rfl
omit hU in
theorem emb_plain (l : List Int) : (l.map u8.emb).all PD.plain = true := by
  rw [List.all_eq_true]
  intro x hx
  obtain ⟨n, _, rfl⟩ := List.mem_map.1 hx
  rfl
omit hU in
/-- Bytes are copied into a box of bytes. -/
theorem copy_bytes {cells xs : List Int} {x : PD} {sz : Nat} {ys : List PD} {off n : Nat} (hv : pcopySrc Tryz.prog [.box (.agg (cells.map u8.emb))] 22 x = some (sz, ys)) (hl : ys.length = xs.length) (hsz : ys.length = 0 ∨ sz = 1)
    (hf : (ys.take n).flatMap PD.cells = (xs.take n).map u8.emb) (hle : off + (xs.take n).length ≤ cells.length) :
    pcopy Tryz.prog 0 [.box (.agg (cells.map u8.emb))] 22 22 (.sref 0 off n 1) x = some (.int .i64 (Nat.min xs.length n), [.box (.agg ((cells.take off ++ xs.take n ++ cells.drop (off + (xs.take n).length)).map u8.emb))]) := by
  have hu : Tryz.prog.underlying 22 = some (.slice 5) := by kernel_rfl
  have h1 : psize Tryz.prog 5 = some 1 := by kernel_rfl
  have hset : (PD.agg (cells.map u8.emb)).setCells off ((xs.take n).map u8.emb) = some (.agg ((cells.take off ++ xs.take n ++ cells.drop (off + (xs.take n).length)).map u8.emb)) := by
    unfold PD.setCells
    simp only [List.length_map]
    rw [if_pos hle]
    simp [pfillAt]
  unfold pcopy
  rw [hu, hv]
  simp only [h1]
  rw [if_pos hsz, if_pos ⟨Nat.zero_le _, trivial, by rw [hf]; exact emb_plain _⟩]
  simp only [List.getElem?_cons_zero, hf, hset, hl]
  rfl
def isB (r : List Int) : Prop := ∀ c ∈ r, 0 ≤ c ∧ c ≤ 255
theorem r_Repeat' (h0 : E 6 = none) (h1 : E 25 = some (entry (gf2 u64 u64 (u64.tup2 u64) fun a b => gif (mulOk a b) (some (0, a * b))))) (l : List Int) (hl : isB l) (hn : l.length ≤ 200) (k : Int) (hk : 1 ≤ k ∧ k ≤ 60) :
    WpC Tryz.prog E 0 (.inl 6) [u8s.emb l, i64.emb k] [] (fun p σ => ∃ r : List Int, isB r ∧ r.length ≤ 12000 ∧ p = .sref 0 0 r.length 1 ∧ σ = [.box (.agg (r.map u8.emb))]) := by
  obtain ⟨hk0, hk1⟩ := hk
  have g0 : ¬ k < 0 := by omega
  have w1 := wrap_u64' (l.length : Int) (by omega) (by omega)
  have w2 := wrap_u64' k (by omega) (by omega)
  have hm : mulOk (l.length : Int) k := by unfold mulOk; omega
  have hp0 : 0 ≤ (l.length : Int) * k := Int.mul_nonneg (by omega) (by omega)
  have hp1 : (l.length : Int) * k ≤ 12000 := by
    have : (l.length : Int) * k ≤ 200 * 60 := Int.mul_le_mul (by omega) hk1 (by omega) (by omega)
    omega
  obtain ⟨N, hN⟩ := Int.eq_ofNat_of_zero_le hp0
  rw [hN] at hp1
  have g1 : ¬ (N : Int) > 9223372036854775807 := by omega
  have hmk := make_bytes [] N (by omega)
  simp only [List.length_nil, List.nil_append] at hmk
  have hszl : (l.map u8.emb).length = 0 ∨ sz 1 l = 1 := by
    by_cases h : l = []
    · exact .inl (by simp [h])
    · exact .inr (by simp [sz, h])
  have hcp := copy_bytes (cells := List.replicate N 0) (xs := l) (x := u8s.emb l) (off := 0) (n := N) rfl (by simp) hszl (by rw [← List.map_take]; exact emb_flat _) (by rw [List.length_take, List.length_replicate]; omega)
  obtain ⟨C, hC⟩ : ∃ C, (List.replicate N 0).take 0 ++ l.take N ++ (List.replicate N 0).drop (0 + (l.take N).length) = C := ⟨_, rfl⟩
  rw [hC] at hcp
  have hCB : isB C := by
    rw [← hC]
    intro c hc
    simp only [List.take_zero, List.nil_append, List.mem_append] at hc
    rcases hc with hc | hc
    · exact hl c (List.mem_of_mem_take hc)
    · have := (List.mem_replicate.1 (List.mem_of_mem_drop hc)).2
      omega
  have hCl : C.length = N := by
    rw [← hC]
    simp only [List.take_zero, List.nil_append, List.length_append, List.length_drop, List.length_take, List.length_replicate, Nat.zero_add]
    omega
  obtain ⟨n0, hn0⟩ : ∃ n0, Nat.min l.length N = n0 := ⟨_, rfl⟩
  rw [hn0] at hcp
  obtain ⟨B0, hB0⟩ : ∃ B0, (List.replicate N (0 : Int)).map u8.emb = B0 := ⟨_, rfl⟩
  obtain ⟨B1, hB1⟩ : ∃ B1, C.map u8.emb = B1 := ⟨_, rfl⟩
  rw [hB0] at hmk
  rw [hB0, hB1] at hcp
  have hcp : pcopy Tryz.prog 0 [.box (.agg B0)] 22 22 (.sref 0 0 N 1) (.slice (sz 1 l) (l.map u8.emb) .any) = some (.int .i64 n0, [.box (.agg B1)]) := hcp
  apply WpC.bodyL h0 Tryz.func6 rfl
  focus (simp [show Tryz.f6.ntmps = _ from rfl, List.replicate]; rfl)
  have gx := And.intro @h1 (And.intro @hm (And.intro @w1 (And.intro @w2 (And.intro @g0 (And.intro @g1 (And.intro @hN (And.intro @hmk (@hcp))))))))
  refine goA ?_
  clear gx
  have hn0' : n0 ≤ N := by rw [← hn0]; exact Nat.min_le_right _ _
  have hpos : 0 < n0 ∨ N = 0 := by
    rcases Nat.eq_zero_or_pos l.length with h | h
    · right
      rw [h] at hN
      simp only [Int.natCast_zero, Int.zero_mul] at hN
      omega
    · rcases Nat.eq_zero_or_pos N with h' | h'
      · exact .inr h'
      · left
        have h2 : n0 = l.length ∨ n0 = N := by
          rcases Nat.le_total l.length N with h3 | h3
          · exact .inl (by rw [← hn0]; exact Nat.min_eq_left h3)
          · exact .inr (by rw [← hn0]; exact Nat.min_eq_right h3)
        omega
  subst hB1
  refine Wp.loopI (fun m fr σ => ∃ (n : Nat) (c : List Int), ∃ gg : Nat → PD, (n + m = N ∧ (0 < n ∨ N = 0) ∧ isB c ∧ c.length = N) ∧ fr = [gg 0, gg 1, gg 2, gg 3, gg 4, gg 5, gg 6, .sref 0 0 N 1, .int .i64 n, gg 9, gg 10, gg 11, gg 12, gg 13, gg 14, gg 15, gg 16, gg 17, gg 18, gg 19, gg 20, gg 21, gg 22, gg 23, gg 24, gg 25, gg 26, gg 27, gg 28, gg 29, gg 30, gg 31, gg 32, gg 33, gg 34, gg 35, gg 36, gg 37, gg 38, gg 39, gg 40, gg 41, gg 42, gg 43, gg 44, gg 45, gg 46, gg 47] ∧ σ = [.box (.agg (c.map u8.emb))]) ?_ (N - n0) (by refine ⟨n0, C, ?_⟩; exact exF (⟨by omega, hpos, hCB, hCl⟩) (by (first | rfl | (simp []; repeat (first | rfl | (apply And.intro))) | (simp []; done))) (by (first | rfl | (simp []; repeat (first | rfl | (apply And.intro))) | (simp []; done))))
  rintro m fr σ ⟨n, c, gg, hI, rfl, rfl⟩
  obtain ⟨hm', hp, hcB, hcl⟩ := hI
  by_cases hlt : n < N
  · have hlt' : (n : Int) < N := by omega
    have hp' : 0 < n := by omega
    have hcp2 := copy_bytes (cells := c) (xs := c.take n) (x := .sref 0 0 n 1) (sz := 1) (ys := pchunks 1 n (c.map u8.emb)) (off := n) (n := N - n) (by
        show pview [.box (.agg (c.map u8.emb))] (.sref 0 0 n 1) = _
        simp only [pview, List.getElem?_cons_zero, PD.cells, List.length_map, List.drop_zero]
        rw [if_pos (by omega)]) (by rw [pchunks_len, List.length_take]; omega) (.inr rfl) (by
        have hs : ∀ x ∈ pchunks 1 n (c.map u8.emb), x.cells.length = 1 := pchunks_size 1 n _ (by rw [List.length_map]; omega)
        rw [flat_take _ _ hs, pchunks_flat 1 n _ (by rw [List.length_map]; omega), ← List.map_take, ← List.map_take, Nat.mul_one, Nat.mul_one]) (by rw [List.length_take, List.length_take]; omega)
    obtain ⟨c', hc'⟩ : ∃ c', c.take n ++ (c.take n).take (N - n) ++ c.drop (n + ((c.take n).take (N - n)).length) = c' := ⟨_, rfl⟩
    rw [hc'] at hcp2
    have hcB' : isB c' := by
      rw [← hc']
      intro x hx
      simp only [List.mem_append] at hx
      rcases hx with (hx | hx) | hx
      · exact hcB x (List.mem_of_mem_take hx)
      · exact hcB x (List.mem_of_mem_take (List.mem_of_mem_take hx))
      · exact hcB x (List.mem_of_mem_drop hx)
    have hcl' : c'.length = N := by
      rw [← hc']
      simp only [List.length_append, List.length_take, List.length_drop]
      omega
    have hmin : Nat.min (c.take n).length (N - n) = min n (N - n) := by rw [List.length_take, hcl]; show min (min n N) (N - n) = _; omega
    rw [hmin] at hcp2
    obtain ⟨d, hd⟩ : ∃ d, min n (N - n) = d := ⟨_, rfl⟩
    rw [hd] at hcp2
    have hd0 : 0 < d ∧ n + d ≤ N := by omega
    obtain ⟨Bc, hBc⟩ : ∃ Bc, c.map u8.emb = Bc := ⟨_, rfl⟩
    obtain ⟨Bc', hBc'⟩ : ∃ Bc', c'.map u8.emb = Bc' := ⟨_, rfl⟩
    rw [hBc, hBc'] at hcp2
    rw [hBc]
    have k1 : n ≤ N := by omega
    have k2 : n < N ∨ n = 0 := by omega
    have gx := And.intro @hlt (And.intro @hlt' (And.intro @hcp2 (And.intro @k1 (@k2))))
    refine goA ?_
    clear gx
    refine LoopI.normal (N - (n + d)) (by omega) (by refine ⟨n + d, c', ?_⟩; exact exF (⟨by omega, by omega, hcB', hcl'⟩) (by (first | rfl | (simp [hBc']; repeat (first | rfl | (apply And.intro))) | (simp [hBc']; done))) (by (first | rfl | (simp [hBc']; repeat (first | rfl | (apply And.intro))) | (simp [hBc']; done))))
  · have hlt' : ¬ (n : Int) < N := by omega
    have gx := @hlt'
    refine goA ?_
    clear gx
    exact ⟨_, _, rfl, c, hcB, by omega, by rw [hcl]; rfl, rfl⟩
end Go.Kz

/-
  Chapter 53: StoreSums walked.
-/
namespace Go.Kz
open Go Go.Proofs
set_option maxRecDepth 100000
set_option maxHeartbeats 4000000
def okR (l : List Int) (k : Int) : Prop := (isB l ∧ l.length ≤ 200) ∧ 1 ≤ k ∧ k ≤ 60
def okS (l : List Int) : Prop := isB l ∧ l.length < 100000
theorem thaw_emb (σ : List SObj) (r : List Int) : (r.map u8.emb).map (thaw σ 1) = r.map u8.emb := by
  rw [List.map_map]
  rfl
theorem emb_idfree : ∀ r : List Int, PD.idfreeL (r.map u8.emb) = true
  | [] => rfl
  | x :: r => by
    show (PD.idfree (.int .u8 x) && PD.idfreeL (r.map u8.emb)) = true
    rw [emb_idfree r]
    rfl
theorem emb_strip : ∀ r : List Int, (r.map u8.emb).map PD.strip = r.map u8.emb
  | [] => rfl
  | x :: r => by rw [List.map_cons, List.map_cons, emb_strip r]; rfl
section
variable {E : PExt} (hU : Uni E)
include hU
theorem r_Repeat (h0 : E 6 = none) (h1 : E 25 = some (entry (gf2 u64 u64 (u64.tup2 u64) fun a b => gif (mulOk a b) (some (0, a * b))))) (l : List Int) (k : Int) (hk : okR l k) :
    ∃ r : List Int, (isB r ∧ r.length ≤ 12000) ∧ RunT Tryz.prog E 6 [u8s.emb l, i64.emb k] (u8s.emb r) := by
  obtain ⟨p, σ', hEv, r, hB, hlen, rfl, rfl⟩ := (r_Repeat' hU h0 h1 l hk.1.1 hk.1.2 k hk.2).ex
  refine ⟨r, ⟨hB, hlen⟩, 2, _, _, hEv, ?_⟩
  have e : thaw [.box (.agg (r.map u8.emb))] 2 (.sref 0 0 r.length 1) = .slice 1 (r.map u8.emb) .any := by
    simp only [thaw, List.getElem?_cons_zero, PD.cells, List.length_map, List.drop_zero]
    rw [if_pos (by omega), thaw_emb]
    simp [pch]
    try exact List.take_of_length_le (by simp)
  rw [e]
  constructor
  · rw [PD.strip_slice, emb_strip]
    show _ = PD.slice (sz 1 r) (r.map u8.emb) .any
    cases r <;> simp [sz]
  · show (PD.idfreeL (r.map u8.emb) && true) = true
    rw [emb_idfree]
    rfl

theorem r_StoreSums (h0 : E 3 = none) (hk : E 5 = some (entry (gf0 Em.bool (some true)))) {rep : List Int → Int → List Int}
    (hR : E 6 = some (entry (gf2 u8s i64 u8s fun l k => gif (okR l k) (some (rep l k))))) (hrep : ∀ l k, okR l k → okS (rep l k)) (hS : E 7 = some (entry (gf1 u8s u32 fun l => gif (okS l) (some (sumOf l)))))
    (hs : E 8 = some (entry (gf1 u8s u32 fun l => gif (okS l) (some (sumOf l))))) (b : List Int) (hb : isB b) (t : Int) (ht : 0 ≤ t ∧ t ≤ 255) : Run Tryz.prog E 3 [u8s.emb b, u8.emb t] (Em.bool.emb true) := by
  obtain ⟨ht0, ht1⟩ := ht
  apply Run.bodyL h0 Tryz.func3 rfl
  focus (simp [show Tryz.f3.ntmps = _ from rfl, List.replicate]; rfl)
  by_cases hl : 200 < b.length
  · have hl' : (b.length : Int) > 200 := by omega
    have gx := And.intro @hk (And.intro @hl (@hl'))
    refine goA ?_
    clear gx
    exact ⟨_, _, rfl, rfl⟩
  · have hl' : ¬ (b.length : Int) > 200 := by omega
    obtain ⟨d, hd⟩ : ∃ d, t.tmod 60 = d := ⟨_, rfl⟩
    have hd' : t % 60 = d := by rw [← hd, Int.tmod_eq_emod_of_nonneg ht0]
    have hd0 : 0 ≤ d ∧ d ≤ 59 := by omega
    have w1 : IntKind.i64.wrap d = d := wrap_i64 (by omega) (by omega)
    have w2 : IntKind.i64.wrap (1 + d) = 1 + d := wrap_i64 (by omega) (by omega)
    have ho : okR b (1 + d) := ⟨⟨hb, by omega⟩, by omega⟩
    have hS' := hrep b (1 + d) ho
    have gx := And.intro @hk (And.intro @hl (And.intro @hl' (And.intro @hR (And.intro @hS (And.intro @hs (And.intro @hd (And.intro @w1 (And.intro @w2 (And.intro @ho (@hS'))))))))))
    refine goA ?_
    clear gx
    exact ⟨_, _, rfl, rfl⟩
end
end Go.Kz

/-
  Chapter 53: StoreFull walked.
-/
namespace Go.Kz
open Go Go.Proofs
set_option maxRecDepth 100000
set_option maxHeartbeats 4000000
section
variable {E : PExt} (hU : Uni E)
include hU
theorem r_StoreFull (h0 : E 4 = none) (hk : E 5 = some (entry (gf0 Em.bool (some true)))) {gT gN gR gE gV gUn gRe : Nat → List PD → List SObj → Option (PD × List SObj)} {rB : PD} {S0 : List SObj} {SM : Nat → List SObj}
    (hT : E 10 = some gT) (hT1 : ∀ fl σ, gT fl [.str [97]] σ = some (oA, σ)) (hN : E 9 = some gN) (hN1 : gN 0 [oA] [] = some (.tup [.ptr 3 0, .int .i64 0], S0))
    (hR : E 12 = some gR) (hR1 : ∀ fl σ, gR fl [.str [98]] σ = some (rB, σ)) (hE : E 11 = some gE) (hE1 : gE 0 [.ptr 3 0, rB] S0 = some (.int .i64 0, SM 0))
    (hV : E 13 = some gV) (hV1 : ∀ i, i ≤ 199 → gV 0 [.ptr 3 0] (SM i) = some (.int .i64 (1 + i), SM i))
    (hUn : E 14 = some gUn) (hUn1 : ∀ i, i < 199 → i % 2 = 0 → gUn 0 [.ptr 3 0] (SM i) = some (.int .i64 0, SM (i + 1))) (hRe : E 15 = some gRe) (hRe1 : ∀ i, i < 199 → i % 2 = 1 → gRe 0 [.ptr 3 0] (SM i) = some (.int .i64 0, SM (i + 1)))
    {gB gQ gC gY gO gA gK gG gOe : Nat → List PD → List SObj → Option (PD × List SObj)} {rC : PD} {J : List PD} {e : Int → List PD} {t1 t2 q : Nat} {X1 X2 X3 X4 X5 : List SObj} {X6 X7 X8 X9 X10 X11 X12 : Int → List SObj} {id : Int → Nat} {tk : Int → Nat} {ok : PD}
    (hB : E 16 = some gB) (hB1 : gB 0 [.ptr 3 0] (SM 199) = some (.slice 1 J (.own t1), X1)) (hUn2 : gUn 0 [.ptr 3 0] X1 = some (.int .i64 4, X1)) (hRe2 : gRe 0 [.ptr 3 0] X1 = some (.int .i64 4, X1))
    (hR2 : ∀ fl σ, gR fl [.str [99]] σ = some (rC, σ)) (hE2 : gE 0 [.ptr 3 0, rC] X1 = some (.int .i64 4, X2)) (hE3 : gE 0 [.ptr 3 0, (.agg [.int .i64 0, .int .i64 0, .int .i64 0, .str [], .str [], .str [], .int .i64 0, .int .i64 0, .int .i64 0, .slice 0 [] .full, .str [], .bool false, .int .i64 0, .int .i64 0, .slice 0 [] .full, .str [], .int .i64 0, .int .i64 0, .slice 0 [] .full, .str [], .int .i64 0, .int .i64 0, .int .i64 0, .bool false])] X2 = some (.int .i64 4, X3))
    (hB2 : gB 0 [.ptr 3 0] X3 = some (.slice 1 J (.own t2), X4)) (hQ : E 17 = some gQ) (hQ1 : gQ 0 [.slice 1 J (.own t2), .slice 1 J (.own t1)] X4 = some (.bool true, X4))
    (hC : E 19 = some gC) (hC1 : gC 0 [.slice 1 J (.own t1)] X4 = some (.slice 1 J (.own q), X5)) (hY : E 20 = some gY) (hY1 : ∀ k, k = 2 ∨ k = 3 → gY 0 [.int .i64 k, .slice 0 [] .full] X5 = some (.slice 1 (e k) (.own (tk k)), X6 k))
    (hap : ∀ k, k = 2 ∨ k = 3 → pappend Tryz.prog 0 (X6 k) 22 (.slice 1 J (.own q)) (.slice 1 (e k) .any) = some (.slice 1 (J ++ e k) (.own q), X7 k))
    (hO : E 18 = some gO) (hO1 : ∀ k, k = 2 ∨ k = 3 → gO 0 [.slice 1 (J ++ e k) (.own q)] (X7 k) = some (.tup [.ptr (id k) 0, .int .i64 2076, .int .i64 0], X8 k))
    (hmk : ∀ k, k = 2 ∨ k = 3 → pmake Tryz.prog (X8 k) 22 5 1048577 1048577 = some (.sref (X8 k).length 0 1048577 1, X9 k)) (hO2 : ∀ k, k = 2 ∨ k = 3 → gO 0 [.sref (X8 k).length 0 1048577 1] (X9 k) = some (.tup [.nilptr, .int .i64 0, .int .i64 4], X10 k))
    (hE4 : ∀ k, k = 2 ∨ k = 3 → gE 0 [.nilptr, (.agg [.int .i64 0, .int .i64 0, .int .i64 0, .str [], .str [], .str [], .int .i64 0, .int .i64 0, .int .i64 0, .slice 0 [] .full, .str [], .bool false, .int .i64 0, .int .i64 0, .slice 0 [] .full, .str [], .int .i64 0, .int .i64 0, .slice 0 [] .full, .str [], .int .i64 0, .int .i64 0, .int .i64 0, .bool false])] (X10 k) = some (.int .i64 1, X11 k)) (hA : E 21 = some gA) (hA1 : ∀ k, k = 2 ∨ k = 3 → gA 0 [.nilptr, .int .i64 0] (X11 k) = some (.tup [(.agg [.str [], .slice 0 [] .full, .slice 0 [] .full, .slice 0 [] .full]), .int .i64 1], X12 k))
    {X14 X15 : Int → List SObj} 
    (hV3 : ∀ k, k = 2 ∨ k = 3 → gV 0 [.ptr (id k) 0] (X12 k ++ [.box (.agg [.str [], .slice 0 [] .full, .slice 0 [] .full, .slice 0 [] .full])]) = some (.int .i64 200, X12 k ++ [.box (.agg [.str [], .slice 0 [] .full, .slice 0 [] .full, .slice 0 [] .full])])) (hUn3 : ∀ k, k = 2 ∨ k = 3 → gUn 0 [.nilptr] (X12 k ++ [.box (.agg [.str [], .slice 0 [] .full, .slice 0 [] .full, .slice 0 [] .full])]) = some (.int .i64 1, X12 k ++ [.box (.agg [.str [], .slice 0 [] .full, .slice 0 [] .full, .slice 0 [] .full])])) (hRe3 : ∀ k, k = 2 ∨ k = 3 → gRe 0 [.nilptr] (X12 k ++ [.box (.agg [.str [], .slice 0 [] .full, .slice 0 [] .full, .slice 0 [] .full])]) = some (.int .i64 1, X12 k ++ [.box (.agg [.str [], .slice 0 [] .full, .slice 0 [] .full, .slice 0 [] .full])]))
    (hV4 : ∀ k, k = 2 ∨ k = 3 → gV 0 [.nilptr] (X12 k ++ [.box (.agg [.str [], .slice 0 [] .full, .slice 0 [] .full, .slice 0 [] .full])]) = some (.int .i64 0, X12 k ++ [.box (.agg [.str [], .slice 0 [] .full, .slice 0 [] .full, .slice 0 [] .full])])) (hB4 : ∀ k, k = 2 ∨ k = 3 → gB 0 [.nilptr] (X12 k ++ [.box (.agg [.str [], .slice 0 [] .full, .slice 0 [] .full, .slice 0 [] .full])]) = some (.slice 0 [] .full, X12 k ++ [.box (.agg [.str [], .slice 0 [] .full, .slice 0 [] .full, .slice 0 [] .full])])) (hK : E 22 = some gK) (hK1 : ∀ k, k = 2 ∨ k = 3 → gK 0 [.nilptr] (X12 k ++ [.box (.agg [.str [], .slice 0 [] .full, .slice 0 [] .full, .slice 0 [] .full])]) = some (.slice 0 [] .full, X12 k ++ [.box (.agg [.str [], .slice 0 [] .full, .slice 0 [] .full, .slice 0 [] .full])]))
    (hG : E 24 = some gG) (hG1 : ∀ k, k = 2 ∨ k = 3 → gG 0 [.nilptr] (X12 k ++ [.box (.agg [.str [], .slice 0 [] .full, .slice 0 [] .full, .slice 0 [] .full])]) = some ((.agg [.str [], .slice 0 [] .full, .slice 0 [] .full, .slice 0 [] .full]), X14 k)) (hOe : E 23 = some gOe) (hOe1 : ∀ k, k = 2 ∨ k = 3 → gOe 0 [(.agg [.str [], .slice 0 [] .full, .slice 0 [] .full, .slice 0 [] .full]), (.agg [.str [], .slice 0 [] .full, .slice 0 [] .full, .slice 0 [] .full])] (X14 k) = some (.bool true, X15 k))
    (hst : ∀ k, k = 2 ∨ k = 3 → (PD.slice 1 (e k) (.own (tk k))).strip = .slice 1 (e k) .any) (hJ : J.length = 2076)
    (n : Int) (hn : 0 ≤ n ∧ n ≤ 255) : Run Tryz.prog E 4 [u8.emb n] (Em.bool.emb true) := by
  apply Run.bodyL h0 Tryz.func4 rfl
  focus (simp [show Tryz.f4.ntmps = _ from rfl, List.replicate]; rfl)
  have gx := And.intro @hk (And.intro @hT (And.intro @hT1 (And.intro @hN (And.intro @hN1 (And.intro @hR (And.intro @hR1 (And.intro @hE (And.intro @hE1 (@hV)))))))))
  refine goA ?_
  clear gx
  refine Wp.loopI (fun m fr σ => ∃ (i : Nat), ∃ gg : Nat → PD, (i ≤ 199 ∧ (i % 2 = 0 ∨ i = 199) ∧ i + 2 * m + (if i = 199 then 1 else 0) = 200) ∧ fr = u8.emb n :: gg 1 :: .bool false :: .ptr 3 0 :: .int .i64 0 :: gg 5 :: gg 6 :: gg 7 :: gg 8 :: gg 9 :: gg 10 :: gg 11 :: gg 12 :: gg 13 :: gg 14 :: gg 15 :: gg 16 :: gg 17 :: gg 18 :: gg 19 :: gg 20 :: gg 21 :: gg 22 :: gg 23 :: gg 24 :: gg 25 :: gg 26 :: gg 27 :: gg 28 :: gg 29 :: gg 30 :: gg 31 :: gg 32 :: gg 33 :: gg 34 :: gg 35 :: gg 36 :: gg 37 :: gg 38 :: gg 39 :: gg 40 :: gg 41 :: gg 42 :: gg 43 :: gg 44 :: gg 45 :: gg 46 :: gg 47 :: gg 48 :: gg 49 :: gg 50 :: gg 51 :: gg 52 :: gg 53 :: gg 54 :: gg 55 :: gg 56 :: gg 57 :: gg 58 :: gg 59 :: gg 60 :: gg 61 :: gg 62 :: gg 63 :: gg 64 :: gg 65 :: gg 66 :: gg 67 :: gg 68 :: gg 69 :: gg 70 :: gg 71 :: gg 72 :: gg 73 :: gg 74 :: gg 75 :: gg 76 :: gg 77 :: gg 78 :: gg 79 :: gg 80 :: gg 81 :: gg 82 :: gg 83 :: gg 84 :: gg 85 :: gg 86 :: gg 87 :: gg 88 :: gg 89 :: gg 90 :: gg 91 :: gg 92 :: gg 93 :: gg 94 :: gg 95 :: gg 96 :: gg 97 :: gg 98 :: gg 99 :: gg 100 :: gg 101 :: gg 102 :: gg 103 :: gg 104 :: gg 105 :: gg 106 :: gg 107 :: gg 108 :: gg 109 :: gg 110 :: gg 111 :: gg 112 :: gg 113 :: gg 114 :: gg 115 :: gg 116 :: gg 117 :: gg 118 :: gg 119 :: gg 120 :: gg 121 :: gg 122 :: gg 123 :: gg 124 :: gg 125 :: gg 126 :: gg 127 :: gg 128 :: gg 129 :: gg 130 :: gg 131 :: gg 132 :: gg 133 :: gg 134 :: gg 135 :: gg 136 :: gg 137 :: gg 138 :: gg 139 :: gg 140 :: gg 141 :: gg 142 :: gg 143 :: gg 144 :: gg 145 :: gg 146 :: gg 147 :: gg 148 :: gg 149 :: gg 150 :: gg 151 :: gg 152 :: gg 153 :: gg 154 :: gg 155 :: gg 156 :: gg 157 :: gg 158 :: gg 159 :: gg 160 :: gg 161 :: gg 162 :: gg 163 :: [] ∧ σ = SM i) ?_ (100) (by refine ⟨0, ?_⟩; exact exF (⟨by omega, by omega, by simp⟩) (by (first | rfl | (simp []; repeat (first | rfl | (apply And.intro))) | (simp []; done))) (by (first | rfl | (simp []; repeat (first | rfl | (apply And.intro))) | (simp []; done))))
  rintro m fr σ ⟨i, gg, hI, rfl, rfl⟩
  obtain ⟨hi, hp, hm⟩ := hI
  have hv := hV1 i hi
  by_cases hx : i = 199
  · subst hx
    have hv' : ¬ (1 + ((199 : Nat) : Int)) < 200 := by omega
    obtain ⟨d, hd⟩ : ∃ d, n.tmod 2 = d := ⟨_, rfl⟩
    have hd0 : d = 0 ∨ d = 1 := by rw [← hd, Int.tmod_eq_emod_of_nonneg hn.1]; omega
    rcases hd0 with h0 | h1
    · subst h0
      have hk2 : (2 : Int) = 2 ∨ (2 : Int) = 3 := .inl rfl
      have f1 := hY1 2 hk2
      have f2 := hap 2 hk2
      have f3 := hO1 2 hk2
      have f4 := hmk 2 hk2
      have f5 := hO2 2 hk2
      have f6 := hE4 2 hk2
      have f7 := hA1 2 hk2
      have f8 := hst 2 hk2
      have g9 : pbin Tryz.prog .neq 28 (.ptr (id 2) 0) .nilptr = some (.bool true) := by rfl
      have g1 := hV3 2 hk2
      have g2 := hUn3 2 hk2
      have g3 := hRe3 2 hk2
      have g4 := hV4 2 hk2
      have g5 := hB4 2 hk2
      have g6 := hK1 2 hk2
      have g7 := hG1 2 hk2
      have g8 := hOe1 2 hk2
      have gx := And.intro @hV (And.intro @hv (And.intro @hB (And.intro @hB1 (And.intro @hUn (And.intro @hUn2 (And.intro @hRe (And.intro @hRe2 (And.intro @hR (And.intro @hR2 (And.intro @hE (And.intro @hE2 (And.intro @hE3 (And.intro @hB2 (And.intro @hQ (And.intro @hQ1 (And.intro @hC (And.intro @hC1 (And.intro @hY (And.intro @hO (And.intro @hA (And.intro @f1 (And.intro @f2 (And.intro @f3 (And.intro @f4 (And.intro @f5 (And.intro @f6 (And.intro @f7 (And.intro @f8 (And.intro @g1 (And.intro @g2 (And.intro @g3 (And.intro @g4 (And.intro @g5 (And.intro @g6 (And.intro @g7 (And.intro @g8 (And.intro @g9 (And.intro @hK (And.intro @hG (And.intro @hOe (And.intro @hJ (@hd))))))))))))))))))))))))))))))))))))))))))
      refine goA ?_
      clear gx
      exact ⟨_, _, rfl, rfl⟩
    · subst h1
      have hk2 : (3 : Int) = 2 ∨ (3 : Int) = 3 := .inr rfl
      have f1 := hY1 3 hk2
      have f2 := hap 3 hk2
      have f3 := hO1 3 hk2
      have f4 := hmk 3 hk2
      have f5 := hO2 3 hk2
      have f6 := hE4 3 hk2
      have f7 := hA1 3 hk2
      have f8 := hst 3 hk2
      have g9 : pbin Tryz.prog .neq 28 (.ptr (id 3) 0) .nilptr = some (.bool true) := by rfl
      have g1 := hV3 3 hk2
      have g2 := hUn3 3 hk2
      have g3 := hRe3 3 hk2
      have g4 := hV4 3 hk2
      have g5 := hB4 3 hk2
      have g6 := hK1 3 hk2
      have g7 := hG1 3 hk2
      have g8 := hOe1 3 hk2
      have gx := And.intro @hV (And.intro @hv (And.intro @hB (And.intro @hB1 (And.intro @hUn (And.intro @hUn2 (And.intro @hRe (And.intro @hRe2 (And.intro @hR (And.intro @hR2 (And.intro @hE (And.intro @hE2 (And.intro @hE3 (And.intro @hB2 (And.intro @hQ (And.intro @hQ1 (And.intro @hC (And.intro @hC1 (And.intro @hY (And.intro @hO (And.intro @hA (And.intro @f1 (And.intro @f2 (And.intro @f3 (And.intro @f4 (And.intro @f5 (And.intro @f6 (And.intro @f7 (And.intro @f8 (And.intro @g1 (And.intro @g2 (And.intro @g3 (And.intro @g4 (And.intro @g5 (And.intro @g6 (And.intro @g7 (And.intro @g8 (And.intro @g9 (And.intro @hK (And.intro @hG (And.intro @hOe (And.intro @hJ (@hd))))))))))))))))))))))))))))))))))))))))))
      refine goA ?_
      clear gx
      exact ⟨_, _, rfl, rfl⟩
  · have hlt : (1 + (i : Int)) < 200 := by omega
    rw [if_neg hx] at hm
    have hi2 : i % 2 = 0 := by omega
    have hu := hUn1 i (by omega) hi2
    have hv2 := hV1 (i + 1) (by omega)
    by_cases hy : i = 198
    · have hge : ¬ (1 + ((i : Int) + 1)) < 200 := by omega
      have gx := And.intro @hV (And.intro @hv (And.intro @hlt (And.intro @hUn (And.intro @hu (And.intro @hv2 (@hge))))))
      refine goA ?_
      clear gx
      refine LoopI.normal (m - 1) (by omega) (by refine ⟨i + 1, ?_⟩; exact exF (⟨by omega, by omega, by subst hy; simp; omega⟩) (by (first | rfl | (simp [hge]; repeat (first | rfl | (apply And.intro))) | (simp [hge]; done))) (by (first | rfl | (simp [hge]; repeat (first | rfl | (apply And.intro))) | (simp [hge]; done))))
    · have hlt2 : (1 + ((i : Int) + 1)) < 200 := by omega
      have hr := hRe1 (i + 1) (by omega) (by omega)
      have gx := And.intro @hV (And.intro @hv (And.intro @hlt (And.intro @hUn (And.intro @hu (And.intro @hv2 (And.intro @hlt2 (And.intro @hRe (@hr))))))))
      refine goA ?_
      clear gx
      refine LoopI.normal (m - 1) (by omega) (by refine ⟨i + 1 + 1, ?_⟩; exact exF (⟨by omega, by omega, by rw [if_neg (by omega)]; omega⟩) (by (first | rfl | (simp [hlt2]; repeat (first | rfl | (apply And.intro))) | (simp [hlt2]; done))) (by (first | rfl | (simp [hlt2]; repeat (first | rfl | (apply And.intro))) | (simp [hlt2]; done))))
end
end Go.Kz

/-
  Chapter 53: slices.Equal of bytes that are the same.
-/
namespace Go.Kz
open Go Go.Proofs
set_option maxRecDepth 100000
set_option maxHeartbeats 4000000
variable {E : PExt} (hU : Uni E)
include hU
theorem r_Equal (h0 : E 17 = none) (l : List Int) (hn : l.length < 100000) : Run Tryz.prog E 17 [u8s.emb l, u8s.emb l] (Em.bool.emb true) := by
  apply Run.bodyL h0 Tryz.func17 rfl
  focus (simp [show Tryz.f17.ntmps = _ from rfl, List.replicate]; rfl)
  have gx := True.intro
  refine goA ?_
  clear gx
  refine Wp.loopI (fun m fr σ => ∃ (k : Nat), ∃ gg : Nat → PD, (k + m = l.length) ∧ fr = [u8s.emb l, u8s.emb l, gg 2, gg 3, .bool false, gg 5, gg 6, gg 7, gg 8, gg 9, gg 10, u8s.emb l, .int .i64 l.length, .int .i64 k, gg 14, gg 15, gg 16, gg 17, gg 18, gg 19, gg 20, gg 21, gg 22, gg 23, gg 24, gg 25] ∧ σ = []) ?_ (l.length) (by refine ⟨0, ?_⟩; exact exF (by omega) (by (first | rfl | (simp []; repeat (first | rfl | (apply And.intro))) | (simp []; done))) (by (first | rfl | (simp []; repeat (first | rfl | (apply And.intro))) | (simp []; done))))
  rintro m fr σ ⟨k, gg, hI, rfl, rfl⟩
  by_cases hk : k < l.length
  · have hk' : (k : Int) < l.length := by omega
    have gx := And.intro @hk (@hk')
    refine goA ?_
    clear gx
    refine LoopI.normal (m - 1) (by omega) (by refine ⟨k + 1, ?_⟩; exact exF (by omega) (by (first | rfl | (simp [hk]; repeat (first | rfl | (apply And.intro))) | (simp [hk]; done))) (by (first | rfl | (simp [hk]; repeat (first | rfl | (apply And.intro))) | (simp [hk]; done))))
  · have hk' : ¬ (k : Int) < l.length := by omega
    have gx := @hk'
    refine goA ?_
    clear gx
    exact ⟨_, _, rfl, rfl⟩
end Go.Kz

/-
  Chapter 53: the next entry of a journal.
-/
namespace Go.Kz
open Go Go.Proofs
set_option maxRecDepth 100000
set_option maxHeartbeats 4000000
/-- The number of 4 bytes. -/
def le4 : List Int → Int
  | a :: b :: c :: d :: _ => a + b * 256 + c * 65536 + d * 16777216
  | _ => 0
theorem or_shl (x y : Int) (k : Nat) (hk : k ≤ 24) (hx0 : 0 ≤ x) (hx1 : x < 2 ^ k) (hy0 : 0 ≤ y) (hy1 : y < 256) : IntKind.u32.wrap (((BitVec.ofInt 32 x ||| BitVec.ofInt 32 (IntKind.u32.wrap (y * 2 ^ k))).toNat : Nat) : Int) = x + y * 2 ^ k := by
  obtain ⟨a, rfl⟩ := Int.eq_ofNat_of_zero_le hx0
  obtain ⟨b, rfl⟩ := Int.eq_ofNat_of_zero_le hy0
  have hp : 2 ^ k ≤ 2 ^ 24 := Nat.pow_le_pow_right (by omega) hk
  have ha : a < 2 ^ k := by exact_mod_cast hx1
  have hb : b * 2 ^ k ≤ 255 * 2 ^ 24 := Nat.mul_le_mul (by omega) hp
  have hsum : a + b * 2 ^ k < 4294967296 := by omega
  have e0 : ((b : Int) * 2 ^ k) = ((b * 2 ^ k : Nat) : Int) := by push_cast; rfl
  rw [e0, wrap_u32' ((b * 2 ^ k : Nat) : Int) (by omega) (by omega)]
  have e1 : (BitVec.ofInt 32 ((b * 2 ^ k : Nat) : Int)).toNat = b <<< k := by
    rw [BitVec.ofInt_natCast, BitVec.toNat_ofNat, Nat.shiftLeft_eq]
    exact Nat.mod_eq_of_lt (by omega)
  have e2 : (BitVec.ofInt 32 (a : Int)).toNat = a := by
    rw [BitVec.ofInt_natCast, BitVec.toNat_ofNat]
    exact Nat.mod_eq_of_lt (by omega)
  rw [BitVec.toNat_or, e1, e2, Nat.or_comm, ← Nat.shiftLeft_add_eq_or_of_lt ha, Nat.shiftLeft_eq]
  rw [wrap_u32' _ (by omega) (by omega)]
  omega
section
variable {E : PExt} (hU : Uni E)
include hU
theorem r_read (h0 : E 65 = none) (l : List Int) (hB : isB l) (hn : 4 ≤ l.length) : Run Tryz.prog E 65 [u8s.emb l] (u32.emb (le4 l)) := by
  match l, hn with
  | a :: b :: c :: d :: r, _ =>
    have ha := hB a (by simp)
    have hb := hB b (by simp)
    have hc := hB c (by simp)
    have hd := hB d (by simp)
    obtain ⟨l, hl⟩ : ∃ l, a :: b :: c :: d :: r = l := ⟨_, rfl⟩
    have g0 : ∀ h : 0 < l.length, l[0]'h = a := by subst hl; intro h; rfl
    have g1 : ∀ h : 1 < l.length, l[1]'h = b := by subst hl; intro h; rfl
    have g2 : ∀ h : 2 < l.length, l[2]'h = c := by subst hl; intro h; rfl
    have g3 : ∀ h : 3 < l.length, l[3]'h = d := by subst hl; intro h; rfl
    have hn : 4 ≤ l.length := by rw [← hl]; simp
    have hs : le4 l = a + b * 256 + c * 65536 + d * 16777216 := by rw [← hl]; rfl
    rw [hl, hs]
    have k0 : (0 : Int) < l.length := by omega
    have k1 : (1 : Int) < l.length := by omega
    have k2 : (2 : Int) < l.length := by omega
    have k3 : (3 : Int) < l.length := by omega
    have e1 := wrap_u32' a ha.1 (by omega)
    have e2 := wrap_u32' b hb.1 (by omega)
    have e3 := wrap_u32' c hc.1 (by omega)
    have e4 := wrap_u32' d hd.1 (by omega)
    obtain ⟨z1, hz1⟩ : ∃ z1, a + b * 2 ^ 8 = z1 := ⟨_, rfl⟩
    obtain ⟨z2, hz2⟩ : ∃ z2, z1 + c * 2 ^ 16 = z2 := ⟨_, rfl⟩
    obtain ⟨z3, hz3⟩ : ∃ z3, z2 + d * 2 ^ 24 = z3 := ⟨_, rfl⟩
    have b1 : 0 ≤ z1 ∧ z1 < 2 ^ 16 := by omega
    have b2 : 0 ≤ z2 ∧ z2 < 2 ^ 24 := by omega
    have q1 := or_shl a b 8 (by omega) ha.1 (by omega) hb.1 (by omega)
    have q2 := or_shl z1 c 16 (by omega) b1.1 b1.2 hc.1 (by omega)
    have q3 := or_shl z2 d 24 (by omega) b2.1 b2.2 hd.1 (by omega)
    rw [hz1] at q1
    rw [hz2] at q2
    rw [hz3] at q3
    have q1' : IntKind.u32.wrap (((BitVec.ofInt IntKind.u32.bits a ||| BitVec.ofInt IntKind.u32.bits (IntKind.u32.wrap (b * 2 ^ min 8 IntKind.u32.bits))).toNat : Nat) : Int) = z1 := q1
    have q2' : IntKind.u32.wrap (((BitVec.ofInt IntKind.u32.bits z1 ||| BitVec.ofInt IntKind.u32.bits (IntKind.u32.wrap (c * 2 ^ min 16 IntKind.u32.bits))).toNat : Nat) : Int) = z2 := q2
    simp at q1' q2'
    have hgo : a + b * 256 + c * 65536 + d * 16777216 = z3 := by omega
    rw [hgo]
    apply Run.bodyL h0 Tryz.func65 rfl
    focus (simp [show Tryz.f65.ntmps = _ from rfl, List.replicate]; rfl)
    have gx := And.intro @k0 (And.intro @k1 (And.intro @k2 (And.intro @k3 (And.intro @g0 (And.intro @g1 (And.intro @g2 (And.intro @g3 (And.intro @e1 (And.intro @e2 (And.intro @e3 (And.intro @e4 (And.intro @q1' (@q2')))))))))))))
    refine goA ?_
    clear gx
    exact ⟨_, _, rfl, congrArg (PD.int .u32) q3⟩
omit hU in
theorem dec_sl (l : List Int) (k m : Nat) : u8s.dec (.slice (sz 1 l) (List.take m (List.drop k (l.map u8.emb))) .any) = some ((l.drop k).take m) := Em.dec_some (by
  have e : List.take m (List.drop k (l.map u8.emb)) = ((l.drop k).take m).map u8.emb := by rw [← List.map_drop, ← List.map_take]
  rw [e, PD.strip_slice, emb_strip]
  show _ = PD.slice (sz 1 _) _ _
  congr 1
  by_cases h : l = []
  · subst h; simp [sz]
  · by_cases h2 : List.take m (List.drop k l) = []
    · simp [h2, sz]
    · rw [sz_ne h, sz_ne h2, if_neg (by rw [List.length_map]; intro h3; exact h2 (List.eq_nil_of_length_eq_zero h3))])
/-- The entry at the head of l is whole, has n bytes of data and its sum. -/
def nextOk (l : List Int) (n : Nat) : Prop := isB l ∧ l.length < 100000 ∧ n + 9 ≤ l.length ∧ le4 (l.drop 1) = n ∧ le4 (l.drop (n + 5)) = sumOf (l.take (n + 5))
theorem r_next (h0 : E 34 = none) (h1 : E 65 = some (entry (gf1 u8s u32 fun l => gif (isB l ∧ 4 ≤ l.length) (some (le4 l))))) (h2 : E 7 = some (entry (gf1 u8s u32 fun l => gif (okS l) (some (sumOf l)))))
    (l : List Int) (n : Nat) (h : nextOk l n) : Run Tryz.prog E 34 [u8s.emb l] ((Em.tup4 i64 u8s i64 Em.bool).emb (l.headD 0, (l.drop 5).take n, (n : Int) + 9, true)) := by
  obtain ⟨hB, hl, hn, hr, hs⟩ := h
  have hdrop : ∀ k, isB (l.drop k) := fun k c hc => hB c (List.mem_of_mem_drop hc)
  have htake : ∀ k, isB (l.take k) := fun k c hc => hB c (List.mem_of_mem_take hc)
  have g0 : ∀ h : 0 < l.length, l[0]'h = l.headD 0 := by
    intro h
    cases l with
    | nil => simp at h
    | cons x l => rfl
  obtain ⟨a, ha⟩ : ∃ a, l.headD 0 = a := ⟨_, rfl⟩
  rw [ha]
  simp only [ha] at g0
  have k00 : (0 : Int) < l.length := by omega
  have k0 : ¬ (l.length : Int) < 9 := by omega
  obtain ⟨T1, hT1⟩ : ∃ T1, l.drop 1 = T1 := ⟨_, rfl⟩
  have t1 : isB T1 ∧ 4 ≤ T1.length := ⟨hT1 ▸ hdrop 1, by rw [← hT1, List.length_drop]; omega⟩
  rw [hT1] at hr
  have d1 : u8s.dec (.slice (sz 1 l) (List.take (l.length - 1) (List.map u8.emb l).tail) .any) = some T1 := by
    rw [← List.drop_one, dec_sl, List.take_of_length_le (by simp), hT1]
  have p1 : gif (isB T1 ∧ 4 ≤ T1.length) (some (le4 T1)) = some (n : Int) := by rw [gif_pos t1, hr]
  apply Run.bodyL h0 Tryz.func34 rfl
  focus (simp [show Tryz.f34.ntmps = _ from rfl, List.replicate]; rfl)
  have kc : ¬ ((l.length : Int) - 9 < n) := by omega
  have hz : ((n : Int) + 9 - 4).toNat = n + 5 := by omega
  obtain ⟨T2, hT2⟩ : ∃ T2, l.drop (n + 5) = T2 := ⟨_, rfl⟩
  obtain ⟨T3, hT3⟩ : ∃ T3, l.take (n + 5) = T3 := ⟨_, rfl⟩
  obtain ⟨s, hs1⟩ : ∃ s, sumOf T3 = s := ⟨_, rfl⟩
  rw [hT2, hT3, hs1] at hs
  have t2 : isB T2 ∧ 4 ≤ T2.length := ⟨hT2 ▸ hdrop _, by rw [← hT2, List.length_drop]; omega⟩
  have t3 : okS T3 := ⟨hT3 ▸ htake _, by rw [← hT3, List.length_take]; omega⟩
  have d2 : u8s.dec (.slice (sz 1 l) (List.take (l.length - (n + 5)) (List.drop (n + 5) (List.map u8.emb l))) .any) = some T2 := by
    rw [dec_sl, List.take_of_length_le (by simp), hT2]
  have p2 : gif (isB T2 ∧ 4 ≤ T2.length) (some (le4 T2)) = some s := by rw [gif_pos t2, hs]
  have d3 : u8s.dec (.slice (sz 1 l) (List.take (n + 5) (List.map u8.emb l)) .any) = some T3 := by
    have := dec_sl l 0 (n + 5)
    rw [List.drop_zero, List.drop_zero, hT3] at this
    exact this
  have p3 : gif (okS T3) (some (sumOf T3)) = some s := by rw [gif_pos t3, hs1]
  have ha' : 0 ≤ a ∧ a ≤ 255 := by
    have := hB (l[0]'(by omega)) (List.getElem_mem _)
    rwa [g0] at this
  have b1 : (5 : Int) ≤ (n : Int) + 9 - 4 := by omega
  have b2 : (n : Int) + 9 - 4 ≤ l.length := by omega
  have gx := And.intro @k0 (And.intro @d1 (And.intro @p1 (And.intro @h1 (And.intro @hr (And.intro @kc (And.intro @hz (And.intro @h2 (And.intro @d2 (And.intro @p2 (And.intro @d3 (And.intro @p3 (And.intro @hs (And.intro @hs1 (And.intro @k00 (And.intro @g0 (And.intro @b1 (@b2)))))))))))))))))
  refine goA ?_
  clear gx
  refine ⟨_, _, rfl, ?_⟩
  show PD.tup [.int .i64 a, PD.strip (.slice (sz 1 l) (List.take n (List.drop 5 (List.map u8.emb l))) .any), .int .i64 ((n : Int) + 9), .bool true] = _
  rw [Em.of_dec (dec_sl l 5 n)]
  rfl
end
end Go.Kz

/-
  Chapter 53: the journal, cut into its entries.
-/
namespace Go.Kz
open Go Go.Proofs
set_option maxRecDepth 100000
def zs (l : List Nat) : List Int := l.map Int.ofNat
theorem bs_zs (l : List Nat) : bs l = (zs l).map u8.emb := by
  unfold bs zs
  rw [List.map_map]
  rfl
theorem zs_app (a b : List Nat) : zs (a ++ b) = zs a ++ zs b := List.map_append
theorem zs_isB (l : List Nat) (h : (l.all fun n => Nat.ble n 255) = true) : isB (zs l) := fun c hc => by
  obtain ⟨n, hn, rfl⟩ := List.mem_map.1 hc
  have := Nat.le_of_ble_eq_true (List.all_eq_true.1 h n hn)
  exact ⟨Int.ofNat_nonneg n, Int.ofNat_le.2 this⟩
theorem isB_app {a b : List Int} (ha : isB a) (hb : isB b) : isB (a ++ b) := fun c hc => (List.mem_append.1 hc).elim (ha c) (hb c)
def eN (k : Int) : List Nat := if k = 2 then eU else eR
def jl (k : Int) : List Int := zs (jbs 199) ++ zs (eN k)
theorem j199_len : (jbs 199).length = 2076 := by decide +kernel
theorem j199_ok : ((jbs 199).all fun n => Nat.ble n 255) = true := by decide +kernel
theorem eN_len (k : Int) : (eN k).length = 9 := by unfold eN; split <;> rfl
theorem eN_ok (k : Int) : ((eN k).all fun n => Nat.ble n 255) = true := by unfold eN; split <;> rfl
theorem jl_len (k : Int) : (jl k).length = 2085 := by
  unfold jl
  rw [List.length_append]
  unfold zs
  rw [List.length_map, List.length_map, j199_len, eN_len]
theorem jl_isB (k : Int) : isB (jl k) := isB_app (zs_isB _ j199_ok) (zs_isB _ (eN_ok k))
theorem isB_drop {l : List Int} (h : isB l) (k : Nat) : isB (l.drop k) := fun c hc => h c (List.mem_of_mem_drop hc)
theorem cut (A B : List Int) (n m : Nat) (h : n + m ≤ A.length) : List.drop n (A ++ B) = List.take m (List.drop n A) ++ List.drop (n + m) (A ++ B) := by
  rw [List.drop_append_of_le_length (by omega), List.drop_append_of_le_length (by omega), ← List.append_assoc, ← List.drop_drop, List.take_append_drop]
theorem cutJ (k : Int) (n m : Nat) (h : n + m ≤ 2076) (e : List Nat) (he : List.take m (List.drop n (jbs 199)) = e) : List.drop n (jl k) = zs e ++ List.drop (n + m) (jl k) := by
  have := cut (zs (jbs 199)) (zs (eN k)) n m (by unfold zs; rw [List.length_map, j199_len]; exact h)
  unfold jl
  rw [this]
  congr 1
  unfold zs
  rw [← he, List.map_take, List.map_drop]
theorem nextOk_of (e : List Nat) (rest : List Int) (n : Nat) (hB : isB (zs e ++ rest)) (hl : rest.length ≤ 3000) (he : e.length = n + 9) (hn : n ≤ 1000) (h1 : le4 (List.drop 1 (zs e ++ rest)) = n) (h2 : le4 (List.drop (n + 5) (zs e ++ rest)) = sumOf (List.take (n + 5) (zs e ++ rest))) : nextOk (zs e ++ rest) n := by
  have hz : (zs e).length = n + 9 := by unfold zs; rw [List.length_map, he]
  exact ⟨hB, by rw [List.length_append, hz]; omega, by rw [List.length_append, hz]; omega, h1, h2⟩
def e0 : List Nat := jb0.take 83
def e1 : List Nat := (jb0.drop 83).take 202
theorem ok0 (rest : List Int) (hB : isB (zs e0 ++ rest)) (hl : rest.length ≤ 3000) : nextOk (zs e0 ++ rest) 74 := nextOk_of _ _ _ hB hl (by decide +kernel) (by omega) (by kernel_rfl) (by kernel_rfl)
theorem ok1 (rest : List Int) (hB : isB (zs e1 ++ rest)) (hl : rest.length ≤ 3000) : nextOk (zs e1 ++ rest) 193 := nextOk_of _ _ _ hB hl (by decide +kernel) (by omega) (by kernel_rfl) (by kernel_rfl)
theorem okU (rest : List Int) (hB : isB (zs eU ++ rest)) (hl : rest.length ≤ 3000) : nextOk (zs eU ++ rest) 0 := nextOk_of _ _ _ hB hl (by decide +kernel) (by omega) (by kernel_rfl) (by kernel_rfl)
theorem okR' (rest : List Int) (hB : isB (zs eR ++ rest)) (hl : rest.length ≤ 3000) : nextOk (zs eR ++ rest) 0 := nextOk_of _ _ _ hB hl (by decide +kernel) (by omega) (by kernel_rfl) (by kernel_rfl)
theorem cut_all : ((List.range 199).all fun j => List.take 9 (List.drop (285 + 9 * j) (jbs 199)) == par j eU eR) = true := by decide +kernel
theorem cut_0 : List.take 83 (List.drop 0 (jbs 199)) = e0 := by decide +kernel
theorem cut_1 : List.take 202 (List.drop 83 (jbs 199)) = e1 := by decide +kernel

/-- What next answers. -/
noncomputable def nextS (l : List Int) : Option (Int × List Int × Int × Bool) := gif (∃ n : Nat, nextOk l n) (some (l.headD 0, (l.drop 5).take (le4 (l.drop 1)).toNat, le4 (l.drop 1) + 9, true))
theorem nextS_of {l : List Int} {n : Nat} (h : nextOk l n) : nextS l = some (l.headD 0, (l.drop 5).take n, (n : Int) + 9, true) := by
  unfold nextS
  rw [gif_pos ⟨n, h⟩, h.2.2.2.1]
  rfl
noncomputable def gNext : Nat → List PD → List SObj → Option (PD × List SObj) := entry (gf1 u8s (Em.tup4 i64 u8s i64 Em.bool) nextS)
theorem gNext_of {l : List Int} {n : Nat} (h : nextOk l n) (fl : Nat) (σ : List SObj) : gNext fl [.slice 1 (l.map u8.emb) .any] σ = some (.tup [.int .i64 (l.headD 0), u8s.emb ((l.drop 5).take n), .int .i64 ((n : Int) + 9), .bool true], σ) := by
  have hn : l ≠ [] := by
    intro e
    have := h.2.2.1
    rw [e] at this
    simp at this
  have e : PD.slice 1 (l.map u8.emb) .any = u8s.emb l := by
    show _ = PD.slice (sz 1 l) _ _
    rw [sz_ne hn]
  rw [e]
  unfold gNext entry gf1
  simp only [Em.dec_emb, nextS_of h]
  rfl
/-- The bytes read before an entry, its length, its kind, its data. -/
def Uj : Nat → Nat
  | 0 => 83
  | j + 1 => 285 + 9 * j
def Zj : Nat → Nat
  | 0 => 202
  | _ + 1 => 9
def Kj (k : Int) : Nat → Int
  | 0 => 1
  | j + 1 => if j = 199 then k else par j 2 3
noncomputable def Dj : Nat → PD
  | 0 => .slice 1 (bs ((jb0.drop 88).take 193)) .any
  | _ + 1 => .slice 0 [] .any
theorem jl_take (k : Int) (n : Nat) (h : n ≤ 2085) : List.take (2085 - n) (List.drop n ((jl k).map u8.emb)) = (List.drop n (jl k)).map u8.emb := by
  rw [List.take_of_length_le (by rw [List.length_drop, List.length_map, jl_len]; exact Nat.le_refl _), List.map_drop]
theorem drop_le (k : Int) (n : Nat) : (List.drop n (jl k)).length ≤ 3000 := by rw [List.length_drop, jl_len]; omega
theorem next_0 (k : Int) (fl : Nat) (σ : List SObj) : gNext fl [.slice 1 ((jl k).map u8.emb) .any] σ = some (.tup [.int .i64 0, .slice 1 (bs ((jb0.drop 5).take 74)) .any, .int .i64 83, .bool true], σ) := by
  have hc := cutJ k 0 83 (by omega) e0 cut_0
  rw [List.drop_zero] at hc
  have hB := jl_isB k
  rw [hc] at hB
  have := gNext_of (ok0 _ hB (drop_le k _)) fl σ
  rw [← hc] at this
  rw [this]
  have e1 : (jl k).headD 0 = 0 := by rw [hc]; rfl
  have e2 : u8s.emb (List.take 74 (List.drop 5 (jl k))) = .slice 1 (bs ((jb0.drop 5).take 74)) .any := by rw [hc]; rfl
  rw [e1, e2]
  rfl
theorem next_j (k : Int) (hk : k = 2 ∨ k = 3) (j : Nat) (hj : j ≤ 200) (fl : Nat) (σ : List SObj) : gNext fl [.slice 1 (List.take (2085 - Uj j) (List.drop (Uj j) ((jl k).map u8.emb))) .any] σ = some (.tup [.int .i64 (Kj k j), Dj j, .int .i64 (Zj j), .bool true], σ) := by
  have hU : Uj j ≤ 2085 := by
    cases j with
    | zero => show 83 ≤ 2085; omega
    | succ j => show 285 + 9 * j ≤ 2085; omega
  rw [jl_take k _ hU]
  have hB := isB_drop (jl_isB k) (Uj j)
  have fin : ∀ (e : List Nat) (n : Nat) (rest : List Int), List.drop (Uj j) (jl k) = zs e ++ rest → nextOk (zs e ++ rest) n → (zs e ++ rest).headD 0 = Kj k j → u8s.emb (List.take n (List.drop 5 (zs e ++ rest))) = Dj j → (n : Int) + 9 = Zj j → gNext fl [.slice 1 ((List.drop (Uj j) (jl k)).map u8.emb) .any] σ = some (.tup [.int .i64 (Kj k j), Dj j, .int .i64 (Zj j), .bool true], σ) := fun e n rest h1 h2 h3 h4 h5 => by
    rw [h1, gNext_of h2, h3, h4, h5]
  cases j with
  | zero =>
    have hc := cutJ k 83 202 (by omega) e1 cut_1
    have hU0 : Uj 0 = 83 := rfl
    rw [hU0] at hB
    rw [hc] at hB
    exact fin e1 193 _ hc (ok1 _ hB (drop_le k _)) rfl rfl rfl
  | succ j =>
    have hUs : Uj (j + 1) = 285 + 9 * j := rfl
    rw [hUs] at hB
    have hD : ∀ rest : List Int, u8s.emb (List.take 0 rest) = Dj (j + 1) := fun rest => by rw [List.take_zero]; rfl
    by_cases h199 : j = 199
    · subst h199
      have hc : List.drop (285 + 9 * 199) (jl k) = zs (eN k) ++ [] := by
        unfold jl
        rw [List.append_nil, List.drop_append_of_le_length (by unfold zs; rw [List.length_map, j199_len]; omega), List.drop_of_length_le (by unfold zs; rw [List.length_map, j199_len]; omega), List.nil_append]
      rw [hc] at hB
      rcases hk with rfl | rfl
      · exact fin eU 0 [] hc (okU _ hB (by simp)) rfl (hD _) rfl
      · exact fin eR 0 [] hc (okR' _ hB (by simp)) rfl (hD _) rfl
    · have he := List.all_eq_true.1 cut_all j (List.mem_range.2 (by omega))
      have he : List.take 9 (List.drop (285 + 9 * j) (jbs 199)) = par j eU eR := by simpa using he
      have hc := cutJ k (285 + 9 * j) 9 (by omega) _ he
      rw [hc] at hB
      have hK : Kj k (j + 1) = par j 2 3 := by show (if j = 199 then k else par j 2 3) = _; rw [if_neg h199]
      by_cases hp : j % 2 = 0
      · have p1 : ∀ {α : Type} (x y : α), par j x y = x := fun x y => by unfold par; rw [hp]; rfl
        rw [p1] at hc hB
        exact fin eU 0 _ hc (okU _ hB (drop_le k _)) (by rw [hK, p1]; rfl) (hD _) rfl
      · have p1 : ∀ {α : Type} (x y : α), par j x y = y := fun x y => by
          unfold par
          have : j % 2 = 1 := by omega
          rw [this]; rfl
        rw [p1] at hc hB
        exact fin eR 0 _ hc (okR' _ hB (drop_le k _)) (by rw [hK, p1]; rfl) (hD _) rfl
theorem Uj_next (j : Nat) (hj : j < 200) : Uj (j + 1) = Uj j + Zj j ∧ Uj j + Zj j ≤ 2085 := by
  cases j with
  | zero => exact ⟨rfl, by decide⟩
  | succ j => exact ⟨by show 285 + 9 * (j + 1) = 285 + 9 * j + 9; omega, by show 285 + 9 * j + 9 ≤ 2085; omega⟩
theorem Uj_end : Uj 200 = 2076 := rfl
end Go.Kz

/-
  Chapter 53: Open walked.
-/
namespace Go.Kz
open Go Go.Proofs
set_option maxRecDepth 100000
set_option maxHeartbeats 4000000
section
variable {E : PExt} (hU : Uni E)
include hU
theorem r_Open (h0 : E 18 = none) {gX gD gB gR : Nat → List PD → List SObj → Option (PD × List SObj)} {BY d0 : List PD} {T : Nat → List SObj} {U Z : Nat → Nat} {K : Nat → Int} {D : Nat → PD} {T' : List SObj} (hlen : BY.length = 2085)
    (hX : E 34 = some gX) (hX0 : ∀ fl σ, gX fl [.slice 1 BY .any] σ = some (.tup [.int .i64 0, .slice 1 d0 .any, .int .i64 83, .bool true], σ))
    (hD : E 35 = some gD) (hD0 : ∀ fl σ, gD fl [.slice 1 d0 .any] σ = some (.tup [(.agg [.str [97], .slice 0 [] .any, .slice 5 [.agg [.str [100], .bool false, .int .i64 36, .int .i64 36, .slice 0 [] .any]] .any, .slice 0 [] .any]), .int .i64 0], σ)) (hB : E 27 = some gB) (hB0 : gB 0 [(.agg [.str [97], .slice 0 [] .any, .slice 5 [.agg [.str [100], .bool false, .int .i64 36, .int .i64 36, .slice 0 [] .any]] .any, .slice 0 [] .any])] [.box (.agg [.str [97], .slice 0 [] .any, .slice 5 [.agg [.str [100], .bool false, .int .i64 36, .int .i64 36, .slice 0 [] .any]] .any, .slice 0 [] .any])] = some (.ptr 3 0, T 0)) (hR : E 36 = some gR)
    (hU0 : U 0 = 83) (hUZ : ∀ j, j < 200 → U (j + 1) = U j + Z j ∧ U j + Z j ≤ 2085) (hUe : U 200 = 2076) (hXn : ∀ j, j ≤ 200 → ∀ fl σ, gX fl [.slice 1 (List.take (2085 - U j) (List.drop (U j) BY)) .any] σ = some (.tup [.int .i64 (K j), D j, .int .i64 (Z j), .bool true], σ))
    (hRn : ∀ j, j < 200 → gR 0 [.ptr 3 0, .int .i64 (K j), D j] (T j) = some (.bool true, T (j + 1))) (hRe : gR 0 [.ptr 3 0, .int .i64 (K 200), D 200] (T 200) = some (.bool false, T')) :
    WpC Tryz.prog E 0 (.inl 18) [.slice 1 BY .any] [] (fun p σ => p = .tup [.ptr 3 0, .int .i64 2076, .int .i64 0] ∧ σ = T') := by
  apply WpC.bodyL h0 Tryz.func18 rfl
  focus (simp [show Tryz.f18.ntmps = _ from rfl, List.replicate]; rfl)
  have gx := And.intro @hlen (And.intro @hX (And.intro @hX0 (And.intro @hD (And.intro @hD0 (And.intro @hB (@hB0))))))
  refine goA ?_
  clear gx
  refine Wp.loopI (fun m fr σ => ∃ (j : Nat), ∃ gg : Nat → PD, (j + m = 200 ∧ U j ≤ 2085) ∧ fr = .slice 1 BY .any :: gg 1 :: .ptr 3 0 :: .int .i64 (U j) :: gg 4 :: gg 5 :: gg 6 :: gg 7 :: gg 8 :: gg 9 :: gg 10 :: gg 11 :: gg 12 :: gg 13 :: gg 14 :: gg 15 :: gg 16 :: gg 17 :: gg 18 :: gg 19 :: gg 20 :: gg 21 :: gg 22 :: gg 23 :: gg 24 :: gg 25 :: gg 26 :: gg 27 :: gg 28 :: gg 29 :: gg 30 :: gg 31 :: gg 32 :: gg 33 :: gg 34 :: gg 35 :: gg 36 :: gg 37 :: gg 38 :: gg 39 :: gg 40 :: gg 41 :: gg 42 :: gg 43 :: gg 44 :: gg 45 :: gg 46 :: gg 47 :: gg 48 :: gg 49 :: gg 50 :: gg 51 :: gg 52 :: gg 53 :: gg 54 :: gg 55 :: gg 56 :: gg 57 :: gg 58 :: gg 59 :: gg 60 :: gg 61 :: gg 62 :: [] ∧ σ = T j) ?_ (200) (by refine ⟨0, ?_⟩; exact exF (⟨by omega, by omega⟩) (by (first | rfl | (simp [hU0]; repeat (first | rfl | (apply And.intro))) | (simp [hU0]; done))) (by (first | rfl | (simp [hU0]; repeat (first | rfl | (apply And.intro))) | (simp [hU0]; done))))
  rintro m fr σ ⟨j, gg, hI, rfl, rfl⟩
  obtain ⟨hm, hu⟩ := hI
  have hx := hXn j (by omega)
  have hu' : (U j : Int) ≤ 2085 := by omega
  by_cases hj : j = 200
  · subst hj
    have gx := And.intro @hlen (And.intro @hX (And.intro @hx (And.intro @hR (And.intro @hRe (And.intro @hu (@hu'))))))
    refine goA ?_
    clear gx
    refine ⟨_, _, rfl, ?_, rfl⟩
    show PD.tup [.ptr 3 0, .int .i64 (U 200), .int .i64 0] = _
    rw [hUe]
    rfl
  · have hr := hRn j (by omega)
    obtain ⟨h1, h2⟩ := hUZ j (by omega)
    have w : IntKind.i64.wrap ((U j : Int) + Z j) = (U j : Int) + Z j := wrap_i64 (by omega) (by omega)
    have gx := And.intro @hlen (And.intro @hX (And.intro @hx (And.intro @hR (And.intro @hr (And.intro @hu (And.intro @hu' (@w)))))))
    refine goA ?_
    clear gx
    refine LoopI.normal (m - 1) (by omega) (by refine ⟨j + 1, ?_⟩; exact exF (⟨by omega, by omega⟩) (by (first | rfl | (simp [h1]; repeat (first | rfl | (apply And.intro))) | (simp [h1]; done))) (by (first | rfl | (simp [h1]; repeat (first | rfl | (apply And.intro))) | (simp [h1]; done))))
end
end Go.Kz
