/-
  StoreSums holds: the law answers true, whatever it is handed.
-/
import Derived.Test.YtkmkgiaejlkjlaaGreatP4
import Derived.Test.YtkmkgiaejlkjlaaGreatP8
import Derived.Test.YtkmkgiaejlkjlaaGreatP3
import Derived.Test.YtkmkgiaejlkjlaaGreatRows
import Derived.Handed
import Derived.JoinedOf
set_option linter.all false

/-
  Chapter 53: the sum.
-/
namespace Go.Kz
open Go Go.Proofs

abbrev i64 : Em Int := Em.int .i64
abbrev u8 : Em Int := Em.int .u8
abbrev u32 : Em Int := Em.int .u32
abbrev u8s : Em (List Int) := u8.list 1

/-- The two sums of some bytes, from others on. -/
def sumFrom : Int × Int → List Int → Int × Int
  | s, [] => s
  | s, c :: l => sumFrom (((s.1 + c) % 65521), ((s.2 + (s.1 + c) % 65521) % 65521)) l
def sumOf (l : List Int) : Int := (sumFrom (1, 0) l).2 * 65536 + (sumFrom (1, 0) l).1

theorem sumFrom_ok : ∀ (l : List Int) (s : Int × Int), (∀ c ∈ l, 0 ≤ c ∧ c ≤ 255) → (0 ≤ s.1 ∧ s.1 < 65521 ∧ 0 ≤ s.2 ∧ s.2 < 65521) → 0 ≤ (sumFrom s l).1 ∧ (sumFrom s l).1 < 65521 ∧ 0 ≤ (sumFrom s l).2 ∧ (sumFrom s l).2 < 65521
  | [], s, _, h => h
  | c :: l, s, hl, h => by
    have hc := hl c (by simp)
    refine sumFrom_ok l _ (fun d hd => hl d (by simp [hd])) ?_
    simp only
    omega
theorem sumFrom_snoc (l : List Int) : ∀ (s : Int × Int) (c : Int), sumFrom s (l ++ [c]) = (((sumFrom s l).1 + c) % 65521, ((sumFrom s l).2 + ((sumFrom s l).1 + c) % 65521) % 65521) := by
  induction l with
  | nil => intro s c; rfl
  | cons d l ih => intro s c; simp only [List.cons_append, sumFrom, ih]

theorem wrap_u32' (n : Int) (h0 : 0 ≤ n) (h1 : n < 4294967296) : IntKind.u32.wrap n = n := by
  unfold IntKind.wrap
  simp [IntKind.bits, IntKind.signed]
  omega
theorem join16 {x y : Int} (hx0 : 0 ≤ x) (hx1 : x < 65536) (hy0 : 0 ≤ y) (hy1 : y < 65536) : IntKind.u32.wrap (((BitVec.ofInt 32 (IntKind.u32.wrap (y * 2 ^ 16)) ||| BitVec.ofInt 32 x).toNat : Nat) : Int) = y * 65536 + x := by
  obtain ⟨a, rfl⟩ := Int.eq_ofNat_of_zero_le hx0
  obtain ⟨b, rfl⟩ := Int.eq_ofNat_of_zero_le hy0
  have ha : a < 2 ^ 16 := by omega
  rw [wrap_u32' ((b : Int) * 2 ^ 16) (by omega) (by omega)]
  have e1 : (BitVec.ofInt 32 ((b : Int) * 2 ^ 16)).toNat = b <<< 16 := by
    have : ((b : Int) * 2 ^ 16) = ((b * 2 ^ 16 : Nat) : Int) := by omega
    rw [this, BitVec.ofInt_natCast, BitVec.toNat_ofNat, Nat.shiftLeft_eq]
    omega
  have e2 : (BitVec.ofInt 32 (a : Int)).toNat = a := by
    rw [BitVec.ofInt_natCast, BitVec.toNat_ofNat]
    omega
  rw [BitVec.toNat_or, e1, e2, ← Nat.shiftLeft_add_eq_or_of_lt ha, Nat.shiftLeft_eq]
  rw [wrap_u32' _ (by omega) (by omega)]
  omega

variable {E : PExt} (hU : Uni E)
include hU
set_option maxHeartbeats 4000000
theorem r_Sum (h0 : E 7 = none) (l : List Int) (hl : ∀ c ∈ l, 0 ≤ c ∧ c ≤ 255) (hn : l.length < 100000) : Run Tryz.prog E 7 [u8s.emb l] (u32.emb (sumOf l)) := by
  apply Run.bodyL h0 Tryz.func7 rfl
  focus (simp [show Tryz.f7.ntmps = _ from rfl, List.replicate]; rfl)
  have gx := True.intro
  refine goA ?_
  clear gx
  refine Wp.loopI (fun m fr σ => ∃ (k : Nat) (x y : Int), ∃ gg : Nat → PD, (k + m = l.length ∧ (x, y) = sumFrom (1, 0) (l.take k)) ∧ fr = [u8s.emb l, gg 1, .int .u32 0, .int .u32 x, .int .u32 y, gg 5, gg 6, u8s.emb l, .int .i64 l.length, .int .i64 k, gg 10, gg 11, gg 12, gg 13, gg 14, gg 15, gg 16, gg 17, gg 18, gg 19, gg 20, gg 21, gg 22, gg 23, gg 24, gg 25, gg 26] ∧ σ = []) ?_ (l.length) (by refine ⟨0, 1, 0, ?_⟩; exact exF (⟨by omega, rfl⟩) (by (first | rfl | (simp []; repeat (first | rfl | (apply And.intro))) | (simp []; done))) (by (first | rfl | (simp []; repeat (first | rfl | (apply And.intro))) | (simp []; done))))
  rintro m fr σ ⟨k, x, y, gg, hI, rfl, rfl⟩
  obtain ⟨hm, hxy⟩ := hI
  have hb := sumFrom_ok (l.take k) (1, 0) (fun c hc => hl c (List.mem_of_mem_take hc)) (by simp)
  rw [← hxy] at hb
  obtain ⟨hx0, hx1, hy0, hy1⟩ := hb
  by_cases hk : k < l.length
  · have hk' : (k : Int) < l.length := by omega
    obtain ⟨c, hc⟩ : ∃ c, l[k] = c := ⟨_, rfl⟩
    obtain ⟨hc0, hc1⟩ := hl l[k] (List.getElem_mem hk)
    rw [hc] at hc0 hc1
    have hx0 : 0 ≤ x := hx0
    have hx1 : x < 65521 := hx1
    have hy0 : 0 ≤ y := hy0
    have hy1 : y < 65521 := hy1
    have wr : ∀ n : Int, 0 ≤ n → n < 4294967296 → IntKind.u32.wrap n = n := fun n h0 h1 => by
      unfold IntKind.wrap
      simp [IntKind.bits, IntKind.signed]
      omega
    have e1 := wr c hc0 (by omega)
    have e2 := wr (x + c) (by omega) (by omega)
    have e3 : (x + c).tmod 65521 = (x + c) % 65521 := Int.tmod_eq_emod_of_nonneg (by omega)
    obtain ⟨x', hx'⟩ : ∃ x', (x + c) % 65521 = x' := ⟨_, rfl⟩
    have hx'0 : 0 ≤ x' ∧ x' < 65521 := by omega
    have e4 := wr (y + x') (by omega) (by omega)
    have e5 : (y + x').tmod 65521 = (y + x') % 65521 := Int.tmod_eq_emod_of_nonneg (by omega)
    obtain ⟨y', hy'⟩ : ∃ y', (y + x') % 65521 = y' := ⟨_, rfl⟩
    rw [hx'] at e3
    rw [hy'] at e5
    have gx := And.intro @hk (And.intro @hk' (And.intro @hc (And.intro @e1 (And.intro @e2 (And.intro @e3 (And.intro @e4 (@e5)))))))
    refine goA ?_
    clear gx
    refine LoopI.normal (m - 1) (by omega) (by refine ⟨k + 1, x', y', ?_⟩; exact exF (⟨by omega, by rw [List.take_succ_eq_append_getElem hk, sumFrom_snoc, ← hxy, hc, hx', hy']⟩) (by (first | rfl | (simp [hk]; repeat (first | rfl | (apply And.intro))) | (simp [hk]; done))) (by (first | rfl | (simp [hk]; repeat (first | rfl | (apply And.intro))) | (simp [hk]; done))))
  · have hk' : ¬ (k : Int) < l.length := by omega
    have hxy' : (x, y) = sumFrom (1, 0) l := by rw [hxy, List.take_of_length_le (by omega)]
    have gx := @hk'
    refine goA ?_
    clear gx
    have hj := join16 hx0 (by have : x < 65521 := hx1; omega) hy0 (by have : y < 65521 := hy1; omega)
    have hs : sumOf l = y * 65536 + x := by unfold sumOf; rw [← hxy']
    exact ⟨_, _, rfl, by rw [hs, ← hj]; rfl⟩

theorem r_sum (h0 : E 8 = none) (l : List Int) (hl : ∀ c ∈ l, 0 ≤ c ∧ c ≤ 255) (hn : l.length < 100000) : Run Tryz.prog E 8 [u8s.emb l] (u32.emb (sumOf l)) := by
  apply Run.bodyL h0 Tryz.func8 rfl
  focus (simp [show Tryz.f8.ntmps = _ from rfl, List.replicate]; rfl)
  have gx := True.intro
  refine goA ?_
  clear gx
  refine Wp.loopI (fun m fr σ => ∃ (k : Nat) (x y : Int), ∃ gg : Nat → PD, (k + m = l.length ∧ (x, y) = sumFrom (1, 0) (l.take k)) ∧ fr = [u8s.emb l, gg 1, .int .u32 0, .int .i64 x, .int .i64 y, gg 5, gg 6, u8s.emb l, .int .i64 l.length, .int .i64 k, gg 10, gg 11, gg 12, gg 13, gg 14, gg 15, gg 16, gg 17, gg 18, gg 19, gg 20, gg 21, gg 22, gg 23, gg 24, gg 25, gg 26, gg 27, gg 28] ∧ σ = []) ?_ (l.length) (by refine ⟨0, 1, 0, ?_⟩; exact exF (⟨by omega, rfl⟩) (by (first | rfl | (simp []; repeat (first | rfl | (apply And.intro))) | (simp []; done))) (by (first | rfl | (simp []; repeat (first | rfl | (apply And.intro))) | (simp []; done))))
  rintro m fr σ ⟨k, x, y, gg, hI, rfl, rfl⟩
  obtain ⟨hm, hxy⟩ := hI
  have hb := sumFrom_ok (l.take k) (1, 0) (fun c hc => hl c (List.mem_of_mem_take hc)) (by simp)
  rw [← hxy] at hb
  obtain ⟨hx0, hx1, hy0, hy1⟩ := hb
  by_cases hk : k < l.length
  · have hk' : (k : Int) < l.length := by omega
    obtain ⟨c, hc⟩ : ∃ c, l[k] = c := ⟨_, rfl⟩
    obtain ⟨hc0, hc1⟩ := hl l[k] (List.getElem_mem hk)
    rw [hc] at hc0 hc1
    have hx0 : 0 ≤ x := hx0
    have hx1 : x < 65521 := hx1
    have hy0 : 0 ≤ y := hy0
    have hy1 : y < 65521 := hy1
    have e3 : (x + c).tmod 65521 = (x + c) % 65521 := Int.tmod_eq_emod_of_nonneg (by omega)
    obtain ⟨x', hx'⟩ : ∃ x', (x + c) % 65521 = x' := ⟨_, rfl⟩
    have hx'0 : 0 ≤ x' ∧ x' < 65521 := by omega
    have e5 : (y + x').tmod 65521 = (y + x') % 65521 := Int.tmod_eq_emod_of_nonneg (by omega)
    obtain ⟨y', hy'⟩ : ∃ y', (y + x') % 65521 = y' := ⟨_, rfl⟩
    have f1 : x + c < 9223372036854775808 := by omega
    have f2 : y + x' < 9223372036854775808 := by omega
    have f3 : 0 ≤ x + c := by omega
    have f4 : 0 ≤ y + x' := by omega
    rw [hx'] at e3
    rw [hy'] at e5
    have gx := And.intro @hk (And.intro @hk' (And.intro @hc (And.intro @e3 (@e5))))
    refine goA ?_
    clear gx
    refine LoopI.normal (m - 1) (by omega) (by refine ⟨k + 1, x', y', ?_⟩; exact exF (⟨by omega, by rw [List.take_succ_eq_append_getElem hk, sumFrom_snoc, ← hxy, hc, hx', hy']⟩) (by (first | rfl | (simp [hk]; repeat (first | rfl | (apply And.intro))) | (simp [hk]; done))) (by (first | rfl | (simp [hk]; repeat (first | rfl | (apply And.intro))) | (simp [hk]; done))))
  · have hk' : ¬ (k : Int) < l.length := by omega
    have hxy' : (x, y) = sumFrom (1, 0) l := by rw [hxy, List.take_of_length_le (by omega)]
    have hx1' : x < 65521 := hx1
    have hy1' : y < 65521 := hy1
    have e1 := wrap_u32' x hx0 (by omega)
    have e2 := wrap_u32' y hy0 (by omega)
    have e3 : IntKind.u32.wrap (y * 2 ^ 16) = y * 65536 := by rw [wrap_u32' _ (by omega) (by omega)]; omega
    have e4 := wrap_u32' (y * 65536 + x) (by omega) (by omega)
    have gx := @hk'
    refine goA ?_
    clear gx
    have hs : sumOf l = y * 65536 + x := by unfold sumOf; rw [← hxy']
    refine ⟨_, _, rfl, ?_⟩
    show PD.int .u32 (IntKind.u32.wrap (IntKind.u32.wrap (IntKind.u32.wrap y * 2 ^ 16) + IntKind.u32.wrap x)) = _
    rw [e1, e2, e3, e4, hs]
    rfl
end Go.Kz

/-
  Chapter 53: slices.Repeat.
-/
namespace Go.Kz
open Go Go.Proofs
abbrev u64 : Em Int := Em.int .u64
theorem wrap_u64' (n : Int) (h0 : 0 ≤ n) (h1 : n < 18446744073709551616) : IntKind.u64.wrap n = n := by
  unfold IntKind.wrap
  simp [IntKind.bits, IntKind.signed]
  omega
theorem and32 {n : Int} (h0 : 0 ≤ n) (h1 : n < 4294967296) : IntKind.u64.wrap (((BitVec.ofInt 64 n &&& BitVec.ofInt 64 4294967295).toNat : Nat) : Int) = n := by
  obtain ⟨a, rfl⟩ := Int.eq_ofNat_of_zero_le h0
  have e1 : (BitVec.ofInt 64 (a : Int)).toNat = a := by
    rw [BitVec.ofInt_natCast, BitVec.toNat_ofNat]
    omega
  have e2 : (BitVec.ofInt 64 4294967295).toNat = 2 ^ 32 - 1 := by decide
  rw [BitVec.toNat_and, e1, e2, Nat.and_two_pow_sub_one_eq_mod]
  rw [wrap_u64' _ (by omega) (by omega)]
  omega
variable {E : PExt} (hU : Uni E)
include hU
set_option maxHeartbeats 4000000
set_option maxRecDepth 100000
theorem r_Mul64 (h0 : E 49 = none) (a b : Int) (ha : 0 ≤ a ∧ a ≤ 200) (hb : 0 ≤ b ∧ b ≤ 60) : Run Tryz.prog E 49 [u64.emb a, u64.emb b] ((u64.tup2 u64).emb (0, a * b)) := by
  obtain ⟨ha0, ha1⟩ := ha
  obtain ⟨hb0, hb1⟩ := hb
  have fd : ∀ n : Int, 0 ≤ n → n < 4294967296 → n.fdiv (2 ^ min 32 IntKind.u64.bits) = 0 := fun n h0 h1 => by
    show n.fdiv 4294967296 = 0
    rw [Int.fdiv_eq_ediv_of_nonneg _ (by omega)]
    omega
  have hab0 : 0 ≤ a * b := Int.mul_nonneg ha0 hb0
  have hab1 : a * b ≤ 12000 := by
    have : a * b ≤ 200 * 60 := Int.mul_le_mul ha1 hb1 hb0 (by omega)
    omega
  have an : ∀ n : Int, 0 ≤ n → n < 4294967296 → IntKind.u64.wrap ((((n % 2 ^ IntKind.u64.bits).toNat &&& 4294967295 % 2 ^ IntKind.u64.bits) : Nat) : Int) = n := fun n h0 h1 => by
    have := and32 h0 h1
    simp only [BitVec.toNat_and, BitVec.toNat_ofInt] at this
    exact this
  have a1 := an a ha0 (by omega)
  have a2 := an b hb0 (by omega)
  have a3 := an 0 (by omega) (by omega)
  have z1 := fd a ha0 (by omega)
  have z2 := fd b hb0 (by omega)
  have z3 := fd (a * b) hab0 (by omega)
  have z4 := fd 0 (by omega) (by omega)
  have w1 := wrap_u64' (a * b) hab0 (by omega)
  have w2 := wrap_u64' 0 (by omega) (by omega)
  apply Run.bodyL h0 Tryz.func49 rfl
  focus (simp [show Tryz.f49.ntmps = _ from rfl, List.replicate]; rfl)
  have gx := And.intro @a1 (And.intro @a2 (And.intro @a3 (And.intro @z1 (And.intro @z2 (And.intro @z3 (And.intro @z4 (And.intro @w1 (@w2))))))))
  refine goA ?_
  clear gx
  exact ⟨_, _, rfl, rfl⟩
def mulOk (a b : Int) : Prop := (0 ≤ a ∧ a ≤ 200) ∧ 0 ≤ b ∧ b ≤ 60
theorem r_Mul (h0 : E 25 = none) (h1 : E 49 = some (entry (gf2 u64 u64 (u64.tup2 u64) fun a b => gif (mulOk a b) (some (0, a * b))))) (a b : Int) (hab : mulOk a b) : Run Tryz.prog E 25 [u64.emb a, u64.emb b] ((u64.tup2 u64).emb (0, a * b)) := by
  apply Run.bodyL h0 Tryz.func25 rfl
  focus (simp [show Tryz.f25.ntmps = _ from rfl, List.replicate]; rfl)
  have gx := And.intro @h1 (@hab)
  refine goA ?_
  clear gx
  exact ⟨_, _, rfl, rfl⟩

omit hU in
theorem elem_info' {P : Program} {e : Nat} {n b : Nat} (h : pelem P e = some (n, b)) : ∃ i, P.info? e = some i ∧ i.size = n ∧ i.bytes = b := by
  unfold pelem at h
  split at h
  · rename_i i hi
    split at h
    · split at h
      · simp only [Option.some.injEq, Prod.mk.injEq] at h
        exact ⟨i, hi, h.1, h.2⟩
      · cases h
    · cases h
  · cases h
omit hU in
theorem make_bytes (σ : List SObj) (n : Nat) (hn : n ≤ 1000000) : pmake Tryz.prog σ 22 5 n n = some (.sref σ.length 0 n 1, σ ++ [.box (.agg ((List.replicate n 0).map u8.emb))]) := by
  obtain ⟨i, hi, h0, hb⟩ := elem_info' (P := Tryz.prog) (e := 5) (n := 1) (b := 1) (by kernel_rfl)
  have h1 : psize Tryz.prog 5 = some 1 := by kernel_rfl
  have h2 : pzero Tryz.prog 5 = some (.int .u8 0) := by kernel_rfl
  have hz : pzeros (.int .u8 0) 1 n = (List.replicate n 0).map u8.emb := by
    refine List.ext_getElem? fun j => ?_
    by_cases hj : j < n
    · simp [pzeros, PD.cells, hj, List.getElem?_replicate, Nat.mod_one, Em.int]
    · rw [List.getElem?_eq_none (by rw [pzeros_len]; omega), List.getElem?_eq_none (by simp; omega)]
  unfold pmake
  simp only [hi, h1, h2, hb]
  rw [if_pos ⟨Nat.le_refl _, by decide, rfl, rfl, by simp only [maxLen]; omega, by omega⟩, if_neg (fun h => h.2 h.1), if_pos trivial, if_pos (by decide), hz]
omit hU in
theorem emb_flat : ∀ l : List Int, (l.map u8.emb).flatMap PD.cells = l.map u8.emb
  | [] => rfl
  | x :: l => by
    rw [List.map_cons, List.flatMap_cons, emb_flat l]
    rfl
omit hU in
theorem emb_plain (l : List Int) : (l.map u8.emb).all PD.plain = true := by
  rw [List.all_eq_true]
  intro x hx
  obtain ⟨n, _, rfl⟩ := List.mem_map.1 hx
  rfl
omit hU in
/-- Bytes are copied into a box of bytes. -/
theorem copy_bytes {cells xs : List Int} {x : PD} {sz : Nat} {ys : List PD} {off n : Nat} (hv : pcopySrc Tryz.prog [.box (.agg (cells.map u8.emb))] 22 x = some (sz, ys)) (hl : ys.length = xs.length) (hsz : ys.length = 0 ∨ sz = 1)
    (hf : (ys.take n).flatMap PD.cells = (xs.take n).map u8.emb) (hle : off + (xs.take n).length ≤ cells.length) :
    pcopy Tryz.prog 0 [.box (.agg (cells.map u8.emb))] 22 22 (.sref 0 off n 1) x = some (.int .i64 (Nat.min xs.length n), [.box (.agg ((cells.take off ++ xs.take n ++ cells.drop (off + (xs.take n).length)).map u8.emb))]) := by
  have hu : Tryz.prog.underlying 22 = some (.slice 5) := by kernel_rfl
  have h1 : psize Tryz.prog 5 = some 1 := by kernel_rfl
  have hset : (PD.agg (cells.map u8.emb)).setCells off ((xs.take n).map u8.emb) = some (.agg ((cells.take off ++ xs.take n ++ cells.drop (off + (xs.take n).length)).map u8.emb)) := by
    unfold PD.setCells
    simp only [List.length_map]
    rw [if_pos hle]
    simp [pfillAt]
  unfold pcopy
  rw [hu, hv]
  simp only [h1]
  rw [if_pos hsz, if_pos ⟨Nat.zero_le _, trivial, by rw [hf]; exact emb_plain _⟩]
  simp only [List.getElem?_cons_zero, hf, hset, hl]
  rfl
def isB (r : List Int) : Prop := ∀ c ∈ r, 0 ≤ c ∧ c ≤ 255
theorem r_Repeat' (h0 : E 6 = none) (h1 : E 25 = some (entry (gf2 u64 u64 (u64.tup2 u64) fun a b => gif (mulOk a b) (some (0, a * b))))) (l : List Int) (hl : isB l) (hn : l.length ≤ 200) (k : Int) (hk : 1 ≤ k ∧ k ≤ 60) :
    WpC Tryz.prog E 0 (.inl 6) [u8s.emb l, i64.emb k] [] (fun p σ => ∃ r : List Int, isB r ∧ r.length ≤ 12000 ∧ p = .sref 0 0 r.length 1 ∧ σ = [.box (.agg (r.map u8.emb))]) := by
  obtain ⟨hk0, hk1⟩ := hk
  have g0 : ¬ k < 0 := by omega
  have w1 := wrap_u64' (l.length : Int) (by omega) (by omega)
  have w2 := wrap_u64' k (by omega) (by omega)
  have hm : mulOk (l.length : Int) k := by unfold mulOk; omega
  have hp0 : 0 ≤ (l.length : Int) * k := Int.mul_nonneg (by omega) (by omega)
  have hp1 : (l.length : Int) * k ≤ 12000 := by
    have : (l.length : Int) * k ≤ 200 * 60 := Int.mul_le_mul (by omega) hk1 (by omega) (by omega)
    omega
  obtain ⟨N, hN⟩ := Int.eq_ofNat_of_zero_le hp0
  rw [hN] at hp1
  have g1 : ¬ (N : Int) > 9223372036854775807 := by omega
  have hmk := make_bytes [] N (by omega)
  simp only [List.length_nil, List.nil_append] at hmk
  have hszl : (l.map u8.emb).length = 0 ∨ sz 1 l = 1 := by
    by_cases h : l = []
    · exact .inl (by simp [h])
    · exact .inr (by simp [sz, h])
  have hcp := copy_bytes (cells := List.replicate N 0) (xs := l) (x := u8s.emb l) (off := 0) (n := N) rfl (by simp) hszl (by rw [← List.map_take]; exact emb_flat _) (by rw [List.length_take, List.length_replicate]; omega)
  obtain ⟨C, hC⟩ : ∃ C, (List.replicate N 0).take 0 ++ l.take N ++ (List.replicate N 0).drop (0 + (l.take N).length) = C := ⟨_, rfl⟩
  rw [hC] at hcp
  have hCB : isB C := by
    rw [← hC]
    intro c hc
    simp only [List.take_zero, List.nil_append, List.mem_append] at hc
    rcases hc with hc | hc
    · exact hl c (List.mem_of_mem_take hc)
    · have := (List.mem_replicate.1 (List.mem_of_mem_drop hc)).2
      omega
  have hCl : C.length = N := by
    rw [← hC]
    simp only [List.take_zero, List.nil_append, List.length_append, List.length_drop, List.length_take, List.length_replicate, Nat.zero_add]
    omega
  obtain ⟨n0, hn0⟩ : ∃ n0, Nat.min l.length N = n0 := ⟨_, rfl⟩
  rw [hn0] at hcp
  obtain ⟨B0, hB0⟩ : ∃ B0, (List.replicate N (0 : Int)).map u8.emb = B0 := ⟨_, rfl⟩
  obtain ⟨B1, hB1⟩ : ∃ B1, C.map u8.emb = B1 := ⟨_, rfl⟩
  rw [hB0] at hmk
  rw [hB0, hB1] at hcp
  have hcp : pcopy Tryz.prog 0 [.box (.agg B0)] 22 22 (.sref 0 0 N 1) (.slice (sz 1 l) (l.map u8.emb) .any) = some (.int .i64 n0, [.box (.agg B1)]) := hcp
  apply WpC.bodyL h0 Tryz.func6 rfl
  focus (simp [show Tryz.f6.ntmps = _ from rfl, List.replicate]; rfl)
  have gx := And.intro @h1 (And.intro @hm (And.intro @w1 (And.intro @w2 (And.intro @g0 (And.intro @g1 (And.intro @hN (And.intro @hmk (@hcp))))))))
  refine goA ?_
  clear gx
  have hn0' : n0 ≤ N := by rw [← hn0]; exact Nat.min_le_right _ _
  have hpos : 0 < n0 ∨ N = 0 := by
    rcases Nat.eq_zero_or_pos l.length with h | h
    · right
      rw [h] at hN
      simp only [Int.natCast_zero, Int.zero_mul] at hN
      omega
    · rcases Nat.eq_zero_or_pos N with h' | h'
      · exact .inr h'
      · left
        have h2 : n0 = l.length ∨ n0 = N := by
          rcases Nat.le_total l.length N with h3 | h3
          · exact .inl (by rw [← hn0]; exact Nat.min_eq_left h3)
          · exact .inr (by rw [← hn0]; exact Nat.min_eq_right h3)
        omega
  subst hB1
  refine Wp.loopI (fun m fr σ => ∃ (n : Nat) (c : List Int), ∃ gg : Nat → PD, (n + m = N ∧ (0 < n ∨ N = 0) ∧ isB c ∧ c.length = N) ∧ fr = [gg 0, gg 1, gg 2, gg 3, gg 4, gg 5, gg 6, .sref 0 0 N 1, .int .i64 n, gg 9, gg 10, gg 11, gg 12, gg 13, gg 14, gg 15, gg 16, gg 17, gg 18, gg 19, gg 20, gg 21, gg 22, gg 23, gg 24, gg 25, gg 26, gg 27, gg 28, gg 29, gg 30, gg 31, gg 32, gg 33, gg 34, gg 35, gg 36, gg 37, gg 38, gg 39, gg 40, gg 41, gg 42, gg 43, gg 44, gg 45, gg 46, gg 47] ∧ σ = [.box (.agg (c.map u8.emb))]) ?_ (N - n0) (by refine ⟨n0, C, ?_⟩; exact exF (⟨by omega, hpos, hCB, hCl⟩) (by (first | rfl | (simp []; repeat (first | rfl | (apply And.intro))) | (simp []; done))) (by (first | rfl | (simp []; repeat (first | rfl | (apply And.intro))) | (simp []; done))))
  rintro m fr σ ⟨n, c, gg, hI, rfl, rfl⟩
  obtain ⟨hm', hp, hcB, hcl⟩ := hI
  by_cases hlt : n < N
  · have hlt' : (n : Int) < N := by omega
    have hp' : 0 < n := by omega
    have hcp2 := copy_bytes (cells := c) (xs := c.take n) (x := .sref 0 0 n 1) (sz := 1) (ys := pchunks 1 n (c.map u8.emb)) (off := n) (n := N - n) (by
        show pview [.box (.agg (c.map u8.emb))] (.sref 0 0 n 1) = _
        simp only [pview, List.getElem?_cons_zero, PD.cells, List.length_map, List.drop_zero]
        rw [if_pos (by omega)]) (by rw [pchunks_len, List.length_take]; omega) (.inr rfl) (by
        have hs : ∀ x ∈ pchunks 1 n (c.map u8.emb), x.cells.length = 1 := pchunks_size 1 n _ (by rw [List.length_map]; omega)
        rw [flat_take _ _ hs, pchunks_flat 1 n _ (by rw [List.length_map]; omega), ← List.map_take, ← List.map_take, Nat.mul_one, Nat.mul_one]) (by rw [List.length_take, List.length_take]; omega)
    obtain ⟨c', hc'⟩ : ∃ c', c.take n ++ (c.take n).take (N - n) ++ c.drop (n + ((c.take n).take (N - n)).length) = c' := ⟨_, rfl⟩
    rw [hc'] at hcp2
    have hcB' : isB c' := by
      rw [← hc']
      intro x hx
      simp only [List.mem_append] at hx
      rcases hx with (hx | hx) | hx
      · exact hcB x (List.mem_of_mem_take hx)
      · exact hcB x (List.mem_of_mem_take (List.mem_of_mem_take hx))
      · exact hcB x (List.mem_of_mem_drop hx)
    have hcl' : c'.length = N := by
      rw [← hc']
      simp only [List.length_append, List.length_take, List.length_drop]
      omega
    have hmin : Nat.min (c.take n).length (N - n) = min n (N - n) := by rw [List.length_take, hcl]; show min (min n N) (N - n) = _; omega
    rw [hmin] at hcp2
    obtain ⟨d, hd⟩ : ∃ d, min n (N - n) = d := ⟨_, rfl⟩
    rw [hd] at hcp2
    have hd0 : 0 < d ∧ n + d ≤ N := by omega
    obtain ⟨Bc, hBc⟩ : ∃ Bc, c.map u8.emb = Bc := ⟨_, rfl⟩
    obtain ⟨Bc', hBc'⟩ : ∃ Bc', c'.map u8.emb = Bc' := ⟨_, rfl⟩
    rw [hBc, hBc'] at hcp2
    rw [hBc]
    have k1 : n ≤ N := by omega
    have k2 : n < N ∨ n = 0 := by omega
    have gx := And.intro @hlt (And.intro @hlt' (And.intro @hcp2 (And.intro @k1 (@k2))))
    refine goA ?_
    clear gx
    refine LoopI.normal (N - (n + d)) (by omega) (by refine ⟨n + d, c', ?_⟩; exact exF (⟨by omega, by omega, hcB', hcl'⟩) (by (first | rfl | (simp [hBc']; repeat (first | rfl | (apply And.intro))) | (simp [hBc']; done))) (by (first | rfl | (simp [hBc']; repeat (first | rfl | (apply And.intro))) | (simp [hBc']; done))))
  · have hlt' : ¬ (n : Int) < N := by omega
    have gx := @hlt'
    refine goA ?_
    clear gx
    exact ⟨_, _, rfl, c, hcB, by omega, by rw [hcl]; rfl, rfl⟩
end Go.Kz

/-
  Chapter 53: StoreSums walked.
-/
namespace Go.Kz
open Go Go.Proofs
set_option maxRecDepth 100000
set_option maxHeartbeats 4000000
def okR (l : List Int) (k : Int) : Prop := (isB l ∧ l.length ≤ 200) ∧ 1 ≤ k ∧ k ≤ 60
def okS (l : List Int) : Prop := isB l ∧ l.length < 100000
theorem thaw_emb (σ : List SObj) (r : List Int) : (r.map u8.emb).map (thaw σ 1) = r.map u8.emb := by
  rw [List.map_map]
  rfl
theorem emb_idfree : ∀ r : List Int, PD.idfreeL (r.map u8.emb) = true
  | [] => rfl
  | x :: r => by
    show (PD.idfree (.int .u8 x) && PD.idfreeL (r.map u8.emb)) = true
    rw [emb_idfree r]
    rfl
theorem emb_strip : ∀ r : List Int, (r.map u8.emb).map PD.strip = r.map u8.emb
  | [] => rfl
  | x :: r => by rw [List.map_cons, List.map_cons, emb_strip r]; rfl
section
variable {E : PExt} (hU : Uni E)
include hU
theorem r_Repeat (h0 : E 6 = none) (h1 : E 25 = some (entry (gf2 u64 u64 (u64.tup2 u64) fun a b => gif (mulOk a b) (some (0, a * b))))) (l : List Int) (k : Int) (hk : okR l k) :
    ∃ r : List Int, (isB r ∧ r.length ≤ 12000) ∧ RunT Tryz.prog E 6 [u8s.emb l, i64.emb k] (u8s.emb r) := by
  obtain ⟨p, σ', hEv, r, hB, hlen, rfl, rfl⟩ := (r_Repeat' hU h0 h1 l hk.1.1 hk.1.2 k hk.2).ex
  refine ⟨r, ⟨hB, hlen⟩, 2, _, _, hEv, ?_⟩
  have e : thaw [.box (.agg (r.map u8.emb))] 2 (.sref 0 0 r.length 1) = .slice 1 (r.map u8.emb) .any := by
    simp only [thaw, List.getElem?_cons_zero, PD.cells, List.length_map, List.drop_zero]
    rw [if_pos (by omega), thaw_emb]
    simp [pch]
    try exact List.take_of_length_le (by simp)
  rw [e]
  constructor
  · rw [PD.strip_slice, emb_strip]
    show _ = PD.slice (sz 1 r) (r.map u8.emb) .any
    cases r <;> simp [sz]
  · show (PD.idfreeL (r.map u8.emb) && true) = true
    rw [emb_idfree]
    rfl

theorem r_StoreSums (h0 : E 3 = none) (hk : E 5 = some (entry (gf0 Em.bool (some true)))) {rep : List Int → Int → List Int}
    (hR : E 6 = some (entry (gf2 u8s i64 u8s fun l k => gif (okR l k) (some (rep l k))))) (hrep : ∀ l k, okR l k → okS (rep l k)) (hS : E 7 = some (entry (gf1 u8s u32 fun l => gif (okS l) (some (sumOf l)))))
    (hs : E 8 = some (entry (gf1 u8s u32 fun l => gif (okS l) (some (sumOf l))))) (b : List Int) (hb : isB b) (t : Int) (ht : 0 ≤ t ∧ t ≤ 255) : Run Tryz.prog E 3 [u8s.emb b, u8.emb t] (Em.bool.emb true) := by
  obtain ⟨ht0, ht1⟩ := ht
  apply Run.bodyL h0 Tryz.func3 rfl
  focus (simp [show Tryz.f3.ntmps = _ from rfl, List.replicate]; rfl)
  by_cases hl : 200 < b.length
  · have hl' : (b.length : Int) > 200 := by omega
    have gx := And.intro @hk (And.intro @hl (@hl'))
    refine goA ?_
    clear gx
    exact ⟨_, _, rfl, rfl⟩
  · have hl' : ¬ (b.length : Int) > 200 := by omega
    obtain ⟨d, hd⟩ : ∃ d, t.tmod 60 = d := ⟨_, rfl⟩
    have hd' : t % 60 = d := by rw [← hd, Int.tmod_eq_emod_of_nonneg ht0]
    have hd0 : 0 ≤ d ∧ d ≤ 59 := by omega
    have w1 : IntKind.i64.wrap d = d := wrap_i64 (by omega) (by omega)
    have w2 : IntKind.i64.wrap (1 + d) = 1 + d := wrap_i64 (by omega) (by omega)
    have ho : okR b (1 + d) := ⟨⟨hb, by omega⟩, by omega⟩
    have hS' := hrep b (1 + d) ho
    have gx := And.intro @hk (And.intro @hl (And.intro @hl' (And.intro @hR (And.intro @hS (And.intro @hs (And.intro @hd (And.intro @w1 (And.intro @w2 (And.intro @ho (@hS'))))))))))
    refine goA ?_
    clear gx
    exact ⟨_, _, rfl, rfl⟩
end
end Go.Kz

/-
  Chapter 53: the table of StoreSums.
-/
namespace Go.Kz
open Go Go.Proofs
set_option maxRecDepth 100000
theorem ExtOk.pick {P : Program} {E E0 : PExt} (hE : ExtOk P E) (h0 : ExtOk P E0) {f : FuncId} {g} (h : E f = some g) : ExtOk P (E0.add f g) := by
  intro F fl f' g' args c vs p σ' hF hg hgo hs hX hv
  unfold PExt.add at hg
  split at hg
  · rename_i e
    subst e
    simp only [Option.some.injEq] at hg; subst hg
    exact hE hF h hgo hs hX hv
  · exact h0 hF hg hgo hs hX hv

noncomputable def St0 : PExt := fun _ => none
theorem St0_ok {P : Program} : ExtOk P St0 := fun _ hg => by cases hg
theorem St0_uni : Uni St0 := Uni.none
noncomputable def St1 : PExt := St0.add 5 (entry (gf0 Em.bool (some true)))
theorem St1_ok : ExtOk Tryz.prog St1 := ExtOk.pick PuK_ok St0_ok (if_pos rfl)
theorem St1_uni : Uni St1 := St0_uni.entry
noncomputable def St2 : PExt := St1.add 49 (entry (gf2 u64 u64 (u64.tup2 u64) fun a b => gif (mulOk a b) (some (0, a * b))))
theorem St2_ok : ExtOk Tryz.prog St2 := St1_ok.add2 fol fun a b z h => by
  obtain ⟨h1, h2⟩ := gif_some h
  obtain rfl := Option.some.inj h2
  exact r_Mul64 St1_uni rfl a b h1.1 h1.2
theorem St2_uni : Uni St2 := St1_uni.entry
noncomputable def St3 : PExt := St2.add 25 (entry (gf2 u64 u64 (u64.tup2 u64) fun a b => gif (mulOk a b) (some (0, a * b))))
theorem St3_ok : ExtOk Tryz.prog St3 := St2_ok.add2 fol fun a b z h => by
  obtain ⟨h1, h2⟩ := gif_some h
  obtain rfl := Option.some.inj h2
  exact r_Mul St2_uni rfl rfl a b h1
theorem St3_uni : Uni St3 := St2_uni.entry
open Classical in
noncomputable def rep (l : List Int) (k : Int) : List Int := if h : okR l k then Classical.choose (r_Repeat St3_uni rfl rfl l k h) else []
theorem rep_run {l : List Int} {k : Int} (h : okR l k) : (isB (rep l k) ∧ (rep l k).length ≤ 12000) ∧ RunT Tryz.prog St3 6 [u8s.emb l, i64.emb k] (u8s.emb (rep l k)) := by
  unfold rep
  rw [dif_pos h]
  exact Classical.choose_spec (r_Repeat St3_uni rfl rfl l k h)
noncomputable def St4 : PExt := St3.add 6 (entry (gf2 u8s i64 u8s fun l k => gif (okR l k) (some (rep l k))))
theorem St4_ok : ExtOk Tryz.prog St4 := St3_ok.addT2 fol fun l k z h => by
  obtain ⟨h1, h2⟩ := gif_some h
  obtain rfl := Option.some.inj h2
  exact (rep_run h1).2
theorem St4_uni : Uni St4 := St3_uni.entry
noncomputable def St5 : PExt := St4.add 7 (entry (gf1 u8s u32 fun l => gif (okS l) (some (sumOf l))))
theorem St5_ok : ExtOk Tryz.prog St5 := St4_ok.add1 fol fun l z h => by
  obtain ⟨h1, h2⟩ := gif_some h
  obtain rfl := Option.some.inj h2
  exact r_Sum St4_uni rfl l h1.1 h1.2
theorem St5_uni : Uni St5 := St4_uni.entry
noncomputable def St6 : PExt := St5.add 8 (entry (gf1 u8s u32 fun l => gif (okS l) (some (sumOf l))))
theorem St6_ok : ExtOk Tryz.prog St6 := St5_ok.add1 fol fun l z h => by
  obtain ⟨h1, h2⟩ := gif_some h
  obtain rfl := Option.some.inj h2
  exact r_sum St5_uni rfl l h1.1 h1.2
theorem St6_uni : Uni St6 := St5_uni.entry
theorem run_StoreSums (b : List Int) (hb : isB b) (t : Int) (ht : 0 ≤ t ∧ t ≤ 255) : Run Tryz.prog St6 3 [u8s.emb b, u8.emb t] (Em.bool.emb true) :=
  r_StoreSums St6_uni rfl rfl rfl (fun l k h => ⟨(rep_run h).1.1, by have := (rep_run h).1.2; omega⟩) rfl rfl b hb t ht
end Go.Kz

/-
  StoreSums holds: the law answers true, whatever it is handed.
-/
namespace Go.Proofs.YtkmkgiaejlkjlaaGreat
open Go Go.Kz Go.ChangeShapes Go.WideShapes Go.ChangeAt Go.WideMaps Go.WideElems Go.RowKit
set_option maxRecDepth 100000
theorem own : ownKnob Tryz.prog.godebug = none := by kernel_rfl
theorem laidOut : laidOutB Tryz.prog = true := by kernel_rfl
theorem follows : Tryz.prog.follows .mixedOrders = true := by kernel_rfl
theorem glob (W : World) : Gl (.start W) := by
  refine ⟨fun g ds hg => ?_, fun g hg => ?_⟩
  · unfold gcells gtab at hg
    cases hg
  · unfold gheld gtab gint at hg
    cases hg
theorem named : (Tryz.prog.funcs.toList.all fun fn => !(fn.name == "runtime.NumGoroutine")) = true := by kernel_rfl
theorem names (f : FuncId) (fn : Func) (h : Tryz.prog.funcs[f]? = some fn) : (fn.name == "runtime.NumGoroutine") = false := by
  have := List.all_eq_true.1 named fn (Array.mem_toList_iff.2 (Array.mem_of_getElem? h))
  simpa using this
theorem ty_u8' {d : Nat} {qs : List PD} (h : Typed Tryz.prog (d + 2) 5 qs) : ∃ n : Int, asPD Tryz.prog 5 qs = u8.emb n ∧ 0 ≤ n ∧ n ≤ 255 := by
  obtain ⟨n, rfl, w⟩ := typed_int Tryz.underlying5 h
  exact ⟨n, by rfl, wf_u8 w⟩
theorem ty_bytes {d : Nat} {qs : List PD} (h : Typed Tryz.prog (d + 3) 22 qs) : ∃ l : List Int, asPD Tryz.prog 22 qs = u8s.emb l ∧ isB l := by
  obtain ⟨ys, rfl, _, h2⟩ := typed_list (em := u8) (R := fun x => 0 ≤ x ∧ x ≤ 255) Tryz.underlying22 (k := 1) (by kernel_rfl) (fun x hx => ty_u8' hx) h
  exact ⟨ys, asPD_one (by kernel_rfl), h2⟩

theorem lifted_StoreSums (os : Os) (started : os.Started) (H : Type) (enc : TypeId × Value → H) :
    ReturnsInHanded {} Tryz.checked os 3 .any (Rows.storeSumsSpec.pre6 enc Tryz.prog Tryz.f3 [] false)
      (Rows.storeSumsSpec.post enc Tryz.prog Tryz.f3 false true false false) := by
  refine returnsInHanded_of_change own started (by kernel_rfl) Tryz.func3
    (ChangeSpec.witness6 false ⟨#[], #[.slice none 0 0, .int .u8 0], []⟩ 12 (by kernel_rfl) (by kernel_rfl) (by kernel_rfl) (by kernel_rfl)) ?_
  intro W base args ds gs before hval hW _ _
  have hval : ∀ (j : Nat) t v, Tryz.f3.params[j]? = some t → args[j]? = some v → Value.okWide Tryz.prog W .any base t v := hval
  have hW' := hW
  obtain ⟨p, q, hA, _, _, _, _⟩ := hW
  have hA : DataW.TrodAll enc Tryz.prog W 0 (fun _ => true) true Tryz.f3.params.toList args.toList ds p := hA
  rw [Tryz.params3] at hA hval
  obtain ⟨v1, v2, d1, d2, p1, p2, rfl, _, _, h1, h2⟩ := trodAll_two hA
  obtain ⟨q1, t1, r1⟩ := arg_typed (n := 12) (t := 22) (v := v1) (by kernel_rfl) (hval 0 _ _ rfl rfl) h1
  obtain ⟨b, e1, hb⟩ := ty_bytes t1
  rw [e1] at r1
  obtain ⟨q2, t2, r2⟩ := arg_typed (n := 12) (t := 5) (v := v2) (by kernel_rfl) (hval 1 _ _ rfl rfl) h2
  obtain ⟨t, e2, ht⟩ := ty_u8' t2
  rw [e2] at r2
  have run := run_StoreSums b hb t ht
  refine (Run.calls St6_ok follows names run (glob W) (vrs_cons r1 (vrs_cons r2 vrs_nil))).mono fun e' W' ⟨he, hb⟩ => ?_
  subst he
  exact ⟨_, rfl, law_post laidOut rfl hW' hb rfl Tryz.underlying4 (by kernel_rfl) (fun ds hg hd => by
    subst hg
    match ds, hd with
    | [d1, d2], _ => rfl)⟩

theorem storeSums_holds : Rows.StoreSumsSaid :=
  OpenClaim.holds_of_wide 3 Tryz.f3 rfl rfl rfl rfl rfl rfl rfl ⟨rfl, rfl, rfl, rfl, rfl⟩ rfl rfl rfl rfl rfl (by kernel_rfl) Tryz.func3 (by kernel_rfl)
    (of_decide_eq_true (by kernel_rfl)) (by unfold Func.isWrapper; first | (rw [if_pos (by decide +kernel)]; kernel_rfl) | (rw [if_neg (by decide +kernel)]; exact ⟨rfl, rfl⟩))
    (fun os started H enc _ => lifted_StoreSums os started H enc)
end Go.Proofs.YtkmkgiaejlkjlaaGreat
