/-
  Part P6 of the way: an interpreter over pure data, its soundness, walks through functions.
-/
import Derived.Test.YtclleofcjnggaaaDoorP4
import Derived.Test.YtclleofcjnggaaaDoorP2
set_option linter.all false

/-
  How many bits of a word are set, as math/bits counts them.
-/
namespace Go.Kz
open Go Go.Proofs

def pcN : Nat → Nat → Nat
  | 0, _ => 0
  | n + 1, x => x % 2 + pcN n (x / 2)

theorem pcN_add : ∀ (a b x : Nat), pcN (a + b) x = pcN a x + pcN b (x / 2 ^ a)
  | 0, b, x => by simp [pcN]
  | a + 1, b, x => by
    rw [show a + 1 + b = (a + b) + 1 by omega]
    simp only [pcN]
    rw [pcN_add a b (x / 2), Nat.div_div_eq_div_mul, Nat.pow_succ, Nat.mul_comm 2]
    omega
theorem pcN_mod : ∀ (n x : Nat), pcN n (x % 2 ^ n) = pcN n x
  | 0, x => by simp [pcN]
  | n + 1, x => by
    simp only [pcN]
    have h1 : x % 2 ^ (n + 1) % 2 = x % 2 := Nat.mod_mod_of_dvd _ (by rw [Nat.pow_succ]; exact Nat.dvd_mul_left _ _)
    have h2 : x % 2 ^ (n + 1) / 2 = x / 2 % 2 ^ n := by
      rw [Nat.pow_succ, Nat.mul_comm, Nat.mod_mul_right_div_self]
    rw [h1, h2, pcN_mod n (x / 2)]

theorem bits_pcN (x : BitVec 64) : (bits x).length = pcN 64 x.toNat := by
  have key : ∀ (n x : Nat), ((List.range n).filter x.testBit).length = pcN n x := by
    intro n
    induction n with
    | zero => intro x; rfl
    | succ n ih =>
      intro x
      rw [List.range_succ_eq_map, List.filter_cons, List.filter_map]
      have h1 : (x.testBit ∘ Nat.succ) = (x / 2).testBit := by
        funext i
        simp [Nat.testBit_succ]
      rw [h1]
      have h2 := ih (x / 2)
      have h3 : x.testBit 0 = decide (x % 2 = 1) := by rw [Nat.testBit_zero]
      simp only [pcN]
      split
      · rename_i h
        rw [h3] at h
        simp at h
        rw [List.length_cons, List.length_map, h2]
        omega
      · rename_i h
        rw [h3] at h
        simp at h
        rw [List.length_map, h2]
        omega
  exact key 64 x.toNat

theorem and256 {q r m s : Nat} (hr : r < 256) (hs : s < 256) : (256 * q + r) &&& (256 * m + s) = 256 * (q &&& m) + (r &&& s) := by
  have hrs : r &&& s < 2 ^ 8 := Nat.and_lt_two_pow r hs
  apply Nat.eq_of_testBit_eq
  intro i
  rw [Nat.testBit_and, show (256 : Nat) = 2 ^ 8 from rfl, Nat.testBit_two_pow_mul_add _ hr, Nat.testBit_two_pow_mul_add _ hs, Nat.testBit_two_pow_mul_add _ hrs]
  split <;> simp [Nat.testBit_and]

def msk (c : Nat) : Nat → Nat
  | 0 => 0
  | n + 1 => 256 * msk c n + c

def a8 (r : Nat) : Nat := (r / 2 &&& 85) + (r &&& 85)
def b8 (r : Nat) : Nat := (r / 4 &&& 51) + (r &&& 51)
def c8 (r : Nat) : Nat := (r / 16 + r) &&& 15

theorem a8_ok : ∀ t : Fin 2, ∀ r : Fin 256, (128 * t.val + r.val / 2) &&& 85 = r.val / 2 &&& 85 ∧ a8 r.val < 256 := by decide +kernel
theorem b8_ok : ∀ t : Fin 4, ∀ r : Fin 256, (64 * t.val + r.val / 4) &&& 51 = r.val / 4 &&& 51 ∧ b8 (a8 r.val) < 69 ∧ b8 (a8 r.val) % 16 ≤ 4 ∧ b8 (a8 r.val) / 16 ≤ 4 ∧ c8 (b8 (a8 r.val)) = pcN 8 r.val ∧ pcN 8 r.val ≤ 8 := by decide +kernel
theorem c8_ok : ∀ t : Fin 5, ∀ r : Fin 69, (16 * t.val + r.val / 16 + r.val) &&& 15 = c8 r.val := by decide +kernel

def A (n x : Nat) : Nat := (x / 2 &&& msk 85 n) + (x &&& msk 85 n)
def B (n x : Nat) : Nat := (x / 4 &&& msk 51 n) + (x &&& msk 51 n)
def C (n x : Nat) : Nat := (x / 16 + x) &&& msk 15 n

theorem A_step {n q r : Nat} (hr : r < 256) : A (n + 1) (256 * q + r) = 256 * A n q + a8 r := by
  have h1 : (256 * q + r) / 2 = 256 * (q / 2) + (128 * (q % 2) + r / 2) := by omega
  have h2 := (a8_ok ⟨q % 2, by omega⟩ ⟨r, hr⟩).1
  simp only at h2
  simp only [A, msk]
  rw [h1, and256 (by omega) (by omega), and256 hr (by omega), h2, a8]
  omega
theorem B_step {n q r : Nat} (hr : r < 256) : B (n + 1) (256 * q + a8 r) = 256 * B n q + b8 (a8 r) := by
  have h0 := (a8_ok 0 ⟨r, hr⟩).2
  simp only at h0
  have h1 : (256 * q + a8 r) / 4 = 256 * (q / 4) + (64 * (q % 4) + a8 r / 4) := by omega
  have h2 := (b8_ok ⟨q % 4, by omega⟩ ⟨a8 r, h0⟩).1
  simp only at h2
  simp only [B, msk]
  rw [h1, and256 (by omega) (by omega), and256 h0 (by omega), h2]
  unfold b8
  omega
theorem C_step {n q r : Nat} (hr : r < 69) (hq : q % 16 ≤ 4) : C (n + 1) (256 * q + r) = 256 * C n q + c8 r := by
  have h1 : (256 * q + r) / 16 + (256 * q + r) = 256 * (q / 16 + q) + (16 * (q % 16) + r / 16 + r) := by omega
  have h2 := c8_ok ⟨q % 16, by omega⟩ ⟨r, hr⟩
  simp only at h2
  simp only [C, msk]
  rw [h1, and256 (by omega) (by omega), h2]

theorem BA_step {n q r : Nat} (hr : r < 256) : B (n + 1) (A (n + 1) (256 * q + r)) = 256 * B n (A n q) + b8 (a8 r) := by
  rw [A_step hr, B_step hr]
theorem BA_low : ∀ (n q : Nat), B n (A n q) % 16 ≤ 4
  | 0, q => by simp [A, B, msk]
  | n + 1, q => by
    have h := b8_ok 0 ⟨q % 256, by omega⟩
    simp only at h
    have e : q = 256 * (q / 256) + q % 256 := by omega
    rw [e, BA_step (by omega)]
    omega

def swar (n x : Nat) : Nat := C n (B n (A n x))
theorem swar_step {n q r : Nat} (hr : r < 256) : swar (n + 1) (256 * q + r) = 256 * swar n q + pcN 8 r := by
  have h := b8_ok 0 ⟨r, hr⟩
  simp only at h
  unfold swar
  rw [BA_step hr, C_step h.2.1 (BA_low n q), h.2.2.2.2.1]
theorem swar_div (n x : Nat) : swar (n + 1) x = 256 * swar n (x / 256) + pcN 8 x := by
  have e : x = 256 * (x / 256) + x % 256 := by omega
  have h := swar_step (n := n) (q := x / 256) (r := x % 256) (by omega)
  rw [← e] at h
  rw [h, pcN_mod 8 x]
theorem swar_zero (x : Nat) : swar 0 x = 0 := by simp [swar, C, msk]
theorem pc8_le (x : Nat) : pcN 8 x ≤ 8 := by
  rw [← pcN_mod 8 x]
  exact (b8_ok 0 ⟨x % 2 ^ 8, Nat.mod_lt _ (by decide)⟩).2.2.2.2.2

theorem swar_u {q2 q3 p0 p1 p2 y q1 z : Nat} (h0 : p0 ≤ 8) (h1 : p1 ≤ 8) (h2 : p2 ≤ 8) (hy : y = 65536 * q2 + 256 * p1 + p0) (hq : q1 = 65536 * q3 + 256 * p2 + p1) (ez : z = y + q1) : z / 65536 = q2 + q3 := by omega
theorem swar_v {q4 q5 q6 q7 a b c d u : Nat} (ha : a < 268435456) (hb : b < 268435456) (hc : c < 268435456) (hd : d < 268435456) (eu : u = (4294967296 * q4 + a) + (4294967296 * q5 + b) + (4294967296 * q6 + c) + (4294967296 * q7 + d)) : u / 4294967296 = q4 + q5 + q6 + q7 := by omega
theorem swar_m {s t v : Nat} (hs : s ≤ 64) (hv : v = 256 * t + s) : v % 128 = s := by omega
theorem swar_4 {p0 p1 p2 p3 q y : Nat} (h0 : p0 ≤ 8) (h1 : p1 ≤ 8) (h2 : p2 ≤ 8) (h3 : p3 ≤ 8) (hy : y = 256 * (256 * (256 * (256 * q + p3) + p2) + p1) + p0) : ∃ a, a < 268435456 ∧ y = 4294967296 * q + a :=
  ⟨16777216 * p3 + 65536 * p2 + 256 * p1 + p0, by omega, by omega⟩

theorem swar_poly {p0 p1 p2 p3 p4 p5 p6 p7 y z u v : Nat} (h0 : p0 ≤ 8) (h1 : p1 ≤ 8) (h2 : p2 ≤ 8) (h3 : p3 ≤ 8) (h4 : p4 ≤ 8) (h5 : p5 ≤ 8) (h6 : p6 ≤ 8) (h7 : p7 ≤ 8)
    (hy : y = 256 * (256 * (256 * (256 * (256 * (256 * (256 * p7 + p6) + p5) + p4) + p3) + p2) + p1) + p0) (ez : z = y + y / 256) (eu : u = z + z / 65536) (ev : v = u + u / 4294967296) :
    y < 723401728380766731 ∧ v % 128 = p0 + p1 + p2 + p3 + p4 + p5 + p6 + p7 := by
  have hlt : y < 723401728380766731 := by rw [hy]; omega
  refine ⟨hlt, ?_⟩
  clear hlt
  obtain ⟨q6, e6⟩ : ∃ q, q = 256 * p7 + p6 := ⟨_, rfl⟩
  rw [← e6] at hy
  obtain ⟨q5, e5⟩ : ∃ q, q = 256 * q6 + p5 := ⟨_, rfl⟩
  rw [← e5] at hy
  obtain ⟨q4, e4⟩ : ∃ q, q = 256 * q5 + p4 := ⟨_, rfl⟩
  rw [← e4] at hy
  obtain ⟨q3, e3⟩ : ∃ q, q = 256 * q4 + p3 := ⟨_, rfl⟩
  rw [← e3] at hy
  obtain ⟨q2, e2⟩ : ∃ q, q = 256 * q3 + p2 := ⟨_, rfl⟩
  rw [← e2] at hy
  obtain ⟨q1, e1⟩ : ∃ q, q = 256 * q2 + p1 := ⟨_, rfl⟩
  rw [← e1] at hy
  have hz : y / 256 = q1 := by clear ez eu ev e1 e2 e3 e4 e5 e6; omega
  rw [hz] at ez
  have hu : z / 65536 = q2 + q3 := by
    have a1 : y = 65536 * q2 + 256 * p1 + p0 := by clear ez eu ev hz e2 e3 e4 e5 e6; omega
    have a2 : q1 = 65536 * q3 + 256 * p2 + p1 := by clear ez eu ev hz e3 e4 e5 e6 hy; omega
    exact swar_u h0 h1 h2 a1 a2 ez
  rw [hu] at eu
  have hv : u / 4294967296 = q4 + q5 + q6 + p7 := by
    obtain ⟨a, ha, ea⟩ := swar_4 (y := y) (q := q4) h0 h1 h2 h3 (by rw [hy, e1, e2, e3])
    obtain ⟨b, hb, eb⟩ := swar_4 (y := q1) (q := q5) h1 h2 h3 h4 (by rw [e1, e2, e3, e4])
    obtain ⟨c, hc, ec⟩ := swar_4 (y := q2) (q := q6) h2 h3 h4 h5 (by rw [e2, e3, e4, e5])
    obtain ⟨d, hd, ed⟩ := swar_4 (y := q3) (q := p7) h3 h4 h5 h6 (by rw [e3, e4, e5, e6])
    refine swar_v ha hb hc hd ?_
    rw [← ea, ← eb, ← ec, ← ed, eu, ez]
    clear hy ez eu ev e1 e2 e3 e4 e5 e6 hz hu ea eb ec ed
    omega
  rw [hv] at ev
  refine swar_m (t := q1 + q2 + q3 + q4 + q5 + q6 + p7) (by clear hy ez eu ev e1 e2 e3 e4 e5 e6 hz hu hv; omega) ?_
  rw [ev, eu, ez, hy]
  clear ev eu ez hy hz hu hv
  omega

theorem swar_eight (x : Nat) : swar 8 x = 256 * (256 * (256 * (256 * (256 * (256 * (256 * pcN 8 (x / 256 / 256 / 256 / 256 / 256 / 256 / 256) + pcN 8 (x / 256 / 256 / 256 / 256 / 256 / 256)) + pcN 8 (x / 256 / 256 / 256 / 256 / 256)) + pcN 8 (x / 256 / 256 / 256 / 256)) + pcN 8 (x / 256 / 256 / 256)) + pcN 8 (x / 256 / 256)) + pcN 8 (x / 256)) + pcN 8 x := by
  have e0 := swar_div 7 x
  have e1 := swar_div 6 (x / 256)
  have e2 := swar_div 5 (x / 256 / 256)
  have e3 := swar_div 4 (x / 256 / 256 / 256)
  have e4 := swar_div 3 (x / 256 / 256 / 256 / 256)
  have e5 := swar_div 2 (x / 256 / 256 / 256 / 256 / 256)
  have e6 := swar_div 1 (x / 256 / 256 / 256 / 256 / 256 / 256)
  have e7 := swar_div 0 (x / 256 / 256 / 256 / 256 / 256 / 256 / 256)
  rw [swar_zero, Nat.mul_zero] at e7
  rw [e0, e1, e2, e3, e4, e5, e6, e7, Nat.zero_add]
theorem pcN_eight (x : Nat) : pcN 64 x = pcN 8 x + (pcN 8 (x / 256) + (pcN 8 (x / 256 / 256) + (pcN 8 (x / 256 / 256 / 256) + (pcN 8 (x / 256 / 256 / 256 / 256) + (pcN 8 (x / 256 / 256 / 256 / 256 / 256) + (pcN 8 (x / 256 / 256 / 256 / 256 / 256 / 256) + (pcN 8 (x / 256 / 256 / 256 / 256 / 256 / 256 / 256)))))))) := by
  have e0 := pcN_add 8 56 x
  have e1 := pcN_add 8 48 (x / 256)
  have e2 := pcN_add 8 40 (x / 256 / 256)
  have e3 := pcN_add 8 32 (x / 256 / 256 / 256)
  have e4 := pcN_add 8 24 (x / 256 / 256 / 256 / 256)
  have e5 := pcN_add 8 16 (x / 256 / 256 / 256 / 256 / 256)
  have e6 := pcN_add 8 8 (x / 256 / 256 / 256 / 256 / 256 / 256)
  rw [show (2 : Nat) ^ 8 = 256 from rfl] at e0 e1 e2 e3 e4 e5 e6
  rw [e0, e1, e2, e3, e4, e5, e6]

theorem swar_sum {x y z u v : Nat} (hy : y = swar 8 x) (ez : z = y + y / 256) (eu : u = z + z / 65536) (ev : v = u + u / 4294967296) : y < 723401728380766731 ∧ v % 128 = pcN 64 x := by
  rw [swar_eight] at hy
  have h := swar_poly (pc8_le x) (pc8_le (x / 256)) (pc8_le (x / 256 / 256)) (pc8_le (x / 256 / 256 / 256)) (pc8_le (x / 256 / 256 / 256 / 256)) (pc8_le (x / 256 / 256 / 256 / 256 / 256)) (pc8_le (x / 256 / 256 / 256 / 256 / 256 / 256)) (pc8_le (x / 256 / 256 / 256 / 256 / 256 / 256 / 256)) hy ez eu ev
  refine ⟨h.1, h.2.trans ?_⟩
  rw [pcN_eight]
  simp only [Nat.add_assoc]

end Go.Kz

/-
  Layer 3: Count. Layer 11: feet.
-/
namespace Go.Kz
open Go Go.Proofs

def ones (x : BitVec 64) : BitVec 64 :=
  let a := (x >>> 1 &&& 6148914691236517205#64) + (x &&& 6148914691236517205#64)
  let b := (a >>> 2 &&& 3689348814741910323#64) + (a &&& 3689348814741910323#64)
  let c := (b >>> 4 + b) &&& 1085102592571150095#64
  let d := c + c >>> 8
  let e := d + d >>> 16
  e + e >>> 32

theorem msk85 : msk 85 8 = 6148914691236517205 := by decide
theorem msk51 : msk 51 8 = 3689348814741910323 := by decide
theorem msk15 : msk 15 8 = 1085102592571150095 := by decide

theorem and_le {a b : Nat} : a &&& b ≤ b := Nat.and_le_right

theorem A_lt (x : Nat) : A 8 x < 18446744073709551616 := by
  have h1 : x / 2 &&& msk 85 8 ≤ msk 85 8 := and_le
  have h2 : x &&& msk 85 8 ≤ msk 85 8 := and_le
  rw [msk85] at h1 h2
  unfold A
  rw [msk85]
  omega
theorem B_lt (x : Nat) : B 8 x ≤ 7378697629483820646 := by
  have h1 : x / 4 &&& msk 51 8 ≤ msk 51 8 := and_le
  have h2 : x &&& msk 51 8 ≤ msk 51 8 := and_le
  rw [msk51] at h1 h2
  unfold B
  rw [msk51]
  omega

theorem ones_toNat (x : BitVec 64) : (ones x).toNat < 9223372036854775808 ∧ (ones x).toNat % 128 = pcN 64 x.toNat := by
  obtain ⟨y, ey⟩ : ∃ y, y = swar 8 x.toNat := ⟨_, rfl⟩
  have hs := swar_sum ey rfl rfl rfl
  obtain ⟨a, ha⟩ : ∃ a, a = (x >>> 1 &&& 6148914691236517205#64) + (x &&& 6148914691236517205#64) := ⟨_, rfl⟩
  have ea : a.toNat = A 8 x.toNat := by
    have h := A_lt x.toNat
    unfold A at h ⊢
    rw [msk85] at h ⊢
    rw [ha, BitVec.toNat_add, BitVec.toNat_and, BitVec.toNat_and, BitVec.toNat_ushiftRight, Nat.shiftRight_eq_div_pow]
    exact Nat.mod_eq_of_lt h
  obtain ⟨b, hb⟩ : ∃ b, b = (a >>> 2 &&& 3689348814741910323#64) + (a &&& 3689348814741910323#64) := ⟨_, rfl⟩
  have eb : b.toNat = B 8 (A 8 x.toNat) := by
    have h := B_lt (A 8 x.toNat)
    unfold B at h ⊢
    rw [msk51] at h ⊢
    rw [hb, BitVec.toNat_add, BitVec.toNat_and, BitVec.toNat_and, BitVec.toNat_ushiftRight, Nat.shiftRight_eq_div_pow, ea, show (3689348814741910323#64).toNat = 3689348814741910323 from by decide, show (2 : Nat) ^ 2 = 4 from rfl]
    exact Nat.mod_eq_of_lt (by omega)
  obtain ⟨c, hc⟩ : ∃ c, c = (b >>> 4 + b) &&& 1085102592571150095#64 := ⟨_, rfl⟩
  have ec : c.toNat = y := by
    rw [ey]
    have h := B_lt (A 8 x.toNat)
    unfold swar C
    rw [msk15, hc, BitVec.toNat_and, BitVec.toNat_add, BitVec.toNat_ushiftRight, Nat.shiftRight_eq_div_pow, eb]
    rw [Nat.mod_eq_of_lt (by omega)]
    rfl
  obtain ⟨d, hd⟩ : ∃ d, d = c + c >>> 8 := ⟨_, rfl⟩
  have ed : d.toNat = y + y / 256 := by
    rw [hd, BitVec.toNat_add, BitVec.toNat_ushiftRight, Nat.shiftRight_eq_div_pow, ec]
    exact Nat.mod_eq_of_lt (by omega)
  obtain ⟨e, he⟩ : ∃ e, e = d + d >>> 16 := ⟨_, rfl⟩
  have ee : e.toNat = d.toNat + d.toNat / 65536 := by
    rw [he, BitVec.toNat_add, BitVec.toNat_ushiftRight, Nat.shiftRight_eq_div_pow]
    exact Nat.mod_eq_of_lt (by omega)
  have eo : (ones x).toNat = e.toNat + e.toNat / 4294967296 := by
    have : ones x = e + e >>> 32 := by rw [he, hd, hc, hb, ha]; rfl
    rw [this, BitVec.toNat_add, BitVec.toNat_ushiftRight, Nat.shiftRight_eq_div_pow]
    exact Nat.mod_eq_of_lt (by omega)
  rw [eo, ee, ed]
  exact ⟨by omega, hs.2⟩

theorem ones_int (x : BitVec 64) : IntKind.i64.wrap (tn (ones x)) = tn (ones x) := by
  have := (ones_toNat x).1
  rw [tn_eq]
  exact wrap_i64 (by omega) (by omega)
theorem and127 {n : Nat} (h : n < 9223372036854775808) : pbits .and .i64 (n : Int) 127 = some ((n % 128 : Nat) : Int) := by
  show some (IntKind.i64.wrap ((BitVec.ofInt 64 (n : Int) &&& BitVec.ofInt 64 127).toNat : Int)) = _
  have h1 : (BitVec.ofInt 64 (n : Int)).toNat = n := by
    rw [BitVec.toNat_ofInt]
    omega
  have h2 : (BitVec.ofInt 64 127).toNat = 127 := by decide
  rw [BitVec.toNat_and, h1, h2, show (127 : Nat) = 2 ^ 7 - 1 from rfl, Nat.and_two_pow_sub_one_eq_mod]
  rw [wrap_i64 (by omega) (by omega)]
theorem ones_127 (x : BitVec 64) : pbits .and .i64 (tn (ones x)) 127 = some ((bits x).length : Int) := by
  obtain ⟨h1, h2⟩ := ones_toNat x
  rw [tn_eq, and127 h1, h2, bits_pcN]
theorem and_l1 {a : BitVec 64} : pbits .and .u64 (tn a) 6148914691236517205 = some (tn (a &&& 6148914691236517205#64)) := by
  have h := pbits_and64 (a := a) (b := 6148914691236517205#64)
  rw [← lit64 6148914691236517205 (by omega)] at h
  exact h
theorem and_l2 {a : BitVec 64} : pbits .and .u64 (tn a) 3689348814741910323 = some (tn (a &&& 3689348814741910323#64)) := by
  have h := pbits_and64 (a := a) (b := 3689348814741910323#64)
  rw [← lit64 3689348814741910323 (by omega)] at h
  exact h
theorem and_l3 {a : BitVec 64} : pbits .and .u64 (tn a) 1085102592571150095 = some (tn (a &&& 1085102592571150095#64)) := by
  have h := pbits_and64 (a := a) (b := 1085102592571150095#64)
  rw [← lit64 1085102592571150095 (by omega)] at h
  exact h

theorem list_len (s : Notes) : s.list.length = (bits s.low).length + (bits s.high).length := by
  rw [list_bits, List.length_append, List.length_map, List.length_map]

def unionN (a b : Notes) : Notes := ⟨a.low ||| b.low, a.high ||| b.high⟩
def unionL (l : List Notes) : Notes := l.foldl unionN noNotes
def countL (l : List Notes) : Nat := (l.map fun s => s.list.length).sum

theorem unionL_take {l : List Notes} {i : Nat} (h : i < l.length) : unionL (l.take (i + 1)) = unionN (unionL (l.take i)) l[i] := by
  unfold unionL
  rw [List.take_add_one, List.foldl_append, List.getElem?_eq_getElem h]
  rfl
theorem countL_take {l : List Notes} {i : Nat} (h : i < l.length) : countL (l.take (i + 1)) = countL (l.take i) + l[i].list.length := by
  unfold countL
  rw [List.take_add_one, List.map_append, List.sum_append, List.getElem?_eq_getElem h]
  simp
theorem countL_le (l : List Notes) : countL l ≤ 128 * l.length := by
  unfold countL
  induction l with
  | nil => simp
  | cons s l ih =>
    have h : s.list.length ≤ 128 := listTo_len s 128
    simp only [List.map_cons, List.sum_cons, List.length_cons]
    omega

def feetOk (p : Player) (l : List Notes) : Bool := decide ((countL l : Int) ≤ p.fn) && decide (widthP (unionL l).list ≤ p.fs)
def feetF (p : Player) (l : List Notes) : Bool × Int := if errOf p = 0 then (feetOk p l, 0) else (false, errOf p)

variable {E : PExt} (hU : Uni E)
include hU
set_option maxRecDepth 10000

theorem r_ones (h0 : E 58 = none) (x : BitVec 64) : Run Tryd.prog E 58 [Em.bv64.emb x] (i64.emb ((bits x).length : Int)) := by
  have h1 := ones_int x
  have h2 := ones_127 x
  obtain ⟨a, ha⟩ : ∃ a, (x >>> 1 &&& 6148914691236517205#64) + (x &&& 6148914691236517205#64) = a := ⟨_, rfl⟩
  obtain ⟨b, hb⟩ : ∃ b, (a >>> 2 &&& 3689348814741910323#64) + (a &&& 3689348814741910323#64) = b := ⟨_, rfl⟩
  obtain ⟨c, hc⟩ : ∃ c, (b >>> 4 + b) &&& 1085102592571150095#64 = c := ⟨_, rfl⟩
  obtain ⟨d, hd⟩ : ∃ d, c + c >>> 8 = d := ⟨_, rfl⟩
  obtain ⟨e, he⟩ : ∃ e, d + d >>> 16 = e := ⟨_, rfl⟩
  obtain ⟨o, ho⟩ : ∃ o, e + e >>> 32 = o := ⟨_, rfl⟩
  have hx : ones x = o := by rw [← ho, ← he, ← hd, ← hc, ← hb, ← ha]; rfl
  rw [hx] at h1 h2
  clear hx
  apply Run.bodyL h0 Tryd.func58 rfl
  focus (simp [show Tryd.f58.ntmps = _ from rfl, List.replicate]; rfl)
  repeat (first
    | (refine Fr.i ?_; simp only [pput, List.set_cons_zero, List.set_cons_succ]; try rfl)
    | (refine By.i ?_; simp (disch := first | omega | (simp; done) | (simp; omega)) [wrap_i64, wrap_u64, and_l1, and_l2, and_l3, ha, hb, hc, hd, he, ho, h1, h2]; first | done | rfl | exact ⟨rfl, rfl⟩)
    | (refine Wt.i ?_; first | rfl | (simp [and_l1, and_l2, and_l3, ha, hb, hc, hd, he, ho, h1, h2]; done))
    | (refine Ns.i ?_; (try simp only [List.append_nil, List.nil_append, List.cons_append, List.append_assoc, List.length_append, List.length_cons, List.length_nil, Nat.zero_add, Nat.reduceAdd]); rfl) | rfl
    | (apply SL.pass; (focus (refine Wt.i ?_; rfl))) | apply SL.move | apply SL.assign | apply SL.load | apply SL.binOp | apply SL.append | apply SL.builtin | apply SL.fieldAddr | apply SL.indexAddr | apply SL.field | apply SL.extract
    | apply SL.fcall | apply SL.pick | apply SL.store | apply SL.unOp | apply SL.convert | apply SL.index | apply SL.slice | apply SL.build | apply SL.nilCheck | apply SL.buildSlice | apply SL.box | apply SL.alloc | apply SL.makeFunc
    | apply SQ.nil | (apply WL.reg; (focus decide +kernel)) | (apply WL.drawP (by assumption); (focus decide +kernel); (focus decide +kernel)) | (apply WL.drawF; (focus decide +kernel); (focus decide +kernel))
    | (apply WL.reg1; (focus decide +kernel)) | (apply WL.drawP1 (by assumption); (focus decide +kernel); (focus decide +kernel)) | (apply WL.drawF1; (focus decide +kernel); (focus decide +kernel)) | apply WL.skip | (apply WL.ct; (focus rfl))
    | (apply WL.cf; (focus rfl)) | refine SeqQ.normal ?_ | refine SeqQ.ret ?_ | refine SeqQ.exit ?_ | refine BlockQ.normal ?_ | refine BlockQ.ret ?_ | refine BlockQ.here ?_ | refine BlockQ.there (by decide) ?_ | refine Wp.block ?_
    | refine Wp.skip ?_ | refine Wp.ret ?_ | refine Wp.exit ?_ | refine LoopI.ret ?_ | refine LoopI.exit ?_ | refine LoopQ.normal ?_ | refine LoopQ.ret ?_ | refine LoopQ.exit ?_ | refine Wp.seq (Wp.seq ?_) | refine Wp.seq (Wp.block ?_)
    | (refine Wp.seq ?_; apply WL.ct; (focus rfl)) | (refine Wp.seq ?_; apply WL.cf; (focus rfl)))
  simp (disch := first | omega | (simp; done) | (simp; omega)) [decide_eq_decide] <;> try rfl

theorem r_Count3 (h0 : E 51 = none) (h1 : E 58 = some (entry (gf1 .bv64 i64 fun x => some ((bits x).length : Int)))) (s : Notes) : Run Tryd.prog E 51 [Em.notes.emb s] (i64.emb (s.list.length : Int)) := by
  have h2 := list_len s
  have hlen : s.list.length ≤ 128 := listTo_len s 128
  apply Run.bodyL h0 Tryd.func51 rfl
  focus (simp [show Tryd.f51.ntmps = _ from rfl, List.replicate]; rfl)
  repeat (first
    | (refine Fr.i ?_; simp only [pput, List.set_cons_zero, List.set_cons_succ]; try rfl)
    | (refine By.i ?_; simp (disch := first | omega | (simp; done) | (simp; omega)) [wrap_i64, wrap_u64, h1, entry, gf1]; first | done | rfl | exact ⟨rfl, rfl⟩) | (refine Wt.i ?_; first | rfl | (simp [h1, entry, gf1]; done))
    | (refine Ns.i ?_; (try simp only [List.append_nil, List.nil_append, List.cons_append, List.append_assoc, List.length_append, List.length_cons, List.length_nil, Nat.zero_add, Nat.reduceAdd]); rfl) | rfl
    | (apply SL.pass; (focus (refine Wt.i ?_; rfl))) | apply SL.move | apply SL.assign | apply SL.load | apply SL.binOp | apply SL.append | apply SL.builtin | apply SL.fieldAddr | apply SL.indexAddr | apply SL.field | apply SL.extract
    | apply SL.fcall | apply SL.pick | apply SL.store | apply SL.unOp | apply SL.convert | apply SL.index | apply SL.slice | apply SL.build | apply SL.nilCheck | apply SL.buildSlice | apply SL.box | apply SL.alloc | apply SL.makeFunc
    | apply SQ.nil | (apply WL.reg; (focus decide +kernel)) | (apply WL.drawP (by assumption); (focus decide +kernel); (focus decide +kernel)) | (apply WL.drawF; (focus decide +kernel); (focus decide +kernel))
    | (apply WL.reg1; (focus decide +kernel)) | (apply WL.drawP1 (by assumption); (focus decide +kernel); (focus decide +kernel)) | (apply WL.drawF1; (focus decide +kernel); (focus decide +kernel)) | apply WL.skip | (apply WL.ct; (focus rfl))
    | (apply WL.cf; (focus rfl)) | refine SeqQ.normal ?_ | refine SeqQ.ret ?_ | refine SeqQ.exit ?_ | refine BlockQ.normal ?_ | refine BlockQ.ret ?_ | refine BlockQ.here ?_ | refine BlockQ.there (by decide) ?_ | refine Wp.block ?_
    | refine Wp.skip ?_ | refine Wp.ret ?_ | refine Wp.exit ?_ | refine LoopI.ret ?_ | refine LoopI.exit ?_ | refine LoopQ.normal ?_ | refine LoopQ.ret ?_ | refine LoopQ.exit ?_ | refine Wp.seq (Wp.seq ?_) | refine Wp.seq (Wp.block ?_)
    | (refine Wp.seq ?_; apply WL.ct; (focus rfl)) | (refine Wp.seq ?_; apply WL.cf; (focus rfl)))
  simp (disch := first | omega | (simp; done) | (simp; omega)) [decide_eq_decide, h2] <;> try rfl

theorem r_feet (h0 : E 48 = none) (h1 : E 57 = some (entry (gf2 .notes .notes .notes fun a b => some (unionN a b)))) (h2 : E 51 = some (entry (gf1 .notes i64 fun s => some (s.list.length : Int))))
    (h3 : E 38 = some (entry (gf1 .notes i64s fun s => some s.list))) (h4 : E 41 = some (entry (gf1 i64s i64 fun l => gif ((l.length : Int) < 1000000) (some (widthP l))))) (p : Player) (l : List Notes) (hl : (l.length : Int) < 1000000) :
    Run Tryd.prog E 48 [Em.player.emb p, notesL.emb l] (Em.bool.emb (feetOk p l)) := by
  apply Run.bodyL h0 Tryd.func48 rfl
  focus (simp [show Tryd.f48.ntmps = _ from rfl, List.replicate]; rfl)
  repeat (first
    | (refine Fr.i ?_; simp only [pput, List.set_cons_zero, List.set_cons_succ]; try rfl) | (refine By.i ?_; simp (disch := first | omega | (simp; done) | (simp; omega)) [wrap_i64, wrap_u64]; first | done | rfl | exact ⟨rfl, rfl⟩)
    | (refine Wt.i ?_; first | rfl | (simp; done))
    | (refine Ns.i ?_; (try simp only [List.append_nil, List.nil_append, List.cons_append, List.append_assoc, List.length_append, List.length_cons, List.length_nil, Nat.zero_add, Nat.reduceAdd]); rfl) | rfl
    | (apply SL.pass; (focus (refine Wt.i ?_; rfl))) | apply SL.move | apply SL.assign | apply SL.load | apply SL.binOp | apply SL.append | apply SL.builtin | apply SL.fieldAddr | apply SL.indexAddr | apply SL.field | apply SL.extract
    | apply SL.fcall | apply SL.pick | apply SL.store | apply SL.unOp | apply SL.convert | apply SL.index | apply SL.slice | apply SL.build | apply SL.nilCheck | apply SL.buildSlice | apply SL.box | apply SL.alloc | apply SL.makeFunc
    | apply SQ.nil | (apply WL.reg; (focus decide +kernel)) | (apply WL.drawP (by assumption); (focus decide +kernel); (focus decide +kernel)) | (apply WL.drawF; (focus decide +kernel); (focus decide +kernel))
    | (apply WL.reg1; (focus decide +kernel)) | (apply WL.drawP1 (by assumption); (focus decide +kernel); (focus decide +kernel)) | (apply WL.drawF1; (focus decide +kernel); (focus decide +kernel)) | apply WL.skip | (apply WL.ct; (focus rfl))
    | (apply WL.cf; (focus rfl)) | refine SeqQ.normal ?_ | refine SeqQ.ret ?_ | refine SeqQ.exit ?_ | refine BlockQ.normal ?_ | refine BlockQ.ret ?_ | refine BlockQ.here ?_ | refine BlockQ.there (by decide) ?_ | refine Wp.block ?_
    | refine Wp.skip ?_ | refine Wp.ret ?_ | refine Wp.exit ?_ | refine LoopI.ret ?_ | refine LoopI.exit ?_ | refine LoopQ.normal ?_ | refine LoopQ.ret ?_ | refine LoopQ.exit ?_ | refine Wp.seq (Wp.seq ?_) | refine Wp.seq (Wp.block ?_)
    | (refine Wp.seq ?_; apply WL.ct; (focus rfl)) | (refine Wp.seq ?_; apply WL.cf; (focus rfl)))
  refine Wp.loopI (fun m fr σ => ∃ (i : Nat) (junk : List SObj), ∃ gg : Nat → PD, (i + m = l.length) ∧ fr = [Em.player.emb p, notesL.emb l, .ptr 0 0, .tup [], .bool false, .ptr 1 0, .int .i64 (countL (l.take i)), .tup [], gg 8, notesL.emb l, .int .i64 l.length, .int .i64 i, gg 12, gg 13, gg 14, gg 15, gg 16, gg 17, gg 18, gg 19, gg 20, gg 21, gg 22, gg 23, gg 24, gg 25, gg 26, gg 27, gg 28, gg 29, gg 30, gg 31, gg 32, gg 33, gg 34] ∧ σ = .box (Em.player.emb p) :: .box (Em.notes.emb (unionL (l.take i))) :: junk) ?_ (l.length) (by refine ⟨0, [], ?_⟩; exact exF (by omega) (by (first | rfl | (simp [unionL, noNotes, tn, countL]; repeat (first | rfl | (apply And.intro))) | (simp [unionL, noNotes, tn, countL]; done))) (by (first | rfl | (simp [unionL, noNotes, tn, countL]; repeat (first | rfl | (apply And.intro))) | (simp [unionL, noNotes, tn, countL]; done))))
  rintro m fr σ ⟨i, junk, gg, hI, rfl, rfl⟩
  by_cases hi : i < l.length
  · have h5 : (i : Int) < (l.length : Int) := by omega
    have hu := unionL_take hi
    have hc := countL_take hi
    have hb := countL_le (l.take i)
    have hb2 : (l.take i).length = i := by rw [List.length_take]; omega
    have hlen : l[i].list.length ≤ 128 := listTo_len l[i] 128
    repeat (first
      | (refine Fr.i ?_; simp only [pput, List.set_cons_zero, List.set_cons_succ]; try rfl)
      | (refine By.i ?_; simp (disch := first | omega | (simp; done) | (simp; omega)) [wrap_i64, wrap_u64, h1, h2, h5, entry, gf1, gf2]; first | done | rfl | exact ⟨rfl, rfl⟩)
      | (refine Wt.i ?_; first | rfl | (simp [h1, h2, h5, entry, gf1, gf2]; done))
      | (refine Ns.i ?_; (try simp only [List.append_nil, List.nil_append, List.cons_append, List.append_assoc, List.length_append, List.length_cons, List.length_nil, Nat.zero_add, Nat.reduceAdd]); rfl) | rfl
      | (apply SL.pass; (focus (refine Wt.i ?_; rfl))) | apply SL.move | apply SL.assign | apply SL.load | apply SL.binOp | apply SL.append | apply SL.builtin | apply SL.fieldAddr | apply SL.indexAddr | apply SL.field | apply SL.extract
      | apply SL.fcall | apply SL.pick | apply SL.store | apply SL.unOp | apply SL.convert | apply SL.index | apply SL.slice | apply SL.build | apply SL.nilCheck | apply SL.buildSlice | apply SL.box | apply SL.alloc | apply SL.makeFunc
      | apply SQ.nil | (apply WL.reg; (focus decide +kernel)) | (apply WL.drawP (by assumption); (focus decide +kernel); (focus decide +kernel)) | (apply WL.drawF; (focus decide +kernel); (focus decide +kernel))
      | (apply WL.reg1; (focus decide +kernel)) | (apply WL.drawP1 (by assumption); (focus decide +kernel); (focus decide +kernel)) | (apply WL.drawF1; (focus decide +kernel); (focus decide +kernel)) | apply WL.skip
      | (apply WL.ct; (focus rfl)) | (apply WL.cf; (focus rfl)) | refine SeqQ.normal ?_ | refine SeqQ.ret ?_ | refine SeqQ.exit ?_ | refine BlockQ.normal ?_ | refine BlockQ.ret ?_ | refine BlockQ.here ?_ | refine BlockQ.there (by decide) ?_
      | refine Wp.block ?_ | refine Wp.skip ?_ | refine Wp.ret ?_ | refine Wp.exit ?_ | refine LoopI.ret ?_ | refine LoopI.exit ?_ | refine LoopQ.normal ?_ | refine LoopQ.ret ?_ | refine LoopQ.exit ?_ | refine Wp.seq (Wp.seq ?_)
      | refine Wp.seq (Wp.block ?_) | (refine Wp.seq ?_; apply WL.ct; (focus rfl)) | (refine Wp.seq ?_; apply WL.cf; (focus rfl)))
    refine LoopI.normal (m - 1) (by omega) ⟨i + 1, _, exF (by omega) (by (first | rfl | (simp [hu, hc]; repeat (first | rfl | (apply And.intro))) | (simp [hu, hc]; done))) (by (first | rfl | (simp [hu, hc]; repeat (first | rfl | (apply And.intro))) | (simp [hu, hc]; done)))⟩
  · have h5 : ¬ (i : Int) < (l.length : Int) := by omega
    have h6 : i = l.length := by omega
    subst h6
    rw [List.take_length]
    have hlen : (unionL l).list.length ≤ 128 := listTo_len (unionL l) 128
    by_cases h7 : (countL l : Int) ≤ p.fn
    · repeat (first
        | (refine Fr.i ?_; simp only [pput, List.set_cons_zero, List.set_cons_succ]; try rfl)
        | (refine By.i ?_; simp (disch := first | omega | (simp; done) | (simp; omega)) [wrap_i64, wrap_u64, h3, h4, h5, h7, entry, gf1]; first | done | rfl | exact ⟨rfl, rfl⟩)
        | (refine Wt.i ?_; first | rfl | (simp [h3, h4, h5, h7, entry, gf1]; done))
        | (refine Ns.i ?_; (try simp only [List.append_nil, List.nil_append, List.cons_append, List.append_assoc, List.length_append, List.length_cons, List.length_nil, Nat.zero_add, Nat.reduceAdd]); rfl) | rfl
        | (apply SL.pass; (focus (refine Wt.i ?_; rfl))) | apply SL.move | apply SL.assign | apply SL.load | apply SL.binOp | apply SL.append | apply SL.builtin | apply SL.fieldAddr | apply SL.indexAddr | apply SL.field | apply SL.extract
        | apply SL.fcall | apply SL.pick | apply SL.store | apply SL.unOp | apply SL.convert | apply SL.index | apply SL.slice | apply SL.build | apply SL.nilCheck | apply SL.buildSlice | apply SL.box | apply SL.alloc | apply SL.makeFunc
        | apply SQ.nil | (apply WL.reg; (focus decide +kernel)) | (apply WL.drawP (by assumption); (focus decide +kernel); (focus decide +kernel)) | (apply WL.drawF; (focus decide +kernel); (focus decide +kernel))
        | (apply WL.reg1; (focus decide +kernel)) | (apply WL.drawP1 (by assumption); (focus decide +kernel); (focus decide +kernel)) | (apply WL.drawF1; (focus decide +kernel); (focus decide +kernel)) | apply WL.skip
        | (apply WL.ct; (focus rfl)) | (apply WL.cf; (focus rfl)) | refine SeqQ.normal ?_ | refine SeqQ.ret ?_ | refine SeqQ.exit ?_ | refine BlockQ.normal ?_ | refine BlockQ.ret ?_ | refine BlockQ.here ?_ | refine BlockQ.there (by decide) ?_
        | refine Wp.block ?_ | refine Wp.skip ?_ | refine Wp.ret ?_ | refine Wp.exit ?_ | refine LoopI.ret ?_ | refine LoopI.exit ?_ | refine LoopQ.normal ?_ | refine LoopQ.ret ?_ | refine LoopQ.exit ?_ | refine Wp.seq (Wp.seq ?_)
        | refine Wp.seq (Wp.block ?_) | (refine Wp.seq ?_; apply WL.ct; (focus rfl)) | (refine Wp.seq ?_; apply WL.cf; (focus rfl)))
      simp (disch := first | omega | (simp; done) | (simp; omega)) [decide_eq_decide, feetOk, h7] <;> try rfl
    · repeat (first
        | (refine Fr.i ?_; simp only [pput, List.set_cons_zero, List.set_cons_succ]; try rfl)
        | (refine By.i ?_; simp (disch := first | omega | (simp; done) | (simp; omega)) [wrap_i64, wrap_u64, h3, h4, h5, h7, entry, gf1]; first | done | rfl | exact ⟨rfl, rfl⟩)
        | (refine Wt.i ?_; first | rfl | (simp [h3, h4, h5, h7, entry, gf1]; done))
        | (refine Ns.i ?_; (try simp only [List.append_nil, List.nil_append, List.cons_append, List.append_assoc, List.length_append, List.length_cons, List.length_nil, Nat.zero_add, Nat.reduceAdd]); rfl) | rfl
        | (apply SL.pass; (focus (refine Wt.i ?_; rfl))) | apply SL.move | apply SL.assign | apply SL.load | apply SL.binOp | apply SL.append | apply SL.builtin | apply SL.fieldAddr | apply SL.indexAddr | apply SL.field | apply SL.extract
        | apply SL.fcall | apply SL.pick | apply SL.store | apply SL.unOp | apply SL.convert | apply SL.index | apply SL.slice | apply SL.build | apply SL.nilCheck | apply SL.buildSlice | apply SL.box | apply SL.alloc | apply SL.makeFunc
        | apply SQ.nil | (apply WL.reg; (focus decide +kernel)) | (apply WL.drawP (by assumption); (focus decide +kernel); (focus decide +kernel)) | (apply WL.drawF; (focus decide +kernel); (focus decide +kernel))
        | (apply WL.reg1; (focus decide +kernel)) | (apply WL.drawP1 (by assumption); (focus decide +kernel); (focus decide +kernel)) | (apply WL.drawF1; (focus decide +kernel); (focus decide +kernel)) | apply WL.skip
        | (apply WL.ct; (focus rfl)) | (apply WL.cf; (focus rfl)) | refine SeqQ.normal ?_ | refine SeqQ.ret ?_ | refine SeqQ.exit ?_ | refine BlockQ.normal ?_ | refine BlockQ.ret ?_ | refine BlockQ.here ?_ | refine BlockQ.there (by decide) ?_
        | refine Wp.block ?_ | refine Wp.skip ?_ | refine Wp.ret ?_ | refine Wp.exit ?_ | refine LoopI.ret ?_ | refine LoopI.exit ?_ | refine LoopQ.normal ?_ | refine LoopQ.ret ?_ | refine LoopQ.exit ?_ | refine Wp.seq (Wp.seq ?_)
        | refine Wp.seq (Wp.block ?_) | (refine Wp.seq ?_; apply WL.ct; (focus rfl)) | (refine Wp.seq ?_; apply WL.cf; (focus rfl)))
      simp (disch := first | omega | (simp; done) | (simp; omega)) [decide_eq_decide, feetOk, h7] <;> try rfl

theorem r_Feet (h0 : E 31 = none) (h1 : E 35 = some (entry (gf1 .player i64 fun p => some (errOf p)))) (h2 : E 48 = some (entry (gf2 .player notesL .bool fun p l => gif ((l.length : Int) < 1000000) (some (feetOk p l))))) (p : Player) (l : List Notes) (hl : (l.length : Int) < 1000000) :
    Run Tryd.prog E 31 [Em.player.emb p, notesL.emb l] ((Em.bool.tup2 i64).emb (feetF p l)) := by
  apply Run.bodyL h0 Tryd.func31 rfl
  focus (simp [show Tryd.f31.ntmps = _ from rfl, List.replicate]; rfl)
  by_cases h : errOf p = 0
  · repeat (first
      | (refine Fr.i ?_; simp only [pput, List.set_cons_zero, List.set_cons_succ]; try rfl)
      | (refine By.i ?_; simp (disch := first | omega | (simp; done) | (simp; omega)) [wrap_i64, wrap_u64, h, h1, h2, hl, entry, gf1, gf2]; first | done | rfl | exact ⟨rfl, rfl⟩)
      | (refine Wt.i ?_; first | rfl | (simp [h, h1, h2, hl, entry, gf1, gf2]; done))
      | (refine Ns.i ?_; (try simp only [List.append_nil, List.nil_append, List.cons_append, List.append_assoc, List.length_append, List.length_cons, List.length_nil, Nat.zero_add, Nat.reduceAdd]); rfl) | rfl
      | (apply SL.pass; (focus (refine Wt.i ?_; rfl))) | apply SL.move | apply SL.assign | apply SL.load | apply SL.binOp | apply SL.append | apply SL.builtin | apply SL.fieldAddr | apply SL.indexAddr | apply SL.field | apply SL.extract
      | apply SL.fcall | apply SL.pick | apply SL.store | apply SL.unOp | apply SL.convert | apply SL.index | apply SL.slice | apply SL.build | apply SL.nilCheck | apply SL.buildSlice | apply SL.box | apply SL.alloc | apply SL.makeFunc
      | apply SQ.nil | (apply WL.reg; (focus decide +kernel)) | (apply WL.drawP (by assumption); (focus decide +kernel); (focus decide +kernel)) | (apply WL.drawF; (focus decide +kernel); (focus decide +kernel))
      | (apply WL.reg1; (focus decide +kernel)) | (apply WL.drawP1 (by assumption); (focus decide +kernel); (focus decide +kernel)) | (apply WL.drawF1; (focus decide +kernel); (focus decide +kernel)) | apply WL.skip
      | (apply WL.ct; (focus rfl)) | (apply WL.cf; (focus rfl)) | refine SeqQ.normal ?_ | refine SeqQ.ret ?_ | refine SeqQ.exit ?_ | refine BlockQ.normal ?_ | refine BlockQ.ret ?_ | refine BlockQ.here ?_ | refine BlockQ.there (by decide) ?_
      | refine Wp.block ?_ | refine Wp.skip ?_ | refine Wp.ret ?_ | refine Wp.exit ?_ | refine LoopI.ret ?_ | refine LoopI.exit ?_ | refine LoopQ.normal ?_ | refine LoopQ.ret ?_ | refine LoopQ.exit ?_ | refine Wp.seq (Wp.seq ?_)
      | refine Wp.seq (Wp.block ?_) | (refine Wp.seq ?_; apply WL.ct; (focus rfl)) | (refine Wp.seq ?_; apply WL.cf; (focus rfl)))
    simp (disch := first | omega | (simp; done) | (simp; omega)) [decide_eq_decide, feetF, h] <;> try rfl
  · repeat (first
      | (refine Fr.i ?_; simp only [pput, List.set_cons_zero, List.set_cons_succ]; try rfl)
      | (refine By.i ?_; simp (disch := first | omega | (simp; done) | (simp; omega)) [wrap_i64, wrap_u64, h, h1, entry, gf1]; first | done | rfl | exact ⟨rfl, rfl⟩) | (refine Wt.i ?_; first | rfl | (simp [h, h1, entry, gf1]; done))
      | (refine Ns.i ?_; (try simp only [List.append_nil, List.nil_append, List.cons_append, List.append_assoc, List.length_append, List.length_cons, List.length_nil, Nat.zero_add, Nat.reduceAdd]); rfl) | rfl
      | (apply SL.pass; (focus (refine Wt.i ?_; rfl))) | apply SL.move | apply SL.assign | apply SL.load | apply SL.binOp | apply SL.append | apply SL.builtin | apply SL.fieldAddr | apply SL.indexAddr | apply SL.field | apply SL.extract
      | apply SL.fcall | apply SL.pick | apply SL.store | apply SL.unOp | apply SL.convert | apply SL.index | apply SL.slice | apply SL.build | apply SL.nilCheck | apply SL.buildSlice | apply SL.box | apply SL.alloc | apply SL.makeFunc
      | apply SQ.nil | (apply WL.reg; (focus decide +kernel)) | (apply WL.drawP (by assumption); (focus decide +kernel); (focus decide +kernel)) | (apply WL.drawF; (focus decide +kernel); (focus decide +kernel))
      | (apply WL.reg1; (focus decide +kernel)) | (apply WL.drawP1 (by assumption); (focus decide +kernel); (focus decide +kernel)) | (apply WL.drawF1; (focus decide +kernel); (focus decide +kernel)) | apply WL.skip
      | (apply WL.ct; (focus rfl)) | (apply WL.cf; (focus rfl)) | refine SeqQ.normal ?_ | refine SeqQ.ret ?_ | refine SeqQ.exit ?_ | refine BlockQ.normal ?_ | refine BlockQ.ret ?_ | refine BlockQ.here ?_ | refine BlockQ.there (by decide) ?_
      | refine Wp.block ?_ | refine Wp.skip ?_ | refine Wp.ret ?_ | refine Wp.exit ?_ | refine LoopI.ret ?_ | refine LoopI.exit ?_ | refine LoopQ.normal ?_ | refine LoopQ.ret ?_ | refine LoopQ.exit ?_ | refine Wp.seq (Wp.seq ?_)
      | refine Wp.seq (Wp.block ?_) | (refine Wp.seq ?_; apply WL.ct; (focus rfl)) | (refine Wp.seq ?_; apply WL.cf; (focus rfl)))
    simp (disch := first | omega | (simp; done) | (simp; omega)) [decide_eq_decide, feetF, h] <;> try rfl

end Go.Kz

/-
  Layer 11: what the model says of playing.
-/
namespace Go.Kz
open Go Go.Proofs

structure PlaySt where
  feet : Int
  low : Int
  high : Int
  hands : List Notes
def playStep (st : PlaySt) (x : Division × Notes) : PlaySt :=
  if x.2.list = [] then st else
  if x.1.pedal then ⟨st.feet + x.2.list.length, min st.low (x.2.list.head?.getD 0), max st.high (x.2.list.getLast?.getD 0), st.hands⟩ else ⟨st.feet, st.low, st.high, st.hands ++ [x.2]⟩
def play0 : PlaySt := ⟨0, 127, 0, []⟩
def playL (l : List (Division × Notes)) : PlaySt := l.foldl playStep play0

theorem playL_take {l : List (Division × Notes)} {i : Nat} (h : i < l.length) : playL (l.take (i + 1)) = playStep (playL (l.take i)) l[i] := by
  unfold playL
  rw [List.take_add_one, List.foldl_append, List.getElem?_eq_getElem h]
  rfl

def playHands (p : Player) : List Notes → Bool
  | [] => true
  | [a] => heldF p a
  | [a, b] => holdsOk a.list p.hn p.hs && holdsOk b.list p.hn p.hs
  | _ => false

def playsF (p : Player) (l : List Division) (k : List Notes) : Bool :=
  let st := playL (l.zip k)
  if st.feet > p.fn ∨ (st.feet > 0 ∧ st.high - st.low > p.fs) then false else playHands p st.hands

theorem mem_list {s : Notes} {n : Int} : n ∈ s.list ↔ ∃ k : Nat, n = (k : Int) ∧ k < 128 ∧ s.mem k = true := by
  unfold Notes.list listTo
  simp only [List.mem_map, List.mem_filter, List.mem_range]
  constructor
  · rintro ⟨k, ⟨h1, h2⟩, rfl⟩; exact ⟨k, rfl, h1, h2⟩
  · rintro ⟨k, rfl, h1, h2⟩; exact ⟨k, ⟨h1, h2⟩, rfl⟩
theorem list_range {s : Notes} {n : Int} (h : n ∈ s.list) : 0 ≤ n ∧ n ≤ 127 := by
  obtain ⟨k, rfl, h1, _⟩ := mem_list.1 h
  omega
theorem list_sorted (s : Notes) : s.list.Pairwise (· < ·) := by
  unfold Notes.list listTo
  rw [List.pairwise_map]
  exact (List.Pairwise.filter _ List.pairwise_lt_range).imp (fun h => by omega)

def goodSt (n : Nat) (st : PlaySt) : Prop := 0 ≤ st.feet ∧ st.feet ≤ n ∧ 0 ≤ st.low ∧ st.low ≤ 127 ∧ 0 ≤ st.high ∧ st.high ≤ 127 ∧ st.hands.length ≤ n
theorem head_range {s : Notes} : 0 ≤ s.list.head?.getD 0 ∧ s.list.head?.getD 0 ≤ 127 := by
  cases h : s.list with
  | nil => simp
  | cons x xs => exact list_range (by rw [h]; simp)
theorem last_range {s : Notes} : 0 ≤ s.list.getLast?.getD 0 ∧ s.list.getLast?.getD 0 ≤ 127 := by
  cases h : s.list.getLast? with
  | none => simp
  | some x => exact list_range (List.mem_of_getLast? h)
theorem step_good {n : Nat} {st : PlaySt} {x : Division × Notes} (h : goodSt n st) : goodSt (n + 128) (playStep st x) := by
  have hlen : x.2.list.length ≤ 128 := listTo_len x.2 128
  obtain ⟨a1, a2⟩ := head_range (s := x.2)
  obtain ⟨b1, b2⟩ := last_range (s := x.2)
  unfold goodSt at h ⊢
  unfold playStep
  split
  · omega
  · split
    · simp only
      omega
    · simp only [List.length_append, List.length_cons, List.length_nil]
      omega
theorem play_good : ∀ (l : List (Division × Notes)) (n : Nat) (st : PlaySt), goodSt n st → goodSt (n + 128 * l.length) (l.foldl playStep st)
  | [], n, st, h => h
  | x :: l, n, st, h => by
    have := play_good l (n + 128) (playStep st x) (step_good h)
    rw [List.foldl_cons, List.length_cons]
    rw [show n + 128 * (l.length + 1) = n + 128 + 128 * l.length by omega]
    exact this
theorem playL_good (l : List (Division × Notes)) : goodSt (128 * l.length) (playL l) := by
  have := play_good l 0 play0 (by simp [goodSt, play0])
  unfold playL
  simpa using this

theorem head_get {l : List Int} (h : 0 < l.length) : l.head?.getD 0 = l[0] := by rw [List.head?_eq_getElem?, List.getElem?_eq_getElem h]; rfl
theorem last_get {l : List Int} (h : 0 < l.length) : l.getLast?.getD 0 = l[l.length - 1]'(by omega) := by rw [List.getLast?_eq_getElem?, List.getElem?_eq_getElem (by omega)]; rfl
theorem min_if {a b : Int} : min a b = if b < a then b else a := by
  rw [Int.min_def]; split <;> split <;> omega
theorem max_if {a b : Int} : max a b = if a < b then b else a := by
  rw [Int.max_def]; split <;> split <;> omega

variable {E : PExt} (hU : Uni E)
include hU
set_option maxRecDepth 10000
set_option maxHeartbeats 4000000

theorem r_Plays (h0 : E 32 = none) (h1 : E 14 = some (entry (gf1 .notes i64s fun s => some s.list))) (h2 : E 22 = some (entry (gf2 .player .notes .bool fun p s => some (heldF p s))))
    (h3 : E 20 = some (entry (gf3 i64s i64 i64 .bool fun l n w => gif ((l.length : Int) < 1000000) (some (holdsOk l n w)))))
    (p : Player) (l : List Division) (k : List Notes) (hl : (l.length : Int) < 1000000) (hk : (k.length : Int) < 1000000) :
    Run Tryd.prog E 32 [Em.player.emb p, divisionsL.emb l, notesL.emb k] (Em.bool.emb (playsF p l k)) := by
  apply Run.bodyL h0 Tryd.func32 rfl
  focus (simp [show Tryd.f32.ntmps = _ from rfl, List.replicate]; rfl)
  repeat (first
    | (refine Fr.i ?_; simp only [pput, List.set_cons_zero, List.set_cons_succ]; try rfl) | (refine By.i ?_; simp (disch := first | omega | (simp; done) | (simp; omega)) [wrap_i64, wrap_u64]; first | done | rfl | exact ⟨rfl, rfl⟩)
    | (refine Wt.i ?_; first | rfl | (simp; done))
    | (refine Ns.i ?_; (try simp only [List.append_nil, List.nil_append, List.cons_append, List.append_assoc, List.length_append, List.length_cons, List.length_nil, Nat.zero_add, Nat.reduceAdd]); rfl) | rfl
    | (apply SL.pass; (focus (refine Wt.i ?_; rfl))) | apply SL.move | apply SL.assign | apply SL.load | apply SL.binOp | apply SL.append | apply SL.builtin | apply SL.fieldAddr | apply SL.indexAddr | apply SL.field | apply SL.extract
    | apply SL.fcall | apply SL.pick | apply SL.store | apply SL.unOp | apply SL.convert | apply SL.index | apply SL.slice | apply SL.build | apply SL.nilCheck | apply SL.buildSlice | apply SL.box | apply SL.alloc | apply SL.makeFunc
    | apply SQ.nil | (apply WL.reg; (focus decide +kernel)) | (apply WL.drawP (by assumption); (focus decide +kernel); (focus decide +kernel)) | (apply WL.drawF; (focus decide +kernel); (focus decide +kernel))
    | (apply WL.reg1; (focus decide +kernel)) | (apply WL.drawP1 (by assumption); (focus decide +kernel); (focus decide +kernel)) | (apply WL.drawF1; (focus decide +kernel); (focus decide +kernel)) | apply WL.skip | (apply WL.ct; (focus rfl))
    | (apply WL.cf; (focus rfl)) | refine SeqQ.normal ?_ | refine SeqQ.ret ?_ | refine SeqQ.exit ?_ | refine BlockQ.normal ?_ | refine BlockQ.ret ?_ | refine BlockQ.here ?_ | refine BlockQ.there (by decide) ?_ | refine Wp.block ?_
    | refine Wp.skip ?_ | refine Wp.ret ?_ | refine Wp.exit ?_ | refine LoopI.ret ?_ | refine LoopI.exit ?_ | refine LoopQ.normal ?_ | refine LoopQ.ret ?_ | refine LoopQ.exit ?_ | refine Wp.seq (Wp.seq ?_) | refine Wp.seq (Wp.block ?_)
    | (refine Wp.seq ?_; apply WL.ct; (focus rfl)) | (refine Wp.seq ?_; apply WL.cf; (focus rfl)))
  refine Wp.loopI (fun m fr σ => ∃ (i z : Nat) (st : PlaySt), ∃ gg : Nat → PD, (i + m = l.length ∧ i ≤ k.length ∧ (st.hands = [] ∨ z = 2) ∧ st = playL ((l.zip k).take i)) ∧ fr = Em.player.emb p :: divisionsL.emb l :: notesL.emb k :: .ptr 0 0 :: .tup [] :: .tup [] :: gg 6 :: .int .i64 st.feet :: .int .i64 st.low :: .int .i64 st.high :: .slice z (st.hands.map Em.notes.emb) (outTok 1 st.hands.length) :: .int .i64 i :: gg 12 :: gg 13 :: gg 14 :: gg 15 :: gg 16 :: gg 17 :: gg 18 :: gg 19 :: gg 20 :: gg 21 :: gg 22 :: gg 23 :: gg 24 :: gg 25 :: gg 26 :: gg 27 :: gg 28 :: gg 29 :: gg 30 :: gg 31 :: gg 32 :: gg 33 :: gg 34 :: gg 35 :: gg 36 :: gg 37 :: gg 38 :: gg 39 :: gg 40 :: gg 41 :: gg 42 :: gg 43 :: gg 44 :: gg 45 :: gg 46 :: gg 47 :: gg 48 :: gg 49 :: gg 50 :: gg 51 :: gg 52 :: gg 53 :: gg 54 :: gg 55 :: gg 56 :: gg 57 :: gg 58 :: gg 59 :: gg 60 :: gg 61 :: gg 62 :: gg 63 :: gg 64 :: gg 65 :: gg 66 :: gg 67 :: gg 68 :: gg 69 :: gg 70 :: gg 71 :: gg 72 :: gg 73 :: gg 74 :: gg 75 :: gg 76 :: gg 77 :: gg 78 :: gg 79 :: gg 80 :: gg 81 :: gg 82 :: gg 83 :: gg 84 :: gg 85 :: gg 86 :: gg 87 :: gg 88 :: gg 89 :: gg 90 :: gg 91 :: gg 92 :: gg 93 :: gg 94 :: gg 95 :: gg 96 :: gg 97 :: gg 98 :: gg 99 :: gg 100 :: gg 101 :: gg 102 :: gg 103 :: gg 104 :: gg 105 :: gg 106 :: gg 107 :: gg 108 :: gg 109 :: gg 110 :: gg 111 :: gg 112 :: gg 113 :: gg 114 :: gg 115 :: [] ∧ σ = St [.box (Em.player.emb p)] 26 2 st.hands.length) ?_ (l.length) (by refine ⟨0, 0, ⟨0, 127, 0, []⟩, ?_⟩; exact exF (⟨by omega, by omega, .inl rfl, rfl⟩) (by (first | rfl | (simp []; repeat (first | rfl | (apply And.intro))) | (simp []; done))) (by (first | rfl | (simp []; repeat (first | rfl | (apply And.intro))) | (simp []; done))))
  rintro m fr σ ⟨i, z, st, gg, hI, rfl, rfl⟩
  obtain ⟨hm, hik, hz, hst⟩ := hI
  have hgood := playL_good ((l.zip k).take i)
  rw [← hst] at hgood
  have hlt : ((l.zip k).take i).length ≤ i := by rw [List.length_take]; omega
  unfold goodSt at hgood
  by_cases hi : i < l.length ∧ i < k.length
  · obtain ⟨hi1, hi2⟩ := hi
    have h5 : (i : Int) < (l.length : Int) := by omega
    have h6 : (i : Int) < (k.length : Int) := by omega
    have ht := playL_take (l := l.zip k) (i := i) (by rw [List.length_zip]; omega)
    rw [List.getElem_zip, ← hst] at ht
    clear hst
    have hlen : k[i].list.length ≤ 128 := listTo_len k[i] 128
    by_cases h7 : k[i].list = []
    · have hs : playStep st (l[i], k[i]) = st := by simp [playStep, h7]
      rw [hs] at ht
      repeat (first
        | (refine Fr.i ?_; simp only [pput, List.set_cons_zero, List.set_cons_succ]; try rfl)
        | (refine By.i ?_; simp (disch := first | omega | (simp; done) | (simp; omega)) [wrap_i64, wrap_u64, h1, h5, h6, h7, entry, gf1]; first | done | rfl | exact ⟨rfl, rfl⟩)
        | (refine Wt.i ?_; first | rfl | (simp [h1, h5, h6, h7, entry, gf1]; done))
        | (refine Ns.i ?_; (try simp only [List.append_nil, List.nil_append, List.cons_append, List.append_assoc, List.length_append, List.length_cons, List.length_nil, Nat.zero_add, Nat.reduceAdd]); rfl) | rfl
        | (apply SL.pass; (focus (refine Wt.i ?_; rfl))) | apply SL.move | apply SL.assign | apply SL.load | apply SL.binOp | apply SL.append | apply SL.builtin | apply SL.fieldAddr | apply SL.indexAddr | apply SL.field | apply SL.extract
        | apply SL.fcall | apply SL.pick | apply SL.store | apply SL.unOp | apply SL.convert | apply SL.index | apply SL.slice | apply SL.build | apply SL.nilCheck | apply SL.buildSlice | apply SL.box | apply SL.alloc | apply SL.makeFunc
        | apply SQ.nil | (apply WL.reg; (focus decide +kernel)) | (apply WL.drawP (by assumption); (focus decide +kernel); (focus decide +kernel)) | (apply WL.drawF; (focus decide +kernel); (focus decide +kernel))
        | (apply WL.reg1; (focus decide +kernel)) | (apply WL.drawP1 (by assumption); (focus decide +kernel); (focus decide +kernel)) | (apply WL.drawF1; (focus decide +kernel); (focus decide +kernel)) | apply WL.skip
        | (apply WL.ct; (focus rfl)) | (apply WL.cf; (focus rfl)) | refine SeqQ.normal ?_ | refine SeqQ.ret ?_ | refine SeqQ.exit ?_ | refine BlockQ.normal ?_ | refine BlockQ.ret ?_ | refine BlockQ.here ?_ | refine BlockQ.there (by decide) ?_
        | refine Wp.block ?_ | refine Wp.skip ?_ | refine Wp.ret ?_ | refine Wp.exit ?_ | refine LoopI.ret ?_ | refine LoopI.exit ?_ | refine LoopQ.normal ?_ | refine LoopQ.ret ?_ | refine LoopQ.exit ?_ | refine Wp.seq (Wp.seq ?_)
        | refine Wp.seq (Wp.block ?_) | (refine Wp.seq ?_; apply WL.ct; (focus rfl)) | (refine Wp.seq ?_; apply WL.cf; (focus rfl)))
      refine LoopI.normal (m - 1) (by omega) (by refine ⟨i + 1, z, st, ?_⟩; exact exF (⟨by omega, by omega, hz, ht.symm⟩) (by (first | rfl | (simp []; repeat (first | rfl | (apply And.intro))) | (simp []; done))) (by (first | rfl | (simp []; repeat (first | rfl | (apply And.intro))) | (simp []; done))))
    · have hp : 0 < k[i].list.length := List.length_pos_iff.2 h7
      cases h8 : l[i].pedal with
      | false =>
        have hs : playStep st (l[i], k[i]) = ⟨st.feet, st.low, st.high, st.hands ++ [k[i]]⟩ := by simp [playStep, h7, h8]
        rw [hs] at ht
        repeat (first
          | (refine Fr.i ?_; simp only [pput, List.set_cons_zero, List.set_cons_succ]; try rfl)
          | (refine By.i ?_; simp (disch := first | omega | (simp; done) | (simp; omega)) [wrap_i64, wrap_u64, h1, h5, h6, h7, h8, entry, gf1]; first | done | rfl | exact ⟨rfl, rfl⟩)
          | (refine Wt.i ?_; first | rfl | (simp [h1, h5, h6, h7, h8, entry, gf1]; done))
          | (refine Ns.i ?_; (try simp only [List.append_nil, List.nil_append, List.cons_append, List.append_assoc, List.length_append, List.length_cons, List.length_nil, Nat.zero_add, Nat.reduceAdd]); rfl) | rfl
          | (apply SL.pass; (focus (refine Wt.i ?_; rfl))) | apply SL.move | apply SL.assign | apply SL.load | apply SL.binOp | apply SL.append | apply SL.builtin | apply SL.fieldAddr | apply SL.indexAddr | apply SL.field | apply SL.extract
          | apply SL.fcall | apply SL.pick | apply SL.store | apply SL.unOp | apply SL.convert | apply SL.index | apply SL.slice | apply SL.build | apply SL.nilCheck | apply SL.buildSlice | apply SL.box | apply SL.alloc | apply SL.makeFunc
          | apply SQ.nil | (apply WL.reg; (focus decide +kernel)) | (apply WL.drawP (by assumption); (focus decide +kernel); (focus decide +kernel)) | (apply WL.drawF; (focus decide +kernel); (focus decide +kernel))
          | (apply WL.reg1; (focus decide +kernel)) | (apply WL.drawP1 (by assumption); (focus decide +kernel); (focus decide +kernel)) | (apply WL.drawF1; (focus decide +kernel); (focus decide +kernel)) | apply WL.skip
          | (apply WL.ct; (focus rfl)) | (apply WL.cf; (focus rfl)) | refine SeqQ.normal ?_ | refine SeqQ.ret ?_ | refine SeqQ.exit ?_ | refine BlockQ.normal ?_ | refine BlockQ.ret ?_ | refine BlockQ.here ?_
          | refine BlockQ.there (by decide) ?_ | refine Wp.block ?_ | refine Wp.skip ?_ | refine Wp.ret ?_ | refine Wp.exit ?_ | refine LoopI.ret ?_ | refine LoopI.exit ?_ | refine LoopQ.normal ?_ | refine LoopQ.ret ?_ | refine LoopQ.exit ?_
          | refine Wp.seq (Wp.seq ?_) | refine Wp.seq (Wp.block ?_) | (refine Wp.seq ?_; apply WL.ct; (focus rfl)) | (refine Wp.seq ?_; apply WL.cf; (focus rfl)))
        refine LoopI.normal (m - 1) (by omega) (by refine ⟨i + 1, 2, ⟨st.feet, st.low, st.high, st.hands ++ [k[i]]⟩, ?_⟩; exact exF (⟨by omega, by omega, .inr rfl, ht.symm⟩) (by (first | rfl | (simp []; repeat (first | rfl | (apply And.intro))) | (simp []; done))) (by (first | rfl | (simp []; repeat (first | rfl | (apply And.intro))) | (simp []; done))))
      | true =>
        have hs : playStep st (l[i], k[i]) = ⟨st.feet + k[i].list.length, min st.low (k[i].list.head?.getD 0), max st.high (k[i].list.getLast?.getD 0), st.hands⟩ := by simp [playStep, h7, h8]
        rw [hs] at ht
        repeat (first
          | (refine Fr.i ?_; simp only [pput, List.set_cons_zero, List.set_cons_succ]; try rfl)
          | (refine By.i ?_; simp (disch := first | omega | (simp; done) | (simp; omega)) [wrap_i64, wrap_u64, h1, h5, h6, h7, h8, hp, entry, gf1]; first | done | rfl | exact ⟨rfl, rfl⟩)
          | (refine Wt.i ?_; first | rfl | (simp [h1, h5, h6, h7, h8, hp, entry, gf1]; done))
          | (refine Ns.i ?_; (try simp only [List.append_nil, List.nil_append, List.cons_append, List.append_assoc, List.length_append, List.length_cons, List.length_nil, Nat.zero_add, Nat.reduceAdd]); rfl) | rfl
          | (apply SL.pass; (focus (refine Wt.i ?_; rfl))) | apply SL.move | apply SL.assign | apply SL.load | apply SL.binOp | apply SL.append | apply SL.builtin | apply SL.fieldAddr | apply SL.indexAddr | apply SL.field | apply SL.extract
          | apply SL.fcall | apply SL.pick | apply SL.store | apply SL.unOp | apply SL.convert | apply SL.index | apply SL.slice | apply SL.build | apply SL.nilCheck | apply SL.buildSlice | apply SL.box | apply SL.alloc | apply SL.makeFunc
          | apply SQ.nil | (apply WL.reg; (focus decide +kernel)) | (apply WL.drawP (by assumption); (focus decide +kernel); (focus decide +kernel)) | (apply WL.drawF; (focus decide +kernel); (focus decide +kernel))
          | (apply WL.reg1; (focus decide +kernel)) | (apply WL.drawP1 (by assumption); (focus decide +kernel); (focus decide +kernel)) | (apply WL.drawF1; (focus decide +kernel); (focus decide +kernel)) | apply WL.skip
          | (apply WL.ct; (focus rfl)) | (apply WL.cf; (focus rfl)) | refine SeqQ.normal ?_ | refine SeqQ.ret ?_ | refine SeqQ.exit ?_ | refine BlockQ.normal ?_ | refine BlockQ.ret ?_ | refine BlockQ.here ?_
          | refine BlockQ.there (by decide) ?_ | refine Wp.block ?_ | refine Wp.skip ?_ | refine Wp.ret ?_ | refine Wp.exit ?_ | refine LoopI.ret ?_ | refine LoopI.exit ?_ | refine LoopQ.normal ?_ | refine LoopQ.ret ?_ | refine LoopQ.exit ?_
          | refine Wp.seq (Wp.seq ?_) | refine Wp.seq (Wp.block ?_) | (refine Wp.seq ?_; apply WL.ct; (focus rfl)) | (refine Wp.seq ?_; apply WL.cf; (focus rfl)))
        rw [head_get hp, last_get hp, min_if, max_if] at ht
        refine LoopI.normal (m - 1) (by omega) (by refine ⟨i + 1, z, ⟨st.feet + k[i].list.length, if k[i].list[0] < st.low then k[i].list[0] else st.low, if st.high < k[i].list[k[i].list.length - 1] then k[i].list[k[i].list.length - 1] else st.high, st.hands⟩, ?_⟩; exact exF (⟨by omega, by omega, hz, ht.symm⟩) (by (first | rfl | (simp []; repeat (first | rfl | (apply And.intro))) | (simp []; done))) (by (first | rfl | (simp []; repeat (first | rfl | (apply And.intro))) | (simp []; done))))
  · have hall : (l.zip k).take i = l.zip k := List.take_of_length_le (by rw [List.length_zip]; omega)
    rw [hall] at hst
    have hF : playsF p l k = if st.feet > p.fn ∨ (st.feet > 0 ∧ st.high - st.low > p.fs) then false else playHands p st.hands := by unfold playsF; rw [hst]
    clear hst hall
    rw [hF]
    have h5 : (¬ ((i : Int) < (l.length : Int)) ∧ ¬ ((i : Int) < (l.length : Int))) ∨ ((i : Int) < (l.length : Int) ∧ ¬ ((i : Int) < (k.length : Int))) := by omega
    have hw : IntKind.i64.wrap (st.high - st.low) = st.high - st.low := wrap_i64 (by omega) (by omega)
    rcases h5 with ⟨h5, h6⟩ | ⟨h5, h6⟩
    all_goals
      by_cases c1 : p.fn < st.feet
      · repeat (first
          | (refine Fr.i ?_; simp only [pput, List.set_cons_zero, List.set_cons_succ]; try rfl)
          | (refine By.i ?_; simp (disch := first | omega | (simp; done) | (simp; omega)) [wrap_i64, wrap_u64, h5, h6, c1]; first | done | rfl | exact ⟨rfl, rfl⟩) | (refine Wt.i ?_; first | rfl | (simp [h5, h6, c1]; done))
          | (refine Ns.i ?_; (try simp only [List.append_nil, List.nil_append, List.cons_append, List.append_assoc, List.length_append, List.length_cons, List.length_nil, Nat.zero_add, Nat.reduceAdd]); rfl) | rfl
          | (apply SL.pass; (focus (refine Wt.i ?_; rfl))) | apply SL.move | apply SL.assign | apply SL.load | apply SL.binOp | apply SL.append | apply SL.builtin | apply SL.fieldAddr | apply SL.indexAddr | apply SL.field | apply SL.extract
          | apply SL.fcall | apply SL.pick | apply SL.store | apply SL.unOp | apply SL.convert | apply SL.index | apply SL.slice | apply SL.build | apply SL.nilCheck | apply SL.buildSlice | apply SL.box | apply SL.alloc | apply SL.makeFunc
          | apply SQ.nil | (apply WL.reg; (focus decide +kernel)) | (apply WL.drawP (by assumption); (focus decide +kernel); (focus decide +kernel)) | (apply WL.drawF; (focus decide +kernel); (focus decide +kernel))
          | (apply WL.reg1; (focus decide +kernel)) | (apply WL.drawP1 (by assumption); (focus decide +kernel); (focus decide +kernel)) | (apply WL.drawF1; (focus decide +kernel); (focus decide +kernel)) | apply WL.skip
          | (apply WL.ct; (focus rfl)) | (apply WL.cf; (focus rfl)) | refine SeqQ.normal ?_ | refine SeqQ.ret ?_ | refine SeqQ.exit ?_ | refine BlockQ.normal ?_ | refine BlockQ.ret ?_ | refine BlockQ.here ?_
          | refine BlockQ.there (by decide) ?_ | refine Wp.block ?_ | refine Wp.skip ?_ | refine Wp.ret ?_ | refine Wp.exit ?_ | refine LoopI.ret ?_ | refine LoopI.exit ?_ | refine LoopQ.normal ?_ | refine LoopQ.ret ?_ | refine LoopQ.exit ?_
          | refine Wp.seq (Wp.seq ?_) | refine Wp.seq (Wp.block ?_) | (refine Wp.seq ?_; apply WL.ct; (focus rfl)) | (refine Wp.seq ?_; apply WL.cf; (focus rfl)))
        simp (disch := first | omega | (simp; done) | (simp; omega)) [decide_eq_decide, c1] <;> try rfl
      · by_cases c23 : 0 < st.feet ∧ p.fs < st.high - st.low
        · obtain ⟨c2, c3⟩ := c23
          repeat (first
            | (refine Fr.i ?_; simp only [pput, List.set_cons_zero, List.set_cons_succ]; try rfl)
            | (refine By.i ?_; simp (disch := first | omega | (simp; done) | (simp; omega)) [wrap_i64, wrap_u64, h5, h6, c1, c2, c3, hw]; first | done | rfl | exact ⟨rfl, rfl⟩)
            | (refine Wt.i ?_; first | rfl | (simp [h5, h6, c1, c2, c3, hw]; done))
            | (refine Ns.i ?_; (try simp only [List.append_nil, List.nil_append, List.cons_append, List.append_assoc, List.length_append, List.length_cons, List.length_nil, Nat.zero_add, Nat.reduceAdd]); rfl) | rfl
            | (apply SL.pass; (focus (refine Wt.i ?_; rfl))) | apply SL.move | apply SL.assign | apply SL.load | apply SL.binOp | apply SL.append | apply SL.builtin | apply SL.fieldAddr | apply SL.indexAddr | apply SL.field | apply SL.extract
            | apply SL.fcall | apply SL.pick | apply SL.store | apply SL.unOp | apply SL.convert | apply SL.index | apply SL.slice | apply SL.build | apply SL.nilCheck | apply SL.buildSlice | apply SL.box | apply SL.alloc | apply SL.makeFunc
            | apply SQ.nil | (apply WL.reg; (focus decide +kernel)) | (apply WL.drawP (by assumption); (focus decide +kernel); (focus decide +kernel)) | (apply WL.drawF; (focus decide +kernel); (focus decide +kernel))
            | (apply WL.reg1; (focus decide +kernel)) | (apply WL.drawP1 (by assumption); (focus decide +kernel); (focus decide +kernel)) | (apply WL.drawF1; (focus decide +kernel); (focus decide +kernel)) | apply WL.skip
            | (apply WL.ct; (focus rfl)) | (apply WL.cf; (focus rfl)) | refine SeqQ.normal ?_ | refine SeqQ.ret ?_ | refine SeqQ.exit ?_ | refine BlockQ.normal ?_ | refine BlockQ.ret ?_ | refine BlockQ.here ?_
            | refine BlockQ.there (by decide) ?_ | refine Wp.block ?_ | refine Wp.skip ?_ | refine Wp.ret ?_ | refine Wp.exit ?_ | refine LoopI.ret ?_ | refine LoopI.exit ?_ | refine LoopQ.normal ?_ | refine LoopQ.ret ?_ | refine LoopQ.exit ?_
            | refine Wp.seq (Wp.seq ?_) | refine Wp.seq (Wp.block ?_) | (refine Wp.seq ?_; apply WL.ct; (focus rfl)) | (refine Wp.seq ?_; apply WL.cf; (focus rfl)))
          simp (disch := first | omega | (simp; done) | (simp; omega)) [decide_eq_decide, c1, c2, c3] <;> try rfl
        · have hc : (¬ 0 < st.feet ∧ ¬ 0 < st.feet) ∨ (0 < st.feet ∧ ¬ p.fs < st.high - st.low) := by omega
          rcases hc with ⟨c2, c3⟩ | ⟨c2, c3⟩
          all_goals
            rcases hh : st.hands with _ | ⟨a, _ | ⟨b, _ | ⟨c, r⟩⟩⟩
            · repeat (first
                | (refine Fr.i ?_; simp only [pput, List.set_cons_zero, List.set_cons_succ]; try rfl)
                | (refine By.i ?_; simp (disch := first | omega | (simp; done) | (simp; omega)) [wrap_i64, wrap_u64, h5, h6, c1, c2, c3, hw, hh]; first | done | rfl | exact ⟨rfl, rfl⟩)
                | (refine Wt.i ?_; first | rfl | (simp [h5, h6, c1, c2, c3, hw, hh]; done))
                | (refine Ns.i ?_; (try simp only [List.append_nil, List.nil_append, List.cons_append, List.append_assoc, List.length_append, List.length_cons, List.length_nil, Nat.zero_add, Nat.reduceAdd]); rfl) | rfl
                | (apply SL.pass; (focus (refine Wt.i ?_; rfl))) | apply SL.move | apply SL.assign | apply SL.load | apply SL.binOp | apply SL.append | apply SL.builtin | apply SL.fieldAddr | apply SL.indexAddr | apply SL.field
                | apply SL.extract | apply SL.fcall | apply SL.pick | apply SL.store | apply SL.unOp | apply SL.convert | apply SL.index | apply SL.slice | apply SL.build | apply SL.nilCheck | apply SL.buildSlice | apply SL.box
                | apply SL.alloc | apply SL.makeFunc | apply SQ.nil | (apply WL.reg; (focus decide +kernel)) | (apply WL.drawP (by assumption); (focus decide +kernel); (focus decide +kernel))
                | (apply WL.drawF; (focus decide +kernel); (focus decide +kernel)) | (apply WL.reg1; (focus decide +kernel)) | (apply WL.drawP1 (by assumption); (focus decide +kernel); (focus decide +kernel))
                | (apply WL.drawF1; (focus decide +kernel); (focus decide +kernel)) | apply WL.skip | (apply WL.ct; (focus rfl)) | (apply WL.cf; (focus rfl)) | refine SeqQ.normal ?_ | refine SeqQ.ret ?_ | refine SeqQ.exit ?_
                | refine BlockQ.normal ?_ | refine BlockQ.ret ?_ | refine BlockQ.here ?_ | refine BlockQ.there (by decide) ?_ | refine Wp.block ?_ | refine Wp.skip ?_ | refine Wp.ret ?_ | refine Wp.exit ?_ | refine LoopI.ret ?_
                | refine LoopI.exit ?_ | refine LoopQ.normal ?_ | refine LoopQ.ret ?_ | refine LoopQ.exit ?_ | refine Wp.seq (Wp.seq ?_) | refine Wp.seq (Wp.block ?_) | (refine Wp.seq ?_; apply WL.ct; (focus rfl))
                | (refine Wp.seq ?_; apply WL.cf; (focus rfl)))
              simp (disch := first | omega | (simp; done) | (simp; omega)) [decide_eq_decide, c1, c2, c3, hh, playHands] <;> try rfl
            · have hz2 : z = 2 := by rcases hz with hz | hz; simp [hh] at hz; exact hz
              subst hz2
              repeat (first
                | (refine Fr.i ?_; simp only [pput, List.set_cons_zero, List.set_cons_succ]; try rfl)
                | (refine By.i ?_; simp (disch := first | omega | (simp; done) | (simp; omega)) [wrap_i64, wrap_u64, h5, h6, c1, c2, c3, hw, hh, h2, entry, gf2]; first | done | rfl | exact ⟨rfl, rfl⟩)
                | (refine Wt.i ?_; first | rfl | (simp [h5, h6, c1, c2, c3, hw, hh, h2, entry, gf2]; done))
                | (refine Ns.i ?_; (try simp only [List.append_nil, List.nil_append, List.cons_append, List.append_assoc, List.length_append, List.length_cons, List.length_nil, Nat.zero_add, Nat.reduceAdd]); rfl) | rfl
                | (apply SL.pass; (focus (refine Wt.i ?_; rfl))) | apply SL.move | apply SL.assign | apply SL.load | apply SL.binOp | apply SL.append | apply SL.builtin | apply SL.fieldAddr | apply SL.indexAddr | apply SL.field
                | apply SL.extract | apply SL.fcall | apply SL.pick | apply SL.store | apply SL.unOp | apply SL.convert | apply SL.index | apply SL.slice | apply SL.build | apply SL.nilCheck | apply SL.buildSlice | apply SL.box
                | apply SL.alloc | apply SL.makeFunc | apply SQ.nil | (apply WL.reg; (focus decide +kernel)) | (apply WL.drawP (by assumption); (focus decide +kernel); (focus decide +kernel))
                | (apply WL.drawF; (focus decide +kernel); (focus decide +kernel)) | (apply WL.reg1; (focus decide +kernel)) | (apply WL.drawP1 (by assumption); (focus decide +kernel); (focus decide +kernel))
                | (apply WL.drawF1; (focus decide +kernel); (focus decide +kernel)) | apply WL.skip | (apply WL.ct; (focus rfl)) | (apply WL.cf; (focus rfl)) | refine SeqQ.normal ?_ | refine SeqQ.ret ?_ | refine SeqQ.exit ?_
                | refine BlockQ.normal ?_ | refine BlockQ.ret ?_ | refine BlockQ.here ?_ | refine BlockQ.there (by decide) ?_ | refine Wp.block ?_ | refine Wp.skip ?_ | refine Wp.ret ?_ | refine Wp.exit ?_ | refine LoopI.ret ?_
                | refine LoopI.exit ?_ | refine LoopQ.normal ?_ | refine LoopQ.ret ?_ | refine LoopQ.exit ?_ | refine Wp.seq (Wp.seq ?_) | refine Wp.seq (Wp.block ?_) | (refine Wp.seq ?_; apply WL.ct; (focus rfl))
                | (refine Wp.seq ?_; apply WL.cf; (focus rfl)))
              simp (disch := first | omega | (simp; done) | (simp; omega)) [decide_eq_decide, c1, c2, c3, hh, playHands] <;> try rfl
            · have hz2 : z = 2 := by rcases hz with hz | hz; simp [hh] at hz; exact hz
              subst hz2
              have la : a.list.length ≤ 128 := listTo_len a 128
              have lb : b.list.length ≤ 128 := listTo_len b 128
              cases q : holdsOk a.list p.hn p.hs with
              | true =>
                repeat (first
                  | (refine Fr.i ?_; simp only [pput, List.set_cons_zero, List.set_cons_succ]; try rfl)
                  | (refine By.i ?_; simp (disch := first | omega | (simp; done) | (simp; omega)) [wrap_i64, wrap_u64, h5, h6, c1, c2, c3, hw, hh, h1, h3, entry, gf1, gf3, q]; first | done | rfl | exact ⟨rfl, rfl⟩)
                  | (refine Wt.i ?_; first | rfl | (simp [h5, h6, c1, c2, c3, hw, hh, h1, h3, entry, gf1, gf3, q]; done))
                  | (refine Ns.i ?_; (try simp only [List.append_nil, List.nil_append, List.cons_append, List.append_assoc, List.length_append, List.length_cons, List.length_nil, Nat.zero_add, Nat.reduceAdd]); rfl) | rfl
                  | (apply SL.pass; (focus (refine Wt.i ?_; rfl))) | apply SL.move | apply SL.assign | apply SL.load | apply SL.binOp | apply SL.append | apply SL.builtin | apply SL.fieldAddr | apply SL.indexAddr | apply SL.field
                  | apply SL.extract | apply SL.fcall | apply SL.pick | apply SL.store | apply SL.unOp | apply SL.convert | apply SL.index | apply SL.slice | apply SL.build | apply SL.nilCheck | apply SL.buildSlice | apply SL.box
                  | apply SL.alloc | apply SL.makeFunc | apply SQ.nil | (apply WL.reg; (focus decide +kernel)) | (apply WL.drawP (by assumption); (focus decide +kernel); (focus decide +kernel))
                  | (apply WL.drawF; (focus decide +kernel); (focus decide +kernel)) | (apply WL.reg1; (focus decide +kernel)) | (apply WL.drawP1 (by assumption); (focus decide +kernel); (focus decide +kernel))
                  | (apply WL.drawF1; (focus decide +kernel); (focus decide +kernel)) | apply WL.skip | (apply WL.ct; (focus rfl)) | (apply WL.cf; (focus rfl)) | refine SeqQ.normal ?_ | refine SeqQ.ret ?_ | refine SeqQ.exit ?_
                  | refine BlockQ.normal ?_ | refine BlockQ.ret ?_ | refine BlockQ.here ?_ | refine BlockQ.there (by decide) ?_ | refine Wp.block ?_ | refine Wp.skip ?_ | refine Wp.ret ?_ | refine Wp.exit ?_ | refine LoopI.ret ?_
                  | refine LoopI.exit ?_ | refine LoopQ.normal ?_ | refine LoopQ.ret ?_ | refine LoopQ.exit ?_ | refine Wp.seq (Wp.seq ?_) | refine Wp.seq (Wp.block ?_) | (refine Wp.seq ?_; apply WL.ct; (focus rfl))
                  | (refine Wp.seq ?_; apply WL.cf; (focus rfl)))
                simp (disch := first | omega | (simp; done) | (simp; omega)) [decide_eq_decide, c1, c2, c3, hh, playHands, q] <;> try rfl
              | false =>
                repeat (first
                  | (refine Fr.i ?_; simp only [pput, List.set_cons_zero, List.set_cons_succ]; try rfl)
                  | (refine By.i ?_; simp (disch := first | omega | (simp; done) | (simp; omega)) [wrap_i64, wrap_u64, h5, h6, c1, c2, c3, hw, hh, h1, h3, entry, gf1, gf3, q]; first | done | rfl | exact ⟨rfl, rfl⟩)
                  | (refine Wt.i ?_; first | rfl | (simp [h5, h6, c1, c2, c3, hw, hh, h1, h3, entry, gf1, gf3, q]; done))
                  | (refine Ns.i ?_; (try simp only [List.append_nil, List.nil_append, List.cons_append, List.append_assoc, List.length_append, List.length_cons, List.length_nil, Nat.zero_add, Nat.reduceAdd]); rfl) | rfl
                  | (apply SL.pass; (focus (refine Wt.i ?_; rfl))) | apply SL.move | apply SL.assign | apply SL.load | apply SL.binOp | apply SL.append | apply SL.builtin | apply SL.fieldAddr | apply SL.indexAddr | apply SL.field
                  | apply SL.extract | apply SL.fcall | apply SL.pick | apply SL.store | apply SL.unOp | apply SL.convert | apply SL.index | apply SL.slice | apply SL.build | apply SL.nilCheck | apply SL.buildSlice | apply SL.box
                  | apply SL.alloc | apply SL.makeFunc | apply SQ.nil | (apply WL.reg; (focus decide +kernel)) | (apply WL.drawP (by assumption); (focus decide +kernel); (focus decide +kernel))
                  | (apply WL.drawF; (focus decide +kernel); (focus decide +kernel)) | (apply WL.reg1; (focus decide +kernel)) | (apply WL.drawP1 (by assumption); (focus decide +kernel); (focus decide +kernel))
                  | (apply WL.drawF1; (focus decide +kernel); (focus decide +kernel)) | apply WL.skip | (apply WL.ct; (focus rfl)) | (apply WL.cf; (focus rfl)) | refine SeqQ.normal ?_ | refine SeqQ.ret ?_ | refine SeqQ.exit ?_
                  | refine BlockQ.normal ?_ | refine BlockQ.ret ?_ | refine BlockQ.here ?_ | refine BlockQ.there (by decide) ?_ | refine Wp.block ?_ | refine Wp.skip ?_ | refine Wp.ret ?_ | refine Wp.exit ?_ | refine LoopI.ret ?_
                  | refine LoopI.exit ?_ | refine LoopQ.normal ?_ | refine LoopQ.ret ?_ | refine LoopQ.exit ?_ | refine Wp.seq (Wp.seq ?_) | refine Wp.seq (Wp.block ?_) | (refine Wp.seq ?_; apply WL.ct; (focus rfl))
                  | (refine Wp.seq ?_; apply WL.cf; (focus rfl)))
                simp (disch := first | omega | (simp; done) | (simp; omega)) [decide_eq_decide, c1, c2, c3, hh, playHands, q] <;> try rfl
            · have hr : ¬ (((r.length + 1 + 1 + 1 : Nat) : Int) = 0) ∧ ¬ (((r.length + 1 + 1 + 1 : Nat) : Int) = 1) ∧ ¬ (((r.length + 1 + 1 + 1 : Nat) : Int) = 2) := by omega
              repeat (first
                | (refine Fr.i ?_; simp only [pput, List.set_cons_zero, List.set_cons_succ]; try rfl)
                | (refine By.i ?_; simp (disch := first | omega | (simp; done) | (simp; omega)) [wrap_i64, wrap_u64, h5, h6, c1, c2, c3, hw, hh, hr.1, hr.2.1, hr.2.2]; first | done | rfl | exact ⟨rfl, rfl⟩)
                | (refine Wt.i ?_; first | rfl | (simp [h5, h6, c1, c2, c3, hw, hh, hr.1, hr.2.1, hr.2.2]; done))
                | (refine Ns.i ?_; (try simp only [List.append_nil, List.nil_append, List.cons_append, List.append_assoc, List.length_append, List.length_cons, List.length_nil, Nat.zero_add, Nat.reduceAdd]); rfl) | rfl
                | (apply SL.pass; (focus (refine Wt.i ?_; rfl))) | apply SL.move | apply SL.assign | apply SL.load | apply SL.binOp | apply SL.append | apply SL.builtin | apply SL.fieldAddr | apply SL.indexAddr | apply SL.field
                | apply SL.extract | apply SL.fcall | apply SL.pick | apply SL.store | apply SL.unOp | apply SL.convert | apply SL.index | apply SL.slice | apply SL.build | apply SL.nilCheck | apply SL.buildSlice | apply SL.box
                | apply SL.alloc | apply SL.makeFunc | apply SQ.nil | (apply WL.reg; (focus decide +kernel)) | (apply WL.drawP (by assumption); (focus decide +kernel); (focus decide +kernel))
                | (apply WL.drawF; (focus decide +kernel); (focus decide +kernel)) | (apply WL.reg1; (focus decide +kernel)) | (apply WL.drawP1 (by assumption); (focus decide +kernel); (focus decide +kernel))
                | (apply WL.drawF1; (focus decide +kernel); (focus decide +kernel)) | apply WL.skip | (apply WL.ct; (focus rfl)) | (apply WL.cf; (focus rfl)) | refine SeqQ.normal ?_ | refine SeqQ.ret ?_ | refine SeqQ.exit ?_
                | refine BlockQ.normal ?_ | refine BlockQ.ret ?_ | refine BlockQ.here ?_ | refine BlockQ.there (by decide) ?_ | refine Wp.block ?_ | refine Wp.skip ?_ | refine Wp.ret ?_ | refine Wp.exit ?_ | refine LoopI.ret ?_
                | refine LoopI.exit ?_ | refine LoopQ.normal ?_ | refine LoopQ.ret ?_ | refine LoopQ.exit ?_ | refine Wp.seq (Wp.seq ?_) | refine Wp.seq (Wp.block ?_) | (refine Wp.seq ?_; apply WL.ct; (focus rfl))
                | (refine Wp.seq ?_; apply WL.cf; (focus rfl)))
              simp (disch := first | omega | (simp; done) | (simp; omega)) [decide_eq_decide, c1, c2, c3, hh, playHands] <;> try rfl

end Go.Kz
