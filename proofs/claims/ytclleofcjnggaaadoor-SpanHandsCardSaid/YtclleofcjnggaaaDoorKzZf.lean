/-
  Words of 64, 16 and 8 bits as bit vectors.
-/
import Derived.Test.YtclleofcjnggaaaDoorKzZe
set_option linter.all false
namespace Go.Kz

/-- A word's number; a name of its own, so that simp leaves the word whole. -/
def tn {n : Nat} (b : BitVec n) : Int := (b.toNat : Int)
theorem tn_eq {n : Nat} (b : BitVec n) : tn b = (b.toNat : Int) := rfl
theorem tn_inj {n : Nat} {a b : BitVec n} : tn a = tn b ↔ a = b := ⟨fun h => BitVec.eq_of_toNat_eq (by unfold tn at h; exact_mod_cast h), fun h => by rw [h]⟩
theorem tn_nonneg {n : Nat} (b : BitVec n) : 0 ≤ tn b := by unfold tn; omega

def Em.bv64 : Em (BitVec 64) := (Em.int .u64).iso tn (fun _ _ h => BitVec.eq_of_toNat_eq (by unfold tn at h; exact_mod_cast h))
def Em.bv16 : Em (BitVec 16) := (Em.int .u16).iso tn (fun _ _ h => BitVec.eq_of_toNat_eq (by unfold tn at h; exact_mod_cast h))
def Em.bv8 : Em (BitVec 8) := (Em.int .u8).iso tn (fun _ _ h => BitVec.eq_of_toNat_eq (by unfold tn at h; exact_mod_cast h))
@[simp] theorem emb_bv64 {b : BitVec 64} : Em.bv64.emb b = .int .u64 (tn b) := rfl
@[simp] theorem emb_bv16 {b : BitVec 16} : Em.bv16.emb b = .int .u16 (tn b) := rfl
@[simp] theorem emb_bv8 {b : BitVec 8} : Em.bv8.emb b = .int .u8 (tn b) := rfl
@[simp] theorem dec_bv64 {b : BitVec 64} : Em.bv64.dec (.int .u64 (tn b)) = some b := Em.dec_some rfl
@[simp] theorem dec_bv16 {b : BitVec 16} : Em.bv16.dec (.int .u16 (tn b)) = some b := Em.dec_some rfl
@[simp] theorem dec_bv8 {b : BitVec 8} : Em.bv8.dec (.int .u8 (tn b)) = some b := Em.dec_some rfl

theorem bv_int (n : Nat) (b : BitVec n) : BitVec.ofInt n (b.toNat : Int) = b := by simp

theorem wrap_u64_nat {n : Nat} (h : n < 18446744073709551616) : IntKind.u64.wrap (n : Int) = n := wrap_u64 (by omega) (by omega)
theorem wrap_u16_nat {n : Nat} (h : n < 65536) : IntKind.u16.wrap (n : Int) = n := by
  simp [IntKind.wrap, IntKind.min, IntKind.max, IntKind.signed, IntKind.bits]
  try omega

section
variable {a b : BitVec 64}
@[simp] theorem pbits_and64 : pbits .and .u64 (tn a) (tn b) = some (tn (a &&& b)) := by
  show some (IntKind.u64.wrap ((BitVec.ofInt 64 (a.toNat : Int) &&& BitVec.ofInt 64 (b.toNat : Int)).toNat : Int)) = _
  rw [bv_int, bv_int, wrap_u64_nat (BitVec.isLt _)]
  rfl
@[simp] theorem pbits_or64 : pbits .or .u64 (tn a) (tn b) = some (tn (a ||| b)) := by
  show some (IntKind.u64.wrap ((BitVec.ofInt 64 (a.toNat : Int) ||| BitVec.ofInt 64 (b.toNat : Int)).toNat : Int)) = _
  rw [bv_int, bv_int, wrap_u64_nat (BitVec.isLt _)]
  rfl
@[simp] theorem pbits_xor64 : pbits .xor .u64 (tn a) (tn b) = some (tn (a ^^^ b)) := by
  show some (IntKind.u64.wrap ((BitVec.ofInt 64 (a.toNat : Int) ^^^ BitVec.ofInt 64 (b.toNat : Int)).toNat : Int)) = _
  rw [bv_int, bv_int, wrap_u64_nat (BitVec.isLt _)]
  rfl
@[simp] theorem pbits_andNot64 : pbits .andNot .u64 (tn a) (tn b) = some (tn (a &&& ~~~b)) := by
  show some (IntKind.u64.wrap ((BitVec.ofInt 64 (a.toNat : Int) &&& ~~~(BitVec.ofInt 64 (b.toNat : Int))).toNat : Int)) = _
  rw [bv_int, bv_int, wrap_u64_nat (BitVec.isLt _)]
  rfl

theorem wrap_u64_mod (x : Int) : IntKind.u64.wrap x = x % 18446744073709551616 := by
  simp [IntKind.wrap, IntKind.signed, IntKind.bits]

theorem two64 : ((2 ^ 64 : Nat) : Int) = 18446744073709551616 := rfl

@[simp] theorem wrap_sub64 : IntKind.u64.wrap ((tn a) - (tn b)) = (tn (a - b)) := by
  simp only [tn_eq]
  rw [wrap_u64_mod, BitVec.toNat_sub]
  omega
@[simp] theorem wrap_add64 : IntKind.u64.wrap ((tn a) + (tn b)) = (tn (a + b)) := by
  simp only [tn_eq]
  rw [wrap_u64_mod, BitVec.toNat_add]
  omega
@[simp] theorem wrap_mul64 : IntKind.u64.wrap ((tn a) * (tn b)) = (tn (a * b)) := by
  simp only [tn_eq]
  rw [wrap_u64_mod, BitVec.toNat_mul, Int.natCast_emod, Int.natCast_mul, two64]

@[simp] theorem wrap_neg64 : IntKind.u64.wrap (0 - tn a) = tn (-a) := by
  simp only [tn_eq]
  rw [wrap_u64_mod, BitVec.toNat_neg]
  omega
@[simp] theorem wrap_neg64' : IntKind.u64.wrap (-tn a) = tn (-a) := by
  rw [← wrap_neg64, Int.zero_sub]
theorem wrap_mul64_lit (n : Nat) (h : n < 18446744073709551616) : IntKind.u64.wrap (tn a * (n : Int)) = tn (a * BitVec.ofNat 64 n) := by
  rw [← wrap_mul64]
  simp only [tn_eq, BitVec.toNat_ofNat, Nat.mod_eq_of_lt h]
theorem wrap_sub64_lit (n : Nat) (h : n < 18446744073709551616) : IntKind.u64.wrap (tn a - (n : Int)) = tn (a - BitVec.ofNat 64 n) := by
  rw [← wrap_sub64]
  simp only [tn_eq, BitVec.toNat_ofNat, Nat.mod_eq_of_lt h]
@[simp] theorem wrap_sub64_one : IntKind.u64.wrap (tn a - 1) = tn (a - 1#64) := wrap_sub64_lit 1 (by omega)

theorem pshl64 {n : Int} (h : 0 ≤ n) (h' : n < 64) : pshift .shl .u64 (tn a) n = some (.int .u64 (tn (a <<< n.toNat))) := by
  have h1 : ¬ n < 0 := by omega
  have h2 : min n.toNat IntKind.u64.bits = n.toNat := Nat.min_eq_left (by simp [IntKind.bits]; omega)
  simp only [pshift, h1, if_false, h2, tn_eq]
  rw [wrap_u64_mod, BitVec.toNat_shiftLeft, Nat.shiftLeft_eq, Int.natCast_emod, Int.natCast_mul, two64, Int.natCast_pow]
  rfl
theorem pshr64 {n : Int} (h : 0 ≤ n) (h' : n < 64) : pshift .shr .u64 (tn a) n = some (.int .u64 (tn (a >>> n.toNat))) := by
  have h1 : ¬ n < 0 := by omega
  have h2 : min n.toNat IntKind.u64.bits = n.toNat := Nat.min_eq_left (by simp [IntKind.bits]; omega)
  simp only [pshift, h1, if_false, h2, tn_eq]
  have h3 : (0 : Int) ≤ 2 ^ n.toNat := Int.pow_nonneg (by omega)
  rw [BitVec.toNat_ushiftRight, Nat.shiftRight_eq_div_pow, Int.fdiv_eq_ediv_of_nonneg _ h3, Int.natCast_ediv, Int.natCast_pow]
  rfl
end

@[simp] theorem wrap_zero (k : IntKind) : k.wrap 0 = 0 := by cases k <;> rfl
@[simp] theorem pshl64_one {n : Int} (h : 0 ≤ n) (h' : n < 64) : pshift .shl .u64 1 n = some (.int .u64 (tn (1#64 <<< n.toNat))) := pshl64 (a := 1#64) h h'
@[simp] theorem pshl64' {a : BitVec 64} {n : Int} (h : 0 ≤ n) (h' : n < 64) : pshift .shl .u64 (tn a) n = some (.int .u64 (tn (a <<< n.toNat))) := pshl64 h h'
@[simp] theorem pshr64' {a : BitVec 64} {n : Int} (h : 0 ≤ n) (h' : n < 64) : pshift .shr .u64 (tn a) n = some (.int .u64 (tn (a >>> n.toNat))) := pshr64 h h'
@[simp] theorem pbits_and64_one {a : BitVec 64} : pbits .and .u64 (tn a) 1 = some (tn (a &&& 1#64)) := pbits_and64 (b := 1#64)
@[simp] theorem dec_bv64_zero : Em.bv64.dec (.int .u64 0) = some 0#64 := Em.dec_some rfl

@[simp] theorem bit_one {a : BitVec 64} {k : Nat} : ((tn (a >>> k &&& 1#64)) = 1) ↔ a.getLsbD k = true := by
  have h1 : (a >>> k &&& 1#64) = if a.getLsbD k then 1#64 else 0#64 := by
    apply BitVec.eq_of_getLsbD_eq
    intro i hi
    simp only [BitVec.getLsbD_and, BitVec.getLsbD_ushiftRight, BitVec.getLsbD_one]
    by_cases h0 : i = 0
    · subst h0
      cases h : a.getLsbD k <;> simp [h]
    · cases h : a.getLsbD k <;> simp [h0]
  rw [h1]
  cases a.getLsbD k <;> simp [tn]

/-- A number as a word. -/
theorem lit64 (n : Nat) (h : n < 18446744073709551616) : ((n : Nat) : Int) = (tn (BitVec.ofNat 64 n)) := by
  rw [tn_eq, BitVec.toNat_ofNat, Nat.mod_eq_of_lt h]

end Go.Kz
