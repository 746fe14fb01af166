/- Bits of words, told by natural numbers. -/
import Derived.Test.YtilpgjoidgfbiaaGreatQa
namespace Go.Proofs.YtilpgjoidgfbiaaGreat
set_option linter.unusedVariables false
set_option linter.unusedSimpArgs false
namespace Vm
theorem band_u64 {x y : Nat} (hx : x < 18446744073709551616) (hy : y < 18446744073709551616) : iand .u64 x y = ((x &&& y : Nat) : Int) := by
  have h : x &&& y < 18446744073709551616 := Nat.lt_of_le_of_lt Nat.and_le_left hx
  show IntKind.u64.wrap ((BitVec.ofInt 64 (x : Int) &&& BitVec.ofInt 64 (y : Int)).toNat : Int) = _
  simp only [BitVec.ofInt_natCast, BitVec.toNat_and, BitVec.toNat_ofNat]
  rw [show (2 : Nat) ^ 64 = 18446744073709551616 from rfl, Nat.mod_eq_of_lt hx, Nat.mod_eq_of_lt hy]
  exact wu64 (by omega) (by omega)
theorem bor_u64 {x y : Nat} (hx : x < 18446744073709551616) (hy : y < 18446744073709551616) : ior .u64 x y = ((x ||| y : Nat) : Int) := by
  have h : x ||| y < 2 ^ 64 := Nat.or_lt_two_pow hx hy
  show IntKind.u64.wrap ((BitVec.ofInt 64 (x : Int) ||| BitVec.ofInt 64 (y : Int)).toNat : Int) = _
  simp only [BitVec.ofInt_natCast, BitVec.toNat_or, BitVec.toNat_ofNat]
  rw [show (2 : Nat) ^ 64 = 18446744073709551616 from rfl, Nat.mod_eq_of_lt hx, Nat.mod_eq_of_lt hy]
  exact wu64 (by omega) (by omega)
theorem bor_u32 {x y : Nat} (hx : x < 4294967296) (hy : y < 4294967296) : ior .u32 x y = ((x ||| y : Nat) : Int) := by
  have h : x ||| y < 2 ^ 32 := Nat.or_lt_two_pow hx hy
  show IntKind.u32.wrap ((BitVec.ofInt 32 (x : Int) ||| BitVec.ofInt 32 (y : Int)).toNat : Int) = _
  simp only [BitVec.ofInt_natCast, BitVec.toNat_or, BitVec.toNat_ofNat]
  rw [show (2 : Nat) ^ 32 = 4294967296 from rfl, Nat.mod_eq_of_lt hx, Nat.mod_eq_of_lt hy]
  exact wu32 (by omega) (by omega)
theorem bor_i64 {x y : Nat} (hx : x < 9223372036854775808) (hy : y < 9223372036854775808) : ior .i64 x y = ((x ||| y : Nat) : Int) := by
  have h : x ||| y < 2 ^ 63 := Nat.or_lt_two_pow hx hy
  show IntKind.i64.wrap ((BitVec.ofInt 64 (x : Int) ||| BitVec.ofInt 64 (y : Int)).toNat : Int) = _
  simp only [BitVec.ofInt_natCast, BitVec.toNat_or, BitVec.toNat_ofNat]
  rw [show (2 : Nat) ^ 64 = 18446744073709551616 from rfl, Nat.mod_eq_of_lt (by omega), Nat.mod_eq_of_lt (by omega)]
  exact wi64 (by omega) (by omega)
theorem band_u32 {x y : Nat} (hx : x < 4294967296) (hy : y < 4294967296) : iand .u32 x y = ((x &&& y : Nat) : Int) := by
  have h : x &&& y < 4294967296 := Nat.lt_of_le_of_lt Nat.and_le_left hx
  show IntKind.u32.wrap ((BitVec.ofInt 32 (x : Int) &&& BitVec.ofInt 32 (y : Int)).toNat : Int) = _
  simp only [BitVec.ofInt_natCast, BitVec.toNat_and, BitVec.toNat_ofNat]
  rw [show (2 : Nat) ^ 32 = 4294967296 from rfl, Nat.mod_eq_of_lt hx, Nat.mod_eq_of_lt hy]
  exact wu32 (by omega) (by omega)
/-- or of parts that do not meet -/
theorem or_parts (a b i : Nat) (h : b < 2 ^ i) : b ||| a * 2 ^ i = a * 2 ^ i + b := by
  rw [Nat.or_comm, Nat.mul_comm a, Nat.two_pow_add_eq_or_of_lt h]
theorem nat_of {x : Int} (h : 0 ≤ x) : ∃ n : Nat, x = (n : Int) := Int.eq_ofNat_of_zero_le h
theorem or_u64 {a b : Int} {i : Nat} (ha : 0 ≤ a) (hb : 0 ≤ b) (h : b < ((2 ^ i : Nat) : Int)) (hl : a * ((2 ^ i : Nat) : Int) + b < 18446744073709551616) : ior .u64 b (a * ((2 ^ i : Nat) : Int)) = a * ((2 ^ i : Nat) : Int) + b ∧ ior .u64 (a * ((2 ^ i : Nat) : Int)) b = a * ((2 ^ i : Nat) : Int) + b := by
  obtain ⟨a, rfl⟩ := nat_of ha
  obtain ⟨b, rfl⟩ := nat_of hb
  have hb2 : b < 2 ^ i := Int.ofNat_lt.1 h
  have hl2 : a * 2 ^ i + b < 18446744073709551616 := by
    have h9 : ((a * 2 ^ i + b : Nat) : Int) < 18446744073709551616 := by rw [Int.natCast_add, Int.natCast_mul]; exact hl
    generalize a * 2 ^ i + b = n at h9 ⊢
    omega
  rw [show (a : Int) * ((2 ^ i : Nat) : Int) = ((a * 2 ^ i : Nat) : Int) from (Int.natCast_mul a (2 ^ i)).symm]
  rw [bor_u64 (by omega) (by omega), bor_u64 (by omega) (by omega), or_parts a b i hb2, Nat.or_comm, or_parts a b i hb2]
  exact ⟨Int.natCast_add _ _, Int.natCast_add _ _⟩
theorem or_u32 {a b : Int} {i : Nat} (ha : 0 ≤ a) (hb : 0 ≤ b) (h : b < ((2 ^ i : Nat) : Int)) (hl : a * ((2 ^ i : Nat) : Int) + b < 4294967296) : ior .u32 b (a * ((2 ^ i : Nat) : Int)) = a * ((2 ^ i : Nat) : Int) + b ∧ ior .u32 (a * ((2 ^ i : Nat) : Int)) b = a * ((2 ^ i : Nat) : Int) + b := by
  obtain ⟨a, rfl⟩ := nat_of ha
  obtain ⟨b, rfl⟩ := nat_of hb
  have hb2 : b < 2 ^ i := Int.ofNat_lt.1 h
  have hl2 : a * 2 ^ i + b < 4294967296 := by
    have h9 : ((a * 2 ^ i + b : Nat) : Int) < 4294967296 := by rw [Int.natCast_add, Int.natCast_mul]; exact hl
    generalize a * 2 ^ i + b = n at h9 ⊢
    omega
  rw [show (a : Int) * ((2 ^ i : Nat) : Int) = ((a * 2 ^ i : Nat) : Int) from (Int.natCast_mul a (2 ^ i)).symm]
  rw [bor_u32 (by omega) (by omega), bor_u32 (by omega) (by omega), or_parts a b i hb2, Nat.or_comm, or_parts a b i hb2]
  exact ⟨Int.natCast_add _ _, Int.natCast_add _ _⟩
theorem or_i64 {a b : Int} {i : Nat} (ha : 0 ≤ a) (hb : 0 ≤ b) (h : b < ((2 ^ i : Nat) : Int)) (hl : a * ((2 ^ i : Nat) : Int) + b < 9223372036854775808) : ior .i64 b (a * ((2 ^ i : Nat) : Int)) = a * ((2 ^ i : Nat) : Int) + b ∧ ior .i64 (a * ((2 ^ i : Nat) : Int)) b = a * ((2 ^ i : Nat) : Int) + b := by
  obtain ⟨a, rfl⟩ := nat_of ha
  obtain ⟨b, rfl⟩ := nat_of hb
  have hb2 : b < 2 ^ i := Int.ofNat_lt.1 h
  have hl2 : a * 2 ^ i + b < 9223372036854775808 := by
    have h9 : ((a * 2 ^ i + b : Nat) : Int) < 9223372036854775808 := by rw [Int.natCast_add, Int.natCast_mul]; exact hl
    generalize a * 2 ^ i + b = n at h9 ⊢
    omega
  rw [show (a : Int) * ((2 ^ i : Nat) : Int) = ((a * 2 ^ i : Nat) : Int) from (Int.natCast_mul a (2 ^ i)).symm]
  rw [bor_i64 (by omega) (by omega), bor_i64 (by omega) (by omega), or_parts a b i hb2, Nat.or_comm, or_parts a b i hb2]
  exact ⟨Int.natCast_add _ _, Int.natCast_add _ _⟩
theorem shl_u64 (x : Int) {s : Nat} (hs : s ≤ 64) : ishl .u64 x s = x * ((2 ^ s : Nat) : Int) % 18446744073709551616 := by
  show IntKind.u64.wrap (x * 2 ^ min (s : Int).toNat 64) = _
  rw [Int.toNat_natCast, Nat.min_eq_left hs, wu64_eq]
  simp
theorem shl_i64 (x : Int) {s : Nat} (hs : s ≤ 64) : ishl .i64 x s = IntKind.i64.wrap (x * ((2 ^ s : Nat) : Int)) := by
  show IntKind.i64.wrap (x * 2 ^ min (s : Int).toNat 64) = _
  rw [Int.toNat_natCast, Nat.min_eq_left hs]
  simp
theorem shl_u32 (x : Int) {s : Nat} (hs : s ≤ 32) : ishl .u32 x s = x * ((2 ^ s : Nat) : Int) % 4294967296 := by
  show IntKind.u32.wrap (x * 2 ^ min (s : Int).toNat 32) = _
  rw [Int.toNat_natCast, Nat.min_eq_left hs, wu32_eq]
  simp
theorem shr_eqN (k : IntKind) (x : Int) {s : Nat} (hs : s ≤ k.bits) : ishr k x s = x / ((2 ^ s : Nat) : Int) := by
  rw [ishr_eq k hs]; simp
theorem low_u64 {x : Int} (h0 : 0 ≤ x) (h1 : x < 18446744073709551616) : iand .u64 x 4294967295 = x % 4294967296 := by
  obtain ⟨x, rfl⟩ := nat_of h0
  have := band_u64 (x := x) (y := 4294967295) (by omega) (by decide)
  rw [show ((4294967295 : Nat) : Int) = 4294967295 from rfl] at this
  rw [this, Nat.and_two_pow_sub_one_eq_mod (n := 32)]
  rfl
theorem one_u32 {x : Int} (h0 : 0 ≤ x) (h1 : x < 4294967296) : iand .u32 x 1 = x % 2 := by
  obtain ⟨x, rfl⟩ := nat_of h0
  have := band_u32 (x := x) (y := 1) (by omega) (by decide)
  rw [show ((1 : Nat) : Int) = 1 from rfl] at this
  rw [this, Nat.and_one_is_mod]
  rfl
end Vm
end Go.Proofs.YtilpgjoidgfbiaaGreat
