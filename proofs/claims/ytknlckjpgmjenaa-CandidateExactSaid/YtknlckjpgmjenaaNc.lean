/- Plain facts on the numbers of Go: bits of unsigned words, told by natural numbers. -/
import Derived.Test.YtknlckjpgmjenaaPop
namespace Go.Proofs.Ytknlckjpgmjenaa
namespace Vm
theorem iand64 {x y : Nat} (hx : x < 18446744073709551616) (hy : y < 18446744073709551616) : iand .u64 x y = ((x &&& y : Nat) : Int) := by
  have h : x &&& y < 18446744073709551616 := Nat.lt_of_le_of_lt Nat.and_le_left hx
  show IntKind.u64.wrap ((BitVec.ofInt 64 (x : Int) &&& BitVec.ofInt 64 (y : Int)).toNat : Int) = _
  simp only [BitVec.ofInt_natCast, BitVec.toNat_and, BitVec.toNat_ofNat]
  rw [show (2 : Nat) ^ 64 = 18446744073709551616 from rfl, Nat.mod_eq_of_lt hx, Nat.mod_eq_of_lt hy]
  exact wu64 (by omega) (by omega)
theorem ior64 {x y : Nat} (hx : x < 18446744073709551616) (hy : y < 18446744073709551616) : ior .u64 x y = ((x ||| y : Nat) : Int) := by
  have h : x ||| y < 2 ^ 64 := Nat.or_lt_two_pow hx hy
  show IntKind.u64.wrap ((BitVec.ofInt 64 (x : Int) ||| BitVec.ofInt 64 (y : Int)).toNat : Int) = _
  simp only [BitVec.ofInt_natCast, BitVec.toNat_or, BitVec.toNat_ofNat]
  rw [show (2 : Nat) ^ 64 = 18446744073709551616 from rfl, Nat.mod_eq_of_lt hx, Nat.mod_eq_of_lt hy]
  exact wu64 (by omega) (by omega)
theorem ixor64 {x y : Nat} (hx : x < 18446744073709551616) (hy : y < 18446744073709551616) : ixor .u64 x y = ((x ^^^ y : Nat) : Int) := by
  have h : x ^^^ y < 2 ^ 64 := Nat.xor_lt_two_pow hx hy
  show IntKind.u64.wrap ((BitVec.ofInt 64 (x : Int) ^^^ BitVec.ofInt 64 (y : Int)).toNat : Int) = _
  simp only [BitVec.ofInt_natCast, BitVec.toNat_xor, BitVec.toNat_ofNat]
  rw [show (2 : Nat) ^ 64 = 18446744073709551616 from rfl, Nat.mod_eq_of_lt hx, Nat.mod_eq_of_lt hy]
  exact wu64 (by omega) (by omega)
theorem ishr64 (x : Nat) {s : Nat} (hs : s ≤ 64) : ishr .u64 x s = ((x / 2 ^ s : Nat) : Int) := by
  show (x : Int).fdiv (2 ^ min (s : Int).toNat 64) = _
  simp only [Int.toNat_natCast, Nat.min_eq_left hs]
  rw [show ((2 : Int) ^ s) = ((2 ^ s : Nat) : Int) by simp, Int.fdiv_eq_ediv_of_nonneg _ (Int.natCast_nonneg _)]
  rfl
theorem ishl64 (x : Nat) {s : Nat} (hs : s ≤ 64) : ishl .u64 x s = ((x * 2 ^ s % 18446744073709551616 : Nat) : Int) := by
  show IntKind.u64.wrap ((x : Int) * 2 ^ min (s : Int).toNat 64) = _
  simp only [Int.toNat_natCast, Nat.min_eq_left hs]
  rw [show ((2 : Int) ^ s) = ((2 ^ s : Nat) : Int) by simp, wu64_eq]
  omega
theorem wadd64 (x y : Nat) : IntKind.u64.wrap ((x : Int) + (y : Int)) = (((x + y) % 18446744073709551616 : Nat) : Int) := by
  rw [wu64_eq]; omega
end Vm
end Go.Proofs.Ytknlckjpgmjenaa
