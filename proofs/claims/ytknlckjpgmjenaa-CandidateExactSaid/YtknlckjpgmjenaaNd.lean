/- math/bits.OnesCount64 is the number of bits. -/
import Derived.Test.YtknlckjpgmjenaaNc
import Derived.Test.YtknlckjpgmjenaaG0
namespace Go.Proofs.Ytknlckjpgmjenaa
open Vm
theorem i64_127 (v : Nat) (hv : v < 18446744073709551616) : iand .i64 (IntKind.i64.wrap (v : Int)) 127 = ((v % 128 : Nat) : Int) := by
  have h1 : BitVec.ofInt 64 (IntKind.i64.wrap (v : Int)) = BitVec.ofNat 64 v := by
    apply BitVec.eq_of_toNat_eq
    rw [BitVec.toNat_ofInt, BitVec.toNat_ofNat, wi64_eq]
    omega
  show IntKind.i64.wrap ((BitVec.ofInt 64 (IntKind.i64.wrap (v : Int)) &&& BitVec.ofInt 64 (127 : Int)).toNat : Int) = _
  rw [h1, show BitVec.ofInt 64 (127 : Int) = BitVec.ofNat 64 127 from rfl]
  simp only [BitVec.toNat_and, BitVec.toNat_ofNat]
  rw [show (2 : Nat) ^ 64 = 18446744073709551616 from rfl, Nat.mod_eq_of_lt hv, show (127 : Nat) % 18446744073709551616 = 2 ^ 7 - 1 from rfl, Nat.and_two_pow_sub_one_eq_mod]
  exact wi64 (by omega) (by omega)
theorem ones_eq {x : Nat} (hx : x < 18446744073709551616) : bits_OnesCount64 x = some ((popN 64 x : Nat) : Int) := by
  obtain ⟨hn, hs⟩ := sums 8 x (by simpa using hx)
  have r85 : rep 85 8 = 6148914691236517205 := rfl
  have r51 : rep 51 8 = 3689348814741910323 := rfl
  have r15 : rep 15 8 = 1085102592571150095 := rfl
  have hA : sA 8 x ≤ 12297829382473034410 := by
    have h1 : x / 2 &&& 6148914691236517205 ≤ 6148914691236517205 := Nat.and_le_right
    have h2 : x &&& 6148914691236517205 ≤ 6148914691236517205 := Nat.and_le_right
    rw [sA, r85]; omega
  have hB : sB 8 (sA 8 x) ≤ 7378697629483820646 := by
    have h1 : sA 8 x / 4 &&& 3689348814741910323 ≤ 3689348814741910323 := Nat.and_le_right
    have h2 : sA 8 x &&& 3689348814741910323 ≤ 3689348814741910323 := Nat.and_le_right
    rw [sB, r51]; omega
  have e1 : IntKind.u64.wrap (iand .u64 (ishr .u64 (x : Int) 1) 6148914691236517205 + iand .u64 (x : Int) 6148914691236517205) = ((sA 8 x : Nat) : Int) := by
    have g := ishr64 x (s := 1) (by decide)
    have g1 := iand64 (x := x / 2) (y := 6148914691236517205) (by omega) (by decide)
    have g2 := iand64 (x := x) (y := 6148914691236517205) hx (by decide)
    rw [show ((1 : Nat) : Int) = 1 from rfl] at g
    rw [show ((6148914691236517205 : Nat) : Int) = 6148914691236517205 from rfl] at g1 g2
    rw [g, show x / 2 ^ 1 = x / 2 from rfl, g1, g2, wadd64, ← r85]
    rw [Nat.mod_eq_of_lt (by rw [sA] at hA; omega)]; rfl
  generalize sA 8 x = A at *
  have e2 : IntKind.u64.wrap (iand .u64 (ishr .u64 (A : Int) 2) 3689348814741910323 + iand .u64 (A : Int) 3689348814741910323) = ((sB 8 A : Nat) : Int) := by
    have g := ishr64 A (s := 2) (by decide)
    have g1 := iand64 (x := A / 4) (y := 3689348814741910323) (by omega) (by decide)
    have g2 := iand64 (x := A) (y := 3689348814741910323) (by omega) (by decide)
    rw [show ((2 : Nat) : Int) = 2 from rfl] at g
    rw [show ((3689348814741910323 : Nat) : Int) = 3689348814741910323 from rfl] at g1 g2
    rw [g, show A / 2 ^ 2 = A / 4 from rfl, g1, g2, wadd64, ← r51]
    rw [Nat.mod_eq_of_lt (by rw [sB] at hB; omega)]; rfl
  generalize sB 8 A = B at *
  have e3 : iand .u64 (IntKind.u64.wrap (ishr .u64 (B : Int) 4 + (B : Int))) 1085102592571150095 = ((sC 8 B : Nat) : Int) := by
    have g := ishr64 B (s := 4) (by decide)
    have g1 := iand64 (x := B / 16 + B) (y := 1085102592571150095) (by omega) (by decide)
    rw [show ((4 : Nat) : Int) = 4 from rfl] at g
    rw [show ((1085102592571150095 : Nat) : Int) = 1085102592571150095 from rfl] at g1
    rw [g, show B / 2 ^ 4 = B / 16 from rfl, wadd64, Nat.mod_eq_of_lt (by omega), g1, ← r15]; rfl
  rw [hs] at e3
  have hsm := counts_small 8 x
  obtain ⟨z, u, v, f1, f2, f3, f4, l1, l2, l3⟩ := fold_bytes _ hsm
  rw [counts_total] at f4
  generalize counts 8 x = C at *
  have e4 : IntKind.u64.wrap ((C : Int) + ishr .u64 (C : Int) 8) = ((z : Nat) : Int) := by
    have g := ishr64 C (s := 8) (by decide)
    rw [show ((8 : Nat) : Int) = 8 from rfl] at g
    rw [g, wadd64, show C / 2 ^ 8 = C / 256 from rfl, f1, Nat.mod_eq_of_lt l1]
  have e5 : IntKind.u64.wrap ((z : Int) + ishr .u64 (z : Int) 16) = ((u : Nat) : Int) := by
    have g := ishr64 z (s := 16) (by decide)
    rw [show ((16 : Nat) : Int) = 16 from rfl] at g
    rw [g, wadd64, show z / 2 ^ 16 = z / 65536 from rfl, f2, Nat.mod_eq_of_lt l2]
  have e6 : IntKind.u64.wrap ((u : Int) + ishr .u64 (u : Int) 32) = ((v : Nat) : Int) := by
    have g := ishr64 u (s := 32) (by decide)
    rw [show ((32 : Nat) : Int) = 32 from rfl] at g
    rw [g, wadd64, show u / 2 ^ 32 = u / 4294967296 from rfl, f3, Nat.mod_eq_of_lt l3]
  unfold bits_OnesCount64
  simp only [Option.bind_some, e1, e2, e3, e4, e5, e6]
  rw [i64_127 v l3, f4]
end Go.Proofs.Ytknlckjpgmjenaa
