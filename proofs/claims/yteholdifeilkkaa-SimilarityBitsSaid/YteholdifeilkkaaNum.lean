/- Numbers of fixed width: the walk's forms of arithmetic on u64, u32 and u8 as arithmetic on UInt64, UInt32, UInt8. -/
import Derived.Test.YteholdifeilkkaaRows
import Derived.WalkKit
import Derived.WalkSpells
import Derived.WalkLawsBesides
import Derived.BigRegion
import Derived.BigQuiet
import Derived.Deep.QuietTactic
import Derived.StillTailTactics
import Derived.Deep.RegionWith
import Derived.Deep.RegionLaw
import Derived.Deep.RegionHeld3
import Derived.Lib.Hide
import Derived.Deep.Cut
import Derived.Deep.DeepCutAuto
namespace Go.Proofs.Yteholdifeilkkaa
open Go.RowKit

/-- The number of a UInt64, closed to simp. -/
def T64 (x : UInt64) : Int := (x.toNat : Int)
theorem T64_pos (x : UInt64) : 0 ≤ T64 x := by unfold T64; omega
theorem T64_lt (x : UInt64) : T64 x < 18446744073709551616 := by unfold T64; have := x.toNat_lt; omega
theorem T64_inj {x y : UInt64} (h : T64 x = T64 y) : x = y := by unfold T64 at h; exact UInt64.toNat_inj.1 (by omega)
theorem T64_of (n : Int) (h0 : 0 ≤ n) (h1 : n < 18446744073709551616) : n = T64 (UInt64.ofNat n.toNat) := by
  unfold T64; rw [UInt64.toNat_ofNat']; omega
theorem u64_add (x y : UInt64) : IntKind.u64.wrap (T64 x + T64 y) = T64 (x + y) := by
  unfold T64; rw [IntKind.wrap_u64, UInt64.toNat_add]; omega
theorem u64_sub (x y : UInt64) : IntKind.u64.wrap (T64 x - T64 y) = T64 (x - y) := by
  unfold T64; rw [IntKind.wrap_u64, UInt64.toNat_sub]; have := x.toNat_lt; have := y.toNat_lt; omega
theorem u64_mul (x y : UInt64) : IntKind.u64.wrap (T64 x * T64 y) = T64 (x * y) := by
  unfold T64; rw [IntKind.wrap_u64, UInt64.toNat_mul, Int.natCast_emod, Int.natCast_mul]; rfl
theorem u64_ofInt (x : UInt64) : BitVec.ofInt 64 (T64 x) = x.toBitVec := by
  unfold T64; rw [BitVec.ofInt_natCast]; exact BitVec.eq_of_toNat_eq (by simp)
theorem u64_bv (b : BitVec 64) : IntKind.u64.wrap (b.toNat : Int) = (b.toNat : Int) := by
  rw [IntKind.wrap_u64]; have := b.isLt; omega
theorem u64_xor (x y : UInt64) : bits .xor .u64 (T64 x) (T64 y) = T64 (x ^^^ y) := by
  show IntKind.u64.wrap ((BitVec.ofInt 64 (T64 x) ^^^ BitVec.ofInt 64 (T64 y)).toNat : Int) = _
  rw [u64_ofInt, u64_ofInt, u64_bv]; rfl
theorem u64_or (x y : UInt64) : bits .or .u64 (T64 x) (T64 y) = T64 (x ||| y) := by
  show IntKind.u64.wrap ((BitVec.ofInt 64 (T64 x) ||| BitVec.ofInt 64 (T64 y)).toNat : Int) = _
  rw [u64_ofInt, u64_ofInt, u64_bv]; rfl
theorem u64_and (x y : UInt64) : bits .and .u64 (T64 x) (T64 y) = T64 (x &&& y) := by
  show IntKind.u64.wrap ((BitVec.ofInt 64 (T64 x) &&& BitVec.ofInt 64 (T64 y)).toNat : Int) = _
  rw [u64_ofInt, u64_ofInt, u64_bv]; rfl
theorem u64_shl (x : UInt64) (s : UInt64) (m : Nat) (hs : s.toNat < 64) (hm : m = 2 ^ s.toNat) : IntKind.u64.wrap (T64 x * (m : Int)) = T64 (x <<< s) := by
  unfold T64; rw [IntKind.wrap_u64, UInt64.toNat_shiftLeft, Nat.mod_eq_of_lt hs, Nat.shiftLeft_eq, ← hm, Int.natCast_emod, Int.natCast_mul]; rfl
theorem u64_shr (x : UInt64) (s : UInt64) (m : Nat) (hs : s.toNat < 64) (hm : m = 2 ^ s.toNat) : T64 x / (m : Int) = T64 (x >>> s) := by
  unfold T64; rw [UInt64.toNat_shiftRight, Nat.mod_eq_of_lt hs, Nat.shiftRight_eq_div_pow, ← hm, Int.natCast_ediv]
attribute [go_sem] u64_add u64_sub u64_mul u64_xor u64_or u64_and
@[go_sem] theorem u64_shl1 (x : UInt64) : IntKind.u64.wrap (T64 x * (2 : Int)) = T64 (x <<< 1) := u64_shl x 1 2 (by decide) (by decide)
@[go_sem] theorem u64_shr1 (x : UInt64) : T64 x / (2 : Int) = T64 (x >>> 1) := u64_shr x 1 2 (by decide) (by decide)
@[go_sem] theorem u64_shl2 (x : UInt64) : IntKind.u64.wrap (T64 x * (4 : Int)) = T64 (x <<< 2) := u64_shl x 2 4 (by decide) (by decide)
@[go_sem] theorem u64_shr2 (x : UInt64) : T64 x / (4 : Int) = T64 (x >>> 2) := u64_shr x 2 4 (by decide) (by decide)
@[go_sem] theorem u64_shl3 (x : UInt64) : IntKind.u64.wrap (T64 x * (8 : Int)) = T64 (x <<< 3) := u64_shl x 3 8 (by decide) (by decide)
@[go_sem] theorem u64_shr3 (x : UInt64) : T64 x / (8 : Int) = T64 (x >>> 3) := u64_shr x 3 8 (by decide) (by decide)
@[go_sem] theorem u64_shl4 (x : UInt64) : IntKind.u64.wrap (T64 x * (16 : Int)) = T64 (x <<< 4) := u64_shl x 4 16 (by decide) (by decide)
@[go_sem] theorem u64_shr4 (x : UInt64) : T64 x / (16 : Int) = T64 (x >>> 4) := u64_shr x 4 16 (by decide) (by decide)
@[go_sem] theorem u64_shl5 (x : UInt64) : IntKind.u64.wrap (T64 x * (32 : Int)) = T64 (x <<< 5) := u64_shl x 5 32 (by decide) (by decide)
@[go_sem] theorem u64_shr5 (x : UInt64) : T64 x / (32 : Int) = T64 (x >>> 5) := u64_shr x 5 32 (by decide) (by decide)
@[go_sem] theorem u64_shl6 (x : UInt64) : IntKind.u64.wrap (T64 x * (64 : Int)) = T64 (x <<< 6) := u64_shl x 6 64 (by decide) (by decide)
@[go_sem] theorem u64_shr6 (x : UInt64) : T64 x / (64 : Int) = T64 (x >>> 6) := u64_shr x 6 64 (by decide) (by decide)
@[go_sem] theorem u64_shl7 (x : UInt64) : IntKind.u64.wrap (T64 x * (128 : Int)) = T64 (x <<< 7) := u64_shl x 7 128 (by decide) (by decide)
@[go_sem] theorem u64_shr7 (x : UInt64) : T64 x / (128 : Int) = T64 (x >>> 7) := u64_shr x 7 128 (by decide) (by decide)
@[go_sem] theorem u64_shl8 (x : UInt64) : IntKind.u64.wrap (T64 x * (256 : Int)) = T64 (x <<< 8) := u64_shl x 8 256 (by decide) (by decide)
@[go_sem] theorem u64_shr8 (x : UInt64) : T64 x / (256 : Int) = T64 (x >>> 8) := u64_shr x 8 256 (by decide) (by decide)
@[go_sem] theorem u64_shl9 (x : UInt64) : IntKind.u64.wrap (T64 x * (512 : Int)) = T64 (x <<< 9) := u64_shl x 9 512 (by decide) (by decide)
@[go_sem] theorem u64_shr9 (x : UInt64) : T64 x / (512 : Int) = T64 (x >>> 9) := u64_shr x 9 512 (by decide) (by decide)
@[go_sem] theorem u64_shl10 (x : UInt64) : IntKind.u64.wrap (T64 x * (1024 : Int)) = T64 (x <<< 10) := u64_shl x 10 1024 (by decide) (by decide)
@[go_sem] theorem u64_shr10 (x : UInt64) : T64 x / (1024 : Int) = T64 (x >>> 10) := u64_shr x 10 1024 (by decide) (by decide)
@[go_sem] theorem u64_shl11 (x : UInt64) : IntKind.u64.wrap (T64 x * (2048 : Int)) = T64 (x <<< 11) := u64_shl x 11 2048 (by decide) (by decide)
@[go_sem] theorem u64_shr11 (x : UInt64) : T64 x / (2048 : Int) = T64 (x >>> 11) := u64_shr x 11 2048 (by decide) (by decide)
@[go_sem] theorem u64_shl12 (x : UInt64) : IntKind.u64.wrap (T64 x * (4096 : Int)) = T64 (x <<< 12) := u64_shl x 12 4096 (by decide) (by decide)
@[go_sem] theorem u64_shr12 (x : UInt64) : T64 x / (4096 : Int) = T64 (x >>> 12) := u64_shr x 12 4096 (by decide) (by decide)
@[go_sem] theorem u64_shl13 (x : UInt64) : IntKind.u64.wrap (T64 x * (8192 : Int)) = T64 (x <<< 13) := u64_shl x 13 8192 (by decide) (by decide)
@[go_sem] theorem u64_shr13 (x : UInt64) : T64 x / (8192 : Int) = T64 (x >>> 13) := u64_shr x 13 8192 (by decide) (by decide)
@[go_sem] theorem u64_shl14 (x : UInt64) : IntKind.u64.wrap (T64 x * (16384 : Int)) = T64 (x <<< 14) := u64_shl x 14 16384 (by decide) (by decide)
@[go_sem] theorem u64_shr14 (x : UInt64) : T64 x / (16384 : Int) = T64 (x >>> 14) := u64_shr x 14 16384 (by decide) (by decide)
@[go_sem] theorem u64_shl15 (x : UInt64) : IntKind.u64.wrap (T64 x * (32768 : Int)) = T64 (x <<< 15) := u64_shl x 15 32768 (by decide) (by decide)
@[go_sem] theorem u64_shr15 (x : UInt64) : T64 x / (32768 : Int) = T64 (x >>> 15) := u64_shr x 15 32768 (by decide) (by decide)
@[go_sem] theorem u64_shl16 (x : UInt64) : IntKind.u64.wrap (T64 x * (65536 : Int)) = T64 (x <<< 16) := u64_shl x 16 65536 (by decide) (by decide)
@[go_sem] theorem u64_shr16 (x : UInt64) : T64 x / (65536 : Int) = T64 (x >>> 16) := u64_shr x 16 65536 (by decide) (by decide)
@[go_sem] theorem u64_shl17 (x : UInt64) : IntKind.u64.wrap (T64 x * (131072 : Int)) = T64 (x <<< 17) := u64_shl x 17 131072 (by decide) (by decide)
@[go_sem] theorem u64_shr17 (x : UInt64) : T64 x / (131072 : Int) = T64 (x >>> 17) := u64_shr x 17 131072 (by decide) (by decide)
@[go_sem] theorem u64_shl18 (x : UInt64) : IntKind.u64.wrap (T64 x * (262144 : Int)) = T64 (x <<< 18) := u64_shl x 18 262144 (by decide) (by decide)
@[go_sem] theorem u64_shr18 (x : UInt64) : T64 x / (262144 : Int) = T64 (x >>> 18) := u64_shr x 18 262144 (by decide) (by decide)
@[go_sem] theorem u64_shl19 (x : UInt64) : IntKind.u64.wrap (T64 x * (524288 : Int)) = T64 (x <<< 19) := u64_shl x 19 524288 (by decide) (by decide)
@[go_sem] theorem u64_shr19 (x : UInt64) : T64 x / (524288 : Int) = T64 (x >>> 19) := u64_shr x 19 524288 (by decide) (by decide)
@[go_sem] theorem u64_shl20 (x : UInt64) : IntKind.u64.wrap (T64 x * (1048576 : Int)) = T64 (x <<< 20) := u64_shl x 20 1048576 (by decide) (by decide)
@[go_sem] theorem u64_shr20 (x : UInt64) : T64 x / (1048576 : Int) = T64 (x >>> 20) := u64_shr x 20 1048576 (by decide) (by decide)
@[go_sem] theorem u64_shl21 (x : UInt64) : IntKind.u64.wrap (T64 x * (2097152 : Int)) = T64 (x <<< 21) := u64_shl x 21 2097152 (by decide) (by decide)
@[go_sem] theorem u64_shr21 (x : UInt64) : T64 x / (2097152 : Int) = T64 (x >>> 21) := u64_shr x 21 2097152 (by decide) (by decide)
@[go_sem] theorem u64_shl22 (x : UInt64) : IntKind.u64.wrap (T64 x * (4194304 : Int)) = T64 (x <<< 22) := u64_shl x 22 4194304 (by decide) (by decide)
@[go_sem] theorem u64_shr22 (x : UInt64) : T64 x / (4194304 : Int) = T64 (x >>> 22) := u64_shr x 22 4194304 (by decide) (by decide)
@[go_sem] theorem u64_shl23 (x : UInt64) : IntKind.u64.wrap (T64 x * (8388608 : Int)) = T64 (x <<< 23) := u64_shl x 23 8388608 (by decide) (by decide)
@[go_sem] theorem u64_shr23 (x : UInt64) : T64 x / (8388608 : Int) = T64 (x >>> 23) := u64_shr x 23 8388608 (by decide) (by decide)
@[go_sem] theorem u64_shl24 (x : UInt64) : IntKind.u64.wrap (T64 x * (16777216 : Int)) = T64 (x <<< 24) := u64_shl x 24 16777216 (by decide) (by decide)
@[go_sem] theorem u64_shr24 (x : UInt64) : T64 x / (16777216 : Int) = T64 (x >>> 24) := u64_shr x 24 16777216 (by decide) (by decide)
@[go_sem] theorem u64_shl25 (x : UInt64) : IntKind.u64.wrap (T64 x * (33554432 : Int)) = T64 (x <<< 25) := u64_shl x 25 33554432 (by decide) (by decide)
@[go_sem] theorem u64_shr25 (x : UInt64) : T64 x / (33554432 : Int) = T64 (x >>> 25) := u64_shr x 25 33554432 (by decide) (by decide)
@[go_sem] theorem u64_shl26 (x : UInt64) : IntKind.u64.wrap (T64 x * (67108864 : Int)) = T64 (x <<< 26) := u64_shl x 26 67108864 (by decide) (by decide)
@[go_sem] theorem u64_shr26 (x : UInt64) : T64 x / (67108864 : Int) = T64 (x >>> 26) := u64_shr x 26 67108864 (by decide) (by decide)
@[go_sem] theorem u64_shl27 (x : UInt64) : IntKind.u64.wrap (T64 x * (134217728 : Int)) = T64 (x <<< 27) := u64_shl x 27 134217728 (by decide) (by decide)
@[go_sem] theorem u64_shr27 (x : UInt64) : T64 x / (134217728 : Int) = T64 (x >>> 27) := u64_shr x 27 134217728 (by decide) (by decide)
@[go_sem] theorem u64_shl28 (x : UInt64) : IntKind.u64.wrap (T64 x * (268435456 : Int)) = T64 (x <<< 28) := u64_shl x 28 268435456 (by decide) (by decide)
@[go_sem] theorem u64_shr28 (x : UInt64) : T64 x / (268435456 : Int) = T64 (x >>> 28) := u64_shr x 28 268435456 (by decide) (by decide)
@[go_sem] theorem u64_shl29 (x : UInt64) : IntKind.u64.wrap (T64 x * (536870912 : Int)) = T64 (x <<< 29) := u64_shl x 29 536870912 (by decide) (by decide)
@[go_sem] theorem u64_shr29 (x : UInt64) : T64 x / (536870912 : Int) = T64 (x >>> 29) := u64_shr x 29 536870912 (by decide) (by decide)
@[go_sem] theorem u64_shl30 (x : UInt64) : IntKind.u64.wrap (T64 x * (1073741824 : Int)) = T64 (x <<< 30) := u64_shl x 30 1073741824 (by decide) (by decide)
@[go_sem] theorem u64_shr30 (x : UInt64) : T64 x / (1073741824 : Int) = T64 (x >>> 30) := u64_shr x 30 1073741824 (by decide) (by decide)
@[go_sem] theorem u64_shl31 (x : UInt64) : IntKind.u64.wrap (T64 x * (2147483648 : Int)) = T64 (x <<< 31) := u64_shl x 31 2147483648 (by decide) (by decide)
@[go_sem] theorem u64_shr31 (x : UInt64) : T64 x / (2147483648 : Int) = T64 (x >>> 31) := u64_shr x 31 2147483648 (by decide) (by decide)
@[go_sem] theorem u64_shl32 (x : UInt64) : IntKind.u64.wrap (T64 x * (4294967296 : Int)) = T64 (x <<< 32) := u64_shl x 32 4294967296 (by decide) (by decide)
@[go_sem] theorem u64_shr32 (x : UInt64) : T64 x / (4294967296 : Int) = T64 (x >>> 32) := u64_shr x 32 4294967296 (by decide) (by decide)
@[go_sem] theorem u64_shl33 (x : UInt64) : IntKind.u64.wrap (T64 x * (8589934592 : Int)) = T64 (x <<< 33) := u64_shl x 33 8589934592 (by decide) (by decide)
@[go_sem] theorem u64_shr33 (x : UInt64) : T64 x / (8589934592 : Int) = T64 (x >>> 33) := u64_shr x 33 8589934592 (by decide) (by decide)
@[go_sem] theorem u64_shl34 (x : UInt64) : IntKind.u64.wrap (T64 x * (17179869184 : Int)) = T64 (x <<< 34) := u64_shl x 34 17179869184 (by decide) (by decide)
@[go_sem] theorem u64_shr34 (x : UInt64) : T64 x / (17179869184 : Int) = T64 (x >>> 34) := u64_shr x 34 17179869184 (by decide) (by decide)
@[go_sem] theorem u64_shl35 (x : UInt64) : IntKind.u64.wrap (T64 x * (34359738368 : Int)) = T64 (x <<< 35) := u64_shl x 35 34359738368 (by decide) (by decide)
@[go_sem] theorem u64_shr35 (x : UInt64) : T64 x / (34359738368 : Int) = T64 (x >>> 35) := u64_shr x 35 34359738368 (by decide) (by decide)
@[go_sem] theorem u64_shl36 (x : UInt64) : IntKind.u64.wrap (T64 x * (68719476736 : Int)) = T64 (x <<< 36) := u64_shl x 36 68719476736 (by decide) (by decide)
@[go_sem] theorem u64_shr36 (x : UInt64) : T64 x / (68719476736 : Int) = T64 (x >>> 36) := u64_shr x 36 68719476736 (by decide) (by decide)
@[go_sem] theorem u64_shl37 (x : UInt64) : IntKind.u64.wrap (T64 x * (137438953472 : Int)) = T64 (x <<< 37) := u64_shl x 37 137438953472 (by decide) (by decide)
@[go_sem] theorem u64_shr37 (x : UInt64) : T64 x / (137438953472 : Int) = T64 (x >>> 37) := u64_shr x 37 137438953472 (by decide) (by decide)
@[go_sem] theorem u64_shl38 (x : UInt64) : IntKind.u64.wrap (T64 x * (274877906944 : Int)) = T64 (x <<< 38) := u64_shl x 38 274877906944 (by decide) (by decide)
@[go_sem] theorem u64_shr38 (x : UInt64) : T64 x / (274877906944 : Int) = T64 (x >>> 38) := u64_shr x 38 274877906944 (by decide) (by decide)
@[go_sem] theorem u64_shl39 (x : UInt64) : IntKind.u64.wrap (T64 x * (549755813888 : Int)) = T64 (x <<< 39) := u64_shl x 39 549755813888 (by decide) (by decide)
@[go_sem] theorem u64_shr39 (x : UInt64) : T64 x / (549755813888 : Int) = T64 (x >>> 39) := u64_shr x 39 549755813888 (by decide) (by decide)
@[go_sem] theorem u64_shl40 (x : UInt64) : IntKind.u64.wrap (T64 x * (1099511627776 : Int)) = T64 (x <<< 40) := u64_shl x 40 1099511627776 (by decide) (by decide)
@[go_sem] theorem u64_shr40 (x : UInt64) : T64 x / (1099511627776 : Int) = T64 (x >>> 40) := u64_shr x 40 1099511627776 (by decide) (by decide)
@[go_sem] theorem u64_shl41 (x : UInt64) : IntKind.u64.wrap (T64 x * (2199023255552 : Int)) = T64 (x <<< 41) := u64_shl x 41 2199023255552 (by decide) (by decide)
@[go_sem] theorem u64_shr41 (x : UInt64) : T64 x / (2199023255552 : Int) = T64 (x >>> 41) := u64_shr x 41 2199023255552 (by decide) (by decide)
@[go_sem] theorem u64_shl42 (x : UInt64) : IntKind.u64.wrap (T64 x * (4398046511104 : Int)) = T64 (x <<< 42) := u64_shl x 42 4398046511104 (by decide) (by decide)
@[go_sem] theorem u64_shr42 (x : UInt64) : T64 x / (4398046511104 : Int) = T64 (x >>> 42) := u64_shr x 42 4398046511104 (by decide) (by decide)
@[go_sem] theorem u64_shl43 (x : UInt64) : IntKind.u64.wrap (T64 x * (8796093022208 : Int)) = T64 (x <<< 43) := u64_shl x 43 8796093022208 (by decide) (by decide)
@[go_sem] theorem u64_shr43 (x : UInt64) : T64 x / (8796093022208 : Int) = T64 (x >>> 43) := u64_shr x 43 8796093022208 (by decide) (by decide)
@[go_sem] theorem u64_shl44 (x : UInt64) : IntKind.u64.wrap (T64 x * (17592186044416 : Int)) = T64 (x <<< 44) := u64_shl x 44 17592186044416 (by decide) (by decide)
@[go_sem] theorem u64_shr44 (x : UInt64) : T64 x / (17592186044416 : Int) = T64 (x >>> 44) := u64_shr x 44 17592186044416 (by decide) (by decide)
@[go_sem] theorem u64_shl45 (x : UInt64) : IntKind.u64.wrap (T64 x * (35184372088832 : Int)) = T64 (x <<< 45) := u64_shl x 45 35184372088832 (by decide) (by decide)
@[go_sem] theorem u64_shr45 (x : UInt64) : T64 x / (35184372088832 : Int) = T64 (x >>> 45) := u64_shr x 45 35184372088832 (by decide) (by decide)
@[go_sem] theorem u64_shl46 (x : UInt64) : IntKind.u64.wrap (T64 x * (70368744177664 : Int)) = T64 (x <<< 46) := u64_shl x 46 70368744177664 (by decide) (by decide)
@[go_sem] theorem u64_shr46 (x : UInt64) : T64 x / (70368744177664 : Int) = T64 (x >>> 46) := u64_shr x 46 70368744177664 (by decide) (by decide)
@[go_sem] theorem u64_shl47 (x : UInt64) : IntKind.u64.wrap (T64 x * (140737488355328 : Int)) = T64 (x <<< 47) := u64_shl x 47 140737488355328 (by decide) (by decide)
@[go_sem] theorem u64_shr47 (x : UInt64) : T64 x / (140737488355328 : Int) = T64 (x >>> 47) := u64_shr x 47 140737488355328 (by decide) (by decide)
@[go_sem] theorem u64_shl48 (x : UInt64) : IntKind.u64.wrap (T64 x * (281474976710656 : Int)) = T64 (x <<< 48) := u64_shl x 48 281474976710656 (by decide) (by decide)
@[go_sem] theorem u64_shr48 (x : UInt64) : T64 x / (281474976710656 : Int) = T64 (x >>> 48) := u64_shr x 48 281474976710656 (by decide) (by decide)
@[go_sem] theorem u64_shl49 (x : UInt64) : IntKind.u64.wrap (T64 x * (562949953421312 : Int)) = T64 (x <<< 49) := u64_shl x 49 562949953421312 (by decide) (by decide)
@[go_sem] theorem u64_shr49 (x : UInt64) : T64 x / (562949953421312 : Int) = T64 (x >>> 49) := u64_shr x 49 562949953421312 (by decide) (by decide)
@[go_sem] theorem u64_shl50 (x : UInt64) : IntKind.u64.wrap (T64 x * (1125899906842624 : Int)) = T64 (x <<< 50) := u64_shl x 50 1125899906842624 (by decide) (by decide)
@[go_sem] theorem u64_shr50 (x : UInt64) : T64 x / (1125899906842624 : Int) = T64 (x >>> 50) := u64_shr x 50 1125899906842624 (by decide) (by decide)
@[go_sem] theorem u64_shl51 (x : UInt64) : IntKind.u64.wrap (T64 x * (2251799813685248 : Int)) = T64 (x <<< 51) := u64_shl x 51 2251799813685248 (by decide) (by decide)
@[go_sem] theorem u64_shr51 (x : UInt64) : T64 x / (2251799813685248 : Int) = T64 (x >>> 51) := u64_shr x 51 2251799813685248 (by decide) (by decide)
@[go_sem] theorem u64_shl52 (x : UInt64) : IntKind.u64.wrap (T64 x * (4503599627370496 : Int)) = T64 (x <<< 52) := u64_shl x 52 4503599627370496 (by decide) (by decide)
@[go_sem] theorem u64_shr52 (x : UInt64) : T64 x / (4503599627370496 : Int) = T64 (x >>> 52) := u64_shr x 52 4503599627370496 (by decide) (by decide)
@[go_sem] theorem u64_shl53 (x : UInt64) : IntKind.u64.wrap (T64 x * (9007199254740992 : Int)) = T64 (x <<< 53) := u64_shl x 53 9007199254740992 (by decide) (by decide)
@[go_sem] theorem u64_shr53 (x : UInt64) : T64 x / (9007199254740992 : Int) = T64 (x >>> 53) := u64_shr x 53 9007199254740992 (by decide) (by decide)
@[go_sem] theorem u64_shl54 (x : UInt64) : IntKind.u64.wrap (T64 x * (18014398509481984 : Int)) = T64 (x <<< 54) := u64_shl x 54 18014398509481984 (by decide) (by decide)
@[go_sem] theorem u64_shr54 (x : UInt64) : T64 x / (18014398509481984 : Int) = T64 (x >>> 54) := u64_shr x 54 18014398509481984 (by decide) (by decide)
@[go_sem] theorem u64_shl55 (x : UInt64) : IntKind.u64.wrap (T64 x * (36028797018963968 : Int)) = T64 (x <<< 55) := u64_shl x 55 36028797018963968 (by decide) (by decide)
@[go_sem] theorem u64_shr55 (x : UInt64) : T64 x / (36028797018963968 : Int) = T64 (x >>> 55) := u64_shr x 55 36028797018963968 (by decide) (by decide)
@[go_sem] theorem u64_shl56 (x : UInt64) : IntKind.u64.wrap (T64 x * (72057594037927936 : Int)) = T64 (x <<< 56) := u64_shl x 56 72057594037927936 (by decide) (by decide)
@[go_sem] theorem u64_shr56 (x : UInt64) : T64 x / (72057594037927936 : Int) = T64 (x >>> 56) := u64_shr x 56 72057594037927936 (by decide) (by decide)
@[go_sem] theorem u64_shl57 (x : UInt64) : IntKind.u64.wrap (T64 x * (144115188075855872 : Int)) = T64 (x <<< 57) := u64_shl x 57 144115188075855872 (by decide) (by decide)
@[go_sem] theorem u64_shr57 (x : UInt64) : T64 x / (144115188075855872 : Int) = T64 (x >>> 57) := u64_shr x 57 144115188075855872 (by decide) (by decide)
@[go_sem] theorem u64_shl58 (x : UInt64) : IntKind.u64.wrap (T64 x * (288230376151711744 : Int)) = T64 (x <<< 58) := u64_shl x 58 288230376151711744 (by decide) (by decide)
@[go_sem] theorem u64_shr58 (x : UInt64) : T64 x / (288230376151711744 : Int) = T64 (x >>> 58) := u64_shr x 58 288230376151711744 (by decide) (by decide)
@[go_sem] theorem u64_shl59 (x : UInt64) : IntKind.u64.wrap (T64 x * (576460752303423488 : Int)) = T64 (x <<< 59) := u64_shl x 59 576460752303423488 (by decide) (by decide)
@[go_sem] theorem u64_shr59 (x : UInt64) : T64 x / (576460752303423488 : Int) = T64 (x >>> 59) := u64_shr x 59 576460752303423488 (by decide) (by decide)
@[go_sem] theorem u64_shl60 (x : UInt64) : IntKind.u64.wrap (T64 x * (1152921504606846976 : Int)) = T64 (x <<< 60) := u64_shl x 60 1152921504606846976 (by decide) (by decide)
@[go_sem] theorem u64_shr60 (x : UInt64) : T64 x / (1152921504606846976 : Int) = T64 (x >>> 60) := u64_shr x 60 1152921504606846976 (by decide) (by decide)
@[go_sem] theorem u64_shl61 (x : UInt64) : IntKind.u64.wrap (T64 x * (2305843009213693952 : Int)) = T64 (x <<< 61) := u64_shl x 61 2305843009213693952 (by decide) (by decide)
@[go_sem] theorem u64_shr61 (x : UInt64) : T64 x / (2305843009213693952 : Int) = T64 (x >>> 61) := u64_shr x 61 2305843009213693952 (by decide) (by decide)
@[go_sem] theorem u64_shl62 (x : UInt64) : IntKind.u64.wrap (T64 x * (4611686018427387904 : Int)) = T64 (x <<< 62) := u64_shl x 62 4611686018427387904 (by decide) (by decide)
@[go_sem] theorem u64_shr62 (x : UInt64) : T64 x / (4611686018427387904 : Int) = T64 (x >>> 62) := u64_shr x 62 4611686018427387904 (by decide) (by decide)
@[go_sem] theorem u64_shl63 (x : UInt64) : IntKind.u64.wrap (T64 x * (9223372036854775808 : Int)) = T64 (x <<< 63) := u64_shl x 63 9223372036854775808 (by decide) (by decide)
@[go_sem] theorem u64_shr63 (x : UInt64) : T64 x / (9223372036854775808 : Int) = T64 (x >>> 63) := u64_shr x 63 9223372036854775808 (by decide) (by decide)
theorem wrap_u32 (n : Int) : IntKind.u32.wrap n = n % 4294967296 := by simp [IntKind.wrap, IntKind.bits, IntKind.signed]
/-- The number of a UInt32, closed to simp. -/
def T32 (x : UInt32) : Int := (x.toNat : Int)
theorem T32_pos (x : UInt32) : 0 ≤ T32 x := by unfold T32; omega
theorem T32_lt (x : UInt32) : T32 x < 4294967296 := by unfold T32; have := x.toNat_lt; omega
theorem T32_inj {x y : UInt32} (h : T32 x = T32 y) : x = y := by unfold T32 at h; exact UInt32.toNat_inj.1 (by omega)
theorem T32_of (n : Int) (h0 : 0 ≤ n) (h1 : n < 4294967296) : n = T32 (UInt32.ofNat n.toNat) := by
  unfold T32; rw [UInt32.toNat_ofNat']; omega
theorem u32_add (x y : UInt32) : IntKind.u32.wrap (T32 x + T32 y) = T32 (x + y) := by
  unfold T32; rw [wrap_u32, UInt32.toNat_add]; omega
theorem u32_sub (x y : UInt32) : IntKind.u32.wrap (T32 x - T32 y) = T32 (x - y) := by
  unfold T32; rw [wrap_u32, UInt32.toNat_sub]; have := x.toNat_lt; have := y.toNat_lt; omega
theorem u32_mul (x y : UInt32) : IntKind.u32.wrap (T32 x * T32 y) = T32 (x * y) := by
  unfold T32; rw [wrap_u32, UInt32.toNat_mul, Int.natCast_emod, Int.natCast_mul]; rfl
theorem u32_ofInt (x : UInt32) : BitVec.ofInt 32 (T32 x) = x.toBitVec := by
  unfold T32; rw [BitVec.ofInt_natCast]; exact BitVec.eq_of_toNat_eq (by simp)
theorem u32_bv (b : BitVec 32) : IntKind.u32.wrap (b.toNat : Int) = (b.toNat : Int) := by
  rw [wrap_u32]; have := b.isLt; omega
theorem u32_xor (x y : UInt32) : bits .xor .u32 (T32 x) (T32 y) = T32 (x ^^^ y) := by
  show IntKind.u32.wrap ((BitVec.ofInt 32 (T32 x) ^^^ BitVec.ofInt 32 (T32 y)).toNat : Int) = _
  rw [u32_ofInt, u32_ofInt, u32_bv]; rfl
theorem u32_or (x y : UInt32) : bits .or .u32 (T32 x) (T32 y) = T32 (x ||| y) := by
  show IntKind.u32.wrap ((BitVec.ofInt 32 (T32 x) ||| BitVec.ofInt 32 (T32 y)).toNat : Int) = _
  rw [u32_ofInt, u32_ofInt, u32_bv]; rfl
theorem u32_and (x y : UInt32) : bits .and .u32 (T32 x) (T32 y) = T32 (x &&& y) := by
  show IntKind.u32.wrap ((BitVec.ofInt 32 (T32 x) &&& BitVec.ofInt 32 (T32 y)).toNat : Int) = _
  rw [u32_ofInt, u32_ofInt, u32_bv]; rfl
theorem u32_shl (x : UInt32) (s : UInt32) (m : Nat) (hs : s.toNat < 32) (hm : m = 2 ^ s.toNat) : IntKind.u32.wrap (T32 x * (m : Int)) = T32 (x <<< s) := by
  unfold T32; rw [wrap_u32, UInt32.toNat_shiftLeft, Nat.mod_eq_of_lt hs, Nat.shiftLeft_eq, ← hm, Int.natCast_emod, Int.natCast_mul]; rfl
theorem u32_shr (x : UInt32) (s : UInt32) (m : Nat) (hs : s.toNat < 32) (hm : m = 2 ^ s.toNat) : T32 x / (m : Int) = T32 (x >>> s) := by
  unfold T32; rw [UInt32.toNat_shiftRight, Nat.mod_eq_of_lt hs, Nat.shiftRight_eq_div_pow, ← hm, Int.natCast_ediv]
attribute [go_sem] u32_add u32_sub u32_mul u32_xor u32_or u32_and
@[go_sem] theorem u32_shl1 (x : UInt32) : IntKind.u32.wrap (T32 x * (2 : Int)) = T32 (x <<< 1) := u32_shl x 1 2 (by decide) (by decide)
@[go_sem] theorem u32_shr1 (x : UInt32) : T32 x / (2 : Int) = T32 (x >>> 1) := u32_shr x 1 2 (by decide) (by decide)
@[go_sem] theorem u32_shl2 (x : UInt32) : IntKind.u32.wrap (T32 x * (4 : Int)) = T32 (x <<< 2) := u32_shl x 2 4 (by decide) (by decide)
@[go_sem] theorem u32_shr2 (x : UInt32) : T32 x / (4 : Int) = T32 (x >>> 2) := u32_shr x 2 4 (by decide) (by decide)
@[go_sem] theorem u32_shl3 (x : UInt32) : IntKind.u32.wrap (T32 x * (8 : Int)) = T32 (x <<< 3) := u32_shl x 3 8 (by decide) (by decide)
@[go_sem] theorem u32_shr3 (x : UInt32) : T32 x / (8 : Int) = T32 (x >>> 3) := u32_shr x 3 8 (by decide) (by decide)
@[go_sem] theorem u32_shl4 (x : UInt32) : IntKind.u32.wrap (T32 x * (16 : Int)) = T32 (x <<< 4) := u32_shl x 4 16 (by decide) (by decide)
@[go_sem] theorem u32_shr4 (x : UInt32) : T32 x / (16 : Int) = T32 (x >>> 4) := u32_shr x 4 16 (by decide) (by decide)
@[go_sem] theorem u32_shl5 (x : UInt32) : IntKind.u32.wrap (T32 x * (32 : Int)) = T32 (x <<< 5) := u32_shl x 5 32 (by decide) (by decide)
@[go_sem] theorem u32_shr5 (x : UInt32) : T32 x / (32 : Int) = T32 (x >>> 5) := u32_shr x 5 32 (by decide) (by decide)
@[go_sem] theorem u32_shl6 (x : UInt32) : IntKind.u32.wrap (T32 x * (64 : Int)) = T32 (x <<< 6) := u32_shl x 6 64 (by decide) (by decide)
@[go_sem] theorem u32_shr6 (x : UInt32) : T32 x / (64 : Int) = T32 (x >>> 6) := u32_shr x 6 64 (by decide) (by decide)
@[go_sem] theorem u32_shl7 (x : UInt32) : IntKind.u32.wrap (T32 x * (128 : Int)) = T32 (x <<< 7) := u32_shl x 7 128 (by decide) (by decide)
@[go_sem] theorem u32_shr7 (x : UInt32) : T32 x / (128 : Int) = T32 (x >>> 7) := u32_shr x 7 128 (by decide) (by decide)
@[go_sem] theorem u32_shl8 (x : UInt32) : IntKind.u32.wrap (T32 x * (256 : Int)) = T32 (x <<< 8) := u32_shl x 8 256 (by decide) (by decide)
@[go_sem] theorem u32_shr8 (x : UInt32) : T32 x / (256 : Int) = T32 (x >>> 8) := u32_shr x 8 256 (by decide) (by decide)
@[go_sem] theorem u32_shl9 (x : UInt32) : IntKind.u32.wrap (T32 x * (512 : Int)) = T32 (x <<< 9) := u32_shl x 9 512 (by decide) (by decide)
@[go_sem] theorem u32_shr9 (x : UInt32) : T32 x / (512 : Int) = T32 (x >>> 9) := u32_shr x 9 512 (by decide) (by decide)
@[go_sem] theorem u32_shl10 (x : UInt32) : IntKind.u32.wrap (T32 x * (1024 : Int)) = T32 (x <<< 10) := u32_shl x 10 1024 (by decide) (by decide)
@[go_sem] theorem u32_shr10 (x : UInt32) : T32 x / (1024 : Int) = T32 (x >>> 10) := u32_shr x 10 1024 (by decide) (by decide)
@[go_sem] theorem u32_shl11 (x : UInt32) : IntKind.u32.wrap (T32 x * (2048 : Int)) = T32 (x <<< 11) := u32_shl x 11 2048 (by decide) (by decide)
@[go_sem] theorem u32_shr11 (x : UInt32) : T32 x / (2048 : Int) = T32 (x >>> 11) := u32_shr x 11 2048 (by decide) (by decide)
@[go_sem] theorem u32_shl12 (x : UInt32) : IntKind.u32.wrap (T32 x * (4096 : Int)) = T32 (x <<< 12) := u32_shl x 12 4096 (by decide) (by decide)
@[go_sem] theorem u32_shr12 (x : UInt32) : T32 x / (4096 : Int) = T32 (x >>> 12) := u32_shr x 12 4096 (by decide) (by decide)
@[go_sem] theorem u32_shl13 (x : UInt32) : IntKind.u32.wrap (T32 x * (8192 : Int)) = T32 (x <<< 13) := u32_shl x 13 8192 (by decide) (by decide)
@[go_sem] theorem u32_shr13 (x : UInt32) : T32 x / (8192 : Int) = T32 (x >>> 13) := u32_shr x 13 8192 (by decide) (by decide)
@[go_sem] theorem u32_shl14 (x : UInt32) : IntKind.u32.wrap (T32 x * (16384 : Int)) = T32 (x <<< 14) := u32_shl x 14 16384 (by decide) (by decide)
@[go_sem] theorem u32_shr14 (x : UInt32) : T32 x / (16384 : Int) = T32 (x >>> 14) := u32_shr x 14 16384 (by decide) (by decide)
@[go_sem] theorem u32_shl15 (x : UInt32) : IntKind.u32.wrap (T32 x * (32768 : Int)) = T32 (x <<< 15) := u32_shl x 15 32768 (by decide) (by decide)
@[go_sem] theorem u32_shr15 (x : UInt32) : T32 x / (32768 : Int) = T32 (x >>> 15) := u32_shr x 15 32768 (by decide) (by decide)
@[go_sem] theorem u32_shl16 (x : UInt32) : IntKind.u32.wrap (T32 x * (65536 : Int)) = T32 (x <<< 16) := u32_shl x 16 65536 (by decide) (by decide)
@[go_sem] theorem u32_shr16 (x : UInt32) : T32 x / (65536 : Int) = T32 (x >>> 16) := u32_shr x 16 65536 (by decide) (by decide)
@[go_sem] theorem u32_shl17 (x : UInt32) : IntKind.u32.wrap (T32 x * (131072 : Int)) = T32 (x <<< 17) := u32_shl x 17 131072 (by decide) (by decide)
@[go_sem] theorem u32_shr17 (x : UInt32) : T32 x / (131072 : Int) = T32 (x >>> 17) := u32_shr x 17 131072 (by decide) (by decide)
@[go_sem] theorem u32_shl18 (x : UInt32) : IntKind.u32.wrap (T32 x * (262144 : Int)) = T32 (x <<< 18) := u32_shl x 18 262144 (by decide) (by decide)
@[go_sem] theorem u32_shr18 (x : UInt32) : T32 x / (262144 : Int) = T32 (x >>> 18) := u32_shr x 18 262144 (by decide) (by decide)
@[go_sem] theorem u32_shl19 (x : UInt32) : IntKind.u32.wrap (T32 x * (524288 : Int)) = T32 (x <<< 19) := u32_shl x 19 524288 (by decide) (by decide)
@[go_sem] theorem u32_shr19 (x : UInt32) : T32 x / (524288 : Int) = T32 (x >>> 19) := u32_shr x 19 524288 (by decide) (by decide)
@[go_sem] theorem u32_shl20 (x : UInt32) : IntKind.u32.wrap (T32 x * (1048576 : Int)) = T32 (x <<< 20) := u32_shl x 20 1048576 (by decide) (by decide)
@[go_sem] theorem u32_shr20 (x : UInt32) : T32 x / (1048576 : Int) = T32 (x >>> 20) := u32_shr x 20 1048576 (by decide) (by decide)
@[go_sem] theorem u32_shl21 (x : UInt32) : IntKind.u32.wrap (T32 x * (2097152 : Int)) = T32 (x <<< 21) := u32_shl x 21 2097152 (by decide) (by decide)
@[go_sem] theorem u32_shr21 (x : UInt32) : T32 x / (2097152 : Int) = T32 (x >>> 21) := u32_shr x 21 2097152 (by decide) (by decide)
@[go_sem] theorem u32_shl22 (x : UInt32) : IntKind.u32.wrap (T32 x * (4194304 : Int)) = T32 (x <<< 22) := u32_shl x 22 4194304 (by decide) (by decide)
@[go_sem] theorem u32_shr22 (x : UInt32) : T32 x / (4194304 : Int) = T32 (x >>> 22) := u32_shr x 22 4194304 (by decide) (by decide)
@[go_sem] theorem u32_shl23 (x : UInt32) : IntKind.u32.wrap (T32 x * (8388608 : Int)) = T32 (x <<< 23) := u32_shl x 23 8388608 (by decide) (by decide)
@[go_sem] theorem u32_shr23 (x : UInt32) : T32 x / (8388608 : Int) = T32 (x >>> 23) := u32_shr x 23 8388608 (by decide) (by decide)
@[go_sem] theorem u32_shl24 (x : UInt32) : IntKind.u32.wrap (T32 x * (16777216 : Int)) = T32 (x <<< 24) := u32_shl x 24 16777216 (by decide) (by decide)
@[go_sem] theorem u32_shr24 (x : UInt32) : T32 x / (16777216 : Int) = T32 (x >>> 24) := u32_shr x 24 16777216 (by decide) (by decide)
@[go_sem] theorem u32_shl25 (x : UInt32) : IntKind.u32.wrap (T32 x * (33554432 : Int)) = T32 (x <<< 25) := u32_shl x 25 33554432 (by decide) (by decide)
@[go_sem] theorem u32_shr25 (x : UInt32) : T32 x / (33554432 : Int) = T32 (x >>> 25) := u32_shr x 25 33554432 (by decide) (by decide)
@[go_sem] theorem u32_shl26 (x : UInt32) : IntKind.u32.wrap (T32 x * (67108864 : Int)) = T32 (x <<< 26) := u32_shl x 26 67108864 (by decide) (by decide)
@[go_sem] theorem u32_shr26 (x : UInt32) : T32 x / (67108864 : Int) = T32 (x >>> 26) := u32_shr x 26 67108864 (by decide) (by decide)
@[go_sem] theorem u32_shl27 (x : UInt32) : IntKind.u32.wrap (T32 x * (134217728 : Int)) = T32 (x <<< 27) := u32_shl x 27 134217728 (by decide) (by decide)
@[go_sem] theorem u32_shr27 (x : UInt32) : T32 x / (134217728 : Int) = T32 (x >>> 27) := u32_shr x 27 134217728 (by decide) (by decide)
@[go_sem] theorem u32_shl28 (x : UInt32) : IntKind.u32.wrap (T32 x * (268435456 : Int)) = T32 (x <<< 28) := u32_shl x 28 268435456 (by decide) (by decide)
@[go_sem] theorem u32_shr28 (x : UInt32) : T32 x / (268435456 : Int) = T32 (x >>> 28) := u32_shr x 28 268435456 (by decide) (by decide)
@[go_sem] theorem u32_shl29 (x : UInt32) : IntKind.u32.wrap (T32 x * (536870912 : Int)) = T32 (x <<< 29) := u32_shl x 29 536870912 (by decide) (by decide)
@[go_sem] theorem u32_shr29 (x : UInt32) : T32 x / (536870912 : Int) = T32 (x >>> 29) := u32_shr x 29 536870912 (by decide) (by decide)
@[go_sem] theorem u32_shl30 (x : UInt32) : IntKind.u32.wrap (T32 x * (1073741824 : Int)) = T32 (x <<< 30) := u32_shl x 30 1073741824 (by decide) (by decide)
@[go_sem] theorem u32_shr30 (x : UInt32) : T32 x / (1073741824 : Int) = T32 (x >>> 30) := u32_shr x 30 1073741824 (by decide) (by decide)
@[go_sem] theorem u32_shl31 (x : UInt32) : IntKind.u32.wrap (T32 x * (2147483648 : Int)) = T32 (x <<< 31) := u32_shl x 31 2147483648 (by decide) (by decide)
@[go_sem] theorem u32_shr31 (x : UInt32) : T32 x / (2147483648 : Int) = T32 (x >>> 31) := u32_shr x 31 2147483648 (by decide) (by decide)
theorem wrap_u8 (n : Int) : IntKind.u8.wrap n = n % 256 := by simp [IntKind.wrap, IntKind.bits, IntKind.signed]
/-- The number of a UInt8, closed to simp. -/
def T8 (x : UInt8) : Int := (x.toNat : Int)
theorem T8_pos (x : UInt8) : 0 ≤ T8 x := by unfold T8; omega
theorem T8_lt (x : UInt8) : T8 x < 256 := by unfold T8; have := x.toNat_lt; omega
theorem T8_inj {x y : UInt8} (h : T8 x = T8 y) : x = y := by unfold T8 at h; exact UInt8.toNat_inj.1 (by omega)
theorem T8_of (n : Int) (h0 : 0 ≤ n) (h1 : n < 256) : n = T8 (UInt8.ofNat n.toNat) := by
  unfold T8; rw [UInt8.toNat_ofNat']; omega
theorem u8_add (x y : UInt8) : IntKind.u8.wrap (T8 x + T8 y) = T8 (x + y) := by
  unfold T8; rw [wrap_u8, UInt8.toNat_add]; omega
theorem u8_sub (x y : UInt8) : IntKind.u8.wrap (T8 x - T8 y) = T8 (x - y) := by
  unfold T8; rw [wrap_u8, UInt8.toNat_sub]; have := x.toNat_lt; have := y.toNat_lt; omega
theorem u8_mul (x y : UInt8) : IntKind.u8.wrap (T8 x * T8 y) = T8 (x * y) := by
  unfold T8; rw [wrap_u8, UInt8.toNat_mul, Int.natCast_emod, Int.natCast_mul]; rfl
theorem u8_ofInt (x : UInt8) : BitVec.ofInt 8 (T8 x) = x.toBitVec := by
  unfold T8; rw [BitVec.ofInt_natCast]; exact BitVec.eq_of_toNat_eq (by simp)
theorem u8_bv (b : BitVec 8) : IntKind.u8.wrap (b.toNat : Int) = (b.toNat : Int) := by
  rw [wrap_u8]; have := b.isLt; omega
theorem u8_xor (x y : UInt8) : bits .xor .u8 (T8 x) (T8 y) = T8 (x ^^^ y) := by
  show IntKind.u8.wrap ((BitVec.ofInt 8 (T8 x) ^^^ BitVec.ofInt 8 (T8 y)).toNat : Int) = _
  rw [u8_ofInt, u8_ofInt, u8_bv]; rfl
theorem u8_or (x y : UInt8) : bits .or .u8 (T8 x) (T8 y) = T8 (x ||| y) := by
  show IntKind.u8.wrap ((BitVec.ofInt 8 (T8 x) ||| BitVec.ofInt 8 (T8 y)).toNat : Int) = _
  rw [u8_ofInt, u8_ofInt, u8_bv]; rfl
theorem u8_and (x y : UInt8) : bits .and .u8 (T8 x) (T8 y) = T8 (x &&& y) := by
  show IntKind.u8.wrap ((BitVec.ofInt 8 (T8 x) &&& BitVec.ofInt 8 (T8 y)).toNat : Int) = _
  rw [u8_ofInt, u8_ofInt, u8_bv]; rfl
theorem u8_shl (x : UInt8) (s : UInt8) (m : Nat) (hs : s.toNat < 8) (hm : m = 2 ^ s.toNat) : IntKind.u8.wrap (T8 x * (m : Int)) = T8 (x <<< s) := by
  unfold T8; rw [wrap_u8, UInt8.toNat_shiftLeft, Nat.mod_eq_of_lt hs, Nat.shiftLeft_eq, ← hm, Int.natCast_emod, Int.natCast_mul]; rfl
theorem u8_shr (x : UInt8) (s : UInt8) (m : Nat) (hs : s.toNat < 8) (hm : m = 2 ^ s.toNat) : T8 x / (m : Int) = T8 (x >>> s) := by
  unfold T8; rw [UInt8.toNat_shiftRight, Nat.mod_eq_of_lt hs, Nat.shiftRight_eq_div_pow, ← hm, Int.natCast_ediv]
attribute [go_sem] u8_add u8_sub u8_mul u8_xor u8_or u8_and
@[go_sem] theorem u8_shl1 (x : UInt8) : IntKind.u8.wrap (T8 x * (2 : Int)) = T8 (x <<< 1) := u8_shl x 1 2 (by decide) (by decide)
@[go_sem] theorem u8_shr1 (x : UInt8) : T8 x / (2 : Int) = T8 (x >>> 1) := u8_shr x 1 2 (by decide) (by decide)
@[go_sem] theorem u8_shl2 (x : UInt8) : IntKind.u8.wrap (T8 x * (4 : Int)) = T8 (x <<< 2) := u8_shl x 2 4 (by decide) (by decide)
@[go_sem] theorem u8_shr2 (x : UInt8) : T8 x / (4 : Int) = T8 (x >>> 2) := u8_shr x 2 4 (by decide) (by decide)
@[go_sem] theorem u8_shl3 (x : UInt8) : IntKind.u8.wrap (T8 x * (8 : Int)) = T8 (x <<< 3) := u8_shl x 3 8 (by decide) (by decide)
@[go_sem] theorem u8_shr3 (x : UInt8) : T8 x / (8 : Int) = T8 (x >>> 3) := u8_shr x 3 8 (by decide) (by decide)
@[go_sem] theorem u8_shl4 (x : UInt8) : IntKind.u8.wrap (T8 x * (16 : Int)) = T8 (x <<< 4) := u8_shl x 4 16 (by decide) (by decide)
@[go_sem] theorem u8_shr4 (x : UInt8) : T8 x / (16 : Int) = T8 (x >>> 4) := u8_shr x 4 16 (by decide) (by decide)
@[go_sem] theorem u8_shl5 (x : UInt8) : IntKind.u8.wrap (T8 x * (32 : Int)) = T8 (x <<< 5) := u8_shl x 5 32 (by decide) (by decide)
@[go_sem] theorem u8_shr5 (x : UInt8) : T8 x / (32 : Int) = T8 (x >>> 5) := u8_shr x 5 32 (by decide) (by decide)
@[go_sem] theorem u8_shl6 (x : UInt8) : IntKind.u8.wrap (T8 x * (64 : Int)) = T8 (x <<< 6) := u8_shl x 6 64 (by decide) (by decide)
@[go_sem] theorem u8_shr6 (x : UInt8) : T8 x / (64 : Int) = T8 (x >>> 6) := u8_shr x 6 64 (by decide) (by decide)
@[go_sem] theorem u8_shl7 (x : UInt8) : IntKind.u8.wrap (T8 x * (128 : Int)) = T8 (x <<< 7) := u8_shl x 7 128 (by decide) (by decide)
@[go_sem] theorem u8_shr7 (x : UInt8) : T8 x / (128 : Int) = T8 (x >>> 7) := u8_shr x 7 128 (by decide) (by decide)
theorem u64_shlv (x : UInt64) (k : Nat) (hk : k < 64) : IntKind.u64.wrap (T64 x * 2 ^ k) = T64 (x <<< UInt64.ofNat k) := by
  have := u64_shl x (UInt64.ofNat k) (2 ^ k) (by simp; omega) (by simp; rw [Nat.mod_eq_of_lt (by omega)])
  rw [← this]; simp
theorem u64_shrv (x : UInt64) (k : Nat) (hk : k < 64) : T64 x / 2 ^ k = T64 (x >>> UInt64.ofNat k) := by
  have := u64_shr x (UInt64.ofNat k) (2 ^ k) (by simp; omega) (by simp; rw [Nat.mod_eq_of_lt (by omega)])
  rw [← this]; simp
theorem u64_self (x : UInt64) : IntKind.u64.wrap (T64 x) = T64 x := by rw [IntKind.wrap_u64]; have := T64_pos x; have := T64_lt x; omega
theorem u32_self (x : UInt32) : IntKind.u32.wrap (T32 x) = T32 x := by rw [wrap_u32]; have := T32_pos x; have := T32_lt x; omega
theorem u8_self (x : UInt8) : IntKind.u8.wrap (T8 x) = T8 x := by rw [wrap_u8]; have := T8_pos x; have := T8_lt x; omega
attribute [go_sem] u64_self u32_self u8_self
/-- conversions -/
theorem u64_of_u32 (x : UInt32) : IntKind.u64.wrap (T32 x) = T64 x.toUInt64 := by
  unfold T32 T64; rw [IntKind.wrap_u64]; have := x.toNat_lt; simp; omega
theorem u64_of_u8 (x : UInt8) : IntKind.u64.wrap (T8 x) = T64 x.toUInt64 := by
  unfold T8 T64; rw [IntKind.wrap_u64]; have := x.toNat_lt; simp; omega
theorem u32_of_u64 (x : UInt64) : IntKind.u32.wrap (T64 x) = T32 x.toUInt32 := by
  unfold T32 T64; rw [wrap_u32]; simp
theorem u8_of_u64 (x : UInt64) : IntKind.u8.wrap (T64 x) = T8 x.toUInt8 := by
  unfold T8 T64; rw [wrap_u8]; simp
attribute [go_sem] u64_of_u32 u64_of_u8 u32_of_u64 u8_of_u64
theorem beq_T64 (x y : UInt64) : (T64 x == T64 y) = (x == y) := by
  rw [Bool.eq_iff_iff, beq_iff_eq, beq_iff_eq]; exact ⟨T64_inj, fun h => by rw [h]⟩
theorem beq_T32 (x y : UInt32) : (T32 x == T32 y) = (x == y) := by
  rw [Bool.eq_iff_iff, beq_iff_eq, beq_iff_eq]; exact ⟨T32_inj, fun h => by rw [h]⟩
theorem beq_T8 (x y : UInt8) : (T8 x == T8 y) = (x == y) := by
  rw [Bool.eq_iff_iff, beq_iff_eq, beq_iff_eq]; exact ⟨T8_inj, fun h => by rw [h]⟩
theorem ret_eq {v u : Value} (h : v = u) : Ending.returned v = Ending.returned u := by rw [h]
end Go.Proofs.Yteholdifeilkkaa
