/- The plain law of WeightDoubles. -/
import Derived.Test.YtafmpnilgknfhaaWc
import Derived.Test.YtafmpnilgknfhaaGL5
namespace Go.Proofs.Ytafmpnilgknfhaa
open Vm
set_option linter.unusedVariables false
theorem doubles_k1 {p q : Int} (hp : 0 ≤ p) (p1 : p ≤ 65535) (q0 : 0 ≤ q) (q1 : q ≤ 255) {b : Nat} (b0 : 1 ≤ b) (b1 : b ≤ 65536) : rl_law25_WeightDoubles_k1 p q (b : Int) = some true := by
  obtain ⟨a, a0, a1, ea⟩ := grid_arg hp p1 1024 (by decide) (by decide)
  obtain ⟨k, rfl⟩ := Int.eq_ofNat_of_zero_le q0
  unfold rl_law25_WeightDoubles_k1 rl_law25_WeightDoubles_k2
  have ek : (IntKind.i64.wrap (k : Int)).tmod 7 = ((k % 7 : Nat) : Int) := by rw [wi64 (by omega) (by omega), tmod_nn (by omega)]; omega
  have k1 : k % 7 < 7 := Nat.mod_lt _ (by decide)
  rw [show IntKind.i64.wrap (1 + (IntKind.i64.wrap p).tmod 1024) = (a : Int) from ea, ek]
  generalize k % 7 = j at *
  have p2 : 2 ^ j ≤ 64 := Nat.le_trans (Nat.pow_le_pow_right (by decide) (show j ≤ 6 by omega)) (by decide)
  have p3 : 0 < 2 ^ j := Nat.pow_pos (by decide)
  have ab : a * 2 ^ j ≤ 1024 * 64 := Nat.mul_le_mul a1 p2
  have ab0 : 1 ≤ a * 2 ^ j := Nat.mul_pos a0 p3
  have es : ishl .i64 (a : Int) (j : Int) = ((a * 2 ^ j : Nat) : Int) := by
    show IntKind.i64.wrap ((a : Int) * 2 ^ min (j : Int).toNat 64) = _
    rw [Int.toNat_natCast, Nat.min_eq_left (by omega), show (a : Int) * 2 ^ j = ((a * 2 ^ j : Nat) : Int) by simp, wi64 (by omega) (by omega)]
  rw [wu64 (by omega) (by omega), es]
  obtain ⟨u, eu, hu, u0, u1⟩ := glog a b a0 (by omega) b0 b1
  obtain ⟨v, ev, hv, v0, v1⟩ := glog (a * 2 ^ j) b ab0 (by omega) b0 b1
  obtain ⟨z, ez, hz, z0, z1⟩ := glog a a a0 (by omega) a0 (by omega)
  have hz2 := hz.uniq (isLog.self (Nat.pow_pos a0))
  have u2 : u ≤ 160 := by
    have h1 := hu.2.2.1
    have h2 : 1 * E2 u ≤ b ^ 16 * E2 u := Nat.mul_le_mul_right _ (Nat.pow_pos b0)
    have h3 : a ^ 16 * E2 0 ≤ 2 ^ 160 * E2 0 := Nat.mul_le_mul_right _ (Nat.le_trans (Nat.pow_le_pow_left a1 16) (by decide))
    have h4 : 2 ^ 160 * E2 0 = E2 160 := by unfold E2; rw [← Nat.pow_add]; exact congrArg (fun k => 2 ^ k) (by decide)
    exact E2_of_le (by decide) (by omega)
  have hv2 := hu.shift (k := 16 * j) (by omega)
  have e : 2 ^ (16 * j) * a ^ 16 = (a * 2 ^ j) ^ 16 := by rw [Nat.mul_pow, ← Nat.pow_mul, Nat.mul_comm, Nat.mul_comm 16]
  rw [e] at hv2
  have hv3 := hv.uniq hv2
  rw [eu, bind2_pure, if_pos (by omega), ev, bind2_pure, ez, bind2_pure, if_pos (by decide), if_pos (by decide), if_pos (by decide), wi64 (n := 16 * (j : Int)) (by omega) (by omega), wi64 (by omega) (by omega), if_pos (by simp; omega), if_pos (by simp; omega), awake25, bind1_pure]
theorem doubles_law (p m q : Int) (hp : IntKind.u16.min ≤ p ∧ p ≤ IntKind.u16.max) (hm : IntKind.u16.min ≤ m ∧ m ≤ IntKind.u16.max) (hq : IntKind.u8.min ≤ q ∧ q ≤ IntKind.u8.max) : rl_law25_WeightDoubles p m q = some true := by
  have p1 : p ≤ 65535 := hp.2
  have m0 : 0 ≤ m := hm.1
  have m1 : m ≤ 65535 := hm.2
  have q1 : q ≤ 255 := hq.2
  obtain ⟨n, rfl⟩ := Int.eq_ofNat_of_zero_le m0
  unfold rl_law25_WeightDoubles
  rw [wi64 (n := (n : Int)) (by omega) (by omega), wi64 (by omega) (by omega), if_neg (by simp; omega)]
  have := doubles_k1 hp.1 p1 hq.1 q1 (b := 1 + n) (by omega) (by omega)
  rw [show ((1 + n : Nat) : Int) = 1 + (n : Int) by omega] at this
  exact this
end Go.Proofs.Ytafmpnilgknfhaa
