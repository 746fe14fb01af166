/- Plain: what logarithms answer; arguments. -/
import Derived.Test.YtafmpnilgknfhaaWb
import Derived.Test.YtafmpnilgknfhaaGE0
namespace Go.Proofs.Ytafmpnilgknfhaa
open Vm
set_option linter.unusedVariables false
theorem awake25 : rl_law25_awake = some true := rl_law25_awake_le 200 _ (by kernel_rfl)
theorem isLog.cancel {k a b : Nat} {x : Int} (hk : 0 < k) : isLog (k * a) (k * b) x ↔ isLog a b x := by
  unfold isLog
  rw [Nat.mul_assoc, Nat.mul_assoc, Nat.mul_assoc, Nat.mul_le_mul_left_iff hk, Nat.mul_lt_mul_left hk]
theorem isLog.top {a b : Nat} {x : Int} (ha : a ≤ 2 ^ 256) (hb : 0 < b) (h : isLog a b x) : x ≤ 256 := by
  have h1 := h.2.2.1
  have h2 : 1 * E2 x ≤ b * E2 x := Nat.mul_le_mul_right _ hb
  have h3 : a * E2 0 ≤ 2 ^ 256 * E2 0 := Nat.mul_le_mul_right _ ha
  have h4 : 2 ^ 256 * E2 0 = E2 256 := by unfold E2; rw [← Nat.pow_add]; exact congrArg (fun k => 2 ^ k) (by decide)
  exact E2_of_le (by decide) (by omega)
/-- The logarithm of a over b, both between 1 and 65536. -/
theorem glog (a b : Nat) (a0 : 1 ≤ a) (a1 : a ≤ 65536) (b0 : 1 ≤ b) (b1 : b ≤ 65536) : ∃ x, weight_Log (a : Int) (b : Int) = some (x, 0) ∧ isLog (a ^ 16) (b ^ 16) x ∧ -290 ≤ x ∧ x ≤ 256 := by
  obtain ⟨x, h1, h2⟩ := wlog_eq a0 a1 b0 b1
  exact ⟨x, h1, h2, h2.1, h2.top (pow16_le a1) (Nat.pow_pos b0)⟩
theorem grid_arg {p : Int} (h0 : 0 ≤ p) (h1 : p ≤ 65535) (m : Nat) (hm : 0 < m) (hm2 : m ≤ 65536) : ∃ a : Nat, 1 ≤ a ∧ a ≤ m ∧ IntKind.i64.wrap (1 + (IntKind.i64.wrap p).tmod (m : Int)) = (a : Int) := by
  obtain ⟨n, rfl⟩ := Int.eq_ofNat_of_zero_le h0
  rw [wi64 (n := (n : Int)) (by omega) (by omega), tmod_nn (by omega)]
  have := Nat.mod_lt n hm
  have e : ((n : Int) % (m : Int)) = ((n % m : Nat) : Int) := by omega
  rw [e, wi64 (by omega) (by omega)]
  exact ⟨1 + n % m, by omega, by omega, by omega⟩
theorem min_nat {a b : Nat} : (if ((a : Nat) : Int) < (b : Int) then (a : Int) else (b : Int)) = ((min a b : Nat) : Int) := by
  rw [Nat.min_def]
  split <;> split <;> omega
end Go.Proofs.Ytafmpnilgknfhaa
