/- Plain: the law RiskCollides. -/
import Derived.Test.YtfnojcalalncbaaKa
import Derived.Test.YtfnojcalalncbaaGL5
namespace Go.Proofs.Ytfnojcalalncbaa
open Vm
set_option linter.unusedVariables false
set_option linter.unusedSimpArgs false
theorem colL_none (k : Nat) (h : 1 ≤ k) : colL 1073741824 k = 0 := by
  obtain ⟨j, rfl⟩ : ∃ j, k = j + 1 := ⟨k - 1, by omega⟩
  rw [colL_succ, Nat.sub_self, Nat.mul_zero]
  exact rnd_zero (by decide)
theorem collides_law (p : List Int) : rl_law15_RiskCollides p = some true := by
  unfold rl_law15_RiskCollides
  rw [awake15]
  simp only [Option.bind_some, Bool.not_true, Bool.false_eq_true, if_false, rl_make_Few]
  by_cases hp : p.length ≤ 400
  rotate_left
  · rw [decide_eq_false (by omega : ¬ ((p.length : Nat) : Int) ≤ 400)]
    simp only [Bool.not_false, rl_law15_RiskCollides_k1, if_true, awake15, Option.bind_some]
  rw [decide_eq_true (by omega : ((p.length : Nat) : Int) ≤ 400)]
  simp only [Bool.not_true, rl_law15_RiskCollides_k1, Bool.false_eq_true, if_false]
  obtain ⟨d, he, hd⟩ := new_yes hp
  rw [he]; clear he; simp only [Option.bind_some]
  obtain ⟨l, d1, e1, l1, ⟨a, b, ha, hb, hl⟩, hd1⟩ := params_yes hd
  rw [e1, bind2_pure, if_pos (by omega), hl]
  obtain ⟨n, d2, he, n0, n1, hd2⟩ := next_yes hd1 (n := 40) (by decide) (by decide)
  rw [he]; clear he; first | rw [bind2_pure] | rw [bind3_pure] | rw [bind4_pure] | rw [bind1_pure]
  have p1 : PV ⟨64 * (1 + a), 1 + b, -1⟩ := pv0 ha hb
  rw [Collision_eq, Collision_eq, Empty_eq, if_pos (ck_ok p1 (by omega) (by omega)), if_pos (ck_ok p1 (by omega) (by omega)), if_pos (ck_ok p1 (by omega) (by omega))]
  rw [bind2_pure, bind2_pure, bind2_pure]
  have k0 : empS ⟨64 * (1 + a), 1 + b, -1⟩ 0 = 1073741824 := by unfold empS; rw [Int.toNat_zero, Nat.zero_mul, emp_zero]
  have k1 : colS (empS ⟨64 * (1 + a), 1 + b, -1⟩ 0) (1 + b).toNat = 0 := by
    rw [k0]
    unfold colS
    rw [colL_none _ (by omega)]
    exact rnd_zero (by decide)
  have k2 : colS (empS ⟨64 * (1 + a), 1 + b, -1⟩ n) (1 + b).toNat ≤ 1000000 := by
    unfold colS
    exact rnd_le (by decide) (Nat.mul_le_mul_left _ (colL_le _ _))
  have k3 := empS_le p1 n
  rw [k1, if_pos (by decide), if_pos (by decide), if_pos (by decide), if_pos (by decide), if_pos (by simp only [decide_eq_true_eq]; omega), if_pos (by simp only [decide_eq_true_eq]; omega), if_pos (by simp only [decide_eq_true_eq]; omega), if_pos (by simp only [decide_eq_true_eq]; omega)]
  unfold rl_law15_RiskCollides_k2
  by_cases h : n > 0
  · rw [if_pos (by simpa using h)]
  · have : n = 0 := by omega
    subst this
    rw [if_neg (by simp), k0]
    rfl
end Go.Proofs.Ytfnojcalalncbaa
