/- Plain: the law RiskGrows. -/
import Derived.Test.YtfnojcalalncbaaKa
import Derived.Test.YtfnojcalalncbaaGL3
namespace Go.Proofs.Ytfnojcalalncbaa
open Vm
set_option linter.unusedVariables false
set_option linter.unusedSimpArgs false
theorem fil_mono {x y : Nat} (h : y ≤ x) : filS x ≤ filS y := by
  unfold filS
  exact rnd_mono (Nat.mul_le_mul_left _ (by omega))
theorem grows_law (p : List Int) : rl_law15_RiskGrows p = some true := by
  unfold rl_law15_RiskGrows
  rw [awake15]
  simp only [Option.bind_some, Bool.not_true, Bool.false_eq_true, if_false, rl_make_Few]
  by_cases hp : p.length ≤ 400
  rotate_left
  · rw [decide_eq_false (by omega : ¬ ((p.length : Nat) : Int) ≤ 400)]
    simp only [Bool.not_false, rl_law15_RiskGrows_k1, if_true, awake15, Option.bind_some]
  rw [decide_eq_true (by omega : ((p.length : Nat) : Int) ≤ 400)]
  simp only [Bool.not_true, rl_law15_RiskGrows_k1, Bool.false_eq_true, if_false]
  obtain ⟨d, he, hd⟩ := new_yes hp
  rw [he]; clear he; simp only [Option.bind_some]
  obtain ⟨l, d1, e1, l1, ⟨a, b, ha, hb, hl⟩, hd1⟩ := params_yes hd
  rw [e1, bind2_pure, if_pos (by omega), hl]
  obtain ⟨n, d2, he, n0, n1, hd2⟩ := next_yes hd1 (n := 80) (by decide) (by decide)
  rw [he]; clear he; first | rw [bind2_pure] | rw [bind3_pure] | rw [bind4_pure] | rw [bind1_pure]
  obtain ⟨m, rfl⟩ := Int.eq_ofNat_of_zero_le n0
  obtain ⟨u, rfl⟩ := Int.eq_ofNat_of_zero_le ha.1
  obtain ⟨v, rfl⟩ := Int.eq_ofNat_of_zero_le hb.1
  have p1 : PV ⟨64 * (1 + (u : Int)), 1 + (v : Int), -1⟩ := pv0 ha hb
  have p2 : PV ⟨64 * (1 + (u : Int)), 1 + (v : Int) + 1, -1⟩ := by refine ⟨⟨?_, ?_, ?_⟩, ⟨?_, ?_⟩, ?_, ?_⟩ <;> simp only <;> omega
  have p3 : PV ⟨64 * (1 + (u : Int)) + 64, 1 + (v : Int), -1⟩ := by refine ⟨⟨?_, ?_, ?_⟩, ⟨?_, ?_⟩, ?_, ?_⟩ <;> simp only <;> omega
  dsimp only
  rw [wi64 (n := 1 + (v : Int) + 1) (by omega) (by omega), wi64 (n := 64 * (1 + (u : Int)) + 64) (by omega) (by omega), wi64 (n := (m : Int) + 1) (by omega) (by omega)]
  rw [Fill_eq, Fill_eq, Fill_eq, Fill_eq, Fill_eq]
  rw [if_pos (ck_ok p1 (by omega) (by omega)), if_pos (ck_ok p1 (by omega) (by omega)), if_pos (ck_ok p2 (by omega) (by omega)), if_pos (ck_ok p3 (by omega) (by omega)), if_pos (ck_ok p1 (by omega) (by omega))]
  rw [bind2_pure, bind2_pure, bind2_pure, bind2_pure, bind2_pure]
  have hL : (64 * (1 + (u : Int))).toNat = 64 * (1 + u) := by omega
  have hM : (64 * (1 + (u : Int)) + 64).toNat = 64 * (1 + u) + 64 := by omega
  have hH : (1 + (v : Int)).toNat = 1 + v := by omega
  have hH1 : (1 + (v : Int) + 1).toNat = 1 + v + 1 := by omega
  have hm1 : ((m : Int) + 1).toNat = m + 1 := by omega
  unfold empS
  simp only [hL, hM, hH, hH1, hm1, Int.toNat_natCast, Int.toNat_zero, Nat.zero_mul]
  have k1 := fil_mono (emp_anti (L := 64 * (1 + u)) (by omega) (k := m * (1 + v)) (m := (m + 1) * (1 + v)) (Nat.mul_le_mul_right _ (by omega)))
  have k2 := fil_mono (emp_anti (L := 64 * (1 + u)) (by omega) (k := m * (1 + v)) (m := m * (1 + v + 1)) (Nat.mul_le_mul_left _ (by omega)))
  have k3 := fil_mono (emp_longer (L := 64 * (1 + u)) (M := 64 * (1 + u) + 64) (by omega) (by omega) (m * (1 + v)))
  have k4 : filS (emp (64 * (1 + u)) 0) = 0 := by rw [emp_zero]; unfold filS; exact rnd_zero (by decide)
  have k5 : filS (emp (64 * (1 + u)) ((m + 1) * (1 + v))) ≤ 1000 := by
    unfold filS
    exact rnd_le (by decide) (Nat.mul_le_mul_left _ (by omega))
  rw [k4, if_pos (by decide), if_pos (by decide), if_pos (by decide), if_pos (by decide), if_pos (by decide), if_pos (by simp only [decide_eq_true_eq]; omega), if_pos (by simp only [decide_eq_true_eq]; omega), if_pos (by simp only [decide_eq_true_eq]; omega), if_pos (by decide)]
  unfold rl_law15_RiskGrows_k2
  rw [decide_eq_true (by omega)]
end Go.Proofs.Ytfnojcalalncbaa
