/- The plain law of RationalRounds. -/
import Derived.Test.YtnfikddgjkfflaaRw
import Derived.Test.YtnfikddgjkfflaaGL5
namespace Go.Proofs.Ytnfikddgjkfflaa
open Vm
set_option linter.unusedVariables false
theorem rounds_law (p : List Int) (k : Int) (hk : IntKind.u16.min ≤ k ∧ k ≤ IntKind.u16.max) : rl_law11_RationalRounds p k = some true := by
  obtain ⟨k0, k1⟩ : 0 ≤ k ∧ k ≤ 65535 := hk
  unfold rl_law11_RationalRounds
  rw [awake11]
  simp only [Option.bind_some, Bool.not_true, Bool.false_eq_true, if_false, rl_make_Few]
  by_cases hp : p.length ≤ 400
  rotate_left
  · rw [decide_eq_false (by omega : ¬ ((p.length : Nat) : Int) ≤ 400)]
    simp only [Bool.not_false, rl_law11_RationalRounds_k1, if_true, awake11, Option.bind_some]
  rw [decide_eq_true (by omega : ((p.length : Nat) : Int) ≤ 400)]
  simp only [Bool.not_true, rl_law11_RationalRounds_k1, Bool.false_eq_true, if_false]
  obtain ⟨d, he, hd⟩ := new_yes hp
  rw [he]; clear he; simp only [Option.bind_some]
  obtain ⟨v, d1, he, v0, v1, hd1⟩ := next_yes hd (n := 5000) (by decide) (by decide)
  rw [he]; clear he; first | rw [bind2_pure] | rw [bind3_pure] | rw [bind4_pure] | rw [bind1_pure]
  obtain ⟨y, d2, he, y0, y1, hd2⟩ := next_yes hd1 (n := 300) (by decide) (by decide)
  rw [he]; clear he; first | rw [bind2_pure] | rw [bind3_pure] | rw [bind4_pure] | rw [bind1_pure]
  rw [wi64 (n := 1 + y) (by omega) (by omega), ref_of_eq (by omega) (by omega)]
  have o1 : ofS v (1 + y) = (fr v (1 + y), 0) := by
    unfold ofS
    rw [if_neg (by omega), if_neg (by omega)]
  rw [o1, bind2_pure]
  obtain ⟨z, d3, he, z0, z1, hd3⟩ := next_yes hd2 (n := 2000) (by decide) (by decide)
  rw [he]; clear he; first | rw [bind2_pure] | rw [bind3_pure] | rw [bind4_pure] | rw [bind1_pure]
  rw [wi64 (n := 1 + z) (by omega) (by omega), wi64 (n := k) (by omega) (by omega)]
  generalize hw : 1 + y = w at *
  generalize hu : 1 + z = u at *
  have w0 : 0 < w := by omega
  have u0 : 1 ≤ u := by omega
  have m0 : 0 ≤ v * (2 * u) := Int.mul_nonneg v0 (by omega)
  have m1 : v * (2 * u) ≤ 5000 * 4000 := Int.mul_le_mul (by omega) (by omega) (by omega) (by decide)
  have q0 : 0 ≤ (v * (2 * u) + w) / (2 * w) := Int.ediv_nonneg (by omega) (by omega)
  have q1 : (v * (2 * u) + w) / (2 * w) ≤ v * (2 * u) + w := Int.ediv_le_self _ (by omega)
  rw [frnd v0 w0 (small_lt (by omega)) (small_lt (by omega)) u0 (by omega) (small_lt (by omega)) (small_lt (by omega)) (by omega), bind2_pure]
  have h1 : (v * (2 * u) + w) / (2 * w) * (2 * w) ≤ v * (2 * u) + w := Int.ediv_mul_le _ (by omega)
  have h2 : v * (2 * u) + w < ((v * (2 * u) + w) / (2 * w) + 1) * (2 * w) := Int.lt_ediv_add_one_mul_self _ (by omega)
  generalize (v * (2 * u) + w) / (2 * w) = n at *
  rw [wi64 (n := 2 * n) (by omega) (by omega), wi64 (n := 2 * n - 1) (by omega) (by omega), wi64 (n := 2 * u) (by omega) (by omega), wi64 (n := 2 * n + 1) (by omega) (by omega)]
  have e1 : n * (2 * w) = 2 * (n * w) := by grind
  have e2 : (n + 1) * (2 * w) = 2 * (n * w) + 2 * w := by grind
  have e3 : (2 * n + 1) * w = 2 * (n * w) + w := by grind
  have e4 : (2 * n - 1) * w = 2 * (n * w) - w := by grind
  have low : ∃ l, (if 2 * n - 1 > 0 then 2 * n - 1 else 0) = l ∧ 0 ≤ l ∧ l ≤ 2 * n ∧ l * w ≤ v * (2 * u) := by
    by_cases h : 2 * n - 1 > 0
    · exact ⟨_, rfl, by rw [if_pos h]; omega, by rw [if_pos h]; omega, by rw [if_pos h]; omega⟩
    · exact ⟨_, rfl, by rw [if_neg h]; omega, by rw [if_neg h]; omega, by rw [if_neg h, Int.zero_mul]; exact m0⟩
  obtain ⟨l, hl, l0, l1, l2⟩ := low
  have nw0 := Int.mul_nonneg q0 (Int.le_of_lt w0)
  have lw0 := Int.mul_nonneg l0 (Int.le_of_lt w0)
  rw [hl, of_eq (by omega) (by omega), of_eq (by omega) (by omega), of_eq (by omega) (by omega)]
  have o2 : ∀ {x : Int}, 0 ≤ x → ofS x (2 * u) = (fr x (2 * u), 0) := fun {x} hx => by
    unfold ofS
    rw [if_neg (by omega), if_neg (by omega)]
  have o3 : ofS k u = (fr k u, 0) := by
    unfold ofS
    rw [if_neg (by omega), if_neg (by omega)]
  rw [o2 l0, o2 (show 0 ≤ 2 * n + 1 by omega), o3, bind2_pure, bind2_pure]
  rw [fcmp l0 (by omega) v0 w0 (small_lt (by omega)) (small_lt (by omega)) (small_lt (by omega)) (small_lt (by omega)) (small_lt (by omega)) (small_lt (by omega)), bind2_pure]
  rw [fcmp v0 w0 (by omega) (by omega) (small_lt (by omega)) (small_lt (by omega)) (small_lt (by omega)) (small_lt (by omega)) (small_lt (by omega)) (small_lt (by omega)), bind2_pure, bind2_pure]
  have ku0 : 0 ≤ k * (2 * u) := Int.mul_nonneg k0 (by omega)
  have ku1 : k * (2 * u) ≤ 65535 * 4000 := Int.mul_le_mul (by omega) (by omega) (by omega) (by decide)
  have kq : (k * (2 * u) + u) / (2 * u) = k := by
    rw [Int.add_comm, Int.add_mul_ediv_right _ _ (by omega), Int.ediv_eq_zero_of_lt (by omega) (by omega), Int.zero_add]
  rw [frnd k0 (by omega) (small_lt (by omega)) (small_lt (by omega)) u0 (by omega) (small_lt (by omega)) (small_lt (by omega)) (by rw [kq]; omega), kq, bind2_pure]
  have c1 : ordI (l * w) (v * (2 * u)) ≤ 0 := by
    unfold ordI
    split
    · decide
    · rw [if_neg (by omega)]; decide
  have c2 : ordI (v * (2 * u)) ((2 * n + 1) * w) < 0 := by
    unfold ordI
    rw [if_pos (by omega)]; decide
  rw [if_pos (by decide), if_pos (by decide), if_pos (by decide), if_pos (by decide), if_pos (by decide), if_pos (by decide), if_pos (by decide), if_pos (decide_eq_true c1), if_pos (decide_eq_true c2), beq_self_eq_true]
  rfl
end Go.Proofs.Ytnfikddgjkfflaa
