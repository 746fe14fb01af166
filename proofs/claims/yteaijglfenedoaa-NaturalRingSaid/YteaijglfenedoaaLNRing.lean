/- The plain law of NaturalRing. -/
import Derived.Test.YteaijglfenedoaaQe
import Derived.Test.YteaijglfenedoaaGE0
import Derived.Test.YteaijglfenedoaaGL3
namespace Go.Proofs.Yteaijglfenedoaa
open Vm
theorem awake10 : rl_law10_awake = some true := rl_law10_awake_le 200 _ (by kernel_rfl)
theorem ring_law (p : List Int) : rl_law10_NaturalRing p = some true := by
  unfold rl_law10_NaturalRing
  rw [awake10]
  simp only [Option.bind_some, Bool.not_true, Bool.false_eq_true, if_false, rl_make_Few]
  by_cases hp : p.length ≤ 400
  rotate_left
  · rw [decide_eq_false (by omega : ¬ ((p.length : Nat) : Int) ≤ 400)]
    simp only [Bool.not_false, rl_law10_NaturalRing_k4, if_true, awake10, Option.bind_some]
  rw [decide_eq_true (by omega : ((p.length : Nat) : Int) ≤ 400)]
  simp only [Bool.not_true, rl_law10_NaturalRing_k4, Bool.false_eq_true, if_false]
  obtain ⟨d, he, hd⟩ := new_yes hp
  rw [he]; clear he; simp only [Option.bind_some]
  obtain ⟨a, d1, he, a0, a1, hd1⟩ := natural_yes hd (n := 5) 5 rfl (by decide)
  rw [he]; clear he; first | rw [bind2_pure] | rw [bind3_pure] | rw [bind4_pure] | rw [bind1_pure]
  obtain ⟨b, d2, he, b0, b1, hd2⟩ := natural_yes hd1 (n := 5) 5 rfl (by decide)
  rw [he]; clear he; first | rw [bind2_pure] | rw [bind3_pure] | rw [bind4_pure] | rw [bind1_pure]
  obtain ⟨c, d3, he, c0, c1, hd3⟩ := natural_yes hd2 (n := 5) 5 rfl (by decide)
  rw [he]; clear he; first | rw [bind2_pure] | rw [bind3_pure] | rw [bind4_pure] | rw [bind1_pure]
  have s0 : 0 ≤ a + b := by omega
  have s1 := bp_sum a1 b1
  have p0 := Int.mul_nonneg a0 c0
  have p1 := bp_mul a0 a1 c0 c1
  have q0 := Int.mul_nonneg c0 b0
  have q1 := bp_mul c0 c1 b0 b1
  have m1 := bp_mul s0 s1 c0 c1
  have m0 := Int.mul_nonneg s0 c0
  rw [nadd a0 b0 a1 b1 (by decide), bind2_pure, nmul s0 c0 s1 c1 (by decide), bind2_pure, nmul a0 c0 a1 c1 (by decide), bind2_pure, nmul c0 b0 c1 b1 (by decide), bind2_pure, nadd q0 p0 q1 p1 (by decide), bind2_pure, nadd b0 a0 b1 a1 (by decide), bind2_pure]
  have e : (a + b) * c = c * b + a * c := by grind
  have hv := vn_nat m0 m1 (by decide)
  simp only [beq_self_eq_true, if_true]
  rw [nsame m0 (by omega) (bp_lt m1 (by decide)), bind1_pure, if_pos (by simpa using e), nsame s0 (by omega) (bp_lt s1 (by decide)), bind1_pure, if_pos (by simp [Int.add_comm]), natural_valid_eq (by have := hv.1; omega), bind1_pure]
  unfold rl_law10_NaturalRing_k6
  rw [decide_eq_true hv]
end Go.Proofs.Yteaijglfenedoaa
