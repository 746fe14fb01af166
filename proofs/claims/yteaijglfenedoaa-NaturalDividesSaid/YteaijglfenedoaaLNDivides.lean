/- The plain law of NaturalDivides. -/
import Derived.Test.YteaijglfenedoaaQe
import Derived.Test.YteaijglfenedoaaQk
import Derived.Test.YteaijglfenedoaaGE0
import Derived.Test.YteaijglfenedoaaGL7
namespace Go.Proofs.Yteaijglfenedoaa
set_option linter.unusedVariables false
open Vm
theorem awake10 : rl_law10_awake = some true := rl_law10_awake_le 200 _ (by kernel_rfl)
theorem divides_law (p : List Int) : rl_law10_NaturalDivides p = some true := by
  unfold rl_law10_NaturalDivides
  rw [awake10]
  simp only [Option.bind_some, Bool.not_true, Bool.false_eq_true, if_false, rl_make_Few]
  by_cases hp : p.length ≤ 400
  rotate_left
  · rw [decide_eq_false (by omega : ¬ ((p.length : Nat) : Int) ≤ 400)]
    simp only [Bool.not_false, rl_law10_NaturalDivides_k4, if_true, awake10, Option.bind_some]
  rw [decide_eq_true (by omega : ((p.length : Nat) : Int) ≤ 400)]
  simp only [Bool.not_true, rl_law10_NaturalDivides_k4, Bool.false_eq_true, if_false]
  obtain ⟨d, he, hd⟩ := new_yes hp
  rw [he]; clear he; simp only [Option.bind_some]
  obtain ⟨a, d1, he, a0, a1, hd1⟩ := natural_yes hd (n := 8) 8 rfl (by decide)
  rw [he]; clear he; first | rw [bind2_pure] | rw [bind3_pure] | rw [bind4_pure] | rw [bind1_pure]
  obtain ⟨b, d2, he, b0, b1, hd2⟩ := natural_yes hd1 (n := 4) 4 rfl (by decide)
  rw [he]; clear he; first | rw [bind2_pure] | rw [bind3_pure] | rw [bind4_pure] | rw [bind1_pure]
  have la := nat32_len_le a0 a1
  have lb := nat32_len_le b0 b1
  have hva := vn_nat a0 a1 (by decide)
  have hvb := vn_nat b0 b1 (by decide)
  rw [natural_divmod_eq (nat32_u32 a0) (nat32_u32 b0) (by omega) (by omega), divS, if_pos ⟨hva, hvb⟩]
  by_cases hb : b = 0
  · subst hb
    rw [show nat32 0 = [] from rfl, if_pos rfl, bind3_pure]
    rfl
  · have hb0 : nat32 b ≠ [] := fun e => hb ((nat32_nil b0).1 e)
    have hlen : 0 < (nat32 b).length := by
      cases h : nat32 b with
      | nil => exact absurd h hb0
      | cons _ _ => simp
    rw [if_neg hb0, bind3_pure, if_neg (by simp only [beq_iff_eq]; omega), nat32_val a0, nat32_val b0]
    have q0 : 0 ≤ a / b := Int.ediv_nonneg a0 b0
    have q1 : a / b ≤ a := Int.ediv_le_self _ a0
    have r0 : 0 ≤ a % b := Int.emod_nonneg _ hb
    have r1 : a % b < b := Int.emod_lt_of_pos _ (by omega)
    have hm : a / b * b + a % b = a := Int.ediv_mul_add_emod a b
    have hq8 : a / b < bp 8 := by omega
    have hr8 : a % b < bp 12 := by have := bp_le (show 4 ≤ 12 by decide); omega
    have hm12 := bp_mul q0 hq8 b0 b1
    have hm0 := Int.mul_nonneg q0 b0
    have hc := natural_compare_eq (nat32_u32 r0) (nat32_u32 b0) (by have := nat32_len_le r0 hr8; omega) (by omega)
    rw [nat32_val r0, nat32_val b0] at hc
    have hvq := vn_nat q0 hq8 (by decide)
    have hvr := vn_nat r0 hr8 (by decide)
    rw [nmul q0 b0 hq8 b1 (by decide), bind2_pure, nadd hm0 r0 hm12 hr8 (by decide), bind2_pure, hm]
    simp only [beq_self_eq_true, if_true]
    rw [nsame a0 a0 (bp_lt a1 (by decide)), bind1_pure, if_pos (by simp), hc, bind1_pure, if_pos (by simp only [decide_eq_true_eq]; exact ordI_neg.2 r1), natural_valid_eq (by have := hvq.1; omega), bind1_pure, decide_eq_true hvq, if_pos rfl, natural_valid_eq (by have := hvr.1; omega), bind1_pure, decide_eq_true hvr]
    rfl
end Go.Proofs.Yteaijglfenedoaa
