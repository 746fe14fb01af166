/- The plain law of RationalOrder. -/
import Derived.Test.YtnfikddgjkfflaaRw
import Derived.Test.YtnfikddgjkfflaaGL6
namespace Go.Proofs.Ytnfikddgjkfflaa
open Vm
set_option linter.unusedVariables false
theorem ord_lt (a b : Int) : decide (ordI a b < 0) = decide (a < b) := by
  unfold ordI
  by_cases h : a < b
  · rw [if_pos h, decide_eq_true h]; decide
  · rw [if_neg h, decide_eq_false h]; split <;> decide
theorem ord_eq (a b : Int) : (ordI a b == 0) = decide (a = b) := by
  unfold ordI
  by_cases h : a < b
  · rw [if_pos h, decide_eq_false (by omega)]; decide
  · by_cases k : a > b
    · rw [if_neg h, if_pos k, decide_eq_false (by omega)]; decide
    · rw [if_neg h, if_neg k, decide_eq_true (by omega)]; decide
theorem order_law (p : List Int) : rl_law11_RationalOrder p = some true := by
  unfold rl_law11_RationalOrder
  rw [awake11]
  simp only [Option.bind_some, Bool.not_true, Bool.false_eq_true, if_false, rl_make_Few]
  by_cases hp : p.length ≤ 400
  rotate_left
  · rw [decide_eq_false (by omega : ¬ ((p.length : Nat) : Int) ≤ 400)]
    simp only [Bool.not_false, rl_law11_RationalOrder_k1, if_true, awake11, Option.bind_some]
  rw [decide_eq_true (by omega : ((p.length : Nat) : Int) ≤ 400)]
  simp only [Bool.not_true, rl_law11_RationalOrder_k1, Bool.false_eq_true, if_false]
  obtain ⟨d, he, hd⟩ := new_yes hp
  rw [he]; clear he; simp only [Option.bind_some]
  obtain ⟨a, b, d1, he, a0, b0, a1, b1, hd1⟩ := rational_yes hd (k := 3) 3 rfl (by decide) (by decide)
  rw [he]; clear he; first | rw [bind2_pure] | rw [bind3_pure] | rw [bind4_pure] | rw [bind1_pure]
  obtain ⟨c, e, d2, he, c0, e0, c1, e1, hd2⟩ := rational_yes hd1 (k := 3) 3 rfl (by decide) (by decide)
  rw [he]; clear he; first | rw [bind2_pure] | rw [bind3_pure] | rw [bind4_pure] | rw [bind1_pure]
  have b0' := Int.le_of_lt b0
  have e0' := Int.le_of_lt e0
  have A0 := b64 a1 (by decide)
  have B0 := b64 b1 (by decide)
  have C0 := b64 c1 (by decide)
  have E0 := b64 e1 (by decide)
  have ae := Int.mul_nonneg a0 e0'
  have cb := Int.mul_nonneg c0 b0'
  have ae1 := bp_mul a0 a1 e0' e1
  have cb1 := bp_mul c0 c1 b0' b1
  have s1 := bp_sum ae1 cb1
  have be := Int.mul_pos b0 e0
  have be1 := bp_mul b0' b1 e0' e1
  have s0 : 0 ≤ a * e + c * b := by omega
  have sb1 := bp_mul s0 s1 b0' b1
  have abe1 := bp_mul a0 a1 (Int.le_of_lt be) be1
  rw [fcmp a0 b0 c0 e0 A0 B0 C0 E0 (b64 ae1 (by decide)) (b64 cb1 (by decide)), bind2_pure, fcmp c0 e0 a0 b0 C0 E0 A0 B0 (b64 cb1 (by decide)) (b64 ae1 (by decide)), bind2_pure, fsub a0 b0 c0 e0 A0 B0 C0 E0 (b64 ae1 (by decide)) (b64 be1 (by decide))]
  have sub : ∃ z : S_api_Rational, (if c * b > a * e then (zr, 2) else (fr (a * e - c * b) (b * e), 0)) = (z, if a * e < c * b then (2 : Int) else 0) := by
    by_cases h : c * b > a * e
    · exact ⟨zr, by rw [if_pos h, if_pos h]⟩
    · exact ⟨_, by rw [if_neg h, if_neg h]⟩
  obtain ⟨z, hz⟩ := sub
  rw [hz, bind2_pure, fadd a0 b0 c0 e0 A0 B0 C0 E0 (b64 s1 (by decide)) (b64 be1 (by decide)), bind2_pure, fcmp s0 be a0 b0 (b64 s1 (by decide)) (b64 be1 (by decide)) A0 B0 (b64 sb1 (by decide)) (b64 abe1 (by decide)), bind2_pure]
  rw [if_pos (by decide), if_pos (by decide), if_pos (by decide), if_pos (by decide), if_pos (by rw [← ordI_swap]; exact beq_self_eq_true _)]
  have k1 : (decide (ordI (a * e) (c * b) < 0) == ((if a * e < c * b then (2 : Int) else 0) == 2)) = true := by
    rw [ord_lt]
    by_cases h : a * e < c * b
    · rw [if_pos h, decide_eq_true h]; decide
    · rw [if_neg h, decide_eq_false h]; decide
  have k2 : ((ordI (a * e) (c * b) == 0) == decide (fr a b = fr c e)) = true := by
    rw [ord_eq]
    by_cases h : a * e = c * b
    · rw [decide_eq_true h, decide_eq_true (fr_eq a0 b0 c0 e0 h)]; rfl
    · rw [decide_eq_false h, decide_eq_false (fun k => h (fr_inj a0 b0 c0 e0 k))]; rfl
  have id1 : (a * e + c * b) * b = a * (b * e) + c * (b * b) := by grind
  have bb := Int.mul_pos b0 b0
  have k3 : ((ordI ((a * e + c * b) * b) (a * (b * e)) == 0) == (((fr c e).Num.length : Int) == 0)) = true := by
    rw [ord_eq, fr_len c0 e0, id1]
    by_cases h : c = 0
    · rw [decide_eq_true h, h, Int.zero_mul, decide_eq_true (by omega)]; rfl
    · have := Int.mul_pos (show 0 < c by omega) bb
      rw [decide_eq_false h, decide_eq_false (by omega)]; rfl
  have k4 : ordI ((a * e + c * b) * b) (a * (b * e)) ≥ 0 := by
    have := Int.mul_nonneg c0 (Int.le_of_lt bb)
    rw [id1]
    unfold ordI
    rw [if_neg (by omega)]
    split <;> omega
  rw [if_pos k1, frsame a0 b0 A0 B0, bind1_pure, if_pos k2, if_pos k3, decide_eq_true k4]
  rfl
end Go.Proofs.Ytnfikddgjkfflaa
