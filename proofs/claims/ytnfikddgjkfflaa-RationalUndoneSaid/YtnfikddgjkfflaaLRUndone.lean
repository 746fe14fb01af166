/- The plain law of RationalUndone. -/
import Derived.Test.YtnfikddgjkfflaaRw
import Derived.Test.YtnfikddgjkfflaaGL7
namespace Go.Proofs.Ytnfikddgjkfflaa
open Vm
set_option linter.unusedVariables false
theorem poly_undo (a b c e : Int) : ((a * e + c * b) * e - c * (b * e)) * b = a * ((b * e) * e) := by grind
theorem poly_undo2 (a b c e : Int) : ((a * c) * e) * b = a * ((b * e) * c) := by grind
theorem undone_law (p : List Int) : rl_law11_RationalUndone p = some true := by
  unfold rl_law11_RationalUndone
  rw [awake11]
  simp only [Option.bind_some, Bool.not_true, Bool.false_eq_true, if_false, rl_make_Few]
  by_cases hp : p.length ≤ 400
  rotate_left
  · rw [decide_eq_false (by omega : ¬ ((p.length : Nat) : Int) ≤ 400)]
    simp only [Bool.not_false, rl_law11_RationalUndone_k1, if_true, awake11, Option.bind_some]
  rw [decide_eq_true (by omega : ((p.length : Nat) : Int) ≤ 400)]
  simp only [Bool.not_true, rl_law11_RationalUndone_k1, Bool.false_eq_true, if_false]
  obtain ⟨d, he, hd⟩ := new_yes hp
  rw [he]; clear he; simp only [Option.bind_some]
  obtain ⟨a, b, d1, he, a0, b0, a1, b1, hd1⟩ := rational_yes hd (k := 3) 3 rfl (by decide) (by decide)
  rw [he]; clear he; first | rw [bind2_pure] | rw [bind3_pure] | rw [bind4_pure] | rw [bind1_pure]
  obtain ⟨c, e, d2, he, c0, e0, c1, e1, hd2⟩ := rational_yes hd1 (k := 3) 3 rfl (by decide) (by decide)
  rw [he]; clear he; first | rw [bind2_pure] | rw [bind3_pure] | rw [bind4_pure] | rw [bind1_pure]
  have b0' := Int.le_of_lt b0
  have e0' := Int.le_of_lt e0
  have A0 := b64 a1 (by decide)
  have B0 := b64 b1 (by decide)
  have C0 := b64 c1 (by decide)
  have E0 := b64 e1 (by decide)
  have ae := Int.mul_nonneg a0 e0'
  have cb := Int.mul_nonneg c0 b0'
  have ae1 := bp_mul a0 a1 e0' e1
  have cb1 := bp_mul c0 c1 b0' b1
  have s1 := bp_sum ae1 cb1
  have be := Int.mul_pos b0 e0
  have be1 := bp_mul b0' b1 e0' e1
  have s0 : 0 ≤ a * e + c * b := by omega
  rw [fadd a0 b0 c0 e0 A0 B0 C0 E0 (b64 s1 (by decide)) (b64 be1 (by decide)), bind2_pure]
  have se1 := bp_mul s0 s1 e0' e1
  have bee := Int.mul_pos be e0
  have bee1 := bp_mul (Int.le_of_lt be) be1 e0' e1
  have cbe := Int.mul_nonneg c0 (Int.le_of_lt be)
  have hle : ¬ c * (b * e) > (a * e + c * b) * e := by
    have h1 : (a * e + c * b) * e = (a * e) * e + c * (b * e) := by grind
    have := Int.mul_nonneg ae e0'
    omega
  rw [fsub s0 be c0 e0 (b64 s1 (by decide)) (b64 be1 (by decide)) C0 E0 (b64 se1 (by decide)) (b64 bee1 (by decide)), if_neg hle, bind2_pure]
  have ac := Int.mul_nonneg a0 c0
  have ac1 := bp_mul a0 a1 c0 c1
  rw [fmul a0 b0 c0 e0 A0 B0 C0 E0 (b64 ac1 (by decide)) (b64 be1 (by decide)), bind2_pure]
  have un : fr ((a * e + c * b) * e - c * (b * e)) ((b * e) * e) = fr a b := fr_eq (by omega) bee a0 b0 (poly_undo a b c e)
  have len0 : (((fr c e).Num.length : Int) == 0) = decide (c = 0) := by
    obtain ⟨g, x, y, g0, x0, y0, e1, e2, e3, _⟩ := fr_parts c0 e0
    rw [e3]
    show (((nat32 x).length : Int) == 0) = _
    rw [len_zero x0]
    have hx : (x = 0) ↔ (c = 0) := by
      rw [e1]
      constructor
      · intro h; rw [h, Int.mul_zero]
      · intro h; rcases Int.mul_eq_zero.1 h with h | h <;> omega
    by_cases h : c = 0
    · rw [decide_eq_true h, decide_eq_true (hx.2 h)]
    · rw [decide_eq_false h, decide_eq_false (fun k => h (hx.1 k))]
  by_cases h0 : c = 0
  · subst h0
    rw [fdiv0 ac be e0 (b64 ac1 (by decide)) (b64 be1 (by decide)) E0, bind2_pure, if_neg (by decide), if_neg (by decide), if_neg (by decide), un, frsame a0 b0 A0 B0, bind1_pure]
    unfold rl_law11_RationalUndone_k2
    rw [decide_eq_true rfl, if_neg (by decide), len0, if_pos (by decide), if_pos (by decide)]
    rfl
  · have c0' : 0 < c := by omega
    have ace1 := bp_mul ac ac1 e0' e1
    have bec1 := bp_mul (Int.le_of_lt be) be1 c0 c1
    rw [fdiv ac be c0' e0 (b64 ac1 (by decide)) (b64 be1 (by decide)) C0 E0 (b64 ace1 (by decide)) (b64 bec1 (by decide)), bind2_pure, if_neg (by decide), if_neg (by decide), if_neg (by decide), un, frsame a0 b0 A0 B0, bind1_pure]
    unfold rl_law11_RationalUndone_k2
    have un2 : fr (a * c * e) (b * e * c) = fr a b := fr_eq (Int.mul_nonneg ac e0') (Int.mul_pos be c0') a0 b0 (poly_undo2 a b c e)
    rw [decide_eq_true rfl, if_neg (by decide), len0, if_neg (by simpa using h0), if_pos (by decide), un2, frsame a0 b0 A0 B0, bind1_pure, decide_eq_true rfl]
    rfl
end Go.Proofs.Ytnfikddgjkfflaa
