/- Plain: which fraction is greater, by whole parts and turned rests; differences. -/
import Derived.Test.YtilpgjoidgfbiaaGreatRc
namespace Go.Proofs.YtilpgjoidgfbiaaGreat
open Vm
set_option linter.unusedVariables false
theorem whole_lt {a b c d : Int} (hb : 0 < b) (hd : 0 < d) (h : a / b < c / d) : a * d < c * b := by
  have h1 : a < (a / b + 1) * b := by have := Int.lt_ediv_add_one_mul_self a hb; simpa using this
  have h2 : c / d * d ≤ c := Int.ediv_mul_le c (by omega)
  have h3 : (a / b + 1) * b * d ≤ c / d * b * d := Int.mul_le_mul_of_nonneg_right (Int.mul_le_mul_of_nonneg_right (by omega) (by omega)) (by omega)
  have h4 : a * d < (a / b + 1) * b * d := Int.mul_lt_mul_of_pos_right h1 hd
  have h5 : c / d * d * b ≤ c * b := Int.mul_le_mul_of_nonneg_right h2 (by omega)
  have h6 : c / d * b * d = c / d * d * b := by grind
  omega
theorem whole_eq {a b c d : Int} (h : a / b = c / d) : a * d - c * b = (a % b) * d - (c % d) * b := by
  have h1 := Int.mul_ediv_add_emod a b
  have h2 := Int.mul_ediv_add_emod c d
  rw [h] at h1
  generalize c / d = q at *
  generalize a % b = r at *
  generalize c % d = s at *
  subst h1; subst h2
  grind
theorem len_pos {v : Int} (h : 0 ≤ v) : decide (((nat32 v).length : Int) > 0) = decide (0 < v) := by
  by_cases c : v = 0
  · subst c; decide
  · have : nat32 v ≠ [] := fun k => c ((nat32_nil h).1 k)
    have hl : 0 < (nat32 v).length := by cases hq : nat32 v with | nil => exact absurd hq this | cons => simp
    rw [decide_eq_true (by omega), decide_eq_true (by omega)]
theorem len_zero {v : Int} (h : 0 ≤ v) : (((nat32 v).length : Int) == 0) = decide (v = 0) := by
  by_cases c : v = 0
  · subst c; decide
  · have : nat32 v ≠ [] := fun k => c ((nat32_nil h).1 k)
    have hl : 0 < (nat32 v).length := by cases hq : nat32 v with | nil => exact absurd hq this | cons => simp
    rw [decide_eq_false c]
    simp
    omega
def rsubS (x y : S_api_Rational) : S_api_Rational × Int := if FV x ∧ FV y then (if val y.Num * val x.Den > val x.Num * val y.Den then (zr, 2) else if val x.Num * val y.Den < bp 64 ∧ val x.Den * val y.Den < bp 64 then (fr (val x.Num * val y.Den - val y.Num * val x.Den) (val x.Den * val y.Den), 0) else (zr, 1)) else (zr, 20)
end Go.Proofs.YtilpgjoidgfbiaaGreat
