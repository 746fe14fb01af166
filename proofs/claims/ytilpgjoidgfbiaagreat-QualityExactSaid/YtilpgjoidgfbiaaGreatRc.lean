/- Plain: sums, products, quotients, differences, comparisons and roundings of fractions. -/
import Derived.Test.YtilpgjoidgfbiaaGreatRb
import Derived.Test.YtilpgjoidgfbiaaGreatQf
namespace Go.Proofs.YtilpgjoidgfbiaaGreat
open Vm
set_option linter.unusedVariables false
theorem nm_plus {a b : Int} (ha : 0 ≤ a) (hb : 0 ≤ b) : rational_number_plus (nm a) (nm b) = some (nm (a + b)) := by
  rw [plus_eq (nm_ok ha) (nm_ok hb)]
  congr 1
  by_cases h : a < bp 64
  · by_cases k : b < bp 64
    · rw [nm_small h, nm_small k]
      unfold wS nm
      simp only [ne_eq, not_true_eq_false, if_false]
      rw [addS_nat ha hb h k]
    · rw [nm_small h, nm_large k, nm_large (show ¬ a + b < bp 64 by omega)]
      unfold wS
      simp
  · rw [nm_large h, nm_large (show ¬ a + b < bp 64 by omega)]
    unfold wS
    simp
/-- A result, if it has few digits enough. -/
def lim3 (n d : Int) : S_api_Rational × Int := if n < bp 64 ∧ d < bp 64 then (fr n d, 0) else (zr, 1)
def rrndS (x : S_api_Rational) (u : Int) : Int × Int := if FV x then (if u < 1 ∨ u > 4294967296 then (0, 2) else if val x.Num * (2 * u) + val x.Den < bp 64 ∧ 2 * val x.Den < bp 64 then (if (val x.Num * (2 * u) + val x.Den) / (2 * val x.Den) < 9223372036854775808 then ((val x.Num * (2 * u) + val x.Den) / (2 * val x.Den), 0) else (0, 1)) else (0, 1)) else (0, 20)
theorem rrnd_eq {x : S_api_Rational} (hx : FX x) (u : Int) : rational_Round x u = some (rrndS x u) := by
  unfold rational_Round rrndS
  rw [rat_valid_eq hx, bind1_pure]
  by_cases vx : FV x
  rotate_left
  · rw [if_pos (by simp [vx]), if_neg vx]
  obtain ⟨a1, a2, a3, a4⟩ := vx.pos hx
  rw [if_neg (by simp [vx]), if_pos vx]
  unfold rational_Round_k1
  by_cases h1 : u < 1
  · rw [if_pos (show decide (u < 1) = true by simpa using h1), if_pos rfl, if_pos (show u < 1 ∨ u > 4294967296 from .inl h1)]
  rw [if_neg (show ¬ decide (u < 1) = true by simpa using h1)]
  by_cases h2 : u > 4294967296
  · rw [if_pos (show decide (u > 4294967296) = true by simpa using h2), if_pos (show u < 1 ∨ u > 4294967296 from .inr h2)]
  rw [if_neg (show ¬ decide (u > 4294967296) = true by simpa using h2), if_neg (show ¬ (u < 1 ∨ u > 4294967296) by omega), wi64 (by omega) (by omega)]
  unfold rational_of
  simp only [bind1_pure]
  have two : ∀ {p : List Int} {v : Int}, VN p → U32 p → 0 ≤ v → v < 9223372036854775808 → rational_number_times ⟨p, 0⟩ (nm v) = some (nm (val p * v)) := fun {p v} v1 u1 v0 v2 => by
    rw [nm_small (small_lt v2), nm_times v1 u1 ((vn_iff v0).2 (small_lt v2)) (nat32_u32 v0), nat32_val v0]
  have two' : rational_number_times (nm 2) ⟨x.Den, 0⟩ = some (nm (2 * val x.Den)) := by
    rw [nm_small (small_lt (by decide)), nm_times ((vn_iff (by decide)).2 (small_lt (by decide))) (nat32_u32 (by decide)) vx.2.1 hx.2.1, nat32_val (by decide)]
  have p1 : 0 ≤ val x.Num * (2 * u) := Int.mul_nonneg a1 (by omega)
  rw [small_eq (by omega) (by omega), bind1_pure, two vx.1 hx.1 (by omega) (by omega), bind1_pure, nm_val vx.2.1 hx.2.1, nm_plus p1 (Int.le_of_lt a2), bind1_pure, small_eq (by decide) (by decide), bind1_pure, ← nm_val vx.2.1 hx.2.1, two', bind1_pure]
  unfold rational_Round_k2
  have p2 : 0 ≤ val x.Num * (2 * u) + val x.Den := by omega
  have p3 : 0 < 2 * val x.Den := by omega
  generalize val x.Num * (2 * u) + val x.Den = a at *
  generalize 2 * val x.Den = b at *
  by_cases h : a < bp 64
  rotate_left
  · rw [nm_large h, if_pos (by decide), if_pos rfl, if_neg (fun k => h k.1)]
  by_cases k : b < bp 64
  rotate_left
  · rw [nm_small h, nm_large k, if_neg (by simp), if_pos (by decide), if_neg (fun h => k h.2)]
  have q0 : 0 ≤ a / b := Int.ediv_nonneg p2 (Int.le_of_lt p3)
  have q1 : a / b ≤ a := Int.ediv_le_self _ p2
  rw [nm_small h, nm_small k, if_neg (by simp), if_neg (by simp), ndivmod p2 p3 h k, bind3_pure, natural_int_eq (nat32_u32 q0) (nlen q0 (by omega)), if_pos ⟨h, k⟩]
  unfold intS
  have vq := (vn_iff q0).2 (by omega)
  by_cases c : a / b < 9223372036854775808
  · rw [if_pos (show VN (nat32 (a / b)) ∧ val (nat32 (a / b)) < 9223372036854775808 from ⟨vq, by rw [nat32_val q0]; exact c⟩), bind2_pure, if_neg (by simp), if_pos c, nat32_val q0]
  · rw [if_neg (show ¬ (VN (nat32 (a / b)) ∧ val (nat32 (a / b)) < 9223372036854775808) from fun k => by rw [nat32_val q0] at k; exact c k.2), bind2_pure, if_pos (by simp), if_neg c]
end Go.Proofs.YtilpgjoidgfbiaaGreat
