/- Plain: sums, products, quotients, differences, comparisons and roundings of fractions. -/
import Derived.Test.YtnfikddgjkfflaaRb
import Derived.Test.YtnfikddgjkfflaaQf
namespace Go.Proofs.Ytnfikddgjkfflaa
open Vm
set_option linter.unusedVariables false
theorem nm_plus {a b : Int} (ha : 0 ≤ a) (hb : 0 ≤ b) : rational_number_plus (nm a) (nm b) = some (nm (a + b)) := by
  rw [plus_eq (nm_ok ha) (nm_ok hb)]
  congr 1
  by_cases h : a < bp 64
  · by_cases k : b < bp 64
    · rw [nm_small h, nm_small k]
      unfold wS nm
      simp only [ne_eq, not_true_eq_false, if_false]
      rw [addS_nat ha hb h k]
    · rw [nm_small h, nm_large k, nm_large (show ¬ a + b < bp 64 by omega)]
      unfold wS
      simp
  · rw [nm_large h, nm_large (show ¬ a + b < bp 64 by omega)]
    unfold wS
    simp
/-- A result, if it has few digits enough. -/
def lim3 (n d : Int) : S_api_Rational × Int := if n < bp 64 ∧ d < bp 64 then (fr n d, 0) else (zr, 1)
def raddS (x y : S_api_Rational) : S_api_Rational × Int := if FV x ∧ FV y then lim3 (val x.Num * val y.Den + val y.Num * val x.Den) (val x.Den * val y.Den) else (zr, 20)
theorem radd_eq {x y : S_api_Rational} (hx : FX x) (hy : FX y) : rational_Add x y = some (raddS x y) := by
  unfold rational_Add raddS
  rw [rat_check_eq hx hy, bind1_pure]
  by_cases h : FV x ∧ FV y
  rotate_left
  · rw [if_neg h, if_pos (by decide), if_neg h]; rfl
  obtain ⟨vx, vy⟩ := h
  obtain ⟨a1, a2, a3, a4⟩ := vx.pos hx
  obtain ⟨b1, b2, b3, b4⟩ := vy.pos hy
  have hv : FV x ∧ FV y := ⟨vx, vy⟩
  rw [if_pos hv, if_neg (by decide), if_pos hv]
  unfold rational_joined_rational_number_plus rational_of lim3
  have p1 := Int.mul_nonneg a1 (Int.le_of_lt b2)
  have p2 := Int.mul_nonneg b1 (Int.le_of_lt a2)
  rw [cross_eq hx hy vx vy, bind2_pure, nm_plus p1 p2, bind1_pure, bind1_pure, bind1_pure, nm_times vx.2.1 hx.2.1 vy.2.1 hy.2.1, bind1_pure, reduced_eq (by omega) (Int.mul_pos a2 b2)]
  split <;> rfl
def rmulS (x y : S_api_Rational) : S_api_Rational × Int := if FV x ∧ FV y then lim3 (val x.Num * val y.Num) (val x.Den * val y.Den) else (zr, 20)
theorem rmul_eq {x y : S_api_Rational} (hx : FX x) (hy : FX y) : rational_Mul x y = some (rmulS x y) := by
  unfold rational_Mul rmulS
  rw [rat_check_eq hx hy, bind1_pure]
  by_cases h : FV x ∧ FV y
  rotate_left
  · rw [if_neg h, if_pos (by decide), if_neg h]; rfl
  obtain ⟨vx, vy⟩ := h
  obtain ⟨a1, a2, a3, a4⟩ := vx.pos hx
  obtain ⟨b1, b2, b3, b4⟩ := vy.pos hy
  have hv : FV x ∧ FV y := ⟨vx, vy⟩
  rw [if_pos hv, if_neg (by decide), if_pos hv]
  unfold rational_of lim3
  simp only [bind1_pure]
  rw [nm_times vx.1 hx.1 vy.1 hy.1, bind1_pure, nm_times vx.2.1 hx.2.1 vy.2.1 hy.2.1, bind1_pure, reduced_eq (Int.mul_nonneg a1 b1) (Int.mul_pos a2 b2)]
  split <;> rfl
def rdivS (x y : S_api_Rational) : S_api_Rational × Int := if FV x ∧ FV y then (if y.Num = [] then (zr, 9) else lim3 (val x.Num * val y.Den) (val x.Den * val y.Num)) else (zr, 20)
theorem rdiv_eq {x y : S_api_Rational} (hx : FX x) (hy : FX y) : rational_Div x y = some (rdivS x y) := by
  unfold rational_Div rdivS
  rw [rat_check_eq hx hy, bind1_pure]
  by_cases h : FV x ∧ FV y
  rotate_left
  · rw [if_neg h, if_pos (by decide), if_neg h]; rfl
  obtain ⟨vx, vy⟩ := h
  obtain ⟨a1, a2, a3, a4⟩ := vx.pos hx
  obtain ⟨b1, b2, b3, b4⟩ := vy.pos hy
  have hv : FV x ∧ FV y := ⟨vx, vy⟩
  rw [if_pos hv, if_neg (by decide), if_pos hv]
  by_cases h0 : y.Num = []
  · rw [if_pos (show ((y.Num.length : Int) == 0) = true by simp [h0]), if_pos h0]; rfl
  rw [if_neg (show ¬ ((y.Num.length : Int) == 0) = true by simp [h0]), if_neg h0]
  unfold rational_of lim3
  simp only [bind1_pure]
  rw [nm_times vx.1 hx.1 vy.2.1 hy.2.1, bind1_pure, nm_times vx.2.1 hx.2.1 vy.1 hy.1, bind1_pure, reduced_eq (Int.mul_nonneg a1 (Int.le_of_lt b2)) (Int.mul_pos a2 (ne_pos vy.1 hy.1 h0))]
  split <;> rfl
def rcmpS (x y : S_api_Rational) : Int × Int := if FV x ∧ FV y then (if val x.Num * val y.Den < bp 64 ∧ val y.Num * val x.Den < bp 64 then (ordI (val x.Num * val y.Den) (val y.Num * val x.Den), 0) else (0, 1)) else (0, 20)
theorem rcmp_eq {x y : S_api_Rational} (hx : FX x) (hy : FX y) : rational_Compare x y = some (rcmpS x y) := by
  unfold rational_Compare rcmpS rational_Compare_k1
  rw [rat_check_eq hx hy, bind1_pure]
  by_cases h : FV x ∧ FV y
  rotate_left
  · rw [if_neg h, if_pos (by decide), if_neg h]
  obtain ⟨vx, vy⟩ := h
  obtain ⟨a1, a2, a3, a4⟩ := vx.pos hx
  obtain ⟨b1, b2, b3, b4⟩ := vy.pos hy
  have p1 := Int.mul_nonneg a1 (Int.le_of_lt b2)
  have p2 := Int.mul_nonneg b1 (Int.le_of_lt a2)
  have hv : FV x ∧ FV y := ⟨vx, vy⟩
  rw [if_pos hv, if_neg (by decide), if_pos hv, cross_eq hx hy vx vy, bind2_pure]
  generalize val x.Num * val y.Den = a at *
  generalize val y.Num * val x.Den = b at *
  by_cases h : a < bp 64
  rotate_left
  · rw [nm_large h, if_pos (by decide), if_pos rfl, if_neg (fun k => h k.1)]
  by_cases k : b < bp 64
  rotate_left
  · rw [nm_small h, nm_large k, if_neg (by simp), if_pos (by decide), if_neg (fun h => k h.2)]
  rw [nm_small h, nm_small k, if_neg (by simp), if_neg (by simp), natural_compare_eq (nat32_u32 p1) (nat32_u32 p2) (by have := nlen p1 h; show (nat32 a).length < 1000000; omega) (by have := nlen p2 k; show (nat32 b).length < 1000000; omega), bind1_pure, if_pos ⟨h, k⟩, nat32_val p1, nat32_val p2]
def rrndS (x : S_api_Rational) (u : Int) : Int × Int := if FV x then (if u < 1 ∨ u > 4294967296 then (0, 2) else if val x.Num * (2 * u) + val x.Den < bp 64 ∧ 2 * val x.Den < bp 64 then (if (val x.Num * (2 * u) + val x.Den) / (2 * val x.Den) < 9223372036854775808 then ((val x.Num * (2 * u) + val x.Den) / (2 * val x.Den), 0) else (0, 1)) else (0, 1)) else (0, 20)
theorem rrnd_eq {x : S_api_Rational} (hx : FX x) (u : Int) : rational_Round x u = some (rrndS x u) := by
  unfold rational_Round rrndS
  rw [rat_valid_eq hx, bind1_pure]
  by_cases vx : FV x
  rotate_left
  · rw [if_pos (by simp [vx]), if_neg vx]
  obtain ⟨a1, a2, a3, a4⟩ := vx.pos hx
  rw [if_neg (by simp [vx]), if_pos vx]
  unfold rational_Round_k1
  by_cases h1 : u < 1
  · rw [if_pos (show decide (u < 1) = true by simpa using h1), if_pos rfl, if_pos (show u < 1 ∨ u > 4294967296 from .inl h1)]
  rw [if_neg (show ¬ decide (u < 1) = true by simpa using h1)]
  by_cases h2 : u > 4294967296
  · rw [if_pos (show decide (u > 4294967296) = true by simpa using h2), if_pos (show u < 1 ∨ u > 4294967296 from .inr h2)]
  rw [if_neg (show ¬ decide (u > 4294967296) = true by simpa using h2), if_neg (show ¬ (u < 1 ∨ u > 4294967296) by omega), wi64 (by omega) (by omega)]
  unfold rational_of
  simp only [bind1_pure]
  have two : ∀ {p : List Int} {v : Int}, VN p → U32 p → 0 ≤ v → v < 9223372036854775808 → rational_number_times ⟨p, 0⟩ (nm v) = some (nm (val p * v)) := fun {p v} v1 u1 v0 v2 => by
    rw [nm_small (small_lt v2), nm_times v1 u1 ((vn_iff v0).2 (small_lt v2)) (nat32_u32 v0), nat32_val v0]
  have two' : rational_number_times (nm 2) ⟨x.Den, 0⟩ = some (nm (2 * val x.Den)) := by
    rw [nm_small (small_lt (by decide)), nm_times ((vn_iff (by decide)).2 (small_lt (by decide))) (nat32_u32 (by decide)) vx.2.1 hx.2.1, nat32_val (by decide)]
  have p1 : 0 ≤ val x.Num * (2 * u) := Int.mul_nonneg a1 (by omega)
  rw [small_eq (by omega) (by omega), bind1_pure, two vx.1 hx.1 (by omega) (by omega), bind1_pure, nm_val vx.2.1 hx.2.1, nm_plus p1 (Int.le_of_lt a2), bind1_pure, small_eq (by decide) (by decide), bind1_pure, ← nm_val vx.2.1 hx.2.1, two', bind1_pure]
  unfold rational_Round_k2
  have p2 : 0 ≤ val x.Num * (2 * u) + val x.Den := by omega
  have p3 : 0 < 2 * val x.Den := by omega
  generalize val x.Num * (2 * u) + val x.Den = a at *
  generalize 2 * val x.Den = b at *
  by_cases h : a < bp 64
  rotate_left
  · rw [nm_large h, if_pos (by decide), if_pos rfl, if_neg (fun k => h k.1)]
  by_cases k : b < bp 64
  rotate_left
  · rw [nm_small h, nm_large k, if_neg (by simp), if_pos (by decide), if_neg (fun h => k h.2)]
  have q0 : 0 ≤ a / b := Int.ediv_nonneg p2 (Int.le_of_lt p3)
  have q1 : a / b ≤ a := Int.ediv_le_self _ p2
  rw [nm_small h, nm_small k, if_neg (by simp), if_neg (by simp), ndivmod p2 p3 h k, bind3_pure, natural_int_eq (nat32_u32 q0) (nlen q0 (by omega)), if_pos ⟨h, k⟩]
  unfold intS
  have vq := (vn_iff q0).2 (by omega)
  by_cases c : a / b < 9223372036854775808
  · rw [if_pos (show VN (nat32 (a / b)) ∧ val (nat32 (a / b)) < 9223372036854775808 from ⟨vq, by rw [nat32_val q0]; exact c⟩), bind2_pure, if_neg (by simp), if_pos c, nat32_val q0]
  · rw [if_neg (show ¬ (VN (nat32 (a / b)) ∧ val (nat32 (a / b)) < 9223372036854775808) from fun k => by rw [nat32_val q0] at k; exact c k.2), bind2_pure, if_pos (by simp), if_neg c]
end Go.Proofs.Ytnfikddgjkfflaa
