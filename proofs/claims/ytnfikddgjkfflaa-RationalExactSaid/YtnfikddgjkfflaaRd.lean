/- Plain: which fraction is greater, by whole parts and turned rests; differences. -/
import Derived.Test.YtnfikddgjkfflaaRc
namespace Go.Proofs.Ytnfikddgjkfflaa
open Vm
set_option linter.unusedVariables false
theorem whole_lt {a b c d : Int} (hb : 0 < b) (hd : 0 < d) (h : a / b < c / d) : a * d < c * b := by
  have h1 : a < (a / b + 1) * b := by have := Int.lt_ediv_add_one_mul_self a hb; simpa using this
  have h2 : c / d * d ≤ c := Int.ediv_mul_le c (by omega)
  have h3 : (a / b + 1) * b * d ≤ c / d * b * d := Int.mul_le_mul_of_nonneg_right (Int.mul_le_mul_of_nonneg_right (by omega) (by omega)) (by omega)
  have h4 : a * d < (a / b + 1) * b * d := Int.mul_lt_mul_of_pos_right h1 hd
  have h5 : c / d * d * b ≤ c * b := Int.mul_le_mul_of_nonneg_right h2 (by omega)
  have h6 : c / d * b * d = c / d * d * b := by grind
  omega
theorem whole_eq {a b c d : Int} (h : a / b = c / d) : a * d - c * b = (a % b) * d - (c % d) * b := by
  have h1 := Int.mul_ediv_add_emod a b
  have h2 := Int.mul_ediv_add_emod c d
  rw [h] at h1
  generalize c / d = q at *
  generalize a % b = r at *
  generalize c % d = s at *
  subst h1; subst h2
  grind
theorem len_pos {v : Int} (h : 0 ≤ v) : decide (((nat32 v).length : Int) > 0) = decide (0 < v) := by
  by_cases c : v = 0
  · subst c; decide
  · have : nat32 v ≠ [] := fun k => c ((nat32_nil h).1 k)
    have hl : 0 < (nat32 v).length := by cases hq : nat32 v with | nil => exact absurd hq this | cons => simp
    rw [decide_eq_true (by omega), decide_eq_true (by omega)]
theorem len_zero {v : Int} (h : 0 ≤ v) : (((nat32 v).length : Int) == 0) = decide (v = 0) := by
  by_cases c : v = 0
  · subst c; decide
  · have : nat32 v ≠ [] := fun k => c ((nat32_nil h).1 k)
    have hl : 0 < (nat32 v).length := by cases hq : nat32 v with | nil => exact absurd hq this | cons => simp
    rw [decide_eq_false c]
    simp
    omega
theorem greater_step {a b c d : Int} (ha : 0 ≤ a) (hb : 0 < b) (hc : 0 ≤ c) (hd : 0 < d) (la : a < bp 64) (lb : b < bp 64) (lc : c < bp 64) (ld : d < bp 64) : rational_greater_l1 (nat32 a) (nat32 b) (nat32 c) (nat32 d) = if a / b ≠ c / d then some (.inr (decide (a / b > c / d))) else if a % b = 0 ∨ c % d = 0 then some (.inr (decide (0 < a % b))) else some (.inl (nat32 d, nat32 (c % d), nat32 b, nat32 (a % b))) := by
  unfold rational_greater_l1 rational_greater_k2
  have q0 : 0 ≤ a / b := Int.ediv_nonneg ha (by omega)
  have q1 : a / b ≤ a := Int.ediv_le_self _ ha
  have p0 : 0 ≤ c / d := Int.ediv_nonneg hc (by omega)
  have p1 : c / d ≤ c := Int.ediv_le_self _ hc
  have r0 := Int.emod_nonneg a (show b ≠ 0 by omega)
  have s0 := Int.emod_nonneg c (show d ≠ 0 by omega)
  rw [ndivmod ha hb la lb, bind3_pure, ndivmod hc hd lc ld, bind3_pure, natural_compare_eq (nat32_u32 q0) (nat32_u32 p0) (by have := nlen q0 (by omega); omega) (by have := nlen p0 (by omega); omega), bind1_pure, nat32_val q0, nat32_val p0, len_pos r0, len_zero r0, len_zero s0]
  by_cases h : a / b = c / d
  · rw [if_neg (show ¬ (ordI (a / b) (c / d) != 0) = true by rw [ordI_zero.2 h]; decide), if_neg (show ¬ (a / b ≠ c / d) from fun k => k h)]
    by_cases k : a % b = 0
    · rw [if_pos (show decide (a % b = 0) = true from decide_eq_true k), if_pos (show (true = true) from rfl), if_pos (show a % b = 0 ∨ c % d = 0 from .inl k)]
    · rw [if_neg (show ¬ decide (a % b = 0) = true by simpa using k)]
      by_cases m : c % d = 0
      · rw [if_pos (show decide (c % d = 0) = true from decide_eq_true m), if_pos (show a % b = 0 ∨ c % d = 0 from .inr m)]
      · rw [if_neg (show ¬ decide (c % d = 0) = true by simpa using m), if_neg (show ¬ (a % b = 0 ∨ c % d = 0) by omega)]
  · rw [if_pos (show (ordI (a / b) (c / d) != 0) = true by have := fun k => h (ordI_zero.1 k); simpa using this), if_pos (show a / b ≠ c / d from h)]
    congr 2
    unfold ordI
    by_cases k : a / b < c / d
    · rw [if_pos k]; simp; omega
    · rw [if_neg k, if_pos (by omega)]; simp; omega
theorem greater_loop : ∀ (n : Nat) {a b c d : Int}, (b + d).toNat ≤ n → 0 ≤ a → 0 < b → 0 ≤ c → 0 < d → a < bp 64 → b < bp 64 → c < bp 64 → d < bp 64 →
    loop (fun v : (List Int) × (List Int) × (List Int) × (List Int) => rational_greater_l1 v.1 v.2.1 v.2.2.1 v.2.2.2) (nat32 a, nat32 b, nat32 c, nat32 d) = some (decide (a * d > c * b)) := by
  intro n
  induction n with
  | zero => intro a b c d hn; omega
  | succ n ih =>
    intro a b c d hn ha hb hc hd la lb lc ld
    have st := greater_step ha hb hc hd la lb lc ld
    by_cases h : a / b = c / d
    rotate_left
    · rw [if_pos h] at st
      rw [loop_end st]
      congr 1
      by_cases k : a / b < c / d
      · have := whole_lt hb hd k
        rw [decide_eq_false (by omega), decide_eq_false (by omega)]
      · have := whole_lt hd hb (show c / d < a / b by omega)
        rw [decide_eq_true (by omega), decide_eq_true (by omega)]
    rw [if_neg (by simpa using h)] at st
    have we := whole_eq h
    have r0 := Int.emod_nonneg a (show b ≠ 0 by omega)
    have s0 := Int.emod_nonneg c (show d ≠ 0 by omega)
    have r1 := Int.emod_lt_of_pos a hb
    have s1 := Int.emod_lt_of_pos c hd
    by_cases k : a % b = 0 ∨ c % d = 0
    · rw [if_pos k] at st
      rw [loop_end st]
      congr 1
      by_cases m : a % b = 0
      · rw [m] at we ⊢
        have := Int.mul_nonneg s0 (Int.le_of_lt hb)
        rw [Int.zero_mul] at we
        rw [decide_eq_false (by omega), decide_eq_false (by omega)]
      · have m2 : c % d = 0 := by omega
        rw [m2, Int.zero_mul] at we
        have := Int.mul_pos (show 0 < a % b by omega) hd
        rw [decide_eq_true (by omega), decide_eq_true (by omega)]
    · rw [if_neg k] at st
      rw [loop_next st, ih (by omega) (by omega) (by omega) (by omega) (by omega) ld (by omega) lb (by omega)]
      congr 1
      have e1 : d * (a % b) = (a % b) * d := Int.mul_comm _ _
      have e2 : b * (c % d) = (c % d) * b := Int.mul_comm _ _
      by_cases m : a * d > c * b
      · rw [decide_eq_true m, decide_eq_true (by omega)]
      · rw [decide_eq_false m, decide_eq_false (by omega)]
theorem greater_eq {x y : S_api_Rational} (hx : FX x) (hy : FX y) (vx : FV x) (vy : FV y) : rational_greater x y = some (decide (val x.Num * val y.Den > val y.Num * val x.Den)) := by
  obtain ⟨a1, a2, a3, a4⟩ := vx.pos hx
  obtain ⟨b1, b2, b3, b4⟩ := vy.pos hy
  unfold rational_greater
  have := greater_loop _ (Nat.le_refl _) a1 a2 b1 b2 a3 a4 b3 b4
  rw [nat32_of (vx.1.canon hx.1), nat32_of (vx.2.1.canon hx.2.1), nat32_of (vy.1.canon hy.1), nat32_of (vy.2.1.canon hy.2.1)] at this
  rw [this, bind1_pure]
def rsubS (x y : S_api_Rational) : S_api_Rational × Int := if FV x ∧ FV y then (if val y.Num * val x.Den > val x.Num * val y.Den then (zr, 2) else if val x.Num * val y.Den < bp 64 ∧ val x.Den * val y.Den < bp 64 then (fr (val x.Num * val y.Den - val y.Num * val x.Den) (val x.Den * val y.Den), 0) else (zr, 1)) else (zr, 20)
theorem rsub_eq {x y : S_api_Rational} (hx : FX x) (hy : FX y) : rational_Sub x y = some (rsubS x y) := by
  unfold rational_Sub rsubS
  rw [rat_check_eq hx hy, bind1_pure]
  by_cases h : FV x ∧ FV y
  rotate_left
  · rw [if_neg h, if_pos (by decide), if_neg h]; rfl
  obtain ⟨vx, vy⟩ := h
  obtain ⟨a1, a2, a3, a4⟩ := vx.pos hx
  obtain ⟨b1, b2, b3, b4⟩ := vy.pos hy
  have hv : FV x ∧ FV y := ⟨vx, vy⟩
  have p1 := Int.mul_nonneg a1 (Int.le_of_lt b2)
  have p2 := Int.mul_nonneg b1 (Int.le_of_lt a2)
  have p3 := Int.mul_pos a2 b2
  rw [if_pos hv, if_neg (by decide), if_pos hv, greater_eq hy hx vy vx, bind1_pure]
  by_cases g : val y.Num * val x.Den > val x.Num * val y.Den
  · rw [if_pos (decide_eq_true g), if_pos g]; rfl
  rw [if_neg (by simpa using g), if_neg g]
  unfold rational_joined_rational_Sub_f1 rational_of
  rw [cross_eq hx hy vx vy, bind2_pure]
  have mi : rational_Sub_f1 (nm (val x.Num * val y.Den)) (nm (val y.Num * val x.Den)) = some (if val x.Num * val y.Den < bp 64 then nm (val x.Num * val y.Den - val y.Num * val x.Den) else nm (bp 64)) := by
    rw [minus_eq (nm_ok p1) (nm_ok p2)]
    congr 1
    by_cases k : val x.Num * val y.Den < bp 64
    · rw [if_pos k, nm_small k, nm_small (show val y.Num * val x.Den < bp 64 by omega), nm_small (show val x.Num * val y.Den - val y.Num * val x.Den < bp 64 by omega)]
      unfold wS subS
      simp only [ne_eq, not_true_eq_false, if_false]
      rw [if_pos ⟨(vn_iff p1).2 k, (vn_iff p2).2 (by omega)⟩, nat32_val p1, nat32_val p2, if_neg (by omega)]
    · rw [if_neg k, nm_large k, nm_large (show ¬ bp 64 < bp 64 by omega)]
      unfold wS
      simp
  rw [mi, bind1_pure, bind1_pure, bind1_pure, nm_times vx.2.1 hx.2.1 vy.2.1 hy.2.1, bind1_pure]
  by_cases k : val x.Num * val y.Den < bp 64
  · rw [if_pos k, reduced_eq (by omega) p3]
    by_cases m : val x.Den * val y.Den < bp 64
    · rw [if_pos (show val x.Num * val y.Den - val y.Num * val x.Den < bp 64 ∧ val x.Den * val y.Den < bp 64 from ⟨by omega, m⟩), if_pos (show val x.Num * val y.Den < bp 64 ∧ val x.Den * val y.Den < bp 64 from ⟨k, m⟩)]; rfl
    · rw [if_neg (show ¬ (val x.Num * val y.Den - val y.Num * val x.Den < bp 64 ∧ val x.Den * val y.Den < bp 64) from fun h => m h.2), if_neg (show ¬ (val x.Num * val y.Den < bp 64 ∧ val x.Den * val y.Den < bp 64) from fun h => m h.2)]; rfl
  · rw [if_neg k, reduced_eq (Int.le_of_lt (bp_pos 64)) p3, if_neg (show ¬ (bp 64 < bp 64 ∧ val x.Den * val y.Den < bp 64) by omega), if_neg (show ¬ (val x.Num * val y.Den < bp 64 ∧ val x.Den * val y.Den < bp 64) from fun h => k h.1)]; rfl
end Go.Proofs.Ytnfikddgjkfflaa
