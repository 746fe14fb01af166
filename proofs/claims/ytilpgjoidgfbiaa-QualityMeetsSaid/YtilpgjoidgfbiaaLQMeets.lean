/- The plain law of QualityMeets. -/
import Derived.Test.YtilpgjoidgfbiaaEq
import Derived.Test.YtilpgjoidgfbiaaRg
import Derived.Test.YtilpgjoidgfbiaaGL3
namespace Go.Proofs.Ytilpgjoidgfbiaa
open Vm
set_option linter.unusedVariables false
set_option linter.unusedSimpArgs false
theorem fits_yes {x : Int} (h : 0 ≤ x ∧ x ≤ 4398046511104) : quality_fits x = some true := by
  unfold quality_fits
  rw [if_pos (by simp only [decide_eq_true_eq]; omega), decide_eq_true h.2]
  rfl
theorem check_est {S X : Int} (h0 : 0 ≤ S) (h1 : S ≤ X) (h2 : X ≤ 4398046511104) : quality_Check ⟨X - S, 0, S⟩ = some 0 := by
  unfold quality_Check
  simp only
  rw [fits_yes ⟨by omega, by omega⟩, bind1_pure, if_neg (by decide), fits_yes ⟨by decide, by decide⟩, bind1_pure, if_neg (by decide), fits_yes ⟨h0, by omega⟩, bind1_pure]
  rfl
theorem meets_eq {S X w : Int} (h0 : 0 ≤ S) (h1 : S ≤ X) (h2 : X ≤ 4398046511104) (w0 : 0 ≤ w) (w1 : w ≤ 1000) : quality_Meets ⟨X - S, 0, S⟩ w 0 = some (decide (w * X ≤ 1000 * S), 0) := by
  have hw := Int.mul_nonneg w0 (show 0 ≤ X by omega)
  have hw2 := Int.mul_le_mul w1 h2 (by omega) (by decide)
  unfold quality_Meets
  rw [check_est h0 h1 h2, bind1_pure, if_neg (by decide), if_neg (by simp only [decide_eq_true_eq]; omega), if_neg (by simp only [decide_eq_true_eq]; omega), if_neg (by decide), show decide ((0 : Int) > 1000) = false from rfl]
  unfold quality_Meets_k1
  rw [if_neg (by decide)]
  unfold quality_reaches
  simp only
  rw [wi64 (n := 1000 * S) (by omega) (by omega), wi64 (n := S + (X - S)) (by omega) (by omega), show S + (X - S) = X by omega, wi64 (n := w * X) (by omega) (by omega), bind1_pure, wi64 (n := S + 0) (by omega) (by omega), Int.zero_mul, wi64 (n := 0) (by decide) (by decide)]
  by_cases h : w * X ≤ 1000 * S
  · rw [decide_eq_true h, if_pos (by simp), bind1_pure, decide_eq_true (by omega)]
    rfl
  · rw [decide_eq_false h, if_neg (by simp)]
    rfl
theorem precision_eq {S X : Int} (h0 : 0 ≤ S) (h1 : S ≤ X) (h2 : X ≤ 4398046511104) : quality_Precision ⟨X - S, 0, S⟩ = some (if X = 0 then (⟨[], []⟩, 9) else (fr S X, 0)) := by
  unfold quality_Precision quality_part
  rw [check_est h0 h1 h2, bind1_pure, if_neg (by decide)]
  simp only
  rw [wi64 (n := S + (X - S)) (by omega) (by omega), show S + (X - S) = X by omega]
  by_cases hX : X = 0
  · rw [if_pos (by simp [hX]), if_pos hX, bind2_pure]
  · rw [if_neg (by simp [hX]), if_neg hX, of_eq (by omega) (by omega), ofS, if_neg (by omega), if_neg hX, bind2_pure, bind2_pure]
theorem qmeets_law (p : List Int) (q : Int) (hq : IntKind.u16.min ≤ q ∧ q ≤ IntKind.u16.max) : rl_law33_QualityMeets p q = some true := by
  have hq0 : 0 ≤ q ∧ q ≤ 65535 := hq
  unfold rl_law33_QualityMeets
  rw [awake33]
  simp only [Option.bind_some, Bool.not_true, Bool.false_eq_true, if_false, rl_make_Few]
  by_cases hp : p.length ≤ 400
  rotate_left
  · rw [decide_eq_false (by omega : ¬ ((p.length : Nat) : Int) ≤ 400)]
    simp only [Bool.not_false, rl_law33_QualityMeets_k1, if_true, awake33, Option.bind_some]
  rw [decide_eq_true (by omega : ((p.length : Nat) : Int) ≤ 400)]
  simp only [Bool.not_true, rl_law33_QualityMeets_k1, Bool.false_eq_true, if_false]
  obtain ⟨d, he, hd⟩ := new_yes hp
  rw [he]; clear he; simp only [Option.bind_some]
  obtain ⟨x, d1, he, x0, x1, hd1⟩ := next_yes hd (n := 3) (by decide) (by decide)
  rw [he]; clear he; first | rw [bind2_pure] | rw [bind3_pure] | rw [bind4_pure] | rw [bind1_pure]
  obtain ⟨n, rfl⟩ := Int.eq_ofNat_of_zero_le x0
  rw [wi64 (n := 1 + (n : Int)) (by omega) (by omega), show 1 + (n : Int) = ((n + 1 : Nat) : Int) by omega]
  obtain ⟨cs, d2, he, c1, c2, hd2⟩ := cands_yes hd1 (n := n + 1) (by omega) (by omega)
  rw [he]; clear he; first | rw [bind2_pure] | rw [bind3_pure] | rw [bind4_pure] | rw [bind1_pure]
  obtain ⟨m, d3, he, m1, hm, hd3⟩ := model_yes hd2 (n := n + 1) (by omega) (by omega)
  rw [he]; clear he; first | rw [bind2_pure] | rw [bind3_pure] | rw [bind4_pure] | rw [bind1_pure]
  have hc : CN m cs := fun c h => by unfold PN; rw [m1]; exact c2 c h
  have hc0 : CN m ([] : List S_api_Candidate) := fun c h => absurd h List.not_mem_nil
  have hs := sumS_in hm cs
  have hw : (IntKind.i64.wrap q).tmod 1001 = q % 1001 := by rw [wi64 (by omega) (by omega), tmod_nn hq0.1]
  have w0 := Int.emod_nonneg q (show (1001 : Int) ≠ 0 by decide)
  have w1 := Int.emod_lt_of_pos q (show (0 : Int) < 1001 by decide)
  generalize q % 1001 = w at hw w0 w1
  rw [of_est hm hc hc0 (by omega) (by simp), bind2_pure, sumS_nil]
  generalize hX : (cs.length : Int) * 1073741824 = X at *
  generalize sumS m cs = S at *
  simp only [hw]
  rw [meets_eq hs.1 hs.2 (by omega) w0 (by omega), bind2_pure, wi64 (n := w + 1) (by omega) (by omega)]
  obtain ⟨v, d4, he, v0, v1, hd4⟩ := next_yes hd3 (n := w + 1) (by omega) (by omega)
  rw [he]; clear he; first | rw [bind2_pure] | rw [bind3_pure] | rw [bind4_pure] | rw [bind1_pure]
  rw [meets_eq hs.1 hs.2 (by omega) v0 (by omega), bind2_pure, if_neg (by decide), if_neg (by decide), if_neg (by decide)]
  have hvw : v * X ≤ w * X := Int.mul_le_mul_of_nonneg_right (by omega) (by omega)
  have key : rl_law33_QualityMeets_k2 q cs ⟨X - S, 0, S⟩ (decide (w * X ≤ 1000 * S)) false = some true := by
    unfold rl_law33_QualityMeets_k2
    rw [if_neg (by decide), precision_eq hs.1 hs.2 (by omega)]
    by_cases hn : cs.length = 0
    · have hX0 : X = 0 := by rw [← hX, hn]; rfl
      rw [if_pos hX0, bind2_pure, if_pos (by simp [hn]), if_pos (by decide)]
      unfold rl_law33_QualityMeets_k3
      rw [hX0, Int.mul_zero, decide_eq_true (by omega)]
    · rw [if_neg (by omega), bind2_pure, if_neg (by simp only [beq_iff_eq]; omega), hw, ref_of_eq (by omega) (by decide), ofS, if_neg (by omega), if_neg (by decide), bind2_pure]
      have b64_ : bp 2 ≤ bp 64 := bp_le (by decide)
      have b2 : bp 2 = 18446744073709551616 := by decide
      have hw2 : w * X ≤ 1000 * 4398046511104 := Int.mul_le_mul (by omega) (by omega) (by omega) (by decide)
      rw [fcmpR hs.1 (by omega) w0 (by decide) (by omega) (by omega) (by omega) (by omega) (by omega) (by omega), bind2_pure, if_pos (by decide), if_pos (by decide), if_pos (by decide)]
      unfold rl_law33_QualityMeets_k4
      have ho : decide (ordI (S * 1000) (w * X) ≥ 0) = decide (w * X ≤ 1000 * S) := by
        apply decide_eq_decide.2
        unfold ordI
        split
        · constructor <;> intro h <;> omega
        · split <;> constructor <;> intro h <;> omega
      rw [ho]
      simp
  by_cases hy : w * X ≤ 1000 * S
  · rw [if_pos (by simpa using hy), decide_eq_true (show v * X ≤ 1000 * S by omega)]
    rw [decide_eq_true hy] at key
    exact key
  · rw [if_neg (by simpa using hy)]
    rw [decide_eq_false hy] at key
    exact key
end Go.Proofs.Ytilpgjoidgfbiaa
