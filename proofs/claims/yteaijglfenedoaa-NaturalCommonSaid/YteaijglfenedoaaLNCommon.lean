/- The plain law of NaturalCommon. -/
import Derived.Test.YteaijglfenedoaaQl
import Derived.Test.YteaijglfenedoaaGE0
import Derived.Test.YteaijglfenedoaaGL4
namespace Go.Proofs.Yteaijglfenedoaa
set_option linter.unusedVariables false
open Vm
theorem awake10 : rl_law10_awake = some true := rl_law10_awake_le 200 _ (by kernel_rfl)
theorem common_law (p : List Int) : rl_law10_NaturalCommon p = some true := by
  unfold rl_law10_NaturalCommon
  rw [awake10]
  simp only [Option.bind_some, Bool.not_true, Bool.false_eq_true, if_false, rl_make_Few]
  by_cases hp : p.length ≤ 400
  rotate_left
  · rw [decide_eq_false (by omega : ¬ ((p.length : Nat) : Int) ≤ 400)]
    simp only [Bool.not_false, rl_law10_NaturalCommon_k4, if_true, awake10, Option.bind_some]
  rw [decide_eq_true (by omega : ((p.length : Nat) : Int) ≤ 400)]
  simp only [Bool.not_true, rl_law10_NaturalCommon_k4, Bool.false_eq_true, if_false]
  obtain ⟨d, he, hd⟩ := new_yes hp
  rw [he]; clear he; simp only [Option.bind_some]
  obtain ⟨a, d1, he, a0, a1, hd1⟩ := natural_yes hd (n := 3) 3 rfl (by decide)
  rw [he]; clear he; first | rw [bind2_pure] | rw [bind3_pure] | rw [bind4_pure] | rw [bind1_pure]
  obtain ⟨b, d2, he, b0, b1, hd2⟩ := natural_yes hd1 (n := 3) 3 rfl (by decide)
  rw [he]; clear he; first | rw [bind2_pure] | rw [bind3_pure] | rw [bind4_pure] | rw [bind1_pure]
  obtain ⟨c, d3, he, c0, c1, hd3⟩ := natural_yes hd2 (n := 2) 2 rfl (by decide)
  rw [he]; clear he; first | rw [bind2_pure] | rw [bind3_pure] | rw [bind4_pure] | rw [bind1_pure]
  have a64 := bp_lt a1 (show 3 ≤ 64 by decide)
  have b64 := bp_lt b1 (show 3 ≤ 64 by decide)
  rw [ngcd a0 b0 a64 b64, bind2_pure, if_neg (by simp)]
  have g0 := gcdI_nonneg a b
  have g1 : gcdI a b < bp 3 := by have := gcdI_le a0 b0; omega
  by_cases hg : gcdI a b = 0
  · have h : Nat.gcd a.toNat b.toNat = 0 := by unfold gcdI at hg; omega
    have ha := Nat.eq_zero_of_gcd_eq_zero_left h
    have hb := Nat.eq_zero_of_gcd_eq_zero_right h
    have ha2 : a = 0 := by omega
    have hb2 : b = 0 := by omega
    rw [hg, ha2, hb2]
    rfl
  · have hgp : 0 < gcdI a b := by omega
    have hgn : nat32 (gcdI a b) ≠ [] := fun e => hg ((nat32_nil g0).1 e)
    have hgl : (nat32 (gcdI a b)).length ≠ 0 := fun e => hgn (List.length_eq_zero_iff.1 e)
    have g64 := bp_lt g1 (show 3 ≤ 64 by decide)
    have da : a % gcdI a b = 0 := by
      apply Int.emod_eq_zero_of_dvd
      unfold gcdI
      have := Nat.gcd_dvd_left a.toNat b.toNat
      have h2 := Int.natCast_dvd_natCast.2 this
      rwa [Int.toNat_of_nonneg a0] at h2
    have db : b % gcdI a b = 0 := by
      apply Int.emod_eq_zero_of_dvd
      unfold gcdI
      have := Nat.gcd_dvd_right a.toNat b.toNat
      have h2 := Int.natCast_dvd_natCast.2 this
      rwa [Int.toNat_of_nonneg b0] at h2
    have m0 := Int.mul_nonneg a0 c0
    have n0 := Int.mul_nonneg b0 c0
    have m1 := bp_mul a0 a1 c0 c1
    have n1 := bp_mul b0 b1 c0 c1
    have y0 := Int.mul_nonneg g0 c0
    have y1 := bp_mul g0 g1 c0 c1
    have hx : gcdI (a * c) (b * c) = gcdI a b * c := by
      obtain ⟨a, rfl⟩ := Int.eq_ofNat_of_zero_le a0
      obtain ⟨b, rfl⟩ := Int.eq_ofNat_of_zero_le b0
      obtain ⟨c, rfl⟩ := Int.eq_ofNat_of_zero_le c0
      unfold gcdI
      rw [← Int.natCast_mul, ← Int.natCast_mul, ← Int.natCast_mul]
      simp only [Int.toNat_natCast]
      rw [Nat.gcd_mul_right]
    rw [if_neg (by simp only [beq_iff_eq]; omega), ndivmod a0 hgp a64 g64, bind3_pure, ndivmod b0 hgp b64 g64, bind3_pure, nmul a0 c0 a1 c1 (by decide), bind2_pure, nmul b0 c0 b1 c1 (by decide), bind2_pure, ngcd m0 n0 (bp_lt m1 (by decide)) (bp_lt n1 (by decide)), bind2_pure, nmul g0 c0 g1 c1 (by decide), bind2_pure, da, db, hx]
    simp only [beq_self_eq_true, if_true]
    rw [show nat32 0 = [] from rfl]
    simp only [List.length_nil]
    rw [if_pos (by simp), if_pos (by simp), nsame y0 y0 (bp_lt y1 (by decide)), bind1_pure]
    simp
    rfl
end Go.Proofs.Yteaijglfenedoaa
