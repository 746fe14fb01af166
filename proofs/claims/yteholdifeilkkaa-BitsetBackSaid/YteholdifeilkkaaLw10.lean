/- The plain law of BitsetBack. -/
import Derived.Test.YteholdifeilkkaaPi
import Derived.Test.YteholdifeilkkaaGE0
import Derived.Test.YteholdifeilkkaaGL10
namespace Go.Proofs.Yteholdifeilkkaa
open Vm
theorem awake09 : rl_law09_awake = some true := rl_law09_awake_le 100 _ (by kernel_rfl)
theorem cmpB_words {a b : S_api_Bits} (h1 : a.Length = b.Length) (h2 : a.Words.length = b.Words.length) : cmpB a b = cmpL a.Words b.Words := by
  unfold cmpB
  rw [if_neg (by simp [ordI_zero, h1]), if_neg (by simp [ordI_zero, h2])]
theorem back_k5 {a b : S_api_Bits} (hV : VB a) (hU : VB b) (hL : a.Length = b.Length) (a3 : W64 a.Words) (b3 : W64 b.Words) : rl_law09_BitsetBack_k5 a b.Length b.Words = some true := by
  have hl : a.Words.length = b.Words.length := by have := hV.2; have := hU.2; omega
  have la := hV.len
  have lb := hU.len
  have hlen : 4 * ((hexOf a.Words).length : Int) = a.Length := by rw [hexOf_length]; have := hV.2; have := hV.1.2.2; omega
  have hc := cmpL_range a.Words b.Words
  have hz := @cmpL_zero a.Words b.Words
  have an := cmpL_anti a.Words b.Words
  have e1 := less_cmp a.Words b.Words hl a3 b3
  unfold rl_law09_BitsetBack_k5
  rw [hex_eq a3, if_pos hV, bind2_pure, hex_eq b3, if_pos hU, bind2_pure, parse_eq (hexOf_b8 _) (by rw [hexOf_length]; omega), if_pos ⟨by rw [hlen]; exact hV.1, hexOf_allD _⟩, bind2_pure, wordsAt_hex a3, hlen]
  rw [bcompare_eq (by omega), bind1_pure, if_pos (by simp), if_pos (by simp), if_pos (by simp), same_eq (by simp only; omega), bind1_pure, decide_eq_true (by rw [cmpB_zero]), if_pos rfl, bcompare_eq (by simp only; omega), bind1_pure]
  rw [str_less, str_eq, bytesL_strOf (hexOf_b8 _), bytesL_strOf (hexOf_b8 _), e1]
  have hx : (strOf (hexOf a.Words) = strOf (hexOf b.Words)) ↔ cmpL a.Words b.Words = 0 := by
    rw [hz]
    constructor
    · intro h
      rw [strOf_inj (hexOf_b8 _) (hexOf_b8 _)] at h
      have k1 := wordsAt_hex a3
      have k2 := wordsAt_hex b3
      rw [h, k2] at k1
      exact k1.symm
    · intro h; rw [h]
  rw [show (decide (strOf (hexOf a.Words) = strOf (hexOf b.Words))) = decide (cmpL a.Words b.Words = 0) from decide_eq_decide.2 hx]
  rw [cmpB_words hL hl, cmpB_words hL.symm hl.symm, an]
  generalize cmpL a.Words b.Words = c at *
  rcases hc with rfl | rfl | rfl <;> decide
theorem back_law (p : List Int) : rl_law09_BitsetBack p = some true := by
  unfold rl_law09_BitsetBack
  rw [awake09]
  simp only [Option.bind_some, Bool.not_true, Bool.false_eq_true, if_false, rl_make_Few]
  by_cases hp : p.length ≤ 400
  rotate_left
  · rw [decide_eq_false (by omega : ¬ ((p.length : Nat) : Int) ≤ 400)]
    simp only [Bool.not_false, rl_law09_BitsetBack_k4, if_true, awake09, Option.bind_some]
  rw [decide_eq_true (by omega : ((p.length : Nat) : Int) ≤ 400)]
  simp only [Bool.not_true, rl_law09_BitsetBack_k4, Bool.false_eq_true, if_false]
  obtain ⟨d, he, hd⟩ := new_yes hp
  rw [he]; clear he; simp only [Option.bind_some]
  obtain ⟨v, d1, he, v0, v1, hd1⟩ := next_yes hd (n := 8) (by decide) (by decide)
  rw [he]; clear he; first | rw [bind2_pure] | rw [bind3_pure] | rw [bind4_pure] | rw [bind1_pure]
  obtain ⟨k, rfl⟩ := Int.eq_ofNat_of_zero_le v0
  rw [wi64 (n := 1 + (k : Int)) (by omega) (by omega), wi64 (by omega) (by omega)]
  obtain ⟨a, d2, he, a1, a2, a3, hd2⟩ := bits_yes hd1 (n := 64 * (1 + (k : Int))) (by omega) (by omega)
  rw [he]; clear he; first | rw [bind2_pure] | rw [bind3_pure] | rw [bind4_pure] | rw [bind1_pure]
  obtain ⟨b, d3, he, b1, b2, b3, hd3⟩ := bits_yes hd2 (n := 64 * (1 + (k : Int))) (by omega) (by omega)
  rw [he]; clear he; first | rw [bind2_pure] | rw [bind3_pure] | rw [bind4_pure] | rw [bind1_pure]
  have hV : VB a := ⟨⟨by omega, by omega, by omega⟩, by rw [a2, a1]⟩
  have hU : VB b := ⟨⟨by omega, by omega, by omega⟩, by rw [b2, b1]⟩
  unfold rl_make_Deck_One
  obtain ⟨u, d4, he, u0, u1, hd4⟩ := next_yes hd3 (n := 3) (by decide) (by decide)
  rw [he]; clear he; first | rw [bind2_pure] | rw [bind3_pure] | rw [bind4_pure] | rw [bind1_pure]
  rw [bind2_pure]
  by_cases c : (u == 0) = true
  · rw [if_pos c]
    unfold rl_ref09_Copy
    rw [if_pos (by omega), bind1_pure]
    simp only [List.nil_append]
    rw [wi64 (by omega) (by omega), if_pos (by omega), if_pos (by omega)]
    obtain ⟨t, d5, he, t0, t1, hd5⟩ := next_yes hd4 (n := 2) (by decide) (by decide)
    rw [he]; clear he; first | rw [bind2_pure] | rw [bind3_pure] | rw [bind4_pure] | rw [bind1_pure]
    generalize hyd : ixor .u64 (a.Words.getD (0 + (((a.Words.length : Nat) : Int) - 1).toNat) 0) (IntKind.u64.wrap t) = y at *
    have hy : 0 ≤ y ∧ y < 18446744073709551616 := by rw [← hyd]; unfold ixor; exact ⟨wu64_lo _, wu64_hi _⟩
    refine back_k5 (b := ⟨a.Length, a.Words.set (0 + (((a.Words.length : Nat) : Int) - 1).toNat) y⟩) hV ⟨hV.1, ?_⟩ rfl a3 ?_
    · simp only [List.length_set]; exact hV.2
    · intro w hw
      rcases List.mem_or_eq_of_mem_set hw with hw | rfl
      · exact a3 w hw
      · exact hy
  · rw [if_neg c]
    exact back_k5 hV hU (by rw [a1, b1]) a3 b3
end Go.Proofs.Yteholdifeilkkaa
