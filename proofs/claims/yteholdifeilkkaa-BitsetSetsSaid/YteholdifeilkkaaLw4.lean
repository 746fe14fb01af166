/- The plain law of BitsetSets. -/
import Derived.Test.YteholdifeilkkaaPf
import Derived.Test.YteholdifeilkkaaGE0
import Derived.Test.YteholdifeilkkaaGL4
namespace Go.Proofs.Yteholdifeilkkaa
open Vm
theorem awake09 : rl_law09_awake = some true := rl_law09_awake_le 100 _ (by kernel_rfl)
theorem sets_law (p : List Int) : rl_law09_BitsetSets p = some true := by
  unfold rl_law09_BitsetSets
  rw [awake09]
  simp only [Option.bind_some, Bool.not_true, Bool.false_eq_true, if_false, rl_make_Few]
  by_cases hp : p.length ≤ 400
  rotate_left
  · rw [decide_eq_false (by omega : ¬ ((p.length : Nat) : Int) ≤ 400)]
    simp only [Bool.not_false, rl_law09_BitsetSets_k4, if_true, awake09, Option.bind_some]
  rw [decide_eq_true (by omega : ((p.length : Nat) : Int) ≤ 400)]
  simp only [Bool.not_true, rl_law09_BitsetSets_k4, Bool.false_eq_true, if_false]
  obtain ⟨d, he, hd⟩ := new_yes hp
  rw [he]; clear he; simp only [Option.bind_some]
  obtain ⟨v, d1, he, v0, v1, hd1⟩ := next_yes hd (n := 4) (by decide) (by decide)
  rw [he]; clear he; first | rw [bind2_pure] | rw [bind3_pure] | rw [bind4_pure] | rw [bind1_pure]
  obtain ⟨k, rfl⟩ := Int.eq_ofNat_of_zero_le v0
  rw [wi64 (n := 1 + (k : Int)) (by omega) (by omega), wi64 (by omega) (by omega)]
  obtain ⟨n, hn⟩ : ∃ n : Nat, (n : Int) = 64 * (1 + (k : Int)) := ⟨64 * (1 + k), by omega⟩
  rw [← hn]
  obtain ⟨a, d2, he, a1, a2, a3, hd2⟩ := bits_yes hd1 (n := n) (by omega) (by omega)
  rw [he]; clear he; first | rw [bind2_pure] | rw [bind3_pure] | rw [bind4_pure] | rw [bind1_pure]
  obtain ⟨i, d3, he, i0, i1, hd3⟩ := next_yes hd2 (n := n) (by omega) (by omega)
  rw [he]; clear he; first | rw [bind2_pure] | rw [bind3_pure] | rw [bind4_pure] | rw [bind1_pure]
  obtain ⟨j, rfl⟩ := Int.eq_ofNat_of_zero_le i0
  have hV : VB a := ⟨⟨by omega, by omega, by omega⟩, by rw [a2, a1]⟩
  have hV2 := hV.set j
  have hW2 := a3.setB j
  have hj : j / 64 < a.Words.length := by omega
  have hn64 : n = 64 * a.Words.length := by omega
  have hb := fun q => bitAt_set (ws := a.Words) a3 (i := j) (k := q) hj
  have hc1 := cnt_all hn64
  have hc2 := cnt_all (ws := setB a.Words j) (n := n) (by rw [setB_length]; exact hn64)
  have hmono := cnt_mono (a := a.Words) (b := setB a.Words j) (n := n) (fun q _ h => by rw [hb, h]; rfl)
  rw [set_eq (by omega), if_pos hV, if_pos (by omega), Int.toNat_natCast, bind2_pure]
  have hs2 := set_eq (b := ⟨a.Length, setB a.Words j⟩) (by simp only [setB_length]; omega) (j : Int)
  rw [if_pos hV2, if_pos (by simp only; omega), Int.toNat_natCast] at hs2
  simp only [setB_twice a3 hj] at hs2
  rw [hs2, bind2_pure, same_eq (by simp only [setB_length]; omega), Option.bind_some, has_eq (by exact hW2), Option.bind_some, count_eq (by exact hW2), count_eq a3, Option.bind_some, Option.bind_some, if_pos hV, if_pos hV2]
  rw [if_neg (by simp), if_neg (by simp), if_neg (by simp [cmpB_zero]), if_neg (by simp only [Int.toNat_natCast, hb]; simp; exact ⟨hV2, by omega⟩)]
  simp only
  rw [decide_eq_false (by omega)]
  unfold rl_law09_BitsetSets_k8
  rw [if_neg (by simp)]
  have hL : loop (fun v : Int × Int => rl_law09_BitsetSets_l75 k a j ⟨a.Length, setB a.Words j⟩ v.1 v.2) (0, 0) = some (.inl ((cnt (setB a.Words j) n : Nat) : Int)) := by
    refine loop_for (fun i => (((cnt (setB a.Words j) i : Nat) : Int), (i : Int))) n _ (fun q hq => ?_) ?_ rfl
    · have hq1 := has_eq a3 (q : Int)
      have hq2 := has_eq (b := ⟨a.Length, setB a.Words j⟩) hW2 (q : Int)
      rw [decide_eq_true (by exact ⟨hV, by omega, by omega⟩), Bool.true_and, Int.toNat_natCast] at hq1
      rw [decide_eq_true (by exact ⟨hV2, by omega, by simp only; omega⟩), Bool.true_and, Int.toNat_natCast] at hq2
      have hcl := cnt_le (setB a.Words j) q
      have hb' := hb q
      simp only at hq2
      simp only [rl_law09_BitsetSets_l75, rl_law09_BitsetSets_k84, rl_law09_BitsetSets_k80]
      rw [wi64 (n := 1 + (k : Int)) (by omega) (by omega), wi64 (n := 64 * (1 + (k : Int))) (by omega) (by omega), ← hn, if_pos (by simp; omega), hq1, hq2]
      simp only [Option.bind_some, cnt]
      rw [wi64 (by omega) (by omega), wi64 (by omega) (by omega)]
      by_cases e : q = j
      · subst e
        rw [if_neg (by simp)]
        rw [if_neg (by simp)]
        split <;> simp
      · have hbe : bitAt (setB a.Words j) q = bitAt a.Words q := by rw [hb', decide_eq_false (by omega), Bool.or_false]
        rw [if_pos (by simp; omega), hbe]
        rw [if_neg (by simp)]
        split <;> simp
    · simp only [rl_law09_BitsetSets_l75]
      rw [wi64 (n := 1 + (k : Int)) (by omega) (by omega), wi64 (n := 64 * (1 + (k : Int))) (by omega) (by omega), ← hn, if_neg (by simp)]
  rw [hL, bindE_l]
  unfold rl_law09_BitsetSets_a85
  rw [count_eq (by exact hW2), if_pos hV2, Option.bind_some, hc2]
  simp
end Go.Proofs.Yteholdifeilkkaa
