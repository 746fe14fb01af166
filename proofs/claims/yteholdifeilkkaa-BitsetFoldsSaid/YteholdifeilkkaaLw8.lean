/- The plain law of BitsetFolds. -/
import Derived.Test.YteholdifeilkkaaPf
import Derived.Test.YteholdifeilkkaaGE0
import Derived.Test.YteholdifeilkkaaGL8
namespace Go.Proofs.Yteholdifeilkkaa
open Vm
theorem awake09 : rl_law09_awake = some true := rl_law09_awake_le 100 _ (by kernel_rfl)
theorem fold_eq (b : S_api_Bits) : bitset_Fold b = some (if VB b then (if b.Length % 128 = 0 then (⟨b.Length / 2, List.zipWith (ixor .u64) (b.Words.take (b.Words.length / 2)) (b.Words.drop (b.Words.length / 2))⟩, 0) else (EB, 2)) else (EB, 8)) := by
  unfold bitset_Fold
  rw [valid_eq, bind1_pure]
  by_cases h : VB b
  · have hl := h.1.1
    have hh := h.1.2.1
    have hm := h.1.2.2
    have hw := h.2
    rw [decide_eq_true h, if_neg (by simp), if_pos h, tmod_nn (by omega)]
    by_cases h2 : b.Length % 128 = 0
    · rw [if_neg (by simpa using h2), if_pos h2, tdiv_nn (by omega), wi64 (n := ((b.Words.length : Nat) : Int) / 2) (by omega) (by omega), if_pos (by omega), wi64 (by omega) (by omega)]
      rw [show (((b.Words.length : Nat) : Int) / 2).toNat = b.Words.length / 2 by omega, if_pos (by omega)]
      have e : ((b.Words.drop (b.Words.length / 2)).take (b.Words.length - b.Words.length / 2)) = b.Words.drop (b.Words.length / 2) := List.take_of_length_le (by simp)
      rw [e]
      have v1 : VB ⟨((b.Words.length : Nat) : Int) / 2 * 64, b.Words.take (b.Words.length / 2)⟩ := ⟨⟨by simp only; omega, by simp only; omega, by simp only; omega⟩, by simp only [List.length_take]; omega⟩
      have v2 : VB ⟨((b.Words.length : Nat) : Int) / 2 * 64, b.Words.drop (b.Words.length / 2)⟩ := ⟨⟨by simp only; omega, by simp only; omega, by simp only; omega⟩, by simp only [List.length_drop]; omega⟩
      rw [xor_eq, if_pos ⟨v1, v2, rfl⟩, bind2_pure]
      simp only
      rw [show ((b.Words.length : Nat) : Int) / 2 * 64 = b.Length / 2 by omega]
    · rw [if_pos (by simpa using h2), if_neg h2]
      rfl
  · rw [decide_eq_false h, if_pos (by simp), if_neg h]
    rfl
theorem bitAt_fold {ws : List Int} (hw : W64 ws) {h k : Nat} (hl : ws.length = 2 * h) (hk : k < 64 * h) : bitAt (List.zipWith (ixor .u64) (ws.take h) (ws.drop h)) k = (bitAt ws k != bitAt ws (k + 64 * h)) := by
  unfold bitAt
  have hq : k / 64 < h := by omega
  obtain ⟨x, hx, e1⟩ := W64.nat (hw.get (i := k / 64) (by omega))
  obtain ⟨y, hy, e2⟩ := W64.nat (hw.get (i := h + k / 64) (by omega))
  have g : (List.zipWith (ixor .u64) (ws.take h) (ws.drop h)).getD (k / 64) 0 = ixor .u64 (ws.getD (k / 64) 0) (ws.getD (h + k / 64) 0) := by
    simp only [List.getD_eq_getElem?_getD]
    rw [List.getElem?_eq_getElem (by simp; omega), List.getElem_zipWith, List.getElem_take, List.getElem_drop, List.getElem?_eq_getElem (by omega), List.getElem?_eq_getElem (by omega)]
    rfl
  rw [g, show (k + 64 * h) / 64 = h + k / 64 by omega, show (k + 64 * h) % 64 = k % 64 by omega, e1, e2, ixor64 hx hy]
  simp only [Int.toNat_natCast, Nat.testBit_xor]
theorem folds_law (p : List Int) : rl_law09_BitsetFolds p = some true := by
  unfold rl_law09_BitsetFolds
  rw [awake09]
  simp only [Option.bind_some, Bool.not_true, Bool.false_eq_true, if_false, rl_make_Few]
  by_cases hp : p.length ≤ 400
  rotate_left
  · rw [decide_eq_false (by omega : ¬ ((p.length : Nat) : Int) ≤ 400)]
    simp only [Bool.not_false, rl_law09_BitsetFolds_k4, if_true, awake09, Option.bind_some]
  rw [decide_eq_true (by omega : ((p.length : Nat) : Int) ≤ 400)]
  simp only [Bool.not_true, rl_law09_BitsetFolds_k4, Bool.false_eq_true, if_false]
  obtain ⟨d, he, hd⟩ := new_yes hp
  rw [he]; clear he; simp only [Option.bind_some]
  obtain ⟨v, d1, he, v0, v1, hd1⟩ := next_yes hd (n := 4) (by decide) (by decide)
  rw [he]; clear he; first | rw [bind2_pure] | rw [bind3_pure] | rw [bind4_pure] | rw [bind1_pure]
  obtain ⟨k, rfl⟩ := Int.eq_ofNat_of_zero_le v0
  have w1 : IntKind.i64.wrap (1 + (k : Int)) = 1 + (k : Int) := wi64 (by omega) (by omega)
  have w2 : IntKind.i64.wrap (128 * (1 + (k : Int))) = 128 * (1 + (k : Int)) := wi64 (by omega) (by omega)
  have w3 : IntKind.i64.wrap ((128 * (1 + (k : Int))).tdiv 2) = ((64 * (1 + k) : Nat) : Int) := by rw [tdiv_nn (by omega), wi64 (by omega) (by omega)]; omega
  rw [w1, w2]
  obtain ⟨a, d2, he, a1, a2, a3, hd2⟩ := bits_yes hd1 (n := 128 * (1 + (k : Int))) (by omega) (by omega)
  rw [he]; clear he; first | rw [bind2_pure] | rw [bind3_pure] | rw [bind4_pure] | rw [bind1_pure]
  have hV : VB a := ⟨⟨by omega, by omega, by omega⟩, by rw [a2, a1]⟩
  have hl : a.Words.length = 2 * (1 + k) := by omega
  rw [fold_eq, if_pos hV, if_pos (by omega), bind2_pure, if_neg (by simp), w3]
  unfold rl_law09_BitsetFolds_k8
  rw [show a.Words.length / 2 = 1 + k by omega, show a.Length / 2 = ((64 * (1 + k) : Nat) : Int) by omega]
  have hF : VB ⟨((64 * (1 + k) : Nat) : Int), List.zipWith (ixor .u64) (a.Words.take (1 + k)) (a.Words.drop (1 + k))⟩ := ⟨⟨by simp only; omega, by simp only; omega, by simp only; omega⟩, by simp only [List.length_zipWith, List.length_take, List.length_drop]; omega⟩
  rw [if_neg (by simp)]
  have hL : loop (fun v : Int => rl_law09_BitsetFolds_l12 k a ⟨((64 * (1 + k) : Nat) : Int), List.zipWith (ixor .u64) (a.Words.take (1 + k)) (a.Words.drop (1 + k))⟩ v) 0 = some (.inl ()) := by
    refine loop_for (fun i => (i : Int)) (64 * (1 + k)) _ (fun i hi => ?_) ?_ rfl
    · have q1 := has_eq (b := ⟨((64 * (1 + k) : Nat) : Int), List.zipWith (ixor .u64) (a.Words.take (1 + k)) (a.Words.drop (1 + k))⟩) (by exact W64.xor) (i : Int)
      have q2 := has_eq a3 (i : Int)
      have q3 := has_eq a3 ((i : Int) + ((64 * (1 + k) : Nat) : Int))
      rw [decide_eq_true (by exact ⟨hF, by omega, by simp only; omega⟩), Bool.true_and, Int.toNat_natCast] at q1
      rw [decide_eq_true (by exact ⟨hV, by omega, by omega⟩), Bool.true_and, Int.toNat_natCast] at q2
      rw [decide_eq_true (by exact ⟨hV, by omega, by omega⟩), Bool.true_and, show ((i : Int) + ((64 * (1 + k) : Nat) : Int)).toNat = i + 64 * (1 + k) by omega] at q3
      simp only at q1
      rw [bitAt_fold a3 hl hi] at q1
      simp only [rl_law09_BitsetFolds_l12, w1, w2, w3]
      rw [if_pos (by simp only [decide_eq_true_eq]; omega), q1, bind1_pure, q2, bind1_pure, wi64 (n := (i : Int) + _) (by omega) (by omega), q3, bind1_pure, if_neg (by simp [bne]), wi64 (by omega) (by omega)]
      rfl
    · simp only [rl_law09_BitsetFolds_l12, w1, w2, w3]
      rw [if_neg (by simp only [decide_eq_true_eq]; omega)]
  rw [hL, bindE_l]
  unfold rl_law09_BitsetFolds_a13
  obtain ⟨b, d3, he, b1, b2, b3, hd3⟩ := bits_yes hd2 (n := 64) (by decide) (by decide)
  rw [he]; clear he; first | rw [bind2_pure] | rw [bind3_pure] | rw [bind4_pure] | rw [bind1_pure]
  have hU : VB b := ⟨⟨by omega, by omega, by omega⟩, by rw [b2, b1]⟩
  rw [fold_eq, if_pos hU, if_neg (by omega), bind2_pure]
  rfl
end Go.Proofs.Yteholdifeilkkaa
