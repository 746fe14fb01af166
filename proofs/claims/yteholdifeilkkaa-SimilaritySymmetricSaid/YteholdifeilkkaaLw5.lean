/- The plain law of SimilaritySymmetric. -/
import Derived.Test.YteholdifeilkkaaPd
import Derived.Test.YteholdifeilkkaaGE0
import Derived.Test.YteholdifeilkkaaGL5
namespace Go.Proofs.Yteholdifeilkkaa
open Vm
theorem awake17 : rl_law17_awake = some true := rl_law17_awake_le 100 _ (by kernel_rfl)
theorem symmetric_law (p : List Int) : rl_law17_SimilaritySymmetric p = some true := by
  unfold rl_law17_SimilaritySymmetric
  rw [awake17]
  simp only [Option.bind_some, Bool.not_true, Bool.false_eq_true, if_false, rl_make_Few]
  by_cases hp : p.length ≤ 400
  rotate_left
  · rw [decide_eq_false (by omega : ¬ ((p.length : Nat) : Int) ≤ 400)]
    simp only [Bool.not_false, rl_law17_SimilaritySymmetric_k4, if_true, awake17, Option.bind_some]
  rw [decide_eq_true (by omega : ((p.length : Nat) : Int) ≤ 400)]
  simp only [Bool.not_true, rl_law17_SimilaritySymmetric_k4, Bool.false_eq_true, if_false]
  obtain ⟨d, he, hd⟩ := new_yes hp
  rw [he]; clear he; simp only [Option.bind_some]
  obtain ⟨v, d1, he, v0, v1, hd1⟩ := next_yes hd (n := 5) (by decide) (by decide)
  rw [he]; clear he; first | rw [bind2_pure] | rw [bind3_pure] | rw [bind4_pure] | rw [bind1_pure]
  obtain ⟨k, rfl⟩ := Int.eq_ofNat_of_zero_le v0
  rw [wi64 (by omega) (by omega), show (1 + (k : Int)) = ((1 + k : Nat) : Int) by omega]
  obtain ⟨x, d2, he, x1, x2, hd2⟩ := encoded_yes hd1 (n := 1 + k) (by omega)
  rw [he]; clear he; first | rw [bind2_pure] | rw [bind3_pure] | rw [bind4_pure] | rw [bind1_pure]
  obtain ⟨y, d3, he, y1, y2, hd3⟩ := encoded_yes hd2 (n := 1 + k) (by omega)
  rw [he]; clear he; first | rw [bind2_pure] | rw [bind3_pure] | rw [bind4_pure] | rw [bind1_pure]
  have wx : WF x.Fields := fun b hb => (x2 b hb).w64
  have wy : WF y.Fields := fun b hb => (y2 b hb).w64
  rw [compare_eq wx wy (by omega), if_pos ⟨by omega, by omega, by omega⟩, bind2_pure]
  rw [compare_eq wy wx (by omega), if_pos ⟨by omega, by omega, by omega⟩, bind2_pure]
  rw [compare_eq wx wx (by omega), if_pos ⟨by omega, by omega, by omega⟩, bind2_pure]
  have hsym : List.zipWith simB y.Fields x.Fields = List.zipWith simB x.Fields y.Fields := by
    rw [List.zipWith_comm]; congr 1; funext a b; exact simB_comm _ _
  rw [hsym, if_neg (by simp), ints_eq (by simp; omega), Option.bind_some, if_neg (by simp), if_neg (by simp; try omega)]
  unfold rl_law17_SimilaritySymmetric_k8
  rw [if_neg (by simp; try omega)]
  have hL : loop (fun v : Int => rl_law17_SimilaritySymmetric_l96 k x y (List.zipWith simB x.Fields y.Fields) (List.zipWith simB x.Fields x.Fields) v) 0 = some (.inl ()) := by
    refine loop_for (fun i => (i : Int)) (1 + k) _ (fun i hi => ?_) ?_ rfl
    · have hx := x2 x.Fields[i] (List.getElem_mem (by omega))
      have hy := y2 y.Fields[i] (List.getElem_mem (by omega))
      have f1 := simB_enc hx hy
      have f2 := simB_own hx
      have g1 : (List.zipWith simB x.Fields y.Fields).getD i 0 = simB x.Fields[i] y.Fields[i] := by
        rw [List.getD_eq_getElem?_getD, List.getElem?_eq_getElem (by simp; omega), Option.getD_some, List.getElem_zipWith]
      have g2 : (List.zipWith simB x.Fields x.Fields).getD i 0 = simB x.Fields[i] x.Fields[i] := by
        rw [List.getD_eq_getElem?_getD, List.getElem?_eq_getElem (by simp; omega), Option.getD_some, List.getElem_zipWith]
      have g3 : x.Fields.getD i dS_api_Bits = x.Fields[i] := by rw [List.getD_eq_getElem?_getD, List.getElem?_eq_getElem (by omega), Option.getD_some]
      have g4 : y.Fields.getD i dS_api_Bits = y.Fields[i] := by rw [List.getD_eq_getElem?_getD, List.getElem?_eq_getElem (by omega), Option.getD_some]
      have g5 : (List.zipWith simB x.Fields y.Fields).length = 1 + k := by simp; omega
      have g6 : (List.zipWith simB x.Fields x.Fields).length = 1 + k := by simp; omega
      unfold rl_law17_SimilaritySymmetric_l96 rl_law17_SimilaritySymmetric_k106 rl_law17_SimilaritySymmetric_k108
      simp only [Int.toNat_natCast, Nat.zero_add, g1, g2, g3, g4, g5, g6]
      rw [wi64 (n := 1 + (k : Int)) (by omega) (by omega)]
      have g7 := wi64 (n := (i : Int) + 1) (by omega) (by omega)
      generalize List.zipWith simB x.Fields y.Fields = A at *
      generalize List.zipWith simB x.Fields x.Fields = B at *
      generalize x.Fields[i] = X at *
      generalize y.Fields[i] = Y at *
      generalize simB X Y = a at *
      generalize simB X X = b at *
      grind
    · unfold rl_law17_SimilaritySymmetric_l96
      rw [wi64 (by omega) (by omega), if_neg (by simp)]
  rw [hL, bindE_l, if_neg (by simp [x1, y1]), if_neg (by simp [x1])]
  rfl
end Go.Proofs.Yteholdifeilkkaa
