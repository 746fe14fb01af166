/- The plain law of WeightModels. -/
import Derived.Test.YtafmpnilgknfhaaWf
import Derived.Test.YtafmpnilgknfhaaGL6
namespace Go.Proofs.Ytafmpnilgknfhaa
open Vm
set_option linter.unusedVariables false
theorem models_law (p : List Int) : rl_law25_WeightModels p = some true := by
  unfold rl_law25_WeightModels
  rw [awake25]
  simp only [Option.bind_some, Bool.not_true, Bool.false_eq_true, if_false, rl_make_Few]
  by_cases hp : p.length ≤ 400
  rotate_left
  · rw [decide_eq_false (by omega : ¬ ((p.length : Nat) : Int) ≤ 400)]
    simp only [Bool.not_false, rl_law25_WeightModels_k1, if_true, awake25, Option.bind_some]
  rw [decide_eq_true (by omega : ((p.length : Nat) : Int) ≤ 400)]
  simp only [Bool.not_true, rl_law25_WeightModels_k1, Bool.false_eq_true, if_false]
  obtain ⟨d, he, hd⟩ := new_yes hp
  rw [he]; clear he; simp only [Option.bind_some]
  obtain ⟨k, d1, he, k0, k1, hd1⟩ := next_yes hd (n := 4) (by decide) (by decide)
  rw [he]; clear he; first | rw [bind2_pure] | rw [bind3_pure] | rw [bind4_pure] | rw [bind1_pure]
  obtain ⟨n, hn⟩ : ∃ n : Nat, 1 + k = n := ⟨(1 + k).toNat, by omega⟩
  rw [wi64 (n := 1 + k) (by omega) (by omega), hn]
  obtain ⟨m, d2, he, ml, mv, hd2⟩ := model_yes hd1 (n := n) (by omega) (by omega)
  rw [he]; clear he; first | rw [bind2_pure] | rw [bind3_pure] | rw [bind4_pure] | rw [bind1_pure]
  obtain ⟨w, ew, wv, wl, w1, w2⟩ := of_yes mv
  rw [ew, bind2_pure, if_neg (by decide), weight_check_eq, if_pos wv, bind1_pure, if_neg (by decide), wl]
  unfold rl_law25_WeightModels_k2
  rw [if_neg (by simp)]
  have hp := mv.2.2.2.1
  have hL : loop (fun v : Int => rl_law25_WeightModels_l3 m w v) 0 = some (.inl ()) := by
    refine loop_for (fun i => (i : Int)) n _ (fun i hi => ?_) ?_ rfl
    · have e1 := w2 i (by omega)
      have l1 := mv.1
      have l2 := wv.1
      simp only [rl_law25_WeightModels_l3, Int.toNat_natCast, Nat.zero_add]
      rw [if_pos (by simp; omega), if_pos (by omega), if_pos (by omega), if_pos (by omega), if_pos (by omega), show decide (w.Agree.getD i 0 ≥ 0) = decide (m.Match.getD i 0 ≥ m.Random.getD i 0) from decide_eq_decide.2 e1.1, show decide (w.Differ.getD i 0 ≥ 0) = decide (m.Match.getD i 0 ≤ m.Random.getD i 0) from decide_eq_decide.2 e1.2, beq_self_eq_true, beq_self_eq_true, if_neg (by decide), if_pos (by omega)]
      unfold rl_law25_WeightModels_k4
      rw [if_neg (by decide), wi64 (by omega) (by omega)]
      rfl
    · simp only [rl_law25_WeightModels_l3]
      rw [if_neg (by simp; omega)]
  rw [hL, bindE_l]
  unfold rl_law25_WeightModels_a5
  unfold prob at hp
  rw [wi64 (by omega) (by omega), show decide (w.Prior ≥ 0) = decide (m.Prior ≥ 65536 - m.Prior) from decide_eq_decide.2 w1, beq_self_eq_true]
end Go.Proofs.Ytafmpnilgknfhaa
