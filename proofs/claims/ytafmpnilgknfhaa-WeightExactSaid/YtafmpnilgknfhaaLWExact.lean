/- The plain law of WeightExact. -/
import Derived.Test.YtafmpnilgknfhaaWg
import Derived.Test.YtafmpnilgknfhaaGL8
namespace Go.Proofs.Ytafmpnilgknfhaa
open Vm
set_option linter.unusedVariables false
theorem weight_score_any (w : S_api_Weights) (p : Int) : ∃ x e, weight_Score w p = some (x, e) := by
  rw [weight_score_eq]
  split <;> (try split) <;> exact ⟨_, _, rfl⟩
theorem weight_best_any (w : S_api_Weights) (p : Int) : ∃ x e, weight_Best w p = some (x, e) := by
  rw [weight_best_eq]
  split <;> (try split) <;> exact ⟨_, _, rfl⟩
theorem weight_bounds_any (w : S_api_Weights) : ∃ x y e, weight_Bounds w = some (x, y, e) := by
  rw [weight_bounds_eq]
  split <;> exact ⟨_, _, _, rfl⟩
theorem bne_selfI (x : Int) : (x != x) = false := by simp
theorem exact_l7 (p3 : S_api_Weights) (p5 : Int) (y37 y40 : S_api_Weights) (x47 y69 : Int) : loop (fun v : Int => rl_law25_WeightExact_l7 p3 p5 y37 y40 x47 y69 v) 0 = some (.inl ()) := by
  refine loop_for (fun i => (i : Int)) 4 _ (fun i hi => ?_) ?_ rfl
  · simp only [rl_law25_WeightExact_l7]
    generalize ([p3, y37, y40] : List S_api_Weights).getD (0 + x47.toNat) dS_api_Weights = w
    rw [if_pos (by simp; omega), if_pos (by omega), if_pos (by simp; omega)]
    generalize ([p5, y69, 3, 0] : List Int).getD (0 + (i : Int).toNat) 0 = p
    obtain ⟨a, e, h1⟩ := weight_score_any w p
    obtain ⟨b, f, h2⟩ := weight_best_any w p
    rw [score_same, best_same, h1, h2, bind2_pure, bind2_pure, bind2_pure, bind2_pure, bne_selfI, if_neg (by decide), bne_selfI, if_neg (by decide), bne_selfI, if_neg (by decide), bne_selfI]
    unfold rl_law25_WeightExact_k8
    rw [if_neg (by decide), wi64 (by omega) (by omega)]
    rfl
  · simp only [rl_law25_WeightExact_l7]
    rw [if_neg (by simp)]
theorem exact_l5 (p3 : S_api_Weights) (p5 : Int) (y37 y40 : S_api_Weights) {d : S_recordlinkmake_Deck} (hd : DeckOk d) : loop (fun v : Int × (List Int) × Int × Int => rl_law25_WeightExact_l5 p3 p5 y37 y40 v.1 v.2.1 v.2.2.1 v.2.2.2) (0, d.list, d.at_, d.state) = some (.inl ()) := by
  obtain ⟨t, e1, rfl⟩ := loop_inv (step := fun v : Int × (List Int) × Int × Int => rl_law25_WeightExact_l5 p3 p5 y37 y40 v.1 v.2.1 v.2.2.1 v.2.2.2) 3
    (fun i s => s.1 = (i : Int) ∧ DeckOk ⟨s.2.1, s.2.2.1, s.2.2.2⟩) (fun t => t = .inl ()) (by
    rintro i hi ⟨j, a, b, c⟩ ⟨rfl, s1⟩
    left
    simp only [rl_law25_WeightExact_l5] at s1 ⊢
    rw [if_pos (by simp; omega), if_pos (by omega), if_pos (by simp; omega)]
    generalize ([p3, y37, y40] : List S_api_Weights).getD (0 + (i : Int).toNat) dS_api_Weights = w
    obtain ⟨x, y, e, h1⟩ := weight_bounds_any w
    rw [weight_check_eq, ref25_check_eq, bind1_pure, bind1_pure, bne_selfI, if_neg (by decide), bounds_same, h1, bind3_pure, bind3_pure, bne_selfI, if_neg (by decide), bne_selfI, if_neg (by decide), bne_selfI]
    unfold rl_law25_WeightExact_k6
    rw [if_neg (by decide)]
    obtain ⟨z, d2, he, z0, z1, hd2⟩ := next_yes s1 (n := 81) (by decide) (by decide)
    rw [he]; clear he; first | rw [bind2_pure] | rw [bind3_pure] | rw [bind4_pure] | rw [bind1_pure]
    rw [exact_l7, bindE_l]
    unfold rl_law25_WeightExact_a9
    rw [wi64 (by omega) (by omega)]
    exact ⟨_, rfl, by show (i : Int) + 1 = _; omega, hd2⟩) (by
    rintro ⟨j, a, b, c⟩ ⟨rfl, s1⟩
    exact ⟨_, by simp only [rl_law25_WeightExact_l5]; rw [if_neg (by simp)], rfl⟩) (s := (0, d.list, d.at_, d.state)) ⟨rfl, hd⟩
  exact e1
theorem exact_l3 (p4 y18 : S_api_Model) : loop (fun v : Int => rl_law25_WeightExact_l3 p4 y18 v) 0 = some (.inl ()) := by
  refine loop_for (fun i => (i : Int)) 2 _ (fun i hi => ?_) ?_ rfl
  · simp only [rl_law25_WeightExact_l3]
    rw [if_pos (by simp; omega), if_pos (by omega), if_pos (by simp; omega)]
    generalize ([p4, y18] : List S_api_Model).getD (0 + (i : Int).toNat) dS_api_Model = m
    obtain ⟨w, e, h1, h2, h3⟩ := of_both m
    rw [h1, h2, bind2_pure, bind2_pure, bne_selfI, if_neg (by decide), h3, bind1_pure]
    unfold rl_law25_WeightExact_k4
    rw [if_neg (by decide), wi64 (by omega) (by omega)]
    rfl
  · simp only [rl_law25_WeightExact_l3]
    rw [if_neg (by simp)]
theorem exact_k1 (p : List Int) (hp : p.length ≤ 400) (p1 p2 : Int) (p3 : S_api_Weights) (p4 : S_api_Model) (p5 : Int) : rl_law25_WeightExact_k1 p p1 p2 p3 p4 p5 false = some true := by
  unfold rl_law25_WeightExact_k1
  rw [if_neg (by decide)]
  obtain ⟨d, he, hd⟩ := new_yes hp
  rw [he, bind1_pure]
  obtain ⟨k, d1, he, k0, k1, hd1⟩ := next_yes hd (n := 4) (by decide) (by decide)
  rw [he]; clear he; first | rw [bind2_pure] | rw [bind3_pure] | rw [bind4_pure] | rw [bind1_pure]
  obtain ⟨x, e, hx⟩ := wlog_any p1 p2
  rw [log_same, hx, bind2_pure, bind2_pure, bne_selfI, if_neg (by decide), bne_selfI]
  unfold rl_law25_WeightExact_k2
  rw [if_neg (by decide)]
  obtain ⟨n, hn⟩ : ∃ n : Nat, 1 + k = n := ⟨(1 + k).toNat, by omega⟩
  rw [wi64 (n := 1 + k) (by omega) (by omega), hn]
  obtain ⟨m, d2, he, ml, mv, hd2⟩ := model_yes hd1 (n := n) (by omega) (by omega)
  rw [he]; clear he; first | rw [bind2_pure] | rw [bind3_pure] | rw [bind4_pure] | rw [bind1_pure]
  rw [exact_l3, bindE_l]
  unfold rl_law25_WeightExact_a13
  rw [wi64 (n := 1 + k) (by omega) (by omega), hn]
  obtain ⟨w, d3, he, wl, wv, hd3⟩ := weights_yes hd2 (n := n) (by omega) (by omega)
  rw [he]; clear he; first | rw [bind2_pure] | rw [bind3_pure] | rw [bind4_pure] | rw [bind1_pure]
  obtain ⟨u, d4, he, hd4⟩ := bent_yes hd3 (n := n) (by omega) (by omega)
  rw [he]; clear he; first | rw [bind2_pure] | rw [bind3_pure] | rw [bind4_pure] | rw [bind1_pure]
  rw [exact_l5 _ _ _ _ hd4, bindE_l]
  rfl
theorem wexact_law (p : List Int) (p1 p2 : Int) (p3 : S_api_Weights) (p4 : S_api_Model) (p5 : Int) : rl_law25_WeightExact p p1 p2 p3 p4 p5 = some true := by
  have kt : rl_law25_WeightExact_k1 p p1 p2 p3 p4 p5 true = some true := by
    unfold rl_law25_WeightExact_k1
    rw [if_pos rfl, awake25]
    rfl
  unfold rl_law25_WeightExact
  rw [awake25]
  simp only [bind1_pure, Bool.not_true, Bool.false_eq_true, if_false, rl_make_Few]
  by_cases hp : p.length ≤ 400
  · rw [decide_eq_true (by omega : ((p.length : Nat) : Int) ≤ 400)]
    have kf := exact_k1 p hp p1 p2 p3 p4 p5
    simp only [Bool.not_true, Bool.false_eq_true, if_false]
    split
    · exact kt
    · cases (decide (IntKind.i64.wrap (((p4.Match.length : Nat) : Int) + ((p4.Random.length : Nat) : Int)) > 40))
      · exact kf
      · exact kt
  · rw [decide_eq_false (by omega : ¬ ((p.length : Nat) : Int) ≤ 400)]
    simp only [Bool.not_false, if_true]
    exact kt
end Go.Proofs.Ytafmpnilgknfhaa
