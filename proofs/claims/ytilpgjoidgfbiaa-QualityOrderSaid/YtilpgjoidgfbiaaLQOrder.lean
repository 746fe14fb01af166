/- The plain law of QualityOrder. -/
import Derived.Test.YtilpgjoidgfbiaaEq
import Derived.Test.YtilpgjoidgfbiaaGL5
namespace Go.Proofs.Ytilpgjoidgfbiaa
open Vm
set_option linter.unusedVariables false
theorem qorder_loop {m : S_api_Model} {cs : List S_api_Candidate} (hc : CN m cs) (hn : cs.length ≤ 81) {d : S_recordlinkmake_Deck} (hd : DeckOk d) : ∃ ts, loop (fun v : (List S_api_Candidate) × Int × (List Int) × Int × Int => rl_law33_QualityOrder_l2 cs v.1 v.2.1 v.2.2.1 v.2.2.2.1 v.2.2.2.2) (([] : List S_api_Candidate), (cs.length : Int) - 1, d.list, d.at_, d.state) = some ts ∧ ts.length = cs.length ∧ CN m ts ∧ sumS m ts = sumS m cs := by
  refine loop_inv cs.length (fun (k : Nat) (v : (List S_api_Candidate) × Int × (List Int) × Int × Int) => v.2.1 = (cs.length : Int) - 1 - (k : Int) ∧ v.1.length = k ∧ CN m v.1 ∧ sumS m v.1 = sumS m (cs.drop (cs.length - k)) ∧ DeckOk ⟨v.2.2.1, v.2.2.2.1, v.2.2.2.2⟩) (fun (t : List S_api_Candidate) => t.length = cs.length ∧ CN m t ∧ sumS m t = sumS m cs) ?_ ?_ ⟨by simp, rfl, fun c hc => absurd hc List.not_mem_nil, by simp, hd⟩
  · rintro k hk ⟨l, j, a, b, c⟩ ⟨s1, s2, s3, s4, s5⟩
    left
    simp only [rl_law33_QualityOrder_l2] at s1 s2 s3 s4 s5 ⊢
    subst s1
    rw [if_pos (by simp only [decide_eq_true_eq]; omega), if_pos (by omega), if_pos (by omega)]
    obtain ⟨w, d1, he, w0, w1, hd1⟩ := next_yes s5 (n := 50) (by decide) (by decide)
    rw [he]; clear he; first | rw [bind2_pure] | rw [bind3_pure] | rw [bind4_pure] | rw [bind1_pure]
    have hi : cs.length - (k + 1) < cs.length := by omega
    rw [if_pos (by simp only [List.length_cons, List.length_nil]; omega), show 0 + ((cs.length : Int) - 1 - (k : Int)).toNat = cs.length - (k + 1) by omega]
    have hdr : cs.drop (cs.length - (k + 1)) = cs.getD (cs.length - (k + 1)) dS_api_Candidate :: cs.drop (cs.length - k) := by
      rw [List.drop_eq_getElem_cons hi, List.getD_eq_getElem?_getD, List.getElem?_eq_getElem hi, show cs.length - (k + 1) + 1 = cs.length - k by omega]; rfl
    refine ⟨_, rfl, ?_, ?_, ?_, ?_, hd1⟩
    · simp only; rw [wi64 (by omega) (by omega)]; omega
    · simp only [List.length_append, List.length_cons, List.length_nil]; omega
    · intro q hq
      rcases List.mem_append.1 hq with h | h
      · exact s3 q h
      · have hx := hc _ (cand_mem hi)
        rw [List.mem_singleton.1 h]; exact hx
    · rw [hdr, sumS_cons, sumS_append, sumS_cons, sumS_nil, s4]; simp only [Int.add_zero]; omega
  · rintro ⟨l, j, a, b, c⟩ ⟨s1, s2, s3, s4, s5⟩
    simp only [rl_law33_QualityOrder_l2] at s1 s2 s3 s4 s5 ⊢
    subst s1
    rw [if_neg (by simp only [decide_eq_true_eq]; omega)]
    exact ⟨_, rfl, s2, s3, by rw [s4, Nat.sub_self, List.drop_zero]⟩
theorem qorder_law (p : List Int) : rl_law33_QualityOrder p = some true := by
  unfold rl_law33_QualityOrder
  rw [awake33]
  simp only [Option.bind_some, Bool.not_true, Bool.false_eq_true, if_false, rl_make_Few]
  by_cases hp : p.length ≤ 400
  rotate_left
  · rw [decide_eq_false (by omega : ¬ ((p.length : Nat) : Int) ≤ 400)]
    simp only [Bool.not_false, rl_law33_QualityOrder_k1, if_true, awake33, Option.bind_some]
  rw [decide_eq_true (by omega : ((p.length : Nat) : Int) ≤ 400)]
  simp only [Bool.not_true, rl_law33_QualityOrder_k1, Bool.false_eq_true, if_false]
  obtain ⟨d, he, hd⟩ := new_yes hp
  rw [he]; clear he; simp only [Option.bind_some]
  obtain ⟨x, d1, he, x0, x1, hd1⟩ := next_yes hd (n := 3) (by decide) (by decide)
  rw [he]; clear he; first | rw [bind2_pure] | rw [bind3_pure] | rw [bind4_pure] | rw [bind1_pure]
  obtain ⟨n, rfl⟩ := Int.eq_ofNat_of_zero_le x0
  rw [wi64 (n := 1 + (n : Int)) (by omega) (by omega), show 1 + (n : Int) = ((n + 1 : Nat) : Int) by omega]
  obtain ⟨m, d2, he, m1, hm, hd2⟩ := model_yes hd1 (n := n + 1) (by omega) (by omega)
  rw [he]; clear he; first | rw [bind2_pure] | rw [bind3_pure] | rw [bind4_pure] | rw [bind1_pure]
  obtain ⟨cs, d3, he, c1, c2, hd3⟩ := cands_yes hd2 (n := n + 1) (by omega) (by omega)
  rw [he]; clear he; first | rw [bind2_pure] | rw [bind3_pure] | rw [bind4_pure] | rw [bind1_pure]
  have hc : CN m cs := fun c h => by unfold PN; rw [m1]; exact c2 c h
  rw [wi64 (n := (cs.length : Int) - 1) (by omega) (by omega)]
  obtain ⟨ts, e1, t1, t2, t3⟩ := qorder_loop hc c1 hd3
  rw [e1, bind1_pure, of_est hm hc t2 (by omega) (by omega), bind2_pure, of_est hm t2 hc (by omega) (by omega), bind2_pure, if_pos (by decide), if_pos (by decide), t1, t3, if_pos (by simp)]
  unfold rl_law33_QualityOrder_k3
  simp
end Go.Proofs.Ytilpgjoidgfbiaa
