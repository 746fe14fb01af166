/- Plain: rounds of the estimate; the plain law of EmRuns. -/
import Derived.Test.YtilpgjoidgfbiaaEt
import Derived.Test.YtilpgjoidgfbiaaGL10
namespace Go.Proofs.Ytilpgjoidgfbiaa
open Vm
set_option linter.unusedVariables false
set_option linter.unusedSimpArgs false
def runS (c : List Int) : Nat → S_api_Model → S_api_Model × Nat
  | 0, m => (m, 0)
  | k + 1, m => if stepS m c = m then (m, 0) else ((runS c k (stepS m c)).1, (runS c k (stepS m c)).2 + 1)
theorem runS_stop {c : List Int} {m : S_api_Model} (h : stepS m c = m) : ∀ k, runS c k m = (m, 0)
  | 0 => rfl
  | k + 1 => by rw [runS, if_pos h]
theorem runS_le {c : List Int} : ∀ (k : Nat) (m : S_api_Model), (runS c k m).2 ≤ k
  | 0, m => Nat.le_refl _
  | k + 1, m => by
    rw [runS]
    split
    · exact Nat.zero_le _
    · have := runS_le (c := c) k (stepS m c)
      simp only
      omega
theorem runS_add {c : List Int} (b : Nat) : ∀ (a : Nat) (m : S_api_Model), runS c (a + b) m = ((runS c b (runS c a m).1).1, (runS c a m).2 + (runS c b (runS c a m).1).2)
  | 0, m => by simp only [Nat.zero_add, runS]
  | a + 1, m => by
    by_cases h : stepS m c = m
    · rw [runS_stop h, runS_stop h]
      simp only
      rw [runS_stop h]
      rfl
    · rw [show a + 1 + b = (a + b) + 1 by omega, runS, if_neg h, runS_add b a, runS, if_neg h]
      simp only [Prod.mk.injEq, true_and]
      omega
theorem runS_done {c : List Int} : ∀ (k : Nat) (m : S_api_Model), (runS c k m).2 < k → stepS (runS c k m).1 c = (runS c k m).1
  | 0, m, h => absurd h (Nat.not_lt_zero _)
  | k + 1, m, h => by
    rw [runS] at h ⊢
    split
    · rename_i e; exact e
    · rename_i e
      rw [if_neg e] at h
      simp only at h ⊢
      exact runS_done k (stepS m c) (by omega)
theorem runS_ok {c : List Int} : ∀ (k : Nat) (m : S_api_Model), MV m → MV (runS c k m).1 ∧ (runS c k m).1.Match.length = m.Match.length
  | 0, m, h => ⟨h, rfl⟩
  | k + 1, m, h => by
    rw [runS]
    split
    · exact ⟨h, rfl⟩
    · have := runS_ok (c := c) k (stepS m c) (stepS_ok h)
      exact ⟨this.1, by rw [this.2, (stepS_length m c).1]⟩
theorem run_loop {c : List Int} {K : Nat} (hK : K ≤ 16) : ∀ (k j : Nat) (m : S_api_Model), j + k = K → MV m → CV m.Match.length c →
    ∃ t, loop (fun v : Int × Int × (List Int) × (List Int) => em_Run_l2 c (K : Int) v.1 v.2.1 v.2.2.1 v.2.2.2) ((j : Int), m.Prior, m.Match, m.Random) = some t ∧
    bindE (some t) (fun t => em_Run_a3 (K : Int) t.1 t.2.1 t.2.2) (fun t => em_Run_a4 t.1 t.2.1 t.2.2.1 t.2.2.2) = some ((runS c k m).1, ((j + (runS c k m).2 : Nat) : Int), 0)
  | 0, j, m, hj, hm, hc => by
    refine ⟨.inl (m.Prior, m.Match, m.Random), loop_end ?_, ?_⟩
    · simp only [em_Run_l2]
      rw [if_neg (by simp only [decide_eq_true_eq]; omega)]
    · rw [bindE_l]
      simp only [em_Run_a3, runS]
      rw [show (K : Int) = ((j + 0 : Nat) : Int) by omega]
  | k + 1, j, m, hj, hm, hc => by
    have l1 := hm.1
    have l2 := hm.2.2.1
    have l3 := stepS_length m c
    have hstep : em_Run_l2 c (K : Int) (j : Int) m.Prior m.Match m.Random = if m = stepS m c then some (.inr (.inr ((j : Int), m.Prior, m.Match, m.Random))) else some (.inl (((j + 1 : Nat) : Int), (stepS m c).Prior, (stepS m c).Match, (stepS m c).Random)) := by
      unfold em_Run_l2
      rw [if_pos (by simp only [decide_eq_true_eq]; omega), step_eq hm hc, bind1_pure, msame_eq (by simp only; omega) (by simp only; omega), bind1_pure, wi64 (n := (j : Int) + 1) (by omega) (by omega)]
      by_cases h : m = stepS m c
      · rw [if_pos (by rw [decide_eq_true_eq]; exact h), if_pos h]
      · rw [if_neg (by rw [decide_eq_true_eq]; exact h), if_neg h]
        rfl
    by_cases h : m = stepS m c
    · rw [if_pos h] at hstep
      refine ⟨_, loop_end hstep, ?_⟩
      rw [bindE_r, runS, if_pos h.symm]
      rfl
    · rw [if_neg h] at hstep
      obtain ⟨t, e1, e2⟩ := run_loop hK k (j + 1) (stepS m c) (by omega) (stepS_ok hm) (by rw [l3.1]; exact hc)
      refine ⟨t, (loop_next (step := fun v : Int × Int × (List Int) × (List Int) => em_Run_l2 c (K : Int) v.1 v.2.1 v.2.2.1 v.2.2.2) hstep).trans e1, ?_⟩
      rw [e2, runS, if_neg (fun e => h e.symm), show j + 1 + (runS c k (stepS m c)).2 = j + ((runS c k (stepS m c)).2 + 1) by omega]
theorem Run_eq {c : List Int} {K : Nat} (hK : K ≤ 16) {m : S_api_Model} (hm : MV m) (hc : CV m.Match.length c) : em_Run m c (K : Int) = some ((runS c K m).1, ((runS c K m).2 : Int), 0) := by
  have l1 := hm.1
  have l2 := hm.2.2.1
  unfold em_Run
  rw [em_check_yes hm hc, bind1_pure, if_neg (by decide), if_neg (by simp only [decide_eq_true_eq]; omega), decide_eq_false (by omega)]
  unfold em_Run_k1
  rw [if_neg (by decide), iclone_eq (by omega), bind1_pure, iclone_eq (by omega), bind1_pure]
  obtain ⟨t, e1, e2⟩ := run_loop hK K 0 m (by omega) hm hc
  rw [show (0 : Int) = ((0 : Nat) : Int) from rfl] at *
  rw [e1, e2, Nat.zero_add]
theorem eruns_law (p : List Int) : rl_law24_EmRuns p = some true := by
  unfold rl_law24_EmRuns
  rw [awake24]
  simp only [Option.bind_some, Bool.not_true, Bool.false_eq_true, if_false, rl_make_Few]
  by_cases hp : p.length ≤ 400
  rotate_left
  · rw [decide_eq_false (by omega : ¬ ((p.length : Nat) : Int) ≤ 400)]
    simp only [Bool.not_false, rl_law24_EmRuns_k1, if_true, awake24, Option.bind_some]
  rw [decide_eq_true (by omega : ((p.length : Nat) : Int) ≤ 400)]
  simp only [Bool.not_true, rl_law24_EmRuns_k1, Bool.false_eq_true, if_false]
  obtain ⟨d, he, hd⟩ := new_yes hp
  rw [he]; clear he; simp only [Option.bind_some]
  obtain ⟨x, d1, he, x0, x1, hd1⟩ := next_yes hd (n := 2) (by decide) (by decide)
  rw [he]; clear he; first | rw [bind2_pure] | rw [bind3_pure] | rw [bind4_pure] | rw [bind1_pure]
  obtain ⟨n, hn⟩ : ∃ n : Nat, 1 + x = n := ⟨(1 + x).toNat, by omega⟩
  have hw : IntKind.i64.wrap (1 + x) = (n : Int) := by rw [wi64 (n := 1 + x) (by omega) (by omega), hn]
  rw [hw]
  obtain ⟨m, d2, he, m1, hm, hd2⟩ := model_yes hd1 (n := n) (by omega) (by omega)
  rw [he]; clear he; first | rw [bind2_pure] | rw [bind3_pure] | rw [bind4_pure] | rw [bind1_pure]
  obtain ⟨c, d3, he, hc, hd3⟩ := counts_yes hd2 (n := n) (by omega)
  rw [he]; clear he; first | rw [bind2_pure] | rw [bind3_pure] | rw [bind4_pure] | rw [bind1_pure]
  obtain ⟨u, d4, he, u0, u1, hd4⟩ := next_yes hd3 (n := 4) (by decide) (by decide)
  rw [he]; clear he; first | rw [bind2_pure] | rw [bind3_pure] | rw [bind4_pure] | rw [bind1_pure]
  obtain ⟨v, d5, he, v0, v1, hd5⟩ := next_yes hd4 (n := 4) (by decide) (by decide)
  rw [he]; clear he; first | rw [bind2_pure] | rw [bind3_pure] | rw [bind4_pure] | rw [bind1_pure]
  obtain ⟨a, rfl⟩ := Int.eq_ofNat_of_zero_le u0
  obtain ⟨b, rfl⟩ := Int.eq_ofNat_of_zero_le v0
  rw [← m1] at hc
  obtain ⟨k1, k2⟩ := runS_ok (c := c) a m hm
  obtain ⟨k3, k4⟩ := runS_ok (c := c) b _ k1
  have j1 := runS_le (c := c) a m
  have j2 := runS_le (c := c) b (runS c a m).1
  have hadd := runS_add (c := c) b a m
  have hdone := runS_done (c := c) (a + b) m
  have hab : IntKind.i64.wrap ((a : Int) + (b : Int)) = ((a + b : Nat) : Int) := by rw [wi64 (by omega) (by omega)]; omega
  rw [hab, Run_eq (K := a) (by omega) hm hc, bind3_pure, Run_eq (K := b) (by omega) k1 (by rw [k2]; exact hc), bind3_pure, Run_eq (K := a + b) (by omega) hm hc, bind3_pure, if_neg (by decide), if_neg (by decide), if_neg (by decide), if_neg (by simp only [decide_eq_true_eq]; omega), if_neg (by simp only [decide_eq_true_eq]; omega), if_neg (by rw [hadd]; simp only [decide_eq_true_eq]; omega)]
  have e1 : (runS c b (runS c a m).1).1 = (runS c (a + b) m).1 := by rw [hadd]
  have e2 : (runS c (a + b) m).2 = (runS c a m).2 + (runS c b (runS c a m).1).2 := by rw [hadd]
  have hw2 : IntKind.i64.wrap (((runS c a m).2 : Int) + ((runS c b (runS c a m).1).2 : Int)) = ((runS c (a + b) m).2 : Int) := by rw [wi64 (by omega) (by omega), e2]; omega
  have l1 := k3.1
  rw [rsame_eq (by omega) (by omega), bind1_pure, decide_eq_true e1, if_neg (by decide), hw2]
  unfold rl_law24_EmRuns_k2
  rw [if_neg (by simp), hab]
  by_cases h : (runS c (a + b) m).2 = a + b
  · rw [if_pos (by rw [h]; simp)]
  · have hs := hdone (by omega)
    rw [← e1] at hs ⊢
    rw [if_neg (by rw [beq_iff_eq]; omega), Step_eq k3 (by rw [k4, k2]; exact hc), bind2_pure, if_pos (by decide), hs, rsame_eq (by omega) (by omega), bind1_pure]
    unfold rl_law24_EmRuns_k3
    rw [decide_eq_true rfl]
end Go.Proofs.Ytilpgjoidgfbiaa
