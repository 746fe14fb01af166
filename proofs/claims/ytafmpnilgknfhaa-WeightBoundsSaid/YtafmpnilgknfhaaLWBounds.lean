/- The plain law of WeightBounds. -/
import Derived.Test.YtafmpnilgknfhaaWf
import Derived.Test.YtafmpnilgknfhaaGL7
namespace Go.Proofs.Ytafmpnilgknfhaa
open Vm
set_option linter.unusedVariables false
/-- The digits of the least and of the greatest score. -/
theorem score_low {w : S_api_Weights} (ds : List Int) (n : Nat) (h : ∀ i, i < n → ds.getD i 0 = if w.Agree.getD i 0 ≤ w.Differ.getD i 0 ∧ w.Agree.getD i 0 ≤ 0 then 2 else if w.Differ.getD i 0 ≤ 0 then 1 else 0) : scoreS w ds n = lowS w n := by
  induction n with
  | zero => rfl
  | succ n ih =>
    simp only [scoreS, lowS]
    rw [ih fun i hi => h i (by omega), h n (by omega)]
    congr 1
    unfold pick
    split
    · rw [if_pos rfl]; omega
    · split
      · rw [if_neg (by decide), if_pos rfl]; omega
      · rw [if_neg (by decide), if_neg (by decide)]; omega
theorem score_high {w : S_api_Weights} (ds : List Int) (n : Nat) (h : ∀ i, i < n → ds.getD i 0 = if w.Agree.getD i 0 ≥ w.Differ.getD i 0 ∧ w.Agree.getD i 0 ≥ 0 then 2 else if w.Differ.getD i 0 ≥ 0 then 1 else 0) : scoreS w ds n = highS w n := by
  induction n with
  | zero => rfl
  | succ n ih =>
    simp only [scoreS, highS]
    rw [ih fun i hi => h i (by omega), h n (by omega)]
    congr 1
    unfold pick
    split
    · rw [if_pos rfl]; omega
    · split
      · rw [if_neg (by decide), if_pos rfl]; omega
      · rw [if_neg (by decide), if_neg (by decide)]; omega
/-- Digits that are given one by one. -/
theorem some_digs (f : Nat → Int) (hf : ∀ i, 0 ≤ f i ∧ f i ≤ 2) (n : Nat) : ∃ q : Nat, q < 3 ^ n ∧ ∀ i, i < n → (digs n (q : Int)).getD i 0 = f i := by
  have hm : ∀ x ∈ (List.range n).map f, 0 ≤ x ∧ x ≤ 2 := by
    intro x hx
    obtain ⟨i, _, rfl⟩ := List.mem_map.1 hx
    exact hf i
  have hr := num3_range _ hm
  have hd := digs_num3 _ hm
  have hl : ((List.range n).map f).length = n := by simp
  rw [hl] at hr hd
  obtain ⟨q, hq⟩ := Int.eq_ofNat_of_zero_le hr.1
  rw [hq] at hr hd
  refine ⟨q, by omega, fun i hi => ?_⟩
  rw [show ((q : Nat) : Int) = Int.ofNat q from rfl] at *
  rw [hd]
  simp [List.getD_eq_getElem?_getD, List.getElem?_map, List.getElem?_range hi]
theorem some_low (w : S_api_Weights) (n : Nat) : ∃ q : Nat, q < 3 ^ n ∧ scoreS w (digs n (q : Int)) n = lowS w n := by
  obtain ⟨q, h1, h2⟩ := some_digs (fun i => if w.Agree.getD i 0 ≤ w.Differ.getD i 0 ∧ w.Agree.getD i 0 ≤ 0 then 2 else if w.Differ.getD i 0 ≤ 0 then 1 else 0) (fun i => by split <;> (try split) <;> omega) n
  exact ⟨q, h1, score_low _ _ h2⟩
theorem some_high (w : S_api_Weights) (n : Nat) : ∃ q : Nat, q < 3 ^ n ∧ scoreS w (digs n (q : Int)) n = highS w n := by
  obtain ⟨q, h1, h2⟩ := some_digs (fun i => if w.Agree.getD i 0 ≥ w.Differ.getD i 0 ∧ w.Agree.getD i 0 ≥ 0 then 2 else if w.Differ.getD i 0 ≥ 0 then 1 else 0) (fun i => by split <;> (try split) <;> omega) n
  exact ⟨q, h1, score_high _ _ h2⟩
theorem bounds_law (p : List Int) : rl_law25_WeightBounds p = some true := by
  unfold rl_law25_WeightBounds
  rw [awake25]
  simp only [Option.bind_some, Bool.not_true, Bool.false_eq_true, if_false, rl_make_Few]
  by_cases hp : p.length ≤ 400
  rotate_left
  · rw [decide_eq_false (by omega : ¬ ((p.length : Nat) : Int) ≤ 400)]
    simp only [Bool.not_false, rl_law25_WeightBounds_k1, if_true, awake25, Option.bind_some]
  rw [decide_eq_true (by omega : ((p.length : Nat) : Int) ≤ 400)]
  simp only [Bool.not_true, rl_law25_WeightBounds_k1, Bool.false_eq_true, if_false]
  obtain ⟨d, he, hd⟩ := new_yes hp
  rw [he]; clear he; simp only [Option.bind_some]
  obtain ⟨k, d1, he, k0, k1, hd1⟩ := next_yes hd (n := 4) (by decide) (by decide)
  rw [he]; clear he; first | rw [bind2_pure] | rw [bind3_pure] | rw [bind4_pure] | rw [bind1_pure]
  obtain ⟨n, hn⟩ : ∃ n : Nat, 1 + k = n := ⟨(1 + k).toNat, by omega⟩
  rw [wi64 (n := 1 + k) (by omega) (by omega), hn]
  obtain ⟨w, d2, he, wl, wv, hd2⟩ := weights_yes hd1 (n := n) (by omega) (by omega)
  rw [he]; clear he; first | rw [bind2_pure] | rw [bind3_pure] | rw [bind4_pure] | rw [bind1_pure]
  rw [weight_bounds_eq, if_pos wv, bind3_pure]
  have hc : loop (fun v : Int × Int => rl_law25_WeightBounds_l2 k v.1 v.2) (1, 0) = some ((3 ^ n : Nat) : Int) := by
    refine loop_for (fun i => (((3 ^ i : Nat) : Int), (i : Int))) n _ (fun i hi => ?_) ?_ rfl
    · have hq := pow3_le (i := i) (by omega)
      simp only [rl_law25_WeightBounds_l2]
      rw [wi64 (n := 1 + k) (by omega) (by omega), if_pos (by simp; omega), wi64 (n := ((3 ^ i : Nat) : Int) * 3) (by omega) (by omega), wi64 (by omega) (by omega), Nat.pow_succ, Int.natCast_mul]
      rfl
    · simp only [rl_law25_WeightBounds_l2]
      rw [wi64 (n := 1 + k) (by omega) (by omega), if_neg (by simp; omega)]
  rw [hc, bind1_pure, wl]
  have hq := pow3_le (i := n) (by omega)
  obtain ⟨t, e1, u, v, rfl, rfl, rfl⟩ := loop_inv (step := fun v : Bool × Bool × Int => rl_law25_WeightBounds_l3 w (lowS w n) (highS w n) ((3 ^ n : Nat) : Int) v.1 v.2.1 v.2.2) (3 ^ n)
    (fun i s => s.2.2 = (i : Int) ∧ (∀ q : Nat, q < i → scoreS w (digs n (q : Int)) n = lowS w n → s.1 = true) ∧ (∀ q : Nat, q < i → scoreS w (digs n (q : Int)) n = highS w n → s.2.1 = true))
    (fun t => ∃ u v, u = true ∧ v = true ∧ t = .inl (u, v)) (by
    rintro i hi ⟨u, v, j⟩ ⟨rfl, s1, s2⟩
    left
    have o := in_order w (digs n (i : Int)) n
    simp only [rl_law25_WeightBounds_l3] at s1 s2 ⊢
    rw [if_pos (by rw [decide_eq_true_eq]; omega), weight_score_eq, if_pos wv, weight_best_eq, if_pos wv, wl, if_pos ⟨by omega, by omega⟩, if_pos ⟨by omega, by omega⟩, bind2_pure, bind2_pure, if_neg (by decide), if_neg (by decide), if_neg (by simp; omega), if_neg (by simp; omega), if_neg (by simp; omega), decide_eq_false (by omega)]
    unfold rl_law25_WeightBounds_k4 rl_law25_WeightBounds_k5
    rw [wi64 (n := (i : Int) + 1) (by omega) (by omega)]
    rw [if_neg (by decide)]
    cases u <;> cases v <;> simp only [if_true, Bool.false_eq_true, if_false] <;> refine ⟨_, rfl, by show (i : Int) + 1 = _; omega, ?_, ?_⟩ <;> intro q hq1 hq2 <;> first | rfl | skip
    all_goals
      rcases Nat.lt_or_eq_of_le (Nat.le_of_lt_succ hq1) with h | h
      · first | exact absurd (s1 q h hq2) (by decide) | exact absurd (s2 q h hq2) (by decide)
      · subst h
        simp only
        rw [hq2]
        exact beq_self_eq_true _) (by
    rintro ⟨u, v, j⟩ ⟨rfl, s1, s2⟩
    obtain ⟨q1, h1, h2⟩ := some_low w n
    obtain ⟨q2, h3, h4⟩ := some_high w n
    exact ⟨_, by simp only [rl_law25_WeightBounds_l3]; rw [if_neg (by simp)], _, _, s1 q1 h1 h2, s2 q2 h3 h4, rfl⟩) (s := (false, false, 0)) ⟨rfl, fun q hq => by omega, fun q hq => by omega⟩
  rw [e1]
  rfl
end Go.Proofs.Ytafmpnilgknfhaa
