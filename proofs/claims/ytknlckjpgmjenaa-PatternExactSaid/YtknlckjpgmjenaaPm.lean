/- Plain: counts, marginals. -/
import Derived.Test.YtknlckjpgmjenaaWd
import Derived.Test.YtknlckjpgmjenaaDk
import Derived.Test.YtknlckjpgmjenaaGE0
namespace Go.Proofs.Ytknlckjpgmjenaa
open Vm
set_option linter.unusedVariables false
set_option linter.unusedSimpArgs false
theorem snoc_all {P : Int → Prop} {l : List Int} (h : ∀ x ∈ l, P x) {y : Int} (hy : P y) : ∀ x ∈ l ++ [y], P x := by
  intro x hx
  rcases List.mem_append.1 hx with k | k
  · exact h x k
  · rw [List.mem_singleton.1 k]; exact hy
theorem all_getD {P : Int → Prop} {l : List Int} (h : ∀ x ∈ l, P x) {i : Nat} (hi : i < l.length) : P (l.getD i 0) := by
  refine h _ ?_
  rw [List.getD_eq_getElem?_getD, List.getElem?_eq_getElem hi]
  exact List.getElem_mem hi
theorem set_all {P : Int → Prop} {l : List Int} (h : ∀ x ∈ l, P x) {y : Int} (hy : P y) (i : Nat) : ∀ x ∈ l.set i y, P x := by
  intro x hx
  rcases List.mem_or_eq_of_mem_set hx with k | k
  · exact h x k
  · rw [k]; exact hy
theorem pow_loop {step : Int × Int → Option ((Int × Int) ⊕ Int)} {n : Nat} (hn : n ≤ 5) (hs : ∀ v : Int × Int, step v = if (decide (v.2 < (n : Int))) = true then (some (.inl (IntKind.i64.wrap (v.1 * 3), IntKind.i64.wrap (v.2 + 1)))) else (some (.inr v.1))) : loop step (1, 0) = some ((3 ^ n : Nat) : Int) := by
  refine loop_for (fun i => (((3 ^ i : Nat) : Int), (i : Int))) n _ (fun i hi => ?_) ?_ rfl
  · rw [hs]
    have h3 := (pow3_le (i := i) (by omega)).2
    simp only
    rw [Nat.pow_succ]
    generalize 3 ^ i = q at h3 ⊢
    rw [if_pos (by simpa using hi), wi64 (n := (q : Int) * 3) (by omega) (by omega), wi64 (n := (i : Int) + 1) (by omega) (by omega)]
    rfl
  · rw [hs]
    simp only
    rw [if_neg (by simp)]
theorem sum_snoc (l : List Int) (x : Int) : (l ++ [x]).sum = l.sum + x := by simp
theorem take_sum {l : List Int} {i : Nat} (h : i < l.length) : (l.take (i + 1)).sum = (l.take i).sum + l.getD i 0 := by
  rw [List.take_add_one, List.getD_eq_getElem?_getD, List.getElem?_eq_getElem h]
  simp only [Option.toList_some, Option.getD_some, sum_snoc]
theorem sum_nonneg : ∀ {l : List Int}, (∀ x ∈ l, 0 ≤ x) → 0 ≤ l.sum
  | [], _ => by simp
  | x :: l, h => by
    have h1 := h x List.mem_cons_self
    have h2 := sum_nonneg (l := l) fun y hy => h y (List.mem_cons_of_mem _ hy)
    rw [List.sum_cons]; omega
theorem take_le {l : List Int} (h : ∀ x ∈ l, 0 ≤ x) (i : Nat) : 0 ≤ (l.take i).sum ∧ (l.take i).sum ≤ l.sum := by
  have h1 := sum_nonneg (l := l.take i) fun y hy => h y (List.mem_of_mem_take hy)
  have h2 := sum_nonneg (l := l.drop i) fun y hy => h y (List.mem_of_mem_drop hy)
  have h3 : l.sum = (l.take i).sum + (l.drop i).sum := by rw [← List.sum_append, List.take_append_drop]
  omega
theorem set_sum {y : Int} : ∀ {l : List Int} {i : Nat}, i < l.length → (l.set i (l.getD i 0 + y)).sum = l.sum + y
  | [], _, h => absurd h (by simp)
  | x :: l, 0, _ => by simp; omega
  | x :: l, i + 1, h => by
    have := set_sum (y := y) (l := l) (i := i) (by simpa using h)
    simp only [List.set_cons_succ, List.getD_cons_succ, List.sum_cons, this]
    omega
/-- counts of the patterns of n fields -/
def CV (n : Nat) (c : List Int) : Prop := c.length = 3 ^ n ∧ (∀ x ∈ c, 0 ≤ x) ∧ c.sum ≤ 4096
theorem CV.get {n : Nat} {c : List Int} (h : CV n c) {i : Nat} (hi : i < c.length) : 0 ≤ c.getD i 0 ∧ c.getD i 0 ≤ 4096 := by
  have h1 := take_sum hi
  have h2 := take_le h.2.1 i
  have h3 := take_le h.2.1 (i + 1)
  have h4 := all_getD h.2.1 hi
  have h5 := h.2.2
  omega
theorem psize_eq {n : Nat} (h1 : 1 ≤ n) (h5 : n ≤ 5) : pattern_Size (n : Int) = some (((3 ^ n : Nat) : Int), 0) := by
  unfold pattern_Size
  rw [if_neg (by simp only [decide_eq_true_eq]; omega), decide_eq_false (by omega)]
  unfold pattern_Size_k1
  rw [if_neg (by decide), pow_loop (step := fun v : Int × Int => pattern_Size_l2 (n : Int) v.1 v.2) h5 (fun v => rfl), bind1_pure]
theorem pcount_yes {x : Int} (h : 0 ≤ x ∧ x ≤ 4096) : pattern_count x = some true := by
  unfold pattern_count
  rw [if_pos (by simp only [decide_eq_true_eq]; omega), decide_eq_true h.2]
  rfl
theorem psum_eq {n : Nat} {c : List Int} (h : CV n c) (hl : c.length ≤ 243) : pattern_sum c = some (c.sum, true) := by
  unfold pattern_sum
  have hloop := loop_for (step := fun v : Int × Int => pattern_sum_l1 c v.1 v.2) (fun i => ((c.take i).sum, (i : Int))) c.length (.inl c.sum) (fun i hi => by
      have h1 := take_le h.2.1 i
      have h2 := h.get hi
      have h3 := h.2.2
      simp only [pattern_sum_l1, Int.toNat_natCast]
      rw [if_pos (by simp only [decide_eq_true_eq]; omega), if_pos (by omega), if_pos (by omega), pcount_yes h2, bind1_pure, if_neg (by decide), wi64 (by omega) (by omega), wi64 (by omega) (by omega), take_sum hi]
      rfl) (by
      simp only [pattern_sum_l1]
      rw [if_neg (by simp), List.take_of_length_le (Nat.le_refl _)]) (s := (0, 0)) rfl
  rw [hloop, bindE_l]
  rfl
theorem pcheck_yes {n : Nat} {c : List Int} (h1 : 1 ≤ n) (h5 : n ≤ 5) (h : CV n c) : pattern_Check c (n : Int) = some 0 := by
  have h3 := pow3_le h5
  have h4 := h.1
  have h6 := take_le h.2.1 c.length
  rw [List.take_of_length_le (Nat.le_refl _)] at h6
  unfold pattern_Check
  rw [psize_eq h1 h5, bind2_pure, if_neg (by decide), if_neg (by rw [h4]; simp), psum_eq h (by omega), bind2_pure, if_neg (by decide), pcount_yes ⟨h6.1, h.2.2⟩, bind1_pure]
  rfl
theorem CV.zero (n : Nat) : CV n (List.replicate (3 ^ n) 0) := by
  refine ⟨List.length_replicate, fun x hx => by rw [List.eq_of_mem_replicate hx]; decide, ?_⟩
  have : ∀ k : Nat, (List.replicate k (0 : Int)).sum = 0 := fun k => by
    induction k with
    | zero => rfl
    | succ k ih => rw [List.replicate_succ, List.sum_cons, ih]; rfl
  rw [this]; decide
theorem counts_yes {d : S_recordlinkmake_Deck} (hd : DeckOk d) {n : Nat} (h5 : n ≤ 5) : ∃ c d', rl_make_Deck_Counts d (n : Int) = some (c, d') ∧ CV n c ∧ DeckOk d' := by
  have h3 := pow3_le h5
  unfold rl_make_Deck_Counts
  rw [pow_loop (step := fun v : Int × Int => rl_make_Deck_Counts_l1 (n : Int) v.1 v.2) h5 (fun v => rfl), bind1_pure, if_pos (by omega), if_pos (by omega), Int.toNat_natCast]
  obtain ⟨x, d1, he, x0, x1, hd1⟩ := next_yes hd (n := 20) (by decide) (by decide)
  rw [he]; clear he; first | rw [bind2_pure] | rw [bind3_pure] | rw [bind4_pure] | rw [bind1_pure]
  obtain ⟨k, rfl⟩ := Int.eq_ofNat_of_zero_le x0
  obtain ⟨t, e1, t1, t2⟩ := loop_inv (step := fun v : (List Int) × Int × (List Int) × Int × Int => rl_make_Deck_Counts_l2 ((3 ^ n : Nat) : Int) v.1 v.2.1 v.2.2.1 v.2.2.2.1 v.2.2.2.2) k
    (fun j v => v.2.1 = (k : Int) - (j : Int) ∧ v.1.length = 3 ^ n ∧ (∀ x ∈ v.1, 0 ≤ x) ∧ v.1.sum ≤ 40 * (j : Int) ∧ DeckOk ⟨v.2.2.1, v.2.2.2.1, v.2.2.2.2⟩)
    (fun t => CV n t.1 ∧ DeckOk ⟨t.2.1, t.2.2.1, t.2.2.2⟩) (by
      rintro j hj ⟨l, i, a, b, c⟩ ⟨s1, s2, s3, s4, s5⟩
      left
      simp only [rl_make_Deck_Counts_l2] at s1 s2 s3 s4 s5 ⊢
      subst s1
      rw [if_pos (by simp only [decide_eq_true_eq]; omega)]
      obtain ⟨x, d2, he, x0, x1, hd2⟩ := next_yes s5 (n := ((3 ^ n : Nat) : Int)) (by omega) (by omega)
      rw [he]; clear he; first | rw [bind2_pure] | rw [bind3_pure] | rw [bind4_pure] | rw [bind1_pure]
      obtain ⟨u, rfl⟩ := Int.eq_ofNat_of_zero_le x0
      rw [if_pos (by omega), if_pos (by omega)]
      obtain ⟨y, d3, he, y0, y1, hd3⟩ := next_yes hd2 (n := 40) (by decide) (by decide)
      rw [he]; clear he; first | rw [bind2_pure] | rw [bind3_pure] | rw [bind4_pure] | rw [bind1_pure]
      have hu : u < l.length := by omega
      have g1 := all_getD s3 hu
      have g2 := take_sum hu
      have g3 := take_le s3 u
      have g4 := take_le s3 (u + 1)
      simp only [Int.toNat_natCast, Nat.zero_add]
      rw [wi64 (n := (k : Int) - (j : Int) - 1) (by omega) (by omega), wi64 (n := l.getD u 0 + y) (by omega) (by omega)]
      refine ⟨_, rfl, by simp only; omega, by simp only [List.length_set]; exact s2, set_all s3 (P := fun x => 0 ≤ x) (by omega) _, ?_, hd3⟩
      simp only
      rw [set_sum hu]
      omega) (by
      rintro ⟨l, i, a, b, c⟩ ⟨s1, s2, s3, s4, s5⟩
      simp only [rl_make_Deck_Counts_l2] at s1 s2 s3 s4 s5 ⊢
      subst s1
      rw [if_neg (by simp only [decide_eq_true_eq]; omega)]
      exact ⟨_, rfl, ⟨s2, s3, by simp only; omega⟩, s5⟩) (s := (List.replicate (3 ^ n) 0, (k : Int), d1.list, d1.at_, d1.state)) ⟨by simp, List.length_replicate, (CV.zero n).2.1, (by
      have h0 : ∀ k : Nat, (List.replicate k (0 : Int)).sum = 0 := fun k => by
        induction k with
        | zero => rfl
        | succ k ih => rw [List.replicate_succ, List.sum_cons, ih]; rfl
      simp only [h0]; decide), hd1⟩
  rw [e1]
  exact ⟨t.1, ⟨t.2.1, t.2.2.1, t.2.2.2⟩, rfl, t1, t2⟩
theorem marginal_yes {n f : Nat} {c : List Int} (h1 : 1 ≤ n) (h5 : n ≤ 5) (hf : f < n) (hc : CV n c) : ∃ a b d, pattern_Marginal c (n : Int) (f : Int) = some ([a, b, d], 0) ∧ 0 ≤ a ∧ 0 ≤ b ∧ 0 ≤ d ∧ a + b + d = c.sum := by
  have h3 := pow3_le h5
  have hl := hc.1
  have hs := hc.2.2
  have loop_ : ∀ q : Nat, 1 ≤ q → q ≤ 243 → ∃ a b d, pattern_Marginal_k2 c (q : Int) = some ([a, b, d], 0) ∧ 0 ≤ a ∧ 0 ≤ b ∧ 0 ≤ d ∧ a + b + d = c.sum := fun q q1 q2 => by
    unfold pattern_Marginal_k2
    obtain ⟨t, e1, t1, t2, t3⟩ := loop_inv (step := fun v : Int × (List Int) => pattern_Marginal_l3 c (q : Int) v.1 v.2) c.length (fun p s => s.1 = (p : Int) ∧ s.2.length = 3 ∧ (∀ x ∈ s.2, 0 ≤ x) ∧ s.2.sum = (c.take p).sum) (fun t => t.length = 3 ∧ (∀ x ∈ t, 0 ≤ x) ∧ t.sum = c.sum) (by
      rintro p hp ⟨z, l⟩ ⟨s1, s2, s3, s4⟩
      left
      simp only [pattern_Marginal_l3] at s1 s2 s3 s4 ⊢
      subst s1
      have hd0 : 0 ≤ (p : Int) / (q : Int) := Int.ediv_nonneg (by omega) (by omega)
      have hd1 : (p : Int) / (q : Int) ≤ (p : Int) := Int.ediv_le_self _ (by omega)
      rw [tdiv_nn (by omega), wi64 (n := (p : Int) / (q : Int)) (by omega) (by omega), tmod_nn hd0]
      obtain ⟨u, hu⟩ : ∃ u : Nat, (p : Int) / (q : Int) % 3 = (u : Int) := ⟨((p : Int) / (q : Int) % 3).toNat, by omega⟩
      have hu3 : u < 3 := by omega
      rw [hu]
      have g1 := take_le s3 (u + 1)
      have g2 := take_le s3 u
      have g3 := take_sum (l := l) (i := u) (by omega)
      have g4 := hc.get hp
      have g5 := take_le hc.2.1 p
      have g6 := all_getD s3 (i := u) (by omega)
      simp only [Int.toNat_natCast, Nat.zero_add]
      rw [if_pos (by simp only [decide_eq_true_eq]; omega), if_pos (by omega), if_pos (by omega), if_pos (by omega), if_pos (by omega), if_pos (by omega), if_pos s2.symm, wi64 (n := (p : Int) + 1) (by omega) (by omega), wi64 (n := l.getD u 0 + c.getD p 0) (by omega) (by omega)]
      refine ⟨_, rfl, rfl, by simp only [List.length_set]; exact s2, set_all s3 (P := fun x => 0 ≤ x) (by omega) _, ?_⟩
      simp only
      rw [set_sum (by omega), s4, take_sum hp]) (by
      rintro ⟨z, l⟩ ⟨s1, s2, s3, s4⟩
      simp only [pattern_Marginal_l3] at s1 s2 s3 s4 ⊢
      subst s1
      rw [if_neg (by simp only [decide_eq_true_eq]; omega)]
      rw [List.take_of_length_le (Nat.le_refl _)] at s4
      exact ⟨_, rfl, s2, s3, s4⟩) (s := (0, [0, 0, 0])) ⟨rfl, rfl, by simp, by simp⟩
    rw [e1, bind1_pure]
    rcases t with _ | ⟨a, _ | ⟨b, _ | ⟨d, _ | ⟨e, t⟩⟩⟩⟩ <;> simp only [List.length_cons, List.length_nil] at t1 <;> try omega
    refine ⟨a, b, d, rfl, t2 a (by simp), t2 b (by simp), t2 d (by simp), ?_⟩
    rw [← t3]
    simp only [List.sum_cons, List.sum_nil]
    omega
  unfold pattern_Marginal
  rw [pcheck_yes h1 h5 hc, bind1_pure, if_neg (by decide), if_neg (by simp only [decide_eq_true_eq]; omega), decide_eq_false (by omega)]
  unfold pattern_Marginal_k1
  rw [if_neg (by decide)]
  by_cases h0 : f = 0
  · subst h0
    rw [show (if (1 : Int) > ((0 : Nat) : Int) then (1 : Int) else ((0 : Nat) : Int)) = ((1 : Nat) : Int) from rfl, psize_eq (by decide) (by decide), bind2_pure, if_pos (by decide)]
    exact loop_ 1 (by decide) (by decide)
  · have hq := pow3_le (show f ≤ 5 by omega)
    rw [if_neg (by omega), psize_eq (by omega) (by omega), bind2_pure, if_neg (by rw [beq_iff_eq]; omega)]
    exact loop_ _ hq.1 hq.2
theorem total_yes {n : Nat} {c : List Int} (h5 : n ≤ 5) (hc : CV n c) : pattern_Total c = some c.sum := by
  have h3 := pow3_le h5
  have hl := hc.1
  unfold pattern_Total
  rw [if_neg (by simp only [decide_eq_true_eq]; omega), psum_eq hc (by omega), bind2_pure]
theorem awake23 : rl_law23_awake = some true := rl_law23_awake_le 200 _ (by kernel_rfl)
end Go.Proofs.Ytknlckjpgmjenaa
