/- Plain: counts of patterns; models that are the same. -/
import Derived.Test.YtilpgjoidgfbiaaEq
import Derived.Test.YtilpgjoidgfbiaaGE0
namespace Go.Proofs.Ytilpgjoidgfbiaa
open Vm
set_option linter.unusedVariables false
set_option linter.unusedSimpArgs false
theorem awake24 : rl_law24_awake = some true := rl_law24_awake_le 200 _ (by kernel_rfl)
theorem sum_snoc (l : List Int) (x : Int) : (l ++ [x]).sum = l.sum + x := by simp
theorem take_sum {l : List Int} {i : Nat} (h : i < l.length) : (l.take (i + 1)).sum = (l.take i).sum + l.getD i 0 := by
  rw [List.take_add_one, List.getD_eq_getElem?_getD, List.getElem?_eq_getElem h]
  simp only [Option.toList_some, Option.getD_some, sum_snoc]
theorem sum_nonneg : ∀ {l : List Int}, (∀ x ∈ l, 0 ≤ x) → 0 ≤ l.sum
  | [], _ => by simp
  | x :: l, h => by
    have h1 := h x List.mem_cons_self
    have h2 := sum_nonneg (l := l) fun y hy => h y (List.mem_cons_of_mem _ hy)
    rw [List.sum_cons]; omega
theorem take_le {l : List Int} (h : ∀ x ∈ l, 0 ≤ x) (i : Nat) : 0 ≤ (l.take i).sum ∧ (l.take i).sum ≤ l.sum := by
  have h1 := sum_nonneg (l := l.take i) fun y hy => h y (List.mem_of_mem_take hy)
  have h2 := sum_nonneg (l := l.drop i) fun y hy => h y (List.mem_of_mem_drop hy)
  have h3 : l.sum = (l.take i).sum + (l.drop i).sum := by rw [← List.sum_append, List.take_append_drop]
  omega
theorem set_sum {y : Int} : ∀ {l : List Int} {i : Nat}, i < l.length → (l.set i (l.getD i 0 + y)).sum = l.sum + y
  | [], _, h => absurd h (by simp)
  | x :: l, 0, _ => by simp; omega
  | x :: l, i + 1, h => by
    have := set_sum (y := y) (l := l) (i := i) (by simpa using h)
    simp only [List.set_cons_succ, List.getD_cons_succ, List.sum_cons, this]
    omega
/-- counts of the patterns of n fields -/
def CV (n : Nat) (c : List Int) : Prop := c.length = 3 ^ n ∧ (∀ x ∈ c, 0 ≤ x) ∧ c.sum ≤ 4096
theorem CV.get {n : Nat} {c : List Int} (h : CV n c) {i : Nat} (hi : i < c.length) : 0 ≤ c.getD i 0 ∧ c.getD i 0 ≤ 4096 := by
  have h1 := take_sum hi
  have h2 := take_le h.2.1 i
  have h3 := take_le h.2.1 (i + 1)
  have h4 := all_getD h.2.1 hi
  have h5 := h.2.2
  omega
theorem psize_eq {n : Nat} (h1 : 1 ≤ n) (h5 : n ≤ 5) : pattern_Size (n : Int) = some (((3 ^ n : Nat) : Int), 0) := by
  unfold pattern_Size
  rw [if_neg (by simp only [decide_eq_true_eq]; omega), decide_eq_false (by omega)]
  unfold pattern_Size_k1
  rw [if_neg (by decide), pow_loop (step := fun v : Int × Int => pattern_Size_l2 (n : Int) v.1 v.2) h5 (fun v => rfl), bind1_pure]
theorem pcount_yes {x : Int} (h : 0 ≤ x ∧ x ≤ 4096) : pattern_count x = some true := by
  unfold pattern_count
  rw [if_pos (by simp only [decide_eq_true_eq]; omega), decide_eq_true h.2]
  rfl
theorem psum_eq {n : Nat} {c : List Int} (h : CV n c) (hl : c.length ≤ 243) : pattern_sum c = some (c.sum, true) := by
  unfold pattern_sum
  have hloop := loop_for (step := fun v : Int × Int => pattern_sum_l1 c v.1 v.2) (fun i => ((c.take i).sum, (i : Int))) c.length (.inl c.sum) (fun i hi => by
      have h1 := take_le h.2.1 i
      have h2 := h.get hi
      have h3 := h.2.2
      simp only [pattern_sum_l1, Int.toNat_natCast]
      rw [if_pos (by simp only [decide_eq_true_eq]; omega), if_pos (by omega), if_pos (by omega), pcount_yes h2, bind1_pure, if_neg (by decide), wi64 (by omega) (by omega), wi64 (by omega) (by omega), take_sum hi]
      rfl) (by
      simp only [pattern_sum_l1]
      rw [if_neg (by simp), List.take_of_length_le (Nat.le_refl _)]) (s := (0, 0)) rfl
  rw [hloop, bindE_l]
  rfl
theorem pcheck_yes {n : Nat} {c : List Int} (h1 : 1 ≤ n) (h5 : n ≤ 5) (h : CV n c) : pattern_Check c (n : Int) = some 0 := by
  have h3 := pow3_le h5
  have h4 := h.1
  have h6 := take_le h.2.1 c.length
  rw [List.take_of_length_le (Nat.le_refl _)] at h6
  unfold pattern_Check
  rw [psize_eq h1 h5, bind2_pure, if_neg (by decide), if_neg (by rw [h4]; simp), psum_eq h (by omega), bind2_pure, if_neg (by decide), pcount_yes ⟨h6.1, h.2.2⟩, bind1_pure]
  rfl
theorem em_check_yes {m : S_api_Model} {c : List Int} (hm : MV m) (h : CV m.Match.length c) : em_check m c = some 0 := by
  unfold em_check
  rw [em_check_eq, if_pos hm, bind1_pure, if_neg (by decide), pcheck_yes hm.2.1 hm.2.2.1 h, bind1_pure]
theorem size_eq {n : Nat} (h5 : n ≤ 5) : rl_ref17_Size (n : Int) = some ((3 ^ n : Nat) : Int) := by
  unfold rl_ref17_Size
  rw [pow_loop (step := fun v : Int × Int => rl_ref17_Size_l1 (n : Int) v.1 v.2) h5 (fun v => rfl), bind1_pure]
theorem CV.zero (n : Nat) : CV n (List.replicate (3 ^ n) 0) := by
  refine ⟨List.length_replicate, fun x hx => by rw [List.eq_of_mem_replicate hx]; decide, ?_⟩
  have : ∀ k : Nat, (List.replicate k (0 : Int)).sum = 0 := fun k => by
    induction k with
    | zero => rfl
    | succ k ih => rw [List.replicate_succ, List.sum_cons, ih]; rfl
  rw [this]; decide
theorem counts_yes {d : S_recordlinkmake_Deck} (hd : DeckOk d) {n : Nat} (h5 : n ≤ 5) : ∃ c d', rl_make_Deck_Counts d (n : Int) = some (c, d') ∧ CV n c ∧ DeckOk d' := by
  have h3 := pow3_le h5
  unfold rl_make_Deck_Counts
  rw [pow_loop (step := fun v : Int × Int => rl_make_Deck_Counts_l1 (n : Int) v.1 v.2) h5 (fun v => rfl), bind1_pure, if_pos (by omega), if_pos (by omega), Int.toNat_natCast]
  obtain ⟨x, d1, he, x0, x1, hd1⟩ := next_yes hd (n := 20) (by decide) (by decide)
  rw [he]; clear he; first | rw [bind2_pure] | rw [bind3_pure] | rw [bind4_pure] | rw [bind1_pure]
  obtain ⟨k, rfl⟩ := Int.eq_ofNat_of_zero_le x0
  obtain ⟨t, e1, t1, t2⟩ := loop_inv (step := fun v : (List Int) × Int × (List Int) × Int × Int => rl_make_Deck_Counts_l2 ((3 ^ n : Nat) : Int) v.1 v.2.1 v.2.2.1 v.2.2.2.1 v.2.2.2.2) k
    (fun j v => v.2.1 = (k : Int) - (j : Int) ∧ v.1.length = 3 ^ n ∧ (∀ x ∈ v.1, 0 ≤ x) ∧ v.1.sum ≤ 40 * (j : Int) ∧ DeckOk ⟨v.2.2.1, v.2.2.2.1, v.2.2.2.2⟩)
    (fun t => CV n t.1 ∧ DeckOk ⟨t.2.1, t.2.2.1, t.2.2.2⟩) (by
      rintro j hj ⟨l, i, a, b, c⟩ ⟨s1, s2, s3, s4, s5⟩
      left
      simp only [rl_make_Deck_Counts_l2] at s1 s2 s3 s4 s5 ⊢
      subst s1
      rw [if_pos (by simp only [decide_eq_true_eq]; omega)]
      obtain ⟨x, d2, he, x0, x1, hd2⟩ := next_yes s5 (n := ((3 ^ n : Nat) : Int)) (by omega) (by omega)
      rw [he]; clear he; first | rw [bind2_pure] | rw [bind3_pure] | rw [bind4_pure] | rw [bind1_pure]
      obtain ⟨u, rfl⟩ := Int.eq_ofNat_of_zero_le x0
      rw [if_pos (by omega), if_pos (by omega)]
      obtain ⟨y, d3, he, y0, y1, hd3⟩ := next_yes hd2 (n := 40) (by decide) (by decide)
      rw [he]; clear he; first | rw [bind2_pure] | rw [bind3_pure] | rw [bind4_pure] | rw [bind1_pure]
      have hu : u < l.length := by omega
      have g1 := all_getD s3 hu
      have g2 := take_sum hu
      have g3 := take_le s3 u
      have g4 := take_le s3 (u + 1)
      simp only [Int.toNat_natCast, Nat.zero_add]
      rw [wi64 (n := (k : Int) - (j : Int) - 1) (by omega) (by omega), wi64 (n := l.getD u 0 + y) (by omega) (by omega)]
      refine ⟨_, rfl, by simp only; omega, by simp only [List.length_set]; exact s2, set_all s3 (P := fun x => 0 ≤ x) (by omega) _, ?_, hd3⟩
      simp only
      rw [set_sum hu]
      omega) (by
      rintro ⟨l, i, a, b, c⟩ ⟨s1, s2, s3, s4, s5⟩
      simp only [rl_make_Deck_Counts_l2] at s1 s2 s3 s4 s5 ⊢
      subst s1
      rw [if_neg (by simp only [decide_eq_true_eq]; omega)]
      exact ⟨_, rfl, ⟨s2, s3, by simp only; omega⟩, s5⟩) (s := (List.replicate (3 ^ n) 0, (k : Int), d1.list, d1.at_, d1.state)) ⟨by simp, List.length_replicate, (CV.zero n).2.1, (by
      have h0 : ∀ k : Nat, (List.replicate k (0 : Int)).sum = 0 := fun k => by
        induction k with
        | zero => rfl
        | succ k ih => rw [List.replicate_succ, List.sum_cons, ih]; rfl
      simp only [h0]; decide), hd1⟩
  rw [e1]
  exact ⟨t.1, ⟨t.2.1, t.2.2.1, t.2.2.2⟩, rfl, t1, t2⟩
/-! The same. -/
theorem ints_eq {p q : List Int} (h : p.length < 1000000) : rl_ref01_Ints p q = some (decide (p = q)) := by
  unfold rl_ref01_Ints
  by_cases hl : p.length = q.length
  · rw [if_neg (by simp; omega)]
    obtain ⟨t, h1, h2⟩ := loop_inv (step := fun v : Int => rl_ref01_Ints_l1 p q v) p.length (fun i s => s = (i : Int) ∧ ∀ j, j < i → p[j]? = q[j]?) (fun t => (t = .inl () ∧ p = q) ∨ (t = .inr () ∧ p ≠ q)) (by
      rintro i hi s ⟨rfl, hs⟩
      by_cases he : p[i]? = q[i]?
      · exact .inl ⟨((i + 1 : Nat) : Int), by grind [rl_ref01_Ints_l1, wi64], rfl, fun j hj => by grind⟩
      · exact .inr ⟨.inr (), by grind [rl_ref01_Ints_l1], .inr ⟨rfl, fun e => he (by rw [e])⟩⟩) (by
      rintro s ⟨rfl, hs⟩
      exact ⟨.inl (), by grind [rl_ref01_Ints_l1], .inl ⟨rfl, List.ext_getElem? fun j => by
        by_cases hj : j < p.length
        · exact hs j hj
        · rw [List.getElem?_eq_none (by omega), List.getElem?_eq_none (by omega)]⟩⟩) (s := 0) ⟨rfl, fun j hj => absurd hj (by omega)⟩
    rw [h1]
    rcases h2 with ⟨rfl, rfl⟩ | ⟨rfl, hn⟩
    · simp [bindE, rl_ref01_Ints_a2]
    · simp [bindE, rl_ref01_Ints_a3, hn]
  · rw [if_pos (by simp; omega)]
    rw [decide_eq_false (fun e => hl (by rw [e]))]
theorem equal_eq {p q : List Int} (h : p.length < 1000000) : slices_Equal_int p q = some (decide (p = q)) := by
  unfold slices_Equal_int
  by_cases hl : p.length = q.length
  · rw [if_neg (by simp; omega)]
    obtain ⟨t, h1, h2⟩ := loop_inv (step := fun v : Int => slices_Equal_int_l1 p q v) p.length (fun i s => s = (i : Int) ∧ ∀ j, j < i → p[j]? = q[j]?) (fun t => (t = .inl () ∧ p = q) ∨ (t = .inr () ∧ p ≠ q)) (by
      rintro i hi s ⟨rfl, hs⟩
      by_cases he : p[i]? = q[i]?
      · exact .inl ⟨((i + 1 : Nat) : Int), by grind [slices_Equal_int_l1, wi64], rfl, fun j hj => by grind⟩
      · exact .inr ⟨.inr (), by grind [slices_Equal_int_l1], .inr ⟨rfl, fun e => he (by rw [e])⟩⟩) (by
      rintro s ⟨rfl, hs⟩
      exact ⟨.inl (), by grind [slices_Equal_int_l1], .inl ⟨rfl, List.ext_getElem? fun j => by
        by_cases hj : j < p.length
        · exact hs j hj
        · rw [List.getElem?_eq_none (by omega), List.getElem?_eq_none (by omega)]⟩⟩) (s := 0) ⟨rfl, fun j hj => absurd hj (by omega)⟩
    rw [h1]
    rcases h2 with ⟨rfl, rfl⟩ | ⟨rfl, hn⟩
    · simp [bindE, slices_Equal_int_a2]
    · simp [bindE, slices_Equal_int_a3, hn]
  · rw [if_pos (by simp; omega)]
    rw [decide_eq_false (fun e => hl (by rw [e]))]
instance (x y : S_api_Model) : Decidable (x = y) := decidable_of_iff (x.Prior = y.Prior ∧ x.Match = y.Match ∧ x.Random = y.Random) ⟨fun h => by cases x; cases y; simp_all, fun h => by subst h; exact ⟨rfl, rfl, rfl⟩⟩
theorem model_ext {x y : S_api_Model} (h1 : x.Prior = y.Prior) (h2 : x.Match = y.Match) (h3 : x.Random = y.Random) : x = y := by cases x; cases y; simp_all
theorem rsame_eq {x y : S_api_Model} (h1 : x.Match.length < 1000000) (h2 : x.Random.length < 1000000) : rl_ref24_Same x y = some (decide (x = y)) := by
  unfold rl_ref24_Same rl_ref24_Same_k1
  by_cases c1 : x.Prior = y.Prior
  · rw [if_pos (by simp [c1]), ints_eq h1, bind1_pure]
    by_cases c2 : x.Match = y.Match
    · rw [decide_eq_true c2, if_pos rfl, ints_eq h2, bind1_pure]
      by_cases c3 : x.Random = y.Random
      · rw [decide_eq_true c3, decide_eq_true (model_ext c1 c2 c3)]
      · rw [decide_eq_false c3, decide_eq_false (fun h => c3 (by rw [h]))]
    · rw [decide_eq_false c2, if_neg (by decide), decide_eq_false (fun h => c2 (by rw [h]))]
  · rw [if_neg (by simp [c1]), decide_eq_false (fun h => c1 (by rw [h]))]
theorem msame_eq {x y : S_api_Model} (h1 : x.Match.length < 1000000) (h2 : x.Random.length < 1000000) : em_Same x y = some (decide (x = y)) := by
  unfold em_Same em_model_same em_model_same_k1
  by_cases c1 : x.Prior = y.Prior
  · rw [if_pos (by simp [c1]), equal_eq h1, bind1_pure]
    by_cases c2 : x.Match = y.Match
    · rw [decide_eq_true c2, if_pos rfl, equal_eq h2, bind1_pure]
      by_cases c3 : x.Random = y.Random
      · rw [decide_eq_true c3, decide_eq_true (model_ext c1 c2 c3), bind1_pure]
      · rw [decide_eq_false c3, decide_eq_false (fun h => c3 (by rw [h])), bind1_pure]
    · rw [decide_eq_false c2, if_neg (by decide), decide_eq_false (fun h => c2 (by rw [h])), bind1_pure]
  · rw [if_neg (by simp [c1]), decide_eq_false (fun h => c1 (by rw [h])), bind1_pure]
theorem iclone_eq {l : List Int} (h : l.length < 1000000) : slices_Clone_int l = some l := by
  grind [slices_Clone_int, orBoth]
end Go.Proofs.Ytilpgjoidgfbiaa
