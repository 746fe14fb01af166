/- Plain: counts of patterns; models that are the same; one round of the estimate. -/
import Derived.Test.YtilpgjoidgfbiaaGreatEa
import Derived.Test.YtilpgjoidgfbiaaGreatGE0
namespace Go.Proofs.YtilpgjoidgfbiaaGreat
open Vm
set_option linter.unusedVariables false
set_option linter.unusedSimpArgs false
theorem awake24 : rl_law24_awake = some true := rl_law24_awake_le 200 _ (by kernel_rfl)
theorem sum_snoc (l : List Int) (x : Int) : (l ++ [x]).sum = l.sum + x := by simp
theorem take_sum {l : List Int} {i : Nat} (h : i < l.length) : (l.take (i + 1)).sum = (l.take i).sum + l.getD i 0 := by
  rw [List.take_add_one, List.getD_eq_getElem?_getD, List.getElem?_eq_getElem h]
  simp only [Option.toList_some, Option.getD_some, sum_snoc]
theorem sum_nonneg : ∀ {l : List Int}, (∀ x ∈ l, 0 ≤ x) → 0 ≤ l.sum
  | [], _ => by simp
  | x :: l, h => by
    have h1 := h x List.mem_cons_self
    have h2 := sum_nonneg (l := l) fun y hy => h y (List.mem_cons_of_mem _ hy)
    rw [List.sum_cons]; omega
theorem take_le {l : List Int} (h : ∀ x ∈ l, 0 ≤ x) (i : Nat) : 0 ≤ (l.take i).sum ∧ (l.take i).sum ≤ l.sum := by
  have h1 := sum_nonneg (l := l.take i) fun y hy => h y (List.mem_of_mem_take hy)
  have h2 := sum_nonneg (l := l.drop i) fun y hy => h y (List.mem_of_mem_drop hy)
  have h3 : l.sum = (l.take i).sum + (l.drop i).sum := by rw [← List.sum_append, List.take_append_drop]
  omega
theorem set_sum {y : Int} : ∀ {l : List Int} {i : Nat}, i < l.length → (l.set i (l.getD i 0 + y)).sum = l.sum + y
  | [], _, h => absurd h (by simp)
  | x :: l, 0, _ => by simp; omega
  | x :: l, i + 1, h => by
    have := set_sum (y := y) (l := l) (i := i) (by simpa using h)
    simp only [List.set_cons_succ, List.getD_cons_succ, List.sum_cons, this]
    omega
/-- counts of the patterns of n fields -/
def CV (n : Nat) (c : List Int) : Prop := c.length = 3 ^ n ∧ (∀ x ∈ c, 0 ≤ x) ∧ c.sum ≤ 4096
theorem CV.get {n : Nat} {c : List Int} (h : CV n c) {i : Nat} (hi : i < c.length) : 0 ≤ c.getD i 0 ∧ c.getD i 0 ≤ 4096 := by
  have h1 := take_sum hi
  have h2 := take_le h.2.1 i
  have h3 := take_le h.2.1 (i + 1)
  have h4 := all_getD h.2.1 hi
  have h5 := h.2.2
  omega
theorem psize_eq {n : Nat} (h1 : 1 ≤ n) (h5 : n ≤ 5) : pattern_Size (n : Int) = some (((3 ^ n : Nat) : Int), 0) := by
  unfold pattern_Size
  rw [if_neg (by simp only [decide_eq_true_eq]; omega), decide_eq_false (by omega)]
  unfold pattern_Size_k1
  rw [if_neg (by decide), pow_loop (step := fun v : Int × Int => pattern_Size_l2 (n : Int) v.1 v.2) h5 (fun v => rfl), bind1_pure]
theorem pcount_yes {x : Int} (h : 0 ≤ x ∧ x ≤ 4096) : pattern_count x = some true := by
  unfold pattern_count
  rw [if_pos (by simp only [decide_eq_true_eq]; omega), decide_eq_true h.2]
  rfl
theorem psum_eq {n : Nat} {c : List Int} (h : CV n c) (hl : c.length ≤ 243) : pattern_sum c = some (c.sum, true) := by
  unfold pattern_sum
  have hloop := loop_for (step := fun v : Int × Int => pattern_sum_l1 c v.1 v.2) (fun i => ((c.take i).sum, (i : Int))) c.length (.inl c.sum) (fun i hi => by
      have h1 := take_le h.2.1 i
      have h2 := h.get hi
      have h3 := h.2.2
      simp only [pattern_sum_l1, Int.toNat_natCast]
      rw [if_pos (by simp only [decide_eq_true_eq]; omega), if_pos (by omega), if_pos (by omega), pcount_yes h2, bind1_pure, if_neg (by decide), wi64 (by omega) (by omega), wi64 (by omega) (by omega), take_sum hi]
      rfl) (by
      simp only [pattern_sum_l1]
      rw [if_neg (by simp), List.take_of_length_le (Nat.le_refl _)]) (s := (0, 0)) rfl
  rw [hloop, bindE_l]
  rfl
theorem pcheck_yes {n : Nat} {c : List Int} (h1 : 1 ≤ n) (h5 : n ≤ 5) (h : CV n c) : pattern_Check c (n : Int) = some 0 := by
  have h3 := pow3_le h5
  have h4 := h.1
  have h6 := take_le h.2.1 c.length
  rw [List.take_of_length_le (Nat.le_refl _)] at h6
  unfold pattern_Check
  rw [psize_eq h1 h5, bind2_pure, if_neg (by decide), if_neg (by rw [h4]; simp), psum_eq h (by omega), bind2_pure, if_neg (by decide), pcount_yes ⟨h6.1, h.2.2⟩, bind1_pure]
  rfl
theorem em_check_yes {m : S_api_Model} {c : List Int} (hm : MV m) (h : CV m.Match.length c) : em_check m c = some 0 := by
  unfold em_check
  rw [em_check_eq, if_pos hm, bind1_pure, if_neg (by decide), pcheck_yes hm.2.1 hm.2.2.1 h, bind1_pure]
theorem size_eq {n : Nat} (h5 : n ≤ 5) : rl_ref17_Size (n : Int) = some ((3 ^ n : Nat) : Int) := by
  unfold rl_ref17_Size
  rw [pow_loop (step := fun v : Int × Int => rl_ref17_Size_l1 (n : Int) v.1 v.2) h5 (fun v => rfl), bind1_pure]
theorem CV.zero (n : Nat) : CV n (List.replicate (3 ^ n) 0) := by
  refine ⟨List.length_replicate, fun x hx => by rw [List.eq_of_mem_replicate hx]; decide, ?_⟩
  have : ∀ k : Nat, (List.replicate k (0 : Int)).sum = 0 := fun k => by
    induction k with
    | zero => rfl
    | succ k ih => rw [List.replicate_succ, List.sum_cons, ih]; rfl
  rw [this]; decide
theorem counts_yes {d : S_recordlinkmake_Deck} (hd : DeckOk d) {n : Nat} (h5 : n ≤ 5) : ∃ c d', rl_make_Deck_Counts d (n : Int) = some (c, d') ∧ CV n c ∧ DeckOk d' := by
  have h3 := pow3_le h5
  unfold rl_make_Deck_Counts
  rw [pow_loop (step := fun v : Int × Int => rl_make_Deck_Counts_l1 (n : Int) v.1 v.2) h5 (fun v => rfl), bind1_pure, if_pos (by omega), if_pos (by omega), Int.toNat_natCast]
  obtain ⟨x, d1, he, x0, x1, hd1⟩ := next_yes hd (n := 20) (by decide) (by decide)
  rw [he]; clear he; first | rw [bind2_pure] | rw [bind3_pure] | rw [bind4_pure] | rw [bind1_pure]
  obtain ⟨k, rfl⟩ := Int.eq_ofNat_of_zero_le x0
  obtain ⟨t, e1, t1, t2⟩ := loop_inv (step := fun v : (List Int) × Int × (List Int) × Int × Int => rl_make_Deck_Counts_l2 ((3 ^ n : Nat) : Int) v.1 v.2.1 v.2.2.1 v.2.2.2.1 v.2.2.2.2) k
    (fun j v => v.2.1 = (k : Int) - (j : Int) ∧ v.1.length = 3 ^ n ∧ (∀ x ∈ v.1, 0 ≤ x) ∧ v.1.sum ≤ 40 * (j : Int) ∧ DeckOk ⟨v.2.2.1, v.2.2.2.1, v.2.2.2.2⟩)
    (fun t => CV n t.1 ∧ DeckOk ⟨t.2.1, t.2.2.1, t.2.2.2⟩) (by
      rintro j hj ⟨l, i, a, b, c⟩ ⟨s1, s2, s3, s4, s5⟩
      left
      simp only [rl_make_Deck_Counts_l2] at s1 s2 s3 s4 s5 ⊢
      subst s1
      rw [if_pos (by simp only [decide_eq_true_eq]; omega)]
      obtain ⟨x, d2, he, x0, x1, hd2⟩ := next_yes s5 (n := ((3 ^ n : Nat) : Int)) (by omega) (by omega)
      rw [he]; clear he; first | rw [bind2_pure] | rw [bind3_pure] | rw [bind4_pure] | rw [bind1_pure]
      obtain ⟨u, rfl⟩ := Int.eq_ofNat_of_zero_le x0
      rw [if_pos (by omega), if_pos (by omega)]
      obtain ⟨y, d3, he, y0, y1, hd3⟩ := next_yes hd2 (n := 40) (by decide) (by decide)
      rw [he]; clear he; first | rw [bind2_pure] | rw [bind3_pure] | rw [bind4_pure] | rw [bind1_pure]
      have hu : u < l.length := by omega
      have g1 := all_getD s3 hu
      have g2 := take_sum hu
      have g3 := take_le s3 u
      have g4 := take_le s3 (u + 1)
      simp only [Int.toNat_natCast, Nat.zero_add]
      rw [wi64 (n := (k : Int) - (j : Int) - 1) (by omega) (by omega), wi64 (n := l.getD u 0 + y) (by omega) (by omega)]
      refine ⟨_, rfl, by simp only; omega, by simp only [List.length_set]; exact s2, set_all s3 (P := fun x => 0 ≤ x) (by omega) _, ?_, hd3⟩
      simp only
      rw [set_sum hu]
      omega) (by
      rintro ⟨l, i, a, b, c⟩ ⟨s1, s2, s3, s4, s5⟩
      simp only [rl_make_Deck_Counts_l2] at s1 s2 s3 s4 s5 ⊢
      subst s1
      rw [if_neg (by simp only [decide_eq_true_eq]; omega)]
      exact ⟨_, rfl, ⟨s2, s3, by simp only; omega⟩, s5⟩) (s := (List.replicate (3 ^ n) 0, (k : Int), d1.list, d1.at_, d1.state)) ⟨by simp, List.length_replicate, (CV.zero n).2.1, (by
      have h0 : ∀ k : Nat, (List.replicate k (0 : Int)).sum = 0 := fun k => by
        induction k with
        | zero => rfl
        | succ k ih => rw [List.replicate_succ, List.sum_cons, ih]; rfl
      simp only [h0]; decide), hd1⟩
  rw [e1]
  exact ⟨t.1, ⟨t.2.1, t.2.2.1, t.2.2.2⟩, rfl, t1, t2⟩
/-! The same. -/
theorem ints_eq {p q : List Int} (h : p.length < 1000000) : rl_ref01_Ints p q = some (decide (p = q)) := by
  unfold rl_ref01_Ints
  by_cases hl : p.length = q.length
  · rw [if_neg (by simp; omega)]
    obtain ⟨t, h1, h2⟩ := loop_inv (step := fun v : Int => rl_ref01_Ints_l1 p q v) p.length (fun i s => s = (i : Int) ∧ ∀ j, j < i → p[j]? = q[j]?) (fun t => (t = .inl () ∧ p = q) ∨ (t = .inr () ∧ p ≠ q)) (by
      rintro i hi s ⟨rfl, hs⟩
      by_cases he : p[i]? = q[i]?
      · exact .inl ⟨((i + 1 : Nat) : Int), by grind [rl_ref01_Ints_l1, wi64], rfl, fun j hj => by grind⟩
      · exact .inr ⟨.inr (), by grind [rl_ref01_Ints_l1], .inr ⟨rfl, fun e => he (by rw [e])⟩⟩) (by
      rintro s ⟨rfl, hs⟩
      exact ⟨.inl (), by grind [rl_ref01_Ints_l1], .inl ⟨rfl, List.ext_getElem? fun j => by
        by_cases hj : j < p.length
        · exact hs j hj
        · rw [List.getElem?_eq_none (by omega), List.getElem?_eq_none (by omega)]⟩⟩) (s := 0) ⟨rfl, fun j hj => absurd hj (by omega)⟩
    rw [h1]
    rcases h2 with ⟨rfl, rfl⟩ | ⟨rfl, hn⟩
    · simp [bindE, rl_ref01_Ints_a2]
    · simp [bindE, rl_ref01_Ints_a3, hn]
  · rw [if_pos (by simp; omega)]
    rw [decide_eq_false (fun e => hl (by rw [e]))]
theorem equal_eq {p q : List Int} (h : p.length < 1000000) : slices_Equal_int p q = some (decide (p = q)) := by
  unfold slices_Equal_int
  by_cases hl : p.length = q.length
  · rw [if_neg (by simp; omega)]
    obtain ⟨t, h1, h2⟩ := loop_inv (step := fun v : Int => slices_Equal_int_l1 p q v) p.length (fun i s => s = (i : Int) ∧ ∀ j, j < i → p[j]? = q[j]?) (fun t => (t = .inl () ∧ p = q) ∨ (t = .inr () ∧ p ≠ q)) (by
      rintro i hi s ⟨rfl, hs⟩
      by_cases he : p[i]? = q[i]?
      · exact .inl ⟨((i + 1 : Nat) : Int), by grind [slices_Equal_int_l1, wi64], rfl, fun j hj => by grind⟩
      · exact .inr ⟨.inr (), by grind [slices_Equal_int_l1], .inr ⟨rfl, fun e => he (by rw [e])⟩⟩) (by
      rintro s ⟨rfl, hs⟩
      exact ⟨.inl (), by grind [slices_Equal_int_l1], .inl ⟨rfl, List.ext_getElem? fun j => by
        by_cases hj : j < p.length
        · exact hs j hj
        · rw [List.getElem?_eq_none (by omega), List.getElem?_eq_none (by omega)]⟩⟩) (s := 0) ⟨rfl, fun j hj => absurd hj (by omega)⟩
    rw [h1]
    rcases h2 with ⟨rfl, rfl⟩ | ⟨rfl, hn⟩
    · simp [bindE, slices_Equal_int_a2]
    · simp [bindE, slices_Equal_int_a3, hn]
  · rw [if_pos (by simp; omega)]
    rw [decide_eq_false (fun e => hl (by rw [e]))]
instance (x y : S_api_Model) : Decidable (x = y) := decidable_of_iff (x.Prior = y.Prior ∧ x.Match = y.Match ∧ x.Random = y.Random) ⟨fun h => by cases x; cases y; simp_all, fun h => by subst h; exact ⟨rfl, rfl, rfl⟩⟩
theorem model_ext {x y : S_api_Model} (h1 : x.Prior = y.Prior) (h2 : x.Match = y.Match) (h3 : x.Random = y.Random) : x = y := by cases x; cases y; simp_all
theorem mrsame_eq {x y : S_api_Model} (h1 : x.Match.length < 1000000) (h2 : x.Random.length < 1000000) : rl_ref24_Same x y = some (decide (x = y)) := by
  unfold rl_ref24_Same rl_ref24_Same_k1
  by_cases c1 : x.Prior = y.Prior
  · rw [if_pos (by simp [c1]), ints_eq h1, bind1_pure]
    by_cases c2 : x.Match = y.Match
    · rw [decide_eq_true c2, if_pos rfl, ints_eq h2, bind1_pure]
      by_cases c3 : x.Random = y.Random
      · rw [decide_eq_true c3, decide_eq_true (model_ext c1 c2 c3)]
      · rw [decide_eq_false c3, decide_eq_false (fun h => c3 (by rw [h]))]
    · rw [decide_eq_false c2, if_neg (by decide), decide_eq_false (fun h => c2 (by rw [h]))]
  · rw [if_neg (by simp [c1]), decide_eq_false (fun h => c1 (by rw [h]))]
theorem msame_eq {x y : S_api_Model} (h1 : x.Match.length < 1000000) (h2 : x.Random.length < 1000000) : em_Same x y = some (decide (x = y)) := by
  unfold em_Same em_model_same em_model_same_k1
  by_cases c1 : x.Prior = y.Prior
  · rw [if_pos (by simp [c1]), equal_eq h1, bind1_pure]
    by_cases c2 : x.Match = y.Match
    · rw [decide_eq_true c2, if_pos rfl, equal_eq h2, bind1_pure]
      by_cases c3 : x.Random = y.Random
      · rw [decide_eq_true c3, decide_eq_true (model_ext c1 c2 c3), bind1_pure]
      · rw [decide_eq_false c3, decide_eq_false (fun h => c3 (by rw [h])), bind1_pure]
    · rw [decide_eq_false c2, if_neg (by decide), decide_eq_false (fun h => c2 (by rw [h])), bind1_pure]
  · rw [if_neg (by simp [c1]), decide_eq_false (fun h => c1 (by rw [h])), bind1_pure]
theorem iclone_eq {l : List Int} (h : l.length < 1000000) : slices_Clone_int l = some l := by
  grind [slices_Clone_int, orBoth]
def sw (t : S_em_sums) (c s : Int) (a : Bool) : S_em_sums := ⟨t.match_ + c * s, if a = true then t.matchAgree + c * s else t.matchAgree, t.random + c * (1073741824 - s), if a = true then t.randomAgree + c * (1073741824 - s) else t.randomAgree⟩
def BS (t : S_em_sums) (K : Int) : Prop := (0 ≤ t.match_ ∧ t.match_ ≤ K) ∧ (0 ≤ t.matchAgree ∧ t.matchAgree ≤ K) ∧ (0 ≤ t.random ∧ t.random ≤ K) ∧ (0 ≤ t.randomAgree ∧ t.randomAgree ≤ K)
theorem cs_in {c s : Int} (hc : 0 ≤ c) (hs : 0 ≤ s ∧ s ≤ 1073741824) : 0 ≤ c * s ∧ c * s ≤ c * 1073741824 ∧ 0 ≤ c * (1073741824 - s) ∧ c * (1073741824 - s) ≤ c * 1073741824 := by
  refine ⟨Int.mul_nonneg hc hs.1, Int.mul_le_mul_of_nonneg_left hs.2 hc, Int.mul_nonneg hc (by omega), Int.mul_le_mul_of_nonneg_left (by omega) hc⟩
theorem sw_in {t : S_em_sums} {K c s : Int} {a : Bool} (h : BS t K) (hc : 0 ≤ c) (hs : 0 ≤ s ∧ s ≤ 1073741824) : BS (sw t c s a) (K + c * 1073741824) := by
  obtain ⟨h1, h2, h3, h4⟩ := h
  obtain ⟨k1, k2, k3, k4⟩ := cs_in hc hs
  unfold sw BS
  simp only
  refine ⟨by omega, by split <;> omega, by omega, by split <;> omega⟩
theorem with_eq {t : S_em_sums} {K c s : Int} {a : Bool} (h : BS t K) (hK : K ≤ 4398046511104) (hc : 0 ≤ c ∧ c ≤ 4096) (hs : 0 ≤ s ∧ s ≤ 1073741824) : em_sums_with t c s a = some (sw t c s a) := by
  obtain ⟨h1, h2, h3, h4⟩ := h
  obtain ⟨k1, k2, k3, k4⟩ := cs_in hc.1 hs
  unfold em_sums_with em_sums_with_k1 sw
  rw [wi64 (n := 1073741824 - s) (by omega) (by omega), wi64 (n := c * s) (by omega) (by omega), wi64 (n := c * (1073741824 - s)) (by omega) (by omega), wi64 (n := t.match_ + c * s) (by omega) (by omega), wi64 (n := t.matchAgree + c * s) (by omega) (by omega), wi64 (n := t.random + c * (1073741824 - s)) (by omega) (by omega), wi64 (n := t.randomAgree + c * (1073741824 - s)) (by omega) (by omega), bind1_pure, bind1_pure, bind1_pure]
  cases a <;> rfl
/-- a field's sums and the sums of all, of the first patterns -/
def fS (m : S_api_Model) (c : List Int) (n f : Nat) : Nat → S_em_sums
  | 0 => dS_em_sums
  | p + 1 => if (digs n (p : Int)).getD f 0 > 0 then sw (fS m c n f p) (c.getD p 0) (sh m (p : Int)) ((digs n (p : Int)).getD f 0 == 2) else fS m c n f p
def tS (m : S_api_Model) (c : List Int) : Nat → S_em_sums
  | 0 => dS_em_sums
  | p + 1 => sw (tS m c p) (c.getD p 0) (sh m (p : Int)) true
theorem BS.mono {t : S_em_sums} {K L : Int} (h : BS t K) (hl : K ≤ L) : BS t L := by
  obtain ⟨h1, h2, h3, h4⟩ := h
  exact ⟨by omega, by omega, by omega, by omega⟩
theorem fS_in {m : S_api_Model} {c : List Int} {n f : Nat} (hm : MV m) (hc : ∀ x ∈ c, 0 ≤ x) : ∀ {p : Nat}, p ≤ c.length → BS (fS m c n f p) ((c.take p).sum * 1073741824)
  | 0, _ => by
    rw [fS, List.take_zero]
    exact ⟨⟨by decide, by decide⟩, ⟨by decide, by decide⟩, ⟨by decide, by decide⟩, ⟨by decide, by decide⟩⟩
  | p + 1, h => by
    have ih := fS_in (n := n) (f := f) hm hc (p := p) (by omega)
    have h1 := all_getD hc (i := p) (by omega)
    rw [fS, take_sum (by omega), Int.add_mul]
    split
    · exact sw_in ih h1 (sh_in hm _)
    · exact ih.mono (by have := Int.mul_nonneg h1 (show (0 : Int) ≤ 1073741824 by decide); omega)
theorem tS_in {m : S_api_Model} {c : List Int} (hm : MV m) (hc : ∀ x ∈ c, 0 ≤ x) : ∀ {p : Nat}, p ≤ c.length → BS (tS m c p) ((c.take p).sum * 1073741824)
  | 0, _ => by
    rw [tS, List.take_zero]
    exact ⟨⟨by decide, by decide⟩, ⟨by decide, by decide⟩, ⟨by decide, by decide⟩, ⟨by decide, by decide⟩⟩
  | p + 1, h => by
    have ih := tS_in hm hc (p := p) (by omega)
    have h1 := all_getD hc (i := p) (by omega)
    rw [tS, take_sum (by omega), Int.add_mul]
    exact sw_in ih h1 (sh_in hm _)
theorem sw_zero (t : S_em_sums) (s : Int) (a : Bool) : sw t 0 s a = t := by
  unfold sw
  cases a <;> simp
theorem small {c : List Int} {n : Nat} (h : CV n c) (p : Nat) : (c.take p).sum * 1073741824 ≤ 4398046511104 := by
  have h1 := take_le h.2.1 p
  have h2 := h.2.2
  omega
theorem sums_getD {l : List S_em_sums} {i j : Nat} {x : S_em_sums} (h : i < l.length) : (l.set i x).getD j dS_em_sums = if i = j then x else l.getD j dS_em_sums := by
  simp only [List.getD_eq_getElem?_getD, List.getElem?_set]
  split
  · rename_i e
    subst e
    rfl
  · rfl
/-- one pattern, over the fields -/
theorem fields_step {m : S_api_Model} {c : List Int} {n p : Nat} (hm : MV m) (hn : n ≤ 5) (hc : CV n c) (hp : p < c.length) {row : List S_em_sums} (h1 : row.length = n) (h2 : ∀ f, f < n → row.getD f dS_em_sums = fS m c n f p) :
    ∃ t, loop (fun v : (List S_em_sums) × Int => em_step_l3 c (p : Int) (sh m (p : Int)) (digs n (p : Int)) v.1 v.2) (row, 0) = some t ∧ t.length = n ∧ ∀ f, f < n → t.getD f dS_em_sums = fS m c n f (p + 1) := by
  have hlen := digs_length n (p : Int)
  refine loop_inv n (fun i (v : (List S_em_sums) × Int) => v.2 = (i : Int) ∧ v.1.length = n ∧ ∀ f, f < n → v.1.getD f dS_em_sums = fS m c n f (if f < i then p + 1 else p)) _ ?_ ?_ ⟨rfl, h1, fun f hf => by rw [if_neg (by omega)]; exact h2 f hf⟩
  · rintro i hi ⟨r, j⟩ ⟨s1, s2, s3⟩
    left
    simp only [em_step_l3, em_step_k4] at s1 s2 s3 ⊢
    subst s1
    simp only [Int.toNat_natCast, Nat.zero_add]
    rw [if_pos (by simp only [decide_eq_true_eq]; omega), if_pos (by omega), if_pos (by omega)]
    have e := s3 i hi
    rw [if_neg (by omega)] at e
    by_cases hd : (digs n (p : Int)).getD i 0 > 0
    · rw [if_pos (by simpa using hd), if_pos (by omega), e, with_eq (fS_in hm hc.2.1 (by omega)) (small hc p) (hc.get hp) (sh_in hm _), bind1_pure, wi64 (n := (i : Int) + 1) (by omega) (by omega)]
      refine ⟨_, rfl, by simp only; omega, by simp only [List.length_set]; exact s2, fun f hf => ?_⟩
      simp only
      rw [sums_getD (by omega)]
      by_cases hf2 : i = f
      · subst hf2
        rw [if_pos rfl, if_pos (by omega), fS, if_pos hd]
      · rw [if_neg hf2, s3 f hf]
        by_cases hf3 : f < i
        · rw [if_pos hf3, if_pos (by omega)]
        · rw [if_neg hf3, if_neg (by omega)]
    · rw [if_neg (by simpa using hd), wi64 (n := (i : Int) + 1) (by omega) (by omega)]
      refine ⟨_, rfl, by simp only; omega, s2, fun f hf => ?_⟩
      simp only
      by_cases hf2 : i = f
      · subst hf2
        rw [e, if_pos (by omega), fS, if_neg hd]
      · rw [s3 f hf]
        by_cases hf3 : f < i
        · rw [if_pos hf3, if_pos (by omega)]
        · rw [if_neg hf3, if_neg (by omega)]
  · rintro ⟨r, j⟩ ⟨s1, s2, s3⟩
    simp only [em_step_l3] at s1 s2 s3 ⊢
    subst s1
    rw [if_neg (by simp only [decide_eq_true_eq]; omega)]
    refine ⟨_, rfl, s2, fun f hf => ?_⟩
    rw [s3 f hf, if_pos hf]
/-- over the patterns -/
theorem patterns_loop {m : S_api_Model} {c : List Int} {n : Nat} (hm : MV m) (hn : n = m.Match.length) (hc : CV n c) :
    ∃ t, loop (fun v : (List S_em_sums) × Int × Int × Int × Int × Int => em_step_l1 m c v.1 v.2.1 v.2.2.1 v.2.2.2.1 v.2.2.2.2.1 v.2.2.2.2.2) (List.replicate n dS_em_sums, 0, 0, 0, 0, 0) = some t ∧ t.1.length = n ∧ (∀ f, f < n → t.1.getD f dS_em_sums = fS m c n f c.length) ∧ (⟨t.2.1, t.2.2.1, t.2.2.2.1, t.2.2.2.2⟩ : S_em_sums) = tS m c c.length := by
  have hn5 : n ≤ 5 := by have := hm.2.2.1; omega
  have hn1 : 1 ≤ n := by have := hm.2.1; omega
  have h3 := pow3_le hn5
  refine loop_inv c.length (fun p (v : (List S_em_sums) × Int × Int × Int × Int × Int) => v.2.1 = (p : Int) ∧ v.1.length = n ∧ (∀ f, f < n → v.1.getD f dS_em_sums = fS m c n f p) ∧ (⟨v.2.2.1, v.2.2.2.1, v.2.2.2.2.1, v.2.2.2.2.2⟩ : S_em_sums) = tS m c p) _ ?_ ?_ ⟨rfl, List.length_replicate, fun f hf => by
    rw [fS, List.getD_eq_getElem?_getD, List.getElem?_replicate, if_pos hf]; rfl, rfl⟩
  · rintro p hp ⟨r, j, a, b, e, g⟩ ⟨s1, s2, s3, s4⟩
    left
    simp only [em_step_l1, em_step_k2] at s1 s2 s3 s4 ⊢
    subst s1
    have hl := hc.1
    simp only [Int.toNat_natCast]
    rw [if_pos (by simp only [decide_eq_true_eq]; omega), if_pos (by omega), if_pos (by omega), wi64 (n := (p : Int) + 1) (by omega) (by omega)]
    by_cases h0 : c.getD p 0 = 0
    · rw [if_pos (by rw [beq_iff_eq]; exact h0)]
      refine ⟨_, rfl, by simp only; omega, s2, fun f hf => ?_, ?_⟩
      · simp only
        rw [s3 f hf, fS, h0, sw_zero, ite_self]
      · simp only
        rw [s4, tS, h0, sw_zero]
    · have hpn : PN m (p : Int) := by
        unfold PN; rw [← hn]; omega
      rw [if_neg (by rw [beq_iff_eq]; exact h0), share_eq hm hpn, bind2_pure, s2, digits_eq, if_pos (by omega), Int.toNat_natCast, if_pos (by omega), bind2_pure, s4, with_eq (tS_in hm hc.2.1 (by omega)) (small hc p) (hc.get hp) (sh_in hm _), bind1_pure]
      obtain ⟨t, e1, t1, t2⟩ := fields_step hm hn5 hc hp s2 s3
      rw [e1, bind1_pure]
      exact ⟨_, rfl, by simp only; omega, t1, t2, rfl⟩
  · rintro ⟨r, j, a, b, e, g⟩ ⟨s1, s2, s3, s4⟩
    simp only [em_step_l1] at s1 s2 s3 s4 ⊢
    subst s1
    rw [if_neg (by simp only [decide_eq_true_eq]; omega)]
    exact ⟨_, rfl, s2, s3, s4⟩
theorem b5pure {α β γ δ ε ζ : Type} (a : α) (b : β) (c : γ) (d : δ) (e : ε) (f : α → β → γ → δ → ε → Option ζ) : bind5 (some (a, b, c, d, e)) f = f a b c d e := rfl
/-! Quotients. -/
def clampQ (x : Int) : Int := if (65535 : Int) < (if (1 : Int) > x then 1 else x) then 65535 else (if (1 : Int) > x then 1 else x)
def quo (a b o : Int) : Int := if b = 0 then o else clampQ ((131072 * a + b) / (2 * b))
theorem clampQ_in (x : Int) : prob (clampQ x) := by
  unfold clampQ prob
  split <;> split <;> omega
theorem quo_in {a b o : Int} (h : prob o) : prob (quo a b o) := by
  unfold quo
  split
  · exact h
  · exact clampQ_in _
theorem quotient_eq {a b o : Int} (ha : 0 ≤ a ∧ a ≤ 8796093022208) (hb : 0 ≤ b ∧ b ≤ 8796093022208) : em_quotient a b o = some (quo a b o) := by
  unfold em_quotient quo
  by_cases h : b = 0
  · rw [if_pos (by simp [h]), if_pos h]
  · have h1 : 0 ≤ (131072 * a + b) / (2 * b) := Int.ediv_nonneg (by omega) (by omega)
    have h2 : (131072 * a + b) / (2 * b) ≤ 131072 * a + b := Int.ediv_le_self _ (by omega)
    rw [if_neg (by simp [h]), if_neg h, wi64 (n := 2 * b) (by omega) (by omega), if_pos (by omega), wi64 (n := 131072 * a) (by omega) (by omega), wi64 (n := 131072 * a + b) (by omega) (by omega), tdiv_nn (by omega), wi64 (n := (131072 * a + b) / (2 * b)) (by omega) (by omega), bind1_pure]
    rfl
def stepS (m : S_api_Model) (c : List Int) : S_api_Model :=
  ⟨quo (tS m c c.length).match_ ((tS m c c.length).match_ + (tS m c c.length).random) m.Prior,
   (List.range m.Match.length).map fun f => quo (fS m c m.Match.length f c.length).matchAgree (fS m c m.Match.length f c.length).match_ (m.Match.getD f 0),
   (List.range m.Match.length).map fun f => quo (fS m c m.Match.length f c.length).randomAgree (fS m c m.Match.length f c.length).random (m.Random.getD f 0)⟩
theorem step_eq {m : S_api_Model} {c : List Int} (hm : MV m) (hc : CV m.Match.length c) : em_step m c = some (stepS m c) := by
  obtain ⟨h1, h2, h3, h4, h5, h6⟩ := id hm
  unfold em_step
  rw [if_pos (by omega), if_pos (by omega), Int.toNat_natCast]
  obtain ⟨⟨row, a, b, e, g⟩, e1, t1, t2, t3⟩ := patterns_loop hm rfl hc
  rw [e1]
  simp only at t1 t2 t3
  have hT := tS_in hm hc.2.1 (p := c.length) (Nat.le_refl _)
  have hF : ∀ f, BS (fS m c m.Match.length f c.length) 4398046511104 := fun f => (fS_in hm hc.2.1 (Nat.le_refl _)).mono (small hc _)
  have hT2 := hT.mono (small hc _)
  rw [← t3] at hT2
  obtain ⟨k1, k2, k3, k4⟩ := hT2
  simp only at k1 k2 k3 k4
  rw [b5pure, wi64 (n := a + e) (by omega) (by omega), quotient_eq (by omega) (by omega), bind1_pure]
  have hloop := loop_for (step := fun v : Int × (List Int) × (List Int) => em_step_l5 m row v.1 v.2.1 v.2.2) (fun i => ((i : Int), (List.range i).map (fun f => quo (fS m c m.Match.length f c.length).matchAgree (fS m c m.Match.length f c.length).match_ (m.Match.getD f 0)), (List.range i).map fun f => quo (fS m c m.Match.length f c.length).randomAgree (fS m c m.Match.length f c.length).random (m.Random.getD f 0))) m.Match.length ((stepS m c).Match, (stepS m c).Random) (fun i hi => by
      simp only [em_step_l5, Int.toNat_natCast, Nat.zero_add]
      obtain ⟨g1, g2, g3, g4⟩ := hF i
      rw [if_pos (by simp only [decide_eq_true_eq]; omega), if_pos (by omega), if_pos (by omega), if_pos (by omega), t2 i hi, quotient_eq (by omega) (by omega), bind1_pure, if_pos (by simp only [List.length_map, List.length_range, List.length_cons, List.length_nil]; omega), if_pos (by omega), quotient_eq (by omega) (by omega), bind1_pure, if_pos (by simp only [List.length_map, List.length_range, List.length_cons, List.length_nil]; omega), wi64 (n := (i : Int) + 1) (by omega) (by omega), List.range_succ, List.map_append, List.map_append]
      rfl) (by
      simp only [em_step_l5]
      rw [if_neg (by simp only [decide_eq_true_eq]; omega)]
      rfl) (s := (0, [], [])) rfl
  rw [hloop, bind2_pure]
  unfold stepS
  rw [← t3]
theorem stepS_length (m : S_api_Model) (c : List Int) : (stepS m c).Match.length = m.Match.length ∧ (stepS m c).Random.length = m.Match.length := by
  unfold stepS
  simp
theorem range_getD {f : Nat → Int} {n i : Nat} (h : i < n) : ((List.range n).map f).getD i 0 = f i := by
  simp [List.getD_eq_getElem?_getD, List.getElem?_map, List.getElem?_range h]
theorem stepS_ok {m : S_api_Model} {c : List Int} (hm : MV m) : MV (stepS m c) := by
  obtain ⟨h1, h2, h3, h4, h5, h6⟩ := id hm
  obtain ⟨l1, l2⟩ := stepS_length m c
  refine ⟨by rw [l1, l2], by omega, by omega, quo_in h4, fun i hi => ?_, fun i hi => ?_⟩
  · rw [l1] at hi
    unfold stepS
    simp only
    rw [range_getD hi]
    exact quo_in (h5 i hi)
  · rw [l1] at hi
    unfold stepS
    simp only
    rw [range_getD hi]
    exact quo_in (h6 i hi)
theorem Step_eq {m : S_api_Model} {c : List Int} (hm : MV m) (hc : CV m.Match.length c) : em_Step m c = some (stepS m c, 0) := by
  unfold em_Step
  rw [em_check_yes hm hc, bind1_pure, if_neg (by decide), step_eq hm hc, bind1_pure]
theorem map_self {l : List Int} {n : Nat} (h : l.length = n) : (List.range n).map (fun f => l.getD f 0) = l := by
  subst h
  apply List.ext_getElem?
  intro i
  by_cases hi : i < l.length
  · rw [List.getElem?_map, List.getElem?_range hi, List.getElem?_eq_getElem hi, Option.map_some, List.getD_eq_getElem?_getD, List.getElem?_eq_getElem hi]
    rfl
  · rw [List.getElem?_eq_none (by simp; omega), List.getElem?_eq_none (by omega)]
theorem zero_fS {m : S_api_Model} {k n f : Nat} : ∀ p, p ≤ k → fS m (List.replicate k 0) n f p = dS_em_sums ∧ tS m (List.replicate k 0) p = dS_em_sums
  | 0, _ => ⟨rfl, rfl⟩
  | p + 1, h => by
    have ih := zero_fS (m := m) (k := k) (n := n) (f := f) p (Nat.le_of_succ_le h)
    have h0 : (List.replicate k (0 : Int)).getD p 0 = 0 := by rw [List.getD_eq_getElem?_getD, List.getElem?_replicate, if_pos (by omega)]; rfl
    rw [fS, tS, ih.1, ih.2, h0, sw_zero, sw_zero, ite_self]
    exact ⟨rfl, rfl⟩
theorem step_none {m : S_api_Model} (hm : MV m) (k : Nat) : stepS m (List.replicate k 0) = m := by
  obtain ⟨h1, h2, h3, h4, h5, h6⟩ := id hm
  unfold stepS
  rw [List.length_replicate]
  have e : ∀ f, fS m (List.replicate k 0) m.Match.length f k = dS_em_sums := fun f => (zero_fS k (Nat.le_refl _)).1
  rw [(zero_fS (m := m) (n := 0) (f := 0) k (Nat.le_refl _)).2]
  simp only [e]
  have q : ∀ o, quo 0 0 o = o := fun o => if_pos rfl
  refine model_ext ?_ ?_ ?_
  · exact q _
  · exact map_self (l := m.Match) rfl
  · exact map_self (l := m.Random) h1.symm
end Go.Proofs.YtilpgjoidgfbiaaGreat
