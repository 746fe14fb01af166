/- The plain law of SimilarityThresholds. -/
import Derived.Test.YteholdifeilkkaaPe
import Derived.Test.YteholdifeilkkaaGE0
import Derived.Test.YteholdifeilkkaaGL9
namespace Go.Proofs.Yteholdifeilkkaa
open Vm
theorem awake17 : rl_law17_awake = some true := rl_law17_awake_le 100 _ (by kernel_rfl)
theorem mem_snoc {P : Int → Prop} {l : List Int} {x : Int} (h : ∀ y ∈ l, P y) (hx : P x) : ∀ y ∈ l ++ [x], P y := by
  intro y hy
  rcases List.mem_append.1 hy with hy | hy
  · exact h y hy
  · simp only [List.mem_singleton] at hy; subst hy; exact hx
/-- thresholds and similarities that were dealt -/
def TSS (n : Nat) (low high s : List Int) : Prop := low.length = n ∧ high.length = n ∧ s.length = n ∧ RightTS high s ∧ RightTS low s ∧ ∀ i, i < n → low.getD i 0 ≤ high.getD i 0
theorem TSS.snoc {n : Nat} {low high s : List Int} (h : TSS n low high s) {a b c : Int} (h1 : 0 ≤ b ∧ b ≤ a ∧ a ≤ 1000) (h2 : -1 ≤ c ∧ c ≤ 1000) : TSS (n + 1) (low ++ [b]) (high ++ [a]) (s ++ [c]) := by
  obtain ⟨l1, l2, l3, ⟨r1, r2⟩, ⟨r3, _⟩, r4⟩ := h
  refine ⟨by simp [l1], by simp [l2], by simp [l3], ⟨mem_snoc r1 (by omega), mem_snoc r2 h2⟩, ⟨mem_snoc r3 (by omega), mem_snoc r2 h2⟩, fun i hi => ?_⟩
  by_cases hn : i < n
  · have := r4 i hn
    simp only [List.getD_eq_getElem?_getD] at this ⊢
    rwa [List.getElem?_append_left (by omega), List.getElem?_append_left (by omega)]
  · have : i = n := by omega
    subst this
    simp only [List.getD_eq_getElem?_getD]
    rw [List.getElem?_append_right (by omega), List.getElem?_append_right (by omega), l1, l2]
    simp; omega
theorem deal_tss {d : S_recordlinkmake_Deck} (hd : DeckOk d) {k : Nat} (hk : k < 5) : ∃ low high s, loop (fun v : (List Int) × (List Int) × (List Int) × Int × (List Int) × Int × Int => rl_law17_SimilarityThresholds_l6 k v.1 v.2.1 v.2.2.1 v.2.2.2.1 v.2.2.2.2.1 v.2.2.2.2.2.1 v.2.2.2.2.2.2) (([] : List Int), ([] : List Int), ([] : List Int), 0, d.list, d.at_, d.state) = some (low, high, s) ∧ TSS (1 + k) low high s := by
  obtain ⟨⟨y1, y2, y3⟩, h1, h2⟩ := loop_inv (step := fun v : (List Int) × (List Int) × (List Int) × Int × (List Int) × Int × Int => rl_law17_SimilarityThresholds_l6 k v.1 v.2.1 v.2.2.1 v.2.2.2.1 v.2.2.2.2.1 v.2.2.2.2.2.1 v.2.2.2.2.2.2) (1 + k)
      (fun i v => TSS i v.1 v.2.1 v.2.2.1 ∧ v.2.2.2.1 = (i : Int) ∧ DeckOk ⟨v.2.2.2.2.1, v.2.2.2.2.2.1, v.2.2.2.2.2.2⟩) (fun t => TSS (1 + k) t.1 t.2.1 t.2.2) (by
    rintro i hi ⟨x17, x18, x19, x20, x21, x22, x23⟩ ⟨h1, h2, h3⟩
    simp only at h1 h2 h3
    subst h2
    left
    have l1 := h1.1; have l2 := h1.2.1; have l3 := h1.2.2.1
    simp only [rl_law17_SimilarityThresholds_l6]
    rw [wi64 (n := 1 + (k : Int)) (by omega) (by omega), if_pos (by simp only [decide_eq_true_eq]; omega)]
    obtain ⟨a, d1, he, a0, a1, hd1⟩ := next_yes h3 (n := 1001) (by decide) (by decide)
    rw [he]; clear he; first | rw [bind2_pure] | rw [bind3_pure] | rw [bind4_pure] | rw [bind1_pure]
    rw [if_pos (by simp; omega), wi64 (n := a + 1) (by omega) (by omega)]
    obtain ⟨b, d2, he, b0, b1, hd2⟩ := next_yes hd1 (n := a + 1) (by omega) (by omega)
    rw [he]; clear he; first | rw [bind2_pure] | rw [bind3_pure] | rw [bind4_pure] | rw [bind1_pure]
    rw [if_pos (by simp; omega)]
    obtain ⟨c, d3, he, c0, c1, hd3⟩ := next_yes hd2 (n := 1002) (by decide) (by decide)
    rw [he]; clear he; first | rw [bind2_pure] | rw [bind3_pure] | rw [bind4_pure] | rw [bind1_pure]
    rw [if_pos (by simp; omega), wi64 (n := c - 1) (by omega) (by omega), wi64 (by omega) (by omega)]
    exact ⟨_, rfl, h1.snoc (by omega) (by omega), rfl, hd3⟩) (by
    rintro ⟨x17, x18, x19, x20, x21, x22, x23⟩ ⟨h1, h2, h3⟩
    simp only at h1 h2 h3
    subst h2
    simp only [rl_law17_SimilarityThresholds_l6]
    rw [wi64 (by omega) (by omega), if_neg (by simp)]
    exact ⟨_, rfl, h1⟩) (s := (([] : List Int), ([] : List Int), ([] : List Int), 0, d.list, d.at_, d.state)) ⟨⟨rfl, rfl, rfl, ⟨fun x hx => (by cases hx), fun x hx => (by cases hx)⟩, ⟨fun x hx => (by cases hx), fun x hx => (by cases hx)⟩, fun i hi => absurd hi (by omega)⟩, rfl, hd⟩
  exact ⟨y1, y2, y3, h1, h2⟩
theorem zip_getD {f : Int → Int → Int} {a b : List Int} {i : Nat} (h1 : i < a.length) (h2 : i < b.length) : (List.zipWith f a b).getD i 0 = f (a.getD i 0) (b.getD i 0) := by
  simp only [List.getD_eq_getElem?_getD]
  rw [List.getElem?_eq_getElem (by simp; omega), List.getElem_zipWith, List.getElem?_eq_getElem h1, List.getElem?_eq_getElem h2]
  rfl
theorem thresholds_law (p : List Int) : rl_law17_SimilarityThresholds p = some true := by
  unfold rl_law17_SimilarityThresholds
  rw [awake17]
  simp only [Option.bind_some, Bool.not_true, Bool.false_eq_true, if_false, rl_make_Few]
  by_cases hp : p.length ≤ 400
  rotate_left
  · rw [decide_eq_false (by omega : ¬ ((p.length : Nat) : Int) ≤ 400)]
    simp only [Bool.not_false, rl_law17_SimilarityThresholds_k4, if_true, awake17, Option.bind_some]
  rw [decide_eq_true (by omega : ((p.length : Nat) : Int) ≤ 400)]
  simp only [Bool.not_true, rl_law17_SimilarityThresholds_k4, Bool.false_eq_true, if_false]
  obtain ⟨d, he, hd⟩ := new_yes hp
  rw [he]; clear he; simp only [Option.bind_some]
  obtain ⟨v, d1, he, v0, v1, hd1⟩ := next_yes hd (n := 5) (by decide) (by decide)
  rw [he]; clear he; first | rw [bind2_pure] | rw [bind3_pure] | rw [bind4_pure] | rw [bind1_pure]
  obtain ⟨k, rfl⟩ := Int.eq_ofNat_of_zero_le v0
  obtain ⟨low, high, s, he, ht⟩ := deal_tss hd1 (k := k) (by omega)
  rw [he]; clear he; first | rw [bind2_pure] | rw [bind3_pure] | rw [bind4_pure] | rw [bind1_pure]
  obtain ⟨l1, l2, l3, r1, r2, r3⟩ := ht
  have z1 : ∀ x ∈ List.zipWith outc high s, 0 ≤ x ∧ x ≤ 2 := zip_all fun a b => outc_range a b
  have z2 : ∀ x ∈ List.zipWith outc low s, 0 ≤ x ∧ x ≤ 2 := zip_all fun a b => outc_range a b
  have n1 := num3_range _ z1
  have n2 := num3_range _ z2
  have d1 := digs_num3 _ z1
  have d2 := digs_num3 _ z2
  rw [List.length_zipWith, l2, l3, Nat.min_self] at n1 d1
  rw [List.length_zipWith, l1, l3, Nat.min_self] at n2 d2
  have hp := pow3_le (i := 1 + k) (by omega)
  have g1 : (List.zipWith outc high s).length = 1 + k := by simp; omega
  have g2 : (List.zipWith outc low s).length = 1 + k := by simp; omega
  rw [pattern_eq (by omega), if_pos (by omega), if_pos r1, bind2_pure, pattern_eq (by omega), if_pos (by omega), if_pos r2, bind2_pure]
  rw [wi64 (by omega) (by omega), show 1 + (k : Int) = ((1 + k : Nat) : Int) by omega]
  rw [digits_eq (by omega), if_pos (by omega), Int.toNat_natCast, if_pos n1, bind2_pure, digits_eq (by omega), if_pos (by omega), Int.toNat_natCast, if_pos n2, bind2_pure, d1, d2]
  rw [if_neg (by simp), if_neg (by simp), if_neg (by simp), if_neg (by simp), if_neg (by rw [g1]; simp), g2]
  unfold rl_law17_SimilarityThresholds_k10
  rw [if_neg (by simp)]
  have hL : loop (fun v : Int => rl_law17_SimilarityThresholds_l42 k high s (List.zipWith outc high s) (List.zipWith outc low s) v) 0 = some (.inl ()) := by
    refine loop_for (fun i => (i : Int)) (1 + k) _ (fun i hi => ?_) ?_ rfl
    · have h3 := r3 i hi
      have h4 : 0 ≤ high.getD i 0 := (r1.1 _ (by rw [List.getD_eq_getElem?_getD, List.getElem?_eq_getElem (by omega)]; exact List.getElem_mem _)).1
      have h5 : 0 ≤ low.getD i 0 := (r2.1 _ (by rw [List.getD_eq_getElem?_getD, List.getElem?_eq_getElem (by omega)]; exact List.getElem_mem _)).1
      have e1 := zip_getD (f := outc) (a := high) (b := s) (i := i) (by omega) (by omega)
      have e2 := zip_getD (f := outc) (a := low) (b := s) (i := i) (by omega) (by omega)
      unfold rl_law17_SimilarityThresholds_l42 rl_law17_SimilarityThresholds_k46
      simp only [Int.toNat_natCast, Nat.zero_add, e1, e2, g1, g2, l2, l3]
      rw [wi64 (n := 1 + (k : Int)) (by omega) (by omega)]
      have g7 := wi64 (n := (i : Int) + 1) (by omega) (by omega)
      generalize high.getD i 0 = a at *
      generalize low.getD i 0 = b at *
      generalize s.getD i 0 = c at *
      clear r1 r2 r3 z1 z2 n1 n2 d1 d2 g1 g2 e1 e2 l1 l2 l3
      unfold outc
      grind
    · unfold rl_law17_SimilarityThresholds_l42
      rw [wi64 (by omega) (by omega), if_neg (by simp)]
  rw [hL, bindE_l]
  rfl
end Go.Proofs.Yteholdifeilkkaa
