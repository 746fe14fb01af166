/- Plain: dealt models and weights; the weights of a model. -/
import Derived.Test.YtafmpnilgknfhaaWe
import Derived.Test.YtafmpnilgknfhaaDk
namespace Go.Proofs.Ytafmpnilgknfhaa
open Vm
set_option linter.unusedVariables false
theorem wlog_any (n d : Int) : ∃ x e, weight_Log n d = some (x, e) := by
  by_cases h : 1 ≤ n ∧ n ≤ 65536 ∧ 1 ≤ d ∧ d ≤ 65536
  · obtain ⟨a, rfl⟩ := Int.eq_ofNat_of_zero_le (show 0 ≤ n by omega)
    obtain ⟨b, rfl⟩ := Int.eq_ofNat_of_zero_le (show 0 ≤ d by omega)
    obtain ⟨x, h1, _⟩ := wlog_eq (n := a) (d := b) (by omega) (by omega) (by omega) (by omega)
    exact ⟨_, _, h1⟩
  · exact ⟨_, _, wlog_out h⟩
/-- The logarithm of one probability over another: its sign. -/
theorem plog {a b : Int} (a0 : 1 ≤ a) (a1 : a ≤ 65536) (b0 : 1 ≤ b) (b1 : b ≤ 65536) : ∃ x, weight_Log a b = some (x, 0) ∧ -290 ≤ x ∧ x ≤ 290 ∧ (0 ≤ x ↔ b ≤ a) := by
  obtain ⟨n, rfl⟩ := Int.eq_ofNat_of_zero_le (show 0 ≤ a by omega)
  obtain ⟨d, rfl⟩ := Int.eq_ofNat_of_zero_le (show 0 ≤ b by omega)
  obtain ⟨x, h1, h2, h3, h4⟩ := glog n d (by omega) (by omega) (by omega) (by omega)
  refine ⟨x, h1, h3, by omega, ?_⟩
  rw [h2.sign (Nat.pow_pos (by omega)), Nat.pow_le_pow_iff_left (by decide)]
  omega
theorem snoc_all {P : Int → Prop} {l : List Int} (h : ∀ x ∈ l, P x) {y : Int} (hy : P y) : ∀ x ∈ l ++ [y], P x := by
  intro x hx
  rcases List.mem_append.1 hx with k | k
  · exact h x k
  · rw [List.mem_singleton.1 k]; exact hy
theorem all_getD {P : Int → Prop} {l : List Int} (h : ∀ x ∈ l, P x) {i : Nat} (hi : i < l.length) : P (l.getD i 0) := by
  refine h _ ?_
  rw [List.getD_eq_getElem?_getD, List.getElem?_eq_getElem hi]
  exact List.getElem_mem hi
theorem getD_snoc {l : List Int} {y : Int} {i : Nat} : (l ++ [y]).getD i 0 = if i = l.length then y else l.getD i 0 := by
  simp only [List.getD_eq_getElem?_getD, List.getElem?_append]
  split
  · rw [if_neg (by omega)]
  · split
    · rename_i h1 h2; subst h2; simp
    · rw [List.getElem?_eq_none (by simp; omega), List.getElem?_eq_none (by omega)]
theorem set_all {P : Int → Prop} {l : List Int} (h : ∀ x ∈ l, P x) {y : Int} (hy : P y) (i : Nat) : ∀ x ∈ l.set i y, P x := by
  intro x hx
  rcases List.mem_or_eq_of_mem_set hx with k | k
  · exact h x k
  · rw [k]; exact hy
theorem range_yes {d : S_recordlinkmake_Deck} (h : DeckOk d) {a b : Int} (h1 : a ≤ b) (h0 : -1000 ≤ a) (h2 : b ≤ 1000) : ∃ v d', rl_play_Range d a b = some (v, d') ∧ a ≤ v ∧ v ≤ b ∧ DeckOk d' := by
  unfold rl_play_Range
  rw [wi64 (n := b - a) (by omega) (by omega), wi64 (n := b - a + 1) (by omega) (by omega)]
  obtain ⟨v, d1, he, v0, v1, hd1⟩ := next_yes h (n := b - a + 1) (by omega) (by omega)
  rw [he]; clear he; first | rw [bind2_pure] | rw [bind3_pure] | rw [bind4_pure] | rw [bind1_pure]
  exact ⟨_, _, rfl, by rw [wi64 (by omega) (by omega)]; omega, by rw [wi64 (by omega) (by omega)]; omega, hd1⟩
theorem weights_yes {d : S_recordlinkmake_Deck} (h : DeckOk d) {n : Nat} (h1 : 1 ≤ n) (h2 : n ≤ 5) : ∃ w d', rl_play_Weights d (n : Int) = some (w, d') ∧ w.Agree.length = n ∧ WV w ∧ DeckOk d' := by
  unfold rl_play_Weights
  obtain ⟨p, d1, he, p0, p1, hd1⟩ := range_yes h (a := -40) (b := 10) (by decide) (by decide) (by decide)
  rw [he]; clear he; first | rw [bind2_pure] | rw [bind3_pure] | rw [bind4_pure] | rw [bind1_pure]
  obtain ⟨t, e1, t1, t2, t3, t4, t5⟩ := loop_inv (step := fun v : Int × (List Int) × Int × Int × (List Int) × (List Int) => rl_play_Weights_l1 (n : Int) v.1 v.2.1 v.2.2.1 v.2.2.2.1 v.2.2.2.2.1 v.2.2.2.2.2) n
    (fun i s => s.1 = (i : Int) ∧ s.2.2.2.2.1.length = i ∧ s.2.2.2.2.2.length = i ∧ (∀ x ∈ s.2.2.2.2.1, -60 ≤ x ∧ x ≤ 60) ∧ (∀ x ∈ s.2.2.2.2.2, -60 ≤ x ∧ x ≤ 60) ∧ DeckOk ⟨s.2.1, s.2.2.1, s.2.2.2.1⟩)
    (fun t => t.2.2.2.1.length = n ∧ t.2.2.2.2.length = n ∧ (∀ x ∈ t.2.2.2.1, -60 ≤ x ∧ x ≤ 60) ∧ (∀ x ∈ t.2.2.2.2, -60 ≤ x ∧ x ≤ 60) ∧ DeckOk ⟨t.1, t.2.1, t.2.2.1⟩) (by
    rintro i hi ⟨j, a, b, c, u, v⟩ ⟨rfl, s1, s2, s3, s4, s5⟩
    left
    simp only [rl_play_Weights_l1] at s1 s2 s3 s4 s5 ⊢
    rw [if_pos (by simpa using hi)]
    obtain ⟨x, d2, he, x0, x1, hd2⟩ := range_yes s5 (a := -3) (b := 60) (by decide) (by decide) (by decide)
    rw [he]; clear he; first | rw [bind2_pure] | rw [bind3_pure] | rw [bind4_pure] | rw [bind1_pure]
    rw [if_pos (by simp; omega)]
    obtain ⟨y, d3, he, y0, y1, hd3⟩ := range_yes hd2 (a := -60) (b := 3) (by decide) (by decide) (by decide)
    rw [he]; clear he; first | rw [bind2_pure] | rw [bind3_pure] | rw [bind4_pure] | rw [bind1_pure]
    rw [if_pos (by simp; omega), wi64 (by omega) (by omega)]
    exact ⟨_, rfl, by omega, by simp [s1], by simp [s2], snoc_all s3 (by omega), snoc_all s4 (by omega), hd3⟩) (by
    rintro ⟨j, a, b, c, u, v⟩ ⟨rfl, s1, s2, s3, s4, s5⟩
    exact ⟨_, by simp only [rl_play_Weights_l1]; rw [if_neg (by simp)], s1, s2, s3, s4, s5⟩) (s := (0, d1.list, d1.at_, d1.state, ([] : List Int), ([] : List Int))) ⟨rfl, rfl, rfl, by simp, by simp, hd1⟩
  rw [e1]
  refine ⟨_, _, rfl, t1, ⟨by simp only; omega, by simp only; omega, by simp only; omega, ⟨by simp only; omega, by simp only; omega⟩, fun i hi => ?_⟩, t5⟩
  have a1 := all_getD t3 hi
  have a2 := all_getD t4 (i := i) (by simp only at hi; omega)
  exact ⟨⟨by simp only; omega, by simp only; omega⟩, ⟨by simp only; omega, by simp only; omega⟩⟩
theorem one_num {d : S_recordlinkmake_Deck} (h : DeckOk d) : ∃ v d', rl_make_Deck_One d 6 = some (v, d') ∧ DeckOk d' := one_yes h (by decide) (by decide)
theorem model_yes {d : S_recordlinkmake_Deck} (h : DeckOk d) {n : Nat} (h1 : 1 ≤ n) (h2 : n ≤ 5) : ∃ m d', rl_make_Deck_Model d (n : Int) = some (m, d') ∧ m.Match.length = n ∧ MV m ∧ DeckOk d' := by
  unfold rl_make_Deck_Model
  obtain ⟨p, d1, he, p0, p1, hd1⟩ := next_yes h (n := 65535) (by decide) (by decide)
  rw [he]; clear he; first | rw [bind2_pure] | rw [bind3_pure] | rw [bind4_pure] | rw [bind1_pure]
  obtain ⟨t, e1, t1, t2, t3, t4, t5⟩ := loop_inv (step := fun v : Int × (List Int) × Int × Int × (List Int) × (List Int) => rl_make_Deck_Model_l1 (n : Int) v.1 v.2.1 v.2.2.1 v.2.2.2.1 v.2.2.2.2.1 v.2.2.2.2.2) n
    (fun i s => s.1 = (i : Int) ∧ s.2.2.2.2.1.length = i ∧ s.2.2.2.2.2.length = i ∧ (∀ x ∈ s.2.2.2.2.1, prob x) ∧ (∀ x ∈ s.2.2.2.2.2, prob x) ∧ DeckOk ⟨s.2.1, s.2.2.1, s.2.2.2.1⟩)
    (fun t => t.2.2.2.1.length = n ∧ t.2.2.2.2.length = n ∧ (∀ x ∈ t.2.2.2.1, prob x) ∧ (∀ x ∈ t.2.2.2.2, prob x) ∧ DeckOk ⟨t.1, t.2.1, t.2.2.1⟩) (by
    rintro i hi ⟨j, a, b, c, u, v⟩ ⟨rfl, s1, s2, s3, s4, s5⟩
    left
    simp only [rl_make_Deck_Model_l1] at s1 s2 s3 s4 s5 ⊢
    rw [if_pos (by simpa using hi)]
    obtain ⟨x, d2, he, x0, x1, hd2⟩ := next_yes s5 (n := 32768) (by decide) (by decide)
    rw [he]; clear he; first | rw [bind2_pure] | rw [bind3_pure] | rw [bind4_pure] | rw [bind1_pure]
    rw [if_pos (by simp; omega)]
    obtain ⟨y, d3, he, y0, y1, hd3⟩ := next_yes hd2 (n := 32768) (by decide) (by decide)
    rw [he]; clear he; first | rw [bind2_pure] | rw [bind3_pure] | rw [bind4_pure] | rw [bind1_pure]
    rw [if_pos (by simp; omega)]
    obtain ⟨o, d4, he, hd4⟩ := one_num hd3
    rw [he]; clear he; first | rw [bind2_pure] | rw [bind3_pure] | rw [bind4_pure] | rw [bind1_pure]
    have hx : prob (IntKind.i64.wrap (32768 + x)) := by rw [wi64 (by omega) (by omega)]; exact ⟨by omega, by omega⟩
    have hy : prob (IntKind.i64.wrap (1 + y)) := by rw [wi64 (by omega) (by omega)]; exact ⟨by omega, by omega⟩
    by_cases ho : o = true
    · rw [if_pos ho]
      obtain ⟨z, d5, he, z0, z1, hd5⟩ := next_yes hd4 (n := 2) (by decide) (by decide)
      rw [he]; clear he; first | rw [bind2_pure] | rw [bind3_pure] | rw [bind4_pure] | rw [bind1_pure]
      rw [if_pos z0, if_pos (by simp; omega), if_pos (by omega), if_pos (by simp; omega)]
      unfold rl_make_Deck_Model_k2
      have hz : prob (([1, 65535] : List Int).getD (0 + z.toNat) 0) := by
        obtain ⟨k, rfl⟩ := Int.eq_ofNat_of_zero_le z0
        have : k = 0 ∨ k = 1 := by omega
        rcases this with rfl | rfl <;> exact ⟨by decide, by decide⟩
      rw [wi64 (n := (i : Int) + 1) (by omega) (by omega)]
      exact ⟨_, rfl, by omega, by simp [s1], by simp [s2], set_all (snoc_all s3 hx) hz _, snoc_all s4 hy, hd5⟩
    · rw [if_neg ho]
      unfold rl_make_Deck_Model_k2
      rw [wi64 (n := (i : Int) + 1) (by omega) (by omega)]
      exact ⟨_, rfl, by omega, by simp [s1], by simp [s2], snoc_all s3 hx, snoc_all s4 hy, hd4⟩) (by
    rintro ⟨j, a, b, c, u, v⟩ ⟨rfl, s1, s2, s3, s4, s5⟩
    exact ⟨_, by simp only [rl_make_Deck_Model_l1]; rw [if_neg (by simp)], s1, s2, s3, s4, s5⟩) (s := (0, d1.list, d1.at_, d1.state, ([] : List Int), ([] : List Int))) ⟨rfl, rfl, rfl, by simp, by simp, hd1⟩
  rw [e1]
  refine ⟨_, _, rfl, t1, ⟨by simp only; omega, by simp only; omega, by simp only; omega, ?_, fun i hi => all_getD t3 hi, fun i hi => all_getD t4 (by simp only at hi; omega)⟩, t5⟩
  simp only
  rw [wi64 (by omega) (by omega)]
  exact ⟨by omega, by omega⟩
/-- The weights of a right model. -/
theorem of_yes {m : S_api_Model} (h : MV m) : ∃ w, weight_Of m = some (w, 0) ∧ WV w ∧ w.Agree.length = m.Match.length ∧ (0 ≤ w.Prior ↔ 65536 - m.Prior ≤ m.Prior) ∧
    ∀ i, i < m.Match.length → (0 ≤ w.Agree.getD i 0 ↔ m.Random.getD i 0 ≤ m.Match.getD i 0) ∧ (0 ≤ w.Differ.getD i 0 ↔ m.Match.getD i 0 ≤ m.Random.getD i 0) := by
  unfold weight_Of
  rw [em_check_eq, if_pos h, bind1_pure, if_neg (by decide)]
  have hp := h.2.2.2.1
  unfold prob at hp
  rw [wi64 (n := 65536 - m.Prior) (by omega) (by omega)]
  obtain ⟨x, ex, x0, x1, x2⟩ := plog (a := m.Prior) (b := 65536 - m.Prior) (by omega) (by omega) (by omega) (by omega)
  rw [ex, bind2_pure]
  obtain ⟨t, e1, t1, t2, t3⟩ := loop_inv (step := fun v : Int × (List Int) × (List Int) => weight_Of_l1 m v.1 v.2.1 v.2.2) m.Match.length
    (fun i s => s.1 = (i : Int) ∧ s.2.1.length = i ∧ s.2.2.length = i ∧ ∀ k, k < i → fits (s.2.1.getD k 0) ∧ fits (s.2.2.getD k 0) ∧ (0 ≤ s.2.1.getD k 0 ↔ m.Random.getD k 0 ≤ m.Match.getD k 0) ∧ (0 ≤ s.2.2.getD k 0 ↔ m.Match.getD k 0 ≤ m.Random.getD k 0))
    (fun t => t.1.length = m.Match.length ∧ t.2.length = m.Match.length ∧ ∀ k, k < m.Match.length → fits (t.1.getD k 0) ∧ fits (t.2.getD k 0) ∧ (0 ≤ t.1.getD k 0 ↔ m.Random.getD k 0 ≤ m.Match.getD k 0) ∧ (0 ≤ t.2.getD k 0 ↔ m.Match.getD k 0 ≤ m.Random.getD k 0)) (by
    rintro i hi ⟨j, u, v⟩ ⟨rfl, s1, s2, s3⟩
    left
    have h5 := h.2.2.1
    have a1 := h.2.2.2.2.1 i hi
    have a2 := h.2.2.2.2.2 i hi
    have h6 := h.1
    unfold prob at a1 a2
    simp only [weight_Of_l1, Int.toNat_natCast] at s1 s2 s3 ⊢
    rw [if_pos (by simpa using hi), if_pos (by omega), if_pos (by omega), if_pos (by omega)]
    obtain ⟨y, ey, y0, y1, y2⟩ := plog (a := m.Match.getD i 0) (b := m.Random.getD i 0) (by omega) (by omega) (by omega) (by omega)
    obtain ⟨z, ez, z0, z1, z2⟩ := plog (a := 65536 - m.Match.getD i 0) (b := 65536 - m.Random.getD i 0) (by omega) (by omega) (by omega) (by omega)
    rw [ey, bind2_pure, wi64 (n := 65536 - m.Match.getD i 0) (by omega) (by omega), wi64 (n := 65536 - m.Random.getD i 0) (by omega) (by omega), ez, bind2_pure, if_pos (by simp; omega), if_pos (by simp; omega), wi64 (by omega) (by omega)]
    refine ⟨_, rfl, by omega, by simp [s1], by simp [s2], fun k hk => ?_⟩
    rw [getD_snoc, getD_snoc, s1, s2]
    by_cases hki : k = i
    · subst hki
      rw [if_pos rfl, if_pos rfl]
      exact ⟨⟨by omega, by omega⟩, ⟨by omega, by omega⟩, y2, by omega⟩
    · rw [if_neg hki, if_neg hki]
      exact s3 k (by omega)) (by
    rintro ⟨j, u, v⟩ ⟨rfl, s1, s2, s3⟩
    exact ⟨_, by simp only [weight_Of_l1]; rw [if_neg (by simp)], s1, s2, s3⟩) (s := (0, ([] : List Int), ([] : List Int))) ⟨rfl, rfl, rfl, fun k hk => by omega⟩
  rw [e1]
  refine ⟨_, rfl, ⟨by simp only; omega, by have := h.2.1; simp only; omega, by have := h.2.2.1; simp only; omega, ⟨by simp only; omega, by simp only; omega⟩, fun i hi => ?_⟩, t1, x2, fun i hi => (t3 i hi).2.2⟩
  have := t3 i (by simp only at hi; omega)
  exact ⟨this.1, this.2.1⟩
theorem of_any (m : S_api_Model) : ∃ w e, weight_Of m = some (w, e) := by
  by_cases h : MV m
  · obtain ⟨w, h1, _⟩ := of_yes h
    exact ⟨_, _, h1⟩
  · unfold weight_Of
    rw [em_check_eq, if_neg h, bind1_pure, if_pos (by decide)]
    exact ⟨_, _, rfl⟩
end Go.Proofs.Ytafmpnilgknfhaa
