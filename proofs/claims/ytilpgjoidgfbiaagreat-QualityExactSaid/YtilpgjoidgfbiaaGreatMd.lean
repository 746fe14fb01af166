/- Plain: right models, dealt models, loops that look for a bad one. -/
import Derived.Test.YtilpgjoidgfbiaaGreatWd
import Derived.Test.YtilpgjoidgfbiaaGreatDk
namespace Go.Proofs.YtilpgjoidgfbiaaGreat
open Vm
set_option linter.unusedVariables false
abbrev S_api_Model := S_em_model
/-- A loop that looks for the first bad one. -/
theorem scan {τ : Type} {step : Int → Option (Int ⊕ (Unit ⊕ τ))} (n : Nat) (bad : Nat → Prop) (t : Nat → τ)
    (h : ∀ i, i < n → (bad i ∧ step (i : Int) = some (.inr (.inr (t i)))) ∨ (¬ bad i ∧ step (i : Int) = some (.inl ((i + 1 : Nat) : Int)))) (he : step (n : Int) = some (.inr (.inl ()))) :
    (loop step 0 = some (.inl ()) ∧ ∀ i, i < n → ¬ bad i) ∨ ∃ i, i < n ∧ bad i ∧ loop step 0 = some (.inr (t i)) := by
  have key : ∀ k j, j + k = n → (loop step (j : Int) = some (.inl ()) ∧ ∀ i, j ≤ i → i < n → ¬ bad i) ∨ ∃ i, i < n ∧ bad i ∧ loop step (j : Int) = some (.inr (t i)) := by
    intro k
    induction k with
    | zero =>
      intro j hj
      have : j = n := by omega
      subst this
      exact .inl ⟨loop_end he, fun i h1 h2 => by omega⟩
    | succ k ih =>
      intro j hj
      rcases h j (by omega) with ⟨hb, hs⟩ | ⟨hb, hs⟩
      · exact .inr ⟨j, by omega, hb, loop_end hs⟩
      · rw [loop_next hs]
        rcases ih (j + 1) (by omega) with ⟨h1, h2⟩ | h1
        · refine .inl ⟨h1, fun i h3 h4 => ?_⟩
          rcases Nat.lt_or_eq_of_le h3 with h5 | rfl
          · exact h2 i h5 h4
          · exact hb
        · exact .inr h1
  rcases key n 0 (by omega) with ⟨h1, h2⟩ | h1
  · exact .inl ⟨h1, fun i hi => h2 i (Nat.zero_le _) hi⟩
  · exact .inr h1
theorem or_dec {p : Prop} [Decidable p] {α : Type} {x : α} {a b : α} (h1 : p → x = a) (h2 : ¬ p → x = b) : (p ∧ x = a) ∨ (¬ p ∧ x = b) := by
  by_cases h : p
  · exact .inl ⟨h, h1 h⟩
  · exact .inr ⟨h, h2 h⟩
def prob (x : Int) : Prop := 1 ≤ x ∧ x < 65536
instance (x : Int) : Decidable (prob x) := by unfold prob; infer_instance
def MV (m : S_api_Model) : Prop := m.Match.length = m.Random.length ∧ 1 ≤ m.Match.length ∧ m.Match.length ≤ 5 ∧ prob m.Prior ∧ (∀ i, i < m.Match.length → prob (m.Match.getD i 0)) ∧ ∀ i, i < m.Match.length → prob (m.Random.getD i 0)
noncomputable instance (m : S_api_Model) : Decidable (MV m) := Classical.propDecidable _
theorem em_probability_eq (x : Int) : em_probability x = some (decide (prob x)) := by
  unfold em_probability em_probability_k1
  by_cases h : x ≥ 1
  · rw [if_pos (by simpa using h)]
    by_cases h2 : x < 65536
    · rw [decide_eq_true h2, decide_eq_true (show prob x from ⟨h, h2⟩)]
    · rw [decide_eq_false h2, decide_eq_false (fun k : prob x => h2 k.2)]
  · rw [if_neg (by simpa using h), decide_eq_false (fun k : prob x => h k.1)]
theorem em_contains {l : List Int} (hl : l.length ≤ 5) : slices_ContainsFunc_int_em_Check_f1 l = some (!decide (∀ i, i < l.length → prob (l.getD i 0))) := by
  unfold slices_ContainsFunc_int_em_Check_f1 slices_IndexFunc_int_em_Check_f1
  rcases scan (step := fun v : Int => slices_IndexFunc_int_em_Check_f1_l1 l v) l.length (fun i => ¬ prob (l.getD i 0)) (fun i => (i : Int)) (fun i hi => by
      refine or_dec (fun h => ?_) (fun h => ?_) <;> simp only [slices_IndexFunc_int_em_Check_f1_l1, em_Check_f1, Int.toNat_natCast, em_probability_eq, bind1_pure]
      · rw [if_pos (by simpa using hi), if_pos (by omega), if_pos (by omega), decide_eq_false h]
        rfl
      · rw [if_pos (by simpa using hi), if_pos (by omega), if_pos (by omega), decide_eq_true (Decidable.not_not.1 h), wi64 (by omega) (by omega)]
        rfl) (by simp only [slices_IndexFunc_int_em_Check_f1_l1]; rw [if_neg (by simp)]) with ⟨h1, h2⟩ | ⟨i, hi, hb, h1⟩
  · rw [h1, bindE_l]
    rw [decide_eq_true (fun i hi => Decidable.not_not.1 (h2 i hi))]
    rfl
  · rw [h1, bindE_r, decide_eq_false (fun k => hb (k i hi))]
    unfold slices_IndexFunc_int_em_Check_f1_a3
    rw [bind1_pure, decide_eq_true (by omega)]
    rfl
theorem em_check_eq (m : S_api_Model) : em_Check m = some (if MV m then 0 else 18) := by
  unfold em_Check em_Check_k1
  by_cases h1 : m.Match.length = m.Random.length
  · rw [if_neg (by simp [h1])]
    by_cases h2 : m.Match.length < 1
    · rw [if_pos (by simp; omega), if_pos rfl, if_neg (fun k => by have := k.2.1; omega)]
    rw [if_neg (by simp; omega)]
    by_cases h3 : m.Match.length > 5
    · rw [if_pos (by simp; omega), if_pos rfl, if_neg (fun k => by have := k.2.2.1; omega)]
    rw [if_neg (by simp; omega)]
    unfold em_Check_f1
    rw [em_probability_eq]
    simp only [bind1_pure]
    by_cases h4 : prob m.Prior
    · rw [decide_eq_true h4, if_neg (by decide), em_contains (by omega), bind1_pure]
      by_cases h5 : ∀ i, i < m.Match.length → prob (m.Match.getD i 0)
      · rw [decide_eq_true h5, if_neg (by decide), em_contains (by omega), bind1_pure]
        by_cases h6 : ∀ i, i < m.Random.length → prob (m.Random.getD i 0)
        · rw [decide_eq_true h6, if_neg (by decide), if_pos ⟨h1, by omega, by omega, h4, h5, fun i hi => h6 i (by omega)⟩]
        · rw [decide_eq_false h6, if_pos (show (!false) = true from rfl), if_neg (fun k => h6 fun i hi => k.2.2.2.2.2 i (by omega))]
      · rw [decide_eq_false h5, if_pos (show (!false) = true from rfl), if_pos trivial, if_neg (fun k => h5 k.2.2.2.2.1)]
    · rw [decide_eq_false h4, if_pos (show (!false) = true from rfl), if_pos trivial, if_neg (fun k => h4 k.2.2.2.1)]
  · rw [if_pos (by simp; omega), if_pos rfl, if_neg (fun k => h1 k.1)]
theorem ref24_right_eq (x : Int) : rl_ref24_right x = some (decide (prob x)) := by
  unfold rl_ref24_right rl_ref24_right_k1
  by_cases h : x ≥ 1
  · rw [if_pos (by simpa using h)]
    by_cases h2 : x < 65536
    · rw [decide_eq_true h2, decide_eq_true (show prob x from ⟨h, h2⟩)]
    · rw [decide_eq_false h2, decide_eq_false (fun k : prob x => h2 k.2)]
  · rw [if_neg (by simpa using h), decide_eq_false (fun k : prob x => h k.1)]
theorem ref24_check_eq (m : S_api_Model) : rl_ref24_Check m = some (if MV m then 0 else 18) := by
  unfold rl_ref24_Check
  have no : rl_ref24_Check_k1 m true = some 18 := rfl
  by_cases h2 : m.Match.length < 1
  · rw [if_pos (by simp; omega), no, if_neg (fun k => by have := k.2.1; omega)]
  rw [if_neg (by simp; omega)]
  by_cases h3 : m.Match.length > 5
  · rw [if_pos (by simp; omega), no, if_neg (fun k => by have := k.2.2.1; omega)]
  rw [if_neg (by simp; omega)]
  by_cases h1 : m.Match.length = m.Random.length
  · rw [if_neg (by simp [h1]), ref24_right_eq, bind1_pure]
    by_cases h4 : prob m.Prior
    · rw [decide_eq_true h4]
      unfold rl_ref24_Check_k1
      rw [if_neg (by decide)]
      rcases scan (step := fun v : Int => rl_ref24_Check_l2 m v) m.Match.length (fun i => ¬ (prob (m.Match.getD i 0) ∧ prob (m.Random.getD i 0))) (fun i => ()) (fun i hi => by
          refine or_dec (fun h => ?_) (fun h => ?_) <;> simp only [rl_ref24_Check_l2, rl_ref24_Check_k3, Int.toNat_natCast, ref24_right_eq, bind1_pure]
          · rw [if_pos (by simpa using hi), if_pos (by omega), if_pos (by omega)]
            by_cases h5 : prob (m.Match.getD i 0)
            · rw [decide_eq_true h5, if_neg (by decide), if_pos (by omega), decide_eq_false (fun k => h ⟨h5, k⟩)]
              rfl
            · rw [decide_eq_false h5]
              rfl
          · have h := Decidable.not_not.1 h
            rw [if_pos (by simpa using hi), if_pos (by omega), if_pos (by omega), decide_eq_true h.1, if_neg (by decide), if_pos (by omega), decide_eq_true h.2, if_neg (by decide), wi64 (by omega) (by omega)]
            rfl) (by simp only [rl_ref24_Check_l2]; rw [if_neg (by simp)]) with ⟨h5, h6⟩ | ⟨i, hi, hb, h5⟩
      · rw [h5, bindE_l, if_pos ⟨h1, by omega, by omega, h4, fun i hi => (Decidable.not_not.1 (h6 i hi)).1, fun i hi => (Decidable.not_not.1 (h6 i hi)).2⟩]
        rfl
      · rw [h5, bindE_r, if_neg (fun k => hb ⟨k.2.2.2.2.1 i hi, k.2.2.2.2.2 i hi⟩)]
        rfl
    · rw [decide_eq_false h4]
      rw [show (!false) = true from rfl, no, if_neg (fun k => h4 k.2.2.2.1)]
  · rw [if_pos (by simp; omega), no, if_neg (fun k => h1 k.1)]
theorem snoc_all {P : Int → Prop} {l : List Int} (h : ∀ x ∈ l, P x) {y : Int} (hy : P y) : ∀ x ∈ l ++ [y], P x := by
  intro x hx
  rcases List.mem_append.1 hx with k | k
  · exact h x k
  · rw [List.mem_singleton.1 k]; exact hy
theorem all_getD {P : Int → Prop} {l : List Int} (h : ∀ x ∈ l, P x) {i : Nat} (hi : i < l.length) : P (l.getD i 0) := by
  refine h _ ?_
  rw [List.getD_eq_getElem?_getD, List.getElem?_eq_getElem hi]
  exact List.getElem_mem hi
theorem getD_snoc {l : List Int} {y : Int} {i : Nat} : (l ++ [y]).getD i 0 = if i = l.length then y else l.getD i 0 := by
  simp only [List.getD_eq_getElem?_getD, List.getElem?_append]
  split
  · rw [if_neg (by omega)]
  · split
    · rename_i h1 h2; subst h2; simp
    · rw [List.getElem?_eq_none (by simp; omega), List.getElem?_eq_none (by omega)]
theorem set_all {P : Int → Prop} {l : List Int} (h : ∀ x ∈ l, P x) {y : Int} (hy : P y) (i : Nat) : ∀ x ∈ l.set i y, P x := by
  intro x hx
  rcases List.mem_or_eq_of_mem_set hx with k | k
  · exact h x k
  · rw [k]; exact hy
theorem one_num {d : S_recordlinkmake_Deck} (h : DeckOk d) : ∃ v d', rl_make_Deck_One d 6 = some (v, d') ∧ DeckOk d' := one_yes h (by decide) (by decide)
theorem model_yes {d : S_recordlinkmake_Deck} (h : DeckOk d) {n : Nat} (h1 : 1 ≤ n) (h2 : n ≤ 5) : ∃ m d', rl_make_Deck_Model d (n : Int) = some (m, d') ∧ m.Match.length = n ∧ MV m ∧ DeckOk d' := by
  unfold rl_make_Deck_Model
  obtain ⟨p, d1, he, p0, p1, hd1⟩ := next_yes h (n := 65535) (by decide) (by decide)
  rw [he]; clear he; first | rw [bind2_pure] | rw [bind3_pure] | rw [bind4_pure] | rw [bind1_pure]
  obtain ⟨t, e1, t1, t2, t3, t4, t5⟩ := loop_inv (step := fun v : Int × (List Int) × Int × Int × (List Int) × (List Int) => rl_make_Deck_Model_l1 (n : Int) v.1 v.2.1 v.2.2.1 v.2.2.2.1 v.2.2.2.2.1 v.2.2.2.2.2) n
    (fun i s => s.1 = (i : Int) ∧ s.2.2.2.2.1.length = i ∧ s.2.2.2.2.2.length = i ∧ (∀ x ∈ s.2.2.2.2.1, prob x) ∧ (∀ x ∈ s.2.2.2.2.2, prob x) ∧ DeckOk ⟨s.2.1, s.2.2.1, s.2.2.2.1⟩)
    (fun t => t.2.2.2.1.length = n ∧ t.2.2.2.2.length = n ∧ (∀ x ∈ t.2.2.2.1, prob x) ∧ (∀ x ∈ t.2.2.2.2, prob x) ∧ DeckOk ⟨t.1, t.2.1, t.2.2.1⟩) (by
    rintro i hi ⟨j, a, b, c, u, v⟩ ⟨rfl, s1, s2, s3, s4, s5⟩
    left
    simp only [rl_make_Deck_Model_l1] at s1 s2 s3 s4 s5 ⊢
    rw [if_pos (by simpa using hi)]
    obtain ⟨x, d2, he, x0, x1, hd2⟩ := next_yes s5 (n := 32768) (by decide) (by decide)
    rw [he]; clear he; first | rw [bind2_pure] | rw [bind3_pure] | rw [bind4_pure] | rw [bind1_pure]
    rw [if_pos (by simp; omega)]
    obtain ⟨y, d3, he, y0, y1, hd3⟩ := next_yes hd2 (n := 32768) (by decide) (by decide)
    rw [he]; clear he; first | rw [bind2_pure] | rw [bind3_pure] | rw [bind4_pure] | rw [bind1_pure]
    rw [if_pos (by simp; omega)]
    obtain ⟨o, d4, he, hd4⟩ := one_num hd3
    rw [he]; clear he; first | rw [bind2_pure] | rw [bind3_pure] | rw [bind4_pure] | rw [bind1_pure]
    have hx : prob (IntKind.i64.wrap (32768 + x)) := by rw [wi64 (by omega) (by omega)]; exact ⟨by omega, by omega⟩
    have hy : prob (IntKind.i64.wrap (1 + y)) := by rw [wi64 (by omega) (by omega)]; exact ⟨by omega, by omega⟩
    by_cases ho : o = true
    · rw [if_pos ho]
      obtain ⟨z, d5, he, z0, z1, hd5⟩ := next_yes hd4 (n := 2) (by decide) (by decide)
      rw [he]; clear he; first | rw [bind2_pure] | rw [bind3_pure] | rw [bind4_pure] | rw [bind1_pure]
      rw [if_pos z0, if_pos (by simp; omega), if_pos (by omega), if_pos (by simp; omega)]
      unfold rl_make_Deck_Model_k2
      have hz : prob (([1, 65535] : List Int).getD (0 + z.toNat) 0) := by
        obtain ⟨k, rfl⟩ := Int.eq_ofNat_of_zero_le z0
        have : k = 0 ∨ k = 1 := by omega
        rcases this with rfl | rfl <;> exact ⟨by decide, by decide⟩
      rw [wi64 (n := (i : Int) + 1) (by omega) (by omega)]
      exact ⟨_, rfl, by omega, by simp [s1], by simp [s2], set_all (snoc_all s3 hx) hz _, snoc_all s4 hy, hd5⟩
    · rw [if_neg ho]
      unfold rl_make_Deck_Model_k2
      rw [wi64 (n := (i : Int) + 1) (by omega) (by omega)]
      exact ⟨_, rfl, by omega, by simp [s1], by simp [s2], snoc_all s3 hx, snoc_all s4 hy, hd4⟩) (by
    rintro ⟨j, a, b, c, u, v⟩ ⟨rfl, s1, s2, s3, s4, s5⟩
    exact ⟨_, by simp only [rl_make_Deck_Model_l1]; rw [if_neg (by simp)], s1, s2, s3, s4, s5⟩) (s := (0, d1.list, d1.at_, d1.state, ([] : List Int), ([] : List Int))) ⟨rfl, rfl, rfl, by simp, by simp, hd1⟩
  rw [e1]
  refine ⟨_, _, rfl, t1, ⟨by simp only; omega, by simp only; omega, by simp only; omega, ?_, fun i hi => all_getD t3 hi, fun i hi => all_getD t4 (by simp only at hi; omega)⟩, t5⟩
  simp only
  rw [wi64 (by omega) (by omega)]
  exact ⟨by omega, by omega⟩
end Go.Proofs.YtilpgjoidgfbiaaGreat
