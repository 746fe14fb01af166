/- Plain: dealt sheets; all candidates of sheets. -/
import Derived.Test.YtknlckjpgmjenaaCd
namespace Go.Proofs.Ytknlckjpgmjenaa
open Vm
set_option linter.unusedVariables false
set_option linter.unusedSimpArgs false
theorem b5pure {α β γ δ ε ζ : Type} (a : α) (b : β) (c : γ) (d : δ) (e : ε) (f : α → β → γ → δ → ε → Option ζ) : bind5 (some (a, b, c, d, e)) f = f a b c d e := rfl
theorem array_yes {d : S_recordlinkmake_Deck} (h : DeckOk d) : ∃ b d', rl_play_Array d = some (b, d') ∧ EncF b ∧ DeckOk d' := by
  unfold rl_play_Array
  obtain ⟨o, d1, he, hd1⟩ := one_yes h (n := 8) (by decide) (by decide)
  rw [he]; clear he; first | rw [bind2_pure] | rw [bind3_pure] | rw [bind4_pure] | rw [bind1_pure]
  by_cases ho : o = true
  · rw [if_pos ho]
    exact ⟨_, _, rfl, .inl rfl, hd1⟩
  · rw [if_neg ho]
    obtain ⟨v, d2, he, v0, v1, hd2⟩ := next_yes hd1 (n := 6) (by decide) (by decide)
    rw [he]; clear he; first | rw [bind2_pure] | rw [bind3_pure] | rw [bind4_pure] | rw [bind1_pure]
    rw [if_pos v0, if_pos (by simp only [List.length_cons, List.length_nil]; omega)]
    refine ⟨_, _, rfl, ?_, hd2⟩
    obtain ⟨i, rfl⟩ := Int.eq_ofNat_of_zero_le v0
    have : i = 0 ∨ i = 1 ∨ i = 2 ∨ i = 3 ∨ i = 4 ∨ i = 5 := by omega
    rcases this with rfl | rfl | rfl | rfl | rfl | rfl
    · exact .inr ⟨255, by decide, rfl⟩
    · exact .inr ⟨254, by decide, rfl⟩
    · exact .inr ⟨61680, by decide, rfl⟩
    · exact .inr ⟨1, by decide, rfl⟩
    · exact .inr ⟨4294901760, by decide, rfl⟩
    · exact .inr ⟨0, by decide, rfl⟩
theorem fields_yes {d : S_recordlinkmake_Deck} (hd : DeckOk d) {n : Nat} (hn : n ≤ 5) : ∃ t, loop (fun v : Int × (List Int) × Int × Int × (List S_api_Bits) => rl_play_Sheet_l2 (n : Int) v.1 v.2.1 v.2.2.1 v.2.2.2.1 v.2.2.2.2) (0, d.list, d.at_, d.state, ([] : List S_api_Bits)) = some t ∧ DeckOk ⟨t.1, t.2.1, t.2.2.1⟩ ∧ t.2.2.2.length = n ∧ ∀ b ∈ t.2.2.2, EncF b := by
  refine loop_inv n (fun (i : Nat) (s : Int × (List Int) × Int × Int × (List S_api_Bits)) => s.1 = (i : Int) ∧ DeckOk ⟨s.2.1, s.2.2.1, s.2.2.2.1⟩ ∧ s.2.2.2.2.length = i ∧ ∀ b ∈ s.2.2.2.2, EncF b) (fun (t : (List Int) × Int × Int × (List S_api_Bits)) => DeckOk ⟨t.1, t.2.1, t.2.2.1⟩ ∧ t.2.2.2.length = n ∧ ∀ b ∈ t.2.2.2, EncF b) ?_ ?_ ⟨rfl, hd, rfl, fun b hb => absurd hb List.not_mem_nil⟩
  · rintro i hi ⟨j, a, b, c, l⟩ ⟨s1, s2, s3, s4⟩
    left
    simp only [rl_play_Sheet_l2] at s1 s2 s3 s4 ⊢
    subst s1
    rw [if_pos (by simp only [decide_eq_true_eq]; omega)]
    obtain ⟨x, d2, he, hx, hd2⟩ := array_yes s2
    rw [he, bind2_pure, if_pos (by simp only [List.length_cons, List.length_nil]; omega), wi64 (n := (i : Int) + 1) (by omega) (by omega)]
    refine ⟨_, rfl, rfl, hd2, by simp only [List.length_append, List.length_cons, List.length_nil]; omega, fun q hq => ?_⟩
    rcases List.mem_append.1 hq with h | h
    · exact s4 q h
    · rw [List.mem_singleton.1 h]; exact hx
  · rintro ⟨j, a, b, c, l⟩ ⟨s1, s2, s3, s4⟩
    simp only [rl_play_Sheet_l2] at s1 s2 s3 s4 ⊢
    subst s1
    rw [if_neg (by simp only [decide_eq_true_eq]; omega)]
    exact ⟨_, rfl, s2, s3, s4⟩
theorem keys_yes {d : S_recordlinkmake_Deck} (hd : DeckOk d) {k : Nat} (hk : k ≤ 8) : ∃ t, loop (fun v : Int × (List Int) × Int × Int × (List Int) × (List Bool) => rl_play_Sheet_l3 (k : Int) v.1 v.2.1 v.2.2.1 v.2.2.2.1 v.2.2.2.2.1 v.2.2.2.2.2) (0, d.list, d.at_, d.state, ([] : List Int), ([] : List Bool)) = some t ∧ DeckOk ⟨t.1, t.2.1, t.2.2.1⟩ ∧ t.2.2.2.1.length = k ∧ t.2.2.2.2.length = k := by
  refine loop_inv k (fun (i : Nat) (s : Int × (List Int) × Int × Int × (List Int) × (List Bool)) => s.1 = (i : Int) ∧ DeckOk ⟨s.2.1, s.2.2.1, s.2.2.2.1⟩ ∧ s.2.2.2.2.1.length = i ∧ s.2.2.2.2.2.length = i) (fun (t : (List Int) × Int × Int × (List Int) × (List Bool)) => DeckOk ⟨t.1, t.2.1, t.2.2.1⟩ ∧ t.2.2.2.1.length = k ∧ t.2.2.2.2.length = k) ?_ ?_ ⟨rfl, hd, rfl, rfl⟩
  · rintro i hi ⟨j, a, b, c, l, m⟩ ⟨s1, s2, s3, s4⟩
    left
    simp only [rl_play_Sheet_l3, rl_play_Sheet_k4] at s1 s2 s3 s4 ⊢
    subst s1
    rw [if_pos (by simp only [decide_eq_true_eq]; omega), wi64 (n := (i : Int) + 1) (by omega) (by omega)]
    obtain ⟨o, d2, he, hd2⟩ := one_yes s2 (n := 5) (by decide) (by decide)
    rw [he]; clear he; first | rw [bind2_pure] | rw [bind3_pure] | rw [bind4_pure] | rw [bind1_pure]
    by_cases ho : (!o) = true
    · rw [if_pos ho]
      obtain ⟨v, d3, he, v0, v1, hd3⟩ := next_yes hd2 (n := 3) (by decide) (by decide)
      rw [he]; clear he; first | rw [bind2_pure] | rw [bind3_pure] | rw [bind4_pure] | rw [bind1_pure]
      rw [if_pos (by simp only [List.length_cons, List.length_nil]; omega), if_pos (by simp only [List.length_cons, List.length_nil]; omega)]
      exact ⟨_, rfl, rfl, hd3, by simp only [List.length_append, List.length_cons, List.length_nil]; omega, by simp only [List.length_append, List.length_cons, List.length_nil]; omega⟩
    · rw [if_neg ho, if_pos (by simp only [List.length_cons, List.length_nil]; omega), if_pos (by simp only [List.length_cons, List.length_nil]; omega)]
      exact ⟨_, rfl, rfl, hd2, by simp only [List.length_append, List.length_cons, List.length_nil]; omega, by simp only [List.length_append, List.length_cons, List.length_nil]; omega⟩
  · rintro ⟨j, a, b, c, l, m⟩ ⟨s1, s2, s3, s4⟩
    simp only [rl_play_Sheet_l3] at s1 s2 s3 s4 ⊢
    subst s1
    rw [if_neg (by simp only [decide_eq_true_eq]; omega)]
    exact ⟨_, rfl, s2, s3, s4⟩
theorem sent_snoc {l : List S_api_Sent} {y : S_api_Sent} {i : Nat} : (l ++ [y]).getD i dS_api_Sent = if i = l.length then y else l.getD i dS_api_Sent := by
  simp only [List.getD_eq_getElem?_getD, List.getElem?_append]
  split
  · rw [if_neg (by omega)]
  · split
    · rename_i h1 h2; subst h2; simp
    · rw [List.getElem?_eq_none (by simp; omega), List.getElem?_eq_none (by omega)]
theorem sheet_yes {d : S_recordlinkmake_Deck} (hd : DeckOk d) {n k m : Nat} (hn : n ≤ 5) (hk : k ≤ 8) (hm : m ≤ 5) : ∃ l d', rl_play_Sheet d (n : Int) (k : Int) (m : Int) = some (l, d') ∧ SH n k l ∧ DeckOk d' := by
  unfold rl_play_Sheet
  rw [wi64 (n := (m : Int) + 1) (by omega) (by omega)]
  obtain ⟨v, d1, he, v0, v1, hd1⟩ := next_yes hd (n := (m : Int) + 1) (by omega) (by omega)
  rw [he]; clear he; first | rw [bind2_pure] | rw [bind3_pure] | rw [bind4_pure] | rw [bind1_pure]
  obtain ⟨N, rfl⟩ := Int.eq_ofNat_of_zero_le v0
  obtain ⟨t, e1, t1, t2⟩ := loop_inv (step := fun v : (List S_api_Sent) × Int × Int × (List Int) × Int × Int => rl_play_Sheet_l1 (n : Int) (k : Int) v.1 v.2.1 v.2.2.1 v.2.2.2.1 v.2.2.2.2.1 v.2.2.2.2.2) N
    (fun j s => s.2.2.1 = (N : Int) - (j : Int) ∧ s.1.length = j ∧ (0 ≤ s.2.1 ∧ s.2.1 ≤ 2 * (j : Int)) ∧ (∀ x ∈ s.1, SR n k x ∧ x.Record.ID ≤ s.2.1) ∧ (∀ i i', i < i' → i' < s.1.length → (s.1.getD i dS_api_Sent).Record.ID < (s.1.getD i' dS_api_Sent).Record.ID) ∧ DeckOk ⟨s.2.2.2.1, s.2.2.2.2.1, s.2.2.2.2.2⟩)
    (fun t => SH n k t.1 ∧ DeckOk ⟨t.2.1, t.2.2.1, t.2.2.2⟩) (by
      rintro j hj ⟨l, id, c, a, b, e⟩ ⟨s1, s2, s3, s4, s5, s6⟩
      left
      simp only [rl_play_Sheet_l1] at s1 s2 s3 s4 s5 s6 ⊢
      subst s1
      rw [if_pos (by simp only [decide_eq_true_eq]; omega)]
      obtain ⟨u, d2, he, u0, u1, hd2⟩ := next_yes s6 (n := 2) (by decide) (by decide)
      rw [he]; clear he; first | rw [bind2_pure] | rw [bind3_pure] | rw [bind4_pure] | rw [bind1_pure]
      obtain ⟨z, d3, he, z0, z1, hd3⟩ := next_yes hd2 (n := 2) (by decide) (by decide)
      rw [he]; clear he; first | rw [bind2_pure] | rw [bind3_pure] | rw [bind4_pure] | rw [bind1_pure]
      obtain ⟨⟨f1, f2, f3, f4⟩, ef, hf1, hf2, hf3⟩ := fields_yes hd3 hn
      rw [ef, bind4_pure]
      obtain ⟨⟨g1, g2, g3, g4, g5⟩, eg, hg1, hg2, hg3⟩ := keys_yes hf1 hk
      simp only at hf1 hf2 hf3 hg1 hg2 hg3 eg
      rw [eg, b5pure, if_pos (by simp only [List.length_cons, List.length_nil]; omega), wi64 (n := 1 + u) (by omega) (by omega), wi64 (n := 1 + z) (by omega) (by omega), wi64 (n := id + (1 + u)) (by omega) (by omega), wi64 (n := (N : Int) - (j : Int) - 1) (by omega) (by omega)]
      refine ⟨_, rfl, by simp only; omega, by simp only [List.length_append, List.length_cons, List.length_nil]; omega, by simp only; omega, fun x hx => ?_, fun i i' h1 h2 => ?_, hg1⟩
      · simp only
        rcases List.mem_append.1 hx with h | h
        · exact ⟨(s4 x h).1, by have := (s4 x h).2; omega⟩
        · rw [List.mem_singleton.1 h]
          exact ⟨⟨hf2, hf3, by simp only; omega, by simp only; omega, hg2, hg3⟩, Int.le_refl _⟩
      · simp only [List.length_append, List.length_cons, List.length_nil] at h2 ⊢
        rw [sent_snoc, sent_snoc, if_neg (by omega)]
        by_cases h3 : i' = l.length
        · rw [if_pos h3]
          have := (s4 _ (sent_get (show i < l.length by omega))).2
          simp only
          omega
        · rw [if_neg h3]
          exact s5 i i' h1 (by omega)) (by
      rintro ⟨l, id, c, a, b, e⟩ ⟨s1, s2, s3, s4, s5, s6⟩
      simp only [rl_play_Sheet_l1] at s1 s2 s3 s4 s5 s6 ⊢
      subst s1
      rw [if_neg (by simp only [decide_eq_true_eq]; omega)]
      exact ⟨_, rfl, ⟨by simp only; omega, fun x hx => (s4 x hx).1, s5⟩, s6⟩) (s := (([] : List S_api_Sent), 0, (N : Int), d1.list, d1.at_, d1.state)) ⟨by simp, rfl, ⟨Int.le_refl _, by simp⟩, fun x hx => absurd hx List.not_mem_nil, fun i i' h1 h2 => absurd h2 (by simp), hd1⟩
  rw [e1]
  exact ⟨t.1, ⟨t.2.1, t.2.2.1, t.2.2.2⟩, rfl, t1, t2⟩
theorem sheets_yes {d : S_recordlinkmake_Deck} (hd : DeckOk d) {n k r m : Nat} (hn : n ≤ 5) (hk : k ≤ 8) (hr : r ≤ 3) (hm : m ≤ 5) : ∃ S d', rl_play_Sheets d (n : Int) (k : Int) (r : Int) (m : Int) = some (S, d') ∧ S.length = r ∧ (∀ l ∈ S, SH n k l) ∧ DeckOk d' := by
  unfold rl_play_Sheets
  obtain ⟨t, e1, t1, t2, t3⟩ := loop_inv (step := fun v : (List (List S_api_Sent)) × Int × (List Int) × Int × Int => rl_play_Sheets_l1 (n : Int) (k : Int) (r : Int) (m : Int) v.1 v.2.1 v.2.2.1 v.2.2.2.1 v.2.2.2.2) r
    (fun j s => s.2.1 = (j : Int) ∧ s.1.length = j ∧ (∀ l ∈ s.1, SH n k l) ∧ DeckOk ⟨s.2.2.1, s.2.2.2.1, s.2.2.2.2⟩) (fun t => t.1.length = r ∧ (∀ l ∈ t.1, SH n k l) ∧ DeckOk ⟨t.2.1, t.2.2.1, t.2.2.2⟩) (by
      rintro j hj ⟨l, i, a, b, e⟩ ⟨s1, s2, s3, s4⟩
      left
      simp only [rl_play_Sheets_l1] at s1 s2 s3 s4 ⊢
      subst s1
      rw [if_pos (by simp only [decide_eq_true_eq]; omega)]
      obtain ⟨x, d2, he, hx, hd2⟩ := sheet_yes s4 hn hk hm
      rw [he, bind2_pure, if_pos (by simp only [List.length_cons, List.length_nil]; omega), wi64 (n := (j : Int) + 1) (by omega) (by omega)]
      refine ⟨_, rfl, rfl, by simp only [List.length_append, List.length_cons, List.length_nil]; omega, fun q hq => ?_, hd2⟩
      rcases List.mem_append.1 hq with h | h
      · exact s3 q h
      · rw [List.mem_singleton.1 h]; exact hx) (by
      rintro ⟨l, i, a, b, e⟩ ⟨s1, s2, s3, s4⟩
      simp only [rl_play_Sheets_l1] at s1 s2 s3 s4 ⊢
      subst s1
      rw [if_neg (by simp only [decide_eq_true_eq]; omega)]
      exact ⟨_, rfl, s2, s3, s4⟩) (s := (([] : List (List S_api_Sent)), 0, d.list, d.at_, d.state)) ⟨rfl, rfl, fun l hl => absurd hl List.not_mem_nil, hd⟩
  rw [e1]
  exact ⟨t.1, ⟨t.2.1, t.2.2.1, t.2.2.2⟩, rfl, t1, t2, t3⟩
/-! All candidates. -/
noncomputable def L4 (w : S_api_Weights) (t : List Int) (k : Nat) (r : Int) (x : S_api_Sent) (s : Int) (l : List S_api_Sent) : List S_api_Candidate := (l.filter fun y => agS k x y).map fun y => candS w t r x s y
noncomputable def L3 (w : S_api_Weights) (t : List Int) (k : Nat) (S : List (List S_api_Sent)) (r : Nat) (x : S_api_Sent) : Nat → List S_api_Candidate
  | 0 => []
  | j + 1 => L3 w t k S r x j ++ L4 w t k (r : Int) x ((r + 1 + j : Nat) : Int) (S.getD (r + 1 + j) [])
noncomputable def L2 (w : S_api_Weights) (t : List Int) (k : Nat) (S : List (List S_api_Sent)) (r : Nat) : Nat → List S_api_Candidate
  | 0 => []
  | i + 1 => L2 w t k S r i ++ L3 w t k S r ((S.getD r []).getD i dS_api_Sent) (S.length - (r + 1))
noncomputable def L1 (w : S_api_Weights) (t : List Int) (k : Nat) (S : List (List S_api_Sent)) : Nat → List S_api_Candidate
  | 0 => []
  | r + 1 => L1 w t k S r ++ L2 w t k S r (S.getD r []).length
theorem sent_take {l : List S_api_Sent} {i : Nat} (hi : i < l.length) : l.take (i + 1) = l.take i ++ [l.getD i dS_api_Sent] := by
  rw [List.take_add_one, List.getD_eq_getElem?_getD, List.getElem?_eq_getElem hi]; rfl
section
variable {w : S_api_Weights} {t : List Int} {n k : Nat} {S : List (List S_api_Sent)}
theorem L4_take {r : Int} {x : S_api_Sent} {s : Int} {l : List S_api_Sent} {i : Nat} (hi : i < l.length) : L4 w t k r x s (l.take (i + 1)) = if agS k x (l.getD i dS_api_Sent) = true then L4 w t k r x s (l.take i) ++ [candS w t r x s (l.getD i dS_api_Sent)] else L4 w t k r x s (l.take i) := by
  unfold L4
  rw [sent_take hi, List.filter_append, List.map_append]
  by_cases h : agS k x (l.getD i dS_api_Sent) = true
  · rw [if_pos h, List.filter_cons_of_pos h]; rfl
  · rw [if_neg h, List.filter_cons_of_neg h]; simp
theorem L4_len {r : Int} {x : S_api_Sent} {s : Int} {l : List S_api_Sent} : (L4 w t k r x s l).length ≤ l.length := by
  unfold L4
  rw [List.length_map]
  exact List.length_filter_le _ _
theorem l4_eq (g : Given w t n k S) {r s i : Nat} (hr : r < S.length) (hs : s < S.length) (hi : i < (S.getD r []).length) {A : List S_api_Candidate} (hA : A.length ≤ 3000) : loop (fun v : (List S_api_Candidate) × Int => candidate_Make_l4 w t S (r : Int) (i : Int) (s : Int) v.1 v.2) (A, 0) = some (.inl (A ++ L4 w t k (r : Int) ((S.getD r []).getD i dS_api_Sent) (s : Int) (S.getD s []))) := by
  have h1 := g.sh _ (sheets_get hr)
  have h2 := g.sh _ (sheets_get hs)
  have hx := h1.2.1 _ (sent_get hi)
  have hl := h2.1
  refine loop_for (fun j => (A ++ L4 w t k (r : Int) ((S.getD r []).getD i dS_api_Sent) (s : Int) ((S.getD s []).take j), (j : Int))) (S.getD s []).length _ (fun j hj => ?_) ?_ (by simp [L4])
  · have hy := h2.2.1 _ (sent_get hj)
    have hlen : (L4 w t k (r : Int) ((S.getD r []).getD i dS_api_Sent) (s : Int) ((S.getD s []).take j)).length ≤ 5 := by
      have := L4_len (w := w) (t := t) (k := k) (r := (r : Int)) (x := (S.getD r []).getD i dS_api_Sent) (s := (s : Int)) (l := (S.getD s []).take j)
      rw [List.length_take] at this
      omega
    simp only [candidate_Make_l4, candidate_Make_k5, Int.toNat_natCast]
    rw [L4_take hj]
    generalize L4 w t k (r : Int) ((S.getD r []).getD i dS_api_Sent) (s : Int) ((S.getD s []).take j) = B at *
    rw [if_pos (by simp only [decide_eq_true_eq]; omega), if_pos (by omega), if_pos (by omega), agree_eq hx hy g.k8, bind1_pure, wi64 (n := (j : Int) + 1) (by omega) (by omega)]
    by_cases ha : agS k ((S.getD r []).getD i dS_api_Sent) ((S.getD s []).getD j dS_api_Sent) = true
    · rw [if_pos ha, if_neg (by rw [ha]; decide), if_neg (by rw [beq_iff_eq, List.length_append]; omega)]
      have hc := compared_eq g hx hy (r : Int) (s : Int)
      rw [hc, bind1_pure, if_pos (by simp only [List.length_append, List.length_cons, List.length_nil]; omega), List.append_assoc]
      rfl
    · rw [if_neg ha, if_pos (by simpa using ha)]
      rfl
  · simp only [candidate_Make_l4, Int.toNat_natCast]
    rw [if_neg (by simp), List.take_of_length_le (Nat.le_refl _)]
theorem L3_len (g : Given w t n k S) {r : Nat} {x : S_api_Sent} : ∀ j, r + 1 + j ≤ S.length → (L3 w t k S r x j).length ≤ 5 * j
  | 0, _ => by simp [L3]
  | j + 1, h => by
    have ih := L3_len g (r := r) (x := x) j (by omega)
    have h1 := (g.sh _ (sheets_get (show r + 1 + j < S.length by omega))).1
    have h2 := L4_len (w := w) (t := t) (k := k) (r := (r : Int)) (x := x) (s := ((r + 1 + j : Nat) : Int)) (l := S.getD (r + 1 + j) [])
    rw [L3, List.length_append]
    omega
theorem l3_eq (g : Given w t n k S) {r i : Nat} (hr : r < S.length) (hi : i < (S.getD r []).length) {A : List S_api_Candidate} (hA : A.length ≤ 2500) : loop (fun v : (List S_api_Candidate) × Int => candidate_Make_l3 w t S (r : Int) (i : Int) v.1 v.2) (A, ((r + 1 : Nat) : Int)) = some (.inl (A ++ L3 w t k S r ((S.getD r []).getD i dS_api_Sent) (S.length - (r + 1)))) := by
  have sl := g.sl
  refine loop_for (fun j => (A ++ L3 w t k S r ((S.getD r []).getD i dS_api_Sent) j, ((r + 1 + j : Nat) : Int))) (S.length - (r + 1)) _ (fun j hj => ?_) ?_ (by simp [L3])
  · have hlen := L3_len g (x := (S.getD r []).getD i dS_api_Sent) (r := r) j (by omega)
    simp only [candidate_Make_l3]
    rw [if_pos (by simp only [decide_eq_true_eq]; omega), if_pos (by omega), if_pos (by omega), l4_eq g hr (show r + 1 + j < S.length by omega) hi (by rw [List.length_append]; omega), bindE_l]
    unfold candidate_Make_a6
    rw [wi64 (n := ((r + 1 + j : Nat) : Int) + 1) (by omega) (by omega), L3, List.append_assoc]
    rfl
  · simp only [candidate_Make_l3]
    rw [if_neg (by simp only [decide_eq_true_eq]; omega)]
theorem L2_len (g : Given w t n k S) {r : Nat} (hr : r < S.length) : ∀ i, (L2 w t k S r i).length ≤ 15 * i
  | 0 => by simp [L2]
  | i + 1 => by
    have ih := L2_len g hr i
    have h1 := L3_len g (r := r) (x := (S.getD r []).getD i dS_api_Sent) (S.length - (r + 1)) (by omega)
    have sl := g.sl
    rw [L2, List.length_append]
    omega
theorem l2_eq (g : Given w t n k S) {r : Nat} (hr : r < S.length) {A : List S_api_Candidate} (hA : A.length ≤ 2000) : loop (fun v : (List S_api_Candidate) × Int => candidate_Make_l2 w t S (r : Int) v.1 v.2) (A, 0) = some (.inl (A ++ L2 w t k S r (S.getD r []).length)) := by
  have sl := g.sl
  have h1 := (g.sh _ (sheets_get hr)).1
  refine loop_for (fun i => (A ++ L2 w t k S r i, (i : Int))) (S.getD r []).length _ (fun i hi => ?_) ?_ (by simp [L2])
  · have hlen := L2_len g hr i
    have w1 : IntKind.i64.wrap ((r : Int) + 1) = ((r + 1 : Nat) : Int) := by rw [wi64 (by omega) (by omega)]; omega
    simp only [candidate_Make_l2, Int.toNat_natCast]
    rw [if_pos (by simp only [decide_eq_true_eq]; omega), if_pos (by omega), if_pos (by omega), w1, l3_eq g hr hi (by rw [List.length_append]; omega), bindE_l]
    unfold candidate_Make_a8
    rw [wi64 (n := (i : Int) + 1) (by omega) (by omega), L2, List.append_assoc]
    rfl
  · simp only [candidate_Make_l2, Int.toNat_natCast]
    rw [if_neg (by simp)]
theorem L1_len (g : Given w t n k S) : ∀ r, r ≤ S.length → (L1 w t k S r).length ≤ 75 * r
  | 0, _ => by simp [L1]
  | r + 1, h => by
    have ih := L1_len g r (by omega)
    have h1 := L2_len g (show r < S.length by omega) (S.getD r []).length
    have h2 := (g.sh _ (sheets_get (show r < S.length by omega))).1
    rw [L1, List.length_append]
    omega
theorem make_eq (g : Given w t n k S) : candidate_Make w t (k : Int) S = some (L1 w t k S S.length, 0) := by
  have sl := g.sl
  unfold candidate_Make
  rw [ccheck_yes g, bind1_pure, if_neg (by decide)]
  have hloop := loop_for (step := fun v : (List S_api_Candidate) × Int => candidate_Make_l1 w t S v.1 v.2) (fun r => (L1 w t k S r, (r : Int))) S.length (.inl (L1 w t k S S.length)) (fun r hr => by
      have hlen := L1_len g r (by omega)
      simp only [candidate_Make_l1]
      rw [if_pos (by simp only [decide_eq_true_eq]; omega), if_pos (by omega), if_pos (by omega), l2_eq g hr (by omega), bindE_l]
      unfold candidate_Make_a10
      rw [wi64 (n := (r : Int) + 1) (by omega) (by omega), L1]
      rfl) (by
      simp only [candidate_Make_l1]
      rw [if_neg (by simp)]) (s := ([], 0)) rfl
  rw [hloop, bindE_l]
  rfl
end
end Go.Proofs.Ytknlckjpgmjenaa
