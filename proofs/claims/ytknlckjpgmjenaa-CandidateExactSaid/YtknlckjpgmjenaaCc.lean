/- Plain: weights, scores, dealt weights. -/
import Derived.Test.YtknlckjpgmjenaaWd
import Derived.Test.YtknlckjpgmjenaaDk
namespace Go.Proofs.Ytknlckjpgmjenaa
open Vm
set_option linter.unusedVariables false
set_option linter.unusedSimpArgs false
/-- A loop that looks for the first bad one. -/
theorem scan {τ : Type} {step : Int → Option (Int ⊕ (Unit ⊕ τ))} (n : Nat) (bad : Nat → Prop) (t : Nat → τ)
    (h : ∀ i, i < n → (bad i ∧ step (i : Int) = some (.inr (.inr (t i)))) ∨ (¬ bad i ∧ step (i : Int) = some (.inl ((i + 1 : Nat) : Int)))) (he : step (n : Int) = some (.inr (.inl ()))) :
    (loop step 0 = some (.inl ()) ∧ ∀ i, i < n → ¬ bad i) ∨ ∃ i, i < n ∧ bad i ∧ loop step 0 = some (.inr (t i)) := by
  have key : ∀ k j, j + k = n → (loop step (j : Int) = some (.inl ()) ∧ ∀ i, j ≤ i → i < n → ¬ bad i) ∨ ∃ i, i < n ∧ bad i ∧ loop step (j : Int) = some (.inr (t i)) := by
    intro k
    induction k with
    | zero =>
      intro j hj
      have : j = n := by omega
      subst this
      exact .inl ⟨loop_end he, fun i h1 h2 => by omega⟩
    | succ k ih =>
      intro j hj
      rcases h j (by omega) with ⟨hb, hs⟩ | ⟨hb, hs⟩
      · exact .inr ⟨j, by omega, hb, loop_end hs⟩
      · rw [loop_next hs]
        rcases ih (j + 1) (by omega) with ⟨h1, h2⟩ | h1
        · refine .inl ⟨h1, fun i h3 h4 => ?_⟩
          rcases Nat.lt_or_eq_of_le h3 with h5 | rfl
          · exact h2 i h5 h4
          · exact hb
        · exact .inr h1
  rcases key n 0 (by omega) with ⟨h1, h2⟩ | h1
  · exact .inl ⟨h1, fun i hi => h2 i (Nat.zero_le _) hi⟩
  · exact .inr h1
theorem or_dec {p : Prop} [Decidable p] {α : Type} {x : α} {a b : α} (h1 : p → x = a) (h2 : ¬ p → x = b) : (p ∧ x = a) ∨ (¬ p ∧ x = b) := by
  by_cases h : p
  · exact .inl ⟨h, h1 h⟩
  · exact .inr ⟨h, h2 h⟩
def fits (x : Int) : Prop := -65536 ≤ x ∧ x ≤ 65536
instance (x : Int) : Decidable (fits x) := by unfold fits; infer_instance
def WV (w : S_api_Weights) : Prop := w.Agree.length = w.Differ.length ∧ 1 ≤ w.Agree.length ∧ w.Agree.length ≤ 5 ∧ fits w.Prior ∧ ∀ i, i < w.Agree.length → fits (w.Agree.getD i 0) ∧ fits (w.Differ.getD i 0)
noncomputable instance (w : S_api_Weights) : Decidable (WV w) := Classical.propDecidable _
theorem weight_fits_eq (x : Int) : weight_fits x = some (decide (fits x)) := by
  unfold weight_fits weight_fits_k1
  by_cases h : x ≥ -65536
  · rw [if_pos (by simpa using h)]
    by_cases h2 : x ≤ 65536
    · rw [decide_eq_true h2, decide_eq_true (show fits x from ⟨h, h2⟩)]
    · rw [decide_eq_false h2, decide_eq_false (fun k : fits x => h2 k.2)]
  · rw [if_neg (by simpa using h), decide_eq_false (fun k : fits x => h k.1)]
theorem weight_check_k1 {w : S_api_Weights} (h1 : w.Agree.length = w.Differ.length) (h2 : 1 ≤ w.Agree.length) (h3 : w.Agree.length ≤ 5) : (weight_fits w.Prior).bind (fun y20 => weight_Check_k1 w (!y20)) = some (if WV w then 0 else 40) := by
  rw [weight_fits_eq, bind1_pure]
  unfold weight_Check_k1
  by_cases h4 : fits w.Prior
  · rw [decide_eq_true h4, if_neg (by decide)]
    rcases scan (step := fun v : Int => weight_Check_l2 w v) w.Agree.length (fun i => ¬ (fits (w.Agree.getD i 0) ∧ fits (w.Differ.getD i 0))) (fun i => ()) (fun i hi => by
        refine or_dec (fun h => ?_) (fun h => ?_) <;> simp only [weight_Check_l2, weight_Check_k3, Int.toNat_natCast, weight_fits_eq, bind1_pure]
        · rw [if_pos (by simpa using hi), if_pos (by omega), if_pos (by omega)]
          by_cases h5 : fits (w.Agree.getD i 0)
          · rw [decide_eq_true h5, if_neg (by decide), if_pos (by omega), decide_eq_false (fun k => h ⟨h5, k⟩)]
            rfl
          · rw [decide_eq_false h5]
            rfl
        · have h := Decidable.not_not.1 h
          rw [if_pos (by simpa using hi), if_pos (by omega), if_pos (by omega), decide_eq_true h.1, if_neg (by decide), if_pos (by omega), decide_eq_true h.2, if_neg (by decide), wi64 (by omega) (by omega)]
          rfl) (by simp only [weight_Check_l2]; rw [if_neg (by simp)]) with ⟨h5, h6⟩ | ⟨i, hi, hb, h5⟩
    · rw [h5, bindE_l, if_pos ⟨h1, by omega, by omega, h4, fun i hi => (Decidable.not_not.1 (h6 i hi))⟩]
      rfl
    · rw [h5, bindE_r, if_neg (fun k => hb (k.2.2.2.2 i hi))]
      rfl
  · rw [decide_eq_false h4, if_pos (show (!false) = true from rfl), if_neg (fun k => h4 k.2.2.2.1)]
theorem rl_ref25_fits_eq (x : Int) : rl_ref25_fits x = some (decide (fits x)) := by
  unfold rl_ref25_fits rl_ref25_fits_k1
  by_cases h : x ≥ -65536
  · rw [if_pos (by simpa using h)]
    by_cases h2 : x ≤ 65536
    · rw [decide_eq_true h2, decide_eq_true (show fits x from ⟨h, h2⟩)]
    · rw [decide_eq_false h2, decide_eq_false (fun k : fits x => h2 k.2)]
  · rw [if_neg (by simpa using h), decide_eq_false (fun k : fits x => h k.1)]
theorem rl_ref25_check_k1 {w : S_api_Weights} (h1 : w.Agree.length = w.Differ.length) (h2 : 1 ≤ w.Agree.length) (h3 : w.Agree.length ≤ 5) : (rl_ref25_fits w.Prior).bind (fun y20 => rl_ref25_Check_k1 w (!y20)) = some (if WV w then 0 else 40) := by
  rw [rl_ref25_fits_eq, bind1_pure]
  unfold rl_ref25_Check_k1
  by_cases h4 : fits w.Prior
  · rw [decide_eq_true h4, if_neg (by decide)]
    rcases scan (step := fun v : Int => rl_ref25_Check_l2 w v) w.Agree.length (fun i => ¬ (fits (w.Agree.getD i 0) ∧ fits (w.Differ.getD i 0))) (fun i => ()) (fun i hi => by
        refine or_dec (fun h => ?_) (fun h => ?_) <;> simp only [rl_ref25_Check_l2, rl_ref25_Check_k3, Int.toNat_natCast, rl_ref25_fits_eq, bind1_pure]
        · rw [if_pos (by simpa using hi), if_pos (by omega), if_pos (by omega)]
          by_cases h5 : fits (w.Agree.getD i 0)
          · rw [decide_eq_true h5, if_neg (by decide), if_pos (by omega), decide_eq_false (fun k => h ⟨h5, k⟩)]
            rfl
          · rw [decide_eq_false h5]
            rfl
        · have h := Decidable.not_not.1 h
          rw [if_pos (by simpa using hi), if_pos (by omega), if_pos (by omega), decide_eq_true h.1, if_neg (by decide), if_pos (by omega), decide_eq_true h.2, if_neg (by decide), wi64 (by omega) (by omega)]
          rfl) (by simp only [rl_ref25_Check_l2]; rw [if_neg (by simp)]) with ⟨h5, h6⟩ | ⟨i, hi, hb, h5⟩
    · rw [h5, bindE_l, if_pos ⟨h1, by omega, by omega, h4, fun i hi => (Decidable.not_not.1 (h6 i hi))⟩]
      rfl
    · rw [h5, bindE_r, if_neg (fun k => hb (k.2.2.2.2 i hi))]
      rfl
  · rw [decide_eq_false h4, if_pos (show (!false) = true from rfl), if_neg (fun k => h4 k.2.2.2.1)]
theorem weight_check_eq (w : S_api_Weights) : weight_Check w = some (if WV w then 0 else 40) := by
  unfold weight_Check
  have no : weight_Check_k1 w true = some 40 := rfl
  by_cases h2 : w.Agree.length < 1
  · rw [if_pos (by simp; omega), no, if_neg (fun k => by have := k.2.1; omega)]
  rw [if_neg (by simp; omega)]
  by_cases h3 : w.Agree.length > 5
  · rw [if_pos (by simp; omega), no, if_neg (fun k => by have := k.2.2.1; omega)]
  rw [if_neg (by simp; omega)]
  by_cases h1 : w.Agree.length = w.Differ.length
  · rw [if_neg (by simp [h1]), weight_check_k1 h1 (by omega) (by omega)]
  · rw [if_pos (by simp; omega), no, if_neg (fun k => h1 k.1)]
theorem ref25_check_eq (w : S_api_Weights) : rl_ref25_Check w = some (if WV w then 0 else 40) := by
  unfold rl_ref25_Check
  have no : rl_ref25_Check_k1 w true = some 40 := rfl
  by_cases h1 : w.Agree.length = w.Differ.length
  · rw [if_neg (by simp [h1])]
    by_cases h2 : w.Agree.length < 1
    · rw [if_pos (by simp; omega), no, if_neg (fun k => by have := k.2.1; omega)]
    rw [if_neg (by simp; omega)]
    by_cases h3 : w.Agree.length > 5
    · rw [if_pos (by simp; omega), no, if_neg (fun k => by have := k.2.2.1; omega)]
    rw [if_neg (by simp; omega), rl_ref25_check_k1 h1 (by omega) (by omega)]
  · rw [if_pos (by simp; omega), no, if_neg (fun k => h1 k.1)]
/-- bounds and scores of the first fields -/
def lowS (w : S_api_Weights) : Nat → Int
  | 0 => w.Prior
  | n + 1 => lowS w n + min (min (w.Agree.getD n 0) (w.Differ.getD n 0)) 0
def highS (w : S_api_Weights) : Nat → Int
  | 0 => w.Prior
  | n + 1 => highS w n + max (max (w.Agree.getD n 0) (w.Differ.getD n 0)) 0
def pick (x a d : Int) : Int := if x = 2 then a else if x = 1 then d else 0
def scoreS (w : S_api_Weights) (ds : List Int) : Nat → Int
  | 0 => w.Prior
  | n + 1 => scoreS w ds n + pick (ds.getD n 0) (w.Agree.getD n 0) (w.Differ.getD n 0)
def bestS (w : S_api_Weights) (ds : List Int) : Nat → Int
  | 0 => w.Prior
  | n + 1 => bestS w ds n + max (w.Agree.getD n 0) (pick (ds.getD n 0) (w.Agree.getD n 0) (w.Differ.getD n 0))
theorem pick_in (x a d : Int) : min (min a d) 0 ≤ pick x a d ∧ pick x a d ≤ max a (pick x a d) ∧ max a (pick x a d) ≤ max (max a d) 0 := by
  unfold pick
  split
  · omega
  · split <;> omega
theorem in_order (w : S_api_Weights) (ds : List Int) (n : Nat) : lowS w n ≤ scoreS w ds n ∧ scoreS w ds n ≤ bestS w ds n ∧ bestS w ds n ≤ highS w n := by
  induction n with
  | zero => exact ⟨Int.le_refl _, Int.le_refl _, Int.le_refl _⟩
  | succ n ih =>
    have := pick_in (ds.getD n 0) (w.Agree.getD n 0) (w.Differ.getD n 0)
    simp only [lowS, highS, scoreS, bestS]
    omega
theorem sums_in {w : S_api_Weights} (h : WV w) {n : Nat} (hn : n ≤ w.Agree.length) : -(65536 * ((n : Int) + 1)) ≤ lowS w n ∧ highS w n ≤ 65536 * ((n : Int) + 1) := by
  induction n with
  | zero => have := h.2.2.2.1; unfold fits at this; simp only [lowS, highS]; omega
  | succ n ih =>
    have h1 := h.2.2.2.2 n (by omega)
    have h2 := ih (by omega)
    unfold fits at h1
    simp only [lowS, highS]
    omega
theorem sums_small {w : S_api_Weights} (h : WV w) {n : Nat} (hn : n ≤ w.Agree.length) : -1000000 ≤ lowS w n ∧ highS w n ≤ 1000000 := by
  have := sums_in h hn
  have := h.2.2.1
  omega
theorem counts_eq {w : S_api_Weights} {i : Nat} (h1 : i < w.Agree.length) (h2 : i < w.Differ.length) : weight_counts w (i : Int) = some [0, w.Differ.getD i 0, w.Agree.getD i 0] := by
  unfold weight_counts
  rw [if_pos (by omega), if_pos (by omega), if_pos (by omega), Int.toNat_natCast]
theorem weight_score_eq (w : S_api_Weights) (p : Int) : weight_Score w p = some (if WV w then (if 0 ≤ p ∧ p < ((3 ^ w.Agree.length : Nat) : Int) then (scoreS w (digs w.Agree.length p) w.Agree.length, 0) else (0, 2)) else (0, 40)) := by
  unfold weight_Score weight_sum_weight_Score_f1
  rw [weight_check_eq, bind1_pure]
  by_cases h : WV w
  · rw [if_pos h, if_pos h, if_neg (by decide), digits_eq, if_pos ⟨by have := h.2.1; omega, by have := h.2.2.1; omega⟩, Int.toNat_natCast]
    have hl := h.2.2.1
    by_cases hp : 0 ≤ p ∧ p < ((3 ^ w.Agree.length : Nat) : Int)
    · rw [if_pos hp, if_pos hp, bind2_pure, if_neg (by decide)]
      have hm := digs_mem w.Agree.length p
      have hd := digs_length w.Agree.length p
      generalize digs w.Agree.length p = ds at *
      have hL : loop (fun v : Int × Int => weight_sum_weight_Score_f1_l1 w ds v.1 v.2) (w.Prior, 0) = some (scoreS w ds w.Agree.length) := by
        refine loop_for (fun i => (scoreS w ds i, (i : Int))) w.Agree.length _ (fun i hi => ?_) ?_ rfl
        · have s1 := sums_small h (Nat.le_of_lt hi)
          have o1 := in_order w ds i
          have s2 := h.2.2.2.2 i hi
          unfold fits at s2
          have hi2 : i < ds.length := by omega
          have hx : 0 ≤ ds.getD i 0 ∧ ds.getD i 0 ≤ 2 := hm _ (by rw [List.getD_eq_getElem?_getD, List.getElem?_eq_getElem hi2]; exact List.getElem_mem hi2)
          simp only [weight_sum_weight_Score_f1_l1]
          rw [if_pos (by simpa using hi2), if_pos (by omega), if_pos (by omega), counts_eq hi (by have := h.1; omega)]
          simp only [bind1_pure, weight_Score_f1, Int.toNat_natCast, Nat.zero_add]
          have hk := pick_in (ds.getD i 0) (w.Agree.getD i 0) (w.Differ.getD i 0)
          simp only [scoreS]
          have hg : ([0, w.Differ.getD i 0, w.Agree.getD i 0] : List Int).getD (ds.getD i 0).toNat 0 = pick (ds.getD i 0) (w.Agree.getD i 0) (w.Differ.getD i 0) := by
            unfold pick
            obtain ⟨x, hx2⟩ := Int.eq_ofNat_of_zero_le hx.1
            rw [hx2] at hx ⊢
            have : x = 0 ∨ x = 1 ∨ x = 2 := by omega
            rcases this with rfl | rfl | rfl <;> rfl
          rw [if_pos hx.1, if_pos (by omega), bind1_pure, hg, wi64 (n := scoreS w ds i + _) (by omega) (by omega), wi64 (by omega) (by omega)]
          rfl
        · simp only [weight_sum_weight_Score_f1_l1]
          rw [if_neg (by simp [hd])]
      rw [hL]
      rfl
    · rw [if_neg hp, if_neg hp]
      rfl
  · rw [if_neg h, if_neg h]
    rfl
theorem snoc_all {P : Int → Prop} {l : List Int} (h : ∀ x ∈ l, P x) {y : Int} (hy : P y) : ∀ x ∈ l ++ [y], P x := by
  intro x hx
  rcases List.mem_append.1 hx with k | k
  · exact h x k
  · rw [List.mem_singleton.1 k]; exact hy
theorem all_getD {P : Int → Prop} {l : List Int} (h : ∀ x ∈ l, P x) {i : Nat} (hi : i < l.length) : P (l.getD i 0) := by
  refine h _ ?_
  rw [List.getD_eq_getElem?_getD, List.getElem?_eq_getElem hi]
  exact List.getElem_mem hi
theorem getD_snoc {l : List Int} {y : Int} {i : Nat} : (l ++ [y]).getD i 0 = if i = l.length then y else l.getD i 0 := by
  simp only [List.getD_eq_getElem?_getD, List.getElem?_append]
  split
  · rw [if_neg (by omega)]
  · split
    · rename_i h1 h2; subst h2; simp
    · rw [List.getElem?_eq_none (by simp; omega), List.getElem?_eq_none (by omega)]
theorem set_all {P : Int → Prop} {l : List Int} (h : ∀ x ∈ l, P x) {y : Int} (hy : P y) (i : Nat) : ∀ x ∈ l.set i y, P x := by
  intro x hx
  rcases List.mem_or_eq_of_mem_set hx with k | k
  · exact h x k
  · rw [k]; exact hy
theorem range_yes {d : S_recordlinkmake_Deck} (h : DeckOk d) {a b : Int} (h1 : a ≤ b) (h0 : -1000 ≤ a) (h2 : b ≤ 1000) : ∃ v d', rl_play_Range d a b = some (v, d') ∧ a ≤ v ∧ v ≤ b ∧ DeckOk d' := by
  unfold rl_play_Range
  rw [wi64 (n := b - a) (by omega) (by omega), wi64 (n := b - a + 1) (by omega) (by omega)]
  obtain ⟨v, d1, he, v0, v1, hd1⟩ := next_yes h (n := b - a + 1) (by omega) (by omega)
  rw [he]; clear he; first | rw [bind2_pure] | rw [bind3_pure] | rw [bind4_pure] | rw [bind1_pure]
  exact ⟨_, _, rfl, by rw [wi64 (by omega) (by omega)]; omega, by rw [wi64 (by omega) (by omega)]; omega, hd1⟩
theorem weights_yes {d : S_recordlinkmake_Deck} (h : DeckOk d) {n : Nat} (h1 : 1 ≤ n) (h2 : n ≤ 5) : ∃ w d', rl_play_Weights d (n : Int) = some (w, d') ∧ w.Agree.length = n ∧ WV w ∧ DeckOk d' := by
  unfold rl_play_Weights
  obtain ⟨p, d1, he, p0, p1, hd1⟩ := range_yes h (a := -40) (b := 10) (by decide) (by decide) (by decide)
  rw [he]; clear he; first | rw [bind2_pure] | rw [bind3_pure] | rw [bind4_pure] | rw [bind1_pure]
  obtain ⟨t, e1, t1, t2, t3, t4, t5⟩ := loop_inv (step := fun v : Int × (List Int) × Int × Int × (List Int) × (List Int) => rl_play_Weights_l1 (n : Int) v.1 v.2.1 v.2.2.1 v.2.2.2.1 v.2.2.2.2.1 v.2.2.2.2.2) n
    (fun i s => s.1 = (i : Int) ∧ s.2.2.2.2.1.length = i ∧ s.2.2.2.2.2.length = i ∧ (∀ x ∈ s.2.2.2.2.1, -60 ≤ x ∧ x ≤ 60) ∧ (∀ x ∈ s.2.2.2.2.2, -60 ≤ x ∧ x ≤ 60) ∧ DeckOk ⟨s.2.1, s.2.2.1, s.2.2.2.1⟩)
    (fun t => t.2.2.2.1.length = n ∧ t.2.2.2.2.length = n ∧ (∀ x ∈ t.2.2.2.1, -60 ≤ x ∧ x ≤ 60) ∧ (∀ x ∈ t.2.2.2.2, -60 ≤ x ∧ x ≤ 60) ∧ DeckOk ⟨t.1, t.2.1, t.2.2.1⟩) (by
    rintro i hi ⟨j, a, b, c, u, v⟩ ⟨rfl, s1, s2, s3, s4, s5⟩
    left
    simp only [rl_play_Weights_l1] at s1 s2 s3 s4 s5 ⊢
    rw [if_pos (by simpa using hi)]
    obtain ⟨x, d2, he, x0, x1, hd2⟩ := range_yes s5 (a := -3) (b := 60) (by decide) (by decide) (by decide)
    rw [he]; clear he; first | rw [bind2_pure] | rw [bind3_pure] | rw [bind4_pure] | rw [bind1_pure]
    rw [if_pos (by simp; omega)]
    obtain ⟨y, d3, he, y0, y1, hd3⟩ := range_yes hd2 (a := -60) (b := 3) (by decide) (by decide) (by decide)
    rw [he]; clear he; first | rw [bind2_pure] | rw [bind3_pure] | rw [bind4_pure] | rw [bind1_pure]
    rw [if_pos (by simp; omega), wi64 (by omega) (by omega)]
    exact ⟨_, rfl, by omega, by simp [s1], by simp [s2], snoc_all s3 (by omega), snoc_all s4 (by omega), hd3⟩) (by
    rintro ⟨j, a, b, c, u, v⟩ ⟨rfl, s1, s2, s3, s4, s5⟩
    exact ⟨_, by simp only [rl_play_Weights_l1]; rw [if_neg (by simp)], s1, s2, s3, s4, s5⟩) (s := (0, d1.list, d1.at_, d1.state, ([] : List Int), ([] : List Int))) ⟨rfl, rfl, rfl, by simp, by simp, hd1⟩
  rw [e1]
  refine ⟨_, _, rfl, t1, ⟨by simp only; omega, by simp only; omega, by simp only; omega, ⟨by simp only; omega, by simp only; omega⟩, fun i hi => ?_⟩, t5⟩
  have a1 := all_getD t3 hi
  have a2 := all_getD t4 (i := i) (by simp only at hi; omega)
  exact ⟨⟨by simp only; omega, by simp only; omega⟩, ⟨by simp only; omega, by simp only; omega⟩⟩
end Go.Proofs.Ytknlckjpgmjenaa
