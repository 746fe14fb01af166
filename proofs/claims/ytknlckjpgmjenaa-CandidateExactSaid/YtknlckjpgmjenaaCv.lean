/- Plain: candidate.Make and its reference, for any data. -/
import Derived.Test.YtknlckjpgmjenaaCw
namespace Go.Proofs.Ytknlckjpgmjenaa
open Vm
open IntKind (i64 u64 u32 u8)
set_option linter.unusedVariables false
set_option linter.unusedSimpArgs false
theorem thr_any {l : List Int} (hl : l.length < 1000000) : slices_ContainsFunc_int_candidate_check_f1 l = some (!decide (∀ t ∈ l, 0 ≤ t ∧ t ≤ 1000)) := by
  unfold slices_ContainsFunc_int_candidate_check_f1 slices_IndexFunc_int_candidate_check_f1
  have hf : ∀ t : Int, candidate_check_f1 t = some (!decide (0 ≤ t ∧ t ≤ 1000)) := fun t => by
    unfold candidate_check_f1 candidate_check_f1_k1
    by_cases h1 : t < 0 <;> by_cases h2 : t > 1000 <;> grind
  rw [scan_loop 0 (fun t : Int => !decide (0 ≤ t ∧ t ≤ 1000)) l (fun i => (i : Int)) (fun i => (i : Int)) () (step := fun v : Int => slices_IndexFunc_int_candidate_check_f1_l1 l v) (fun i hi => by
      simp only [slices_IndexFunc_int_candidate_check_f1_l1, Int.toNat_natCast]
      rw [if_pos (by simp only [decide_eq_true_eq]; omega), if_pos (by omega), if_pos (by omega), hf, bind1_pure, wi64 (n := (i : Int) + 1) (by omega) (by omega)]
      rfl) (by
      simp only [slices_IndexFunc_int_candidate_check_f1_l1]
      rw [if_neg (by simp)])]
  by_cases h : ∀ t ∈ l, 0 ≤ t ∧ t ≤ 1000
  · rw [decide_eq_true h, List.findIdx?_eq_none_iff.2 (fun b hb => by simp [h b hb])]
    rfl
  · rw [decide_eq_false h]
    have : l.findIdx? (fun t : Int => !decide (0 ≤ t ∧ t ≤ 1000)) ≠ none := any_of_idx.1 (by
      have : ∃ t ∈ l, ¬ (0 ≤ t ∧ t ≤ 1000) := by
        refine Classical.byContradiction fun hc => h fun t ht => Classical.byContradiction fun hn => hc ⟨t, ht, hn⟩
      obtain ⟨t, ht, hn⟩ := this
      exact ⟨t, ht, by simp only [Bool.not_eq_true']; exact decide_eq_false hn⟩)
    cases hi : l.findIdx? (fun t : Int => !decide (0 ≤ t ∧ t ≤ 1000)) with
    | none => exact absurd hi this
    | some i =>
      simp only [bindE_r, slices_IndexFunc_int_candidate_check_f1_a3, bind1_pure]
      rw [decide_eq_true (show (i : Int) ≥ 0 by omega)]
      rfl
/-- sheets of sizes, with words of 64 bits -/
def SZ (S : List (List S_api_Sent)) : Prop := ∀ l ∈ S, l.length < 1000000 ∧ FSz l ∧ ∀ x ∈ l, WF x.Record.Fields
theorem sheet_mem {S : List (List S_api_Sent)} {i : Nat} (h : i < S.length) : S.getD i [] ∈ S := by
  rw [List.getD_eq_getElem?_getD, List.getElem?_eq_getElem h]
  exact List.getElem_mem h
theorem sheets_loop {w : S_api_Weights} {k : Int} {S : List (List S_api_Sent)} (hS : S.length < 1000000) (hz : SZ S) : ∃ t : Unit ⊕ Int, loop (fun v : Int => candidate_check_l1 w k S v) 0 = some t ∧ loop (fun v : Int => rl_ref26_Make_l3 w k S v) 0 = some t ∧
    ((t = .inl () ∧ ∀ r, r < S.length → (1 ≤ k ∧ k ≤ 8) ∧ (S.getD r []).length ≤ 64 ∧ ∀ i, i < (S.getD r []).length → GR (w.Agree.length : Int) k ((S.getD r []).getD i dS_api_Sent)) ∨ ∃ e, t = .inr e ∧ e ≠ 0) := by
  have key : ∀ m j, j + m = S.length → (∀ r, r < j → (1 ≤ k ∧ k ≤ 8) ∧ (S.getD r []).length ≤ 64 ∧ ∀ i, i < (S.getD r []).length → GR (w.Agree.length : Int) k ((S.getD r []).getD i dS_api_Sent)) → ∃ t : Unit ⊕ Int, loop (fun v : Int => candidate_check_l1 w k S v) (j : Int) = some t ∧ loop (fun v : Int => rl_ref26_Make_l3 w k S v) (j : Int) = some t ∧
      ((t = .inl () ∧ ∀ r, r < S.length → (1 ≤ k ∧ k ≤ 8) ∧ (S.getD r []).length ≤ 64 ∧ ∀ i, i < (S.getD r []).length → GR (w.Agree.length : Int) k ((S.getD r []).getD i dS_api_Sent)) ∨ ∃ e, t = .inr e ∧ e ≠ 0) := by
    intro m
    induction m with
    | zero =>
      intro j hj hG
      refine ⟨.inl (), ?_, ?_, .inl ⟨rfl, fun i hi => hG i (by omega)⟩⟩
      · exact loop_end (by simp only [candidate_check_l1]; rw [if_neg (by simp only [decide_eq_true_eq]; omega)])
      · exact loop_end (by simp only [rl_ref26_Make_l3]; rw [if_neg (by simp only [decide_eq_true_eq]; omega)])
    | succ m ih =>
      intro j hj hG
      have hjl : j < S.length := by omega
      obtain ⟨z1, z2, _⟩ := hz _ (sheet_mem hjl)
      obtain ⟨v, v1, v2, v3⟩ := check_both (f := ((w.Agree.length : Nat) : Int)) (k := k) z1 z2
      have s1 : candidate_check_l1 w k S (j : Int) = if (v != 0) = true then some (.inr (.inr v)) else some (.inl ((j + 1 : Nat) : Int)) := by
        unfold candidate_check_l1
        rw [if_pos (by simp only [decide_eq_true_eq]; omega), if_pos (by omega), if_pos (by omega), Int.toNat_natCast, v1, bind1_pure, wi64 (n := (j : Int) + 1) (by omega) (by omega)]
        rfl
      have s2 : rl_ref26_Make_l3 w k S (j : Int) = if (v != 0) = true then some (.inr (.inr v)) else some (.inl ((j + 1 : Nat) : Int)) := by
        unfold rl_ref26_Make_l3
        rw [if_pos (by simp only [decide_eq_true_eq]; omega), if_pos (by omega), if_pos (by omega), Int.toNat_natCast, v2, bind1_pure, wi64 (n := (j : Int) + 1) (by omega) (by omega)]
        rfl
      by_cases h : v = 0
      · have y : ¬ (v != 0) = true := by rw [h]; decide
        rw [if_neg y] at s1 s2
        have g := v3 h
        obtain ⟨t, t1, t2, t3⟩ := ih (j + 1) (by omega) fun i hi => by
          by_cases e : i = j
          · subst e; exact g.2
          · exact hG i (by omega)
        exact ⟨t, by rw [loop_next s1]; exact t1, by rw [loop_next s2]; exact t2, t3⟩
      · have y : (v != 0) = true := bne_iff_ne.2 h
        rw [if_pos y] at s1 s2
        exact ⟨.inr v, loop_end s1, loop_end s2, .inr ⟨v, rfl, h⟩⟩
  exact key S.length 0 (by omega) fun i hi => absurd hi (by omega)
theorem make_both (w : S_api_Weights) (t : List Int) (k : Int) (S : List (List S_api_Sent)) (ht : t.length < 1000000) (hS : S.length < 1000000) (hz : SZ S) : ∃ u e, candidate_Make w t k S = some (u, e) ∧ rl_ref26_Make w t k S = some (u, e) ∧ u.length ≤ 4096 := by
  unfold candidate_Make rl_ref26_Make candidate_check
  rw [weight_check_eq, ref25_check_eq, bind1_pure, bind1_pure]
  by_cases wv : WV w
  rotate_left
  · rw [if_neg wv]
    exact ⟨[], 40, rfl, rfl, by simp⟩
  have z : ¬ ((0 : Int) != 0) = true := by decide
  rw [if_pos wv, if_neg z, if_neg z]
  by_cases tl : t.length = w.Agree.length
  rotate_left
  · have y : ((t.length : Int) != ((w.Agree.length : Nat) : Int)) = true := by rw [bne_iff_ne]; omega
    rw [if_pos y, if_pos y]
    exact ⟨[], 8, rfl, rfl, by simp⟩
  have y : ¬ ((t.length : Int) != ((w.Agree.length : Nat) : Int)) = true := by rw [tl]; simp
  rw [if_neg y, if_neg y, thr_any ht, bind1_pure]
  rw [scan_loop 0 (fun t : Int => !decide (0 ≤ t ∧ t ≤ 1000)) t (fun i => (i : Int)) (fun _ => ()) () (step := fun v : Int => rl_ref26_Make_l1 t v) (fun i hi => by
      simp only [rl_ref26_Make_l1, rl_ref26_Make_k2, Int.toNat_natCast]
      rw [if_pos (by simp only [decide_eq_true_eq]; omega), if_pos (by omega), if_pos (by omega), wi64 (n := (i : Int) + 1) (by omega) (by omega)]
      by_cases b1 : t.getD i 0 < 0
      · rw [if_pos (by rw [decide_eq_true_eq]; exact b1), decide_eq_false (by omega)]; rfl
      · rw [if_neg (by rw [decide_eq_true_eq]; exact b1)]
        by_cases b2 : t.getD i 0 > 1000
        · rw [if_pos (by rw [decide_eq_true_eq]; exact b2), decide_eq_false (by omega)]; rfl
        · rw [if_neg (by rw [decide_eq_true_eq]; exact b2), decide_eq_true (by omega)]; rfl) (by
      simp only [rl_ref26_Make_l1]
      rw [if_neg (by simp)])]
  by_cases tr : ∀ x ∈ t, 0 ≤ x ∧ x ≤ 1000
  rotate_left
  · have : t.findIdx? (fun t : Int => !decide (0 ≤ t ∧ t ≤ 1000)) ≠ none := any_of_idx.1 (by
      have : ∃ x ∈ t, ¬ (0 ≤ x ∧ x ≤ 1000) := by
        refine Classical.byContradiction fun hc => tr fun t ht => Classical.byContradiction fun hn => hc ⟨t, ht, hn⟩
      obtain ⟨t, ht, hn⟩ := this
      exact ⟨t, ht, by simp only [Bool.not_eq_true']; exact decide_eq_false hn⟩)
    rw [decide_eq_false tr, if_pos (by decide)]
    cases hi : t.findIdx? (fun t : Int => !decide (0 ≤ t ∧ t ≤ 1000)) with
    | none => exact absurd hi this
    | some i => exact ⟨[], 2, rfl, rfl, by simp⟩
  rw [decide_eq_true tr, if_neg (by decide), List.findIdx?_eq_none_iff.2 (fun b hb => by simp [tr b hb])]
  simp only [bindE_l]
  unfold rl_ref26_Make_a11
  by_cases sl : S.length > 4
  · have y : decide ((S.length : Int) > 4) = true := decide_eq_true (by omega)
    rw [if_pos y, if_pos y]
    exact ⟨[], 1, rfl, rfl, by simp⟩
  have y : ¬ decide ((S.length : Int) > 4) = true := by rw [decide_eq_true_eq]; omega
  rw [if_neg y, if_neg y]
  obtain ⟨c, c1, c2, c3⟩ := sheets_loop (w := w) (k := k) hS hz
  rw [c1, c2]
  rcases c3 with ⟨rfl, hG⟩ | ⟨e, rfl, he⟩
  rotate_left
  · have y : (e != 0) = true := bne_iff_ne.2 he
    simp only [bindE_r, candidate_check_a3, bind1_pure]
    rw [if_pos y]
    exact ⟨[], e, rfl, rfl, by simp⟩
  simp only [bindE_l, candidate_check_a2, bind1_pure]
  rw [if_neg z]
  unfold rl_ref26_Make_a9
  by_cases s0 : S.length = 0
  · have e : S = [] := List.length_eq_zero_iff.1 s0
    subst e
    have q1 : loop (fun v : (List S_api_Candidate) × Int => candidate_Make_l1 w t [] v.1 v.2) (([] : List S_api_Candidate), 0) = some (.inl []) := loop_end (by simp only [candidate_Make_l1]; rw [if_neg (by simp)])
    have q2 : loop (fun v : (List S_api_Candidate) × Int => rl_ref26_Make_l4 w t [] v.1 v.2) (([] : List S_api_Candidate), 0) = some [] := loop_end (by simp only [rl_ref26_Make_l4]; rw [if_neg (by simp)])
    rw [q1, q2]
    exact ⟨[], 0, rfl, rfl, by simp⟩
  have g : GV w t k S := ⟨wv, tl, tr, by omega, fun r hr => ⟨(hG r hr).2.1, fun i hi => ⟨(hG r hr).2.2 i hi, (hz _ (sheet_mem hr)).2.2 _ (sent_get hi)⟩⟩, (hG 0 (by omega)).1.2⟩
  rw [p1 g, r1 g, bind1_pure]
  unfold cap
  by_cases hR : (catF (X1 w t S) 0 S.length).length ≤ 4096
  · have y : ¬ decide (((catF (X1 w t S) 0 S.length).length : Int) > 4096) = true := by rw [decide_eq_true_eq]; omega
    rw [if_pos hR, if_neg y]
    exact ⟨_, _, rfl, rfl, hR⟩
  · have y : decide (((catF (X1 w t S) 0 S.length).length : Int) > 4096) = true := by rw [decide_eq_true_eq]; omega
    rw [if_neg hR, if_pos y]
    exact ⟨_, _, rfl, rfl, by simp⟩
end Go.Proofs.Ytknlckjpgmjenaa
