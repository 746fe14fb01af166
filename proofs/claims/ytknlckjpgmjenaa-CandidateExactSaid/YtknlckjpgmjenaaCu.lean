/- Plain: small sheets; weights that are dealt at random. -/
import Derived.Test.YtknlckjpgmjenaaCv
namespace Go.Proofs.Ytknlckjpgmjenaa
open Vm
open IntKind (i64 u64 u32 u8)
set_option linter.unusedVariables false
set_option linter.unusedSimpArgs false
def SM (p : List S_api_Sent) : Prop := p.length ≤ 80 ∧ ∀ i, i < p.length → (p.getD i dS_api_Sent).Record.Fields.length ≤ 8 ∧ (p.getD i dS_api_Sent).Hashes.length ≤ 12 ∧ (p.getD i dS_api_Sent).Has.length ≤ 12
theorem small_yes (p : List S_api_Sent) : ∃ b, rl_law26_small p = some b ∧ (b = true → SM p) := by
  unfold rl_law26_small
  by_cases hp : p.length > 80
  · rw [if_pos (by simp only [decide_eq_true_eq]; omega)]
    exact ⟨false, rfl, fun e => by cases e⟩
  rw [if_neg (by simp only [decide_eq_true_eq]; omega)]
  have inner : ∀ i : Nat, i < p.length → (p.getD i dS_api_Sent).Record.Fields.length ≤ 8 → ∃ t : Unit ⊕ Unit, loop (fun v : Int => rl_law26_small_l3 p (i : Int) v) 0 = some t := fun i hi hf => by
    rw [scan_loop dS_api_Bits (fun b => decide (b.Words.length > 20)) (p.getD i dS_api_Sent).Record.Fields (fun j => (j : Int)) (fun _ => ()) () (step := fun v : Int => rl_law26_small_l3 p (i : Int) v) (fun j hj => by
        simp only [rl_law26_small_l3, Int.toNat_natCast]
        rw [if_pos (by simp only [decide_eq_true_eq]; omega), if_pos (by omega), if_pos (by omega), wi64 (n := (j : Int) + 1) (by omega) (by omega)]
        by_cases hb : ((p.getD i dS_api_Sent).Record.Fields.getD j dS_api_Bits).Words.length > 20
        · rw [if_pos (by simp only [decide_eq_true_eq]; omega), if_pos (by rw [decide_eq_true_eq]; exact hb)]
        · rw [if_neg (by simp only [decide_eq_true_eq]; omega), if_neg (by rw [decide_eq_true_eq]; exact hb)]
          rfl) (by
        simp only [rl_law26_small_l3, Int.toNat_natCast]
        rw [if_neg (by simp)])]
    exact ⟨_, rfl⟩
  obtain ⟨t, t1, t2⟩ := loop_inv (step := fun v : Int => rl_law26_small_l1 p v) p.length (fun i s => s = (i : Int) ∧ ∀ j, j < i → (p.getD j dS_api_Sent).Record.Fields.length ≤ 8 ∧ (p.getD j dS_api_Sent).Hashes.length ≤ 12 ∧ (p.getD j dS_api_Sent).Has.length ≤ 12) (fun t => t = .inr () ∨ (t = .inl () ∧ SM p)) (by
    rintro i hi s ⟨rfl, hs⟩
    simp only [rl_law26_small_l1, Int.toNat_natCast]
    have no : rl_law26_small_k2 p (i : Int) true = some (.inr (.inr ())) := rfl
    rw [if_pos (by simp only [decide_eq_true_eq]; omega), if_pos (by omega), if_pos (by omega)]
    by_cases c1 : (p.getD i dS_api_Sent).Record.Fields.length > 8
    · right
      exact ⟨.inr (), by rw [if_pos (by simp only [decide_eq_true_eq]; omega), no], .inl rfl⟩
    rw [if_neg (by simp only [decide_eq_true_eq]; omega)]
    by_cases c2 : (p.getD i dS_api_Sent).Hashes.length > 12
    · right
      exact ⟨.inr (), by rw [if_pos (by simp only [decide_eq_true_eq]; omega), no], .inl rfl⟩
    rw [if_neg (by simp only [decide_eq_true_eq]; omega)]
    by_cases c3 : (p.getD i dS_api_Sent).Has.length > 12
    · right
      exact ⟨.inr (), by rw [decide_eq_true (by omega), no], .inl rfl⟩
    rw [decide_eq_false (by omega)]
    unfold rl_law26_small_k2
    rw [if_neg (by decide), if_pos (by omega), if_pos (by omega)]
    obtain ⟨u, hu⟩ := inner i hi (by omega)
    rw [hu]
    rcases u with ⟨⟩ | ⟨⟩
    · left
      rw [bindE_l]
      unfold rl_law26_small_a4
      rw [wi64 (n := (i : Int) + 1) (by omega) (by omega)]
      refine ⟨_, rfl, rfl, fun j hj => ?_⟩
      by_cases e : j = i
      · subst e; exact ⟨by omega, by omega, by omega⟩
      · exact hs j (by omega)
    · right
      rw [bindE_r]
      exact ⟨.inr (), rfl, .inl rfl⟩) (by
    rintro s ⟨rfl, hs⟩
    refine ⟨.inl (), ?_, .inr ⟨rfl, by omega, hs⟩⟩
    simp only [rl_law26_small_l1]
    rw [if_neg (by simp)]) (s := 0) ⟨rfl, fun j hj => absurd hj (by omega)⟩
  rw [t1]
  rcases t2 with rfl | ⟨rfl, h⟩
  · exact ⟨false, rfl, fun e => by cases e⟩
  · exact ⟨true, rfl, fun _ => h⟩
theorem bentweights_yes {d : S_recordlinkmake_Deck} (h : DeckOk d) {n : Nat} (h1 : 1 ≤ n) (h2 : n ≤ 5) : ∃ w d', rl_play_BentWeights d (n : Int) = some (w, d') ∧ DeckOk d' := by
  unfold rl_play_BentWeights
  obtain ⟨w, d1, e1, hw, wv, hd1⟩ := weights_yes h h1 h2
  rw [e1, bind2_pure]
  have k1 : ∀ (d : S_recordlinkmake_Deck) (q : Int) (m : Nat) (l : List Int), DeckOk d → m ≤ w.Agree.length → ∃ u d', rl_play_BentWeights_k1 w d.list d.at_ d.state q m l = some (u, d') ∧ DeckOk d' := fun d q m l hd hm => by
    unfold rl_play_BentWeights_k1
    rw [if_pos hm]
    exact ⟨_, _, rfl, hd⟩
  have wl := wv.1
  obtain ⟨c, d2, he, c0, c1, hd2⟩ := next_yes hd1 (n := 8) (by decide) (by decide)
  rw [he]; clear he; first | rw [bind2_pure] | rw [bind3_pure] | rw [bind4_pure] | rw [bind1_pure]
  by_cases b0 : c = 0
  · rw [if_pos (by rw [beq_iff_eq]; exact b0), wi64 (n := ((w.Agree.length : Nat) : Int) + 1) (by omega) (by omega)]
    obtain ⟨q, d3, he, q0, q1, hd3⟩ := next_yes hd2 (n := ((w.Agree.length : Nat) : Int) + 1) (by omega) (by omega)
    rw [he]; clear he; first | rw [bind2_pure] | rw [bind3_pure] | rw [bind4_pure] | rw [bind1_pure]
    rw [if_pos q0, if_pos (by omega)]
    exact k1 d3 _ _ _ hd3 (by omega)
  rw [if_neg (by rw [beq_iff_eq]; exact b0)]
  by_cases b1 : c = 1
  · rw [if_pos (by rw [beq_iff_eq]; exact b1)]
    obtain ⟨q, d3, he, q0, q1, hd3⟩ := next_yes hd2 (n := 3) (by decide) (by decide)
    rw [he]; clear he; first | rw [bind2_pure] | rw [bind3_pure] | rw [bind4_pure] | rw [bind1_pure]
    rw [if_pos q0, if_pos (by simp; omega)]
    exact k1 d3 _ _ _ hd3 (Nat.le_refl _)
  rw [if_neg (by rw [beq_iff_eq]; exact b1)]
  by_cases b2 : c = 2
  · rw [if_pos (by rw [beq_iff_eq]; exact b2), if_pos (by simp only [decide_eq_true_eq]; omega)]
    obtain ⟨q, d3, he, q0, q1, hd3⟩ := next_yes hd2 (n := ((w.Differ.length : Nat) : Int)) (by omega) (by omega)
    rw [he]; clear he; first | rw [bind2_pure] | rw [bind3_pure] | rw [bind4_pure] | rw [bind1_pure]
    obtain ⟨z, d4, he, z0, z1, hd4⟩ := next_yes hd3 (n := 3) (by decide) (by decide)
    rw [he]; clear he; first | rw [bind2_pure] | rw [bind3_pure] | rw [bind4_pure] | rw [bind1_pure]
    rw [if_pos z0, if_pos (by simp; omega), if_pos q0, if_pos q1]
    exact k1 d4 _ _ _ hd4 (Nat.le_refl _)
  rw [if_neg (by rw [beq_iff_eq]; exact b2)]
  exact k1 d2 _ _ _ hd2 (Nat.le_refl _)
end Go.Proofs.Ytknlckjpgmjenaa
