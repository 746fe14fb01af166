/- Plain: estimates of candidates; dealt candidates. -/
import Derived.Test.YtilpgjoidgfbiaaGreatEa
namespace Go.Proofs.YtilpgjoidgfbiaaGreat
open Vm
set_option linter.unusedVariables false
set_option linter.unusedSimpArgs false
def sumS (m : S_api_Model) (cs : List S_api_Candidate) : Int := (cs.map fun c => sh m c.Pattern).sum
def CN (m : S_api_Model) (cs : List S_api_Candidate) : Prop := ∀ c ∈ cs, PN m c.Pattern
theorem sumS_nil (m : S_api_Model) : sumS m [] = 0 := rfl
theorem sumS_cons (m : S_api_Model) (c : S_api_Candidate) (cs : List S_api_Candidate) : sumS m (c :: cs) = sh m c.Pattern + sumS m cs := by simp [sumS]
theorem sumS_append (m : S_api_Model) (a b : List S_api_Candidate) : sumS m (a ++ b) = sumS m a + sumS m b := by simp [sumS]
theorem sumS_in {m : S_api_Model} (h : MV m) : ∀ cs : List S_api_Candidate, 0 ≤ sumS m cs ∧ sumS m cs ≤ (cs.length : Int) * 1073741824
  | [] => by simp [sumS]
  | c :: cs => by
    have h1 := sh_in h c.Pattern
    have h2 := sumS_in h cs
    rw [sumS_cons, List.length_cons]
    omega
theorem cand_take {cs : List S_api_Candidate} {i : Nat} (hi : i < cs.length) : cs.take (i + 1) = cs.take i ++ [cs.getD i dS_api_Candidate] := by
  rw [List.take_add_one, List.getD_eq_getElem?_getD, List.getElem?_eq_getElem hi]; rfl
theorem cand_mem {cs : List S_api_Candidate} {i : Nat} (hi : i < cs.length) : cs.getD i dS_api_Candidate ∈ cs := by
  rw [List.getD_eq_getElem?_getD, List.getElem?_eq_getElem hi]
  exact List.getElem_mem hi
theorem shares_eq {m : S_api_Model} (h : MV m) {cs : List S_api_Candidate} (hc : CN m cs) (hn : cs.length ≤ 4096) : quality_shares m cs = some (sumS m cs, 0) := by
  unfold quality_shares
  have hloop := loop_for (step := fun v : Int × Int => quality_shares_l1 m cs v.1 v.2) (fun i => (sumS m (cs.take i), (i : Int))) cs.length (.inl (sumS m cs)) (fun i hi => by
      simp only [quality_shares_l1, Int.toNat_natCast]
      have h1 := sumS_in h (cs.take i)
      have h2 := sh_in h (cs.getD i dS_api_Candidate).Pattern
      have h3 : (cs.take i).length ≤ 4096 := by rw [List.length_take]; omega
      rw [if_pos (by simpa using hi), if_pos (by omega), if_pos (by omega), share_eq h (hc _ (cand_mem hi)), bind2_pure, if_neg (by decide), wi64 (by omega) (by omega), wi64 (by omega) (by omega), cand_take hi, sumS_append, sumS_cons, sumS_nil, Int.add_zero]
      rfl) (by
      simp only [quality_shares_l1]
      rw [if_neg (by simp), List.take_of_length_le (Nat.le_refl _)]) (s := (0, 0)) rfl
  rw [hloop, bindE_l]
  rfl
theorem of_est {m : S_api_Model} (h : MV m) {a b : List S_api_Candidate} (ha : CN m a) (hb : CN m b) (la : a.length ≤ 4096) (lb : b.length ≤ 4096) : quality_Of m a b = some (⟨(a.length : Int) * 1073741824 - sumS m a, sumS m b, sumS m a⟩, 0) := by
  have h1 := sumS_in h a
  unfold quality_Of
  rw [em_check_eq, if_pos h, bind1_pure, if_neg (by decide), if_neg (by simp only [decide_eq_true_eq]; omega), decide_eq_false (by omega)]
  unfold quality_Of_k1
  rw [if_neg (by decide), shares_eq h ha la, bind2_pure, if_neg (by decide), shares_eq h hb lb, bind2_pure, if_neg (by decide), wi64 (n := (a.length : Int) * 1073741824) (by omega) (by omega), wi64 (by omega) (by omega), bind1_pure]
/-! Dealt candidates. -/
theorem bonds4 (r i s : Int) {L : List S_api_Bond} {d : S_recordlinkmake_Deck} (hd : DeckOk d) (hL : L.length ≤ 1000) : ∃ t, loop (fun v : (List S_api_Bond) × Int × (List Int) × Int × Int => rl_play_Bonds_l4 3 4 r i s v.1 v.2.1 v.2.2.1 v.2.2.2.1 v.2.2.2.2) (L, 1, d.list, d.at_, d.state) = some t ∧ t.1.length ≤ L.length + 3 ∧ DeckOk ⟨t.2.1, t.2.2.1, t.2.2.2⟩ := by
  refine loop_inv 3 (fun (k : Nat) (v : (List S_api_Bond) × Int × (List Int) × Int × Int) => v.2.1 = 1 + (k : Int) ∧ v.1.length ≤ L.length + k ∧ DeckOk ⟨v.2.2.1, v.2.2.2.1, v.2.2.2.2⟩) (fun (t : (List S_api_Bond) × (List Int) × Int × Int) => t.1.length ≤ L.length + 3 ∧ DeckOk ⟨t.2.1, t.2.2.1, t.2.2.2⟩) ?_ ?_ ⟨rfl, Nat.le_refl _, hd⟩
  · rintro k hk ⟨l, j, a, b, c⟩ ⟨s1, s2, s3⟩
    left
    simp only [rl_play_Bonds_l4, rl_play_Bonds_k5] at s1 s2 s3 ⊢
    subst s1
    rw [if_pos (by simp only [decide_eq_true_eq]; omega)]
    obtain ⟨o, d1, he, hd1⟩ := one_yes s3 (n := 4) (by decide) (by decide)
    rw [he]; clear he; first | rw [bind2_pure] | rw [bind3_pure] | rw [bind4_pure] | rw [bind1_pure]
    by_cases ho : o = true
    · rw [if_pos ho]
      obtain ⟨x, d2, he, x0, x1, hd2⟩ := next_yes hd1 (n := 9) (by decide) (by decide)
      rw [he]; clear he; first | rw [bind2_pure] | rw [bind3_pure] | rw [bind4_pure] | rw [bind1_pure]
      rw [if_pos (by simp only [List.length_cons, List.length_nil]; omega)]
      refine ⟨_, rfl, ?_, ?_, hd2⟩
      · simp only; rw [wi64 (by omega) (by omega)]; omega
      · simp only [List.length_append, List.length_cons, List.length_nil]; omega
    · rw [if_neg ho]
      refine ⟨_, rfl, ?_, ?_, hd1⟩
      · simp only; rw [wi64 (by omega) (by omega)]; omega
      · simp only; omega
  · rintro ⟨l, j, a, b, c⟩ ⟨s1, s2, s3⟩
    simp only [rl_play_Bonds_l4] at s1 s2 s3 ⊢
    subst s1
    rw [if_neg (by simp)]
    exact ⟨_, rfl, s2, s3⟩
theorem bonds3 (r : Nat) (i : Int) {L : List S_api_Bond} {d : S_recordlinkmake_Deck} (hd : DeckOk d) (hr : r < 3) (hL : L.length ≤ 900) : ∃ t, loop (fun v : (List S_api_Bond) × Int × (List Int) × Int × Int => rl_play_Bonds_l3 3 3 4 r i v.1 v.2.1 v.2.2.1 v.2.2.2.1 v.2.2.2.2) (L, (r : Int) + 1, d.list, d.at_, d.state) = some t ∧ t.1.length ≤ L.length + 9 ∧ DeckOk ⟨t.2.1, t.2.2.1, t.2.2.2⟩ := by
  refine loop_inv (2 - r) (fun (k : Nat) (v : (List S_api_Bond) × Int × (List Int) × Int × Int) => v.2.1 = (r : Int) + 1 + (k : Int) ∧ v.1.length ≤ L.length + 3 * k ∧ DeckOk ⟨v.2.2.1, v.2.2.2.1, v.2.2.2.2⟩) (fun (t : (List S_api_Bond) × (List Int) × Int × Int) => t.1.length ≤ L.length + 9 ∧ DeckOk ⟨t.2.1, t.2.2.1, t.2.2.2⟩) ?_ ?_ ⟨by simp, Nat.le_refl _, hd⟩
  · rintro k hk ⟨l, j, a, b, c⟩ ⟨s1, s2, s3⟩
    left
    simp only [rl_play_Bonds_l3] at s1 s2 s3 ⊢
    subst s1
    rw [if_pos (by simp only [decide_eq_true_eq]; omega)]
    obtain ⟨t, e1, t1, t2⟩ := bonds4 r i ((r : Int) + 1 + (k : Int)) s3 (L := l) (by omega)
    rw [e1]
    refine ⟨_, rfl, ?_, ?_, t2⟩
    · simp only; rw [wi64 (by omega) (by omega)]; omega
    · simp only; omega
  · rintro ⟨l, j, a, b, c⟩ ⟨s1, s2, s3⟩
    simp only [rl_play_Bonds_l3] at s1 s2 s3 ⊢
    subst s1
    rw [if_neg (by simp only [decide_eq_true_eq]; omega)]
    exact ⟨_, rfl, by simp only; omega, s3⟩
theorem bonds2 (r : Nat) {L : List S_api_Bond} {d : S_recordlinkmake_Deck} (hd : DeckOk d) (hr : r < 3) (hL : L.length ≤ 800) : ∃ t, loop (fun v : (List S_api_Bond) × Int × (List Int) × Int × Int => rl_play_Bonds_l2 3 3 4 r v.1 v.2.1 v.2.2.1 v.2.2.2.1 v.2.2.2.2) (L, 1, d.list, d.at_, d.state) = some t ∧ t.1.length ≤ L.length + 27 ∧ DeckOk ⟨t.2.1, t.2.2.1, t.2.2.2⟩ := by
  refine loop_inv 3 (fun (k : Nat) (v : (List S_api_Bond) × Int × (List Int) × Int × Int) => v.2.1 = 1 + (k : Int) ∧ v.1.length ≤ L.length + 9 * k ∧ DeckOk ⟨v.2.2.1, v.2.2.2.1, v.2.2.2.2⟩) (fun (t : (List S_api_Bond) × (List Int) × Int × Int) => t.1.length ≤ L.length + 27 ∧ DeckOk ⟨t.2.1, t.2.2.1, t.2.2.2⟩) ?_ ?_ ⟨rfl, Nat.le_refl _, hd⟩
  · rintro k hk ⟨l, j, a, b, c⟩ ⟨s1, s2, s3⟩
    left
    simp only [rl_play_Bonds_l2] at s1 s2 s3 ⊢
    subst s1
    rw [if_pos (by simp only [decide_eq_true_eq]; omega), wi64 (n := (r : Int) + 1) (by omega) (by omega)]
    obtain ⟨t, e1, t1, t2⟩ := bonds3 r (1 + (k : Int)) s3 hr (L := l) (by omega)
    rw [e1]
    refine ⟨_, rfl, ?_, ?_, t2⟩
    · simp only; rw [wi64 (by omega) (by omega)]; omega
    · simp only; omega
  · rintro ⟨l, j, a, b, c⟩ ⟨s1, s2, s3⟩
    simp only [rl_play_Bonds_l2] at s1 s2 s3 ⊢
    subst s1
    rw [if_neg (by simp)]
    exact ⟨_, rfl, by simp only; omega, s3⟩
theorem bonds_yes {d : S_recordlinkmake_Deck} (hd : DeckOk d) : ∃ l d', rl_play_Bonds d 3 3 4 = some (l, d') ∧ l.length ≤ 81 ∧ DeckOk d' := by
  unfold rl_play_Bonds
  obtain ⟨t, e1, t1, t2⟩ := loop_inv (step := fun v : (List S_api_Bond) × Int × (List Int) × Int × Int => rl_play_Bonds_l1 3 3 4 v.1 v.2.1 v.2.2.1 v.2.2.2.1 v.2.2.2.2) 3 (fun k v => v.2.1 = (k : Int) ∧ v.1.length ≤ 27 * k ∧ DeckOk ⟨v.2.2.1, v.2.2.2.1, v.2.2.2.2⟩) (fun t => t.1.length ≤ 81 ∧ DeckOk ⟨t.2.1, t.2.2.1, t.2.2.2⟩) (by
      rintro k hk ⟨l, j, a, b, c⟩ ⟨s1, s2, s3⟩
      left
      simp only [rl_play_Bonds_l1] at s1 s2 s3 ⊢
      subst s1
      rw [if_pos (by simp only [decide_eq_true_eq]; omega)]
      obtain ⟨t, e1, t1, t2⟩ := bonds2 k s3 hk (L := l) (by omega)
      rw [e1]
      refine ⟨_, rfl, ?_, ?_, t2⟩
      · simp only; rw [wi64 (by omega) (by omega)]; omega
      · simp only; omega) (by
      rintro ⟨l, j, a, b, c⟩ ⟨s1, s2, s3⟩
      simp only [rl_play_Bonds_l1] at s1 s2 s3 ⊢
      subst s1
      rw [if_neg (by simp)]
      exact ⟨_, rfl, by simp only; omega, s3⟩) (s := (([] : List S_api_Bond), 0, d.list, d.at_, d.state)) ⟨rfl, Nat.le_refl _, hd⟩
  rw [e1]
  exact ⟨t.1, ⟨t.2.1, t.2.2.1, t.2.2.2⟩, rfl, t1, t2⟩
theorem cands_yes {d : S_recordlinkmake_Deck} (hd : DeckOk d) {n : Nat} (h1 : 1 ≤ n) (h2 : n ≤ 5) : ∃ cs d', rl_play_Candidates d (n : Int) = some (cs, d') ∧ cs.length ≤ 81 ∧ (∀ c ∈ cs, 0 ≤ c.Pattern ∧ c.Pattern < ((3 ^ n : Nat) : Int)) ∧ DeckOk d' := by
  unfold rl_play_Candidates
  have hp := pow3_le h2
  rw [pow_loop (step := fun v : Int × Int => rl_play_Candidates_l1 (n : Int) v.1 v.2) h2 (fun v => rfl), bind1_pure]
  obtain ⟨bs, d1, he, hb, hd1⟩ := bonds_yes hd
  rw [he, bind2_pure]
  obtain ⟨t, e1, t1, t2, t3⟩ := loop_inv (step := fun v : (List S_api_Candidate) × Int × (List Int) × Int × Int => rl_play_Candidates_l2 ((3 ^ n : Nat) : Int) bs v.1 v.2.1 v.2.2.1 v.2.2.2.1 v.2.2.2.2) bs.length
    (fun k v => v.2.1 = (k : Int) ∧ v.1.length = k ∧ (∀ c ∈ v.1, 0 ≤ c.Pattern ∧ c.Pattern < ((3 ^ n : Nat) : Int)) ∧ DeckOk ⟨v.2.2.1, v.2.2.2.1, v.2.2.2.2⟩) (fun t => t.1.length ≤ 81 ∧ (∀ c ∈ t.1, 0 ≤ c.Pattern ∧ c.Pattern < ((3 ^ n : Nat) : Int)) ∧ DeckOk ⟨t.2.1, t.2.2.1, t.2.2.2⟩) (by
      rintro k hk ⟨l, j, a, b, c⟩ ⟨s1, s2, s3, s4⟩
      left
      simp only [rl_play_Candidates_l2] at s1 s2 s3 s4 ⊢
      subst s1
      rw [if_pos (by simpa using hk), if_pos (by omega), if_pos (by omega)]
      obtain ⟨x, d2, he, x0, x1, hd2⟩ := next_yes s4 (n := ((3 ^ n : Nat) : Int)) (by omega) (by omega)
      rw [he]; clear he; first | rw [bind2_pure] | rw [bind3_pure] | rw [bind4_pure] | rw [bind1_pure]
      obtain ⟨y, d3, he, y0, y1, hd3⟩ := next_yes hd2 (n := 121) (by decide) (by decide)
      have hr : rl_play_Range d2 (-30) 90 = some (IntKind.i64.wrap (-30 + y), d3) := by
        unfold rl_play_Range
        rw [show IntKind.i64.wrap (IntKind.i64.wrap (90 - -30) + 1) = 121 by decide, he]
        rfl
      rw [hr, bind2_pure, if_pos (by simp only [List.length_cons, List.length_nil]; omega)]
      refine ⟨_, rfl, ?_, ?_, ?_, hd3⟩
      · simp only; rw [wi64 (by omega) (by omega)]; omega
      · simp only [List.length_append, List.length_cons, List.length_nil]; omega
      · intro q hq
        rcases List.mem_append.1 hq with h | h
        · exact s3 q h
        · rw [List.mem_singleton.1 h]; exact ⟨x0, x1⟩) (by
      rintro ⟨l, j, a, b, c⟩ ⟨s1, s2, s3, s4⟩
      simp only [rl_play_Candidates_l2] at s1 s2 s3 s4 ⊢
      subst s1
      rw [if_neg (by simp)]
      exact ⟨_, rfl, by simp only; omega, s3, s4⟩) (s := (([] : List S_api_Candidate), 0, d1.list, d1.at_, d1.state)) ⟨rfl, rfl, by simp, hd1⟩
  rw [e1]
  exact ⟨t.1, ⟨t.2.1, t.2.2.1, t.2.2.2⟩, rfl, t1, t2, t3⟩
end Go.Proofs.YtilpgjoidgfbiaaGreat
