/- Plain: package candidate and its reference, for any data. -/
import Derived.Test.YtknlckjpgmjenaaCy
namespace Go.Proofs.Ytknlckjpgmjenaa
open Vm
open IntKind (i64 u64 u32 u8)
set_option linter.unusedVariables false
set_option linter.unusedSimpArgs false
def GR (f k : Int) (x : S_api_Sent) : Prop := EV x.Record ∧ (x.Record.Fields.length : Int) = f ∧ (x.Hashes.length : Int) = k ∧ (x.Has.length : Int) = k
/-- fields of a size -/
def FSz (l : List S_api_Sent) : Prop := ∀ x ∈ l, x.Record.Fields.length < 1000000
theorem FSz.get {l : List S_api_Sent} (h : FSz l) {i : Nat} (hi : i < l.length) : (l.getD i dS_api_Sent).Record.Fields.length < 1000000 := h _ (sent_get hi)
theorem chk_step {f k : Int} {l : List S_api_Sent} (hf : FSz l) (i : Nat) (hi : i < l.length) : candidate_Check_l2 f k l (i : Int) = rl_ref26_Check_l2 f k l (i : Int) := by
  unfold candidate_Check_l2 rl_ref26_Check_l2
  rw [Int.toNat_natCast, encvalid_eq (hf.get hi), ref16_eq (hf.get hi)]
  rfl
theorem chk_loop {f k : Int} {l : List S_api_Sent} (hl : l.length < 1000000) (hf : FSz l) : ∃ t : Unit ⊕ Int, loop (fun v : Int => candidate_Check_l2 f k l v) 0 = some t ∧ loop (fun v : Int => rl_ref26_Check_l2 f k l v) 0 = some t ∧ ((t = .inl () ∧ ∀ i, i < l.length → GR f k (l.getD i dS_api_Sent)) ∨ ∃ e, t = .inr e ∧ e ≠ 0) := by
  have key : ∀ m j, j + m = l.length → (∀ i, i < j → GR f k (l.getD i dS_api_Sent)) → ∃ t : Unit ⊕ Int, loop (fun v : Int => candidate_Check_l2 f k l v) (j : Int) = some t ∧ loop (fun v : Int => rl_ref26_Check_l2 f k l v) (j : Int) = some t ∧ ((t = .inl () ∧ ∀ i, i < l.length → GR f k (l.getD i dS_api_Sent)) ∨ ∃ e, t = .inr e ∧ e ≠ 0) := by
    intro m
    induction m with
    | zero =>
      intro j hj hG
      refine ⟨.inl (), ?_, ?_, .inl ⟨rfl, fun i hi => hG i (by omega)⟩⟩
      · exact loop_end (by simp only [candidate_Check_l2]; rw [if_neg (by simp only [decide_eq_true_eq]; omega)])
      · exact loop_end (by simp only [rl_ref26_Check_l2]; rw [if_neg (by simp only [decide_eq_true_eq]; omega)])
    | succ m ih =>
      intro j hj hG
      have hjl : j < l.length := by omega
      have hsame := chk_step (f := f) (k := k) hf j hjl
      have done : ∀ e : Int, e ≠ 0 → candidate_Check_l2 f k l (j : Int) = some (.inr (.inr e)) → ∃ t : Unit ⊕ Int, loop (fun v : Int => candidate_Check_l2 f k l v) (j : Int) = some t ∧ loop (fun v : Int => rl_ref26_Check_l2 f k l v) (j : Int) = some t ∧ ((t = .inl () ∧ ∀ i, i < l.length → GR f k (l.getD i dS_api_Sent)) ∨ ∃ e, t = .inr e ∧ e ≠ 0) := fun e he h =>
        ⟨.inr e, loop_end h, loop_end (by rw [← hsame]; exact h), .inr ⟨e, rfl, he⟩⟩
      have hs : candidate_Check_l2 f k l (j : Int) = if EV (l.getD j dS_api_Sent).Record ∧ ((l.getD j dS_api_Sent).Record.Fields.length : Int) = f then (if ((l.getD j dS_api_Sent).Hashes.length : Int) = k ∧ ((l.getD j dS_api_Sent).Has.length : Int) = k then (if 0 < j ∧ (l.getD (j - 1) dS_api_Sent).Record.ID ≥ (l.getD j dS_api_Sent).Record.ID then some (.inr (.inr 12)) else some (.inl ((j + 1 : Nat) : Int))) else some (.inr (.inr 8))) else some (.inr (.inr 7)) := by
        unfold candidate_Check_l2
        rw [if_pos (by simp only [decide_eq_true_eq]; omega), if_pos (by omega), if_pos (by omega), Int.toNat_natCast, encvalid_eq (hf.get hjl), bind1_pure]
        have c7 : candidate_Check_k3 k l (j : Int) true = some (.inr (.inr 7)) := rfl
        have c8 : candidate_Check_k4 l (j : Int) true = some (.inr (.inr 8)) := rfl
        by_cases h1 : EV (l.getD j dS_api_Sent).Record
        rotate_left
        · rw [decide_eq_false h1, if_pos (by decide), c7, if_neg (fun q => h1 q.1)]
        rw [decide_eq_true h1, if_neg (by decide)]
        by_cases h2 : ((l.getD j dS_api_Sent).Record.Fields.length : Int) = f
        rotate_left
        · rw [show (((l.getD j dS_api_Sent).Record.Fields.length : Int) != f) = true from bne_iff_ne.2 h2, c7, if_neg (fun q => h2 q.2)]
        rw [show (((l.getD j dS_api_Sent).Record.Fields.length : Int) != f) = false by rw [h2]; simp, if_pos ⟨h1, h2⟩]
        unfold candidate_Check_k3
        rw [if_neg (by decide), Int.toNat_natCast]
        by_cases h3 : ((l.getD j dS_api_Sent).Hashes.length : Int) = k
        rotate_left
        · rw [if_pos (bne_iff_ne.2 h3), c8, if_neg (fun q => h3 q.1)]
        rw [if_neg (by rw [h3]; simp)]
        by_cases h4 : ((l.getD j dS_api_Sent).Has.length : Int) = k
        rotate_left
        · rw [show (((l.getD j dS_api_Sent).Has.length : Int) != k) = true from bne_iff_ne.2 h4, c8, if_neg (fun q => h4 q.2)]
        rw [show (((l.getD j dS_api_Sent).Has.length : Int) != k) = false by rw [h4]; simp, if_pos ⟨h3, h4⟩]
        unfold candidate_Check_k4
        rw [if_neg (by decide)]
        by_cases h5 : 0 < j
        · rw [if_pos (by simp only [decide_eq_true_eq]; omega), wi64 (n := (j : Int) - 1) (by omega) (by omega), if_pos (by omega), if_pos (by omega), show ((j : Int) - 1).toNat = j - 1 by omega, Int.toNat_natCast]
          unfold candidate_Check_k5
          rw [wi64 (n := (j : Int) + 1) (by omega) (by omega)]
          by_cases h6 : (l.getD (j - 1) dS_api_Sent).Record.ID ≥ (l.getD j dS_api_Sent).Record.ID
          · rw [if_pos (by rw [decide_eq_true_eq]; exact h6), if_pos ⟨h5, h6⟩]
          · rw [if_neg (by rw [decide_eq_true_eq]; exact h6), if_neg (fun q => h6 q.2)]
            rfl
        · rw [if_neg (by simp only [decide_eq_true_eq]; omega), if_neg (fun q => h5 q.1)]
          unfold candidate_Check_k5
          rw [if_neg (by decide), wi64 (n := (j : Int) + 1) (by omega) (by omega)]
          rfl
      by_cases h1 : EV (l.getD j dS_api_Sent).Record ∧ ((l.getD j dS_api_Sent).Record.Fields.length : Int) = f
      rotate_left
      · exact done 7 (by decide) (by rw [hs, if_neg h1])
      by_cases h2 : ((l.getD j dS_api_Sent).Hashes.length : Int) = k ∧ ((l.getD j dS_api_Sent).Has.length : Int) = k
      rotate_left
      · exact done 8 (by decide) (by rw [hs, if_pos h1, if_neg h2])
      by_cases h3 : 0 < j ∧ (l.getD (j - 1) dS_api_Sent).Record.ID ≥ (l.getD j dS_api_Sent).Record.ID
      · exact done 12 (by decide) (by rw [hs, if_pos h1, if_pos h2, if_pos h3])
      rw [if_pos h1, if_pos h2, if_neg h3] at hs
      obtain ⟨t, t1, t2, t3⟩ := ih (j + 1) (by omega) fun i hi => by
        by_cases e : i = j
        · subst e; exact ⟨h1.1, h1.2, h2.1, h2.2⟩
        · exact hG i (by omega)
      exact ⟨t, by rw [loop_next hs]; exact t1, by rw [loop_next (by rw [← hsame]; exact hs)]; exact t2, t3⟩
  exact key l.length 0 (by omega) fun i hi => absurd hi (by omega)
theorem check_both {f k : Int} {l : List S_api_Sent} (hl : l.length < 1000000) (hf : FSz l) : ∃ v, candidate_Check f k l = some v ∧ rl_ref26_Check f k l = some v ∧ (v = 0 → (1 ≤ f ∧ f ≤ 5) ∧ (1 ≤ k ∧ k ≤ 8) ∧ l.length ≤ 64 ∧ ∀ i, i < l.length → GR f k (l.getD i dS_api_Sent)) := by
  unfold candidate_Check rl_ref26_Check
  have n1 : candidate_Check_k1 f k l true = some 2 := rfl
  have n2 : rl_ref26_Check_k1 f k l true = some 2 := rfl
  have no : ∃ v, some (2 : Int) = some v ∧ some (2 : Int) = some v ∧ (v = 0 → (1 ≤ f ∧ f ≤ 5) ∧ (1 ≤ k ∧ k ≤ 8) ∧ l.length ≤ 64 ∧ ∀ i, i < l.length → GR f k (l.getD i dS_api_Sent)) := ⟨2, rfl, rfl, fun e => absurd e (by decide)⟩
  rw [n1, n2]
  by_cases h1 : f < 1
  · have y : decide (f < 1) = true := decide_eq_true h1
    rw [if_pos y, if_pos y]; exact no
  have y1 : ¬ decide (f < 1) = true := by rw [decide_eq_true_eq]; exact h1
  rw [if_neg y1, if_neg y1]
  by_cases h2 : f > 5
  · have y : decide (f > 5) = true := decide_eq_true h2
    rw [if_pos y, if_pos y]; exact no
  have y2 : ¬ decide (f > 5) = true := by rw [decide_eq_true_eq]; exact h2
  rw [if_neg y2, if_neg y2]
  by_cases h3 : k < 1
  · have y : decide (k < 1) = true := decide_eq_true h3
    rw [if_pos y, if_pos y]; exact no
  have y3 : ¬ decide (k < 1) = true := by rw [decide_eq_true_eq]; exact h3
  rw [if_neg y3, if_neg y3]
  by_cases h4 : k > 8
  · rw [decide_eq_true h4, n1, n2]; exact no
  rw [decide_eq_false h4]
  unfold candidate_Check_k1 rl_ref26_Check_k1
  have x : ¬ false = true := by decide
  rw [if_neg x, if_neg x]
  by_cases h5 : l.length > 64
  · have y : decide ((l.length : Int) > 64) = true := decide_eq_true (by omega)
    rw [if_pos y, if_pos y]
    exact ⟨1, rfl, rfl, fun e => absurd e (by decide)⟩
  have y5 : ¬ decide ((l.length : Int) > 64) = true := by rw [decide_eq_true_eq]; omega
  rw [if_neg y5, if_neg y5]
  obtain ⟨t, t1, t2, t3⟩ := chk_loop (f := f) (k := k) hl hf
  rw [t1, t2]
  rcases t3 with ⟨rfl, hG⟩ | ⟨e, rfl, he⟩
  · exact ⟨0, rfl, rfl, fun _ => ⟨by omega, by omega, by omega, hG⟩⟩
  · exact ⟨e, rfl, rfl, fun h => absurd h he⟩
theorem find_both {l : List S_api_Sent} (hl : l.length < 1000000) (id : Int) : ∃ v, candidate_Find l id = some v ∧ rl_ref26_Find l id = some v := by
  unfold candidate_Find slices_IndexFunc_api_Sent_candidate_Find_f1 rl_ref26_Find
  rw [scan_loop dS_api_Sent (fun x => x.Record.ID == id) l (fun i => ((i : Int), id)) (fun i => ((i : Int), id)) id (step := fun v : Int × Int => slices_IndexFunc_api_Sent_candidate_Find_f1_l1 l v.1 v.2) (fun i hi => by
      simp only [slices_IndexFunc_api_Sent_candidate_Find_f1_l1, candidate_Find_f1, Int.toNat_natCast]
      rw [if_pos (by simp only [decide_eq_true_eq]; omega), if_pos (by omega), if_pos (by omega), bind2_pure, wi64 (n := (i : Int) + 1) (by omega) (by omega)]
      rfl) (by
      simp only [slices_IndexFunc_api_Sent_candidate_Find_f1_l1]
      rw [if_neg (by simp)]), scan_loop dS_api_Sent (fun x => x.Record.ID == id) l (fun i => (i : Int)) (fun i => (i : Int)) () (step := fun v : Int => rl_ref26_Find_l1 l id v) (fun i hi => by
      simp only [rl_ref26_Find_l1, Int.toNat_natCast]
      rw [if_pos (by simp only [decide_eq_true_eq]; omega), if_pos (by omega), if_pos (by omega), wi64 (n := (i : Int) + 1) (by omega) (by omega)]
      rfl) (by
      simp only [rl_ref26_Find_l1]
      rw [if_neg (by simp)])]
  cases l.findIdx? (fun x => x.Record.ID == id) with
  | none => exact ⟨-1, rfl, rfl⟩
  | some i => exact ⟨(i : Int), rfl, rfl⟩
/-- how many keys both have -/
def mk4 (x y : S_api_Sent) : Nat := min (min x.Hashes.length x.Has.length) (min y.Hashes.length y.Has.length)
theorem agree_any {x y : S_api_Sent} (h : mk4 x y < 1000000) : candidate_Agree x y = some (agS (mk4 x y) x y) ∧ rl_ref26_Agree x y = some (agS (mk4 x y) x y) := by
  constructor
  · unfold candidate_Agree
    have hz : (if ((y.Has.length : Nat) : Int) < (if ((y.Hashes.length : Nat) : Int) < (if ((x.Has.length : Nat) : Int) < ((x.Hashes.length : Nat) : Int) then ((x.Has.length : Nat) : Int) else ((x.Hashes.length : Nat) : Int)) then ((y.Hashes.length : Nat) : Int) else (if ((x.Has.length : Nat) : Int) < ((x.Hashes.length : Nat) : Int) then ((x.Has.length : Nat) : Int) else ((x.Hashes.length : Nat) : Int))) then ((y.Has.length : Nat) : Int) else (if ((y.Hashes.length : Nat) : Int) < (if ((x.Has.length : Nat) : Int) < ((x.Hashes.length : Nat) : Int) then ((x.Has.length : Nat) : Int) else ((x.Hashes.length : Nat) : Int)) then ((y.Hashes.length : Nat) : Int) else (if ((x.Has.length : Nat) : Int) < ((x.Hashes.length : Nat) : Int) then ((x.Has.length : Nat) : Int) else ((x.Hashes.length : Nat) : Int)))) = ((mk4 x y : Nat) : Int) := by
      unfold mk4
      split <;> split <;> (try split) <;> omega
    rw [hz, bind1_pure]
    have m1 : mk4 x y ≤ x.Hashes.length := by unfold mk4; omega
    have m2 : mk4 x y ≤ x.Has.length := by unfold mk4; omega
    have m3 : mk4 x y ≤ y.Hashes.length := by unfold mk4; omega
    have m4 : mk4 x y ≤ y.Has.length := by unfold mk4; omega
    generalize mk4 x y = k at *
    rcases scan (step := fun v : Int => candidate_Agree_l1 x y (k : Int) v) k (fun i => both x y i) (fun i => ()) (fun i hi => by
        simp only [candidate_Agree_l1, candidate_Agree_k2, Int.toNat_natCast]
        rw [if_pos (by simp only [decide_eq_true_eq]; omega), if_pos (by omega), if_pos (by omega)]
        have w1 : IntKind.i64.wrap ((i : Int) + 1) = ((i + 1 : Nat) : Int) := by rw [wi64 (by omega) (by omega)]; rfl
        by_cases c1 : x.Has.getD i false = true
        · rw [if_pos c1, if_pos (by omega)]
          by_cases c2 : y.Has.getD i false = true
          · rw [if_pos c2, if_pos (by omega), if_pos (by omega)]
            by_cases c3 : x.Hashes.getD i 0 = y.Hashes.getD i 0
            · left
              exact ⟨⟨c1, c2, c3⟩, by rw [if_pos (by rw [beq_iff_eq]; exact c3)]⟩
            · right
              exact ⟨fun q => c3 q.2.2, by rw [if_neg (by rw [beq_iff_eq]; exact c3), w1]⟩
          · right
            exact ⟨fun q => c2 q.2.1, by rw [if_neg c2, if_neg (by decide), w1]⟩
        · right
          exact ⟨fun q => c1 q.1, by rw [if_neg c1, if_neg (by decide), w1]⟩) (by simp only [candidate_Agree_l1]; rw [if_neg (by simp)]) with ⟨h1, h2⟩ | ⟨i, hi, hb, h1⟩
    · rw [h1, bindE_l]
      unfold agS candidate_Agree_a3
      rw [decide_eq_false (fun ⟨i, q1, q2⟩ => h2 i q1 q2)]
    · rw [h1, bindE_r]
      unfold agS candidate_Agree_a4
      rw [decide_eq_true ⟨i, hi, hb⟩]
  · unfold rl_ref26_Agree
    have m1 : mk4 x y ≤ x.Hashes.length := by unfold mk4; omega
    have m2 : mk4 x y ≤ x.Has.length := by unfold mk4; omega
    have m3 : mk4 x y ≤ y.Hashes.length := by unfold mk4; omega
    have m4 : mk4 x y ≤ y.Has.length := by unfold mk4; omega
    have m5 : ¬ (mk4 x y < x.Hashes.length ∧ mk4 x y < x.Has.length ∧ mk4 x y < y.Hashes.length ∧ mk4 x y < y.Has.length) := by unfold mk4; omega
    generalize mk4 x y = k at *
    have fin : rl_ref26_Agree_k2 x y (k : Int) false = some (.inr (.inl ())) := rfl
    rcases scan (step := fun v : Int => rl_ref26_Agree_l1 x y v) k (fun i => both x y i) (fun i => ()) (fun i hi => by
        simp only [rl_ref26_Agree_l1]
        rw [if_pos (by simp only [decide_eq_true_eq]; omega), if_pos (by simp only [decide_eq_true_eq]; omega), if_pos (by simp only [decide_eq_true_eq]; omega), decide_eq_true (by omega)]
        simp only [rl_ref26_Agree_k2, rl_ref26_Agree_k3, Int.toNat_natCast]
        rw [if_pos trivial, if_pos (by omega), if_pos (by omega)]
        have w1 : IntKind.i64.wrap ((i : Int) + 1) = ((i + 1 : Nat) : Int) := by rw [wi64 (by omega) (by omega)]; rfl
        by_cases c1 : x.Has.getD i false = true
        · rw [if_pos c1, if_pos (by omega)]
          by_cases c2 : y.Has.getD i false = true
          · rw [if_pos c2, if_pos (by omega), if_pos (by omega)]
            by_cases c3 : x.Hashes.getD i 0 = y.Hashes.getD i 0
            · left
              exact ⟨⟨c1, c2, c3⟩, by rw [if_pos (by rw [beq_iff_eq]; exact c3)]⟩
            · right
              exact ⟨fun q => c3 q.2.2, by rw [if_neg (by rw [beq_iff_eq]; exact c3), w1]⟩
          · right
            exact ⟨fun q => c2 q.2.1, by rw [if_neg c2, if_neg (by decide), w1]⟩
        · right
          exact ⟨fun q => c1 q.1, by rw [if_neg c1, if_neg (by decide), w1]⟩) (by
        simp only [rl_ref26_Agree_l1]
        by_cases q1 : k < x.Hashes.length
        · rw [if_pos (by simp only [decide_eq_true_eq]; omega)]
          by_cases q2 : k < x.Has.length
          · rw [if_pos (by simp only [decide_eq_true_eq]; omega)]
            by_cases q3 : k < y.Hashes.length
            · rw [if_pos (by simp only [decide_eq_true_eq]; omega), decide_eq_false (by omega), fin]
            · rw [if_neg (by simp only [decide_eq_true_eq]; omega), fin]
          · rw [if_neg (by simp only [decide_eq_true_eq]; omega), fin]
        · rw [if_neg (by simp only [decide_eq_true_eq]; omega), fin]) with ⟨h1, h2⟩ | ⟨i, hi, hb, h1⟩
    · rw [h1, bindE_l]
      unfold agS rl_ref26_Agree_a4
      rw [decide_eq_false (fun ⟨i, q1, q2⟩ => h2 i q1 q2)]
    · rw [h1, bindE_r]
      unfold agS rl_ref26_Agree_a5
      rw [decide_eq_true ⟨i, hi, hb⟩]
end Go.Proofs.Ytknlckjpgmjenaa
