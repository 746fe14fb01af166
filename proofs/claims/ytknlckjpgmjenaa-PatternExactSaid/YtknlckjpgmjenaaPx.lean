/- Plain: counts of any numbers, couples of any records, on both sides. -/
import Derived.Test.YtknlckjpgmjenaaPm
import Derived.Test.YtknlckjpgmjenaaPr
import Derived.Test.YtknlckjpgmjenaaPd
import Derived.Test.YtknlckjpgmjenaaWd
import Derived.Test.YtknlckjpgmjenaaG1
namespace Go.Proofs.Ytknlckjpgmjenaa
open Vm
open IntKind (i64 u64 u32 u8)
set_option linter.unusedVariables false
set_option linter.unusedSimpArgs false
/-! Counts. -/
def OKc (c : List Int) : Prop := (∀ x ∈ c, 0 ≤ x) ∧ c.sum ≤ 4096
noncomputable instance (c : List Int) : Decidable (OKc c) := Classical.propDecidable _
noncomputable def pcS (n : Nat) (c : List Int) : Int := if c.length = 3 ^ n then (if OKc c then 0 else 19) else 8
theorem pcS_zero {n : Nat} {c : List Int} : pcS n c = 0 ↔ CV n c := by
  unfold pcS
  by_cases h : c.length = 3 ^ n
  · rw [if_pos h]
    by_cases k : OKc c
    · rw [if_pos k]; exact ⟨fun _ => ⟨h, k.1, k.2⟩, fun _ => rfl⟩
    · rw [if_neg k]; exact ⟨fun e => by omega, fun e => absurd ⟨e.2.1, e.2.2⟩ k⟩
  · rw [if_neg h]; exact ⟨fun e => by omega, fun e => absurd e.1 h⟩
theorem of_getD {P : Int → Prop} {c : List Int} (h : ∀ j, j < c.length → P (c.getD j 0)) : ∀ x ∈ c, P x := by
  intro x hx
  obtain ⟨i, hi, rfl⟩ := List.getElem_of_mem hx
  have := h i hi
  rw [List.getD_eq_getElem?_getD, List.getElem?_eq_getElem hi] at this
  exact this
theorem OKc.get {c : List Int} (h : OKc c) {i : Nat} (hi : i < c.length) : 0 ≤ c.getD i 0 ∧ c.getD i 0 ≤ 4096 := by
  have h1 := take_sum hi
  have h2 := take_le h.1 i
  have h3 := take_le h.1 (i + 1)
  have h4 := all_getD h.1 hi
  have h5 := h.2
  omega
theorem pcount_eq (x : Int) : pattern_count x = some (decide (0 ≤ x ∧ x ≤ 4096)) := by
  unfold pattern_count pattern_count_k1
  by_cases h : x ≥ 0
  · rw [if_pos (by simpa using h)]
    by_cases h2 : x ≤ 4096
    · rw [decide_eq_true h2, decide_eq_true ⟨h, h2⟩]
    · rw [decide_eq_false h2, decide_eq_false (fun k => h2 k.2)]
  · rw [if_neg (by simpa using h), decide_eq_false (fun k => h k.1)]
theorem psum_any {c : List Int} (hl : c.length ≤ 300) : (pattern_sum c = some (c.sum, true) ∧ ∀ x ∈ c, 0 ≤ x) ∨ (pattern_sum c = some (0, false) ∧ ¬ OKc c) := by
  unfold pattern_sum
  obtain ⟨t, e1, h⟩ := loop_inv (step := fun v : Int × Int => pattern_sum_l1 c v.1 v.2) c.length (fun i s => s.2 = (i : Int) ∧ s.1 = (c.take i).sum ∧ 0 ≤ s.1 ∧ s.1 ≤ 4096 * (i : Int) ∧ ∀ j, j < i → 0 ≤ c.getD j 0)
    (fun t => (t = .inl c.sum ∧ ∀ x ∈ c, 0 ≤ x) ∨ (t = .inr () ∧ ¬ OKc c)) (by
    rintro i hi ⟨a, j⟩ ⟨s1, s2, s3, s4, s5⟩
    simp only [pattern_sum_l1] at s1 s2 s3 s4 s5 ⊢
    subst s1
    simp only [Int.toNat_natCast, pcount_eq, bind1_pure]
    rw [if_pos (by simp only [decide_eq_true_eq]; omega), if_pos (by omega), if_pos (by omega)]
    by_cases hb : 0 ≤ c.getD i 0 ∧ c.getD i 0 ≤ 4096
    · left
      rw [decide_eq_true hb, if_neg (by decide), wi64 (n := a + c.getD i 0) (by omega) (by omega), wi64 (n := (i : Int) + 1) (by omega) (by omega)]
      refine ⟨_, rfl, by simp only; omega, by simp only; rw [take_sum hi, s2], by simp only; omega, by simp only; omega, fun j hj => ?_⟩
      by_cases e : j = i
      · subst e; exact hb.1
      · exact s5 j (by omega)
    · right
      rw [decide_eq_false hb, if_pos (by decide)]
      exact ⟨_, rfl, .inr ⟨rfl, fun k => hb (k.get hi)⟩⟩) (by
    rintro ⟨a, j⟩ ⟨s1, s2, s3, s4, s5⟩
    simp only [pattern_sum_l1] at s1 s2 s3 s4 s5 ⊢
    subst s1
    rw [if_neg (by simp only [decide_eq_true_eq]; omega)]
    refine ⟨_, rfl, .inl ⟨?_, of_getD s5⟩⟩
    rw [s2, List.take_of_length_le (Nat.le_refl _)]) (s := (0, 0)) ⟨rfl, rfl, by decide, by decide, fun j hj => absurd hj (by omega)⟩
  rw [e1]
  rcases h with ⟨rfl, h⟩ | ⟨rfl, h⟩
  · exact .inl ⟨by rw [bindE_l]; rfl, h⟩
  · exact .inr ⟨by rw [bindE_r]; rfl, h⟩
theorem pcheck_any {n : Nat} {c : List Int} (h1 : 1 ≤ n) (h5 : n ≤ 5) : pattern_Check c (n : Int) = some (pcS n c) := by
  have h3 := pow3_le h5
  unfold pattern_Check pcS pattern_Check_k1
  rw [psize_eq h1 h5, bind2_pure, if_neg (by decide)]
  by_cases hl : c.length = 3 ^ n
  rotate_left
  · rw [if_neg hl, if_pos (by rw [bne_iff_ne]; omega)]
  rw [if_pos hl, if_neg (by rw [hl]; simp)]
  rcases psum_any (c := c) (by omega) with ⟨e, h⟩ | ⟨e, h⟩
  · have hs := sum_nonneg h
    rw [e, bind2_pure, if_neg (by decide), pcount_eq, bind1_pure]
    by_cases k : c.sum ≤ 4096
    · rw [decide_eq_true ⟨hs, k⟩, if_neg (by decide), if_pos (show OKc c from ⟨h, k⟩)]
    · rw [decide_eq_false (fun z => k z.2), if_pos (by decide), if_neg (fun z : OKc c => k z.2)]
  · rw [e, bind2_pure, if_pos (by decide), if_pos rfl, if_neg h]
theorem rvalid_any {c : List Int} (hl : c.length ≤ 300) : rl_ref23_valid c = some (decide (OKc c)) := by
  unfold rl_ref23_valid
  obtain ⟨t, e1, h⟩ := loop_inv (step := fun v : Int × Int => rl_ref23_valid_l1 c v.1 v.2) c.length (fun i s => s.2 = (i : Int) ∧ s.1 = (c.take i).sum ∧ 0 ≤ s.1 ∧ s.1 ≤ 4096 ∧ ∀ j, j < i → 0 ≤ c.getD j 0)
    (fun t => (t = .inl () ∧ OKc c) ∨ (t = .inr () ∧ ¬ OKc c)) (by
    rintro i hi ⟨a, j⟩ ⟨s1, s2, s3, s4, s5⟩
    simp only [rl_ref23_valid_l1, rl_ref23_valid_k2] at s1 s2 s3 s4 s5 ⊢
    subst s1
    simp only [Int.toNat_natCast]
    rw [if_pos (by simp only [decide_eq_true_eq]; omega), if_pos (by omega), if_pos (by omega)]
    by_cases b1 : c.getD i 0 < 0
    · right
      rw [if_pos (by rw [decide_eq_true_eq]; exact b1), if_pos trivial]
      exact ⟨_, rfl, .inr ⟨rfl, fun k => by have := k.get hi; omega⟩⟩
    rw [if_neg (by rw [decide_eq_true_eq]; exact b1)]
    by_cases b2 : c.getD i 0 > 4096
    · right
      rw [if_pos (by rw [decide_eq_true_eq]; exact b2), if_pos trivial]
      exact ⟨_, rfl, .inr ⟨rfl, fun k => by have := k.get hi; omega⟩⟩
    rw [if_neg (by rw [decide_eq_true_eq]; exact b2)]
    have w1 : IntKind.i64.wrap (a + c.getD i 0) = a + c.getD i 0 := wi64 (by omega) (by omega)
    have w2 : IntKind.i64.wrap ((i : Int) + 1) = (i : Int) + 1 := wi64 (by omega) (by omega)
    simp only [w1, w2]
    by_cases b3 : a + c.getD i 0 > 4096
    · right
      rw [decide_eq_true b3, if_pos rfl]
      refine ⟨_, rfl, .inr ⟨rfl, fun k => ?_⟩⟩
      have k2 := take_le k.1 (i + 1)
      have k3 := k.2
      rw [take_sum hi] at k2
      omega
    · left
      rw [decide_eq_false b3, if_neg (by decide), if_pos (by omega), if_pos (by omega)]
      refine ⟨_, rfl, by simp only; omega, by simp only; rw [take_sum hi, s2], by simp only; omega, by simp only; omega, fun j hj => ?_⟩
      by_cases e : j = i
      · subst e; omega
      · exact s5 j (by omega)) (by
    rintro ⟨a, j⟩ ⟨s1, s2, s3, s4, s5⟩
    simp only [rl_ref23_valid_l1] at s1 s2 s3 s4 s5 ⊢
    subst s1
    rw [if_neg (by simp only [decide_eq_true_eq]; omega)]
    rw [List.take_of_length_le (Nat.le_refl _)] at s2
    exact ⟨_, rfl, .inl ⟨rfl, of_getD s5, by omega⟩⟩) (s := (0, 0)) ⟨rfl, rfl, by decide, by decide, fun j hj => absurd hj (by omega)⟩
  rw [e1]
  rcases h with ⟨rfl, h⟩ | ⟨rfl, h⟩
  · rw [bindE_l, decide_eq_true h]; rfl
  · rw [bindE_r, decide_eq_false h]; rfl
theorem rcheck_any {n : Nat} {c : List Int} (h1 : 1 ≤ n) (h5 : n ≤ 5) : rl_ref23_Check c (n : Int) = some (pcS n c) := by
  have h3 := pow3_le h5
  unfold rl_ref23_Check rl_ref23_Size pcS
  rw [if_neg (by simp only [decide_eq_true_eq]; omega), decide_eq_false (by omega)]
  unfold rl_ref23_Size_k1
  rw [if_neg (by decide), ref17_size_eq h5, bind1_pure, bind2_pure, if_neg (by decide)]
  by_cases hl : c.length = 3 ^ n
  rotate_left
  · rw [if_neg hl, if_pos (by rw [bne_iff_ne]; omega)]
  rw [if_pos hl, if_neg (by rw [hl]; simp), rvalid_any (by omega), bind1_pure]
  by_cases k : OKc c
  · rw [decide_eq_true k, if_neg (by decide), if_pos k]
  · rw [decide_eq_false k, if_pos (by decide), if_neg k]
/-! Any number of fields. -/
noncomputable def CkS (c : List Int) (k : Int) : Int := if 1 ≤ k ∧ k ≤ 5 then pcS k.toNat c else 8
theorem rsize_any (n : Int) : rl_ref23_Size n = some (if 1 ≤ n ∧ n ≤ 5 then (((3 ^ n.toNat : Nat) : Int), 0) else (0, 8)) := by
  unfold rl_ref23_Size rl_ref23_Size_k1
  by_cases h : 1 ≤ n ∧ n ≤ 5
  · obtain ⟨m, rfl⟩ := Int.eq_ofNat_of_zero_le (show 0 ≤ n by omega)
    rw [if_neg (by simp only [decide_eq_true_eq]; omega), if_neg (by simp only [decide_eq_true_eq]; omega), ref17_size_eq (by omega), bind1_pure, if_pos h]
    rfl
  · rw [if_neg h]
    by_cases h1 : n < 1
    · rw [if_pos (by simpa using h1)]; rfl
    · rw [if_neg (by simpa using h1), if_pos (by simp only [decide_eq_true_eq]; omega)]
theorem pck (c : List Int) (k : Int) : pattern_Check c k = some (CkS c k) := by
  unfold CkS
  by_cases h : 1 ≤ k ∧ k ≤ 5
  · obtain ⟨m, rfl⟩ := Int.eq_ofNat_of_zero_le (show 0 ≤ k by omega)
    rw [if_pos h, Int.toNat_natCast, pcheck_any (by omega) (by omega)]
  · rw [if_neg h]
    unfold pattern_Check
    rw [psize_any, if_neg h, bind2_pure, if_pos (by decide)]
theorem rck (c : List Int) (k : Int) : rl_ref23_Check c k = some (CkS c k) := by
  unfold CkS
  by_cases h : 1 ≤ k ∧ k ≤ 5
  · obtain ⟨m, rfl⟩ := Int.eq_ofNat_of_zero_le (show 0 ≤ k by omega)
    rw [if_pos h, Int.toNat_natCast, rcheck_any (by omega) (by omega)]
  · rw [if_neg h]
    unfold rl_ref23_Check
    rw [rsize_any, if_neg h, bind2_pure, if_pos (by decide)]
theorem CkS_zero {c : List Int} {k : Int} (h : CkS c k = 0) : ∃ n : Nat, k = (n : Int) ∧ 1 ≤ n ∧ n ≤ 5 ∧ CV n c := by
  unfold CkS at h
  by_cases hk : 1 ≤ k ∧ k ≤ 5
  · obtain ⟨m, rfl⟩ := Int.eq_ofNat_of_zero_le (show 0 ≤ k by omega)
    rw [if_pos hk, Int.toNat_natCast] at h
    exact ⟨m, rfl, by omega, by omega, pcS_zero.1 h⟩
  · rw [if_neg hk] at h; exact absurd h (by decide)
/-! Sums. -/
theorem total_both {c : List Int} (hl : c.length ≤ 300) : ∃ v, pattern_Total c = some v ∧ rl_ref23_Total c = some v := by
  unfold pattern_Total rl_ref23_Total rl_ref23_Total_k1
  by_cases h243 : c.length > 243
  · rw [if_pos (by simp only [decide_eq_true_eq]; omega), if_neg (by simp only [decide_eq_true_eq]; omega), if_pos (by simp only [decide_eq_true_eq]; omega)]
    exact ⟨0, rfl, rfl⟩
  rw [if_neg (by simp only [decide_eq_true_eq]; omega)]
  by_cases h0 : c.length < 1
  · rw [if_pos (by simp only [decide_eq_true_eq]; omega)]
    have : c = [] := List.length_eq_zero_iff.1 (by omega)
    subst this
    refine ⟨0, ?_, rfl⟩
    unfold pattern_sum
    rw [loop_end (t := .inl 0) (by simp only [pattern_sum_l1]; rw [if_neg (by simp)])]
    rfl
  rw [if_neg (by simp only [decide_eq_true_eq]; omega), if_neg (by simp only [decide_eq_true_eq]; omega)]
  unfold pattern_sum
  have key : ∃ t : Int ⊕ Unit, loop (fun v : Int × Int => pattern_sum_l1 c v.1 v.2) (0, 0) = some t ∧ loop (fun v : Int × Int => rl_ref23_Total_l2 c v.1 v.2) (0, 0) = some t := by
    have gen : ∀ k i : Nat, ∀ a : Int, i + k = c.length → 0 ≤ a → a ≤ 4096 * (i : Int) → ∃ t : Int ⊕ Unit, loop (fun v : Int × Int => pattern_sum_l1 c v.1 v.2) (a, (i : Int)) = some t ∧ loop (fun v : Int × Int => rl_ref23_Total_l2 c v.1 v.2) (a, (i : Int)) = some t := by
      intro k
      induction k with
      | zero =>
        intro i a hi h1 h2
        refine ⟨.inl a, ?_, ?_⟩
        · rw [loop_end (t := .inl a) (by simp only [pattern_sum_l1]; rw [if_neg (by simp only [decide_eq_true_eq]; omega)])]
        · rw [loop_end (t := .inl a) (by simp only [rl_ref23_Total_l2]; rw [if_neg (by simp only [decide_eq_true_eq]; omega)])]
      | succ k ih =>
        intro i a hi h1 h2
        by_cases hc : 0 ≤ c.getD i 0 ∧ c.getD i 0 ≤ 4096
        · have w1 : IntKind.i64.wrap (a + c.getD i 0) = a + c.getD i 0 := wi64 (by omega) (by omega)
          have w2 : IntKind.i64.wrap ((i : Int) + 1) = ((i + 1 : Nat) : Int) := wi64 (by omega) (by omega)
          obtain ⟨t, t1, t2⟩ := ih (i + 1) (a + c.getD i 0) (by omega) (by omega) (by omega)
          refine ⟨t, ?_, ?_⟩
          · rw [loop_next (s' := (a + c.getD i 0, ((i + 1 : Nat) : Int))) (by
              simp only [pattern_sum_l1, Int.toNat_natCast]
              rw [if_pos (by simp only [decide_eq_true_eq]; omega), if_pos (by omega), if_pos (by omega), pcount_eq, bind1_pure, decide_eq_true hc, if_neg (by decide), w1, w2])]
            exact t1
          · rw [loop_next (s' := (a + c.getD i 0, ((i + 1 : Nat) : Int))) (by
              simp only [rl_ref23_Total_l2, rl_ref23_Total_k3, Int.toNat_natCast]
              rw [if_pos (by simp only [decide_eq_true_eq]; omega), if_pos (by omega), if_pos (by omega), if_neg (by simp only [decide_eq_true_eq]; omega), if_neg (by simp only [decide_eq_true_eq]; omega), if_pos (by omega), if_pos (by omega), w1, w2])]
            exact t2
        · refine ⟨.inr (), ?_, ?_⟩
          · rw [loop_end (t := .inr ()) (by
              simp only [pattern_sum_l1, Int.toNat_natCast]
              rw [if_pos (by simp only [decide_eq_true_eq]; omega), if_pos (by omega), if_pos (by omega), pcount_eq, bind1_pure, decide_eq_false hc, if_pos (by decide)])]
          · rw [loop_end (t := .inr ()) (by
              simp only [rl_ref23_Total_l2, rl_ref23_Total_k3, Int.toNat_natCast]
              rw [if_pos (by simp only [decide_eq_true_eq]; omega), if_pos (by omega), if_pos (by omega)]
              by_cases b1 : c.getD i 0 < 0
              · rw [if_pos (by rw [decide_eq_true_eq]; exact b1)]; rfl
              · rw [if_neg (by rw [decide_eq_true_eq]; exact b1), if_pos (by simp only [decide_eq_true_eq]; omega)])]
    exact gen c.length 0 0 (by omega) (by omega) (by omega)
  obtain ⟨t, t1, t2⟩ := key
  rw [t1, t2]
  rcases t with t | t
  · exact ⟨t, rfl, rfl⟩
  · exact ⟨0, rfl, rfl⟩
/-! Outcomes of a field. -/
def mst (f : Nat) (c : List Int) : Nat → List Int
  | 0 => [0, 0, 0]
  | i + 1 => (mst f c i).set (i / 3 ^ f % 3) ((mst f c i).getD (i / 3 ^ f % 3) 0 + c.getD i 0)
theorem mst_ok {n f : Nat} {c : List Int} (hc : CV n c) : ∀ i, i ≤ c.length → (mst f c i).length = 3 ∧ (∀ x ∈ mst f c i, 0 ≤ x) ∧ (mst f c i).sum = (c.take i).sum
  | 0, _ => ⟨rfl, by intro x hx; simp only [mst, List.mem_cons, List.not_mem_nil, or_false] at hx; omega, by simp [mst]⟩
  | i + 1, h => by
    obtain ⟨h1, h2, h3⟩ := mst_ok (f := f) hc i (by omega)
    have hd : i / 3 ^ f % 3 < 3 := Nat.mod_lt _ (by decide)
    have g1 := hc.get (show i < c.length by omega)
    have g2 := all_getD h2 (i := i / 3 ^ f % 3) (by omega)
    unfold mst
    refine ⟨by rw [List.length_set]; exact h1, set_all h2 (P := fun x => 0 ≤ x) (by omega) _, ?_⟩
    rw [set_sum (by omega), h3, take_sum (by omega)]
theorem mst_get {n f : Nat} {c : List Int} (hc : CV n c) {i : Nat} (hi : i < c.length) : 0 ≤ (mst f c i).getD (i / 3 ^ f % 3) 0 + c.getD i 0 ∧ (mst f c i).getD (i / 3 ^ f % 3) 0 + c.getD i 0 ≤ 8192 := by
  obtain ⟨h1, h2, h3⟩ := mst_ok (f := f) hc i (by omega)
  have hd : i / 3 ^ f % 3 < 3 := Nat.mod_lt _ (by decide)
  have g1 := hc.get hi
  have g2 := all_getD h2 (i := i / 3 ^ f % 3) (by omega)
  have g3 := take_sum (l := mst f c i) (i := i / 3 ^ f % 3) (by omega)
  have g4 := take_le h2 (i / 3 ^ f % 3)
  have g5 := take_le h2 (i / 3 ^ f % 3 + 1)
  have g6 := take_le hc.2.1 i
  have g7 := hc.2.2
  omega
theorem digs_get {n f : Nat} (hf : f < n) : ∀ p : Nat, (digs n (p : Int)).getD f 0 = ((p / 3 ^ f % 3 : Nat) : Int) := by
  induction f generalizing n with
  | zero =>
    intro p
    obtain ⟨m, rfl⟩ : ∃ m, n = m + 1 := ⟨n - 1, by omega⟩
    simp only [digs, List.getD_cons_zero, Nat.pow_zero, Nat.div_one]
    omega
  | succ f ih =>
    intro p
    obtain ⟨m, rfl⟩ : ∃ m, n = m + 1 := ⟨n - 1, by omega⟩
    have := ih (n := m) (by omega) (p / 3)
    simp only [digs, List.getD_cons_succ]
    rw [show (p : Int) / 3 = ((p / 3 : Nat) : Int) by omega, this, Nat.div_div_eq_div_mul, Nat.pow_succ, Nat.mul_comm]
theorem pmarg {n f : Nat} {c : List Int} (h5 : n ≤ 5) (hf : f < n) (hc : CV n c) : pattern_Marginal_k2 c ((3 ^ f : Nat) : Int) = some (mst f c c.length, 0) := by
  have h3 := pow3_le h5
  have h3f := pow3_le (show f ≤ 5 by omega)
  have hl := hc.1
  unfold pattern_Marginal_k2
  rw [loop_for (step := fun v : Int × (List Int) => pattern_Marginal_l3 c ((3 ^ f : Nat) : Int) v.1 v.2) (fun i => ((i : Int), mst f c i)) c.length (mst f c c.length) (fun i hi => by
      have g := mst_get (f := f) hc hi
      have ml := (mst_ok (f := f) hc i (by omega)).1
      have hd0 : (i : Int) / ((3 ^ f : Nat) : Int) = ((i / 3 ^ f : Nat) : Int) := by rw [Int.natCast_ediv]
      have hd1 : i / 3 ^ f ≤ i := Nat.div_le_self _ _
      simp only [pattern_Marginal_l3, Int.toNat_natCast]
      have hm : (IntKind.i64.wrap ((i : Int).tdiv ((3 ^ f : Nat) : Int))).tmod 3 = ((i / 3 ^ f % 3 : Nat) : Int) := by
        rw [tdiv_nn (by omega), hd0]
        generalize i / 3 ^ f = q at hd1 ⊢
        rw [wi64 (by omega) (by omega), tmod_nn (by omega)]
        omega
      rw [hm, Int.toNat_natCast, Nat.zero_add, if_pos (by simp only [decide_eq_true_eq]; omega), if_pos (by omega), if_pos (by omega), if_pos (by omega), if_pos (by omega), if_pos (by omega), if_pos ml.symm, wi64 (n := (i : Int) + 1) (by omega) (by omega), wi64 (n := _ + c.getD i 0) (by omega) (by omega)]
      rfl) (by
      simp only [pattern_Marginal_l3]
      rw [if_neg (by simp)]) (s := (0, [0, 0, 0])) rfl, bind1_pure]
theorem rmarg {n f : Nat} {c : List Int} (h1 : 1 ≤ n) (h5 : n ≤ 5) (hf : f < n) (hc : CV n c) : rl_ref23_Marginal_k1 c (n : Int) (f : Int) false = some (mst f c c.length, 0) := by
  have h3 := pow3_le h5
  have hl := hc.1
  unfold rl_ref23_Marginal_k1
  rw [if_neg (by decide), loop_for (step := fun v : Int × (List Int) => rl_ref23_Marginal_l2 c (n : Int) (f : Int) v.1 v.2) (fun i => ((i : Int), mst f c i)) c.length (mst f c c.length) (fun i hi => by
      have g := mst_get (f := f) hc hi
      have ml := (mst_ok (f := f) hc i (by omega)).1
      have hd : i / 3 ^ f % 3 < 3 := Nat.mod_lt _ (by decide)
      simp only [rl_ref23_Marginal_l2, Int.toNat_natCast]
      rw [if_pos (by simp only [decide_eq_true_eq]; omega), ref17_digits_eq, if_pos (by omega), Int.toNat_natCast, if_pos (by omega), bind2_pure, digs_length, if_pos (by omega), if_pos (by omega), Nat.zero_add, digs_get hf, Int.toNat_natCast, Nat.zero_add, if_pos (by omega), if_pos (by omega), if_pos (by omega), if_pos (by omega), if_pos ml.symm, wi64 (n := (i : Int) + 1) (by omega) (by omega), wi64 (n := _ + c.getD i 0) (by omega) (by omega)]
      rfl) (by
      simp only [rl_ref23_Marginal_l2]
      rw [if_neg (by simp)]) (s := (0, [0, 0, 0])) rfl, bind1_pure]
theorem marg_both (c : List Int) (k a : Int) : ∃ u e, pattern_Marginal c k a = some (u, e) ∧ rl_ref23_Marginal c k a = some (u, e) := by
  unfold pattern_Marginal rl_ref23_Marginal
  rw [pck, rck, bind1_pure, bind1_pure]
  by_cases h : CkS c k = 0
  rotate_left
  · have z : (CkS c k != 0) = true := by rw [bne_iff_ne]; exact h
    rw [if_pos z, if_pos z]
    exact ⟨_, _, rfl, rfl⟩
  have z : ¬ ((0 : Int) != 0) = true := by decide
  rw [h, if_neg z, if_neg z]
  obtain ⟨n, rfl, n1, n5, hc⟩ := CkS_zero h
  by_cases b1 : a < 0
  · have y : decide (a < 0) = true := decide_eq_true b1
    rw [if_pos y, if_pos y]
    exact ⟨_, _, rfl, rfl⟩
  have y : ¬ decide (a < 0) = true := by rw [decide_eq_true_eq]; exact b1
  rw [if_neg y, if_neg y]
  by_cases b2 : a ≥ (n : Int)
  · rw [decide_eq_true b2]
    exact ⟨_, _, rfl, rfl⟩
  obtain ⟨f, rfl⟩ := Int.eq_ofNat_of_zero_le (show 0 ≤ a by omega)
  rw [decide_eq_false b2, rmarg n1 n5 (by omega) hc]
  refine ⟨_, _, ?_, rfl⟩
  unfold pattern_Marginal_k1
  rw [if_neg (by decide), psize_any]
  by_cases h0 : f = 0
  · subst h0
    rw [show (if (1 : Int) > ((0 : Nat) : Int) then (1 : Int) else ((0 : Nat) : Int)) = 1 from rfl, if_pos (by decide), bind2_pure, if_pos (by decide)]
    exact pmarg (f := 0) n5 (by omega) hc
  · rw [show (if (1 : Int) > (f : Int) then (1 : Int) else (f : Int)) = (f : Int) from if_neg (by omega), if_pos (by omega), bind2_pure, if_neg (by rw [beq_iff_eq]; omega), Int.toNat_natCast]
    exact pmarg n5 (by omega) hc
/-! Two lists together. -/
theorem adL_wrap (x y : List Int) : adL x y = List.zipWith (fun a b => IntKind.i64.wrap (a + b)) x y := by
  unfold adL
  congr 1
  funext a b
  rw [wi64_eq]
  unfold Go.RowKit.wrap64
  rfl
theorem adL_length {x y : List Int} (h : y.length = x.length) : (adL x y).length = x.length := by rw [adL_wrap, List.length_zipWith, h, Nat.min_self]
theorem radd_loop {x y : List Int} (h : y.length = x.length) (hl : x.length ≤ 1000) : loop (fun v : (List Int) × Int => rl_ref23_Add_l1 x y v.1 v.2) (([] : List Int), 0) = some (adL x y) := by
  rw [adL_wrap]
  refine loop_for (fun i => (List.zipWith (fun a b => IntKind.i64.wrap (a + b)) (x.take i) (y.take i), (i : Int))) x.length _ (fun i hi => ?_) ?_ (by simp)
  · simp only [rl_ref23_Add_l1, Int.toNat_natCast]
    rw [if_pos (by simp only [decide_eq_true_eq]; omega), if_pos (by omega), if_pos (by omega), if_pos (by omega), if_pos (by simp; omega), wi64 (n := (i : Int) + 1) (by omega) (by omega), take_snoc 0 (l := x) hi, take_snoc 0 (l := y) (by omega), List.zipWith_append (by simp; omega)]
    rfl
  · simp only [rl_ref23_Add_l1]
    rw [if_neg (by simp), List.take_length, ← h, List.take_length]
theorem add_both {x y : List Int} (k : Int) (hx : x.length ≤ 300) : ∃ u e, pattern_Add x y k = some (u, e) ∧ rl_ref23_Add x y k = some (u, e) ∧ u.length < 1000000 := by
  unfold pattern_Add rl_ref23_Add
  rw [if_pos (by omega), pck, rck, bind1_pure, bind1_pure]
  have z : ¬ ((0 : Int) != 0) = true := by decide
  by_cases h : CkS x k = 0
  rotate_left
  · have z : (CkS x k != 0) = true := by rw [bne_iff_ne]; exact h
    rw [if_pos z, if_pos z]
    exact ⟨_, _, rfl, rfl, by simp⟩
  rw [h, if_neg z, if_neg z, pck, rck, bind1_pure, bind1_pure]
  obtain ⟨n, rfl, n1, n5, hc⟩ := CkS_zero h
  by_cases h' : CkS y (n : Int) = 0
  rotate_left
  · have z : (CkS y (n : Int) != 0) = true := by rw [bne_iff_ne]; exact h'
    rw [if_pos z, if_pos z]
    exact ⟨_, _, rfl, rfl, by simp⟩
  obtain ⟨n', e', _, _, hc'⟩ := CkS_zero h'
  obtain rfl : n' = n := by omega
  have hlen : y.length = x.length := by rw [hc.1, hc'.1]
  have hal := adL_length hlen
  have ck : CkS (adL x y) (n' : Int) = if OKc (adL x y) then 0 else 19 := by
    unfold CkS pcS
    rw [if_pos (by omega), Int.toNat_natCast, if_pos (by rw [hal]; exact hc.1)]
  have hx' := hc.1
  have h3 := pow3_le n5
  rw [h', if_neg z, if_neg z, if_pos hlen, radd_loop hlen (by omega), bind1_pure, pck, bind1_pure, rvalid_any (by omega), bind1_pure, ck]
  by_cases k : OKc (adL x y)
  · rw [if_pos k, decide_eq_true k]
    exact ⟨_, _, rfl, rfl, by omega⟩
  · rw [if_neg k, decide_eq_false k]
    exact ⟨_, _, rfl, rfl, by simp⟩
/-! The reference's tally. -/
theorem missing_eq (b : S_api_Bits) : rl_ref16_missing b = some (decide (b.Length = 0 ∧ b.Words.length = 0)) := by
  unfold rl_ref16_missing rl_ref16_missing_k1
  by_cases h1 : b.Length = 0
  · rw [if_pos (by rw [beq_iff_eq]; exact h1)]
    by_cases h2 : b.Words.length = 0
    · rw [decide_eq_true ⟨h1, h2⟩, h2]; rfl
    · rw [decide_eq_false (fun k => h2 k.2)]
      congr 1
      exact beq_eq_false_iff_ne.2 (by omega)
  · rw [if_neg (by rw [beq_iff_eq]; exact h1), decide_eq_false (fun k => h1 k.1)]
theorem ref16_eq {x : S_api_Encoded} (hl : x.Fields.length < 1000000) : rl_ref16_Valid x = some (decide (EV x)) := by
  have hk : rl_ref16_Valid_k1 x false = some (decide (∀ b ∈ x.Fields, NB b)) := by
    unfold rl_ref16_Valid_k1
    rw [if_neg (by decide), scan_loop dS_api_Bits (fun b => !decide (NB b)) x.Fields (fun i => (i : Int)) (fun _ => ()) () (step := fun v : Int => rl_ref16_Valid_l2 x v) (fun i hi => by
        simp only [rl_ref16_Valid_l2, Int.toNat_natCast]
        rw [if_pos (by simp only [decide_eq_true_eq]; omega), if_pos (by omega), if_pos (by omega), missing_eq, bind1_pure]
        unfold rl_ref16_Valid_k3
        rw [refvalid_eq, wi64 (n := (i : Int) + 1) (by omega) (by omega)]
        by_cases h1 : (x.Fields.getD i dS_api_Bits).Length = 0 ∧ (x.Fields.getD i dS_api_Bits).Words.length = 0
        · rw [decide_eq_true h1, if_neg (by decide), decide_eq_true (show NB (x.Fields.getD i dS_api_Bits) from .inl h1)]; rfl
        · rw [decide_eq_false h1, if_pos (by decide), bind1_pure]
          by_cases h3 : VB (x.Fields.getD i dS_api_Bits)
          · rw [decide_eq_true h3, decide_eq_true (show NB (x.Fields.getD i dS_api_Bits) from .inr h3)]; rfl
          · rw [decide_eq_false h3, decide_eq_false (fun k : NB (x.Fields.getD i dS_api_Bits) => k.elim h1 h3)]; rfl) (by
        simp only [rl_ref16_Valid_l2]
        rw [if_neg (by simp)])]
    by_cases h : ∀ b ∈ x.Fields, NB b
    · rw [decide_eq_true h, List.findIdx?_eq_none_iff.2 (fun b hb => by simp [h b hb])]
      rfl
    · rw [decide_eq_false h]
      have : x.Fields.findIdx? (fun b => !decide (NB b)) ≠ none := any_of_idx.1 (by simpa using h)
      cases hi : x.Fields.findIdx? (fun b => !decide (NB b)) with
      | none => exact absurd hi this
      | some i => rfl
  have ht : rl_ref16_Valid_k1 x true = some false := rfl
  unfold rl_ref16_Valid
  by_cases h1 : x.ID < 1
  · rw [if_pos (by simpa using h1), ht, decide_eq_false (fun k : EV x => by have := k.1; omega)]
  rw [if_neg (by simpa using h1)]
  by_cases h2 : x.ID > 1048576
  · rw [if_pos (by simpa using h2), ht, decide_eq_false (fun k : EV x => by have := k.1; omega)]
  rw [if_neg (by simpa using h2)]
  by_cases h3 : x.Version < 1
  · rw [if_pos (by simpa using h3), ht, decide_eq_false (fun k : EV x => by have := k.2.1; omega)]
  rw [if_neg (by simpa using h3)]
  by_cases h4 : x.Version > 1048576
  · rw [if_pos (by simpa using h4), ht, decide_eq_false (fun k : EV x => by have := k.2.1; omega)]
  rw [if_neg (by simpa using h4)]
  by_cases h5 : x.Fields.length < 1
  · rw [if_pos (by simp only [decide_eq_true_eq]; omega), ht, decide_eq_false (fun k : EV x => by have := k.2.2.1; omega)]
  rw [if_neg (by simp only [decide_eq_true_eq]; omega)]
  by_cases h6 : x.Fields.length > 5
  · rw [decide_eq_true (by omega), ht, decide_eq_false (fun k : EV x => by have := k.2.2.1; omega)]
  rw [decide_eq_false (by omega), hk]
  congr 1
  exact decide_eq_decide.2 ⟨fun h => ⟨by omega, by omega, by omega, h⟩, fun h => h.2.2.2⟩
theorem rright_eq {l : List S_api_Encoded} {n : Nat} (hl : l.length < 1000000) (hf : ∀ x ∈ l, x.Fields.length < 1000000) : rl_ref23_right l (n : Int) = some (decide (∀ x ∈ l, RecN n x)) := by
  unfold rl_ref23_right
  rw [scan_loop dS_api_Encoded (fun x => !decide (RecN n x)) l (fun i => (i : Int)) (fun _ => ()) () (step := fun v : Int => rl_ref23_right_l1 l (n : Int) v) (fun i hi => by
      have hx := hf _ (enc_get hi)
      simp only [rl_ref23_right_l1, Int.toNat_natCast]
      rw [if_pos (by simp only [decide_eq_true_eq]; omega), if_pos (by omega), if_pos (by omega), ref16_eq hx, bind1_pure]
      unfold rl_ref23_right_k2
      rw [wi64 (n := (i : Int) + 1) (by omega) (by omega)]
      by_cases h4 : EV (l.getD i dS_api_Encoded)
      · rw [decide_eq_true h4, if_neg (by decide)]
        by_cases h5 : (l.getD i dS_api_Encoded).Fields.length = n
        · rw [if_neg (by simp only [bne_iff_ne, ne_eq]; omega), decide_eq_true (show RecN n (l.getD i dS_api_Encoded) from ⟨h4, h5⟩)]
          rfl
        · rw [if_pos (by simp only [bne_iff_ne, ne_eq]; omega), decide_eq_false (fun k : RecN n (l.getD i dS_api_Encoded) => h5 k.2)]
          rfl
      · rw [decide_eq_false h4, if_pos (by decide), decide_eq_false (fun k : RecN n (l.getD i dS_api_Encoded) => h4 k.1)]
        rfl) (by
      simp only [rl_ref23_right_l1]
      rw [if_neg (by simp)])]
  by_cases h4 : ∀ x ∈ l, RecN n x
  · rw [decide_eq_true h4, List.findIdx?_eq_none_iff.2 (fun b hb => by simp only [decide_eq_true (h4 b hb), Bool.not_true])]
    rfl
  · rw [decide_eq_false h4]
    have : l.findIdx? (fun x => !decide (RecN n x)) ≠ none := any_of_idx.1 (by
      have : ∃ t ∈ l, ¬ RecN n t := by
        refine Classical.byContradiction fun hc => h4 fun t ht => Classical.byContradiction fun hn => hc ⟨t, ht, hn⟩
      obtain ⟨t, ht, hn⟩ := this
      exact ⟨t, ht, by simp only [Bool.not_eq_true']; exact decide_eq_false hn⟩)
    cases hi : l.findIdx? (fun x => !decide (RecN n x)) with
    | none => exact absurd hi this
    | some i => rfl
theorem rfind_eq {l : List S_api_Encoded} {id : Int} (hl : l.length < 1000000) : rl_ref23_find l id = some (match fndI l id with | some i => (i : Int) | none => -1) := by
  unfold rl_ref23_find fndI
  rw [scan_loop dS_api_Encoded (fun x => x.ID == id) l (fun i => (i : Int)) (fun i => (i : Int)) () (step := fun v : Int => rl_ref23_find_l1 l id v) (fun i hi => by
      simp only [rl_ref23_find_l1, Int.toNat_natCast]
      rw [if_pos (by simp only [decide_eq_true_eq]; omega), if_pos (by omega), if_pos (by omega), wi64 (n := (i : Int) + 1) (by omega) (by omega)]
      rfl) (by
      simp only [rl_ref23_find_l1]
      rw [if_neg (by simp)])]
  cases l.findIdx? (fun x => x.ID == id) <;> rfl
theorem rcompat_eq {ts : List Int} {x y : S_api_Encoded} (h1 : 1 ≤ ts.length) (h5 : ts.length ≤ 5) (ht : ∀ t ∈ ts, 0 ≤ t ∧ t ≤ 1000) (hx : x.Fields.length = ts.length) (hy : y.Fields.length = ts.length) (wx : WF x.Fields) (wy : WF y.Fields) :
    rl_ref17_Compare x y = some (List.zipWith simB x.Fields y.Fields, 0) ∧ rl_ref17_Pattern ts (List.zipWith simB x.Fields y.Fields) = some (((patN ts x y : Nat) : Int), 0) := by
  refine ⟨by rw [refcompare_eq wx wy (by omega), if_pos (by omega)], ?_⟩
  have hz : (List.zipWith simB x.Fields y.Fields).length = ts.length := by rw [List.length_zipWith]; omega
  rw [refpattern_eq (by omega), if_pos (by omega), if_pos ⟨ht, zip_sims wx wy⟩, patN_int]
theorem rtally_loop {cs : List S_api_Couple} {a b : List S_api_Encoded} {ts : List Int} (ha : a.length < 100000) (hb : b.length < 100000) (hc : cs.length ≤ 4096) (h1 : 1 ≤ ts.length) (h5 : ts.length ≤ 5) (ht : ∀ t ∈ ts, 0 ≤ t ∧ t ≤ 1000) (hr : ∀ x ∈ a ++ b, RecN ts.length x) (hw : ∀ x ∈ a ++ b, WF x.Fields) :
    ∀ (k j : Nat) (ps : List Nat), ps.length = j → j + k = cs.length → loop (fun v : (List Int) × Int => rl_ref23_Tally_l4 cs a b ts v.1 v.2) (cntL (3 ^ ts.length) ps, (j : Int)) = some (match pats (cpl a b ts) (cs.drop j) with | some qs => .inl (cntL (3 ^ ts.length) (ps ++ qs)) | none => .inr ()) := by
  intro k
  induction k with
  | zero =>
    intro j ps hp hj
    have : j = cs.length := by omega
    rw [this, loop_end (t := .inl (cntL (3 ^ ts.length) ps)) (by simp only [rl_ref23_Tally_l4]; rw [if_neg (by simp)]), List.drop_length]
    simp only [pats, List.append_nil]
  | succ k ih =>
    intro j ps hp hj
    have hjl : j < cs.length := by omega
    rw [drop_cons dS_api_Couple hjl]
    have hstep : rl_ref23_Tally_l4 cs a b ts (cntL (3 ^ ts.length) ps) (j : Int) = match cpl a b ts (cs.getD j dS_api_Couple) with | some p => some (.inl (cntL (3 ^ ts.length) (ps ++ [p]), ((j + 1 : Nat) : Int))) | none => some (.inr (.inr ())) := by
      unfold rl_ref23_Tally_l4 cpl
      rw [if_pos (by simp only [decide_eq_true_eq]; omega), if_pos (by omega), if_pos (by omega), Int.toNat_natCast, rfind_eq (by omega), rfind_eq (by omega)]
      cases ei : fndI a (cs.getD j dS_api_Couple).A with
      | none => simp only [bind1_pure]; cases ej : fndI b (cs.getD j dS_api_Couple).B <;> rfl
      | some i =>
        cases ej : fndI b (cs.getD j dS_api_Couple).B with
        | none => simp only [bind1_pure]; rw [if_neg (by simp only [decide_eq_true_eq]; omega)]; rfl
        | some i2 =>
          have li := fndI_lt ei
          have lj := fndI_lt ej
          have hx := enc_get (fndI_lt ei)
          have hy := enc_get (fndI_lt ej)
          have rx := hr _ (List.mem_append_left b hx)
          have ry := hr _ (List.mem_append_right a hy)
          have wx := hw _ (List.mem_append_left b hx)
          have wy := hw _ (List.mem_append_right a hy)
          obtain ⟨e1, e2⟩ := rcompat_eq h1 h5 ht rx.2 ry.2 wx wy
          simp only [bind1_pure, rl_ref23_Tally_k5]
          rw [if_neg (by simp only [decide_eq_true_eq]; omega), if_neg (by simp only [decide_eq_true_eq]; omega), if_pos (by omega), if_pos (by omega), if_pos (by omega), if_pos (by omega), Int.toNat_natCast, Int.toNat_natCast, e1, bind2_pure, e2, bind2_pure]
          have hp := patN_lt (ts := ts) (x := a.getD i dS_api_Encoded) (y := b.getD i2 dS_api_Encoded)
          have hq := pow3_le h5
          have hcn := List.count_le_length (a := patN ts (a.getD i dS_api_Encoded) (b.getD i2 dS_api_Encoded)) (l := ps)
          rw [if_pos (by omega), if_pos (by rw [cntL_length]; omega), Int.toNat_natCast, Nat.zero_add, ← cntL_bump hp, cntL_get hp, wi64 (n := _ + 1) (by omega) (by omega), wi64 (n := (j : Int) + 1) (by omega) (by omega)]
          rfl
    cases ec : cpl a b ts (cs.getD j dS_api_Couple) with
    | none =>
      rw [ec] at hstep
      rw [loop_end hstep]
      simp only [pats, ec]
    | some p =>
      rw [ec] at hstep
      rw [loop_next hstep, ih (j + 1) (ps ++ [p]) (by simp [hp]) (by omega)]
      simp only [pats, ec]
      cases pats (cpl a b ts) (cs.drop (j + 1)) with
      | none => rfl
      | some qs => simp only [List.append_assoc, List.singleton_append]
theorem rtally_eq {cs : List S_api_Couple} {a b : List S_api_Encoded} {ts : List Int} (ha : a.length < 100000) (hb : b.length < 100000) (ht : ts.length < 1000000) (hf : ∀ x ∈ a ++ b, x.Fields.length < 1000000) (hw : ∀ x ∈ a ++ b, WF x.Fields) : rl_ref23_Tally cs a b ts = some (TallyS cs a b ts) := by
  unfold rl_ref23_Tally TallyS chkS
  rw [rsize_any]
  by_cases h1 : 1 ≤ ts.length ∧ ts.length ≤ 5
  rotate_left
  · rw [if_neg (by omega), bind2_pure, if_pos (by decide), if_pos h1, if_pos (by decide)]
  have hq := pow3_le h1.2
  rw [if_pos (by omega), bind2_pure, if_neg (by decide), if_neg (show ¬ ¬ (1 ≤ ts.length ∧ ts.length ≤ 5) from fun k => k h1)]
  by_cases h2 : 4096 < cs.length
  · rw [if_pos (by simp only [decide_eq_true_eq]; omega), if_pos h2, if_pos (by decide)]
  rw [if_neg (by simp only [decide_eq_true_eq]; omega), if_neg h2]
  rw [scan_loop 0 (fun t : Int => !decide (0 ≤ t ∧ t ≤ 1000)) ts (fun i => (i : Int)) (fun _ => ()) () (step := fun v : Int => rl_ref23_Tally_l1 ts v) (fun i hi => by
      simp only [rl_ref23_Tally_l1, rl_ref23_Tally_k2, Int.toNat_natCast]
      rw [if_pos (by simp only [decide_eq_true_eq]; omega), if_pos (by omega), if_pos (by omega), wi64 (n := (i : Int) + 1) (by omega) (by omega)]
      by_cases b1 : ts.getD i 0 < 0
      · rw [if_pos (by rw [decide_eq_true_eq]; exact b1), decide_eq_false (by omega)]; rfl
      · rw [if_neg (by rw [decide_eq_true_eq]; exact b1)]
        by_cases b2 : ts.getD i 0 > 1000
        · rw [if_pos (by rw [decide_eq_true_eq]; exact b2), decide_eq_false (by omega)]; rfl
        · rw [if_neg (by rw [decide_eq_true_eq]; exact b2), decide_eq_true (by omega)]; rfl) (by
      simp only [rl_ref23_Tally_l1]
      rw [if_neg (by simp)])]
  by_cases h3 : ∀ t ∈ ts, 0 ≤ t ∧ t ≤ 1000
  rotate_left
  · rw [if_pos h3, if_pos (by decide)]
    have : ts.findIdx? (fun t : Int => !decide (0 ≤ t ∧ t ≤ 1000)) ≠ none := any_of_idx.1 (by
      have : ∃ t ∈ ts, ¬ (0 ≤ t ∧ t ≤ 1000) := by
        refine Classical.byContradiction fun hc => h3 fun t ht => Classical.byContradiction fun hn => hc ⟨t, ht, hn⟩
      obtain ⟨t, ht, hn⟩ := this
      exact ⟨t, ht, by simp only [Bool.not_eq_true']; exact decide_eq_false hn⟩)
    cases hi : ts.findIdx? (fun t : Int => !decide (0 ≤ t ∧ t ≤ 1000)) with
    | none => exact absurd hi this
    | some i => rfl
  rw [if_neg (show ¬ ¬ _ from fun k => k h3), List.findIdx?_eq_none_iff.2 (fun b hb => by simp [h3 b hb])]
  simp only [bindE_l]
  unfold rl_ref23_Tally_a8
  rw [rright_eq (by omega) (fun x hx => hf x (List.mem_append_left b hx)), bind1_pure]
  have no : rl_ref23_Tally_k3 cs a b ts ((3 ^ (ts.length : Int).toNat : Nat) : Int) true = some ([], 7) := rfl
  by_cases h4 : ∀ x ∈ a, RecN ts.length x
  rotate_left
  · have q : ¬ ∀ x ∈ a ++ b, RecN ts.length x := fun k => h4 fun x hx => k x (List.mem_append_left b hx)
    rw [decide_eq_false h4, if_pos (by decide), no]
    simp only [if_pos q]
    rfl
  rw [decide_eq_true h4, if_neg (by decide), rright_eq (by omega) (fun x hx => hf x (List.mem_append_right a hx)), bind1_pure]
  by_cases h5 : ∀ x ∈ b, RecN ts.length x
  rotate_left
  · have q : ¬ ∀ x ∈ a ++ b, RecN ts.length x := fun k => h5 fun x hx => k x (List.mem_append_right a hx)
    rw [decide_eq_false h5, show (!false) = true from rfl, no]
    simp only [if_pos q]
    rfl
  have hr : ∀ x ∈ a ++ b, RecN ts.length x := fun x hx => (List.mem_append.1 hx).elim (h4 x) (h5 x)
  rw [decide_eq_true h5, if_neg (show ¬ ¬ _ from fun k => k hr), if_neg (by decide)]
  unfold rl_ref23_Tally_k3
  rw [if_neg (by decide), Int.toNat_natCast, if_pos (by omega), if_pos (by omega), Int.toNat_natCast, ← cntL_nil, show (0 : Int) = ((0 : Nat) : Int) from rfl, rtally_loop ha hb (by omega) h1.1 h1.2 h3 hr hw cs.length 0 [] rfl (by omega), List.drop_zero]
  cases pats (cpl a b ts) cs with
  | none => rfl
  | some ps => rfl
theorem tally_both {cs : List S_api_Couple} {a b : List S_api_Encoded} {ts : List Int} (ha : a.length < 100000) (hb : b.length < 100000) (ht : ts.length < 1000000) (hf : ∀ x ∈ a ++ b, x.Fields.length < 1000000) (hw : ∀ x ∈ a ++ b, WF x.Fields) : ∃ u e, pattern_Tally cs a b ts = some (u, e) ∧ rl_ref23_Tally cs a b ts = some (u, e) ∧ u.length < 1000000 := by
  refine ⟨(TallyS cs a b ts).1, (TallyS cs a b ts).2, tally_eq ha hb ht hf hw, rtally_eq ha hb ht hf hw, ?_⟩
  unfold TallyS
  by_cases h : chkS cs.length a b ts ≠ 0
  · rw [if_pos h]; simp
  · have h5 := (chk_ok h).1.2
    have h3 := pow3_le h5
    rw [if_neg h]
    cases pats (cpl a b ts) cs with
    | none => simp
    | some ps => simp only [cntL_length]; omega
end Go.Proofs.Ytknlckjpgmjenaa
