/- Plain: what the program and the reference return of any model, counts and rounds; the plain law of EmExact. -/
import Derived.Test.YtilpgjoidgfbiaaGreatEt
import Derived.Test.YtilpgjoidgfbiaaGreatRf
import Derived.Test.YtilpgjoidgfbiaaGreatGE0
import Derived.Test.YtilpgjoidgfbiaaGreatGL4
namespace Go.Proofs.YtilpgjoidgfbiaaGreat
open Vm
set_option linter.unusedVariables false
set_option linter.unusedSimpArgs false
def runS (c : List Int) : Nat → S_api_Model → S_api_Model × Nat
  | 0, m => (m, 0)
  | k + 1, m => if stepS m c = m then (m, 0) else ((runS c k (stepS m c)).1, (runS c k (stepS m c)).2 + 1)
theorem runS_stop {c : List Int} {m : S_api_Model} (h : stepS m c = m) : ∀ k, runS c k m = (m, 0)
  | 0 => rfl
  | k + 1 => by rw [runS, if_pos h]
theorem runS_le {c : List Int} : ∀ (k : Nat) (m : S_api_Model), (runS c k m).2 ≤ k
  | 0, m => Nat.le_refl _
  | k + 1, m => by
    rw [runS]
    split
    · exact Nat.zero_le _
    · have := runS_le (c := c) k (stepS m c)
      simp only
      omega
theorem runS_add {c : List Int} (b : Nat) : ∀ (a : Nat) (m : S_api_Model), runS c (a + b) m = ((runS c b (runS c a m).1).1, (runS c a m).2 + (runS c b (runS c a m).1).2)
  | 0, m => by simp only [Nat.zero_add, runS]
  | a + 1, m => by
    by_cases h : stepS m c = m
    · rw [runS_stop h, runS_stop h]
      simp only
      rw [runS_stop h]
      rfl
    · rw [show a + 1 + b = (a + b) + 1 by omega, runS, if_neg h, runS_add b a, runS, if_neg h]
      simp only [Prod.mk.injEq, true_and]
      omega
theorem runS_done {c : List Int} : ∀ (k : Nat) (m : S_api_Model), (runS c k m).2 < k → stepS (runS c k m).1 c = (runS c k m).1
  | 0, m, h => absurd h (Nat.not_lt_zero _)
  | k + 1, m, h => by
    rw [runS] at h ⊢
    split
    · rename_i e; exact e
    · rename_i e
      rw [if_neg e] at h
      simp only at h ⊢
      exact runS_done k (stepS m c) (by omega)
theorem runS_ok {c : List Int} : ∀ (k : Nat) (m : S_api_Model), MV m → MV (runS c k m).1 ∧ (runS c k m).1.Match.length = m.Match.length
  | 0, m, h => ⟨h, rfl⟩
  | k + 1, m, h => by
    rw [runS]
    split
    · exact ⟨h, rfl⟩
    · have := runS_ok (c := c) k (stepS m c) (stepS_ok h)
      exact ⟨this.1, by rw [this.2, (stepS_length m c).1]⟩
theorem run_loop {c : List Int} {K : Nat} (hK : K ≤ 16) : ∀ (k j : Nat) (m : S_api_Model), j + k = K → MV m → CV m.Match.length c →
    ∃ t, loop (fun v : Int × Int × (List Int) × (List Int) => em_Run_l2 c (K : Int) v.1 v.2.1 v.2.2.1 v.2.2.2) ((j : Int), m.Prior, m.Match, m.Random) = some t ∧
    bindE (some t) (fun t => em_Run_a3 (K : Int) t.1 t.2.1 t.2.2) (fun t => em_Run_a4 t.1 t.2.1 t.2.2.1 t.2.2.2) = some ((runS c k m).1, ((j + (runS c k m).2 : Nat) : Int), 0)
  | 0, j, m, hj, hm, hc => by
    refine ⟨.inl (m.Prior, m.Match, m.Random), loop_end ?_, ?_⟩
    · simp only [em_Run_l2]
      rw [if_neg (by simp only [decide_eq_true_eq]; omega)]
    · rw [bindE_l]
      simp only [em_Run_a3, runS]
      rw [show (K : Int) = ((j + 0 : Nat) : Int) by omega]
  | k + 1, j, m, hj, hm, hc => by
    have l1 := hm.1
    have l2 := hm.2.2.1
    have l3 := stepS_length m c
    have hstep : em_Run_l2 c (K : Int) (j : Int) m.Prior m.Match m.Random = if m = stepS m c then some (.inr (.inr ((j : Int), m.Prior, m.Match, m.Random))) else some (.inl (((j + 1 : Nat) : Int), (stepS m c).Prior, (stepS m c).Match, (stepS m c).Random)) := by
      unfold em_Run_l2
      rw [if_pos (by simp only [decide_eq_true_eq]; omega), step_eq hm hc, bind1_pure, msame_eq (by simp only; omega) (by simp only; omega), bind1_pure, wi64 (n := (j : Int) + 1) (by omega) (by omega)]
      by_cases h : m = stepS m c
      · rw [if_pos (by rw [decide_eq_true_eq]; exact h), if_pos h]
      · rw [if_neg (by rw [decide_eq_true_eq]; exact h), if_neg h]
        rfl
    by_cases h : m = stepS m c
    · rw [if_pos h] at hstep
      refine ⟨_, loop_end hstep, ?_⟩
      rw [bindE_r, runS, if_pos h.symm]
      rfl
    · rw [if_neg h] at hstep
      obtain ⟨t, e1, e2⟩ := run_loop hK k (j + 1) (stepS m c) (by omega) (stepS_ok hm) (by rw [l3.1]; exact hc)
      refine ⟨t, (loop_next (step := fun v : Int × Int × (List Int) × (List Int) => em_Run_l2 c (K : Int) v.1 v.2.1 v.2.2.1 v.2.2.2) hstep).trans e1, ?_⟩
      rw [e2, runS, if_neg (fun e => h e.symm), show j + 1 + (runS c k (stepS m c)).2 = j + ((runS c k (stepS m c)).2 + 1) by omega]
theorem Run_eq {c : List Int} {K : Nat} (hK : K ≤ 16) {m : S_api_Model} (hm : MV m) (hc : CV m.Match.length c) : em_Run m c (K : Int) = some ((runS c K m).1, ((runS c K m).2 : Int), 0) := by
  have l1 := hm.1
  have l2 := hm.2.2.1
  unfold em_Run
  rw [em_check_yes hm hc, bind1_pure, if_neg (by decide), if_neg (by simp only [decide_eq_true_eq]; omega), decide_eq_false (by omega)]
  unfold em_Run_k1
  rw [if_neg (by decide), iclone_eq (by omega), bind1_pure, iclone_eq (by omega), bind1_pure]
  obtain ⟨t, e1, e2⟩ := run_loop hK K 0 m (by omega) hm hc
  rw [show (0 : Int) = ((0 : Nat) : Int) from rfl] at *
  rw [e1, e2, Nat.zero_add]
/-! What both return of anything. -/
theorem bind2_eta {α β γ : Type} (x : α × β) (f : α → β → Option γ) : bind2 (some x) f = f x.1 x.2 := rfl
theorem bind3_eta {α β γ δ : Type} (x : α × β × γ) (f : α → β → γ → Option δ) : bind3 (some x) f = f x.1 x.2.1 x.2.2 := rfl
theorem rnd_fr {n d u : Int} (hn : 0 ≤ n) (hd : 0 < d) (ln : n < bp 7) (ld : d < bp 7) (hu : 1 ≤ u ∧ u ≤ 2147483648) (hr : (n * (2 * u) + d) / (2 * d) < 9223372036854775808) : rrndS (fr n d) u = ((n * (2 * u) + d) / (2 * d), 0) := by
  have L7 := bp_le (show 7 ≤ 64 by decide)
  have L9 := bp_le (show 9 ≤ 64 by decide)
  have h8 : bp 8 = 4294967296 * bp 7 := rfl
  have h9 : bp 9 = 4294967296 * bp 8 := rfl
  have b7 := bp_pos 7
  obtain ⟨fx, fv⟩ := fr_ok hn hd (by omega) (by omega)
  obtain ⟨g, a, b, g0, x0, y0, e1, e2, e3, _, le1, le2⟩ := fr_parts hn hd
  have hval : (a * (2 * u) + b) / (2 * b) = (n * (2 * u) + d) / (2 * d) := by
    have e4 : n * (2 * u) + d = g * (a * (2 * u) + b) := by rw [e2, Int.mul_add, ← Int.mul_assoc, ← Int.mul_assoc, ← Int.mul_assoc, ← e1]
    have e5 : 2 * d = g * (2 * b) := by rw [e2, ← Int.mul_assoc, ← Int.mul_assoc, Int.mul_comm 2 g]
    rw [e4, e5, Int.mul_ediv_mul_of_pos _ _ g0]
  have k1 : a * (2 * u) ≤ bp 7 * 4294967296 := Int.mul_le_mul (by omega) (by omega) (by omega) (by omega)
  have k0 : 0 ≤ a * (2 * u) := Int.mul_nonneg x0 (by omega)
  unfold rrndS
  rw [if_pos fv, if_neg (by omega), e3]
  simp only
  rw [nat32_val x0, nat32_val (by omega), if_pos ⟨by omega, by omega⟩, hval, if_pos hr]
noncomputable instance (m : S_api_Model) (p : Int) : Decidable (PN m p) := Classical.propDecidable _
noncomputable def postS (m : S_api_Model) (p : Int) : S_api_Rational × Int := if MV m then (if PN m p then (fr (wA m p) (wA m p + wB m p), 0) else (⟨[], []⟩, 2)) else (⟨[], []⟩, 18)
theorem em_post_any (m : S_api_Model) (p : Int) : em_Posterior m p = some (postS m p) := by
  unfold postS
  by_cases hm : MV m
  · rw [if_pos hm]
    by_cases hp : PN m p
    · rw [if_pos hp, posterior_eq hm hp]
    · have h1 := hm.2.1
      have h2 := hm.2.2.1
      unfold em_Posterior
      rw [if_neg hp, em_check_eq, if_pos hm, bind1_pure, if_neg (by decide), digits_eq, if_pos (by omega), Int.toNat_natCast, if_neg (show ¬ (0 ≤ p ∧ p < ((3 ^ m.Match.length : Nat) : Int)) from fun h => hp h), bind2_pure, if_pos (by decide)]
  · unfold em_Posterior
    rw [if_neg hm, em_check_eq, if_neg hm, bind1_pure, if_pos (by decide)]
theorem ref_k2 {w x : Int} {i : Nat} (hw : 0 ≤ w ∧ w < bp 6) (hx : 1 ≤ x ∧ x ≤ 65536) (hi : i ≤ 5) : rl_ref24_weight_k2 (nat32 w) (i : Int) x = some (.inl (nat32 (w * x), ((i + 1 : Nat) : Int))) := by
  have b1 : bp 1 = 4294967296 := by decide
  have L6 := bp_le (show 6 ≤ 64 by decide)
  have L1 := bp_le (show 1 ≤ 64 by decide)
  have L7 := bp_le (show 7 ≤ 64 by decide)
  have hl : w * x < bp 7 := bp_mul (m := 6) (n := 1) hw.1 hw.2 (by omega) (by omega)
  unfold rl_ref24_weight_k2
  rw [rl_ref10_fromInt_eq (by omega), if_neg (by omega), bind2_pure, ref_mul (nat32_u32 hw.1) (nat32_u32 (by omega)) ((vn_iff hw.1).2 (by omega)) ((vn_iff (by omega)).2 (by omega)), nat32_val hw.1, nat32_val (by omega), lim_small (by omega), bind2_pure, wi64 (n := (i : Int) + 1) (by omega) (by omega)]
  rfl
theorem ref_weight_eq {s : Int} (s0 : 1 ≤ s) (s1 : s ≤ 65536) {l ds : List Int} (hl : l.length = ds.length) (hn : ds.length ≤ 5) (h : ∀ i, i < ds.length → prob (l.getD i 0)) (hd : ∀ x ∈ ds, 0 ≤ x ∧ x ≤ 2) : rl_ref24_weight s l ds = some (nat32 (wprod s l ds ds.length)) := by
  unfold rl_ref24_weight
  rw [rl_ref10_fromInt_eq (by omega), if_neg (by omega), bind2_pure]
  have hloop := loop_for (step := fun v : (List Int) × Int => rl_ref24_weight_l1 l ds v.1 v.2) (fun i => (nat32 (wprod s l ds i), (i : Int))) ds.length (nat32 (wprod s l ds ds.length)) (fun i hi => by
    obtain ⟨w0, w1⟩ := wprod_in s0 s1 (ds := ds) (n := i) fun j hj => h j (by omega)
    have hp := h i hi
    have hdi := all_getD hd hi
    have hw : 0 ≤ wprod s l ds i ∧ wprod s l ds i < bp 6 := ⟨by omega, by have := bp_le (show i + 1 ≤ 6 by omega); omega⟩
    unfold prob at hp
    simp only [rl_ref24_weight_l1, Int.toNat_natCast, wprod, fac]
    rw [if_pos (by simp only [decide_eq_true_eq]; omega), if_pos (by omega), if_pos (by omega)]
    by_cases c2 : ds.getD i 0 = 2
    · rw [if_pos (by rw [beq_iff_eq]; exact c2), if_pos (by omega), ref_k2 hw (by omega) (by omega), if_neg (by omega), if_neg (by omega)]
    · rw [if_neg (by rw [beq_iff_eq]; exact c2)]
      by_cases c1 : ds.getD i 0 = 1
      · rw [if_pos (by rw [beq_iff_eq]; exact c1), if_pos (by omega), wi64 (n := 65536 - l.getD i 0) (by omega) (by omega), ref_k2 hw (by omega) (by omega), if_neg (by omega), if_pos c1]
      · rw [if_neg (by rw [beq_iff_eq]; exact c1), ref_k2 hw (by omega) (by omega), if_pos (by omega)]) (by
    simp only [rl_ref24_weight_l1]
    rw [if_neg (by simp only [decide_eq_true_eq]; omega)]) (s := (nat32 s, 0)) rfl
  rw [hloop]
  rfl
theorem ref_post_any (m : S_api_Model) (p : Int) : rl_ref24_Posterior m p = some (postS m p) := by
  unfold postS
  by_cases hm : MV m
  rotate_left
  · unfold rl_ref24_Posterior
    rw [if_neg hm, ref24_check_eq, if_neg hm, bind1_pure, if_pos (by decide)]
  rw [if_pos hm]
  obtain ⟨h1, h2, h3, h4, h5, h6⟩ := id hm
  unfold rl_ref24_Posterior
  rw [ref24_check_eq, if_pos hm, bind1_pure, if_neg (by decide), ref17_digits_eq, if_pos (by omega), Int.toNat_natCast]
  by_cases hp : PN m p
  rotate_left
  · rw [if_neg hp, if_neg (show ¬ (0 ≤ p ∧ p < ((3 ^ m.Match.length : Nat) : Int)) from fun h => hp h), bind2_pure, if_pos (by decide)]
  obtain ⟨a0, a1, b0, b1, ab⟩ := wAB_in hm p
  have hlen := digs_length m.Match.length p
  have hd := digs_mem m.Match.length p
  have hpr := h4
  unfold prob at hpr
  have L6 := bp_le (show 6 ≤ 64 by decide)
  have L7 := bp_le (show 7 ≤ 64 by decide)
  rw [if_pos hp, if_pos (show 0 ≤ p ∧ p < ((3 ^ m.Match.length : Nat) : Int) from hp), bind2_pure, if_neg (by decide), ref_weight_eq (s := m.Prior) (by omega) (by omega) hlen.symm (by omega) (by rw [hlen]; exact h5) hd, bind1_pure, wi64 (n := 65536 - m.Prior) (by omega) (by omega), ref_weight_eq (s := 65536 - m.Prior) (by omega) (by omega) (by omega) (by omega) (by rw [hlen]; exact h6) hd, bind1_pure, hlen]
  show bind2 (rl_ref10_Add (nat32 (wA m p)) (nat32 (wB m p))) _ = _
  rw [ref_add (by omega) (by omega) (by omega) (by omega), lim_small (by omega), bind2_pure]
  show bind2 (rl_ref11_Make (nat32 (wA m p)) (nat32 (wA m p + wB m p))) _ = _
  rw [ref_make (by omega) (by omega) (by omega) (by omega), bind2_pure]
theorem post_self (m : S_api_Model) (p : Int) : rl_ref11_Same (postS m p).1 (postS m p).1 = some true := by
  unfold postS
  by_cases hm : MV m
  · rw [if_pos hm]
    by_cases hp : PN m p
    · obtain ⟨a0, a1, b0, b1, ab⟩ := wAB_in hm p
      have L7 := bp_le (show 7 ≤ 64 by decide)
      have h := (fr_ok (n := wA m p) (d := wA m p + wB m p) (by omega) (by omega) (by omega) (by omega)).2
      have h8 := h.1.1
      have h9 := h.2.1.1
      rw [if_pos hp, rsame_eq ⟨by simp only; omega, by simp only; omega⟩, decide_eq_true rfl]
    · rw [if_neg hp, rsame_eq ⟨by decide, by decide⟩, decide_eq_true rfl]
  · rw [if_neg hm, rsame_eq ⟨by decide, by decide⟩, decide_eq_true rfl]
noncomputable def shareS (m : S_api_Model) (p : Int) : Int × Int := if MV m then (if PN m p then (sh m p, 0) else (0, 2)) else (0, 18)
theorem em_share_any (m : S_api_Model) (p : Int) : em_Share m p = some (shareS m p) := by
  unfold shareS
  by_cases hm : MV m
  · rw [if_pos hm]
    by_cases hp : PN m p
    · rw [if_pos hp, share_eq hm hp]
    · unfold em_Share
      rw [if_neg hp, em_post_any, postS, if_pos hm, if_neg hp, bind2_pure, if_pos (by decide)]
  · unfold em_Share
    rw [if_neg hm, em_post_any, postS, if_neg hm, bind2_pure, if_pos (by decide)]
theorem ref_share_any (m : S_api_Model) (p : Int) : rl_ref24_Share m p = some (shareS m p) := by
  unfold shareS rl_ref24_Share
  rw [ref_post_any, postS]
  by_cases hm : MV m
  · rw [if_pos hm, if_pos hm]
    by_cases hp : PN m p
    · obtain ⟨a0, a1, b0, b1, ab⟩ := wAB_in hm p
      have L7 := bp_le (show 7 ≤ 64 by decide)
      have h := (fr_ok (n := wA m p) (d := wA m p + wB m p) (by omega) (by omega) (by omega) (by omega)).1
      have hs := sh_in hm p
      have e : (wA m p * (2 * 1073741824) + (wA m p + wB m p)) / (2 * (wA m p + wB m p)) = sh m p := rfl
      rw [if_pos hp, if_pos hp, bind2_pure, if_neg (by decide), ref_rrnd h, rnd_fr (by omega) (by omega) (by omega) ab ⟨by decide, by decide⟩ (by rw [e]; omega), e, bind2_pure]
    · rw [if_neg hp, if_neg hp, bind2_pure, if_pos (by decide)]
  · rw [if_neg hm, if_neg hm, bind2_pure, if_pos (by decide)]
/-! Counts. -/
def OKc (c : List Int) : Prop := (∀ x ∈ c, 0 ≤ x) ∧ c.sum ≤ 4096
noncomputable instance (c : List Int) : Decidable (OKc c) := Classical.propDecidable _
noncomputable def pcS (n : Nat) (c : List Int) : Int := if c.length = 3 ^ n then (if OKc c then 0 else 19) else 8
theorem pcS_zero {n : Nat} {c : List Int} : pcS n c = 0 ↔ CV n c := by
  unfold pcS
  by_cases h : c.length = 3 ^ n
  · rw [if_pos h]
    by_cases k : OKc c
    · rw [if_pos k]; exact ⟨fun _ => ⟨h, k.1, k.2⟩, fun _ => rfl⟩
    · rw [if_neg k]; exact ⟨fun e => by omega, fun e => absurd ⟨e.2.1, e.2.2⟩ k⟩
  · rw [if_neg h]; exact ⟨fun e => by omega, fun e => absurd e.1 h⟩
theorem of_getD {P : Int → Prop} {c : List Int} (h : ∀ j, j < c.length → P (c.getD j 0)) : ∀ x ∈ c, P x := by
  intro x hx
  obtain ⟨i, hi, rfl⟩ := List.getElem_of_mem hx
  have := h i hi
  rw [List.getD_eq_getElem?_getD, List.getElem?_eq_getElem hi] at this
  exact this
theorem OKc.get {c : List Int} (h : OKc c) {i : Nat} (hi : i < c.length) : 0 ≤ c.getD i 0 ∧ c.getD i 0 ≤ 4096 := by
  have h1 := take_sum hi
  have h2 := take_le h.1 i
  have h3 := take_le h.1 (i + 1)
  have h4 := all_getD h.1 hi
  have h5 := h.2
  omega
theorem pcount_eq (x : Int) : pattern_count x = some (decide (0 ≤ x ∧ x ≤ 4096)) := by
  unfold pattern_count pattern_count_k1
  by_cases h : x ≥ 0
  · rw [if_pos (by simpa using h)]
    by_cases h2 : x ≤ 4096
    · rw [decide_eq_true h2, decide_eq_true ⟨h, h2⟩]
    · rw [decide_eq_false h2, decide_eq_false (fun k => h2 k.2)]
  · rw [if_neg (by simpa using h), decide_eq_false (fun k => h k.1)]
theorem psum_any {c : List Int} (hl : c.length ≤ 300) : (pattern_sum c = some (c.sum, true) ∧ ∀ x ∈ c, 0 ≤ x) ∨ (pattern_sum c = some (0, false) ∧ ¬ OKc c) := by
  unfold pattern_sum
  obtain ⟨t, e1, h⟩ := loop_inv (step := fun v : Int × Int => pattern_sum_l1 c v.1 v.2) c.length (fun i s => s.2 = (i : Int) ∧ s.1 = (c.take i).sum ∧ 0 ≤ s.1 ∧ s.1 ≤ 4096 * (i : Int) ∧ ∀ j, j < i → 0 ≤ c.getD j 0)
    (fun t => (t = .inl c.sum ∧ ∀ x ∈ c, 0 ≤ x) ∨ (t = .inr () ∧ ¬ OKc c)) (by
    rintro i hi ⟨a, j⟩ ⟨s1, s2, s3, s4, s5⟩
    simp only [pattern_sum_l1] at s1 s2 s3 s4 s5 ⊢
    subst s1
    simp only [Int.toNat_natCast, pcount_eq, bind1_pure]
    rw [if_pos (by simp only [decide_eq_true_eq]; omega), if_pos (by omega), if_pos (by omega)]
    by_cases hb : 0 ≤ c.getD i 0 ∧ c.getD i 0 ≤ 4096
    · left
      rw [decide_eq_true hb, if_neg (by decide), wi64 (n := a + c.getD i 0) (by omega) (by omega), wi64 (n := (i : Int) + 1) (by omega) (by omega)]
      refine ⟨_, rfl, by simp only; omega, by simp only; rw [take_sum hi, s2], by simp only; omega, by simp only; omega, fun j hj => ?_⟩
      by_cases e : j = i
      · subst e; exact hb.1
      · exact s5 j (by omega)
    · right
      rw [decide_eq_false hb, if_pos (by decide)]
      exact ⟨_, rfl, .inr ⟨rfl, fun k => hb (k.get hi)⟩⟩) (by
    rintro ⟨a, j⟩ ⟨s1, s2, s3, s4, s5⟩
    simp only [pattern_sum_l1] at s1 s2 s3 s4 s5 ⊢
    subst s1
    rw [if_neg (by simp only [decide_eq_true_eq]; omega)]
    refine ⟨_, rfl, .inl ⟨?_, of_getD s5⟩⟩
    rw [s2, List.take_of_length_le (Nat.le_refl _)]) (s := (0, 0)) ⟨rfl, rfl, by decide, by decide, fun j hj => absurd hj (by omega)⟩
  rw [e1]
  rcases h with ⟨rfl, h⟩ | ⟨rfl, h⟩
  · exact .inl ⟨by rw [bindE_l]; rfl, h⟩
  · exact .inr ⟨by rw [bindE_r]; rfl, h⟩
theorem pcheck_any {n : Nat} {c : List Int} (h1 : 1 ≤ n) (h5 : n ≤ 5) : pattern_Check c (n : Int) = some (pcS n c) := by
  have h3 := pow3_le h5
  unfold pattern_Check pcS pattern_Check_k1
  rw [psize_eq h1 h5, bind2_pure, if_neg (by decide)]
  by_cases hl : c.length = 3 ^ n
  rotate_left
  · rw [if_neg hl, if_pos (by rw [bne_iff_ne]; omega)]
  rw [if_pos hl, if_neg (by rw [hl]; simp)]
  rcases psum_any (c := c) (by omega) with ⟨e, h⟩ | ⟨e, h⟩
  · have hs := sum_nonneg h
    rw [e, bind2_pure, if_neg (by decide), pcount_eq, bind1_pure]
    by_cases k : c.sum ≤ 4096
    · rw [decide_eq_true ⟨hs, k⟩, if_neg (by decide), if_pos (show OKc c from ⟨h, k⟩)]
    · rw [decide_eq_false (fun z => k z.2), if_pos (by decide), if_neg (fun z : OKc c => k z.2)]
  · rw [e, bind2_pure, if_pos (by decide), if_pos rfl, if_neg h]
theorem rvalid_any {c : List Int} (hl : c.length ≤ 300) : rl_ref23_valid c = some (decide (OKc c)) := by
  unfold rl_ref23_valid
  obtain ⟨t, e1, h⟩ := loop_inv (step := fun v : Int × Int => rl_ref23_valid_l1 c v.1 v.2) c.length (fun i s => s.2 = (i : Int) ∧ s.1 = (c.take i).sum ∧ 0 ≤ s.1 ∧ s.1 ≤ 4096 ∧ ∀ j, j < i → 0 ≤ c.getD j 0)
    (fun t => (t = .inl () ∧ OKc c) ∨ (t = .inr () ∧ ¬ OKc c)) (by
    rintro i hi ⟨a, j⟩ ⟨s1, s2, s3, s4, s5⟩
    simp only [rl_ref23_valid_l1, rl_ref23_valid_k2] at s1 s2 s3 s4 s5 ⊢
    subst s1
    simp only [Int.toNat_natCast]
    rw [if_pos (by simp only [decide_eq_true_eq]; omega), if_pos (by omega), if_pos (by omega)]
    by_cases b1 : c.getD i 0 < 0
    · right
      rw [if_pos (by rw [decide_eq_true_eq]; exact b1), if_pos trivial]
      exact ⟨_, rfl, .inr ⟨rfl, fun k => by have := k.get hi; omega⟩⟩
    rw [if_neg (by rw [decide_eq_true_eq]; exact b1)]
    by_cases b2 : c.getD i 0 > 4096
    · right
      rw [if_pos (by rw [decide_eq_true_eq]; exact b2), if_pos trivial]
      exact ⟨_, rfl, .inr ⟨rfl, fun k => by have := k.get hi; omega⟩⟩
    rw [if_neg (by rw [decide_eq_true_eq]; exact b2)]
    have w1 : IntKind.i64.wrap (a + c.getD i 0) = a + c.getD i 0 := wi64 (by omega) (by omega)
    have w2 : IntKind.i64.wrap ((i : Int) + 1) = (i : Int) + 1 := wi64 (by omega) (by omega)
    simp only [w1, w2]
    by_cases b3 : a + c.getD i 0 > 4096
    · right
      rw [decide_eq_true b3, if_pos rfl]
      refine ⟨_, rfl, .inr ⟨rfl, fun k => ?_⟩⟩
      have k2 := take_le k.1 (i + 1)
      have k3 := k.2
      rw [take_sum hi] at k2
      omega
    · left
      rw [decide_eq_false b3, if_neg (by decide), if_pos (by omega), if_pos (by omega)]
      refine ⟨_, rfl, by simp only; omega, by simp only; rw [take_sum hi, s2], by simp only; omega, by simp only; omega, fun j hj => ?_⟩
      by_cases e : j = i
      · subst e; omega
      · exact s5 j (by omega)) (by
    rintro ⟨a, j⟩ ⟨s1, s2, s3, s4, s5⟩
    simp only [rl_ref23_valid_l1] at s1 s2 s3 s4 s5 ⊢
    subst s1
    rw [if_neg (by simp only [decide_eq_true_eq]; omega)]
    rw [List.take_of_length_le (Nat.le_refl _)] at s2
    exact ⟨_, rfl, .inl ⟨rfl, of_getD s5, by omega⟩⟩) (s := (0, 0)) ⟨rfl, rfl, by decide, by decide, fun j hj => absurd hj (by omega)⟩
  rw [e1]
  rcases h with ⟨rfl, h⟩ | ⟨rfl, h⟩
  · rw [bindE_l, decide_eq_true h]; rfl
  · rw [bindE_r, decide_eq_false h]; rfl
theorem rcheck_any {n : Nat} {c : List Int} (h1 : 1 ≤ n) (h5 : n ≤ 5) : rl_ref23_Check c (n : Int) = some (pcS n c) := by
  have h3 := pow3_le h5
  unfold rl_ref23_Check rl_ref23_Size pcS
  rw [if_neg (by simp only [decide_eq_true_eq]; omega), decide_eq_false (by omega)]
  unfold rl_ref23_Size_k1
  rw [if_neg (by decide), size_eq h5, bind1_pure, bind2_pure, if_neg (by decide)]
  by_cases hl : c.length = 3 ^ n
  rotate_left
  · rw [if_neg hl, if_pos (by rw [bne_iff_ne]; omega)]
  rw [if_pos hl, if_neg (by rw [hl]; simp), rvalid_any (by omega), bind1_pure]
  by_cases k : OKc c
  · rw [decide_eq_true k, if_neg (by decide), if_pos k]
  · rw [decide_eq_false k, if_pos (by decide), if_neg k]
/-! The reference's round. -/
theorem est_eq {n d o : Int} (hn : 0 ≤ n ∧ n ≤ 8796093022208) (hd : 0 ≤ d ∧ d ≤ 8796093022208) : rl_ref24_estimate n d o = some (quo n d o) := by
  unfold rl_ref24_estimate quo
  by_cases h : d = 0
  · rw [if_pos (by rw [beq_iff_eq]; exact h), if_pos h]
  · have b2 : bp 2 = 18446744073709551616 := by decide
    have L2 := bp_le (show 2 ≤ 64 by decide)
    have L7 := bp_le (show 2 ≤ 7 by decide)
    have q0 : 0 ≤ (131072 * n + d) / (2 * d) := Int.ediv_nonneg (by omega) (by omega)
    have q1 : (131072 * n + d) / (2 * d) ≤ 131072 * n + d := Int.ediv_le_self _ (by omega)
    have e : (n * (2 * 65536) + d) / (2 * d) = (131072 * n + d) / (2 * d) := by congr 1; omega
    rw [if_neg (by rw [beq_iff_eq]; exact h), if_neg h, rl_ref10_fromInt_eq (by omega), if_neg (by omega), bind2_pure, rl_ref10_fromInt_eq (by omega), if_neg (by omega), bind2_pure, ref_make (by omega) (by omega) (by omega) (by omega), bind2_pure, ref_rrnd (fr_ok (by omega) (by omega) (by omega) (by omega)).1, rnd_fr (by omega) (by omega) (by omega) (by omega) ⟨by decide, by decide⟩ (by rw [e]; omega), e, bind2_pure, bind1_pure]
    generalize (131072 * n + d) / (2 * d) = x at *
    congr 1
    unfold clampQ
    split <;> split <;> split <;> (try split) <;> omega
/-- a row of one sum of each field: those before the i-th have the next pattern counted -/
def LI (F : Nat → Nat → Int) (n i p : Nat) (l : List Int) : Prop := l.length = n ∧ ∀ f, f < n → l.getD f 0 = F f (if f < i then p + 1 else p)
theorem LI.set {F : Nat → Nat → Int} {n i p : Nat} {l : List Int} (h : LI F n i p l) (hi : i < n) {v : Int} (hv : v = F i (p + 1)) : LI F n (i + 1) p (l.set i v) := by
  refine ⟨by rw [List.length_set]; exact h.1, fun f hf => ?_⟩
  simp only [List.getD_eq_getElem?_getD, List.getElem?_set]
  have hl := h.1
  by_cases e : i = f
  · subst e
    rw [if_pos rfl, if_pos (by omega), if_pos (by omega), hv]
    rfl
  · have h2 := h.2 f hf
    rw [List.getD_eq_getElem?_getD] at h2
    rw [if_neg e, h2]
    by_cases k : f < i
    · rw [if_pos k, if_pos (by omega)]
    · rw [if_neg k, if_neg (by omega)]
theorem LI.keep {F : Nat → Nat → Int} {n i p : Nat} {l : List Int} (h : LI F n i p l) (hv : F i (p + 1) = F i p) : LI F n (i + 1) p l := by
  refine ⟨h.1, fun f hf => ?_⟩
  rw [h.2 f hf]
  by_cases e : i = f
  · subst e
    rw [if_neg (by omega), if_pos (by omega), hv]
  · by_cases k : f < i
    · rw [if_pos k, if_pos (by omega)]
    · rw [if_neg k, if_neg (by omega)]
theorem LI.at {F : Nat → Nat → Int} {n i p : Nat} {l : List Int} (h : LI F n i p l) (hi : i < n) : l.getD i 0 = F i p := by rw [h.2 i hi, if_neg (by omega)]
theorem LI.at0 {F : Nat → Nat → Int} {n i p : Nat} {l : List Int} (h : LI F n 0 p l) (hi : i < n) : l.getD i 0 = F i p := by rw [h.2 i hi, if_neg (by omega)]
theorem LI.next {F : Nat → Nat → Int} {n p : Nat} {l : List Int} (h : LI F n n p l) : LI F n 0 (p + 1) l := ⟨h.1, fun f hf => by rw [h.2 f hf, if_pos hf, if_neg (by omega)]⟩
def F1 (m : S_api_Model) (c : List Int) (n f p : Nat) : Int := (fS m c n f p).matchAgree
def F2 (m : S_api_Model) (c : List Int) (n f p : Nat) : Int := (fS m c n f p).match_
def F3 (m : S_api_Model) (c : List Int) (n f p : Nat) : Int := (fS m c n f p).randomAgree
def F4 (m : S_api_Model) (c : List Int) (n f p : Nat) : Int := (fS m c n f p).random
theorem ref_fields {m : S_api_Model} {c : List Int} {n p : Nat} (hm : MV m) (hn : m.Match.length = n) (hc : CV n c) (hp : p < c.length) {u v w x : List Int} (h1 : LI (F1 m c n) n 0 p u) (h2 : LI (F2 m c n) n 0 p v) (h3 : LI (F3 m c n) n 0 p w) (h4 : LI (F4 m c n) n 0 p x) :
    ∃ t, loop (fun v : (List Int) × (List Int) × (List Int) × (List Int) × Int => rl_ref24_Step_l2 m c (p : Int) (sh m (p : Int)) (digs n (p : Int)) v.1 v.2.1 v.2.2.1 v.2.2.2.1 v.2.2.2.2) (u, v, w, x, 0) = some t ∧ LI (F1 m c n) n n p t.1 ∧ LI (F2 m c n) n n p t.2.1 ∧ LI (F3 m c n) n n p t.2.2.1 ∧ LI (F4 m c n) n n p t.2.2.2 := by
  have hlen := digs_length n (p : Int)
  have hn5 := hm.2.2.1
  refine loop_inv n (fun i (s : (List Int) × (List Int) × (List Int) × (List Int) × Int) => s.2.2.2.2 = (i : Int) ∧ LI (F1 m c n) n i p s.1 ∧ LI (F2 m c n) n i p s.2.1 ∧ LI (F3 m c n) n i p s.2.2.1 ∧ LI (F4 m c n) n i p s.2.2.2.1) _ ?_ ?_ ⟨rfl, h1, h2, h3, h4⟩
  · rintro i hi ⟨a, b, d, e, j⟩ ⟨s0, s1, s2, s3, s4⟩
    left
    simp only at s0 s1 s2 s3 s4
    subst s0
    obtain ⟨g1, g2, g3, g4⟩ := (fS_in (n := n) (f := i) hm hc.2.1 (show p ≤ c.length by omega)).mono (small hc p)
    have hcp := hc.get hp
    have hs := sh_in hm (p : Int)
    obtain ⟨k1, k2, k3, k4⟩ := cs_in hcp.1 hs
    have t1 : a.getD i 0 = (fS m c n i p).matchAgree := s1.at hi
    have t2 : b.getD i 0 = (fS m c n i p).match_ := s2.at hi
    have t3 : d.getD i 0 = (fS m c n i p).randomAgree := s3.at hi
    have t4 : e.getD i 0 = (fS m c n i p).random := s4.at hi
    have l1 := s1.1
    have l2 := s2.1
    have l3 := s3.1
    have l4 := s4.1
    have hf : fS m c n i (p + 1) = if (digs n (p : Int)).getD i 0 > 0 then sw (fS m c n i p) (c.getD p 0) (sh m (p : Int)) ((digs n (p : Int)).getD i 0 == 2) else fS m c n i p := rfl
    simp only [rl_ref24_Step_l2, rl_ref24_Step_k4, rl_ref24_Step_k3, Int.toNat_natCast, Nat.zero_add]
    rw [t1, t2, t3, t4]
    rw [wi64 (n := 1073741824 - sh m (p : Int)) (by omega) (by omega), wi64 (n := c.getD p 0 * sh m (p : Int)) (by omega) (by omega), wi64 (n := c.getD p 0 * (1073741824 - sh m (p : Int))) (by omega) (by omega), wi64 (n := (i : Int) + 1) (by omega) (by omega)]
    rw [wi64 (n := (fS m c n i p).match_ + c.getD p 0 * sh m (p : Int)) (by omega) (by omega), wi64 (n := (fS m c n i p).matchAgree + c.getD p 0 * sh m (p : Int)) (by omega) (by omega), wi64 (n := (fS m c n i p).random + c.getD p 0 * (1073741824 - sh m (p : Int))) (by omega) (by omega), wi64 (n := (fS m c n i p).randomAgree + c.getD p 0 * (1073741824 - sh m (p : Int))) (by omega) (by omega)]
    rw [if_pos (by simp only [decide_eq_true_eq]; omega), if_pos (by omega), if_pos (by omega)]
    by_cases d0 : (digs n (p : Int)).getD i 0 > 0
    · rw [if_pos d0] at hf
      rw [if_pos (by rw [decide_eq_true_eq]; exact d0), if_pos (by omega), if_pos (by omega), if_pos (by omega), if_pos (by omega)]
      by_cases d2 : (digs n (p : Int)).getD i 0 = 2
      · have hb : ((digs n (p : Int)).getD i 0 == 2) = true := by rw [beq_iff_eq]; exact d2
        rw [hb] at hf
        rw [if_pos hb, if_pos (by omega), if_pos (by omega)]
        exact ⟨_, rfl, rfl, s1.set hi (by unfold F1; rw [hf]; rfl), s2.set hi (by unfold F2; rw [hf]; rfl), s3.set hi (by unfold F3; rw [hf]; rfl), s4.set hi (by unfold F4; rw [hf]; rfl)⟩
      · have hb : ((digs n (p : Int)).getD i 0 == 2) = false := by rw [beq_eq_false_iff_ne]; exact d2
        rw [hb] at hf
        rw [if_neg (by rw [hb]; decide)]
        exact ⟨_, rfl, rfl, s1.keep (by unfold F1; rw [hf]; rfl), s2.set hi (by unfold F2; rw [hf]; rfl), s3.keep (by unfold F3; rw [hf]; rfl), s4.set hi (by unfold F4; rw [hf]; rfl)⟩
    · rw [if_neg d0] at hf
      rw [if_neg (by rw [decide_eq_true_eq]; exact d0), if_pos (by omega), if_pos (by omega), if_neg (by rw [beq_iff_eq]; omega)]
      exact ⟨_, rfl, rfl, s1.keep (by unfold F1; rw [hf]), s2.keep (by unfold F2; rw [hf]), s3.keep (by unfold F3; rw [hf]), s4.keep (by unfold F4; rw [hf])⟩
  · rintro ⟨a, b, d, e, j⟩ ⟨s0, s1, s2, s3, s4⟩
    simp only [rl_ref24_Step_l2] at s0 s1 s2 s3 s4 ⊢
    subst s0
    rw [if_neg (by simp only [decide_eq_true_eq]; omega)]
    exact ⟨_, rfl, s1, s2, s3, s4⟩
theorem ref_patterns {m : S_api_Model} {c : List Int} {n : Nat} (hm : MV m) (hn : m.Match.length = n) (hc : CV n c) :
    ∃ t, loop (fun v : Int × Int × (List Int) × (List Int) × (List Int) × (List Int) × Int => rl_ref24_Step_l1 m c v.1 v.2.1 v.2.2.1 v.2.2.2.1 v.2.2.2.2.1 v.2.2.2.2.2.1 v.2.2.2.2.2.2) (0, 0, List.replicate n 0, List.replicate n 0, List.replicate n 0, List.replicate n 0, 0) = some t ∧ t.1 = c.sum ∧ t.2.1 = (tS m c c.length).match_ ∧ LI (F1 m c n) n 0 c.length t.2.2.1 ∧ LI (F2 m c n) n 0 c.length t.2.2.2.1 ∧ LI (F3 m c n) n 0 c.length t.2.2.2.2.1 ∧ LI (F4 m c n) n 0 c.length t.2.2.2.2.2 := by
  have hn5 := hm.2.2.1
  have hn1 := hm.2.1
  have h3 := pow3_le (show n ≤ 5 by omega)
  have hl := hc.1
  have hz : ∀ f, f < n → (List.replicate n (0 : Int)).getD f 0 = 0 := fun f hf => by rw [List.getD_eq_getElem?_getD, List.getElem?_replicate, if_pos hf]; rfl
  have lz := List.length_replicate (n := n) (a := (0 : Int))
  refine loop_inv c.length (fun p (s : Int × Int × (List Int) × (List Int) × (List Int) × (List Int) × Int) => s.2.2.2.2.2.2 = (p : Int) ∧ s.1 = (c.take p).sum ∧ s.2.1 = (tS m c p).match_ ∧ LI (F1 m c n) n 0 p s.2.2.1 ∧ LI (F2 m c n) n 0 p s.2.2.2.1 ∧ LI (F3 m c n) n 0 p s.2.2.2.2.1 ∧ LI (F4 m c n) n 0 p s.2.2.2.2.2.1) _ ?_ ?_
    ⟨rfl, rfl, rfl, ⟨lz, fun f hf => by rw [hz f hf, if_neg (by omega)]; rfl⟩, ⟨lz, fun f hf => by rw [hz f hf, if_neg (by omega)]; rfl⟩, ⟨lz, fun f hf => by rw [hz f hf, if_neg (by omega)]; rfl⟩, ⟨lz, fun f hf => by rw [hz f hf, if_neg (by omega)]; rfl⟩⟩
  · rintro p hp ⟨a, b, u, v, w, x, j⟩ ⟨s0, s1, s2, s3, s4, s5, s6⟩
    left
    simp only at s0 s1 s2 s3 s4 s5 s6
    subst s0
    have hpn : PN m (p : Int) := by unfold PN; rw [hn]; omega
    obtain ⟨g1, g2, g3, g4⟩ := (tS_in hm hc.2.1 (show p ≤ c.length by omega)).mono (small hc p)
    have hcp := hc.get hp
    have hs := sh_in hm (p : Int)
    obtain ⟨k1, k2, k3, k4⟩ := cs_in hcp.1 hs
    have ht := take_le hc.2.1 p
    have hc3 := hc.2.2
    simp only [rl_ref24_Step_l1, Int.toNat_natCast]
    rw [if_pos (by simp only [decide_eq_true_eq]; omega), ref_share_any, shareS, if_pos hm, if_pos hpn, bind2_pure, hn, ref17_digits_eq, if_pos (by omega), Int.toNat_natCast, if_pos (by omega), bind2_pure, if_pos (by omega), if_pos (by omega), s1, s2, wi64 (n := c.getD p 0 * sh m (p : Int)) (by omega) (by omega), wi64 (n := (tS m c p).match_ + c.getD p 0 * sh m (p : Int)) (by omega) (by omega), bind1_pure]
    obtain ⟨t, e1, t1, t2, t3, t4⟩ := ref_fields hm hn hc hp s3 s4 s5 s6
    rw [e1, wi64 (n := (c.take p).sum + c.getD p 0) (by omega) (by omega), wi64 (n := (p : Int) + 1) (by omega) (by omega)]
    exact ⟨_, rfl, rfl, (take_sum hp).symm, rfl, t1.next, t2.next, t3.next, t4.next⟩
  · rintro ⟨a, b, u, v, w, x, j⟩ ⟨s0, s1, s2, s3, s4, s5, s6⟩
    simp only [rl_ref24_Step_l1] at s0 s1 s2 s3 s4 s5 s6 ⊢
    subst s0
    rw [if_neg (by simp only [decide_eq_true_eq]; omega)]
    refine ⟨_, rfl, ?_, s2, s3, s4, s5, s6⟩
    simp only
    rw [s1, List.take_of_length_le (Nat.le_refl _)]
theorem tS_sum (m : S_api_Model) (c : List Int) : ∀ p, p ≤ c.length → (tS m c p).match_ + (tS m c p).random = 1073741824 * (c.take p).sum
  | 0, _ => rfl
  | p + 1, h => by
    have ih := tS_sum m c p (Nat.le_of_succ_le h)
    have e : (1073741824 : Int) * c.getD p 0 = c.getD p 0 * sh m (p : Int) + c.getD p 0 * (1073741824 - sh m (p : Int)) := by rw [← Int.mul_add, Int.mul_comm]; congr 1; omega
    rw [take_sum h, tS, sw, Int.mul_add, ← ih, e]
    simp only
    omega
theorem b6_pure {α β γ δ ε ζ η : Type} (a : α) (b : β) (c : γ) (d : δ) (e : ε) (f : ζ) (k : α → β → γ → δ → ε → ζ → Option η) : bind6 (some (a, b, c, d, e, f)) k = k a b c d e f := rfl
noncomputable def StepS (m : S_api_Model) (c : List Int) : S_api_Model × Int := if MV m then (if pcS m.Match.length c = 0 then (stepS m c, 0) else (⟨0, [], []⟩, pcS m.Match.length c)) else (⟨0, [], []⟩, 18)
theorem em_check_any (m : S_api_Model) (c : List Int) : em_check m c = some (if MV m then pcS m.Match.length c else 18) := by
  unfold em_check
  rw [em_check_eq]
  by_cases hm : MV m
  · rw [if_pos hm, if_pos hm, bind1_pure, if_neg (by decide), pcheck_any hm.2.1 hm.2.2.1, bind1_pure]
  · rw [if_neg hm, if_neg hm, bind1_pure, if_pos (by decide)]
theorem em_Step_any (m : S_api_Model) (c : List Int) : em_Step m c = some (StepS m c) := by
  unfold em_Step StepS
  rw [em_check_any, bind1_pure]
  by_cases hm : MV m
  · rw [if_pos hm, if_pos hm]
    by_cases h : pcS m.Match.length c = 0
    · rw [if_neg (by rw [bne_iff_ne]; omega), if_pos h, step_eq hm (pcS_zero.1 h), bind1_pure]
    · rw [if_pos (by rw [bne_iff_ne]; exact h), if_neg h]
  · rw [if_neg hm, if_neg hm, if_pos (by decide)]
theorem ref_Step_any (m : S_api_Model) (c : List Int) : rl_ref24_Step m c = some (StepS m c) := by
  unfold rl_ref24_Step StepS
  rw [ref24_check_eq]
  by_cases hm : MV m
  rotate_left
  · rw [if_neg hm, if_neg hm, bind1_pure, if_pos (by decide)]
  rw [if_pos hm, if_pos hm, bind1_pure, if_neg (by decide), rcheck_any hm.2.1 hm.2.2.1, bind1_pure]
  by_cases h : pcS m.Match.length c = 0
  rotate_left
  · rw [if_pos (by rw [bne_iff_ne]; exact h), if_neg h]
  have hc := pcS_zero.1 h
  obtain ⟨h1, h2, h3, h4, h5, h6⟩ := id hm
  rw [if_neg (by rw [bne_iff_ne]; omega), if_pos h, if_pos (by omega), if_pos (by omega), Int.toNat_natCast]
  obtain ⟨⟨a, b, u, v, w, x⟩, e1, t0, t1, t2, t3, t4, t5⟩ := ref_patterns hm rfl hc
  rw [e1, b6_pure]
  simp only at t0 t1 t2 t3 t4 t5
  have hT := tS_sum m c c.length (Nat.le_refl _)
  rw [List.take_of_length_le (Nat.le_refl _)] at hT
  obtain ⟨k1, k2, k3, k4⟩ := (tS_in hm hc.2.1 (Nat.le_refl c.length)).mono (small hc _)
  have hF : ∀ f, BS (fS m c m.Match.length f c.length) 4398046511104 := fun f => (fS_in hm hc.2.1 (Nat.le_refl _)).mono (small hc _)
  have hsum := sum_nonneg hc.2.1
  have hs2 := hc.2.2
  rw [t0, t1, wi64 (n := 1073741824 * c.sum) (by omega) (by omega), ← hT, est_eq (by omega) (by omega), bind1_pure]
  have hloop := loop_for (step := fun z : Int × (List Int) × (List Int) => rl_ref24_Step_l5 m u v w x z.1 z.2.1 z.2.2) (fun i => ((i : Int), (List.range i).map (fun f => quo (fS m c m.Match.length f c.length).matchAgree (fS m c m.Match.length f c.length).match_ (m.Match.getD f 0)), (List.range i).map fun f => quo (fS m c m.Match.length f c.length).randomAgree (fS m c m.Match.length f c.length).random (m.Random.getD f 0))) m.Match.length ((stepS m c).Match, (stepS m c).Random) (fun i hi => by
      obtain ⟨g1, g2, g3, g4⟩ := hF i
      have q2 : u.getD i 0 = (fS m c m.Match.length i c.length).matchAgree := t2.at0 hi
      have q3 : v.getD i 0 = (fS m c m.Match.length i c.length).match_ := t3.at0 hi
      have q4 : w.getD i 0 = (fS m c m.Match.length i c.length).randomAgree := t4.at0 hi
      have q5 : x.getD i 0 = (fS m c m.Match.length i c.length).random := t5.at0 hi
      have l2 := t2.1
      have l3 := t3.1
      have l4 := t4.1
      have l5 := t5.1
      simp only [rl_ref24_Step_l5, Int.toNat_natCast, Nat.zero_add]
      rw [q2, q3, q4, q5]
      rw [if_pos (by simp only [decide_eq_true_eq]; omega), if_pos (by omega), if_pos (by omega), if_pos (by omega), if_pos (by omega), est_eq (by omega) (by omega), bind1_pure, if_pos (by simp only [List.length_map, List.length_range, List.length_cons, List.length_nil]; omega), if_pos (by omega), if_pos (by omega), if_pos (by omega), est_eq (by omega) (by omega), bind1_pure, if_pos (by simp only [List.length_map, List.length_range, List.length_cons, List.length_nil]; omega), wi64 (n := (i : Int) + 1) (by omega) (by omega), List.range_succ, List.map_append, List.map_append]
      rfl) (by
      simp only [rl_ref24_Step_l5]
      rw [if_neg (by simp only [decide_eq_true_eq]; omega)]
      rfl) (s := (0, [], [])) rfl
  rw [hloop, bind2_pure]
  rfl
/-! Runs. -/
noncomputable def RunS (m : S_api_Model) (c : List Int) (k : Int) : S_api_Model × Int × Int :=
  if MV m then (if pcS m.Match.length c = 0 then (if 0 ≤ k ∧ k ≤ 16 then ((runS c k.toNat m).1, ((runS c k.toNat m).2 : Int), 0) else (⟨0, [], []⟩, 0, 2)) else (⟨0, [], []⟩, 0, pcS m.Match.length c)) else (⟨0, [], []⟩, 0, 18)
theorem em_Run_any (m : S_api_Model) (c : List Int) (k : Int) : em_Run m c k = some (RunS m c k) := by
  unfold RunS
  by_cases hm : MV m
  rotate_left
  · unfold em_Run
    rw [if_neg hm, em_check_any, if_neg hm, bind1_pure, if_pos (by decide)]
  rw [if_pos hm]
  by_cases h : pcS m.Match.length c = 0
  rotate_left
  · unfold em_Run
    rw [if_neg h, em_check_any, if_pos hm, bind1_pure, if_pos (by rw [bne_iff_ne]; exact h)]
  rw [if_pos h]
  by_cases hk : 0 ≤ k ∧ k ≤ 16
  · obtain ⟨K, rfl⟩ := Int.eq_ofNat_of_zero_le hk.1
    rw [if_pos hk, Run_eq (by omega) hm (pcS_zero.1 h)]
    rfl
  · unfold em_Run
    rw [if_neg hk, em_check_any, if_pos hm, bind1_pure, if_neg (by rw [bne_iff_ne]; omega)]
    by_cases k0 : k < 0
    · rw [if_pos (by rw [decide_eq_true_eq]; exact k0)]; rfl
    · rw [if_neg (by rw [decide_eq_true_eq]; exact k0), decide_eq_true (by omega)]; rfl
theorem ref_run_loop {c : List Int} {K : Nat} (hK : K ≤ 16) : ∀ (k j : Nat) (m : S_api_Model), j + k = K → MV m → CV m.Match.length c →
    ∃ t, loop (fun v : Int × Int × (List Int) × (List Int) => rl_ref24_Run_l2 c (K : Int) v.1 v.2.1 v.2.2.1 v.2.2.2) ((j : Int), m.Prior, m.Match, m.Random) = some t ∧
    bindE (some t) (fun t => rl_ref24_Run_a3 (K : Int) t.1 t.2.1 t.2.2) (fun t => rl_ref24_Run_a4 t.1 t.2.1 t.2.2.1 t.2.2.2) = some ((runS c k m).1, ((j + (runS c k m).2 : Nat) : Int), 0)
  | 0, j, m, hj, hm, hc => by
    refine ⟨.inl (m.Prior, m.Match, m.Random), loop_end ?_, ?_⟩
    · simp only [rl_ref24_Run_l2]
      rw [if_neg (by simp only [decide_eq_true_eq]; omega)]
    · rw [bindE_l]
      simp only [rl_ref24_Run_a3, runS]
      rw [show (K : Int) = ((j + 0 : Nat) : Int) by omega]
  | k + 1, j, m, hj, hm, hc => by
    have l1 := hm.1
    have l2 := hm.2.2.1
    have l3 := stepS_length m c
    have hstep : rl_ref24_Run_l2 c (K : Int) (j : Int) m.Prior m.Match m.Random = if stepS m c = m then some (.inr (.inr ((j : Int), m.Prior, m.Match, m.Random))) else some (.inl (((j + 1 : Nat) : Int), (stepS m c).Prior, (stepS m c).Match, (stepS m c).Random)) := by
      have e1 : rl_ref24_Step (⟨m.Prior, m.Match, m.Random⟩ : S_api_Model) c = some (stepS m c, 0) := by
        show rl_ref24_Step m c = _
        rw [ref_Step_any, StepS, if_pos hm, if_pos (pcS_zero.2 hc)]
      have e2 : rl_ref24_Same (stepS m c) (⟨m.Prior, m.Match, m.Random⟩ : S_api_Model) = some (decide (stepS m c = m)) := mrsame_eq (by omega) (by omega)
      unfold rl_ref24_Run_l2
      rw [if_pos (by simp only [decide_eq_true_eq]; omega), e1, bind2_pure, e2, bind1_pure, wi64 (n := (j : Int) + 1) (by omega) (by omega)]
      by_cases h : stepS m c = m
      · rw [if_pos (by rw [decide_eq_true_eq]; exact h), if_pos h]
      · rw [if_neg (by rw [decide_eq_true_eq]; exact h), if_neg h]
        rfl
    by_cases h : stepS m c = m
    · rw [if_pos h] at hstep
      refine ⟨_, loop_end hstep, ?_⟩
      rw [bindE_r, runS, if_pos h]
      rfl
    · rw [if_neg h] at hstep
      obtain ⟨t, e1, e2⟩ := ref_run_loop hK k (j + 1) (stepS m c) (by omega) (stepS_ok hm) (by rw [l3.1]; exact hc)
      refine ⟨t, (loop_next (step := fun v : Int × Int × (List Int) × (List Int) => rl_ref24_Run_l2 c (K : Int) v.1 v.2.1 v.2.2.1 v.2.2.2) hstep).trans e1, ?_⟩
      rw [e2, runS, if_neg h, show j + 1 + (runS c k (stepS m c)).2 = j + ((runS c k (stepS m c)).2 + 1) by omega]
theorem ref_Run_any (m : S_api_Model) (c : List Int) (k : Int) : rl_ref24_Run m c k = some (RunS m c k) := by
  unfold RunS rl_ref24_Run
  rw [ref24_check_eq]
  by_cases hm : MV m
  rotate_left
  · rw [if_neg hm, if_neg hm, bind1_pure, if_pos (by decide)]
  rw [if_pos hm, if_pos hm, bind1_pure, if_neg (by decide), rcheck_any hm.2.1 hm.2.2.1, bind1_pure]
  by_cases h : pcS m.Match.length c = 0
  rotate_left
  · rw [if_neg h, if_pos (by rw [bne_iff_ne]; exact h)]
  rw [if_pos h, if_neg (by rw [bne_iff_ne]; omega)]
  by_cases hk : 0 ≤ k ∧ k ≤ 16
  · obtain ⟨K, rfl⟩ := Int.eq_ofNat_of_zero_le hk.1
    have l1 := hm.1
    have l2 := hm.2.2.1
    rw [if_pos hk, if_neg (by simp only [decide_eq_true_eq]; omega), decide_eq_false (by omega)]
    unfold rl_ref24_Run_k1 rl_ref24_Copy
    rw [if_neg (by decide), if_pos (by omega), if_pos (by omega), bind1_pure]
    obtain ⟨t, e1, e2⟩ := ref_run_loop (c := c) (K := K) (by omega) K 0 m (by omega) hm (pcS_zero.1 h)
    simp only [List.nil_append]
    rw [show (0 : Int) = ((0 : Nat) : Int) from rfl] at *
    rw [e1, e2, Nat.zero_add]
    rfl
  · rw [if_neg hk]
    by_cases k0 : k < 0
    · rw [if_pos (by rw [decide_eq_true_eq]; exact k0)]; rfl
    · rw [if_neg (by rw [decide_eq_true_eq]; exact k0), decide_eq_true (by omega)]; rfl
def SM (m : S_api_Model) : Prop := m.Match.length ≤ 20 ∧ m.Random.length ≤ 20
theorem StepS_small (m : S_api_Model) (c : List Int) (h : SM m) : SM (StepS m c).1 := by
  have l := stepS_length m c
  have h1 := h.1
  unfold StepS
  split
  · split
    · exact ⟨by simp only; omega, by simp only; omega⟩
    · exact ⟨Nat.zero_le _, Nat.zero_le _⟩
  · exact ⟨Nat.zero_le _, Nat.zero_le _⟩
theorem RunS_small (m : S_api_Model) (c : List Int) (k : Int) : SM (RunS m c k).1 := by
  unfold RunS
  split
  · rename_i hm
    split
    · split
      · have h := runS_ok (c := c) k.toNat m hm
        have h1 := h.1.1
        have h2 := h.1.2.2.1
        exact ⟨by simp only; omega, by simp only; omega⟩
      · exact ⟨Nat.zero_le _, Nat.zero_le _⟩
    · exact ⟨Nat.zero_le _, Nat.zero_le _⟩
  · exact ⟨Nat.zero_le _, Nat.zero_le _⟩
/-! The law. -/
theorem bne_self (x : Int) : ¬ (x != x) = true := by simp
theorem l3_step (p1 y10 : S_api_Model) (p4 y24 : Int) (i j : Nat) (hj : j < 2) : rl_law24_EmExact_l3 p1 p4 y10 (i : Int) y24 (j : Int) = some (.inl ((j + 1 : Nat) : Int)) := by
  unfold rl_law24_EmExact_l3 rl_law24_EmExact_k4
  generalize ([p1, y10] : List S_em_model).getD (0 + (i : Int).toNat) dS_em_model = M
  generalize ([p4, y24] : List Int).getD (0 + (j : Int).toNat) 0 = P
  rw [if_pos (by simp only [List.length_cons, List.length_nil, decide_eq_true_eq]; omega), if_pos (by omega), if_pos (by simp only [List.length_cons, List.length_nil]; omega), em_post_any, bind2_eta, ref_post_any, bind2_eta, em_share_any, bind2_eta, ref_share_any, bind2_eta, if_neg (bne_self _), if_neg (bne_self _), if_neg (bne_self _), post_self, bind1_pure, if_neg (by decide), wi64 (n := (j : Int) + 1) (by omega) (by omega)]
  rfl
theorem l3_all (p1 y10 : S_api_Model) (p4 y24 : Int) (i : Nat) : loop (fun v : Int => rl_law24_EmExact_l3 p1 p4 y10 (i : Int) y24 v) 0 = some (.inl ()) :=
  loop_for (fun j => (j : Int)) 2 _ (fun j hj => l3_step p1 y10 p4 y24 i j hj) (by
    unfold rl_law24_EmExact_l3
    rw [if_neg (by simp)]) rfl
theorem run_step {p1 y10 : S_api_Model} {p3 y51 : List Int} (i q j : Nat) (k : Int) (hj : j < 2) : rl_law24_EmExact_k8 p1 p3 y10 (i : Int) y51 (q : Int) (j : Int) k = some (.inl ((j + 1 : Nat) : Int)) := by
  unfold rl_law24_EmExact_k8 rl_law24_EmExact_k9
  generalize ([p1, y10] : List S_em_model).getD (0 + (i : Int).toNat) dS_em_model = M
  generalize ([p3, y51] : List (List Int)).getD (0 + (q : Int).toNat) [] = C
  obtain ⟨hs1, hs2⟩ := RunS_small M C k
  rw [em_Run_any, bind3_eta, ref_Run_any, bind3_eta, if_neg (bne_self _), if_neg (bne_self _), mrsame_eq (by omega) (by omega), bind1_pure, decide_eq_true rfl, if_neg (by decide), wi64 (n := (j : Int) + 1) (by omega) (by omega)]
  rfl
theorem l7_all (p1 y10 : S_api_Model) (p3 y51 : List Int) (p5 y76 : Int) (i q : Nat) : loop (fun v : Int => rl_law24_EmExact_l7 p1 p3 p5 y10 (i : Int) y51 (q : Int) y76 v) 0 = some (.inl ()) :=
  loop_for (fun j => (j : Int)) 2 _ (fun j hj => by
    unfold rl_law24_EmExact_l7
    rw [if_pos (by simp only [List.length_cons, List.length_nil, decide_eq_true_eq]; omega), if_pos (by omega), if_pos (by simp only [List.length_cons, List.length_nil]; omega)]
    unfold rl_law24_EmExact_k10
    rw [run_step i q j _ hj, run_step i q j _ hj, ite_self, ite_self, ite_self]) (by
    unfold rl_law24_EmExact_l7
    rw [if_neg (by simp)]) rfl
theorem l5_all {p1 y10 : S_api_Model} (h1 : SM p1) (h2 : SM y10) (p3 y51 : List Int) (p5 : Int) (i : Nat) (hi : i < 2) {d : S_recordlinkmake_Deck} (hd : DeckOk d) : ∃ t : (List Int) × Int × Int, loop (fun v : Int × (List Int) × Int × Int => rl_law24_EmExact_l5 p1 p3 p5 y10 (i : Int) y51 v.1 v.2.1 v.2.2.1 v.2.2.2) (0, d.list, d.at_, d.state) = some (.inl t) ∧ DeckOk ⟨t.1, t.2.1, t.2.2⟩ := by
  obtain ⟨t, e1, u, rfl, h⟩ := loop_inv (step := fun v : Int × (List Int) × Int × Int => rl_law24_EmExact_l5 p1 p3 p5 y10 (i : Int) y51 v.1 v.2.1 v.2.2.1 v.2.2.2) 2 (fun j s => s.1 = (j : Int) ∧ DeckOk ⟨s.2.1, s.2.2.1, s.2.2.2⟩) (fun t => ∃ u : (List Int) × Int × Int, t = .inl u ∧ DeckOk ⟨u.1, u.2.1, u.2.2⟩) (by
    rintro j hj ⟨k, a, b, c⟩ ⟨s1, s2⟩
    left
    simp only at s1 s2
    subst s1
    simp only [rl_law24_EmExact_l5, rl_law24_EmExact_k6]
    have hM : SM (([p1, y10] : List S_em_model).getD (0 + (i : Int).toNat) dS_em_model) := by
      have : i = 0 ∨ i = 1 := by omega
      rcases this with rfl | rfl
      · exact h1
      · exact h2
    rw [em_Step_any, ref_Step_any]
    have hs := StepS_small (([p1, y10] : List S_em_model).getD (0 + (i : Int).toNat) dS_em_model) (([p3, y51] : List (List Int)).getD (0 + (j : Int).toNat) []) hM
    generalize StepS (([p1, y10] : List S_em_model).getD (0 + (i : Int).toNat) dS_em_model) (([p3, y51] : List (List Int)).getD (0 + (j : Int).toNat) []) = T at hs ⊢
    obtain ⟨hs1, hs2⟩ := hs
    rw [if_pos (by simp only [List.length_cons, List.length_nil, decide_eq_true_eq]; omega), if_pos (by omega), if_pos (by simp only [List.length_cons, List.length_nil]; omega), bind2_eta, bind2_eta, if_neg (bne_self _), mrsame_eq (by omega) (by omega), bind1_pure, decide_eq_true rfl, if_neg (by decide)]
    obtain ⟨v, d2, he, v0, v1, hd2⟩ := next_yes s2 (n := 4) (by decide) (by decide)
    rw [he]; clear he; first | rw [bind2_pure] | rw [bind3_pure] | rw [bind4_pure] | rw [bind1_pure]
    rw [l7_all, bindE_l]
    unfold rl_law24_EmExact_a11
    rw [wi64 (n := (j : Int) + 1) (by omega) (by omega)]
    exact ⟨_, rfl, rfl, hd2⟩) (by
    rintro ⟨k, a, b, c⟩ ⟨s1, s2⟩
    simp only at s1 s2
    subst s1
    simp only [rl_law24_EmExact_l5]
    rw [if_neg (by simp)]
    exact ⟨_, rfl, _, rfl, s2⟩) (s := (0, d.list, d.at_, d.state)) ⟨rfl, hd⟩
  exact ⟨u, e1, h⟩
theorem eexact_law (p : List Int) (raw odd : S_api_Model) (c : List Int) (pat rounds : Int) : rl_law24_EmExact p raw odd c pat rounds = some true := by
  have no : rl_law24_EmExact_k1 p raw odd c pat rounds true = some true := by
    unfold rl_law24_EmExact_k1
    rw [if_pos rfl, awake24]; rfl
  unfold rl_law24_EmExact rl_make_Few
  rw [awake24, bind1_pure, if_neg (by decide), bind1_pure]
  by_cases hp : p.length ≤ 400
  rotate_left
  · rw [decide_eq_false (by omega), if_pos (by decide), no]
  rw [decide_eq_true (by omega), if_neg (by decide)]
  by_cases a1 : raw.Match.length > 20
  · rw [if_pos (by simp only [decide_eq_true_eq]; omega), no]
  rw [if_neg (by simp only [decide_eq_true_eq]; omega)]
  by_cases a2 : raw.Random.length > 20
  · rw [if_pos (by simp only [decide_eq_true_eq]; omega), no]
  rw [if_neg (by simp only [decide_eq_true_eq]; omega)]
  by_cases a3 : odd.Match.length > 20
  · rw [if_pos (by simp only [decide_eq_true_eq]; omega), no]
  rw [if_neg (by simp only [decide_eq_true_eq]; omega)]
  by_cases a4 : odd.Random.length > 20
  · rw [if_pos (by simp only [decide_eq_true_eq]; omega), no]
  rw [if_neg (by simp only [decide_eq_true_eq]; omega)]
  by_cases a5 : c.length > 300
  · rw [decide_eq_true (by omega), no]
  rw [decide_eq_false (by omega)]
  unfold rl_law24_EmExact_k1
  rw [if_neg (by decide)]
  obtain ⟨d0, he, hd⟩ := new_yes hp
  rw [he]; clear he; first | rw [bind2_pure] | rw [bind3_pure] | rw [bind4_pure] | rw [bind1_pure]
  obtain ⟨x, d1, he, x0, x1, hd1⟩ := next_yes hd (n := 3) (by decide) (by decide)
  rw [he]; clear he; first | rw [bind2_pure] | rw [bind3_pure] | rw [bind4_pure] | rw [bind1_pure]
  obtain ⟨n, hn⟩ : ∃ n : Nat, 1 + x = n := ⟨(1 + x).toNat, by omega⟩
  have hw : IntKind.i64.wrap (1 + x) = (n : Int) := by rw [wi64 (n := 1 + x) (by omega) (by omega), hn]
  rw [hw]
  obtain ⟨m, d2, he, m1, hm, hd2⟩ := model_yes hd1 (n := n) (by omega) (by omega)
  rw [he]; clear he; first | rw [bind2_pure] | rw [bind3_pure] | rw [bind4_pure] | rw [bind1_pure]
  have s1 : SM raw := ⟨by omega, by omega⟩
  have s2 : SM m := ⟨by have := hm.2.2.1; omega, by have := hm.1; have := hm.2.2.1; omega⟩
  obtain ⟨t, e1, rfl⟩ := loop_inv (step := fun v : Int × (List Int) × Int × Int => rl_law24_EmExact_l2 raw odd c pat rounds x m v.1 v.2.1 v.2.2.1 v.2.2.2) 2 (fun j s => s.1 = (j : Int) ∧ DeckOk ⟨s.2.1, s.2.2.1, s.2.2.2⟩) (fun t => t = .inl ()) (by
    rintro i hi ⟨k, a, b, e⟩ ⟨z1, z2⟩
    left
    simp only at z1 z2
    subst z1
    simp only [rl_law24_EmExact_l2, rl_law24_EmExact_a16]
    rw [if_pos (by simp only [List.length_cons, List.length_nil, decide_eq_true_eq]; omega), if_pos (by omega), if_pos (by simp only [List.length_cons, List.length_nil]; omega)]
    obtain ⟨v, d3, he, v0, v1, hd3⟩ := next_yes z2 (n := 30) (by decide) (by decide)
    rw [he]; clear he; first | rw [bind2_pure] | rw [bind3_pure] | rw [bind4_pure] | rw [bind1_pure]
    rw [l3_all, bindE_l, hw]
    obtain ⟨cc, d4, he, hcc, hd4⟩ := counts_yes hd3 (n := n) (by omega)
    rw [he, bind2_pure]
    obtain ⟨u, e2, hu⟩ := l5_all s1 s2 c cc rounds i hi hd4
    rw [e2, bindE_l]
    unfold rl_law24_EmExact_a14
    have hM : SM (([raw, m] : List S_em_model).getD (0 + (i : Int).toNat) dS_em_model) := by
      have : i = 0 ∨ i = 1 := by omega
      rcases this with rfl | rfl
      · exact s1
      · exact s2
    generalize ([raw, m] : List S_em_model).getD (0 + (i : Int).toNat) dS_em_model = M at hM ⊢
    obtain ⟨q1, q2⟩ := hM
    rw [em_check_eq, bind1_pure, ref24_check_eq, bind1_pure, if_neg (bne_self _), msame_eq (by omega) (by omega), bind1_pure, mrsame_eq (by omega) (by omega), bind1_pure, if_neg (by simp), msame_eq (by omega) (by omega), bind1_pure, decide_eq_true rfl]
    unfold rl_law24_EmExact_k13
    rw [if_neg (by decide), wi64 (n := (i : Int) + 1) (by omega) (by omega)]
    exact ⟨_, rfl, rfl, hu⟩) (by
    rintro ⟨k, a, b, e⟩ ⟨z1, z2⟩
    simp only at z1 z2
    subst z1
    simp only [rl_law24_EmExact_l2]
    rw [if_neg (by simp)]
    exact ⟨_, rfl, rfl⟩) (s := (0, d2.list, d2.at_, d2.state)) ⟨rfl, hd2⟩
  rw [e1, bindE_l]
  rfl
end Go.Proofs.YtilpgjoidgfbiaaGreat
