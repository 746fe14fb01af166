/- Plain: shares of the reference, estimates of anything; the plain law of QualityExact. -/
import Derived.Test.YtilpgjoidgfbiaaGreatEq
import Derived.Test.YtilpgjoidgfbiaaGreatRf
import Derived.Test.YtilpgjoidgfbiaaGreatGE0
import Derived.Test.YtilpgjoidgfbiaaGreatGL3
namespace Go.Proofs.YtilpgjoidgfbiaaGreat
open Vm
set_option linter.unusedVariables false
set_option linter.unusedSimpArgs false
/-! What both return of anything. -/
theorem bind2_eta {α β γ : Type} (x : α × β) (f : α → β → Option γ) : bind2 (some x) f = f x.1 x.2 := rfl
theorem bind3_eta {α β γ δ : Type} (x : α × β × γ) (f : α → β → γ → Option δ) : bind3 (some x) f = f x.1 x.2.1 x.2.2 := rfl
theorem rnd_fr {n d u : Int} (hn : 0 ≤ n) (hd : 0 < d) (ln : n < bp 7) (ld : d < bp 7) (hu : 1 ≤ u ∧ u ≤ 2147483648) (hr : (n * (2 * u) + d) / (2 * d) < 9223372036854775808) : rrndS (fr n d) u = ((n * (2 * u) + d) / (2 * d), 0) := by
  have L7 := bp_le (show 7 ≤ 64 by decide)
  have L9 := bp_le (show 9 ≤ 64 by decide)
  have h8 : bp 8 = 4294967296 * bp 7 := rfl
  have h9 : bp 9 = 4294967296 * bp 8 := rfl
  have b7 := bp_pos 7
  obtain ⟨fx, fv⟩ := fr_ok hn hd (by omega) (by omega)
  obtain ⟨g, a, b, g0, x0, y0, e1, e2, e3, _, le1, le2⟩ := fr_parts hn hd
  have hval : (a * (2 * u) + b) / (2 * b) = (n * (2 * u) + d) / (2 * d) := by
    have e4 : n * (2 * u) + d = g * (a * (2 * u) + b) := by rw [e2, Int.mul_add, ← Int.mul_assoc, ← Int.mul_assoc, ← Int.mul_assoc, ← e1]
    have e5 : 2 * d = g * (2 * b) := by rw [e2, ← Int.mul_assoc, ← Int.mul_assoc, Int.mul_comm 2 g]
    rw [e4, e5, Int.mul_ediv_mul_of_pos _ _ g0]
  have k1 : a * (2 * u) ≤ bp 7 * 4294967296 := Int.mul_le_mul (by omega) (by omega) (by omega) (by omega)
  have k0 : 0 ≤ a * (2 * u) := Int.mul_nonneg x0 (by omega)
  unfold rrndS
  rw [if_pos fv, if_neg (by omega), e3]
  simp only
  rw [nat32_val x0, nat32_val (by omega), if_pos ⟨by omega, by omega⟩, hval, if_pos hr]
noncomputable instance (m : S_api_Model) (p : Int) : Decidable (PN m p) := Classical.propDecidable _
noncomputable def postS (m : S_api_Model) (p : Int) : S_api_Rational × Int := if MV m then (if PN m p then (fr (wA m p) (wA m p + wB m p), 0) else (⟨[], []⟩, 2)) else (⟨[], []⟩, 18)
theorem em_post_any (m : S_api_Model) (p : Int) : em_Posterior m p = some (postS m p) := by
  unfold postS
  by_cases hm : MV m
  · rw [if_pos hm]
    by_cases hp : PN m p
    · rw [if_pos hp, posterior_eq hm hp]
    · have h1 := hm.2.1
      have h2 := hm.2.2.1
      unfold em_Posterior
      rw [if_neg hp, em_check_eq, if_pos hm, bind1_pure, if_neg (by decide), digits_eq, if_pos (by omega), Int.toNat_natCast, if_neg (show ¬ (0 ≤ p ∧ p < ((3 ^ m.Match.length : Nat) : Int)) from fun h => hp h), bind2_pure, if_pos (by decide)]
  · unfold em_Posterior
    rw [if_neg hm, em_check_eq, if_neg hm, bind1_pure, if_pos (by decide)]
theorem ref_k2 {w x : Int} {i : Nat} (hw : 0 ≤ w ∧ w < bp 6) (hx : 1 ≤ x ∧ x ≤ 65536) (hi : i ≤ 5) : rl_ref24_weight_k2 (nat32 w) (i : Int) x = some (.inl (nat32 (w * x), ((i + 1 : Nat) : Int))) := by
  have b1 : bp 1 = 4294967296 := by decide
  have L6 := bp_le (show 6 ≤ 64 by decide)
  have L1 := bp_le (show 1 ≤ 64 by decide)
  have L7 := bp_le (show 7 ≤ 64 by decide)
  have hl : w * x < bp 7 := bp_mul (m := 6) (n := 1) hw.1 hw.2 (by omega) (by omega)
  unfold rl_ref24_weight_k2
  rw [rl_ref10_fromInt_eq (by omega), if_neg (by omega), bind2_pure, ref_mul (nat32_u32 hw.1) (nat32_u32 (by omega)) ((vn_iff hw.1).2 (by omega)) ((vn_iff (by omega)).2 (by omega)), nat32_val hw.1, nat32_val (by omega), lim_small (by omega), bind2_pure, wi64 (n := (i : Int) + 1) (by omega) (by omega)]
  rfl
theorem ref_weight_eq {s : Int} (s0 : 1 ≤ s) (s1 : s ≤ 65536) {l ds : List Int} (hl : l.length = ds.length) (hn : ds.length ≤ 5) (h : ∀ i, i < ds.length → prob (l.getD i 0)) (hd : ∀ x ∈ ds, 0 ≤ x ∧ x ≤ 2) : rl_ref24_weight s l ds = some (nat32 (wprod s l ds ds.length)) := by
  unfold rl_ref24_weight
  rw [rl_ref10_fromInt_eq (by omega), if_neg (by omega), bind2_pure]
  have hloop := loop_for (step := fun v : (List Int) × Int => rl_ref24_weight_l1 l ds v.1 v.2) (fun i => (nat32 (wprod s l ds i), (i : Int))) ds.length (nat32 (wprod s l ds ds.length)) (fun i hi => by
    obtain ⟨w0, w1⟩ := wprod_in s0 s1 (ds := ds) (n := i) fun j hj => h j (by omega)
    have hp := h i hi
    have hdi := all_getD hd hi
    have hw : 0 ≤ wprod s l ds i ∧ wprod s l ds i < bp 6 := ⟨by omega, by have := bp_le (show i + 1 ≤ 6 by omega); omega⟩
    unfold prob at hp
    simp only [rl_ref24_weight_l1, Int.toNat_natCast, wprod, fac]
    rw [if_pos (by simp only [decide_eq_true_eq]; omega), if_pos (by omega), if_pos (by omega)]
    by_cases c2 : ds.getD i 0 = 2
    · rw [if_pos (by rw [beq_iff_eq]; exact c2), if_pos (by omega), ref_k2 hw (by omega) (by omega), if_neg (by omega), if_neg (by omega)]
    · rw [if_neg (by rw [beq_iff_eq]; exact c2)]
      by_cases c1 : ds.getD i 0 = 1
      · rw [if_pos (by rw [beq_iff_eq]; exact c1), if_pos (by omega), wi64 (n := 65536 - l.getD i 0) (by omega) (by omega), ref_k2 hw (by omega) (by omega), if_neg (by omega), if_pos c1]
      · rw [if_neg (by rw [beq_iff_eq]; exact c1), ref_k2 hw (by omega) (by omega), if_pos (by omega)]) (by
    simp only [rl_ref24_weight_l1]
    rw [if_neg (by simp only [decide_eq_true_eq]; omega)]) (s := (nat32 s, 0)) rfl
  rw [hloop]
  rfl
theorem ref_post_any (m : S_api_Model) (p : Int) : rl_ref24_Posterior m p = some (postS m p) := by
  unfold postS
  by_cases hm : MV m
  rotate_left
  · unfold rl_ref24_Posterior
    rw [if_neg hm, ref24_check_eq, if_neg hm, bind1_pure, if_pos (by decide)]
  rw [if_pos hm]
  obtain ⟨h1, h2, h3, h4, h5, h6⟩ := id hm
  unfold rl_ref24_Posterior
  rw [ref24_check_eq, if_pos hm, bind1_pure, if_neg (by decide), ref17_digits_eq, if_pos (by omega), Int.toNat_natCast]
  by_cases hp : PN m p
  rotate_left
  · rw [if_neg hp, if_neg (show ¬ (0 ≤ p ∧ p < ((3 ^ m.Match.length : Nat) : Int)) from fun h => hp h), bind2_pure, if_pos (by decide)]
  obtain ⟨a0, a1, b0, b1, ab⟩ := wAB_in hm p
  have hlen := digs_length m.Match.length p
  have hd := digs_mem m.Match.length p
  have hpr := h4
  unfold prob at hpr
  have L6 := bp_le (show 6 ≤ 64 by decide)
  have L7 := bp_le (show 7 ≤ 64 by decide)
  rw [if_pos hp, if_pos (show 0 ≤ p ∧ p < ((3 ^ m.Match.length : Nat) : Int) from hp), bind2_pure, if_neg (by decide), ref_weight_eq (s := m.Prior) (by omega) (by omega) hlen.symm (by omega) (by rw [hlen]; exact h5) hd, bind1_pure, wi64 (n := 65536 - m.Prior) (by omega) (by omega), ref_weight_eq (s := 65536 - m.Prior) (by omega) (by omega) (by omega) (by omega) (by rw [hlen]; exact h6) hd, bind1_pure, hlen]
  show bind2 (rl_ref10_Add (nat32 (wA m p)) (nat32 (wB m p))) _ = _
  rw [ref_add (by omega) (by omega) (by omega) (by omega), lim_small (by omega), bind2_pure]
  show bind2 (rl_ref11_Make (nat32 (wA m p)) (nat32 (wA m p + wB m p))) _ = _
  rw [ref_make (by omega) (by omega) (by omega) (by omega), bind2_pure]
theorem post_self (m : S_api_Model) (p : Int) : rl_ref11_Same (postS m p).1 (postS m p).1 = some true := by
  unfold postS
  by_cases hm : MV m
  · rw [if_pos hm]
    by_cases hp : PN m p
    · obtain ⟨a0, a1, b0, b1, ab⟩ := wAB_in hm p
      have L7 := bp_le (show 7 ≤ 64 by decide)
      have h := (fr_ok (n := wA m p) (d := wA m p + wB m p) (by omega) (by omega) (by omega) (by omega)).2
      have h8 := h.1.1
      have h9 := h.2.1.1
      rw [if_pos hp, rsame_eq ⟨by simp only; omega, by simp only; omega⟩, decide_eq_true rfl]
    · rw [if_neg hp, rsame_eq ⟨by decide, by decide⟩, decide_eq_true rfl]
  · rw [if_neg hm, rsame_eq ⟨by decide, by decide⟩, decide_eq_true rfl]
noncomputable def shareS (m : S_api_Model) (p : Int) : Int × Int := if MV m then (if PN m p then (sh m p, 0) else (0, 2)) else (0, 18)
theorem em_share_any (m : S_api_Model) (p : Int) : em_Share m p = some (shareS m p) := by
  unfold shareS
  by_cases hm : MV m
  · rw [if_pos hm]
    by_cases hp : PN m p
    · rw [if_pos hp, share_eq hm hp]
    · unfold em_Share
      rw [if_neg hp, em_post_any, postS, if_pos hm, if_neg hp, bind2_pure, if_pos (by decide)]
  · unfold em_Share
    rw [if_neg hm, em_post_any, postS, if_neg hm, bind2_pure, if_pos (by decide)]
theorem ref_share_any (m : S_api_Model) (p : Int) : rl_ref24_Share m p = some (shareS m p) := by
  unfold shareS rl_ref24_Share
  rw [ref_post_any, postS]
  by_cases hm : MV m
  · rw [if_pos hm, if_pos hm]
    by_cases hp : PN m p
    · obtain ⟨a0, a1, b0, b1, ab⟩ := wAB_in hm p
      have L7 := bp_le (show 7 ≤ 64 by decide)
      have h := (fr_ok (n := wA m p) (d := wA m p + wB m p) (by omega) (by omega) (by omega) (by omega)).1
      have hs := sh_in hm p
      have e : (wA m p * (2 * 1073741824) + (wA m p + wB m p)) / (2 * (wA m p + wB m p)) = sh m p := rfl
      rw [if_pos hp, if_pos hp, bind2_pure, if_neg (by decide), ref_rrnd h, rnd_fr (by omega) (by omega) (by omega) ab ⟨by decide, by decide⟩ (by rw [e]; omega), e, bind2_pure]
    · rw [if_neg hp, if_neg hp, bind2_pure, if_pos (by decide)]
  · rw [if_neg hm, if_neg hm, bind2_pure, if_pos (by decide)]
/-! Estimates. -/
def EO (e : S_api_Estimate) : Prop := (0 ≤ e.False ∧ e.False ≤ 4398046511104) ∧ (0 ≤ e.Missed ∧ e.Missed ≤ 4398046511104) ∧ (0 ≤ e.True ∧ e.True ≤ 4398046511104)
noncomputable instance (e : S_api_Estimate) : Decidable (EO e) := Classical.propDecidable _
theorem fits_eq (x : Int) : quality_fits x = some (decide (0 ≤ x ∧ x ≤ 4398046511104)) := by
  unfold quality_fits quality_fits_k1
  by_cases h : x ≥ 0
  · rw [if_pos (by simpa using h)]
    by_cases h2 : x ≤ 4398046511104
    · rw [decide_eq_true h2, decide_eq_true ⟨h, h2⟩]
    · rw [decide_eq_false h2, decide_eq_false (fun k => h2 k.2)]
  · rw [if_neg (by simpa using h), decide_eq_false (fun k => h k.1)]
theorem qcheck_eq (e : S_api_Estimate) : quality_Check e = some (if EO e then 0 else 2) := by
  unfold quality_Check quality_Check_k1
  rw [fits_eq, fits_eq, fits_eq, bind1_pure, bind1_pure, bind1_pure]
  by_cases h1 : 0 ≤ e.False ∧ e.False ≤ 4398046511104
  · rw [decide_eq_true h1, if_neg (by decide)]
    by_cases h2 : 0 ≤ e.Missed ∧ e.Missed ≤ 4398046511104
    · rw [decide_eq_true h2, if_neg (by decide)]
      by_cases h3 : 0 ≤ e.True ∧ e.True ≤ 4398046511104
      · rw [decide_eq_true h3, if_neg (by decide), if_pos (show EO e from ⟨h1, h2, h3⟩)]
      · rw [decide_eq_false h3, if_pos (by decide), if_neg (fun k : EO e => h3 k.2.2)]
    · rw [decide_eq_false h2, if_pos (by decide), if_pos rfl, if_neg (fun k : EO e => h2 k.2.1)]
  · rw [decide_eq_false h1, if_pos (by decide), if_pos rfl, if_neg (fun k : EO e => h1 k.1)]
theorem rcheck_eq (e : S_api_Estimate) : rl_ref33_Check e = some (if EO e then 0 else 2) := by
  unfold rl_ref33_Check
  have no : rl_ref33_Check_k1 true = some 2 := rfl
  by_cases a1 : e.False < 0
  · rw [if_pos (by rw [decide_eq_true_eq]; exact a1), no, if_neg (fun k : EO e => by have := k.1; omega)]
  rw [if_neg (by rw [decide_eq_true_eq]; exact a1)]
  by_cases a2 : e.False > 4398046511104
  · rw [if_pos (by rw [decide_eq_true_eq]; exact a2), no, if_neg (fun k : EO e => by have := k.1; omega)]
  rw [if_neg (by rw [decide_eq_true_eq]; exact a2)]
  by_cases a3 : e.Missed < 0
  · rw [if_pos (by rw [decide_eq_true_eq]; exact a3), no, if_neg (fun k : EO e => by have := k.2.1; omega)]
  rw [if_neg (by rw [decide_eq_true_eq]; exact a3)]
  by_cases a4 : e.Missed > 4398046511104
  · rw [if_pos (by rw [decide_eq_true_eq]; exact a4), no, if_neg (fun k : EO e => by have := k.2.1; omega)]
  rw [if_neg (by rw [decide_eq_true_eq]; exact a4)]
  by_cases a5 : e.True < 0
  · rw [if_pos (by rw [decide_eq_true_eq]; exact a5), no, if_neg (fun k : EO e => by have := k.2.2; omega)]
  rw [if_neg (by rw [decide_eq_true_eq]; exact a5)]
  by_cases a6 : e.True > 4398046511104
  · rw [decide_eq_true a6, no, if_neg (fun k : EO e => by have := k.2.2; omega)]
  · rw [decide_eq_false a6, if_pos (show EO e from ⟨by omega, by omega, by omega⟩)]
    rfl
noncomputable def partS (e : S_api_Estimate) (a b : Int) : S_api_Rational × Int := if EO e then ofS a (a + b) else (⟨[], []⟩, 2)
theorem part_eq {e : S_api_Estimate} {a b : Int} (h : EO e → (0 ≤ a ∧ a ≤ 4398046511104) ∧ 0 ≤ b ∧ b ≤ 4398046511104) : quality_part e a b = some (partS e a b) := by
  unfold quality_part partS
  rw [qcheck_eq, bind1_pure]
  by_cases k : EO e
  · obtain ⟨ha, hb⟩ := h k
    rw [if_pos k, if_pos k, if_neg (by decide), wi64 (n := a + b) (by omega) (by omega)]
    by_cases z : a + b = 0
    · rw [if_pos (by rw [beq_iff_eq]; exact z), ofS, if_neg (by omega), if_pos z]
      rfl
    · rw [if_neg (by rw [beq_iff_eq]; exact z), of_eq (by omega) (by omega), bind2_eta]
  · rw [if_neg k, if_neg k, if_pos (by decide)]
theorem rpart_eq {e : S_api_Estimate} {a b : Int} (h : EO e → (0 ≤ a ∧ a ≤ 4398046511104) ∧ 0 ≤ b ∧ b ≤ 4398046511104) : rl_ref33_part e a b = some (partS e a b) := by
  unfold rl_ref33_part partS
  rw [rcheck_eq, bind1_pure]
  by_cases k : EO e
  · obtain ⟨ha, hb⟩ := h k
    rw [if_pos k, if_pos k, if_neg (by decide), wi64 (n := a + b) (by omega) (by omega), ref_of_eq (by omega) (by omega), bind2_eta]
  · rw [if_neg k, if_neg k, if_pos (by decide)]
theorem partS_self {e : S_api_Estimate} {a b : Int} (h : EO e → (0 ≤ a ∧ a ≤ 4398046511104) ∧ 0 ≤ b ∧ b ≤ 4398046511104) : rl_ref11_Same (partS e a b).1 (partS e a b).1 = some true := by
  have key : (partS e a b).1.Num.length < 1000000 ∧ (partS e a b).1.Den.length < 1000000 := by
    unfold partS
    by_cases k : EO e
    · obtain ⟨ha, hb⟩ := h k
      rw [if_pos k, ofS, if_neg (by omega)]
      by_cases z : a + b = 0
      · rw [if_pos z]; exact ⟨by decide, by decide⟩
      · have b2 : bp 2 = 18446744073709551616 := by decide
        have L2 := bp_le (show 2 ≤ 64 by decide)
        have q := (fr_ok (n := a) (d := a + b) (by omega) (by omega) (by omega) (by omega)).2
        have q1 := q.1.1
        have q2 := q.2.1.1
        rw [if_neg z]
        exact ⟨by simp only; omega, by simp only; omega⟩
    · rw [if_neg k]; exact ⟨by decide, by decide⟩
  rw [rsame_eq key, decide_eq_true rfl]
theorem EO.tf {e : S_api_Estimate} (k : EO e) : (0 ≤ e.True ∧ e.True ≤ 4398046511104) ∧ 0 ≤ e.False ∧ e.False ≤ 4398046511104 := ⟨k.2.2, k.1⟩
theorem EO.tm {e : S_api_Estimate} (k : EO e) : (0 ≤ e.True ∧ e.True ≤ 4398046511104) ∧ 0 ≤ e.Missed ∧ e.Missed ≤ 4398046511104 := ⟨k.2.2, k.2.1⟩
theorem prec_eq (e : S_api_Estimate) : quality_Precision e = some (partS e e.True e.False) := by
  unfold quality_Precision
  rw [part_eq EO.tf, bind2_eta]
theorem rprec_eq (e : S_api_Estimate) : rl_ref33_Precision e = some (partS e e.True e.False) := by
  unfold rl_ref33_Precision
  rw [rpart_eq EO.tf, bind2_eta]
theorem rec_eq (e : S_api_Estimate) : quality_Recall e = some (partS e e.True e.Missed) := by
  unfold quality_Recall
  rw [part_eq EO.tm, bind2_eta]
theorem rrec_eq (e : S_api_Estimate) : rl_ref33_Recall e = some (partS e e.True e.Missed) := by
  unfold rl_ref33_Recall
  rw [rpart_eq EO.tm, bind2_eta]
theorem meets_same (e : S_api_Estimate) (a b : Int) : ∃ r, quality_Meets e a b = some r ∧ rl_ref33_Meets e a b = some r := by
  unfold quality_Meets rl_ref33_Meets quality_Meets_k1 quality_reaches quality_Meets_k2 rl_ref33_Meets_k1 rl_ref33_Meets_k2
  simp only [qcheck_eq, rcheck_eq, bind1_pure]
  generalize (if EO e then (0 : Int) else 2) = z
  generalize decide (a < 0) = t1
  generalize decide (a > 1000) = t2
  generalize decide (b < 0) = t3
  generalize decide (b > 1000) = t4
  generalize decide (IntKind.i64.wrap (1000 * e.True) ≥ IntKind.i64.wrap (a * IntKind.i64.wrap (e.True + e.False))) = u1
  generalize decide (IntKind.i64.wrap (1000 * e.True) ≥ IntKind.i64.wrap (b * IntKind.i64.wrap (e.True + e.Missed))) = u2
  generalize (z != 0) = t0
  cases t0 <;> cases t1 <;> cases t2 <;> cases t3 <;> cases t4 <;> cases u1 <;> exact ⟨_, rfl, rfl⟩
theorem add_same (e f : S_api_Estimate) : ∃ r, quality_Add e f = some r ∧ rl_ref33_Add e f = some r := by
  unfold quality_Add rl_ref33_Add
  simp only [qcheck_eq, rcheck_eq, bind1_pure]
  generalize (if EO e then (0 : Int) else 2) = z1
  generalize (if EO f then (0 : Int) else 2) = z2
  generalize (if EO _ then (0 : Int) else 2) = z3
  generalize (z1 != 0) = t1
  generalize (z2 != 0) = t2
  generalize (z3 != 0) = t3
  cases t1 <;> cases t2 <;> cases t3 <;> exact ⟨_, rfl, rfl⟩
/-! Estimates of candidates, of any patterns. -/
noncomputable instance (m : S_api_Model) (cs : List S_api_Candidate) : Decidable (CN m cs) := Classical.propDecidable _
theorem CN.of {m : S_api_Model} {cs : List S_api_Candidate} (h : ∀ j, j < cs.length → PN m (cs.getD j dS_api_Candidate).Pattern) : CN m cs := by
  intro c hc
  obtain ⟨i, hi, rfl⟩ := List.getElem_of_mem hc
  have := h i hi
  rw [List.getD_eq_getElem?_getD, List.getElem?_eq_getElem hi] at this
  exact this
theorem take_sumS {m : S_api_Model} {cs : List S_api_Candidate} {i : Nat} (hi : i < cs.length) : sumS m (cs.take (i + 1)) = sumS m (cs.take i) + sh m (cs.getD i dS_api_Candidate).Pattern := by
  rw [cand_take hi, sumS_append, sumS_cons, sumS_nil, Int.add_zero]
theorem shares_any {m : S_api_Model} (hm : MV m) {cs : List S_api_Candidate} (hn : cs.length ≤ 4096) : quality_shares m cs = some (if CN m cs then (sumS m cs, 0) else (0, 2)) := by
  by_cases hc : CN m cs
  · rw [if_pos hc, shares_eq hm hc hn]
  unfold quality_shares
  rw [if_neg hc]
  obtain ⟨t, e1, rfl⟩ := loop_inv (step := fun v : Int × Int => quality_shares_l1 m cs v.1 v.2) cs.length (fun i s => s.2 = (i : Int) ∧ s.1 = sumS m (cs.take i) ∧ ∀ j, j < i → PN m (cs.getD j dS_api_Candidate).Pattern) (fun t => t = .inr 2) (by
    rintro i hi ⟨a, j⟩ ⟨s1, s2, s3⟩
    simp only [quality_shares_l1] at s1 s2 s3 ⊢
    subst s1
    have h1 := sumS_in hm (cs.take i)
    have h3 : (cs.take i).length ≤ 4096 := by rw [List.length_take]; omega
    have h2 := sh_in hm (cs.getD i dS_api_Candidate).Pattern
    simp only [Int.toNat_natCast]
    rw [if_pos (by simp only [decide_eq_true_eq]; omega), if_pos (by omega), if_pos (by omega), em_share_any, shareS, if_pos hm]
    by_cases hp : PN m (cs.getD i dS_api_Candidate).Pattern
    · left
      rw [if_pos hp, bind2_pure, if_neg (by decide), wi64 (n := a + _) (by omega) (by omega), wi64 (n := (i : Int) + 1) (by omega) (by omega)]
      refine ⟨_, rfl, by simp only; omega, by simp only; rw [take_sumS hi, s2], fun j hj => ?_⟩
      by_cases e : j = i
      · subst e; exact hp
      · exact s3 j (by omega)
    · right
      rw [if_neg hp, bind2_pure, if_pos (by decide)]
      exact ⟨_, rfl, rfl⟩) (by
    rintro ⟨a, j⟩ ⟨s1, s2, s3⟩
    exact absurd (CN.of s3) hc) (s := (0, 0)) ⟨rfl, rfl, fun j hj => absurd hj (by omega)⟩
  rw [e1, bindE_r]
  rfl
theorem ref_l2 {m : S_api_Model} (hm : MV m) {cs : List S_api_Candidate} (hn : cs.length ≤ 4096) : loop (fun v : Int × Int × Int => rl_ref33_Of_l2 m cs v.1 v.2.1 v.2.2) (0, 0, 0) = some (if CN m cs then .inl ((cs.length : Int) * 1073741824 - sumS m cs, sumS m cs) else .inr 2) := by
  obtain ⟨t, e1, h⟩ := loop_inv (step := fun v : Int × Int × Int => rl_ref33_Of_l2 m cs v.1 v.2.1 v.2.2) cs.length (fun i s => s.1 = (i : Int) ∧ s.2.1 = (i : Int) * 1073741824 - sumS m (cs.take i) ∧ s.2.2 = sumS m (cs.take i) ∧ ∀ j, j < i → PN m (cs.getD j dS_api_Candidate).Pattern) (fun t => (t = .inr 2 ∧ ¬ CN m cs) ∨ (t = .inl ((cs.length : Int) * 1073741824 - sumS m cs, sumS m cs) ∧ CN m cs)) (by
    rintro i hi ⟨j, a, b⟩ ⟨s1, s2, s3, s4⟩
    simp only [rl_ref33_Of_l2] at s1 s2 s3 s4 ⊢
    subst s1
    have h1 := sumS_in hm (cs.take i)
    have h3 : (cs.take i).length = i := by rw [List.length_take]; omega
    rw [h3] at h1
    have h2 := sh_in hm (cs.getD i dS_api_Candidate).Pattern
    simp only [Int.toNat_natCast]
    rw [if_pos (by simp only [decide_eq_true_eq]; omega), if_pos (by omega), if_pos (by omega), ref_share_any, shareS, if_pos hm]
    by_cases hp : PN m (cs.getD i dS_api_Candidate).Pattern
    · left
      rw [if_pos hp, bind2_pure, if_neg (by decide), wi64 (n := 1073741824 - _) (by omega) (by omega), wi64 (n := a + _) (by omega) (by omega), bind1_pure, wi64 (n := b + _) (by omega) (by omega), wi64 (n := (i : Int) + 1) (by omega) (by omega)]
      refine ⟨_, rfl, by simp only; omega, by simp only; rw [take_sumS hi]; omega, by simp only; rw [take_sumS hi, s3], fun j hj => ?_⟩
      by_cases e : j = i
      · subst e; exact hp
      · exact s4 j (by omega)
    · right
      rw [if_neg hp, bind2_pure, if_pos (by decide)]
      exact ⟨_, rfl, .inl ⟨rfl, fun k => hp (k _ (cand_mem hi))⟩⟩) (by
    rintro ⟨j, a, b⟩ ⟨s1, s2, s3, s4⟩
    simp only [rl_ref33_Of_l2] at s1 s2 s3 s4 ⊢
    subst s1
    rw [if_neg (by simp only [decide_eq_true_eq]; omega)]
    rw [List.take_of_length_le (Nat.le_refl _)] at s2 s3
    exact ⟨_, rfl, .inr ⟨by rw [s2, s3], CN.of s4⟩⟩) (s := (0, 0, 0)) ⟨rfl, rfl, rfl, fun j hj => absurd hj (by omega)⟩
  rw [e1]
  rcases h with ⟨rfl, h⟩ | ⟨rfl, h⟩
  · rw [if_neg h]
  · rw [if_pos h]
theorem ref_l3 {m : S_api_Model} (hm : MV m) {cs : List S_api_Candidate} (hn : cs.length ≤ 4096) : loop (fun v : Int × Int => rl_ref33_Of_l3 m cs v.1 v.2) (0, 0) = some (if CN m cs then .inl (sumS m cs) else .inr 2) := by
  obtain ⟨t, e1, h⟩ := loop_inv (step := fun v : Int × Int => rl_ref33_Of_l3 m cs v.1 v.2) cs.length (fun i s => s.1 = (i : Int) ∧ s.2 = sumS m (cs.take i) ∧ ∀ j, j < i → PN m (cs.getD j dS_api_Candidate).Pattern) (fun t => (t = .inr 2 ∧ ¬ CN m cs) ∨ (t = .inl (sumS m cs) ∧ CN m cs)) (by
    rintro i hi ⟨j, b⟩ ⟨s1, s3, s4⟩
    simp only [rl_ref33_Of_l3] at s1 s3 s4 ⊢
    subst s1
    have h1 := sumS_in hm (cs.take i)
    have h3 : (cs.take i).length = i := by rw [List.length_take]; omega
    rw [h3] at h1
    have h2 := sh_in hm (cs.getD i dS_api_Candidate).Pattern
    simp only [Int.toNat_natCast]
    rw [if_pos (by simp only [decide_eq_true_eq]; omega), if_pos (by omega), if_pos (by omega), ref_share_any, shareS, if_pos hm]
    by_cases hp : PN m (cs.getD i dS_api_Candidate).Pattern
    · left
      rw [if_pos hp, bind2_pure, if_neg (by decide), wi64 (n := b + _) (by omega) (by omega), wi64 (n := (i : Int) + 1) (by omega) (by omega)]
      refine ⟨_, rfl, by simp only; omega, by simp only; rw [take_sumS hi, s3], fun j hj => ?_⟩
      by_cases e : j = i
      · subst e; exact hp
      · exact s4 j (by omega)
    · right
      rw [if_neg hp, bind2_pure, if_pos (by decide)]
      exact ⟨_, rfl, .inl ⟨rfl, fun k => hp (k _ (cand_mem hi))⟩⟩) (by
    rintro ⟨j, b⟩ ⟨s1, s3, s4⟩
    simp only [rl_ref33_Of_l3] at s1 s3 s4 ⊢
    subst s1
    rw [if_neg (by simp only [decide_eq_true_eq]; omega)]
    rw [List.take_of_length_le (Nat.le_refl _)] at s3
    exact ⟨_, rfl, .inr ⟨by rw [s3], CN.of s4⟩⟩) (s := (0, 0)) ⟨rfl, rfl, fun j hj => absurd hj (by omega)⟩
  rw [e1]
  rcases h with ⟨rfl, h⟩ | ⟨rfl, h⟩
  · rw [if_neg h]
  · rw [if_pos h]
theorem of_same (m : S_api_Model) (a b : List S_api_Candidate) : ∃ r, quality_Of m a b = some r ∧ rl_ref33_Of m a b = some r := by
  unfold quality_Of rl_ref33_Of
  have q0 : ((0 : Int) != 0) = false := rfl
  have q18 : ((18 : Int) != 0) = true := rfl
  simp only [em_check_eq, ref24_check_eq, bind1_pure]
  by_cases hm : MV m
  rotate_left
  · simp only [if_neg hm, q18, if_true]; exact ⟨_, rfl, rfl⟩
  simp only [if_pos hm, q0, Bool.false_eq_true, if_false]
  by_cases la : (a.length : Int) > 4096
  · simp only [decide_eq_true la, if_true]; exact ⟨_, rfl, rfl⟩
  simp only [decide_eq_false la, Bool.false_eq_true, if_false]
  by_cases lb : (b.length : Int) > 4096
  · rw [decide_eq_true lb]; exact ⟨_, rfl, rfl⟩
  rw [decide_eq_false lb]
  unfold quality_Of_k1 rl_ref33_Of_k1
  have ha := sumS_in hm a
  rw [if_neg (by decide), if_neg (by decide), shares_any hm (by omega), ref_l2 hm (by omega)]
  by_cases ca : CN m a
  rotate_left
  · rw [if_neg ca, if_neg ca, bindE_r, bind2_pure, if_pos (by decide)]; exact ⟨_, rfl, rfl⟩
  rw [if_pos ca, if_pos ca, bindE_l, bind2_pure, if_neg (by decide), shares_any hm (by omega)]
  unfold rl_ref33_Of_a6
  rw [ref_l3 hm (by omega)]
  by_cases cb : CN m b
  rotate_left
  · rw [if_neg cb, if_neg cb, bindE_r, bind2_pure, if_pos (by decide)]; exact ⟨_, rfl, rfl⟩
  rw [if_pos cb, if_pos cb, bindE_l, bind2_pure, if_neg (by decide), wi64 (n := (a.length : Int) * 1073741824) (by omega) (by omega), wi64 (n := (a.length : Int) * 1073741824 - _) (by omega) (by omega), bind1_pure]
  exact ⟨_, rfl, rfl⟩
/-! The law. -/
theorem bne_self (x : Int) : (x != x) = false := by simp
theorem est_self (e : S_api_Estimate) : ¬ (!((e.False == e.False) && ((e.Missed == e.Missed) && ((e.True == e.True) && true)))) = true := by simp
theorem l6_all (p4 y32 : S_api_Estimate) (p6 p7 y68 y71 : Int) (i : Nat) : loop (fun v : Int => rl_law33_QualityExact_l6 p4 p6 p7 y32 (i : Int) y68 y71 v) 0 = some (.inl ()) :=
  loop_for (fun j => (j : Int)) 4 _ (fun j hj => by
    unfold rl_law33_QualityExact_l6 rl_law33_QualityExact_k7
    rw [if_pos (by simp only [List.length_cons, List.length_nil, decide_eq_true_eq]; omega), if_pos (by omega), if_pos (by simp only [List.length_cons, List.length_nil]; omega)]
    generalize ([p4, y32, (⟨0, 0, 0⟩ : S_api_Estimate), (⟨0, 0, 4398046511104⟩ : S_api_Estimate), (⟨0, 4398046511105, 0⟩ : S_api_Estimate)] : List S_api_Estimate).getD (0 + (i : Int).toNat) dS_api_Estimate = E
    obtain ⟨r, e1, e2⟩ := meets_same E ((([[p6, p7], [y68, y71], [1000, 0], [0, 1000]] : List (List Int)).getD (0 + (j : Int).toNat) (List.replicate 2 (0 : Int))).getD 0 0) ((([[p6, p7], [y68, y71], [1000, 0], [0, 1000]] : List (List Int)).getD (0 + (j : Int).toNat) (List.replicate 2 (0 : Int))).getD 1 0)
    rw [e1, e2, bind2_eta, bind2_eta, if_neg (by simp), bne_self, if_neg (by decide), wi64 (n := (j : Int) + 1) (by omega) (by omega)]
    rfl) (by
    unfold rl_law33_QualityExact_l6
    rw [if_neg (by simp)]) rfl
theorem l4_all (p4 p5 y32 : S_api_Estimate) (p6 p7 : Int) {d : S_recordlinkmake_Deck} (hd : DeckOk d) : ∃ t : (List Int) × Int × Int, loop (fun v : Int × (List Int) × Int × Int => rl_law33_QualityExact_l4 p4 p5 p6 p7 y32 v.1 v.2.1 v.2.2.1 v.2.2.2) (0, d.list, d.at_, d.state) = some (.inl t) ∧ DeckOk ⟨t.1, t.2.1, t.2.2⟩ := by
  obtain ⟨t, e1, u, rfl, h⟩ := loop_inv (step := fun v : Int × (List Int) × Int × Int => rl_law33_QualityExact_l4 p4 p5 p6 p7 y32 v.1 v.2.1 v.2.2.1 v.2.2.2) 5 (fun j s => s.1 = (j : Int) ∧ DeckOk ⟨s.2.1, s.2.2.1, s.2.2.2⟩) (fun t => ∃ u : (List Int) × Int × Int, t = .inl u ∧ DeckOk ⟨u.1, u.2.1, u.2.2⟩) (by
    rintro j hj ⟨k, a, b, c⟩ ⟨s1, s2⟩
    left
    simp only at s1 s2
    subst s1
    simp only [rl_law33_QualityExact_l4, rl_law33_QualityExact_k5]
    obtain ⟨E, hE⟩ : ∃ E, ([p4, y32, (⟨0, 0, 0⟩ : S_api_Estimate), (⟨0, 0, 4398046511104⟩ : S_api_Estimate), (⟨0, 4398046511105, 0⟩ : S_api_Estimate)] : List S_api_Estimate).getD (0 + (j : Int).toNat) dS_api_Estimate = E := ⟨_, rfl⟩
    rw [if_pos (by simp only [List.length_cons, List.length_nil, decide_eq_true_eq]; omega), if_pos (by omega), if_pos (by simp only [List.length_cons, List.length_nil]; omega), hE, prec_eq, rprec_eq, rec_eq, rrec_eq, bind2_eta, bind2_eta, bind2_eta, bind2_eta]
    simp only [bne_self]
    rw [if_neg (by decide), if_neg (by decide), partS_self EO.tf, bind1_pure, if_neg (by decide), partS_self EO.tm, bind1_pure, if_neg (by decide), qcheck_eq, rcheck_eq, bind1_pure, bind1_pure]
    simp only [bne_self]
    rw [if_neg (by decide)]
    obtain ⟨v, d2, he, v0, v1, hd2⟩ := next_yes s2 (n := 1001) (by decide) (by decide)
    rw [he]; clear he; first | rw [bind2_pure] | rw [bind3_pure] | rw [bind4_pure] | rw [bind1_pure]
    obtain ⟨w, d3, he, w0, w1, hd3⟩ := next_yes hd2 (n := 1001) (by decide) (by decide)
    rw [he]; clear he; first | rw [bind2_pure] | rw [bind3_pure] | rw [bind4_pure] | rw [bind1_pure]
    rw [l6_all, bindE_l]
    unfold rl_law33_QualityExact_a9 rl_law33_QualityExact_k8
    obtain ⟨r, e1, e2⟩ := add_same E p5
    obtain ⟨q, e3, e4⟩ := add_same E y32
    rw [hE, e1, e2, e3, e4, bind2_eta, bind2_eta, bind2_eta, bind2_eta, if_neg (est_self _), bne_self, if_neg (by decide), if_neg (est_self _), bne_self, if_neg (by decide), wi64 (n := (j : Int) + 1) (by omega) (by omega)]
    exact ⟨_, rfl, rfl, hd3⟩) (by
    rintro ⟨k, a, b, c⟩ ⟨s1, s2⟩
    simp only at s1 s2
    subst s1
    simp only [rl_law33_QualityExact_l4]
    rw [if_neg (by simp)]
    exact ⟨_, rfl, _, rfl, s2⟩) (s := (0, d.list, d.at_, d.state)) ⟨rfl, hd⟩
  exact ⟨u, e1, h⟩
theorem qexact_law (p : List Int) (m : S_api_Model) (linked others : List S_api_Candidate) (raw more : S_api_Estimate) (precision recall : Int) : rl_law33_QualityExact p m linked others raw more precision recall = some true := by
  have no : rl_law33_QualityExact_k1 p m linked others raw more precision recall true = some true := by
    unfold rl_law33_QualityExact_k1
    rw [if_pos rfl, awake33]; rfl
  unfold rl_law33_QualityExact rl_make_Few
  rw [awake33, bind1_pure, if_neg (by decide), bind1_pure]
  by_cases hp : p.length ≤ 400
  rotate_left
  · rw [decide_eq_false (by omega), if_pos (by decide), no]
  rw [decide_eq_true (by omega), if_neg (by decide)]
  have yes : rl_law33_QualityExact_k1 p m linked others raw more precision recall false = some true := by
    unfold rl_law33_QualityExact_k1
    rw [if_neg (by decide)]
    obtain ⟨d0, he, hd⟩ := new_yes hp
    rw [he]; clear he; first | rw [bind2_pure] | rw [bind3_pure] | rw [bind4_pure] | rw [bind1_pure]
    obtain ⟨x, d1, he, x0, x1, hd1⟩ := next_yes hd (n := 3) (by decide) (by decide)
    rw [he]; clear he; first | rw [bind2_pure] | rw [bind3_pure] | rw [bind4_pure] | rw [bind1_pure]
    obtain ⟨n, hn⟩ : ∃ n : Nat, 1 + x = n := ⟨(1 + x).toNat, by omega⟩
    have hw : IntKind.i64.wrap (1 + x) = (n : Int) := by rw [wi64 (n := 1 + x) (by omega) (by omega), hn]
    rw [hw]
    obtain ⟨cs, d2, he, c1, c2, hd2⟩ := cands_yes hd1 (n := n) (by omega) (by omega)
    rw [he]; clear he; first | rw [bind2_pure] | rw [bind3_pure] | rw [bind4_pure] | rw [bind1_pure]
    have hw2 : IntKind.i64.wrap ((cs.length : Int) + 1) = (cs.length : Int) + 1 := wi64 (by omega) (by omega)
    rw [hw2]
    obtain ⟨k, d3, he, k0, k1, hd3⟩ := next_yes hd2 (n := (cs.length : Int) + 1) (by omega) (by omega)
    rw [he]; clear he; first | rw [bind2_pure] | rw [bind3_pure] | rw [bind4_pure] | rw [bind1_pure]
    obtain ⟨own, d4, he, m1, hm, hd4⟩ := model_yes hd3 (n := n) (by omega) (by omega)
    rw [he]; clear he; first | rw [bind2_pure] | rw [bind3_pure] | rw [bind4_pure] | rw [bind1_pure]
    rw [if_pos k0, if_pos (by omega)]
    obtain ⟨t, e1, rfl⟩ := loop_inv (step := fun v : Int × (List Int) × Int × Int => rl_law33_QualityExact_l2 m linked others raw more precision recall cs k own v.1 v.2.1 v.2.2.1 v.2.2.2) 3 (fun j s => s.1 = (j : Int) ∧ DeckOk ⟨s.2.1, s.2.2.1, s.2.2.2⟩) (fun t => t = .inl ()) (by
      rintro i hi ⟨j, a, b, e⟩ ⟨z1, z2⟩
      left
      simp only at z1 z2
      subst z1
      simp only [rl_law33_QualityExact_l2]
      obtain ⟨Q, hQ⟩ : ∃ Q, ([(⟨m, linked, others⟩ : S_t35), (⟨own, linked, cs⟩ : S_t35), (⟨own, (cs.take k.toNat), ((cs.drop k.toNat).take (cs.length - k.toNat))⟩ : S_t35)] : List S_t35).getD (0 + (i : Int).toNat) dS_t35 = Q := ⟨_, rfl⟩
      obtain ⟨r, e1, e2⟩ := of_same Q.m Q.a Q.b
      rw [if_pos (by simp only [List.length_cons, List.length_nil, decide_eq_true_eq]; omega), if_pos (by omega), if_pos (by simp only [List.length_cons, List.length_nil]; omega), hQ, e1, e2, bind2_eta, bind2_eta, if_neg (est_self _), bne_self]
      unfold rl_law33_QualityExact_k3
      obtain ⟨u, e3, hu⟩ := l4_all raw more r.1 precision recall z2
      rw [if_neg (by decide), e3, bindE_l]
      unfold rl_law33_QualityExact_a11
      rw [wi64 (n := (i : Int) + 1) (by omega) (by omega)]
      exact ⟨_, rfl, rfl, hu⟩) (by
      rintro ⟨j, a, b, e⟩ ⟨z1, z2⟩
      simp only at z1 z2
      subst z1
      simp only [rl_law33_QualityExact_l2]
      rw [if_neg (by simp)]
      exact ⟨_, rfl, rfl⟩) (s := (0, d4.list, d4.at_, d4.state)) ⟨rfl, hd4⟩
    rw [e1, bindE_l]
    rfl
  split
  · exact no
  · generalize decide (IntKind.i64.wrap ((linked.length : Int) + (others.length : Int)) > 40) = t
    cases t
    · exact yes
    · exact no
end Go.Proofs.YtilpgjoidgfbiaaGreat
