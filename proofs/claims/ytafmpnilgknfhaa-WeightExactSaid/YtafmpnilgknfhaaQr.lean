/- Natural numbers: powers. -/
import Derived.Test.YtafmpnilgknfhaaQe
namespace Go.Proofs.Ytafmpnilgknfhaa
set_option linter.unusedVariables false
set_option linter.unusedSimpArgs false
open Vm
theorem pow_more {v : Int} (h : 1 ≤ v) (a k : Nat) : v ^ a ≤ v ^ (a + k) := by
  induction k with
  | zero => exact Int.le_refl _
  | succ k ih =>
    rw [← Nat.add_assoc, Int.pow_succ]
    have h0 : 0 ≤ v ^ (a + k) := Int.pow_nonneg (by omega)
    have : v ^ (a + k) * 1 ≤ v ^ (a + k) * v := Int.mul_le_mul_of_nonneg_left h h0
    omega
def powS (a : List Int) (n : Int) : List Int × Int := if VN a then (if n < 0 ∨ n > 4096 then ([], 2) else limN (val a ^ n.toNat)) else ([], 20)
theorem pow_loop {step : List Int × Int → Option ((List Int × Int) ⊕ (List Int ⊕ Unit))} {v : Int} (hv : 0 ≤ v) (hv1 : v < bp 64) {n : Nat} (hn : n ≤ 4096)
    (hs : ∀ (x i : Int), 0 ≤ x → x < bp 64 → 0 ≤ i → step (nat32 x, i) = if i < n then (if x * v < bp 64 then some (.inl (nat32 (x * v), IntKind.i64.wrap (i + 1))) else some (.inr (.inr ()))) else some (.inr (.inl (nat32 x)))) :
    loop step ([1], 0) = if v ^ n < bp 64 then some (.inl (nat32 (v ^ n))) else some (.inr ()) := by
  obtain ⟨t, h1, h2⟩ := loop_inv (step := step) n (fun i s => s = (nat32 (v ^ i), (i : Int)) ∧ v ^ i < bp 64) (fun t => (v ^ n < bp 64 ∧ t = .inl (nat32 (v ^ n))) ∨ (bp 64 ≤ v ^ n ∧ t = .inr ())) (fun i hi => by
    rintro s ⟨rfl, hlt⟩
    have h0 : 0 ≤ v ^ i := Int.pow_nonneg hv
    rw [hs _ _ h0 hlt (by omega), if_pos (by omega), ← Int.pow_succ]
    by_cases c : v ^ (i + 1) < bp 64
    · left
      rw [if_pos c, wi64 (by omega) (by omega)]
      exact ⟨_, rfl, rfl, c⟩
    · right
      rw [if_neg c]
      refine ⟨_, rfl, .inr ⟨?_, rfl⟩⟩
      have hv2 : 1 ≤ v := by
        by_cases h : v = 0
        · exfalso
          rw [h, Int.pow_succ, Int.mul_zero] at c
          have := bp_pos 64
          omega
        · omega
      have := pow_more hv2 (i + 1) (n - (i + 1))
      rw [show i + 1 + (n - (i + 1)) = n by omega] at this
      omega) (by
    rintro s ⟨rfl, hlt⟩
    rw [hs _ _ (Int.pow_nonneg hv) hlt (by omega), if_neg (by omega)]
    exact ⟨_, rfl, .inl ⟨hlt, rfl⟩⟩) (s := ([1], 0)) ⟨by rw [Int.pow_zero]; rfl, by rw [Int.pow_zero]; decide +kernel⟩
  rw [h1]
  rcases h2 with ⟨h2, h3⟩ | ⟨h2, h3⟩
  · rw [if_pos h2, h3]
  · rw [if_neg (by omega), h3]
theorem natural_power_eq {a : List Int} (ha : U32 a) (la : a.length < 100000) (n : Int) : natural_Power a n = some (powS a n) := by
  unfold natural_Power powS
  rw [natural_valid_eq (by omega), bind1_pure]
  by_cases h : VN a
  · have hc := h.canon ha
    have v0 := val_nonneg ha
    have v1 : val a < bp 64 := by have := val_lt ha; have := bp_le h.1; omega
    rw [decide_eq_true h, if_neg (by simp), if_pos h]
    unfold natural_Power_k1
    by_cases c1 : n < 0
    · rw [if_pos (by simpa using c1), if_pos rfl, if_pos (.inl c1)]
    · rw [if_neg (by simpa using c1)]
      by_cases c2 : n > 4096
      · rw [decide_eq_true c2, if_pos rfl, if_pos (.inr c2)]
      · rw [decide_eq_false c2, if_neg (by simp), if_neg (show ¬ (n < 0 ∨ n > 4096) by omega)]
        have main : natural_Power_k2 a n false = some (limN (val a ^ n.toNat)) := by
          unfold natural_Power_k2
          rw [if_neg (by simp), natural_compare_eq ha (U32.cons (by decide) U32.nil) (by omega) (by simp), bind1_pure, show val [1] = 1 from rfl]
          by_cases c3 : val a = 1
          · have : ordI (val a) 1 = 0 := ordI_zero.2 c3
            rw [this, if_pos (by simp), c3, Int.one_pow]
            unfold limN
            rw [if_pos (by decide +kernel)]
            rfl
          · have : ¬ ordI (val a) 1 = 0 := fun h => c3 (ordI_zero.1 h)
            rw [if_neg (by simpa using this)]
            have hl := pow_loop (step := fun v : List Int × Int => natural_Power_l3 a n v.1 v.2) v0 v1 (n := n.toNat) (by omega) (fun x i x0 x1 i0 => by
              simp only [natural_Power_l3]
              by_cases c : i < n
              · have xl := nat32_len_le x0 x1
                have p0 := Int.mul_nonneg x0 v0
                have p1 := nat32_len_le p0 (bp_mul x0 x1 v0 v1)
                rw [if_pos (by simpa using c), if_pos (by omega), natural_times_eq (nat32_u32 x0) ha (by omega) (by omega), bind1_pure, nat32_val x0, natural_valid_eq (by omega), bind1_pure]
                by_cases c4 : x * val a < bp 64
                · rw [decide_eq_true ((vn_iff p0).2 c4), if_neg (by simp), if_pos c4]
                · rw [decide_eq_false (fun h => c4 ((vn_iff p0).1 h)), if_pos (by simp), if_neg c4]
              · rw [if_neg (by simpa using c), if_neg (by omega)])
            rw [hl]
            unfold limN
            by_cases c5 : val a ^ n.toNat < bp 64
            · rw [if_pos c5, if_pos c5, bindE_l]; rfl
            · rw [if_neg c5, if_neg c5, bindE_r]; rfl
        by_cases c3 : a = []
        · subst c3
          rw [if_pos (by simp)]
          by_cases c4 : n > 0
          · rw [decide_eq_true c4]
            unfold natural_Power_k2
            rw [if_pos rfl]
            obtain ⟨m, hm⟩ : ∃ m, n.toNat = m + 1 := ⟨n.toNat - 1, by omega⟩
            simp only [val]
            rw [hm, Int.pow_succ, Int.mul_zero]
            unfold limN
            rw [if_pos (bp_pos 64)]
            rfl
          · rw [decide_eq_false c4]; exact main
        · have hal : a.length ≠ 0 := fun e => c3 (List.length_eq_zero_iff.1 e)
          rw [if_neg (by simp only [beq_iff_eq]; omega)]; exact main
  · rw [decide_eq_false h, if_pos (by simp), if_neg h]
theorem ref10_power_eq {a : List Int} (ha : U32 a) (la : a.length < 100000) (n : Int) : rl_ref10_Power a n = some (powS a n) := by
  unfold rl_ref10_Power powS
  rw [rl_ref10_valid_eq (by omega), bind1_pure]
  by_cases h : VN a
  · have hc := h.canon ha
    have v0 := val_nonneg ha
    have v1 : val a < bp 64 := by have := val_lt ha; have := bp_le h.1; omega
    rw [decide_eq_true h, if_neg (by simp), if_pos h]
    unfold rl_ref10_Power_k1
    by_cases c1 : n < 0
    · rw [if_pos (by simpa using c1), if_pos rfl, if_pos (.inl c1)]
    · rw [if_neg (by simpa using c1)]
      by_cases c2 : n > 4096
      · rw [decide_eq_true c2, if_pos rfl, if_pos (.inr c2)]
      · rw [decide_eq_false c2, if_neg (by simp), if_neg (show ¬ (n < 0 ∨ n > 4096) by omega)]
        have hl := pow_loop (step := fun v : List Int × Int => rl_ref10_Power_l2 a n v.1 v.2) v0 v1 (n := n.toNat) (by omega) (fun x i x0 x1 i0 => by
          simp only [rl_ref10_Power_l2]
          by_cases c : i < n
          · have xl := nat32_len_le x0 x1
            have p0 := Int.mul_nonneg x0 v0
            have p1 := nat32_len p0 (n := 64)
            rw [if_pos (by simpa using c), if_pos (by omega), ref10_product_eq (nat32_u32 x0) ha (by omega) (by omega), bind1_pure, nat32_val x0]
            by_cases c4 : x * val a < bp 64
            · have := p1.2 c4
              rw [if_neg (by simp only [decide_eq_true_eq]; omega), if_pos c4]
            · have : ¬ (nat32 (x * val a)).length ≤ 64 := fun h => c4 (p1.1 h)
              rw [if_pos (by simp only [decide_eq_true_eq]; omega), if_neg c4]
          · rw [if_neg (by simpa using c), if_neg (by omega)])
        rw [hl]
        unfold limN
        by_cases c5 : val a ^ n.toNat < bp 64
        · rw [if_pos c5, if_pos c5, bindE_l]; rfl
        · rw [if_neg c5, if_neg c5, bindE_r]; rfl
  · rw [decide_eq_false h, if_pos (by simp), if_neg h]
end Go.Proofs.Ytafmpnilgknfhaa
