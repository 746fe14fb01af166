/- Natural numbers: quotient and remainder. -/
import Derived.Test.YtilpgjoidgfbiaaGreatQj
namespace Go.Proofs.YtilpgjoidgfbiaaGreat
set_option linter.unusedVariables false
set_option linter.unusedSimpArgs false
open Vm
theorem Vm.Canon.pos {l : List Int} (h : Canon l) (hl : l ≠ []) : 0 < val l := by
  have := val_nonneg h.1
  rcases (show val l = 0 ∨ 0 < val l by omega) with e | e
  · exact absurd (h.zero e) hl
  · exact e
theorem divide_eq {a b : List Int} (ha : Canon a) (hb : Canon b) (hb0 : b ≠ []) (la : a.length < 50000) (lb : b.length < 40000) : natural_divide a b = some (nat32 (val a / val b), nat32 (val a % val b)) := by
  have va := val_nonneg ha.1
  have vb := hb.pos hb0
  unfold natural_divide
  rw [natural_compare_eq ha.1 hb.1 (by omega) (by omega), bind1_pure]
  by_cases hc : val a < val b
  · rw [if_pos (by simp only [decide_eq_true_eq]; exact ordI_neg.2 hc), clone32_eq (by omega), bind1_pure, Int.ediv_eq_zero_of_lt va hc, Int.emod_eq_of_lt va hc, nat32_of ha]
    rfl
  · rw [if_neg (by simp only [decide_eq_true_eq]; exact fun e => hc (ordI_neg.1 e))]
    have hlb : 1 ≤ b.length := by
      cases b with
      | nil => exact absurd rfl hb0
      | cons _ _ => simp
    have hlab : b.length ≤ a.length := by
      have := hb.len_le (n := a.length)
      have := val_lt ha.1
      omega
    have htop : b.getD (b.length - 1) 0 ≠ 0 := by
      rcases hb.2 with h | h
      · exact absurd h hb0
      · exact h
    have hg := hb.1.get (b.length - 1)
    obtain ⟨k, k1, k2, k3, k4⟩ := lz_eq (x := b.getD (b.length - 1) 0) (by omega) hg.2
    obtain ⟨A, a1, a2, a3, a4, a5⟩ := shift_eq ha.1 (by omega) k2
    obtain ⟨B, b1, b2, b3, b4, b5⟩ := shift_eq hb.1 (by omega) k2
    have hp := pow_le31 k2
    have hbs := val_split b (i := b.length - 1) (by omega)
    have hbd := val_drop (l := b) (i := b.length - 1) (by omega)
    rw [val_drop_zero (l := b) (i := b.length - 1 + 1) (by omega)] at hbd
    have hba := val_nonneg (hb.1.take (b.length - 1))
    have hbb := val_lt (hb.1.take (b.length - 1))
    rw [List.length_take, Nat.min_eq_left (by omega)] at hbb
    rw [hbd] at hbs
    have hbp : bp b.length = 4294967296 * bp (b.length - 1) := by rw [show b.length = (b.length - 1) + 1 by omega]; rfl
    have hb1p := bp_pos (b.length - 1)
    generalize hpk : ((2 ^ k : Nat) : Int) = p at *
    generalize htt : b.getD (b.length - 1) 0 = t at *
    have hDlo : 2147483648 * bp (b.length - 1) ≤ val B := by
      have h1 : (t * p) * bp (b.length - 1) ≤ val B := by
        rw [b4, hbs]
        have := Int.mul_nonneg hba (show 0 ≤ p by omega)
        have e : (val (b.take (b.length - 1)) + bp (b.length - 1) * (t + 4294967296 * 0)) * p = val (b.take (b.length - 1)) * p + t * p * bp (b.length - 1) := by grind
        rw [e]; omega
      have h2 : 2147483648 * bp (b.length - 1) ≤ (t * p) * bp (b.length - 1) := Int.mul_le_mul_of_nonneg_right k3 (Int.le_of_lt hb1p)
      omega
    have hDhi : val B < bp b.length := by
      have h1 : (val (b.take (b.length - 1)) + 1) * p ≤ bp (b.length - 1) * p := Int.mul_le_mul_of_nonneg_right (by omega) (by omega)
      have h2 : (t * p + p) * bp (b.length - 1) ≤ 4294967296 * bp (b.length - 1) := by
        apply Int.mul_le_mul_of_nonneg_right _ (Int.le_of_lt hb1p)
        have h3 : (t + 1) * p ≤ 4294967296 := by
          have hpp := pow_part k2
          rw [hpk] at hpp
          have h4 : t < ((2 ^ (32 - k) : Nat) : Int) := by
            rcases Int.lt_or_le t ((2 ^ (32 - k) : Nat) : Int) with h | h
            · exact h
            · have := Int.mul_le_mul_of_nonneg_right h (show 0 ≤ p by omega); omega
          have := Int.mul_le_mul_of_nonneg_right (show t + 1 ≤ ((2 ^ (32 - k) : Nat) : Int) by omega) (show 0 ≤ p by omega)
          omega
        rw [Int.add_mul] at h3; omega
      have e : val B = val (b.take (b.length - 1)) * p + t * p * bp (b.length - 1) := by rw [b4, hbs]; grind
      have e1 : (val (b.take (b.length - 1)) + 1) * p = val (b.take (b.length - 1)) * p + p := by grind
      have e2 : bp (b.length - 1) * p = p * bp (b.length - 1) := Int.mul_comm _ _
      have e3 : (t * p + p) * bp (b.length - 1) = t * p * bp (b.length - 1) + p * bp (b.length - 1) := by grind
      rw [hbp]
      omega
    have hB0 := val_nonneg b2
    have hcan := nat32_canon hB0
    have hvd := nat32_val hB0
    have hdl : (nat32 (val B)).length = b.length := by
      have h1 := (nat32_len hB0 (n := b.length)).2 hDhi
      have h2 : ¬ (nat32 (val B)).length ≤ b.length - 1 := by
        rw [nat32_len hB0]; omega
      omega
    have hdt : 2147483648 ≤ (nat32 (val B)).getD ((nat32 (val B)).length - 1) 0 := by
      have hs := val_split (nat32 (val B)) (i := (nat32 (val B)).length - 1) (by omega)
      have hd := val_drop (l := nat32 (val B)) (i := (nat32 (val B)).length - 1) (by omega)
      rw [val_drop_zero (l := nat32 (val B)) (i := (nat32 (val B)).length - 1 + 1) (by omega)] at hd
      have hlt := val_lt (hcan.1.take ((nat32 (val B)).length - 1))
      rw [List.length_take, Nat.min_eq_left (by omega)] at hlt
      rw [hd, hvd] at hs
      rw [hdl] at hs hlt ⊢
      generalize (nat32 (val B)).getD (b.length - 1) 0 = y at *
      rcases Int.lt_or_le y 2147483648 with h | h
      · have : bp (b.length - 1) * (y + 1) ≤ bp (b.length - 1) * 2147483648 := Int.mul_le_mul_of_nonneg_left (by omega) (Int.le_of_lt hb1p)
        rw [Int.mul_add] at this
        rw [show y + 4294967296 * 0 = y by omega] at hs
        omega
      · exact h
    have hlow : val (A.drop (a.length + 1 - b.length)) < val B := by
      have e2 := val_split (A.drop (a.length + 1 - b.length)) (i := b.length - 1) (by rw [List.length_drop]; omega)
      rw [List.drop_drop, show a.length + 1 - b.length + (b.length - 1) = a.length by omega, val_drop (l := A) (i := a.length) (by omega), val_drop_zero (l := A) (i := a.length + 1) (by omega)] at e2
      have hlt := val_lt ((a2.drop (a.length + 1 - b.length)).take (b.length - 1))
      rw [List.length_take, List.length_drop, Nat.min_eq_left (by omega)] at hlt
      generalize A.getD a.length 0 = y at *
      have : bp (b.length - 1) * (y + 1) ≤ bp (b.length - 1) * 2147483648 := Int.mul_le_mul_of_nonneg_left (by omega) (Int.le_of_lt hb1p)
      rw [Int.mul_add] at this
      rw [show y + 4294967296 * 0 = y by omega] at e2
      omega
    have hw : IntKind.i64.wrap (((b.length : Nat) : Int) - 1) = ((b.length : Nat) : Int) - 1 := wi64 (by omega) (by omega)
    have hw2 : IntKind.i64.wrap (((A.length : Nat) : Int) - ((b.length : Nat) : Int)) = ((a.length + 1 - b.length : Nat) : Int) := by rw [wi64 (by omega) (by omega)]; omega
    obtain ⟨N, q, n1, n2, n3, n4, n5, n6, n7⟩ := div_loop (d := nat32 (val B)) (N0 := A) (m := a.length + 1 - b.length) hcan.1 (by omega) hdt (by omega) a2 (by omega) (by omega) (by rw [hvd]; exact hlow) A rfl
    rw [hdl] at n1
    rw [hw, if_pos (by omega), if_pos (by omega), show (((b.length : Nat) : Int) - 1).toNat = b.length - 1 by omega, htt, k1, bind1_pure, a1, bind1_pure, b1, bind1_pure, natural_trim_eq (by omega), bind1_pure, trimL_nat b2, hdl, hw, if_pos (by omega), if_pos (by omega), show (((b.length : Nat) : Int) - 1).toNat = b.length - 1 by omega]
    have hgt := hcan.1.get (b.length - 1)
    rw [wu64 (n := (nat32 (val B)).getD (b.length - 1) 0) (by omega) (by omega), bind1_pure, hw2, if_pos (by omega), if_pos (by omega), Int.toNat_natCast, List.length_replicate, wi64 (n := ((a.length + 1 - b.length : Nat) : Int) - 1) (by omega) (by omega), bind1_pure, n1, bind2_pure]
    rw [natural_trim_eq (by omega), bind1_pure, List.take_of_length_le (by omega), natural_trim_eq (by omega), bind1_pure, if_pos (by omega), trimL_nat n4, trimL_nat n2]
    have hv0 := val_nonneg n2
    have hq0 := val_nonneg n4
    rw [back_eq (nat32_u32 hv0) (by have := nat32_len_le hv0 (val_lt n2); omega) k2, hpk, bind1_pure, nat32_val hv0]
    rw [hvd] at n6 n7
    rw [a4, b4] at n6
    rw [b4] at n7
    have hdm : val a = val q * val b + val N / p ∧ 0 ≤ val N / p ∧ val N / p < val b := by
      have e1 : val N = (val a - val b * val q) * p := by grind
      have e2 : val N / p = val a - val b * val q := by rw [e1]; exact Int.mul_ediv_cancel _ (by omega)
      refine ⟨by rw [e2]; grind, Int.ediv_nonneg hv0 (by omega), ?_⟩
      exact Int.ediv_lt_of_lt_mul (by omega) n7
    have hq : val a / val b = val q := by
      rw [hdm.1, Int.add_comm, Int.add_mul_ediv_right _ _ (by omega), Int.ediv_eq_zero_of_lt hdm.2.1 hdm.2.2]; omega
    have hr : val a % val b = val N / p := by
      rw [hdm.1, Int.add_comm, Int.add_mul_emod_self_right, Int.emod_eq_of_lt hdm.2.1 hdm.2.2]
    rw [hq, hr]
def divS (a b : List Int) : List Int × List Int × Int := if VN a ∧ VN b then (if b = [] then ([], [], 9) else (nat32 (val a / val b), nat32 (val a % val b), 0)) else ([], [], 20)
theorem natural_divmod_eq {a b : List Int} (ha : U32 a) (hb : U32 b) (la : a.length < 100000) (lb : b.length < 100000) : natural_DivMod a b = some (divS a b) := by
  unfold natural_DivMod divS
  rw [natural_both_eq (by omega) (by omega), bind1_pure]
  by_cases h : VN a ∧ VN b
  · rw [if_pos h, if_neg (by simp), if_pos h]
    by_cases hb0 : b = []
    · subst hb0; rw [if_pos (by simp), if_pos rfl]
    · have : b.length ≠ 0 := fun e => hb0 (List.length_eq_zero_iff.1 e)
      have h1 := h.1.1
      have h2 := h.2.1
      rw [if_neg (by simp only [beq_iff_eq]; omega), if_neg hb0, divide_eq (h.1.canon ha) (h.2.canon hb) hb0 (by omega) (by omega), bind2_pure]
  · rw [if_neg h, if_pos (by simp), if_neg h]
end Go.Proofs.YtilpgjoidgfbiaaGreat
