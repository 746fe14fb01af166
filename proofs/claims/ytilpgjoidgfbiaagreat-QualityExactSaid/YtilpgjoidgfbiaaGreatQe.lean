/- The deck deals natural numbers. -/
import Derived.Test.YtilpgjoidgfbiaaGreatQd
import Derived.Test.YtilpgjoidgfbiaaGreatDk
namespace Go.Proofs.YtilpgjoidgfbiaaGreat
set_option linter.unusedVariables false
set_option linter.unusedSimpArgs false
open Vm
theorem trimN_of {xs : List Int} (hn : xs.length < 1000000) {step : Nat → Option (Nat ⊕ Nat)} (hs : ∀ x : Nat, x ≤ xs.length → step x = if 0 < x ∧ xs.getD (x - 1) 0 = 0 then some (.inl (x - 1)) else some (.inr x)) : ∃ m, loop step xs.length = some m ∧ m ≤ xs.length ∧ xs.take m = trimL xs := by
  refine loop_of (step := step) (fun x => x ≤ xs.length ∧ trimL (xs.take x) = trimL xs) (fun x => x) (fun t => t ≤ xs.length ∧ xs.take t = trimL xs) ?_ xs.length ⟨Nat.le_refl _, by rw [List.take_length]⟩
  rintro x ⟨hl, hx⟩
  have e := hs x hl
  by_cases c : 0 < x ∧ xs.getD (x - 1) 0 = 0
  · left
    rw [if_pos c] at e
    refine ⟨_, e, ⟨by omega, ?_⟩, by omega⟩
    rw [← hx]
    have := take_snoc 0 (l := xs) (i := x - 1) (by omega)
    rw [c.2, show x - 1 + 1 = x by omega] at this
    rw [this, trimL_snoc_zero]
  · right
    rw [if_neg c] at e
    refine ⟨_, e, hl, ?_⟩
    rw [← hx, trimL_self]
    unfold NoZ
    by_cases h0 : x = 0
    · left; rw [h0]; rfl
    · right
      rw [List.length_take, Nat.min_eq_left hl]
      intro h
      have e2 : xs.getD (x - 1) 0 = (xs.take x).getD (x - 1) 0 := by
        simp only [List.getD_eq_getElem?_getD]
        rw [List.getElem?_take_of_lt (by omega)]
      exact c ⟨by omega, e2.trans h⟩
theorem vn_nat {v : Int} {n : Nat} (h0 : 0 ≤ v) (hv : v < bp n) (hn : n ≤ 64) : VN (nat32 v) := ⟨Nat.le_trans (nat32_len_le h0 hv) hn, (nat32_canon h0).2⟩
theorem vn_iff {v : Int} (h0 : 0 ≤ v) : VN (nat32 v) ↔ v < bp 64 := by
  unfold VN
  rw [nat32_len h0]
  exact ⟨fun h => h.1, fun h => ⟨h, (nat32_canon h0).2⟩⟩
/-- sums and products of numbers that are known -/
theorem addS_nat {v w : Int} (hv : 0 ≤ v) (hw : 0 ≤ w) (h : v < bp 64) (h' : w < bp 64) : addS (nat32 v) (nat32 w) = limN (v + w) := by
  unfold addS
  rw [if_pos ⟨(vn_iff hv).2 h, (vn_iff hw).2 h'⟩, nat32_val hv, nat32_val hw]
theorem mulS_nat {v w : Int} (hv : 0 ≤ v) (hw : 0 ≤ w) (h : v < bp 64) (h' : w < bp 64) : mulS (nat32 v) (nat32 w) = limN (v * w) := by
  unfold mulS
  rw [if_pos ⟨(vn_iff hv).2 h, (vn_iff hw).2 h'⟩, nat32_val hv, nat32_val hw]
theorem nlen {v : Int} (hv : 0 ≤ v) (h : v < bp 64) : (nat32 v).length < 100000 := by have := nat32_len_le hv h; omega
theorem bp_lt {v : Int} {n : Nat} (hv : v < bp n) (hn : n ≤ 64) : v < bp 64 := by have := bp_le hn; omega
theorem bp_mul {v w : Int} {m n : Nat} (h0 : 0 ≤ v) (hv : v < bp m) (h1 : 0 ≤ w) (hw : w < bp n) : v * w < bp (m + n) := by
  rw [bp_add]
  have := bp_pos m
  calc v * w ≤ v * bp n := Int.mul_le_mul_of_nonneg_left (by omega) h0
    _ < bp m * bp n := Int.mul_lt_mul_of_pos_right hv (bp_pos _)
theorem bp_sum {v w : Int} {n : Nat} (hv : v < bp n) (hw : w < bp n) : v + w < bp (n + 1) := by
  simp only [bp]; have := bp_pos n; omega
theorem nadd {v w : Int} {m : Nat} (hv : 0 ≤ v) (hw : 0 ≤ w) (h : v < bp m) (h' : w < bp m) (hm : m + 1 ≤ 64) : natural_Add (nat32 v) (nat32 w) = some (nat32 (v + w), 0) := by
  have h1 := bp_lt h (show m ≤ 64 by omega)
  have h2 := bp_lt h' (show m ≤ 64 by omega)
  have h3 := bp_lt (bp_sum h h') hm
  rw [natural_add_eq (nat32_u32 hv) (nat32_u32 hw) (nlen hv h1) (nlen hw h2), addS_nat hv hw h1 h2, limN, if_pos h3]
theorem nmul {v w : Int} {m n : Nat} (hv : 0 ≤ v) (hw : 0 ≤ w) (h : v < bp m) (h' : w < bp n) (hm : m + n ≤ 64) : natural_Mul (nat32 v) (nat32 w) = some (nat32 (v * w), 0) := by
  have h1 := bp_lt h (show m ≤ 64 by omega)
  have h2 := bp_lt h' (show n ≤ 64 by omega)
  have h3 := bp_lt (bp_mul hv h hw h') hm
  rw [natural_mul_eq (nat32_u32 hv) (nat32_u32 hw) (nlen hv h1) (nlen hw h2), mulS_nat hv hw h1 h2, limN, if_pos h3]
theorem nsame {v w : Int} (hv : 0 ≤ v) (hw : 0 ≤ w) (h : v < bp 64) : rl_ref10_Same (nat32 v) (nat32 w) = some (decide (v = w)) := by
  have := nlen hv h
  rw [same_eq (by omega)]
  congr 1
  exact decide_eq_decide.2 (nat32_inj hv hw)
end Go.Proofs.YtilpgjoidgfbiaaGreat
