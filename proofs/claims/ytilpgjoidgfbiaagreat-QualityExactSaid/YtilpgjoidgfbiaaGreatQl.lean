/- Natural numbers: the greatest common divisor. -/
import Derived.Test.YtilpgjoidgfbiaaGreatQe
import Derived.Test.YtilpgjoidgfbiaaGreatQk
namespace Go.Proofs.YtilpgjoidgfbiaaGreat
set_option linter.unusedVariables false
set_option linter.unusedSimpArgs false
open Vm
def gcdI (a b : Int) : Int := ((Nat.gcd a.toNat b.toNat : Nat) : Int)
theorem gcdI_nonneg (a b : Int) : 0 ≤ gcdI a b := Int.natCast_nonneg _
theorem gcdI_zero {a : Int} (h : 0 ≤ a) : gcdI a 0 = a := by unfold gcdI; simp; omega
theorem gcdI_step {a b : Int} (ha : 0 ≤ a) (hb : 0 < b) : gcdI b (a % b) = gcdI a b := by
  unfold gcdI
  congr 1
  rw [Int.toNat_emod ha (Int.le_of_lt hb), Nat.gcd_comm, ← Nat.gcd_rec, Nat.gcd_comm]
theorem gcdI_le {a b : Int} (ha : 0 ≤ a) (hb : 0 ≤ b) : gcdI a b ≤ max a b := by
  unfold gcdI
  by_cases h : b = 0
  · subst h; simp
  · have := Nat.gcd_le_right a.toNat (n := b.toNat) (by omega)
    omega
theorem gcd_loop {a b : List Int} (ha : Canon a) (hb : Canon b) (la : a.length ≤ 1000) (lb : b.length ≤ 1000) : loop (fun v : List Int × List Int => natural_GCD_l1 v.1 v.2) (a, b) = some (nat32 (gcdI (val a) (val b))) := by
  obtain ⟨t, h1, h2⟩ := loop_of (step := fun v : List Int × List Int => natural_GCD_l1 v.1 v.2) (fun v => Canon v.1 ∧ Canon v.2 ∧ v.1.length ≤ 1000 ∧ v.2.length ≤ 1000 ∧ gcdI (val v.1) (val v.2) = gcdI (val a) (val b)) (fun v => (val v.2).toNat) (fun t => t = nat32 (gcdI (val a) (val b))) (by
    rintro ⟨x, y⟩ ⟨g1, g2, g3, g4, g5⟩
    simp only at g1 g2 g3 g4 g5
    have v1 := val_nonneg g1.1
    simp only [natural_GCD_l1]
    by_cases c : y = []
    · right
      subst c
      refine ⟨x, by rw [if_neg (by simp)], ?_⟩
      rw [← g5]
      simp only [val]
      rw [gcdI_zero v1, nat32_of g1]
    · left
      have hp := g2.pos c
      have hlen : 0 < y.length := by
        cases y with
        | nil => exact absurd rfl c
        | cons _ _ => simp
      have r0 := Int.emod_nonneg (val x) (show val y ≠ 0 by omega)
      have r1 := Int.emod_lt_of_pos (val x) hp
      have hy := val_lt g2.1
      rw [if_pos (by simp; omega), divide_eq g1 g2 c (by omega) (by omega), bind2_pure, clone32_eq (by omega), bind1_pure]
      refine ⟨_, rfl, ⟨g2, nat32_canon r0, g4, ?_, ?_⟩, ?_⟩
      · have := nat32_len_le r0 (show val x % val y < bp y.length by omega)
        simp only; omega
      · simp only
        rw [nat32_val r0, gcdI_step v1 hp, g5]
      · simp only
        rw [nat32_val r0]; omega) (a, b) ⟨ha, hb, la, lb, rfl⟩
  rw [h1, h2]
def gcdS (a b : List Int) : List Int × Int := if VN a ∧ VN b then (nat32 (gcdI (val a) (val b)), 0) else ([], 20)
theorem natural_gcd_eq {a b : List Int} (ha : U32 a) (hb : U32 b) (la : a.length < 100000) (lb : b.length < 100000) : natural_GCD a b = some (gcdS a b) := by
  unfold natural_GCD gcdS
  rw [natural_both_eq (by omega) (by omega), bind1_pure, clone32_eq (by omega), bind1_pure]
  by_cases h : VN a ∧ VN b
  · have h1 := h.1.1
    have h2 := h.2.1
    rw [if_pos h, if_neg (by simp), if_pos h, gcd_loop (h.1.canon ha) (h.2.canon hb) (by omega) (by omega), bind1_pure]
  · rw [if_neg h, if_pos (by simp), if_neg h]
theorem ngcd {v w : Int} (hv : 0 ≤ v) (hw : 0 ≤ w) (h : v < bp 64) (h' : w < bp 64) : natural_GCD (nat32 v) (nat32 w) = some (nat32 (gcdI v w), 0) := by
  rw [natural_gcd_eq (nat32_u32 hv) (nat32_u32 hw) (nlen hv h) (nlen hw h'), gcdS, if_pos ⟨(vn_iff hv).2 h, (vn_iff hw).2 h'⟩, nat32_val hv, nat32_val hw]
theorem ndivmod {v w : Int} (hv : 0 ≤ v) (hw : 0 < w) (h : v < bp 64) (h' : w < bp 64) : natural_DivMod (nat32 v) (nat32 w) = some (nat32 (v / w), nat32 (v % w), 0) := by
  rw [natural_divmod_eq (nat32_u32 hv) (nat32_u32 (by omega)) (nlen hv h) (nlen (by omega) h'), divS, if_pos ⟨(vn_iff hv).2 h, (vn_iff (by omega)).2 h'⟩, if_neg (fun e => by have := (nat32_nil (by omega)).1 e; omega), nat32_val hv, nat32_val (by omega)]
end Go.Proofs.YtilpgjoidgfbiaaGreat
