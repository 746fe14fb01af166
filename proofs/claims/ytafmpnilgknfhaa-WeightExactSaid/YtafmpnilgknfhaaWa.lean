/- Plain: the logarithm of a quotient of two small numbers. -/
import Derived.Test.YtafmpnilgknfhaaWl
import Derived.Test.YtafmpnilgknfhaaQr
namespace Go.Proofs.Ytafmpnilgknfhaa
open Vm
set_option linter.unusedVariables false
theorem bigS_len : ∀ i : Fin 256, i.val = 0 ∨ (1 ≤ (bigS0.data.toList.getD i.val 0).toNat ∧ (bigS0.data.toList.getD i.val 0).toNat ≤ 8 ∧ 2 ^ ((bigS0.data.toList.getD i.val 0).toNat - 1) ≤ i.val ∧ i.val < 2 ^ (bigS0.data.toList.getD i.val 0).toNat) := by decide +kernel
theorem wu8 {n : Int} (h0 : 0 ≤ n) (h1 : n < 256) : IntKind.u8.wrap n = n := by
  simp only [IntKind.wrap, IntKind.bits, IntKind.signed]
  simp
  omega
/-- s is the number of binary digits of v. -/
def BL (v s : Nat) : Prop := 1 ≤ s ∧ 2 ^ (s - 1) ≤ v ∧ v < 2 ^ s
theorem BL.scale {m r L off : Nat} (h : BL m L) (hr : r < 2 ^ off) : BL (m * 2 ^ off + r) (off + L) := by
  obtain ⟨h1, h2, h3⟩ := h
  refine ⟨by omega, ?_, ?_⟩
  · rw [show off + L - 1 = (L - 1) + off by omega, Nat.pow_add]
    have := Nat.mul_le_mul_right (2 ^ off) h2
    omega
  · rw [Nat.add_comm off L, Nat.pow_add]
    have := Nat.mul_le_mul_right (2 ^ off) (show m + 1 ≤ 2 ^ L from h3)
    rw [Nat.add_mul] at this
    omega
theorem len32_eq {x : Nat} (h0 : 1 ≤ x) (h1 : x < 4294967296) : ∃ s : Nat, bits_Len32 (x : Int) = some (s : Int) ∧ s ≤ 32 ∧ BL x s := by
  have key : ∀ (off m : Nat), off ≤ 24 → 1 ≤ m → m < 256 → (∃ r : Nat, r < 2 ^ off ∧ x = m * 2 ^ off + r) → ∃ s : Nat, bits_Len32_k2 (m : Int) (off : Int) = some (s : Int) ∧ s ≤ 32 ∧ BL x s := by
    intro off m ho y0 y1 ⟨r, r1, hx⟩
    have ht : m = 0 ∨ (1 ≤ (bigS0.data.toList.getD m 0).toNat ∧ (bigS0.data.toList.getD m 0).toNat ≤ 8 ∧ 2 ^ ((bigS0.data.toList.getD m 0).toNat - 1) ≤ m ∧ m < 2 ^ (bigS0.data.toList.getD m 0).toNat) := bigS_len ⟨m, by omega⟩
    have hsz : bigS0.size = 256 := by decide +kernel
    unfold bits_Len32_k2
    rw [wu8 (by omega) (by omega), if_pos (by omega), if_pos (by rw [hsz]; omega), bind1_pure, Int.toNat_natCast]
    generalize (bigS0.data.toList.getD m 0).toNat = L at *
    obtain ⟨l1, l2, l3, l4⟩ : 1 ≤ L ∧ L ≤ 8 ∧ 2 ^ (L - 1) ≤ m ∧ m < 2 ^ L := by
      rcases ht with h | h
      · omega
      · exact h
    rw [wi64 (n := (L : Int)) (by omega) (by omega), wi64 (n := (off : Int) + L) (by omega) (by omega)]
    exact ⟨off + L, rfl, by omega, by rw [hx]; exact BL.scale ⟨l1, l3, l4⟩ r1⟩
  unfold bits_Len32
  by_cases a : 65536 ≤ (x : Int)
  · rw [if_pos (by simpa using a), show ishr .u32 (x : Int) 16 = ((x / 65536 : Nat) : Int) from ishr_eq .u32 (s := 16) (by decide)]
    unfold bits_Len32_k1
    by_cases b : 256 ≤ ((x / 65536 : Nat) : Int)
    · rw [if_pos (by simpa using b), show ishr .u32 ((x / 65536 : Nat) : Int) 8 = ((x / 65536 / 256 : Nat) : Int) from ishr_eq .u32 (s := 8) (by decide), show IntKind.i64.wrap (16 + 8) = ((24 : Nat) : Int) by decide]
      exact key 24 _ (by decide) (by omega) (by omega) ⟨x % 16777216, by omega, by omega⟩
    · rw [if_neg (by simpa using b)]
      exact key 16 _ (by decide) (by omega) (by omega) ⟨x % 65536, by omega, by omega⟩
  · rw [if_neg (by simpa using a)]
    unfold bits_Len32_k1
    by_cases b : 256 ≤ (x : Int)
    · rw [if_pos (by simpa using b), show ishr .u32 (x : Int) 8 = ((x / 256 : Nat) : Int) from ishr_eq .u32 (s := 8) (by decide), show IntKind.i64.wrap (0 + 8) = ((8 : Nat) : Int) by decide]
      exact key 8 _ (by decide) (by omega) (by omega) ⟨x % 256, by omega, by omega⟩
    · rw [if_neg (by simpa using b)]
      exact key 0 _ (by decide) (by omega) (by omega) ⟨0, by omega, by simp⟩
/-- The last digit, and the others. -/
theorem val_last {l : List Int} (hu : U32 l) (hl : 0 < l.length) : ∃ r, 0 ≤ r ∧ r < bp (l.length - 1) ∧ val l = l.getD (l.length - 1) 0 * bp (l.length - 1) + r := by
  have h := val_split l (i := l.length - 1) (by omega)
  have hd := val_drop (l := l) (i := l.length - 1) (by omega)
  have hz := val_drop_zero (l := l) (i := l.length) (Nat.le_refl _)
  rw [show l.length - 1 + 1 = l.length by omega] at hd
  refine ⟨val (l.take (l.length - 1)), val_nonneg (hu.take _), ?_, ?_⟩
  · have := val_lt (hu.take (l.length - 1))
    rw [List.length_take, Nat.min_eq_left (by omega)] at this
    exact this
  · rw [h, hd, hz, Int.mul_zero, Int.add_zero, Int.mul_comm (bp (l.length - 1)), Int.add_comm]
theorem bp_pow (n : Nat) : bp n = ((2 ^ (32 * n) : Nat) : Int) := by
  induction n with
  | zero => rfl
  | succ n ih =>
    have : (2 : Nat) ^ (32 * (n + 1)) = 4294967296 * 2 ^ (32 * n) := by rw [show 32 * (n + 1) = 32 + 32 * n by omega, Nat.pow_add]
    rw [this, Int.natCast_mul, ← ih]
    rfl
theorem length_eq {v : Nat} (h0 : 0 < v) (h1 : (v : Int) < bp 64) : ∃ s : Nat, weight_length (nat32 (v : Int)) = some (s : Int) ∧ BL v s := by
  unfold weight_length
  have v0 : (0 : Int) ≤ v := Int.natCast_nonneg _
  have hne : nat32 (v : Int) ≠ [] := fun h => by have := (nat32_nil v0).1 h; omega
  have hl : 0 < (nat32 (v : Int)).length := by cases hq : nat32 (v : Int) with | nil => exact absurd hq hne | cons => simp
  have hl2 := nat32_len_le v0 h1
  have hc := nat32_canon v0
  have hv := nat32_val v0
  have hnz : (nat32 (v : Int)).getD ((nat32 (v : Int)).length - 1) 0 ≠ 0 := by
    rcases hc.2 with h | h
    · exact absurd h hne
    · exact h
  obtain ⟨r, r0, r1, hr⟩ := val_last hc.1 hl
  rw [hv] at hr
  have hg := hc.1.get ((nat32 (v : Int)).length - 1)
  generalize nat32 (v : Int) = l at *
  rw [if_neg (by simp; exact hne), wi64 (n := (l.length : Int) - 1) (by omega) (by omega), if_pos (by omega), if_pos (by omega), show ((l.length : Int) - 1).toNat = l.length - 1 by omega]
  obtain ⟨m, hm⟩ := Int.eq_ofNat_of_zero_le hg.1
  rw [hm] at hnz hg hr ⊢
  obtain ⟨s, e1, e2, e3⟩ := len32_eq (x := m) (by omega) (by omega)
  rw [e1, bind1_pure, wi64 (n := 32 * ((l.length : Int) - 1)) (by omega) (by omega), bind1_pure, wi64 (by omega) (by omega)]
  obtain ⟨q, rfl⟩ := Int.eq_ofNat_of_zero_le r0
  rw [bp_pow] at hr r1
  refine ⟨32 * (l.length - 1) + s, by congr 1; omega, ?_⟩
  have : v = m * 2 ^ (32 * (l.length - 1)) + q := by exact_mod_cast hr
  rw [this]
  exact BL.scale e3 (by omega)
end Go.Proofs.Ytafmpnilgknfhaa
