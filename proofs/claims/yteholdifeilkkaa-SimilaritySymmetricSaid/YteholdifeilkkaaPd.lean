/- Similarities of single words: the plain law. -/
import Derived.Test.YteholdifeilkkaaPc
namespace Go.Proofs.Yteholdifeilkkaa
open Vm
theorem popN_bit (f : Nat) : ∀ x i, i < f → x.testBit i = false → popN f (x ||| 2 ^ i) = popN f x + 1 := by
  induction f with
  | zero => intro x i h; omega
  | succ f ih =>
    intro x i hi hb
    cases i with
    | zero =>
      have h0 : x % 2 = 0 := by simpa using hb
      have h1 : (x ||| 2 ^ 0) % 2 = 1 := Nat.or_mod_two_eq_one.2 (.inr rfl)
      have h2 : (x ||| 2 ^ 0) / 2 = x / 2 := by rw [Nat.or_div_two]; simp
      rw [popN, popN, h1, h2, h0]; omega
    | succ i =>
      have h1 : (x ||| 2 ^ (i + 1)) % 2 = x % 2 := by
        have h3 : (2 ^ (i + 1)) % 2 = 0 := by rw [Nat.pow_succ]; omega
        have h4 := @Nat.or_mod_two_eq_one x (2 ^ (i + 1))
        rcases Nat.mod_two_eq_zero_or_one x with h | h
        · rcases Nat.mod_two_eq_zero_or_one (x ||| 2 ^ (i + 1)) with h5 | h5
          · omega
          · rcases h4.1 h5 with h6 | h6 <;> omega
        · rw [h4.2 (.inl h), h]
      have h2 : (x ||| 2 ^ (i + 1)) / 2 = x / 2 ||| 2 ^ i := by rw [Nat.or_div_two, Nat.pow_succ, Nat.mul_div_cancel _ (by omega)]
      rw [popN, popN, h1, h2, ih (x / 2) i (by omega) (by rw [Nat.testBit_succ] at hb; exact hb)]; omega
theorem popN_and_le (f : Nat) : ∀ x y, popN f (x &&& y) ≤ popN f x ∧ popN f (x &&& y) ≤ popN f y := by
  induction f with
  | zero => intro x y; simp [popN]
  | succ f ih =>
    intro x y
    have h := ih (x / 2) (y / 2)
    have h4 := @Nat.and_mod_two_eq_one x y
    rw [popN, popN, popN, Nat.and_div_two]
    rcases Nat.mod_two_eq_zero_or_one (x &&& y) with h5 | h5
    · omega
    · have := h4.1 h5; omega
theorem div_le_div_of (a b a' b' : Nat) (hb : 0 < b) (hb' : 0 < b') (h : a * b' ≤ a' * b) : a / b ≤ a' / b' := by
  rw [Nat.le_div_iff_mul_le hb']
  have h1 : a / b * b ≤ a := Nat.div_mul_le_self _ _
  have h2 : a / b * b' * b ≤ a' * b := by
    calc a / b * b' * b = a / b * b * b' := by rw [Nat.mul_assoc, Nat.mul_comm b' b, ← Nat.mul_assoc]
      _ ≤ a * b' := Nat.mul_le_mul_right _ h1
      _ ≤ a' * b := h
  exact Nat.le_of_mul_le_mul_right h2 hb
theorem popN_zero (f : Nat) : ∀ x, x < 2 ^ f → popN f x = 0 → x = 0 := by
  induction f with
  | zero => intro x h _; simpa using h
  | succ f ih => intro x h h0; rw [popN] at h0; rw [Nat.pow_succ] at h; have := ih (x / 2) (by omega) (by omega); omega
theorem pop64_zero {x : Nat} (hx : x < 18446744073709551616) (h : pop64 x = 0) : x = 0 := popN_zero 64 x (by simpa using hx) (by unfold pop64 at h; exact h)
theorem pop64_bit {x i : Nat} (hi : i < 64) (h : x.testBit i = false) : pop64 (x ||| 2 ^ i) = pop64 x + 1 := by unfold pop64; exact popN_bit 64 x i hi h
theorem pop64_both {x y i : Nat} (hi : i < 64) (hx : x.testBit i = false) : pop64 ((x ||| 2 ^ i) &&& (y ||| 2 ^ i)) = pop64 (x &&& y) + 1 := by
  rw [show (x ||| 2 ^ i) &&& (y ||| 2 ^ i) = (x &&& y) ||| 2 ^ i by
    apply Nat.eq_of_testBit_eq
    intro j
    simp only [Nat.testBit_and, Nat.testBit_or]
    cases x.testBit j <;> cases y.testBit j <;> simp]
  exact pop64_bit hi (by rw [Nat.testBit_and, hx]; rfl)
theorem pop64_one {x y i : Nat} (hy : y.testBit i = false) : pop64 ((x ||| 2 ^ i) &&& y) = pop64 (x &&& y) := by
  rw [show (x ||| 2 ^ i) &&& y = x &&& y by
    apply Nat.eq_of_testBit_eq
    intro j
    simp only [Nat.testBit_and, Nat.testBit_or, Nat.testBit_two_pow]
    by_cases hj : i = j
    · subst hj; rw [hy]; simp
    · simp [hj]]
/-- similarity of two words -/
def simW (x y : Nat) : Nat := if pop64 x + pop64 y = 0 then 0 else (4000 * pop64 (x &&& y) + (pop64 x + pop64 y)) / (2 * (pop64 x + pop64 y))
theorem simW_laws (x y i : Nat) (h1 : x < 18446744073709551616) (h2 : y < 18446744073709551616) (hi : i < 64) (hx : x.testBit i = false) (hy : y.testBit i = false) (h0 : ¬ x ||| y = 0) :
    simW x y ≤ simW (x ||| 2 ^ i) (y ||| 2 ^ i) ∧ simW (x ||| 2 ^ i) y ≤ simW x y := by
  have hs : pop64 x + pop64 y ≠ 0 := by
    intro h
    have e1 := pop64_zero h1 (by omega)
    have e2 := pop64_zero h2 (by omega)
    subst e1; subst e2
    exact h0 rfl
  have hc : pop64 (x &&& y) ≤ pop64 x ∧ pop64 (x &&& y) ≤ pop64 y := by unfold pop64; exact popN_and_le 64 _ _
  simp only [simW, pop64_bit hi hx, pop64_bit hi hy, pop64_both hi hx, pop64_one hy]
  rw [if_neg hs, if_neg (by omega), if_neg (by omega)]
  generalize pop64 (x &&& y) = c at *
  have hs' : 0 < pop64 x + pop64 y := by omega
  have h2 : 2 * c ≤ pop64 x + pop64 y := by omega
  rw [show pop64 x + 1 + (pop64 y + 1) = (pop64 x + pop64 y) + 2 by omega, show pop64 x + 1 + pop64 y = (pop64 x + pop64 y) + 1 by omega]
  generalize pop64 x + pop64 y = t at *
  constructor
  · refine div_le_div_of _ _ _ _ (by omega) (by omega) ?_
    have e1 : (4000 * c + t) * (2 * (t + 2)) = 8000 * (c * t) + 16000 * c + 2 * (t * t) + 4 * t := by
      simp only [Nat.mul_add, Nat.add_mul]; rw [show 4000 * c * (2 * t) = 8000 * (c * t) by rw [Nat.mul_mul_mul_comm], show t * (2 * t) = 2 * (t * t) by rw [Nat.mul_left_comm]]; omega
    have e2 : (4000 * (c + 1) + (t + 2)) * (2 * t) = 8000 * (c * t) + 8000 * t + 2 * (t * t) + 4 * t := by
      simp only [Nat.mul_add, Nat.add_mul]; rw [show 4000 * c * (2 * t) = 8000 * (c * t) by rw [Nat.mul_mul_mul_comm], show t * (2 * t) = 2 * (t * t) by rw [Nat.mul_left_comm]]; omega
    rw [e1, e2]; omega
  · refine div_le_div_of _ _ _ _ (by omega) (by omega) ?_
    have e1 : (4000 * c + (t + 1)) * (2 * t) = 8000 * (c * t) + 2 * (t * t) + 2 * t := by
      simp only [Nat.add_mul]; rw [show 4000 * c * (2 * t) = 8000 * (c * t) by rw [Nat.mul_mul_mul_comm], show t * (2 * t) = 2 * (t * t) by rw [Nat.mul_left_comm]]; omega
    have e2 : (4000 * c + t) * (2 * (t + 1)) = 8000 * (c * t) + 8000 * c + 2 * (t * t) + 2 * t := by
      simp only [Nat.mul_add, Nat.add_mul]; rw [show 4000 * c * (2 * t) = 8000 * (c * t) by rw [Nat.mul_mul_mul_comm], show t * (2 * t) = 2 * (t * t) by rw [Nat.mul_left_comm]]; omega
    rw [e1, e2]; omega

theorem right64 : Right 64 := by decide
theorem dice_word {x y : Nat} (hx : x < 18446744073709551616) (hy : y < 18446744073709551616) : similarity_Dice ⟨64, [(x : Int)]⟩ ⟨64, [(y : Int)]⟩ = some ((simW x y : Nat) : Int) := by
  rw [dice_eq (by intro w hw; simp at hw; omega) (by intro w hw; simp at hw; omega), simB, if_pos ⟨⟨right64, rfl⟩, ⟨right64, rfl⟩, rfl⟩]
  simp only [List.zipWith_cons_cons, List.zipWith_nil_right, popI, iand64 hx hy, Int.toNat_natCast, simW, Nat.add_zero]
  split <;> rfl
theorem simW_le (x y : Nat) : simW x y ≤ 1000 := by
  have hc : pop64 (x &&& y) ≤ pop64 x ∧ pop64 (x &&& y) ≤ pop64 y := by unfold pop64; exact popN_and_le 64 _ _
  unfold simW
  split
  · omega
  · apply Nat.le_of_lt_succ
    rw [Nat.div_lt_iff_lt_mul (by omega)]
    omega
theorem simW_self {x : Nat} (hx : x < 18446744073709551616) : simW x x = if x = 0 then 0 else 1000 := by
  unfold simW
  rw [Nat.and_self]
  by_cases h : pop64 x = 0
  · have := pop64_zero hx h
    rw [if_pos (by omega), if_pos this]
  · rw [if_neg (by omega), if_neg]
    · rw [Nat.div_eq_iff (by omega)]; omega
    · rintro rfl
      exact h (by unfold pop64; decide)
theorem simB_word {x y : Nat} (hx : x < 18446744073709551616) (hy : y < 18446744073709551616) : simB ⟨64, [(x : Int)]⟩ ⟨64, [(y : Int)]⟩ = ((simW x y : Nat) : Int) := by
  have h := dice_word hx hy
  rw [dice_eq (by intro w hw; simp at hw; omega) (by intro w hw; simp at hw; omega)] at h
  exact Option.some.inj h
theorem simB_nil1 (y : S_api_Bits) : simB EB y = -1 := by
  unfold simB; rw [if_neg]; rintro ⟨⟨⟨h, _⟩, _⟩, _⟩; revert h; decide
theorem simB_nil2 (y : S_api_Bits) : simB y EB = -1 := by rw [simB_comm, simB_nil1]
/-- what a similarity is -/
theorem simB_enc {p q : S_api_Bits} (hp : EncF p) (hq : EncF q) : -1 ≤ simB p q ∧ simB p q ≤ 1000 ∧ (simB p q = -1 ↔ p.Length = 0 ∨ q.Length = 0) := by
  rcases hp with rfl | ⟨x, hx, rfl⟩
  · rw [simB_nil1]; simp [EB]
  · rcases hq with rfl | ⟨y, hy, rfl⟩
    · rw [simB_nil2]; simp [EB]
    · rw [simB_word hx hy]
      have := simW_le x y
      simp only
      omega
theorem simB_own {p : S_api_Bits} (hp : EncF p) : (p.Length = 0 ∧ simB p p = -1) ∨ (p.Length = 64 ∧ p.Words.length = 1 ∧ (simB p p = 1000 ∨ (simB p p = 0 ∧ p.Words.getD 0 0 = 0))) := by
  rcases hp with rfl | ⟨x, hx, rfl⟩
  · exact .inl ⟨rfl, simB_nil1 _⟩
  · refine .inr ⟨rfl, rfl, ?_⟩
    rw [simB_word hx hx, simW_self hx]
    by_cases h : x = 0
    · rw [if_pos h]; right; exact ⟨rfl, by simp [h]⟩
    · rw [if_neg h]; left; rfl
end Go.Proofs.Yteholdifeilkkaa
