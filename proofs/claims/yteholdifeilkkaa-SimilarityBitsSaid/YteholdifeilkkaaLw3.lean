/- The plain law of SimilarityBits. -/
import Derived.Test.YteholdifeilkkaaPb
import Derived.Test.YteholdifeilkkaaNh
import Derived.Test.YteholdifeilkkaaGE0
import Derived.Test.YteholdifeilkkaaGL3
namespace Go.Proofs.Yteholdifeilkkaa
open Vm
theorem awake17 : rl_law17_awake = some true := rl_law17_awake_le 100 _ (by kernel_rfl)
theorem popN_bit (f : Nat) : ∀ x i, i < f → x.testBit i = false → popN f (x ||| 2 ^ i) = popN f x + 1 := by
  induction f with
  | zero => intro x i h; omega
  | succ f ih =>
    intro x i hi hb
    cases i with
    | zero =>
      have h0 : x % 2 = 0 := by simpa using hb
      have h1 : (x ||| 2 ^ 0) % 2 = 1 := Nat.or_mod_two_eq_one.2 (.inr rfl)
      have h2 : (x ||| 2 ^ 0) / 2 = x / 2 := by rw [Nat.or_div_two]; simp
      rw [popN, popN, h1, h2, h0]; omega
    | succ i =>
      have h1 : (x ||| 2 ^ (i + 1)) % 2 = x % 2 := by
        have h3 : (2 ^ (i + 1)) % 2 = 0 := by rw [Nat.pow_succ]; omega
        have h4 := @Nat.or_mod_two_eq_one x (2 ^ (i + 1))
        rcases Nat.mod_two_eq_zero_or_one x with h | h
        · rcases Nat.mod_two_eq_zero_or_one (x ||| 2 ^ (i + 1)) with h5 | h5
          · omega
          · rcases h4.1 h5 with h6 | h6 <;> omega
        · rw [h4.2 (.inl h), h]
      have h2 : (x ||| 2 ^ (i + 1)) / 2 = x / 2 ||| 2 ^ i := by rw [Nat.or_div_two, Nat.pow_succ, Nat.mul_div_cancel _ (by omega)]
      rw [popN, popN, h1, h2, ih (x / 2) i (by omega) (by rw [Nat.testBit_succ] at hb; exact hb)]; omega
theorem popN_and_le (f : Nat) : ∀ x y, popN f (x &&& y) ≤ popN f x ∧ popN f (x &&& y) ≤ popN f y := by
  induction f with
  | zero => intro x y; simp [popN]
  | succ f ih =>
    intro x y
    have h := ih (x / 2) (y / 2)
    have h4 := @Nat.and_mod_two_eq_one x y
    rw [popN, popN, popN, Nat.and_div_two]
    rcases Nat.mod_two_eq_zero_or_one (x &&& y) with h5 | h5
    · omega
    · have := h4.1 h5; omega
theorem div_le_div_of (a b a' b' : Nat) (hb : 0 < b) (hb' : 0 < b') (h : a * b' ≤ a' * b) : a / b ≤ a' / b' := by
  rw [Nat.le_div_iff_mul_le hb']
  have h1 : a / b * b ≤ a := Nat.div_mul_le_self _ _
  have h2 : a / b * b' * b ≤ a' * b := by
    calc a / b * b' * b = a / b * b * b' := by rw [Nat.mul_assoc, Nat.mul_comm b' b, ← Nat.mul_assoc]
      _ ≤ a * b' := Nat.mul_le_mul_right _ h1
      _ ≤ a' * b := h
  exact Nat.le_of_mul_le_mul_right h2 hb
theorem popN_zero (f : Nat) : ∀ x, x < 2 ^ f → popN f x = 0 → x = 0 := by
  induction f with
  | zero => intro x h _; simpa using h
  | succ f ih => intro x h h0; rw [popN] at h0; rw [Nat.pow_succ] at h; have := ih (x / 2) (by omega) (by omega); omega
theorem pop64_zero {x : Nat} (hx : x < 18446744073709551616) (h : pop64 x = 0) : x = 0 := popN_zero 64 x (by simpa using hx) (by unfold pop64 at h; exact h)
theorem pop64_bit {x i : Nat} (hi : i < 64) (h : x.testBit i = false) : pop64 (x ||| 2 ^ i) = pop64 x + 1 := by unfold pop64; exact popN_bit 64 x i hi h
theorem pop64_both {x y i : Nat} (hi : i < 64) (hx : x.testBit i = false) : pop64 ((x ||| 2 ^ i) &&& (y ||| 2 ^ i)) = pop64 (x &&& y) + 1 := by
  rw [show (x ||| 2 ^ i) &&& (y ||| 2 ^ i) = (x &&& y) ||| 2 ^ i by
    apply Nat.eq_of_testBit_eq
    intro j
    simp only [Nat.testBit_and, Nat.testBit_or]
    cases x.testBit j <;> cases y.testBit j <;> simp]
  exact pop64_bit hi (by rw [Nat.testBit_and, hx]; rfl)
theorem pop64_one {x y i : Nat} (hy : y.testBit i = false) : pop64 ((x ||| 2 ^ i) &&& y) = pop64 (x &&& y) := by
  rw [show (x ||| 2 ^ i) &&& y = x &&& y by
    apply Nat.eq_of_testBit_eq
    intro j
    simp only [Nat.testBit_and, Nat.testBit_or, Nat.testBit_two_pow]
    by_cases hj : i = j
    · subst hj; rw [hy]; simp
    · simp [hj]]
/-- similarity of two words -/
def simW (x y : Nat) : Nat := if pop64 x + pop64 y = 0 then 0 else (4000 * pop64 (x &&& y) + (pop64 x + pop64 y)) / (2 * (pop64 x + pop64 y))
theorem simW_laws (x y i : Nat) (h1 : x < 18446744073709551616) (h2 : y < 18446744073709551616) (hi : i < 64) (hx : x.testBit i = false) (hy : y.testBit i = false) (h0 : ¬ x ||| y = 0) :
    simW x y ≤ simW (x ||| 2 ^ i) (y ||| 2 ^ i) ∧ simW (x ||| 2 ^ i) y ≤ simW x y := by
  have hs : pop64 x + pop64 y ≠ 0 := by
    intro h
    have e1 := pop64_zero h1 (by omega)
    have e2 := pop64_zero h2 (by omega)
    subst e1; subst e2
    exact h0 rfl
  have hc : pop64 (x &&& y) ≤ pop64 x ∧ pop64 (x &&& y) ≤ pop64 y := by unfold pop64; exact popN_and_le 64 _ _
  simp only [simW, pop64_bit hi hx, pop64_bit hi hy, pop64_both hi hx, pop64_one hy]
  rw [if_neg hs, if_neg (by omega), if_neg (by omega)]
  generalize pop64 (x &&& y) = c at *
  have hs' : 0 < pop64 x + pop64 y := by omega
  have h2 : 2 * c ≤ pop64 x + pop64 y := by omega
  rw [show pop64 x + 1 + (pop64 y + 1) = (pop64 x + pop64 y) + 2 by omega, show pop64 x + 1 + pop64 y = (pop64 x + pop64 y) + 1 by omega]
  generalize pop64 x + pop64 y = t at *
  constructor
  · refine div_le_div_of _ _ _ _ (by omega) (by omega) ?_
    have e1 : (4000 * c + t) * (2 * (t + 2)) = 8000 * (c * t) + 16000 * c + 2 * (t * t) + 4 * t := by
      simp only [Nat.mul_add, Nat.add_mul]; rw [show 4000 * c * (2 * t) = 8000 * (c * t) by rw [Nat.mul_mul_mul_comm], show t * (2 * t) = 2 * (t * t) by rw [Nat.mul_left_comm]]; omega
    have e2 : (4000 * (c + 1) + (t + 2)) * (2 * t) = 8000 * (c * t) + 8000 * t + 2 * (t * t) + 4 * t := by
      simp only [Nat.mul_add, Nat.add_mul]; rw [show 4000 * c * (2 * t) = 8000 * (c * t) by rw [Nat.mul_mul_mul_comm], show t * (2 * t) = 2 * (t * t) by rw [Nat.mul_left_comm]]; omega
    rw [e1, e2]; omega
  · refine div_le_div_of _ _ _ _ (by omega) (by omega) ?_
    have e1 : (4000 * c + (t + 1)) * (2 * t) = 8000 * (c * t) + 2 * (t * t) + 2 * t := by
      simp only [Nat.add_mul]; rw [show 4000 * c * (2 * t) = 8000 * (c * t) by rw [Nat.mul_mul_mul_comm], show t * (2 * t) = 2 * (t * t) by rw [Nat.mul_left_comm]]; omega
    have e2 : (4000 * c + t) * (2 * (t + 1)) = 8000 * (c * t) + 8000 * c + 2 * (t * t) + 2 * t := by
      simp only [Nat.mul_add, Nat.add_mul]; rw [show 4000 * c * (2 * t) = 8000 * (c * t) by rw [Nat.mul_mul_mul_comm], show t * (2 * t) = 2 * (t * t) by rw [Nat.mul_left_comm]]; omega
    rw [e1, e2]; omega

theorem right64 : Right 64 := by decide
theorem dice_word {x y : Nat} (hx : x < 18446744073709551616) (hy : y < 18446744073709551616) : similarity_Dice ⟨64, [(x : Int)]⟩ ⟨64, [(y : Int)]⟩ = some ((simW x y : Nat) : Int) := by
  rw [dice_eq (by intro w hw; simp at hw; omega) (by intro w hw; simp at hw; omega), simB, if_pos ⟨⟨right64, rfl⟩, ⟨right64, rfl⟩, rfl⟩]
  simp only [List.zipWith_cons_cons, List.zipWith_nil_right, popI, iand64 hx hy, Int.toNat_natCast, simW, Nat.add_zero]
  split <;> rfl
theorem one_word {b : S_api_Bits} (h : b.Length = 64) (hl : (b.Words.length : Int) = 64 / 64) (hw : W64 b.Words) : ∃ x : Nat, x < 18446744073709551616 ∧ b = ⟨64, [(x : Int)]⟩ := by
  obtain ⟨L, ws⟩ := b
  simp only at h hl hw
  match ws, hl with
  | [w], _ =>
    have := hw w (by simp)
    exact ⟨w.toNat, by omega, by rw [h, Int.toNat_of_nonneg this.1]⟩
theorem bits_law (p : List Int) : rl_law17_SimilarityBits p = some true := by
  unfold rl_law17_SimilarityBits
  rw [awake17]
  simp only [Option.bind_some, Bool.not_true, Bool.false_eq_true, if_false, rl_make_Few]
  by_cases hp : p.length ≤ 400
  · rw [decide_eq_true (by omega : ((p.length : Nat) : Int) ≤ 400)]
    simp only [Bool.not_true, rl_law17_SimilarityBits_k4, Bool.false_eq_true, if_false]
    obtain ⟨d, e, hd⟩ := new_yes hp
    rw [e]; simp only [Option.bind_some]
    obtain ⟨a, d1, e1, a1, a2, a3, hd1⟩ := bits_yes hd (n := 64) (by decide) (by decide)
    rw [e1]; simp only [bind2, Option.bind_some]
    obtain ⟨b, d2, e2, b1, b2, b3, hd2⟩ := bits_yes hd1 (n := 64) (by decide) (by decide)
    rw [e2]; simp only [Option.bind_some]
    obtain ⟨v, d3, e3, v0, v1, hd3⟩ := next_yes hd2 (n := 64) (by decide) (by decide)
    rw [e3]; simp only [Option.bind_some]
    obtain ⟨x, hx, rfl⟩ := one_word a1 a2 a3
    obtain ⟨y, hy, rfl⟩ := one_word b1 b2 b3
    obtain ⟨i, rfl⟩ := Int.eq_ofNat_of_zero_le v0
    have hi : i < 64 := by omega
    have h2 : 2 ^ i < 18446744073709551616 := Nat.pow_lt_pow_right (by omega) hi
    have hor : x ||| y < 18446744073709551616 := by have := @Nat.or_lt_two_pow x y 64 (by simpa using hx) (by simpa using hy); simpa using this
    have hxi : x ||| 2 ^ i < 18446744073709551616 := by have := @Nat.or_lt_two_pow x (2 ^ i) 64 (by simpa using hx) (by simpa using h2); simpa using this
    have hyi : y ||| 2 ^ i < 18446744073709551616 := by have := @Nat.or_lt_two_pow y (2 ^ i) 64 (by simpa using hy) (by simpa using h2); simpa using this
    have eS : ishl .u64 1 (i : Int) = ((2 ^ i : Nat) : Int) := by
      have := ishl64 1 (s := i) (by omega)
      rw [Nat.one_mul, Nat.mod_eq_of_lt h2] at this
      exact this
    have eT : iand .u64 (ishr .u64 (ior .u64 (x : Int) (y : Int)) (i : Int)) 1 = (((x ||| y) / 2 ^ i % 2 : Nat) : Int) := by
      rw [ior64 hx hy, ishr64 _ (by omega)]
      have := iand64 (x := (x ||| y) / 2 ^ i) (y := 1) (Nat.lt_of_le_of_lt (Nat.div_le_self _ _) hor) (by decide)
      rw [Nat.and_one_is_mod] at this
      exact this
    simp (disch := omega) only [wu64, List.length_cons, List.length_nil, Nat.zero_add, List.getD_cons_zero, eT]
    rw [if_pos (by decide), if_pos (by decide), if_pos (by omega)]
    rw [ior64 hx hy]
    generalize hq : (x ||| y) / 2 ^ i % 2 = q
    by_cases hb : q = 1
    · rw [if_pos (by rw [hb]; rfl)]; rfl
    · rw [if_neg (by simp; omega)]
      subst hq
      unfold rl_law17_SimilarityBits_k8
      by_cases h0 : x ||| y = 0
      · rw [if_pos (by rw [h0]; rfl)]
      · have hz : (x ||| y).testBit i = false := by
          rw [Nat.testBit_eq_decide_div_mod_eq]; simpa using hb
        rw [Nat.testBit_or, Bool.or_eq_false_iff] at hz
        obtain ⟨l1, l2⟩ := simW_laws x y i hx hy hi hz.1 hz.2 h0
        simp (disch := omega) only [wu64, List.length_cons, List.length_nil, Nat.zero_add, List.getD_cons_zero, eS, ior64 hx h2, ior64 hy h2]
        rw [if_neg (by simpa using h0), dice_word hx hy, Option.bind_some, if_pos (by decide), if_pos (by omega), if_pos (by decide), dice_word hxi hyi, Option.bind_some, if_pos (by simpa using l1), dice_word hxi hy, Option.bind_some, if_pos (by simpa using l2)]
        unfold rl_law17_SimilarityBits_k10
        simp
  · rw [decide_eq_false (by omega : ¬ ((p.length : Nat) : Int) ≤ 400)]
    simp only [Bool.not_false, rl_law17_SimilarityBits_k4, if_true, awake17, Option.bind_some]
end Go.Proofs.Yteholdifeilkkaa
