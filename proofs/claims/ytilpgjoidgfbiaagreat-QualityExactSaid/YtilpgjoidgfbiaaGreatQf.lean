/- Natural numbers: small ones as ints; differences. -/
import Derived.Test.YtilpgjoidgfbiaaGreatQd
import Derived.Test.YtilpgjoidgfbiaaGreatBw
namespace Go.Proofs.YtilpgjoidgfbiaaGreat
set_option linter.unusedVariables false
set_option linter.unusedSimpArgs false
open Vm
def intS (l : List Int) : Int × Bool := if VN l ∧ val l < 9223372036854775808 then (val l, true) else (0, false)
theorem vn_small {l : List Int} (h : VN l) (hu : U32 l) : val l < 9223372036854775808 ↔ l.length ≤ 2 ∧ (l.length = 2 → l.getD 1 0 < 2147483648) := by
  have hc := h.canon hu
  match l, hu, hc with
  | [], _, _ => simp [val]
  | [a], hu, _ => have := hu.head; simp [val]; omega
  | [a, b], hu, _ => have h1 := hu.head; have h2 := hu.tail.head; simp [val]; omega
  | a :: b :: c :: l, hu, hc =>
    have h1 := hc.ge
    simp only [List.length_cons] at h1
    have h2 := bp_le (show 2 ≤ l.length + 1 + 1 + 1 - 1 by omega)
    rw [show bp 2 = 18446744073709551616 by decide] at h2
    constructor
    · intro h; omega
    · intro h; simp at h
theorem natural_int_eq {l : List Int} (hu : U32 l) (hl : l.length < 100000) : natural_Int l = some (intS l) := by
  unfold natural_Int natural_Int_k1 intS
  rw [natural_valid_eq (by omega), bind1_pure]
  by_cases h : VN l
  · have hs := vn_small h hu
    rw [decide_eq_true h, if_neg (by simp)]
    by_cases h2 : 2 < l.length
    · rw [if_pos (by simp; omega), if_pos rfl, if_neg (fun e => by have := hs.1 e.2; omega)]
    · rw [if_neg (by simp; omega)]
      match l, hu, h2 with
      | [], _, _ =>
        rw [if_neg (by simp), if_neg (by simp), loop_end (t := (0 : Int)) (by simp [natural_Int_l2]), if_pos ⟨h, by simp [val]⟩]
        rfl
      | [a], hu, _ =>
        have ha := hu.head
        rw [if_neg (by simp), if_neg (by simp)]
        have e1 : natural_Int_l2 [a] 0 0 = some (.inl (a, 1)) := by
          have o := (or_i64 (a := a) (b := 0) (i := 0) ha.1 (Int.le_refl 0) (by decide) (by simp; omega)).1
          simp only [natural_Int_l2, List.length_cons, List.length_nil]
          rw [if_pos (by simp), if_pos (by simp), if_pos (by simp), if_pos (by decide)]
          have s0 := shl_i64 (IntKind.i64.wrap a) (s := 0) (by decide)
          rw [show ((0 : Nat) : Int) = 0 from rfl] at s0
          rw [show (IntKind.i64.wrap (32 * 0)) = 0 by decide, show ([a] : List Int).getD (0 : Int).toNat 0 = a from rfl, s0, wi64 (n := a) (by omega) (by omega), wi64 (n := a * ((2 ^ 0 : Nat) : Int)) (by simp; omega) (by simp; omega), o]
          simp
          decide
        rw [loop_next e1, loop_end (t := a) (by simp [natural_Int_l2]), if_pos ⟨h, by simp [val]; omega⟩]
        simp [val]
      | [a, b], hu, _ =>
        have ha := hu.head
        have hb := hu.tail.head
        rw [if_pos (by simp), if_pos (by simp)]
        by_cases hb2 : b < 2147483648
        · rw [if_neg (by simp; omega)]
          have e1 : natural_Int_l2 [a, b] 0 0 = some (.inl (a, 1)) := by
            have o := (or_i64 (a := a) (b := 0) (i := 0) ha.1 (Int.le_refl 0) (by decide) (by simp; omega)).1
            simp only [natural_Int_l2, List.length_cons, List.length_nil]
            rw [if_pos (by simp), if_pos (by simp), if_pos (by simp), if_pos (by decide)]
            have s0 := shl_i64 (IntKind.i64.wrap a) (s := 0) (by decide)
            rw [show ((0 : Nat) : Int) = 0 from rfl] at s0
            rw [show (IntKind.i64.wrap (32 * 0)) = 0 by decide, show ([a, b] : List Int).getD (0 : Int).toNat 0 = a from rfl, s0, wi64 (n := a) (by omega) (by omega), wi64 (n := a * ((2 ^ 0 : Nat) : Int)) (by simp; omega) (by simp; omega), o]
            simp
            decide
          have e2 : natural_Int_l2 [a, b] a 1 = some (.inl (a + 4294967296 * b, 2)) := by
            have o := (or_i64 (a := b) (b := a) (i := 32) hb.1 ha.1 (by simp; omega) (by simp; omega)).1
            simp only [natural_Int_l2, List.length_cons, List.length_nil]
            rw [if_pos (by simp), if_pos (by simp), if_pos (by simp), if_pos (by decide)]
            have s0 := shl_i64 (IntKind.i64.wrap b) (s := 32) (by decide)
            rw [show ((32 : Nat) : Int) = 32 from rfl] at s0
            rw [show (IntKind.i64.wrap (32 * 1)) = 32 by decide, show ([a, b] : List Int).getD (1 : Int).toNat 0 = b from rfl, s0, wi64 (n := b) (by omega) (by omega), wi64 (n := b * ((2 ^ 32 : Nat) : Int)) (by simp; omega) (by simp; omega), o, bind1_pure, show IntKind.i64.wrap (1 + 1) = 2 by decide]
            simp only [Option.some.injEq, Sum.inl.injEq, Prod.mk.injEq, and_true]
            rw [show ((2 ^ 32 : Nat) : Int) = 4294967296 by decide]; omega
          rw [loop_next e1, loop_next e2, loop_end (t := a + 4294967296 * b) (by simp [natural_Int_l2]), if_pos ⟨h, by simp [val]; omega⟩]
          simp [val]
        · rw [if_pos (by simp; omega), if_neg (fun e => by have := (hs.1 e.2).2 rfl; simp at this; omega)]
      | a :: b :: c :: l, _, h2 => simp at h2
  · rw [decide_eq_false h, if_pos (by simp), if_pos rfl, if_neg (fun e => h e.1)]
theorem ref10_int_eq {l : List Int} (hu : U32 l) (hl : l.length < 100000) : rl_ref10_Int l = some (intS l) := by
  unfold rl_ref10_Int rl_ref10_Int_k1 intS
  rw [rl_ref10_valid_eq (by omega), bind1_pure]
  by_cases h : VN l
  · have hs := vn_small h hu
    rw [decide_eq_true h, if_neg (by simp)]
    by_cases h2 : 2 < l.length
    · rw [if_pos (by simp; omega), if_pos rfl, if_neg (fun e => by have := hs.1 e.2; omega)]
    · rw [if_neg (by simp; omega)]
      match l, hu, h2 with
      | [], _, _ =>
        rw [if_neg (by simp), if_neg (by simp), loop_end (t := (0 : Int)) (by simp [rl_ref10_Int_l2]; decide), if_pos ⟨h, by simp [val]⟩]
        rfl
      | [a], hu, _ =>
        have ha := hu.head
        rw [if_neg (by simp), if_neg (by simp)]
        have e1 : rl_ref10_Int_l2 [a] 0 0 = some (.inl (a, -1)) := by
          have o := (or_i64 (a := 0) (b := a) (i := 32) (Int.le_refl 0) ha.1 (by simp; omega) (by simp; omega)).2
          simp only [rl_ref10_Int_l2, List.length_cons, List.length_nil]
          rw [if_pos (by simp), if_pos (by simp), if_pos (by simp)]
          rw [show ishl .i64 0 32 = 0 * ((2 ^ 32 : Nat) : Int) by decide, show ([a] : List Int).getD (0 : Int).toNat 0 = a from rfl, wi64 (n := a) (by omega) (by omega), o, bind1_pure, show IntKind.i64.wrap (0 - 1) = -1 by decide]
          simp
        rw [show IntKind.i64.wrap ((([a].length : Nat) : Int) - 1) = 0 by simp; decide, loop_next e1, loop_end (t := a) (by simp [rl_ref10_Int_l2]), if_pos ⟨h, by simp [val]; omega⟩]
        simp [val]
      | [a, b], hu, _ =>
        have ha := hu.head
        have hb := hu.tail.head
        rw [if_pos (by simp), if_pos (by simp)]
        by_cases hb2 : b < 2147483648
        · rw [if_neg (by simp; omega)]
          have e1 : rl_ref10_Int_l2 [a, b] 0 1 = some (.inl (b, 0)) := by
            have o := (or_i64 (a := 0) (b := b) (i := 32) (Int.le_refl 0) hb.1 (by simp; omega) (by simp; omega)).2
            simp only [rl_ref10_Int_l2, List.length_cons, List.length_nil]
            rw [if_pos (by simp), if_pos (by simp), if_pos (by simp)]
            rw [show ishl .i64 0 32 = 0 * ((2 ^ 32 : Nat) : Int) by decide, show ([a, b] : List Int).getD (1 : Int).toNat 0 = b from rfl, wi64 (n := b) (by omega) (by omega), o, bind1_pure, show IntKind.i64.wrap (1 - 1) = 0 by decide]
            simp
          have e2 : rl_ref10_Int_l2 [a, b] b 0 = some (.inl (a + 4294967296 * b, -1)) := by
            have o := (or_i64 (a := b) (b := a) (i := 32) hb.1 ha.1 (by simp; omega) (by simp; omega)).2
            simp only [rl_ref10_Int_l2, List.length_cons, List.length_nil]
            rw [if_pos (by simp), if_pos (by simp), if_pos (by simp)]
            have s0 := shl_i64 b (s := 32) (by decide)
            rw [show ((32 : Nat) : Int) = 32 from rfl] at s0
            rw [show ([a, b] : List Int).getD (0 : Int).toNat 0 = a from rfl, s0, wi64 (n := a) (by omega) (by omega), wi64 (n := b * ((2 ^ 32 : Nat) : Int)) (by simp; omega) (by simp; omega), o, bind1_pure, show IntKind.i64.wrap (0 - 1) = -1 by decide]
            simp only [Option.some.injEq, Sum.inl.injEq, Prod.mk.injEq, and_true]
            rw [show ((2 ^ 32 : Nat) : Int) = 4294967296 by decide]; omega
          rw [show IntKind.i64.wrap ((([a, b].length : Nat) : Int) - 1) = 1 by simp; decide, loop_next e1, loop_next e2, loop_end (t := a + 4294967296 * b) (by simp [rl_ref10_Int_l2]), if_pos ⟨h, by simp [val]; omega⟩]
          simp [val]
        · rw [if_pos (by simp; omega), if_neg (fun e => by have := (hs.1 e.2).2 rfl; simp at this; omega)]
      | a :: b :: c :: l, _, h2 => simp at h2
  · rw [decide_eq_false h, if_pos (by simp), if_pos rfl, if_neg (fun e => h e.1)]
end Go.Proofs.YtilpgjoidgfbiaaGreat
