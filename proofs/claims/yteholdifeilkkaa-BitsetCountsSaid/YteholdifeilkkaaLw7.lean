/- The plain law of BitsetCounts. -/
import Derived.Test.YteholdifeilkkaaPf
import Derived.Test.YteholdifeilkkaaGE0
import Derived.Test.YteholdifeilkkaaGL7
namespace Go.Proofs.Yteholdifeilkkaa
open Vm
theorem awake09 : rl_law09_awake = some true := rl_law09_awake_le 100 _ (by kernel_rfl)
theorem popN_and_or (f : Nat) : ∀ x y, popN f (x &&& y) + popN f (x ||| y) = popN f x + popN f y ∧ popN f (x ^^^ y) + popN f (x &&& y) = popN f (x ||| y) := by
  induction f with
  | zero => intro x y; simp [popN]
  | succ f ih =>
    intro x y
    have h := ih (x / 2) (y / 2)
    simp only [popN, Nat.and_div_two, Nat.or_div_two, Nat.xor_div_two]
    have h1 : (x &&& y) % 2 = x % 2 &&& y % 2 := Nat.and_mod_two_pow (n := 1) ..
    have h2 : (x ||| y) % 2 = x % 2 ||| y % 2 := Nat.or_mod_two_pow (n := 1) ..
    have h3 : (x ^^^ y) % 2 = x % 2 ^^^ y % 2 := Nat.xor_mod_two_pow (n := 1) ..
    rw [h1, h2, h3]
    rcases Nat.mod_two_eq_zero_or_one x with e | e <;> rcases Nat.mod_two_eq_zero_or_one y with e' | e' <;> rw [e, e'] <;> simp <;> omega
theorem pop64_three (x y : Nat) : pop64 (x &&& y) + pop64 (x ||| y) = pop64 x + pop64 y ∧ pop64 (x ^^^ y) + pop64 (x &&& y) = pop64 (x ||| y) := by
  unfold pop64; exact popN_and_or 64 x y
theorem popI_three : ∀ (a b : List Int), a.length = b.length → W64 a → W64 b → popI (List.zipWith (iand .u64) a b) + popI (List.zipWith (ior .u64) a b) = popI a + popI b ∧ popI (List.zipWith (ixor .u64) a b) + popI (List.zipWith (iand .u64) a b) = popI (List.zipWith (ior .u64) a b) := by
  intro a
  induction a with
  | nil => intro b h _ _; cases b with
    | nil => simp [popI]
    | cons _ _ => simp at h
  | cons w a ih =>
    intro b h ha hb
    cases b with
    | nil => simp at h
    | cons u b =>
      obtain ⟨x, hx, rfl⟩ := W64.nat (ha w (by simp))
      obtain ⟨y, hy, rfl⟩ := W64.nat (hb u (by simp))
      have h1 := ih b (by simpa using h) (fun z hz => ha z (by simp [hz])) (fun z hz => hb z (by simp [hz]))
      have h2 := pop64_three x y
      simp only [List.zipWith_cons_cons, popI, iand64 hx hy, ior64 hx hy, ixor64 hx hy, Int.toNat_natCast]
      omega
theorem xor_back : ∀ (a b : List Int), a.length = b.length → W64 a → W64 b → List.zipWith (ixor .u64) (List.zipWith (ixor .u64) a b) b = a := by
  intro a
  induction a with
  | nil => intro b h _ _; simp
  | cons w a ih =>
    intro b h ha hb
    cases b with
    | nil => simp at h
    | cons u b =>
      obtain ⟨x, hx, rfl⟩ := W64.nat (ha w (by simp))
      obtain ⟨y, hy, rfl⟩ := W64.nat (hb u (by simp))
      have h1 := ih b (by simpa using h) (fun z hz => ha z (by simp [hz])) (fun z hz => hb z (by simp [hz]))
      have h3 : x ^^^ y < 2 ^ 64 := Nat.xor_lt_two_pow (by simpa using hx) (by simpa using hy)
      simp only [List.zipWith_cons_cons, ixor64 hx hy, ixor64 (by simpa using h3) hy, h1, Nat.xor_assoc, Nat.xor_self, Nat.xor_zero]
theorem counts_law (p : List Int) : rl_law09_BitsetCounts p = some true := by
  unfold rl_law09_BitsetCounts
  rw [awake09]
  simp only [Option.bind_some, Bool.not_true, Bool.false_eq_true, if_false, rl_make_Few]
  by_cases hp : p.length ≤ 400
  rotate_left
  · rw [decide_eq_false (by omega : ¬ ((p.length : Nat) : Int) ≤ 400)]
    simp only [Bool.not_false, rl_law09_BitsetCounts_k4, if_true, awake09, Option.bind_some]
  rw [decide_eq_true (by omega : ((p.length : Nat) : Int) ≤ 400)]
  simp only [Bool.not_true, rl_law09_BitsetCounts_k4, Bool.false_eq_true, if_false]
  obtain ⟨d, he, hd⟩ := new_yes hp
  rw [he]; clear he; simp only [Option.bind_some]
  obtain ⟨v, d1, he, v0, v1, hd1⟩ := next_yes hd (n := 8) (by decide) (by decide)
  rw [he]; clear he; first | rw [bind2_pure] | rw [bind3_pure] | rw [bind4_pure] | rw [bind1_pure]
  obtain ⟨k, rfl⟩ := Int.eq_ofNat_of_zero_le v0
  rw [wi64 (n := 1 + (k : Int)) (by omega) (by omega), wi64 (by omega) (by omega)]
  obtain ⟨n, hn⟩ : ∃ n : Nat, (n : Int) = 64 * (1 + (k : Int)) := ⟨64 * (1 + k), by omega⟩
  rw [← hn]
  obtain ⟨a, d2, he, a1, a2, a3, hd2⟩ := bits_yes hd1 (n := n) (by omega) (by omega)
  rw [he]; clear he; first | rw [bind2_pure] | rw [bind3_pure] | rw [bind4_pure] | rw [bind1_pure]
  obtain ⟨b, d3, he, b1, b2, b3, hd3⟩ := bits_yes hd2 (n := n) (by omega) (by omega)
  rw [he]; clear he; first | rw [bind2_pure] | rw [bind3_pure] | rw [bind4_pure] | rw [bind1_pure]
  have hV : VB a := ⟨⟨by omega, by omega, by omega⟩, by rw [a2, a1]⟩
  have hU : VB b := ⟨⟨by omega, by omega, by omega⟩, by rw [b2, b1]⟩
  have hL : a.Length = b.Length := by rw [a1, b1]
  have hl : a.Words.length = b.Words.length := by omega
  have hX : VB ⟨a.Length, List.zipWith (ixor .u64) a.Words b.Words⟩ := hV.comb hU hL
  have hA : VB ⟨a.Length, List.zipWith (iand .u64) a.Words b.Words⟩ := hV.comb hU hL
  have hO : VB ⟨a.Length, List.zipWith (ior .u64) a.Words b.Words⟩ := hV.comb hU hL
  have l1 := popI_le a.Words
  have l2 := popI_le b.Words
  have h3 := popI_three a.Words b.Words hl a3 b3
  rw [and_eq, if_pos ⟨hV, hU, hL⟩, bind2_pure, or_eq, if_pos ⟨hV, hU, hL⟩, bind2_pure, xor_eq, if_pos ⟨hV, hU, hL⟩, bind2_pure]
  rw [xor_eq, if_pos ⟨hX, hU, hL⟩, bind2_pure]
  simp only [xor_back _ _ hl a3 b3]
  rw [if_pos (by simp), if_pos (by simp), if_pos (by simp), if_pos (by simp)]
  rw [count_eq (by exact W64.and), if_pos hA, bind1_pure, count_eq (by exact W64.or), if_pos hO, bind1_pure, count_eq a3, if_pos hV, bind1_pure, count_eq b3, if_pos hU, bind1_pure, count_eq (by exact W64.xor), if_pos hX, bind1_pure, bind1_pure, bind1_pure]
  simp only
  generalize popI (List.zipWith (iand .u64) a.Words b.Words) = c1 at *
  generalize popI (List.zipWith (ior .u64) a.Words b.Words) = c2 at *
  generalize popI (List.zipWith (ixor .u64) a.Words b.Words) = c3 at *
  rw [wi64 (by omega) (by omega), wi64 (by omega) (by omega), wi64 (by omega) (by omega), if_pos (by simp; omega), if_pos (by simp; omega), same_eq (by simp only; omega), bind1_pure]
  unfold rl_law09_BitsetCounts_k6
  simp [cmpB_zero]
end Go.Proofs.Yteholdifeilkkaa
