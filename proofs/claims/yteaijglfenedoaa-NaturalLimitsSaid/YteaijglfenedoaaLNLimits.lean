/- The plain law of NaturalLimits. -/
import Derived.Test.YteaijglfenedoaaQe
import Derived.Test.YteaijglfenedoaaQg
import Derived.Test.YteaijglfenedoaaGE0
import Derived.Test.YteaijglfenedoaaGL8
namespace Go.Proofs.Yteaijglfenedoaa
open Vm
theorem awake10 : rl_law10_awake = some true := rl_law10_awake_le 200 _ (by kernel_rfl)
theorem canon_snoc {l : List Int} {x : Int} (h : U32 l) (h0 : 1 ≤ x) (h1 : x < 4294967296) : Canon (l ++ [x]) := by
  refine ⟨h.append (U32.cons (by omega) U32.nil), .inr ?_⟩
  rw [List.getD_eq_getElem?_getD, List.getElem?_append_right (by simp)]
  simp; omega
theorem larger_yes {d : S_recordlinkmake_Deck} (hd : DeckOk d) : ∃ l d', rl_make_Deck_Larger d = some (l, d') ∧ Canon l ∧ 63 ≤ l.length ∧ l.length ≤ 64 ∧ DeckOk d' := by
  unfold rl_make_Deck_Larger
  obtain ⟨v, d1, he, v0, v1, hd1⟩ := natural_yes hd (n := 64) 64 rfl (by decide)
  rw [he]; clear he; first | rw [bind2_pure] | rw [bind3_pure] | rw [bind4_pure] | rw [bind1_pure]
  obtain ⟨⟨l, t1, t2, t3⟩, h1, h2⟩ := loop_of (step := fun v : (List Int) × (List Int) × Int × Int => rl_make_Deck_Larger_l2 v.1 v.2.1 v.2.2.1 v.2.2.2) (fun v => Canon v.1 ∧ v.1.length ≤ 64 ∧ DeckOk ⟨v.2.1, v.2.2.1, v.2.2.2⟩) (fun v => 64 - v.1.length)
    (fun t => Canon t.1 ∧ 63 ≤ t.1.length ∧ t.1.length ≤ 64 ∧ DeckOk ⟨t.2.1, t.2.2.1, t.2.2.2⟩) (by
    rintro ⟨x8, x9, x10, x11⟩ ⟨g0, g1, g2⟩
    simp only at g0 g1 g2
    simp only [rl_make_Deck_Larger_l2]
    obtain ⟨u, e1, he, u0, u1, he1⟩ := next_yes g2 (n := 2) (by decide) (by decide)
    rw [he]; clear he; first | rw [bind2_pure] | rw [bind3_pure] | rw [bind4_pure] | rw [bind1_pure]
    rw [wi64 (n := 64 - u) (by omega) (by omega)]
    by_cases c : ((x8.length : Nat) : Int) < 64 - u
    · left
      rw [if_pos (by simpa using c)]
      obtain ⟨w, e2, he, w0, w1, he2⟩ := next_yes he1 (n := 2147483648) (by decide) (by decide)
      rw [he]; clear he; first | rw [bind2_pure] | rw [bind3_pure] | rw [bind4_pure] | rw [bind1_pure]
      rw [if_pos (by simp; omega), wu32 (n := w) (by omega) (by omega), wu32 (by omega) (by omega)]
      exact ⟨_, rfl, ⟨canon_snoc g0.1 (by omega) (by omega), by simp; omega, he2⟩, by simp; omega⟩
    · right
      rw [if_neg (by simpa using c)]
      exact ⟨_, rfl, g0, by simp only; omega, g1, he1⟩) (nat32 v, d1.list, d1.at_, d1.state) ⟨nat32_canon v0, nat32_len_le v0 v1, hd1⟩
  rw [h1, bind4_pure]
  exact ⟨_, _, rfl, h2⟩
theorem limits_law (p : List Int) : rl_law10_NaturalLimits p = some true := by
  unfold rl_law10_NaturalLimits
  rw [awake10]
  simp only [Option.bind_some, Bool.not_true, Bool.false_eq_true, if_false, rl_make_Few]
  by_cases hp : p.length ≤ 400
  rotate_left
  · rw [decide_eq_false (by omega : ¬ ((p.length : Nat) : Int) ≤ 400)]
    simp only [Bool.not_false, rl_law10_NaturalLimits_k4, if_true, awake10, Option.bind_some]
  rw [decide_eq_true (by omega : ((p.length : Nat) : Int) ≤ 400)]
  simp only [Bool.not_true, rl_law10_NaturalLimits_k4, Bool.false_eq_true, if_false]
  obtain ⟨d, he, hd⟩ := new_yes hp
  rw [he]; clear he; simp only [Option.bind_some]
  obtain ⟨a, d1, he, ca, l0, l1, hd1⟩ := larger_yes hd
  rw [he]; clear he; first | rw [bind2_pure] | rw [bind3_pure] | rw [bind4_pure] | rw [bind1_pure]
  have hv : VN a := ⟨l1, ca.2⟩
  have v0 := val_nonneg ca.1
  have vlt := val_lt ca.1
  have vge : bp 62 ≤ val a := by
    rcases ca.ge with h | h
    · omega
    · have := bp_le (show 62 ≤ a.length - 1 by omega); omega
  have p62 := bp_pos 62
  have hm : ¬ val a * val a < bp 64 := by
    have h1 : bp 62 * bp 62 ≤ val a * val a := Int.mul_le_mul vge vge (Int.le_of_lt p62) v0
    rw [← bp_add] at h1
    have := bp_le (show 64 ≤ 62 + 62 by decide)
    omega
  rw [natural_mul_eq ca.1 ca.1 (by omega) (by omega), mulS, if_pos ⟨hv, hv⟩, limN, if_neg hm, bind2_pure, natural_add_eq ca.1 ca.1 (by omega) (by omega), addS, if_pos ⟨hv, hv⟩]
  rw [show limN (val a + val a) = ((limN (val a + val a)).1, (limN (val a + val a)).2) from rfl, bind2_pure, natural_sub_eq ca.1 ca.1 (by omega) (by omega), subS, if_pos ⟨hv, hv⟩, if_neg (by omega), bind2_pure, Int.sub_self]
  have e0 : nat32 0 = [] := rfl
  rw [e0]
  have main : ∀ b : Bool, (b = true ↔ ¬ val a + val a < bp 64) → rl_law10_NaturalLimits_k11 [] 1 (limN (val a + val a)).1 (limN (val a + val a)).2 [] 0 b = some true := by
    intro b hb
    unfold rl_law10_NaturalLimits_k11 rl_law10_NaturalLimits_k7 rl_law10_NaturalLimits_k9 limN
    by_cases c : val a + val a < bp 64
    · have : b = false := by
        cases b with
        | true => exact absurd c (hb.1 rfl)
        | false => rfl
      subst this
      have hn : nat32 (val a + val a) ≠ [] := fun e => by have := (nat32_nil (by omega)).1 e; omega
      have hlen : 0 < (nat32 (val a + val a)).length := by
        cases h : nat32 (val a + val a) with
        | nil => exact absurd h hn
        | cons _ _ => simp
      simp [c]
      omega
    · have := hb.2 c
      subst this
      simp [c]
  by_cases hl : a.length = 64
  · rw [if_pos (by simp [hl]), wi64 (by omega) (by omega), if_pos (by omega), if_pos (by omega), Nat.zero_add, show (((a.length : Nat) : Int) - 1).toNat = 63 by omega]
    refine main _ ?_
    have hs := val_split a (i := 63) (by omega)
    have hd63 := val_drop (l := a) (i := 63) (by omega)
    rw [val_drop_zero (l := a) (i := 63 + 1) (by omega)] at hd63
    have t0 := val_nonneg (ca.1.take 63)
    have t1 := val_lt (ca.1.take 63)
    rw [List.length_take, show min 63 a.length = 63 by omega] at t1
    have hg := ca.1.get 63
    rw [hd63] at hs
    have hb64 : bp 64 = 4294967296 * bp 63 := rfl
    have p63 := bp_pos 63
    simp only [decide_eq_true_eq, ge_iff_le]
    generalize a.getD 63 0 = t at *
    generalize bp 63 = P at *
    constructor
    · intro h
      have : P * 2147483648 ≤ P * t := Int.mul_le_mul_of_nonneg_left h (by omega)
      have e : P * (t + 4294967296 * 0) = P * t := by simp
      omega
    · intro h
      rcases Int.lt_or_le t 2147483648 with g | g
      · have : P * (t + 1) ≤ P * 2147483648 := Int.mul_le_mul_of_nonneg_left (by omega) (by omega)
        rw [Int.mul_add] at this
        have e : P * (t + 4294967296 * 0) = P * t := by simp
        omega
      · exact g
  · rw [if_neg (by simp; omega)]
    refine main false ?_
    have := bp_le (show a.length ≤ 63 by omega)
    have hb64 : bp 64 = 4294967296 * bp 63 := rfl
    have p63 := bp_pos 63
    simp
    omega
end Go.Proofs.Yteaijglfenedoaa
