/- The deck deals natural numbers. -/
import Derived.Test.YtnfikddgjkfflaaQd
import Derived.Test.YtnfikddgjkfflaaDk
namespace Go.Proofs.Ytnfikddgjkfflaa
set_option linter.unusedVariables false
set_option linter.unusedSimpArgs false
open Vm
theorem dnat_step {x9 : List Int} {i : Nat} {y : Int} (hi : (i : Int) < y) (hy : y ≤ 1000) {d : S_recordlinkmake_Deck} (hu : U32 x9) (hl : x9.length = i) (hd : DeckOk d) {x : Int} (hx : 0 ≤ x ∧ x < 4294967296) :
    ∃ s', rl_make_Deck_Natural_k2 x9 (y - i) x d.list d.at_ d.state = some (.inl s') ∧ s'.2.1 = y - ((i + 1 : Nat) : Int) ∧ U32 s'.1 ∧ s'.1.length = i + 1 ∧ DeckOk ⟨s'.2.2.1, s'.2.2.2.1, s'.2.2.2.2⟩ := by
  unfold rl_make_Deck_Natural_k2
  rw [if_pos (by simp; omega), wi64 (by omega) (by omega)]
  exact ⟨_, rfl, by simp only; omega, hu.append (U32.cons hx U32.nil), by simp [hl], hd⟩
theorem trimN_of {xs : List Int} (hn : xs.length < 1000000) {step : Nat → Option (Nat ⊕ Nat)} (hs : ∀ x : Nat, x ≤ xs.length → step x = if 0 < x ∧ xs.getD (x - 1) 0 = 0 then some (.inl (x - 1)) else some (.inr x)) : ∃ m, loop step xs.length = some m ∧ m ≤ xs.length ∧ xs.take m = trimL xs := by
  refine loop_of (step := step) (fun x => x ≤ xs.length ∧ trimL (xs.take x) = trimL xs) (fun x => x) (fun t => t ≤ xs.length ∧ xs.take t = trimL xs) ?_ xs.length ⟨Nat.le_refl _, by rw [List.take_length]⟩
  rintro x ⟨hl, hx⟩
  have e := hs x hl
  by_cases c : 0 < x ∧ xs.getD (x - 1) 0 = 0
  · left
    rw [if_pos c] at e
    refine ⟨_, e, ⟨by omega, ?_⟩, by omega⟩
    rw [← hx]
    have := take_snoc 0 (l := xs) (i := x - 1) (by omega)
    rw [c.2, show x - 1 + 1 = x by omega] at this
    rw [this, trimL_snoc_zero]
  · right
    rw [if_neg c] at e
    refine ⟨_, e, hl, ?_⟩
    rw [← hx, trimL_self]
    unfold NoZ
    by_cases h0 : x = 0
    · left; rw [h0]; rfl
    · right
      rw [List.length_take, Nat.min_eq_left hl]
      intro h
      have e2 : xs.getD (x - 1) 0 = (xs.take x).getD (x - 1) 0 := by
        simp only [List.getD_eq_getElem?_getD]
        rw [List.getElem?_take_of_lt (by omega)]
      exact c ⟨by omega, e2.trans h⟩
theorem natural_yes0 {d : S_recordlinkmake_Deck} (hd : DeckOk d) {n : Nat} (hn : n ≤ 64) : ∃ v d', rl_make_Deck_Natural d n = some (nat32 v, d') ∧ 0 ≤ v ∧ v < bp n ∧ DeckOk d' := by
  unfold rl_make_Deck_Natural
  rw [wi64 (by omega) (by omega)]
  obtain ⟨y, d1, he, y0, y1, hd1⟩ := next_yes hd (n := (n : Int) + 1) (by omega) (by omega)
  rw [he]; clear he; first | rw [bind2_pure] | rw [bind3_pure] | rw [bind4_pure] | rw [bind1_pure]
  obtain ⟨k, rfl⟩ := Int.eq_ofNat_of_zero_le y0
  obtain ⟨⟨xs, t1, t2, t3⟩, h1, h2, h3, h4⟩ := loop_inv (step := fun v : (List Int) × Int × (List Int) × Int × Int => rl_make_Deck_Natural_l1 v.1 v.2.1 v.2.2.1 v.2.2.2.1 v.2.2.2.2) k
    (fun i v => v.2.1 = (k : Int) - i ∧ U32 v.1 ∧ v.1.length = i ∧ DeckOk ⟨v.2.2.1, v.2.2.2.1, v.2.2.2.2⟩) (fun t => U32 t.1 ∧ t.1.length = k ∧ DeckOk ⟨t.2.1, t.2.2.1, t.2.2.2⟩) (by
    rintro i hi ⟨x9, x10, x11, x12, x13⟩ ⟨g0, g1, g2, g3⟩
    simp only at g0 g1 g2 g3
    subst g0
    left
    simp only [rl_make_Deck_Natural_l1]
    rw [if_pos (by simp; omega)]
    obtain ⟨w, e1, he, w0, w1, he1⟩ := word_yes g3
    rw [he]; clear he; first | rw [bind2_pure] | rw [bind3_pure] | rw [bind4_pure] | rw [bind1_pure]
    obtain ⟨b, e2, he, he2⟩ := one_yes he1 (n := 3) (by decide) (by decide)
    rw [he]; clear he; first | rw [bind2_pure] | rw [bind3_pure] | rw [bind4_pure] | rw [bind1_pure]
    cases b with
    | true =>
      rw [if_pos rfl]
      obtain ⟨u, e3, he, u0, u1, he3⟩ := next_yes he2 (n := 4) (by decide) (by decide)
      rw [he]; clear he; first | rw [bind2_pure] | rw [bind3_pure] | rw [bind4_pure] | rw [bind1_pure]
      rw [if_pos u0, if_pos (by simpa using u1)]
      refine dnat_step (by omega) (by omega) g1 g2 he3 ?_
      obtain ⟨j, rfl⟩ := Int.eq_ofNat_of_zero_le u0
      have : j = 0 ∨ j = 1 ∨ j = 2 ∨ j = 3 := by omega
      rcases this with rfl | rfl | rfl | rfl <;> decide
    | false =>
      rw [if_neg (by simp)]
      exact dnat_step (by omega) (by omega) g1 g2 he2 (by rw [wu32_eq]; omega)) (by
    rintro ⟨x9, x10, x11, x12, x13⟩ ⟨g0, g1, g2, g3⟩
    simp only at g0 g1 g2 g3
    subst g0
    refine ⟨(x9, x11, x12, x13), ?_, g1, g2, g3⟩
    simp only [rl_make_Deck_Natural_l1]
    rw [if_neg (by simp)]) (s := ([], (k : Int), d1.list, d1.at_, d1.state)) ⟨by simp, U32.nil, rfl, hd1⟩
  simp only at h2 h3 h4
  obtain ⟨m, m1, m2, m3⟩ := trimN_of (xs := xs) (by omega) (step := fun v => rl_make_Deck_Natural_l3 xs v) (fun x hx => by
    unfold rl_make_Deck_Natural_l3 rl_make_Deck_Natural_k4
    by_cases h0 : 0 < x
    · rw [if_pos (by simp; omega), wi64 (by omega) (by omega), if_pos (by omega), if_pos (by omega), show (((x : Nat) : Int) - 1).toNat = x - 1 by omega, Nat.zero_add, if_pos (by omega)]
      by_cases c : xs.getD (x - 1) 0 = 0
      · rw [if_pos (by rw [c]; rfl), if_pos (by omega), if_pos (by omega), if_pos ⟨h0, c⟩]
      · rw [if_neg (by simp only [beq_iff_eq]; exact c), if_neg (fun h => c h.2)]
    · rw [if_neg (by simp only [decide_eq_true_eq]; omega), if_neg (by simp), if_neg (fun h => h0 h.1)])
  rw [h1, bind4_pure, m1, bind1_pure, if_pos m2, m3, trimL_nat h2]
  have := bp_le (show k ≤ n by omega)
  have hv := val_lt h2
  rw [h3] at hv
  exact ⟨_, _, rfl, val_nonneg h2, by omega, h4⟩
theorem natural_yes {d : S_recordlinkmake_Deck} (hd : DeckOk d) {n : Int} (m : Nat) (hm : n = m) (hn : m ≤ 64) : ∃ v d', rl_make_Deck_Natural d n = some (nat32 v, d') ∧ 0 ≤ v ∧ v < bp m ∧ DeckOk d' := by
  subst hm; exact natural_yes0 hd hn
theorem vn_nat {v : Int} {n : Nat} (h0 : 0 ≤ v) (hv : v < bp n) (hn : n ≤ 64) : VN (nat32 v) := ⟨Nat.le_trans (nat32_len_le h0 hv) hn, (nat32_canon h0).2⟩
theorem vn_iff {v : Int} (h0 : 0 ≤ v) : VN (nat32 v) ↔ v < bp 64 := by
  unfold VN
  rw [nat32_len h0]
  exact ⟨fun h => h.1, fun h => ⟨h, (nat32_canon h0).2⟩⟩
/-- sums and products of numbers that are known -/
theorem addS_nat {v w : Int} (hv : 0 ≤ v) (hw : 0 ≤ w) (h : v < bp 64) (h' : w < bp 64) : addS (nat32 v) (nat32 w) = limN (v + w) := by
  unfold addS
  rw [if_pos ⟨(vn_iff hv).2 h, (vn_iff hw).2 h'⟩, nat32_val hv, nat32_val hw]
theorem mulS_nat {v w : Int} (hv : 0 ≤ v) (hw : 0 ≤ w) (h : v < bp 64) (h' : w < bp 64) : mulS (nat32 v) (nat32 w) = limN (v * w) := by
  unfold mulS
  rw [if_pos ⟨(vn_iff hv).2 h, (vn_iff hw).2 h'⟩, nat32_val hv, nat32_val hw]
theorem nlen {v : Int} (hv : 0 ≤ v) (h : v < bp 64) : (nat32 v).length < 100000 := by have := nat32_len_le hv h; omega
theorem bp_lt {v : Int} {n : Nat} (hv : v < bp n) (hn : n ≤ 64) : v < bp 64 := by have := bp_le hn; omega
theorem bp_mul {v w : Int} {m n : Nat} (h0 : 0 ≤ v) (hv : v < bp m) (h1 : 0 ≤ w) (hw : w < bp n) : v * w < bp (m + n) := by
  rw [bp_add]
  have := bp_pos m
  calc v * w ≤ v * bp n := Int.mul_le_mul_of_nonneg_left (by omega) h0
    _ < bp m * bp n := Int.mul_lt_mul_of_pos_right hv (bp_pos _)
theorem bp_sum {v w : Int} {n : Nat} (hv : v < bp n) (hw : w < bp n) : v + w < bp (n + 1) := by
  simp only [bp]; have := bp_pos n; omega
theorem nadd {v w : Int} {m : Nat} (hv : 0 ≤ v) (hw : 0 ≤ w) (h : v < bp m) (h' : w < bp m) (hm : m + 1 ≤ 64) : natural_Add (nat32 v) (nat32 w) = some (nat32 (v + w), 0) := by
  have h1 := bp_lt h (show m ≤ 64 by omega)
  have h2 := bp_lt h' (show m ≤ 64 by omega)
  have h3 := bp_lt (bp_sum h h') hm
  rw [natural_add_eq (nat32_u32 hv) (nat32_u32 hw) (nlen hv h1) (nlen hw h2), addS_nat hv hw h1 h2, limN, if_pos h3]
theorem nmul {v w : Int} {m n : Nat} (hv : 0 ≤ v) (hw : 0 ≤ w) (h : v < bp m) (h' : w < bp n) (hm : m + n ≤ 64) : natural_Mul (nat32 v) (nat32 w) = some (nat32 (v * w), 0) := by
  have h1 := bp_lt h (show m ≤ 64 by omega)
  have h2 := bp_lt h' (show n ≤ 64 by omega)
  have h3 := bp_lt (bp_mul hv h hw h') hm
  rw [natural_mul_eq (nat32_u32 hv) (nat32_u32 hw) (nlen hv h1) (nlen hw h2), mulS_nat hv hw h1 h2, limN, if_pos h3]
theorem nsame {v w : Int} (hv : 0 ≤ v) (hw : 0 ≤ w) (h : v < bp 64) : rl_ref10_Same (nat32 v) (nat32 w) = some (decide (v = w)) := by
  have := nlen hv h
  rw [same_eq (by omega)]
  congr 1
  exact decide_eq_decide.2 (nat32_inj hv hw)
end Go.Proofs.Ytnfikddgjkfflaa
