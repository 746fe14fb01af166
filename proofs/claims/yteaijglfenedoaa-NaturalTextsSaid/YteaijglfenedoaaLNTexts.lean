/- The plain law of NaturalTexts. -/
import Derived.Test.YteaijglfenedoaaQm
import Derived.Test.YteaijglfenedoaaQe
import Derived.Test.YteaijglfenedoaaDk
import Derived.Test.YteaijglfenedoaaGE0
import Derived.Test.YteaijglfenedoaaGL6
namespace Go.Proofs.Yteaijglfenedoaa
set_option linter.unusedVariables false
open Vm
theorem awake10 : rl_law10_awake = some true := rl_law10_awake_le 200 _ (by kernel_rfl)
/-- decimal digits, read -/
def hor (l : List Int) : Int := l.foldl (fun a d => a * 10 + (d - 48)) 0
theorem hor_snoc (l : List Int) (x : Int) : hor (l ++ [x]) = hor l * 10 + (x - 48) := by
  unfold hor
  rw [List.foldl_append]; rfl
theorem hor_ge : ∀ (k : List Int) (a : Int), (∀ x ∈ k, 48 ≤ x) → 0 ≤ a → a ≤ k.foldl (fun a d => a * 10 + (d - 48)) a := by
  intro k
  induction k with
  | nil => intro a _ _; exact Int.le_refl _
  | cons x k ih =>
    intro a h ha
    have hx := h x (List.mem_cons_self ..)
    have := ih (a * 10 + (x - 48)) (fun y hy => h y (List.mem_cons_of_mem _ hy)) (by omega)
    rw [List.foldl_cons]; omega
theorem hor_take {l : List Int} (h : ∀ x ∈ l, 48 ≤ x) (i : Nat) : 0 ≤ hor (l.take i) ∧ hor (l.take i) ≤ hor l := by
  have h0 : 0 ≤ hor (l.take i) := hor_ge _ 0 (fun x hx => h x (List.mem_of_mem_take hx)) (by decide)
  refine ⟨h0, ?_⟩
  have := hor_ge (l.drop i) (hor (l.take i)) (fun x hx => h x (List.mem_of_mem_drop hx)) h0
  unfold hor at this ⊢
  rw [← List.foldl_append, List.take_append_drop] at this
  exact this
theorem hor_next {l : List Int} {i : Nat} (h : i < l.length) : hor (l.take (i + 1)) = hor (l.take i) * 10 + (l.getD i 0 - 48) := by
  rw [← hor_snoc, List.take_add_one, List.getD_eq_getElem?_getD, List.getElem?_eq_getElem h]; rfl
theorem dlow_hor : ∀ (n : Nat) (v : Int), 0 ≤ v → v ≤ n → hor (dlow v).reverse = v ∧ (0 < v → (dlow v).reverse.getD 0 0 ≠ 48 ∧ (dlow v).reverse ≠ []) := by
  intro n
  induction n with
  | zero =>
    intro v h0 h1
    have : v = 0 := by omega
    subst this
    exact ⟨rfl, fun h => absurd h (by decide)⟩
  | succ n ih =>
    intro v h0 h1
    by_cases hp : 0 < v
    · obtain ⟨i1, i2⟩ := ih (v / 10) (by omega) (by omega)
      rw [dlow_pos hp, List.reverse_cons, hor_snoc, i1]
      refine ⟨by omega, fun _ => ⟨?_, by simp⟩⟩
      by_cases hq : 0 < v / 10
      · obtain ⟨j1, j2⟩ := i2 hq
        rw [List.getD_eq_getElem?_getD, List.getElem?_append_left (List.length_pos_iff.2 j2), ← List.getD_eq_getElem?_getD]
        exact j1
      · have h10 : v / 10 = 0 := by omega
        rw [h10, dlow_zero]
        show 48 + v % 10 ≠ 48
        omega
    · have : v = 0 := by omega
      subst this
      exact ⟨rfl, fun h => absurd h (by decide)⟩
theorem decL_facts {v : Int} (h0 : 0 ≤ v) : hor (decL v) = v ∧ (∀ x ∈ decL v, 48 ≤ x ∧ x ≤ 57) ∧ decL v ≠ [] ∧ (1 < (decL v).length → (decL v).getD 0 0 ≠ 48) := by
  unfold decL
  by_cases c : v = 0
  · rw [if_pos c]
    refine ⟨c ▸ rfl, fun x hx => ?_, by simp, fun h => absurd h (by decide)⟩
    have := List.mem_singleton.1 hx
    omega
  · rw [if_neg c]
    obtain ⟨h1, h2⟩ := dlow_hor v.toNat v h0 (by omega)
    obtain ⟨h3, h4⟩ := h2 (by omega)
    exact ⟨h1, fun x hx => dlowF_mem _ _ x (List.mem_reverse.1 hx), h4, fun _ => h3⟩
theorem texts_law (p : List Int) : rl_law10_NaturalTexts p = some true := by
  unfold rl_law10_NaturalTexts
  rw [awake10]
  simp only [Option.bind_some, Bool.not_true, Bool.false_eq_true, if_false, rl_make_Few]
  by_cases hp : p.length ≤ 400
  rotate_left
  · rw [decide_eq_false (by omega : ¬ ((p.length : Nat) : Int) ≤ 400)]
    simp only [Bool.not_false, rl_law10_NaturalTexts_k4, if_true, awake10, Option.bind_some]
  rw [decide_eq_true (by omega : ((p.length : Nat) : Int) ≤ 400)]
  simp only [Bool.not_true, rl_law10_NaturalTexts_k4, Bool.false_eq_true, if_false]
  obtain ⟨d, he, hd⟩ := new_yes hp
  rw [he]; clear he; simp only [Option.bind_some]
  obtain ⟨v, d1, he, v0, v1, hd1⟩ := natural_yes hd (n := 8) 8 rfl (by decide)
  rw [he]; clear he; first | rw [bind2_pure] | rw [bind3_pure] | rw [bind4_pure] | rw [bind1_pure]
  have v64 := bp_lt v1 (show 8 ≤ 64 by decide)
  obtain ⟨h1, h2, h3, h4⟩ := decL_facts v0
  have hb := decL_b8 v
  have hl : (decL v).length ≤ 100 := by
    have hlt : v < 10 ^ 78 := Int.lt_of_lt_of_le v1 (by decide +kernel)
    have := dlow_len 78 v hlt
    unfold decL
    split
    · decide
    · rw [List.length_reverse]; omega
  rw [natural_text_eq (nat32_u32 v0) (nlen v0 v64), textS, if_pos ((vn_iff v0).2 v64), nat32_val v0, bind2_pure, if_neg (by simp)]
  generalize decL v = L at h1 h2 h3 h4 hb hl ⊢
  have hk : rl_law10_NaturalTexts_k8 (nat32 v) (strOf L) false = some true := by
    unfold rl_law10_NaturalTexts_k8
    rw [if_neg (by simp)]
    obtain ⟨t, k1, k2⟩ := loop_inv (step := fun v : List Int × Int => rl_law10_NaturalTexts_l124 (strOf L) v.1 v.2) L.length (fun i s => s.2 = (i : Int) ∧ s.1 = nat32 (hor (L.take i))) (fun t => t = .inl (nat32 v)) (fun i hi => by
      rintro ⟨x, y⟩ ⟨e1, e2⟩
      simp only at e1 e2
      subst e1; subst e2
      left
      have hg : (((strOf L).data.toList.getD i 0).toNat : Int) = L.getD i 0 := by rw [str_at, bytesL_strOf hb]
      have hd := h2 (L.getD i 0) (by rw [List.getD_eq_getElem?_getD, List.getElem?_eq_getElem hi]; exact List.getElem_mem hi)
      obtain ⟨w0, w1⟩ := hor_take (fun x hx => (h2 x hx).1) (l := L) i
      have hn := hor_next hi
      generalize L.getD i 0 = g at hg hd hn
      generalize hor (L.take i) = w at w0 w1 hn ⊢
      have w8 : w < bp 8 := by omega
      have wm := bp_mul w0 w8 (show (0 : Int) ≤ 10 by decide) (show 10 < bp 1 by decide)
      have g9 : g - 48 < bp (8 + 1) := Int.lt_of_le_of_lt (show g - 48 ≤ 10 by omega) (by decide +kernel)
      simp only [rl_law10_NaturalTexts_l124]
      rw [if_pos (by rw [strOf_size]; simp; omega), if_pos (by omega), if_pos (by rw [strOf_size]; omega), Int.toNat_natCast, hg, if_neg (by simp only [decide_eq_true_eq]; omega), show decide (g > 57) = false from decide_eq_false (by omega)]
      unfold rl_law10_NaturalTexts_k136
      have wu : IntKind.u8.wrap (g - 48) = g - 48 := by
        simp only [IntKind.wrap, IntKind.bits, IntKind.signed]
        simp
        omega
      rw [if_neg (by simp), show ([10] : List Int) = nat32 10 from rfl, nmul w0 (by decide) w8 (show (10 : Int) < bp 1 by decide) (by decide), bind2_pure, if_pos (by omega), if_pos (by rw [strOf_size]; omega), Int.toNat_natCast, hg, wu, wi64 (by omega) (by omega), natural_fromInt_eq (by omega), if_neg (by omega), bind2_pure, nadd (by omega) (by omega) wm g9 (by decide), bind2_pure]
      simp only [rl_law10_NaturalTexts_k140]
      rw [if_neg (by simp), if_neg (by simp), if_neg (by simp), wi64 (by omega) (by omega)]
      exact ⟨_, rfl, by simp only; omega, by simp only; rw [hn]⟩) (by
      rintro ⟨x, y⟩ ⟨e1, e2⟩
      simp only at e1 e2
      subst e1; subst e2
      simp only [rl_law10_NaturalTexts_l124]
      rw [if_neg (by rw [strOf_size]; simp), List.take_length, h1]
      exact ⟨_, rfl, rfl⟩) (s := ([], 0)) ⟨rfl, rfl⟩
    rw [k1, k2, bindE_l]
    unfold rl_law10_NaturalTexts_a141
    rw [nsame v0 v0 v64, bind1_pure]
    simp
  have hne : L.length ≠ 0 := fun e => h3 (List.length_eq_zero_iff.1 e)
  have hs : ¬ strOf L = ByteArray.mk #[] := fun e => by
    have := congrArg ByteArray.size e
    rw [strOf_size] at this
    exact hne this
  rw [str_eq, if_neg (by simpa using hs), show decide ((((strOf L).size : Nat) : Int) > 100) = false from decide_eq_false (by rw [strOf_size]; omega)]
  by_cases c : 1 < L.length
  · rw [if_pos (by rw [strOf_size]; simp; omega), if_pos (by rw [strOf_size]; omega), if_neg (by rw [str_at, bytesL_strOf hb, beq_iff_eq]; exact h4 c), hk]
  · rw [if_neg (by rw [strOf_size]; simp; omega), hk]
end Go.Proofs.Yteaijglfenedoaa
