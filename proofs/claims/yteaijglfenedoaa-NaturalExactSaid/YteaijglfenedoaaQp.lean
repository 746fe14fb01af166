/- Natural numbers: the reference's decimal text, and powers. -/
import Derived.Test.YteaijglfenedoaaQn
import Derived.Test.YteaijglfenedoaaQm
import Derived.Test.YteaijglfenedoaaQe
namespace Go.Proofs.Yteaijglfenedoaa
set_option linter.unusedVariables false
set_option linter.unusedSimpArgs false
open Vm
theorem ref10_trim_r_eq {p : List Int} {n : Nat} (hn : n ≤ p.length) (hl : p.length < 1000000) : ∃ m, rl_ref10_trim_r p 0 n = some ((0, m), p) ∧ m ≤ n ∧ p.take m = trimL (p.take n) := by
  have hL : (p.take n).length = n := by rw [List.length_take]; omega
  obtain ⟨m, h1, h2, h3⟩ := trimN_of (xs := p.take n) (by omega) (step := fun v : Nat => rl_ref10_trim_r_l30 p 0 v) (fun x hx => by
    rw [hL] at hx
    simp only [rl_ref10_trim_r_l30]
    by_cases c : 0 < x
    · have hg : (p.take n).getD (x - 1) 0 = p.getD (x - 1) 0 := by
        simp only [List.getD_eq_getElem?_getD]
        rw [List.getElem?_take_of_lt (by omega)]
      rw [if_pos (by simp; omega), wi64 (by omega) (by omega), if_pos (by omega), if_pos (by omega), show ((x : Int) - 1).toNat = x - 1 by omega, if_pos (by omega), Nat.zero_add, bind1_pure, hg]
      unfold rl_ref10_trim_r_k34
      by_cases c2 : p.getD (x - 1) 0 = 0
      · rw [if_pos (by simpa using c2), wi64 (by omega) (by omega), if_pos (by omega), show ((x : Int) - 1).toNat = x - 1 by omega, if_pos (by omega), if_pos ⟨c, c2⟩]
      · rw [if_neg (by simpa using c2), if_neg (fun h => c2 h.2)]
    · rw [if_neg (by simp; omega), if_neg (fun h => c h.1)]
      unfold rl_ref10_trim_r_k34
      rw [if_neg (by simp)])
  rw [hL] at h1 h2
  refine ⟨m, ?_, h2, ?_⟩
  · unfold rl_ref10_trim_r
    rw [h1, bind1_pure]
  · rw [List.take_take, show min m n = m by omega] at h3
    exact h3
theorem ref10_ten_loop {l : List Int} (hu : U32 l) (hl : l.length < 100000) {n : Nat} (hn : n ≤ l.length) : ∃ t, loop (fun v : List Int × Int × Int => rl_ref10_Text_l18 0 n v.1 v.2.1 v.2.2) (l, 0, (n : Int) - 1) = some (t, val (l.take n) % 10) ∧ U32 t ∧ t.length = l.length ∧ val (t.take n) = val (l.take n) / 10 := by
  obtain ⟨⟨t, r⟩, h1, h2, h3, h4, h5⟩ := loop_of (step := fun v : List Int × Int × Int => rl_ref10_Text_l18 0 n v.1 v.2.1 v.2.2)
    (fun v => ∃ k : Nat, v.2.2 = (k : Int) - 1 ∧ k ≤ n ∧ U32 v.1 ∧ v.1.length = l.length ∧ 0 ≤ v.2.1 ∧ v.2.1 < 10 ∧ (val (v.1.take n) - val (l.take k)) * 10 + v.2.1 * bp k = val (l.take n) - val (l.take k) ∧ ∀ j, j < k → v.1.getD j 0 = l.getD j 0)
    (fun v => (v.2.2 + 1).toNat) (fun t => U32 t.1 ∧ t.1.length = l.length ∧ t.2 = val (l.take n) % 10 ∧ val (t.1.take n) = val (l.take n) / 10) (by
    rintro ⟨x, r, k1⟩ ⟨k, e1, e2, e3, e4, e5, e6, e7, e8⟩
    simp only at e1 e3 e4 e5 e6 e7 e8
    subst e1
    simp only [rl_ref10_Text_l18]
    cases k with
    | zero =>
      right
      rw [if_neg (by simp)]
      simp only [List.take_zero, val, bp] at e7
      exact ⟨_, rfl, e3, e4, by simp only; omega, by simp only; omega⟩
    | succ k =>
      left
      have hk := e8 k (by omega)
      have hg := hu.get k
      have hvt := val_takeA l k
      have hxt : (x.take n).length = n := by rw [List.length_take]; omega
      have hxg : (x.take n).getD k 0 = x.getD k 0 := by
        simp only [List.getD_eq_getElem?_getD]
        rw [List.getElem?_take_of_lt (by omega)]
      have hor : ior .u64 (ishl .u64 r 32) (x.getD k 0) = r * 4294967296 + x.getD k 0 := by
        have h := shl_u64 r (s := 32) (by decide)
        rw [show ((32 : Nat) : Int) = 32 from rfl] at h
        rw [h, show r * ((2 ^ 32 : Nat) : Int) % 18446744073709551616 = r * ((2 ^ 32 : Nat) : Int) by
          show r * 4294967296 % 18446744073709551616 = r * 4294967296
          omega]
        have := (or_u64 (a := r) (b := x.getD k 0) (i := 32) e5 (by omega) (show x.getD k 0 < 4294967296 by omega) (show r * 4294967296 + x.getD k 0 < 18446744073709551616 by omega)).2
        rw [this]; rfl
      rw [if_pos (by simp only [decide_eq_true_eq]; omega), if_pos (by omega), if_pos (by omega), show (((k + 1 : Nat) : Int) - 1).toNat = k by omega, Nat.zero_add, if_pos (by omega), wu64 (n := x.getD k 0) (by omega) (by omega), hor, bind1_pure, Int.tdiv_eq_ediv_of_nonneg (by omega), Int.tmod_eq_emod_of_nonneg (by omega), wi64 (by omega) (by omega), wu64 (by omega) (by omega), wu32 (by omega) (by omega)]
      refine ⟨_, rfl, ⟨k, by simp only; omega, by omega, e3.set _ (by omega), by simp only [List.length_set]; exact e4, by simp only; omega, by simp only; omega, ?_, fun j hj => ?_⟩, by simp only; omega⟩
      · simp only
        rw [List.take_set, val_set (by omega), hxg, hk]
        rw [hvt, bp_succ] at e7
        have hz : r * 4294967296 + l.getD k 0 = 10 * ((r * 4294967296 + l.getD k 0) / 10) + (r * 4294967296 + l.getD k 0) % 10 := by omega
        generalize (r * 4294967296 + l.getD k 0) / 10 = q at hz ⊢
        generalize (r * 4294967296 + l.getD k 0) % 10 = s at hz ⊢
        generalize l.getD k 0 = g at hz e7 ⊢
        have hs : s = r * 4294967296 + g - 10 * q := by omega
        subst hs
        grind
      · simp only
        rw [getD_set (by omega), if_neg (by omega)]
        exact e8 j (by omega)) (l, 0, (n : Int) - 1) ⟨n, by simp, Nat.le_refl _, hu, rfl, Int.le_refl _, by simp, by simp, fun _ _ => rfl⟩
  simp only at h4
  exact ⟨t, by rw [h1, h4], h2, h3, h5⟩
theorem ref10_text_eq {l : List Int} (hu : U32 l) (hl : l.length < 100000) : rl_ref10_Text l = some (textS l) := by
  unfold rl_ref10_Text textS
  rw [rl_ref10_valid_eq (by omega), bind1_pure]
  by_cases h : VN l
  · have hc := h.canon hu
    have v0 := val_nonneg hu
    have vlt : val l < bp 64 := by have := val_lt hu; have := bp_le h.1; omega
    rw [decide_eq_true h, if_neg (by simp), if_pos h]
    by_cases h0 : l = []
    · subst h0
      rw [if_pos (by simp)]
      simp only [val, decL]
      rw [if_pos trivial]
      rfl
    · have hp := hc.pos h0
      have hlen : l.length ≠ 0 := fun e => h0 (List.length_eq_zero_iff.1 e)
      rw [if_neg (by simp only [beq_iff_eq]; omega), if_pos (by omega), List.nil_append]
      have hb : bp 64 ≤ 10 ^ 700 := by decide +kernel
      have hdl := dlow_len 700 (val l) (by omega)
      obtain ⟨t, h1, h2⟩ := loop_of (step := fun v : ByteArray × List Int × Nat × Nat => rl_ref10_Text_l16 v.1 v.2.1 v.2.2.1 v.2.2.2)
        (fun v => ∃ (E : List Int) (w : Int), v.1 = strOf E.reverse ∧ B8 E ∧ 0 ≤ w ∧ E ++ dlow w = dlow (val l) ∧ v.2.2.1 = 0 ∧ U32 v.2.1 ∧ v.2.1.length = l.length ∧ v.2.2.2 ≤ l.length ∧ v.2.1.take v.2.2.2 = nat32 w) (fun v => (val (v.2.1.take v.2.2.2)).toNat) (fun t => t = strOf (dlow (val l)).reverse) (by
        rintro ⟨out, x, o, n⟩ ⟨E, w, e1, e2, e3, e4, e5, e6, e7, e8, e9⟩
        simp only at e1 e5 e6 e7 e8 e9
        subst e1; subst e5
        have hxt : (x.take n).length = n := by rw [List.length_take]; omega
        simp only [rl_ref10_Text_l16]
        by_cases c : n = 0
        · right
          subst c
          rw [if_neg (by simp)]
          rw [List.take_zero] at e9
          have hw := (nat32_nil e3).1 e9.symm
          subst hw
          rw [dlow_zero, List.append_nil] at e4
          exact ⟨_, rfl, by rw [e4]⟩
        · left
          obtain ⟨y, k1, k2, k3, k4⟩ := ref10_ten_loop e6 (by omega) (n := n) (by omega)
          rw [e9, nat32_val e3] at k1 k4
          have hw : 0 < w := by
            have hnz : nat32 w ≠ [] := fun e => by rw [e] at e9; rw [e9] at hxt; simp at hxt; omega
            have : w ≠ 0 := fun e => hnz ((nat32_nil e3).2 e)
            omega
          have hEl : E.length ≤ 700 := by
            have := congrArg List.length e4
            rw [List.length_append] at this
            omega
          obtain ⟨m, m1, m2, m3⟩ := ref10_trim_r_eq (p := y) (n := n) (by omega) (by omega)
          have hd8 : B8 [48 + w % 10] := B8.cons (by omega) B8.nil
          rw [if_pos (by simp; omega), wi64 (by omega) (by omega), k1, bind2_pure, wu64 (by omega) (by omega), wu8 (by omega) (by omega), if_pos (by rw [strOf_size, strOf_size, List.length_reverse, maxStr]; simp; omega), m1, bind2_pure, strOf_append hd8 (B8.reverse e2)]
          have hm : y.take m = nat32 (w / 10) := by rw [m3, trimL_nat (k2.take n), k4]
          refine ⟨_, rfl, ⟨E ++ [48 + w % 10], w / 10, by simp, B8.append e2 hd8, by omega, ?_, rfl, k2, by simp only; omega, by simp only; omega, hm⟩, ?_⟩
          · rw [List.append_assoc, ← e4, dlow_pos hw]; rfl
          · simp only
            rw [hm, e9, nat32_val (by omega), nat32_val e3]; omega) (ByteArray.mk #[], l, 0, l.length) ⟨[], val l, rfl, B8.nil, v0, rfl, rfl, hu, rfl, Nat.le_refl _, by rw [List.take_length]; exact (nat32_of hc).symm⟩
      rw [h1, h2, bind1_pure]
      unfold decL
      rw [if_neg (by omega)]
  · rw [decide_eq_false h, if_pos (by simp), if_neg h]
    rfl
end Go.Proofs.Yteaijglfenedoaa
