/- The plain law of QualityModel. -/
import Derived.Test.YtilpgjoidgfbiaaEq
import Derived.Test.YtilpgjoidgfbiaaGL4
namespace Go.Proofs.Ytilpgjoidgfbiaa
open Vm
set_option linter.unusedVariables false
set_option linter.unusedSimpArgs false
theorem shr_mono {a a' b : Int} (ha : 1 ≤ a) (hb : 1 ≤ b) (h : a ≤ a') : shr_ a b ≤ shr_ a' b := by
  have h1 := shr_in ha hb
  unfold shr_ at h1 ⊢
  generalize hq : (a * 2147483648 + (a + b)) / (2 * (a + b)) = q at h1 ⊢
  have h2 : q * (2 * (a + b)) ≤ a * 2147483648 + (a + b) := by rw [← hq]; exact Int.ediv_mul_le _ (by omega)
  rw [Int.le_ediv_iff_mul_le (by omega)]
  have h3 : q * (2 * (a' - a)) ≤ 1073741824 * (2 * (a' - a)) := Int.mul_le_mul_of_nonneg_right h1.2 (by omega)
  have h4 : q * (2 * (a' + b)) = q * (2 * (a + b)) + q * (2 * (a' - a)) := by rw [← Int.mul_add]; congr 1; omega
  omega
theorem twos : ∀ (n : Nat), digs n (((3 ^ n : Nat) : Int) - 1) = List.replicate n 2
  | 0 => rfl
  | n + 1 => by
    have h : 1 ≤ 3 ^ n := Nat.pow_pos (by decide)
    rw [digs, List.replicate_succ, Nat.pow_succ]
    generalize hq : 3 ^ n = q at h
    rw [show (((q * 3 : Nat) : Int) - 1) % 3 = 2 by omega, show (((q * 3 : Nat) : Int) - 1) / 3 = (q : Int) - 1 by omega, ← hq, twos n]
theorem wprod_mono {s : Int} (s0 : 1 ≤ s) {l l' : List Int} {N : Nat} : ∀ n, n ≤ N → (∀ i, i < n → 1 ≤ l.getD i 0 ∧ l.getD i 0 ≤ l'.getD i 0) → 1 ≤ wprod s l (List.replicate N 2) n ∧ wprod s l (List.replicate N 2) n ≤ wprod s l' (List.replicate N 2) n
  | 0, _, _ => ⟨s0, Int.le_refl _⟩
  | n + 1, hn, h => by
    have ih := wprod_mono (N := N) s0 n (by omega) fun i (hi : i < n) => h i (Nat.lt_succ_of_lt hi)
    have h1 := h n (Nat.lt_succ_self n)
    have hf : (List.replicate N (2 : Int)).getD n 0 = 2 := by
      rw [List.getD_eq_getElem?_getD, List.getElem?_replicate, if_pos (by omega)]; rfl
    have f1 : fac 2 (l.getD n 0) = l.getD n 0 := rfl
    have f2 : fac 2 (l'.getD n 0) = l'.getD n 0 := rfl
    simp only [wprod, hf, f1, f2]
    refine ⟨?_, Int.mul_le_mul ih.2 h1.2 (by omega) (by omega)⟩
    have := Int.mul_le_mul ih.1 h1.1 (by omega) (by omega)
    omega
theorem qmodel_law (p : List Int) (q : Int) (hq : IntKind.u16.min ≤ q ∧ q ≤ IntKind.u16.max) : rl_law33_QualityModel p q = some true := by
  have hq0 : 0 ≤ q ∧ q ≤ 65535 := hq
  unfold rl_law33_QualityModel
  rw [awake33]
  simp only [Option.bind_some, Bool.not_true, Bool.false_eq_true, if_false, rl_make_Few]
  by_cases hp : p.length ≤ 400
  rotate_left
  · rw [decide_eq_false (by omega : ¬ ((p.length : Nat) : Int) ≤ 400)]
    simp only [Bool.not_false, rl_law33_QualityModel_k1, if_true, awake33, Option.bind_some]
  rw [decide_eq_true (by omega : ((p.length : Nat) : Int) ≤ 400)]
  simp only [Bool.not_true, rl_law33_QualityModel_k1, Bool.false_eq_true, if_false]
  obtain ⟨d, he, hd⟩ := new_yes hp
  rw [he]; clear he; simp only [Option.bind_some]
  obtain ⟨x, d1, he, x0, x1, hd1⟩ := next_yes hd (n := 3) (by decide) (by decide)
  rw [he]; clear he; first | rw [bind2_pure] | rw [bind3_pure] | rw [bind4_pure] | rw [bind1_pure]
  obtain ⟨n, rfl⟩ := Int.eq_ofNat_of_zero_le x0
  have w1 : IntKind.i64.wrap (1 + (n : Int)) = ((n + 1 : Nat) : Int) := by rw [wi64 (by omega) (by omega)]; omega
  rw [w1]
  obtain ⟨m, d2, he, m1, hm, hd2⟩ := model_yes hd1 (n := n + 1) (by omega) (by omega)
  rw [he]; clear he; first | rw [bind2_pure] | rw [bind3_pure] | rw [bind4_pure] | rw [bind1_pure]
  have hloop := loop_for (step := fun v : Int × Int => rl_law33_QualityModel_l2 n v.1 v.2) (fun i => (((3 ^ i : Nat) : Int) - 1, (i : Int))) (n + 1) (((3 ^ (n + 1) : Nat) : Int) - 1) (fun i hi => by
      have h3 := (pow3_le (i := i) (by omega)).2
      have h4 := (pow3_le (i := i) (by omega)).1
      simp only [rl_law33_QualityModel_l2, w1]
      rw [Nat.pow_succ]
      generalize 3 ^ i = r at h3 h4 ⊢
      rw [if_pos (by simp only [decide_eq_true_eq]; omega), wi64 (n := ((r : Int) - 1) * 3) (by omega) (by omega), wi64 (n := ((r : Int) - 1) * 3 + 2) (by omega) (by omega), wi64 (n := (i : Int) + 1) (by omega) (by omega)]
      rw [show ((r : Int) - 1) * 3 + 2 = ((r * 3 : Nat) : Int) - 1 by omega]
      rfl) (by
      simp only [rl_law33_QualityModel_l2, w1]
      rw [if_neg (by simp)]) (s := (0, 0)) rfl
  rw [hloop, bind1_pure]
  have hp3 := (pow3_le (i := n + 1) (by omega)).1
  have hc0 : CN m ([] : List S_api_Candidate) := fun c h => absurd h List.not_mem_nil
  have hpn : PN m (((3 ^ (n + 1) : Nat) : Int) - 1) := by unfold PN; rw [m1]; omega
  have hc1 : CN m [(⟨(⟨0, 0⟩ : S_api_Ref), (⟨0, 0⟩ : S_api_Ref), ((3 ^ (n + 1) : Nat) : Int) - 1, 0⟩ : S_api_Candidate)] := fun c h => by rw [List.mem_singleton.1 h]; exact hpn
  rw [of_est hm hc1 hc0 (by simp) (by simp), bind2_pure]
  obtain ⟨y, d3, he, y0, y1, hd3⟩ := next_yes hd2 (n := ((n + 1 : Nat) : Int)) (by omega) (by omega)
  rw [he]; clear he; first | rw [bind2_pure] | rw [bind3_pure] | rw [bind4_pure] | rw [bind1_pure]
  obtain ⟨k, rfl⟩ := Int.eq_ofNat_of_zero_le y0
  have hkl : k < m.Match.length := by omega
  obtain ⟨h1, h2, h3, h4, h5, h6⟩ := id hm
  have hpk := h5 k hkl
  unfold prob at hpk
  rw [if_pos y0, if_pos (by omega), Int.toNat_natCast, Nat.zero_add, wi64 (n := q) (by omega) (by omega), wi64 (n := m.Match.getD k 0 + q) (by omega) (by omega)]
  obtain ⟨v, hv, v0, v1⟩ : ∃ v, (if m.Match.getD k 0 + q < 65535 then m.Match.getD k 0 + q else 65535) = v ∧ m.Match.getD k 0 ≤ v ∧ v ≤ 65535 := by
    refine ⟨_, rfl, ?_, ?_⟩ <;> split <;> omega
  rw [hv]
  have hg : ∀ i, i < m.Match.length → (m.Match.set k v).getD i 0 = if k = i then v else m.Match.getD i 0 := fun i hi => by
    simp only [List.getD_eq_getElem?_getD, List.getElem?_set]
    split
    · simp_all
    · rfl
  have hm2 : MV ⟨m.Prior, m.Match.set k v, m.Random⟩ := by
    refine ⟨by simp only [List.length_set]; exact h1, by simp only [List.length_set]; exact h2, by simp only [List.length_set]; exact h3, h4, fun i hi => ?_, fun i hi => ?_⟩
    · simp only [List.length_set] at hi
      simp only
      rw [hg i hi]
      split
      · unfold prob; omega
      · exact h5 i hi
    · simp only [List.length_set] at hi
      exact h6 i hi
  have hpn2 : PN ⟨m.Prior, m.Match.set k v, m.Random⟩ (((3 ^ (n + 1) : Nat) : Int) - 1) := by unfold PN; simp only [List.length_set]; exact hpn
  have hc2 : CN ⟨m.Prior, m.Match.set k v, m.Random⟩ [(⟨(⟨0, 0⟩ : S_api_Ref), (⟨0, 0⟩ : S_api_Ref), ((3 ^ (n + 1) : Nat) : Int) - 1, 0⟩ : S_api_Candidate)] := fun c h => by rw [List.mem_singleton.1 h]; exact hpn2
  have hc3 : CN ⟨m.Prior, m.Match.set k v, m.Random⟩ ([] : List S_api_Candidate) := fun c h => absurd h List.not_mem_nil
  rw [of_est hm2 hc2 hc3 (by simp) (by simp), bind2_pure, if_pos (by decide), if_pos (by decide), sumS_cons, sumS_cons, sumS_nil, sumS_nil]
  have hA := wprod_mono (s := m.Prior) h4.1 (l := m.Match) (l' := m.Match.set k v) (N := n + 1) (n + 1) (Nat.le_refl _) (fun i hi => by
    have := h5 i (by omega)
    unfold prob at this
    rw [hg i (by omega)]
    split
    · rename_i e; subst e; omega
    · omega)
  have e1 : wA m (((3 ^ (n + 1) : Nat) : Int) - 1) = wprod m.Prior m.Match (List.replicate (n + 1) 2) (n + 1) := by unfold wA; rw [m1, twos]
  have e2 : wA ⟨m.Prior, m.Match.set k v, m.Random⟩ (((3 ^ (n + 1) : Nat) : Int) - 1) = wprod m.Prior (m.Match.set k v) (List.replicate (n + 1) 2) (n + 1) := by
    unfold wA; simp only [List.length_set]; rw [m1, twos]
  have e3 : wB ⟨m.Prior, m.Match.set k v, m.Random⟩ (((3 ^ (n + 1) : Nat) : Int) - 1) = wB m (((3 ^ (n + 1) : Nat) : Int) - 1) := by
    unfold wB; simp only [List.length_set]
  have hab := wAB_in hm (((3 ^ (n + 1) : Nat) : Int) - 1)
  have hsh : sh m (((3 ^ (n + 1) : Nat) : Int) - 1) ≤ sh ⟨m.Prior, m.Match.set k v, m.Random⟩ (((3 ^ (n + 1) : Nat) : Int) - 1) := by
    unfold sh
    rw [e3]
    exact shr_mono hab.1 hab.2.2.1 (by rw [e1, e2]; exact hA.2)
  rw [if_pos (by simp only [decide_eq_true_eq]; omega)]
  unfold rl_law33_QualityModel_k3
  rw [decide_eq_true (by simp only []; omega)]
end Go.Proofs.Ytilpgjoidgfbiaa
