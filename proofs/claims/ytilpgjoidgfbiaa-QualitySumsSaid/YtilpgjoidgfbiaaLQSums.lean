/- The plain law of QualitySums. -/
import Derived.Test.YtilpgjoidgfbiaaEq
import Derived.Test.YtilpgjoidgfbiaaGL6
namespace Go.Proofs.Ytilpgjoidgfbiaa
open Vm
set_option linter.unusedVariables false
set_option linter.unusedSimpArgs false
def EV (e : S_api_Estimate) : Prop := (0 ≤ e.False ∧ e.False ≤ 4398046511104) ∧ (0 ≤ e.Missed ∧ e.Missed ≤ 4398046511104) ∧ 0 ≤ e.True ∧ e.True ≤ 4398046511104
theorem fits_yes {x : Int} (h : 0 ≤ x ∧ x ≤ 4398046511104) : quality_fits x = some true := by
  unfold quality_fits
  rw [if_pos (by simp only [decide_eq_true_eq]; omega), decide_eq_true h.2]
  rfl
theorem check_est {e : S_api_Estimate} (h : EV e) : quality_Check e = some 0 := by
  unfold quality_Check
  rw [fits_yes h.1, bind1_pure, if_neg (by decide), fits_yes h.2.1, bind1_pure, if_neg (by decide), fits_yes h.2.2, bind1_pure]
  rfl
theorem add_est {a b : S_api_Estimate} (ha : EV a) (hb : EV b) (hs : EV ⟨a.False + b.False, a.Missed + b.Missed, a.True + b.True⟩) : quality_Add a b = some (⟨a.False + b.False, a.Missed + b.Missed, a.True + b.True⟩, 0) := by
  obtain ⟨⟨a1, a2⟩, ⟨a3, a4⟩, a5, a6⟩ := id ha
  obtain ⟨⟨b1, b2⟩, ⟨b3, b4⟩, b5, b6⟩ := id hb
  unfold quality_Add
  rw [check_est ha, bind1_pure, if_neg (by decide), check_est hb, bind1_pure, if_neg (by decide), wi64 (n := a.False + b.False) (by omega) (by omega), wi64 (n := a.Missed + b.Missed) (by omega) (by omega), wi64 (n := a.True + b.True) (by omega) (by omega), check_est hs, bind1_pure, if_neg (by decide)]
theorem qsums_law (p : List Int) : rl_law33_QualitySums p = some true := by
  unfold rl_law33_QualitySums
  rw [awake33]
  simp only [Option.bind_some, Bool.not_true, Bool.false_eq_true, if_false, rl_make_Few]
  by_cases hp : p.length ≤ 400
  rotate_left
  · rw [decide_eq_false (by omega : ¬ ((p.length : Nat) : Int) ≤ 400)]
    simp only [Bool.not_false, rl_law33_QualitySums_k1, if_true, awake33, Option.bind_some]
  rw [decide_eq_true (by omega : ((p.length : Nat) : Int) ≤ 400)]
  simp only [Bool.not_true, rl_law33_QualitySums_k1, Bool.false_eq_true, if_false]
  obtain ⟨d, he, hd⟩ := new_yes hp
  rw [he]; clear he; simp only [Option.bind_some]
  obtain ⟨x, d1, he, x0, x1, hd1⟩ := next_yes hd (n := 3) (by decide) (by decide)
  rw [he]; clear he; first | rw [bind2_pure] | rw [bind3_pure] | rw [bind4_pure] | rw [bind1_pure]
  obtain ⟨n, rfl⟩ := Int.eq_ofNat_of_zero_le x0
  rw [wi64 (n := 1 + (n : Int)) (by omega) (by omega), show 1 + (n : Int) = ((n + 1 : Nat) : Int) by omega]
  obtain ⟨cs, d2, he, c1, c2, hd2⟩ := cands_yes hd1 (n := n + 1) (by omega) (by omega)
  rw [he]; clear he; first | rw [bind2_pure] | rw [bind3_pure] | rw [bind4_pure] | rw [bind1_pure]
  obtain ⟨m, d3, he, m1, hm, hd3⟩ := model_yes hd2 (n := n + 1) (by omega) (by omega)
  rw [he]; clear he; first | rw [bind2_pure] | rw [bind3_pure] | rw [bind4_pure] | rw [bind1_pure]
  have hc : CN m cs := fun c h => by unfold PN; rw [m1]; exact c2 c h
  rw [wi64 (n := (cs.length : Int) + 1) (by omega) (by omega)]
  obtain ⟨y, d4, he, y0, y1, hd4⟩ := next_yes hd3 (n := (cs.length : Int) + 1) (by omega) (by omega)
  rw [he]; clear he; first | rw [bind2_pure] | rw [bind3_pure] | rw [bind4_pure] | rw [bind1_pure]
  obtain ⟨k, rfl⟩ := Int.eq_ofNat_of_zero_le y0
  have hk : k ≤ cs.length := by omega
  rw [if_pos y0, Int.toNat_natCast, if_pos hk, Nat.zero_add]
  have htl : (cs.take k).length = k := by rw [List.length_take]; omega
  have hct : CN m (cs.take k) := fun c h => hc c (List.mem_of_mem_take h)
  have hcd : CN m ((cs.drop k).take (cs.length - k)) := fun c h => hc c (List.mem_of_mem_drop (List.mem_of_mem_take h))
  have hdl : (cs.drop k).take (cs.length - k) = cs.drop k := List.take_of_length_le (by rw [List.length_drop]; omega)
  rw [of_est hm hct hcd (by omega) (by rw [hdl, List.length_drop]; omega), bind2_pure, if_pos hk, if_pos (by omega), hdl, htl]
  have hsplit : ∀ i, sumS m cs = sumS m (cs.take i) + sumS m (cs.drop i) := fun i => by rw [← sumS_append, List.take_append_drop]
  have hst : ∀ i, i < cs.length → sumS m (cs.take (i + 1)) = sumS m (cs.take i) + sh m (cs.getD i dS_api_Candidate).Pattern := fun i hi => by rw [cand_take hi, sumS_append, sumS_cons, sumS_nil, Int.add_zero]
  have hb : ∀ i, i ≤ cs.length → 0 ≤ sumS m (cs.take i) ∧ sumS m (cs.take i) ≤ (i : Int) * 1073741824 := fun i hi => by
    have := sumS_in hm (cs.take i)
    rw [List.length_take, Nat.min_eq_left hi] at this
    exact this
  have hmono : ∀ i j, i ≤ j → j ≤ cs.length → sumS m (cs.take i) ≤ sumS m (cs.take j) := fun i j hij hj => by
    have h1 : cs.take j = cs.take i ++ (cs.drop i).take (j - i) := by
      rw [← List.take_append_drop i (cs.take j), List.take_take, Nat.min_eq_left hij, List.drop_take]
    rw [h1, sumS_append]
    have := (sumS_in hm ((cs.drop i).take (j - i))).1
    omega
  have hloop := loop_for (step := fun v : Int × Int × Int × Int => rl_law33_QualitySums_l2 cs m k v.1 v.2.1 v.2.2.1 v.2.2.2) (fun i => ((i : Int), ((min i k : Nat) : Int) * 1073741824 - sumS m (cs.take (min i k)), sumS m (cs.take i) - sumS m (cs.take (min i k)), sumS m (cs.take (min i k)))) cs.length
    (.inl ((k : Int) * 1073741824 - sumS m (cs.take k), sumS m (cs.drop k), sumS m (cs.take k))) (fun i hi => by
      have hs := sh_in hm (cs.getD i dS_api_Candidate).Pattern
      have hone : ((cs.drop i).take (i + 1 - i)) = [cs.getD i dS_api_Candidate] := by
        rw [List.drop_eq_getElem_cons hi, show i + 1 - i = 0 + 1 by omega, List.take_succ_cons, List.take_zero, List.getD_eq_getElem?_getD, List.getElem?_eq_getElem hi]; rfl
      have hc1 : CN m [cs.getD i dS_api_Candidate] := fun c h => by rw [List.mem_singleton.1 h]; exact hc _ (cand_mem hi)
      have hc0 : CN m ([] : List S_api_Candidate) := fun c h => absurd h List.not_mem_nil
      have o1 := of_est hm hc1 hc0 (by simp) (by simp)
      have o2 := of_est hm hc0 hc1 (by simp) (by simp)
      rw [sumS_cons, sumS_nil, Int.add_zero] at o1 o2
      have b1 := hb (min i k) (by omega)
      have b2 := hb i (by omega)
      have b3 := hmono (min i k) i (by omega) (by omega)
      have b4 := hst i hi
      have w1 : IntKind.i64.wrap ((i : Int) + 1) = ((i + 1 : Nat) : Int) := by rw [wi64 (by omega) (by omega)]; rfl
      simp only [rl_law33_QualitySums_l2, w1, Int.toNat_natCast, Nat.zero_add, hone]
      rw [if_pos (by simpa using hi), if_pos (by omega), if_pos (by omega), if_pos (by omega), if_pos (by omega), o1, bind2_pure, if_pos (by omega)]
      have fin : ∀ e : S_api_Estimate, e.False = ((min (i + 1) k : Nat) : Int) * 1073741824 - sumS m (cs.take (min (i + 1) k)) → e.Missed = sumS m (cs.take (i + 1)) - sumS m (cs.take (min (i + 1) k)) → e.True = sumS m (cs.take (min (i + 1) k)) →
          rl_law33_QualitySums_k4 i e false = some (.inl (((i + 1 : Nat) : Int), ((min (i + 1) k : Nat) : Int) * 1073741824 - sumS m (cs.take (min (i + 1) k)), sumS m (cs.take (i + 1)) - sumS m (cs.take (min (i + 1) k)), sumS m (cs.take (min (i + 1) k)))) := fun e e1 e2 e3 => by
        unfold rl_law33_QualitySums_k4
        rw [if_neg (by decide), w1, e1, e2, e3]
      by_cases h : k ≤ i
      · rw [if_pos (by simp only [decide_eq_true_eq]; omega), o2, bind2_pure]
        unfold rl_law33_QualitySums_k3
        have m1 : min i k = k := by omega
        have m2 : min (i + 1) k = k := by omega
        rw [m1] at b1 b3 ⊢
        rw [m2] at fin ⊢
        rw [add_est (by refine ⟨⟨?_, ?_⟩, ⟨?_, ?_⟩, ?_, ?_⟩ <;> simp only [] <;> omega) (by refine ⟨⟨?_, ?_⟩, ⟨?_, ?_⟩, ?_, ?_⟩ <;> simp only [List.length_nil, List.length_cons] <;> omega) (by refine ⟨⟨?_, ?_⟩, ⟨?_, ?_⟩, ?_, ?_⟩ <;> simp only [List.length_nil, List.length_cons] <;> omega), bind2_pure, if_neg (by decide), show ((0 : Int) != 0) = false from rfl]
        exact fin _ (by simp only [List.length_nil]; omega) (by simp only []; omega) (by simp only []; omega)
      · rw [if_neg (by simp only [decide_eq_true_eq]; omega)]
        unfold rl_law33_QualitySums_k3
        have m1 : min i k = i := by omega
        have m2 : min (i + 1) k = i + 1 := by omega
        rw [m1] at b1 b3 ⊢
        rw [m2] at fin ⊢
        rw [add_est (by refine ⟨⟨?_, ?_⟩, ⟨?_, ?_⟩, ?_, ?_⟩ <;> simp only [] <;> omega) (by refine ⟨⟨?_, ?_⟩, ⟨?_, ?_⟩, ?_, ?_⟩ <;> simp only [List.length_nil, List.length_cons] <;> omega) (by refine ⟨⟨?_, ?_⟩, ⟨?_, ?_⟩, ?_, ?_⟩ <;> simp only [List.length_nil, List.length_cons] <;> omega), bind2_pure, if_neg (by decide), show ((0 : Int) != 0) = false from rfl]
        exact fin _ (by simp only [List.length_cons, List.length_nil]; omega) (by simp only []; omega) (by simp only []; omega)) (by
      simp only [rl_law33_QualitySums_l2]
      have m1 : min cs.length k = k := by omega
      have h1 := hsplit k
      rw [if_neg (by simp), m1, List.take_of_length_le (Nat.le_refl _), show sumS m cs - sumS m (cs.take k) = sumS m (cs.drop k) by omega]) (s := (0, 0, 0, 0)) (by simp [sumS_nil])
  rw [hloop, bindE_l]
  unfold rl_law33_QualitySums_a6
  have b1 := hb k hk
  rw [if_pos (by decide), if_pos (by simp), wi64 (n := (k : Int) * 1073741824) (by omega) (by omega)]
  simp only
  rw [show sumS m (cs.take k) + ((k : Int) * 1073741824 - sumS m (cs.take k)) = (k : Int) * 1073741824 by omega, wi64 (by omega) (by omega)]
  unfold rl_law33_QualitySums_k5
  simp
end Go.Proofs.Ytilpgjoidgfbiaa
