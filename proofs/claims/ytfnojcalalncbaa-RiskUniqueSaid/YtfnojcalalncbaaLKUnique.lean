/- Plain: the law RiskUnique. -/
import Derived.Test.YtfnojcalalncbaaKa
import Derived.Test.YtfnojcalalncbaaGL7
namespace Go.Proofs.Ytfnojcalalncbaa
open Vm
open IntKind (i64 u64 u32 u8)
set_option linter.unusedVariables false
set_option linter.unusedSimpArgs false
theorem unique_yes {l : List Int} (h : UnR l) (hl : l.length ≤ 64) : risk_Unique l = some (UnS l, l.sum, 0) := by
  unfold risk_Unique
  rw [if_neg (by omega), if_pos h]
theorem UnS_le : ∀ {l : List Int}, UnR l → UnS l ≤ l.sum := fun {l} h => by
  have key : ∀ (q : Int → Bool) (k : List Int), UnR k → (k.filter q).sum ≤ k.sum := fun q k => by
    induction k with
    | nil => intro _; simp
    | cons x k ih =>
      intro hk
      have h1 := hk x List.mem_cons_self
      have h2 := ih fun y hy => hk y (List.mem_cons_of_mem _ hy)
      rw [List.filter_cons]
      split
      · simp only [List.sum_cons]; omega
      · simp only [List.sum_cons]; omega
  exact key _ _ h
theorem UnS_rev (l : List Int) : UnS l.reverse = UnS l := by
  unfold UnS
  simp only [List.count_reverse]
  rw [List.filter_reverse, List.sum_reverse]
theorem UnS_twice (l : List Int) : UnS (l ++ l) = 0 := by
  unfold UnS
  have : (l ++ l).filter (fun x => decide ((l ++ l).count x = 1)) = [] := by
    rw [List.filter_eq_nil_iff]
    intro x _
    rw [List.count_append]
    simp only [decide_eq_true_eq]
    omega
  rw [this]
  rfl
theorem unique_law (p : List Int) : rl_law15_RiskUnique p = some true := by
  unfold rl_law15_RiskUnique
  rw [awake15]
  simp only [Option.bind_some, Bool.not_true, Bool.false_eq_true, if_false, rl_make_Few]
  by_cases hp : p.length ≤ 400
  rotate_left
  · rw [decide_eq_false (by omega : ¬ ((p.length : Nat) : Int) ≤ 400)]
    simp only [Bool.not_false, rl_law15_RiskUnique_k1, if_true, awake15, Option.bind_some]
  rw [decide_eq_true (by omega : ((p.length : Nat) : Int) ≤ 400)]
  simp only [Bool.not_true, rl_law15_RiskUnique_k1, Bool.false_eq_true, if_false]
  obtain ⟨d, he, hd⟩ := new_yes hp
  rw [he]; clear he; simp only [Option.bind_some]
  obtain ⟨v, d1, he, v0, v1, hd1⟩ := next_yes hd (n := 8) (by decide) (by decide)
  rw [he]; clear he; first | rw [bind2_pure] | rw [bind3_pure] | rw [bind4_pure] | rw [bind1_pure]
  obtain ⟨N, rfl⟩ := Int.eq_ofNat_of_zero_le v0
  obtain ⟨l, e1, hl, hm⟩ := loop_inv (step := fun v : (List Int) × Int × (List Int) × Int × Int => rl_law15_RiskUnique_l2 v.1 v.2.1 v.2.2.1 v.2.2.2.1 v.2.2.2.2) N
    (fun j s => s.2.1 = (N : Int) - (j : Int) ∧ s.1.length = j ∧ (∀ x ∈ s.1, 0 ≤ x ∧ x ≤ 5) ∧ DeckOk ⟨s.2.2.1, s.2.2.2.1, s.2.2.2.2⟩)
    (fun t : List Int => t.length ≤ 7 ∧ ∀ x ∈ t, 0 ≤ x ∧ x ≤ 5) (by
      rintro j hj ⟨l, c, a, b, e⟩ ⟨s1, s2, s3, s4⟩
      left
      simp only [rl_law15_RiskUnique_l2] at s1 s2 s3 s4 ⊢
      subst s1
      rw [if_pos (by simp only [decide_eq_true_eq]; omega)]
      obtain ⟨u, d2, he, u0, u1, hd2⟩ := next_yes s4 (n := 6) (by decide) (by decide)
      rw [he]; clear he; first | rw [bind2_pure] | rw [bind3_pure] | rw [bind4_pure] | rw [bind1_pure]
      rw [if_pos (by simp; omega), wi64 (n := (N : Int) - (j : Int) - 1) (by omega) (by omega)]
      refine ⟨_, rfl, by simp only; omega, by simp [s2], fun x hx => ?_, hd2⟩
      rcases List.mem_append.1 hx with h | h
      · exact s3 x h
      · rw [List.mem_singleton.1 h]; omega) (by
      rintro ⟨l, c, a, b, e⟩ ⟨s1, s2, s3, s4⟩
      simp only [rl_law15_RiskUnique_l2] at s1 s2 s3 s4 ⊢
      subst s1
      rw [if_neg (by simp only [decide_eq_true_eq]; omega)]
      exact ⟨_, rfl, by omega, s3⟩) (s := (([] : List Int), (N : Int), d1.list, d1.at_, d1.state)) ⟨by simp, rfl, fun x hx => absurd hx List.not_mem_nil, hd1⟩
  rw [e1, bind1_pure]
  have hr : loop (fun v : (List Int) × Int => rl_law15_RiskUnique_l3 l v.1 v.2) (([] : List Int), i64.wrap ((l.length : Int) - 1)) = some l.reverse := by
    rw [wi64 (n := (l.length : Int) - 1) (by omega) (by omega)]
    refine loop_for (fun i => (l.reverse.take i, (l.length : Int) - 1 - (i : Int))) l.length _ (fun i hi => ?_) ?_ (by simp)
    · obtain ⟨j, hj⟩ : ∃ j, l.length = j + 1 + i := ⟨l.length - 1 - i, by omega⟩
      simp only [rl_law15_RiskUnique_l3]
      rw [show (l.length : Int) - 1 - (i : Int) = (j : Int) by omega, Int.toNat_natCast, Nat.zero_add, if_pos (by simp only [decide_eq_true_eq]; omega), if_pos (by omega), if_pos (by omega), if_pos (by simp; omega), wi64 (by omega) (by omega)]
      have hg : l.reverse.take (i + 1) = l.reverse.take i ++ [l.getD j 0] := by
        rw [List.take_add_one, List.getElem?_reverse hi, show l.length - 1 - i = j by omega, List.getD_eq_getElem?_getD, List.getElem?_eq_getElem (by omega)]
        rfl
      rw [hg, show (l.length : Int) - 1 - ((i + 1 : Nat) : Int) = (j : Int) - 1 by omega]
    · simp only [rl_law15_RiskUnique_l3]
      rw [if_neg (by simp only [decide_eq_true_eq]; omega), ← List.length_reverse, List.take_length]
  have u1 : UnR l := fun x hx => by have := hm x hx; omega
  have u2 : UnR l.reverse := fun x hx => u1 x (List.mem_reverse.1 hx)
  have u3 : UnR (l ++ l) := fun x hx => (List.mem_append.1 hx).elim (u1 x) (u1 x)
  have hle := UnS_le u1
  have hs := u1.sum
  rw [hr, bind1_pure, unique_yes u1 (by omega), bind3_pure, unique_yes u2 (by simp; omega), bind3_pure, if_pos (by omega), List.nil_append, if_pos (by omega), unique_yes u3 (by simp; omega), bind3_pure, UnS_rev, UnS_twice, List.sum_reverse, List.sum_append, if_pos (by decide), if_pos (by decide), if_pos (by decide), if_pos (by simp), if_pos (by simp), if_pos (by simpa using hle), if_pos (by decide), wi64 (n := 2 * l.sum) (by omega) (by omega)]
  unfold rl_law15_RiskUnique_k4
  rw [show l.sum + l.sum = 2 * l.sum by omega, beq_self_eq_true]
end Go.Proofs.Ytfnojcalalncbaa
