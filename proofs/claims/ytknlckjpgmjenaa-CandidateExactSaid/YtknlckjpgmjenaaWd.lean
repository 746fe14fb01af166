/- Plain: digits of base three. -/
import Derived.Test.YtknlckjpgmjenaaPa
import Derived.Test.YtknlckjpgmjenaaNb
import Derived.Test.YtknlckjpgmjenaaGz
namespace Go.Proofs.Ytknlckjpgmjenaa
open Vm
set_option linter.unusedVariables false
def num3 : List Int → Int
  | [] => 0
  | d :: l => d + 3 * num3 l
def digs : Nat → Int → List Int
  | 0, _ => []
  | n + 1, p => p % 3 :: digs n (p / 3)
theorem digs_length (n : Nat) : ∀ p, (digs n p).length = n := by
  induction n with
  | zero => intro p; rfl
  | succ n ih => intro p; simp [digs, ih]
theorem digs_num3 : ∀ l : List Int, (∀ x ∈ l, 0 ≤ x ∧ x ≤ 2) → digs l.length (num3 l) = l := by
  intro l
  induction l with
  | nil => intro _; rfl
  | cons d l ih =>
    intro h
    have h1 := h d (by simp)
    have h2 := ih fun x hx => h x (by simp [hx])
    simp only [List.length_cons, digs, num3]
    rw [show (d + 3 * num3 l) % 3 = d by omega, show (d + 3 * num3 l) / 3 = num3 l by omega, h2]
theorem num3_digs (n : Nat) : ∀ p : Int, 0 ≤ p → p < ((3 ^ n : Nat) : Int) → num3 (digs n p) = p := by
  induction n with
  | zero => intro p h0 h1; simp at h1; simp [digs, num3]; omega
  | succ n ih =>
    intro p h0 h1
    rw [Nat.pow_succ] at h1
    simp only [digs, num3]
    rw [ih (p / 3) (by omega) (by omega)]
    omega
theorem digs_mem (n : Nat) : ∀ p : Int, ∀ x ∈ digs n p, 0 ≤ x ∧ x ≤ 2 := by
  induction n with
  | zero => intro p x hx; cases hx
  | succ n ih =>
    intro p x hx
    simp only [digs, List.mem_cons] at hx
    rcases hx with rfl | hx
    · omega
    · exact ih _ x hx
theorem num3_range : ∀ l : List Int, (∀ x ∈ l, 0 ≤ x ∧ x ≤ 2) → 0 ≤ num3 l ∧ num3 l < ((3 ^ l.length : Nat) : Int) := by
  intro l
  induction l with
  | nil => intro _; simp [num3]
  | cons d l ih =>
    intro h
    have h1 := h d (by simp)
    have h2 := ih fun x hx => h x (by simp [hx])
    simp only [List.length_cons, num3, Nat.pow_succ]
    omega
theorem num3_snoc (l : List Int) (d : Int) : num3 (l ++ [d]) = num3 l + d * ((3 ^ l.length : Nat) : Int) := by
  induction l with
  | nil => simp [num3]
  | cons x l ih =>
    simp only [List.cons_append, num3, ih, List.length_cons, Nat.pow_succ]
    grind
theorem take_snoc {α : Type} (d : α) {l : List α} {i : Nat} (h : i < l.length) : l.take (i + 1) = l.take i ++ [l.getD i d] := by
  rw [List.take_add_one, List.getD_eq_getElem?_getD, List.getElem?_eq_getElem h]
  rfl
theorem pow3_getD {i : Nat} (h : i < 6) : ([1, 3, 9, 27, 81, 243] : List Int).getD i 0 = ((3 ^ i : Nat) : Int) := by
  have : i = 0 ∨ i = 1 ∨ i = 2 ∨ i = 3 ∨ i = 4 ∨ i = 5 := by omega
  rcases this with rfl | rfl | rfl | rfl | rfl | rfl <;> rfl
theorem pow3_le {i : Nat} (h : i ≤ 5) : 1 ≤ 3 ^ i ∧ 3 ^ i ≤ 243 := ⟨Nat.pow_pos (by decide), Nat.le_trans (Nat.pow_le_pow_right (by decide) h) (by decide)⟩
theorem digs_snoc (n : Nat) : ∀ p : Int, 0 ≤ p → digs (n + 1) p = digs n p ++ [p / ((3 ^ n : Nat) : Int) % 3] := by
  induction n with
  | zero => intro p _; simp [digs]
  | succ n ih =>
    intro p hp
    rw [digs, ih (p / 3) (by omega), digs, List.cons_append]
    congr 4
    rw [Nat.pow_succ, Nat.mul_comm, Int.natCast_mul, Int.ediv_ediv_of_nonneg (by omega)]
    rfl
theorem sim_fields_eq (n : Int) : similarity_fields n = some (decide (1 ≤ n ∧ n ≤ 5)) := by
  unfold similarity_fields similarity_fields_k1
  by_cases h : n ≥ 1
  · rw [if_pos (by simpa using h)]
    by_cases h2 : n ≤ 5
    · rw [decide_eq_true h2, decide_eq_true ⟨h, h2⟩]
    · rw [decide_eq_false h2, decide_eq_false (fun k => h2 k.2)]
  · rw [if_neg (by simpa using h), decide_eq_false (fun k => h k.1)]
theorem digits_eq {p n : Int} : similarity_Digits p n = some (if 1 ≤ n ∧ n ≤ 5 then (if 0 ≤ p ∧ p < ((3 ^ n.toNat : Nat) : Int) then (digs n.toNat p, 0) else ([], 2)) else ([], 8)) := by
  unfold similarity_Digits
  rw [sim_fields_eq, Option.bind_some]
  by_cases h : 1 ≤ n ∧ n ≤ 5
  · obtain ⟨m, rfl⟩ := Int.eq_ofNat_of_zero_le (show 0 ≤ n by omega)
    have hm : m < 6 := by omega
    have hqm := pow3_le (i := m) (by omega)
    rw [if_neg (by simp; omega), if_pos h]
    simp only [Int.toNat_natCast, similarity_powers, Option.bind_some, pow3_getD hm]
    by_cases hr : 0 ≤ p ∧ p < ((3 ^ m : Nat) : Int)
    · rw [if_neg (by simp; omega), if_pos (by omega), if_pos (by omega), if_pos hr]
      unfold similarity_Digits_k1
      rw [if_neg (by simp only [decide_eq_true_eq]; omega)]
      have hL : loop (fun v : List Int × Int => similarity_Digits_l2 p m v.1 v.2) ([], 0) = some (digs m p) := by
        refine loop_for (fun i => (digs i p, (i : Int))) m _ (fun i hi => ?_) ?_ rfl
        · have hq := pow3_le (i := i) (by omega)
          have d0 : 0 ≤ p / ((3 ^ i : Nat) : Int) := Int.ediv_nonneg hr.1 (by omega)
          have d1 := Int.ediv_le_self (b := ((3 ^ i : Nat) : Int)) hr.1
          simp only [similarity_Digits_l2, Int.toNat_natCast, similarity_powers, Option.bind_some, pow3_getD (show i < 6 by omega)]
          rw [if_pos (by simpa using hi), if_pos (by omega), if_pos (by omega), if_pos (by omega), if_pos (by simp [digs_length]; omega), tdiv_nn hr.1, wi64 (n := p / _) (by omega) (by omega), tmod_nn d0, wi64 (by omega) (by omega), digs_snoc _ _ hr.1]
          rfl
        · simp only [similarity_Digits_l2]
          rw [if_neg (by simp)]
      rw [hL]; rfl
    · rw [if_neg hr]
      by_cases h0 : p < 0
      · rw [if_pos (by simpa using h0)]; rfl
      · rw [if_neg (by simpa using h0), if_pos (by omega), if_pos (by omega)]
        unfold similarity_Digits_k1
        rw [if_pos (by simp only [decide_eq_true_eq]; omega)]
  · rw [if_pos (by simp; omega), if_neg h]
theorem ref17_size_eq {m : Nat} (hm : m ≤ 5) : rl_ref17_Size (m : Int) = some ((3 ^ m : Nat) : Int) := by
  unfold rl_ref17_Size
  have hL : loop (fun v : Int × Int => rl_ref17_Size_l1 (m : Int) v.1 v.2) (1, 0) = some ((3 ^ m : Nat) : Int) := by
    refine loop_for (fun i => (((3 ^ i : Nat) : Int), (i : Int))) m _ (fun i hi => ?_) ?_ rfl
    · have hq := pow3_le (i := i) (by omega)
      simp only [rl_ref17_Size_l1]
      rw [if_pos (by simpa using hi), wi64 (n := ((3 ^ i : Nat) : Int) * 3) (by omega) (by omega), wi64 (by omega) (by omega), Nat.pow_succ, Int.natCast_mul]
      rfl
    · simp only [rl_ref17_Size_l1]
      rw [if_neg (by simp)]
  rw [hL]; rfl
theorem ref17_digits_eq {p n : Int} : rl_ref17_Digits p n = some (if 1 ≤ n ∧ n ≤ 5 then (if 0 ≤ p ∧ p < ((3 ^ n.toNat : Nat) : Int) then (digs n.toNat p, 0) else ([], 2)) else ([], 8)) := by
  unfold rl_ref17_Digits
  by_cases h : 1 ≤ n ∧ n ≤ 5
  · obtain ⟨m, rfl⟩ := Int.eq_ofNat_of_zero_le (show 0 ≤ n by omega)
    have hm : m < 6 := by omega
    have hqm := pow3_le (i := m) (by omega)
    rw [if_neg (by simp; omega), decide_eq_false (by omega), if_pos h]
    unfold rl_ref17_Digits_k1
    rw [if_neg (by decide), Int.toNat_natCast]
    by_cases hr : 0 ≤ p ∧ p < ((3 ^ m : Nat) : Int)
    · rw [if_neg (by simp; omega), ref17_size_eq (by omega), bind1_pure, if_pos hr]
      unfold rl_ref17_Digits_k2
      rw [if_neg (by simp only [decide_eq_true_eq]; omega)]
      have hL : loop (fun v : Int × (List Int) × Int => rl_ref17_Digits_l3 (m : Int) v.1 v.2.1 v.2.2) (p, ([] : List Int), 0) = some (digs m p) := by
        refine loop_for (fun i => (p / ((3 ^ i : Nat) : Int), digs i p, (i : Int))) m _ (fun i hi => ?_) ?_ (by simp [digs])
        · have hq := pow3_le (i := i) (by omega)
          have d0 : 0 ≤ p / ((3 ^ i : Nat) : Int) := Int.ediv_nonneg hr.1 (by omega)
          have d1 := Int.ediv_le_self (b := ((3 ^ i : Nat) : Int)) hr.1
          have d2 : p / ((3 ^ (i + 1) : Nat) : Int) = p / ((3 ^ i : Nat) : Int) / 3 := by
            rw [Nat.pow_succ, Int.natCast_mul, Int.ediv_ediv_of_nonneg (by omega)]
            rfl
          simp only [rl_ref17_Digits_l3]
          rw [if_pos (by simpa using hi), if_pos (by simp [digs_length]; omega), tdiv_nn d0, tmod_nn d0, digs_snoc _ _ hr.1, d2]
          generalize p / ((3 ^ i : Nat) : Int) = q at *
          rw [wi64 (n := q / 3) (by omega) (by omega), wi64 (by omega) (by omega)]
          rfl
        · simp only [rl_ref17_Digits_l3]
          rw [if_neg (by simp)]
      rw [hL]; rfl
    · rw [if_neg hr]
      by_cases h0 : p < 0
      · rw [if_pos (by simpa using h0)]; rfl
      · rw [if_neg (by simpa using h0), ref17_size_eq (by omega), bind1_pure]
        unfold rl_ref17_Digits_k2
        rw [if_pos (by simp only [decide_eq_true_eq]; omega)]
  · rw [if_neg h]
    by_cases h1 : n < 1
    · rw [if_pos (by simpa using h1)]; rfl
    · rw [if_neg (by simpa using h1), decide_eq_true (by omega)]; rfl
end Go.Proofs.Ytknlckjpgmjenaa
