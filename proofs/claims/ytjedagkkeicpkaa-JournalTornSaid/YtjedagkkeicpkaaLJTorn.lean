/- The plain law of JournalTorn. -/
import Derived.Test.YtjedagkkeicpkaaJe
import Derived.Test.YtjedagkkeicpkaaGL5
namespace Go.Proofs.Ytjedagkkeicpkaa
open Vm
set_option linter.unusedVariables false
theorem torn_loop {ps : List ByteArray} (hsm : Small ps) (h3 : ∀ p ∈ ps, p.size ≤ 30) {k : Nat} (hn : ps.length ≤ 100) : loop (fun v : Int × Int × Int × Int => rl_law38_JournalTorn_l2 ps (k : Int) v.1 v.2.1 v.2.2.1 v.2.2.2) (0, 0, 0, 0) = some (((wholeN ps k : Nat) : Int), ((jlen (ps.take (wholeN ps k)) : Nat) : Int)) := by
  have hsz := jlen_le h3
  refine loop_for (fun i => (((jlen (ps.take i) : Nat) : Int), ((min i (wholeN ps k) : Nat) : Int), ((jlen (ps.take (min i (wholeN ps k))) : Nat) : Int), (i : Int))) ps.length _ (fun i hi => ?_) ?_ ?_
  · simp only [rl_law38_JournalTorn_l2, rl_law38_JournalTorn_k3]
    have hp := getD_le h3 hi
    have hst := jlen_step hi
    have ht := jlen_take ps i
    rw [if_pos (by simpa using hi), if_pos (by omega), if_pos (by omega), Int.toNat_natCast, Nat.zero_add, wi64 (n := 12 + (((ps.getD i ByteArray.empty).size : Nat) : Int)) (by omega) (by omega), wi64 (n := ((jlen (ps.take i) : Nat) : Int) + (12 + (((ps.getD i ByteArray.empty).size : Nat) : Int))) (by omega) (by omega), bind1_pure,
      show ((jlen (ps.take i) : Nat) : Int) + (12 + (((ps.getD i ByteArray.empty).size : Nat) : Int)) = ((jlen (ps.take (i + 1)) : Nat) : Int) by omega, wi64 (n := (i : Int) + 1) (by omega) (by omega)]
    have hiff := wholeN_iff ps k (i + 1) (by omega)
    by_cases h : jlen (ps.take (i + 1)) ≤ k
    · have h1 := hiff.1 h
      rw [if_pos (by simp only [decide_eq_true_eq]; omega), Nat.min_eq_left (show i ≤ wholeN ps k by omega), Nat.min_eq_left h1, wi64 (by omega) (by omega)]
      rfl
    · have h1 : ¬ i + 1 ≤ wholeN ps k := fun x => h (hiff.2 x)
      rw [if_neg (by simp only [decide_eq_true_eq]; omega), Nat.min_eq_right (show wholeN ps k ≤ i by omega), Nat.min_eq_right (show wholeN ps k ≤ i + 1 by omega)]
      rfl
  · simp only [rl_law38_JournalTorn_l2]
    rw [if_neg (by simp), Nat.min_eq_right (wholeN_le ps k)]
  · rw [Nat.zero_min, List.take_zero]; rfl
theorem torn_law (p : List Int) (cut : Int) : rl_law38_JournalTorn p cut = some true := by
  unfold rl_law38_JournalTorn
  rw [awake38]
  simp only [Option.bind_some, Bool.not_true, Bool.false_eq_true, if_false, rl_make_Few]
  by_cases hp : p.length ≤ 400
  rotate_left
  · rw [decide_eq_false (by omega : ¬ ((p.length : Nat) : Int) ≤ 400)]
    simp only [Bool.not_false, rl_law38_JournalTorn_k1, if_true, awake38, Option.bind_some]
  rw [decide_eq_true (by omega : ((p.length : Nat) : Int) ≤ 400)]
  simp only [Bool.not_true, rl_law38_JournalTorn_k1, Bool.false_eq_true, if_false]
  obtain ⟨d, he, hd⟩ := new_yes hp
  rw [he]; clear he; simp only [Option.bind_some]
  obtain ⟨j, ps, d1, he, j1, j2, j3, hd1⟩ := made_yes hd (most := 5) (by decide)
  rw [show (5 : Int) = ((5 : Nat) : Int) from rfl, he, bind3_pure]
  subst j1
  have hsm : Small ps := fun q hq => by have := j3 q hq; omega
  have hsz := jlen_le j3
  have hjs := jn_size ps
  rw [wi64 (n := (((jn ps).size : Nat) : Int) + 1) (by omega) (by omega)]
  obtain ⟨at_, e1, a0, a1⟩ := mod_yes cut (n := (((jn ps).size : Nat) : Int) + 1) (by omega) (by omega)
  rw [e1, bind1_pure]
  obtain ⟨k, rfl⟩ := Int.eq_ofNat_of_zero_le a0
  rw [torn_loop hsm j3 (by omega), bind2_pure, if_pos (by omega), Int.toNat_natCast, if_pos (by omega)]
  have hw := wholeN_spec ps k
  have hlt := wholeN_le ps k
  have hx : ((jn ps).extract 0 k).size = k := by rw [ByteArray.size_extract]; omega
  have hrd := rdJ_cut hsm (by omega) (show k ≤ jlen ps by omega)
  have hlk : jlen (ps.take (wholeN ps k)) ≤ k := hw
  have hle := jlen_take ps (wholeN ps k)
  rw [Read_eq (by rw [hx]; omega), bind3_pure, hrd]
  simp only
  have htl : (ps.take (wholeN ps k)).length = wholeN ps k := by rw [List.length_take]; omega
  rw [htl, if_pos (by simp), if_pos (by simp)]
  have k4 : ∀ x, rl_law38_JournalTorn_k4 x = some x := fun _ => rfl
  have hwh : journal_Whole ((jn ps).extract 0 k) = some ((jn ps).extract 0 (jlen (ps.take (wholeN ps k)))) := by
    rw [whole_eq (by rw [hx]; omega), hrd]
    simp only [Int.toNat_natCast]
    rw [ByteArray.extract_extract, Nat.zero_add, Nat.zero_add, Nat.min_eq_left hw]
  by_cases h0 : jlen (ps.take (wholeN ps k)) = k
  · rw [if_pos h0, if_pos (by simp; omega), if_pos (by decide), if_pos (by omega), Int.toNat_natCast, if_pos (by omega), same38 (by omega), bind1_pure, if_pos (by omega), if_pos (by simp), hwh, bind1_pure, if_pos (by omega), Int.toNat_natCast, if_pos (by omega), str_self, k4]
  · rw [if_neg h0, if_pos (by simp; omega), if_neg (by decide), if_pos (by decide), if_pos (by omega), Int.toNat_natCast, if_pos (by omega), same38 (by omega), bind1_pure, if_pos (by omega), if_pos (by simp), hwh, bind1_pure, if_pos (by omega), Int.toNat_natCast, if_pos (by omega), str_self, k4]
end Go.Proofs.Ytjedagkkeicpkaa
