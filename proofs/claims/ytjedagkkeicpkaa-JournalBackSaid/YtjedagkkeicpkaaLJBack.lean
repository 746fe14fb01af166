/- The plain law of JournalBack. -/
import Derived.Test.YtjedagkkeicpkaaJd
import Derived.Test.YtjedagkkeicpkaaGL4
namespace Go.Proofs.Ytjedagkkeicpkaa
open Vm
set_option linter.unusedVariables false
theorem back_law (p : List Int) : rl_law38_JournalBack p = some true := by
  unfold rl_law38_JournalBack
  rw [awake38]
  simp only [Option.bind_some, Bool.not_true, Bool.false_eq_true, if_false, rl_make_Few]
  by_cases hp : p.length ≤ 400
  rotate_left
  · rw [decide_eq_false (by omega : ¬ ((p.length : Nat) : Int) ≤ 400)]
    simp only [Bool.not_false, rl_law38_JournalBack_k1, if_true, awake38, Option.bind_some]
  rw [decide_eq_true (by omega : ((p.length : Nat) : Int) ≤ 400)]
  simp only [Bool.not_true, rl_law38_JournalBack_k1, Bool.false_eq_true, if_false]
  obtain ⟨d, he, hd⟩ := new_yes hp
  rw [he]; clear he; simp only [Option.bind_some]
  obtain ⟨j, ps, d1, he, j1, j2, j3, hd1⟩ := made_yes hd (most := 8) (by decide)
  rw [show (8 : Int) = ((8 : Nat) : Int) from rfl, he, bind3_pure]
  have hsm : Small ps := fun q hq => by have := j3 q hq; omega
  have hsz := jlen_le j3
  have hloop := loop_for (step := fun v : ByteArray × Int => rl_law38_JournalBack_l2 ps v.1 v.2) (fun i => (jn (ps.take i), (i : Int))) ps.length (.inl (jn ps)) (fun i hi => by
      simp only [rl_law38_JournalBack_l2]
      have htl : (ps.take i).length = i := by rw [List.length_take]; omega
      have hts := jlen_take ps i
      have hp := getD_le j3 hi
      rw [if_pos (by simpa using hi), if_pos (by omega), if_pos (by omega), Int.toNat_natCast, Nat.zero_add, Append_jn (hsm.take i) (by omega) (by omega) (by omega), bind2_pure, if_neg (by decide), take_snoc hi]
      have k1 : (jn (ps.take (i + 1))).size = (jn (ps.take i)).size + (12 + (ps.getD i ByteArray.empty).size) := by rw [jn_size, jn_size, jlen_step hi]
      have k2 : (jn (ps.take i)).size ≤ 1000 := by rw [jn_size]; omega
      rw [wi64 (n := (((jn (ps.take i)).size : Nat) : Int) + 12) (by omega) (by omega), wi64 (n := (((jn (ps.take i)).size : Nat) : Int) + 12 + (((ps.getD i ByteArray.empty).size : Nat) : Int)) (by omega) (by omega), if_neg (by rw [Bool.not_eq_true, bne_eq_false_iff_eq]; omega), if_pos (by omega), Int.toNat_natCast, if_pos (by omega)]
      have k3 := jn_take (ps := ps.take (i + 1)) (hsm.take _) i
      rw [List.take_take, Nat.min_eq_left (by omega), ← jn_size] at k3
      rw [k3, str_self]
      simp only [rl_law38_JournalBack_k3, Bool.not_true, Bool.false_eq_true, if_false]
      rw [wi64 (by omega) (by omega)]
      rfl) (by
      simp only [rl_law38_JournalBack_l2]
      rw [if_neg (by simp), List.take_of_length_le (Nat.le_refl _)]) (s := ((ByteArray.mk #[]), 0)) (by rw [List.take_zero]; rfl)
  rw [hloop, bindE_l]
  unfold rl_law38_JournalBack_a5
  rw [Read_jn hsm (by omega) (by omega), bind3_pure, if_pos (by decide), if_pos (by rw [jn_size]; simp), same38 (by omega), bind1_pure, if_pos (by simp), Whole_jn hsm (by omega) (by omega), bind1_pure, str_self]
  rfl
end Go.Proofs.Ytjedagkkeicpkaa
