/- The plain law of BloomSteps. -/
import Derived.Test.YtfnojcalalncbaaBc
import Derived.Test.YtfnojcalalncbaaGL11
namespace Go.Proofs.Ytfnojcalalncbaa
open Vm
set_option linter.unusedVariables false
theorem steps_law (p : List Int) : rl_law14_BloomSteps p = some true := by
  unfold rl_law14_BloomSteps
  rw [awake14]
  simp only [Option.bind_some, Bool.not_true, Bool.false_eq_true, if_false, rl_make_Few]
  by_cases hp : p.length ≤ 400
  rotate_left
  · rw [decide_eq_false (by omega : ¬ ((p.length : Nat) : Int) ≤ 400)]
    simp only [Bool.not_false, rl_law14_BloomSteps_k1, if_true, awake14, Option.bind_some]
  rw [decide_eq_true (by omega : ((p.length : Nat) : Int) ≤ 400)]
  simp only [Bool.not_true, rl_law14_BloomSteps_k1, Bool.false_eq_true, if_false]
  obtain ⟨d, he, hd⟩ := new_yes hp
  rw [he]; clear he; simp only [Option.bind_some]
  obtain ⟨l, d1, he, l1, ⟨a, b, ha, hb, hl⟩, hd1⟩ := params_yes hd
  rw [he, bind2_pure, if_pos (by rw [l1]; decide)]
  clear he
  obtain ⟨k, d2, he, hd2⟩ := key_yes hd1
  rw [he]; clear he; first | rw [bind2_pure] | rw [bind3_pure] | rw [bind4_pure] | rw [bind1_pure]
  obtain ⟨m, d3, he, m0, m1, hd3⟩ := next_yes hd2 (n := 15) (by decide) (by decide)
  rw [he]; clear he; first | rw [bind2_pure] | rw [bind3_pure] | rw [bind4_pure] | rw [bind1_pure]
  obtain ⟨g, d4, he, hg, hd4⟩ := pick_yes hd3 ([(ByteArray.mk #[97, 110]), (ByteArray.mk #[95, 97]), (ByteArray.mk #[]), (ByteArray.mk #[61, 56, 48, 48, 49])] : List ByteArray) (by decide) (by decide)
  rw [he, bind2_pure, hl, wi64 (n := 2 + m) (by omega) (by omega)]
  clear he
  have hgs : g.size ≤ 1000 := by
    simp only [List.mem_cons, List.not_mem_nil, or_false] at hg
    rcases hg with rfl | rfl | rfl | rfl <;> decide
  have hp0 := pv0 ha hb
  have hp : PV ⟨(P0 a b).Length, 2 + m, (P0 a b).Salt⟩ := ⟨hp0.1, by simp only; omega, by simp only; omega, hp0.2.2.2⟩
  obtain ⟨x, y, hxy⟩ := xy_yes hp0.1 k hgs
  have hpos := positions_eq hp k hxy
  obtain ⟨x0, x1, y0, y1, _⟩ := hxy
  obtain ⟨r1, r2, r3⟩ := hp0.1
  simp only at hpos
  generalize hL : (P0 a b).Length = L at *
  have hlen := posL_len x y L (2 + m).toNat
  rw [hpos, bind2_pure, if_neg (by decide), show (((posL x y L (2 + m).toNat).length : Int) != 2 + m) = false by simp; omega]
  unfold rl_law14_BloomSteps_k2
  have hst : ∀ i : Nat, (i + 1 : Nat) < (2 + m).toNat → rl_make_Mod (IntKind.i64.wrap ((posL x y L (2 + m).toNat).getD (i + 1) 0 - (posL x y L (2 + m).toNat).getD i 0)) L = some y := fun i hi => by
    rw [posL_get hi, posL_get (by omega)]
    have u0 := Int.emod_nonneg (x + ((i + 1 : Nat) : Int) * y) (show L ≠ 0 by omega)
    have u1 := Int.emod_lt_of_pos (x + ((i + 1 : Nat) : Int) * y) (show 0 < L by omega)
    have v0 := Int.emod_nonneg (x + (i : Int) * y) (show L ≠ 0 by omega)
    have v1 := Int.emod_lt_of_pos (x + (i : Int) * y) (show 0 < L by omega)
    rw [wi64 (by omega) (by omega), mod_eq (by omega) (by omega), ← Int.sub_emod]
    have : x + ((i + 1 : Nat) : Int) * y - (x + (i : Int) * y) = y := by rw [Int.natCast_add, Int.add_mul]; omega
    rw [this, Int.emod_eq_of_lt (by omega) y1]
  rw [if_neg (by decide), if_pos (by omega), if_pos (by omega), hl, hL, hst 0 (by omega), bind1_pure]
  rcases scanN (step := fun v : Int => rl_law14_BloomSteps_l3 l (posL x y L (2 + m).toNat) y v) (2 + m).toNat (fun _ => False) (fun _ => ()) (fun i hi => by
      right
      refine ⟨fun h => h, ?_⟩
      have hv : 0 ≤ (posL x y L (2 + m).toNat).getD i 0 ∧ (posL x y L (2 + m).toNat).getD i 0 < L := by
        rw [posL_get hi]
        exact ⟨Int.emod_nonneg _ (by omega), Int.emod_lt_of_pos _ (by omega)⟩
      have k4 : rl_law14_BloomSteps_k4 (i : Int) false = some (.inl ((i + 1 : Nat) : Int)) := by
        unfold rl_law14_BloomSteps_k4
        rw [if_neg (by decide), wi64 (by omega) (by omega)]
        rfl
      simp only [rl_law14_BloomSteps_l3, Int.toNat_natCast, hl, hL]
      simp only [Nat.zero_add]
      rw [if_pos (by simp only [decide_eq_true_eq]; omega), if_pos (by omega), if_pos (by omega), if_neg (by simp only [decide_eq_true_eq]; omega), if_neg (by simp only [decide_eq_true_eq]; omega)]
      by_cases h0 : i = 0
      · subst h0
        rw [if_neg (by decide)]
        exact k4
      · obtain ⟨j, rfl⟩ : ∃ j, i = j + 1 := ⟨i - 1, by omega⟩
        rw [if_pos (by simp only [decide_eq_true_eq]; omega), wi64 (n := ((j + 1 : Nat) : Int) - 1) (by omega) (by omega), if_pos (by omega), if_pos (by omega), show (((j + 1 : Nat) : Int) - 1).toNat = j by omega, hst j hi, bind1_pure, show (y != y) = false by simp]
        exact k4) (by simp only [rl_law14_BloomSteps_l3]; rw [if_neg (by simp only [decide_eq_true_eq]; omega)]) with ⟨h5, _⟩ | ⟨_, _, hb2, _⟩
  · rw [h5, bindE_l]
    unfold rl_law14_BloomSteps_a5
    rw [show (y != 0) = true by simp; omega]
  · exact hb2.elim
end Go.Proofs.Ytfnojcalalncbaa
