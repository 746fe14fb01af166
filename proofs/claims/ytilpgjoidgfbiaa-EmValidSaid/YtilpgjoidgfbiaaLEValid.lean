/- The plain law of EmValid. -/
import Derived.Test.YtilpgjoidgfbiaaEt
import Derived.Test.YtilpgjoidgfbiaaGL7
namespace Go.Proofs.Ytilpgjoidgfbiaa
open Vm
set_option linter.unusedVariables false
theorem evalid_law (p : List Int) : rl_law24_EmValid p = some true := by
  unfold rl_law24_EmValid
  rw [awake24]
  simp only [Option.bind_some, Bool.not_true, Bool.false_eq_true, if_false, rl_make_Few]
  by_cases hp : p.length ≤ 400
  rotate_left
  · rw [decide_eq_false (by omega : ¬ ((p.length : Nat) : Int) ≤ 400)]
    simp only [Bool.not_false, rl_law24_EmValid_k1, if_true, awake24, Option.bind_some]
  rw [decide_eq_true (by omega : ((p.length : Nat) : Int) ≤ 400)]
  simp only [Bool.not_true, rl_law24_EmValid_k1, Bool.false_eq_true, if_false]
  obtain ⟨d, he, hd⟩ := new_yes hp
  rw [he]; clear he; simp only [Option.bind_some]
  obtain ⟨x, d1, he, x0, x1, hd1⟩ := next_yes hd (n := 3) (by decide) (by decide)
  rw [he]; clear he; first | rw [bind2_pure] | rw [bind3_pure] | rw [bind4_pure] | rw [bind1_pure]
  obtain ⟨n, hn⟩ : ∃ n : Nat, 1 + x = n := ⟨(1 + x).toNat, by omega⟩
  have hw : IntKind.i64.wrap (1 + x) = (n : Int) := by rw [wi64 (n := 1 + x) (by omega) (by omega), hn]
  rw [hw]
  obtain ⟨m, d2, he, m1, hm, hd2⟩ := model_yes hd1 (n := n) (by omega) (by omega)
  rw [he]; clear he; first | rw [bind2_pure] | rw [bind3_pure] | rw [bind4_pure] | rw [bind1_pure]
  obtain ⟨c, d3, he, hc, hd3⟩ := counts_yes hd2 (n := n) (by omega)
  rw [he]; clear he; first | rw [bind2_pure] | rw [bind3_pure] | rw [bind4_pure] | rw [bind1_pure]
  have h3 := pow3_le (show n ≤ 5 by omega)
  have hz := CV.zero n
  rw [← m1] at hc hz
  rw [Step_eq hm hc, bind2_pure, size_eq (by omega), bind1_pure, if_pos (by omega), if_pos (by omega), Int.toNat_natCast, ← m1, Step_eq hm hz, bind2_pure, if_pos (by decide), if_pos (by decide), em_check_eq, if_pos (stepS_ok hm), bind1_pure, if_pos (by decide), if_pos (by rw [(stepS_length m c).1]; simp), step_none hm, rsame_eq (by omega) (by have := hm.1; omega), bind1_pure]
  unfold rl_law24_EmValid_k2
  rw [decide_eq_true rfl]
end Go.Proofs.Ytilpgjoidgfbiaa
