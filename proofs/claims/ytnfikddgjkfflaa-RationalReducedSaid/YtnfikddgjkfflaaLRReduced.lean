/- The plain law of RationalReduced. -/
import Derived.Test.YtnfikddgjkfflaaRw
import Derived.Test.YtnfikddgjkfflaaGL4
namespace Go.Proofs.Ytnfikddgjkfflaa
open Vm
set_option linter.unusedVariables false
theorem reduced_law (p : List Int) : rl_law11_RationalReduced p = some true := by
  unfold rl_law11_RationalReduced
  rw [awake11]
  simp only [Option.bind_some, Bool.not_true, Bool.false_eq_true, if_false, rl_make_Few]
  by_cases hp : p.length ≤ 400
  rotate_left
  · rw [decide_eq_false (by omega : ¬ ((p.length : Nat) : Int) ≤ 400)]
    simp only [Bool.not_false, rl_law11_RationalReduced_k1, if_true, awake11, Option.bind_some]
  rw [decide_eq_true (by omega : ((p.length : Nat) : Int) ≤ 400)]
  simp only [Bool.not_true, rl_law11_RationalReduced_k1, Bool.false_eq_true, if_false]
  obtain ⟨d, he, hd⟩ := new_yes hp
  rw [he]; clear he; simp only [Option.bind_some]
  obtain ⟨n, d1, he, n0, n1, hd1⟩ := natural_yes hd (n := 3) 3 rfl (by decide)
  rw [he]; clear he; first | rw [bind2_pure] | rw [bind3_pure] | rw [bind4_pure] | rw [bind1_pure]
  obtain ⟨m, d2, he, m0, m1, hd2⟩ := natural_yes hd1 (n := 3) 3 rfl (by decide)
  rw [he]; clear he; first | rw [bind2_pure] | rw [bind3_pure] | rw [bind4_pure] | rw [bind1_pure]
  obtain ⟨c, d3, he, c0, c1, hd3⟩ := natural_yes hd2 (n := 2) 2 rfl (by decide)
  rw [he]; clear he; first | rw [bind2_pure] | rw [bind3_pure] | rw [bind4_pure] | rw [bind1_pure]
  have N0 := b64 n1 (by decide)
  have M0 := b64 m1 (by decide)
  have C0 := b64 c1 (by decide)
  have p0 := Int.mul_nonneg n0 c0
  have p1 := b64 (bp_mul n0 n1 c0 c1) (by decide)
  have q0 := Int.mul_nonneg m0 c0
  have q1 := b64 (bp_mul m0 m1 c0 c1) (by decide)
  rw [ref10_mul_eq (nat32_u32 n0) (nat32_u32 c0) (nlen n0 N0) (nlen c0 C0), mulS_nat n0 c0 N0 C0, ref10_mul_eq (nat32_u32 m0) (nat32_u32 c0) (nlen m0 M0) (nlen c0 C0), mulS_nat m0 c0 M0 C0]
  unfold limN
  rw [if_pos p1, if_pos q1, bind2_pure, bind2_pure, make_eq (nat32_u32 n0) (nat32_u32 m0) (nlen n0 N0) (nlen m0 M0), make_eq (nat32_u32 p0) (nat32_u32 q0) (nlen p0 p1) (nlen q0 q1)]
  unfold makeS
  rw [if_pos (show VN (nat32 n) ∧ VN (nat32 m) from ⟨(vn_iff n0).2 N0, (vn_iff m0).2 M0⟩), if_pos (show VN (nat32 (n * c)) ∧ VN (nat32 (m * c)) from ⟨(vn_iff p0).2 p1, (vn_iff q0).2 q1⟩), nat32_val n0, nat32_val m0, nat32_val p0, nat32_val q0, len_zero m0, len_zero c0]
  by_cases hm : m = 0
  · rw [if_pos ((nat32_nil m0).2 hm), if_pos ((nat32_nil q0).2 (by rw [hm, Int.zero_mul])), bind2_pure, bind2_pure, if_pos (decide_eq_true hm), (nat32_nil m0).2 hm]
    rfl
  have hm' : ¬ decide (m = 0) = true := by simpa using hm
  rw [if_neg (fun h => hm ((nat32_nil m0).1 h)), bind2_pure]
  by_cases hc : c = 0
  · rw [if_pos ((nat32_nil q0).2 (by rw [hc, Int.mul_zero])), bind2_pure, if_neg hm', decide_eq_true hc]
    unfold rl_law11_RationalReduced_k2
    rw [if_pos rfl, if_pos (by decide), len_pos m0, decide_eq_true (show 0 < m by omega)]
    rfl
  have m0' : 0 < m := by omega
  have c0' : 0 < c := by omega
  have q0' := Int.mul_pos m0' c0'
  rw [if_neg (fun h => by have := (nat32_nil q0).1 h; omega), bind2_pure, if_neg hm', decide_eq_false hc]
  unfold rl_law11_RationalReduced_k2
  rw [if_neg (by decide), if_pos (by decide), if_pos (by decide), frsame n0 m0' N0 M0, bind1_pure, if_pos (decide_eq_true (fr_eq n0 m0' p0 q0' (by grind))), frvalid n0 m0' N0 M0, bind1_pure]
  rfl
end Go.Proofs.Ytnfikddgjkfflaa
