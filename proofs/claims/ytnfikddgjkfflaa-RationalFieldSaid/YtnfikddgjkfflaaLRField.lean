/- The plain law of RationalField. -/
import Derived.Test.YtnfikddgjkfflaaRw
import Derived.Test.YtnfikddgjkfflaaGL3
namespace Go.Proofs.Ytnfikddgjkfflaa
open Vm
set_option linter.unusedVariables false
theorem poly_field (a b c d e f : Int) : ((a * e + c * b) * d) * ((b * f) * (f * e)) = ((a * d) * (f * e) + (d * c) * (b * f)) * ((b * e) * f) := by grind
theorem field_law (p : List Int) : rl_law11_RationalField p = some true := by
  unfold rl_law11_RationalField
  rw [awake11]
  simp only [Option.bind_some, Bool.not_true, Bool.false_eq_true, if_false, rl_make_Few]
  by_cases hp : p.length ≤ 400
  rotate_left
  · rw [decide_eq_false (by omega : ¬ ((p.length : Nat) : Int) ≤ 400)]
    simp only [Bool.not_false, rl_law11_RationalField_k1, if_true, awake11, Option.bind_some]
  rw [decide_eq_true (by omega : ((p.length : Nat) : Int) ≤ 400)]
  simp only [Bool.not_true, rl_law11_RationalField_k1, Bool.false_eq_true, if_false]
  obtain ⟨d, he, hd⟩ := new_yes hp
  rw [he]; clear he; simp only [Option.bind_some]
  obtain ⟨a, b, d1, he, a0, b0, a1, b1, hd1⟩ := rational_yes hd (k := 2) 2 rfl (by decide) (by decide)
  rw [he]; clear he; first | rw [bind2_pure] | rw [bind3_pure] | rw [bind4_pure] | rw [bind1_pure]
  obtain ⟨c, e, d2, he, c0, e0, c1, e1, hd2⟩ := rational_yes hd1 (k := 2) 2 rfl (by decide) (by decide)
  rw [he]; clear he; first | rw [bind2_pure] | rw [bind3_pure] | rw [bind4_pure] | rw [bind1_pure]
  obtain ⟨g, f, d3, he, g0, f0, g1, f1, hd3⟩ := rational_yes hd2 (k := 2) 2 rfl (by decide) (by decide)
  rw [he]; clear he; first | rw [bind2_pure] | rw [bind3_pure] | rw [bind4_pure] | rw [bind1_pure]
  have b0' := Int.le_of_lt b0
  have e0' := Int.le_of_lt e0
  have f0' := Int.le_of_lt f0
  have A0 := b64 a1 (by decide)
  have B0 := b64 b1 (by decide)
  have C0 := b64 c1 (by decide)
  have E0 := b64 e1 (by decide)
  have G0 := b64 g1 (by decide)
  have F0 := b64 f1 (by decide)
  have ae := Int.mul_nonneg a0 e0'
  have cb := Int.mul_nonneg c0 b0'
  have ae1 := bp_mul a0 a1 e0' e1
  have cb1 := bp_mul c0 c1 b0' b1
  have s1 := bp_sum ae1 cb1
  have be := Int.mul_pos b0 e0
  have be1 := bp_mul b0' b1 e0' e1
  have s0 : 0 ≤ a * e + c * b := by omega
  rw [fadd a0 b0 c0 e0 A0 B0 C0 E0 (b64 s1 (by decide)) (b64 be1 (by decide)), bind2_pure, fadd c0 e0 a0 b0 C0 E0 A0 B0 (by have := b64 s1 (by decide); omega) (by rw [Int.mul_comm]; exact b64 be1 (by decide)), bind2_pure]
  have sg := Int.mul_nonneg s0 g0
  have sg1 := bp_mul s0 s1 g0 g1
  have bef := Int.mul_pos be f0
  have bef1 := bp_mul (Int.le_of_lt be) be1 f0' f1
  rw [fmul s0 be g0 f0 (b64 s1 (by decide)) (b64 be1 (by decide)) G0 F0 (b64 sg1 (by decide)) (b64 bef1 (by decide)), bind2_pure]
  have ag := Int.mul_nonneg a0 g0
  have ag1 := bp_mul a0 a1 g0 g1
  have bf := Int.mul_pos b0 f0
  have bf1 := bp_mul b0' b1 f0' f1
  rw [fmul a0 b0 g0 f0 A0 B0 G0 F0 (b64 ag1 (by decide)) (b64 bf1 (by decide)), bind2_pure]
  have gc := Int.mul_nonneg g0 c0
  have gc1 := bp_mul g0 g1 c0 c1
  have fe := Int.mul_pos f0 e0
  have fe1 := bp_mul f0' f1 e0' e1
  rw [fmul g0 f0 c0 e0 G0 F0 C0 E0 (b64 gc1 (by decide)) (b64 fe1 (by decide)), bind2_pure]
  have x0 := Int.mul_nonneg ag (Int.le_of_lt fe)
  have x1 := bp_mul ag ag1 (Int.le_of_lt fe) fe1
  have y0 := Int.mul_nonneg gc (Int.le_of_lt bf)
  have y1 := bp_mul gc gc1 (Int.le_of_lt bf) bf1
  have z1 := bp_mul (Int.le_of_lt bf) bf1 (Int.le_of_lt fe) fe1
  have z0 := Int.mul_pos bf fe
  have t1 := bp_sum x1 y1
  rw [fadd ag bf gc fe (b64 ag1 (by decide)) (b64 bf1 (by decide)) (b64 gc1 (by decide)) (b64 fe1 (by decide)) (b64 t1 (by decide)) (b64 z1 (by decide)), bind2_pure]
  rw [if_pos (by decide), if_pos (by decide), if_pos (by decide), if_pos (by decide), if_pos (by decide), if_pos (by decide)]
  rw [frsame s0 be (b64 s1 (by decide)) (b64 be1 (by decide)), bind1_pure, if_pos (decide_eq_true (by rw [Int.mul_comm e b, Int.add_comm]))]
  rw [frsame sg bef (b64 sg1 (by decide)) (b64 bef1 (by decide)), bind1_pure, if_pos (decide_eq_true (fr_eq sg bef (by omega) z0 (poly_field a b c g e f))), frvalid sg bef (b64 sg1 (by decide)) (b64 bef1 (by decide)), bind1_pure]
  rfl
end Go.Proofs.Ytnfikddgjkfflaa
