/- Printed by a program of mine (vmgen.py): Go functions, and what they come to. -/
import Derived.Test.YtilpgjoidgfbiaaGreatVr
import Derived.Test.YtilpgjoidgfbiaaGreatRows
import Derived.Test.YtilpgjoidgfbiaaGreatG1
import Derived.Test.YtilpgjoidgfbiaaGreatVq
namespace Go.Proofs.YtilpgjoidgfbiaaGreat
open Vm
open IntKind (i64 u64 u32 u8)
set_option maxHeartbeats 10000000
set_option linter.unusedVariables false
set_option linter.unusedSimpArgs false
set_option linter.constructorNameAsVariable false
noncomputable def em_probability_k1_F (k : Nat) (x1 : Bool) : Option Bool := some x1
theorem em_probability_k1_le (k : Nat) (x1 : Bool) : Lo (em_probability_k1_F k x1) (em_probability_k1 x1) := by
 unfold em_probability_k1_F em_probability_k1
 repeat' with_reducible first | exact Lo.rfl_
noncomputable def em_probability_F (k : Nat) (p0 : Int) : Option Bool := if (decide (p0 ≥ 1)) = true then (em_probability_k1_F k (decide (p0 < 65536))) else (em_probability_k1_F k false)
theorem em_probability_le (k : Nat) (p0 : Int) : Lo (em_probability_F k p0) (em_probability p0) := by
 unfold em_probability_F em_probability
 repeat' with_reducible first | refine Lo.ite_ ?_ ?_ | exact em_probability_k1_le k _ | exact Lo.rfl_
noncomputable def em_Check_f1_F (k : Nat) (p0 : Int) : Option Bool := (em_probability_F k p0).bind fun y1 => (some (!y1))
theorem em_Check_f1_le (k : Nat) (p0 : Int) : Lo (em_Check_f1_F k p0) (em_Check_f1 p0) := by
 unfold em_Check_f1_F em_Check_f1
 repeat' with_reducible first | refine Lo.bind_ ?_ (fun _ => ?_) | exact em_probability_le k _ | exact Lo.rfl_
noncomputable def slices_IndexFunc_int_em_Check_f1_l1_F (k : Nat) (p0 : List Int) (x2 : Int) : Option (Int ⊕ (Unit ⊕ Int)) := if (decide (x2 < (p0.length : Int))) = true then (if 0 ≤ x2 then (if x2 < (p0.length : Int) then ((em_Check_f1_F k (p0.getD x2.toNat 0)).bind fun y7 => (if y7 = true then (some (.inr (.inr x2))) else (some (.inl (i64.wrap (x2 + 1)))))) else none) else none) else (some (.inr (.inl ())))
theorem slices_IndexFunc_int_em_Check_f1_l1_le (k : Nat) (p0 : List Int) (x2 : Int) : Lo (slices_IndexFunc_int_em_Check_f1_l1_F k p0 x2) (slices_IndexFunc_int_em_Check_f1_l1 p0 x2) := by
 unfold slices_IndexFunc_int_em_Check_f1_l1_F slices_IndexFunc_int_em_Check_f1_l1
 repeat' with_reducible first | refine Lo.ite_ ?_ ?_ | refine Lo.bind_ ?_ (fun _ => ?_) | exact em_Check_f1_le k _ | exact Lo.rfl_
noncomputable def slices_IndexFunc_int_em_Check_f1_a2_F (k : Nat) : Option Int := some (-1)
theorem slices_IndexFunc_int_em_Check_f1_a2_le (k : Nat) : Lo (slices_IndexFunc_int_em_Check_f1_a2_F k) (slices_IndexFunc_int_em_Check_f1_a2) := by
 unfold slices_IndexFunc_int_em_Check_f1_a2_F slices_IndexFunc_int_em_Check_f1_a2
 repeat' with_reducible first | exact Lo.rfl_
noncomputable def slices_IndexFunc_int_em_Check_f1_a3_F (k : Nat) (x10 : Int) : Option Int := some x10
theorem slices_IndexFunc_int_em_Check_f1_a3_le (k : Nat) (x10 : Int) : Lo (slices_IndexFunc_int_em_Check_f1_a3_F k x10) (slices_IndexFunc_int_em_Check_f1_a3 x10) := by
 unfold slices_IndexFunc_int_em_Check_f1_a3_F slices_IndexFunc_int_em_Check_f1_a3
 repeat' with_reducible first | exact Lo.rfl_
noncomputable def slices_IndexFunc_int_em_Check_f1_F (k : Nat) (p0 : List Int) : Option Int := bindE (loopF k (fun v : Int => slices_IndexFunc_int_em_Check_f1_l1_F k p0 v) 0) (fun t => slices_IndexFunc_int_em_Check_f1_a2_F k) (fun t => slices_IndexFunc_int_em_Check_f1_a3_F k t)
theorem slices_IndexFunc_int_em_Check_f1_le (k : Nat) (p0 : List Int) : Lo (slices_IndexFunc_int_em_Check_f1_F k p0) (slices_IndexFunc_int_em_Check_f1 p0) := by
 unfold slices_IndexFunc_int_em_Check_f1_F slices_IndexFunc_int_em_Check_f1
 repeat' with_reducible first | refine Lo.bindE_ ?_ (fun _ => ?_) (fun _ => ?_) | refine Lo.loop_ (fun _ => ?_) | exact slices_IndexFunc_int_em_Check_f1_a2_le k | exact slices_IndexFunc_int_em_Check_f1_a3_le k _ | exact slices_IndexFunc_int_em_Check_f1_l1_le k _ _ | exact Lo.rfl_
noncomputable def slices_ContainsFunc_int_em_Check_f1_F (k : Nat) (p0 : List Int) : Option Bool := (slices_IndexFunc_int_em_Check_f1_F k p0).bind fun y1 => (some (decide (y1 ≥ 0)))
theorem slices_ContainsFunc_int_em_Check_f1_le (k : Nat) (p0 : List Int) : Lo (slices_ContainsFunc_int_em_Check_f1_F k p0) (slices_ContainsFunc_int_em_Check_f1 p0) := by
 unfold slices_ContainsFunc_int_em_Check_f1_F slices_ContainsFunc_int_em_Check_f1
 repeat' with_reducible first | refine Lo.bind_ ?_ (fun _ => ?_) | exact slices_IndexFunc_int_em_Check_f1_le k _ | exact Lo.rfl_
noncomputable def em_Check_k1_F (k : Nat) (x1 : Bool) : Option Int := if x1 = true then (some 18) else (some 0)
theorem em_Check_k1_le (k : Nat) (x1 : Bool) : Lo (em_Check_k1_F k x1) (em_Check_k1 x1) := by
 unfold em_Check_k1_F em_Check_k1
 repeat' with_reducible first | refine Lo.ite_ ?_ ?_ | exact Lo.rfl_
noncomputable def em_Check_F (k : Nat) (p0 : S_em_model) : Option Int := if (((p0.Match.length : Nat) : Int) != ((p0.Random.length : Nat) : Int)) = true then (em_Check_k1_F k true) else (if (decide (((p0.Match.length : Nat) : Int) < 1)) = true then (em_Check_k1_F k true) else (if (decide (((p0.Match.length : Nat) : Int) > 5)) = true then (em_Check_k1_F k true) else ((em_Check_f1_F k p0.Prior).bind fun y6 => (if y6 = true then (em_Check_k1_F k true) else ((slices_ContainsFunc_int_em_Check_f1_F k p0.Match).bind fun y9 => (if y9 = true then (em_Check_k1_F k true) else ((slices_ContainsFunc_int_em_Check_f1_F k p0.Random).bind fun y12 => (em_Check_k1_F k y12))))))))
theorem em_Check_le (k : Nat) (p0 : S_em_model) : Lo (em_Check_F k p0) (em_Check p0) := by
 unfold em_Check_F em_Check
 repeat' with_reducible first | refine Lo.ite_ ?_ ?_ | refine Lo.bind_ ?_ (fun _ => ?_) | exact em_Check_f1_le k _ | exact em_Check_k1_le k _ | exact slices_ContainsFunc_int_em_Check_f1_le k _ | exact Lo.rfl_
noncomputable def similarity_fields_k1_F (k : Nat) (x1 : Bool) : Option Bool := some x1
theorem similarity_fields_k1_le (k : Nat) (x1 : Bool) : Lo (similarity_fields_k1_F k x1) (similarity_fields_k1 x1) := by
 unfold similarity_fields_k1_F similarity_fields_k1
 repeat' with_reducible first | exact Lo.rfl_
noncomputable def similarity_fields_F (k : Nat) (p0 : Int) : Option Bool := if (decide (p0 ≥ 1)) = true then (similarity_fields_k1_F k (decide (p0 ≤ 5))) else (similarity_fields_k1_F k false)
theorem similarity_fields_le (k : Nat) (p0 : Int) : Lo (similarity_fields_F k p0) (similarity_fields p0) := by
 unfold similarity_fields_F similarity_fields
 repeat' with_reducible first | refine Lo.ite_ ?_ ?_ | exact similarity_fields_k1_le k _ | exact Lo.rfl_
noncomputable def similarity_powers_F (k : Nat) : Option (List Int) := some ([1, 3, 9, 27, 81, 243] : List Int)
theorem similarity_powers_le (k : Nat) : Lo (similarity_powers_F k) (similarity_powers) := by
 unfold similarity_powers_F similarity_powers
 repeat' with_reducible first | exact Lo.rfl_
noncomputable def similarity_Digits_l2_F (k : Nat) (p0 : Int) (p1 : Int) (x8 : List Int) (x9 : Int) : Option (((List Int) × Int) ⊕ (List Int)) := if (decide (x9 < p1)) = true then ((similarity_powers_F k).bind fun y12 => (if 0 ≤ x9 then (if x9 < ((6 : Nat) : Int) then (if (y12.getD x9.toNat 0) ≠ 0 then (if x8.length + ([((i64.wrap (p0.tdiv (y12.getD x9.toNat 0))).tmod 3)] : List Int).length ≤ 1099511627776 then (some (.inl ((x8 ++ ([((i64.wrap (p0.tdiv (y12.getD x9.toNat 0))).tmod 3)] : List Int)), i64.wrap (x9 + 1)))) else none) else none) else none) else none)) else (some (.inr x8))
theorem similarity_Digits_l2_le (k : Nat) (p0 : Int) (p1 : Int) (x8 : List Int) (x9 : Int) : Lo (similarity_Digits_l2_F k p0 p1 x8 x9) (similarity_Digits_l2 p0 p1 x8 x9) := by
 unfold similarity_Digits_l2_F similarity_Digits_l2
 repeat' with_reducible first | refine Lo.ite_ ?_ ?_ | refine Lo.bind_ ?_ (fun _ => ?_) | exact similarity_powers_le k | exact Lo.rfl_
noncomputable def similarity_Digits_k1_F (k : Nat) (p0 : Int) (p1 : Int) (x4 : Bool) : Option ((List Int) × Int) := if x4 = true then (some (([] : List Int), 2)) else ((loopF k (fun v : (List Int) × Int => similarity_Digits_l2_F k p0 p1 v.1 v.2) (([] : List Int), 0)).bind fun x18 => (some (x18, 0)))
theorem similarity_Digits_k1_le (k : Nat) (p0 : Int) (p1 : Int) (x4 : Bool) : Lo (similarity_Digits_k1_F k p0 p1 x4) (similarity_Digits_k1 p0 p1 x4) := by
 unfold similarity_Digits_k1_F similarity_Digits_k1
 repeat' with_reducible first | refine Lo.ite_ ?_ ?_ | refine Lo.bind_ ?_ (fun _ => ?_) | refine Lo.loop_ (fun _ => ?_) | exact similarity_Digits_l2_le k _ _ _ _ | exact Lo.rfl_
noncomputable def similarity_Digits_F (k : Nat) (p0 : Int) (p1 : Int) : Option ((List Int) × Int) := (similarity_fields_F k p1).bind fun y1 => (if (!y1) = true then (some (([] : List Int), 8)) else (if (decide (p0 < 0)) = true then (similarity_Digits_k1_F k p0 p1 true) else ((similarity_powers_F k).bind fun y21 => (if 0 ≤ p1 then (if p1 < ((6 : Nat) : Int) then (similarity_Digits_k1_F k p0 p1 (decide (p0 ≥ (y21.getD p1.toNat 0)))) else none) else none))))
theorem similarity_Digits_le (k : Nat) (p0 : Int) (p1 : Int) : Lo (similarity_Digits_F k p0 p1) (similarity_Digits p0 p1) := by
 unfold similarity_Digits_F similarity_Digits
 repeat' with_reducible first | refine Lo.ite_ ?_ ?_ | refine Lo.bind_ ?_ (fun _ => ?_) | exact similarity_Digits_k1_le k _ _ _ | exact similarity_fields_le k _ | exact similarity_powers_le k | exact Lo.rfl_
noncomputable def natural_trim_k2_F (k : Nat) (x2 : List Int) (x4 : Bool) : Option ((List Int) ⊕ (List Int)) := if x4 = true then (if 0 ≤ (i64.wrap ((x2.length : Int) - 1)) then (if ((i64.wrap ((x2.length : Int) - 1)).toNat) ≤ x2.length then (some (.inl (x2.take ((i64.wrap ((x2.length : Int) - 1)).toNat)))) else none) else none) else (some (.inr x2))
theorem natural_trim_k2_le (k : Nat) (x2 : List Int) (x4 : Bool) : Lo (natural_trim_k2_F k x2 x4) (natural_trim_k2 x2 x4) := by
 unfold natural_trim_k2_F natural_trim_k2
 repeat' with_reducible first | refine Lo.ite_ ?_ ?_ | exact Lo.rfl_
noncomputable def natural_trim_l1_F (k : Nat) (x2 : List Int) : Option ((List Int) ⊕ (List Int)) := if (decide ((x2.length : Int) > 0)) = true then (if 0 ≤ (i64.wrap ((x2.length : Int) - 1)) then (if (i64.wrap ((x2.length : Int) - 1)) < (x2.length : Int) then (natural_trim_k2_F k x2 ((x2.getD ((i64.wrap ((x2.length : Int) - 1)).toNat) 0) == 0)) else none) else none) else (natural_trim_k2_F k x2 false)
theorem natural_trim_l1_le (k : Nat) (x2 : List Int) : Lo (natural_trim_l1_F k x2) (natural_trim_l1 x2) := by
 unfold natural_trim_l1_F natural_trim_l1
 repeat' with_reducible first | refine Lo.ite_ ?_ ?_ | exact natural_trim_k2_le k _ _ | exact Lo.rfl_
noncomputable def natural_trim_F (k : Nat) (p0 : List Int) : Option (List Int) := (loopF k (fun v : List Int => natural_trim_l1_F k v) p0).bind fun x11 => (some x11)
theorem natural_trim_le (k : Nat) (p0 : List Int) : Lo (natural_trim_F k p0) (natural_trim p0) := by
 unfold natural_trim_F natural_trim
 repeat' with_reducible first | refine Lo.bind_ ?_ (fun _ => ?_) | refine Lo.loop_ (fun _ => ?_) | exact natural_trim_l1_le k _ | exact Lo.rfl_
noncomputable def natural_FromInt_F (k : Nat) (p0 : Int) : Option ((List Int) × Int) := if (decide (p0 < 0)) = true then (some (([] : List Int), 2)) else ((natural_trim_F k ([u32.wrap p0, u32.wrap (ishr .i64 p0 32)] : List Int)).bind fun y2 => (some (y2, 0)))
theorem natural_FromInt_le (k : Nat) (p0 : Int) : Lo (natural_FromInt_F k p0) (natural_FromInt p0) := by
 unfold natural_FromInt_F natural_FromInt
 repeat' with_reducible first | refine Lo.ite_ ?_ ?_ | refine Lo.bind_ ?_ (fun _ => ?_) | exact natural_trim_le k _ | exact Lo.rfl_
noncomputable def natural_Valid_k1_F (k : Nat) (x1 : Bool) : Option Bool := some x1
theorem natural_Valid_k1_le (k : Nat) (x1 : Bool) : Lo (natural_Valid_k1_F k x1) (natural_Valid_k1 x1) := by
 unfold natural_Valid_k1_F natural_Valid_k1
 repeat' with_reducible first | exact Lo.rfl_
noncomputable def natural_Valid_F (k : Nat) (p0 : List Int) : Option Bool := if (decide ((p0.length : Int) ≤ 64)) = true then (if ((p0.length : Int) == 0) = true then (natural_Valid_k1_F k true) else (if 0 ≤ (i64.wrap ((p0.length : Int) - 1)) then (if (i64.wrap ((p0.length : Int) - 1)) < (p0.length : Int) then (natural_Valid_k1_F k ((p0.getD ((i64.wrap ((p0.length : Int) - 1)).toNat) 0) != 0)) else none) else none)) else (natural_Valid_k1_F k false)
theorem natural_Valid_le (k : Nat) (p0 : List Int) : Lo (natural_Valid_F k p0) (natural_Valid p0) := by
 unfold natural_Valid_F natural_Valid
 repeat' with_reducible first | refine Lo.ite_ ?_ ?_ | exact natural_Valid_k1_le k _ | exact Lo.rfl_
noncomputable def natural_both_k1_F (k : Nat) (x1 : Bool) : Option Int := if x1 = true then (some 20) else (some 0)
theorem natural_both_k1_le (k : Nat) (x1 : Bool) : Lo (natural_both_k1_F k x1) (natural_both_k1 x1) := by
 unfold natural_both_k1_F natural_both_k1
 repeat' with_reducible first | refine Lo.ite_ ?_ ?_ | exact Lo.rfl_
noncomputable def natural_both_F (k : Nat) (p0 : List Int) (p1 : List Int) : Option Int := (natural_Valid_F k p0).bind fun y3 => (if (!y3) = true then (natural_both_k1_F k true) else ((natural_Valid_F k p1).bind fun y6 => (natural_both_k1_F k (!y6))))
theorem natural_both_le (k : Nat) (p0 : List Int) (p1 : List Int) : Lo (natural_both_F k p0 p1) (natural_both p0 p1) := by
 unfold natural_both_F natural_both
 repeat' with_reducible first | refine Lo.ite_ ?_ ?_ | refine Lo.bind_ ?_ (fun _ => ?_) | exact natural_Valid_le k _ | exact natural_both_k1_le k _ | exact Lo.rfl_
noncomputable def natural_times_l2_F (k : Nat) (p0 : List Int) (p1 : List Int) (x6 : Int) (x14 : List Int) (x15 : Int) (x16 : Int) : Option (((List Int) × Int × Int) ⊕ ((List Int) × Int)) := if (decide (x16 < (p1.length : Int))) = true then (if 0 ≤ x16 then (if x16 < (p1.length : Int) then (if 0 ≤ (i64.wrap (x6 + x16)) then (if (i64.wrap (x6 + x16)) < (x14.length : Int) then ((some (u64.wrap (x15 + (u64.wrap ((u64.wrap ((u64.wrap (p0.getD x6.toNat 0)) * (u64.wrap (p1.getD x16.toNat 0)))) + (u64.wrap (x14.getD (0 + (i64.wrap (x6 + x16)).toNat) 0))))))).bind fun z24 => (some (.inl ((x14.set (0 + (i64.wrap (x6 + x16)).toNat) (u32.wrap z24)), ishr .u64 z24 32, i64.wrap (x16 + 1))))) else none) else none) else none) else none) else (some (.inr (x14, x15)))
theorem natural_times_l2_le (k : Nat) (p0 : List Int) (p1 : List Int) (x6 : Int) (x14 : List Int) (x15 : Int) (x16 : Int) : Lo (natural_times_l2_F k p0 p1 x6 x14 x15 x16) (natural_times_l2 p0 p1 x6 x14 x15 x16) := by
 unfold natural_times_l2_F natural_times_l2
 repeat' with_reducible first | refine Lo.ite_ ?_ ?_ | refine Lo.bind_ ?_ (fun _ => ?_) | exact Lo.rfl_
noncomputable def natural_times_l1_F (k : Nat) (p0 : List Int) (p1 : List Int) (x5 : List Int) (x6 : Int) : Option (((List Int) × Int) ⊕ (List Int)) := if (decide (x6 < (p0.length : Int))) = true then (if 0 ≤ x6 then (if x6 < (p0.length : Int) then (bind2 (loopF k (fun v : (List Int) × Int × Int => natural_times_l2_F k p0 p1 x6 v.1 v.2.1 v.2.2) (x5, 0, 0)) fun x26 x27 => (if 0 ≤ (i64.wrap (x6 + (p1.length : Int))) then (if (i64.wrap (x6 + (p1.length : Int))) < (x26.length : Int) then (some (.inl ((x26.set (0 + (i64.wrap (x6 + (p1.length : Int))).toNat) (u32.wrap x27)), i64.wrap (x6 + 1)))) else none) else none)) else none) else none) else (some (.inr x5))
theorem natural_times_l1_le (k : Nat) (p0 : List Int) (p1 : List Int) (x5 : List Int) (x6 : Int) : Lo (natural_times_l1_F k p0 p1 x5 x6) (natural_times_l1 p0 p1 x5 x6) := by
 unfold natural_times_l1_F natural_times_l1
 repeat' with_reducible first | refine Lo.ite_ ?_ ?_ | refine Lo.bind2_ ?_ (fun _ _ => ?_) | refine Lo.loop_ (fun _ => ?_) | exact natural_times_l2_le k _ _ _ _ _ _ | exact Lo.rfl_
noncomputable def natural_times_F (k : Nat) (p0 : List Int) (p1 : List Int) : Option (List Int) := if 0 ≤ (i64.wrap ((p0.length : Int) + (p1.length : Int))) then (if (i64.wrap ((p0.length : Int) + (p1.length : Int))) ≤ 1099511627776 then ((loopF k (fun v : (List Int) × Int => natural_times_l1_F k p0 p1 v.1 v.2) ((List.replicate ((i64.wrap ((p0.length : Int) + (p1.length : Int))).toNat) (0 : Int)), 0)).bind fun x31 => ((natural_trim_F k x31).bind fun y32 => (some y32))) else none) else none
theorem natural_times_le (k : Nat) (p0 : List Int) (p1 : List Int) : Lo (natural_times_F k p0 p1) (natural_times p0 p1) := by
 unfold natural_times_F natural_times
 repeat' with_reducible first | refine Lo.ite_ ?_ ?_ | refine Lo.bind_ ?_ (fun _ => ?_) | refine Lo.loop_ (fun _ => ?_) | exact natural_times_l1_le k _ _ _ _ | exact natural_trim_le k _ | exact Lo.rfl_
noncomputable def natural_done_F (k : Nat) (p0 : List Int) : Option ((List Int) × Int) := (natural_trim_F k p0).bind fun y1 => ((natural_Valid_F k y1).bind fun y3 => (if (!y3) = true then (some (([] : List Int), 1)) else (some (y1, 0))))
theorem natural_done_le (k : Nat) (p0 : List Int) : Lo (natural_done_F k p0) (natural_done p0) := by
 unfold natural_done_F natural_done
 repeat' with_reducible first | refine Lo.ite_ ?_ ?_ | refine Lo.bind_ ?_ (fun _ => ?_) | exact natural_Valid_le k _ | exact natural_trim_le k _ | exact Lo.rfl_
noncomputable def natural_Mul_F (k : Nat) (p0 : List Int) (p1 : List Int) : Option ((List Int) × Int) := (natural_both_F k p0 p1).bind fun y1 => (if (y1 != 0) = true then (some (([] : List Int), y1)) else ((natural_times_F k p0 p1).bind fun y4 => (bind2 (natural_done_F k y4) fun y6 y7 => (some (y6, y7)))))
theorem natural_Mul_le (k : Nat) (p0 : List Int) (p1 : List Int) : Lo (natural_Mul_F k p0 p1) (natural_Mul p0 p1) := by
 unfold natural_Mul_F natural_Mul
 repeat' with_reducible first | refine Lo.ite_ ?_ ?_ | refine Lo.bind_ ?_ (fun _ => ?_) | refine Lo.bind2_ ?_ (fun _ _ => ?_) | exact natural_both_le k _ _ | exact natural_done_le k _ | exact natural_times_le k _ _ | exact Lo.rfl_
noncomputable def em_weight_k2_F (k : Nat) (x7 : Int) (x10 : List Int) : Option (((List Int) × Int) ⊕ (List Int)) := some (.inl (x10, i64.wrap (x7 + 1)))
theorem em_weight_k2_le (k : Nat) (x7 : Int) (x10 : List Int) : Lo (em_weight_k2_F k x7 x10) (em_weight_k2 x7 x10) := by
 unfold em_weight_k2_F em_weight_k2
 repeat' with_reducible first | exact Lo.rfl_
noncomputable def em_weight_k3_F (k : Nat) (x6 : List Int) (x7 : Int) (x14 : Int) : Option (((List Int) × Int) ⊕ (List Int)) := bind2 (natural_FromInt_F k x14) fun y15 y16 => (bind2 (natural_Mul_F k x6 y15) fun y18 y19 => (em_weight_k2_F k x7 y18))
theorem em_weight_k3_le (k : Nat) (x6 : List Int) (x7 : Int) (x14 : Int) : Lo (em_weight_k3_F k x6 x7 x14) (em_weight_k3 x6 x7 x14) := by
 unfold em_weight_k3_F em_weight_k3
 repeat' with_reducible first | refine Lo.bind2_ ?_ (fun _ _ => ?_) | exact em_weight_k2_le k _ _ | exact natural_FromInt_le k _ | exact natural_Mul_le k _ _ | exact Lo.rfl_
noncomputable def em_weight_l1_F (k : Nat) (p1 : List Int) (p2 : List Int) (x6 : List Int) (x7 : Int) : Option (((List Int) × Int) ⊕ (List Int)) := if (decide (x7 < (p2.length : Int))) = true then (if 0 ≤ x7 then (if x7 < (p2.length : Int) then (if x7 < (p1.length : Int) then (if ((p2.getD x7.toNat 0) == 0) = true then (em_weight_k2_F k x7 x6) else (if ((p2.getD x7.toNat 0) == 1) = true then (em_weight_k3_F k x6 x7 (i64.wrap (65536 - (p1.getD x7.toNat 0)))) else (em_weight_k3_F k x6 x7 (p1.getD x7.toNat 0)))) else none) else none) else none) else (some (.inr x6))
theorem em_weight_l1_le (k : Nat) (p1 : List Int) (p2 : List Int) (x6 : List Int) (x7 : Int) : Lo (em_weight_l1_F k p1 p2 x6 x7) (em_weight_l1 p1 p2 x6 x7) := by
 unfold em_weight_l1_F em_weight_l1
 repeat' with_reducible first | refine Lo.ite_ ?_ ?_ | exact em_weight_k2_le k _ _ | exact em_weight_k3_le k _ _ _ | exact Lo.rfl_
noncomputable def em_weight_F (k : Nat) (p0 : Int) (p1 : List Int) (p2 : List Int) : Option (List Int) := bind2 (natural_FromInt_F k p0) fun y1 y2 => ((loopF k (fun v : (List Int) × Int => em_weight_l1_F k p1 p2 v.1 v.2) (y1, 0)).bind fun x23 => (some x23))
theorem em_weight_le (k : Nat) (p0 : Int) (p1 : List Int) (p2 : List Int) : Lo (em_weight_F k p0 p1 p2) (em_weight p0 p1 p2) := by
 unfold em_weight_F em_weight
 repeat' with_reducible first | refine Lo.bind_ ?_ (fun _ => ?_) | refine Lo.bind2_ ?_ (fun _ _ => ?_) | refine Lo.loop_ (fun _ => ?_) | exact em_weight_l1_le k _ _ _ _ | exact natural_FromInt_le k _ | exact Lo.rfl_
noncomputable def natural_Add_k3_F (k : Nat) (x11 : List Int) (x13 : Int) (x21 : Int) : Option (((List Int) × Int × Int) ⊕ ((List Int) × Int)) := if x13 < (x11.length : Int) then (some (.inl ((x11.set (0 + x13.toNat) (u32.wrap x21)), ishr .u64 x21 32, i64.wrap (x13 + 1)))) else none
theorem natural_Add_k3_le (k : Nat) (x11 : List Int) (x13 : Int) (x21 : Int) : Lo (natural_Add_k3_F k x11 x13 x21) (natural_Add_k3 x11 x13 x21) := by
 unfold natural_Add_k3_F natural_Add_k3
 repeat' with_reducible first | refine Lo.ite_ ?_ ?_ | exact Lo.rfl_
noncomputable def natural_Add_l2_F (k : Nat) (x4 : List Int) (x5 : List Int) (x11 : List Int) (x12 : Int) (x13 : Int) : Option (((List Int) × Int × Int) ⊕ ((List Int) × Int)) := if (decide (x13 < (x4.length : Int))) = true then (if 0 ≤ x13 then (if x13 < (x4.length : Int) then ((some (u64.wrap (x12 + (u64.wrap (x4.getD x13.toNat 0))))).bind fun z19 => (if (decide (x13 < (x5.length : Int))) = true then (if x13 < (x5.length : Int) then ((some (u64.wrap (z19 + (u64.wrap (x5.getD x13.toNat 0))))).bind fun z25 => (natural_Add_k3_F k x11 x13 z25)) else none) else (natural_Add_k3_F k x11 x13 z19))) else none) else none) else (some (.inr (x11, x12)))
theorem natural_Add_l2_le (k : Nat) (x4 : List Int) (x5 : List Int) (x11 : List Int) (x12 : Int) (x13 : Int) : Lo (natural_Add_l2_F k x4 x5 x11 x12 x13) (natural_Add_l2 x4 x5 x11 x12 x13) := by
 unfold natural_Add_l2_F natural_Add_l2
 repeat' with_reducible first | refine Lo.ite_ ?_ ?_ | refine Lo.bind_ ?_ (fun _ => ?_) | exact natural_Add_k3_le k _ _ _ | exact Lo.rfl_
noncomputable def natural_Add_k1_F (k : Nat) (x4 : List Int) (x5 : List Int) : Option ((List Int) × Int) := if 0 ≤ (i64.wrap ((x4.length : Int) + 1)) then (if (i64.wrap ((x4.length : Int) + 1)) ≤ 1099511627776 then (bind2 (loopF k (fun v : (List Int) × Int × Int => natural_Add_l2_F k x4 x5 v.1 v.2.1 v.2.2) ((List.replicate ((i64.wrap ((x4.length : Int) + 1)).toNat) (0 : Int)), 0, 0)) fun x27 x28 => (if 0 ≤ (x4.length : Int) then (if (x4.length : Int) < (x27.length : Int) then (bind2 (natural_done_F k (x27.set (0 + (x4.length : Int).toNat) (u32.wrap x28))) fun y31 y32 => (some (y31, y32))) else none) else none)) else none) else none
theorem natural_Add_k1_le (k : Nat) (x4 : List Int) (x5 : List Int) : Lo (natural_Add_k1_F k x4 x5) (natural_Add_k1 x4 x5) := by
 unfold natural_Add_k1_F natural_Add_k1
 repeat' with_reducible first | refine Lo.ite_ ?_ ?_ | refine Lo.bind2_ ?_ (fun _ _ => ?_) | refine Lo.loop_ (fun _ => ?_) | exact natural_Add_l2_le k _ _ _ _ _ | exact natural_done_le k _ | exact Lo.rfl_
noncomputable def natural_Add_F (k : Nat) (p0 : List Int) (p1 : List Int) : Option ((List Int) × Int) := (natural_both_F k p0 p1).bind fun y1 => (if (y1 != 0) = true then (some (([] : List Int), y1)) else (if (decide ((p0.length : Int) < (p1.length : Int))) = true then (natural_Add_k1_F k p1 p0) else (natural_Add_k1_F k p0 p1)))
theorem natural_Add_le (k : Nat) (p0 : List Int) (p1 : List Int) : Lo (natural_Add_F k p0 p1) (natural_Add p0 p1) := by
 unfold natural_Add_F natural_Add
 repeat' with_reducible first | refine Lo.ite_ ?_ ?_ | refine Lo.bind_ ?_ (fun _ => ?_) | exact natural_Add_k1_le k _ _ | exact natural_both_le k _ _ | exact Lo.rfl_
noncomputable def rational_of_F (k : Nat) (p0 : List Int) : Option S_rational_number := some (⟨p0, 0⟩ : S_rational_number)
theorem rational_of_le (k : Nat) (p0 : List Int) : Lo (rational_of_F k p0) (rational_of p0) := by
 unfold rational_of_F rational_of
 repeat' with_reducible first | exact Lo.rfl_
noncomputable def slices_Clone_uint32_F (k : Nat) (p0 : List Int) : Option (List Int) := Lo.bothD (p0.length = 0) (some ([] : List Int)) (if ([] : List Int).length + p0.length ≤ 1099511627776 then (some (([] : List Int) ++ p0)) else none)
theorem slices_Clone_uint32_le (k : Nat) (p0 : List Int) : Lo (slices_Clone_uint32_F k p0) (slices_Clone_uint32 p0) := by
 unfold slices_Clone_uint32_F slices_Clone_uint32
 repeat' with_reducible first | refine Lo.ite_ ?_ ?_ | refine Lo.bothD_ ?_ ?_ | refine Lo.both_ ?_ | exact Lo.rfl_
noncomputable def cmp_isNaN_int_F (k : Nat) (p0 : Int) : Option Bool := some (p0 != p0)
theorem cmp_isNaN_int_le (k : Nat) (p0 : Int) : Lo (cmp_isNaN_int_F k p0) (cmp_isNaN_int p0) := by
 unfold cmp_isNaN_int_F cmp_isNaN_int
 repeat' with_reducible first | exact Lo.rfl_
noncomputable def cmp_Compare_int_F (k : Nat) (p0 : Int) (p1 : Int) : Option Int := (cmp_isNaN_int_F k p0).bind fun y1 => ((cmp_isNaN_int_F k p1).bind fun y3 => (if y1 = true then (if y3 = true then (some 0) else (some (-1))) else (if y3 = true then (some 1) else (if (decide (p0 < p1)) = true then (some (-1)) else (if (decide (p0 > p1)) = true then (some 1) else (some 0))))))
theorem cmp_Compare_int_le (k : Nat) (p0 : Int) (p1 : Int) : Lo (cmp_Compare_int_F k p0 p1) (cmp_Compare_int p0 p1) := by
 unfold cmp_Compare_int_F cmp_Compare_int
 repeat' with_reducible first | refine Lo.ite_ ?_ ?_ | refine Lo.bind_ ?_ (fun _ => ?_) | exact cmp_isNaN_int_le k _ | exact Lo.rfl_
noncomputable def cmp_isNaN_uint32_F (k : Nat) (p0 : Int) : Option Bool := some (p0 != p0)
theorem cmp_isNaN_uint32_le (k : Nat) (p0 : Int) : Lo (cmp_isNaN_uint32_F k p0) (cmp_isNaN_uint32 p0) := by
 unfold cmp_isNaN_uint32_F cmp_isNaN_uint32
 repeat' with_reducible first | exact Lo.rfl_
noncomputable def cmp_Compare_uint32_F (k : Nat) (p0 : Int) (p1 : Int) : Option Int := (cmp_isNaN_uint32_F k p0).bind fun y1 => ((cmp_isNaN_uint32_F k p1).bind fun y3 => (if y1 = true then (if y3 = true then (some 0) else (some (-1))) else (if y3 = true then (some 1) else (if (decide (p0 < p1)) = true then (some (-1)) else (if (decide (p0 > p1)) = true then (some 1) else (some 0))))))
theorem cmp_Compare_uint32_le (k : Nat) (p0 : Int) (p1 : Int) : Lo (cmp_Compare_uint32_F k p0 p1) (cmp_Compare_uint32 p0 p1) := by
 unfold cmp_Compare_uint32_F cmp_Compare_uint32
 repeat' with_reducible first | refine Lo.ite_ ?_ ?_ | refine Lo.bind_ ?_ (fun _ => ?_) | exact cmp_isNaN_uint32_le k _ | exact Lo.rfl_
noncomputable def natural_Compare_l1_F (k : Nat) (y1 : List Int) (y3 : List Int) (x9 : Int) : Option (Int ⊕ (Unit ⊕ Int)) := if (decide (x9 ≥ 0)) = true then (if 0 ≤ x9 then (if x9 < (y1.length : Int) then (if x9 < (y3.length : Int) then (if ((y1.getD x9.toNat 0) != (y3.getD x9.toNat 0)) = true then ((cmp_Compare_uint32_F k (y1.getD x9.toNat 0) (y3.getD x9.toNat 0)).bind fun y16 => (some (.inr (.inr y16)))) else (some (.inl (i64.wrap (x9 - 1))))) else none) else none) else none) else (some (.inr (.inl ())))
theorem natural_Compare_l1_le (k : Nat) (y1 : List Int) (y3 : List Int) (x9 : Int) : Lo (natural_Compare_l1_F k y1 y3 x9) (natural_Compare_l1 y1 y3 x9) := by
 unfold natural_Compare_l1_F natural_Compare_l1
 repeat' with_reducible first | refine Lo.ite_ ?_ ?_ | refine Lo.bind_ ?_ (fun _ => ?_) | exact cmp_Compare_uint32_le k _ _ | exact Lo.rfl_
noncomputable def natural_Compare_a2_F (k : Nat) : Option Int := some 0
theorem natural_Compare_a2_le (k : Nat) : Lo (natural_Compare_a2_F k) (natural_Compare_a2) := by
 unfold natural_Compare_a2_F natural_Compare_a2
 repeat' with_reducible first | exact Lo.rfl_
noncomputable def natural_Compare_a3_F (k : Nat) (x18 : Int) : Option Int := some x18
theorem natural_Compare_a3_le (k : Nat) (x18 : Int) : Lo (natural_Compare_a3_F k x18) (natural_Compare_a3 x18) := by
 unfold natural_Compare_a3_F natural_Compare_a3
 repeat' with_reducible first | exact Lo.rfl_
noncomputable def natural_Compare_F (k : Nat) (p0 : List Int) (p1 : List Int) : Option Int := (natural_trim_F k p0).bind fun y1 => ((natural_trim_F k p1).bind fun y3 => (if ((y1.length : Int) != (y3.length : Int)) = true then ((cmp_Compare_int_F k (y1.length : Int) (y3.length : Int)).bind fun y6 => (some y6)) else (bindE (loopF k (fun v : Int => natural_Compare_l1_F k y1 y3 v) (i64.wrap ((y1.length : Int) - 1))) (fun t => natural_Compare_a2_F k) (fun t => natural_Compare_a3_F k t))))
theorem natural_Compare_le (k : Nat) (p0 : List Int) (p1 : List Int) : Lo (natural_Compare_F k p0 p1) (natural_Compare p0 p1) := by
 unfold natural_Compare_F natural_Compare
 repeat' with_reducible first | refine Lo.ite_ ?_ ?_ | refine Lo.bind_ ?_ (fun _ => ?_) | refine Lo.bindE_ ?_ (fun _ => ?_) (fun _ => ?_) | refine Lo.loop_ (fun _ => ?_) | exact cmp_Compare_int_le k _ _ | exact natural_Compare_a2_le k | exact natural_Compare_a3_le k _ | exact natural_Compare_l1_le k _ _ _ | exact natural_trim_le k _ | exact Lo.rfl_
noncomputable def bits_Len32_k2_F (k : Nat) (x3 : Int) (x4 : Int) : Option Int := if 0 ≤ (u8.wrap x3) then (if (u8.wrap x3) < ((bigS0.size : Nat) : Int) then ((some (i64.wrap (x4 + (i64.wrap ((bigS0.data.toList.getD ((u8.wrap x3).toNat) 0).toNat : Int))))).bind fun z7 => (some z7)) else none) else none
theorem bits_Len32_k2_le (k : Nat) (x3 : Int) (x4 : Int) : Lo (bits_Len32_k2_F k x3 x4) (bits_Len32_k2 x3 x4) := by
 unfold bits_Len32_k2_F bits_Len32_k2
 repeat' with_reducible first | refine Lo.ite_ ?_ ?_ | refine Lo.bind_ ?_ (fun _ => ?_) | exact Lo.rfl_
noncomputable def bits_Len32_k1_F (k : Nat) (x1 : Int) (x2 : Int) : Option Int := if (decide (x1 ≥ 256)) = true then (bits_Len32_k2_F k (ishr .u32 x1 8) (i64.wrap (x2 + 8))) else (bits_Len32_k2_F k x1 x2)
theorem bits_Len32_k1_le (k : Nat) (x1 : Int) (x2 : Int) : Lo (bits_Len32_k1_F k x1 x2) (bits_Len32_k1 x1 x2) := by
 unfold bits_Len32_k1_F bits_Len32_k1
 repeat' with_reducible first | refine Lo.ite_ ?_ ?_ | exact bits_Len32_k2_le k _ _ | exact Lo.rfl_
noncomputable def bits_Len32_F (k : Nat) (p0 : Int) : Option Int := if (decide (p0 ≥ 65536)) = true then (bits_Len32_k1_F k (ishr .u32 p0 16) 16) else (bits_Len32_k1_F k p0 0)
theorem bits_Len32_le (k : Nat) (p0 : Int) : Lo (bits_Len32_F k p0) (bits_Len32 p0) := by
 unfold bits_Len32_F bits_Len32
 repeat' with_reducible first | refine Lo.ite_ ?_ ?_ | exact bits_Len32_k1_le k _ _ | exact Lo.rfl_
noncomputable def bits_LeadingZeros32_F (k : Nat) (p0 : Int) : Option Int := (bits_Len32_F k p0).bind fun y1 => (some (i64.wrap (32 - y1)))
theorem bits_LeadingZeros32_le (k : Nat) (p0 : Int) : Lo (bits_LeadingZeros32_F k p0) (bits_LeadingZeros32 p0) := by
 unfold bits_LeadingZeros32_F bits_LeadingZeros32
 repeat' with_reducible first | refine Lo.bind_ ?_ (fun _ => ?_) | exact bits_Len32_le k _ | exact Lo.rfl_
noncomputable def natural_shift_l1_F (k : Nat) (p0 : List Int) (p1 : Int) (x5 : List Int) (x6 : Int) : Option (((List Int) × Int) ⊕ (List Int)) := if (decide (x6 < (p0.length : Int))) = true then (if 0 ≤ x6 then (if x6 < (p0.length : Int) then (if 0 ≤ p1 then (if x6 < (x5.length : Int) then (if 0 ≤ (i64.wrap (x6 + 1)) then (if (i64.wrap (x6 + 1)) < (x5.length : Int) then (some (.inl (((x5.set (0 + x6.toNat) (ior .u32 (x5.getD (0 + x6.toNat) 0) (u32.wrap (ishl .u64 (u64.wrap (p0.getD x6.toNat 0)) p1)))).set (0 + (i64.wrap (x6 + 1)).toNat) (u32.wrap (ishr .u64 (ishl .u64 (u64.wrap (p0.getD x6.toNat 0)) p1) 32))), i64.wrap (x6 + 1)))) else none) else none) else none) else none) else none) else none) else (some (.inr x5))
theorem natural_shift_l1_le (k : Nat) (p0 : List Int) (p1 : Int) (x5 : List Int) (x6 : Int) : Lo (natural_shift_l1_F k p0 p1 x5 x6) (natural_shift_l1 p0 p1 x5 x6) := by
 unfold natural_shift_l1_F natural_shift_l1
 repeat' with_reducible first | refine Lo.ite_ ?_ ?_ | exact Lo.rfl_
noncomputable def natural_shift_F (k : Nat) (p0 : List Int) (p1 : Int) : Option (List Int) := if 0 ≤ (i64.wrap ((p0.length : Int) + 1)) then (if (i64.wrap ((p0.length : Int) + 1)) ≤ 1099511627776 then ((loopF k (fun v : (List Int) × Int => natural_shift_l1_F k p0 p1 v.1 v.2) ((List.replicate ((i64.wrap ((p0.length : Int) + 1)).toNat) (0 : Int)), 0)).bind fun x15 => (some x15)) else none) else none
theorem natural_shift_le (k : Nat) (p0 : List Int) (p1 : Int) : Lo (natural_shift_F k p0 p1) (natural_shift p0 p1) := by
 unfold natural_shift_F natural_shift
 repeat' with_reducible first | refine Lo.ite_ ?_ ?_ | refine Lo.bind_ ?_ (fun _ => ?_) | refine Lo.loop_ (fun _ => ?_) | exact natural_shift_l1_le k _ _ _ _ | exact Lo.rfl_
noncomputable def natural_less_k2_F (k : Nat) (o0 : Nat) (n0 : Nat) (x5 : List Int) (x7 : Int) (x8 : Int) (x12 : Int) : Option (((List Int) × Int × Int × Int) ⊕ (Int × (List Int))) := if 0 ≤ x8 then (if x8 < ((n0 : Nat) : Int) then (if (o0 + x8.toNat) < x5.length then ((some (u64.wrap ((u64.wrap ((u64.wrap (x5.getD (o0 + x8.toNat) 0)) - (iand .u64 x12 4294967295))) - x7))).bind fun z16 => (some (.inl ((x5.set (o0 + x8.toNat) (u32.wrap z16)), ishr .u64 x12 32, ishr .u64 z16 63, i64.wrap (x8 + 1))))) else none) else none) else none
theorem natural_less_k2_le (k : Nat) (o0 : Nat) (n0 : Nat) (x5 : List Int) (x7 : Int) (x8 : Int) (x12 : Int) : Lo (natural_less_k2_F k o0 n0 x5 x7 x8 x12) (natural_less_k2 o0 n0 x5 x7 x8 x12) := by
 unfold natural_less_k2_F natural_less_k2
 repeat' with_reducible first | refine Lo.ite_ ?_ ?_ | refine Lo.bind_ ?_ (fun _ => ?_) | exact Lo.rfl_
noncomputable def natural_less_l1_F (k : Nat) (o0 : Nat) (n0 : Nat) (p1 : List Int) (p2 : Int) (x5 : List Int) (x6 : Int) (x7 : Int) (x8 : Int) : Option (((List Int) × Int × Int × Int) ⊕ (Int × (List Int))) := if (decide (x8 < ((n0 : Nat) : Int))) = true then (if (decide (x8 < (p1.length : Int))) = true then (if 0 ≤ x8 then (if x8 < (p1.length : Int) then ((some (u64.wrap (x6 + (u64.wrap (p2 * (u64.wrap (p1.getD x8.toNat 0))))))).bind fun z21 => (natural_less_k2_F k o0 n0 x5 x7 x8 z21)) else none) else none) else (natural_less_k2_F k o0 n0 x5 x7 x8 x6)) else (some (.inr (x7, x5)))
theorem natural_less_l1_le (k : Nat) (o0 : Nat) (n0 : Nat) (p1 : List Int) (p2 : Int) (x5 : List Int) (x6 : Int) (x7 : Int) (x8 : Int) : Lo (natural_less_l1_F k o0 n0 p1 p2 x5 x6 x7 x8) (natural_less_l1 o0 n0 p1 p2 x5 x6 x7 x8) := by
 unfold natural_less_l1_F natural_less_l1
 repeat' with_reducible first | refine Lo.ite_ ?_ ?_ | refine Lo.bind_ ?_ (fun _ => ?_) | exact natural_less_k2_le k _ _ _ _ _ _ | exact Lo.rfl_
noncomputable def natural_less_F (k : Nat) (p0 : List Int) (o0 : Nat) (n0 : Nat) (p1 : List Int) (p2 : Int) : Option (Bool × (List Int)) := bind2 (loopF k (fun v : (List Int) × Int × Int × Int => natural_less_l1_F k o0 n0 p1 p2 v.1 v.2.1 v.2.2.1 v.2.2.2) (p0, 0, 0, 0)) fun x23 x24 => (some (decide (x23 > 0), x24))
theorem natural_less_le (k : Nat) (p0 : List Int) (o0 : Nat) (n0 : Nat) (p1 : List Int) (p2 : Int) : Lo (natural_less_F k p0 o0 n0 p1 p2) (natural_less p0 o0 n0 p1 p2) := by
 unfold natural_less_F natural_less
 repeat' with_reducible first | refine Lo.bind2_ ?_ (fun _ _ => ?_) | refine Lo.loop_ (fun _ => ?_) | exact natural_less_l1_le k _ _ _ _ _ _ _ _ | exact Lo.rfl_
noncomputable def natural_more_k2_F (k : Nat) (o0 : Nat) (x4 : List Int) (x6 : Int) (x14 : Int) : Option (((List Int) × Int × Int) ⊕ (List Int)) := some (.inl ((x4.set (o0 + x6.toNat) (u32.wrap x14)), ishr .u64 x14 32, i64.wrap (x6 + 1)))
theorem natural_more_k2_le (k : Nat) (o0 : Nat) (x4 : List Int) (x6 : Int) (x14 : Int) : Lo (natural_more_k2_F k o0 x4 x6 x14) (natural_more_k2 o0 x4 x6 x14) := by
 unfold natural_more_k2_F natural_more_k2
 repeat' with_reducible first | exact Lo.rfl_
noncomputable def natural_more_l1_F (k : Nat) (o0 : Nat) (n0 : Nat) (p1 : List Int) (x4 : List Int) (x5 : Int) (x6 : Int) : Option (((List Int) × Int × Int) ⊕ (List Int)) := if (decide (x6 < ((n0 : Nat) : Int))) = true then (if 0 ≤ x6 then (if x6 < ((n0 : Nat) : Int) then (if (o0 + x6.toNat) < x4.length then ((some (u64.wrap (x5 + (u64.wrap (x4.getD (o0 + x6.toNat) 0))))).bind fun z12 => (if (decide (x6 < (p1.length : Int))) = true then (if x6 < (p1.length : Int) then ((some (u64.wrap (z12 + (u64.wrap (p1.getD x6.toNat 0))))).bind fun z17 => (natural_more_k2_F k o0 x4 x6 z17)) else none) else (natural_more_k2_F k o0 x4 x6 z12))) else none) else none) else none) else (some (.inr x4))
theorem natural_more_l1_le (k : Nat) (o0 : Nat) (n0 : Nat) (p1 : List Int) (x4 : List Int) (x5 : Int) (x6 : Int) : Lo (natural_more_l1_F k o0 n0 p1 x4 x5 x6) (natural_more_l1 o0 n0 p1 x4 x5 x6) := by
 unfold natural_more_l1_F natural_more_l1
 repeat' with_reducible first | refine Lo.ite_ ?_ ?_ | refine Lo.bind_ ?_ (fun _ => ?_) | exact natural_more_k2_le k _ _ _ _ | exact Lo.rfl_
noncomputable def natural_more_F (k : Nat) (p0 : List Int) (o0 : Nat) (n0 : Nat) (p1 : List Int) : Option (List Int) := (loopF k (fun v : (List Int) × Int × Int => natural_more_l1_F k o0 n0 p1 v.1 v.2.1 v.2.2) (p0, 0, 0)).bind fun x19 => (some x19)
theorem natural_more_le (k : Nat) (p0 : List Int) (o0 : Nat) (n0 : Nat) (p1 : List Int) : Lo (natural_more_F k p0 o0 n0 p1) (natural_more p0 o0 n0 p1) := by
 unfold natural_more_F natural_more
 repeat' with_reducible first | refine Lo.bind_ ?_ (fun _ => ?_) | refine Lo.loop_ (fun _ => ?_) | exact natural_more_l1_le k _ _ _ _ _ _ | exact Lo.rfl_
noncomputable def natural_back_k2_F (k : Nat) (p1 : Int) (x5 : List Int) (x6 : Int) (x11 : Int) : Option (((List Int) × Int) ⊕ (List Int)) := if 0 ≤ p1 then (if x6 < (x5.length : Int) then (some (.inl ((x5.set (0 + x6.toNat) (u32.wrap (ishr .u64 x11 p1))), i64.wrap (x6 + 1)))) else none) else none
theorem natural_back_k2_le (k : Nat) (p1 : Int) (x5 : List Int) (x6 : Int) (x11 : Int) : Lo (natural_back_k2_F k p1 x5 x6 x11) (natural_back_k2 p1 x5 x6 x11) := by
 unfold natural_back_k2_F natural_back_k2
 repeat' with_reducible first | refine Lo.ite_ ?_ ?_ | exact Lo.rfl_
noncomputable def natural_back_l1_F (k : Nat) (p0 : List Int) (p1 : Int) (y1 : List Int) (x5 : List Int) (x6 : Int) : Option (((List Int) × Int) ⊕ (List Int)) := if (decide (x6 < (y1.length : Int))) = true then (if 0 ≤ x6 then (if x6 < (p0.length : Int) then (if (decide ((i64.wrap (x6 + 1)) < (p0.length : Int))) = true then (if 0 ≤ (i64.wrap (x6 + 1)) then (if (i64.wrap (x6 + 1)) < (p0.length : Int) then ((some (ior .u64 (u64.wrap (p0.getD x6.toNat 0)) (ishl .u64 (u64.wrap (p0.getD ((i64.wrap (x6 + 1)).toNat) 0)) 32))).bind fun z17 => (natural_back_k2_F k p1 x5 x6 z17)) else none) else none) else (natural_back_k2_F k p1 x5 x6 (u64.wrap (p0.getD x6.toNat 0)))) else none) else none) else (some (.inr x5))
theorem natural_back_l1_le (k : Nat) (p0 : List Int) (p1 : Int) (y1 : List Int) (x5 : List Int) (x6 : Int) : Lo (natural_back_l1_F k p0 p1 y1 x5 x6) (natural_back_l1 p0 p1 y1 x5 x6) := by
 unfold natural_back_l1_F natural_back_l1
 repeat' with_reducible first | refine Lo.ite_ ?_ ?_ | refine Lo.bind_ ?_ (fun _ => ?_) | exact natural_back_k2_le k _ _ _ _ | exact Lo.rfl_
noncomputable def natural_back_F (k : Nat) (p0 : List Int) (p1 : Int) : Option (List Int) := (slices_Clone_uint32_F k p0).bind fun y1 => ((loopF k (fun v : (List Int) × Int => natural_back_l1_F k p0 p1 y1 v.1 v.2) (y1, 0)).bind fun x19 => ((natural_trim_F k x19).bind fun y20 => (some y20)))
theorem natural_back_le (k : Nat) (p0 : List Int) (p1 : Int) : Lo (natural_back_F k p0 p1) (natural_back p0 p1) := by
 unfold natural_back_F natural_back
 repeat' with_reducible first | refine Lo.bind_ ?_ (fun _ => ?_) | refine Lo.loop_ (fun _ => ?_) | exact natural_back_l1_le k _ _ _ _ _ | exact natural_trim_le k _ | exact slices_Clone_uint32_le k _ | exact Lo.rfl_
noncomputable def natural_divide_k2_F (k : Nat) (x29 : Int) (x33 : List Int) (x34 : List Int) : Option (((List Int) × (List Int) × Int) ⊕ ((List Int) × (List Int))) := some (.inl (x33, x34, i64.wrap (x29 - 1)))
theorem natural_divide_k2_le (k : Nat) (x29 : Int) (x33 : List Int) (x34 : List Int) : Lo (natural_divide_k2_F k x29 x33 x34) (natural_divide_k2 x29 x33 x34) := by
 unfold natural_divide_k2_F natural_divide_k2
 repeat' with_reducible first | exact Lo.rfl_
noncomputable def natural_divide_l3_F (k : Nat) (y14 : List Int) (x29 : Int) (y47 : Bool) (x52 : List Int) (x53 : Int) : Option (((List Int) × Int) ⊕ ((List Int) × Int)) := if y47 = true then ((natural_more_F k x52 (0 + x29.toNat) ((i64.wrap ((i64.wrap (x29 + (y14.length : Int))) + 1)).toNat - x29.toNat) y14).bind fun y57 => (if ((0 + x29.toNat) + (y14.length : Int).toNat) < y57.length then (if ((y57.getD ((0 + x29.toNat) + (y14.length : Int).toNat) 0) == 0) = true then (some (.inr (y57, u64.wrap (x53 - 1)))) else (some (.inl (y57, u64.wrap (x53 - 1))))) else none)) else (some (.inr (x52, x53)))
theorem natural_divide_l3_le (k : Nat) (y14 : List Int) (x29 : Int) (y47 : Bool) (x52 : List Int) (x53 : Int) : Lo (natural_divide_l3_F k y14 x29 y47 x52 x53) (natural_divide_l3 y14 x29 y47 x52 x53) := by
 unfold natural_divide_l3_F natural_divide_l3
 repeat' with_reducible first | refine Lo.ite_ ?_ ?_ | refine Lo.bind_ ?_ (fun _ => ?_) | exact natural_more_le k _ _ _ _ | exact Lo.rfl_
noncomputable def natural_divide_l1_F (k : Nat) (y10 : List Int) (y14 : List Int) (z18 : Int) (x27 : List Int) (x28 : List Int) (x29 : Int) : Option (((List Int) × (List Int) × Int) ⊕ ((List Int) × (List Int))) := if (decide (x29 ≥ 0)) = true then (if 0 ≤ x29 then (if x29 ≤ (i64.wrap ((i64.wrap (x29 + (y14.length : Int))) + 1)) then (if (i64.wrap ((i64.wrap (x29 + (y14.length : Int))) + 1)) ≤ (y10.length : Int) then (if 0 ≤ (y14.length : Int) then (if (y14.length : Int) < ((((i64.wrap ((i64.wrap (x29 + (y14.length : Int))) + 1)).toNat - x29.toNat) : Nat) : Int) then (if ((0 + x29.toNat) + (y14.length : Int).toNat) < x27.length then (if (i64.wrap ((y14.length : Int) - 1)) < ((((i64.wrap ((i64.wrap (x29 + (y14.length : Int))) + 1)).toNat - x29.toNat) : Nat) : Int) then (if ((0 + x29.toNat) + (i64.wrap ((y14.length : Int) - 1)).toNat) < x27.length then (if z18 ≠ 0 then ((some ((if (4294967295 : Int) < (u64.wrap ((ior .u64 (ishl .u64 (u64.wrap (x27.getD ((0 + x29.toNat) + (y14.length : Int).toNat) 0)) 32) (u64.wrap (x27.getD ((0 + x29.toNat) + (i64.wrap ((y14.length : Int) - 1)).toNat) 0))).tdiv z18)) then 4294967295 else (u64.wrap ((ior .u64 (ishl .u64 (u64.wrap (x27.getD ((0 + x29.toNat) + (y14.length : Int).toNat) 0)) 32) (u64.wrap (x27.getD ((0 + x29.toNat) + (i64.wrap ((y14.length : Int) - 1)).toNat) 0))).tdiv z18))))).bind fun z44 => (if (z44 == 0) = true then (natural_divide_k2_F k x29 x27 x28) else (bind2 (natural_less_F k x27 (0 + x29.toNat) ((i64.wrap ((i64.wrap (x29 + (y14.length : Int))) + 1)).toNat - x29.toNat) y14 z44) fun y47 y48 => (bind2 (loopF k (fun v : (List Int) × Int => natural_divide_l3_F k y14 x29 y47 v.1 v.2) (y48, z44)) fun x61 x62 => (if x29 < (x28.length : Int) then (natural_divide_k2_F k x29 x61 (x28.set (0 + x29.toNat) (u32.wrap x62))) else none))))) else none) else none) else none) else none) else none) else none) else none) else none) else none) else (some (.inr (x27, x28)))
theorem natural_divide_l1_le (k : Nat) (y10 : List Int) (y14 : List Int) (z18 : Int) (x27 : List Int) (x28 : List Int) (x29 : Int) : Lo (natural_divide_l1_F k y10 y14 z18 x27 x28 x29) (natural_divide_l1 y10 y14 z18 x27 x28 x29) := by
 unfold natural_divide_l1_F natural_divide_l1
 repeat' with_reducible first | refine Lo.ite_ ?_ ?_ | refine Lo.bind_ ?_ (fun _ => ?_) | refine Lo.bind2_ ?_ (fun _ _ => ?_) | refine Lo.loop_ (fun _ => ?_) | exact natural_divide_k2_le k _ _ _ | exact natural_divide_l3_le k _ _ _ _ _ | exact natural_less_le k _ _ _ _ _ | exact Lo.rfl_
noncomputable def natural_divide_F (k : Nat) (p0 : List Int) (p1 : List Int) : Option ((List Int) × (List Int)) := (natural_Compare_F k p0 p1).bind fun y1 => (if (decide (y1 < 0)) = true then ((slices_Clone_uint32_F k p0).bind fun y4 => (some (([] : List Int), y4))) else (if 0 ≤ (i64.wrap ((p1.length : Int) - 1)) then (if (i64.wrap ((p1.length : Int) - 1)) < (p1.length : Int) then ((bits_LeadingZeros32_F k (p1.getD ((i64.wrap ((p1.length : Int) - 1)).toNat) 0)).bind fun y8 => ((natural_shift_F k p0 y8).bind fun y10 => ((natural_shift_F k p1 y8).bind fun y12 => ((natural_trim_F k y12).bind fun y14 => (if 0 ≤ (i64.wrap ((y14.length : Int) - 1)) then (if (i64.wrap ((y14.length : Int) - 1)) < (y14.length : Int) then ((some (u64.wrap (y14.getD ((i64.wrap ((y14.length : Int) - 1)).toNat) 0))).bind fun z18 => (if 0 ≤ (i64.wrap ((y10.length : Int) - (y14.length : Int))) then (if (i64.wrap ((y10.length : Int) - (y14.length : Int))) ≤ 1099511627776 then ((some (i64.wrap ((((List.replicate ((i64.wrap ((y10.length : Int) - (y14.length : Int))).toNat) (0 : Int)).length : Nat) : Int) - 1))).bind fun z22 => (bind2 (loopF k (fun v : (List Int) × (List Int) × Int => natural_divide_l1_F k y10 y14 z18 v.1 v.2.1 v.2.2) (y10, (List.replicate ((i64.wrap ((y10.length : Int) - (y14.length : Int))).toNat) (0 : Int)), z22)) fun x65 x66 => ((natural_trim_F k x66).bind fun y67 => ((natural_trim_F k (x65.take y10.length)).bind fun y69 => (if 0 + y10.length ≤ x65.length then ((natural_back_F k y69 y8).bind fun y72 => (some (y67, y72))) else none))))) else none) else none)) else none) else none))))) else none) else none))
theorem natural_divide_le (k : Nat) (p0 : List Int) (p1 : List Int) : Lo (natural_divide_F k p0 p1) (natural_divide p0 p1) := by
 unfold natural_divide_F natural_divide
 repeat' with_reducible first | refine Lo.ite_ ?_ ?_ | refine Lo.bind_ ?_ (fun _ => ?_) | refine Lo.bind2_ ?_ (fun _ _ => ?_) | refine Lo.loop_ (fun _ => ?_) | exact bits_LeadingZeros32_le k _ | exact natural_Compare_le k _ _ | exact natural_back_le k _ _ | exact natural_divide_l1_le k _ _ _ _ _ _ | exact natural_shift_le k _ _ | exact natural_trim_le k _ | exact slices_Clone_uint32_le k _ | exact Lo.rfl_
noncomputable def natural_GCD_l1_F (k : Nat) (x8 : List Int) (x9 : List Int) : Option (((List Int) × (List Int)) ⊕ (List Int)) := if (decide ((x9.length : Int) > 0)) = true then (bind2 (natural_divide_F k x8 x9) fun y12 y13 => ((slices_Clone_uint32_F k x9).bind fun y15 => (some (.inl (y15, y13))))) else (some (.inr x8))
theorem natural_GCD_l1_le (k : Nat) (x8 : List Int) (x9 : List Int) : Lo (natural_GCD_l1_F k x8 x9) (natural_GCD_l1 x8 x9) := by
 unfold natural_GCD_l1_F natural_GCD_l1
 repeat' with_reducible first | refine Lo.ite_ ?_ ?_ | refine Lo.bind_ ?_ (fun _ => ?_) | refine Lo.bind2_ ?_ (fun _ _ => ?_) | exact natural_divide_le k _ _ | exact slices_Clone_uint32_le k _ | exact Lo.rfl_
noncomputable def natural_GCD_F (k : Nat) (p0 : List Int) (p1 : List Int) : Option ((List Int) × Int) := (natural_both_F k p0 p1).bind fun y1 => (if (y1 != 0) = true then (some (([] : List Int), y1)) else ((slices_Clone_uint32_F k p0).bind fun y4 => ((loopF k (fun v : (List Int) × (List Int) => natural_GCD_l1_F k v.1 v.2) (y4, p1)).bind fun x17 => (some (x17, 0)))))
theorem natural_GCD_le (k : Nat) (p0 : List Int) (p1 : List Int) : Lo (natural_GCD_F k p0 p1) (natural_GCD p0 p1) := by
 unfold natural_GCD_F natural_GCD
 repeat' with_reducible first | refine Lo.ite_ ?_ ?_ | refine Lo.bind_ ?_ (fun _ => ?_) | refine Lo.loop_ (fun _ => ?_) | exact natural_GCD_l1_le k _ _ | exact natural_both_le k _ _ | exact slices_Clone_uint32_le k _ | exact Lo.rfl_
noncomputable def rational_number_with_natural_GCD_F (k : Nat) (p0 : S_rational_number) (p1 : S_rational_number) : Option S_rational_number := if (p0.e != 0) = true then (some p0) else (if (p1.e != 0) = true then (some p1) else (bind2 (natural_GCD_F k p0.n p1.n) fun y3 y4 => (some (⟨y3, y4⟩ : S_rational_number))))
theorem rational_number_with_natural_GCD_le (k : Nat) (p0 : S_rational_number) (p1 : S_rational_number) : Lo (rational_number_with_natural_GCD_F k p0 p1) (rational_number_with_natural_GCD p0 p1) := by
 unfold rational_number_with_natural_GCD_F rational_number_with_natural_GCD
 repeat' with_reducible first | refine Lo.ite_ ?_ ?_ | refine Lo.bind2_ ?_ (fun _ _ => ?_) | exact natural_GCD_le k _ _ | exact Lo.rfl_
noncomputable def natural_DivMod_F (k : Nat) (p0 : List Int) (p1 : List Int) : Option ((List Int) × (List Int) × Int) := (natural_both_F k p0 p1).bind fun y1 => (if (y1 != 0) = true then (some (([] : List Int), ([] : List Int), y1)) else (if ((p1.length : Int) == 0) = true then (some (([] : List Int), ([] : List Int), 9)) else (bind2 (natural_divide_F k p0 p1) fun y5 y6 => (some (y5, y6, 0)))))
theorem natural_DivMod_le (k : Nat) (p0 : List Int) (p1 : List Int) : Lo (natural_DivMod_F k p0 p1) (natural_DivMod p0 p1) := by
 unfold natural_DivMod_F natural_DivMod
 repeat' with_reducible first | refine Lo.ite_ ?_ ?_ | refine Lo.bind_ ?_ (fun _ => ?_) | refine Lo.bind2_ ?_ (fun _ _ => ?_) | exact natural_both_le k _ _ | exact natural_divide_le k _ _ | exact Lo.rfl_
noncomputable def rational_reduced_f1_F (k : Nat) (p0 : List Int) (p1 : List Int) : Option ((List Int) × Int) := bind3 (natural_DivMod_F k p0 p1) fun y1 y2 y3 => (some (y1, y3))
theorem rational_reduced_f1_le (k : Nat) (p0 : List Int) (p1 : List Int) : Lo (rational_reduced_f1_F k p0 p1) (rational_reduced_f1 p0 p1) := by
 unfold rational_reduced_f1_F rational_reduced_f1
 repeat' with_reducible first | refine Lo.bind3_ ?_ (fun _ _ _ => ?_) | exact natural_DivMod_le k _ _ | exact Lo.rfl_
noncomputable def rational_number_with_rational_reduced_f1_F (k : Nat) (p0 : S_rational_number) (p1 : S_rational_number) : Option S_rational_number := if (p0.e != 0) = true then (some p0) else (if (p1.e != 0) = true then (some p1) else (bind2 (rational_reduced_f1_F k p0.n p1.n) fun y3 y4 => (some (⟨y3, y4⟩ : S_rational_number))))
theorem rational_number_with_rational_reduced_f1_le (k : Nat) (p0 : S_rational_number) (p1 : S_rational_number) : Lo (rational_number_with_rational_reduced_f1_F k p0 p1) (rational_number_with_rational_reduced_f1 p0 p1) := by
 unfold rational_number_with_rational_reduced_f1_F rational_number_with_rational_reduced_f1
 repeat' with_reducible first | refine Lo.ite_ ?_ ?_ | refine Lo.bind2_ ?_ (fun _ _ => ?_) | exact rational_reduced_f1_le k _ _ | exact Lo.rfl_
noncomputable def rational_reduced_l1_F (k : Nat) (y3 : S_rational_number) (y5 : S_rational_number) (x8 : Int) : Option (Int ⊕ (Unit ⊕ Int)) := if (decide (x8 < ((([y3, y5] : List S_rational_number).length : Nat) : Int))) = true then (if 0 ≤ x8 then (if x8 < ((([y3, y5] : List S_rational_number).length : Nat) : Int) then (if (((([y3, y5] : List S_rational_number).getD (0 + x8.toNat) dS_rational_number).e) != 0) = true then (some (.inr (.inr ((([y3, y5] : List S_rational_number).getD (0 + x8.toNat) dS_rational_number).e)))) else (some (.inl (i64.wrap (x8 + 1))))) else none) else none) else (some (.inr (.inl ())))
theorem rational_reduced_l1_le (k : Nat) (y3 : S_rational_number) (y5 : S_rational_number) (x8 : Int) : Lo (rational_reduced_l1_F k y3 y5 x8) (rational_reduced_l1 y3 y5 x8) := by
 unfold rational_reduced_l1_F rational_reduced_l1
 repeat' with_reducible first | refine Lo.ite_ ?_ ?_ | exact Lo.rfl_
noncomputable def rational_reduced_a2_F (k : Nat) (y3 : S_rational_number) (y5 : S_rational_number) : Option (S_api_Rational × Int) := some ((⟨y3.n, y5.n⟩ : S_api_Rational), 0)
theorem rational_reduced_a2_le (k : Nat) (y3 : S_rational_number) (y5 : S_rational_number) : Lo (rational_reduced_a2_F k y3 y5) (rational_reduced_a2 y3 y5) := by
 unfold rational_reduced_a2_F rational_reduced_a2
 repeat' with_reducible first | exact Lo.rfl_
noncomputable def rational_reduced_a3_F (k : Nat) (x14 : Int) : Option (S_api_Rational × Int) := some ((⟨([] : List Int), ([] : List Int)⟩ : S_api_Rational), x14)
theorem rational_reduced_a3_le (k : Nat) (x14 : Int) : Lo (rational_reduced_a3_F k x14) (rational_reduced_a3 x14) := by
 unfold rational_reduced_a3_F rational_reduced_a3
 repeat' with_reducible first | exact Lo.rfl_
noncomputable def rational_reduced_F (k : Nat) (p0 : S_rational_number) (p1 : S_rational_number) : Option (S_api_Rational × Int) := (rational_number_with_natural_GCD_F k p0 p1).bind fun y1 => ((rational_number_with_rational_reduced_f1_F k p0 y1).bind fun y3 => ((rational_number_with_rational_reduced_f1_F k p1 y1).bind fun y5 => (bindE (loopF k (fun v : Int => rational_reduced_l1_F k y3 y5 v) 0) (fun t => rational_reduced_a2_F k y3 y5) (fun t => rational_reduced_a3_F k t))))
theorem rational_reduced_le (k : Nat) (p0 : S_rational_number) (p1 : S_rational_number) : Lo (rational_reduced_F k p0 p1) (rational_reduced p0 p1) := by
 unfold rational_reduced_F rational_reduced
 repeat' with_reducible first | refine Lo.bind_ ?_ (fun _ => ?_) | refine Lo.bindE_ ?_ (fun _ => ?_) (fun _ => ?_) | refine Lo.loop_ (fun _ => ?_) | exact rational_number_with_natural_GCD_le k _ _ | exact rational_number_with_rational_reduced_f1_le k _ _ | exact rational_reduced_a2_le k _ _ | exact rational_reduced_a3_le k _ | exact rational_reduced_l1_le k _ _ _ | exact Lo.rfl_
noncomputable def rational_Make_k1_F (k : Nat) (p0 : List Int) (p1 : List Int) (x1 : Bool) : Option (S_api_Rational × Int) := if x1 = true then (some ((⟨([] : List Int), ([] : List Int)⟩ : S_api_Rational), 20)) else (if ((p1.length : Int) == 0) = true then (some ((⟨([] : List Int), ([] : List Int)⟩ : S_api_Rational), 9)) else ((rational_of_F k p0).bind fun y4 => ((rational_of_F k p1).bind fun y6 => (bind2 (rational_reduced_F k y4 y6) fun y8 y9 => (some (y8, y9))))))
theorem rational_Make_k1_le (k : Nat) (p0 : List Int) (p1 : List Int) (x1 : Bool) : Lo (rational_Make_k1_F k p0 p1 x1) (rational_Make_k1 p0 p1 x1) := by
 unfold rational_Make_k1_F rational_Make_k1
 repeat' with_reducible first | refine Lo.ite_ ?_ ?_ | refine Lo.bind_ ?_ (fun _ => ?_) | refine Lo.bind2_ ?_ (fun _ _ => ?_) | exact rational_of_le k _ | exact rational_reduced_le k _ _ | exact Lo.rfl_
noncomputable def rational_Make_F (k : Nat) (p0 : List Int) (p1 : List Int) : Option (S_api_Rational × Int) := (natural_Valid_F k p0).bind fun y11 => (if (!y11) = true then (rational_Make_k1_F k p0 p1 true) else ((natural_Valid_F k p1).bind fun y14 => (rational_Make_k1_F k p0 p1 (!y14))))
theorem rational_Make_le (k : Nat) (p0 : List Int) (p1 : List Int) : Lo (rational_Make_F k p0 p1) (rational_Make p0 p1) := by
 unfold rational_Make_F rational_Make
 repeat' with_reducible first | refine Lo.ite_ ?_ ?_ | refine Lo.bind_ ?_ (fun _ => ?_) | exact natural_Valid_le k _ | exact rational_Make_k1_le k _ _ _ | exact Lo.rfl_
noncomputable def em_Posterior_F (k : Nat) (p0 : S_em_model) (p1 : Int) : Option (S_api_Rational × Int) := (em_Check_F k p0).bind fun y1 => (if (y1 != 0) = true then (some ((⟨([] : List Int), ([] : List Int)⟩ : S_api_Rational), y1)) else (bind2 (similarity_Digits_F k p1 ((p0.Match.length : Nat) : Int)) fun y4 y5 => (if (y5 != 0) = true then (some ((⟨([] : List Int), ([] : List Int)⟩ : S_api_Rational), y5)) else ((em_weight_F k p0.Prior p0.Match y4).bind fun y8 => ((em_weight_F k (i64.wrap (65536 - p0.Prior)) p0.Random y4).bind fun y10 => (bind2 (natural_Add_F k y8 y10) fun y12 y13 => (if (y13 != 0) = true then (some ((⟨([] : List Int), ([] : List Int)⟩ : S_api_Rational), y13)) else (bind2 (rational_Make_F k y8 y12) fun y16 y17 => (some (y16, y17))))))))))
theorem em_Posterior_le (k : Nat) (p0 : S_em_model) (p1 : Int) : Lo (em_Posterior_F k p0 p1) (em_Posterior p0 p1) := by
 unfold em_Posterior_F em_Posterior
 repeat' with_reducible first | refine Lo.ite_ ?_ ?_ | refine Lo.bind_ ?_ (fun _ => ?_) | refine Lo.bind2_ ?_ (fun _ _ => ?_) | exact em_Check_le k _ | exact em_weight_le k _ _ _ | exact natural_Add_le k _ _ | exact rational_Make_le k _ _ | exact similarity_Digits_le k _ _ | exact Lo.rfl_
noncomputable def rational_Valid_k1_F (k : Nat) (x7 : Bool) : Option Bool := some x7
theorem rational_Valid_k1_le (k : Nat) (x7 : Bool) : Lo (rational_Valid_k1_F k x7) (rational_Valid_k1 x7) := by
 unfold rational_Valid_k1_F rational_Valid_k1
 repeat' with_reducible first | exact Lo.rfl_
noncomputable def rational_Valid_F (k : Nat) (p0 : S_api_Rational) : Option Bool := bind2 (natural_GCD_F k p0.Num p0.Den) fun y1 y2 => (bind2 (natural_FromInt_F k 1) fun y4 y5 => (if (y2 == 0) = true then (if (decide (((p0.Den.length : Nat) : Int) > 0)) = true then ((natural_Compare_F k y1 y4).bind fun y10 => (rational_Valid_k1_F k (y10 == 0))) else (rational_Valid_k1_F k false)) else (rational_Valid_k1_F k false)))
theorem rational_Valid_le (k : Nat) (p0 : S_api_Rational) : Lo (rational_Valid_F k p0) (rational_Valid p0) := by
 unfold rational_Valid_F rational_Valid
 repeat' with_reducible first | refine Lo.ite_ ?_ ?_ | refine Lo.bind_ ?_ (fun _ => ?_) | refine Lo.bind2_ ?_ (fun _ _ => ?_) | exact natural_Compare_le k _ _ | exact natural_FromInt_le k _ | exact natural_GCD_le k _ _ | exact rational_Valid_k1_le k _ | exact Lo.rfl_
noncomputable def rational_small_F (k : Nat) (p0 : Int) : Option S_rational_number := bind2 (natural_FromInt_F k p0) fun y1 y2 => (some (⟨y1, y2⟩ : S_rational_number))
theorem rational_small_le (k : Nat) (p0 : Int) : Lo (rational_small_F k p0) (rational_small p0) := by
 unfold rational_small_F rational_small
 repeat' with_reducible first | refine Lo.bind2_ ?_ (fun _ _ => ?_) | exact natural_FromInt_le k _ | exact Lo.rfl_
noncomputable def rational_number_with_natural_Mul_F (k : Nat) (p0 : S_rational_number) (p1 : S_rational_number) : Option S_rational_number := if (p0.e != 0) = true then (some p0) else (if (p1.e != 0) = true then (some p1) else (bind2 (natural_Mul_F k p0.n p1.n) fun y3 y4 => (some (⟨y3, y4⟩ : S_rational_number))))
theorem rational_number_with_natural_Mul_le (k : Nat) (p0 : S_rational_number) (p1 : S_rational_number) : Lo (rational_number_with_natural_Mul_F k p0 p1) (rational_number_with_natural_Mul p0 p1) := by
 unfold rational_number_with_natural_Mul_F rational_number_with_natural_Mul
 repeat' with_reducible first | refine Lo.ite_ ?_ ?_ | refine Lo.bind2_ ?_ (fun _ _ => ?_) | exact natural_Mul_le k _ _ | exact Lo.rfl_
noncomputable def rational_number_times_F (k : Nat) (p0 : S_rational_number) (p1 : S_rational_number) : Option S_rational_number := (rational_number_with_natural_Mul_F k p0 p1).bind fun y1 => (some y1)
theorem rational_number_times_le (k : Nat) (p0 : S_rational_number) (p1 : S_rational_number) : Lo (rational_number_times_F k p0 p1) (rational_number_times p0 p1) := by
 unfold rational_number_times_F rational_number_times
 repeat' with_reducible first | refine Lo.bind_ ?_ (fun _ => ?_) | exact rational_number_with_natural_Mul_le k _ _ | exact Lo.rfl_
noncomputable def rational_number_with_natural_Add_F (k : Nat) (p0 : S_rational_number) (p1 : S_rational_number) : Option S_rational_number := if (p0.e != 0) = true then (some p0) else (if (p1.e != 0) = true then (some p1) else (bind2 (natural_Add_F k p0.n p1.n) fun y3 y4 => (some (⟨y3, y4⟩ : S_rational_number))))
theorem rational_number_with_natural_Add_le (k : Nat) (p0 : S_rational_number) (p1 : S_rational_number) : Lo (rational_number_with_natural_Add_F k p0 p1) (rational_number_with_natural_Add p0 p1) := by
 unfold rational_number_with_natural_Add_F rational_number_with_natural_Add
 repeat' with_reducible first | refine Lo.ite_ ?_ ?_ | refine Lo.bind2_ ?_ (fun _ _ => ?_) | exact natural_Add_le k _ _ | exact Lo.rfl_
noncomputable def rational_number_plus_F (k : Nat) (p0 : S_rational_number) (p1 : S_rational_number) : Option S_rational_number := (rational_number_with_natural_Add_F k p0 p1).bind fun y1 => (some y1)
theorem rational_number_plus_le (k : Nat) (p0 : S_rational_number) (p1 : S_rational_number) : Lo (rational_number_plus_F k p0 p1) (rational_number_plus p0 p1) := by
 unfold rational_number_plus_F rational_number_plus
 repeat' with_reducible first | refine Lo.bind_ ?_ (fun _ => ?_) | exact rational_number_with_natural_Add_le k _ _ | exact Lo.rfl_
noncomputable def natural_Int_l2_F (k : Nat) (p0 : List Int) (x5 : Int) (x6 : Int) : Option ((Int × Int) ⊕ Int) := if (decide (x6 < (p0.length : Int))) = true then (if 0 ≤ x6 then (if x6 < (p0.length : Int) then (if 0 ≤ (i64.wrap (32 * x6)) then ((some (ior .i64 x5 (ishl .i64 (i64.wrap (p0.getD x6.toNat 0)) (i64.wrap (32 * x6))))).bind fun z12 => (some (.inl (z12, i64.wrap (x6 + 1))))) else none) else none) else none) else (some (.inr x5))
theorem natural_Int_l2_le (k : Nat) (p0 : List Int) (x5 : Int) (x6 : Int) : Lo (natural_Int_l2_F k p0 x5 x6) (natural_Int_l2 p0 x5 x6) := by
 unfold natural_Int_l2_F natural_Int_l2
 repeat' with_reducible first | refine Lo.ite_ ?_ ?_ | refine Lo.bind_ ?_ (fun _ => ?_) | exact Lo.rfl_
noncomputable def natural_Int_k1_F (k : Nat) (p0 : List Int) (x1 : Bool) : Option (Int × Bool) := if x1 = true then (some (0, false)) else ((loopF k (fun v : Int × Int => natural_Int_l2_F k p0 v.1 v.2) (0, 0)).bind fun x14 => (some (x14, true)))
theorem natural_Int_k1_le (k : Nat) (p0 : List Int) (x1 : Bool) : Lo (natural_Int_k1_F k p0 x1) (natural_Int_k1 p0 x1) := by
 unfold natural_Int_k1_F natural_Int_k1
 repeat' with_reducible first | refine Lo.ite_ ?_ ?_ | refine Lo.bind_ ?_ (fun _ => ?_) | refine Lo.loop_ (fun _ => ?_) | exact natural_Int_l2_le k _ _ _ | exact Lo.rfl_
noncomputable def natural_Int_F (k : Nat) (p0 : List Int) : Option (Int × Bool) := (natural_Valid_F k p0).bind fun y16 => (if (!y16) = true then (natural_Int_k1_F k p0 true) else (if (decide ((p0.length : Int) > 2)) = true then (natural_Int_k1_F k p0 true) else (if ((p0.length : Int) == 2) = true then (if (1 : Int) < (p0.length : Int) then (natural_Int_k1_F k p0 (decide ((p0.getD 1 0) > 2147483647))) else none) else (natural_Int_k1_F k p0 false))))
theorem natural_Int_le (k : Nat) (p0 : List Int) : Lo (natural_Int_F k p0) (natural_Int p0) := by
 unfold natural_Int_F natural_Int
 repeat' with_reducible first | refine Lo.ite_ ?_ ?_ | refine Lo.bind_ ?_ (fun _ => ?_) | exact natural_Int_k1_le k _ _ | exact natural_Valid_le k _ | exact Lo.rfl_
noncomputable def rational_Round_k2_F (k : Nat) (y14 : S_rational_number) (y20 : S_rational_number) (x22 : Bool) : Option (Int × Int) := if x22 = true then (some (0, 1)) else (bind3 (natural_DivMod_F k y14.n y20.n) fun y24 y25 y26 => (bind2 (natural_Int_F k y24) fun y28 y29 => (if (!y29) = true then (some (0, 1)) else (some (y28, 0)))))
theorem rational_Round_k2_le (k : Nat) (y14 : S_rational_number) (y20 : S_rational_number) (x22 : Bool) : Lo (rational_Round_k2_F k y14 y20 x22) (rational_Round_k2 y14 y20 x22) := by
 unfold rational_Round_k2_F rational_Round_k2
 repeat' with_reducible first | refine Lo.ite_ ?_ ?_ | refine Lo.bind2_ ?_ (fun _ _ => ?_) | refine Lo.bind3_ ?_ (fun _ _ _ => ?_) | exact natural_DivMod_le k _ _ | exact natural_Int_le k _ | exact Lo.rfl_
noncomputable def rational_Round_k1_F (k : Nat) (p0 : S_api_Rational) (p1 : Int) (x4 : Bool) : Option (Int × Int) := if x4 = true then (some (0, 2)) else ((rational_of_F k p0.Num).bind fun y6 => ((rational_small_F k (i64.wrap (2 * p1))).bind fun y8 => ((rational_number_times_F k y6 y8).bind fun y10 => ((rational_of_F k p0.Den).bind fun y12 => ((rational_number_plus_F k y10 y12).bind fun y14 => ((rational_small_F k 2).bind fun y16 => ((rational_of_F k p0.Den).bind fun y18 => ((rational_number_times_F k y16 y18).bind fun y20 => (if (y14.e != 0) = true then (rational_Round_k2_F k y14 y20 true) else (rational_Round_k2_F k y14 y20 (y20.e != 0)))))))))))
theorem rational_Round_k1_le (k : Nat) (p0 : S_api_Rational) (p1 : Int) (x4 : Bool) : Lo (rational_Round_k1_F k p0 p1 x4) (rational_Round_k1 p0 p1 x4) := by
 unfold rational_Round_k1_F rational_Round_k1
 repeat' with_reducible first | refine Lo.ite_ ?_ ?_ | refine Lo.bind_ ?_ (fun _ => ?_) | exact rational_Round_k2_le k _ _ _ | exact rational_number_plus_le k _ _ | exact rational_number_times_le k _ _ | exact rational_of_le k _ | exact rational_small_le k _ | exact Lo.rfl_
noncomputable def rational_Round_F (k : Nat) (p0 : S_api_Rational) (p1 : Int) : Option (Int × Int) := (rational_Valid_F k p0).bind fun y1 => (if (!y1) = true then (some (0, 20)) else (if (decide (p1 < 1)) = true then (rational_Round_k1_F k p0 p1 true) else (rational_Round_k1_F k p0 p1 (decide (p1 > 4294967296)))))
theorem rational_Round_le (k : Nat) (p0 : S_api_Rational) (p1 : Int) : Lo (rational_Round_F k p0 p1) (rational_Round p0 p1) := by
 unfold rational_Round_F rational_Round
 repeat' with_reducible first | refine Lo.ite_ ?_ ?_ | refine Lo.bind_ ?_ (fun _ => ?_) | exact rational_Round_k1_le k _ _ _ | exact rational_Valid_le k _ | exact Lo.rfl_
noncomputable def em_Share_F (k : Nat) (p0 : S_em_model) (p1 : Int) : Option (Int × Int) := bind2 (em_Posterior_F k p0 p1) fun y1 y2 => (if (y2 != 0) = true then (some (0, y2)) else (bind2 (rational_Round_F k y1 1073741824) fun y5 y6 => (some (y5, y6))))
theorem em_Share_le (k : Nat) (p0 : S_em_model) (p1 : Int) : Lo (em_Share_F k p0 p1) (em_Share p0 p1) := by
 unfold em_Share_F em_Share
 repeat' with_reducible first | refine Lo.ite_ ?_ ?_ | refine Lo.bind2_ ?_ (fun _ _ => ?_) | exact em_Posterior_le k _ _ | exact rational_Round_le k _ _ | exact Lo.rfl_
noncomputable def quality_shares_l1_F (k : Nat) (p0 : S_em_model) (p1 : List S_api_Candidate) (x3 : Int) (x4 : Int) : Option ((Int × Int) ⊕ (Int ⊕ Int)) := if (decide (x4 < (p1.length : Int))) = true then (if 0 ≤ x4 then (if x4 < (p1.length : Int) then (bind2 (em_Share_F k p0 ((p1.getD x4.toNat dS_api_Candidate).Pattern)) fun y10 y11 => (if (y11 != 0) = true then (some (.inr (.inr y11))) else (some (.inl (i64.wrap (x3 + y10), i64.wrap (x4 + 1)))))) else none) else none) else (some (.inr (.inl x3)))
theorem quality_shares_l1_le (k : Nat) (p0 : S_em_model) (p1 : List S_api_Candidate) (x3 : Int) (x4 : Int) : Lo (quality_shares_l1_F k p0 p1 x3 x4) (quality_shares_l1 p0 p1 x3 x4) := by
 unfold quality_shares_l1_F quality_shares_l1
 repeat' with_reducible first | refine Lo.ite_ ?_ ?_ | refine Lo.bind2_ ?_ (fun _ _ => ?_) | exact em_Share_le k _ _ | exact Lo.rfl_
noncomputable def quality_shares_a2_F (k : Nat) (x14 : Int) : Option (Int × Int) := some (x14, 0)
theorem quality_shares_a2_le (k : Nat) (x14 : Int) : Lo (quality_shares_a2_F k x14) (quality_shares_a2 x14) := by
 unfold quality_shares_a2_F quality_shares_a2
 repeat' with_reducible first | exact Lo.rfl_
noncomputable def quality_shares_a3_F (k : Nat) (x15 : Int) : Option (Int × Int) := some (0, x15)
theorem quality_shares_a3_le (k : Nat) (x15 : Int) : Lo (quality_shares_a3_F k x15) (quality_shares_a3 x15) := by
 unfold quality_shares_a3_F quality_shares_a3
 repeat' with_reducible first | exact Lo.rfl_
noncomputable def quality_shares_F (k : Nat) (p0 : S_em_model) (p1 : List S_api_Candidate) : Option (Int × Int) := bindE (loopF k (fun v : Int × Int => quality_shares_l1_F k p0 p1 v.1 v.2) (0, 0)) (fun t => quality_shares_a2_F k t) (fun t => quality_shares_a3_F k t)
theorem quality_shares_le (k : Nat) (p0 : S_em_model) (p1 : List S_api_Candidate) : Lo (quality_shares_F k p0 p1) (quality_shares p0 p1) := by
 unfold quality_shares_F quality_shares
 repeat' with_reducible first | refine Lo.bindE_ ?_ (fun _ => ?_) (fun _ => ?_) | refine Lo.loop_ (fun _ => ?_) | exact quality_shares_a2_le k _ | exact quality_shares_a3_le k _ | exact quality_shares_l1_le k _ _ _ _ | exact Lo.rfl_
noncomputable def quality_Of_k1_F (k : Nat) (p0 : S_em_model) (p1 : List S_api_Candidate) (p2 : List S_api_Candidate) (x4 : Bool) : Option (S_api_Estimate × Int) := if x4 = true then (some ((⟨0, 0, 0⟩ : S_api_Estimate), 1)) else (bind2 (quality_shares_F k p0 p1) fun y6 y7 => (if (y7 != 0) = true then (some ((⟨0, 0, 0⟩ : S_api_Estimate), y7)) else (bind2 (quality_shares_F k p0 p2) fun y10 y11 => (if (y11 != 0) = true then (some ((⟨0, 0, 0⟩ : S_api_Estimate), y11)) else ((some (i64.wrap ((i64.wrap ((p1.length : Int) * 1073741824)) - y6))).bind fun z14 => (some ((⟨z14, y10, y6⟩ : S_api_Estimate), 0)))))))
theorem quality_Of_k1_le (k : Nat) (p0 : S_em_model) (p1 : List S_api_Candidate) (p2 : List S_api_Candidate) (x4 : Bool) : Lo (quality_Of_k1_F k p0 p1 p2 x4) (quality_Of_k1 p0 p1 p2 x4) := by
 unfold quality_Of_k1_F quality_Of_k1
 repeat' with_reducible first | refine Lo.ite_ ?_ ?_ | refine Lo.bind_ ?_ (fun _ => ?_) | refine Lo.bind2_ ?_ (fun _ _ => ?_) | exact quality_shares_le k _ _ | exact Lo.rfl_
noncomputable def quality_Of_F (k : Nat) (p0 : S_em_model) (p1 : List S_api_Candidate) (p2 : List S_api_Candidate) : Option (S_api_Estimate × Int) := (em_Check_F k p0).bind fun y1 => (if (y1 != 0) = true then (some ((⟨0, 0, 0⟩ : S_api_Estimate), y1)) else (if (decide ((p1.length : Int) > 4096)) = true then (quality_Of_k1_F k p0 p1 p2 true) else (quality_Of_k1_F k p0 p1 p2 (decide ((p2.length : Int) > 4096)))))
theorem quality_Of_le (k : Nat) (p0 : S_em_model) (p1 : List S_api_Candidate) (p2 : List S_api_Candidate) : Lo (quality_Of_F k p0 p1 p2) (quality_Of p0 p1 p2) := by
 unfold quality_Of_F quality_Of
 repeat' with_reducible first | refine Lo.ite_ ?_ ?_ | refine Lo.bind_ ?_ (fun _ => ?_) | exact em_Check_le k _ | exact quality_Of_k1_le k _ _ _ _ | exact Lo.rfl_
noncomputable def quality_fits_k1_F (k : Nat) (x1 : Bool) : Option Bool := some x1
theorem quality_fits_k1_le (k : Nat) (x1 : Bool) : Lo (quality_fits_k1_F k x1) (quality_fits_k1 x1) := by
 unfold quality_fits_k1_F quality_fits_k1
 repeat' with_reducible first | exact Lo.rfl_
noncomputable def quality_fits_F (k : Nat) (p0 : Int) : Option Bool := if (decide (p0 ≥ 0)) = true then (quality_fits_k1_F k (decide (p0 ≤ 4398046511104))) else (quality_fits_k1_F k false)
theorem quality_fits_le (k : Nat) (p0 : Int) : Lo (quality_fits_F k p0) (quality_fits p0) := by
 unfold quality_fits_F quality_fits
 repeat' with_reducible first | refine Lo.ite_ ?_ ?_ | exact quality_fits_k1_le k _ | exact Lo.rfl_
noncomputable def quality_Check_k1_F (k : Nat) (x1 : Bool) : Option Int := if x1 = true then (some 2) else (some 0)
theorem quality_Check_k1_le (k : Nat) (x1 : Bool) : Lo (quality_Check_k1_F k x1) (quality_Check_k1 x1) := by
 unfold quality_Check_k1_F quality_Check_k1
 repeat' with_reducible first | refine Lo.ite_ ?_ ?_ | exact Lo.rfl_
noncomputable def quality_Check_F (k : Nat) (p0 : S_api_Estimate) : Option Int := (quality_fits_F k p0.False).bind fun y3 => (if (!y3) = true then (quality_Check_k1_F k true) else ((quality_fits_F k p0.Missed).bind fun y6 => (if (!y6) = true then (quality_Check_k1_F k true) else ((quality_fits_F k p0.True).bind fun y9 => (quality_Check_k1_F k (!y9))))))
theorem quality_Check_le (k : Nat) (p0 : S_api_Estimate) : Lo (quality_Check_F k p0) (quality_Check p0) := by
 unfold quality_Check_F quality_Check
 repeat' with_reducible first | refine Lo.ite_ ?_ ?_ | refine Lo.bind_ ?_ (fun _ => ?_) | exact quality_Check_k1_le k _ | exact quality_fits_le k _ | exact Lo.rfl_
noncomputable def rational_Of_k1_F (k : Nat) (p0 : Int) (p1 : Int) (x1 : Bool) : Option (S_api_Rational × Int) := if x1 = true then (some ((⟨([] : List Int), ([] : List Int)⟩ : S_api_Rational), 2)) else (if (p1 == 0) = true then (some ((⟨([] : List Int), ([] : List Int)⟩ : S_api_Rational), 9)) else ((rational_small_F k p0).bind fun y4 => ((rational_small_F k p1).bind fun y6 => (bind2 (rational_reduced_F k y4 y6) fun y8 y9 => (some (y8, y9))))))
theorem rational_Of_k1_le (k : Nat) (p0 : Int) (p1 : Int) (x1 : Bool) : Lo (rational_Of_k1_F k p0 p1 x1) (rational_Of_k1 p0 p1 x1) := by
 unfold rational_Of_k1_F rational_Of_k1
 repeat' with_reducible first | refine Lo.ite_ ?_ ?_ | refine Lo.bind_ ?_ (fun _ => ?_) | refine Lo.bind2_ ?_ (fun _ _ => ?_) | exact rational_reduced_le k _ _ | exact rational_small_le k _ | exact Lo.rfl_
noncomputable def rational_Of_F (k : Nat) (p0 : Int) (p1 : Int) : Option (S_api_Rational × Int) := if (decide (p0 < 0)) = true then (rational_Of_k1_F k p0 p1 true) else (rational_Of_k1_F k p0 p1 (decide (p1 < 0)))
theorem rational_Of_le (k : Nat) (p0 : Int) (p1 : Int) : Lo (rational_Of_F k p0 p1) (rational_Of p0 p1) := by
 unfold rational_Of_F rational_Of
 repeat' with_reducible first | refine Lo.ite_ ?_ ?_ | exact rational_Of_k1_le k _ _ _ | exact Lo.rfl_
noncomputable def quality_part_F (k : Nat) (p0 : S_api_Estimate) (p1 : Int) (p2 : Int) : Option (S_api_Rational × Int) := (quality_Check_F k p0).bind fun y1 => (if (y1 != 0) = true then (some ((⟨([] : List Int), ([] : List Int)⟩ : S_api_Rational), y1)) else (if ((i64.wrap (p1 + p2)) == 0) = true then (some ((⟨([] : List Int), ([] : List Int)⟩ : S_api_Rational), 9)) else (bind2 (rational_Of_F k p1 (i64.wrap (p1 + p2))) fun y5 y6 => (some (y5, y6)))))
theorem quality_part_le (k : Nat) (p0 : S_api_Estimate) (p1 : Int) (p2 : Int) : Lo (quality_part_F k p0 p1 p2) (quality_part p0 p1 p2) := by
 unfold quality_part_F quality_part
 repeat' with_reducible first | refine Lo.ite_ ?_ ?_ | refine Lo.bind_ ?_ (fun _ => ?_) | refine Lo.bind2_ ?_ (fun _ _ => ?_) | exact quality_Check_le k _ | exact rational_Of_le k _ _ | exact Lo.rfl_
noncomputable def quality_Precision_F (k : Nat) (p0 : S_api_Estimate) : Option (S_api_Rational × Int) := bind2 (quality_part_F k p0 p0.True p0.False) fun y1 y2 => (some (y1, y2))
theorem quality_Precision_le (k : Nat) (p0 : S_api_Estimate) : Lo (quality_Precision_F k p0) (quality_Precision p0) := by
 unfold quality_Precision_F quality_Precision
 repeat' with_reducible first | refine Lo.bind2_ ?_ (fun _ _ => ?_) | exact quality_part_le k _ _ _ | exact Lo.rfl_
noncomputable def quality_reaches_F (k : Nat) (p0 : Int) (p1 : Int) (p2 : Int) : Option Bool := some (decide ((i64.wrap (1000 * p0)) ≥ (i64.wrap (p2 * (i64.wrap (p0 + p1))))))
theorem quality_reaches_le (k : Nat) (p0 : Int) (p1 : Int) (p2 : Int) : Lo (quality_reaches_F k p0 p1 p2) (quality_reaches p0 p1 p2) := by
 unfold quality_reaches_F quality_reaches
 repeat' with_reducible first | exact Lo.rfl_
noncomputable def quality_Meets_k2_F (k : Nat) (x6 : Bool) : Option (Bool × Int) := some (x6, 0)
theorem quality_Meets_k2_le (k : Nat) (x6 : Bool) : Lo (quality_Meets_k2_F k x6) (quality_Meets_k2 x6) := by
 unfold quality_Meets_k2_F quality_Meets_k2
 repeat' with_reducible first | exact Lo.rfl_
noncomputable def quality_Meets_k1_F (k : Nat) (p0 : S_api_Estimate) (p1 : Int) (p2 : Int) (x4 : Bool) : Option (Bool × Int) := if x4 = true then (some (false, 2)) else ((quality_reaches_F k p0.True p0.False p1).bind fun y7 => (if y7 = true then ((quality_reaches_F k p0.True p0.Missed p2).bind fun y10 => (quality_Meets_k2_F k y10)) else (quality_Meets_k2_F k false)))
theorem quality_Meets_k1_le (k : Nat) (p0 : S_api_Estimate) (p1 : Int) (p2 : Int) (x4 : Bool) : Lo (quality_Meets_k1_F k p0 p1 p2 x4) (quality_Meets_k1 p0 p1 p2 x4) := by
 unfold quality_Meets_k1_F quality_Meets_k1
 repeat' with_reducible first | refine Lo.ite_ ?_ ?_ | refine Lo.bind_ ?_ (fun _ => ?_) | exact quality_Meets_k2_le k _ | exact quality_reaches_le k _ _ _ | exact Lo.rfl_
noncomputable def quality_Meets_F (k : Nat) (p0 : S_api_Estimate) (p1 : Int) (p2 : Int) : Option (Bool × Int) := (quality_Check_F k p0).bind fun y1 => (if (y1 != 0) = true then (some (false, y1)) else (if (decide (p1 < 0)) = true then (quality_Meets_k1_F k p0 p1 p2 true) else (if (decide (p1 > 1000)) = true then (quality_Meets_k1_F k p0 p1 p2 true) else (if (decide (p2 < 0)) = true then (quality_Meets_k1_F k p0 p1 p2 true) else (quality_Meets_k1_F k p0 p1 p2 (decide (p2 > 1000)))))))
theorem quality_Meets_le (k : Nat) (p0 : S_api_Estimate) (p1 : Int) (p2 : Int) : Lo (quality_Meets_F k p0 p1 p2) (quality_Meets p0 p1 p2) := by
 unfold quality_Meets_F quality_Meets
 repeat' with_reducible first | refine Lo.ite_ ?_ ?_ | refine Lo.bind_ ?_ (fun _ => ?_) | exact quality_Check_le k _ | exact quality_Meets_k1_le k _ _ _ _ | exact Lo.rfl_
noncomputable def rl_law33_awake_k1_F (k : Nat) (x10 : Bool) : Option Bool := some x10
theorem rl_law33_awake_k1_le (k : Nat) (x10 : Bool) : Lo (rl_law33_awake_k1_F k x10) (rl_law33_awake_k1 x10) := by
 unfold rl_law33_awake_k1_F rl_law33_awake_k1
 repeat' with_reducible first | exact Lo.rfl_
noncomputable def rl_law33_awake_F (k : Nat) : Option Bool := bind2 (quality_Of_F k (⟨32768, ([58982] : List Int), ([6554] : List Int)⟩ : S_em_model) ([(⟨(⟨0, 0⟩ : S_api_Ref), (⟨0, 0⟩ : S_api_Ref), 2, 0⟩ : S_api_Candidate)] : List S_api_Candidate) ([] : List S_api_Candidate)) fun y1 y2 => (bind2 (quality_Precision_F k y1) fun y4 y5 => (bind2 (quality_Meets_F k y1 899 1000) fun y7 y8 => (if (y2 == 0) = true then (if (y5 == 0) = true then (if (y8 == 0) = true then (if (y1.True == 966361088) = true then (if (y1.False == 107380736) = true then (if (((y4.Num.length : Nat) : Int) == 1) = true then (if (0 : Int) < ((y4.Num.length : Nat) : Int) then (if ((y4.Num.getD 0 0) == 29491) = true then (rl_law33_awake_k1_F k y7) else (rl_law33_awake_k1_F k false)) else none) else (rl_law33_awake_k1_F k false)) else (rl_law33_awake_k1_F k false)) else (rl_law33_awake_k1_F k false)) else (rl_law33_awake_k1_F k false)) else (rl_law33_awake_k1_F k false)) else (rl_law33_awake_k1_F k false))))
theorem rl_law33_awake_le (k : Nat) : Lo (rl_law33_awake_F k) (rl_law33_awake) := by
 unfold rl_law33_awake_F rl_law33_awake
 repeat' with_reducible first | refine Lo.ite_ ?_ ?_ | refine Lo.bind2_ ?_ (fun _ _ => ?_) | exact quality_Meets_le k _ _ _ | exact quality_Of_le k _ _ _ | exact quality_Precision_le k _ | exact rl_law33_awake_k1_le k _ | exact Lo.rfl_
end Go.Proofs.YtilpgjoidgfbiaaGreat
