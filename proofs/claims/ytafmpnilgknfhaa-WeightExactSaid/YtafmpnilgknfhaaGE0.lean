/- Printed by a program of mine (vmgen.py): Go functions, and what they come to. -/
import Derived.Test.YtafmpnilgknfhaaVr
import Derived.Test.YtafmpnilgknfhaaRows
import Derived.Test.YtafmpnilgknfhaaG1
import Derived.Test.YtafmpnilgknfhaaVq
namespace Go.Proofs.Ytafmpnilgknfhaa
open Vm
open IntKind (i64 u64 u32 u8)
set_option maxHeartbeats 10000000
set_option linter.unusedVariables false
set_option linter.unusedSimpArgs false
set_option linter.constructorNameAsVariable false
noncomputable def natural_trim_k2_F (k : Nat) (x2 : List Int) (x4 : Bool) : Option ((List Int) ⊕ (List Int)) := if x4 = true then (if 0 ≤ (i64.wrap ((x2.length : Int) - 1)) then (if ((i64.wrap ((x2.length : Int) - 1)).toNat) ≤ x2.length then (some (.inl (x2.take ((i64.wrap ((x2.length : Int) - 1)).toNat)))) else none) else none) else (some (.inr x2))
theorem natural_trim_k2_le (k : Nat) (x2 : List Int) (x4 : Bool) : Lo (natural_trim_k2_F k x2 x4) (natural_trim_k2 x2 x4) := by
 unfold natural_trim_k2_F natural_trim_k2
 repeat' with_reducible first | refine Lo.ite_ ?_ ?_ | exact Lo.rfl_
noncomputable def natural_trim_l1_F (k : Nat) (x2 : List Int) : Option ((List Int) ⊕ (List Int)) := if (decide ((x2.length : Int) > 0)) = true then (if 0 ≤ (i64.wrap ((x2.length : Int) - 1)) then (if (i64.wrap ((x2.length : Int) - 1)) < (x2.length : Int) then (natural_trim_k2_F k x2 ((x2.getD ((i64.wrap ((x2.length : Int) - 1)).toNat) 0) == 0)) else none) else none) else (natural_trim_k2_F k x2 false)
theorem natural_trim_l1_le (k : Nat) (x2 : List Int) : Lo (natural_trim_l1_F k x2) (natural_trim_l1 x2) := by
 unfold natural_trim_l1_F natural_trim_l1
 repeat' with_reducible first | refine Lo.ite_ ?_ ?_ | exact natural_trim_k2_le k _ _ | exact Lo.rfl_
noncomputable def natural_trim_F (k : Nat) (p0 : List Int) : Option (List Int) := (loopF k (fun v : List Int => natural_trim_l1_F k v) p0).bind fun x11 => (some x11)
theorem natural_trim_le (k : Nat) (p0 : List Int) : Lo (natural_trim_F k p0) (natural_trim p0) := by
 unfold natural_trim_F natural_trim
 repeat' with_reducible first | refine Lo.bind_ ?_ (fun _ => ?_) | refine Lo.loop_ (fun _ => ?_) | exact natural_trim_l1_le k _ | exact Lo.rfl_
noncomputable def natural_FromInt_F (k : Nat) (p0 : Int) : Option ((List Int) × Int) := if (decide (p0 < 0)) = true then (some (([] : List Int), 2)) else ((natural_trim_F k ([u32.wrap p0, u32.wrap (ishr .i64 p0 32)] : List Int)).bind fun y2 => (some (y2, 0)))
theorem natural_FromInt_le (k : Nat) (p0 : Int) : Lo (natural_FromInt_F k p0) (natural_FromInt p0) := by
 unfold natural_FromInt_F natural_FromInt
 repeat' with_reducible first | refine Lo.ite_ ?_ ?_ | refine Lo.bind_ ?_ (fun _ => ?_) | exact natural_trim_le k _ | exact Lo.rfl_
noncomputable def natural_Valid_k1_F (k : Nat) (x1 : Bool) : Option Bool := some x1
theorem natural_Valid_k1_le (k : Nat) (x1 : Bool) : Lo (natural_Valid_k1_F k x1) (natural_Valid_k1 x1) := by
 unfold natural_Valid_k1_F natural_Valid_k1
 repeat' with_reducible first | exact Lo.rfl_
noncomputable def natural_Valid_F (k : Nat) (p0 : List Int) : Option Bool := if (decide ((p0.length : Int) ≤ 64)) = true then (if ((p0.length : Int) == 0) = true then (natural_Valid_k1_F k true) else (if 0 ≤ (i64.wrap ((p0.length : Int) - 1)) then (if (i64.wrap ((p0.length : Int) - 1)) < (p0.length : Int) then (natural_Valid_k1_F k ((p0.getD ((i64.wrap ((p0.length : Int) - 1)).toNat) 0) != 0)) else none) else none)) else (natural_Valid_k1_F k false)
theorem natural_Valid_le (k : Nat) (p0 : List Int) : Lo (natural_Valid_F k p0) (natural_Valid p0) := by
 unfold natural_Valid_F natural_Valid
 repeat' with_reducible first | refine Lo.ite_ ?_ ?_ | exact natural_Valid_k1_le k _ | exact Lo.rfl_
noncomputable def cmp_isNaN_int_F (k : Nat) (p0 : Int) : Option Bool := some (p0 != p0)
theorem cmp_isNaN_int_le (k : Nat) (p0 : Int) : Lo (cmp_isNaN_int_F k p0) (cmp_isNaN_int p0) := by
 unfold cmp_isNaN_int_F cmp_isNaN_int
 repeat' with_reducible first | exact Lo.rfl_
noncomputable def cmp_Compare_int_F (k : Nat) (p0 : Int) (p1 : Int) : Option Int := (cmp_isNaN_int_F k p0).bind fun y1 => ((cmp_isNaN_int_F k p1).bind fun y3 => (if y1 = true then (if y3 = true then (some 0) else (some (-1))) else (if y3 = true then (some 1) else (if (decide (p0 < p1)) = true then (some (-1)) else (if (decide (p0 > p1)) = true then (some 1) else (some 0))))))
theorem cmp_Compare_int_le (k : Nat) (p0 : Int) (p1 : Int) : Lo (cmp_Compare_int_F k p0 p1) (cmp_Compare_int p0 p1) := by
 unfold cmp_Compare_int_F cmp_Compare_int
 repeat' with_reducible first | refine Lo.ite_ ?_ ?_ | refine Lo.bind_ ?_ (fun _ => ?_) | exact cmp_isNaN_int_le k _ | exact Lo.rfl_
noncomputable def cmp_isNaN_uint32_F (k : Nat) (p0 : Int) : Option Bool := some (p0 != p0)
theorem cmp_isNaN_uint32_le (k : Nat) (p0 : Int) : Lo (cmp_isNaN_uint32_F k p0) (cmp_isNaN_uint32 p0) := by
 unfold cmp_isNaN_uint32_F cmp_isNaN_uint32
 repeat' with_reducible first | exact Lo.rfl_
noncomputable def cmp_Compare_uint32_F (k : Nat) (p0 : Int) (p1 : Int) : Option Int := (cmp_isNaN_uint32_F k p0).bind fun y1 => ((cmp_isNaN_uint32_F k p1).bind fun y3 => (if y1 = true then (if y3 = true then (some 0) else (some (-1))) else (if y3 = true then (some 1) else (if (decide (p0 < p1)) = true then (some (-1)) else (if (decide (p0 > p1)) = true then (some 1) else (some 0))))))
theorem cmp_Compare_uint32_le (k : Nat) (p0 : Int) (p1 : Int) : Lo (cmp_Compare_uint32_F k p0 p1) (cmp_Compare_uint32 p0 p1) := by
 unfold cmp_Compare_uint32_F cmp_Compare_uint32
 repeat' with_reducible first | refine Lo.ite_ ?_ ?_ | refine Lo.bind_ ?_ (fun _ => ?_) | exact cmp_isNaN_uint32_le k _ | exact Lo.rfl_
noncomputable def natural_Compare_l1_F (k : Nat) (y1 : List Int) (y3 : List Int) (x9 : Int) : Option (Int ⊕ (Unit ⊕ Int)) := if (decide (x9 ≥ 0)) = true then (if 0 ≤ x9 then (if x9 < (y1.length : Int) then (if x9 < (y3.length : Int) then (if ((y1.getD x9.toNat 0) != (y3.getD x9.toNat 0)) = true then ((cmp_Compare_uint32_F k (y1.getD x9.toNat 0) (y3.getD x9.toNat 0)).bind fun y16 => (some (.inr (.inr y16)))) else (some (.inl (i64.wrap (x9 - 1))))) else none) else none) else none) else (some (.inr (.inl ())))
theorem natural_Compare_l1_le (k : Nat) (y1 : List Int) (y3 : List Int) (x9 : Int) : Lo (natural_Compare_l1_F k y1 y3 x9) (natural_Compare_l1 y1 y3 x9) := by
 unfold natural_Compare_l1_F natural_Compare_l1
 repeat' with_reducible first | refine Lo.ite_ ?_ ?_ | refine Lo.bind_ ?_ (fun _ => ?_) | exact cmp_Compare_uint32_le k _ _ | exact Lo.rfl_
noncomputable def natural_Compare_a2_F (k : Nat) : Option Int := some 0
theorem natural_Compare_a2_le (k : Nat) : Lo (natural_Compare_a2_F k) (natural_Compare_a2) := by
 unfold natural_Compare_a2_F natural_Compare_a2
 repeat' with_reducible first | exact Lo.rfl_
noncomputable def natural_Compare_a3_F (k : Nat) (x18 : Int) : Option Int := some x18
theorem natural_Compare_a3_le (k : Nat) (x18 : Int) : Lo (natural_Compare_a3_F k x18) (natural_Compare_a3 x18) := by
 unfold natural_Compare_a3_F natural_Compare_a3
 repeat' with_reducible first | exact Lo.rfl_
noncomputable def natural_Compare_F (k : Nat) (p0 : List Int) (p1 : List Int) : Option Int := (natural_trim_F k p0).bind fun y1 => ((natural_trim_F k p1).bind fun y3 => (if ((y1.length : Int) != (y3.length : Int)) = true then ((cmp_Compare_int_F k (y1.length : Int) (y3.length : Int)).bind fun y6 => (some y6)) else (bindE (loopF k (fun v : Int => natural_Compare_l1_F k y1 y3 v) (i64.wrap ((y1.length : Int) - 1))) (fun t => natural_Compare_a2_F k) (fun t => natural_Compare_a3_F k t))))
theorem natural_Compare_le (k : Nat) (p0 : List Int) (p1 : List Int) : Lo (natural_Compare_F k p0 p1) (natural_Compare p0 p1) := by
 unfold natural_Compare_F natural_Compare
 repeat' with_reducible first | refine Lo.ite_ ?_ ?_ | refine Lo.bind_ ?_ (fun _ => ?_) | refine Lo.bindE_ ?_ (fun _ => ?_) (fun _ => ?_) | refine Lo.loop_ (fun _ => ?_) | exact cmp_Compare_int_le k _ _ | exact natural_Compare_a2_le k | exact natural_Compare_a3_le k _ | exact natural_Compare_l1_le k _ _ _ | exact natural_trim_le k _ | exact Lo.rfl_
noncomputable def natural_times_l2_F (k : Nat) (p0 : List Int) (p1 : List Int) (x6 : Int) (x14 : List Int) (x15 : Int) (x16 : Int) : Option (((List Int) × Int × Int) ⊕ ((List Int) × Int)) := if (decide (x16 < (p1.length : Int))) = true then (if 0 ≤ x16 then (if x16 < (p1.length : Int) then (if 0 ≤ (i64.wrap (x6 + x16)) then (if (i64.wrap (x6 + x16)) < (x14.length : Int) then ((some (u64.wrap (x15 + (u64.wrap ((u64.wrap ((u64.wrap (p0.getD x6.toNat 0)) * (u64.wrap (p1.getD x16.toNat 0)))) + (u64.wrap (x14.getD (0 + (i64.wrap (x6 + x16)).toNat) 0))))))).bind fun z24 => (some (.inl ((x14.set (0 + (i64.wrap (x6 + x16)).toNat) (u32.wrap z24)), ishr .u64 z24 32, i64.wrap (x16 + 1))))) else none) else none) else none) else none) else (some (.inr (x14, x15)))
theorem natural_times_l2_le (k : Nat) (p0 : List Int) (p1 : List Int) (x6 : Int) (x14 : List Int) (x15 : Int) (x16 : Int) : Lo (natural_times_l2_F k p0 p1 x6 x14 x15 x16) (natural_times_l2 p0 p1 x6 x14 x15 x16) := by
 unfold natural_times_l2_F natural_times_l2
 repeat' with_reducible first | refine Lo.ite_ ?_ ?_ | refine Lo.bind_ ?_ (fun _ => ?_) | exact Lo.rfl_
noncomputable def natural_times_l1_F (k : Nat) (p0 : List Int) (p1 : List Int) (x5 : List Int) (x6 : Int) : Option (((List Int) × Int) ⊕ (List Int)) := if (decide (x6 < (p0.length : Int))) = true then (if 0 ≤ x6 then (if x6 < (p0.length : Int) then (bind2 (loopF k (fun v : (List Int) × Int × Int => natural_times_l2_F k p0 p1 x6 v.1 v.2.1 v.2.2) (x5, 0, 0)) fun x26 x27 => (if 0 ≤ (i64.wrap (x6 + (p1.length : Int))) then (if (i64.wrap (x6 + (p1.length : Int))) < (x26.length : Int) then (some (.inl ((x26.set (0 + (i64.wrap (x6 + (p1.length : Int))).toNat) (u32.wrap x27)), i64.wrap (x6 + 1)))) else none) else none)) else none) else none) else (some (.inr x5))
theorem natural_times_l1_le (k : Nat) (p0 : List Int) (p1 : List Int) (x5 : List Int) (x6 : Int) : Lo (natural_times_l1_F k p0 p1 x5 x6) (natural_times_l1 p0 p1 x5 x6) := by
 unfold natural_times_l1_F natural_times_l1
 repeat' with_reducible first | refine Lo.ite_ ?_ ?_ | refine Lo.bind2_ ?_ (fun _ _ => ?_) | refine Lo.loop_ (fun _ => ?_) | exact natural_times_l2_le k _ _ _ _ _ _ | exact Lo.rfl_
noncomputable def natural_times_F (k : Nat) (p0 : List Int) (p1 : List Int) : Option (List Int) := if 0 ≤ (i64.wrap ((p0.length : Int) + (p1.length : Int))) then (if (i64.wrap ((p0.length : Int) + (p1.length : Int))) ≤ 1099511627776 then ((loopF k (fun v : (List Int) × Int => natural_times_l1_F k p0 p1 v.1 v.2) ((List.replicate ((i64.wrap ((p0.length : Int) + (p1.length : Int))).toNat) (0 : Int)), 0)).bind fun x31 => ((natural_trim_F k x31).bind fun y32 => (some y32))) else none) else none
theorem natural_times_le (k : Nat) (p0 : List Int) (p1 : List Int) : Lo (natural_times_F k p0 p1) (natural_times p0 p1) := by
 unfold natural_times_F natural_times
 repeat' with_reducible first | refine Lo.ite_ ?_ ?_ | refine Lo.bind_ ?_ (fun _ => ?_) | refine Lo.loop_ (fun _ => ?_) | exact natural_times_l1_le k _ _ _ _ | exact natural_trim_le k _ | exact Lo.rfl_
noncomputable def natural_Power_l3_F (k : Nat) (p0 : List Int) (p1 : Int) (x13 : List Int) (x14 : Int) : Option (((List Int) × Int) ⊕ ((List Int) ⊕ Unit)) := if (decide (x14 < p1)) = true then ((natural_times_F k x13 p0).bind fun y17 => ((natural_Valid_F k y17).bind fun y19 => (if (!y19) = true then (some (.inr (.inr ()))) else (some (.inl (y17, i64.wrap (x14 + 1))))))) else (some (.inr (.inl x13)))
theorem natural_Power_l3_le (k : Nat) (p0 : List Int) (p1 : Int) (x13 : List Int) (x14 : Int) : Lo (natural_Power_l3_F k p0 p1 x13 x14) (natural_Power_l3 p0 p1 x13 x14) := by
 unfold natural_Power_l3_F natural_Power_l3
 repeat' with_reducible first | refine Lo.ite_ ?_ ?_ | refine Lo.bind_ ?_ (fun _ => ?_) | exact natural_Valid_le k _ | exact natural_times_le k _ _ | exact Lo.rfl_
noncomputable def natural_Power_a4_F (k : Nat) (x22 : List Int) : Option ((List Int) × Int) := some (x22, 0)
theorem natural_Power_a4_le (k : Nat) (x22 : List Int) : Lo (natural_Power_a4_F k x22) (natural_Power_a4 x22) := by
 unfold natural_Power_a4_F natural_Power_a4
 repeat' with_reducible first | exact Lo.rfl_
noncomputable def natural_Power_a5_F (k : Nat) : Option ((List Int) × Int) := some (([] : List Int), 1)
theorem natural_Power_a5_le (k : Nat) : Lo (natural_Power_a5_F k) (natural_Power_a5) := by
 unfold natural_Power_a5_F natural_Power_a5
 repeat' with_reducible first | exact Lo.rfl_
noncomputable def natural_Power_k2_F (k : Nat) (p0 : List Int) (p1 : Int) (x6 : Bool) : Option ((List Int) × Int) := if x6 = true then (some (([] : List Int), 0)) else ((natural_Compare_F k p0 ([1] : List Int)).bind fun y8 => (if (y8 == 0) = true then (some (([1] : List Int), 0)) else (bindE (loopF k (fun v : (List Int) × Int => natural_Power_l3_F k p0 p1 v.1 v.2) (([1] : List Int), 0)) (fun t => natural_Power_a4_F k t) (fun t => natural_Power_a5_F k))))
theorem natural_Power_k2_le (k : Nat) (p0 : List Int) (p1 : Int) (x6 : Bool) : Lo (natural_Power_k2_F k p0 p1 x6) (natural_Power_k2 p0 p1 x6) := by
 unfold natural_Power_k2_F natural_Power_k2
 repeat' with_reducible first | refine Lo.ite_ ?_ ?_ | refine Lo.bind_ ?_ (fun _ => ?_) | refine Lo.bindE_ ?_ (fun _ => ?_) (fun _ => ?_) | refine Lo.loop_ (fun _ => ?_) | exact natural_Compare_le k _ _ | exact natural_Power_a4_le k _ | exact natural_Power_a5_le k | exact natural_Power_l3_le k _ _ _ _ | exact Lo.rfl_
noncomputable def natural_Power_k1_F (k : Nat) (p0 : List Int) (p1 : Int) (x4 : Bool) : Option ((List Int) × Int) := if x4 = true then (some (([] : List Int), 2)) else (if ((p0.length : Int) == 0) = true then (natural_Power_k2_F k p0 p1 (decide (p1 > 0))) else (natural_Power_k2_F k p0 p1 false))
theorem natural_Power_k1_le (k : Nat) (p0 : List Int) (p1 : Int) (x4 : Bool) : Lo (natural_Power_k1_F k p0 p1 x4) (natural_Power_k1 p0 p1 x4) := by
 unfold natural_Power_k1_F natural_Power_k1
 repeat' with_reducible first | refine Lo.ite_ ?_ ?_ | exact natural_Power_k2_le k _ _ _ | exact Lo.rfl_
noncomputable def natural_Power_F (k : Nat) (p0 : List Int) (p1 : Int) : Option ((List Int) × Int) := (natural_Valid_F k p0).bind fun y1 => (if (!y1) = true then (some (([] : List Int), 20)) else (if (decide (p1 < 0)) = true then (natural_Power_k1_F k p0 p1 true) else (natural_Power_k1_F k p0 p1 (decide (p1 > 4096)))))
theorem natural_Power_le (k : Nat) (p0 : List Int) (p1 : Int) : Lo (natural_Power_F k p0 p1) (natural_Power p0 p1) := by
 unfold natural_Power_F natural_Power
 repeat' with_reducible first | refine Lo.ite_ ?_ ?_ | refine Lo.bind_ ?_ (fun _ => ?_) | exact natural_Power_k1_le k _ _ _ | exact natural_Valid_le k _ | exact Lo.rfl_
noncomputable def weight_power_F (k : Nat) (p0 : Int) : Option (List Int) := bind2 (natural_FromInt_F k p0) fun y1 y2 => (bind2 (natural_Power_F k y1 16) fun y4 y5 => (some y4))
theorem weight_power_le (k : Nat) (p0 : Int) : Lo (weight_power_F k p0) (weight_power p0) := by
 unfold weight_power_F weight_power
 repeat' with_reducible first | refine Lo.bind2_ ?_ (fun _ _ => ?_) | exact natural_FromInt_le k _ | exact natural_Power_le k _ _ | exact Lo.rfl_
noncomputable def bits_Len32_k2_F (k : Nat) (x3 : Int) (x4 : Int) : Option Int := if 0 ≤ (u8.wrap x3) then (if (u8.wrap x3) < ((bigS0.size : Nat) : Int) then ((some (i64.wrap (x4 + (i64.wrap ((bigS0.data.toList.getD ((u8.wrap x3).toNat) 0).toNat : Int))))).bind fun z7 => (some z7)) else none) else none
theorem bits_Len32_k2_le (k : Nat) (x3 : Int) (x4 : Int) : Lo (bits_Len32_k2_F k x3 x4) (bits_Len32_k2 x3 x4) := by
 unfold bits_Len32_k2_F bits_Len32_k2
 repeat' with_reducible first | refine Lo.ite_ ?_ ?_ | refine Lo.bind_ ?_ (fun _ => ?_) | exact Lo.rfl_
noncomputable def bits_Len32_k1_F (k : Nat) (x1 : Int) (x2 : Int) : Option Int := if (decide (x1 ≥ 256)) = true then (bits_Len32_k2_F k (ishr .u32 x1 8) (i64.wrap (x2 + 8))) else (bits_Len32_k2_F k x1 x2)
theorem bits_Len32_k1_le (k : Nat) (x1 : Int) (x2 : Int) : Lo (bits_Len32_k1_F k x1 x2) (bits_Len32_k1 x1 x2) := by
 unfold bits_Len32_k1_F bits_Len32_k1
 repeat' with_reducible first | refine Lo.ite_ ?_ ?_ | exact bits_Len32_k2_le k _ _ | exact Lo.rfl_
noncomputable def bits_Len32_F (k : Nat) (p0 : Int) : Option Int := if (decide (p0 ≥ 65536)) = true then (bits_Len32_k1_F k (ishr .u32 p0 16) 16) else (bits_Len32_k1_F k p0 0)
theorem bits_Len32_le (k : Nat) (p0 : Int) : Lo (bits_Len32_F k p0) (bits_Len32 p0) := by
 unfold bits_Len32_F bits_Len32
 repeat' with_reducible first | refine Lo.ite_ ?_ ?_ | exact bits_Len32_k1_le k _ _ | exact Lo.rfl_
noncomputable def weight_length_F (k : Nat) (p0 : List Int) : Option Int := if ((p0.length : Int) == 0) = true then (some 0) else (if 0 ≤ (i64.wrap ((p0.length : Int) - 1)) then (if (i64.wrap ((p0.length : Int) - 1)) < (p0.length : Int) then ((bits_Len32_F k (p0.getD ((i64.wrap ((p0.length : Int) - 1)).toNat) 0)).bind fun y4 => ((some (i64.wrap ((i64.wrap (32 * (i64.wrap ((p0.length : Int) - 1)))) + y4))).bind fun z6 => (some z6))) else none) else none)
theorem weight_length_le (k : Nat) (p0 : List Int) : Lo (weight_length_F k p0) (weight_length p0) := by
 unfold weight_length_F weight_length
 repeat' with_reducible first | refine Lo.ite_ ?_ ?_ | refine Lo.bind_ ?_ (fun _ => ?_) | exact bits_Len32_le k _ | exact Lo.rfl_
noncomputable def natural_both_k1_F (k : Nat) (x1 : Bool) : Option Int := if x1 = true then (some 20) else (some 0)
theorem natural_both_k1_le (k : Nat) (x1 : Bool) : Lo (natural_both_k1_F k x1) (natural_both_k1 x1) := by
 unfold natural_both_k1_F natural_both_k1
 repeat' with_reducible first | refine Lo.ite_ ?_ ?_ | exact Lo.rfl_
noncomputable def natural_both_F (k : Nat) (p0 : List Int) (p1 : List Int) : Option Int := (natural_Valid_F k p0).bind fun y3 => (if (!y3) = true then (natural_both_k1_F k true) else ((natural_Valid_F k p1).bind fun y6 => (natural_both_k1_F k (!y6))))
theorem natural_both_le (k : Nat) (p0 : List Int) (p1 : List Int) : Lo (natural_both_F k p0 p1) (natural_both p0 p1) := by
 unfold natural_both_F natural_both
 repeat' with_reducible first | refine Lo.ite_ ?_ ?_ | refine Lo.bind_ ?_ (fun _ => ?_) | exact natural_Valid_le k _ | exact natural_both_k1_le k _ | exact Lo.rfl_
noncomputable def natural_done_F (k : Nat) (p0 : List Int) : Option ((List Int) × Int) := (natural_trim_F k p0).bind fun y1 => ((natural_Valid_F k y1).bind fun y3 => (if (!y3) = true then (some (([] : List Int), 1)) else (some (y1, 0))))
theorem natural_done_le (k : Nat) (p0 : List Int) : Lo (natural_done_F k p0) (natural_done p0) := by
 unfold natural_done_F natural_done
 repeat' with_reducible first | refine Lo.ite_ ?_ ?_ | refine Lo.bind_ ?_ (fun _ => ?_) | exact natural_Valid_le k _ | exact natural_trim_le k _ | exact Lo.rfl_
noncomputable def natural_Mul_F (k : Nat) (p0 : List Int) (p1 : List Int) : Option ((List Int) × Int) := (natural_both_F k p0 p1).bind fun y1 => (if (y1 != 0) = true then (some (([] : List Int), y1)) else ((natural_times_F k p0 p1).bind fun y4 => (bind2 (natural_done_F k y4) fun y6 y7 => (some (y6, y7)))))
theorem natural_Mul_le (k : Nat) (p0 : List Int) (p1 : List Int) : Lo (natural_Mul_F k p0 p1) (natural_Mul p0 p1) := by
 unfold natural_Mul_F natural_Mul
 repeat' with_reducible first | refine Lo.ite_ ?_ ?_ | refine Lo.bind_ ?_ (fun _ => ?_) | refine Lo.bind2_ ?_ (fun _ _ => ?_) | exact natural_both_le k _ _ | exact natural_done_le k _ | exact natural_times_le k _ _ | exact Lo.rfl_
noncomputable def weight_shifted_F (k : Nat) (p0 : List Int) (p1 : Int) : Option (List Int) := bind2 (natural_FromInt_F k 2) fun y1 y2 => (bind2 (natural_Power_F k y1 p1) fun y4 y5 => (bind2 (natural_Mul_F k p0 y4) fun y7 y8 => (some y7)))
theorem weight_shifted_le (k : Nat) (p0 : List Int) (p1 : Int) : Lo (weight_shifted_F k p0 p1) (weight_shifted p0 p1) := by
 unfold weight_shifted_F weight_shifted
 repeat' with_reducible first | refine Lo.bind2_ ?_ (fun _ _ => ?_) | exact natural_FromInt_le k _ | exact natural_Mul_le k _ _ | exact natural_Power_le k _ _ | exact Lo.rfl_
noncomputable def weight_Log_k2_F (k : Nat) (x11 : Int) : Option (Int × Int) := some (x11, 0)
theorem weight_Log_k2_le (k : Nat) (x11 : Int) : Lo (weight_Log_k2_F k x11) (weight_Log_k2 x11) := by
 unfold weight_Log_k2_F weight_Log_k2
 repeat' with_reducible first | exact Lo.rfl_
noncomputable def weight_Log_k1_F (k : Nat) (p0 : Int) (p1 : Int) (x1 : Bool) : Option (Int × Int) := if x1 = true then (some (0, 2)) else ((weight_power_F k p0).bind fun y3 => ((weight_power_F k p1).bind fun y5 => ((weight_length_F k y3).bind fun y7 => ((weight_length_F k y5).bind fun y9 => ((weight_shifted_F k y5 (if (0 : Int) > (i64.wrap (y7 - y9)) then 0 else (i64.wrap (y7 - y9)))).bind fun y12 => ((weight_shifted_F k y3 (if (0 : Int) > (i64.wrap (0 - (i64.wrap (y7 - y9)))) then 0 else (i64.wrap (0 - (i64.wrap (y7 - y9)))))).bind fun y14 => ((natural_Compare_F k y12 y14).bind fun y16 => (if (decide (y16 > 0)) = true then (weight_Log_k2_F k (i64.wrap ((i64.wrap (y7 - y9)) - 1))) else (weight_Log_k2_F k (i64.wrap (y7 - y9)))))))))))
theorem weight_Log_k1_le (k : Nat) (p0 : Int) (p1 : Int) (x1 : Bool) : Lo (weight_Log_k1_F k p0 p1 x1) (weight_Log_k1 p0 p1 x1) := by
 unfold weight_Log_k1_F weight_Log_k1
 repeat' with_reducible first | refine Lo.ite_ ?_ ?_ | refine Lo.bind_ ?_ (fun _ => ?_) | exact natural_Compare_le k _ _ | exact weight_Log_k2_le k _ | exact weight_length_le k _ | exact weight_power_le k _ | exact weight_shifted_le k _ _ | exact Lo.rfl_
noncomputable def weight_Log_F (k : Nat) (p0 : Int) (p1 : Int) : Option (Int × Int) := if (decide (p0 < 1)) = true then (weight_Log_k1_F k p0 p1 true) else (if (decide (p0 > 65536)) = true then (weight_Log_k1_F k p0 p1 true) else (if (decide (p1 < 1)) = true then (weight_Log_k1_F k p0 p1 true) else (weight_Log_k1_F k p0 p1 (decide (p1 > 65536)))))
theorem weight_Log_le (k : Nat) (p0 : Int) (p1 : Int) : Lo (weight_Log_F k p0 p1) (weight_Log p0 p1) := by
 unfold weight_Log_F weight_Log
 repeat' with_reducible first | refine Lo.ite_ ?_ ?_ | exact weight_Log_k1_le k _ _ _ | exact Lo.rfl_
noncomputable def rl_law25_awake_k1_F (k : Nat) (x7 : Bool) : Option Bool := some x7
theorem rl_law25_awake_k1_le (k : Nat) (x7 : Bool) : Lo (rl_law25_awake_k1_F k x7) (rl_law25_awake_k1 x7) := by
 unfold rl_law25_awake_k1_F rl_law25_awake_k1
 repeat' with_reducible first | exact Lo.rfl_
noncomputable def rl_law25_awake_F (k : Nat) : Option Bool := bind2 (weight_Log_F k 2 1) fun y1 y2 => (bind2 (weight_Log_F k 1 3) fun y4 y5 => (if (y2 == 0) = true then (if (y5 == 0) = true then (if (y1 == 16) = true then (rl_law25_awake_k1_F k (y4 == (-26))) else (rl_law25_awake_k1_F k false)) else (rl_law25_awake_k1_F k false)) else (rl_law25_awake_k1_F k false)))
theorem rl_law25_awake_le (k : Nat) : Lo (rl_law25_awake_F k) (rl_law25_awake) := by
 unfold rl_law25_awake_F rl_law25_awake
 repeat' with_reducible first | refine Lo.ite_ ?_ ?_ | refine Lo.bind2_ ?_ (fun _ _ => ?_) | exact rl_law25_awake_k1_le k _ | exact weight_Log_le k _ _ | exact Lo.rfl_
end Go.Proofs.Ytafmpnilgknfhaa
