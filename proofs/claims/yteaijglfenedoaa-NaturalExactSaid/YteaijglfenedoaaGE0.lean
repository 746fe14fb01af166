/- Printed by a program of mine (vmgen.py): Go functions, and what they come to. -/
import Derived.Test.YteaijglfenedoaaVp
import Derived.Test.YteaijglfenedoaaRows
import Derived.Test.YteaijglfenedoaaG2
import Derived.Test.YteaijglfenedoaaVq
namespace Go.Proofs.Yteaijglfenedoaa
open Vm
open IntKind (i64 u64 u32 u8)
set_option maxHeartbeats 10000000
set_option linter.unusedVariables false
set_option linter.unusedSimpArgs false
set_option linter.constructorNameAsVariable false
noncomputable def natural_Valid_k2_F (k : Nat) (x1 : Bool) : Option Bool := some x1
theorem natural_Valid_k2_le (k : Nat) (x1 : Bool) : Lo (natural_Valid_k2_F k x1) (natural_Valid_k2 x1) := by
 unfold natural_Valid_k2_F natural_Valid_k2
 repeat' with_reducible first | exact Lo.rfl_
noncomputable def natural_Valid_F (k : Nat) (p0 : List Int) : Option Bool := if (decide (((p0.length : Nat) : Int) ≤ 64)) = true then (if (((p0.length : Nat) : Int) == 0) = true then (natural_Valid_k2_F k true) else (if 0 ≤ (i64.wrap (((p0.length : Nat) : Int) - 1)) then (if (i64.wrap (((p0.length : Nat) : Int) - 1)) < ((p0.length : Nat) : Int) then (natural_Valid_k2_F k ((p0.getD ((i64.wrap (((p0.length : Nat) : Int) - 1)).toNat) 0) != 0)) else none) else none)) else (natural_Valid_k2_F k false)
theorem natural_Valid_le (k : Nat) (p0 : List Int) : Lo (natural_Valid_F k p0) (natural_Valid p0) := by
 unfold natural_Valid_F natural_Valid
 repeat' with_reducible first | refine Lo.ite_ ?_ ?_ | exact natural_Valid_k2_le k _ | exact Lo.rfl_
noncomputable def natural_both_k4_F (k : Nat) (x1 : Bool) : Option Int := if x1 = true then (some 20) else (some 0)
theorem natural_both_k4_le (k : Nat) (x1 : Bool) : Lo (natural_both_k4_F k x1) (natural_both_k4 x1) := by
 unfold natural_both_k4_F natural_both_k4
 repeat' with_reducible first | refine Lo.ite_ ?_ ?_ | exact Lo.rfl_
noncomputable def natural_both_F (k : Nat) (p0 : List Int) (p1 : List Int) : Option Int := (natural_Valid_F k p0).bind fun y3 => (if (!y3) = true then (natural_both_k4_F k true) else ((natural_Valid_F k p1).bind fun y6 => (natural_both_k4_F k (!y6))))
theorem natural_both_le (k : Nat) (p0 : List Int) (p1 : List Int) : Lo (natural_both_F k p0 p1) (natural_both p0 p1) := by
 unfold natural_both_F natural_both
 repeat' with_reducible first | refine Lo.ite_ ?_ ?_ | refine Lo.bind_ ?_ (fun _ => ?_) | exact natural_Valid_le k _ | exact natural_both_k4_le k _ | exact Lo.rfl_
noncomputable def natural_trim_k34_F (k : Nat) (x2 : List Int) (x4 : Bool) : Option ((List Int) ⊕ (List Int)) := if x4 = true then (if 0 ≤ (i64.wrap (((x2.length : Nat) : Int) - 1)) then (if ((i64.wrap (((x2.length : Nat) : Int) - 1)).toNat) ≤ x2.length then (some (.inl (x2.take ((i64.wrap (((x2.length : Nat) : Int) - 1)).toNat)))) else none) else none) else (some (.inr x2))
theorem natural_trim_k34_le (k : Nat) (x2 : List Int) (x4 : Bool) : Lo (natural_trim_k34_F k x2 x4) (natural_trim_k34 x2 x4) := by
 unfold natural_trim_k34_F natural_trim_k34
 repeat' with_reducible first | refine Lo.ite_ ?_ ?_ | exact Lo.rfl_
noncomputable def natural_trim_l30_F (k : Nat) (x2 : List Int) : Option ((List Int) ⊕ (List Int)) := if (decide (((x2.length : Nat) : Int) > 0)) = true then (if 0 ≤ (i64.wrap (((x2.length : Nat) : Int) - 1)) then (if (i64.wrap (((x2.length : Nat) : Int) - 1)) < ((x2.length : Nat) : Int) then ((some ((x2.getD ((i64.wrap (((x2.length : Nat) : Int) - 1)).toNat) 0))).bind fun z11 => (natural_trim_k34_F k x2 ((x2.getD ((i64.wrap (((x2.length : Nat) : Int) - 1)).toNat) 0) == 0))) else none) else none) else (natural_trim_k34_F k x2 false)
theorem natural_trim_l30_le (k : Nat) (x2 : List Int) : Lo (natural_trim_l30_F k x2) (natural_trim_l30 x2) := by
 unfold natural_trim_l30_F natural_trim_l30
 repeat' with_reducible first | refine Lo.ite_ ?_ ?_ | refine Lo.bind_ ?_ (fun _ => ?_) | exact natural_trim_k34_le k _ _ | exact Lo.rfl_
noncomputable def natural_trim_F (k : Nat) (p0 : List Int) : Option (List Int) := (loopF k (fun v : List Int => natural_trim_l30_F k v) p0).bind fun x13 => (some x13)
theorem natural_trim_le (k : Nat) (p0 : List Int) : Lo (natural_trim_F k p0) (natural_trim p0) := by
 unfold natural_trim_F natural_trim
 repeat' with_reducible first | refine Lo.bind_ ?_ (fun _ => ?_) | refine Lo.loop_ (fun _ => ?_) | exact natural_trim_l30_le k _ | exact Lo.rfl_
noncomputable def natural_times_l34_F (k : Nat) (p0 : List Int) (p1 : List Int) (x6 : Int) (x14 : List Int) (x15 : Int) (x16 : Int) : Option (((List Int) × Int × Int) ⊕ ((List Int) × Int)) := if (decide (x16 < ((p1.length : Nat) : Int))) = true then (if 0 ≤ x16 then (if x16 < ((p1.length : Nat) : Int) then (if 0 ≤ (i64.wrap (x6 + x16)) then (if (i64.wrap (x6 + x16)) < ((x14.length : Nat) : Int) then ((some (u64.wrap (x15 + (u64.wrap ((u64.wrap ((u64.wrap (p0.getD x6.toNat 0)) * (u64.wrap (p1.getD x16.toNat 0)))) + (u64.wrap (x14.getD (0 + (i64.wrap (x6 + x16)).toNat) 0))))))).bind fun z24 => (some (.inl ((x14.set (0 + (i64.wrap (x6 + x16)).toNat) (u32.wrap z24)), ishr .u64 z24 32, i64.wrap (x16 + 1))))) else none) else none) else none) else none) else (some (.inr (x14, x15)))
theorem natural_times_l34_le (k : Nat) (p0 : List Int) (p1 : List Int) (x6 : Int) (x14 : List Int) (x15 : Int) (x16 : Int) : Lo (natural_times_l34_F k p0 p1 x6 x14 x15 x16) (natural_times_l34 p0 p1 x6 x14 x15 x16) := by
 unfold natural_times_l34_F natural_times_l34
 repeat' with_reducible first | refine Lo.ite_ ?_ ?_ | refine Lo.bind_ ?_ (fun _ => ?_) | exact Lo.rfl_
noncomputable def natural_times_l30_F (k : Nat) (p0 : List Int) (p1 : List Int) (x5 : List Int) (x6 : Int) : Option (((List Int) × Int) ⊕ (List Int)) := if (decide (x6 < ((p0.length : Nat) : Int))) = true then (if 0 ≤ x6 then (if x6 < ((p0.length : Nat) : Int) then (bind2 (loopF k (fun v : (List Int) × Int × Int => natural_times_l34_F k p0 p1 x6 v.1 v.2.1 v.2.2) (x5, 0, 0)) fun x26 x27 => (if 0 ≤ (i64.wrap (x6 + ((p1.length : Nat) : Int))) then (if (i64.wrap (x6 + ((p1.length : Nat) : Int))) < ((x26.length : Nat) : Int) then (some (.inl ((x26.set (0 + (i64.wrap (x6 + ((p1.length : Nat) : Int))).toNat) (u32.wrap x27)), i64.wrap (x6 + 1)))) else none) else none)) else none) else none) else (some (.inr x5))
theorem natural_times_l30_le (k : Nat) (p0 : List Int) (p1 : List Int) (x5 : List Int) (x6 : Int) : Lo (natural_times_l30_F k p0 p1 x5 x6) (natural_times_l30 p0 p1 x5 x6) := by
 unfold natural_times_l30_F natural_times_l30
 repeat' with_reducible first | refine Lo.ite_ ?_ ?_ | refine Lo.bind2_ ?_ (fun _ _ => ?_) | refine Lo.loop_ (fun _ => ?_) | exact natural_times_l34_le k _ _ _ _ _ _ | exact Lo.rfl_
noncomputable def natural_times_F (k : Nat) (p0 : List Int) (p1 : List Int) : Option (List Int) := if 0 ≤ (i64.wrap (((p0.length : Nat) : Int) + ((p1.length : Nat) : Int))) then (if (i64.wrap (((p0.length : Nat) : Int) + ((p1.length : Nat) : Int))) ≤ 1099511627776 then ((loopF k (fun v : (List Int) × Int => natural_times_l30_F k p0 p1 v.1 v.2) ((List.replicate ((i64.wrap (((p0.length : Nat) : Int) + ((p1.length : Nat) : Int))).toNat) (0 : Int)), 0)).bind fun x31 => ((natural_trim_F k x31).bind fun y32 => (some y32))) else none) else none
theorem natural_times_le (k : Nat) (p0 : List Int) (p1 : List Int) : Lo (natural_times_F k p0 p1) (natural_times p0 p1) := by
 unfold natural_times_F natural_times
 repeat' with_reducible first | refine Lo.ite_ ?_ ?_ | refine Lo.bind_ ?_ (fun _ => ?_) | refine Lo.loop_ (fun _ => ?_) | exact natural_times_l30_le k _ _ _ _ | exact natural_trim_le k _ | exact Lo.rfl_
noncomputable def natural_done_F (k : Nat) (p0 : List Int) : Option ((List Int) × Int) := (natural_trim_F k p0).bind fun y1 => ((natural_Valid_F k y1).bind fun y3 => (if (!y3) = true then (some (([] : List Int), 1)) else (some (y1, 0))))
theorem natural_done_le (k : Nat) (p0 : List Int) : Lo (natural_done_F k p0) (natural_done p0) := by
 unfold natural_done_F natural_done
 repeat' with_reducible first | refine Lo.ite_ ?_ ?_ | refine Lo.bind_ ?_ (fun _ => ?_) | exact natural_Valid_le k _ | exact natural_trim_le k _ | exact Lo.rfl_
noncomputable def natural_Mul_F (k : Nat) (p0 : List Int) (p1 : List Int) : Option ((List Int) × Int) := (natural_both_F k p0 p1).bind fun y1 => (if (y1 != 0) = true then (some (([] : List Int), y1)) else ((natural_times_F k p0 p1).bind fun y4 => (bind2 (natural_done_F k y4) fun y6 y7 => (some (y6, y7)))))
theorem natural_Mul_le (k : Nat) (p0 : List Int) (p1 : List Int) : Lo (natural_Mul_F k p0 p1) (natural_Mul p0 p1) := by
 unfold natural_Mul_F natural_Mul
 repeat' with_reducible first | refine Lo.ite_ ?_ ?_ | refine Lo.bind_ ?_ (fun _ => ?_) | refine Lo.bind2_ ?_ (fun _ _ => ?_) | exact natural_both_le k _ _ | exact natural_done_le k _ | exact natural_times_le k _ _ | exact Lo.rfl_
noncomputable def cmp_isNaN_int_F (k : Nat) (p0 : Int) : Option Bool := some (p0 != p0)
theorem cmp_isNaN_int_le (k : Nat) (p0 : Int) : Lo (cmp_isNaN_int_F k p0) (cmp_isNaN_int p0) := by
 unfold cmp_isNaN_int_F cmp_isNaN_int
 repeat' with_reducible first | exact Lo.rfl_
noncomputable def cmp_Compare_int_F (k : Nat) (p0 : Int) (p1 : Int) : Option Int := (cmp_isNaN_int_F k p0).bind fun y1 => ((cmp_isNaN_int_F k p1).bind fun y3 => (if y1 = true then (if y3 = true then (some 0) else (some (-1))) else (if y3 = true then (some 1) else (if (decide (p0 < p1)) = true then (some (-1)) else (if (decide (p0 > p1)) = true then (some 1) else (some 0))))))
theorem cmp_Compare_int_le (k : Nat) (p0 : Int) (p1 : Int) : Lo (cmp_Compare_int_F k p0 p1) (cmp_Compare_int p0 p1) := by
 unfold cmp_Compare_int_F cmp_Compare_int
 repeat' with_reducible first | refine Lo.ite_ ?_ ?_ | refine Lo.bind_ ?_ (fun _ => ?_) | exact cmp_isNaN_int_le k _ | exact Lo.rfl_
noncomputable def cmp_isNaN_uint32_F (k : Nat) (p0 : Int) : Option Bool := some (p0 != p0)
theorem cmp_isNaN_uint32_le (k : Nat) (p0 : Int) : Lo (cmp_isNaN_uint32_F k p0) (cmp_isNaN_uint32 p0) := by
 unfold cmp_isNaN_uint32_F cmp_isNaN_uint32
 repeat' with_reducible first | exact Lo.rfl_
noncomputable def cmp_Compare_uint32_F (k : Nat) (p0 : Int) (p1 : Int) : Option Int := (cmp_isNaN_uint32_F k p0).bind fun y1 => ((cmp_isNaN_uint32_F k p1).bind fun y3 => (if y1 = true then (if y3 = true then (some 0) else (some (-1))) else (if y3 = true then (some 1) else (if (decide (p0 < p1)) = true then (some (-1)) else (if (decide (p0 > p1)) = true then (some 1) else (some 0))))))
theorem cmp_Compare_uint32_le (k : Nat) (p0 : Int) (p1 : Int) : Lo (cmp_Compare_uint32_F k p0 p1) (cmp_Compare_uint32 p0 p1) := by
 unfold cmp_Compare_uint32_F cmp_Compare_uint32
 repeat' with_reducible first | refine Lo.ite_ ?_ ?_ | refine Lo.bind_ ?_ (fun _ => ?_) | exact cmp_isNaN_uint32_le k _ | exact Lo.rfl_
noncomputable def natural_Compare_l4_F (k : Nat) (y1 : List Int) (y3 : List Int) (x9 : Int) : Option (Int ⊕ (Unit ⊕ Int)) := if (decide (x9 ≥ 0)) = true then (if 0 ≤ x9 then (if x9 < ((y1.length : Nat) : Int) then (if x9 < ((y3.length : Nat) : Int) then (if ((y1.getD x9.toNat 0) != (y3.getD x9.toNat 0)) = true then ((cmp_Compare_uint32_F k (y1.getD x9.toNat 0) (y3.getD x9.toNat 0)).bind fun y16 => (some (.inr (.inr y16)))) else (some (.inl (i64.wrap (x9 - 1))))) else none) else none) else none) else (some (.inr (.inl ())))
theorem natural_Compare_l4_le (k : Nat) (y1 : List Int) (y3 : List Int) (x9 : Int) : Lo (natural_Compare_l4_F k y1 y3 x9) (natural_Compare_l4 y1 y3 x9) := by
 unfold natural_Compare_l4_F natural_Compare_l4
 repeat' with_reducible first | refine Lo.ite_ ?_ ?_ | refine Lo.bind_ ?_ (fun _ => ?_) | exact cmp_Compare_uint32_le k _ _ | exact Lo.rfl_
noncomputable def natural_Compare_a5_F (k : Nat) : Option Int := some 0
theorem natural_Compare_a5_le (k : Nat) : Lo (natural_Compare_a5_F k) (natural_Compare_a5) := by
 unfold natural_Compare_a5_F natural_Compare_a5
 repeat' with_reducible first | exact Lo.rfl_
noncomputable def natural_Compare_a6_F (k : Nat) (x18 : Int) : Option Int := some x18
theorem natural_Compare_a6_le (k : Nat) (x18 : Int) : Lo (natural_Compare_a6_F k x18) (natural_Compare_a6 x18) := by
 unfold natural_Compare_a6_F natural_Compare_a6
 repeat' with_reducible first | exact Lo.rfl_
noncomputable def natural_Compare_F (k : Nat) (p0 : List Int) (p1 : List Int) : Option Int := (natural_trim_F k p0).bind fun y1 => ((natural_trim_F k p1).bind fun y3 => (if (((y1.length : Nat) : Int) != ((y3.length : Nat) : Int)) = true then ((cmp_Compare_int_F k ((y1.length : Nat) : Int) ((y3.length : Nat) : Int)).bind fun y6 => (some y6)) else (bindE (loopF k (fun v : Int => natural_Compare_l4_F k y1 y3 v) (i64.wrap (((y1.length : Nat) : Int) - 1))) (fun t => natural_Compare_a5_F k) (fun t => natural_Compare_a6_F k t))))
theorem natural_Compare_le (k : Nat) (p0 : List Int) (p1 : List Int) : Lo (natural_Compare_F k p0 p1) (natural_Compare p0 p1) := by
 unfold natural_Compare_F natural_Compare
 repeat' with_reducible first | refine Lo.ite_ ?_ ?_ | refine Lo.bind_ ?_ (fun _ => ?_) | refine Lo.bindE_ ?_ (fun _ => ?_) (fun _ => ?_) | refine Lo.loop_ (fun _ => ?_) | exact cmp_Compare_int_le k _ _ | exact natural_Compare_a5_le k | exact natural_Compare_a6_le k _ | exact natural_Compare_l4_le k _ _ _ | exact natural_trim_le k _ | exact Lo.rfl_
noncomputable def slices_Clone_uint32_F (k : Nat) (p0 : List Int) : Option (List Int) := Lo.bothD (p0.length = 0) (some ([] : List Int)) (if ([] : List Int).length + p0.length ≤ 1099511627776 then (some (([] : List Int) ++ p0)) else none)
theorem slices_Clone_uint32_le (k : Nat) (p0 : List Int) : Lo (slices_Clone_uint32_F k p0) (slices_Clone_uint32 p0) := by
 unfold slices_Clone_uint32_F slices_Clone_uint32
 repeat' with_reducible first | refine Lo.ite_ ?_ ?_ | refine Lo.bothD_ ?_ ?_ | refine Lo.both_ ?_ | exact Lo.rfl_
noncomputable def bits_Len32_k2_F (k : Nat) (x3 : Int) (x4 : Int) : Option Int := if 0 ≤ (u8.wrap x3) then (if (u8.wrap x3) < ((bigS0.size : Nat) : Int) then ((some (i64.wrap (x4 + (i64.wrap ((bigS0.data.toList.getD ((u8.wrap x3).toNat) 0).toNat : Int))))).bind fun z7 => (some z7)) else none) else none
theorem bits_Len32_k2_le (k : Nat) (x3 : Int) (x4 : Int) : Lo (bits_Len32_k2_F k x3 x4) (bits_Len32_k2 x3 x4) := by
 unfold bits_Len32_k2_F bits_Len32_k2
 repeat' with_reducible first | refine Lo.ite_ ?_ ?_ | refine Lo.bind_ ?_ (fun _ => ?_) | exact Lo.rfl_
noncomputable def bits_Len32_k1_F (k : Nat) (x1 : Int) (x2 : Int) : Option Int := if (decide (x1 ≥ 256)) = true then (bits_Len32_k2_F k (ishr .u32 x1 8) (i64.wrap (x2 + 8))) else (bits_Len32_k2_F k x1 x2)
theorem bits_Len32_k1_le (k : Nat) (x1 : Int) (x2 : Int) : Lo (bits_Len32_k1_F k x1 x2) (bits_Len32_k1 x1 x2) := by
 unfold bits_Len32_k1_F bits_Len32_k1
 repeat' with_reducible first | refine Lo.ite_ ?_ ?_ | exact bits_Len32_k2_le k _ _ | exact Lo.rfl_
noncomputable def bits_Len32_F (k : Nat) (p0 : Int) : Option Int := if (decide (p0 ≥ 65536)) = true then (bits_Len32_k1_F k (ishr .u32 p0 16) 16) else (bits_Len32_k1_F k p0 0)
theorem bits_Len32_le (k : Nat) (p0 : Int) : Lo (bits_Len32_F k p0) (bits_Len32 p0) := by
 unfold bits_Len32_F bits_Len32
 repeat' with_reducible first | refine Lo.ite_ ?_ ?_ | exact bits_Len32_k1_le k _ _ | exact Lo.rfl_
noncomputable def bits_LeadingZeros32_F (k : Nat) (p0 : Int) : Option Int := (bits_Len32_F k p0).bind fun y1 => (some (i64.wrap (32 - y1)))
theorem bits_LeadingZeros32_le (k : Nat) (p0 : Int) : Lo (bits_LeadingZeros32_F k p0) (bits_LeadingZeros32 p0) := by
 unfold bits_LeadingZeros32_F bits_LeadingZeros32
 repeat' with_reducible first | refine Lo.bind_ ?_ (fun _ => ?_) | exact bits_Len32_le k _ | exact Lo.rfl_
noncomputable def natural_shift_l2_F (k : Nat) (p0 : List Int) (p1 : Int) (x5 : List Int) (x6 : Int) : Option (((List Int) × Int) ⊕ (List Int)) := if (decide (x6 < ((p0.length : Nat) : Int))) = true then (if 0 ≤ x6 then (if x6 < ((p0.length : Nat) : Int) then (if 0 ≤ p1 then (if x6 < ((x5.length : Nat) : Int) then (if 0 ≤ (i64.wrap (x6 + 1)) then (if (i64.wrap (x6 + 1)) < ((x5.length : Nat) : Int) then (some (.inl (((x5.set (0 + x6.toNat) (ior .u32 (x5.getD (0 + x6.toNat) 0) (u32.wrap (ishl .u64 (u64.wrap (p0.getD x6.toNat 0)) p1)))).set (0 + (i64.wrap (x6 + 1)).toNat) (u32.wrap (ishr .u64 (ishl .u64 (u64.wrap (p0.getD x6.toNat 0)) p1) 32))), i64.wrap (x6 + 1)))) else none) else none) else none) else none) else none) else none) else (some (.inr x5))
theorem natural_shift_l2_le (k : Nat) (p0 : List Int) (p1 : Int) (x5 : List Int) (x6 : Int) : Lo (natural_shift_l2_F k p0 p1 x5 x6) (natural_shift_l2 p0 p1 x5 x6) := by
 unfold natural_shift_l2_F natural_shift_l2
 repeat' with_reducible first | refine Lo.ite_ ?_ ?_ | exact Lo.rfl_
noncomputable def natural_shift_F (k : Nat) (p0 : List Int) (p1 : Int) : Option (List Int) := if 0 ≤ (i64.wrap (((p0.length : Nat) : Int) + 1)) then (if (i64.wrap (((p0.length : Nat) : Int) + 1)) ≤ 1099511627776 then ((loopF k (fun v : (List Int) × Int => natural_shift_l2_F k p0 p1 v.1 v.2) ((List.replicate ((i64.wrap (((p0.length : Nat) : Int) + 1)).toNat) (0 : Int)), 0)).bind fun x15 => (some x15)) else none) else none
theorem natural_shift_le (k : Nat) (p0 : List Int) (p1 : Int) : Lo (natural_shift_F k p0 p1) (natural_shift p0 p1) := by
 unfold natural_shift_F natural_shift
 repeat' with_reducible first | refine Lo.ite_ ?_ ?_ | refine Lo.bind_ ?_ (fun _ => ?_) | refine Lo.loop_ (fun _ => ?_) | exact natural_shift_l2_le k _ _ _ _ | exact Lo.rfl_
noncomputable def natural_less_k18_F (k : Nat) (o0 : Nat) (n0 : Nat) (x5 : List Int) (x7 : Int) (x8 : Int) (x12 : Int) : Option (((List Int) × Int × Int × Int) ⊕ (Int × (List Int))) := if 0 ≤ x8 then (if x8 < ((n0 : Nat) : Int) then (if (o0 + x8.toNat) < x5.length then ((some (u64.wrap ((u64.wrap ((u64.wrap (x5.getD (o0 + x8.toNat) 0)) - (iand .u64 x12 4294967295))) - x7))).bind fun z16 => (some (.inl ((x5.set (o0 + x8.toNat) (u32.wrap z16)), ishr .u64 x12 32, ishr .u64 z16 63, i64.wrap (x8 + 1))))) else none) else none) else none
theorem natural_less_k18_le (k : Nat) (o0 : Nat) (n0 : Nat) (x5 : List Int) (x7 : Int) (x8 : Int) (x12 : Int) : Lo (natural_less_k18_F k o0 n0 x5 x7 x8 x12) (natural_less_k18 o0 n0 x5 x7 x8 x12) := by
 unfold natural_less_k18_F natural_less_k18
 repeat' with_reducible first | refine Lo.ite_ ?_ ?_ | refine Lo.bind_ ?_ (fun _ => ?_) | exact Lo.rfl_
noncomputable def natural_less_l16_F (k : Nat) (o0 : Nat) (n0 : Nat) (p1 : List Int) (p2 : Int) (x5 : List Int) (x6 : Int) (x7 : Int) (x8 : Int) : Option (((List Int) × Int × Int × Int) ⊕ (Int × (List Int))) := if (decide (x8 < ((n0 : Nat) : Int))) = true then (if (decide (x8 < ((p1.length : Nat) : Int))) = true then (if 0 ≤ x8 then (if x8 < ((p1.length : Nat) : Int) then ((some (u64.wrap (x6 + (u64.wrap (p2 * (u64.wrap (p1.getD x8.toNat 0))))))).bind fun z21 => (natural_less_k18_F k o0 n0 x5 x7 x8 z21)) else none) else none) else (natural_less_k18_F k o0 n0 x5 x7 x8 x6)) else (some (.inr (x7, x5)))
theorem natural_less_l16_le (k : Nat) (o0 : Nat) (n0 : Nat) (p1 : List Int) (p2 : Int) (x5 : List Int) (x6 : Int) (x7 : Int) (x8 : Int) : Lo (natural_less_l16_F k o0 n0 p1 p2 x5 x6 x7 x8) (natural_less_l16 o0 n0 p1 p2 x5 x6 x7 x8) := by
 unfold natural_less_l16_F natural_less_l16
 repeat' with_reducible first | refine Lo.ite_ ?_ ?_ | refine Lo.bind_ ?_ (fun _ => ?_) | exact natural_less_k18_le k _ _ _ _ _ _ | exact Lo.rfl_
noncomputable def natural_less_F (k : Nat) (p0 : List Int) (o0 : Nat) (n0 : Nat) (p1 : List Int) (p2 : Int) : Option (Bool × (List Int)) := bind2 (loopF k (fun v : (List Int) × Int × Int × Int => natural_less_l16_F k o0 n0 p1 p2 v.1 v.2.1 v.2.2.1 v.2.2.2) (p0, 0, 0, 0)) fun x23 x24 => (some (decide (x23 > 0), x24))
theorem natural_less_le (k : Nat) (p0 : List Int) (o0 : Nat) (n0 : Nat) (p1 : List Int) (p2 : Int) : Lo (natural_less_F k p0 o0 n0 p1 p2) (natural_less p0 o0 n0 p1 p2) := by
 unfold natural_less_F natural_less
 repeat' with_reducible first | refine Lo.bind2_ ?_ (fun _ _ => ?_) | refine Lo.loop_ (fun _ => ?_) | exact natural_less_l16_le k _ _ _ _ _ _ _ _ | exact Lo.rfl_
noncomputable def natural_more_k9_F (k : Nat) (o0 : Nat) (x4 : List Int) (x6 : Int) (x14 : Int) : Option (((List Int) × Int × Int) ⊕ (List Int)) := some (.inl ((x4.set (o0 + x6.toNat) (u32.wrap x14)), ishr .u64 x14 32, i64.wrap (x6 + 1)))
theorem natural_more_k9_le (k : Nat) (o0 : Nat) (x4 : List Int) (x6 : Int) (x14 : Int) : Lo (natural_more_k9_F k o0 x4 x6 x14) (natural_more_k9 o0 x4 x6 x14) := by
 unfold natural_more_k9_F natural_more_k9
 repeat' with_reducible first | exact Lo.rfl_
noncomputable def natural_more_l7_F (k : Nat) (o0 : Nat) (n0 : Nat) (p1 : List Int) (x4 : List Int) (x5 : Int) (x6 : Int) : Option (((List Int) × Int × Int) ⊕ (List Int)) := if (decide (x6 < ((n0 : Nat) : Int))) = true then (if 0 ≤ x6 then (if x6 < ((n0 : Nat) : Int) then (if (o0 + x6.toNat) < x4.length then ((some (u64.wrap (x5 + (u64.wrap (x4.getD (o0 + x6.toNat) 0))))).bind fun z12 => (if (decide (x6 < ((p1.length : Nat) : Int))) = true then (if x6 < ((p1.length : Nat) : Int) then ((some (u64.wrap (z12 + (u64.wrap (p1.getD x6.toNat 0))))).bind fun z17 => (natural_more_k9_F k o0 x4 x6 z17)) else none) else (natural_more_k9_F k o0 x4 x6 z12))) else none) else none) else none) else (some (.inr x4))
theorem natural_more_l7_le (k : Nat) (o0 : Nat) (n0 : Nat) (p1 : List Int) (x4 : List Int) (x5 : Int) (x6 : Int) : Lo (natural_more_l7_F k o0 n0 p1 x4 x5 x6) (natural_more_l7 o0 n0 p1 x4 x5 x6) := by
 unfold natural_more_l7_F natural_more_l7
 repeat' with_reducible first | refine Lo.ite_ ?_ ?_ | refine Lo.bind_ ?_ (fun _ => ?_) | exact natural_more_k9_le k _ _ _ _ | exact Lo.rfl_
noncomputable def natural_more_F (k : Nat) (p0 : List Int) (o0 : Nat) (n0 : Nat) (p1 : List Int) : Option (List Int) := (loopF k (fun v : (List Int) × Int × Int => natural_more_l7_F k o0 n0 p1 v.1 v.2.1 v.2.2) (p0, 0, 0)).bind fun x19 => (some x19)
theorem natural_more_le (k : Nat) (p0 : List Int) (o0 : Nat) (n0 : Nat) (p1 : List Int) : Lo (natural_more_F k p0 o0 n0 p1) (natural_more p0 o0 n0 p1) := by
 unfold natural_more_F natural_more
 repeat' with_reducible first | refine Lo.bind_ ?_ (fun _ => ?_) | refine Lo.loop_ (fun _ => ?_) | exact natural_more_l7_le k _ _ _ _ _ _ | exact Lo.rfl_
noncomputable def natural_back_k18_F (k : Nat) (p1 : Int) (x5 : List Int) (x6 : Int) (x11 : Int) : Option (((List Int) × Int) ⊕ (List Int)) := if 0 ≤ p1 then (if x6 < ((x5.length : Nat) : Int) then (some (.inl ((x5.set (0 + x6.toNat) (u32.wrap (ishr .u64 x11 p1))), i64.wrap (x6 + 1)))) else none) else none
theorem natural_back_k18_le (k : Nat) (p1 : Int) (x5 : List Int) (x6 : Int) (x11 : Int) : Lo (natural_back_k18_F k p1 x5 x6 x11) (natural_back_k18 p1 x5 x6 x11) := by
 unfold natural_back_k18_F natural_back_k18
 repeat' with_reducible first | refine Lo.ite_ ?_ ?_ | exact Lo.rfl_
noncomputable def natural_back_l16_F (k : Nat) (p0 : List Int) (p1 : Int) (y1 : List Int) (x5 : List Int) (x6 : Int) : Option (((List Int) × Int) ⊕ (List Int)) := if (decide (x6 < ((y1.length : Nat) : Int))) = true then (if 0 ≤ x6 then (if x6 < ((p0.length : Nat) : Int) then (if (decide ((i64.wrap (x6 + 1)) < ((p0.length : Nat) : Int))) = true then (if 0 ≤ (i64.wrap (x6 + 1)) then (if (i64.wrap (x6 + 1)) < ((p0.length : Nat) : Int) then ((some (ior .u64 (u64.wrap (p0.getD x6.toNat 0)) (ishl .u64 (u64.wrap (p0.getD ((i64.wrap (x6 + 1)).toNat) 0)) 32))).bind fun z17 => (natural_back_k18_F k p1 x5 x6 z17)) else none) else none) else (natural_back_k18_F k p1 x5 x6 (u64.wrap (p0.getD x6.toNat 0)))) else none) else none) else (some (.inr x5))
theorem natural_back_l16_le (k : Nat) (p0 : List Int) (p1 : Int) (y1 : List Int) (x5 : List Int) (x6 : Int) : Lo (natural_back_l16_F k p0 p1 y1 x5 x6) (natural_back_l16 p0 p1 y1 x5 x6) := by
 unfold natural_back_l16_F natural_back_l16
 repeat' with_reducible first | refine Lo.ite_ ?_ ?_ | refine Lo.bind_ ?_ (fun _ => ?_) | exact natural_back_k18_le k _ _ _ _ | exact Lo.rfl_
noncomputable def natural_back_F (k : Nat) (p0 : List Int) (p1 : Int) : Option (List Int) := (slices_Clone_uint32_F k p0).bind fun y1 => ((loopF k (fun v : (List Int) × Int => natural_back_l16_F k p0 p1 y1 v.1 v.2) (y1, 0)).bind fun x19 => ((natural_trim_F k x19).bind fun y20 => (some y20)))
theorem natural_back_le (k : Nat) (p0 : List Int) (p1 : Int) : Lo (natural_back_F k p0 p1) (natural_back p0 p1) := by
 unfold natural_back_F natural_back
 repeat' with_reducible first | refine Lo.bind_ ?_ (fun _ => ?_) | refine Lo.loop_ (fun _ => ?_) | exact natural_back_l16_le k _ _ _ _ _ | exact natural_trim_le k _ | exact slices_Clone_uint32_le k _ | exact Lo.rfl_
noncomputable def natural_divide_k40_F (k : Nat) (x29 : Int) (x33 : List Int) (x34 : List Int) : Option (((List Int) × (List Int) × Int) ⊕ ((List Int) × (List Int))) := some (.inl (x33, x34, i64.wrap (x29 - 1)))
theorem natural_divide_k40_le (k : Nat) (x29 : Int) (x33 : List Int) (x34 : List Int) : Lo (natural_divide_k40_F k x29 x33 x34) (natural_divide_k40 x29 x33 x34) := by
 unfold natural_divide_k40_F natural_divide_k40
 repeat' with_reducible first | exact Lo.rfl_
noncomputable def natural_divide_l42_F (k : Nat) (y14 : List Int) (x29 : Int) (y47 : Bool) (x52 : List Int) (x53 : Int) : Option (((List Int) × Int) ⊕ ((List Int) × Int)) := if y47 = true then ((natural_more_F k x52 (0 + x29.toNat) ((i64.wrap ((i64.wrap (x29 + ((y14.length : Nat) : Int))) + 1)).toNat - x29.toNat) y14).bind fun y57 => (if ((0 + x29.toNat) + ((y14.length : Nat) : Int).toNat) < y57.length then (if ((y57.getD ((0 + x29.toNat) + ((y14.length : Nat) : Int).toNat) 0) == 0) = true then (some (.inr (y57, u64.wrap (x53 - 1)))) else (some (.inl (y57, u64.wrap (x53 - 1))))) else none)) else (some (.inr (x52, x53)))
theorem natural_divide_l42_le (k : Nat) (y14 : List Int) (x29 : Int) (y47 : Bool) (x52 : List Int) (x53 : Int) : Lo (natural_divide_l42_F k y14 x29 y47 x52 x53) (natural_divide_l42 y14 x29 y47 x52 x53) := by
 unfold natural_divide_l42_F natural_divide_l42
 repeat' with_reducible first | refine Lo.ite_ ?_ ?_ | refine Lo.bind_ ?_ (fun _ => ?_) | exact natural_more_le k _ _ _ _ | exact Lo.rfl_
noncomputable def natural_divide_l37_F (k : Nat) (y10 : List Int) (y14 : List Int) (z18 : Int) (x27 : List Int) (x28 : List Int) (x29 : Int) : Option (((List Int) × (List Int) × Int) ⊕ ((List Int) × (List Int))) := if (decide (x29 ≥ 0)) = true then (if 0 ≤ x29 then (if x29 ≤ (i64.wrap ((i64.wrap (x29 + ((y14.length : Nat) : Int))) + 1)) then (if (i64.wrap ((i64.wrap (x29 + ((y14.length : Nat) : Int))) + 1)) ≤ ((y10.length : Nat) : Int) then (if 0 ≤ ((y14.length : Nat) : Int) then (if ((y14.length : Nat) : Int) < ((((i64.wrap ((i64.wrap (x29 + ((y14.length : Nat) : Int))) + 1)).toNat - x29.toNat) : Nat) : Int) then (if ((0 + x29.toNat) + ((y14.length : Nat) : Int).toNat) < x27.length then (if (i64.wrap (((y14.length : Nat) : Int) - 1)) < ((((i64.wrap ((i64.wrap (x29 + ((y14.length : Nat) : Int))) + 1)).toNat - x29.toNat) : Nat) : Int) then (if ((0 + x29.toNat) + (i64.wrap (((y14.length : Nat) : Int) - 1)).toNat) < x27.length then (if z18 ≠ 0 then ((some ((if (4294967295 : Int) < (u64.wrap ((ior .u64 (ishl .u64 (u64.wrap (x27.getD ((0 + x29.toNat) + ((y14.length : Nat) : Int).toNat) 0)) 32) (u64.wrap (x27.getD ((0 + x29.toNat) + (i64.wrap (((y14.length : Nat) : Int) - 1)).toNat) 0))).tdiv z18)) then 4294967295 else (u64.wrap ((ior .u64 (ishl .u64 (u64.wrap (x27.getD ((0 + x29.toNat) + ((y14.length : Nat) : Int).toNat) 0)) 32) (u64.wrap (x27.getD ((0 + x29.toNat) + (i64.wrap (((y14.length : Nat) : Int) - 1)).toNat) 0))).tdiv z18))))).bind fun z44 => (if (z44 == 0) = true then (natural_divide_k40_F k x29 x27 x28) else (bind2 (natural_less_F k x27 (0 + x29.toNat) ((i64.wrap ((i64.wrap (x29 + ((y14.length : Nat) : Int))) + 1)).toNat - x29.toNat) y14 z44) fun y47 y48 => (bind2 (loopF k (fun v : (List Int) × Int => natural_divide_l42_F k y14 x29 y47 v.1 v.2) (y48, z44)) fun x61 x62 => (if x29 < ((x28.length : Nat) : Int) then (natural_divide_k40_F k x29 x61 (x28.set (0 + x29.toNat) (u32.wrap x62))) else none))))) else none) else none) else none) else none) else none) else none) else none) else none) else none) else (some (.inr (x27, x28)))
theorem natural_divide_l37_le (k : Nat) (y10 : List Int) (y14 : List Int) (z18 : Int) (x27 : List Int) (x28 : List Int) (x29 : Int) : Lo (natural_divide_l37_F k y10 y14 z18 x27 x28 x29) (natural_divide_l37 y10 y14 z18 x27 x28 x29) := by
 unfold natural_divide_l37_F natural_divide_l37
 repeat' with_reducible first | refine Lo.ite_ ?_ ?_ | refine Lo.bind_ ?_ (fun _ => ?_) | refine Lo.bind2_ ?_ (fun _ _ => ?_) | refine Lo.loop_ (fun _ => ?_) | exact natural_divide_k40_le k _ _ _ | exact natural_divide_l42_le k _ _ _ _ _ | exact natural_less_le k _ _ _ _ _ | exact Lo.rfl_
noncomputable def natural_divide_F (k : Nat) (p0 : List Int) (p1 : List Int) : Option ((List Int) × (List Int)) := (natural_Compare_F k p0 p1).bind fun y1 => (if (decide (y1 < 0)) = true then ((slices_Clone_uint32_F k p0).bind fun y4 => (some (([] : List Int), y4))) else (if 0 ≤ (i64.wrap (((p1.length : Nat) : Int) - 1)) then (if (i64.wrap (((p1.length : Nat) : Int) - 1)) < ((p1.length : Nat) : Int) then ((bits_LeadingZeros32_F k (p1.getD ((i64.wrap (((p1.length : Nat) : Int) - 1)).toNat) 0)).bind fun y8 => ((natural_shift_F k p0 y8).bind fun y10 => ((natural_shift_F k p1 y8).bind fun y12 => ((natural_trim_F k y12).bind fun y14 => (if 0 ≤ (i64.wrap (((y14.length : Nat) : Int) - 1)) then (if (i64.wrap (((y14.length : Nat) : Int) - 1)) < ((y14.length : Nat) : Int) then ((some (u64.wrap (y14.getD ((i64.wrap (((y14.length : Nat) : Int) - 1)).toNat) 0))).bind fun z18 => (if 0 ≤ (i64.wrap (((y10.length : Nat) : Int) - ((y14.length : Nat) : Int))) then (if (i64.wrap (((y10.length : Nat) : Int) - ((y14.length : Nat) : Int))) ≤ 1099511627776 then ((some (i64.wrap ((((List.replicate ((i64.wrap (((y10.length : Nat) : Int) - ((y14.length : Nat) : Int))).toNat) (0 : Int)).length : Nat) : Int) - 1))).bind fun z22 => (bind2 (loopF k (fun v : (List Int) × (List Int) × Int => natural_divide_l37_F k y10 y14 z18 v.1 v.2.1 v.2.2) (y10, (List.replicate ((i64.wrap (((y10.length : Nat) : Int) - ((y14.length : Nat) : Int))).toNat) (0 : Int)), z22)) fun x65 x66 => ((natural_trim_F k x66).bind fun y67 => ((natural_trim_F k (x65.take y10.length)).bind fun y69 => (if 0 + y10.length ≤ x65.length then ((natural_back_F k y69 y8).bind fun y72 => (some (y67, y72))) else none))))) else none) else none)) else none) else none))))) else none) else none))
theorem natural_divide_le (k : Nat) (p0 : List Int) (p1 : List Int) : Lo (natural_divide_F k p0 p1) (natural_divide p0 p1) := by
 unfold natural_divide_F natural_divide
 repeat' with_reducible first | refine Lo.ite_ ?_ ?_ | refine Lo.bind_ ?_ (fun _ => ?_) | refine Lo.bind2_ ?_ (fun _ _ => ?_) | refine Lo.loop_ (fun _ => ?_) | exact bits_LeadingZeros32_le k _ | exact natural_Compare_le k _ _ | exact natural_back_le k _ _ | exact natural_divide_l37_le k _ _ _ _ _ _ | exact natural_shift_le k _ _ | exact natural_trim_le k _ | exact slices_Clone_uint32_le k _ | exact Lo.rfl_
noncomputable def natural_Int_l6_F (k : Nat) (p0 : List Int) (x5 : Int) (x6 : Int) : Option ((Int × Int) ⊕ Int) := if (decide (x6 < ((p0.length : Nat) : Int))) = true then (if 0 ≤ x6 then (if x6 < ((p0.length : Nat) : Int) then (if 0 ≤ (i64.wrap (32 * x6)) then ((some (ior .i64 x5 (ishl .i64 (i64.wrap (p0.getD x6.toNat 0)) (i64.wrap (32 * x6))))).bind fun z12 => (some (.inl (z12, i64.wrap (x6 + 1))))) else none) else none) else none) else (some (.inr x5))
theorem natural_Int_l6_le (k : Nat) (p0 : List Int) (x5 : Int) (x6 : Int) : Lo (natural_Int_l6_F k p0 x5 x6) (natural_Int_l6 p0 x5 x6) := by
 unfold natural_Int_l6_F natural_Int_l6
 repeat' with_reducible first | refine Lo.ite_ ?_ ?_ | refine Lo.bind_ ?_ (fun _ => ?_) | exact Lo.rfl_
noncomputable def natural_Int_k4_F (k : Nat) (p0 : List Int) (x1 : Bool) : Option (Int × Bool) := if x1 = true then (some (0, false)) else ((loopF k (fun v : Int × Int => natural_Int_l6_F k p0 v.1 v.2) (0, 0)).bind fun x14 => (some (x14, true)))
theorem natural_Int_k4_le (k : Nat) (p0 : List Int) (x1 : Bool) : Lo (natural_Int_k4_F k p0 x1) (natural_Int_k4 p0 x1) := by
 unfold natural_Int_k4_F natural_Int_k4
 repeat' with_reducible first | refine Lo.ite_ ?_ ?_ | refine Lo.bind_ ?_ (fun _ => ?_) | refine Lo.loop_ (fun _ => ?_) | exact natural_Int_l6_le k _ _ _ | exact Lo.rfl_
noncomputable def natural_Int_F (k : Nat) (p0 : List Int) : Option (Int × Bool) := (natural_Valid_F k p0).bind fun y16 => (if (!y16) = true then (natural_Int_k4_F k p0 true) else (if (decide (((p0.length : Nat) : Int) > 2)) = true then (natural_Int_k4_F k p0 true) else (if (((p0.length : Nat) : Int) == 2) = true then (if (1 : Int) < ((p0.length : Nat) : Int) then (natural_Int_k4_F k p0 (decide ((p0.getD 1 0) > 2147483647))) else none) else (natural_Int_k4_F k p0 false))))
theorem natural_Int_le (k : Nat) (p0 : List Int) : Lo (natural_Int_F k p0) (natural_Int p0) := by
 unfold natural_Int_F natural_Int
 repeat' with_reducible first | refine Lo.ite_ ?_ ?_ | refine Lo.bind_ ?_ (fun _ => ?_) | exact natural_Int_k4_le k _ _ | exact natural_Valid_le k _ | exact Lo.rfl_
noncomputable def slices_Reverse_byte_l1_F (k : Nat) (o0 : Nat) (n0 : Nat) (x4 : List Int) (x5 : Int) (x6 : Int) : Option (((List Int) × Int × Int) ⊕ (List Int)) := if (decide (x5 < x6)) = true then (if 0 ≤ x6 then (if x6 < ((n0 : Nat) : Int) then (if (o0 + x6.toNat) < x4.length then (if 0 ≤ x5 then (if x5 < ((n0 : Nat) : Int) then (if (o0 + x5.toNat) < x4.length then (some (.inl (((x4.set (o0 + x5.toNat) (x4.getD (o0 + x6.toNat) 0)).set (o0 + x6.toNat) (x4.getD (o0 + x5.toNat) 0)), i64.wrap (x5 + 1), i64.wrap (x6 - 1)))) else none) else none) else none) else none) else none) else none) else (some (.inr x4))
theorem slices_Reverse_byte_l1_le (k : Nat) (o0 : Nat) (n0 : Nat) (x4 : List Int) (x5 : Int) (x6 : Int) : Lo (slices_Reverse_byte_l1_F k o0 n0 x4 x5 x6) (slices_Reverse_byte_l1 o0 n0 x4 x5 x6) := by
 unfold slices_Reverse_byte_l1_F slices_Reverse_byte_l1
 repeat' with_reducible first | refine Lo.ite_ ?_ ?_ | exact Lo.rfl_
noncomputable def slices_Reverse_byte_F (k : Nat) (p0 : List Int) (o0 : Nat) (n0 : Nat) : Option (List Int) := (loopF k (fun v : (List Int) × Int × Int => slices_Reverse_byte_l1_F k o0 n0 v.1 v.2.1 v.2.2) (p0, 0, i64.wrap (((n0 : Nat) : Int) - 1))).bind fun x15 => (some x15)
theorem slices_Reverse_byte_le (k : Nat) (p0 : List Int) (o0 : Nat) (n0 : Nat) : Lo (slices_Reverse_byte_F k p0 o0 n0) (slices_Reverse_byte p0 o0 n0) := by
 unfold slices_Reverse_byte_F slices_Reverse_byte
 repeat' with_reducible first | refine Lo.bind_ ?_ (fun _ => ?_) | refine Lo.loop_ (fun _ => ?_) | exact slices_Reverse_byte_l1_le k _ _ _ _ _ | exact Lo.rfl_
noncomputable def natural_Text_l2_F (k : Nat) (x7 : List Int) (x8 : List Int) : Option (((List Int) × (List Int)) ⊕ (List Int)) := if (decide (((x7.length : Nat) : Int) > 0)) = true then (bind2 (natural_divide_F k x7 ([10] : List Int)) fun y11 y12 => (bind2 (natural_Int_F k y12) fun y14 y15 => (if x8.length + ([u8.wrap (i64.wrap (48 + y14))] : List Int).length ≤ 1099511627776 then (some (.inl (y11, (x8 ++ ([u8.wrap (i64.wrap (48 + y14))] : List Int))))) else none))) else (some (.inr x8))
theorem natural_Text_l2_le (k : Nat) (x7 : List Int) (x8 : List Int) : Lo (natural_Text_l2_F k x7 x8) (natural_Text_l2 x7 x8) := by
 unfold natural_Text_l2_F natural_Text_l2
 repeat' with_reducible first | refine Lo.ite_ ?_ ?_ | refine Lo.bind2_ ?_ (fun _ _ => ?_) | exact natural_Int_le k _ | exact natural_divide_le k _ _ | exact Lo.rfl_
noncomputable def natural_Text_F (k : Nat) (p0 : List Int) : Option (ByteArray × Int) := (natural_Valid_F k p0).bind fun y1 => (if (!y1) = true then (some ((ByteArray.mk #[]), 20)) else (if (((p0.length : Nat) : Int) == 0) = true then (some ((ByteArray.mk #[48]), 0)) else ((loopF k (fun v : (List Int) × (List Int) => natural_Text_l2_F k v.1 v.2) (p0, ([] : List Int))).bind fun x18 => ((slices_Reverse_byte_F k x18 0 x18.length).bind fun y19 => (if 0 + x18.length ≤ y19.length then (some ((strP 0 x18.length y19), 0)) else none)))))
theorem natural_Text_le (k : Nat) (p0 : List Int) : Lo (natural_Text_F k p0) (natural_Text p0) := by
 unfold natural_Text_F natural_Text
 repeat' with_reducible first | refine Lo.ite_ ?_ ?_ | refine Lo.bind_ ?_ (fun _ => ?_) | refine Lo.loop_ (fun _ => ?_) | exact natural_Text_l2_le k _ _ | exact natural_Valid_le k _ | exact slices_Reverse_byte_le k _ _ _ | exact Lo.rfl_
noncomputable def rl_law10_awake_k2_F (k : Nat) (x7 : Bool) : Option Bool := some x7
theorem rl_law10_awake_k2_le (k : Nat) (x7 : Bool) : Lo (rl_law10_awake_k2_F k x7) (rl_law10_awake_k2 x7) := by
 unfold rl_law10_awake_k2_F rl_law10_awake_k2
 repeat' with_reducible first | exact Lo.rfl_
noncomputable def rl_law10_awake_F (k : Nat) : Option Bool := bind2 (natural_Mul_F k ([4294967295] : List Int) ([4294967295] : List Int)) fun y1 y2 => (bind2 (natural_Text_F k ([0, 0, 1] : List Int)) fun y4 y5 => (if (y2 == 0) = true then (if (y5 == 0) = true then (if (((y1.length : Nat) : Int) == 2) = true then (if (0 : Int) < ((y1.length : Nat) : Int) then (if ((y1.getD 0 0) == 1) = true then (if (1 : Int) < ((y1.length : Nat) : Int) then (if ((y1.getD 1 0) == 4294967294) = true then (if (y4.toList == (ByteArray.mk #[49, 56, 52, 52, 54, 55, 52, 52, 48, 55, 51, 55, 48, 57, 53, 53, 49, 54, 49, 54]).toList) = true then ((natural_Valid_F k y1).bind fun y16 => (rl_law10_awake_k2_F k y16)) else (rl_law10_awake_k2_F k false)) else (rl_law10_awake_k2_F k false)) else none) else (rl_law10_awake_k2_F k false)) else none) else (rl_law10_awake_k2_F k false)) else (rl_law10_awake_k2_F k false)) else (rl_law10_awake_k2_F k false)))
theorem rl_law10_awake_le (k : Nat) : Lo (rl_law10_awake_F k) (rl_law10_awake) := by
 unfold rl_law10_awake_F rl_law10_awake
 repeat' with_reducible first | refine Lo.ite_ ?_ ?_ | refine Lo.bind_ ?_ (fun _ => ?_) | refine Lo.bind2_ ?_ (fun _ _ => ?_) | exact natural_Mul_le k _ _ | exact natural_Text_le k _ | exact natural_Valid_le k _ | exact rl_law10_awake_k2_le k _ | exact Lo.rfl_
end Go.Proofs.Yteaijglfenedoaa
