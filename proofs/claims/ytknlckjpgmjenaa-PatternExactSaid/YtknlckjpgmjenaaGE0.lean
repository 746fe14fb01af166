/- Printed by a program of mine (vmgen.py): Go functions, and what they come to. -/
import Derived.Test.YtknlckjpgmjenaaVr
import Derived.Test.YtknlckjpgmjenaaRows
import Derived.Test.YtknlckjpgmjenaaVw
import Derived.Test.YtknlckjpgmjenaaG1
import Derived.Test.YtknlckjpgmjenaaVq
namespace Go.Proofs.Ytknlckjpgmjenaa
open Vm
open IntKind (i64 u64 u32 u8)
set_option maxHeartbeats 10000000
set_option linter.unusedVariables false
set_option linter.unusedSimpArgs false
set_option linter.constructorNameAsVariable false
noncomputable def pattern_Size_l2_F (k : Nat) (p0 : Int) (x5 : Int) (x6 : Int) : Option ((Int × Int) ⊕ Int) := if (decide (x6 < p0)) = true then (some (.inl (i64.wrap (x5 * 3), i64.wrap (x6 + 1)))) else (some (.inr x5))
theorem pattern_Size_l2_le (k : Nat) (p0 : Int) (x5 : Int) (x6 : Int) : Lo (pattern_Size_l2_F k p0 x5 x6) (pattern_Size_l2 p0 x5 x6) := by
 unfold pattern_Size_l2_F pattern_Size_l2
 repeat' with_reducible first | refine Lo.ite_ ?_ ?_ | exact Lo.rfl_
noncomputable def pattern_Size_k1_F (k : Nat) (p0 : Int) (x1 : Bool) : Option (Int × Int) := if x1 = true then (some (0, 8)) else ((loopF k (fun v : Int × Int => pattern_Size_l2_F k p0 v.1 v.2) (1, 0)).bind fun x9 => (some (x9, 0)))
theorem pattern_Size_k1_le (k : Nat) (p0 : Int) (x1 : Bool) : Lo (pattern_Size_k1_F k p0 x1) (pattern_Size_k1 p0 x1) := by
 unfold pattern_Size_k1_F pattern_Size_k1
 repeat' with_reducible first | refine Lo.ite_ ?_ ?_ | refine Lo.bind_ ?_ (fun _ => ?_) | refine Lo.loop_ (fun _ => ?_) | exact pattern_Size_l2_le k _ _ _ | exact Lo.rfl_
noncomputable def pattern_Size_F (k : Nat) (p0 : Int) : Option (Int × Int) := if (decide (p0 < 1)) = true then (pattern_Size_k1_F k p0 true) else (pattern_Size_k1_F k p0 (decide (p0 > 5)))
theorem pattern_Size_le (k : Nat) (p0 : Int) : Lo (pattern_Size_F k p0) (pattern_Size p0) := by
 unfold pattern_Size_F pattern_Size
 repeat' with_reducible first | refine Lo.ite_ ?_ ?_ | exact pattern_Size_k1_le k _ _ | exact Lo.rfl_
noncomputable def pattern_check_f1_k1_F (k : Nat) (x1 : Bool) : Option Bool := some x1
theorem pattern_check_f1_k1_le (k : Nat) (x1 : Bool) : Lo (pattern_check_f1_k1_F k x1) (pattern_check_f1_k1 x1) := by
 unfold pattern_check_f1_k1_F pattern_check_f1_k1
 repeat' with_reducible first | exact Lo.rfl_
noncomputable def pattern_check_f1_F (k : Nat) (p0 : Int) : Option Bool := if (decide (p0 < 0)) = true then (pattern_check_f1_k1_F k true) else (pattern_check_f1_k1_F k (decide (p0 > 1000)))
theorem pattern_check_f1_le (k : Nat) (p0 : Int) : Lo (pattern_check_f1_F k p0) (pattern_check_f1 p0) := by
 unfold pattern_check_f1_F pattern_check_f1
 repeat' with_reducible first | refine Lo.ite_ ?_ ?_ | exact pattern_check_f1_k1_le k _ | exact Lo.rfl_
noncomputable def slices_IndexFunc_int_pattern_check_f1_l1_F (k : Nat) (p0 : List Int) (x2 : Int) : Option (Int ⊕ (Unit ⊕ Int)) := if (decide (x2 < (p0.length : Int))) = true then (if 0 ≤ x2 then (if x2 < (p0.length : Int) then ((pattern_check_f1_F k (p0.getD x2.toNat 0)).bind fun y7 => (if y7 = true then (some (.inr (.inr x2))) else (some (.inl (i64.wrap (x2 + 1)))))) else none) else none) else (some (.inr (.inl ())))
theorem slices_IndexFunc_int_pattern_check_f1_l1_le (k : Nat) (p0 : List Int) (x2 : Int) : Lo (slices_IndexFunc_int_pattern_check_f1_l1_F k p0 x2) (slices_IndexFunc_int_pattern_check_f1_l1 p0 x2) := by
 unfold slices_IndexFunc_int_pattern_check_f1_l1_F slices_IndexFunc_int_pattern_check_f1_l1
 repeat' with_reducible first | refine Lo.ite_ ?_ ?_ | refine Lo.bind_ ?_ (fun _ => ?_) | exact pattern_check_f1_le k _ | exact Lo.rfl_
noncomputable def slices_IndexFunc_int_pattern_check_f1_a2_F (k : Nat) : Option Int := some (-1)
theorem slices_IndexFunc_int_pattern_check_f1_a2_le (k : Nat) : Lo (slices_IndexFunc_int_pattern_check_f1_a2_F k) (slices_IndexFunc_int_pattern_check_f1_a2) := by
 unfold slices_IndexFunc_int_pattern_check_f1_a2_F slices_IndexFunc_int_pattern_check_f1_a2
 repeat' with_reducible first | exact Lo.rfl_
noncomputable def slices_IndexFunc_int_pattern_check_f1_a3_F (k : Nat) (x10 : Int) : Option Int := some x10
theorem slices_IndexFunc_int_pattern_check_f1_a3_le (k : Nat) (x10 : Int) : Lo (slices_IndexFunc_int_pattern_check_f1_a3_F k x10) (slices_IndexFunc_int_pattern_check_f1_a3 x10) := by
 unfold slices_IndexFunc_int_pattern_check_f1_a3_F slices_IndexFunc_int_pattern_check_f1_a3
 repeat' with_reducible first | exact Lo.rfl_
noncomputable def slices_IndexFunc_int_pattern_check_f1_F (k : Nat) (p0 : List Int) : Option Int := bindE (loopF k (fun v : Int => slices_IndexFunc_int_pattern_check_f1_l1_F k p0 v) 0) (fun t => slices_IndexFunc_int_pattern_check_f1_a2_F k) (fun t => slices_IndexFunc_int_pattern_check_f1_a3_F k t)
theorem slices_IndexFunc_int_pattern_check_f1_le (k : Nat) (p0 : List Int) : Lo (slices_IndexFunc_int_pattern_check_f1_F k p0) (slices_IndexFunc_int_pattern_check_f1 p0) := by
 unfold slices_IndexFunc_int_pattern_check_f1_F slices_IndexFunc_int_pattern_check_f1
 repeat' with_reducible first | refine Lo.bindE_ ?_ (fun _ => ?_) (fun _ => ?_) | refine Lo.loop_ (fun _ => ?_) | exact slices_IndexFunc_int_pattern_check_f1_a2_le k | exact slices_IndexFunc_int_pattern_check_f1_a3_le k _ | exact slices_IndexFunc_int_pattern_check_f1_l1_le k _ _ | exact Lo.rfl_
noncomputable def slices_ContainsFunc_int_pattern_check_f1_F (k : Nat) (p0 : List Int) : Option Bool := (slices_IndexFunc_int_pattern_check_f1_F k p0).bind fun y1 => (some (decide (y1 ≥ 0)))
theorem slices_ContainsFunc_int_pattern_check_f1_le (k : Nat) (p0 : List Int) : Lo (slices_ContainsFunc_int_pattern_check_f1_F k p0) (slices_ContainsFunc_int_pattern_check_f1 p0) := by
 unfold slices_ContainsFunc_int_pattern_check_f1_F slices_ContainsFunc_int_pattern_check_f1
 repeat' with_reducible first | refine Lo.bind_ ?_ (fun _ => ?_) | exact slices_IndexFunc_int_pattern_check_f1_le k _ | exact Lo.rfl_
noncomputable def slices_Grow_api_Encoded_nil_k1_F (k : Nat) (x2 : List S_api_Encoded) : Option (List S_api_Encoded) := some x2
theorem slices_Grow_api_Encoded_nil_k1_le (k : Nat) (x2 : List S_api_Encoded) : Lo (slices_Grow_api_Encoded_nil_k1_F k x2) (slices_Grow_api_Encoded_nil_k1 x2) := by
 unfold slices_Grow_api_Encoded_nil_k1_F slices_Grow_api_Encoded_nil_k1
 repeat' with_reducible first | exact Lo.rfl_
noncomputable def slices_Grow_api_Encoded_nil_F (k : Nat) (p1 : Int) : Option (List S_api_Encoded) := if (decide (p1 < 0)) = true then none else (if (decide ((i64.wrap (p1 - (i64.wrap (0 - 0)))) > 0)) = true then (if 0 < (i64.wrap (p1 - (i64.wrap (0 - 0)))) then (if (i64.wrap (p1 - (i64.wrap (0 - 0)))) ≤ 1099511627776 then (if 0 ≤ ((List.replicate ((i64.wrap (p1 - (i64.wrap (0 - 0)))).toNat) (dS_api_Encoded : S_api_Encoded)).length) then (slices_Grow_api_Encoded_nil_k1_F k ((List.replicate ((i64.wrap (p1 - (i64.wrap (0 - 0)))).toNat) (dS_api_Encoded : S_api_Encoded)).take 0)) else none) else none) else none) else (slices_Grow_api_Encoded_nil_k1_F k ([] : List S_api_Encoded)))
theorem slices_Grow_api_Encoded_nil_le (k : Nat) (p1 : Int) : Lo (slices_Grow_api_Encoded_nil_F k p1) (slices_Grow_api_Encoded_nil p1) := by
 unfold slices_Grow_api_Encoded_nil_F slices_Grow_api_Encoded_nil
 repeat' with_reducible first | refine Lo.ite_ ?_ ?_ | exact slices_Grow_api_Encoded_nil_k1_le k _ | exact Lo.rfl_
noncomputable def slices_Concat_api_Encoded_l1_F (k : Nat) (p0 : List (List S_api_Encoded)) (x3 : Int) (x4 : Int) : Option ((Int × Int) ⊕ Int) := if (decide (x4 < (p0.length : Int))) = true then (if 0 ≤ x4 then (if x4 < (p0.length : Int) then ((some (i64.wrap (x3 + (((p0.getD x4.toNat ([] : List S_api_Encoded)).length : Nat) : Int)))).bind fun z9 => (if (decide (z9 < 0)) = true then none else (some (.inl (z9, i64.wrap (x4 + 1)))))) else none) else none) else (some (.inr x3))
theorem slices_Concat_api_Encoded_l1_le (k : Nat) (p0 : List (List S_api_Encoded)) (x3 : Int) (x4 : Int) : Lo (slices_Concat_api_Encoded_l1_F k p0 x3 x4) (slices_Concat_api_Encoded_l1 p0 x3 x4) := by
 unfold slices_Concat_api_Encoded_l1_F slices_Concat_api_Encoded_l1
 repeat' with_reducible first | refine Lo.ite_ ?_ ?_ | refine Lo.bind_ ?_ (fun _ => ?_) | exact Lo.rfl_
noncomputable def slices_Concat_api_Encoded_l2_F (k : Nat) (p0 : List (List S_api_Encoded)) (x17 : List S_api_Encoded) (x18 : Int) : Option (((List S_api_Encoded) × Int) ⊕ (List S_api_Encoded)) := if (decide (x18 < (p0.length : Int))) = true then (if 0 ≤ x18 then (if x18 < (p0.length : Int) then (if x17.length + (p0.getD x18.toNat ([] : List S_api_Encoded)).length ≤ 1099511627776 then (some (.inl ((x17 ++ (p0.getD x18.toNat ([] : List S_api_Encoded))), i64.wrap (x18 + 1)))) else none) else none) else none) else (some (.inr x17))
theorem slices_Concat_api_Encoded_l2_le (k : Nat) (p0 : List (List S_api_Encoded)) (x17 : List S_api_Encoded) (x18 : Int) : Lo (slices_Concat_api_Encoded_l2_F k p0 x17 x18) (slices_Concat_api_Encoded_l2 p0 x17 x18) := by
 unfold slices_Concat_api_Encoded_l2_F slices_Concat_api_Encoded_l2
 repeat' with_reducible first | refine Lo.ite_ ?_ ?_ | exact Lo.rfl_
noncomputable def slices_Concat_api_Encoded_F (k : Nat) (p0 : List (List S_api_Encoded)) : Option (List S_api_Encoded) := (loopF k (fun v : Int × Int => slices_Concat_api_Encoded_l1_F k p0 v.1 v.2) (0, 0)).bind fun x12 => ((slices_Grow_api_Encoded_nil_F k x12).bind fun y13 => ((loopF k (fun v : (List S_api_Encoded) × Int => slices_Concat_api_Encoded_l2_F k p0 v.1 v.2) (y13, 0)).bind fun x24 => (some x24)))
theorem slices_Concat_api_Encoded_le (k : Nat) (p0 : List (List S_api_Encoded)) : Lo (slices_Concat_api_Encoded_F k p0) (slices_Concat_api_Encoded p0) := by
 unfold slices_Concat_api_Encoded_F slices_Concat_api_Encoded
 repeat' with_reducible first | refine Lo.bind_ ?_ (fun _ => ?_) | refine Lo.loop_ (fun _ => ?_) | exact slices_Concat_api_Encoded_l1_le k _ _ _ | exact slices_Concat_api_Encoded_l2_le k _ _ _ | exact slices_Grow_api_Encoded_nil_le k _ | exact Lo.rfl_
noncomputable def encode_none_k1_F (k : Nat) (x1 : Bool) : Option Bool := some x1
theorem encode_none_k1_le (k : Nat) (x1 : Bool) : Lo (encode_none_k1_F k x1) (encode_none_k1 x1) := by
 unfold encode_none_k1_F encode_none_k1
 repeat' with_reducible first | exact Lo.rfl_
noncomputable def encode_none_F (k : Nat) (p0 : S_api_Bits) : Option Bool := if (p0.Length == 0) = true then (encode_none_k1_F k (((p0.Words.length : Nat) : Int) == 0)) else (encode_none_k1_F k false)
theorem encode_none_le (k : Nat) (p0 : S_api_Bits) : Lo (encode_none_F k p0) (encode_none p0) := by
 unfold encode_none_F encode_none
 repeat' with_reducible first | refine Lo.ite_ ?_ ?_ | exact encode_none_k1_le k _ | exact Lo.rfl_
noncomputable def bitset_right_k1_F (k : Nat) (x1 : Bool) : Option Bool := some x1
theorem bitset_right_k1_le (k : Nat) (x1 : Bool) : Lo (bitset_right_k1_F k x1) (bitset_right_k1 x1) := by
 unfold bitset_right_k1_F bitset_right_k1
 repeat' with_reducible first | exact Lo.rfl_
noncomputable def bitset_right_F (k : Nat) (p0 : Int) : Option Bool := if (decide (p0 ≥ 64)) = true then (if (decide (p0 ≤ 512)) = true then (bitset_right_k1_F k ((p0.tmod 64) == 0)) else (bitset_right_k1_F k false)) else (bitset_right_k1_F k false)
theorem bitset_right_le (k : Nat) (p0 : Int) : Lo (bitset_right_F k p0) (bitset_right p0) := by
 unfold bitset_right_F bitset_right
 repeat' with_reducible first | refine Lo.ite_ ?_ ?_ | exact bitset_right_k1_le k _ | exact Lo.rfl_
noncomputable def bitset_Valid_k1_F (k : Nat) (x1 : Bool) : Option Bool := some x1
theorem bitset_Valid_k1_le (k : Nat) (x1 : Bool) : Lo (bitset_Valid_k1_F k x1) (bitset_Valid_k1 x1) := by
 unfold bitset_Valid_k1_F bitset_Valid_k1
 repeat' with_reducible first | exact Lo.rfl_
noncomputable def bitset_Valid_F (k : Nat) (p0 : S_api_Bits) : Option Bool := (bitset_right_F k p0.Length).bind fun y2 => (if y2 = true then (bitset_Valid_k1_F k (((p0.Words.length : Nat) : Int) == (i64.wrap (p0.Length.tdiv 64)))) else (bitset_Valid_k1_F k false))
theorem bitset_Valid_le (k : Nat) (p0 : S_api_Bits) : Lo (bitset_Valid_F k p0) (bitset_Valid p0) := by
 unfold bitset_Valid_F bitset_Valid
 repeat' with_reducible first | refine Lo.ite_ ?_ ?_ | refine Lo.bind_ ?_ (fun _ => ?_) | exact bitset_Valid_k1_le k _ | exact bitset_right_le k _ | exact Lo.rfl_
noncomputable def encode_Valid_f1_k1_F (k : Nat) (x1 : Bool) : Option Bool := some x1
theorem encode_Valid_f1_k1_le (k : Nat) (x1 : Bool) : Lo (encode_Valid_f1_k1_F k x1) (encode_Valid_f1_k1 x1) := by
 unfold encode_Valid_f1_k1_F encode_Valid_f1_k1
 repeat' with_reducible first | exact Lo.rfl_
noncomputable def encode_Valid_f1_F (k : Nat) (p0 : S_api_Bits) : Option Bool := (encode_none_F k p0).bind fun y2 => (if (!y2) = true then ((bitset_Valid_F k p0).bind fun y5 => (encode_Valid_f1_k1_F k (!y5))) else (encode_Valid_f1_k1_F k false))
theorem encode_Valid_f1_le (k : Nat) (p0 : S_api_Bits) : Lo (encode_Valid_f1_F k p0) (encode_Valid_f1 p0) := by
 unfold encode_Valid_f1_F encode_Valid_f1
 repeat' with_reducible first | refine Lo.ite_ ?_ ?_ | refine Lo.bind_ ?_ (fun _ => ?_) | exact bitset_Valid_le k _ | exact encode_Valid_f1_k1_le k _ | exact encode_none_le k _ | exact Lo.rfl_
noncomputable def slices_IndexFunc_api_Bits_encode_Valid_f1_l1_F (k : Nat) (p0 : List S_api_Bits) (x2 : Int) : Option (Int ⊕ (Unit ⊕ Int)) := if (decide (x2 < (p0.length : Int))) = true then (if 0 ≤ x2 then (if x2 < (p0.length : Int) then ((encode_Valid_f1_F k (p0.getD x2.toNat dS_api_Bits)).bind fun y7 => (if y7 = true then (some (.inr (.inr x2))) else (some (.inl (i64.wrap (x2 + 1)))))) else none) else none) else (some (.inr (.inl ())))
theorem slices_IndexFunc_api_Bits_encode_Valid_f1_l1_le (k : Nat) (p0 : List S_api_Bits) (x2 : Int) : Lo (slices_IndexFunc_api_Bits_encode_Valid_f1_l1_F k p0 x2) (slices_IndexFunc_api_Bits_encode_Valid_f1_l1 p0 x2) := by
 unfold slices_IndexFunc_api_Bits_encode_Valid_f1_l1_F slices_IndexFunc_api_Bits_encode_Valid_f1_l1
 repeat' with_reducible first | refine Lo.ite_ ?_ ?_ | refine Lo.bind_ ?_ (fun _ => ?_) | exact encode_Valid_f1_le k _ | exact Lo.rfl_
noncomputable def slices_IndexFunc_api_Bits_encode_Valid_f1_a2_F (k : Nat) : Option Int := some (-1)
theorem slices_IndexFunc_api_Bits_encode_Valid_f1_a2_le (k : Nat) : Lo (slices_IndexFunc_api_Bits_encode_Valid_f1_a2_F k) (slices_IndexFunc_api_Bits_encode_Valid_f1_a2) := by
 unfold slices_IndexFunc_api_Bits_encode_Valid_f1_a2_F slices_IndexFunc_api_Bits_encode_Valid_f1_a2
 repeat' with_reducible first | exact Lo.rfl_
noncomputable def slices_IndexFunc_api_Bits_encode_Valid_f1_a3_F (k : Nat) (x10 : Int) : Option Int := some x10
theorem slices_IndexFunc_api_Bits_encode_Valid_f1_a3_le (k : Nat) (x10 : Int) : Lo (slices_IndexFunc_api_Bits_encode_Valid_f1_a3_F k x10) (slices_IndexFunc_api_Bits_encode_Valid_f1_a3 x10) := by
 unfold slices_IndexFunc_api_Bits_encode_Valid_f1_a3_F slices_IndexFunc_api_Bits_encode_Valid_f1_a3
 repeat' with_reducible first | exact Lo.rfl_
noncomputable def slices_IndexFunc_api_Bits_encode_Valid_f1_F (k : Nat) (p0 : List S_api_Bits) : Option Int := bindE (loopF k (fun v : Int => slices_IndexFunc_api_Bits_encode_Valid_f1_l1_F k p0 v) 0) (fun t => slices_IndexFunc_api_Bits_encode_Valid_f1_a2_F k) (fun t => slices_IndexFunc_api_Bits_encode_Valid_f1_a3_F k t)
theorem slices_IndexFunc_api_Bits_encode_Valid_f1_le (k : Nat) (p0 : List S_api_Bits) : Lo (slices_IndexFunc_api_Bits_encode_Valid_f1_F k p0) (slices_IndexFunc_api_Bits_encode_Valid_f1 p0) := by
 unfold slices_IndexFunc_api_Bits_encode_Valid_f1_F slices_IndexFunc_api_Bits_encode_Valid_f1
 repeat' with_reducible first | refine Lo.bindE_ ?_ (fun _ => ?_) (fun _ => ?_) | refine Lo.loop_ (fun _ => ?_) | exact slices_IndexFunc_api_Bits_encode_Valid_f1_a2_le k | exact slices_IndexFunc_api_Bits_encode_Valid_f1_a3_le k _ | exact slices_IndexFunc_api_Bits_encode_Valid_f1_l1_le k _ _ | exact Lo.rfl_
noncomputable def slices_ContainsFunc_api_Bits_encode_Valid_f1_F (k : Nat) (p0 : List S_api_Bits) : Option Bool := (slices_IndexFunc_api_Bits_encode_Valid_f1_F k p0).bind fun y1 => (some (decide (y1 ≥ 0)))
theorem slices_ContainsFunc_api_Bits_encode_Valid_f1_le (k : Nat) (p0 : List S_api_Bits) : Lo (slices_ContainsFunc_api_Bits_encode_Valid_f1_F k p0) (slices_ContainsFunc_api_Bits_encode_Valid_f1 p0) := by
 unfold slices_ContainsFunc_api_Bits_encode_Valid_f1_F slices_ContainsFunc_api_Bits_encode_Valid_f1
 repeat' with_reducible first | refine Lo.bind_ ?_ (fun _ => ?_) | exact slices_IndexFunc_api_Bits_encode_Valid_f1_le k _ | exact Lo.rfl_
noncomputable def encode_Valid_k1_F (k : Nat) (x1 : Bool) : Option Bool := some x1
theorem encode_Valid_k1_le (k : Nat) (x1 : Bool) : Lo (encode_Valid_k1_F k x1) (encode_Valid_k1 x1) := by
 unfold encode_Valid_k1_F encode_Valid_k1
 repeat' with_reducible first | exact Lo.rfl_
noncomputable def encode_Valid_F (k : Nat) (p0 : S_api_Encoded) : Option Bool := if (decide (p0.ID ≥ 1)) = true then (if (decide (p0.ID ≤ 1048576)) = true then (if (decide (p0.Version ≥ 1)) = true then (if (decide (p0.Version ≤ 1048576)) = true then (if (decide (((p0.Fields.length : Nat) : Int) ≥ 1)) = true then (if (decide (((p0.Fields.length : Nat) : Int) ≤ 5)) = true then ((slices_ContainsFunc_api_Bits_encode_Valid_f1_F k p0.Fields).bind fun y8 => (encode_Valid_k1_F k (!y8))) else (encode_Valid_k1_F k false)) else (encode_Valid_k1_F k false)) else (encode_Valid_k1_F k false)) else (encode_Valid_k1_F k false)) else (encode_Valid_k1_F k false)) else (encode_Valid_k1_F k false)
theorem encode_Valid_le (k : Nat) (p0 : S_api_Encoded) : Lo (encode_Valid_F k p0) (encode_Valid p0) := by
 unfold encode_Valid_F encode_Valid
 repeat' with_reducible first | refine Lo.ite_ ?_ ?_ | refine Lo.bind_ ?_ (fun _ => ?_) | exact encode_Valid_k1_le k _ | exact slices_ContainsFunc_api_Bits_encode_Valid_f1_le k _ | exact Lo.rfl_
noncomputable def pattern_check_k2_F (k : Nat) (x12 : Int) (x16 : Bool) : Option (Int ⊕ (Unit ⊕ Unit)) := if x16 = true then (some (.inr (.inr ()))) else (some (.inl (i64.wrap (x12 + 1))))
theorem pattern_check_k2_le (k : Nat) (x12 : Int) (x16 : Bool) : Lo (pattern_check_k2_F k x12 x16) (pattern_check_k2 x12 x16) := by
 unfold pattern_check_k2_F pattern_check_k2
 repeat' with_reducible first | refine Lo.ite_ ?_ ?_ | exact Lo.rfl_
noncomputable def pattern_check_l1_F (k : Nat) (p3 : List Int) (y9 : List S_api_Encoded) (x12 : Int) : Option (Int ⊕ (Unit ⊕ Unit)) := if (decide (x12 < (y9.length : Int))) = true then (if 0 ≤ x12 then (if x12 < (y9.length : Int) then ((encode_Valid_F k (y9.getD (0 + x12.toNat) dS_api_Encoded)).bind fun y18 => (if (!y18) = true then (pattern_check_k2_F k x12 true) else (pattern_check_k2_F k x12 (((((y9.getD (0 + x12.toNat) dS_api_Encoded).Fields).length : Nat) : Int) != (p3.length : Int))))) else none) else none) else (some (.inr (.inl ())))
theorem pattern_check_l1_le (k : Nat) (p3 : List Int) (y9 : List S_api_Encoded) (x12 : Int) : Lo (pattern_check_l1_F k p3 y9 x12) (pattern_check_l1 p3 y9 x12) := by
 unfold pattern_check_l1_F pattern_check_l1
 repeat' with_reducible first | refine Lo.ite_ ?_ ?_ | refine Lo.bind_ ?_ (fun _ => ?_) | exact encode_Valid_le k _ | exact pattern_check_k2_le k _ _ | exact Lo.rfl_
noncomputable def pattern_check_a3_F (k : Nat) : Option Int := some 0
theorem pattern_check_a3_le (k : Nat) : Lo (pattern_check_a3_F k) (pattern_check_a3) := by
 unfold pattern_check_a3_F pattern_check_a3
 repeat' with_reducible first | exact Lo.rfl_
noncomputable def pattern_check_a4_F (k : Nat) : Option Int := some 7
theorem pattern_check_a4_le (k : Nat) : Lo (pattern_check_a4_F k) (pattern_check_a4) := by
 unfold pattern_check_a4_F pattern_check_a4
 repeat' with_reducible first | exact Lo.rfl_
noncomputable def pattern_check_F (k : Nat) (p0 : List S_api_Couple) (p1 : List S_api_Encoded) (p2 : List S_api_Encoded) (p3 : List Int) : Option Int := bind2 (pattern_Size_F k (p3.length : Int)) fun y1 y2 => (if (y2 != 0) = true then (some y2) else (if (decide ((p0.length : Int) > 4096)) = true then (some 1) else ((slices_ContainsFunc_int_pattern_check_f1_F k p3).bind fun y6 => (if y6 = true then (some 2) else ((slices_Concat_api_Encoded_F k ([p1, p2] : List (List S_api_Encoded))).bind fun y9 => (bindE (loopF k (fun v : Int => pattern_check_l1_F k p3 y9 v) 0) (fun t => pattern_check_a3_F k) (fun t => pattern_check_a4_F k)))))))
theorem pattern_check_le (k : Nat) (p0 : List S_api_Couple) (p1 : List S_api_Encoded) (p2 : List S_api_Encoded) (p3 : List Int) : Lo (pattern_check_F k p0 p1 p2 p3) (pattern_check p0 p1 p2 p3) := by
 unfold pattern_check_F pattern_check
 repeat' with_reducible first | refine Lo.ite_ ?_ ?_ | refine Lo.bind_ ?_ (fun _ => ?_) | refine Lo.bind2_ ?_ (fun _ _ => ?_) | refine Lo.bindE_ ?_ (fun _ => ?_) (fun _ => ?_) | refine Lo.loop_ (fun _ => ?_) | exact pattern_Size_le k _ | exact pattern_check_a3_le k | exact pattern_check_a4_le k | exact pattern_check_l1_le k _ _ _ | exact slices_Concat_api_Encoded_le k _ | exact slices_ContainsFunc_int_pattern_check_f1_le k _ | exact Lo.rfl_
noncomputable def pattern_find_f1_F (k : Nat) (p0 : S_api_Encoded) (pc0 : Int) : Option (Bool × Int) := some ((p0.ID == pc0), pc0)
theorem pattern_find_f1_le (k : Nat) (p0 : S_api_Encoded) (pc0 : Int) : Lo (pattern_find_f1_F k p0 pc0) (pattern_find_f1 p0 pc0) := by
 unfold pattern_find_f1_F pattern_find_f1
 repeat' with_reducible first | exact Lo.rfl_
noncomputable def slices_IndexFunc_api_Encoded_pattern_find_f1_l1_F (k : Nat) (p0 : List S_api_Encoded) (x3 : Int) (x4 : Int) : Option ((Int × Int) ⊕ (Int ⊕ (Int × Int))) := if (decide (x3 < (p0.length : Int))) = true then (if 0 ≤ x3 then (if x3 < (p0.length : Int) then (bind2 (pattern_find_f1_F k (p0.getD x3.toNat dS_api_Encoded) x4) fun y11 y12 => (if y11 = true then (some (.inr (.inr (x3, y12)))) else (some (.inl (i64.wrap (x3 + 1), y12))))) else none) else none) else (some (.inr (.inl x4)))
theorem slices_IndexFunc_api_Encoded_pattern_find_f1_l1_le (k : Nat) (p0 : List S_api_Encoded) (x3 : Int) (x4 : Int) : Lo (slices_IndexFunc_api_Encoded_pattern_find_f1_l1_F k p0 x3 x4) (slices_IndexFunc_api_Encoded_pattern_find_f1_l1 p0 x3 x4) := by
 unfold slices_IndexFunc_api_Encoded_pattern_find_f1_l1_F slices_IndexFunc_api_Encoded_pattern_find_f1_l1
 repeat' with_reducible first | refine Lo.ite_ ?_ ?_ | refine Lo.bind2_ ?_ (fun _ _ => ?_) | exact pattern_find_f1_le k _ _ | exact Lo.rfl_
noncomputable def slices_IndexFunc_api_Encoded_pattern_find_f1_a2_F (k : Nat) (x15 : Int) : Option (Int × Int) := some ((-1), x15)
theorem slices_IndexFunc_api_Encoded_pattern_find_f1_a2_le (k : Nat) (x15 : Int) : Lo (slices_IndexFunc_api_Encoded_pattern_find_f1_a2_F k x15) (slices_IndexFunc_api_Encoded_pattern_find_f1_a2 x15) := by
 unfold slices_IndexFunc_api_Encoded_pattern_find_f1_a2_F slices_IndexFunc_api_Encoded_pattern_find_f1_a2
 repeat' with_reducible first | exact Lo.rfl_
noncomputable def slices_IndexFunc_api_Encoded_pattern_find_f1_a3_F (k : Nat) (x16 : Int) (x17 : Int) : Option (Int × Int) := some (x16, x17)
theorem slices_IndexFunc_api_Encoded_pattern_find_f1_a3_le (k : Nat) (x16 : Int) (x17 : Int) : Lo (slices_IndexFunc_api_Encoded_pattern_find_f1_a3_F k x16 x17) (slices_IndexFunc_api_Encoded_pattern_find_f1_a3 x16 x17) := by
 unfold slices_IndexFunc_api_Encoded_pattern_find_f1_a3_F slices_IndexFunc_api_Encoded_pattern_find_f1_a3
 repeat' with_reducible first | exact Lo.rfl_
noncomputable def slices_IndexFunc_api_Encoded_pattern_find_f1_F (k : Nat) (p0 : List S_api_Encoded) (p1d0 : Int) : Option (Int × Int) := bindE (loopF k (fun v : Int × Int => slices_IndexFunc_api_Encoded_pattern_find_f1_l1_F k p0 v.1 v.2) (0, p1d0)) (fun t => slices_IndexFunc_api_Encoded_pattern_find_f1_a2_F k t) (fun t => slices_IndexFunc_api_Encoded_pattern_find_f1_a3_F k t.1 t.2)
theorem slices_IndexFunc_api_Encoded_pattern_find_f1_le (k : Nat) (p0 : List S_api_Encoded) (p1d0 : Int) : Lo (slices_IndexFunc_api_Encoded_pattern_find_f1_F k p0 p1d0) (slices_IndexFunc_api_Encoded_pattern_find_f1 p0 p1d0) := by
 unfold slices_IndexFunc_api_Encoded_pattern_find_f1_F slices_IndexFunc_api_Encoded_pattern_find_f1
 repeat' with_reducible first | refine Lo.bindE_ ?_ (fun _ => ?_) (fun _ => ?_) | refine Lo.loop_ (fun _ => ?_) | exact slices_IndexFunc_api_Encoded_pattern_find_f1_a2_le k _ | exact slices_IndexFunc_api_Encoded_pattern_find_f1_a3_le k _ _ | exact slices_IndexFunc_api_Encoded_pattern_find_f1_l1_le k _ _ _ | exact Lo.rfl_
noncomputable def pattern_find_F (k : Nat) (p0 : List S_api_Encoded) (p1 : Int) : Option (S_api_Encoded × Bool) := bind2 (slices_IndexFunc_api_Encoded_pattern_find_f1_F k p0 p1) fun y1 y2 => (if (decide (y1 < 0)) = true then (some ((⟨0, 0, ([] : List S_api_Bits)⟩ : S_api_Encoded), false)) else (if 0 ≤ y1 then (if y1 < (p0.length : Int) then (some ((p0.getD y1.toNat dS_api_Encoded), true)) else none) else none))
theorem pattern_find_le (k : Nat) (p0 : List S_api_Encoded) (p1 : Int) : Lo (pattern_find_F k p0 p1) (pattern_find p0 p1) := by
 unfold pattern_find_F pattern_find
 repeat' with_reducible first | refine Lo.ite_ ?_ ?_ | refine Lo.bind2_ ?_ (fun _ _ => ?_) | exact slices_IndexFunc_api_Encoded_pattern_find_f1_le k _ _ | exact Lo.rfl_
noncomputable def similarity_fields_k1_F (k : Nat) (x1 : Bool) : Option Bool := some x1
theorem similarity_fields_k1_le (k : Nat) (x1 : Bool) : Lo (similarity_fields_k1_F k x1) (similarity_fields_k1 x1) := by
 unfold similarity_fields_k1_F similarity_fields_k1
 repeat' with_reducible first | exact Lo.rfl_
noncomputable def similarity_fields_F (k : Nat) (p0 : Int) : Option Bool := if (decide (p0 ≥ 1)) = true then (similarity_fields_k1_F k (decide (p0 ≤ 5))) else (similarity_fields_k1_F k false)
theorem similarity_fields_le (k : Nat) (p0 : Int) : Lo (similarity_fields_F k p0) (similarity_fields p0) := by
 unfold similarity_fields_F similarity_fields
 repeat' with_reducible first | refine Lo.ite_ ?_ ?_ | exact similarity_fields_k1_le k _ | exact Lo.rfl_
noncomputable def bitset_And_f1_F (k : Nat) (p0 : Int) (p1 : Int) : Option Int := some (iand .u64 p0 p1)
theorem bitset_And_f1_le (k : Nat) (p0 : Int) (p1 : Int) : Lo (bitset_And_f1_F k p0 p1) (bitset_And_f1 p0 p1) := by
 unfold bitset_And_f1_F bitset_And_f1
 repeat' with_reducible first | exact Lo.rfl_
noncomputable def bitset_both_bitset_And_f1_l2_F (k : Nat) (p0 : S_api_Bits) (p1 : S_api_Bits) (x7 : Int) (x8 : List Int) : Option ((Int × (List Int)) ⊕ (List Int)) := if (decide (x7 < ((p0.Words.length : Nat) : Int))) = true then (if 0 ≤ x7 then (if x7 < ((p0.Words.length : Nat) : Int) then (if x7 < ((p1.Words.length : Nat) : Int) then ((bitset_And_f1_F k (p0.Words.getD x7.toNat 0) (p1.Words.getD x7.toNat 0)).bind fun y14 => (if x7 < (x8.length : Int) then (some (.inl (i64.wrap (x7 + 1), (x8.set (0 + x7.toNat) y14)))) else none)) else none) else none) else none) else (some (.inr x8))
theorem bitset_both_bitset_And_f1_l2_le (k : Nat) (p0 : S_api_Bits) (p1 : S_api_Bits) (x7 : Int) (x8 : List Int) : Lo (bitset_both_bitset_And_f1_l2_F k p0 p1 x7 x8) (bitset_both_bitset_And_f1_l2 p0 p1 x7 x8) := by
 unfold bitset_both_bitset_And_f1_l2_F bitset_both_bitset_And_f1_l2
 repeat' with_reducible first | refine Lo.ite_ ?_ ?_ | refine Lo.bind_ ?_ (fun _ => ?_) | exact bitset_And_f1_le k _ _ | exact Lo.rfl_
noncomputable def bitset_both_bitset_And_f1_k1_F (k : Nat) (p0 : S_api_Bits) (p1 : S_api_Bits) (x1 : Bool) : Option (S_api_Bits × Int) := if x1 = true then (some ((⟨0, ([] : List Int)⟩ : S_api_Bits), 8)) else (if 0 ≤ ((p0.Words.length : Nat) : Int) then (if ((p0.Words.length : Nat) : Int) ≤ 1099511627776 then ((loopF k (fun v : Int × (List Int) => bitset_both_bitset_And_f1_l2_F k p0 p1 v.1 v.2) (0, (List.replicate (((p0.Words.length : Nat) : Int).toNat) (0 : Int)))).bind fun x17 => (some ((⟨p0.Length, x17⟩ : S_api_Bits), 0))) else none) else none)
theorem bitset_both_bitset_And_f1_k1_le (k : Nat) (p0 : S_api_Bits) (p1 : S_api_Bits) (x1 : Bool) : Lo (bitset_both_bitset_And_f1_k1_F k p0 p1 x1) (bitset_both_bitset_And_f1_k1 p0 p1 x1) := by
 unfold bitset_both_bitset_And_f1_k1_F bitset_both_bitset_And_f1_k1
 repeat' with_reducible first | refine Lo.ite_ ?_ ?_ | refine Lo.bind_ ?_ (fun _ => ?_) | refine Lo.loop_ (fun _ => ?_) | exact bitset_both_bitset_And_f1_l2_le k _ _ _ _ | exact Lo.rfl_
noncomputable def bitset_both_bitset_And_f1_F (k : Nat) (p0 : S_api_Bits) (p1 : S_api_Bits) : Option (S_api_Bits × Int) := (bitset_Valid_F k p0).bind fun y19 => (if (!y19) = true then (bitset_both_bitset_And_f1_k1_F k p0 p1 true) else ((bitset_Valid_F k p1).bind fun y22 => (if (!y22) = true then (bitset_both_bitset_And_f1_k1_F k p0 p1 true) else (bitset_both_bitset_And_f1_k1_F k p0 p1 (p0.Length != p1.Length)))))
theorem bitset_both_bitset_And_f1_le (k : Nat) (p0 : S_api_Bits) (p1 : S_api_Bits) : Lo (bitset_both_bitset_And_f1_F k p0 p1) (bitset_both_bitset_And_f1 p0 p1) := by
 unfold bitset_both_bitset_And_f1_F bitset_both_bitset_And_f1
 repeat' with_reducible first | refine Lo.ite_ ?_ ?_ | refine Lo.bind_ ?_ (fun _ => ?_) | exact bitset_Valid_le k _ | exact bitset_both_bitset_And_f1_k1_le k _ _ _ | exact Lo.rfl_
noncomputable def bitset_And_F (k : Nat) (p0 : S_api_Bits) (p1 : S_api_Bits) : Option (S_api_Bits × Int) := bind2 (bitset_both_bitset_And_f1_F k p0 p1) fun y1 y2 => (some (y1, y2))
theorem bitset_And_le (k : Nat) (p0 : S_api_Bits) (p1 : S_api_Bits) : Lo (bitset_And_F k p0 p1) (bitset_And p0 p1) := by
 unfold bitset_And_F bitset_And
 repeat' with_reducible first | refine Lo.bind2_ ?_ (fun _ _ => ?_) | exact bitset_both_bitset_And_f1_le k _ _ | exact Lo.rfl_
noncomputable def bits_OnesCount64_F (k : Nat) (p0 : Int) : Option Int := (some (u64.wrap ((iand .u64 (ishr .u64 p0 1) 6148914691236517205) + (iand .u64 p0 6148914691236517205)))).bind fun z1 => ((some (u64.wrap ((iand .u64 (ishr .u64 z1 2) 3689348814741910323) + (iand .u64 z1 3689348814741910323)))).bind fun z3 => ((some (iand .u64 (u64.wrap ((ishr .u64 z3 4) + z3)) 1085102592571150095)).bind fun z5 => ((some (u64.wrap ((u64.wrap (z5 + (ishr .u64 z5 8))) + (ishr .u64 (u64.wrap (z5 + (ishr .u64 z5 8))) 16)))).bind fun z7 => ((some (iand .i64 (i64.wrap (u64.wrap (z7 + (ishr .u64 z7 32)))) 127)).bind fun z9 => (some z9)))))
theorem bits_OnesCount64_le (k : Nat) (p0 : Int) : Lo (bits_OnesCount64_F k p0) (bits_OnesCount64 p0) := by
 unfold bits_OnesCount64_F bits_OnesCount64
 repeat' with_reducible first | refine Lo.bind_ ?_ (fun _ => ?_) | exact Lo.rfl_
noncomputable def bitset_Count_l1_F (k : Nat) (p0 : S_api_Bits) (x6 : Int) (x7 : Int) : Option ((Int × Int) ⊕ Int) := if (decide (x7 < ((p0.Words.length : Nat) : Int))) = true then (if 0 ≤ x7 then (if x7 < ((p0.Words.length : Nat) : Int) then ((bits_OnesCount64_F k (p0.Words.getD x7.toNat 0)).bind fun y12 => (some (.inl (i64.wrap (x6 + y12), i64.wrap (x7 + 1))))) else none) else none) else (some (.inr x6))
theorem bitset_Count_l1_le (k : Nat) (p0 : S_api_Bits) (x6 : Int) (x7 : Int) : Lo (bitset_Count_l1_F k p0 x6 x7) (bitset_Count_l1 p0 x6 x7) := by
 unfold bitset_Count_l1_F bitset_Count_l1
 repeat' with_reducible first | refine Lo.ite_ ?_ ?_ | refine Lo.bind_ ?_ (fun _ => ?_) | exact bits_OnesCount64_le k _ | exact Lo.rfl_
noncomputable def bitset_Count_F (k : Nat) (p0 : S_api_Bits) : Option Int := (bitset_Valid_F k p0).bind fun y1 => (if (!y1) = true then (some 0) else ((loopF k (fun v : Int × Int => bitset_Count_l1_F k p0 v.1 v.2) (0, 0)).bind fun x14 => (some x14)))
theorem bitset_Count_le (k : Nat) (p0 : S_api_Bits) : Lo (bitset_Count_F k p0) (bitset_Count p0) := by
 unfold bitset_Count_F bitset_Count
 repeat' with_reducible first | refine Lo.ite_ ?_ ?_ | refine Lo.bind_ ?_ (fun _ => ?_) | refine Lo.loop_ (fun _ => ?_) | exact bitset_Count_l1_le k _ _ _ | exact bitset_Valid_le k _ | exact Lo.rfl_
noncomputable def similarity_Dice_F (k : Nat) (p0 : S_api_Bits) (p1 : S_api_Bits) : Option Int := bind2 (bitset_And_F k p0 p1) fun y1 y2 => (if (y2 != 0) = true then (some (-1)) else ((bitset_Count_F k p0).bind fun y5 => ((bitset_Count_F k p1).bind fun y7 => (if ((i64.wrap (y5 + y7)) == 0) = true then (some 0) else ((bitset_Count_F k y1).bind fun y10 => (if (i64.wrap (2 * (i64.wrap (y5 + y7)))) ≠ 0 then ((some (i64.wrap ((i64.wrap ((i64.wrap (4000 * y10)) + (i64.wrap (y5 + y7)))).tdiv (i64.wrap (2 * (i64.wrap (y5 + y7))))))).bind fun z13 => (some z13)) else none))))))
theorem similarity_Dice_le (k : Nat) (p0 : S_api_Bits) (p1 : S_api_Bits) : Lo (similarity_Dice_F k p0 p1) (similarity_Dice p0 p1) := by
 unfold similarity_Dice_F similarity_Dice
 repeat' with_reducible first | refine Lo.ite_ ?_ ?_ | refine Lo.bind_ ?_ (fun _ => ?_) | refine Lo.bind2_ ?_ (fun _ _ => ?_) | exact bitset_And_le k _ _ | exact bitset_Count_le k _ | exact Lo.rfl_
noncomputable def similarity_Compare_l2_F (k : Nat) (p0 : S_api_Encoded) (p1 : S_api_Encoded) (x5 : List Int) (x6 : Int) : Option (((List Int) × Int) ⊕ (List Int)) := if (decide (x6 < ((p0.Fields.length : Nat) : Int))) = true then (if 0 ≤ x6 then (if x6 < ((p0.Fields.length : Nat) : Int) then (if x6 < ((p1.Fields.length : Nat) : Int) then ((similarity_Dice_F k (p0.Fields.getD x6.toNat dS_api_Bits) (p1.Fields.getD x6.toNat dS_api_Bits)).bind fun y12 => (if x5.length + ([y12] : List Int).length ≤ 1099511627776 then (some (.inl ((x5 ++ ([y12] : List Int)), i64.wrap (x6 + 1)))) else none)) else none) else none) else none) else (some (.inr x5))
theorem similarity_Compare_l2_le (k : Nat) (p0 : S_api_Encoded) (p1 : S_api_Encoded) (x5 : List Int) (x6 : Int) : Lo (similarity_Compare_l2_F k p0 p1 x5 x6) (similarity_Compare_l2 p0 p1 x5 x6) := by
 unfold similarity_Compare_l2_F similarity_Compare_l2
 repeat' with_reducible first | refine Lo.ite_ ?_ ?_ | refine Lo.bind_ ?_ (fun _ => ?_) | exact similarity_Dice_le k _ _ | exact Lo.rfl_
noncomputable def similarity_Compare_k1_F (k : Nat) (p0 : S_api_Encoded) (p1 : S_api_Encoded) (x1 : Bool) : Option ((List Int) × Int) := if x1 = true then (some (([] : List Int), 8)) else ((loopF k (fun v : (List Int) × Int => similarity_Compare_l2_F k p0 p1 v.1 v.2) (([] : List Int), 0)).bind fun x15 => (some (x15, 0)))
theorem similarity_Compare_k1_le (k : Nat) (p0 : S_api_Encoded) (p1 : S_api_Encoded) (x1 : Bool) : Lo (similarity_Compare_k1_F k p0 p1 x1) (similarity_Compare_k1 p0 p1 x1) := by
 unfold similarity_Compare_k1_F similarity_Compare_k1
 repeat' with_reducible first | refine Lo.ite_ ?_ ?_ | refine Lo.bind_ ?_ (fun _ => ?_) | refine Lo.loop_ (fun _ => ?_) | exact similarity_Compare_l2_le k _ _ _ _ | exact Lo.rfl_
noncomputable def similarity_Compare_F (k : Nat) (p0 : S_api_Encoded) (p1 : S_api_Encoded) : Option ((List Int) × Int) := if (((p0.Fields.length : Nat) : Int) != ((p1.Fields.length : Nat) : Int)) = true then (similarity_Compare_k1_F k p0 p1 true) else ((similarity_fields_F k ((p0.Fields.length : Nat) : Int)).bind fun y18 => (similarity_Compare_k1_F k p0 p1 (!y18)))
theorem similarity_Compare_le (k : Nat) (p0 : S_api_Encoded) (p1 : S_api_Encoded) : Lo (similarity_Compare_F k p0 p1) (similarity_Compare p0 p1) := by
 unfold similarity_Compare_F similarity_Compare
 repeat' with_reducible first | refine Lo.ite_ ?_ ?_ | refine Lo.bind_ ?_ (fun _ => ?_) | exact similarity_Compare_k1_le k _ _ _ | exact similarity_fields_le k _ | exact Lo.rfl_
noncomputable def similarity_powers_F (k : Nat) : Option (List Int) := some ([1, 3, 9, 27, 81, 243] : List Int)
theorem similarity_powers_le (k : Nat) : Lo (similarity_powers_F k) (similarity_powers) := by
 unfold similarity_powers_F similarity_powers
 repeat' with_reducible first | exact Lo.rfl_
noncomputable def similarity_Number_k2_F (k : Nat) (p0 : List Int) (x6 : Int) (x7 : Int) (x12 : Bool) : Option ((Int × Int) ⊕ (Int ⊕ Unit)) := if x12 = true then (some (.inr (.inr ()))) else ((similarity_powers_F k).bind fun y14 => (if x7 < ((6 : Nat) : Int) then ((some (i64.wrap (x6 + (i64.wrap ((p0.getD x7.toNat 0) * (y14.getD x7.toNat 0)))))).bind fun z17 => (some (.inl (z17, i64.wrap (x7 + 1))))) else none))
theorem similarity_Number_k2_le (k : Nat) (p0 : List Int) (x6 : Int) (x7 : Int) (x12 : Bool) : Lo (similarity_Number_k2_F k p0 x6 x7 x12) (similarity_Number_k2 p0 x6 x7 x12) := by
 unfold similarity_Number_k2_F similarity_Number_k2
 repeat' with_reducible first | refine Lo.ite_ ?_ ?_ | refine Lo.bind_ ?_ (fun _ => ?_) | exact similarity_powers_le k | exact Lo.rfl_
noncomputable def similarity_Number_l1_F (k : Nat) (p0 : List Int) (x6 : Int) (x7 : Int) : Option ((Int × Int) ⊕ (Int ⊕ Unit)) := if (decide (x7 < (p0.length : Int))) = true then (if 0 ≤ x7 then (if x7 < (p0.length : Int) then (if (decide ((p0.getD x7.toNat 0) < 0)) = true then (similarity_Number_k2_F k p0 x6 x7 true) else (similarity_Number_k2_F k p0 x6 x7 (decide ((p0.getD x7.toNat 0) ≥ 3)))) else none) else none) else (some (.inr (.inl x6)))
theorem similarity_Number_l1_le (k : Nat) (p0 : List Int) (x6 : Int) (x7 : Int) : Lo (similarity_Number_l1_F k p0 x6 x7) (similarity_Number_l1 p0 x6 x7) := by
 unfold similarity_Number_l1_F similarity_Number_l1
 repeat' with_reducible first | refine Lo.ite_ ?_ ?_ | exact similarity_Number_k2_le k _ _ _ _ | exact Lo.rfl_
noncomputable def similarity_Number_a3_F (k : Nat) (x20 : Int) : Option (Int × Int) := some (x20, 0)
theorem similarity_Number_a3_le (k : Nat) (x20 : Int) : Lo (similarity_Number_a3_F k x20) (similarity_Number_a3 x20) := by
 unfold similarity_Number_a3_F similarity_Number_a3
 repeat' with_reducible first | exact Lo.rfl_
noncomputable def similarity_Number_a4_F (k : Nat) : Option (Int × Int) := some (0, 2)
theorem similarity_Number_a4_le (k : Nat) : Lo (similarity_Number_a4_F k) (similarity_Number_a4) := by
 unfold similarity_Number_a4_F similarity_Number_a4
 repeat' with_reducible first | exact Lo.rfl_
noncomputable def similarity_Number_F (k : Nat) (p0 : List Int) : Option (Int × Int) := (similarity_fields_F k (p0.length : Int)).bind fun y1 => (if (!y1) = true then (some (0, 8)) else (bindE (loopF k (fun v : Int × Int => similarity_Number_l1_F k p0 v.1 v.2) (0, 0)) (fun t => similarity_Number_a3_F k t) (fun t => similarity_Number_a4_F k)))
theorem similarity_Number_le (k : Nat) (p0 : List Int) : Lo (similarity_Number_F k p0) (similarity_Number p0) := by
 unfold similarity_Number_F similarity_Number
 repeat' with_reducible first | refine Lo.ite_ ?_ ?_ | refine Lo.bind_ ?_ (fun _ => ?_) | refine Lo.bindE_ ?_ (fun _ => ?_) (fun _ => ?_) | refine Lo.loop_ (fun _ => ?_) | exact similarity_Number_a3_le k _ | exact similarity_Number_a4_le k | exact similarity_Number_l1_le k _ _ _ | exact similarity_fields_le k _ | exact Lo.rfl_
noncomputable def similarity_Pattern_k3_F (k : Nat) (x8 : Int) (x11 : List Int) : Option (((List Int) × Int) ⊕ ((List Int) ⊕ Unit)) := some (.inl (x11, i64.wrap (x8 + 1)))
theorem similarity_Pattern_k3_le (k : Nat) (x8 : Int) (x11 : List Int) : Lo (similarity_Pattern_k3_F k x8 x11) (similarity_Pattern_k3 x8 x11) := by
 unfold similarity_Pattern_k3_F similarity_Pattern_k3
 repeat' with_reducible first | exact Lo.rfl_
noncomputable def similarity_Pattern_k4_F (k : Nat) (p0 : List Int) (p1 : List Int) (x7 : List Int) (x8 : Int) (x15 : Bool) : Option (((List Int) × Int) ⊕ ((List Int) ⊕ Unit)) := if x15 = true then (some (.inr (.inr ()))) else (if (decide ((p1.getD x8.toNat 0) < 0)) = true then (if x8 < (x7.length : Int) then (similarity_Pattern_k3_F k x8 (x7.set (0 + x8.toNat) 0)) else none) else (if (decide ((p1.getD x8.toNat 0) < (p0.getD x8.toNat 0))) = true then (if x8 < (x7.length : Int) then (similarity_Pattern_k3_F k x8 (x7.set (0 + x8.toNat) 1)) else none) else (if x8 < (x7.length : Int) then (similarity_Pattern_k3_F k x8 (x7.set (0 + x8.toNat) 2)) else none)))
theorem similarity_Pattern_k4_le (k : Nat) (p0 : List Int) (p1 : List Int) (x7 : List Int) (x8 : Int) (x15 : Bool) : Lo (similarity_Pattern_k4_F k p0 p1 x7 x8 x15) (similarity_Pattern_k4 p0 p1 x7 x8 x15) := by
 unfold similarity_Pattern_k4_F similarity_Pattern_k4
 repeat' with_reducible first | refine Lo.ite_ ?_ ?_ | exact similarity_Pattern_k3_le k _ _ | exact Lo.rfl_
noncomputable def similarity_Pattern_l2_F (k : Nat) (p0 : List Int) (p1 : List Int) (x7 : List Int) (x8 : Int) : Option (((List Int) × Int) ⊕ ((List Int) ⊕ Unit)) := if (decide (x8 < (p0.length : Int))) = true then (if 0 ≤ x8 then (if x8 < (p0.length : Int) then (if x8 < (p1.length : Int) then (if (decide ((p0.getD x8.toNat 0) < 0)) = true then (similarity_Pattern_k4_F k p0 p1 x7 x8 true) else (if (decide ((p0.getD x8.toNat 0) > 1000)) = true then (similarity_Pattern_k4_F k p0 p1 x7 x8 true) else (if (decide ((p1.getD x8.toNat 0) < (-1))) = true then (similarity_Pattern_k4_F k p0 p1 x7 x8 true) else (similarity_Pattern_k4_F k p0 p1 x7 x8 (decide ((p1.getD x8.toNat 0) > 1000)))))) else none) else none) else none) else (some (.inr (.inl x7)))
theorem similarity_Pattern_l2_le (k : Nat) (p0 : List Int) (p1 : List Int) (x7 : List Int) (x8 : Int) : Lo (similarity_Pattern_l2_F k p0 p1 x7 x8) (similarity_Pattern_l2 p0 p1 x7 x8) := by
 unfold similarity_Pattern_l2_F similarity_Pattern_l2
 repeat' with_reducible first | refine Lo.ite_ ?_ ?_ | exact similarity_Pattern_k4_le k _ _ _ _ _ | exact Lo.rfl_
noncomputable def similarity_Pattern_a5_F (k : Nat) (x25 : List Int) : Option (Int × Int) := bind2 (similarity_Number_F k x25) fun y26 y27 => (some (y26, y27))
theorem similarity_Pattern_a5_le (k : Nat) (x25 : List Int) : Lo (similarity_Pattern_a5_F k x25) (similarity_Pattern_a5 x25) := by
 unfold similarity_Pattern_a5_F similarity_Pattern_a5
 repeat' with_reducible first | refine Lo.bind2_ ?_ (fun _ _ => ?_) | exact similarity_Number_le k _ | exact Lo.rfl_
noncomputable def similarity_Pattern_a6_F (k : Nat) : Option (Int × Int) := some (0, 2)
theorem similarity_Pattern_a6_le (k : Nat) : Lo (similarity_Pattern_a6_F k) (similarity_Pattern_a6) := by
 unfold similarity_Pattern_a6_F similarity_Pattern_a6
 repeat' with_reducible first | exact Lo.rfl_
noncomputable def similarity_Pattern_k1_F (k : Nat) (p0 : List Int) (p1 : List Int) (x1 : Bool) : Option (Int × Int) := if x1 = true then (some (0, 8)) else (if 0 ≤ (p0.length : Int) then (if (p0.length : Int) ≤ 1099511627776 then (bindE (loopF k (fun v : (List Int) × Int => similarity_Pattern_l2_F k p0 p1 v.1 v.2) ((List.replicate ((p0.length : Int).toNat) (0 : Int)), 0)) (fun t => similarity_Pattern_a5_F k t) (fun t => similarity_Pattern_a6_F k)) else none) else none)
theorem similarity_Pattern_k1_le (k : Nat) (p0 : List Int) (p1 : List Int) (x1 : Bool) : Lo (similarity_Pattern_k1_F k p0 p1 x1) (similarity_Pattern_k1 p0 p1 x1) := by
 unfold similarity_Pattern_k1_F similarity_Pattern_k1
 repeat' with_reducible first | refine Lo.ite_ ?_ ?_ | refine Lo.bindE_ ?_ (fun _ => ?_) (fun _ => ?_) | refine Lo.loop_ (fun _ => ?_) | exact similarity_Pattern_a5_le k _ | exact similarity_Pattern_a6_le k | exact similarity_Pattern_l2_le k _ _ _ _ | exact Lo.rfl_
noncomputable def similarity_Pattern_F (k : Nat) (p0 : List Int) (p1 : List Int) : Option (Int × Int) := if ((p0.length : Int) != (p1.length : Int)) = true then (similarity_Pattern_k1_F k p0 p1 true) else ((similarity_fields_F k (p0.length : Int)).bind fun y31 => (similarity_Pattern_k1_F k p0 p1 (!y31)))
theorem similarity_Pattern_le (k : Nat) (p0 : List Int) (p1 : List Int) : Lo (similarity_Pattern_F k p0 p1) (similarity_Pattern p0 p1) := by
 unfold similarity_Pattern_F similarity_Pattern
 repeat' with_reducible first | refine Lo.ite_ ?_ ?_ | refine Lo.bind_ ?_ (fun _ => ?_) | exact similarity_Pattern_k1_le k _ _ _ | exact similarity_fields_le k _ | exact Lo.rfl_
noncomputable def pattern_Tally_k2_F (k : Nat) (p3 : List Int) (x11 : List Int) (x12 : Int) (y18 : S_api_Encoded) (y21 : S_api_Encoded) (x24 : Bool) : Option (((List Int) × Int) ⊕ ((List Int) ⊕ Int)) := if x24 = true then (some (.inr (.inr 13))) else (bind2 (similarity_Compare_F k y18 y21) fun y26 y27 => (if (y27 != 0) = true then (some (.inr (.inr y27))) else (bind2 (similarity_Pattern_F k p3 y26) fun y30 y31 => (if (y31 != 0) = true then (some (.inr (.inr y31))) else (if 0 ≤ y30 then (if y30 < (x11.length : Int) then (some (.inl ((x11.set (0 + y30.toNat) (i64.wrap ((x11.getD (0 + y30.toNat) 0) + 1))), i64.wrap (x12 + 1)))) else none) else none)))))
theorem pattern_Tally_k2_le (k : Nat) (p3 : List Int) (x11 : List Int) (x12 : Int) (y18 : S_api_Encoded) (y21 : S_api_Encoded) (x24 : Bool) : Lo (pattern_Tally_k2_F k p3 x11 x12 y18 y21 x24) (pattern_Tally_k2 p3 x11 x12 y18 y21 x24) := by
 unfold pattern_Tally_k2_F pattern_Tally_k2
 repeat' with_reducible first | refine Lo.ite_ ?_ ?_ | refine Lo.bind2_ ?_ (fun _ _ => ?_) | exact similarity_Compare_le k _ _ | exact similarity_Pattern_le k _ _ | exact Lo.rfl_
noncomputable def pattern_Tally_l1_F (k : Nat) (p0 : List S_api_Couple) (p1 : List S_api_Encoded) (p2 : List S_api_Encoded) (p3 : List Int) (x11 : List Int) (x12 : Int) : Option (((List Int) × Int) ⊕ ((List Int) ⊕ Int)) := if (decide (x12 < (p0.length : Int))) = true then (if 0 ≤ x12 then (if x12 < (p0.length : Int) then (bind2 (pattern_find_F k p1 ((p0.getD x12.toNat dS_api_Couple).A)) fun y18 y19 => (bind2 (pattern_find_F k p2 ((p0.getD x12.toNat dS_api_Couple).B)) fun y21 y22 => (if (!y19) = true then (pattern_Tally_k2_F k p3 x11 x12 y18 y21 true) else (pattern_Tally_k2_F k p3 x11 x12 y18 y21 (!y22))))) else none) else none) else (some (.inr (.inl x11)))
theorem pattern_Tally_l1_le (k : Nat) (p0 : List S_api_Couple) (p1 : List S_api_Encoded) (p2 : List S_api_Encoded) (p3 : List Int) (x11 : List Int) (x12 : Int) : Lo (pattern_Tally_l1_F k p0 p1 p2 p3 x11 x12) (pattern_Tally_l1 p0 p1 p2 p3 x11 x12) := by
 unfold pattern_Tally_l1_F pattern_Tally_l1
 repeat' with_reducible first | refine Lo.ite_ ?_ ?_ | refine Lo.bind2_ ?_ (fun _ _ => ?_) | exact pattern_Tally_k2_le k _ _ _ _ _ _ | exact pattern_find_le k _ _ | exact Lo.rfl_
noncomputable def pattern_Tally_a3_F (k : Nat) (x37 : List Int) : Option ((List Int) × Int) := some (x37, 0)
theorem pattern_Tally_a3_le (k : Nat) (x37 : List Int) : Lo (pattern_Tally_a3_F k x37) (pattern_Tally_a3 x37) := by
 unfold pattern_Tally_a3_F pattern_Tally_a3
 repeat' with_reducible first | exact Lo.rfl_
noncomputable def pattern_Tally_a4_F (k : Nat) (x38 : Int) : Option ((List Int) × Int) := some (([] : List Int), x38)
theorem pattern_Tally_a4_le (k : Nat) (x38 : Int) : Lo (pattern_Tally_a4_F k x38) (pattern_Tally_a4 x38) := by
 unfold pattern_Tally_a4_F pattern_Tally_a4
 repeat' with_reducible first | exact Lo.rfl_
noncomputable def pattern_Tally_F (k : Nat) (p0 : List S_api_Couple) (p1 : List S_api_Encoded) (p2 : List S_api_Encoded) (p3 : List Int) : Option ((List Int) × Int) := (pattern_check_F k p0 p1 p2 p3).bind fun y1 => (if (y1 != 0) = true then (some (([] : List Int), y1)) else (bind2 (pattern_Size_F k (p3.length : Int)) fun y4 y5 => (if 0 ≤ y4 then (if y4 ≤ 1099511627776 then (bindE (loopF k (fun v : (List Int) × Int => pattern_Tally_l1_F k p0 p1 p2 p3 v.1 v.2) ((List.replicate y4.toNat (0 : Int)), 0)) (fun t => pattern_Tally_a3_F k t) (fun t => pattern_Tally_a4_F k t)) else none) else none)))
theorem pattern_Tally_le (k : Nat) (p0 : List S_api_Couple) (p1 : List S_api_Encoded) (p2 : List S_api_Encoded) (p3 : List Int) : Lo (pattern_Tally_F k p0 p1 p2 p3) (pattern_Tally p0 p1 p2 p3) := by
 unfold pattern_Tally_F pattern_Tally
 repeat' with_reducible first | refine Lo.ite_ ?_ ?_ | refine Lo.bind_ ?_ (fun _ => ?_) | refine Lo.bind2_ ?_ (fun _ _ => ?_) | refine Lo.bindE_ ?_ (fun _ => ?_) (fun _ => ?_) | refine Lo.loop_ (fun _ => ?_) | exact pattern_Size_le k _ | exact pattern_Tally_a3_le k _ | exact pattern_Tally_a4_le k _ | exact pattern_Tally_l1_le k _ _ _ _ _ _ | exact pattern_check_le k _ _ _ _ | exact Lo.rfl_
noncomputable def pattern_count_k1_F (k : Nat) (x1 : Bool) : Option Bool := some x1
theorem pattern_count_k1_le (k : Nat) (x1 : Bool) : Lo (pattern_count_k1_F k x1) (pattern_count_k1 x1) := by
 unfold pattern_count_k1_F pattern_count_k1
 repeat' with_reducible first | exact Lo.rfl_
noncomputable def pattern_count_F (k : Nat) (p0 : Int) : Option Bool := if (decide (p0 ≥ 0)) = true then (pattern_count_k1_F k (decide (p0 ≤ 4096))) else (pattern_count_k1_F k false)
theorem pattern_count_le (k : Nat) (p0 : Int) : Lo (pattern_count_F k p0) (pattern_count p0) := by
 unfold pattern_count_F pattern_count
 repeat' with_reducible first | refine Lo.ite_ ?_ ?_ | exact pattern_count_k1_le k _ | exact Lo.rfl_
noncomputable def pattern_sum_l1_F (k : Nat) (p0 : List Int) (x3 : Int) (x4 : Int) : Option ((Int × Int) ⊕ (Int ⊕ Unit)) := if (decide (x4 < (p0.length : Int))) = true then (if 0 ≤ x4 then (if x4 < (p0.length : Int) then ((pattern_count_F k (p0.getD x4.toNat 0)).bind fun y9 => (if (!y9) = true then (some (.inr (.inr ()))) else (some (.inl (i64.wrap (x3 + (p0.getD x4.toNat 0)), i64.wrap (x4 + 1)))))) else none) else none) else (some (.inr (.inl x3)))
theorem pattern_sum_l1_le (k : Nat) (p0 : List Int) (x3 : Int) (x4 : Int) : Lo (pattern_sum_l1_F k p0 x3 x4) (pattern_sum_l1 p0 x3 x4) := by
 unfold pattern_sum_l1_F pattern_sum_l1
 repeat' with_reducible first | refine Lo.ite_ ?_ ?_ | refine Lo.bind_ ?_ (fun _ => ?_) | exact pattern_count_le k _ | exact Lo.rfl_
noncomputable def pattern_sum_a2_F (k : Nat) (x12 : Int) : Option (Int × Bool) := some (x12, true)
theorem pattern_sum_a2_le (k : Nat) (x12 : Int) : Lo (pattern_sum_a2_F k x12) (pattern_sum_a2 x12) := by
 unfold pattern_sum_a2_F pattern_sum_a2
 repeat' with_reducible first | exact Lo.rfl_
noncomputable def pattern_sum_a3_F (k : Nat) : Option (Int × Bool) := some (0, false)
theorem pattern_sum_a3_le (k : Nat) : Lo (pattern_sum_a3_F k) (pattern_sum_a3) := by
 unfold pattern_sum_a3_F pattern_sum_a3
 repeat' with_reducible first | exact Lo.rfl_
noncomputable def pattern_sum_F (k : Nat) (p0 : List Int) : Option (Int × Bool) := bindE (loopF k (fun v : Int × Int => pattern_sum_l1_F k p0 v.1 v.2) (0, 0)) (fun t => pattern_sum_a2_F k t) (fun t => pattern_sum_a3_F k)
theorem pattern_sum_le (k : Nat) (p0 : List Int) : Lo (pattern_sum_F k p0) (pattern_sum p0) := by
 unfold pattern_sum_F pattern_sum
 repeat' with_reducible first | refine Lo.bindE_ ?_ (fun _ => ?_) (fun _ => ?_) | refine Lo.loop_ (fun _ => ?_) | exact pattern_sum_a2_le k _ | exact pattern_sum_a3_le k | exact pattern_sum_l1_le k _ _ _ | exact Lo.rfl_
noncomputable def pattern_Check_k1_F (k : Nat) (x9 : Bool) : Option Int := if x9 = true then (some 19) else (some 0)
theorem pattern_Check_k1_le (k : Nat) (x9 : Bool) : Lo (pattern_Check_k1_F k x9) (pattern_Check_k1 x9) := by
 unfold pattern_Check_k1_F pattern_Check_k1
 repeat' with_reducible first | refine Lo.ite_ ?_ ?_ | exact Lo.rfl_
noncomputable def pattern_Check_F (k : Nat) (p0 : List Int) (p1 : Int) : Option Int := bind2 (pattern_Size_F k p1) fun y1 y2 => (if (y2 != 0) = true then (some y2) else (if ((p0.length : Int) != y1) = true then (some 8) else (bind2 (pattern_sum_F k p0) fun y6 y7 => (if (!y7) = true then (pattern_Check_k1_F k true) else ((pattern_count_F k y6).bind fun y12 => (pattern_Check_k1_F k (!y12)))))))
theorem pattern_Check_le (k : Nat) (p0 : List Int) (p1 : Int) : Lo (pattern_Check_F k p0 p1) (pattern_Check p0 p1) := by
 unfold pattern_Check_F pattern_Check
 repeat' with_reducible first | refine Lo.ite_ ?_ ?_ | refine Lo.bind_ ?_ (fun _ => ?_) | refine Lo.bind2_ ?_ (fun _ _ => ?_) | exact pattern_Check_k1_le k _ | exact pattern_Size_le k _ | exact pattern_count_le k _ | exact pattern_sum_le k _ | exact Lo.rfl_
noncomputable def pattern_Marginal_l3_F (k : Nat) (p0 : List Int) (x9 : Int) (x12 : Int) (x13 : List Int) : Option ((Int × (List Int)) ⊕ (List Int)) := if (decide (x12 < (p0.length : Int))) = true then (if 0 ≤ x12 then (if x12 < (p0.length : Int) then (if x9 ≠ 0 then (if 0 ≤ ((i64.wrap (x12.tdiv x9)).tmod 3) then (if ((i64.wrap (x12.tdiv x9)).tmod 3) < ((3 : Nat) : Int) then (if 3 = x13.length then (some (.inl (i64.wrap (x12 + 1), (x13.set (0 + ((i64.wrap (x12.tdiv x9)).tmod 3).toNat) (i64.wrap ((x13.getD (0 + ((i64.wrap (x12.tdiv x9)).tmod 3).toNat) 0) + (p0.getD x12.toNat 0))))))) else none) else none) else none) else none) else none) else none) else (some (.inr x13))
theorem pattern_Marginal_l3_le (k : Nat) (p0 : List Int) (x9 : Int) (x12 : Int) (x13 : List Int) : Lo (pattern_Marginal_l3_F k p0 x9 x12 x13) (pattern_Marginal_l3 p0 x9 x12 x13) := by
 unfold pattern_Marginal_l3_F pattern_Marginal_l3
 repeat' with_reducible first | refine Lo.ite_ ?_ ?_ | exact Lo.rfl_
noncomputable def pattern_Marginal_k2_F (k : Nat) (p0 : List Int) (x9 : Int) : Option ((List Int) × Int) := (loopF k (fun v : Int × (List Int) => pattern_Marginal_l3_F k p0 x9 v.1 v.2) (0, ([0, 0, 0] : List Int))).bind fun x22 => (some (x22, 0))
theorem pattern_Marginal_k2_le (k : Nat) (p0 : List Int) (x9 : Int) : Lo (pattern_Marginal_k2_F k p0 x9) (pattern_Marginal_k2 p0 x9) := by
 unfold pattern_Marginal_k2_F pattern_Marginal_k2
 repeat' with_reducible first | refine Lo.bind_ ?_ (fun _ => ?_) | refine Lo.loop_ (fun _ => ?_) | exact pattern_Marginal_l3_le k _ _ _ _ | exact Lo.rfl_
noncomputable def pattern_Marginal_k1_F (k : Nat) (p0 : List Int) (p2 : Int) (x4 : Bool) : Option ((List Int) × Int) := if x4 = true then (some (([0, 0, 0] : List Int), 2)) else (bind2 (pattern_Size_F k (if (1 : Int) > p2 then 1 else p2)) fun y6 y7 => (if (p2 == 0) = true then (pattern_Marginal_k2_F k p0 1) else (pattern_Marginal_k2_F k p0 y6)))
theorem pattern_Marginal_k1_le (k : Nat) (p0 : List Int) (p2 : Int) (x4 : Bool) : Lo (pattern_Marginal_k1_F k p0 p2 x4) (pattern_Marginal_k1 p0 p2 x4) := by
 unfold pattern_Marginal_k1_F pattern_Marginal_k1
 repeat' with_reducible first | refine Lo.ite_ ?_ ?_ | refine Lo.bind2_ ?_ (fun _ _ => ?_) | exact pattern_Marginal_k2_le k _ _ | exact pattern_Size_le k _ | exact Lo.rfl_
noncomputable def pattern_Marginal_F (k : Nat) (p0 : List Int) (p1 : Int) (p2 : Int) : Option ((List Int) × Int) := (pattern_Check_F k p0 p1).bind fun y1 => (if (y1 != 0) = true then (some (([0, 0, 0] : List Int), y1)) else (if (decide (p2 < 0)) = true then (pattern_Marginal_k1_F k p0 p2 true) else (pattern_Marginal_k1_F k p0 p2 (decide (p2 ≥ p1)))))
theorem pattern_Marginal_le (k : Nat) (p0 : List Int) (p1 : Int) (p2 : Int) : Lo (pattern_Marginal_F k p0 p1 p2) (pattern_Marginal p0 p1 p2) := by
 unfold pattern_Marginal_F pattern_Marginal
 repeat' with_reducible first | refine Lo.ite_ ?_ ?_ | refine Lo.bind_ ?_ (fun _ => ?_) | exact pattern_Check_le k _ _ | exact pattern_Marginal_k1_le k _ _ _ | exact Lo.rfl_
noncomputable def pattern_Total_F (k : Nat) (p0 : List Int) : Option Int := if (decide ((p0.length : Int) > 243)) = true then (some 0) else (bind2 (pattern_sum_F k p0) fun y2 y3 => (some y2))
theorem pattern_Total_le (k : Nat) (p0 : List Int) : Lo (pattern_Total_F k p0) (pattern_Total p0) := by
 unfold pattern_Total_F pattern_Total
 repeat' with_reducible first | refine Lo.ite_ ?_ ?_ | refine Lo.bind2_ ?_ (fun _ _ => ?_) | exact pattern_sum_le k _ | exact Lo.rfl_
noncomputable def rl_law23_awake_k1_F (k : Nat) (x11 : Bool) : Option Bool := some x11
theorem rl_law23_awake_k1_le (k : Nat) (x11 : Bool) : Lo (rl_law23_awake_k1_F k x11) (rl_law23_awake_k1 x11) := by
 unfold rl_law23_awake_k1_F rl_law23_awake_k1
 repeat' with_reducible first | exact Lo.rfl_
noncomputable def rl_law23_awake_F (k : Nat) : Option Bool := bind2 (pattern_Tally_F k ([] : List S_api_Couple) ([] : List S_api_Encoded) ([] : List S_api_Encoded) ([500, 500] : List Int)) fun y1 y2 => (bind2 (pattern_Size_F k 2) fun y4 y5 => (if (8 : Int) < (((List.replicate 9 (0 : Int)).length : Nat) : Int) then (bind2 (pattern_Marginal_F k ((List.replicate 9 (0 : Int)).set (0 + 8) 4) 2 1) fun y8 y9 => (if (y2 == 0) = true then (if (y5 == 0) = true then (if (y9 == 0) = true then (if ((y1.length : Int) == 9) = true then (if (y4 == 9) = true then (if (((y8.getD 0 0) == 0) && (((y8.getD 1 0) == 0) && (((y8.getD 2 0) == 4) && true))) = true then ((pattern_Total_F k ((List.replicate 9 (0 : Int)).set (0 + 8) 4)).bind fun y18 => (if (y18 == 4) = true then ((pattern_Check_F k ((List.replicate 9 (0 : Int)).set (0 + 8) 4) 2).bind fun y21 => (rl_law23_awake_k1_F k (y21 == 0))) else (rl_law23_awake_k1_F k false))) else (rl_law23_awake_k1_F k false)) else (rl_law23_awake_k1_F k false)) else (rl_law23_awake_k1_F k false)) else (rl_law23_awake_k1_F k false)) else (rl_law23_awake_k1_F k false)) else (rl_law23_awake_k1_F k false))) else none))
theorem rl_law23_awake_le (k : Nat) : Lo (rl_law23_awake_F k) (rl_law23_awake) := by
 unfold rl_law23_awake_F rl_law23_awake
 repeat' with_reducible first | refine Lo.ite_ ?_ ?_ | refine Lo.bind_ ?_ (fun _ => ?_) | refine Lo.bind2_ ?_ (fun _ _ => ?_) | exact pattern_Check_le k _ _ | exact pattern_Marginal_le k _ _ _ | exact pattern_Size_le k _ | exact pattern_Tally_le k _ _ _ _ | exact pattern_Total_le k _ | exact rl_law23_awake_k1_le k _ | exact Lo.rfl_
end Go.Proofs.Ytknlckjpgmjenaa
