/- Printed by a program of mine (vmgen.py): Go functions, and what they come to. -/
import Derived.Test.YtknlckjpgmjenaaVr
import Derived.Test.YtknlckjpgmjenaaRows
import Derived.Test.YtknlckjpgmjenaaVw
import Derived.Test.YtknlckjpgmjenaaG2
import Derived.Test.YtknlckjpgmjenaaVq
namespace Go.Proofs.Ytknlckjpgmjenaa
open Vm
open IntKind (i64 u64 u32 u8)
set_option maxHeartbeats 10000000
set_option linter.unusedVariables false
set_option linter.unusedSimpArgs false
set_option linter.constructorNameAsVariable false
noncomputable def weight_fits_k1_F (k : Nat) (x1 : Bool) : Option Bool := some x1
theorem weight_fits_k1_le (k : Nat) (x1 : Bool) : Lo (weight_fits_k1_F k x1) (weight_fits_k1 x1) := by
 unfold weight_fits_k1_F weight_fits_k1
 repeat' with_reducible first | exact Lo.rfl_
noncomputable def weight_fits_F (k : Nat) (p0 : Int) : Option Bool := if (decide (p0 ≥ (-65536))) = true then (weight_fits_k1_F k (decide (p0 ≤ 65536))) else (weight_fits_k1_F k false)
theorem weight_fits_le (k : Nat) (p0 : Int) : Lo (weight_fits_F k p0) (weight_fits p0) := by
 unfold weight_fits_F weight_fits
 repeat' with_reducible first | refine Lo.ite_ ?_ ?_ | exact weight_fits_k1_le k _ | exact Lo.rfl_
noncomputable def weight_Check_k3_F (k : Nat) (x4 : Int) (x6 : Bool) : Option (Int ⊕ (Unit ⊕ Unit)) := if x6 = true then (some (.inr (.inr ()))) else (some (.inl (i64.wrap (x4 + 1))))
theorem weight_Check_k3_le (k : Nat) (x4 : Int) (x6 : Bool) : Lo (weight_Check_k3_F k x4 x6) (weight_Check_k3 x4 x6) := by
 unfold weight_Check_k3_F weight_Check_k3
 repeat' with_reducible first | refine Lo.ite_ ?_ ?_ | exact Lo.rfl_
noncomputable def weight_Check_l2_F (k : Nat) (p0 : S_api_Weights) (x4 : Int) : Option (Int ⊕ (Unit ⊕ Unit)) := if (decide (x4 < ((p0.Agree.length : Nat) : Int))) = true then (if 0 ≤ x4 then (if x4 < ((p0.Agree.length : Nat) : Int) then ((weight_fits_F k (p0.Agree.getD x4.toNat 0)).bind fun y10 => (if (!y10) = true then (weight_Check_k3_F k x4 true) else (if x4 < ((p0.Differ.length : Nat) : Int) then ((weight_fits_F k (p0.Differ.getD x4.toNat 0)).bind fun y14 => (weight_Check_k3_F k x4 (!y14))) else none))) else none) else none) else (some (.inr (.inl ())))
theorem weight_Check_l2_le (k : Nat) (p0 : S_api_Weights) (x4 : Int) : Lo (weight_Check_l2_F k p0 x4) (weight_Check_l2 p0 x4) := by
 unfold weight_Check_l2_F weight_Check_l2
 repeat' with_reducible first | refine Lo.ite_ ?_ ?_ | refine Lo.bind_ ?_ (fun _ => ?_) | exact weight_Check_k3_le k _ _ | exact weight_fits_le k _ | exact Lo.rfl_
noncomputable def weight_Check_a4_F (k : Nat) : Option Int := some 0
theorem weight_Check_a4_le (k : Nat) : Lo (weight_Check_a4_F k) (weight_Check_a4) := by
 unfold weight_Check_a4_F weight_Check_a4
 repeat' with_reducible first | exact Lo.rfl_
noncomputable def weight_Check_a5_F (k : Nat) : Option Int := some 40
theorem weight_Check_a5_le (k : Nat) : Lo (weight_Check_a5_F k) (weight_Check_a5) := by
 unfold weight_Check_a5_F weight_Check_a5
 repeat' with_reducible first | exact Lo.rfl_
noncomputable def weight_Check_k1_F (k : Nat) (p0 : S_api_Weights) (x1 : Bool) : Option Int := if x1 = true then (some 40) else (bindE (loopF k (fun v : Int => weight_Check_l2_F k p0 v) 0) (fun t => weight_Check_a4_F k) (fun t => weight_Check_a5_F k))
theorem weight_Check_k1_le (k : Nat) (p0 : S_api_Weights) (x1 : Bool) : Lo (weight_Check_k1_F k p0 x1) (weight_Check_k1 p0 x1) := by
 unfold weight_Check_k1_F weight_Check_k1
 repeat' with_reducible first | refine Lo.ite_ ?_ ?_ | refine Lo.bindE_ ?_ (fun _ => ?_) (fun _ => ?_) | refine Lo.loop_ (fun _ => ?_) | exact weight_Check_a4_le k | exact weight_Check_a5_le k | exact weight_Check_l2_le k _ _ | exact Lo.rfl_
noncomputable def weight_Check_F (k : Nat) (p0 : S_api_Weights) : Option Int := if (decide (((p0.Agree.length : Nat) : Int) < 1)) = true then (weight_Check_k1_F k p0 true) else (if (decide (((p0.Agree.length : Nat) : Int) > 5)) = true then (weight_Check_k1_F k p0 true) else (if (((p0.Differ.length : Nat) : Int) != ((p0.Agree.length : Nat) : Int)) = true then (weight_Check_k1_F k p0 true) else ((weight_fits_F k p0.Prior).bind fun y20 => (weight_Check_k1_F k p0 (!y20)))))
theorem weight_Check_le (k : Nat) (p0 : S_api_Weights) : Lo (weight_Check_F k p0) (weight_Check p0) := by
 unfold weight_Check_F weight_Check
 repeat' with_reducible first | refine Lo.ite_ ?_ ?_ | refine Lo.bind_ ?_ (fun _ => ?_) | exact weight_Check_k1_le k _ _ | exact weight_fits_le k _ | exact Lo.rfl_
noncomputable def candidate_check_f1_k1_F (k : Nat) (x1 : Bool) : Option Bool := some x1
theorem candidate_check_f1_k1_le (k : Nat) (x1 : Bool) : Lo (candidate_check_f1_k1_F k x1) (candidate_check_f1_k1 x1) := by
 unfold candidate_check_f1_k1_F candidate_check_f1_k1
 repeat' with_reducible first | exact Lo.rfl_
noncomputable def candidate_check_f1_F (k : Nat) (p0 : Int) : Option Bool := if (decide (p0 < 0)) = true then (candidate_check_f1_k1_F k true) else (candidate_check_f1_k1_F k (decide (p0 > 1000)))
theorem candidate_check_f1_le (k : Nat) (p0 : Int) : Lo (candidate_check_f1_F k p0) (candidate_check_f1 p0) := by
 unfold candidate_check_f1_F candidate_check_f1
 repeat' with_reducible first | refine Lo.ite_ ?_ ?_ | exact candidate_check_f1_k1_le k _ | exact Lo.rfl_
noncomputable def slices_IndexFunc_int_candidate_check_f1_l1_F (k : Nat) (p0 : List Int) (x2 : Int) : Option (Int ⊕ (Unit ⊕ Int)) := if (decide (x2 < (p0.length : Int))) = true then (if 0 ≤ x2 then (if x2 < (p0.length : Int) then ((candidate_check_f1_F k (p0.getD x2.toNat 0)).bind fun y7 => (if y7 = true then (some (.inr (.inr x2))) else (some (.inl (i64.wrap (x2 + 1)))))) else none) else none) else (some (.inr (.inl ())))
theorem slices_IndexFunc_int_candidate_check_f1_l1_le (k : Nat) (p0 : List Int) (x2 : Int) : Lo (slices_IndexFunc_int_candidate_check_f1_l1_F k p0 x2) (slices_IndexFunc_int_candidate_check_f1_l1 p0 x2) := by
 unfold slices_IndexFunc_int_candidate_check_f1_l1_F slices_IndexFunc_int_candidate_check_f1_l1
 repeat' with_reducible first | refine Lo.ite_ ?_ ?_ | refine Lo.bind_ ?_ (fun _ => ?_) | exact candidate_check_f1_le k _ | exact Lo.rfl_
noncomputable def slices_IndexFunc_int_candidate_check_f1_a2_F (k : Nat) : Option Int := some (-1)
theorem slices_IndexFunc_int_candidate_check_f1_a2_le (k : Nat) : Lo (slices_IndexFunc_int_candidate_check_f1_a2_F k) (slices_IndexFunc_int_candidate_check_f1_a2) := by
 unfold slices_IndexFunc_int_candidate_check_f1_a2_F slices_IndexFunc_int_candidate_check_f1_a2
 repeat' with_reducible first | exact Lo.rfl_
noncomputable def slices_IndexFunc_int_candidate_check_f1_a3_F (k : Nat) (x10 : Int) : Option Int := some x10
theorem slices_IndexFunc_int_candidate_check_f1_a3_le (k : Nat) (x10 : Int) : Lo (slices_IndexFunc_int_candidate_check_f1_a3_F k x10) (slices_IndexFunc_int_candidate_check_f1_a3 x10) := by
 unfold slices_IndexFunc_int_candidate_check_f1_a3_F slices_IndexFunc_int_candidate_check_f1_a3
 repeat' with_reducible first | exact Lo.rfl_
noncomputable def slices_IndexFunc_int_candidate_check_f1_F (k : Nat) (p0 : List Int) : Option Int := bindE (loopF k (fun v : Int => slices_IndexFunc_int_candidate_check_f1_l1_F k p0 v) 0) (fun t => slices_IndexFunc_int_candidate_check_f1_a2_F k) (fun t => slices_IndexFunc_int_candidate_check_f1_a3_F k t)
theorem slices_IndexFunc_int_candidate_check_f1_le (k : Nat) (p0 : List Int) : Lo (slices_IndexFunc_int_candidate_check_f1_F k p0) (slices_IndexFunc_int_candidate_check_f1 p0) := by
 unfold slices_IndexFunc_int_candidate_check_f1_F slices_IndexFunc_int_candidate_check_f1
 repeat' with_reducible first | refine Lo.bindE_ ?_ (fun _ => ?_) (fun _ => ?_) | refine Lo.loop_ (fun _ => ?_) | exact slices_IndexFunc_int_candidate_check_f1_a2_le k | exact slices_IndexFunc_int_candidate_check_f1_a3_le k _ | exact slices_IndexFunc_int_candidate_check_f1_l1_le k _ _ | exact Lo.rfl_
noncomputable def slices_ContainsFunc_int_candidate_check_f1_F (k : Nat) (p0 : List Int) : Option Bool := (slices_IndexFunc_int_candidate_check_f1_F k p0).bind fun y1 => (some (decide (y1 ≥ 0)))
theorem slices_ContainsFunc_int_candidate_check_f1_le (k : Nat) (p0 : List Int) : Lo (slices_ContainsFunc_int_candidate_check_f1_F k p0) (slices_ContainsFunc_int_candidate_check_f1 p0) := by
 unfold slices_ContainsFunc_int_candidate_check_f1_F slices_ContainsFunc_int_candidate_check_f1
 repeat' with_reducible first | refine Lo.bind_ ?_ (fun _ => ?_) | exact slices_IndexFunc_int_candidate_check_f1_le k _ | exact Lo.rfl_
noncomputable def encode_none_k1_F (k : Nat) (x1 : Bool) : Option Bool := some x1
theorem encode_none_k1_le (k : Nat) (x1 : Bool) : Lo (encode_none_k1_F k x1) (encode_none_k1 x1) := by
 unfold encode_none_k1_F encode_none_k1
 repeat' with_reducible first | exact Lo.rfl_
noncomputable def encode_none_F (k : Nat) (p0 : S_api_Bits) : Option Bool := if (p0.Length == 0) = true then (encode_none_k1_F k (((p0.Words.length : Nat) : Int) == 0)) else (encode_none_k1_F k false)
theorem encode_none_le (k : Nat) (p0 : S_api_Bits) : Lo (encode_none_F k p0) (encode_none p0) := by
 unfold encode_none_F encode_none
 repeat' with_reducible first | refine Lo.ite_ ?_ ?_ | exact encode_none_k1_le k _ | exact Lo.rfl_
noncomputable def bitset_right_k1_F (k : Nat) (x1 : Bool) : Option Bool := some x1
theorem bitset_right_k1_le (k : Nat) (x1 : Bool) : Lo (bitset_right_k1_F k x1) (bitset_right_k1 x1) := by
 unfold bitset_right_k1_F bitset_right_k1
 repeat' with_reducible first | exact Lo.rfl_
noncomputable def bitset_right_F (k : Nat) (p0 : Int) : Option Bool := if (decide (p0 ≥ 64)) = true then (if (decide (p0 ≤ 512)) = true then (bitset_right_k1_F k ((p0.tmod 64) == 0)) else (bitset_right_k1_F k false)) else (bitset_right_k1_F k false)
theorem bitset_right_le (k : Nat) (p0 : Int) : Lo (bitset_right_F k p0) (bitset_right p0) := by
 unfold bitset_right_F bitset_right
 repeat' with_reducible first | refine Lo.ite_ ?_ ?_ | exact bitset_right_k1_le k _ | exact Lo.rfl_
noncomputable def bitset_Valid_k1_F (k : Nat) (x1 : Bool) : Option Bool := some x1
theorem bitset_Valid_k1_le (k : Nat) (x1 : Bool) : Lo (bitset_Valid_k1_F k x1) (bitset_Valid_k1 x1) := by
 unfold bitset_Valid_k1_F bitset_Valid_k1
 repeat' with_reducible first | exact Lo.rfl_
noncomputable def bitset_Valid_F (k : Nat) (p0 : S_api_Bits) : Option Bool := (bitset_right_F k p0.Length).bind fun y2 => (if y2 = true then (bitset_Valid_k1_F k (((p0.Words.length : Nat) : Int) == (i64.wrap (p0.Length.tdiv 64)))) else (bitset_Valid_k1_F k false))
theorem bitset_Valid_le (k : Nat) (p0 : S_api_Bits) : Lo (bitset_Valid_F k p0) (bitset_Valid p0) := by
 unfold bitset_Valid_F bitset_Valid
 repeat' with_reducible first | refine Lo.ite_ ?_ ?_ | refine Lo.bind_ ?_ (fun _ => ?_) | exact bitset_Valid_k1_le k _ | exact bitset_right_le k _ | exact Lo.rfl_
noncomputable def encode_Valid_f1_k1_F (k : Nat) (x1 : Bool) : Option Bool := some x1
theorem encode_Valid_f1_k1_le (k : Nat) (x1 : Bool) : Lo (encode_Valid_f1_k1_F k x1) (encode_Valid_f1_k1 x1) := by
 unfold encode_Valid_f1_k1_F encode_Valid_f1_k1
 repeat' with_reducible first | exact Lo.rfl_
noncomputable def encode_Valid_f1_F (k : Nat) (p0 : S_api_Bits) : Option Bool := (encode_none_F k p0).bind fun y2 => (if (!y2) = true then ((bitset_Valid_F k p0).bind fun y5 => (encode_Valid_f1_k1_F k (!y5))) else (encode_Valid_f1_k1_F k false))
theorem encode_Valid_f1_le (k : Nat) (p0 : S_api_Bits) : Lo (encode_Valid_f1_F k p0) (encode_Valid_f1 p0) := by
 unfold encode_Valid_f1_F encode_Valid_f1
 repeat' with_reducible first | refine Lo.ite_ ?_ ?_ | refine Lo.bind_ ?_ (fun _ => ?_) | exact bitset_Valid_le k _ | exact encode_Valid_f1_k1_le k _ | exact encode_none_le k _ | exact Lo.rfl_
noncomputable def slices_IndexFunc_api_Bits_encode_Valid_f1_l1_F (k : Nat) (p0 : List S_api_Bits) (x2 : Int) : Option (Int ⊕ (Unit ⊕ Int)) := if (decide (x2 < (p0.length : Int))) = true then (if 0 ≤ x2 then (if x2 < (p0.length : Int) then ((encode_Valid_f1_F k (p0.getD x2.toNat dS_api_Bits)).bind fun y7 => (if y7 = true then (some (.inr (.inr x2))) else (some (.inl (i64.wrap (x2 + 1)))))) else none) else none) else (some (.inr (.inl ())))
theorem slices_IndexFunc_api_Bits_encode_Valid_f1_l1_le (k : Nat) (p0 : List S_api_Bits) (x2 : Int) : Lo (slices_IndexFunc_api_Bits_encode_Valid_f1_l1_F k p0 x2) (slices_IndexFunc_api_Bits_encode_Valid_f1_l1 p0 x2) := by
 unfold slices_IndexFunc_api_Bits_encode_Valid_f1_l1_F slices_IndexFunc_api_Bits_encode_Valid_f1_l1
 repeat' with_reducible first | refine Lo.ite_ ?_ ?_ | refine Lo.bind_ ?_ (fun _ => ?_) | exact encode_Valid_f1_le k _ | exact Lo.rfl_
noncomputable def slices_IndexFunc_api_Bits_encode_Valid_f1_a2_F (k : Nat) : Option Int := some (-1)
theorem slices_IndexFunc_api_Bits_encode_Valid_f1_a2_le (k : Nat) : Lo (slices_IndexFunc_api_Bits_encode_Valid_f1_a2_F k) (slices_IndexFunc_api_Bits_encode_Valid_f1_a2) := by
 unfold slices_IndexFunc_api_Bits_encode_Valid_f1_a2_F slices_IndexFunc_api_Bits_encode_Valid_f1_a2
 repeat' with_reducible first | exact Lo.rfl_
noncomputable def slices_IndexFunc_api_Bits_encode_Valid_f1_a3_F (k : Nat) (x10 : Int) : Option Int := some x10
theorem slices_IndexFunc_api_Bits_encode_Valid_f1_a3_le (k : Nat) (x10 : Int) : Lo (slices_IndexFunc_api_Bits_encode_Valid_f1_a3_F k x10) (slices_IndexFunc_api_Bits_encode_Valid_f1_a3 x10) := by
 unfold slices_IndexFunc_api_Bits_encode_Valid_f1_a3_F slices_IndexFunc_api_Bits_encode_Valid_f1_a3
 repeat' with_reducible first | exact Lo.rfl_
noncomputable def slices_IndexFunc_api_Bits_encode_Valid_f1_F (k : Nat) (p0 : List S_api_Bits) : Option Int := bindE (loopF k (fun v : Int => slices_IndexFunc_api_Bits_encode_Valid_f1_l1_F k p0 v) 0) (fun t => slices_IndexFunc_api_Bits_encode_Valid_f1_a2_F k) (fun t => slices_IndexFunc_api_Bits_encode_Valid_f1_a3_F k t)
theorem slices_IndexFunc_api_Bits_encode_Valid_f1_le (k : Nat) (p0 : List S_api_Bits) : Lo (slices_IndexFunc_api_Bits_encode_Valid_f1_F k p0) (slices_IndexFunc_api_Bits_encode_Valid_f1 p0) := by
 unfold slices_IndexFunc_api_Bits_encode_Valid_f1_F slices_IndexFunc_api_Bits_encode_Valid_f1
 repeat' with_reducible first | refine Lo.bindE_ ?_ (fun _ => ?_) (fun _ => ?_) | refine Lo.loop_ (fun _ => ?_) | exact slices_IndexFunc_api_Bits_encode_Valid_f1_a2_le k | exact slices_IndexFunc_api_Bits_encode_Valid_f1_a3_le k _ | exact slices_IndexFunc_api_Bits_encode_Valid_f1_l1_le k _ _ | exact Lo.rfl_
noncomputable def slices_ContainsFunc_api_Bits_encode_Valid_f1_F (k : Nat) (p0 : List S_api_Bits) : Option Bool := (slices_IndexFunc_api_Bits_encode_Valid_f1_F k p0).bind fun y1 => (some (decide (y1 ≥ 0)))
theorem slices_ContainsFunc_api_Bits_encode_Valid_f1_le (k : Nat) (p0 : List S_api_Bits) : Lo (slices_ContainsFunc_api_Bits_encode_Valid_f1_F k p0) (slices_ContainsFunc_api_Bits_encode_Valid_f1 p0) := by
 unfold slices_ContainsFunc_api_Bits_encode_Valid_f1_F slices_ContainsFunc_api_Bits_encode_Valid_f1
 repeat' with_reducible first | refine Lo.bind_ ?_ (fun _ => ?_) | exact slices_IndexFunc_api_Bits_encode_Valid_f1_le k _ | exact Lo.rfl_
noncomputable def encode_Valid_k1_F (k : Nat) (x1 : Bool) : Option Bool := some x1
theorem encode_Valid_k1_le (k : Nat) (x1 : Bool) : Lo (encode_Valid_k1_F k x1) (encode_Valid_k1 x1) := by
 unfold encode_Valid_k1_F encode_Valid_k1
 repeat' with_reducible first | exact Lo.rfl_
noncomputable def encode_Valid_F (k : Nat) (p0 : S_api_Encoded) : Option Bool := if (decide (p0.ID ≥ 1)) = true then (if (decide (p0.ID ≤ 1048576)) = true then (if (decide (p0.Version ≥ 1)) = true then (if (decide (p0.Version ≤ 1048576)) = true then (if (decide (((p0.Fields.length : Nat) : Int) ≥ 1)) = true then (if (decide (((p0.Fields.length : Nat) : Int) ≤ 5)) = true then ((slices_ContainsFunc_api_Bits_encode_Valid_f1_F k p0.Fields).bind fun y8 => (encode_Valid_k1_F k (!y8))) else (encode_Valid_k1_F k false)) else (encode_Valid_k1_F k false)) else (encode_Valid_k1_F k false)) else (encode_Valid_k1_F k false)) else (encode_Valid_k1_F k false)) else (encode_Valid_k1_F k false)
theorem encode_Valid_le (k : Nat) (p0 : S_api_Encoded) : Lo (encode_Valid_F k p0) (encode_Valid p0) := by
 unfold encode_Valid_F encode_Valid
 repeat' with_reducible first | refine Lo.ite_ ?_ ?_ | refine Lo.bind_ ?_ (fun _ => ?_) | exact encode_Valid_k1_le k _ | exact slices_ContainsFunc_api_Bits_encode_Valid_f1_le k _ | exact Lo.rfl_
noncomputable def candidate_Check_k5_F (k : Nat) (x5 : Int) (x14 : Bool) : Option (Int ⊕ (Unit ⊕ Int)) := if x14 = true then (some (.inr (.inr 12))) else (some (.inl (i64.wrap (x5 + 1))))
theorem candidate_Check_k5_le (k : Nat) (x5 : Int) (x14 : Bool) : Lo (candidate_Check_k5_F k x5 x14) (candidate_Check_k5 x5 x14) := by
 unfold candidate_Check_k5_F candidate_Check_k5
 repeat' with_reducible first | refine Lo.ite_ ?_ ?_ | exact Lo.rfl_
noncomputable def candidate_Check_k4_F (k : Nat) (p2 : List S_api_Sent) (x5 : Int) (x12 : Bool) : Option (Int ⊕ (Unit ⊕ Int)) := if x12 = true then (some (.inr (.inr 8))) else (if (decide (x5 > 0)) = true then (if 0 ≤ (i64.wrap (x5 - 1)) then (if (i64.wrap (x5 - 1)) < (p2.length : Int) then (candidate_Check_k5_F k x5 (decide ((((p2.getD ((i64.wrap (x5 - 1)).toNat) dS_api_Sent).Record).ID) ≥ (((p2.getD x5.toNat dS_api_Sent).Record).ID)))) else none) else none) else (candidate_Check_k5_F k x5 false))
theorem candidate_Check_k4_le (k : Nat) (p2 : List S_api_Sent) (x5 : Int) (x12 : Bool) : Lo (candidate_Check_k4_F k p2 x5 x12) (candidate_Check_k4 p2 x5 x12) := by
 unfold candidate_Check_k4_F candidate_Check_k4
 repeat' with_reducible first | refine Lo.ite_ ?_ ?_ | exact candidate_Check_k5_le k _ _ | exact Lo.rfl_
noncomputable def candidate_Check_k3_F (k : Nat) (p1 : Int) (p2 : List S_api_Sent) (x5 : Int) (x10 : Bool) : Option (Int ⊕ (Unit ⊕ Int)) := if x10 = true then (some (.inr (.inr 7))) else (if (((((p2.getD x5.toNat dS_api_Sent).Hashes).length : Nat) : Int) != p1) = true then (candidate_Check_k4_F k p2 x5 true) else (candidate_Check_k4_F k p2 x5 (((((p2.getD x5.toNat dS_api_Sent).Has).length : Nat) : Int) != p1)))
theorem candidate_Check_k3_le (k : Nat) (p1 : Int) (p2 : List S_api_Sent) (x5 : Int) (x10 : Bool) : Lo (candidate_Check_k3_F k p1 p2 x5 x10) (candidate_Check_k3 p1 p2 x5 x10) := by
 unfold candidate_Check_k3_F candidate_Check_k3
 repeat' with_reducible first | refine Lo.ite_ ?_ ?_ | exact candidate_Check_k4_le k _ _ _ | exact Lo.rfl_
noncomputable def candidate_Check_l2_F (k : Nat) (p0 : Int) (p1 : Int) (p2 : List S_api_Sent) (x5 : Int) : Option (Int ⊕ (Unit ⊕ Int)) := if (decide (x5 < (p2.length : Int))) = true then (if 0 ≤ x5 then (if x5 < (p2.length : Int) then ((encode_Valid_F k ((p2.getD x5.toNat dS_api_Sent).Record)).bind fun y20 => (if (!y20) = true then (candidate_Check_k3_F k p1 p2 x5 true) else (candidate_Check_k3_F k p1 p2 x5 ((((((p2.getD x5.toNat dS_api_Sent).Record).Fields).length : Nat) : Int) != p0)))) else none) else none) else (some (.inr (.inl ())))
theorem candidate_Check_l2_le (k : Nat) (p0 : Int) (p1 : Int) (p2 : List S_api_Sent) (x5 : Int) : Lo (candidate_Check_l2_F k p0 p1 p2 x5) (candidate_Check_l2 p0 p1 p2 x5) := by
 unfold candidate_Check_l2_F candidate_Check_l2
 repeat' with_reducible first | refine Lo.ite_ ?_ ?_ | refine Lo.bind_ ?_ (fun _ => ?_) | exact candidate_Check_k3_le k _ _ _ _ | exact encode_Valid_le k _ | exact Lo.rfl_
noncomputable def candidate_Check_a6_F (k : Nat) : Option Int := some 0
theorem candidate_Check_a6_le (k : Nat) : Lo (candidate_Check_a6_F k) (candidate_Check_a6) := by
 unfold candidate_Check_a6_F candidate_Check_a6
 repeat' with_reducible first | exact Lo.rfl_
noncomputable def candidate_Check_a7_F (k : Nat) (x23 : Int) : Option Int := some x23
theorem candidate_Check_a7_le (k : Nat) (x23 : Int) : Lo (candidate_Check_a7_F k x23) (candidate_Check_a7 x23) := by
 unfold candidate_Check_a7_F candidate_Check_a7
 repeat' with_reducible first | exact Lo.rfl_
noncomputable def candidate_Check_k1_F (k : Nat) (p0 : Int) (p1 : Int) (p2 : List S_api_Sent) (x1 : Bool) : Option Int := if x1 = true then (some 2) else (if (decide ((p2.length : Int) > 64)) = true then (some 1) else (bindE (loopF k (fun v : Int => candidate_Check_l2_F k p0 p1 p2 v) 0) (fun t => candidate_Check_a6_F k) (fun t => candidate_Check_a7_F k t)))
theorem candidate_Check_k1_le (k : Nat) (p0 : Int) (p1 : Int) (p2 : List S_api_Sent) (x1 : Bool) : Lo (candidate_Check_k1_F k p0 p1 p2 x1) (candidate_Check_k1 p0 p1 p2 x1) := by
 unfold candidate_Check_k1_F candidate_Check_k1
 repeat' with_reducible first | refine Lo.ite_ ?_ ?_ | refine Lo.bindE_ ?_ (fun _ => ?_) (fun _ => ?_) | refine Lo.loop_ (fun _ => ?_) | exact candidate_Check_a6_le k | exact candidate_Check_a7_le k _ | exact candidate_Check_l2_le k _ _ _ _ | exact Lo.rfl_
noncomputable def candidate_Check_F (k : Nat) (p0 : Int) (p1 : Int) (p2 : List S_api_Sent) : Option Int := if (decide (p0 < 1)) = true then (candidate_Check_k1_F k p0 p1 p2 true) else (if (decide (p0 > 5)) = true then (candidate_Check_k1_F k p0 p1 p2 true) else (if (decide (p1 < 1)) = true then (candidate_Check_k1_F k p0 p1 p2 true) else (candidate_Check_k1_F k p0 p1 p2 (decide (p1 > 8)))))
theorem candidate_Check_le (k : Nat) (p0 : Int) (p1 : Int) (p2 : List S_api_Sent) : Lo (candidate_Check_F k p0 p1 p2) (candidate_Check p0 p1 p2) := by
 unfold candidate_Check_F candidate_Check
 repeat' with_reducible first | refine Lo.ite_ ?_ ?_ | exact candidate_Check_k1_le k _ _ _ _ | exact Lo.rfl_
noncomputable def candidate_check_l1_F (k : Nat) (p0 : S_api_Weights) (p2 : Int) (p3 : List (List S_api_Sent)) (x10 : Int) : Option (Int ⊕ (Unit ⊕ Int)) := if (decide (x10 < (p3.length : Int))) = true then (if 0 ≤ x10 then (if x10 < (p3.length : Int) then ((candidate_Check_F k ((p0.Agree.length : Nat) : Int) p2 (p3.getD x10.toNat ([] : List S_api_Sent))).bind fun y15 => (if (y15 != 0) = true then (some (.inr (.inr y15))) else (some (.inl (i64.wrap (x10 + 1)))))) else none) else none) else (some (.inr (.inl ())))
theorem candidate_check_l1_le (k : Nat) (p0 : S_api_Weights) (p2 : Int) (p3 : List (List S_api_Sent)) (x10 : Int) : Lo (candidate_check_l1_F k p0 p2 p3 x10) (candidate_check_l1 p0 p2 p3 x10) := by
 unfold candidate_check_l1_F candidate_check_l1
 repeat' with_reducible first | refine Lo.ite_ ?_ ?_ | refine Lo.bind_ ?_ (fun _ => ?_) | exact candidate_Check_le k _ _ _ | exact Lo.rfl_
noncomputable def candidate_check_a2_F (k : Nat) : Option Int := some 0
theorem candidate_check_a2_le (k : Nat) : Lo (candidate_check_a2_F k) (candidate_check_a2) := by
 unfold candidate_check_a2_F candidate_check_a2
 repeat' with_reducible first | exact Lo.rfl_
noncomputable def candidate_check_a3_F (k : Nat) (x18 : Int) : Option Int := some x18
theorem candidate_check_a3_le (k : Nat) (x18 : Int) : Lo (candidate_check_a3_F k x18) (candidate_check_a3 x18) := by
 unfold candidate_check_a3_F candidate_check_a3
 repeat' with_reducible first | exact Lo.rfl_
noncomputable def candidate_check_F (k : Nat) (p0 : S_api_Weights) (p1 : List Int) (p2 : Int) (p3 : List (List S_api_Sent)) : Option Int := (weight_Check_F k p0).bind fun y1 => (if (y1 != 0) = true then (some y1) else (if ((p1.length : Int) != ((p0.Agree.length : Nat) : Int)) = true then (some 8) else ((slices_ContainsFunc_int_candidate_check_f1_F k p1).bind fun y5 => (if y5 = true then (some 2) else (if (decide ((p3.length : Int) > 4)) = true then (some 1) else (bindE (loopF k (fun v : Int => candidate_check_l1_F k p0 p2 p3 v) 0) (fun t => candidate_check_a2_F k) (fun t => candidate_check_a3_F k t)))))))
theorem candidate_check_le (k : Nat) (p0 : S_api_Weights) (p1 : List Int) (p2 : Int) (p3 : List (List S_api_Sent)) : Lo (candidate_check_F k p0 p1 p2 p3) (candidate_check p0 p1 p2 p3) := by
 unfold candidate_check_F candidate_check
 repeat' with_reducible first | refine Lo.ite_ ?_ ?_ | refine Lo.bind_ ?_ (fun _ => ?_) | refine Lo.bindE_ ?_ (fun _ => ?_) (fun _ => ?_) | refine Lo.loop_ (fun _ => ?_) | exact candidate_check_a2_le k | exact candidate_check_a3_le k _ | exact candidate_check_l1_le k _ _ _ _ | exact slices_ContainsFunc_int_candidate_check_f1_le k _ | exact weight_Check_le k _ | exact Lo.rfl_
noncomputable def candidate_Agree_k2_F (k : Nat) (x4 : Int) (x6 : Bool) : Option (Int ⊕ (Unit ⊕ Unit)) := if x6 = true then (some (.inr (.inr ()))) else (some (.inl (i64.wrap (x4 + 1))))
theorem candidate_Agree_k2_le (k : Nat) (x4 : Int) (x6 : Bool) : Lo (candidate_Agree_k2_F k x4 x6) (candidate_Agree_k2 x4 x6) := by
 unfold candidate_Agree_k2_F candidate_Agree_k2
 repeat' with_reducible first | refine Lo.ite_ ?_ ?_ | exact Lo.rfl_
noncomputable def candidate_Agree_l1_F (k : Nat) (p0 : S_api_Sent) (p1 : S_api_Sent) (z1 : Int) (x4 : Int) : Option (Int ⊕ (Unit ⊕ Unit)) := if (decide (x4 < z1)) = true then (if 0 ≤ x4 then (if x4 < ((p0.Has.length : Nat) : Int) then (if (p0.Has.getD x4.toNat false) = true then (if x4 < ((p1.Has.length : Nat) : Int) then (if (p1.Has.getD x4.toNat false) = true then (if x4 < ((p0.Hashes.length : Nat) : Int) then (if x4 < ((p1.Hashes.length : Nat) : Int) then (candidate_Agree_k2_F k x4 ((p0.Hashes.getD x4.toNat 0) == (p1.Hashes.getD x4.toNat 0))) else none) else none) else (candidate_Agree_k2_F k x4 false)) else none) else (candidate_Agree_k2_F k x4 false)) else none) else none) else (some (.inr (.inl ())))
theorem candidate_Agree_l1_le (k : Nat) (p0 : S_api_Sent) (p1 : S_api_Sent) (z1 : Int) (x4 : Int) : Lo (candidate_Agree_l1_F k p0 p1 z1 x4) (candidate_Agree_l1 p0 p1 z1 x4) := by
 unfold candidate_Agree_l1_F candidate_Agree_l1
 repeat' with_reducible first | refine Lo.ite_ ?_ ?_ | exact candidate_Agree_k2_le k _ _ | exact Lo.rfl_
noncomputable def candidate_Agree_a3_F (k : Nat) : Option Bool := some false
theorem candidate_Agree_a3_le (k : Nat) : Lo (candidate_Agree_a3_F k) (candidate_Agree_a3) := by
 unfold candidate_Agree_a3_F candidate_Agree_a3
 repeat' with_reducible first | exact Lo.rfl_
noncomputable def candidate_Agree_a4_F (k : Nat) : Option Bool := some true
theorem candidate_Agree_a4_le (k : Nat) : Lo (candidate_Agree_a4_F k) (candidate_Agree_a4) := by
 unfold candidate_Agree_a4_F candidate_Agree_a4
 repeat' with_reducible first | exact Lo.rfl_
noncomputable def candidate_Agree_F (k : Nat) (p0 : S_api_Sent) (p1 : S_api_Sent) : Option Bool := (some ((if ((p1.Has.length : Nat) : Int) < (if ((p1.Hashes.length : Nat) : Int) < (if ((p0.Has.length : Nat) : Int) < ((p0.Hashes.length : Nat) : Int) then ((p0.Has.length : Nat) : Int) else ((p0.Hashes.length : Nat) : Int)) then ((p1.Hashes.length : Nat) : Int) else (if ((p0.Has.length : Nat) : Int) < ((p0.Hashes.length : Nat) : Int) then ((p0.Has.length : Nat) : Int) else ((p0.Hashes.length : Nat) : Int))) then ((p1.Has.length : Nat) : Int) else (if ((p1.Hashes.length : Nat) : Int) < (if ((p0.Has.length : Nat) : Int) < ((p0.Hashes.length : Nat) : Int) then ((p0.Has.length : Nat) : Int) else ((p0.Hashes.length : Nat) : Int)) then ((p1.Hashes.length : Nat) : Int) else (if ((p0.Has.length : Nat) : Int) < ((p0.Hashes.length : Nat) : Int) then ((p0.Has.length : Nat) : Int) else ((p0.Hashes.length : Nat) : Int)))))).bind fun z1 => (bindE (loopF k (fun v : Int => candidate_Agree_l1_F k p0 p1 z1 v) 0) (fun t => candidate_Agree_a3_F k) (fun t => candidate_Agree_a4_F k))
theorem candidate_Agree_le (k : Nat) (p0 : S_api_Sent) (p1 : S_api_Sent) : Lo (candidate_Agree_F k p0 p1) (candidate_Agree p0 p1) := by
 unfold candidate_Agree_F candidate_Agree
 repeat' with_reducible first | refine Lo.ite_ ?_ ?_ | refine Lo.bind_ ?_ (fun _ => ?_) | refine Lo.bindE_ ?_ (fun _ => ?_) (fun _ => ?_) | refine Lo.loop_ (fun _ => ?_) | exact candidate_Agree_a3_le k | exact candidate_Agree_a4_le k | exact candidate_Agree_l1_le k _ _ _ _ | exact Lo.rfl_
noncomputable def similarity_fields_k1_F (k : Nat) (x1 : Bool) : Option Bool := some x1
theorem similarity_fields_k1_le (k : Nat) (x1 : Bool) : Lo (similarity_fields_k1_F k x1) (similarity_fields_k1 x1) := by
 unfold similarity_fields_k1_F similarity_fields_k1
 repeat' with_reducible first | exact Lo.rfl_
noncomputable def similarity_fields_F (k : Nat) (p0 : Int) : Option Bool := if (decide (p0 ≥ 1)) = true then (similarity_fields_k1_F k (decide (p0 ≤ 5))) else (similarity_fields_k1_F k false)
theorem similarity_fields_le (k : Nat) (p0 : Int) : Lo (similarity_fields_F k p0) (similarity_fields p0) := by
 unfold similarity_fields_F similarity_fields
 repeat' with_reducible first | refine Lo.ite_ ?_ ?_ | exact similarity_fields_k1_le k _ | exact Lo.rfl_
noncomputable def bitset_And_f1_F (k : Nat) (p0 : Int) (p1 : Int) : Option Int := some (iand .u64 p0 p1)
theorem bitset_And_f1_le (k : Nat) (p0 : Int) (p1 : Int) : Lo (bitset_And_f1_F k p0 p1) (bitset_And_f1 p0 p1) := by
 unfold bitset_And_f1_F bitset_And_f1
 repeat' with_reducible first | exact Lo.rfl_
noncomputable def bitset_both_bitset_And_f1_l2_F (k : Nat) (p0 : S_api_Bits) (p1 : S_api_Bits) (x7 : Int) (x8 : List Int) : Option ((Int × (List Int)) ⊕ (List Int)) := if (decide (x7 < ((p0.Words.length : Nat) : Int))) = true then (if 0 ≤ x7 then (if x7 < ((p0.Words.length : Nat) : Int) then (if x7 < ((p1.Words.length : Nat) : Int) then ((bitset_And_f1_F k (p0.Words.getD x7.toNat 0) (p1.Words.getD x7.toNat 0)).bind fun y14 => (if x7 < (x8.length : Int) then (some (.inl (i64.wrap (x7 + 1), (x8.set (0 + x7.toNat) y14)))) else none)) else none) else none) else none) else (some (.inr x8))
theorem bitset_both_bitset_And_f1_l2_le (k : Nat) (p0 : S_api_Bits) (p1 : S_api_Bits) (x7 : Int) (x8 : List Int) : Lo (bitset_both_bitset_And_f1_l2_F k p0 p1 x7 x8) (bitset_both_bitset_And_f1_l2 p0 p1 x7 x8) := by
 unfold bitset_both_bitset_And_f1_l2_F bitset_both_bitset_And_f1_l2
 repeat' with_reducible first | refine Lo.ite_ ?_ ?_ | refine Lo.bind_ ?_ (fun _ => ?_) | exact bitset_And_f1_le k _ _ | exact Lo.rfl_
noncomputable def bitset_both_bitset_And_f1_k1_F (k : Nat) (p0 : S_api_Bits) (p1 : S_api_Bits) (x1 : Bool) : Option (S_api_Bits × Int) := if x1 = true then (some ((⟨0, ([] : List Int)⟩ : S_api_Bits), 8)) else (if 0 ≤ ((p0.Words.length : Nat) : Int) then (if ((p0.Words.length : Nat) : Int) ≤ 1099511627776 then ((loopF k (fun v : Int × (List Int) => bitset_both_bitset_And_f1_l2_F k p0 p1 v.1 v.2) (0, (List.replicate (((p0.Words.length : Nat) : Int).toNat) (0 : Int)))).bind fun x17 => (some ((⟨p0.Length, x17⟩ : S_api_Bits), 0))) else none) else none)
theorem bitset_both_bitset_And_f1_k1_le (k : Nat) (p0 : S_api_Bits) (p1 : S_api_Bits) (x1 : Bool) : Lo (bitset_both_bitset_And_f1_k1_F k p0 p1 x1) (bitset_both_bitset_And_f1_k1 p0 p1 x1) := by
 unfold bitset_both_bitset_And_f1_k1_F bitset_both_bitset_And_f1_k1
 repeat' with_reducible first | refine Lo.ite_ ?_ ?_ | refine Lo.bind_ ?_ (fun _ => ?_) | refine Lo.loop_ (fun _ => ?_) | exact bitset_both_bitset_And_f1_l2_le k _ _ _ _ | exact Lo.rfl_
noncomputable def bitset_both_bitset_And_f1_F (k : Nat) (p0 : S_api_Bits) (p1 : S_api_Bits) : Option (S_api_Bits × Int) := (bitset_Valid_F k p0).bind fun y19 => (if (!y19) = true then (bitset_both_bitset_And_f1_k1_F k p0 p1 true) else ((bitset_Valid_F k p1).bind fun y22 => (if (!y22) = true then (bitset_both_bitset_And_f1_k1_F k p0 p1 true) else (bitset_both_bitset_And_f1_k1_F k p0 p1 (p0.Length != p1.Length)))))
theorem bitset_both_bitset_And_f1_le (k : Nat) (p0 : S_api_Bits) (p1 : S_api_Bits) : Lo (bitset_both_bitset_And_f1_F k p0 p1) (bitset_both_bitset_And_f1 p0 p1) := by
 unfold bitset_both_bitset_And_f1_F bitset_both_bitset_And_f1
 repeat' with_reducible first | refine Lo.ite_ ?_ ?_ | refine Lo.bind_ ?_ (fun _ => ?_) | exact bitset_Valid_le k _ | exact bitset_both_bitset_And_f1_k1_le k _ _ _ | exact Lo.rfl_
noncomputable def bitset_And_F (k : Nat) (p0 : S_api_Bits) (p1 : S_api_Bits) : Option (S_api_Bits × Int) := bind2 (bitset_both_bitset_And_f1_F k p0 p1) fun y1 y2 => (some (y1, y2))
theorem bitset_And_le (k : Nat) (p0 : S_api_Bits) (p1 : S_api_Bits) : Lo (bitset_And_F k p0 p1) (bitset_And p0 p1) := by
 unfold bitset_And_F bitset_And
 repeat' with_reducible first | refine Lo.bind2_ ?_ (fun _ _ => ?_) | exact bitset_both_bitset_And_f1_le k _ _ | exact Lo.rfl_
noncomputable def bits_OnesCount64_F (k : Nat) (p0 : Int) : Option Int := (some (u64.wrap ((iand .u64 (ishr .u64 p0 1) 6148914691236517205) + (iand .u64 p0 6148914691236517205)))).bind fun z1 => ((some (u64.wrap ((iand .u64 (ishr .u64 z1 2) 3689348814741910323) + (iand .u64 z1 3689348814741910323)))).bind fun z3 => ((some (iand .u64 (u64.wrap ((ishr .u64 z3 4) + z3)) 1085102592571150095)).bind fun z5 => ((some (u64.wrap ((u64.wrap (z5 + (ishr .u64 z5 8))) + (ishr .u64 (u64.wrap (z5 + (ishr .u64 z5 8))) 16)))).bind fun z7 => ((some (iand .i64 (i64.wrap (u64.wrap (z7 + (ishr .u64 z7 32)))) 127)).bind fun z9 => (some z9)))))
theorem bits_OnesCount64_le (k : Nat) (p0 : Int) : Lo (bits_OnesCount64_F k p0) (bits_OnesCount64 p0) := by
 unfold bits_OnesCount64_F bits_OnesCount64
 repeat' with_reducible first | refine Lo.bind_ ?_ (fun _ => ?_) | exact Lo.rfl_
noncomputable def bitset_Count_l1_F (k : Nat) (p0 : S_api_Bits) (x6 : Int) (x7 : Int) : Option ((Int × Int) ⊕ Int) := if (decide (x7 < ((p0.Words.length : Nat) : Int))) = true then (if 0 ≤ x7 then (if x7 < ((p0.Words.length : Nat) : Int) then ((bits_OnesCount64_F k (p0.Words.getD x7.toNat 0)).bind fun y12 => (some (.inl (i64.wrap (x6 + y12), i64.wrap (x7 + 1))))) else none) else none) else (some (.inr x6))
theorem bitset_Count_l1_le (k : Nat) (p0 : S_api_Bits) (x6 : Int) (x7 : Int) : Lo (bitset_Count_l1_F k p0 x6 x7) (bitset_Count_l1 p0 x6 x7) := by
 unfold bitset_Count_l1_F bitset_Count_l1
 repeat' with_reducible first | refine Lo.ite_ ?_ ?_ | refine Lo.bind_ ?_ (fun _ => ?_) | exact bits_OnesCount64_le k _ | exact Lo.rfl_
noncomputable def bitset_Count_F (k : Nat) (p0 : S_api_Bits) : Option Int := (bitset_Valid_F k p0).bind fun y1 => (if (!y1) = true then (some 0) else ((loopF k (fun v : Int × Int => bitset_Count_l1_F k p0 v.1 v.2) (0, 0)).bind fun x14 => (some x14)))
theorem bitset_Count_le (k : Nat) (p0 : S_api_Bits) : Lo (bitset_Count_F k p0) (bitset_Count p0) := by
 unfold bitset_Count_F bitset_Count
 repeat' with_reducible first | refine Lo.ite_ ?_ ?_ | refine Lo.bind_ ?_ (fun _ => ?_) | refine Lo.loop_ (fun _ => ?_) | exact bitset_Count_l1_le k _ _ _ | exact bitset_Valid_le k _ | exact Lo.rfl_
noncomputable def similarity_Dice_F (k : Nat) (p0 : S_api_Bits) (p1 : S_api_Bits) : Option Int := bind2 (bitset_And_F k p0 p1) fun y1 y2 => (if (y2 != 0) = true then (some (-1)) else ((bitset_Count_F k p0).bind fun y5 => ((bitset_Count_F k p1).bind fun y7 => (if ((i64.wrap (y5 + y7)) == 0) = true then (some 0) else ((bitset_Count_F k y1).bind fun y10 => (if (i64.wrap (2 * (i64.wrap (y5 + y7)))) ≠ 0 then ((some (i64.wrap ((i64.wrap ((i64.wrap (4000 * y10)) + (i64.wrap (y5 + y7)))).tdiv (i64.wrap (2 * (i64.wrap (y5 + y7))))))).bind fun z13 => (some z13)) else none))))))
theorem similarity_Dice_le (k : Nat) (p0 : S_api_Bits) (p1 : S_api_Bits) : Lo (similarity_Dice_F k p0 p1) (similarity_Dice p0 p1) := by
 unfold similarity_Dice_F similarity_Dice
 repeat' with_reducible first | refine Lo.ite_ ?_ ?_ | refine Lo.bind_ ?_ (fun _ => ?_) | refine Lo.bind2_ ?_ (fun _ _ => ?_) | exact bitset_And_le k _ _ | exact bitset_Count_le k _ | exact Lo.rfl_
noncomputable def similarity_Compare_l2_F (k : Nat) (p0 : S_api_Encoded) (p1 : S_api_Encoded) (x5 : List Int) (x6 : Int) : Option (((List Int) × Int) ⊕ (List Int)) := if (decide (x6 < ((p0.Fields.length : Nat) : Int))) = true then (if 0 ≤ x6 then (if x6 < ((p0.Fields.length : Nat) : Int) then (if x6 < ((p1.Fields.length : Nat) : Int) then ((similarity_Dice_F k (p0.Fields.getD x6.toNat dS_api_Bits) (p1.Fields.getD x6.toNat dS_api_Bits)).bind fun y12 => (if x5.length + ([y12] : List Int).length ≤ 1099511627776 then (some (.inl ((x5 ++ ([y12] : List Int)), i64.wrap (x6 + 1)))) else none)) else none) else none) else none) else (some (.inr x5))
theorem similarity_Compare_l2_le (k : Nat) (p0 : S_api_Encoded) (p1 : S_api_Encoded) (x5 : List Int) (x6 : Int) : Lo (similarity_Compare_l2_F k p0 p1 x5 x6) (similarity_Compare_l2 p0 p1 x5 x6) := by
 unfold similarity_Compare_l2_F similarity_Compare_l2
 repeat' with_reducible first | refine Lo.ite_ ?_ ?_ | refine Lo.bind_ ?_ (fun _ => ?_) | exact similarity_Dice_le k _ _ | exact Lo.rfl_
noncomputable def similarity_Compare_k1_F (k : Nat) (p0 : S_api_Encoded) (p1 : S_api_Encoded) (x1 : Bool) : Option ((List Int) × Int) := if x1 = true then (some (([] : List Int), 8)) else ((loopF k (fun v : (List Int) × Int => similarity_Compare_l2_F k p0 p1 v.1 v.2) (([] : List Int), 0)).bind fun x15 => (some (x15, 0)))
theorem similarity_Compare_k1_le (k : Nat) (p0 : S_api_Encoded) (p1 : S_api_Encoded) (x1 : Bool) : Lo (similarity_Compare_k1_F k p0 p1 x1) (similarity_Compare_k1 p0 p1 x1) := by
 unfold similarity_Compare_k1_F similarity_Compare_k1
 repeat' with_reducible first | refine Lo.ite_ ?_ ?_ | refine Lo.bind_ ?_ (fun _ => ?_) | refine Lo.loop_ (fun _ => ?_) | exact similarity_Compare_l2_le k _ _ _ _ | exact Lo.rfl_
noncomputable def similarity_Compare_F (k : Nat) (p0 : S_api_Encoded) (p1 : S_api_Encoded) : Option ((List Int) × Int) := if (((p0.Fields.length : Nat) : Int) != ((p1.Fields.length : Nat) : Int)) = true then (similarity_Compare_k1_F k p0 p1 true) else ((similarity_fields_F k ((p0.Fields.length : Nat) : Int)).bind fun y18 => (similarity_Compare_k1_F k p0 p1 (!y18)))
theorem similarity_Compare_le (k : Nat) (p0 : S_api_Encoded) (p1 : S_api_Encoded) : Lo (similarity_Compare_F k p0 p1) (similarity_Compare p0 p1) := by
 unfold similarity_Compare_F similarity_Compare
 repeat' with_reducible first | refine Lo.ite_ ?_ ?_ | refine Lo.bind_ ?_ (fun _ => ?_) | exact similarity_Compare_k1_le k _ _ _ | exact similarity_fields_le k _ | exact Lo.rfl_
noncomputable def similarity_powers_F (k : Nat) : Option (List Int) := some ([1, 3, 9, 27, 81, 243] : List Int)
theorem similarity_powers_le (k : Nat) : Lo (similarity_powers_F k) (similarity_powers) := by
 unfold similarity_powers_F similarity_powers
 repeat' with_reducible first | exact Lo.rfl_
noncomputable def similarity_Number_k2_F (k : Nat) (p0 : List Int) (x6 : Int) (x7 : Int) (x12 : Bool) : Option ((Int × Int) ⊕ (Int ⊕ Unit)) := if x12 = true then (some (.inr (.inr ()))) else ((similarity_powers_F k).bind fun y14 => (if x7 < ((6 : Nat) : Int) then ((some (i64.wrap (x6 + (i64.wrap ((p0.getD x7.toNat 0) * (y14.getD x7.toNat 0)))))).bind fun z17 => (some (.inl (z17, i64.wrap (x7 + 1))))) else none))
theorem similarity_Number_k2_le (k : Nat) (p0 : List Int) (x6 : Int) (x7 : Int) (x12 : Bool) : Lo (similarity_Number_k2_F k p0 x6 x7 x12) (similarity_Number_k2 p0 x6 x7 x12) := by
 unfold similarity_Number_k2_F similarity_Number_k2
 repeat' with_reducible first | refine Lo.ite_ ?_ ?_ | refine Lo.bind_ ?_ (fun _ => ?_) | exact similarity_powers_le k | exact Lo.rfl_
noncomputable def similarity_Number_l1_F (k : Nat) (p0 : List Int) (x6 : Int) (x7 : Int) : Option ((Int × Int) ⊕ (Int ⊕ Unit)) := if (decide (x7 < (p0.length : Int))) = true then (if 0 ≤ x7 then (if x7 < (p0.length : Int) then (if (decide ((p0.getD x7.toNat 0) < 0)) = true then (similarity_Number_k2_F k p0 x6 x7 true) else (similarity_Number_k2_F k p0 x6 x7 (decide ((p0.getD x7.toNat 0) ≥ 3)))) else none) else none) else (some (.inr (.inl x6)))
theorem similarity_Number_l1_le (k : Nat) (p0 : List Int) (x6 : Int) (x7 : Int) : Lo (similarity_Number_l1_F k p0 x6 x7) (similarity_Number_l1 p0 x6 x7) := by
 unfold similarity_Number_l1_F similarity_Number_l1
 repeat' with_reducible first | refine Lo.ite_ ?_ ?_ | exact similarity_Number_k2_le k _ _ _ _ | exact Lo.rfl_
noncomputable def similarity_Number_a3_F (k : Nat) (x20 : Int) : Option (Int × Int) := some (x20, 0)
theorem similarity_Number_a3_le (k : Nat) (x20 : Int) : Lo (similarity_Number_a3_F k x20) (similarity_Number_a3 x20) := by
 unfold similarity_Number_a3_F similarity_Number_a3
 repeat' with_reducible first | exact Lo.rfl_
noncomputable def similarity_Number_a4_F (k : Nat) : Option (Int × Int) := some (0, 2)
theorem similarity_Number_a4_le (k : Nat) : Lo (similarity_Number_a4_F k) (similarity_Number_a4) := by
 unfold similarity_Number_a4_F similarity_Number_a4
 repeat' with_reducible first | exact Lo.rfl_
noncomputable def similarity_Number_F (k : Nat) (p0 : List Int) : Option (Int × Int) := (similarity_fields_F k (p0.length : Int)).bind fun y1 => (if (!y1) = true then (some (0, 8)) else (bindE (loopF k (fun v : Int × Int => similarity_Number_l1_F k p0 v.1 v.2) (0, 0)) (fun t => similarity_Number_a3_F k t) (fun t => similarity_Number_a4_F k)))
theorem similarity_Number_le (k : Nat) (p0 : List Int) : Lo (similarity_Number_F k p0) (similarity_Number p0) := by
 unfold similarity_Number_F similarity_Number
 repeat' with_reducible first | refine Lo.ite_ ?_ ?_ | refine Lo.bind_ ?_ (fun _ => ?_) | refine Lo.bindE_ ?_ (fun _ => ?_) (fun _ => ?_) | refine Lo.loop_ (fun _ => ?_) | exact similarity_Number_a3_le k _ | exact similarity_Number_a4_le k | exact similarity_Number_l1_le k _ _ _ | exact similarity_fields_le k _ | exact Lo.rfl_
noncomputable def similarity_Pattern_k3_F (k : Nat) (x8 : Int) (x11 : List Int) : Option (((List Int) × Int) ⊕ ((List Int) ⊕ Unit)) := some (.inl (x11, i64.wrap (x8 + 1)))
theorem similarity_Pattern_k3_le (k : Nat) (x8 : Int) (x11 : List Int) : Lo (similarity_Pattern_k3_F k x8 x11) (similarity_Pattern_k3 x8 x11) := by
 unfold similarity_Pattern_k3_F similarity_Pattern_k3
 repeat' with_reducible first | exact Lo.rfl_
noncomputable def similarity_Pattern_k4_F (k : Nat) (p0 : List Int) (p1 : List Int) (x7 : List Int) (x8 : Int) (x15 : Bool) : Option (((List Int) × Int) ⊕ ((List Int) ⊕ Unit)) := if x15 = true then (some (.inr (.inr ()))) else (if (decide ((p1.getD x8.toNat 0) < 0)) = true then (if x8 < (x7.length : Int) then (similarity_Pattern_k3_F k x8 (x7.set (0 + x8.toNat) 0)) else none) else (if (decide ((p1.getD x8.toNat 0) < (p0.getD x8.toNat 0))) = true then (if x8 < (x7.length : Int) then (similarity_Pattern_k3_F k x8 (x7.set (0 + x8.toNat) 1)) else none) else (if x8 < (x7.length : Int) then (similarity_Pattern_k3_F k x8 (x7.set (0 + x8.toNat) 2)) else none)))
theorem similarity_Pattern_k4_le (k : Nat) (p0 : List Int) (p1 : List Int) (x7 : List Int) (x8 : Int) (x15 : Bool) : Lo (similarity_Pattern_k4_F k p0 p1 x7 x8 x15) (similarity_Pattern_k4 p0 p1 x7 x8 x15) := by
 unfold similarity_Pattern_k4_F similarity_Pattern_k4
 repeat' with_reducible first | refine Lo.ite_ ?_ ?_ | exact similarity_Pattern_k3_le k _ _ | exact Lo.rfl_
noncomputable def similarity_Pattern_l2_F (k : Nat) (p0 : List Int) (p1 : List Int) (x7 : List Int) (x8 : Int) : Option (((List Int) × Int) ⊕ ((List Int) ⊕ Unit)) := if (decide (x8 < (p0.length : Int))) = true then (if 0 ≤ x8 then (if x8 < (p0.length : Int) then (if x8 < (p1.length : Int) then (if (decide ((p0.getD x8.toNat 0) < 0)) = true then (similarity_Pattern_k4_F k p0 p1 x7 x8 true) else (if (decide ((p0.getD x8.toNat 0) > 1000)) = true then (similarity_Pattern_k4_F k p0 p1 x7 x8 true) else (if (decide ((p1.getD x8.toNat 0) < (-1))) = true then (similarity_Pattern_k4_F k p0 p1 x7 x8 true) else (similarity_Pattern_k4_F k p0 p1 x7 x8 (decide ((p1.getD x8.toNat 0) > 1000)))))) else none) else none) else none) else (some (.inr (.inl x7)))
theorem similarity_Pattern_l2_le (k : Nat) (p0 : List Int) (p1 : List Int) (x7 : List Int) (x8 : Int) : Lo (similarity_Pattern_l2_F k p0 p1 x7 x8) (similarity_Pattern_l2 p0 p1 x7 x8) := by
 unfold similarity_Pattern_l2_F similarity_Pattern_l2
 repeat' with_reducible first | refine Lo.ite_ ?_ ?_ | exact similarity_Pattern_k4_le k _ _ _ _ _ | exact Lo.rfl_
noncomputable def similarity_Pattern_a5_F (k : Nat) (x25 : List Int) : Option (Int × Int) := bind2 (similarity_Number_F k x25) fun y26 y27 => (some (y26, y27))
theorem similarity_Pattern_a5_le (k : Nat) (x25 : List Int) : Lo (similarity_Pattern_a5_F k x25) (similarity_Pattern_a5 x25) := by
 unfold similarity_Pattern_a5_F similarity_Pattern_a5
 repeat' with_reducible first | refine Lo.bind2_ ?_ (fun _ _ => ?_) | exact similarity_Number_le k _ | exact Lo.rfl_
noncomputable def similarity_Pattern_a6_F (k : Nat) : Option (Int × Int) := some (0, 2)
theorem similarity_Pattern_a6_le (k : Nat) : Lo (similarity_Pattern_a6_F k) (similarity_Pattern_a6) := by
 unfold similarity_Pattern_a6_F similarity_Pattern_a6
 repeat' with_reducible first | exact Lo.rfl_
noncomputable def similarity_Pattern_k1_F (k : Nat) (p0 : List Int) (p1 : List Int) (x1 : Bool) : Option (Int × Int) := if x1 = true then (some (0, 8)) else (if 0 ≤ (p0.length : Int) then (if (p0.length : Int) ≤ 1099511627776 then (bindE (loopF k (fun v : (List Int) × Int => similarity_Pattern_l2_F k p0 p1 v.1 v.2) ((List.replicate ((p0.length : Int).toNat) (0 : Int)), 0)) (fun t => similarity_Pattern_a5_F k t) (fun t => similarity_Pattern_a6_F k)) else none) else none)
theorem similarity_Pattern_k1_le (k : Nat) (p0 : List Int) (p1 : List Int) (x1 : Bool) : Lo (similarity_Pattern_k1_F k p0 p1 x1) (similarity_Pattern_k1 p0 p1 x1) := by
 unfold similarity_Pattern_k1_F similarity_Pattern_k1
 repeat' with_reducible first | refine Lo.ite_ ?_ ?_ | refine Lo.bindE_ ?_ (fun _ => ?_) (fun _ => ?_) | refine Lo.loop_ (fun _ => ?_) | exact similarity_Pattern_a5_le k _ | exact similarity_Pattern_a6_le k | exact similarity_Pattern_l2_le k _ _ _ _ | exact Lo.rfl_
noncomputable def similarity_Pattern_F (k : Nat) (p0 : List Int) (p1 : List Int) : Option (Int × Int) := if ((p0.length : Int) != (p1.length : Int)) = true then (similarity_Pattern_k1_F k p0 p1 true) else ((similarity_fields_F k (p0.length : Int)).bind fun y31 => (similarity_Pattern_k1_F k p0 p1 (!y31)))
theorem similarity_Pattern_le (k : Nat) (p0 : List Int) (p1 : List Int) : Lo (similarity_Pattern_F k p0 p1) (similarity_Pattern p0 p1) := by
 unfold similarity_Pattern_F similarity_Pattern
 repeat' with_reducible first | refine Lo.ite_ ?_ ?_ | refine Lo.bind_ ?_ (fun _ => ?_) | exact similarity_Pattern_k1_le k _ _ _ | exact similarity_fields_le k _ | exact Lo.rfl_
noncomputable def similarity_Digits_l2_F (k : Nat) (p0 : Int) (p1 : Int) (x8 : List Int) (x9 : Int) : Option (((List Int) × Int) ⊕ (List Int)) := if (decide (x9 < p1)) = true then ((similarity_powers_F k).bind fun y12 => (if 0 ≤ x9 then (if x9 < ((6 : Nat) : Int) then (if (y12.getD x9.toNat 0) ≠ 0 then (if x8.length + ([((i64.wrap (p0.tdiv (y12.getD x9.toNat 0))).tmod 3)] : List Int).length ≤ 1099511627776 then (some (.inl ((x8 ++ ([((i64.wrap (p0.tdiv (y12.getD x9.toNat 0))).tmod 3)] : List Int)), i64.wrap (x9 + 1)))) else none) else none) else none) else none)) else (some (.inr x8))
theorem similarity_Digits_l2_le (k : Nat) (p0 : Int) (p1 : Int) (x8 : List Int) (x9 : Int) : Lo (similarity_Digits_l2_F k p0 p1 x8 x9) (similarity_Digits_l2 p0 p1 x8 x9) := by
 unfold similarity_Digits_l2_F similarity_Digits_l2
 repeat' with_reducible first | refine Lo.ite_ ?_ ?_ | refine Lo.bind_ ?_ (fun _ => ?_) | exact similarity_powers_le k | exact Lo.rfl_
noncomputable def similarity_Digits_k1_F (k : Nat) (p0 : Int) (p1 : Int) (x4 : Bool) : Option ((List Int) × Int) := if x4 = true then (some (([] : List Int), 2)) else ((loopF k (fun v : (List Int) × Int => similarity_Digits_l2_F k p0 p1 v.1 v.2) (([] : List Int), 0)).bind fun x18 => (some (x18, 0)))
theorem similarity_Digits_k1_le (k : Nat) (p0 : Int) (p1 : Int) (x4 : Bool) : Lo (similarity_Digits_k1_F k p0 p1 x4) (similarity_Digits_k1 p0 p1 x4) := by
 unfold similarity_Digits_k1_F similarity_Digits_k1
 repeat' with_reducible first | refine Lo.ite_ ?_ ?_ | refine Lo.bind_ ?_ (fun _ => ?_) | refine Lo.loop_ (fun _ => ?_) | exact similarity_Digits_l2_le k _ _ _ _ | exact Lo.rfl_
noncomputable def similarity_Digits_F (k : Nat) (p0 : Int) (p1 : Int) : Option ((List Int) × Int) := (similarity_fields_F k p1).bind fun y1 => (if (!y1) = true then (some (([] : List Int), 8)) else (if (decide (p0 < 0)) = true then (similarity_Digits_k1_F k p0 p1 true) else ((similarity_powers_F k).bind fun y21 => (if 0 ≤ p1 then (if p1 < ((6 : Nat) : Int) then (similarity_Digits_k1_F k p0 p1 (decide (p0 ≥ (y21.getD p1.toNat 0)))) else none) else none))))
theorem similarity_Digits_le (k : Nat) (p0 : Int) (p1 : Int) : Lo (similarity_Digits_F k p0 p1) (similarity_Digits p0 p1) := by
 unfold similarity_Digits_F similarity_Digits
 repeat' with_reducible first | refine Lo.ite_ ?_ ?_ | refine Lo.bind_ ?_ (fun _ => ?_) | exact similarity_Digits_k1_le k _ _ _ | exact similarity_fields_le k _ | exact similarity_powers_le k | exact Lo.rfl_
noncomputable def weight_counts_F (k : Nat) (p0 : S_api_Weights) (p1 : Int) : Option (List Int) := if 0 ≤ p1 then (if p1 < ((p0.Differ.length : Nat) : Int) then (if p1 < ((p0.Agree.length : Nat) : Int) then (some ([0, (p0.Differ.getD p1.toNat 0), (p0.Agree.getD p1.toNat 0)] : List Int)) else none) else none) else none
theorem weight_counts_le (k : Nat) (p0 : S_api_Weights) (p1 : Int) : Lo (weight_counts_F k p0 p1) (weight_counts p0 p1) := by
 unfold weight_counts_F weight_counts
 repeat' with_reducible first | refine Lo.ite_ ?_ ?_ | exact Lo.rfl_
noncomputable def weight_Score_f1_F (k : Nat) (p0 : List Int) (p1 : Int) : Option Int := if 0 ≤ p1 then (if p1 < ((3 : Nat) : Int) then (some (p0.getD (0 + p1.toNat) 0)) else none) else none
theorem weight_Score_f1_le (k : Nat) (p0 : List Int) (p1 : Int) : Lo (weight_Score_f1_F k p0 p1) (weight_Score_f1 p0 p1) := by
 unfold weight_Score_f1_F weight_Score_f1
 repeat' with_reducible first | refine Lo.ite_ ?_ ?_ | exact Lo.rfl_
noncomputable def weight_sum_weight_Score_f1_l1_F (k : Nat) (p0 : S_api_Weights) (y4 : List Int) (x10 : Int) (x11 : Int) : Option ((Int × Int) ⊕ Int) := if (decide (x11 < (y4.length : Int))) = true then (if 0 ≤ x11 then (if x11 < (y4.length : Int) then ((weight_counts_F k p0 x11).bind fun y16 => ((weight_Score_f1_F k y16 (y4.getD (0 + x11.toNat) 0)).bind fun y18 => (some (.inl (i64.wrap (x10 + y18), i64.wrap (x11 + 1)))))) else none) else none) else (some (.inr x10))
theorem weight_sum_weight_Score_f1_l1_le (k : Nat) (p0 : S_api_Weights) (y4 : List Int) (x10 : Int) (x11 : Int) : Lo (weight_sum_weight_Score_f1_l1_F k p0 y4 x10 x11) (weight_sum_weight_Score_f1_l1 p0 y4 x10 x11) := by
 unfold weight_sum_weight_Score_f1_l1_F weight_sum_weight_Score_f1_l1
 repeat' with_reducible first | refine Lo.ite_ ?_ ?_ | refine Lo.bind_ ?_ (fun _ => ?_) | exact weight_Score_f1_le k _ _ | exact weight_counts_le k _ _ | exact Lo.rfl_
noncomputable def weight_sum_weight_Score_f1_F (k : Nat) (p0 : S_api_Weights) (p1 : Int) : Option (Int × Int) := (weight_Check_F k p0).bind fun y1 => (if (y1 != 0) = true then (some (0, y1)) else (bind2 (similarity_Digits_F k p1 ((p0.Agree.length : Nat) : Int)) fun y4 y5 => (if (y5 != 0) = true then (some (0, y5)) else ((loopF k (fun v : Int × Int => weight_sum_weight_Score_f1_l1_F k p0 y4 v.1 v.2) (p0.Prior, 0)).bind fun x20 => (some (x20, 0))))))
theorem weight_sum_weight_Score_f1_le (k : Nat) (p0 : S_api_Weights) (p1 : Int) : Lo (weight_sum_weight_Score_f1_F k p0 p1) (weight_sum_weight_Score_f1 p0 p1) := by
 unfold weight_sum_weight_Score_f1_F weight_sum_weight_Score_f1
 repeat' with_reducible first | refine Lo.ite_ ?_ ?_ | refine Lo.bind_ ?_ (fun _ => ?_) | refine Lo.bind2_ ?_ (fun _ _ => ?_) | refine Lo.loop_ (fun _ => ?_) | exact similarity_Digits_le k _ _ | exact weight_Check_le k _ | exact weight_sum_weight_Score_f1_l1_le k _ _ _ _ | exact Lo.rfl_
noncomputable def weight_Score_F (k : Nat) (p0 : S_api_Weights) (p1 : Int) : Option (Int × Int) := bind2 (weight_sum_weight_Score_f1_F k p0 p1) fun y1 y2 => (some (y1, y2))
theorem weight_Score_le (k : Nat) (p0 : S_api_Weights) (p1 : Int) : Lo (weight_Score_F k p0 p1) (weight_Score p0 p1) := by
 unfold weight_Score_F weight_Score
 repeat' with_reducible first | refine Lo.bind2_ ?_ (fun _ _ => ?_) | exact weight_sum_weight_Score_f1_le k _ _ | exact Lo.rfl_
noncomputable def candidate_compared_F (k : Nat) (p0 : S_api_Weights) (p1 : List Int) (p2 : S_api_Ref) (p3 : S_api_Ref) (p4 : S_api_Sent) (p5 : S_api_Sent) : Option S_api_Candidate := bind2 (similarity_Compare_F k p4.Record p5.Record) fun y1 y2 => (bind2 (similarity_Pattern_F k p1 y1) fun y4 y5 => (bind2 (weight_Score_F k p0 y4) fun y7 y8 => (some (⟨p2, p3, y4, y7⟩ : S_api_Candidate))))
theorem candidate_compared_le (k : Nat) (p0 : S_api_Weights) (p1 : List Int) (p2 : S_api_Ref) (p3 : S_api_Ref) (p4 : S_api_Sent) (p5 : S_api_Sent) : Lo (candidate_compared_F k p0 p1 p2 p3 p4 p5) (candidate_compared p0 p1 p2 p3 p4 p5) := by
 unfold candidate_compared_F candidate_compared
 repeat' with_reducible first | refine Lo.bind2_ ?_ (fun _ _ => ?_) | exact similarity_Compare_le k _ _ | exact similarity_Pattern_le k _ _ | exact weight_Score_le k _ _ | exact Lo.rfl_
noncomputable def candidate_Make_k5_F (k : Nat) (x31 : Int) (x34 : List S_api_Candidate) : Option (((List S_api_Candidate) × Int) ⊕ ((List S_api_Candidate) ⊕ Unit)) := some (.inl (x34, i64.wrap (x31 + 1)))
theorem candidate_Make_k5_le (k : Nat) (x31 : Int) (x34 : List S_api_Candidate) : Lo (candidate_Make_k5_F k x31 x34) (candidate_Make_k5 x31 x34) := by
 unfold candidate_Make_k5_F candidate_Make_k5
 repeat' with_reducible first | exact Lo.rfl_
noncomputable def candidate_Make_l4_F (k : Nat) (p0 : S_api_Weights) (p1 : List Int) (p3 : List (List S_api_Sent)) (x7 : Int) (x15 : Int) (x23 : Int) (x30 : List S_api_Candidate) (x31 : Int) : Option (((List S_api_Candidate) × Int) ⊕ ((List S_api_Candidate) ⊕ Unit)) := if (decide (x31 < (((p3.getD x23.toNat ([] : List S_api_Sent)).length : Nat) : Int))) = true then (if 0 ≤ x31 then (if x31 < (((p3.getD x23.toNat ([] : List S_api_Sent)).length : Nat) : Int) then ((candidate_Agree_F k (⟨(((p3.getD x7.toNat ([] : List S_api_Sent)).getD x15.toNat dS_api_Sent).Record), ((p3.getD x7.toNat ([] : List S_api_Sent)).getD x15.toNat dS_api_Sent).Hashes, ((p3.getD x7.toNat ([] : List S_api_Sent)).getD x15.toNat dS_api_Sent).Has⟩ : S_api_Sent) (⟨(((p3.getD x23.toNat ([] : List S_api_Sent)).getD x31.toNat dS_api_Sent).Record), ((p3.getD x23.toNat ([] : List S_api_Sent)).getD x31.toNat dS_api_Sent).Hashes, ((p3.getD x23.toNat ([] : List S_api_Sent)).getD x31.toNat dS_api_Sent).Has⟩ : S_api_Sent)).bind fun y37 => (if (!y37) = true then (candidate_Make_k5_F k x31 x30) else (if ((x30.length : Int) == 4096) = true then (some (.inr (.inr ()))) else ((candidate_compared_F k p0 p1 (⟨x7, (((p3.getD x7.toNat ([] : List S_api_Sent)).getD x15.toNat dS_api_Sent).Record).ID⟩ : S_api_Ref) (⟨x23, (((p3.getD x23.toNat ([] : List S_api_Sent)).getD x31.toNat dS_api_Sent).Record).ID⟩ : S_api_Ref) (⟨(((p3.getD x7.toNat ([] : List S_api_Sent)).getD x15.toNat dS_api_Sent).Record), ((p3.getD x7.toNat ([] : List S_api_Sent)).getD x15.toNat dS_api_Sent).Hashes, ((p3.getD x7.toNat ([] : List S_api_Sent)).getD x15.toNat dS_api_Sent).Has⟩ : S_api_Sent) (⟨(((p3.getD x23.toNat ([] : List S_api_Sent)).getD x31.toNat dS_api_Sent).Record), ((p3.getD x23.toNat ([] : List S_api_Sent)).getD x31.toNat dS_api_Sent).Hashes, ((p3.getD x23.toNat ([] : List S_api_Sent)).getD x31.toNat dS_api_Sent).Has⟩ : S_api_Sent)).bind fun y41 => (if x30.length + ([y41] : List S_api_Candidate).length ≤ 1099511627776 then (candidate_Make_k5_F k x31 (x30 ++ ([y41] : List S_api_Candidate))) else none))))) else none) else none) else (some (.inr (.inl x30)))
theorem candidate_Make_l4_le (k : Nat) (p0 : S_api_Weights) (p1 : List Int) (p3 : List (List S_api_Sent)) (x7 : Int) (x15 : Int) (x23 : Int) (x30 : List S_api_Candidate) (x31 : Int) : Lo (candidate_Make_l4_F k p0 p1 p3 x7 x15 x23 x30 x31) (candidate_Make_l4 p0 p1 p3 x7 x15 x23 x30 x31) := by
 unfold candidate_Make_l4_F candidate_Make_l4
 repeat' with_reducible first | refine Lo.ite_ ?_ ?_ | refine Lo.bind_ ?_ (fun _ => ?_) | exact candidate_Agree_le k _ _ | exact candidate_Make_k5_le k _ _ | exact candidate_compared_le k _ _ _ _ _ _ | exact Lo.rfl_
noncomputable def candidate_Make_a6_F (k : Nat) (x23 : Int) (x44 : List S_api_Candidate) : Option (((List S_api_Candidate) × Int) ⊕ ((List S_api_Candidate) ⊕ Unit)) := some (.inl (x44, i64.wrap (x23 + 1)))
theorem candidate_Make_a6_le (k : Nat) (x23 : Int) (x44 : List S_api_Candidate) : Lo (candidate_Make_a6_F k x23 x44) (candidate_Make_a6 x23 x44) := by
 unfold candidate_Make_a6_F candidate_Make_a6
 repeat' with_reducible first | exact Lo.rfl_
noncomputable def candidate_Make_a7_F (k : Nat) : Option (((List S_api_Candidate) × Int) ⊕ ((List S_api_Candidate) ⊕ Unit)) := some (.inr (.inr ()))
theorem candidate_Make_a7_le (k : Nat) : Lo (candidate_Make_a7_F k) (candidate_Make_a7) := by
 unfold candidate_Make_a7_F candidate_Make_a7
 repeat' with_reducible first | exact Lo.rfl_
noncomputable def candidate_Make_l3_F (k : Nat) (p0 : S_api_Weights) (p1 : List Int) (p3 : List (List S_api_Sent)) (x7 : Int) (x15 : Int) (x22 : List S_api_Candidate) (x23 : Int) : Option (((List S_api_Candidate) × Int) ⊕ ((List S_api_Candidate) ⊕ Unit)) := if (decide (x23 < (p3.length : Int))) = true then (if 0 ≤ x23 then (if x23 < (p3.length : Int) then (bindE (loopF k (fun v : (List S_api_Candidate) × Int => candidate_Make_l4_F k p0 p1 p3 x7 x15 x23 v.1 v.2) (x22, 0)) (fun t => candidate_Make_a6_F k x23 t) (fun t => candidate_Make_a7_F k)) else none) else none) else (some (.inr (.inl x22)))
theorem candidate_Make_l3_le (k : Nat) (p0 : S_api_Weights) (p1 : List Int) (p3 : List (List S_api_Sent)) (x7 : Int) (x15 : Int) (x22 : List S_api_Candidate) (x23 : Int) : Lo (candidate_Make_l3_F k p0 p1 p3 x7 x15 x22 x23) (candidate_Make_l3 p0 p1 p3 x7 x15 x22 x23) := by
 unfold candidate_Make_l3_F candidate_Make_l3
 repeat' with_reducible first | refine Lo.ite_ ?_ ?_ | refine Lo.bindE_ ?_ (fun _ => ?_) (fun _ => ?_) | refine Lo.loop_ (fun _ => ?_) | exact candidate_Make_a6_le k _ _ | exact candidate_Make_a7_le k | exact candidate_Make_l4_le k _ _ _ _ _ _ _ _ | exact Lo.rfl_
noncomputable def candidate_Make_a8_F (k : Nat) (x15 : Int) (x46 : List S_api_Candidate) : Option (((List S_api_Candidate) × Int) ⊕ ((List S_api_Candidate) ⊕ Unit)) := some (.inl (x46, i64.wrap (x15 + 1)))
theorem candidate_Make_a8_le (k : Nat) (x15 : Int) (x46 : List S_api_Candidate) : Lo (candidate_Make_a8_F k x15 x46) (candidate_Make_a8 x15 x46) := by
 unfold candidate_Make_a8_F candidate_Make_a8
 repeat' with_reducible first | exact Lo.rfl_
noncomputable def candidate_Make_a9_F (k : Nat) : Option (((List S_api_Candidate) × Int) ⊕ ((List S_api_Candidate) ⊕ Unit)) := some (.inr (.inr ()))
theorem candidate_Make_a9_le (k : Nat) : Lo (candidate_Make_a9_F k) (candidate_Make_a9) := by
 unfold candidate_Make_a9_F candidate_Make_a9
 repeat' with_reducible first | exact Lo.rfl_
noncomputable def candidate_Make_l2_F (k : Nat) (p0 : S_api_Weights) (p1 : List Int) (p3 : List (List S_api_Sent)) (x7 : Int) (x14 : List S_api_Candidate) (x15 : Int) : Option (((List S_api_Candidate) × Int) ⊕ ((List S_api_Candidate) ⊕ Unit)) := if (decide (x15 < (((p3.getD x7.toNat ([] : List S_api_Sent)).length : Nat) : Int))) = true then (if 0 ≤ x15 then (if x15 < (((p3.getD x7.toNat ([] : List S_api_Sent)).length : Nat) : Int) then (bindE (loopF k (fun v : (List S_api_Candidate) × Int => candidate_Make_l3_F k p0 p1 p3 x7 x15 v.1 v.2) (x14, i64.wrap (x7 + 1))) (fun t => candidate_Make_a8_F k x15 t) (fun t => candidate_Make_a9_F k)) else none) else none) else (some (.inr (.inl x14)))
theorem candidate_Make_l2_le (k : Nat) (p0 : S_api_Weights) (p1 : List Int) (p3 : List (List S_api_Sent)) (x7 : Int) (x14 : List S_api_Candidate) (x15 : Int) : Lo (candidate_Make_l2_F k p0 p1 p3 x7 x14 x15) (candidate_Make_l2 p0 p1 p3 x7 x14 x15) := by
 unfold candidate_Make_l2_F candidate_Make_l2
 repeat' with_reducible first | refine Lo.ite_ ?_ ?_ | refine Lo.bindE_ ?_ (fun _ => ?_) (fun _ => ?_) | refine Lo.loop_ (fun _ => ?_) | exact candidate_Make_a8_le k _ _ | exact candidate_Make_a9_le k | exact candidate_Make_l3_le k _ _ _ _ _ _ _ | exact Lo.rfl_
noncomputable def candidate_Make_a10_F (k : Nat) (x7 : Int) (x48 : List S_api_Candidate) : Option (((List S_api_Candidate) × Int) ⊕ ((List S_api_Candidate) ⊕ Unit)) := some (.inl (x48, i64.wrap (x7 + 1)))
theorem candidate_Make_a10_le (k : Nat) (x7 : Int) (x48 : List S_api_Candidate) : Lo (candidate_Make_a10_F k x7 x48) (candidate_Make_a10 x7 x48) := by
 unfold candidate_Make_a10_F candidate_Make_a10
 repeat' with_reducible first | exact Lo.rfl_
noncomputable def candidate_Make_a11_F (k : Nat) : Option (((List S_api_Candidate) × Int) ⊕ ((List S_api_Candidate) ⊕ Unit)) := some (.inr (.inr ()))
theorem candidate_Make_a11_le (k : Nat) : Lo (candidate_Make_a11_F k) (candidate_Make_a11) := by
 unfold candidate_Make_a11_F candidate_Make_a11
 repeat' with_reducible first | exact Lo.rfl_
noncomputable def candidate_Make_l1_F (k : Nat) (p0 : S_api_Weights) (p1 : List Int) (p3 : List (List S_api_Sent)) (x6 : List S_api_Candidate) (x7 : Int) : Option (((List S_api_Candidate) × Int) ⊕ ((List S_api_Candidate) ⊕ Unit)) := if (decide (x7 < (p3.length : Int))) = true then (if 0 ≤ x7 then (if x7 < (p3.length : Int) then (bindE (loopF k (fun v : (List S_api_Candidate) × Int => candidate_Make_l2_F k p0 p1 p3 x7 v.1 v.2) (x6, 0)) (fun t => candidate_Make_a10_F k x7 t) (fun t => candidate_Make_a11_F k)) else none) else none) else (some (.inr (.inl x6)))
theorem candidate_Make_l1_le (k : Nat) (p0 : S_api_Weights) (p1 : List Int) (p3 : List (List S_api_Sent)) (x6 : List S_api_Candidate) (x7 : Int) : Lo (candidate_Make_l1_F k p0 p1 p3 x6 x7) (candidate_Make_l1 p0 p1 p3 x6 x7) := by
 unfold candidate_Make_l1_F candidate_Make_l1
 repeat' with_reducible first | refine Lo.ite_ ?_ ?_ | refine Lo.bindE_ ?_ (fun _ => ?_) (fun _ => ?_) | refine Lo.loop_ (fun _ => ?_) | exact candidate_Make_a10_le k _ _ | exact candidate_Make_a11_le k | exact candidate_Make_l2_le k _ _ _ _ _ _ | exact Lo.rfl_
noncomputable def candidate_Make_a12_F (k : Nat) (x50 : List S_api_Candidate) : Option ((List S_api_Candidate) × Int) := some (x50, 0)
theorem candidate_Make_a12_le (k : Nat) (x50 : List S_api_Candidate) : Lo (candidate_Make_a12_F k x50) (candidate_Make_a12 x50) := by
 unfold candidate_Make_a12_F candidate_Make_a12
 repeat' with_reducible first | exact Lo.rfl_
noncomputable def candidate_Make_a13_F (k : Nat) : Option ((List S_api_Candidate) × Int) := some (([] : List S_api_Candidate), 1)
theorem candidate_Make_a13_le (k : Nat) : Lo (candidate_Make_a13_F k) (candidate_Make_a13) := by
 unfold candidate_Make_a13_F candidate_Make_a13
 repeat' with_reducible first | exact Lo.rfl_
noncomputable def candidate_Make_F (k : Nat) (p0 : S_api_Weights) (p1 : List Int) (p2 : Int) (p3 : List (List S_api_Sent)) : Option ((List S_api_Candidate) × Int) := (candidate_check_F k p0 p1 p2 p3).bind fun y1 => (if (y1 != 0) = true then (some (([] : List S_api_Candidate), y1)) else (bindE (loopF k (fun v : (List S_api_Candidate) × Int => candidate_Make_l1_F k p0 p1 p3 v.1 v.2) (([] : List S_api_Candidate), 0)) (fun t => candidate_Make_a12_F k t) (fun t => candidate_Make_a13_F k)))
theorem candidate_Make_le (k : Nat) (p0 : S_api_Weights) (p1 : List Int) (p2 : Int) (p3 : List (List S_api_Sent)) : Lo (candidate_Make_F k p0 p1 p2 p3) (candidate_Make p0 p1 p2 p3) := by
 unfold candidate_Make_F candidate_Make
 repeat' with_reducible first | refine Lo.ite_ ?_ ?_ | refine Lo.bind_ ?_ (fun _ => ?_) | refine Lo.bindE_ ?_ (fun _ => ?_) (fun _ => ?_) | refine Lo.loop_ (fun _ => ?_) | exact candidate_Make_a12_le k _ | exact candidate_Make_a13_le k | exact candidate_Make_l1_le k _ _ _ _ _ | exact candidate_check_le k _ _ _ _ | exact Lo.rfl_
noncomputable def rl_law26_awake_k1_F (k : Nat) (x4 : Bool) : Option Bool := some x4
theorem rl_law26_awake_k1_le (k : Nat) (x4 : Bool) : Lo (rl_law26_awake_k1_F k x4) (rl_law26_awake_k1 x4) := by
 unfold rl_law26_awake_k1_F rl_law26_awake_k1
 repeat' with_reducible first | exact Lo.rfl_
noncomputable def rl_law26_awake_F (k : Nat) : Option Bool := bind2 (candidate_Make_F k (⟨3, ([5] : List Int), ([(-5)] : List Int)⟩ : S_api_Weights) ([800] : List Int) 1 ([([(⟨(⟨4, 1, ([(⟨0, ([] : List Int)⟩ : S_api_Bits)] : List S_api_Bits)⟩ : S_api_Encoded), ([7] : List Int), ([true] : List Bool)⟩ : S_api_Sent)] : List S_api_Sent), ([(⟨(⟨4, 1, ([(⟨0, ([] : List Int)⟩ : S_api_Bits)] : List S_api_Bits)⟩ : S_api_Encoded), ([7] : List Int), ([true] : List Bool)⟩ : S_api_Sent)] : List S_api_Sent)] : List (List S_api_Sent))) fun y1 y2 => (if (y2 == 0) = true then (if ((y1.length : Int) == 1) = true then (if (0 : Int) < (y1.length : Int) then (if (((y1.getD (0 + 0) dS_api_Candidate).Weight) == 3) = true then (if (((y1.getD (0 + 0) dS_api_Candidate).Pattern) == 0) = true then (if (((((y1.getD (0 + 0) dS_api_Candidate).B).Registry) == 1) && (((((y1.getD (0 + 0) dS_api_Candidate).B).ID) == 4) && true)) = true then ((candidate_Agree_F k (⟨(⟨4, 1, ([(⟨0, ([] : List Int)⟩ : S_api_Bits)] : List S_api_Bits)⟩ : S_api_Encoded), ([7] : List Int), ([true] : List Bool)⟩ : S_api_Sent) (⟨(⟨4, 1, ([(⟨0, ([] : List Int)⟩ : S_api_Bits)] : List S_api_Bits)⟩ : S_api_Encoded), ([7] : List Int), ([true] : List Bool)⟩ : S_api_Sent)).bind fun y11 => (if y11 = true then ((candidate_Check_F k 1 1 ([(⟨(⟨4, 1, ([(⟨0, ([] : List Int)⟩ : S_api_Bits)] : List S_api_Bits)⟩ : S_api_Encoded), ([7] : List Int), ([true] : List Bool)⟩ : S_api_Sent)] : List S_api_Sent)).bind fun y14 => (rl_law26_awake_k1_F k (y14 == 0))) else (rl_law26_awake_k1_F k false))) else (rl_law26_awake_k1_F k false)) else (rl_law26_awake_k1_F k false)) else (rl_law26_awake_k1_F k false)) else none) else (rl_law26_awake_k1_F k false)) else (rl_law26_awake_k1_F k false))
theorem rl_law26_awake_le (k : Nat) : Lo (rl_law26_awake_F k) (rl_law26_awake) := by
 unfold rl_law26_awake_F rl_law26_awake
 repeat' with_reducible first | refine Lo.ite_ ?_ ?_ | refine Lo.bind_ ?_ (fun _ => ?_) | refine Lo.bind2_ ?_ (fun _ _ => ?_) | exact candidate_Agree_le k _ _ | exact candidate_Check_le k _ _ _ | exact candidate_Make_le k _ _ _ _ | exact rl_law26_awake_k1_le k _ | exact Lo.rfl_
end Go.Proofs.Ytknlckjpgmjenaa
