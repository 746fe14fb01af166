/- Printed by a program of mine (vmgen.py): Go functions, and what they come to. -/
import Derived.Test.YteholdifeilkkaaVr
import Derived.Test.YteholdifeilkkaaRows
import Derived.Test.YteholdifeilkkaaG0
import Derived.Test.YteholdifeilkkaaVq
namespace Go.Proofs.Yteholdifeilkkaa
open Vm
open IntKind (i64 u64 u32 u8)
set_option maxHeartbeats 10000000
set_option linter.unusedVariables false
set_option linter.unusedSimpArgs false
set_option linter.constructorNameAsVariable false
noncomputable def bitset_right_k1_F (k : Nat) (x1 : Bool) : Option Bool := some x1
theorem bitset_right_k1_le (k : Nat) (x1 : Bool) : Lo (bitset_right_k1_F k x1) (bitset_right_k1 x1) := by
 unfold bitset_right_k1_F bitset_right_k1
 repeat' with_reducible first | exact Lo.rfl_
noncomputable def bitset_right_F (k : Nat) (p0 : Int) : Option Bool := if (decide (p0 ≥ 64)) = true then (if (decide (p0 ≤ 512)) = true then (bitset_right_k1_F k ((p0.tmod 64) == 0)) else (bitset_right_k1_F k false)) else (bitset_right_k1_F k false)
theorem bitset_right_le (k : Nat) (p0 : Int) : Lo (bitset_right_F k p0) (bitset_right p0) := by
 unfold bitset_right_F bitset_right
 repeat' with_reducible first | refine Lo.ite_ ?_ ?_ | exact bitset_right_k1_le k _ | exact Lo.rfl_
noncomputable def bitset_New_F (k : Nat) (p0 : Int) : Option (S_api_Bits × Int) := (bitset_right_F k p0).bind fun y1 => (if (!y1) = true then (some ((⟨0, ([] : List Int)⟩ : S_api_Bits), 2)) else (if 0 ≤ (i64.wrap (p0.tdiv 64)) then (if (i64.wrap (p0.tdiv 64)) ≤ 1099511627776 then (some ((⟨p0, (List.replicate ((i64.wrap (p0.tdiv 64)).toNat) (0 : Int))⟩ : S_api_Bits), 0)) else none) else none))
theorem bitset_New_le (k : Nat) (p0 : Int) : Lo (bitset_New_F k p0) (bitset_New p0) := by
 unfold bitset_New_F bitset_New
 repeat' with_reducible first | refine Lo.ite_ ?_ ?_ | refine Lo.bind_ ?_ (fun _ => ?_) | exact bitset_right_le k _ | exact Lo.rfl_
noncomputable def bitset_Valid_k1_F (k : Nat) (x1 : Bool) : Option Bool := some x1
theorem bitset_Valid_k1_le (k : Nat) (x1 : Bool) : Lo (bitset_Valid_k1_F k x1) (bitset_Valid_k1 x1) := by
 unfold bitset_Valid_k1_F bitset_Valid_k1
 repeat' with_reducible first | exact Lo.rfl_
noncomputable def bitset_Valid_F (k : Nat) (p0 : S_api_Bits) : Option Bool := (bitset_right_F k p0.Length).bind fun y2 => (if y2 = true then (bitset_Valid_k1_F k (((p0.Words.length : Nat) : Int) == (i64.wrap (p0.Length.tdiv 64)))) else (bitset_Valid_k1_F k false))
theorem bitset_Valid_le (k : Nat) (p0 : S_api_Bits) : Lo (bitset_Valid_F k p0) (bitset_Valid p0) := by
 unfold bitset_Valid_F bitset_Valid
 repeat' with_reducible first | refine Lo.ite_ ?_ ?_ | refine Lo.bind_ ?_ (fun _ => ?_) | exact bitset_Valid_k1_le k _ | exact bitset_right_le k _ | exact Lo.rfl_
noncomputable def slices_Clone_uint64_F (k : Nat) (p0 : List Int) : Option (List Int) := Lo.bothD (p0.length = 0) (some ([] : List Int)) (if ([] : List Int).length + p0.length ≤ 1099511627776 then (some (([] : List Int) ++ p0)) else none)
theorem slices_Clone_uint64_le (k : Nat) (p0 : List Int) : Lo (slices_Clone_uint64_F k p0) (slices_Clone_uint64 p0) := by
 unfold slices_Clone_uint64_F slices_Clone_uint64
 repeat' with_reducible first | refine Lo.ite_ ?_ ?_ | refine Lo.bothD_ ?_ ?_ | refine Lo.both_ ?_ | exact Lo.rfl_
noncomputable def bitset_Set_k1_F (k : Nat) (p0 : S_api_Bits) (p1 : Int) (x4 : Bool) : Option (S_api_Bits × Int) := if x4 = true then (some ((⟨0, ([] : List Int)⟩ : S_api_Bits), 2)) else ((slices_Clone_uint64_F k p0.Words).bind fun y6 => (if 0 ≤ (i64.wrap (p1.tdiv 64)) then (if (i64.wrap (p1.tdiv 64)) < (y6.length : Int) then (if 0 ≤ (p1.tmod 64) then (some ((⟨p0.Length, (y6.set (0 + (i64.wrap (p1.tdiv 64)).toNat) (ior .u64 (y6.getD (0 + (i64.wrap (p1.tdiv 64)).toNat) 0) (ishl .u64 1 (p1.tmod 64))))⟩ : S_api_Bits), 0)) else none) else none) else none))
theorem bitset_Set_k1_le (k : Nat) (p0 : S_api_Bits) (p1 : Int) (x4 : Bool) : Lo (bitset_Set_k1_F k p0 p1 x4) (bitset_Set_k1 p0 p1 x4) := by
 unfold bitset_Set_k1_F bitset_Set_k1
 repeat' with_reducible first | refine Lo.ite_ ?_ ?_ | refine Lo.bind_ ?_ (fun _ => ?_) | exact slices_Clone_uint64_le k _ | exact Lo.rfl_
noncomputable def bitset_Set_F (k : Nat) (p0 : S_api_Bits) (p1 : Int) : Option (S_api_Bits × Int) := (bitset_Valid_F k p0).bind fun y1 => (if (!y1) = true then (some ((⟨0, ([] : List Int)⟩ : S_api_Bits), 8)) else (if (decide (p1 < 0)) = true then (bitset_Set_k1_F k p0 p1 true) else (bitset_Set_k1_F k p0 p1 (decide (p1 ≥ p0.Length)))))
theorem bitset_Set_le (k : Nat) (p0 : S_api_Bits) (p1 : Int) : Lo (bitset_Set_F k p0 p1) (bitset_Set p0 p1) := by
 unfold bitset_Set_F bitset_Set
 repeat' with_reducible first | refine Lo.ite_ ?_ ?_ | refine Lo.bind_ ?_ (fun _ => ?_) | exact bitset_Set_k1_le k _ _ _ | exact bitset_Valid_le k _ | exact Lo.rfl_
noncomputable def bitset_Hex_l2_F (k : Nat) (p0 : S_api_Bits) (x7 : Int) (x14 : List Int) (x15 : Int) : Option (((List Int) × Int) ⊕ (List Int)) := if (decide (x15 ≥ 0)) = true then (if 0 ≤ x15 then (if 0 ≤ (iand .u64 (ishr .u64 (p0.Words.getD x7.toNat 0) x15) 15) then (if (iand .u64 (ishr .u64 (p0.Words.getD x7.toNat 0) x15) 15) < (((ByteArray.mk #[48, 49, 50, 51, 52, 53, 54, 55, 56, 57, 97, 98, 99, 100, 101, 102]).size : Nat) : Int) then (if x14.length + ([(((ByteArray.mk #[48, 49, 50, 51, 52, 53, 54, 55, 56, 57, 97, 98, 99, 100, 101, 102]).data.toList.getD ((iand .u64 (ishr .u64 (p0.Words.getD x7.toNat 0) x15) 15).toNat) 0).toNat : Int)] : List Int).length ≤ 1099511627776 then (some (.inl ((x14 ++ ([(((ByteArray.mk #[48, 49, 50, 51, 52, 53, 54, 55, 56, 57, 97, 98, 99, 100, 101, 102]).data.toList.getD ((iand .u64 (ishr .u64 (p0.Words.getD x7.toNat 0) x15) 15).toNat) 0).toNat : Int)] : List Int)), i64.wrap (x15 - 4)))) else none) else none) else none) else none) else (some (.inr x14))
theorem bitset_Hex_l2_le (k : Nat) (p0 : S_api_Bits) (x7 : Int) (x14 : List Int) (x15 : Int) : Lo (bitset_Hex_l2_F k p0 x7 x14 x15) (bitset_Hex_l2 p0 x7 x14 x15) := by
 unfold bitset_Hex_l2_F bitset_Hex_l2
 repeat' with_reducible first | refine Lo.ite_ ?_ ?_ | exact Lo.rfl_
noncomputable def bitset_Hex_l1_F (k : Nat) (p0 : S_api_Bits) (x6 : List Int) (x7 : Int) : Option (((List Int) × Int) ⊕ (List Int)) := if (decide (x7 < ((p0.Words.length : Nat) : Int))) = true then (if 0 ≤ x7 then (if x7 < ((p0.Words.length : Nat) : Int) then ((loopF k (fun v : (List Int) × Int => bitset_Hex_l2_F k p0 x7 v.1 v.2) (x6, 60)).bind fun x22 => (some (.inl (x22, i64.wrap (x7 + 1))))) else none) else none) else (some (.inr x6))
theorem bitset_Hex_l1_le (k : Nat) (p0 : S_api_Bits) (x6 : List Int) (x7 : Int) : Lo (bitset_Hex_l1_F k p0 x6 x7) (bitset_Hex_l1 p0 x6 x7) := by
 unfold bitset_Hex_l1_F bitset_Hex_l1
 repeat' with_reducible first | refine Lo.ite_ ?_ ?_ | refine Lo.bind_ ?_ (fun _ => ?_) | refine Lo.loop_ (fun _ => ?_) | exact bitset_Hex_l2_le k _ _ _ _ | exact Lo.rfl_
noncomputable def bitset_Hex_F (k : Nat) (p0 : S_api_Bits) : Option (ByteArray × Int) := (bitset_Valid_F k p0).bind fun y1 => (if (!y1) = true then (some ((ByteArray.mk #[]), 8)) else ((loopF k (fun v : (List Int) × Int => bitset_Hex_l1_F k p0 v.1 v.2) (([] : List Int), 0)).bind fun x24 => (some ((strOf x24), 0))))
theorem bitset_Hex_le (k : Nat) (p0 : S_api_Bits) : Lo (bitset_Hex_F k p0) (bitset_Hex p0) := by
 unfold bitset_Hex_F bitset_Hex
 repeat' with_reducible first | refine Lo.ite_ ?_ ?_ | refine Lo.bind_ ?_ (fun _ => ?_) | refine Lo.loop_ (fun _ => ?_) | exact bitset_Hex_l1_le k _ _ _ | exact bitset_Valid_le k _ | exact Lo.rfl_
noncomputable def bits_OnesCount64_F (k : Nat) (p0 : Int) : Option Int := (some (u64.wrap ((iand .u64 (ishr .u64 p0 1) 6148914691236517205) + (iand .u64 p0 6148914691236517205)))).bind fun z1 => ((some (u64.wrap ((iand .u64 (ishr .u64 z1 2) 3689348814741910323) + (iand .u64 z1 3689348814741910323)))).bind fun z3 => ((some (iand .u64 (u64.wrap ((ishr .u64 z3 4) + z3)) 1085102592571150095)).bind fun z5 => ((some (u64.wrap ((u64.wrap (z5 + (ishr .u64 z5 8))) + (ishr .u64 (u64.wrap (z5 + (ishr .u64 z5 8))) 16)))).bind fun z7 => ((some (iand .i64 (i64.wrap (u64.wrap (z7 + (ishr .u64 z7 32)))) 127)).bind fun z9 => (some z9)))))
theorem bits_OnesCount64_le (k : Nat) (p0 : Int) : Lo (bits_OnesCount64_F k p0) (bits_OnesCount64 p0) := by
 unfold bits_OnesCount64_F bits_OnesCount64
 repeat' with_reducible first | refine Lo.bind_ ?_ (fun _ => ?_) | exact Lo.rfl_
noncomputable def bitset_Count_l1_F (k : Nat) (p0 : S_api_Bits) (x6 : Int) (x7 : Int) : Option ((Int × Int) ⊕ Int) := if (decide (x7 < ((p0.Words.length : Nat) : Int))) = true then (if 0 ≤ x7 then (if x7 < ((p0.Words.length : Nat) : Int) then ((bits_OnesCount64_F k (p0.Words.getD x7.toNat 0)).bind fun y12 => (some (.inl (i64.wrap (x6 + y12), i64.wrap (x7 + 1))))) else none) else none) else (some (.inr x6))
theorem bitset_Count_l1_le (k : Nat) (p0 : S_api_Bits) (x6 : Int) (x7 : Int) : Lo (bitset_Count_l1_F k p0 x6 x7) (bitset_Count_l1 p0 x6 x7) := by
 unfold bitset_Count_l1_F bitset_Count_l1
 repeat' with_reducible first | refine Lo.ite_ ?_ ?_ | refine Lo.bind_ ?_ (fun _ => ?_) | exact bits_OnesCount64_le k _ | exact Lo.rfl_
noncomputable def bitset_Count_F (k : Nat) (p0 : S_api_Bits) : Option Int := (bitset_Valid_F k p0).bind fun y1 => (if (!y1) = true then (some 0) else ((loopF k (fun v : Int × Int => bitset_Count_l1_F k p0 v.1 v.2) (0, 0)).bind fun x14 => (some x14)))
theorem bitset_Count_le (k : Nat) (p0 : S_api_Bits) : Lo (bitset_Count_F k p0) (bitset_Count p0) := by
 unfold bitset_Count_F bitset_Count
 repeat' with_reducible first | refine Lo.ite_ ?_ ?_ | refine Lo.bind_ ?_ (fun _ => ?_) | refine Lo.loop_ (fun _ => ?_) | exact bitset_Count_l1_le k _ _ _ | exact bitset_Valid_le k _ | exact Lo.rfl_
noncomputable def bitset_Has_k1_F (k : Nat) (x1 : Bool) : Option Bool := some x1
theorem bitset_Has_k1_le (k : Nat) (x1 : Bool) : Lo (bitset_Has_k1_F k x1) (bitset_Has_k1 x1) := by
 unfold bitset_Has_k1_F bitset_Has_k1
 repeat' with_reducible first | exact Lo.rfl_
noncomputable def bitset_Has_F (k : Nat) (p0 : S_api_Bits) (p1 : Int) : Option Bool := (bitset_Valid_F k p0).bind fun y2 => (if y2 = true then (if (decide (p1 ≥ 0)) = true then (if (decide (p1 < p0.Length)) = true then (if 0 ≤ (i64.wrap (p1.tdiv 64)) then (if (i64.wrap (p1.tdiv 64)) < ((p0.Words.length : Nat) : Int) then (if 0 ≤ (p1.tmod 64) then (bitset_Has_k1_F k ((iand .u64 (ishr .u64 (p0.Words.getD ((i64.wrap (p1.tdiv 64)).toNat) 0) (p1.tmod 64)) 1) == 1)) else none) else none) else none) else (bitset_Has_k1_F k false)) else (bitset_Has_k1_F k false)) else (bitset_Has_k1_F k false))
theorem bitset_Has_le (k : Nat) (p0 : S_api_Bits) (p1 : Int) : Lo (bitset_Has_F k p0 p1) (bitset_Has p0 p1) := by
 unfold bitset_Has_F bitset_Has
 repeat' with_reducible first | refine Lo.ite_ ?_ ?_ | refine Lo.bind_ ?_ (fun _ => ?_) | exact bitset_Has_k1_le k _ | exact bitset_Valid_le k _ | exact Lo.rfl_
noncomputable def rl_law09_awake_k1_F (k : Nat) (x13 : Bool) : Option Bool := some x13
theorem rl_law09_awake_k1_le (k : Nat) (x13 : Bool) : Lo (rl_law09_awake_k1_F k x13) (rl_law09_awake_k1 x13) := by
 unfold rl_law09_awake_k1_F rl_law09_awake_k1
 repeat' with_reducible first | exact Lo.rfl_
noncomputable def rl_law09_awake_F (k : Nat) : Option Bool := bind2 (bitset_New_F k 64) fun y1 y2 => (bind2 (bitset_Set_F k y1 63) fun y4 y5 => (bind2 (bitset_Set_F k y4 0) fun y7 y8 => (bind2 (bitset_Hex_F k y7) fun y10 y11 => (if (y2 == 0) = true then (if (y5 == 0) = true then (if (y8 == 0) = true then (if (y11 == 0) = true then (if (y10.toList == (ByteArray.mk #[56, 48, 48, 48, 48, 48, 48, 48, 48, 48, 48, 48, 48, 48, 48, 49]).toList) = true then ((bitset_Count_F k y7).bind fun y19 => (if (y19 == 2) = true then ((bitset_Has_F k y7 63).bind fun y22 => (if y22 = true then ((bitset_Has_F k y7 1).bind fun y25 => (rl_law09_awake_k1_F k (!y25))) else (rl_law09_awake_k1_F k false))) else (rl_law09_awake_k1_F k false))) else (rl_law09_awake_k1_F k false)) else (rl_law09_awake_k1_F k false)) else (rl_law09_awake_k1_F k false)) else (rl_law09_awake_k1_F k false)) else (rl_law09_awake_k1_F k false)))))
theorem rl_law09_awake_le (k : Nat) : Lo (rl_law09_awake_F k) (rl_law09_awake) := by
 unfold rl_law09_awake_F rl_law09_awake
 repeat' with_reducible first | refine Lo.ite_ ?_ ?_ | refine Lo.bind_ ?_ (fun _ => ?_) | refine Lo.bind2_ ?_ (fun _ _ => ?_) | exact bitset_Count_le k _ | exact bitset_Has_le k _ _ | exact bitset_Hex_le k _ | exact bitset_New_le k _ | exact bitset_Set_le k _ _ | exact rl_law09_awake_k1_le k _ | exact Lo.rfl_
end Go.Proofs.Yteholdifeilkkaa
