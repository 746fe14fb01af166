/- Printed by a program of mine (vmgen.py): Go functions, and what they come to. -/
import Derived.Test.YtfnojcalalncbaaVr
import Derived.Test.YtfnojcalalncbaaRows
import Derived.Test.YtfnojcalalncbaaG0
import Derived.Test.YtfnojcalalncbaaVq
namespace Go.Proofs.Ytfnojcalalncbaa
open Vm
open IntKind (i64 u64 u32 u8)
set_option maxHeartbeats 10000000
set_option linter.unusedVariables false
set_option linter.unusedSimpArgs false
set_option linter.constructorNameAsVariable false
noncomputable def bitset_right_k1_F (k : Nat) (x1 : Bool) : Option Bool := some x1
theorem bitset_right_k1_le (k : Nat) (x1 : Bool) : Lo (bitset_right_k1_F k x1) (bitset_right_k1 x1) := by
 unfold bitset_right_k1_F bitset_right_k1
 repeat' with_reducible first | exact Lo.rfl_
noncomputable def bitset_right_F (k : Nat) (p0 : Int) : Option Bool := if (decide (p0 ≥ 64)) = true then (if (decide (p0 ≤ 512)) = true then (bitset_right_k1_F k ((p0.tmod 64) == 0)) else (bitset_right_k1_F k false)) else (bitset_right_k1_F k false)
theorem bitset_right_le (k : Nat) (p0 : Int) : Lo (bitset_right_F k p0) (bitset_right p0) := by
 unfold bitset_right_F bitset_right
 repeat' with_reducible first | refine Lo.ite_ ?_ ?_ | exact bitset_right_k1_le k _ | exact Lo.rfl_
noncomputable def bitset_New_F (k : Nat) (p0 : Int) : Option (S_api_Bits × Int) := (bitset_right_F k p0).bind fun y1 => (if (!y1) = true then (some ((⟨0, ([] : List Int)⟩ : S_api_Bits), 2)) else (if 0 ≤ (i64.wrap (p0.tdiv 64)) then (if (i64.wrap (p0.tdiv 64)) ≤ 1099511627776 then (some ((⟨p0, (List.replicate ((i64.wrap (p0.tdiv 64)).toNat) (0 : Int))⟩ : S_api_Bits), 0)) else none) else none))
theorem bitset_New_le (k : Nat) (p0 : Int) : Lo (bitset_New_F k p0) (bitset_New p0) := by
 unfold bitset_New_F bitset_New
 repeat' with_reducible first | refine Lo.ite_ ?_ ?_ | refine Lo.bind_ ?_ (fun _ => ?_) | exact bitset_right_le k _ | exact Lo.rfl_
noncomputable def bloom_Check_k1_F (k : Nat) (x5 : Bool) : Option Int := if x5 = true then (some 10) else (some 0)
theorem bloom_Check_k1_le (k : Nat) (x5 : Bool) : Lo (bloom_Check_k1_F k x5) (bloom_Check_k1 x5) := by
 unfold bloom_Check_k1_F bloom_Check_k1
 repeat' with_reducible first | refine Lo.ite_ ?_ ?_ | exact Lo.rfl_
noncomputable def bloom_Check_F (k : Nat) (p0 : S_api_Parameters) : Option Int := bind2 (bitset_New_F k p0.Length) fun y1 y2 => (if (y2 != 0) = true then (some 10) else (if (decide (p0.Hashes < 1)) = true then (bloom_Check_k1_F k true) else (if (decide (p0.Hashes > 16)) = true then (bloom_Check_k1_F k true) else (if (decide (p0.Salt < (-1))) = true then (bloom_Check_k1_F k true) else (bloom_Check_k1_F k (decide (p0.Salt ≥ 5)))))))
theorem bloom_Check_le (k : Nat) (p0 : S_api_Parameters) : Lo (bloom_Check_F k p0) (bloom_Check p0) := by
 unfold bloom_Check_F bloom_Check
 repeat' with_reducible first | refine Lo.ite_ ?_ ?_ | refine Lo.bind2_ ?_ (fun _ _ => ?_) | exact bitset_New_le k _ | exact bloom_Check_k1_le k _ | exact Lo.rfl_
noncomputable def siphash_number_l1_F (k : Nat) (p0 : List Int) (x3 : Int) (x4 : Int) : Option ((Int × Int) ⊕ Int) := if (decide (x4 < (p0.length : Int))) = true then (if 0 ≤ x4 then (if x4 < (p0.length : Int) then (if 0 ≤ (i64.wrap (8 * x4)) then ((some (ior .u64 x3 (ishl .u64 (u64.wrap (p0.getD x4.toNat 0)) (i64.wrap (8 * x4))))).bind fun z10 => (some (.inl (z10, i64.wrap (x4 + 1))))) else none) else none) else none) else (some (.inr x3))
theorem siphash_number_l1_le (k : Nat) (p0 : List Int) (x3 : Int) (x4 : Int) : Lo (siphash_number_l1_F k p0 x3 x4) (siphash_number_l1 p0 x3 x4) := by
 unfold siphash_number_l1_F siphash_number_l1
 repeat' with_reducible first | refine Lo.ite_ ?_ ?_ | refine Lo.bind_ ?_ (fun _ => ?_) | exact Lo.rfl_
noncomputable def siphash_number_F (k : Nat) (p0 : List Int) : Option Int := (loopF k (fun v : Int × Int => siphash_number_l1_F k p0 v.1 v.2) (0, 0)).bind fun x12 => (some x12)
theorem siphash_number_le (k : Nat) (p0 : List Int) : Lo (siphash_number_F k p0) (siphash_number p0) := by
 unfold siphash_number_F siphash_number
 repeat' with_reducible first | refine Lo.bind_ ?_ (fun _ => ?_) | refine Lo.loop_ (fun _ => ?_) | exact siphash_number_l1_le k _ _ _ | exact Lo.rfl_
noncomputable def bits_RotateLeft64_F (k : Nat) (p0 : Int) (p1 : Int) : Option Int := if 0 ≤ (iand .u64 (u64.wrap p1) 63) then (if 0 ≤ (u64.wrap (64 - (iand .u64 (u64.wrap p1) 63))) then ((some (ior .u64 (ishl .u64 p0 (iand .u64 (u64.wrap p1) 63)) (ishr .u64 p0 (u64.wrap (64 - (iand .u64 (u64.wrap p1) 63)))))).bind fun z3 => (some z3)) else none) else none
theorem bits_RotateLeft64_le (k : Nat) (p0 : Int) (p1 : Int) : Lo (bits_RotateLeft64_F k p0 p1) (bits_RotateLeft64 p0 p1) := by
 unfold bits_RotateLeft64_F bits_RotateLeft64
 repeat' with_reducible first | refine Lo.ite_ ?_ ?_ | refine Lo.bind_ ?_ (fun _ => ?_) | exact Lo.rfl_
noncomputable def siphash_state_rounds_l1_F (k : Nat) (p1 : Int) (x6 : Int) (x7 : Int) (x8 : Int) (x9 : Int) (x10 : Int) : Option ((Int × Int × Int × Int × Int) ⊕ (Int × Int × Int × Int)) := if (decide (x6 < p1)) = true then ((bits_RotateLeft64_F k x8 13).bind fun y16 => ((bits_RotateLeft64_F k (u64.wrap (x7 + x8)) 32).bind fun y18 => ((bits_RotateLeft64_F k x10 16).bind fun y20 => ((some (u64.wrap (y18 + (ixor .u64 y20 (u64.wrap (x9 + x10)))))).bind fun z22 => ((bits_RotateLeft64_F k (ixor .u64 y20 (u64.wrap (x9 + x10))) 21).bind fun y24 => ((some (u64.wrap ((u64.wrap (x9 + x10)) + (ixor .u64 y16 (u64.wrap (x7 + x8)))))).bind fun z26 => ((bits_RotateLeft64_F k (ixor .u64 y16 (u64.wrap (x7 + x8))) 17).bind fun y28 => ((bits_RotateLeft64_F k z26 32).bind fun y30 => (some (.inl (i64.wrap (x6 + 1), z22, ixor .u64 y28 z26, y30, ixor .u64 y24 z22))))))))))) else (some (.inr (x7, x8, x9, x10)))
theorem siphash_state_rounds_l1_le (k : Nat) (p1 : Int) (x6 : Int) (x7 : Int) (x8 : Int) (x9 : Int) (x10 : Int) : Lo (siphash_state_rounds_l1_F k p1 x6 x7 x8 x9 x10) (siphash_state_rounds_l1 p1 x6 x7 x8 x9 x10) := by
 unfold siphash_state_rounds_l1_F siphash_state_rounds_l1
 repeat' with_reducible first | refine Lo.ite_ ?_ ?_ | refine Lo.bind_ ?_ (fun _ => ?_) | exact bits_RotateLeft64_le k _ _ | exact Lo.rfl_
noncomputable def siphash_state_rounds_F (k : Nat) (p0 : S_siphash_state) (p1 : Int) : Option S_siphash_state := bind4 (loopF k (fun v : Int × Int × Int × Int × Int => siphash_state_rounds_l1_F k p1 v.1 v.2.1 v.2.2.1 v.2.2.2.1 v.2.2.2.2) (0, p0.a, p0.b, p0.c, p0.d)) fun x32 x33 x34 x35 => (some (⟨x32, x33, x34, x35⟩ : S_siphash_state))
theorem siphash_state_rounds_le (k : Nat) (p0 : S_siphash_state) (p1 : Int) : Lo (siphash_state_rounds_F k p0 p1) (siphash_state_rounds p0 p1) := by
 unfold siphash_state_rounds_F siphash_state_rounds
 repeat' with_reducible first | refine Lo.bind4_ ?_ (fun _ _ _ _ => ?_) | refine Lo.loop_ (fun _ => ?_) | exact siphash_state_rounds_l1_le k _ _ _ _ _ _ | exact Lo.rfl_
noncomputable def siphash_state_word_F (k : Nat) (p0 : S_siphash_state) (p1 : Int) : Option S_siphash_state := (siphash_state_rounds_F k (⟨p0.a, p0.b, p0.c, ixor .u64 p0.d p1⟩ : S_siphash_state) 2).bind fun y1 => (some (⟨ixor .u64 y1.a p1, y1.b, y1.c, y1.d⟩ : S_siphash_state))
theorem siphash_state_word_le (k : Nat) (p0 : S_siphash_state) (p1 : Int) : Lo (siphash_state_word_F k p0 p1) (siphash_state_word p0 p1) := by
 unfold siphash_state_word_F siphash_state_word
 repeat' with_reducible first | refine Lo.bind_ ?_ (fun _ => ?_) | exact siphash_state_rounds_le k _ _ | exact Lo.rfl_
noncomputable def siphash_Sum_l1_F (k : Nat) (x6 : List Int) (x7 : Int) (x8 : Int) (x9 : Int) (x10 : Int) : Option (((List Int) × Int × Int × Int × Int) ⊕ ((List Int) × Int × Int × Int × Int)) := if (decide ((x6.length : Int) ≥ 8)) = true then (if 8 ≤ x6.length then ((siphash_number_F k (x6.take 8)).bind fun y18 => ((siphash_state_word_F k (⟨x7, x8, x9, x10⟩ : S_siphash_state) y18).bind fun y20 => (some (.inl (((x6.drop 8).take (x6.length - 8)), y20.a, y20.b, y20.c, y20.d))))) else none) else (some (.inr (x6, x7, x8, x9, x10)))
theorem siphash_Sum_l1_le (k : Nat) (x6 : List Int) (x7 : Int) (x8 : Int) (x9 : Int) (x10 : Int) : Lo (siphash_Sum_l1_F k x6 x7 x8 x9 x10) (siphash_Sum_l1 x6 x7 x8 x9 x10) := by
 unfold siphash_Sum_l1_F siphash_Sum_l1
 repeat' with_reducible first | refine Lo.ite_ ?_ ?_ | refine Lo.bind_ ?_ (fun _ => ?_) | exact siphash_number_le k _ | exact siphash_state_word_le k _ _ | exact Lo.rfl_
noncomputable def siphash_Sum_F (k : Nat) (p0 : S_api_Key) (p1 : List Int) : Option Int := bind5 (loopF k (fun v : (List Int) × Int × Int × Int × Int => siphash_Sum_l1_F k v.1 v.2.1 v.2.2.1 v.2.2.2.1 v.2.2.2.2) (p1, ixor .u64 p0.A 8317987319222330741, ixor .u64 p0.B 7237128888997146477, ixor .u64 p0.A 7816392313619706465, ixor .u64 p0.B 8387220255154660723)) fun x22 x23 x24 x25 x26 => ((siphash_number_F k x22).bind fun y27 => ((siphash_state_word_F k (⟨x23, x24, x25, x26⟩ : S_siphash_state) (ior .u64 y27 (ishl .u64 (u64.wrap (p1.length : Int)) 56))).bind fun y29 => ((siphash_state_rounds_F k (⟨y29.a, y29.b, ixor .u64 y29.c 255, y29.d⟩ : S_siphash_state) 4).bind fun y31 => (some (ixor .u64 (ixor .u64 (ixor .u64 y31.a y31.b) y31.c) y31.d)))))
theorem siphash_Sum_le (k : Nat) (p0 : S_api_Key) (p1 : List Int) : Lo (siphash_Sum_F k p0 p1) (siphash_Sum p0 p1) := by
 unfold siphash_Sum_F siphash_Sum
 repeat' with_reducible first | refine Lo.bind_ ?_ (fun _ => ?_) | refine Lo.bind5_ ?_ (fun _ _ _ _ _ => ?_) | refine Lo.loop_ (fun _ => ?_) | exact siphash_Sum_l1_le k _ _ _ _ _ | exact siphash_number_le k _ | exact siphash_state_rounds_le k _ _ | exact siphash_state_word_le k _ _ | exact Lo.rfl_
noncomputable def siphash_Parts_l1_F (k : Nat) (p1 : List ByteArray) (x3 : List Int) (x4 : Int) : Option (((List Int) × Int) ⊕ (List Int)) := if (decide (x4 < (p1.length : Int))) = true then (if 0 ≤ x4 then (if x4 < (p1.length : Int) then (if 0 ≤ (if (65535 : Int) < (((p1.getD x4.toNat ByteArray.empty).size : Nat) : Int) then 65535 else (((p1.getD x4.toNat ByteArray.empty).size : Nat) : Int)) then (if ((if (65535 : Int) < (((p1.getD x4.toNat ByteArray.empty).size : Nat) : Int) then 65535 else (((p1.getD x4.toNat ByteArray.empty).size : Nat) : Int)).toNat) ≤ ((p1.getD x4.toNat ByteArray.empty).size) then (if x3.length + ([u8.wrap (ishr .i64 ((((p1.getD x4.toNat ByteArray.empty).extract 0 ((if (65535 : Int) < (((p1.getD x4.toNat ByteArray.empty).size : Nat) : Int) then 65535 else (((p1.getD x4.toNat ByteArray.empty).size : Nat) : Int)).toNat)).size : Nat) : Int) 8), u8.wrap ((((p1.getD x4.toNat ByteArray.empty).extract 0 ((if (65535 : Int) < (((p1.getD x4.toNat ByteArray.empty).size : Nat) : Int) then 65535 else (((p1.getD x4.toNat ByteArray.empty).size : Nat) : Int)).toNat)).size : Nat) : Int)] : List Int).length ≤ 1099511627776 then (if (x3 ++ ([u8.wrap (ishr .i64 ((((p1.getD x4.toNat ByteArray.empty).extract 0 ((if (65535 : Int) < (((p1.getD x4.toNat ByteArray.empty).size : Nat) : Int) then 65535 else (((p1.getD x4.toNat ByteArray.empty).size : Nat) : Int)).toNat)).size : Nat) : Int) 8), u8.wrap ((((p1.getD x4.toNat ByteArray.empty).extract 0 ((if (65535 : Int) < (((p1.getD x4.toNat ByteArray.empty).size : Nat) : Int) then 65535 else (((p1.getD x4.toNat ByteArray.empty).size : Nat) : Int)).toNat)).size : Nat) : Int)] : List Int)).length + ((p1.getD x4.toNat ByteArray.empty).extract 0 ((if (65535 : Int) < (((p1.getD x4.toNat ByteArray.empty).size : Nat) : Int) then 65535 else (((p1.getD x4.toNat ByteArray.empty).size : Nat) : Int)).toNat)).size ≤ 1099511627776 then (some (.inl (((x3 ++ ([u8.wrap (ishr .i64 ((((p1.getD x4.toNat ByteArray.empty).extract 0 ((if (65535 : Int) < (((p1.getD x4.toNat ByteArray.empty).size : Nat) : Int) then 65535 else (((p1.getD x4.toNat ByteArray.empty).size : Nat) : Int)).toNat)).size : Nat) : Int) 8), u8.wrap ((((p1.getD x4.toNat ByteArray.empty).extract 0 ((if (65535 : Int) < (((p1.getD x4.toNat ByteArray.empty).size : Nat) : Int) then 65535 else (((p1.getD x4.toNat ByteArray.empty).size : Nat) : Int)).toNat)).size : Nat) : Int)] : List Int)) ++ (bytesL ((p1.getD x4.toNat ByteArray.empty).extract 0 ((if (65535 : Int) < (((p1.getD x4.toNat ByteArray.empty).size : Nat) : Int) then 65535 else (((p1.getD x4.toNat ByteArray.empty).size : Nat) : Int)).toNat)))), i64.wrap (x4 + 1)))) else none) else none) else none) else none) else none) else none) else (some (.inr x3))
theorem siphash_Parts_l1_le (k : Nat) (p1 : List ByteArray) (x3 : List Int) (x4 : Int) : Lo (siphash_Parts_l1_F k p1 x3 x4) (siphash_Parts_l1 p1 x3 x4) := by
 unfold siphash_Parts_l1_F siphash_Parts_l1
 repeat' with_reducible first | refine Lo.ite_ ?_ ?_ | exact Lo.rfl_
noncomputable def siphash_Parts_F (k : Nat) (p0 : S_api_Key) (p1 : List ByteArray) : Option Int := (loopF k (fun v : (List Int) × Int => siphash_Parts_l1_F k p1 v.1 v.2) (([] : List Int), 0)).bind fun x13 => ((siphash_Sum_F k p0 x13).bind fun y14 => (some y14))
theorem siphash_Parts_le (k : Nat) (p0 : S_api_Key) (p1 : List ByteArray) : Lo (siphash_Parts_F k p0 p1) (siphash_Parts p0 p1) := by
 unfold siphash_Parts_F siphash_Parts
 repeat' with_reducible first | refine Lo.bind_ ?_ (fun _ => ?_) | refine Lo.loop_ (fun _ => ?_) | exact siphash_Parts_l1_le k _ _ _ | exact siphash_Sum_le k _ _ | exact Lo.rfl_
noncomputable def bloom_drawn_F (k : Nat) (p0 : S_api_Parameters) (p1 : S_api_Key) (p2 : ByteArray) : Option (Int × Int × S_api_Parameters × Int) := (siphash_Parts_F k p1 ([(ByteArray.mk #[49]), p2] : List ByteArray)).bind fun y1 => (if (u64.wrap p0.Length) ≠ 0 then ((siphash_Parts_F k p1 ([(ByteArray.mk #[50]), p2] : List ByteArray)).bind fun y4 => (if (u64.wrap (i64.wrap (p0.Length - 1))) ≠ 0 then ((some (i64.wrap (1 + (i64.wrap (y4.tmod (u64.wrap (i64.wrap (p0.Length - 1)))))))).bind fun z7 => (some (i64.wrap (y1.tmod (u64.wrap p0.Length)), z7, p0, i64.wrap (y1.tmod (u64.wrap p0.Length))))) else none)) else none)
theorem bloom_drawn_le (k : Nat) (p0 : S_api_Parameters) (p1 : S_api_Key) (p2 : ByteArray) : Lo (bloom_drawn_F k p0 p1 p2) (bloom_drawn p0 p1 p2) := by
 unfold bloom_drawn_F bloom_drawn
 repeat' with_reducible first | refine Lo.ite_ ?_ ?_ | refine Lo.bind_ ?_ (fun _ => ?_) | exact siphash_Parts_le k _ _ | exact Lo.rfl_
noncomputable def bloom_drawn_f1_F (k : Nat) (pc0 : Int) (pc1 : Int) (pc2 : S_api_Parameters) (pc3 : Int) : Option (Int × Int × Int × S_api_Parameters × Int) := if pc2.Length ≠ 0 then (some (pc0, ((i64.wrap (pc0 + pc1)).tmod pc2.Length), pc1, pc2, pc0)) else none
theorem bloom_drawn_f1_le (k : Nat) (pc0 : Int) (pc1 : Int) (pc2 : S_api_Parameters) (pc3 : Int) : Lo (bloom_drawn_f1_F k pc0 pc1 pc2 pc3) (bloom_drawn_f1 pc0 pc1 pc2 pc3) := by
 unfold bloom_drawn_f1_F bloom_drawn_f1
 repeat' with_reducible first | refine Lo.ite_ ?_ ?_ | exact Lo.rfl_
noncomputable def bloom_Positions_l1_F (k : Nat) (p0 : S_api_Parameters) (x16 : List Int) (x17 : Int) (x18 : Int) (x19 : Int) (x20 : Int) (x21 : Int) (x22 : Int) (x23 : Int) : Option (((List Int) × Int × Int × Int × Int × Int × Int × Int) ⊕ (List Int)) := if (decide (x17 < (((List.replicate p0.Hashes.toNat (0 : Int)).length : Nat) : Int))) = true then (bind5 (bloom_drawn_f1_F k x18 x19 (⟨x20, x21, x22⟩ : S_api_Parameters) x23) fun y26 y27 y28 y29 y30 => (if 0 ≤ x17 then (if x17 < (x16.length : Int) then (some (.inl ((x16.set (0 + x17.toNat) y26), i64.wrap (x17 + 1), y27, y28, y29.Length, y29.Hashes, y29.Salt, y30))) else none) else none)) else (some (.inr x16))
theorem bloom_Positions_l1_le (k : Nat) (p0 : S_api_Parameters) (x16 : List Int) (x17 : Int) (x18 : Int) (x19 : Int) (x20 : Int) (x21 : Int) (x22 : Int) (x23 : Int) : Lo (bloom_Positions_l1_F k p0 x16 x17 x18 x19 x20 x21 x22 x23) (bloom_Positions_l1 p0 x16 x17 x18 x19 x20 x21 x22 x23) := by
 unfold bloom_Positions_l1_F bloom_Positions_l1
 repeat' with_reducible first | refine Lo.ite_ ?_ ?_ | refine Lo.bind5_ ?_ (fun _ _ _ _ _ => ?_) | exact bloom_drawn_f1_le k _ _ _ _ | exact Lo.rfl_
noncomputable def bloom_Positions_F (k : Nat) (p0 : S_api_Parameters) (p1 : S_api_Key) (p2 : ByteArray) : Option ((List Int) × Int) := (bloom_Check_F k p0).bind fun y1 => (if (y1 != 0) = true then (some (([] : List Int), y1)) else (if 0 ≤ p0.Hashes then (if p0.Hashes ≤ 1099511627776 then ((bloom_drawn_F k p0 p1 p2).bind fun y6 => ((loopF k (fun v : (List Int) × Int × Int × Int × Int × Int × Int × Int => bloom_Positions_l1_F k p0 v.1 v.2.1 v.2.2.1 v.2.2.2.1 v.2.2.2.2.1 v.2.2.2.2.2.1 v.2.2.2.2.2.2.1 v.2.2.2.2.2.2.2) ((List.replicate p0.Hashes.toNat (0 : Int)), 0, y6.1, y6.2.1, y6.2.2.1.Length, y6.2.2.1.Hashes, y6.2.2.1.Salt, y6.2.2.2)).bind fun x34 => (some (x34, 0)))) else none) else none))
theorem bloom_Positions_le (k : Nat) (p0 : S_api_Parameters) (p1 : S_api_Key) (p2 : ByteArray) : Lo (bloom_Positions_F k p0 p1 p2) (bloom_Positions p0 p1 p2) := by
 unfold bloom_Positions_F bloom_Positions
 repeat' with_reducible first | refine Lo.ite_ ?_ ?_ | refine Lo.bind_ ?_ (fun _ => ?_) | refine Lo.loop_ (fun _ => ?_) | exact bloom_Check_le k _ | exact bloom_Positions_l1_le k _ _ _ _ _ _ _ _ _ | exact bloom_drawn_le k _ _ _ | exact Lo.rfl_
noncomputable def bloom_Encode_l2_F (k : Nat) (y16 : List Int) (x21 : Int) (x22 : List Int) : Option ((Int × (List Int)) ⊕ (List Int)) := if (decide (x21 < (y16.length : Int))) = true then (if 0 ≤ x21 then (if x21 < (y16.length : Int) then (if 0 ≤ (i64.wrap ((y16.getD (0 + x21.toNat) 0).tdiv 64)) then (if (i64.wrap ((y16.getD (0 + x21.toNat) 0).tdiv 64)) < (x22.length : Int) then (if 0 ≤ ((y16.getD (0 + x21.toNat) 0).tmod 64) then (some (.inl (i64.wrap (x21 + 1), (x22.set (0 + (i64.wrap ((y16.getD (0 + x21.toNat) 0).tdiv 64)).toNat) (ior .u64 (x22.getD (0 + (i64.wrap ((y16.getD (0 + x21.toNat) 0).tdiv 64)).toNat) 0) (ishl .u64 1 ((y16.getD (0 + x21.toNat) 0).tmod 64))))))) else none) else none) else none) else none) else none) else (some (.inr x22))
theorem bloom_Encode_l2_le (k : Nat) (y16 : List Int) (x21 : Int) (x22 : List Int) : Lo (bloom_Encode_l2_F k y16 x21 x22) (bloom_Encode_l2 y16 x21 x22) := by
 unfold bloom_Encode_l2_F bloom_Encode_l2
 repeat' with_reducible first | refine Lo.ite_ ?_ ?_ | exact Lo.rfl_
noncomputable def bloom_Encode_l1_F (k : Nat) (p0 : S_api_Parameters) (p1 : S_api_Key) (p2 : List ByteArray) (x10 : Int) (x11 : List Int) : Option ((Int × (List Int)) ⊕ (List Int)) := if (decide (x10 < (p2.length : Int))) = true then (if 0 ≤ x10 then (if x10 < (p2.length : Int) then (bind2 (bloom_Positions_F k p0 p1 (p2.getD x10.toNat ByteArray.empty)) fun y16 y17 => ((loopF k (fun v : Int × (List Int) => bloom_Encode_l2_F k y16 v.1 v.2) (0, x11)).bind fun x30 => (some (.inl (i64.wrap (x10 + 1), x30))))) else none) else none) else (some (.inr x11))
theorem bloom_Encode_l1_le (k : Nat) (p0 : S_api_Parameters) (p1 : S_api_Key) (p2 : List ByteArray) (x10 : Int) (x11 : List Int) : Lo (bloom_Encode_l1_F k p0 p1 p2 x10 x11) (bloom_Encode_l1 p0 p1 p2 x10 x11) := by
 unfold bloom_Encode_l1_F bloom_Encode_l1
 repeat' with_reducible first | refine Lo.ite_ ?_ ?_ | refine Lo.bind_ ?_ (fun _ => ?_) | refine Lo.bind2_ ?_ (fun _ _ => ?_) | refine Lo.loop_ (fun _ => ?_) | exact bloom_Encode_l2_le k _ _ _ | exact bloom_Positions_le k _ _ _ | exact Lo.rfl_
noncomputable def bloom_Encode_F (k : Nat) (p0 : S_api_Parameters) (p1 : S_api_Key) (p2 : List ByteArray) : Option (S_api_Bits × Int) := (bloom_Check_F k p0).bind fun y1 => (if (y1 != 0) = true then (some ((⟨0, ([] : List Int)⟩ : S_api_Bits), y1)) else (if (decide ((p2.length : Int) > 80)) = true then (some ((⟨0, ([] : List Int)⟩ : S_api_Bits), 1)) else (bind2 (bitset_New_F k p0.Length) fun y5 y6 => ((loopF k (fun v : Int × (List Int) => bloom_Encode_l1_F k p0 p1 p2 v.1 v.2) (0, y5.Words)).bind fun x32 => (some ((⟨y5.Length, x32⟩ : S_api_Bits), 0))))))
theorem bloom_Encode_le (k : Nat) (p0 : S_api_Parameters) (p1 : S_api_Key) (p2 : List ByteArray) : Lo (bloom_Encode_F k p0 p1 p2) (bloom_Encode p0 p1 p2) := by
 unfold bloom_Encode_F bloom_Encode
 repeat' with_reducible first | refine Lo.ite_ ?_ ?_ | refine Lo.bind_ ?_ (fun _ => ?_) | refine Lo.bind2_ ?_ (fun _ _ => ?_) | refine Lo.loop_ (fun _ => ?_) | exact bitset_New_le k _ | exact bloom_Check_le k _ | exact bloom_Encode_l1_le k _ _ _ _ _ | exact Lo.rfl_
noncomputable def rl_ref09_length_k1_F (k : Nat) (x1 : Bool) : Option Bool := some x1
theorem rl_ref09_length_k1_le (k : Nat) (x1 : Bool) : Lo (rl_ref09_length_k1_F k x1) (rl_ref09_length_k1 x1) := by
 unfold rl_ref09_length_k1_F rl_ref09_length_k1
 repeat' with_reducible first | exact Lo.rfl_
noncomputable def rl_ref09_length_F (k : Nat) (p0 : Int) : Option Bool := if (decide (p0 ≥ 64)) = true then (if (decide (p0 ≤ 512)) = true then (rl_ref09_length_k1_F k ((p0.tmod 64) == 0)) else (rl_ref09_length_k1_F k false)) else (rl_ref09_length_k1_F k false)
theorem rl_ref09_length_le (k : Nat) (p0 : Int) : Lo (rl_ref09_length_F k p0) (rl_ref09_length p0) := by
 unfold rl_ref09_length_F rl_ref09_length
 repeat' with_reducible first | refine Lo.ite_ ?_ ?_ | exact rl_ref09_length_k1_le k _ | exact Lo.rfl_
noncomputable def rl_ref09_Valid_k1_F (k : Nat) (x1 : Bool) : Option Bool := some x1
theorem rl_ref09_Valid_k1_le (k : Nat) (x1 : Bool) : Lo (rl_ref09_Valid_k1_F k x1) (rl_ref09_Valid_k1 x1) := by
 unfold rl_ref09_Valid_k1_F rl_ref09_Valid_k1
 repeat' with_reducible first | exact Lo.rfl_
noncomputable def rl_ref09_Valid_F (k : Nat) (p0 : S_api_Bits) : Option Bool := (rl_ref09_length_F k p0.Length).bind fun y2 => (if y2 = true then (rl_ref09_Valid_k1_F k (((p0.Words.length : Nat) : Int) == (i64.wrap (p0.Length.tdiv 64)))) else (rl_ref09_Valid_k1_F k false))
theorem rl_ref09_Valid_le (k : Nat) (p0 : S_api_Bits) : Lo (rl_ref09_Valid_F k p0) (rl_ref09_Valid p0) := by
 unfold rl_ref09_Valid_F rl_ref09_Valid
 repeat' with_reducible first | refine Lo.ite_ ?_ ?_ | refine Lo.bind_ ?_ (fun _ => ?_) | exact rl_ref09_Valid_k1_le k _ | exact rl_ref09_length_le k _ | exact Lo.rfl_
noncomputable def rl_ref09_Has_k1_F (k : Nat) (x1 : Bool) : Option Bool := some x1
theorem rl_ref09_Has_k1_le (k : Nat) (x1 : Bool) : Lo (rl_ref09_Has_k1_F k x1) (rl_ref09_Has_k1 x1) := by
 unfold rl_ref09_Has_k1_F rl_ref09_Has_k1
 repeat' with_reducible first | exact Lo.rfl_
noncomputable def rl_ref09_Has_F (k : Nat) (p0 : S_api_Bits) (p1 : Int) : Option Bool := (rl_ref09_Valid_F k p0).bind fun y2 => (if y2 = true then (if (decide (p1 ≥ 0)) = true then (if (decide (p1 < p0.Length)) = true then (if 0 ≤ (i64.wrap (p1.tdiv 64)) then (if (i64.wrap (p1.tdiv 64)) < ((p0.Words.length : Nat) : Int) then (if 0 ≤ (p1.tmod 64) then (rl_ref09_Has_k1_F k ((iand .u64 (ishr .u64 (p0.Words.getD ((i64.wrap (p1.tdiv 64)).toNat) 0) (p1.tmod 64)) 1) == 1)) else none) else none) else none) else (rl_ref09_Has_k1_F k false)) else (rl_ref09_Has_k1_F k false)) else (rl_ref09_Has_k1_F k false))
theorem rl_ref09_Has_le (k : Nat) (p0 : S_api_Bits) (p1 : Int) : Lo (rl_ref09_Has_F k p0 p1) (rl_ref09_Has p0 p1) := by
 unfold rl_ref09_Has_F rl_ref09_Has
 repeat' with_reducible first | refine Lo.ite_ ?_ ?_ | refine Lo.bind_ ?_ (fun _ => ?_) | exact rl_ref09_Has_k1_le k _ | exact rl_ref09_Valid_le k _ | exact Lo.rfl_
noncomputable def rl_ref09_Count_k3_F (k : Nat) (x4 : Int) (x8 : Int) : Option ((Int × Int) ⊕ Int) := some (.inl (x8, i64.wrap (x4 + 1)))
theorem rl_ref09_Count_k3_le (k : Nat) (x4 : Int) (x8 : Int) : Lo (rl_ref09_Count_k3_F k x4 x8) (rl_ref09_Count_k3 x4 x8) := by
 unfold rl_ref09_Count_k3_F rl_ref09_Count_k3
 repeat' with_reducible first | exact Lo.rfl_
noncomputable def rl_ref09_Count_k2_F (k : Nat) (p0 : S_api_Bits) (x3 : Int) (x4 : Int) (x6 : Bool) : Option ((Int × Int) ⊕ Int) := if x6 = true then ((rl_ref09_Has_F k p0 x4).bind fun y9 => (if y9 = true then (rl_ref09_Count_k3_F k x4 (i64.wrap (x3 + 1))) else (rl_ref09_Count_k3_F k x4 x3))) else (some (.inr x3))
theorem rl_ref09_Count_k2_le (k : Nat) (p0 : S_api_Bits) (x3 : Int) (x4 : Int) (x6 : Bool) : Lo (rl_ref09_Count_k2_F k p0 x3 x4 x6) (rl_ref09_Count_k2 p0 x3 x4 x6) := by
 unfold rl_ref09_Count_k2_F rl_ref09_Count_k2
 repeat' with_reducible first | refine Lo.ite_ ?_ ?_ | refine Lo.bind_ ?_ (fun _ => ?_) | exact rl_ref09_Count_k3_le k _ _ | exact rl_ref09_Has_le k _ _ | exact Lo.rfl_
noncomputable def rl_ref09_Count_l1_F (k : Nat) (p0 : S_api_Bits) (x3 : Int) (x4 : Int) : Option ((Int × Int) ⊕ Int) := (rl_ref09_Valid_F k p0).bind fun y12 => (if y12 = true then (rl_ref09_Count_k2_F k p0 x3 x4 (decide (x4 < p0.Length))) else (rl_ref09_Count_k2_F k p0 x3 x4 false))
theorem rl_ref09_Count_l1_le (k : Nat) (p0 : S_api_Bits) (x3 : Int) (x4 : Int) : Lo (rl_ref09_Count_l1_F k p0 x3 x4) (rl_ref09_Count_l1 p0 x3 x4) := by
 unfold rl_ref09_Count_l1_F rl_ref09_Count_l1
 repeat' with_reducible first | refine Lo.ite_ ?_ ?_ | refine Lo.bind_ ?_ (fun _ => ?_) | exact rl_ref09_Count_k2_le k _ _ _ _ | exact rl_ref09_Valid_le k _ | exact Lo.rfl_
noncomputable def rl_ref09_Count_F (k : Nat) (p0 : S_api_Bits) : Option Int := (loopF k (fun v : Int × Int => rl_ref09_Count_l1_F k p0 v.1 v.2) (0, 0)).bind fun x15 => (some x15)
theorem rl_ref09_Count_le (k : Nat) (p0 : S_api_Bits) : Lo (rl_ref09_Count_F k p0) (rl_ref09_Count p0) := by
 unfold rl_ref09_Count_F rl_ref09_Count
 repeat' with_reducible first | refine Lo.bind_ ?_ (fun _ => ?_) | refine Lo.loop_ (fun _ => ?_) | exact rl_ref09_Count_l1_le k _ _ _ | exact Lo.rfl_
noncomputable def bitset_Valid_k1_F (k : Nat) (x1 : Bool) : Option Bool := some x1
theorem bitset_Valid_k1_le (k : Nat) (x1 : Bool) : Lo (bitset_Valid_k1_F k x1) (bitset_Valid_k1 x1) := by
 unfold bitset_Valid_k1_F bitset_Valid_k1
 repeat' with_reducible first | exact Lo.rfl_
noncomputable def bitset_Valid_F (k : Nat) (p0 : S_api_Bits) : Option Bool := (bitset_right_F k p0.Length).bind fun y2 => (if y2 = true then (bitset_Valid_k1_F k (((p0.Words.length : Nat) : Int) == (i64.wrap (p0.Length.tdiv 64)))) else (bitset_Valid_k1_F k false))
theorem bitset_Valid_le (k : Nat) (p0 : S_api_Bits) : Lo (bitset_Valid_F k p0) (bitset_Valid p0) := by
 unfold bitset_Valid_F bitset_Valid
 repeat' with_reducible first | refine Lo.ite_ ?_ ?_ | refine Lo.bind_ ?_ (fun _ => ?_) | exact bitset_Valid_k1_le k _ | exact bitset_right_le k _ | exact Lo.rfl_
noncomputable def bitset_Has_k1_F (k : Nat) (x1 : Bool) : Option Bool := some x1
theorem bitset_Has_k1_le (k : Nat) (x1 : Bool) : Lo (bitset_Has_k1_F k x1) (bitset_Has_k1 x1) := by
 unfold bitset_Has_k1_F bitset_Has_k1
 repeat' with_reducible first | exact Lo.rfl_
noncomputable def bitset_Has_F (k : Nat) (p0 : S_api_Bits) (p1 : Int) : Option Bool := (bitset_Valid_F k p0).bind fun y2 => (if y2 = true then (if (decide (p1 ≥ 0)) = true then (if (decide (p1 < p0.Length)) = true then (if 0 ≤ (i64.wrap (p1.tdiv 64)) then (if (i64.wrap (p1.tdiv 64)) < ((p0.Words.length : Nat) : Int) then (if 0 ≤ (p1.tmod 64) then (bitset_Has_k1_F k ((iand .u64 (ishr .u64 (p0.Words.getD ((i64.wrap (p1.tdiv 64)).toNat) 0) (p1.tmod 64)) 1) == 1)) else none) else none) else none) else (bitset_Has_k1_F k false)) else (bitset_Has_k1_F k false)) else (bitset_Has_k1_F k false))
theorem bitset_Has_le (k : Nat) (p0 : S_api_Bits) (p1 : Int) : Lo (bitset_Has_F k p0 p1) (bitset_Has p0 p1) := by
 unfold bitset_Has_F bitset_Has
 repeat' with_reducible first | refine Lo.ite_ ?_ ?_ | refine Lo.bind_ ?_ (fun _ => ?_) | exact bitset_Has_k1_le k _ | exact bitset_Valid_le k _ | exact Lo.rfl_
noncomputable def bloom_May_l2_F (k : Nat) (p3 : S_api_Bits) (y1 : List Int) (x7 : Int) : Option (Int ⊕ (Unit ⊕ Unit)) := if (decide (x7 < (y1.length : Int))) = true then (if 0 ≤ x7 then (if x7 < (y1.length : Int) then ((bitset_Has_F k p3 (y1.getD (0 + x7.toNat) 0)).bind fun y11 => (if (!y11) = true then (some (.inr (.inr ()))) else (some (.inl (i64.wrap (x7 + 1)))))) else none) else none) else (some (.inr (.inl ())))
theorem bloom_May_l2_le (k : Nat) (p3 : S_api_Bits) (y1 : List Int) (x7 : Int) : Lo (bloom_May_l2_F k p3 y1 x7) (bloom_May_l2 p3 y1 x7) := by
 unfold bloom_May_l2_F bloom_May_l2
 repeat' with_reducible first | refine Lo.ite_ ?_ ?_ | refine Lo.bind_ ?_ (fun _ => ?_) | exact bitset_Has_le k _ _ | exact Lo.rfl_
noncomputable def bloom_May_a3_F (k : Nat) : Option Bool := some true
theorem bloom_May_a3_le (k : Nat) : Lo (bloom_May_a3_F k) (bloom_May_a3) := by
 unfold bloom_May_a3_F bloom_May_a3
 repeat' with_reducible first | exact Lo.rfl_
noncomputable def bloom_May_a4_F (k : Nat) : Option Bool := some false
theorem bloom_May_a4_le (k : Nat) : Lo (bloom_May_a4_F k) (bloom_May_a4) := by
 unfold bloom_May_a4_F bloom_May_a4
 repeat' with_reducible first | exact Lo.rfl_
noncomputable def bloom_May_k1_F (k : Nat) (p3 : S_api_Bits) (y1 : List Int) (x4 : Bool) : Option Bool := if x4 = true then (some false) else (bindE (loopF k (fun v : Int => bloom_May_l2_F k p3 y1 v) 0) (fun t => bloom_May_a3_F k) (fun t => bloom_May_a4_F k))
theorem bloom_May_k1_le (k : Nat) (p3 : S_api_Bits) (y1 : List Int) (x4 : Bool) : Lo (bloom_May_k1_F k p3 y1 x4) (bloom_May_k1 p3 y1 x4) := by
 unfold bloom_May_k1_F bloom_May_k1
 repeat' with_reducible first | refine Lo.ite_ ?_ ?_ | refine Lo.bindE_ ?_ (fun _ => ?_) (fun _ => ?_) | refine Lo.loop_ (fun _ => ?_) | exact bloom_May_a3_le k | exact bloom_May_a4_le k | exact bloom_May_l2_le k _ _ _ | exact Lo.rfl_
noncomputable def bloom_May_F (k : Nat) (p0 : S_api_Parameters) (p1 : S_api_Key) (p2 : ByteArray) (p3 : S_api_Bits) : Option Bool := bind2 (bloom_Positions_F k p0 p1 p2) fun y1 y2 => (if (y2 != 0) = true then (bloom_May_k1_F k p3 y1 true) else (if (p3.Length != p0.Length) = true then (bloom_May_k1_F k p3 y1 true) else ((bitset_Valid_F k p3).bind fun y17 => (bloom_May_k1_F k p3 y1 (!y17)))))
theorem bloom_May_le (k : Nat) (p0 : S_api_Parameters) (p1 : S_api_Key) (p2 : ByteArray) (p3 : S_api_Bits) : Lo (bloom_May_F k p0 p1 p2 p3) (bloom_May p0 p1 p2 p3) := by
 unfold bloom_May_F bloom_May
 repeat' with_reducible first | refine Lo.ite_ ?_ ?_ | refine Lo.bind_ ?_ (fun _ => ?_) | refine Lo.bind2_ ?_ (fun _ _ => ?_) | exact bitset_Valid_le k _ | exact bloom_May_k1_le k _ _ _ | exact bloom_Positions_le k _ _ _ | exact Lo.rfl_
noncomputable def rl_law14_awake_k1_F (k : Nat) (x7 : Bool) : Option Bool := some x7
theorem rl_law14_awake_k1_le (k : Nat) (x7 : Bool) : Lo (rl_law14_awake_k1_F k x7) (rl_law14_awake_k1 x7) := by
 unfold rl_law14_awake_k1_F rl_law14_awake_k1
 repeat' with_reducible first | exact Lo.rfl_
noncomputable def rl_law14_awake_F (k : Nat) : Option Bool := bind2 (bloom_Encode_F k (⟨64, 1, (-1)⟩ : S_api_Parameters) (⟨0, 0⟩ : S_api_Key) ([(ByteArray.mk #[97, 110])] : List ByteArray)) fun y1 y2 => (bind2 (bloom_Positions_F k (⟨64, 1, (-1)⟩ : S_api_Parameters) (⟨0, 0⟩ : S_api_Key) (ByteArray.mk #[97, 110])) fun y4 y5 => (if (y2 == 0) = true then (if (y5 == 0) = true then (if ((y4.length : Int) == 1) = true then ((rl_ref09_Count_F k y1).bind fun y11 => (if (y11 == 1) = true then ((bloom_May_F k (⟨64, 1, (-1)⟩ : S_api_Parameters) (⟨0, 0⟩ : S_api_Key) (ByteArray.mk #[97, 110]) y1).bind fun y14 => (if y14 = true then ((bloom_Check_F k (⟨64, 1, (-1)⟩ : S_api_Parameters)).bind fun y17 => (rl_law14_awake_k1_F k (y17 == 0))) else (rl_law14_awake_k1_F k false))) else (rl_law14_awake_k1_F k false))) else (rl_law14_awake_k1_F k false)) else (rl_law14_awake_k1_F k false)) else (rl_law14_awake_k1_F k false)))
theorem rl_law14_awake_le (k : Nat) : Lo (rl_law14_awake_F k) (rl_law14_awake) := by
 unfold rl_law14_awake_F rl_law14_awake
 repeat' with_reducible first | refine Lo.ite_ ?_ ?_ | refine Lo.bind_ ?_ (fun _ => ?_) | refine Lo.bind2_ ?_ (fun _ _ => ?_) | exact bloom_Check_le k _ | exact bloom_Encode_le k _ _ _ | exact bloom_May_le k _ _ _ _ | exact bloom_Positions_le k _ _ _ | exact rl_law14_awake_k1_le k _ | exact rl_ref09_Count_le k _ | exact Lo.rfl_
end Go.Proofs.Ytfnojcalalncbaa
