/- Printed by a program of mine (vmgen.py): Go functions, and what they come to. -/
import Derived.Test.YtjedagkkeicpkaaVr
import Derived.Test.YtjedagkkeicpkaaRows
import Derived.Test.YtjedagkkeicpkaaG0
import Derived.Test.YtjedagkkeicpkaaVq
namespace Go.Proofs.Ytjedagkkeicpkaa
open Vm
open IntKind (i64 u64 u32 u8)
set_option maxHeartbeats 10000000
set_option linter.unusedVariables false
set_option linter.unusedSimpArgs false
set_option linter.constructorNameAsVariable false
noncomputable def journal_put_nil_l1_F (k : Nat) (p1 : Int) (x3 : List Int) (x4 : Int) : Option (((List Int) × Int) ⊕ (List Int)) := if (decide (x4 ≥ 0)) = true then (if 0 ≤ (i64.wrap (8 * x4)) then (if x3.length + ([u8.wrap (ishr .u64 p1 (i64.wrap (8 * x4)))] : List Int).length ≤ 1099511627776 then (some (.inl ((x3 ++ ([u8.wrap (ishr .u64 p1 (i64.wrap (8 * x4)))] : List Int)), i64.wrap (x4 - 1)))) else none) else none) else (some (.inr x3))
theorem journal_put_nil_l1_le (k : Nat) (p1 : Int) (x3 : List Int) (x4 : Int) : Lo (journal_put_nil_l1_F k p1 x3 x4) (journal_put_nil_l1 p1 x3 x4) := by
 unfold journal_put_nil_l1_F journal_put_nil_l1
 repeat' with_reducible first | refine Lo.ite_ ?_ ?_ | exact Lo.rfl_
noncomputable def journal_put_nil_F (k : Nat) (p1 : Int) (p2 : Int) : Option (List Int) := (loopF k (fun v : (List Int) × Int => journal_put_nil_l1_F k p1 v.1 v.2) (([] : List Int), i64.wrap (p2 - 1))).bind fun x9 => (some x9)
theorem journal_put_nil_le (k : Nat) (p1 : Int) (p2 : Int) : Lo (journal_put_nil_F k p1 p2) (journal_put_nil p1 p2) := by
 unfold journal_put_nil_F journal_put_nil
 repeat' with_reducible first | refine Lo.bind_ ?_ (fun _ => ?_) | refine Lo.loop_ (fun _ => ?_) | exact journal_put_nil_l1_le k _ _ _ | exact Lo.rfl_
noncomputable def siphash_number_l1_F (k : Nat) (p0 : List Int) (x3 : Int) (x4 : Int) : Option ((Int × Int) ⊕ Int) := if (decide (x4 < (p0.length : Int))) = true then (if 0 ≤ x4 then (if x4 < (p0.length : Int) then (if 0 ≤ (i64.wrap (8 * x4)) then ((some (ior .u64 x3 (ishl .u64 (u64.wrap (p0.getD x4.toNat 0)) (i64.wrap (8 * x4))))).bind fun z10 => (some (.inl (z10, i64.wrap (x4 + 1))))) else none) else none) else none) else (some (.inr x3))
theorem siphash_number_l1_le (k : Nat) (p0 : List Int) (x3 : Int) (x4 : Int) : Lo (siphash_number_l1_F k p0 x3 x4) (siphash_number_l1 p0 x3 x4) := by
 unfold siphash_number_l1_F siphash_number_l1
 repeat' with_reducible first | refine Lo.ite_ ?_ ?_ | refine Lo.bind_ ?_ (fun _ => ?_) | exact Lo.rfl_
noncomputable def siphash_number_F (k : Nat) (p0 : List Int) : Option Int := (loopF k (fun v : Int × Int => siphash_number_l1_F k p0 v.1 v.2) (0, 0)).bind fun x12 => (some x12)
theorem siphash_number_le (k : Nat) (p0 : List Int) : Lo (siphash_number_F k p0) (siphash_number p0) := by
 unfold siphash_number_F siphash_number
 repeat' with_reducible first | refine Lo.bind_ ?_ (fun _ => ?_) | refine Lo.loop_ (fun _ => ?_) | exact siphash_number_l1_le k _ _ _ | exact Lo.rfl_
noncomputable def bits_RotateLeft64_F (k : Nat) (p0 : Int) (p1 : Int) : Option Int := if 0 ≤ (iand .u64 (u64.wrap p1) 63) then (if 0 ≤ (u64.wrap (64 - (iand .u64 (u64.wrap p1) 63))) then ((some (ior .u64 (ishl .u64 p0 (iand .u64 (u64.wrap p1) 63)) (ishr .u64 p0 (u64.wrap (64 - (iand .u64 (u64.wrap p1) 63)))))).bind fun z3 => (some z3)) else none) else none
theorem bits_RotateLeft64_le (k : Nat) (p0 : Int) (p1 : Int) : Lo (bits_RotateLeft64_F k p0 p1) (bits_RotateLeft64 p0 p1) := by
 unfold bits_RotateLeft64_F bits_RotateLeft64
 repeat' with_reducible first | refine Lo.ite_ ?_ ?_ | refine Lo.bind_ ?_ (fun _ => ?_) | exact Lo.rfl_
noncomputable def siphash_state_rounds_l1_F (k : Nat) (p1 : Int) (x6 : Int) (x7 : Int) (x8 : Int) (x9 : Int) (x10 : Int) : Option ((Int × Int × Int × Int × Int) ⊕ (Int × Int × Int × Int)) := if (decide (x6 < p1)) = true then ((bits_RotateLeft64_F k x8 13).bind fun y16 => ((bits_RotateLeft64_F k (u64.wrap (x7 + x8)) 32).bind fun y18 => ((bits_RotateLeft64_F k x10 16).bind fun y20 => ((some (u64.wrap (y18 + (ixor .u64 y20 (u64.wrap (x9 + x10)))))).bind fun z22 => ((bits_RotateLeft64_F k (ixor .u64 y20 (u64.wrap (x9 + x10))) 21).bind fun y24 => ((some (u64.wrap ((u64.wrap (x9 + x10)) + (ixor .u64 y16 (u64.wrap (x7 + x8)))))).bind fun z26 => ((bits_RotateLeft64_F k (ixor .u64 y16 (u64.wrap (x7 + x8))) 17).bind fun y28 => ((bits_RotateLeft64_F k z26 32).bind fun y30 => (some (.inl (i64.wrap (x6 + 1), z22, ixor .u64 y28 z26, y30, ixor .u64 y24 z22))))))))))) else (some (.inr (x7, x8, x9, x10)))
theorem siphash_state_rounds_l1_le (k : Nat) (p1 : Int) (x6 : Int) (x7 : Int) (x8 : Int) (x9 : Int) (x10 : Int) : Lo (siphash_state_rounds_l1_F k p1 x6 x7 x8 x9 x10) (siphash_state_rounds_l1 p1 x6 x7 x8 x9 x10) := by
 unfold siphash_state_rounds_l1_F siphash_state_rounds_l1
 repeat' with_reducible first | refine Lo.ite_ ?_ ?_ | refine Lo.bind_ ?_ (fun _ => ?_) | exact bits_RotateLeft64_le k _ _ | exact Lo.rfl_
noncomputable def siphash_state_rounds_F (k : Nat) (p0 : S_siphash_state) (p1 : Int) : Option S_siphash_state := bind4 (loopF k (fun v : Int × Int × Int × Int × Int => siphash_state_rounds_l1_F k p1 v.1 v.2.1 v.2.2.1 v.2.2.2.1 v.2.2.2.2) (0, p0.a, p0.b, p0.c, p0.d)) fun x32 x33 x34 x35 => (some (⟨x32, x33, x34, x35⟩ : S_siphash_state))
theorem siphash_state_rounds_le (k : Nat) (p0 : S_siphash_state) (p1 : Int) : Lo (siphash_state_rounds_F k p0 p1) (siphash_state_rounds p0 p1) := by
 unfold siphash_state_rounds_F siphash_state_rounds
 repeat' with_reducible first | refine Lo.bind4_ ?_ (fun _ _ _ _ => ?_) | refine Lo.loop_ (fun _ => ?_) | exact siphash_state_rounds_l1_le k _ _ _ _ _ _ | exact Lo.rfl_
noncomputable def siphash_state_word_F (k : Nat) (p0 : S_siphash_state) (p1 : Int) : Option S_siphash_state := (siphash_state_rounds_F k (⟨p0.a, p0.b, p0.c, ixor .u64 p0.d p1⟩ : S_siphash_state) 2).bind fun y1 => (some (⟨ixor .u64 y1.a p1, y1.b, y1.c, y1.d⟩ : S_siphash_state))
theorem siphash_state_word_le (k : Nat) (p0 : S_siphash_state) (p1 : Int) : Lo (siphash_state_word_F k p0 p1) (siphash_state_word p0 p1) := by
 unfold siphash_state_word_F siphash_state_word
 repeat' with_reducible first | refine Lo.bind_ ?_ (fun _ => ?_) | exact siphash_state_rounds_le k _ _ | exact Lo.rfl_
noncomputable def siphash_Sum_l1_F (k : Nat) (x6 : List Int) (x7 : Int) (x8 : Int) (x9 : Int) (x10 : Int) : Option (((List Int) × Int × Int × Int × Int) ⊕ ((List Int) × Int × Int × Int × Int)) := if (decide ((x6.length : Int) ≥ 8)) = true then (if 8 ≤ x6.length then ((siphash_number_F k (x6.take 8)).bind fun y18 => ((siphash_state_word_F k (⟨x7, x8, x9, x10⟩ : S_siphash_state) y18).bind fun y20 => (some (.inl (((x6.drop 8).take (x6.length - 8)), y20.a, y20.b, y20.c, y20.d))))) else none) else (some (.inr (x6, x7, x8, x9, x10)))
theorem siphash_Sum_l1_le (k : Nat) (x6 : List Int) (x7 : Int) (x8 : Int) (x9 : Int) (x10 : Int) : Lo (siphash_Sum_l1_F k x6 x7 x8 x9 x10) (siphash_Sum_l1 x6 x7 x8 x9 x10) := by
 unfold siphash_Sum_l1_F siphash_Sum_l1
 repeat' with_reducible first | refine Lo.ite_ ?_ ?_ | refine Lo.bind_ ?_ (fun _ => ?_) | exact siphash_number_le k _ | exact siphash_state_word_le k _ _ | exact Lo.rfl_
noncomputable def siphash_Sum_F (k : Nat) (p0 : S_api_Key) (p1 : List Int) : Option Int := bind5 (loopF k (fun v : (List Int) × Int × Int × Int × Int => siphash_Sum_l1_F k v.1 v.2.1 v.2.2.1 v.2.2.2.1 v.2.2.2.2) (p1, ixor .u64 p0.A 8317987319222330741, ixor .u64 p0.B 7237128888997146477, ixor .u64 p0.A 7816392313619706465, ixor .u64 p0.B 8387220255154660723)) fun x22 x23 x24 x25 x26 => ((siphash_number_F k x22).bind fun y27 => ((siphash_state_word_F k (⟨x23, x24, x25, x26⟩ : S_siphash_state) (ior .u64 y27 (ishl .u64 (u64.wrap (p1.length : Int)) 56))).bind fun y29 => ((siphash_state_rounds_F k (⟨y29.a, y29.b, ixor .u64 y29.c 255, y29.d⟩ : S_siphash_state) 4).bind fun y31 => (some (ixor .u64 (ixor .u64 (ixor .u64 y31.a y31.b) y31.c) y31.d)))))
theorem siphash_Sum_le (k : Nat) (p0 : S_api_Key) (p1 : List Int) : Lo (siphash_Sum_F k p0 p1) (siphash_Sum p0 p1) := by
 unfold siphash_Sum_F siphash_Sum
 repeat' with_reducible first | refine Lo.bind_ ?_ (fun _ => ?_) | refine Lo.bind5_ ?_ (fun _ _ _ _ _ => ?_) | refine Lo.loop_ (fun _ => ?_) | exact siphash_Sum_l1_le k _ _ _ _ _ | exact siphash_number_le k _ | exact siphash_state_rounds_le k _ _ | exact siphash_state_word_le k _ _ | exact Lo.rfl_
noncomputable def journal_Sum_F (k : Nat) (p0 : Int) (p1 : ByteArray) : Option Int := (journal_put_nil_F k p0 8).bind fun y1 => (if y1.length + p1.size ≤ 1099511627776 then ((siphash_Sum_F k (⟨1, 2⟩ : S_api_Key) (y1 ++ (bytesL p1))).bind fun y4 => (some y4)) else none)
theorem journal_Sum_le (k : Nat) (p0 : Int) (p1 : ByteArray) : Lo (journal_Sum_F k p0 p1) (journal_Sum p0 p1) := by
 unfold journal_Sum_F journal_Sum
 repeat' with_reducible first | refine Lo.ite_ ?_ ?_ | refine Lo.bind_ ?_ (fun _ => ?_) | exact journal_put_nil_le k _ _ | exact siphash_Sum_le k _ _ | exact Lo.rfl_
noncomputable def journal_next_k1_F (k : Nat) (p0 : ByteArray) (p1 : Int) (z4 : Int) (x6 : Bool) : Option (ByteArray × Int × Int) := if x6 = true then (some ((ByteArray.mk #[]), 0, 14)) else (if (decide (z4 > 60000)) = true then (some ((ByteArray.mk #[]), 0, 1)) else (if (decide (((p0.size : Nat) : Int) < (i64.wrap ((i64.wrap (4 + z4)) + 8)))) = true then (some ((ByteArray.mk #[]), 0, 15)) else (if 0 ≤ (i64.wrap (4 + z4)) then (if 4 ≤ ((i64.wrap (4 + z4)).toNat) then (if ((i64.wrap (4 + z4)).toNat) ≤ p0.size then ((journal_Sum_F k p1 (p0.extract 4 ((i64.wrap (4 + z4)).toNat))).bind fun y13 => (if 0 ≤ (i64.wrap ((i64.wrap (4 + z4)) + 8)) then (if ((i64.wrap (4 + z4)).toNat) ≤ ((i64.wrap ((i64.wrap (4 + z4)) + 8)).toNat) then (if ((i64.wrap ((i64.wrap (4 + z4)) + 8)).toNat) ≤ p0.size then ((journal_put_nil_F k y13 8).bind fun y18 => (if (!((p0.extract ((i64.wrap (4 + z4)).toNat) ((i64.wrap ((i64.wrap (4 + z4)) + 8)).toNat)).toList == (strOf y18).toList)) = true then (some ((ByteArray.mk #[]), 0, 16)) else (some ((p0.extract 4 ((i64.wrap (4 + z4)).toNat)), y13, 0)))) else none) else none) else none)) else none) else none) else none)))
theorem journal_next_k1_le (k : Nat) (p0 : ByteArray) (p1 : Int) (z4 : Int) (x6 : Bool) : Lo (journal_next_k1_F k p0 p1 z4 x6) (journal_next_k1 p0 p1 z4 x6) := by
 unfold journal_next_k1_F journal_next_k1
 repeat' with_reducible first | refine Lo.ite_ ?_ ?_ | refine Lo.bind_ ?_ (fun _ => ?_) | exact journal_Sum_le k _ _ | exact journal_put_nil_le k _ _ | exact Lo.rfl_
noncomputable def journal_next_F (k : Nat) (p0 : ByteArray) (p1 : Int) : Option (ByteArray × Int × Int) := if (decide (((p0.size : Nat) : Int) < 4)) = true then (some ((ByteArray.mk #[]), 0, 15)) else (if (0 : Int) < ((p0.size : Nat) : Int) then (if (1 : Int) < ((p0.size : Nat) : Int) then ((some (ior .i64 (ishl .i64 (i64.wrap ((p0.data.toList.getD 0 0).toNat : Int)) 8) (i64.wrap ((p0.data.toList.getD 1 0).toNat : Int)))).bind fun z4 => (if (2 : Int) < ((p0.size : Nat) : Int) then (if (((p0.data.toList.getD 2 0).toNat : Int) != (u8.wrap (255 - ((p0.data.toList.getD 0 0).toNat : Int)))) = true then (journal_next_k1_F k p0 p1 z4 true) else (if (3 : Int) < ((p0.size : Nat) : Int) then (journal_next_k1_F k p0 p1 z4 (((p0.data.toList.getD 3 0).toNat : Int) != (u8.wrap (255 - ((p0.data.toList.getD 1 0).toNat : Int))))) else none)) else none)) else none) else none)
theorem journal_next_le (k : Nat) (p0 : ByteArray) (p1 : Int) : Lo (journal_next_F k p0 p1) (journal_next p0 p1) := by
 unfold journal_next_F journal_next
 repeat' with_reducible first | refine Lo.ite_ ?_ ?_ | refine Lo.bind_ ?_ (fun _ => ?_) | exact journal_next_k1_le k _ _ _ _ | exact Lo.rfl_
noncomputable def journal_read_l1_F (k : Nat) (p0 : ByteArray) (x4 : List ByteArray) (x5 : Int) (x6 : Int) : Option (((List ByteArray) × Int × Int) ⊕ (((List ByteArray) × Int × Int) ⊕ ((List ByteArray) × Int × Int × Int))) := if (decide (x5 < ((p0.size : Nat) : Int))) = true then (if ((x4.length : Int) == 512) = true then (some (.inr (.inr (x4, x5, x6, 1)))) else (if 0 ≤ x5 then (if x5.toNat ≤ p0.size then (bind3 (journal_next_F k (p0.extract x5.toNat p0.size) x6) fun y18 y19 y20 => (if (y20 != 0) = true then (some (.inr (.inr (x4, x5, x6, y20)))) else (if x4.length + ([y18] : List ByteArray).length ≤ 1099511627776 then ((some (i64.wrap ((i64.wrap ((i64.wrap (x5 + 4)) + ((y18.size : Nat) : Int))) + 8))).bind fun z24 => (some (.inl ((x4 ++ ([y18] : List ByteArray)), z24, y19)))) else none))) else none) else none)) else (some (.inr (.inl (x4, x5, x6))))
theorem journal_read_l1_le (k : Nat) (p0 : ByteArray) (x4 : List ByteArray) (x5 : Int) (x6 : Int) : Lo (journal_read_l1_F k p0 x4 x5 x6) (journal_read_l1 p0 x4 x5 x6) := by
 unfold journal_read_l1_F journal_read_l1
 repeat' with_reducible first | refine Lo.ite_ ?_ ?_ | refine Lo.bind_ ?_ (fun _ => ?_) | refine Lo.bind3_ ?_ (fun _ _ _ => ?_) | exact journal_next_le k _ _ | exact Lo.rfl_
noncomputable def journal_read_a2_F (k : Nat) (x26 : List ByteArray) (x27 : Int) (x28 : Int) : Option ((List ByteArray) × Int × Int × Int) := some (x26, x27, x28, 0)
theorem journal_read_a2_le (k : Nat) (x26 : List ByteArray) (x27 : Int) (x28 : Int) : Lo (journal_read_a2_F k x26 x27 x28) (journal_read_a2 x26 x27 x28) := by
 unfold journal_read_a2_F journal_read_a2
 repeat' with_reducible first | exact Lo.rfl_
noncomputable def journal_read_a3_F (k : Nat) (x29 : List ByteArray) (x30 : Int) (x31 : Int) (x32 : Int) : Option ((List ByteArray) × Int × Int × Int) := some (x29, x30, x31, x32)
theorem journal_read_a3_le (k : Nat) (x29 : List ByteArray) (x30 : Int) (x31 : Int) (x32 : Int) : Lo (journal_read_a3_F k x29 x30 x31 x32) (journal_read_a3 x29 x30 x31 x32) := by
 unfold journal_read_a3_F journal_read_a3
 repeat' with_reducible first | exact Lo.rfl_
noncomputable def journal_read_F (k : Nat) (p0 : ByteArray) : Option ((List ByteArray) × Int × Int × Int) := bindE (loopF k (fun v : (List ByteArray) × Int × Int => journal_read_l1_F k p0 v.1 v.2.1 v.2.2) (([] : List ByteArray), 0, 0)) (fun t => journal_read_a2_F k t.1 t.2.1 t.2.2) (fun t => journal_read_a3_F k t.1 t.2.1 t.2.2.1 t.2.2.2)
theorem journal_read_le (k : Nat) (p0 : ByteArray) : Lo (journal_read_F k p0) (journal_read p0) := by
 unfold journal_read_F journal_read
 repeat' with_reducible first | refine Lo.bindE_ ?_ (fun _ => ?_) (fun _ => ?_) | refine Lo.loop_ (fun _ => ?_) | exact journal_read_a2_le k _ _ _ | exact journal_read_a3_le k _ _ _ _ | exact journal_read_l1_le k _ _ _ _ | exact Lo.rfl_
noncomputable def journal_put_own_l1_F (k : Nat) (p1 : Int) (x3 : List Int) (x4 : Int) : Option (((List Int) × Int) ⊕ (List Int)) := if (decide (x4 ≥ 0)) = true then (if 0 ≤ (i64.wrap (8 * x4)) then (if x3.length + ([u8.wrap (ishr .u64 p1 (i64.wrap (8 * x4)))] : List Int).length ≤ 1099511627776 then (some (.inl ((x3 ++ ([u8.wrap (ishr .u64 p1 (i64.wrap (8 * x4)))] : List Int)), i64.wrap (x4 - 1)))) else none) else none) else (some (.inr x3))
theorem journal_put_own_l1_le (k : Nat) (p1 : Int) (x3 : List Int) (x4 : Int) : Lo (journal_put_own_l1_F k p1 x3 x4) (journal_put_own_l1 p1 x3 x4) := by
 unfold journal_put_own_l1_F journal_put_own_l1
 repeat' with_reducible first | refine Lo.ite_ ?_ ?_ | exact Lo.rfl_
noncomputable def journal_put_own_F (k : Nat) (p0 : List Int) (p1 : Int) (p2 : Int) : Option (List Int) := (loopF k (fun v : (List Int) × Int => journal_put_own_l1_F k p1 v.1 v.2) (p0, i64.wrap (p2 - 1))).bind fun x9 => (some x9)
theorem journal_put_own_le (k : Nat) (p0 : List Int) (p1 : Int) (p2 : Int) : Lo (journal_put_own_F k p0 p1 p2) (journal_put_own p0 p1 p2) := by
 unfold journal_put_own_F journal_put_own
 repeat' with_reducible first | refine Lo.bind_ ?_ (fun _ => ?_) | refine Lo.loop_ (fun _ => ?_) | exact journal_put_own_l1_le k _ _ _ | exact Lo.rfl_
noncomputable def journal_write_F (k : Nat) (p0 : Int) (p1 : ByteArray) : Option ByteArray := if ([u8.wrap (ishr .i64 ((p1.size : Nat) : Int) 8), u8.wrap ((p1.size : Nat) : Int), u8.wrap (255 - (u8.wrap (ishr .i64 ((p1.size : Nat) : Int) 8))), u8.wrap (255 - (u8.wrap ((p1.size : Nat) : Int)))] : List Int).length + p1.size ≤ 1099511627776 then ((journal_Sum_F k p0 p1).bind fun y2 => ((journal_put_own_F k (([u8.wrap (ishr .i64 ((p1.size : Nat) : Int) 8), u8.wrap ((p1.size : Nat) : Int), u8.wrap (255 - (u8.wrap (ishr .i64 ((p1.size : Nat) : Int) 8))), u8.wrap (255 - (u8.wrap ((p1.size : Nat) : Int)))] : List Int) ++ (bytesL p1)) y2 8).bind fun y4 => (some (strOf y4)))) else none
theorem journal_write_le (k : Nat) (p0 : Int) (p1 : ByteArray) : Lo (journal_write_F k p0 p1) (journal_write p0 p1) := by
 unfold journal_write_F journal_write
 repeat' with_reducible first | refine Lo.ite_ ?_ ?_ | refine Lo.bind_ ?_ (fun _ => ?_) | exact journal_Sum_le k _ _ | exact journal_put_own_le k _ _ _ | exact Lo.rfl_
noncomputable def journal_Append_k1_F (k : Nat) (p0 : ByteArray) (p1 : ByteArray) (y3 : Int) (x7 : Bool) : Option (ByteArray × Int) := if x7 = true then (some ((ByteArray.mk #[]), 1)) else ((journal_write_F k y3 p1).bind fun y9 => (if p0.size + y9.size ≤ maxStr then (some ((p0 ++ y9), 0)) else none))
theorem journal_Append_k1_le (k : Nat) (p0 : ByteArray) (p1 : ByteArray) (y3 : Int) (x7 : Bool) : Lo (journal_Append_k1_F k p0 p1 y3 x7) (journal_Append_k1 p0 p1 y3 x7) := by
 unfold journal_Append_k1_F journal_Append_k1
 repeat' with_reducible first | refine Lo.ite_ ?_ ?_ | refine Lo.bind_ ?_ (fun _ => ?_) | exact journal_write_le k _ _ | exact Lo.rfl_
noncomputable def journal_Append_F (k : Nat) (p0 : ByteArray) (p1 : ByteArray) : Option (ByteArray × Int) := bind4 (journal_read_F k p0) fun y1 y2 y3 y4 => (if (y4 != 0) = true then (some ((ByteArray.mk #[]), y4)) else (if ((y1.length : Int) == 512) = true then (journal_Append_k1_F k p0 p1 y3 true) else (journal_Append_k1_F k p0 p1 y3 (decide (((p1.size : Nat) : Int) > 60000)))))
theorem journal_Append_le (k : Nat) (p0 : ByteArray) (p1 : ByteArray) : Lo (journal_Append_F k p0 p1) (journal_Append p0 p1) := by
 unfold journal_Append_F journal_Append
 repeat' with_reducible first | refine Lo.ite_ ?_ ?_ | refine Lo.bind4_ ?_ (fun _ _ _ _ => ?_) | exact journal_Append_k1_le k _ _ _ _ | exact journal_read_le k _ | exact Lo.rfl_
noncomputable def journal_Read_F (k : Nat) (p0 : ByteArray) : Option ((List ByteArray) × Int × Int) := bind4 (journal_read_F k p0) fun y1 y2 y3 y4 => (some (y1, y2, y4))
theorem journal_Read_le (k : Nat) (p0 : ByteArray) : Lo (journal_Read_F k p0) (journal_Read p0) := by
 unfold journal_Read_F journal_Read
 repeat' with_reducible first | refine Lo.bind4_ ?_ (fun _ _ _ _ => ?_) | exact journal_read_le k _ | exact Lo.rfl_
noncomputable def journal_Whole_F (k : Nat) (p0 : ByteArray) : Option ByteArray := bind3 (journal_Read_F k p0) fun y1 y2 y3 => (if 0 ≤ y2 then (if y2.toNat ≤ p0.size then (some (p0.extract 0 y2.toNat)) else none) else none)
theorem journal_Whole_le (k : Nat) (p0 : ByteArray) : Lo (journal_Whole_F k p0) (journal_Whole p0) := by
 unfold journal_Whole_F journal_Whole
 repeat' with_reducible first | refine Lo.ite_ ?_ ?_ | refine Lo.bind3_ ?_ (fun _ _ _ => ?_) | exact journal_Read_le k _ | exact Lo.rfl_
noncomputable def rl_law38_awake_k1_F (k : Nat) (x11 : Bool) : Option Bool := some x11
theorem rl_law38_awake_k1_le (k : Nat) (x11 : Bool) : Lo (rl_law38_awake_k1_F k x11) (rl_law38_awake_k1 x11) := by
 unfold rl_law38_awake_k1_F rl_law38_awake_k1
 repeat' with_reducible first | exact Lo.rfl_
noncomputable def rl_law38_awake_F (k : Nat) : Option Bool := bind2 (journal_Append_F k (ByteArray.mk #[]) (ByteArray.mk #[])) fun y1 y2 => (bind2 (journal_Append_F k y1 (ByteArray.mk #[97, 98])) fun y4 y5 => (bind3 (journal_Read_F k y4) fun y7 y8 y9 => (if (y2 == 0) = true then (if (y5 == 0) = true then (if (y9 == 0) = true then (if (((y1.size : Nat) : Int) == 12) = true then (if 4 ≤ y1.size then (if ((y1.extract 0 4).toList == (ByteArray.mk #[0, 0, 255, 255]).toList) = true then (if (((y4.size : Nat) : Int) == 26) = true then (if (y8 == 26) = true then (if ((y7.length : Int) == 2) = true then (if (1 : Int) < (y7.length : Int) then (if ((y7.getD (0 + 1) ByteArray.empty).toList == (ByteArray.mk #[97, 98]).toList) = true then (if 25 ≤ y4.size then ((journal_Whole_F k (y4.extract 0 25)).bind fun y24 => (rl_law38_awake_k1_F k (y24.toList == y1.toList))) else none) else (rl_law38_awake_k1_F k false)) else none) else (rl_law38_awake_k1_F k false)) else (rl_law38_awake_k1_F k false)) else (rl_law38_awake_k1_F k false)) else (rl_law38_awake_k1_F k false)) else none) else (rl_law38_awake_k1_F k false)) else (rl_law38_awake_k1_F k false)) else (rl_law38_awake_k1_F k false)) else (rl_law38_awake_k1_F k false))))
theorem rl_law38_awake_le (k : Nat) : Lo (rl_law38_awake_F k) (rl_law38_awake) := by
 unfold rl_law38_awake_F rl_law38_awake
 repeat' with_reducible first | refine Lo.ite_ ?_ ?_ | refine Lo.bind_ ?_ (fun _ => ?_) | refine Lo.bind2_ ?_ (fun _ _ => ?_) | refine Lo.bind3_ ?_ (fun _ _ _ => ?_) | exact journal_Append_le k _ _ | exact journal_Read_le k _ | exact journal_Whole_le k _ | exact rl_law38_awake_k1_le k _ | exact Lo.rfl_
end Go.Proofs.Ytjedagkkeicpkaa
