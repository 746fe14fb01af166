/- Printed by a program of mine (vmgen.py): Go functions, and what they come to. -/
import Derived.Test.YteholdifeilkkaaVr
import Derived.Test.YteholdifeilkkaaRows
import Derived.Test.YteholdifeilkkaaG0
namespace Go.Proofs.Yteholdifeilkkaa
open Vm
open IntKind (i64 u64 u32 u8)
set_option maxHeartbeats 10000000
set_option linter.unusedVariables false
set_option linter.unusedSimpArgs false
set_option linter.constructorNameAsVariable false
def ttlL11 : List (Nat × TI) := [(3, ⟨.int .i64, 1, 8, [.int .i64 0], false⟩), (4, ⟨.bool, 1, 1, [.bool false], false⟩), (5, ⟨.int .u8, 1, 1, [.int .u8 0], false⟩), (9, ⟨.str, 1, 16, [.string ⟨#[]⟩], false⟩), (22, ⟨.slice 3, 1, 24, [.slice none 0 0], false⟩), (25, ⟨.ptr 66, 1, 8, [.pointer none], false⟩), (27, ⟨.slice 33, 1, 24, [.slice none 0 0], false⟩), (29, ⟨.struct [(3, 0), (27, 1)], 2, 32, [.int .i64 0, .slice none 0 0], false⟩), (33, ⟨.int .u64, 1, 8, [.int .u64 0], false⟩), (35, ⟨.int .i64, 1, 8, [.int .i64 0], false⟩), (41, ⟨.slice 29, 1, 24, [.slice none 0 0], false⟩), (63, ⟨.slice 9, 1, 24, [.slice none 0 0], false⟩), (66, ⟨.struct [(22, 0), (3, 1), (33, 2)], 3, 40, [.slice none 0 0, .int .i64 0, .int .u64 0], false⟩), (74, ⟨.slice 5, 1, 24, [.slice none 0 0], false⟩)]
theorem tt_okL11 : TTok Try.prog (Vm.look ttlL11) := ttok_of ⟨⟨by kernel_rfl, by kernel_rfl, by kernel_rfl⟩, ⟨by kernel_rfl, by kernel_rfl, by kernel_rfl⟩, ⟨by kernel_rfl, by kernel_rfl, by kernel_rfl⟩, ⟨by kernel_rfl, by kernel_rfl, by kernel_rfl⟩, ⟨by kernel_rfl, by kernel_rfl, by kernel_rfl⟩, ⟨by kernel_rfl, by kernel_rfl, by kernel_rfl⟩, ⟨by kernel_rfl, by kernel_rfl, by kernel_rfl⟩, ⟨by kernel_rfl, by kernel_rfl, by kernel_rfl⟩, ⟨by kernel_rfl, by kernel_rfl, by kernel_rfl⟩, ⟨by kernel_rfl, by kernel_rfl, by kernel_rfl⟩, ⟨by kernel_rfl, by kernel_rfl, by kernel_rfl⟩, ⟨by kernel_rfl, by kernel_rfl, by kernel_rfl⟩, ⟨by kernel_rfl, by kernel_rfl, by kernel_rfl⟩, ⟨by kernel_rfl, by kernel_rfl, by kernel_rfl⟩, trivial⟩
theorem moL11 : Try.prog.follows .mixedOrders = true := by kernel_rfl
/-! recordlink/recordlinklaw09.BitsetExact -/
noncomputable def rl_law09_BitsetExact_k3 (x20 : Int) (x30 : Bool) : Option (Int ⊕ (Unit ⊕ Unit)) := if x30 = true then (some (.inr (.inr ()))) else (some (.inl (i64.wrap (x20 + 1))))
noncomputable def rl_law09_BitsetExact_l2 (p3 : Int) (x20 : Int) : Option (Int ⊕ (Unit ⊕ Unit)) := if (decide (x20 < ((([p3, 64, 128, 512, 576, 0, 32] : List Int).length : Nat) : Int))) = true then (if 0 ≤ x20 then (if x20 < ((([p3, 64, 128, 512, 576, 0, 32] : List Int).length : Nat) : Int) then (bind2 (bitset_New (([p3, 64, 128, 512, 576, 0, 32] : List Int).getD (0 + x20.toNat) 0)) fun y24 y25 => (bind2 (rl_ref09_New (([p3, 64, 128, 512, 576, 0, 32] : List Int).getD (0 + x20.toNat) 0)) fun y27 y28 => (if (y25 != y28) = true then (rl_law09_BitsetExact_k3 x20 true) else ((rl_law09_same y24 y27).bind fun y33 => (rl_law09_BitsetExact_k3 x20 (!y33)))))) else none) else none) else (some (.inr (.inl ())))
noncomputable def rl_law09_BitsetExact_k6 (x47 : Int) (x69 : Bool) : Option (Int ⊕ (Unit ⊕ Unit)) := if x69 = true then (some (.inr (.inr ()))) else (some (.inl (i64.wrap (x47 + 1))))
noncomputable def rl_law09_BitsetExact_l5 (p1 : S_api_Bits) (p2 : S_api_Bits) (y10 : S_api_Bits) (y16 : S_api_Bits) (x39 : Int) (x47 : Int) : Option (Int ⊕ (Unit ⊕ Unit)) := if (decide (x47 < ((([p2, y16, y10] : List S_api_Bits).length : Nat) : Int))) = true then (if 0 ≤ x47 then (if x47 < ((([p2, y16, y10] : List S_api_Bits).length : Nat) : Int) then (bind2 (bitset_And (([p1, y10] : List S_api_Bits).getD (0 + x39.toNat) dS_api_Bits) (([p2, y16, y10] : List S_api_Bits).getD (0 + x47.toNat) dS_api_Bits)) fun y51 y52 => (bind2 (rl_ref09_And (([p1, y10] : List S_api_Bits).getD (0 + x39.toNat) dS_api_Bits) (([p2, y16, y10] : List S_api_Bits).getD (0 + x47.toNat) dS_api_Bits)) fun y54 y55 => (bind2 (bitset_Or (([p1, y10] : List S_api_Bits).getD (0 + x39.toNat) dS_api_Bits) (([p2, y16, y10] : List S_api_Bits).getD (0 + x47.toNat) dS_api_Bits)) fun y57 y58 => (bind2 (rl_ref09_Or (([p1, y10] : List S_api_Bits).getD (0 + x39.toNat) dS_api_Bits) (([p2, y16, y10] : List S_api_Bits).getD (0 + x47.toNat) dS_api_Bits)) fun y60 y61 => (bind2 (bitset_Xor (([p1, y10] : List S_api_Bits).getD (0 + x39.toNat) dS_api_Bits) (([p2, y16, y10] : List S_api_Bits).getD (0 + x47.toNat) dS_api_Bits)) fun y63 y64 => (bind2 (rl_ref09_Xor (([p1, y10] : List S_api_Bits).getD (0 + x39.toNat) dS_api_Bits) (([p2, y16, y10] : List S_api_Bits).getD (0 + x47.toNat) dS_api_Bits)) fun y66 y67 => (if (y52 != y55) = true then (rl_law09_BitsetExact_k6 x47 true) else (if (y58 != y61) = true then (rl_law09_BitsetExact_k6 x47 true) else (if (y64 != y67) = true then (rl_law09_BitsetExact_k6 x47 true) else ((rl_law09_same y51 y54).bind fun y74 => (if (!y74) = true then (rl_law09_BitsetExact_k6 x47 true) else ((rl_law09_same y57 y60).bind fun y77 => (if (!y77) = true then (rl_law09_BitsetExact_k6 x47 true) else ((rl_law09_same y63 y66).bind fun y80 => (if (!y80) = true then (rl_law09_BitsetExact_k6 x47 true) else ((bitset_Compare (([p1, y10] : List S_api_Bits).getD (0 + x39.toNat) dS_api_Bits) (([p2, y16, y10] : List S_api_Bits).getD (0 + x47.toNat) dS_api_Bits)).bind fun y83 => ((rl_ref09_Compare (([p1, y10] : List S_api_Bits).getD (0 + x39.toNat) dS_api_Bits) (([p2, y16, y10] : List S_api_Bits).getD (0 + x47.toNat) dS_api_Bits)).bind fun y85 => (rl_law09_BitsetExact_k6 x47 (y83 != y85))))))))))))))))))) else none) else none) else (some (.inr (.inl ())))
noncomputable def rl_law09_BitsetExact_k8 (x91 : Int) (x101 : Bool) : Option (Int ⊕ (Unit ⊕ Unit)) := if x101 = true then (some (.inr (.inr ()))) else (some (.inl (i64.wrap (x91 + 1))))
noncomputable def rl_law09_BitsetExact_l7 (p1 : S_api_Bits) (p3 : Int) (y10 : S_api_Bits) (x39 : Int) (y87 : Int) (x91 : Int) : Option (Int ⊕ (Unit ⊕ Unit)) := if (decide (x91 < ((([p3, y87, i64.wrap (((([p1, y10] : List S_api_Bits).getD (0 + x39.toNat) dS_api_Bits).Length) - 1)] : List Int).length : Nat) : Int))) = true then (if 0 ≤ x91 then (if x91 < ((([p3, y87, i64.wrap (((([p1, y10] : List S_api_Bits).getD (0 + x39.toNat) dS_api_Bits).Length) - 1)] : List Int).length : Nat) : Int) then (bind2 (bitset_Set (([p1, y10] : List S_api_Bits).getD (0 + x39.toNat) dS_api_Bits) (([p3, y87, i64.wrap (((([p1, y10] : List S_api_Bits).getD (0 + x39.toNat) dS_api_Bits).Length) - 1)] : List Int).getD (0 + x91.toNat) 0)) fun y95 y96 => (bind2 (rl_ref09_Set (([p1, y10] : List S_api_Bits).getD (0 + x39.toNat) dS_api_Bits) (([p3, y87, i64.wrap (((([p1, y10] : List S_api_Bits).getD (0 + x39.toNat) dS_api_Bits).Length) - 1)] : List Int).getD (0 + x91.toNat) 0)) fun y98 y99 => (if (y96 != y99) = true then (rl_law09_BitsetExact_k8 x91 true) else ((rl_law09_same y95 y98).bind fun y104 => (if (!y104) = true then (rl_law09_BitsetExact_k8 x91 true) else ((bitset_Has (([p1, y10] : List S_api_Bits).getD (0 + x39.toNat) dS_api_Bits) (([p3, y87, i64.wrap (((([p1, y10] : List S_api_Bits).getD (0 + x39.toNat) dS_api_Bits).Length) - 1)] : List Int).getD (0 + x91.toNat) 0)).bind fun y107 => ((rl_ref09_Has (([p1, y10] : List S_api_Bits).getD (0 + x39.toNat) dS_api_Bits) (([p3, y87, i64.wrap (((([p1, y10] : List S_api_Bits).getD (0 + x39.toNat) dS_api_Bits).Length) - 1)] : List Int).getD (0 + x91.toNat) 0)).bind fun y109 => (rl_law09_BitsetExact_k8 x91 (!(y107 == y109)))))))))) else none) else none) else (some (.inr (.inl ())))
noncomputable def rl_law09_BitsetExact_k11 (x128 : Int) (x138 : Bool) : Option (Int ⊕ (Unit ⊕ Unit)) := if x138 = true then (some (.inr (.inr ()))) else (some (.inl (i64.wrap (x128 + 1))))
noncomputable def rl_law09_BitsetExact_l10 (p4 : ByteArray) (y120 : ByteArray) (x128 : Int) : Option (Int ⊕ (Unit ⊕ Unit)) := if (decide (x128 < ((([p4, y120, (y120 ++ p4), (y120 ++ y120)] : List ByteArray).length : Nat) : Int))) = true then (if 0 ≤ x128 then (if x128 < ((([p4, y120, (y120 ++ p4), (y120 ++ y120)] : List ByteArray).length : Nat) : Int) then (bind2 (bitset_Parse (([p4, y120, (y120 ++ p4), (y120 ++ y120)] : List ByteArray).getD (0 + x128.toNat) ByteArray.empty)) fun y132 y133 => (bind2 (rl_ref09_Parse (([p4, y120, (y120 ++ p4), (y120 ++ y120)] : List ByteArray).getD (0 + x128.toNat) ByteArray.empty)) fun y135 y136 => (if (y133 != y136) = true then (rl_law09_BitsetExact_k11 x128 true) else ((rl_law09_same y132 y135).bind fun y141 => (rl_law09_BitsetExact_k11 x128 (!y141)))))) else none) else none) else (some (.inr (.inl ())))
noncomputable def rl_law09_BitsetExact_a12 (x39 : Int) (y88 : S_recordlinkmake_Deck) : Option ((Int × (List Int) × Int × Int) ⊕ (Unit ⊕ Unit)) := some (.inl (i64.wrap (x39 + 1), y88.list, y88.at_, y88.state))
noncomputable def rl_law09_BitsetExact_a13 : Option ((Int × (List Int) × Int × Int) ⊕ (Unit ⊕ Unit)) := some (.inr (.inr ()))
noncomputable def rl_law09_BitsetExact_k9 (p4 : ByteArray) (x39 : Int) (y88 : S_recordlinkmake_Deck) (y120 : ByteArray) (x123 : Bool) : Option ((Int × (List Int) × Int × Int) ⊕ (Unit ⊕ Unit)) := if x123 = true then (some (.inr (.inr ()))) else (if y120.size + p4.size ≤ maxStr then (if y120.size + y120.size ≤ maxStr then (bindE (loop (fun v : Int => rl_law09_BitsetExact_l10 p4 y120 v) 0) (fun t => rl_law09_BitsetExact_a12 x39 y88) (fun t => rl_law09_BitsetExact_a13)) else none) else none)
noncomputable def rl_law09_BitsetExact_a14 (p1 : S_api_Bits) (p4 : ByteArray) (y10 : S_api_Bits) (x39 : Int) (y88 : S_recordlinkmake_Deck) : Option ((Int × (List Int) × Int × Int) ⊕ (Unit ⊕ Unit)) := bind2 (bitset_Fold (([p1, y10] : List S_api_Bits).getD (0 + x39.toNat) dS_api_Bits)) fun y111 y112 => (bind2 (rl_ref09_Fold (([p1, y10] : List S_api_Bits).getD (0 + x39.toNat) dS_api_Bits)) fun y114 y115 => (bind2 (bitset_Hex (([p1, y10] : List S_api_Bits).getD (0 + x39.toNat) dS_api_Bits)) fun y117 y118 => (bind2 (rl_ref09_Hex (([p1, y10] : List S_api_Bits).getD (0 + x39.toNat) dS_api_Bits)) fun y120 y121 => (if (y112 != y115) = true then (rl_law09_BitsetExact_k9 p4 x39 y88 y120 true) else (if (y118 != y121) = true then (rl_law09_BitsetExact_k9 p4 x39 y88 y120 true) else (if (!(y117.toList == y120.toList)) = true then (rl_law09_BitsetExact_k9 p4 x39 y88 y120 true) else ((rl_law09_same y111 y114).bind fun y147 => (if (!y147) = true then (rl_law09_BitsetExact_k9 p4 x39 y88 y120 true) else ((bitset_Valid (([p1, y10] : List S_api_Bits).getD (0 + x39.toNat) dS_api_Bits)).bind fun y150 => ((rl_ref09_Valid (([p1, y10] : List S_api_Bits).getD (0 + x39.toNat) dS_api_Bits)).bind fun y152 => (if (!(y150 == y152)) = true then (rl_law09_BitsetExact_k9 p4 x39 y88 y120 true) else ((bitset_Count (([p1, y10] : List S_api_Bits).getD (0 + x39.toNat) dS_api_Bits)).bind fun y155 => ((rl_ref09_Count (([p1, y10] : List S_api_Bits).getD (0 + x39.toNat) dS_api_Bits)).bind fun y157 => (rl_law09_BitsetExact_k9 p4 x39 y88 y120 (y155 != y157)))))))))))))))
noncomputable def rl_law09_BitsetExact_a15 : Option ((Int × (List Int) × Int × Int) ⊕ (Unit ⊕ Unit)) := some (.inr (.inr ()))
noncomputable def rl_law09_BitsetExact_a16 (p1 : S_api_Bits) (p3 : Int) (p4 : ByteArray) (y10 : S_api_Bits) (x39 : Int) (x40 : List Int) (x41 : Int) (x42 : Int) : Option ((Int × (List Int) × Int × Int) ⊕ (Unit ⊕ Unit)) := bind2 (rl_make_Deck_Next (⟨x40, x41, x42⟩ : S_recordlinkmake_Deck) 300) fun y87 y88 => (bindE (loop (fun v : Int => rl_law09_BitsetExact_l7 p1 p3 y10 x39 y87 v) 0) (fun t => rl_law09_BitsetExact_a14 p1 p4 y10 x39 y88) (fun t => rl_law09_BitsetExact_a15))
noncomputable def rl_law09_BitsetExact_a17 : Option ((Int × (List Int) × Int × Int) ⊕ (Unit ⊕ Unit)) := some (.inr (.inr ()))
noncomputable def rl_law09_BitsetExact_l4 (p1 : S_api_Bits) (p2 : S_api_Bits) (p3 : Int) (p4 : ByteArray) (y10 : S_api_Bits) (y16 : S_api_Bits) (x39 : Int) (x40 : List Int) (x41 : Int) (x42 : Int) : Option ((Int × (List Int) × Int × Int) ⊕ (Unit ⊕ Unit)) := if (decide (x39 < ((([p1, y10] : List S_api_Bits).length : Nat) : Int))) = true then (if 0 ≤ x39 then (if x39 < ((([p1, y10] : List S_api_Bits).length : Nat) : Int) then (bindE (loop (fun v : Int => rl_law09_BitsetExact_l5 p1 p2 y10 y16 x39 v) 0) (fun t => rl_law09_BitsetExact_a16 p1 p3 p4 y10 x39 x40 x41 x42) (fun t => rl_law09_BitsetExact_a17)) else none) else none) else (some (.inr (.inl ())))
noncomputable def rl_law09_BitsetExact_a18 : Option Bool := some true
noncomputable def rl_law09_BitsetExact_a19 : Option Bool := some false
noncomputable def rl_law09_BitsetExact_a20 (p1 : S_api_Bits) (p2 : S_api_Bits) (p3 : Int) (p4 : ByteArray) (y10 : S_api_Bits) (y16 : S_api_Bits) (y17 : S_recordlinkmake_Deck) : Option Bool := bindE (loop (fun v : Int × (List Int) × Int × Int => rl_law09_BitsetExact_l4 p1 p2 p3 p4 y10 y16 v.1 v.2.1 v.2.2.1 v.2.2.2) (0, y17.list, y17.at_, y17.state)) (fun t => rl_law09_BitsetExact_a18) (fun t => rl_law09_BitsetExact_a19)
noncomputable def rl_law09_BitsetExact_a21 : Option Bool := some false
noncomputable def rl_law09_BitsetExact_k1 (p0 : List Int) (p1 : S_api_Bits) (p2 : S_api_Bits) (p3 : Int) (p4 : ByteArray) (x1 : Bool) : Option Bool := if x1 = true then ((rl_law09_awake).bind fun y3 => (some y3)) else ((rl_make_New p0).bind fun y5 => (bind2 (rl_make_Deck_Next y5 4) fun y7 y8 => (bind2 (rl_make_Deck_Bits y8 (i64.wrap (64 * (i64.wrap (1 + y7))))) fun y10 y11 => (bind2 (rl_make_Deck_Next y11 4) fun y13 y14 => (bind2 (rl_make_Deck_Bits y14 (i64.wrap (64 * (i64.wrap (1 + y13))))) fun y16 y17 => (bindE (loop (fun v : Int => rl_law09_BitsetExact_l2 p3 v) 0) (fun t => rl_law09_BitsetExact_a20 p1 p2 p3 p4 y10 y16 y17) (fun t => rl_law09_BitsetExact_a21)))))))
noncomputable def rl_law09_BitsetExact (p0 : List Int) (p1 : S_api_Bits) (p2 : S_api_Bits) (p3 : Int) (p4 : ByteArray) : Option Bool := (rl_law09_awake).bind fun y163 => (if (!y163) = true then (rl_law09_BitsetExact_k1 p0 p1 p2 p3 p4 true) else ((rl_make_Few p0).bind fun y166 => (if (!y166) = true then (rl_law09_BitsetExact_k1 p0 p1 p2 p3 p4 true) else (if (decide (((p1.Words.length : Nat) : Int) > 40)) = true then (rl_law09_BitsetExact_k1 p0 p1 p2 p3 p4 true) else (if (decide (((p2.Words.length : Nat) : Int) > 40)) = true then (rl_law09_BitsetExact_k1 p0 p1 p2 p3 p4 true) else (rl_law09_BitsetExact_k1 p0 p1 p2 p3 p4 (decide (((p4.size : Nat) : Int) > 600))))))))
set_option maxRecDepth 100000 in
theorem rl_law09_BitsetExact_con (p0 : List Int) (p1 : S_api_Bits) (p2 : S_api_Bits) (p3 : Int) (p4 : ByteArray) (r : Bool) (h : rl_law09_BitsetExact p0 p1 p2 p3 p4 = some r) : Con Try.prog 11 [vl 1 Ri64 p0, .agg [ci64 p1.Length, cl 1 Ru64 p1.Words], .agg [ci64 p2.Length, cl 1 Ru64 p2.Words], vi64 p3, vs p4] [] (vb r) [] := by
 refine con_of tt_okL11 0 Try.func11 (by kernel_rfl) rfl (by kernel_rfl) (fun base X _ => AW.post ?_)
 unfold rl_law09_BitsetExact at h
 refine AW.sg tt_okL11 [(7, .c (.ptr 1 2 0 0)), (6, .c (.ptr 0 2 0 0))] [0, 1] [(1, .box 29 [ci64 p2.Length, cl 1 Ru64 p2.Words]), (0, .box 29 [ci64 p1.Length, cl 1 Ru64 p1.Words])] 3 [] (by kernel_rfl) ?_
 refine AW.seq (AW.seq ?_)
 refine AW.join (ι := Bool) (fun v => ⟨[(0, vl 1 Ri64 p0), (3, vi64 p3), (4, vs p4), (6, .c (.ptr 0 2 0 0)), (7, .c (.ptr 1 2 0 0)), (79, vb v)], [(0, .box 29 [ci64 p1.Length, cl 1 Ru64 p1.Words]), (1, .box 29 [ci64 p2.Length, cl 1 Ru64 p2.Words])], 2⟩) (fun v : Bool => rl_law09_BitsetExact_k1 p0 p1 p2 p3 p4 v = some r) (fun x1 h => ?_) ?_
 ·
  unfold rl_law09_BitsetExact_k1 at h
  refine AW.tn ?_
  refine AW.co h (by kernel_rfl) (fun c2 h => ?_) (fun c2 h => ?_)
  ·
   obtain ⟨y3, e4, h⟩ := bnd_some h
   refine AW.sg tt_okL11 [(10, vb y3)] [] [] 3 [hk (rl_law09_awake_con y3 e4)] (by kernel_rfl) ?_
   refine AW.ret (AW.tr ?_)
   obtain rfl := some_inj h
   exact fn0 (.inr rfl) [] 0 (vb y3) (by kernel_rfl)
  ·
   refine AW.skip (AW.tn ?_)
   obtain ⟨y5, e6, h⟩ := bnd_some h
   refine AW.sg tt_okL11 [(11, .c (.ptr 3 3 0 0))] [3] [(3, .box 66 [cl 1 Ri64 y5.list, ci64 y5.at_, cu64 y5.state])] 5 [hn, hl [] [] 1 (rl_make_New_con p0 y5 e6)] (by kernel_rfl) ?_
   obtain ⟨y7, y8, e9, h⟩ := bind2_some h
   obtain ⟨y10, y11, e12, h⟩ := bind2_some h
   obtain ⟨y13, y14, e15, h⟩ := bind2_some h
   obtain ⟨y16, y17, e18, h⟩ := bind2_some h
   refine AW.sg tt_okL11 [(13, .c (.ptr 16 2 0 0)), (12, .c (.ptr 15 2 0 0))] [3, 9, 14, 15, 16] [(16, .box 29 [ci64 y16.Length, .ref 14 1 0 y16.Words.length]), (15, .box 29 [ci64 y10.Length, .ref 9 1 0 y10.Words.length]), (3, .box 66 [cl 1 Ri64 y17.list, ci64 y17.at_, cu64 y17.state]), (14, .row 33 false 1 y16.Words.length (Ru64 y16.Words)), (9, .row 33 false 1 y10.Words.length (Ru64 y10.Words))] 19 [hn, hn, hl [3] [] 0 (rl_make_Deck_Next_con y5 4 (y7, y8) e9), hn, hn, hl [3] [] 1 (rl_make_Deck_Bits_con y8 (i64.wrap (64 * (i64.wrap (1 + y7)))) (y10, y11) e12), hn, hn, hl [3] [] 0 (rl_make_Deck_Next_con y11 4 (y13, y14) e15), hn, hn, hl [3] [] 1 (rl_make_Deck_Bits_con y14 (i64.wrap (64 * (i64.wrap (1 + y13)))) (y16, y17) e18)] (by kernel_rfl) ?_
   refine AW.seq ?_
   refine AW.sg tt_okL11 [(98, vi64 0), (97, vi64 ((([p3, 64, 128, 512, 576, 0, 32] : List Int).length : Nat) : Int)), (96, .c (.ref 20 1 0 (([p3, 64, 128, 512, 576, 0, 32] : List Int).length)))] [20] [(20, .row 3 false 1 ([p3, 64, 128, 512, 576, 0, 32] : List Int).length (Ri64 ([p3, 64, 128, 512, 576, 0, 32] : List Int)))] 23 [hn, hlit 0 Ei64 1 (fun _ => rfl) ([p3, 64, 128, 512, 576, 0, 32] : List Int)] (by kernel_rfl) ?_
   refine AW.block ?_
   refine AW.lpE h (fun v => ⟨[(3, vi64 p3), (4, vs p4), (6, .c (.ptr 0 2 0 0)), (7, .c (.ptr 1 2 0 0)), (11, .c (.ptr 2 3 0 0)), (12, .c (.ptr 3 2 0 0)), (13, .c (.ptr 4 2 0 0)), (96, .c (.ref 5 1 0 (([p3, 64, 128, 512, 576, 0, 32] : List Int).length))), (97, vi64 ((([p3, 64, 128, 512, 576, 0, 32] : List Int).length : Nat) : Int)), (98, vi64 v)], [(0, .box 29 [ci64 p1.Length, cl 1 Ru64 p1.Words]), (1, .box 29 [ci64 p2.Length, cl 1 Ru64 p2.Words]), (2, .box 66 [cl 1 Ri64 y17.list, ci64 y17.at_, cu64 y17.state]), (3, .box 29 [ci64 y10.Length, .ref 6 1 0 y10.Words.length]), (4, .box 29 [ci64 y16.Length, .ref 7 1 0 y16.Words.length]), (5, .row 3 false 1 ([p3, 64, 128, 512, 576, 0, 32] : List Int).length (Ri64 ([p3, 64, 128, 512, 576, 0, 32] : List Int))), (6, .row 33 false 1 y10.Words.length (Ru64 y10.Words)), (7, .row 33 false 1 y16.Words.length (Ru64 y16.Words))], 8⟩) (fun t => (.exit 0, ⟨[(3, vi64 p3), (4, vs p4), (6, .c (.ptr 0 2 0 0)), (7, .c (.ptr 1 2 0 0)), (11, .c (.ptr 2 3 0 0)), (12, .c (.ptr 3 2 0 0)), (13, .c (.ptr 4 2 0 0))], [(0, .box 29 [ci64 p1.Length, cl 1 Ru64 p1.Words]), (1, .box 29 [ci64 p2.Length, cl 1 Ru64 p2.Words]), (2, .box 66 [cl 1 Ri64 y17.list, ci64 y17.at_, cu64 y17.state]), (3, .box 29 [ci64 y10.Length, .ref 5 1 0 y10.Words.length]), (4, .box 29 [ci64 y16.Length, .ref 6 1 0 y16.Words.length]), (5, .row 33 false 1 y10.Words.length (Ru64 y10.Words)), (6, .row 33 false 1 y16.Words.length (Ru64 y16.Words))], 7⟩)) (fun t => (.ret, ⟨[(10, vb false)], [], 0⟩)) (conv_re [(0, 0), (1, 1), (2, 3), (3, 15), (4, 16), (5, 20), (6, 9), (7, 14)] (by kernel_rfl)) (fun _ => tv) (fun _ => tv) ?_ (fun t h => ?_) (fun t h => ?_)
   ·
    clear h
    intro x20 o h
    unfold rl_law09_BitsetExact_l2 at h
    refine AW.sg tt_okL11 [(99, vb (decide (x20 < ((([p3, 64, 128, 512, 576, 0, 32] : List Int).length : Nat) : Int))))] [] [] 9 [] (by kernel_rfl) ?_
    refine AW.seq ?_
    refine AW.co h (by kernel_rfl) (fun c21 h => ?_) (fun c21 h => ?_)
    ·
     refine AW.skip (AW.tn ?_)
     refine AW.seq (AW.block ?_)
     obtain ⟨g22, g23, h⟩ := ifd h
     refine AW.sg tt_okL11 [(15, vi64 (([p3, 64, 128, 512, 576, 0, 32] : List Int).getD (0 + x20.toNat) 0))] [] [] 12 [hq g22 g23, ho (p := (0 + x20.toNat) < ([p3, 64, 128, 512, 576, 0, 32] : List Int).length) (by have h1 : 0 ≤ x20 := g22; have h2 : x20 < ((([p3, 64, 128, 512, 576, 0, 32] : List Int).length : Nat) : Int) := g23; omega)] (by kernel_rfl) ?_
     obtain ⟨y24, y25, e26, h⟩ := bind2_some h
     refine AW.sg tt_okL11 [(17, vi64 y25), (16, .c (.ptr 17 2 0 0))] [13, 17] [(17, .box 29 [ci64 y24.Length, .ref 13 1 0 y24.Words.length]), (13, .row 33 false 1 y24.Words.length (Ru64 y24.Words))] 20 [hn, hm [] [] 1 (bitset_New_con (([p3, 64, 128, 512, 576, 0, 32] : List Int).getD (0 + x20.toNat) 0) (y24, y25) e26) ⟨rowL_flat Vu64 _ _ _, tv⟩] (by kernel_rfl) ?_
     obtain ⟨y27, y28, e29, h⟩ := bind2_some h
     refine AW.sg tt_okL11 [(19, vi64 y28), (18, .c (.ptr 25 2 0 0))] [21, 25] [(25, .box 29 [ci64 y27.Length, .ref 21 1 0 y27.Words.length]), (21, .row 33 false 1 y27.Words.length (Ru64 y27.Words))] 28 [hn, hm [] [] 1 (rl_ref09_New_con (([p3, 64, 128, 512, 576, 0, 32] : List Int).getD (0 + x20.toNat) 0) (y27, y28) e29) ⟨rowL_flat Vu64 _ _ _, tv⟩] (by kernel_rfl) ?_
     refine AW.seq ?_
     refine AW.join (ι := Bool) (fun v => ⟨[(3, vi64 p3), (4, vs p4), (6, .c (.ptr 0 2 0 0)), (7, .c (.ptr 1 2 0 0)), (11, .c (.ptr 2 3 0 0)), (12, .c (.ptr 3 2 0 0)), (13, .c (.ptr 4 2 0 0)), (96, .c (.ref 5 1 0 (([p3, 64, 128, 512, 576, 0, 32] : List Int).length))), (97, vi64 ((([p3, 64, 128, 512, 576, 0, 32] : List Int).length : Nat) : Int)), (98, vi64 x20), (120, vb v)], [(0, .box 29 [ci64 p1.Length, cl 1 Ru64 p1.Words]), (1, .box 29 [ci64 p2.Length, cl 1 Ru64 p2.Words]), (2, .box 66 [cl 1 Ri64 y17.list, ci64 y17.at_, cu64 y17.state]), (3, .box 29 [ci64 y10.Length, .ref 6 1 0 y10.Words.length]), (4, .box 29 [ci64 y16.Length, .ref 7 1 0 y16.Words.length]), (5, .row 3 false 1 ([p3, 64, 128, 512, 576, 0, 32] : List Int).length (Ri64 ([p3, 64, 128, 512, 576, 0, 32] : List Int))), (6, .row 33 false 1 y10.Words.length (Ru64 y10.Words)), (7, .row 33 false 1 y16.Words.length (Ru64 y16.Words))], 8⟩) (fun v : Bool => rl_law09_BitsetExact_k3 x20 v = some o) (fun x30 h => ?_) ?_
     ·
      unfold rl_law09_BitsetExact_k3 at h
      refine AW.tn ?_
      refine AW.co h (by kernel_rfl) (fun c31 h => ?_) (fun c31 h => ?_)
      ·
       refine AW.sg tt_okL11 [(10, vb false)] [] [] 9 [] (by kernel_rfl) ?_
       refine AW.ret (AW.inBlock_ret (AW.tr ?_))
       exact lpo h rfl (conv_re [] (by kernel_rfl))
      ·
       refine AW.skip (AW.inBlock_normal (AW.tn ?_))
       refine AW.rg tt_okL11 [(98, vi64 (i64.wrap (x20 + 1)))] [] [] 10 [] (by kernel_rfl) ?_
       exact lpn h (conv_re [(0, 0), (1, 1), (2, 2), (3, 3), (4, 4), (5, 5), (6, 6), (7, 7)] (by kernel_rfl))
     ·
      rcases ifs h with ⟨c32, h⟩ | ⟨c32, h⟩
      ·
       refine AW.rg tt_okL11 [(120, vb true)] [] [] 37 [hn, hn, ht c32] (by kernel_rfl) ?_
       exact jl true h (conv_re [(0, 0), (1, 1), (2, 2), (3, 3), (4, 4), (5, 5), (6, 6), (7, 7)] (by kernel_rfl))
      ·
       obtain ⟨y33, e34, h⟩ := bnd_some h
       refine AW.rg tt_okL11 [(120, vb (!y33))] [] [] 36 [hn, hn, hf c32, hn, hn, hn, hg [] [] true 0 (q := ((True) ∧ (0 + y24.Words.length ≤ y24.Words.length) ∧ (True)) ∧ ((True) ∧ (0 + y27.Words.length ≤ y27.Words.length) ∧ (True)) ∧ (True)) ⟨⟨tv, le0, tv⟩, ⟨tv, le0, tv⟩, tv⟩ (a0 := [.agg [ci64 y24.Length, cl 1 Ru64 y24.Words], .agg [ci64 y27.Length, cl 1 Ru64 y27.Words]]) (rl_law09_same_con y24 y27 y33 e34) ⟨ArgLe.refl _, ArgLe.refl _, tv⟩ (fun _ => tv)] (by kernel_rfl) ?_
       exact jl (!y33) h (conv_re [(0, 0), (1, 1), (2, 2), (3, 3), (4, 4), (5, 5), (6, 6), (7, 7)] (by kernel_rfl))
    ·
     refine AW.exit (AW.thenQ_exit ?_)
     exact lpo h rfl (conv_re [(0, 0), (1, 1), (2, 2), (3, 3), (4, 4), (5, 6), (6, 7)] (by kernel_rfl))
   ·
    replace h : rl_law09_BitsetExact_a20 p1 p2 p3 p4 y10 y16 y17 = some r := h
    unfold rl_law09_BitsetExact_a20 at h
    show (_ : Exit → St → Prop) (.exit 0) _
    refine AW.inBlock_hit (AW.tn ?_)
    refine AW.seq (AW.seq ?_)
    refine AW.pre (Conv.trans (cfz 5 33 1 y10.Words.length (Ru64 y10.Words) (by kernel_rfl)) (conv_box (id := 3) (ty := 29) (cs := [ci64 y10.Length, .ref 5 1 0 y10.Words.length]) (ds := [ci64 y10.Length, cl 1 Ru64 y10.Words]) (by kernel_rfl) ⟨CLe.refl _ _, CLe.ref (ty := 33) (f := Ru64 y10.Words) (by kernel_rfl) le0, tv⟩)) ?_
    refine AW.rg tt_okL11 [(126, vi64 0), (125, vi64 ((([p1, y10] : List S_api_Bits).length : Nat) : Int)), (124, .c (.ref 9 2 0 (([p1, y10] : List S_api_Bits).length)))] [9] [(9, .row 29 false 2 ([p1, y10] : List S_api_Bits).length (RS_api_Bits ([p1, y10] : List S_api_Bits)))] 12 [hn, hn, hlit dS_api_Bits ES_api_Bits 2 (fun _ => rfl) ([p1, y10] : List S_api_Bits)] (by kernel_rfl) ?_
    refine AW.tn (AW.block ?_)
    refine AW.lpE h (fun v => ⟨[(3, vi64 p3), (4, vs p4), (7, .c (.ptr 0 2 0 0)), (11, .c (.ptr 1 3 0 0)), (12, .c (.ptr 2 2 0 0)), (13, .c (.ptr 3 2 0 0)), (124, .c (.ref 4 2 0 (([p1, y10] : List S_api_Bits).length))), (125, vi64 ((([p1, y10] : List S_api_Bits).length : Nat) : Int)), (126, vi64 v.1)], [(0, .box 29 [ci64 p2.Length, cl 1 Ru64 p2.Words]), (1, .box 66 [cl 1 Ri64 v.2.1, ci64 v.2.2.1, cu64 v.2.2.2]), (2, .box 29 [ci64 y10.Length, cl 1 Ru64 y10.Words]), (3, .box 29 [ci64 y16.Length, cl 1 Ru64 y16.Words]), (4, .row 29 false 2 ([p1, y10] : List S_api_Bits).length (RS_api_Bits ([p1, y10] : List S_api_Bits)))], 5⟩) (fun t => (.exit 2, ⟨[], [], 0⟩)) (fun t => (.ret, ⟨[(10, vb false)], [], 0⟩)) (Conv.trans (cfz 6 33 1 y16.Words.length (Ru64 y16.Words) (by kernel_rfl)) (Conv.trans (conv_box (id := 4) (ty := 29) (cs := [ci64 y16.Length, .ref 6 1 0 y16.Words.length]) (ds := [ci64 y16.Length, cl 1 Ru64 y16.Words]) (by kernel_rfl) ⟨CLe.refl _ _, CLe.ref (ty := 33) (f := Ru64 y16.Words) (by kernel_rfl) le0, tv⟩) (conv_re [(0, 1), (1, 2), (2, 3), (3, 4), (4, 9)] (by kernel_rfl)))) (fun _ => tv) (fun _ => tv) ?_ (fun t h => ?_) (fun t h => ?_)
    ·
     clear h
     intro v o h
     obtain ⟨x39, x40, x41, x42⟩ := v
     replace h : rl_law09_BitsetExact_l4 p1 p2 p3 p4 y10 y16 x39 x40 x41 x42 = some o := h
     unfold rl_law09_BitsetExact_l4 at h
     refine AW.sg tt_okL11 [(127, vb (decide (x39 < ((([p1, y10] : List S_api_Bits).length : Nat) : Int))))] [] [] 6 [] (by kernel_rfl) ?_
     refine AW.seq ?_
     refine AW.co h (by kernel_rfl) (fun c43 h => ?_) (fun c43 h => ?_)
     ·
      refine AW.skip (AW.tn ?_)
      refine AW.seq (AW.block ?_)
      obtain ⟨g44, g45, h⟩ := ifd h
      refine AW.sg tt_okL11 [(21, .c (.ptr 8 2 0 0))] [8] [(8, .box 29 [ci64 ((([p1, y10] : List S_api_Bits).getD (0 + x39.toNat) dS_api_Bits).Length), cl 1 Ru64 ((([p1, y10] : List S_api_Bits).getD (0 + x39.toNat) dS_api_Bits).Words)])] 10 [hq g44 g45, ho (p := (0 + x39.toNat) < ([p1, y10] : List S_api_Bits).length) (by have h1 : 0 ≤ x39 := g44; have h2 : x39 < ((([p1, y10] : List S_api_Bits).length : Nat) : Int) := g45; omega)] (by kernel_rfl) ?_
      refine AW.seq ?_
      refine AW.sg tt_okL11 [(135, vi64 0), (134, vi64 ((([p2, y16, y10] : List S_api_Bits).length : Nat) : Int)), (133, .c (.ref 13 2 0 (([p2, y16, y10] : List S_api_Bits).length)))] [13] [(13, .row 29 false 2 ([p2, y16, y10] : List S_api_Bits).length (RS_api_Bits ([p2, y16, y10] : List S_api_Bits)))] 16 [hn, hn, hn, hlit dS_api_Bits ES_api_Bits 2 (fun _ => rfl) ([p2, y16, y10] : List S_api_Bits)] (by kernel_rfl) ?_
      refine AW.block ?_
      refine AW.lpE h (fun v => ⟨[(3, vi64 p3), (4, vs p4), (7, .c (.ptr 0 2 0 0)), (11, .c (.ptr 1 3 0 0)), (12, .c (.ptr 2 2 0 0)), (13, .c (.ptr 3 2 0 0)), (21, .c (.ptr 4 2 0 0)), (124, .c (.ref 5 2 0 (([p1, y10] : List S_api_Bits).length))), (125, vi64 ((([p1, y10] : List S_api_Bits).length : Nat) : Int)), (126, vi64 x39), (133, .c (.ref 6 2 0 (([p2, y16, y10] : List S_api_Bits).length))), (134, vi64 ((([p2, y16, y10] : List S_api_Bits).length : Nat) : Int)), (135, vi64 v)], [(0, .box 29 [ci64 p2.Length, cl 1 Ru64 p2.Words]), (1, .box 66 [cl 1 Ri64 x40, ci64 x41, cu64 x42]), (2, .box 29 [ci64 y10.Length, cl 1 Ru64 y10.Words]), (3, .box 29 [ci64 y16.Length, cl 1 Ru64 y16.Words]), (4, .box 29 [ci64 ((([p1, y10] : List S_api_Bits).getD (0 + x39.toNat) dS_api_Bits).Length), cl 1 Ru64 ((([p1, y10] : List S_api_Bits).getD (0 + x39.toNat) dS_api_Bits).Words)]), (5, .row 29 false 2 ([p1, y10] : List S_api_Bits).length (RS_api_Bits ([p1, y10] : List S_api_Bits))), (6, .row 29 false 2 ([p2, y16, y10] : List S_api_Bits).length (RS_api_Bits ([p2, y16, y10] : List S_api_Bits)))], 7⟩) (fun t => (.exit 4, ⟨[(3, vi64 p3), (4, vs p4), (7, .c (.ptr 0 2 0 0)), (11, .c (.ptr 1 3 0 0)), (12, .c (.ptr 2 2 0 0)), (13, .c (.ptr 3 2 0 0)), (21, .c (.ptr 4 2 0 0)), (124, .c (.ref 5 2 0 (([p1, y10] : List S_api_Bits).length))), (125, vi64 ((([p1, y10] : List S_api_Bits).length : Nat) : Int)), (126, vi64 x39)], [(0, .box 29 [ci64 p2.Length, cl 1 Ru64 p2.Words]), (1, .box 66 [cl 1 Ri64 x40, ci64 x41, cu64 x42]), (2, .box 29 [ci64 y10.Length, cl 1 Ru64 y10.Words]), (3, .box 29 [ci64 y16.Length, cl 1 Ru64 y16.Words]), (4, .box 29 [ci64 ((([p1, y10] : List S_api_Bits).getD (0 + x39.toNat) dS_api_Bits).Length), cl 1 Ru64 ((([p1, y10] : List S_api_Bits).getD (0 + x39.toNat) dS_api_Bits).Words)]), (5, .row 29 false 2 ([p1, y10] : List S_api_Bits).length (RS_api_Bits ([p1, y10] : List S_api_Bits)))], 6⟩)) (fun t => (.ret, ⟨[(10, vb false)], [], 0⟩)) (conv_re [(0, 0), (1, 1), (2, 2), (3, 3), (4, 8), (5, 4), (6, 13)] (by kernel_rfl)) (fun _ => tv) (fun _ => tv) ?_ (fun t h => ?_) (fun t h => ?_)
      ·
       clear h
       intro x47 o h
       unfold rl_law09_BitsetExact_l5 at h
       refine AW.sg tt_okL11 [(136, vb (decide (x47 < ((([p2, y16, y10] : List S_api_Bits).length : Nat) : Int))))] [] [] 8 [] (by kernel_rfl) ?_
       refine AW.seq ?_
       refine AW.co h (by kernel_rfl) (fun c48 h => ?_) (fun c48 h => ?_)
       ·
        refine AW.skip (AW.tn ?_)
        refine AW.seq (AW.block ?_)
        obtain ⟨g49, g50, h⟩ := ifd h
        refine AW.sg tt_okL11 [(23, .c (.ptr 10 2 0 0))] [10] [(10, .box 29 [ci64 ((([p2, y16, y10] : List S_api_Bits).getD (0 + x47.toNat) dS_api_Bits).Length), cl 1 Ru64 ((([p2, y16, y10] : List S_api_Bits).getD (0 + x47.toNat) dS_api_Bits).Words)])] 12 [hq g49 g50, ho (p := (0 + x47.toNat) < ([p2, y16, y10] : List S_api_Bits).length) (by have h1 : 0 ≤ x47 := g49; have h2 : x47 < ((([p2, y16, y10] : List S_api_Bits).length : Nat) : Int) := g50; omega)] (by kernel_rfl) ?_
        obtain ⟨y51, y52, e53, h⟩ := bind2_some h
        refine AW.sg tt_okL11 [(25, vi64 y52), (24, .c (.ptr 18 2 0 0))] [14, 18] [(18, .box 29 [ci64 y51.Length, .ref 14 1 0 y51.Words.length]), (14, .row 33 false 1 y51.Words.length (Ru64 y51.Words))] 21 [hn, hn, hm [] [] 1 (bitset_And_con (([p1, y10] : List S_api_Bits).getD (0 + x39.toNat) dS_api_Bits) (([p2, y16, y10] : List S_api_Bits).getD (0 + x47.toNat) dS_api_Bits) (y51, y52) e53) ⟨rowL_flat Vu64 _ _ _, tv⟩] (by kernel_rfl) ?_
        obtain ⟨y54, y55, e56, h⟩ := bind2_some h
        refine AW.sg tt_okL11 [(27, vi64 y55), (26, .c (.ptr 27 2 0 0))] [23, 27] [(27, .box 29 [ci64 y54.Length, .ref 23 1 0 y54.Words.length]), (23, .row 33 false 1 y54.Words.length (Ru64 y54.Words))] 30 [hn, hn, hm [] [] 1 (rl_ref09_And_con (([p1, y10] : List S_api_Bits).getD (0 + x39.toNat) dS_api_Bits) (([p2, y16, y10] : List S_api_Bits).getD (0 + x47.toNat) dS_api_Bits) (y54, y55) e56) ⟨rowL_flat Vu64 _ _ _, tv⟩] (by kernel_rfl) ?_
        obtain ⟨y57, y58, e59, h⟩ := bind2_some h
        refine AW.sg tt_okL11 [(29, vi64 y58), (28, .c (.ptr 36 2 0 0))] [32, 36] [(36, .box 29 [ci64 y57.Length, .ref 32 1 0 y57.Words.length]), (32, .row 33 false 1 y57.Words.length (Ru64 y57.Words))] 39 [hn, hn, hm [] [] 1 (bitset_Or_con (([p1, y10] : List S_api_Bits).getD (0 + x39.toNat) dS_api_Bits) (([p2, y16, y10] : List S_api_Bits).getD (0 + x47.toNat) dS_api_Bits) (y57, y58) e59) ⟨rowL_flat Vu64 _ _ _, tv⟩] (by kernel_rfl) ?_
        obtain ⟨y60, y61, e62, h⟩ := bind2_some h
        refine AW.sg tt_okL11 [(31, vi64 y61), (30, .c (.ptr 45 2 0 0))] [41, 45] [(45, .box 29 [ci64 y60.Length, .ref 41 1 0 y60.Words.length]), (41, .row 33 false 1 y60.Words.length (Ru64 y60.Words))] 48 [hn, hn, hm [] [] 1 (rl_ref09_Or_con (([p1, y10] : List S_api_Bits).getD (0 + x39.toNat) dS_api_Bits) (([p2, y16, y10] : List S_api_Bits).getD (0 + x47.toNat) dS_api_Bits) (y60, y61) e62) ⟨rowL_flat Vu64 _ _ _, tv⟩] (by kernel_rfl) ?_
        obtain ⟨y63, y64, e65, h⟩ := bind2_some h
        refine AW.sg tt_okL11 [(33, vi64 y64), (32, .c (.ptr 54 2 0 0))] [50, 54] [(54, .box 29 [ci64 y63.Length, .ref 50 1 0 y63.Words.length]), (50, .row 33 false 1 y63.Words.length (Ru64 y63.Words))] 57 [hn, hn, hm [] [] 1 (bitset_Xor_con (([p1, y10] : List S_api_Bits).getD (0 + x39.toNat) dS_api_Bits) (([p2, y16, y10] : List S_api_Bits).getD (0 + x47.toNat) dS_api_Bits) (y63, y64) e65) ⟨rowL_flat Vu64 _ _ _, tv⟩] (by kernel_rfl) ?_
        obtain ⟨y66, y67, e68, h⟩ := bind2_some h
        refine AW.sg tt_okL11 [(35, vi64 y67), (34, .c (.ptr 63 2 0 0))] [59, 63] [(63, .box 29 [ci64 y66.Length, .ref 59 1 0 y66.Words.length]), (59, .row 33 false 1 y66.Words.length (Ru64 y66.Words))] 66 [hn, hn, hm [] [] 1 (rl_ref09_Xor_con (([p1, y10] : List S_api_Bits).getD (0 + x39.toNat) dS_api_Bits) (([p2, y16, y10] : List S_api_Bits).getD (0 + x47.toNat) dS_api_Bits) (y66, y67) e68) ⟨rowL_flat Vu64 _ _ _, tv⟩] (by kernel_rfl) ?_
        refine AW.seq ?_
        refine AW.join (ι := Bool) (fun v => ⟨[(3, vi64 p3), (4, vs p4), (7, .c (.ptr 0 2 0 0)), (11, .c (.ptr 1 3 0 0)), (12, .c (.ptr 2 2 0 0)), (13, .c (.ptr 3 2 0 0)), (21, .c (.ptr 4 2 0 0)), (124, .c (.ref 5 2 0 (([p1, y10] : List S_api_Bits).length))), (125, vi64 ((([p1, y10] : List S_api_Bits).length : Nat) : Int)), (126, vi64 x39), (133, .c (.ref 6 2 0 (([p2, y16, y10] : List S_api_Bits).length))), (134, vi64 ((([p2, y16, y10] : List S_api_Bits).length : Nat) : Int)), (135, vi64 x47), (214, vb v)], [(0, .box 29 [ci64 p2.Length, cl 1 Ru64 p2.Words]), (1, .box 66 [cl 1 Ri64 x40, ci64 x41, cu64 x42]), (2, .box 29 [ci64 y10.Length, cl 1 Ru64 y10.Words]), (3, .box 29 [ci64 y16.Length, cl 1 Ru64 y16.Words]), (4, .box 29 [ci64 ((([p1, y10] : List S_api_Bits).getD (0 + x39.toNat) dS_api_Bits).Length), cl 1 Ru64 ((([p1, y10] : List S_api_Bits).getD (0 + x39.toNat) dS_api_Bits).Words)]), (5, .row 29 false 2 ([p1, y10] : List S_api_Bits).length (RS_api_Bits ([p1, y10] : List S_api_Bits))), (6, .row 29 false 2 ([p2, y16, y10] : List S_api_Bits).length (RS_api_Bits ([p2, y16, y10] : List S_api_Bits)))], 7⟩) (fun v : Bool => rl_law09_BitsetExact_k6 x47 v = some o) (fun x69 h => ?_) ?_
        ·
         unfold rl_law09_BitsetExact_k6 at h
         refine AW.tn ?_
         refine AW.co h (by kernel_rfl) (fun c70 h => ?_) (fun c70 h => ?_)
         ·
          refine AW.sg tt_okL11 [(10, vb false)] [] [] 8 [] (by kernel_rfl) ?_
          refine AW.ret (AW.inBlock_ret (AW.tr ?_))
          exact lpo h rfl (conv_re [] (by kernel_rfl))
         ·
          refine AW.skip (AW.inBlock_normal (AW.tn ?_))
          refine AW.rg tt_okL11 [(135, vi64 (i64.wrap (x47 + 1)))] [] [] 9 [] (by kernel_rfl) ?_
          exact lpn h (conv_re [(0, 0), (1, 1), (2, 2), (3, 3), (4, 4), (5, 5), (6, 6)] (by kernel_rfl))
        ·
         rcases ifs h with ⟨c71, h⟩ | ⟨c71, h⟩
         ·
          refine AW.rd tt_okL11 moL11 [] [(214, vb true)] [] 106 [hn, hn, ht c71] (by kernel_rfl) ?_
          exact jl true h (conv_re [(0, 0), (1, 1), (2, 2), (3, 3), (4, 4), (5, 5), (6, 6)] (by kernel_rfl))
         ·
          rcases ifs h with ⟨c72, h⟩ | ⟨c72, h⟩
          ·
           refine AW.rd tt_okL11 moL11 [] [(214, vb true)] [] 106 [hn, hn, hf c71, hn, hn, hn, ht c72] (by kernel_rfl) ?_
           exact jl true h (conv_re [(0, 0), (1, 1), (2, 2), (3, 3), (4, 4), (5, 5), (6, 6)] (by kernel_rfl))
          ·
           rcases ifs h with ⟨c73, h⟩ | ⟨c73, h⟩
           ·
            refine AW.rd tt_okL11 moL11 [] [(214, vb true)] [] 106 [hn, hn, hf c71, hn, hn, hn, hf c72, hn, hn, hn, hn, ht c73] (by kernel_rfl) ?_
            exact jl true h (conv_re [(0, 0), (1, 1), (2, 2), (3, 3), (4, 4), (5, 5), (6, 6)] (by kernel_rfl))
           ·
            obtain ⟨y74, e75, h⟩ := bnd_some h
            rcases ifs h with ⟨c76, h⟩ | ⟨c76, h⟩
            ·
             refine AW.rd tt_okL11 moL11 [] [(214, vb true)] [] 105 [hn, hn, hf c71, hn, hn, hn, hf c72, hn, hn, hn, hn, hf c73, hn, hn, hn, hn, hg [] [] true 0 (q := ((True) ∧ (0 + y51.Words.length ≤ y51.Words.length) ∧ (True)) ∧ ((True) ∧ (0 + y54.Words.length ≤ y54.Words.length) ∧ (True)) ∧ (True)) ⟨⟨tv, le0, tv⟩, ⟨tv, le0, tv⟩, tv⟩ (a0 := [.agg [ci64 y51.Length, cl 1 Ru64 y51.Words], .agg [ci64 y54.Length, cl 1 Ru64 y54.Words]]) (rl_law09_same_con y51 y54 y74 e75) ⟨ArgLe.refl _, ArgLe.refl _, tv⟩ (fun _ => tv), ht c76] (by kernel_rfl) ?_
             exact jl true h (conv_re [(0, 0), (1, 1), (2, 2), (3, 3), (4, 4), (5, 5), (6, 6)] (by kernel_rfl))
            ·
             obtain ⟨y77, e78, h⟩ := bnd_some h
             rcases ifs h with ⟨c79, h⟩ | ⟨c79, h⟩
             ·
              refine AW.rd tt_okL11 moL11 [] [(214, vb true)] [] 104 [hn, hn, hf c71, hn, hn, hn, hf c72, hn, hn, hn, hn, hf c73, hn, hn, hn, hn, hg [] [] true 0 (q := ((True) ∧ (0 + y51.Words.length ≤ y51.Words.length) ∧ (True)) ∧ ((True) ∧ (0 + y54.Words.length ≤ y54.Words.length) ∧ (True)) ∧ (True)) ⟨⟨tv, le0, tv⟩, ⟨tv, le0, tv⟩, tv⟩ (a0 := [.agg [ci64 y51.Length, cl 1 Ru64 y51.Words], .agg [ci64 y54.Length, cl 1 Ru64 y54.Words]]) (rl_law09_same_con y51 y54 y74 e75) ⟨ArgLe.refl _, ArgLe.refl _, tv⟩ (fun _ => tv), hf c76, hn, hn, hn, hn, hg [] [] true 0 (q := ((True) ∧ (0 + y57.Words.length ≤ y57.Words.length) ∧ (True)) ∧ ((True) ∧ (0 + y60.Words.length ≤ y60.Words.length) ∧ (True)) ∧ (True)) ⟨⟨tv, le0, tv⟩, ⟨tv, le0, tv⟩, tv⟩ (a0 := [.agg [ci64 y57.Length, cl 1 Ru64 y57.Words], .agg [ci64 y60.Length, cl 1 Ru64 y60.Words]]) (rl_law09_same_con y57 y60 y77 e78) ⟨ArgLe.refl _, ArgLe.refl _, tv⟩ (fun _ => tv), ht c79] (by kernel_rfl) ?_
              exact jl true h (conv_re [(0, 0), (1, 1), (2, 2), (3, 3), (4, 4), (5, 5), (6, 6)] (by kernel_rfl))
             ·
              obtain ⟨y80, e81, h⟩ := bnd_some h
              rcases ifs h with ⟨c82, h⟩ | ⟨c82, h⟩
              ·
               refine AW.rd tt_okL11 moL11 [] [(214, vb true)] [] 103 [hn, hn, hf c71, hn, hn, hn, hf c72, hn, hn, hn, hn, hf c73, hn, hn, hn, hn, hg [] [] true 0 (q := ((True) ∧ (0 + y51.Words.length ≤ y51.Words.length) ∧ (True)) ∧ ((True) ∧ (0 + y54.Words.length ≤ y54.Words.length) ∧ (True)) ∧ (True)) ⟨⟨tv, le0, tv⟩, ⟨tv, le0, tv⟩, tv⟩ (a0 := [.agg [ci64 y51.Length, cl 1 Ru64 y51.Words], .agg [ci64 y54.Length, cl 1 Ru64 y54.Words]]) (rl_law09_same_con y51 y54 y74 e75) ⟨ArgLe.refl _, ArgLe.refl _, tv⟩ (fun _ => tv), hf c76, hn, hn, hn, hn, hg [] [] true 0 (q := ((True) ∧ (0 + y57.Words.length ≤ y57.Words.length) ∧ (True)) ∧ ((True) ∧ (0 + y60.Words.length ≤ y60.Words.length) ∧ (True)) ∧ (True)) ⟨⟨tv, le0, tv⟩, ⟨tv, le0, tv⟩, tv⟩ (a0 := [.agg [ci64 y57.Length, cl 1 Ru64 y57.Words], .agg [ci64 y60.Length, cl 1 Ru64 y60.Words]]) (rl_law09_same_con y57 y60 y77 e78) ⟨ArgLe.refl _, ArgLe.refl _, tv⟩ (fun _ => tv), hf c79, hn, hn, hn, hn, hg [] [] true 0 (q := ((True) ∧ (0 + y63.Words.length ≤ y63.Words.length) ∧ (True)) ∧ ((True) ∧ (0 + y66.Words.length ≤ y66.Words.length) ∧ (True)) ∧ (True)) ⟨⟨tv, le0, tv⟩, ⟨tv, le0, tv⟩, tv⟩ (a0 := [.agg [ci64 y63.Length, cl 1 Ru64 y63.Words], .agg [ci64 y66.Length, cl 1 Ru64 y66.Words]]) (rl_law09_same_con y63 y66 y80 e81) ⟨ArgLe.refl _, ArgLe.refl _, tv⟩ (fun _ => tv), ht c82] (by kernel_rfl) ?_
               exact jl true h (conv_re [(0, 0), (1, 1), (2, 2), (3, 3), (4, 4), (5, 5), (6, 6)] (by kernel_rfl))
              ·
               obtain ⟨y83, e84, h⟩ := bnd_some h
               obtain ⟨y85, e86, h⟩ := bnd_some h
               refine AW.rd tt_okL11 moL11 [] [(214, vb (y83 != y85))] [] 101 [hn, hn, hf c71, hn, hn, hn, hf c72, hn, hn, hn, hn, hf c73, hn, hn, hn, hn, hg [] [] true 0 (q := ((True) ∧ (0 + y51.Words.length ≤ y51.Words.length) ∧ (True)) ∧ ((True) ∧ (0 + y54.Words.length ≤ y54.Words.length) ∧ (True)) ∧ (True)) ⟨⟨tv, le0, tv⟩, ⟨tv, le0, tv⟩, tv⟩ (a0 := [.agg [ci64 y51.Length, cl 1 Ru64 y51.Words], .agg [ci64 y54.Length, cl 1 Ru64 y54.Words]]) (rl_law09_same_con y51 y54 y74 e75) ⟨ArgLe.refl _, ArgLe.refl _, tv⟩ (fun _ => tv), hf c76, hn, hn, hn, hn, hg [] [] true 0 (q := ((True) ∧ (0 + y57.Words.length ≤ y57.Words.length) ∧ (True)) ∧ ((True) ∧ (0 + y60.Words.length ≤ y60.Words.length) ∧ (True)) ∧ (True)) ⟨⟨tv, le0, tv⟩, ⟨tv, le0, tv⟩, tv⟩ (a0 := [.agg [ci64 y57.Length, cl 1 Ru64 y57.Words], .agg [ci64 y60.Length, cl 1 Ru64 y60.Words]]) (rl_law09_same_con y57 y60 y77 e78) ⟨ArgLe.refl _, ArgLe.refl _, tv⟩ (fun _ => tv), hf c79, hn, hn, hn, hn, hg [] [] true 0 (q := ((True) ∧ (0 + y63.Words.length ≤ y63.Words.length) ∧ (True)) ∧ ((True) ∧ (0 + y66.Words.length ≤ y66.Words.length) ∧ (True)) ∧ (True)) ⟨⟨tv, le0, tv⟩, ⟨tv, le0, tv⟩, tv⟩ (a0 := [.agg [ci64 y63.Length, cl 1 Ru64 y63.Words], .agg [ci64 y66.Length, cl 1 Ru64 y66.Words]]) (rl_law09_same_con y63 y66 y80 e81) ⟨ArgLe.refl _, ArgLe.refl _, tv⟩ (fun _ => tv), hf c82, hn, hn, hn, hn, hk (bitset_Compare_con (([p1, y10] : List S_api_Bits).getD (0 + x39.toNat) dS_api_Bits) (([p2, y16, y10] : List S_api_Bits).getD (0 + x47.toNat) dS_api_Bits) y83 e84), hn, hn, hk (rl_ref09_Compare_con (([p1, y10] : List S_api_Bits).getD (0 + x39.toNat) dS_api_Bits) (([p2, y16, y10] : List S_api_Bits).getD (0 + x47.toNat) dS_api_Bits) y85 e86)] (by kernel_rfl) ?_
               exact jl (y83 != y85) h (conv_re [(0, 0), (1, 1), (2, 2), (3, 3), (4, 4), (5, 5), (6, 6)] (by kernel_rfl))
       ·
        refine AW.exit (AW.thenQ_exit ?_)
        exact lpo h rfl (conv_re [(0, 0), (1, 1), (2, 2), (3, 3), (4, 4), (5, 5)] (by kernel_rfl))
      ·
       replace h : rl_law09_BitsetExact_a16 p1 p3 p4 y10 x39 x40 x41 x42 = some o := h
       unfold rl_law09_BitsetExact_a16 at h
       show (_ : Exit → St → Prop) (.exit 4) _
       refine AW.inBlock_hit (AW.tn (AW.seq ?_))
       obtain ⟨y87, y88, e89, h⟩ := bind2_some h
       refine AW.sd tt_okL11 moL11 [[], [], [1], [], [], [], [11]] [(224, vi64 0), (223, vi64 ((([p3, y87, i64.wrap (((([p1, y10] : List S_api_Bits).getD (0 + x39.toNat) dS_api_Bits).Length) - 1)] : List Int).length : Nat) : Int)), (222, .c (.ref 11 1 0 (([p3, y87, i64.wrap (((([p1, y10] : List S_api_Bits).getD (0 + x39.toNat) dS_api_Bits).Length) - 1)] : List Int).length)))] [(11, .row 3 false 1 ([p3, y87, i64.wrap (((([p1, y10] : List S_api_Bits).getD (0 + x39.toNat) dS_api_Bits).Length) - 1)] : List Int).length (Ri64 ([p3, y87, i64.wrap (((([p1, y10] : List S_api_Bits).getD (0 + x39.toNat) dS_api_Bits).Length) - 1)] : List Int))), (1, .box 66 [cl 1 Ri64 y88.list, ci64 y88.at_, cu64 y88.state])] 14 [hn, hn, hl [1] [] 0 (rl_make_Deck_Next_con (⟨x40, x41, x42⟩ : S_recordlinkmake_Deck) 300 (y87, y88) e89), hn, hn, hn, hlit 0 Ei64 1 (fun _ => rfl) ([p3, y87, i64.wrap (((([p1, y10] : List S_api_Bits).getD (0 + x39.toNat) dS_api_Bits).Length) - 1)] : List Int)] (by kernel_rfl) ?_
       refine AW.block ?_
       refine AW.lpE h (fun v => ⟨[(3, vi64 p3), (4, vs p4), (7, .c (.ptr 0 2 0 0)), (11, .c (.ptr 1 3 0 0)), (12, .c (.ptr 2 2 0 0)), (13, .c (.ptr 3 2 0 0)), (21, .c (.ptr 4 2 0 0)), (124, .c (.ref 5 2 0 (([p1, y10] : List S_api_Bits).length))), (125, vi64 ((([p1, y10] : List S_api_Bits).length : Nat) : Int)), (126, vi64 x39), (222, .c (.ref 6 1 0 (([p3, y87, i64.wrap (((([p1, y10] : List S_api_Bits).getD (0 + x39.toNat) dS_api_Bits).Length) - 1)] : List Int).length))), (223, vi64 ((([p3, y87, i64.wrap (((([p1, y10] : List S_api_Bits).getD (0 + x39.toNat) dS_api_Bits).Length) - 1)] : List Int).length : Nat) : Int)), (224, vi64 v)], [(0, .box 29 [ci64 p2.Length, cl 1 Ru64 p2.Words]), (1, .box 66 [cl 1 Ri64 y88.list, ci64 y88.at_, cu64 y88.state]), (2, .box 29 [ci64 y10.Length, cl 1 Ru64 y10.Words]), (3, .box 29 [ci64 y16.Length, cl 1 Ru64 y16.Words]), (4, .box 29 [ci64 ((([p1, y10] : List S_api_Bits).getD (0 + x39.toNat) dS_api_Bits).Length), cl 1 Ru64 ((([p1, y10] : List S_api_Bits).getD (0 + x39.toNat) dS_api_Bits).Words)]), (5, .row 29 false 2 ([p1, y10] : List S_api_Bits).length (RS_api_Bits ([p1, y10] : List S_api_Bits))), (6, .row 3 false 1 ([p3, y87, i64.wrap (((([p1, y10] : List S_api_Bits).getD (0 + x39.toNat) dS_api_Bits).Length) - 1)] : List Int).length (Ri64 ([p3, y87, i64.wrap (((([p1, y10] : List S_api_Bits).getD (0 + x39.toNat) dS_api_Bits).Length) - 1)] : List Int)))], 7⟩) (fun t => (.exit 6, ⟨[(3, vi64 p3), (4, vs p4), (7, .c (.ptr 0 2 0 0)), (11, .c (.ptr 1 3 0 0)), (12, .c (.ptr 2 2 0 0)), (13, .c (.ptr 3 2 0 0)), (21, .c (.ptr 4 2 0 0)), (124, .c (.ref 5 2 0 (([p1, y10] : List S_api_Bits).length))), (125, vi64 ((([p1, y10] : List S_api_Bits).length : Nat) : Int)), (126, vi64 x39)], [(0, .box 29 [ci64 p2.Length, cl 1 Ru64 p2.Words]), (1, .box 66 [cl 1 Ri64 y88.list, ci64 y88.at_, cu64 y88.state]), (2, .box 29 [ci64 y10.Length, cl 1 Ru64 y10.Words]), (3, .box 29 [ci64 y16.Length, cl 1 Ru64 y16.Words]), (4, .box 29 [ci64 ((([p1, y10] : List S_api_Bits).getD (0 + x39.toNat) dS_api_Bits).Length), cl 1 Ru64 ((([p1, y10] : List S_api_Bits).getD (0 + x39.toNat) dS_api_Bits).Words)]), (5, .row 29 false 2 ([p1, y10] : List S_api_Bits).length (RS_api_Bits ([p1, y10] : List S_api_Bits)))], 6⟩)) (fun t => (.ret, ⟨[(10, vb false)], [], 0⟩)) (conv_re [(0, 0), (1, 1), (2, 2), (3, 3), (4, 4), (5, 5), (6, 11)] (by kernel_rfl)) (fun _ => tv) (fun _ => tv) ?_ (fun t h => ?_) (fun t h => ?_)
       ·
        clear h
        intro x91 o h
        unfold rl_law09_BitsetExact_l7 at h
        refine AW.sg tt_okL11 [(225, vb (decide (x91 < ((([p3, y87, i64.wrap (((([p1, y10] : List S_api_Bits).getD (0 + x39.toNat) dS_api_Bits).Length) - 1)] : List Int).length : Nat) : Int))))] [] [] 8 [] (by kernel_rfl) ?_
        refine AW.seq ?_
        refine AW.co h (by kernel_rfl) (fun c92 h => ?_) (fun c92 h => ?_)
        ·
         refine AW.skip (AW.tn ?_)
         refine AW.seq (AW.block ?_)
         obtain ⟨g93, g94, h⟩ := ifd h
         refine AW.sg tt_okL11 [(37, vi64 (([p3, y87, i64.wrap (((([p1, y10] : List S_api_Bits).getD (0 + x39.toNat) dS_api_Bits).Length) - 1)] : List Int).getD (0 + x91.toNat) 0))] [] [] 11 [hq g93 g94, ho (p := (0 + x91.toNat) < ([p3, y87, i64.wrap (((([p1, y10] : List S_api_Bits).getD (0 + x39.toNat) dS_api_Bits).Length) - 1)] : List Int).length) (by have h1 : 0 ≤ x91 := g93; have h2 : x91 < ((([p3, y87, i64.wrap (((([p1, y10] : List S_api_Bits).getD (0 + x39.toNat) dS_api_Bits).Length) - 1)] : List Int).length : Nat) : Int) := g94; omega)] (by kernel_rfl) ?_
         obtain ⟨y95, y96, e97, h⟩ := bind2_some h
         refine AW.sg tt_okL11 [(39, vi64 y96), (38, .c (.ptr 17 2 0 0))] [13, 17] [(17, .box 29 [ci64 y95.Length, .ref 13 1 0 y95.Words.length]), (13, .row 33 false 1 y95.Words.length (Ru64 y95.Words))] 20 [hn, hn, hm [] [] 1 (bitset_Set_con (([p1, y10] : List S_api_Bits).getD (0 + x39.toNat) dS_api_Bits) (([p3, y87, i64.wrap (((([p1, y10] : List S_api_Bits).getD (0 + x39.toNat) dS_api_Bits).Length) - 1)] : List Int).getD (0 + x91.toNat) 0) (y95, y96) e97) ⟨rowL_flat Vu64 _ _ _, tv⟩] (by kernel_rfl) ?_
         obtain ⟨y98, y99, e100, h⟩ := bind2_some h
         refine AW.sg tt_okL11 [(41, vi64 y99), (40, .c (.ptr 26 2 0 0))] [22, 26] [(26, .box 29 [ci64 y98.Length, .ref 22 1 0 y98.Words.length]), (22, .row 33 false 1 y98.Words.length (Ru64 y98.Words))] 29 [hn, hn, hm [] [] 1 (rl_ref09_Set_con (([p1, y10] : List S_api_Bits).getD (0 + x39.toNat) dS_api_Bits) (([p3, y87, i64.wrap (((([p1, y10] : List S_api_Bits).getD (0 + x39.toNat) dS_api_Bits).Length) - 1)] : List Int).getD (0 + x91.toNat) 0) (y98, y99) e100) ⟨rowL_flat Vu64 _ _ _, tv⟩] (by kernel_rfl) ?_
         refine AW.seq ?_
         refine AW.join (ι := Bool) (fun v => ⟨[(3, vi64 p3), (4, vs p4), (7, .c (.ptr 0 2 0 0)), (11, .c (.ptr 1 3 0 0)), (12, .c (.ptr 2 2 0 0)), (13, .c (.ptr 3 2 0 0)), (21, .c (.ptr 4 2 0 0)), (124, .c (.ref 5 2 0 (([p1, y10] : List S_api_Bits).length))), (125, vi64 ((([p1, y10] : List S_api_Bits).length : Nat) : Int)), (126, vi64 x39), (222, .c (.ref 6 1 0 (([p3, y87, i64.wrap (((([p1, y10] : List S_api_Bits).getD (0 + x39.toNat) dS_api_Bits).Length) - 1)] : List Int).length))), (223, vi64 ((([p3, y87, i64.wrap (((([p1, y10] : List S_api_Bits).getD (0 + x39.toNat) dS_api_Bits).Length) - 1)] : List Int).length : Nat) : Int)), (224, vi64 x91), (257, vb v)], [(0, .box 29 [ci64 p2.Length, cl 1 Ru64 p2.Words]), (1, .box 66 [cl 1 Ri64 y88.list, ci64 y88.at_, cu64 y88.state]), (2, .box 29 [ci64 y10.Length, cl 1 Ru64 y10.Words]), (3, .box 29 [ci64 y16.Length, cl 1 Ru64 y16.Words]), (4, .box 29 [ci64 ((([p1, y10] : List S_api_Bits).getD (0 + x39.toNat) dS_api_Bits).Length), cl 1 Ru64 ((([p1, y10] : List S_api_Bits).getD (0 + x39.toNat) dS_api_Bits).Words)]), (5, .row 29 false 2 ([p1, y10] : List S_api_Bits).length (RS_api_Bits ([p1, y10] : List S_api_Bits))), (6, .row 3 false 1 ([p3, y87, i64.wrap (((([p1, y10] : List S_api_Bits).getD (0 + x39.toNat) dS_api_Bits).Length) - 1)] : List Int).length (Ri64 ([p3, y87, i64.wrap (((([p1, y10] : List S_api_Bits).getD (0 + x39.toNat) dS_api_Bits).Length) - 1)] : List Int)))], 7⟩) (fun v : Bool => rl_law09_BitsetExact_k8 x91 v = some o) (fun x101 h => ?_) ?_
         ·
          unfold rl_law09_BitsetExact_k8 at h
          refine AW.tn ?_
          refine AW.co h (by kernel_rfl) (fun c102 h => ?_) (fun c102 h => ?_)
          ·
           refine AW.sg tt_okL11 [(10, vb false)] [] [] 8 [] (by kernel_rfl) ?_
           refine AW.ret (AW.inBlock_ret (AW.tr ?_))
           exact lpo h rfl (conv_re [] (by kernel_rfl))
          ·
           refine AW.skip (AW.inBlock_normal (AW.tn ?_))
           refine AW.rg tt_okL11 [(224, vi64 (i64.wrap (x91 + 1)))] [] [] 9 [] (by kernel_rfl) ?_
           exact lpn h (conv_re [(0, 0), (1, 1), (2, 2), (3, 3), (4, 4), (5, 5), (6, 6)] (by kernel_rfl))
         ·
          rcases ifs h with ⟨c103, h⟩ | ⟨c103, h⟩
          ·
           refine AW.rd tt_okL11 moL11 [] [(257, vb true)] [] 47 [hn, hn, ht c103] (by kernel_rfl) ?_
           exact jl true h (conv_re [(0, 0), (1, 1), (2, 2), (3, 3), (4, 4), (5, 5), (6, 6)] (by kernel_rfl))
          ·
           obtain ⟨y104, e105, h⟩ := bnd_some h
           rcases ifs h with ⟨c106, h⟩ | ⟨c106, h⟩
           ·
            refine AW.rd tt_okL11 moL11 [] [(257, vb true)] [] 46 [hn, hn, hf c103, hn, hn, hn, hg [] [] true 0 (q := ((True) ∧ (0 + y95.Words.length ≤ y95.Words.length) ∧ (True)) ∧ ((True) ∧ (0 + y98.Words.length ≤ y98.Words.length) ∧ (True)) ∧ (True)) ⟨⟨tv, le0, tv⟩, ⟨tv, le0, tv⟩, tv⟩ (a0 := [.agg [ci64 y95.Length, cl 1 Ru64 y95.Words], .agg [ci64 y98.Length, cl 1 Ru64 y98.Words]]) (rl_law09_same_con y95 y98 y104 e105) ⟨ArgLe.refl _, ArgLe.refl _, tv⟩ (fun _ => tv), ht c106] (by kernel_rfl) ?_
            exact jl true h (conv_re [(0, 0), (1, 1), (2, 2), (3, 3), (4, 4), (5, 5), (6, 6)] (by kernel_rfl))
           ·
            obtain ⟨y107, e108, h⟩ := bnd_some h
            obtain ⟨y109, e110, h⟩ := bnd_some h
            refine AW.rd tt_okL11 moL11 [] [(257, vb (!(y107 == y109)))] [] 44 [hn, hn, hf c103, hn, hn, hn, hg [] [] true 0 (q := ((True) ∧ (0 + y95.Words.length ≤ y95.Words.length) ∧ (True)) ∧ ((True) ∧ (0 + y98.Words.length ≤ y98.Words.length) ∧ (True)) ∧ (True)) ⟨⟨tv, le0, tv⟩, ⟨tv, le0, tv⟩, tv⟩ (a0 := [.agg [ci64 y95.Length, cl 1 Ru64 y95.Words], .agg [ci64 y98.Length, cl 1 Ru64 y98.Words]]) (rl_law09_same_con y95 y98 y104 e105) ⟨ArgLe.refl _, ArgLe.refl _, tv⟩ (fun _ => tv), hf c106, hn, hn, hn, hn, hk (bitset_Has_con (([p1, y10] : List S_api_Bits).getD (0 + x39.toNat) dS_api_Bits) (([p3, y87, i64.wrap (((([p1, y10] : List S_api_Bits).getD (0 + x39.toNat) dS_api_Bits).Length) - 1)] : List Int).getD (0 + x91.toNat) 0) y107 e108), hn, hn, hk (rl_ref09_Has_con (([p1, y10] : List S_api_Bits).getD (0 + x39.toNat) dS_api_Bits) (([p3, y87, i64.wrap (((([p1, y10] : List S_api_Bits).getD (0 + x39.toNat) dS_api_Bits).Length) - 1)] : List Int).getD (0 + x91.toNat) 0) y109 e110)] (by kernel_rfl) ?_
            exact jl (!(y107 == y109)) h (conv_re [(0, 0), (1, 1), (2, 2), (3, 3), (4, 4), (5, 5), (6, 6)] (by kernel_rfl))
        ·
         refine AW.exit (AW.thenQ_exit ?_)
         exact lpo h rfl (conv_re [(0, 0), (1, 1), (2, 2), (3, 3), (4, 4), (5, 5)] (by kernel_rfl))
       ·
        replace h : rl_law09_BitsetExact_a14 p1 p4 y10 x39 y88 = some o := h
        unfold rl_law09_BitsetExact_a14 at h
        show (_ : Exit → St → Prop) (.exit 6) _
        refine AW.inBlock_hit (AW.tn ?_)
        obtain ⟨y111, y112, e113, h⟩ := bind2_some h
        refine AW.sg tt_okL11 [(43, vi64 y112), (42, .c (.ptr 11 2 0 0))] [7, 11] [(11, .box 29 [ci64 y111.Length, .ref 7 1 0 y111.Words.length]), (7, .row 33 false 1 y111.Words.length (Ru64 y111.Words))] 14 [hn, hm [] [] 1 (bitset_Fold_con (([p1, y10] : List S_api_Bits).getD (0 + x39.toNat) dS_api_Bits) (y111, y112) e113) ⟨rowL_flat Vu64 _ _ _, tv⟩] (by kernel_rfl) ?_
        obtain ⟨y114, y115, e116, h⟩ := bind2_some h
        refine AW.sg tt_okL11 [(45, vi64 y115), (44, .c (.ptr 19 2 0 0))] [15, 19] [(19, .box 29 [ci64 y114.Length, .ref 15 1 0 y114.Words.length]), (15, .row 33 false 1 y114.Words.length (Ru64 y114.Words))] 22 [hn, hm [] [] 1 (rl_ref09_Fold_con (([p1, y10] : List S_api_Bits).getD (0 + x39.toNat) dS_api_Bits) (y114, y115) e116) ⟨rowL_flat Vu64 _ _ _, tv⟩] (by kernel_rfl) ?_
        obtain ⟨y117, y118, e119, h⟩ := bind2_some h
        refine AW.sg tt_okL11 [(47, vi64 y118), (46, vs y117)] [] [] 28 [hn, hk (bitset_Hex_con (([p1, y10] : List S_api_Bits).getD (0 + x39.toNat) dS_api_Bits) (y117, y118) e119)] (by kernel_rfl) ?_
        obtain ⟨y120, y121, e122, h⟩ := bind2_some h
        refine AW.sg tt_okL11 [(49, vi64 y121), (48, vs y120)] [] [] 34 [hn, hk (rl_ref09_Hex_con (([p1, y10] : List S_api_Bits).getD (0 + x39.toNat) dS_api_Bits) (y120, y121) e122)] (by kernel_rfl) ?_
        refine AW.seq (AW.seq ?_)
        refine AW.join (ι := Bool) (fun v => ⟨[(3, vi64 p3), (4, vs p4), (7, .c (.ptr 0 2 0 0)), (11, .c (.ptr 1 3 0 0)), (12, .c (.ptr 2 2 0 0)), (13, .c (.ptr 3 2 0 0)), (48, vs y120), (124, .c (.ref 4 2 0 (([p1, y10] : List S_api_Bits).length))), (125, vi64 ((([p1, y10] : List S_api_Bits).length : Nat) : Int)), (126, vi64 x39), (311, vb v)], [(0, .box 29 [ci64 p2.Length, cl 1 Ru64 p2.Words]), (1, .box 66 [cl 1 Ri64 y88.list, ci64 y88.at_, cu64 y88.state]), (2, .box 29 [ci64 y10.Length, cl 1 Ru64 y10.Words]), (3, .box 29 [ci64 y16.Length, cl 1 Ru64 y16.Words]), (4, .row 29 false 2 ([p1, y10] : List S_api_Bits).length (RS_api_Bits ([p1, y10] : List S_api_Bits)))], 5⟩) (fun v : Bool => rl_law09_BitsetExact_k9 p4 x39 y88 y120 v = some o) (fun x123 h => ?_) ?_
        ·
         unfold rl_law09_BitsetExact_k9 at h
         refine AW.tn ?_
         refine AW.co h (by kernel_rfl) (fun c124 h => ?_) (fun c124 h => ?_)
         ·
          refine AW.sg tt_okL11 [(10, vb false)] [] [] 6 [] (by kernel_rfl) ?_
          refine AW.ret (AW.tr ?_)
          refine AW.inBlock_ret (AW.tr ?_)
          exact lpo h rfl (conv_re [] (by kernel_rfl))
         ·
          refine AW.skip (AW.tn ?_)
          obtain ⟨g125, g126, h⟩ := ifd h
          refine AW.sg tt_okL11 [(322, vi64 0), (321, vi64 ((([p4, y120, (y120 ++ p4), (y120 ++ y120)] : List ByteArray).length : Nat) : Int)), (320, .c (.ref 13 1 0 (([p4, y120, (y120 ++ p4), (y120 ++ y120)] : List ByteArray).length)))] [13] [(13, .row 9 false 1 ([p4, y120, (y120 ++ p4), (y120 ++ y120)] : List ByteArray).length (Rs ([p4, y120, (y120 ++ p4), (y120 ++ y120)] : List ByteArray)))] 16 [hn, hn, hn, hn, ho g125, hn, hn, ho g126, hlit ByteArray.empty Es 1 (fun _ => rfl) ([p4, y120, (y120 ++ p4), (y120 ++ y120)] : List ByteArray)] (by kernel_rfl) ?_
          refine AW.block ?_
          refine AW.lpE h (fun v => ⟨[(3, vi64 p3), (4, vs p4), (7, .c (.ptr 0 2 0 0)), (11, .c (.ptr 1 3 0 0)), (12, .c (.ptr 2 2 0 0)), (13, .c (.ptr 3 2 0 0)), (124, .c (.ref 4 2 0 (([p1, y10] : List S_api_Bits).length))), (125, vi64 ((([p1, y10] : List S_api_Bits).length : Nat) : Int)), (126, vi64 x39), (320, .c (.ref 5 1 0 (([p4, y120, (y120 ++ p4), (y120 ++ y120)] : List ByteArray).length))), (321, vi64 ((([p4, y120, (y120 ++ p4), (y120 ++ y120)] : List ByteArray).length : Nat) : Int)), (322, vi64 v)], [(0, .box 29 [ci64 p2.Length, cl 1 Ru64 p2.Words]), (1, .box 66 [cl 1 Ri64 y88.list, ci64 y88.at_, cu64 y88.state]), (2, .box 29 [ci64 y10.Length, cl 1 Ru64 y10.Words]), (3, .box 29 [ci64 y16.Length, cl 1 Ru64 y16.Words]), (4, .row 29 false 2 ([p1, y10] : List S_api_Bits).length (RS_api_Bits ([p1, y10] : List S_api_Bits))), (5, .row 9 false 1 ([p4, y120, (y120 ++ p4), (y120 ++ y120)] : List ByteArray).length (Rs ([p4, y120, (y120 ++ p4), (y120 ++ y120)] : List ByteArray)))], 6⟩) (fun t => (.exit 8, ⟨[(3, vi64 p3), (4, vs p4), (7, .c (.ptr 0 2 0 0)), (11, .c (.ptr 1 3 0 0)), (12, .c (.ptr 2 2 0 0)), (13, .c (.ptr 3 2 0 0)), (124, .c (.ref 4 2 0 (([p1, y10] : List S_api_Bits).length))), (125, vi64 ((([p1, y10] : List S_api_Bits).length : Nat) : Int)), (126, vi64 x39)], [(0, .box 29 [ci64 p2.Length, cl 1 Ru64 p2.Words]), (1, .box 66 [cl 1 Ri64 y88.list, ci64 y88.at_, cu64 y88.state]), (2, .box 29 [ci64 y10.Length, cl 1 Ru64 y10.Words]), (3, .box 29 [ci64 y16.Length, cl 1 Ru64 y16.Words]), (4, .row 29 false 2 ([p1, y10] : List S_api_Bits).length (RS_api_Bits ([p1, y10] : List S_api_Bits)))], 5⟩)) (fun t => (.ret, ⟨[(10, vb false)], [], 0⟩)) (conv_re [(0, 0), (1, 1), (2, 2), (3, 3), (4, 4), (5, 13)] (by kernel_rfl)) (fun _ => tv) (fun _ => tv) ?_ (fun t h => ?_) (fun t h => ?_)
          ·
           clear h
           intro x128 o h
           unfold rl_law09_BitsetExact_l10 at h
           refine AW.sg tt_okL11 [(323, vb (decide (x128 < ((([p4, y120, (y120 ++ p4), (y120 ++ y120)] : List ByteArray).length : Nat) : Int))))] [] [] 7 [] (by kernel_rfl) ?_
           refine AW.seq ?_
           refine AW.co h (by kernel_rfl) (fun c129 h => ?_) (fun c129 h => ?_)
           ·
            refine AW.skip (AW.tn ?_)
            refine AW.seq (AW.block ?_)
            obtain ⟨g130, g131, h⟩ := ifd h
            refine AW.sg tt_okL11 [(51, vs (([p4, y120, (y120 ++ p4), (y120 ++ y120)] : List ByteArray).getD (0 + x128.toNat) ByteArray.empty))] [] [] 10 [hq g130 g131, ho (p := (0 + x128.toNat) < ([p4, y120, (y120 ++ p4), (y120 ++ y120)] : List ByteArray).length) (by have h1 : 0 ≤ x128 := g130; have h2 : x128 < ((([p4, y120, (y120 ++ p4), (y120 ++ y120)] : List ByteArray).length : Nat) : Int) := g131; omega)] (by kernel_rfl) ?_
            obtain ⟨y132, y133, e134, h⟩ := bind2_some h
            refine AW.sg tt_okL11 [(53, vi64 y133), (52, .c (.ptr 15 2 0 0))] [11, 15] [(15, .box 29 [ci64 y132.Length, .ref 11 1 0 y132.Words.length]), (11, .row 33 false 1 y132.Words.length (Ru64 y132.Words))] 18 [hn, hm [] [] 1 (bitset_Parse_con (([p4, y120, (y120 ++ p4), (y120 ++ y120)] : List ByteArray).getD (0 + x128.toNat) ByteArray.empty) (y132, y133) e134) ⟨rowL_flat Vu64 _ _ _, tv⟩] (by kernel_rfl) ?_
            obtain ⟨y135, y136, e137, h⟩ := bind2_some h
            refine AW.sg tt_okL11 [(55, vi64 y136), (54, .c (.ptr 23 2 0 0))] [19, 23] [(23, .box 29 [ci64 y135.Length, .ref 19 1 0 y135.Words.length]), (19, .row 33 false 1 y135.Words.length (Ru64 y135.Words))] 26 [hn, hm [] [] 1 (rl_ref09_Parse_con (([p4, y120, (y120 ++ p4), (y120 ++ y120)] : List ByteArray).getD (0 + x128.toNat) ByteArray.empty) (y135, y136) e137) ⟨rowL_flat Vu64 _ _ _, tv⟩] (by kernel_rfl) ?_
            refine AW.seq ?_
            refine AW.join (ι := Bool) (fun v => ⟨[(3, vi64 p3), (4, vs p4), (7, .c (.ptr 0 2 0 0)), (11, .c (.ptr 1 3 0 0)), (12, .c (.ptr 2 2 0 0)), (13, .c (.ptr 3 2 0 0)), (124, .c (.ref 4 2 0 (([p1, y10] : List S_api_Bits).length))), (125, vi64 ((([p1, y10] : List S_api_Bits).length : Nat) : Int)), (126, vi64 x39), (320, .c (.ref 5 1 0 (([p4, y120, (y120 ++ p4), (y120 ++ y120)] : List ByteArray).length))), (321, vi64 ((([p4, y120, (y120 ++ p4), (y120 ++ y120)] : List ByteArray).length : Nat) : Int)), (322, vi64 x128), (344, vb v)], [(0, .box 29 [ci64 p2.Length, cl 1 Ru64 p2.Words]), (1, .box 66 [cl 1 Ri64 y88.list, ci64 y88.at_, cu64 y88.state]), (2, .box 29 [ci64 y10.Length, cl 1 Ru64 y10.Words]), (3, .box 29 [ci64 y16.Length, cl 1 Ru64 y16.Words]), (4, .row 29 false 2 ([p1, y10] : List S_api_Bits).length (RS_api_Bits ([p1, y10] : List S_api_Bits))), (5, .row 9 false 1 ([p4, y120, (y120 ++ p4), (y120 ++ y120)] : List ByteArray).length (Rs ([p4, y120, (y120 ++ p4), (y120 ++ y120)] : List ByteArray)))], 6⟩) (fun v : Bool => rl_law09_BitsetExact_k11 x128 v = some o) (fun x138 h => ?_) ?_
            ·
             unfold rl_law09_BitsetExact_k11 at h
             refine AW.tn ?_
             refine AW.co h (by kernel_rfl) (fun c139 h => ?_) (fun c139 h => ?_)
             ·
              refine AW.sg tt_okL11 [(10, vb false)] [] [] 7 [] (by kernel_rfl) ?_
              refine AW.ret (AW.inBlock_ret (AW.tr ?_))
              exact lpo h rfl (conv_re [] (by kernel_rfl))
             ·
              refine AW.skip (AW.inBlock_normal (AW.tn ?_))
              refine AW.rg tt_okL11 [(322, vi64 (i64.wrap (x128 + 1)))] [] [] 8 [] (by kernel_rfl) ?_
              exact lpn h (conv_re [(0, 0), (1, 1), (2, 2), (3, 3), (4, 4), (5, 5)] (by kernel_rfl))
            ·
             rcases ifs h with ⟨c140, h⟩ | ⟨c140, h⟩
             ·
              refine AW.rg tt_okL11 [(344, vb true)] [] [] 35 [hn, hn, ht c140] (by kernel_rfl) ?_
              exact jl true h (conv_re [(0, 0), (1, 1), (2, 2), (3, 3), (4, 4), (5, 5)] (by kernel_rfl))
             ·
              obtain ⟨y141, e142, h⟩ := bnd_some h
              refine AW.rg tt_okL11 [(344, vb (!y141))] [] [] 34 [hn, hn, hf c140, hn, hn, hn, hg [] [] true 0 (q := ((True) ∧ (0 + y132.Words.length ≤ y132.Words.length) ∧ (True)) ∧ ((True) ∧ (0 + y135.Words.length ≤ y135.Words.length) ∧ (True)) ∧ (True)) ⟨⟨tv, le0, tv⟩, ⟨tv, le0, tv⟩, tv⟩ (a0 := [.agg [ci64 y132.Length, cl 1 Ru64 y132.Words], .agg [ci64 y135.Length, cl 1 Ru64 y135.Words]]) (rl_law09_same_con y132 y135 y141 e142) ⟨ArgLe.refl _, ArgLe.refl _, tv⟩ (fun _ => tv)] (by kernel_rfl) ?_
              exact jl (!y141) h (conv_re [(0, 0), (1, 1), (2, 2), (3, 3), (4, 4), (5, 5)] (by kernel_rfl))
           ·
            refine AW.exit (AW.thenQ_exit ?_)
            exact lpo h rfl (conv_re [(0, 0), (1, 1), (2, 2), (3, 3), (4, 4)] (by kernel_rfl))
          ·
           replace h : rl_law09_BitsetExact_a12 x39 y88 = some o := h
           unfold rl_law09_BitsetExact_a12 at h
           show (_ : Exit → St → Prop) (.exit 8) _
           refine AW.inBlock_hit (AW.inBlock_normal (AW.tn ?_))
           refine AW.rg tt_okL11 [(126, vi64 (i64.wrap (x39 + 1)))] [] [] 7 [] (by kernel_rfl) ?_
           exact lpn h (conv_re [(0, 0), (1, 1), (2, 2), (3, 3), (4, 4)] (by kernel_rfl))
          ·
           replace h : rl_law09_BitsetExact_a13 = some o := h
           unfold rl_law09_BitsetExact_a13 at h
           show (_ : Exit → St → Prop) (.ret) _
           refine AW.inBlock_ret (AW.inBlock_ret (AW.tr ?_))
           exact lpo h rfl (conv_re [] (by kernel_rfl))
        ·
         rcases ifs h with ⟨c144, h⟩ | ⟨c144, h⟩
         ·
          refine AW.rd tt_okL11 moL11 [] [(311, vb true)] [] 67 [hn, hn, ht c144] (by kernel_rfl) ?_
          exact jl true h (conv_re [(0, 0), (1, 1), (2, 2), (3, 3), (4, 5)] (by kernel_rfl))
         ·
          rcases ifs h with ⟨c145, h⟩ | ⟨c145, h⟩
          ·
           refine AW.rd tt_okL11 moL11 [] [(311, vb true)] [] 67 [hn, hn, hf c144, hn, hn, hn, ht c145] (by kernel_rfl) ?_
           exact jl true h (conv_re [(0, 0), (1, 1), (2, 2), (3, 3), (4, 5)] (by kernel_rfl))
          ·
           rcases ifs h with ⟨c146, h⟩ | ⟨c146, h⟩
           ·
            refine AW.rd tt_okL11 moL11 [] [(311, vb true)] [] 67 [hn, hn, hf c144, hn, hn, hn, hf c145, hn, hn, hn, hn, ht c146] (by kernel_rfl) ?_
            exact jl true h (conv_re [(0, 0), (1, 1), (2, 2), (3, 3), (4, 5)] (by kernel_rfl))
           ·
            obtain ⟨y147, e148, h⟩ := bnd_some h
            rcases ifs h with ⟨c149, h⟩ | ⟨c149, h⟩
            ·
             refine AW.rd tt_okL11 moL11 [] [(311, vb true)] [] 66 [hn, hn, hf c144, hn, hn, hn, hf c145, hn, hn, hn, hn, hf c146, hn, hn, hn, hn, hg [] [] true 0 (q := ((True) ∧ (0 + y111.Words.length ≤ y111.Words.length) ∧ (True)) ∧ ((True) ∧ (0 + y114.Words.length ≤ y114.Words.length) ∧ (True)) ∧ (True)) ⟨⟨tv, le0, tv⟩, ⟨tv, le0, tv⟩, tv⟩ (a0 := [.agg [ci64 y111.Length, cl 1 Ru64 y111.Words], .agg [ci64 y114.Length, cl 1 Ru64 y114.Words]]) (rl_law09_same_con y111 y114 y147 e148) ⟨ArgLe.refl _, ArgLe.refl _, tv⟩ (fun _ => tv), ht c149] (by kernel_rfl) ?_
             exact jl true h (conv_re [(0, 0), (1, 1), (2, 2), (3, 3), (4, 5)] (by kernel_rfl))
            ·
             obtain ⟨y150, e151, h⟩ := bnd_some h
             obtain ⟨y152, e153, h⟩ := bnd_some h
             rcases ifs h with ⟨c154, h⟩ | ⟨c154, h⟩
             ·
              refine AW.rd tt_okL11 moL11 [] [(311, vb true)] [] 64 [hn, hn, hf c144, hn, hn, hn, hf c145, hn, hn, hn, hn, hf c146, hn, hn, hn, hn, hg [] [] true 0 (q := ((True) ∧ (0 + y111.Words.length ≤ y111.Words.length) ∧ (True)) ∧ ((True) ∧ (0 + y114.Words.length ≤ y114.Words.length) ∧ (True)) ∧ (True)) ⟨⟨tv, le0, tv⟩, ⟨tv, le0, tv⟩, tv⟩ (a0 := [.agg [ci64 y111.Length, cl 1 Ru64 y111.Words], .agg [ci64 y114.Length, cl 1 Ru64 y114.Words]]) (rl_law09_same_con y111 y114 y147 e148) ⟨ArgLe.refl _, ArgLe.refl _, tv⟩ (fun _ => tv), hf c149, hn, hn, hn, hk (bitset_Valid_con (([p1, y10] : List S_api_Bits).getD (0 + x39.toNat) dS_api_Bits) y150 e151), hn, hk (rl_ref09_Valid_con (([p1, y10] : List S_api_Bits).getD (0 + x39.toNat) dS_api_Bits) y152 e153), ht c154] (by kernel_rfl) ?_
              exact jl true h (conv_re [(0, 0), (1, 1), (2, 2), (3, 3), (4, 5)] (by kernel_rfl))
             ·
              obtain ⟨y155, e156, h⟩ := bnd_some h
              obtain ⟨y157, e158, h⟩ := bnd_some h
              refine AW.rd tt_okL11 moL11 [] [(311, vb (y155 != y157))] [] 62 [hn, hn, hf c144, hn, hn, hn, hf c145, hn, hn, hn, hn, hf c146, hn, hn, hn, hn, hg [] [] true 0 (q := ((True) ∧ (0 + y111.Words.length ≤ y111.Words.length) ∧ (True)) ∧ ((True) ∧ (0 + y114.Words.length ≤ y114.Words.length) ∧ (True)) ∧ (True)) ⟨⟨tv, le0, tv⟩, ⟨tv, le0, tv⟩, tv⟩ (a0 := [.agg [ci64 y111.Length, cl 1 Ru64 y111.Words], .agg [ci64 y114.Length, cl 1 Ru64 y114.Words]]) (rl_law09_same_con y111 y114 y147 e148) ⟨ArgLe.refl _, ArgLe.refl _, tv⟩ (fun _ => tv), hf c149, hn, hn, hn, hk (bitset_Valid_con (([p1, y10] : List S_api_Bits).getD (0 + x39.toNat) dS_api_Bits) y150 e151), hn, hk (rl_ref09_Valid_con (([p1, y10] : List S_api_Bits).getD (0 + x39.toNat) dS_api_Bits) y152 e153), hf c154, hn, hn, hn, hk (bitset_Count_con (([p1, y10] : List S_api_Bits).getD (0 + x39.toNat) dS_api_Bits) y155 e156), hn, hk (rl_ref09_Count_con (([p1, y10] : List S_api_Bits).getD (0 + x39.toNat) dS_api_Bits) y157 e158)] (by kernel_rfl) ?_
              exact jl (y155 != y157) h (conv_re [(0, 0), (1, 1), (2, 2), (3, 3), (4, 5)] (by kernel_rfl))
       ·
        replace h : rl_law09_BitsetExact_a15 = some o := h
        unfold rl_law09_BitsetExact_a15 at h
        show (_ : Exit → St → Prop) (.ret) _
        refine AW.inBlock_ret (AW.tr ?_)
        refine AW.inBlock_ret (AW.tr ?_)
        exact lpo h rfl (conv_re [] (by kernel_rfl))
      ·
       replace h : rl_law09_BitsetExact_a17 = some o := h
       unfold rl_law09_BitsetExact_a17 at h
       show (_ : Exit → St → Prop) (.ret) _
       refine AW.inBlock_ret (AW.tr ?_)
       refine AW.inBlock_ret (AW.tr ?_)
       exact lpo h rfl (conv_re [] (by kernel_rfl))
     ·
      refine AW.exit (AW.thenQ_exit ?_)
      exact lpo h rfl (conv_re [] (by kernel_rfl))
    ·
     replace h : rl_law09_BitsetExact_a18 = some r := h
     unfold rl_law09_BitsetExact_a18 at h
     show (_ : Exit → St → Prop) (.exit 2) _
     refine AW.inBlock_hit (AW.tn ?_)
     refine AW.sg tt_okL11 [(10, vb true)] [] [] 1 [] (by kernel_rfl) ?_
     refine AW.ret ?_
     obtain rfl := some_inj h
     exact fn0 (.inr rfl) [] 0 (vb true) (by kernel_rfl)
    ·
     replace h : rl_law09_BitsetExact_a19 = some r := h
     unfold rl_law09_BitsetExact_a19 at h
     show (_ : Exit → St → Prop) (.ret) _
     refine AW.inBlock_ret (AW.tr ?_)
     obtain rfl := some_inj h
     exact fn0 (.inr rfl) [] 0 (vb false) (by kernel_rfl)
   ·
    replace h : rl_law09_BitsetExact_a21 = some r := h
    unfold rl_law09_BitsetExact_a21 at h
    show (_ : Exit → St → Prop) (.ret) _
    refine AW.inBlock_ret (AW.tr ?_)
    obtain rfl := some_inj h
    exact fn0 (.inr rfl) [] 0 (vb false) (by kernel_rfl)
 ·
  obtain ⟨y163, e164, h⟩ := bnd_some h
  rcases ifs h with ⟨c165, h⟩ | ⟨c165, h⟩
  ·
   refine AW.rg tt_okL11 [(79, vb true)] [] [] 26 [hk (rl_law09_awake_con y163 e164), ht c165] (by kernel_rfl) ?_
   exact jl true h (conv_re [(0, 0), (1, 1)] (by kernel_rfl))
  ·
   obtain ⟨y166, e167, h⟩ := bnd_some h
   rcases ifs h with ⟨c168, h⟩ | ⟨c168, h⟩
   ·
    refine AW.rg tt_okL11 [(79, vb true)] [] [] 25 [hk (rl_law09_awake_con y163 e164), hf c165, hn, hn, hk (rl_make_Few_con p0 y166 e167), ht c168] (by kernel_rfl) ?_
    exact jl true h (conv_re [(0, 0), (1, 1)] (by kernel_rfl))
   ·
    rcases ifs h with ⟨c169, h⟩ | ⟨c169, h⟩
    ·
     refine AW.rg tt_okL11 [(79, vb true)] [] [] 25 [hk (rl_law09_awake_con y163 e164), hf c165, hn, hn, hk (rl_make_Few_con p0 y166 e167), hf c168, hn, hn, hn, hn, hn, ht c169] (by kernel_rfl) ?_
     exact jl true h (conv_re [(0, 0), (1, 1)] (by kernel_rfl))
    ·
     rcases ifs h with ⟨c170, h⟩ | ⟨c170, h⟩
     ·
      refine AW.rg tt_okL11 [(79, vb true)] [] [] 25 [hk (rl_law09_awake_con y163 e164), hf c165, hn, hn, hk (rl_make_Few_con p0 y166 e167), hf c168, hn, hn, hn, hn, hn, hf c169, hn, hn, hn, hn, hn, ht c170] (by kernel_rfl) ?_
      exact jl true h (conv_re [(0, 0), (1, 1)] (by kernel_rfl))
     ·
      refine AW.rg tt_okL11 [(79, vb (decide (((p4.size : Nat) : Int) > 600)))] [] [] 25 [hk (rl_law09_awake_con y163 e164), hf c165, hn, hn, hk (rl_make_Few_con p0 y166 e167), hf c168, hn, hn, hn, hn, hn, hf c169, hn, hn, hn, hn, hn, hf c170] (by kernel_rfl) ?_
      exact jl (decide (((p4.size : Nat) : Int) > 600)) h (conv_re [(0, 0), (1, 1)] (by kernel_rfl))
end Go.Proofs.Yteholdifeilkkaa
