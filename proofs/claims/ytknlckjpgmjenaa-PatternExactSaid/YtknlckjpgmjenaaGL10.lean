/- Printed by a program of mine (vmgen.py): Go functions, and what they come to. -/
import Derived.Test.YtknlckjpgmjenaaVr
import Derived.Test.YtknlckjpgmjenaaRows
import Derived.Test.YtknlckjpgmjenaaVw
import Derived.Test.YtknlckjpgmjenaaG1
namespace Go.Proofs.Ytknlckjpgmjenaa
open Vm
open IntKind (i64 u64 u32 u8)
set_option maxHeartbeats 10000000
set_option linter.unusedVariables false
set_option linter.unusedSimpArgs false
set_option linter.constructorNameAsVariable false
def ttlL10 : List (Nat × TI) := [(3, ⟨.int .i64, 1, 8, [.int .i64 0], false⟩), (4, ⟨.bool, 1, 1, [.bool false], false⟩), (22, ⟨.slice 3, 1, 24, [.slice none 0 0], false⟩), (25, ⟨.ptr 86, 1, 8, [.pointer none], false⟩), (31, ⟨.int .i64, 1, 8, [.int .i64 0], false⟩), (38, ⟨.slice 84, 1, 24, [.slice none 0 0], false⟩), (40, ⟨.struct [(3, 0), (3, 1), (38, 2)], 3, 40, [.int .i64 0, .int .i64 0, .slice none 0 0], false⟩), (41, ⟨.slice 45, 1, 24, [.slice none 0 0], false⟩), (45, ⟨.int .u64, 1, 8, [.int .u64 0], false⟩), (57, ⟨.slice 22, 1, 24, [.slice none 0 0], false⟩), (60, ⟨.arr 3 3, 3, 24, [.int .i64 0, .int .i64 0, .int .i64 0], true⟩), (65, ⟨.slice 40, 1, 24, [.slice none 0 0], false⟩), (67, ⟨.slice 72, 1, 24, [.slice none 0 0], false⟩), (72, ⟨.struct [(3, 0), (3, 1)], 2, 16, [.int .i64 0, .int .i64 0], true⟩), (77, ⟨.slice 67, 1, 24, [.slice none 0 0], false⟩), (84, ⟨.struct [(3, 0), (41, 1)], 2, 32, [.int .i64 0, .slice none 0 0], false⟩), (86, ⟨.struct [(22, 0), (3, 1), (45, 2)], 3, 40, [.slice none 0 0, .int .i64 0, .int .u64 0], false⟩), (127, ⟨.slice 65, 1, 24, [.slice none 0 0], false⟩), (129, ⟨.arr 6 3, 6, 48, [.int .i64 0, .int .i64 0, .int .i64 0, .int .i64 0, .int .i64 0, .int .i64 0], true⟩)]
theorem tt_okL10 : TTok Try.prog (Vm.look ttlL10) := ttok_of ⟨⟨by kernel_rfl, by kernel_rfl, by kernel_rfl⟩, ⟨by kernel_rfl, by kernel_rfl, by kernel_rfl⟩, ⟨by kernel_rfl, by kernel_rfl, by kernel_rfl⟩, ⟨by kernel_rfl, by kernel_rfl, by kernel_rfl⟩, ⟨by kernel_rfl, by kernel_rfl, by kernel_rfl⟩, ⟨by kernel_rfl, by kernel_rfl, by kernel_rfl⟩, ⟨by kernel_rfl, by kernel_rfl, by kernel_rfl⟩, ⟨by kernel_rfl, by kernel_rfl, by kernel_rfl⟩, ⟨by kernel_rfl, by kernel_rfl, by kernel_rfl⟩, ⟨by kernel_rfl, by kernel_rfl, by kernel_rfl⟩, ⟨by kernel_rfl, by kernel_rfl, by kernel_rfl⟩, ⟨by kernel_rfl, by kernel_rfl, by kernel_rfl⟩, ⟨by kernel_rfl, by kernel_rfl, by kernel_rfl⟩, ⟨by kernel_rfl, by kernel_rfl, by kernel_rfl⟩, ⟨by kernel_rfl, by kernel_rfl, by kernel_rfl⟩, ⟨by kernel_rfl, by kernel_rfl, by kernel_rfl⟩, ⟨by kernel_rfl, by kernel_rfl, by kernel_rfl⟩, ⟨by kernel_rfl, by kernel_rfl, by kernel_rfl⟩, ⟨by kernel_rfl, by kernel_rfl, by kernel_rfl⟩, trivial⟩
theorem moL10 : Try.prog.follows .mixedOrders = true := by kernel_rfl
/-! recordlink/recordlinklaw23.PatternExact -/
noncomputable def rl_law23_PatternExact_l2 (p4 : List S_api_Encoded) (p5 : List S_api_Encoded) (x8 : Int) : Option (Int ⊕ (Unit ⊕ Unit)) := if (decide (x8 < ((((([] : List S_api_Encoded) ++ p4) ++ p5).length : Nat) : Int))) = true then (if 0 ≤ x8 then (if x8 < ((((([] : List S_api_Encoded) ++ p4) ++ p5).length : Nat) : Int) then (if (decide (((((((([] : List S_api_Encoded) ++ p4) ++ p5).getD (0 + x8.toNat) dS_api_Encoded).Fields).length : Nat) : Int) > 12)) = true then (some (.inr (.inr ()))) else (some (.inl (i64.wrap (x8 + 1))))) else none) else none) else (some (.inr (.inl ())))
noncomputable def rl_law23_PatternExact_k5 (x38 : Int) (x54 : Bool) : Option (Int ⊕ (Unit ⊕ Unit)) := if x54 = true then (some (.inr (.inr ()))) else (some (.inl (i64.wrap (x38 + 1))))
noncomputable def rl_law23_PatternExact_l4 (p3 : List S_api_Couple) (p4 : List S_api_Encoded) (p5 : List S_api_Encoded) (p6 : List Int) (y15 : Int) (y18 : List S_api_Encoded) (y21 : List S_api_Encoded) (y24 : Int) (y29 : List S_api_Couple) (x33 : Int) (x38 : Int) : Option (Int ⊕ (Unit ⊕ Unit)) := if (decide (x38 < ((([p6, (([500, 800, y24] : List Int).take ((i64.wrap (1 + y15)).toNat))] : List (List Int)).length : Nat) : Int))) = true then (if 0 ≤ x38 then (if x38 < ((([p6, (([500, 800, y24] : List Int).take ((i64.wrap (1 + y15)).toNat))] : List (List Int)).length : Nat) : Int) then (bind2 (pattern_Tally (([p3, y29] : List (List S_api_Couple)).getD (0 + x33.toNat) ([] : List S_api_Couple)) p4 p5 (([p6, (([500, 800, y24] : List Int).take ((i64.wrap (1 + y15)).toNat))] : List (List Int)).getD (0 + x38.toNat) ([] : List Int))) fun y42 y43 => (bind2 (rl_ref23_Tally (([p3, y29] : List (List S_api_Couple)).getD (0 + x33.toNat) ([] : List S_api_Couple)) p4 p5 (([p6, (([500, 800, y24] : List Int).take ((i64.wrap (1 + y15)).toNat))] : List (List Int)).getD (0 + x38.toNat) ([] : List Int))) fun y45 y46 => (bind2 (pattern_Tally (([p3, y29] : List (List S_api_Couple)).getD (0 + x33.toNat) ([] : List S_api_Couple)) y18 y21 (([p6, (([500, 800, y24] : List Int).take ((i64.wrap (1 + y15)).toNat))] : List (List Int)).getD (0 + x38.toNat) ([] : List Int))) fun y48 y49 => (bind2 (rl_ref23_Tally (([p3, y29] : List (List S_api_Couple)).getD (0 + x33.toNat) ([] : List S_api_Couple)) y18 y21 (([p6, (([500, 800, y24] : List Int).take ((i64.wrap (1 + y15)).toNat))] : List (List Int)).getD (0 + x38.toNat) ([] : List Int))) fun y51 y52 => (if (y43 != y46) = true then (rl_law23_PatternExact_k5 x38 true) else (if (y49 != y52) = true then (rl_law23_PatternExact_k5 x38 true) else ((rl_ref01_Ints y42 y45).bind fun y58 => (if (!y58) = true then (rl_law23_PatternExact_k5 x38 true) else ((rl_ref01_Ints y48 y51).bind fun y61 => (rl_law23_PatternExact_k5 x38 (!y61))))))))))) else none) else none) else (some (.inr (.inl ())))
noncomputable def rl_law23_PatternExact_a6 (x33 : Int) : Option (Int ⊕ (Unit ⊕ Unit)) := some (.inl (i64.wrap (x33 + 1)))
noncomputable def rl_law23_PatternExact_a7 : Option (Int ⊕ (Unit ⊕ Unit)) := some (.inr (.inr ()))
noncomputable def rl_law23_PatternExact_l3 (p3 : List S_api_Couple) (p4 : List S_api_Encoded) (p5 : List S_api_Encoded) (p6 : List Int) (y15 : Int) (y18 : List S_api_Encoded) (y21 : List S_api_Encoded) (y24 : Int) (y29 : List S_api_Couple) (x33 : Int) : Option (Int ⊕ (Unit ⊕ Unit)) := if (decide (x33 < ((([p3, y29] : List (List S_api_Couple)).length : Nat) : Int))) = true then (if 0 ≤ x33 then (if x33 < ((([p3, y29] : List (List S_api_Couple)).length : Nat) : Int) then (bindE (loop (fun v : Int => rl_law23_PatternExact_l4 p3 p4 p5 p6 y15 y18 y21 y24 y29 x33 v) 0) (fun t => rl_law23_PatternExact_a6 x33) (fun t => rl_law23_PatternExact_a7)) else none) else none) else (some (.inr (.inl ())))
noncomputable def rl_law23_PatternExact_k12 (x104 : Int) (x114 : Bool) : Option (Int ⊕ (Unit ⊕ Unit)) := if x114 = true then (some (.inr (.inr ()))) else (some (.inl (i64.wrap (x104 + 1))))
noncomputable def rl_law23_PatternExact_l11 (p1 : List Int) (p2 : List Int) (p7 : Int) (y15 : Int) (y72 : List Int) (y75 : List Int) (x82 : Int) (x93 : Int) (x104 : Int) : Option (Int ⊕ (Unit ⊕ Unit)) := if (decide (x104 < ((([p2, y75] : List (List Int)).length : Nat) : Int))) = true then (if 0 ≤ x104 then (if x104 < ((([p2, y75] : List (List Int)).length : Nat) : Int) then (bind2 (pattern_Add (([p1, y72] : List (List Int)).getD (0 + x82.toNat) ([] : List Int)) (([p2, y75] : List (List Int)).getD (0 + x104.toNat) ([] : List Int)) (([p7, i64.wrap (1 + y15)] : List Int).getD (0 + x93.toNat) 0)) fun y108 y109 => (bind2 (rl_ref23_Add (([p1, y72] : List (List Int)).getD (0 + x82.toNat) ([] : List Int)) (([p2, y75] : List (List Int)).getD (0 + x104.toNat) ([] : List Int)) (([p7, i64.wrap (1 + y15)] : List Int).getD (0 + x93.toNat) 0)) fun y111 y112 => (if (y109 != y112) = true then (rl_law23_PatternExact_k12 x104 true) else ((rl_ref01_Ints y108 y111).bind fun y117 => (rl_law23_PatternExact_k12 x104 (!y117)))))) else none) else none) else (some (.inr (.inl ())))
noncomputable def rl_law23_PatternExact_k14 (x123 : Int) (x133 : Bool) : Option (Int ⊕ (Unit ⊕ Unit)) := if x133 = true then (some (.inr (.inr ()))) else (some (.inl (i64.wrap (x123 + 1))))
noncomputable def rl_law23_PatternExact_l13 (p1 : List Int) (p7 : Int) (p8 : Int) (y15 : Int) (y72 : List Int) (x82 : Int) (x93 : Int) (y119 : Int) (x123 : Int) : Option (Int ⊕ (Unit ⊕ Unit)) := if (decide (x123 < ((([p8, y119] : List Int).length : Nat) : Int))) = true then (if 0 ≤ x123 then (if x123 < ((([p8, y119] : List Int).length : Nat) : Int) then (bind2 (pattern_Marginal (([p1, y72] : List (List Int)).getD (0 + x82.toNat) ([] : List Int)) (([p7, i64.wrap (1 + y15)] : List Int).getD (0 + x93.toNat) 0) (([p8, y119] : List Int).getD (0 + x123.toNat) 0)) fun y127 y128 => (bind2 (rl_ref23_Marginal (([p1, y72] : List (List Int)).getD (0 + x82.toNat) ([] : List Int)) (([p7, i64.wrap (1 + y15)] : List Int).getD (0 + x93.toNat) 0) (([p8, y119] : List Int).getD (0 + x123.toNat) 0)) fun y130 y131 => (if (!(((y127.getD 0 0) == (y130.getD 0 0)) && (((y127.getD 1 0) == (y130.getD 1 0)) && (((y127.getD 2 0) == (y130.getD 2 0)) && true)))) = true then (rl_law23_PatternExact_k14 x123 true) else (rl_law23_PatternExact_k14 x123 (y128 != y131))))) else none) else none) else (some (.inr (.inl ())))
noncomputable def rl_law23_PatternExact_a15 (p1 : List Int) (p7 : Int) (y15 : Int) (y72 : List Int) (x82 : Int) (x93 : Int) (y120 : S_recordlinkmake_Deck) : Option ((Int × (List Int) × Int × Int) ⊕ (((List Int) × Int × Int) ⊕ Unit)) := (pattern_Check (([p1, y72] : List (List Int)).getD (0 + x82.toNat) ([] : List Int)) (([p7, i64.wrap (1 + y15)] : List Int).getD (0 + x93.toNat) 0)).bind fun y136 => ((rl_ref23_Check (([p1, y72] : List (List Int)).getD (0 + x82.toNat) ([] : List Int)) (([p7, i64.wrap (1 + y15)] : List Int).getD (0 + x93.toNat) 0)).bind fun y138 => (if (y136 != y138) = true then (some (.inr (.inr ()))) else (some (.inl (i64.wrap (x93 + 1), y120.list, y120.at_, y120.state)))))
noncomputable def rl_law23_PatternExact_a16 : Option ((Int × (List Int) × Int × Int) ⊕ (((List Int) × Int × Int) ⊕ Unit)) := some (.inr (.inr ()))
noncomputable def rl_law23_PatternExact_a17 (p1 : List Int) (p7 : Int) (p8 : Int) (y15 : Int) (y72 : List Int) (x82 : Int) (x93 : Int) (x94 : List Int) (x95 : Int) (x96 : Int) : Option ((Int × (List Int) × Int × Int) ⊕ (((List Int) × Int × Int) ⊕ Unit)) := bind2 (rl_make_Deck_Next (⟨x94, x95, x96⟩ : S_recordlinkmake_Deck) 3) fun y119 y120 => (bindE (loop (fun v : Int => rl_law23_PatternExact_l13 p1 p7 p8 y15 y72 x82 x93 y119 v) 0) (fun t => rl_law23_PatternExact_a15 p1 p7 y15 y72 x82 x93 y120) (fun t => rl_law23_PatternExact_a16))
noncomputable def rl_law23_PatternExact_a18 : Option ((Int × (List Int) × Int × Int) ⊕ (((List Int) × Int × Int) ⊕ Unit)) := some (.inr (.inr ()))
noncomputable def rl_law23_PatternExact_l10 (p1 : List Int) (p2 : List Int) (p7 : Int) (p8 : Int) (y15 : Int) (y72 : List Int) (y75 : List Int) (x82 : Int) (x93 : Int) (x94 : List Int) (x95 : Int) (x96 : Int) : Option ((Int × (List Int) × Int × Int) ⊕ (((List Int) × Int × Int) ⊕ Unit)) := if (decide (x93 < ((([p7, i64.wrap (1 + y15)] : List Int).length : Nat) : Int))) = true then (if 0 ≤ x93 then (if x93 < ((([p7, i64.wrap (1 + y15)] : List Int).length : Nat) : Int) then (bindE (loop (fun v : Int => rl_law23_PatternExact_l11 p1 p2 p7 y15 y72 y75 x82 x93 v) 0) (fun t => rl_law23_PatternExact_a17 p1 p7 p8 y15 y72 x82 x93 x94 x95 x96) (fun t => rl_law23_PatternExact_a18)) else none) else none) else (some (.inr (.inl (x94, x95, x96))))
noncomputable def rl_law23_PatternExact_a19 (p1 : List Int) (y72 : List Int) (x82 : Int) (x143 : List Int) (x144 : Int) (x145 : Int) : Option ((Int × (List Int) × Int × Int) ⊕ (Unit ⊕ Unit)) := (pattern_Total (([p1, y72] : List (List Int)).getD (0 + x82.toNat) ([] : List Int))).bind fun y146 => ((rl_ref23_Total (([p1, y72] : List (List Int)).getD (0 + x82.toNat) ([] : List Int))).bind fun y148 => (if (y146 != y148) = true then (some (.inr (.inr ()))) else (some (.inl (i64.wrap (x82 + 1), x143, x144, x145)))))
noncomputable def rl_law23_PatternExact_a20 : Option ((Int × (List Int) × Int × Int) ⊕ (Unit ⊕ Unit)) := some (.inr (.inr ()))
noncomputable def rl_law23_PatternExact_l9 (p1 : List Int) (p2 : List Int) (p7 : Int) (p8 : Int) (y15 : Int) (y72 : List Int) (y75 : List Int) (x82 : Int) (x83 : List Int) (x84 : Int) (x85 : Int) : Option ((Int × (List Int) × Int × Int) ⊕ (Unit ⊕ Unit)) := if (decide (x82 < ((([p1, y72] : List (List Int)).length : Nat) : Int))) = true then (if 0 ≤ x82 then (if x82 < ((([p1, y72] : List (List Int)).length : Nat) : Int) then (bindE (loop (fun v : Int × (List Int) × Int × Int => rl_law23_PatternExact_l10 p1 p2 p7 p8 y15 y72 y75 x82 v.1 v.2.1 v.2.2.1 v.2.2.2) (0, x83, x84, x85)) (fun t => rl_law23_PatternExact_a19 p1 y72 x82 t.1 t.2.1 t.2.2) (fun t => rl_law23_PatternExact_a20)) else none) else none) else (some (.inr (.inl ())))
noncomputable def rl_law23_PatternExact_a21 : Option Bool := some true
noncomputable def rl_law23_PatternExact_a22 : Option Bool := some false
noncomputable def rl_law23_PatternExact_k8 (p1 : List Int) (p2 : List Int) (p7 : Int) (p8 : Int) (y15 : Int) (y30 : S_recordlinkmake_Deck) (x70 : Bool) : Option Bool := if x70 = true then (some false) else (bind2 (rl_make_Deck_Counts y30 (i64.wrap (1 + y15))) fun y72 y73 => (bind2 (rl_make_Deck_Counts y73 (i64.wrap (1 + y15))) fun y75 y76 => (bindE (loop (fun v : Int × (List Int) × Int × Int => rl_law23_PatternExact_l9 p1 p2 p7 p8 y15 y72 y75 v.1 v.2.1 v.2.2.1 v.2.2.2) (0, y76.list, y76.at_, y76.state)) (fun t => rl_law23_PatternExact_a21) (fun t => rl_law23_PatternExact_a22))))
noncomputable def rl_law23_PatternExact_a23 (p1 : List Int) (p2 : List Int) (p7 : Int) (p8 : Int) (y15 : Int) (y30 : S_recordlinkmake_Deck) : Option Bool := bind2 (pattern_Size p7) fun y64 y65 => (bind2 (rl_ref23_Size p7) fun y67 y68 => (if (y64 != y67) = true then (rl_law23_PatternExact_k8 p1 p2 p7 p8 y15 y30 true) else (rl_law23_PatternExact_k8 p1 p2 p7 p8 y15 y30 (y65 != y68))))
noncomputable def rl_law23_PatternExact_a24 : Option Bool := some false
noncomputable def rl_law23_PatternExact_a25 (p0 : List Int) (p1 : List Int) (p2 : List Int) (p3 : List S_api_Couple) (p4 : List S_api_Encoded) (p5 : List S_api_Encoded) (p6 : List Int) (p7 : Int) (p8 : Int) : Option Bool := (rl_make_New p0).bind fun y13 => (bind2 (rl_make_Deck_Next y13 3) fun y15 y16 => (bind2 (rl_law23_records y16 (i64.wrap (1 + y15)) 5) fun y18 y19 => (bind2 (rl_law23_records y19 (i64.wrap (1 + y15)) 5) fun y21 y22 => (bind2 (rl_make_Deck_Next y22 1001) fun y24 y25 => (if 0 ≤ (i64.wrap (1 + y15)) then (if ((i64.wrap (1 + y15)).toNat) ≤ (([500, 800, y24] : List Int).length) then (bind2 (rl_law23_couples y25 y18 y21 12) fun y29 y30 => (bindE (loop (fun v : Int => rl_law23_PatternExact_l3 p3 p4 p5 p6 y15 y18 y21 y24 y29 v) 0) (fun t => rl_law23_PatternExact_a23 p1 p2 p7 p8 y15 y30) (fun t => rl_law23_PatternExact_a24))) else none) else none)))))
noncomputable def rl_law23_PatternExact_a26 : Option Bool := some true
noncomputable def rl_law23_PatternExact_k1 (p0 : List Int) (p1 : List Int) (p2 : List Int) (p3 : List S_api_Couple) (p4 : List S_api_Encoded) (p5 : List S_api_Encoded) (p6 : List Int) (p7 : Int) (p8 : Int) (x1 : Bool) : Option Bool := if x1 = true then ((rl_law23_awake).bind fun y3 => (some y3)) else (if 0 + p4.length ≤ 1099511627776 then (if (([] : List S_api_Encoded) ++ p4).length + p5.length ≤ 1099511627776 then (bindE (loop (fun v : Int => rl_law23_PatternExact_l2 p4 p5 v) 0) (fun t => rl_law23_PatternExact_a25 p0 p1 p2 p3 p4 p5 p6 p7 p8) (fun t => rl_law23_PatternExact_a26)) else none) else none)
noncomputable def rl_law23_PatternExact (p0 : List Int) (p1 : List Int) (p2 : List Int) (p3 : List S_api_Couple) (p4 : List S_api_Encoded) (p5 : List S_api_Encoded) (p6 : List Int) (p7 : Int) (p8 : Int) : Option Bool := (rl_law23_awake).bind fun y156 => (if (!y156) = true then (rl_law23_PatternExact_k1 p0 p1 p2 p3 p4 p5 p6 p7 p8 true) else ((rl_make_Few p0).bind fun y159 => (if (!y159) = true then (rl_law23_PatternExact_k1 p0 p1 p2 p3 p4 p5 p6 p7 p8 true) else (if (decide ((p1.length : Int) > 300)) = true then (rl_law23_PatternExact_k1 p0 p1 p2 p3 p4 p5 p6 p7 p8 true) else (if (decide ((p2.length : Int) > 300)) = true then (rl_law23_PatternExact_k1 p0 p1 p2 p3 p4 p5 p6 p7 p8 true) else (if (decide ((p3.length : Int) > 60)) = true then (rl_law23_PatternExact_k1 p0 p1 p2 p3 p4 p5 p6 p7 p8 true) else (if (decide ((p4.length : Int) > 12)) = true then (rl_law23_PatternExact_k1 p0 p1 p2 p3 p4 p5 p6 p7 p8 true) else (if (decide ((p5.length : Int) > 12)) = true then (rl_law23_PatternExact_k1 p0 p1 p2 p3 p4 p5 p6 p7 p8 true) else (rl_law23_PatternExact_k1 p0 p1 p2 p3 p4 p5 p6 p7 p8 (decide ((p6.length : Int) > 20)))))))))))
set_option maxRecDepth 100000 in
theorem rl_law23_PatternExact_con (p0 : List Int) (p1 : List Int) (p2 : List Int) (p3 : List S_api_Couple) (p4 : List S_api_Encoded) (p5 : List S_api_Encoded) (p6 : List Int) (p7 : Int) (p8 : Int) (r : Bool) (h : rl_law23_PatternExact p0 p1 p2 p3 p4 p5 p6 p7 p8 = some r) : Con Try.prog 10 [vl 1 Ri64 p0, vl 1 Ri64 p1, vl 1 Ri64 p2, vl 2 RS_api_Couple p3, vl 3 RS_api_Encoded p4, vl 3 RS_api_Encoded p5, vl 1 Ri64 p6, vi64 p7, vi64 p8] [] (vb r) [] := by
 refine con_of tt_okL10 0 Try.func10 (by kernel_rfl) rfl (by kernel_rfl) (fun base X _ => AW.post ?_)
 unfold rl_law23_PatternExact at h
 refine AW.sg tt_okL10 [] [] [] 1 [] (by kernel_rfl) ?_
 refine AW.seq (AW.seq ?_)
 refine AW.join (ι := Bool) (fun v => ⟨[(0, vl 1 Ri64 p0), (1, vl 1 Ri64 p1), (2, vl 1 Ri64 p2), (3, vl 2 RS_api_Couple p3), (4, vl 3 RS_api_Encoded p4), (5, vl 3 RS_api_Encoded p5), (6, vl 1 Ri64 p6), (7, vi64 p7), (8, vi64 p8), (97, vb v)], [], 0⟩) (fun v : Bool => rl_law23_PatternExact_k1 p0 p1 p2 p3 p4 p5 p6 p7 p8 v = some r) (fun x1 h => ?_) ?_
 ·
  unfold rl_law23_PatternExact_k1 at h
  refine AW.tn ?_
  refine AW.co h (by kernel_rfl) (fun c2 h => ?_) (fun c2 h => ?_)
  ·
   obtain ⟨y3, e4, h⟩ := bnd_some h
   refine AW.sg tt_okL10 [(18, vb y3)] [] [] 1 [hk (rl_law23_awake_con y3 e4)] (by kernel_rfl) ?_
   refine AW.ret (AW.tr ?_)
   obtain rfl := some_inj h
   exact fn0 (.inr rfl) [] 0 (vb y3) (by kernel_rfl)
  ·
   refine AW.skip (AW.tn (AW.seq ?_))
   obtain ⟨g5, g6, h⟩ := ifd h
   refine AW.sg tt_okL10 [(104, vi64 0), (103, vi64 ((((([] : List S_api_Encoded) ++ p4) ++ p5).length : Nat) : Int)), (102, .c (.ref 3 3 0 (((([] : List S_api_Encoded) ++ p4) ++ p5).length)))] [1, 3] [(3, .row 40 false 3 ((([] : List S_api_Encoded) ++ p4) ++ p5).length (RS_api_Encoded ((([] : List S_api_Encoded) ++ p4) ++ p5)))] 6 [hn, hr ((([] : List S_api_Encoded) ++ p4).length) (RS_api_Encoded (([] : List S_api_Encoded) ++ p4)) (p := (True) ∧ (True) ∧ ((0 + p4.length ≤ 1099511627776) ∧ ((40 : Nat) ≤ 128)) ∧ (0 + p4.length = (([] : List S_api_Encoded) ++ p4).length ∧ ∀ i, i < (([] : List S_api_Encoded) ++ p4).length → ∀ j, j < 3 → TLe ((appRow 0 (fun _ _ => .v undef) (RS_api_Encoded p4)) i j) (RS_api_Encoded (([] : List S_api_Encoded) ++ p4) i j))) (⟨tv, tv, ⟨g5, (by decide)⟩, rowT (app_row rfl rfl row_nil row_rfl)⟩), hn, hr (((([] : List S_api_Encoded) ++ p4) ++ p5).length) (RS_api_Encoded ((([] : List S_api_Encoded) ++ p4) ++ p5)) (p := ((([] : List S_api_Encoded) ++ p4).length = (([] : List S_api_Encoded) ++ p4).length) ∧ (True) ∧ (((([] : List S_api_Encoded) ++ p4).length + p5.length ≤ 1099511627776) ∧ ((40 : Nat) ≤ 128)) ∧ ((([] : List S_api_Encoded) ++ p4).length + p5.length = ((([] : List S_api_Encoded) ++ p4) ++ p5).length ∧ ∀ i, i < ((([] : List S_api_Encoded) ++ p4) ++ p5).length → ∀ j, j < 3 → TLe ((appRow ((([] : List S_api_Encoded) ++ p4).length) (RS_api_Encoded (([] : List S_api_Encoded) ++ p4)) (RS_api_Encoded p5)) i j) (RS_api_Encoded ((([] : List S_api_Encoded) ++ p4) ++ p5) i j))) (⟨rfl, tv, ⟨g6, (by decide)⟩, rowT (app_row rfl rfl row_rfl row_rfl)⟩)] (by kernel_rfl) ?_
   refine AW.block ?_
   refine AW.lpE h (fun v => ⟨[(0, vl 1 Ri64 p0), (1, vl 1 Ri64 p1), (2, vl 1 Ri64 p2), (3, vl 2 RS_api_Couple p3), (4, vl 3 RS_api_Encoded p4), (5, vl 3 RS_api_Encoded p5), (6, vl 1 Ri64 p6), (7, vi64 p7), (8, vi64 p8), (102, .c (.ref 0 3 0 (((([] : List S_api_Encoded) ++ p4) ++ p5).length))), (103, vi64 ((((([] : List S_api_Encoded) ++ p4) ++ p5).length : Nat) : Int)), (104, vi64 v)], [(0, .row 40 false 3 ((([] : List S_api_Encoded) ++ p4) ++ p5).length (RS_api_Encoded ((([] : List S_api_Encoded) ++ p4) ++ p5)))], 1⟩) (fun t => (.exit 0, ⟨[(0, vl 1 Ri64 p0), (1, vl 1 Ri64 p1), (2, vl 1 Ri64 p2), (3, vl 2 RS_api_Couple p3), (4, vl 3 RS_api_Encoded p4), (5, vl 3 RS_api_Encoded p5), (6, vl 1 Ri64 p6), (7, vi64 p7), (8, vi64 p8)], [], 0⟩)) (fun t => (.ret, ⟨[(18, vb true)], [], 0⟩)) (conv_re [(0, 3)] (by kernel_rfl)) (fun _ => tv) (fun _ => tv) ?_ (fun t h => ?_) (fun t h => ?_)
   ·
    clear h
    intro x8 o h
    unfold rl_law23_PatternExact_l2 at h
    refine AW.sg tt_okL10 [(105, vb (decide (x8 < ((((([] : List S_api_Encoded) ++ p4) ++ p5).length : Nat) : Int))))] [] [] 2 [] (by kernel_rfl) ?_
    refine AW.seq ?_
    refine AW.co h (by kernel_rfl) (fun c9 h => ?_) (fun c9 h => ?_)
    ·
     refine AW.skip (AW.tn ?_)
     refine AW.seq (AW.block ?_)
     obtain ⟨g10, g11, h⟩ := ifd h
     refine AW.sg tt_okL10 [(20, .c (.ptr 4 3 0 0))] [4] [(4, .box 40 [ci64 ((((([] : List S_api_Encoded) ++ p4) ++ p5).getD (0 + x8.toNat) dS_api_Encoded).ID), ci64 ((((([] : List S_api_Encoded) ++ p4) ++ p5).getD (0 + x8.toNat) dS_api_Encoded).Version), cl 2 RS_api_Bits ((((([] : List S_api_Encoded) ++ p4) ++ p5).getD (0 + x8.toNat) dS_api_Encoded).Fields)])] 6 [hq g10 g11, ho (p := (0 + x8.toNat) < ((([] : List S_api_Encoded) ++ p4) ++ p5).length) (by have h1 : 0 ≤ x8 := g10; have h2 : x8 < ((((([] : List S_api_Encoded) ++ p4) ++ p5).length : Nat) : Int) := g11; omega)] (by kernel_rfl) ?_
     refine AW.sg tt_okL10 [(111, vb (decide (((((((([] : List S_api_Encoded) ++ p4) ++ p5).getD (0 + x8.toNat) dS_api_Encoded).Fields).length : Nat) : Int) > 12)))] [] [] 10 [] (by kernel_rfl) ?_
     refine AW.co h (by kernel_rfl) (fun c12 h => ?_) (fun c12 h => ?_)
     ·
      refine AW.sg tt_okL10 [(18, vb true)] [] [] 11 [] (by kernel_rfl) ?_
      refine AW.ret (AW.inBlock_ret (AW.tr ?_))
      exact lpo h rfl (conv_re [] (by kernel_rfl))
     ·
      refine AW.skip (AW.inBlock_normal (AW.tn ?_))
      refine AW.rg tt_okL10 [(104, vi64 (i64.wrap (x8 + 1)))] [] [] 12 [] (by kernel_rfl) ?_
      exact lpn h (conv_re [(0, 0)] (by kernel_rfl))
    ·
     refine AW.exit (AW.thenQ_exit ?_)
     exact lpo h rfl (conv_re [] (by kernel_rfl))
   ·
    replace h : rl_law23_PatternExact_a25 p0 p1 p2 p3 p4 p5 p6 p7 p8 = some r := h
    unfold rl_law23_PatternExact_a25 at h
    show (_ : Exit → St → Prop) (.exit 0) _
    refine AW.inBlock_hit (AW.tn ?_)
    obtain ⟨y13, e14, h⟩ := bnd_some h
    refine AW.sg tt_okL10 [(21, .c (.ptr 1 3 0 0))] [1] [(1, .box 86 [cl 1 Ri64 y13.list, ci64 y13.at_, cu64 y13.state])] 3 [hn, hl [] [] 1 (rl_make_New_con p0 y13 e14)] (by kernel_rfl) ?_
    obtain ⟨y15, y16, e17, h⟩ := bind2_some h
    refine AW.sg tt_okL10 [(22, vi64 (i64.wrap (1 + y15)))] [1] [(1, .box 86 [cl 1 Ri64 y16.list, ci64 y16.at_, cu64 y16.state])] 6 [hn, hl [1] [] 0 (rl_make_Deck_Next_con y13 3 (y15, y16) e17)] (by kernel_rfl) ?_
    obtain ⟨y18, y19, e20, h⟩ := bind2_some h
    obtain ⟨y21, y22, e23, h⟩ := bind2_some h
    refine AW.sg tt_okL10 [(24, .c (.ref 11 3 0 y21.length)), (23, .c (.ref 8 3 0 y18.length))] [1, 8, 11] [(1, .box 86 [cl 1 Ri64 y22.list, ci64 y22.at_, cu64 y22.state]), (11, .row 40 false 3 y21.length (RS_api_Encoded y21)), (8, .row 40 false 3 y18.length (RS_api_Encoded y18))] 14 [hn, hn, hl [1] [] 1 (rl_law23_records_con y16 (i64.wrap (1 + y15)) 5 (y18, y19) e20), hn, hn, hl [1] [] 1 (rl_law23_records_con y19 (i64.wrap (1 + y15)) 5 (y21, y22) e23)] (by kernel_rfl) ?_
    obtain ⟨y24, y25, e26, h⟩ := bind2_some h
    obtain ⟨g27, g28, h⟩ := ifd h
    refine AW.sg tt_okL10 [(25, .c (.ref 15 1 0 ((i64.wrap (1 + y15)).toNat)))] [1, 15] [(15, .row 3 false 1 ([500, 800, y24] : List Int).length (Ri64 ([500, 800, y24] : List Int))), (1, .box 86 [cl 1 Ri64 y25.list, ci64 y25.at_, cu64 y25.state])] 19 [hn, hl [1] [] 0 (rl_make_Deck_Next_con y22 1001 (y24, y25) e26), hlit 0 Ei64 1 (fun _ => rfl) ([500, 800, y24] : List Int), hn, ho (p := (True) ∧ (0 ≤ (i64.wrap (1 + y15))) ∧ (0 ≤ ((i64.wrap (1 + y15)).toNat)) ∧ (((i64.wrap (1 + y15)).toNat) ≤ (([500, 800, y24] : List Int).length))) (⟨tv, g27, (Nat.zero_le _), g28⟩)] (by kernel_rfl) ?_
    obtain ⟨y29, y30, e31, h⟩ := bind2_some h
    refine AW.sg tt_okL10 [(26, .c (.ref 22 2 0 y29.length))] [1, 8, 11, 22] [(1, .box 86 [cl 1 Ri64 y30.list, ci64 y30.at_, cu64 y30.state]), (22, .row 72 false 2 y29.length (RS_api_Couple y29)), (8, .row 40 true 3 y18.length (RS_api_Encoded y18)), (11, .row 40 true 3 y21.length (RS_api_Encoded y21))] 24 [hn, hn, hn, hg [1] [8, 11] false 1 (q := (True) ∧ (0 + y18.length ≤ y18.length) ∧ (0 + y21.length ≤ y21.length) ∧ (True) ∧ (True)) ⟨tv, le0, le0, tv, tv⟩ (a0 := [.c (.ptr 0 3 0 0), vl 3 RS_api_Encoded y18, vl 3 RS_api_Encoded y21, vi64 12]) (rl_law23_couples_con y25 y18 y21 12 (y29, y30) e31) ⟨ArgLe.refl _, ArgLe.refl _, ArgLe.refl _, ArgLe.refl _, tv⟩ (fun h => by cases h)] (by kernel_rfl) ?_
    refine AW.seq (AW.seq ?_)
    refine AW.pre (Conv.trans (cfz 22 72 2 y29.length (RS_api_Couple y29) (by kernel_rfl)) (conv_tms [(26, vl 2 RS_api_Couple y29)] ⟨⟨.c (.ref 22 2 0 y29.length), by kernel_rfl, ALe.c (CLe.ref (ty := 72) (f := RS_api_Couple y29) (by kernel_rfl) le0)⟩, tv⟩)) ?_
    refine AW.rg tt_okL10 [(137, vi64 0), (136, vi64 ((([p3, y29] : List (List S_api_Couple)).length : Nat) : Int)), (135, .c (.ref 26 1 0 (([p3, y29] : List (List S_api_Couple)).length)))] [26] [(26, .row 67 false 1 ([p3, y29] : List (List S_api_Couple)).length (RlS_api_Couple ([p3, y29] : List (List S_api_Couple))))] 29 [hn, hn, hlit ([] : List S_api_Couple) ElS_api_Couple 1 (fun _ => rfl) ([p3, y29] : List (List S_api_Couple))] (by kernel_rfl) ?_
    refine AW.tn (AW.block ?_)
    refine AW.lpE h (fun v => ⟨[(1, vl 1 Ri64 p1), (2, vl 1 Ri64 p2), (4, vl 3 RS_api_Encoded p4), (5, vl 3 RS_api_Encoded p5), (6, vl 1 Ri64 p6), (7, vi64 p7), (8, vi64 p8), (21, .c (.ptr 0 3 0 0)), (22, vi64 (i64.wrap (1 + y15))), (23, vl 3 RS_api_Encoded y18), (24, vl 3 RS_api_Encoded y21), (25, vl 1 Ri64 (([500, 800, y24] : List Int).take ((i64.wrap (1 + y15)).toNat))), (135, .c (.ref 1 1 0 (([p3, y29] : List (List S_api_Couple)).length))), (136, vi64 ((([p3, y29] : List (List S_api_Couple)).length : Nat) : Int)), (137, vi64 v)], [(0, .box 86 [cl 1 Ri64 y30.list, ci64 y30.at_, cu64 y30.state]), (1, .row 67 false 1 ([p3, y29] : List (List S_api_Couple)).length (RlS_api_Couple ([p3, y29] : List (List S_api_Couple))))], 2⟩) (fun t => (.exit 2, ⟨[(1, vl 1 Ri64 p1), (2, vl 1 Ri64 p2), (7, vi64 p7), (8, vi64 p8), (21, .c (.ptr 0 3 0 0)), (22, vi64 (i64.wrap (1 + y15)))], [(0, .box 86 [cl 1 Ri64 y30.list, ci64 y30.at_, cu64 y30.state])], 1⟩)) (fun t => (.ret, ⟨[(18, vb false)], [], 0⟩)) (Conv.trans (cfz 15 3 1 (([500, 800, y24] : List Int).length) (Ri64 ([500, 800, y24] : List Int)) (by kernel_rfl)) (Conv.trans (conv_tms [(23, vl 3 RS_api_Encoded y18), (24, vl 3 RS_api_Encoded y21), (25, vl 1 Ri64 (([500, 800, y24] : List Int).take ((i64.wrap (1 + y15)).toNat)))] ⟨⟨.c (.ref 8 3 0 y18.length), by kernel_rfl, ALe.c (CLe.ref (ty := 40) (f := RS_api_Encoded y18) (by kernel_rfl) le0)⟩, ⟨.c (.ref 11 3 0 y21.length), by kernel_rfl, ALe.c (CLe.ref (ty := 40) (f := RS_api_Encoded y21) (by kernel_rfl) le0)⟩, ⟨.c (.ref 15 1 0 ((i64.wrap (1 + y15)).toNat)), by kernel_rfl, ALe.c (CLe.trans (CLe.ref (m := (([500, 800, y24] : List Int).length)) (ty := 3) (f := Ri64 ([500, 800, y24] : List Int)) (by kernel_rfl) (by omega)) (CAle.cle (CAle.tree (take_row (by omega)))))⟩, tv⟩) (conv_re [(0, 1), (1, 26)] (by kernel_rfl)))) (fun _ => tv) (fun _ => tv) ?_ (fun t h => ?_) (fun t h => ?_)
    ·
     clear h
     intro x33 o h
     unfold rl_law23_PatternExact_l3 at h
     refine AW.sg tt_okL10 [(138, vb (decide (x33 < ((([p3, y29] : List (List S_api_Couple)).length : Nat) : Int))))] [] [] 3 [] (by kernel_rfl) ?_
     refine AW.seq ?_
     refine AW.co h (by kernel_rfl) (fun c34 h => ?_) (fun c34 h => ?_)
     ·
      refine AW.skip (AW.tn ?_)
      refine AW.seq (AW.block ?_)
      obtain ⟨g35, g36, h⟩ := ifd h
      refine AW.sg tt_okL10 [(28, vl 2 RS_api_Couple (([p3, y29] : List (List S_api_Couple)).getD (0 + x33.toNat) ([] : List S_api_Couple)))] [] [] 6 [hq g35 g36, ho (p := (0 + x33.toNat) < ([p3, y29] : List (List S_api_Couple)).length) (by have h1 : 0 ≤ x33 := g35; have h2 : x33 < ((([p3, y29] : List (List S_api_Couple)).length : Nat) : Int) := g36; omega)] (by kernel_rfl) ?_
      refine AW.sg tt_okL10 [(145, vi64 0), (144, vi64 ((([p6, (([500, 800, y24] : List Int).take ((i64.wrap (1 + y15)).toNat))] : List (List Int)).length : Nat) : Int)), (143, .c (.ref 8 1 0 (([p6, (([500, 800, y24] : List Int).take ((i64.wrap (1 + y15)).toNat))] : List (List Int)).length)))] [8] [(8, .row 22 false 1 ([p6, (([500, 800, y24] : List Int).take ((i64.wrap (1 + y15)).toNat))] : List (List Int)).length (Rli64 ([p6, (([500, 800, y24] : List Int).take ((i64.wrap (1 + y15)).toNat))] : List (List Int))))] 11 [hn, hn, hlit ([] : List Int) Eli64 1 (fun _ => rfl) ([p6, (([500, 800, y24] : List Int).take ((i64.wrap (1 + y15)).toNat))] : List (List Int))] (by kernel_rfl) ?_
      refine AW.block ?_
      refine AW.lpE h (fun v => ⟨[(1, vl 1 Ri64 p1), (2, vl 1 Ri64 p2), (4, vl 3 RS_api_Encoded p4), (5, vl 3 RS_api_Encoded p5), (6, vl 1 Ri64 p6), (7, vi64 p7), (8, vi64 p8), (21, .c (.ptr 0 3 0 0)), (22, vi64 (i64.wrap (1 + y15))), (23, vl 3 RS_api_Encoded y18), (24, vl 3 RS_api_Encoded y21), (25, vl 1 Ri64 (([500, 800, y24] : List Int).take ((i64.wrap (1 + y15)).toNat))), (28, vl 2 RS_api_Couple (([p3, y29] : List (List S_api_Couple)).getD (0 + x33.toNat) ([] : List S_api_Couple))), (135, .c (.ref 1 1 0 (([p3, y29] : List (List S_api_Couple)).length))), (136, vi64 ((([p3, y29] : List (List S_api_Couple)).length : Nat) : Int)), (137, vi64 x33), (143, .c (.ref 2 1 0 (([p6, (([500, 800, y24] : List Int).take ((i64.wrap (1 + y15)).toNat))] : List (List Int)).length))), (144, vi64 ((([p6, (([500, 800, y24] : List Int).take ((i64.wrap (1 + y15)).toNat))] : List (List Int)).length : Nat) : Int)), (145, vi64 v)], [(0, .box 86 [cl 1 Ri64 y30.list, ci64 y30.at_, cu64 y30.state]), (1, .row 67 false 1 ([p3, y29] : List (List S_api_Couple)).length (RlS_api_Couple ([p3, y29] : List (List S_api_Couple)))), (2, .row 22 false 1 ([p6, (([500, 800, y24] : List Int).take ((i64.wrap (1 + y15)).toNat))] : List (List Int)).length (Rli64 ([p6, (([500, 800, y24] : List Int).take ((i64.wrap (1 + y15)).toNat))] : List (List Int))))], 3⟩) (fun t => (.exit 4, ⟨[(1, vl 1 Ri64 p1), (2, vl 1 Ri64 p2), (4, vl 3 RS_api_Encoded p4), (5, vl 3 RS_api_Encoded p5), (6, vl 1 Ri64 p6), (7, vi64 p7), (8, vi64 p8), (21, .c (.ptr 0 3 0 0)), (22, vi64 (i64.wrap (1 + y15))), (23, vl 3 RS_api_Encoded y18), (24, vl 3 RS_api_Encoded y21), (25, vl 1 Ri64 (([500, 800, y24] : List Int).take ((i64.wrap (1 + y15)).toNat))), (135, .c (.ref 1 1 0 (([p3, y29] : List (List S_api_Couple)).length))), (136, vi64 ((([p3, y29] : List (List S_api_Couple)).length : Nat) : Int)), (137, vi64 x33)], [(0, .box 86 [cl 1 Ri64 y30.list, ci64 y30.at_, cu64 y30.state]), (1, .row 67 false 1 ([p3, y29] : List (List S_api_Couple)).length (RlS_api_Couple ([p3, y29] : List (List S_api_Couple))))], 2⟩)) (fun t => (.ret, ⟨[(18, vb false)], [], 0⟩)) (conv_re [(0, 0), (1, 1), (2, 8)] (by kernel_rfl)) (fun _ => tv) (fun _ => tv) ?_ (fun t h => ?_) (fun t h => ?_)
      ·
       clear h
       intro x38 o h
       unfold rl_law23_PatternExact_l4 at h
       refine AW.sg tt_okL10 [(146, vb (decide (x38 < ((([p6, (([500, 800, y24] : List Int).take ((i64.wrap (1 + y15)).toNat))] : List (List Int)).length : Nat) : Int))))] [] [] 4 [] (by kernel_rfl) ?_
       refine AW.seq ?_
       refine AW.co h (by kernel_rfl) (fun c39 h => ?_) (fun c39 h => ?_)
       ·
        refine AW.skip (AW.tn ?_)
        refine AW.seq (AW.block ?_)
        obtain ⟨g40, g41, h⟩ := ifd h
        refine AW.sg tt_okL10 [(30, vl 1 Ri64 (([p6, (([500, 800, y24] : List Int).take ((i64.wrap (1 + y15)).toNat))] : List (List Int)).getD (0 + x38.toNat) ([] : List Int)))] [] [] 7 [hq g40 g41, ho (p := (0 + x38.toNat) < ([p6, (([500, 800, y24] : List Int).take ((i64.wrap (1 + y15)).toNat))] : List (List Int)).length) (by have h1 : 0 ≤ x38 := g40; have h2 : x38 < ((([p6, (([500, 800, y24] : List Int).take ((i64.wrap (1 + y15)).toNat))] : List (List Int)).length : Nat) : Int) := g41; omega)] (by kernel_rfl) ?_
        obtain ⟨y42, y43, e44, h⟩ := bind2_some h
        refine AW.sg tt_okL10 [(32, vi64 y43), (31, .c (.ref 11 1 0 y42.length))] [11] [(11, .row 3 false 1 y42.length (Ri64 y42))] 17 [hn, hn, hn, hn, hm [] [] 1 (pattern_Tally_con (([p3, y29] : List (List S_api_Couple)).getD (0 + x33.toNat) ([] : List S_api_Couple)) p4 p5 (([p6, (([500, 800, y24] : List Int).take ((i64.wrap (1 + y15)).toNat))] : List (List Int)).getD (0 + x38.toNat) ([] : List Int)) (y42, y43) e44) ⟨rowL_flat Vi64 _ _ _, tv⟩] (by kernel_rfl) ?_
        obtain ⟨y45, y46, e47, h⟩ := bind2_some h
        refine AW.sg tt_okL10 [(34, vi64 y46), (33, .c (.ref 21 1 0 y45.length))] [21] [(21, .row 3 false 1 y45.length (Ri64 y45))] 27 [hn, hn, hn, hn, hm [] [] 1 (rl_ref23_Tally_con (([p3, y29] : List (List S_api_Couple)).getD (0 + x33.toNat) ([] : List S_api_Couple)) p4 p5 (([p6, (([500, 800, y24] : List Int).take ((i64.wrap (1 + y15)).toNat))] : List (List Int)).getD (0 + x38.toNat) ([] : List Int)) (y45, y46) e47) ⟨rowL_flat Vi64 _ _ _, tv⟩] (by kernel_rfl) ?_
        obtain ⟨y48, y49, e50, h⟩ := bind2_some h
        refine AW.sg tt_okL10 [(36, vi64 y49), (35, .c (.ref 31 1 0 y48.length))] [31] [(31, .row 3 false 1 y48.length (Ri64 y48))] 37 [hn, hn, hn, hn, hm [] [] 1 (pattern_Tally_con (([p3, y29] : List (List S_api_Couple)).getD (0 + x33.toNat) ([] : List S_api_Couple)) y18 y21 (([p6, (([500, 800, y24] : List Int).take ((i64.wrap (1 + y15)).toNat))] : List (List Int)).getD (0 + x38.toNat) ([] : List Int)) (y48, y49) e50) ⟨rowL_flat Vi64 _ _ _, tv⟩] (by kernel_rfl) ?_
        obtain ⟨y51, y52, e53, h⟩ := bind2_some h
        refine AW.sg tt_okL10 [(38, vi64 y52), (37, .c (.ref 41 1 0 y51.length))] [41] [(41, .row 3 false 1 y51.length (Ri64 y51))] 47 [hn, hn, hn, hn, hm [] [] 1 (rl_ref23_Tally_con (([p3, y29] : List (List S_api_Couple)).getD (0 + x33.toNat) ([] : List S_api_Couple)) y18 y21 (([p6, (([500, 800, y24] : List Int).take ((i64.wrap (1 + y15)).toNat))] : List (List Int)).getD (0 + x38.toNat) ([] : List Int)) (y51, y52) e53) ⟨rowL_flat Vi64 _ _ _, tv⟩] (by kernel_rfl) ?_
        refine AW.seq ?_
        refine AW.join (ι := Bool) (fun v => ⟨[(1, vl 1 Ri64 p1), (2, vl 1 Ri64 p2), (4, vl 3 RS_api_Encoded p4), (5, vl 3 RS_api_Encoded p5), (6, vl 1 Ri64 p6), (7, vi64 p7), (8, vi64 p8), (21, .c (.ptr 0 3 0 0)), (22, vi64 (i64.wrap (1 + y15))), (23, vl 3 RS_api_Encoded y18), (24, vl 3 RS_api_Encoded y21), (25, vl 1 Ri64 (([500, 800, y24] : List Int).take ((i64.wrap (1 + y15)).toNat))), (28, vl 2 RS_api_Couple (([p3, y29] : List (List S_api_Couple)).getD (0 + x33.toNat) ([] : List S_api_Couple))), (135, .c (.ref 1 1 0 (([p3, y29] : List (List S_api_Couple)).length))), (136, vi64 ((([p3, y29] : List (List S_api_Couple)).length : Nat) : Int)), (137, vi64 x33), (143, .c (.ref 2 1 0 (([p6, (([500, 800, y24] : List Int).take ((i64.wrap (1 + y15)).toNat))] : List (List Int)).length))), (144, vi64 ((([p6, (([500, 800, y24] : List Int).take ((i64.wrap (1 + y15)).toNat))] : List (List Int)).length : Nat) : Int)), (145, vi64 x38), (200, vb v)], [(0, .box 86 [cl 1 Ri64 y30.list, ci64 y30.at_, cu64 y30.state]), (1, .row 67 false 1 ([p3, y29] : List (List S_api_Couple)).length (RlS_api_Couple ([p3, y29] : List (List S_api_Couple)))), (2, .row 22 false 1 ([p6, (([500, 800, y24] : List Int).take ((i64.wrap (1 + y15)).toNat))] : List (List Int)).length (Rli64 ([p6, (([500, 800, y24] : List Int).take ((i64.wrap (1 + y15)).toNat))] : List (List Int))))], 3⟩) (fun v : Bool => rl_law23_PatternExact_k5 x38 v = some o) (fun x54 h => ?_) ?_
        ·
         unfold rl_law23_PatternExact_k5 at h
         refine AW.tn ?_
         refine AW.co h (by kernel_rfl) (fun c55 h => ?_) (fun c55 h => ?_)
         ·
          refine AW.sg tt_okL10 [(18, vb false)] [] [] 4 [] (by kernel_rfl) ?_
          refine AW.ret (AW.inBlock_ret (AW.tr ?_))
          exact lpo h rfl (conv_re [] (by kernel_rfl))
         ·
          refine AW.skip (AW.inBlock_normal (AW.tn ?_))
          refine AW.rg tt_okL10 [(145, vi64 (i64.wrap (x38 + 1)))] [] [] 5 [] (by kernel_rfl) ?_
          exact lpn h (conv_re [(0, 0), (1, 1), (2, 2)] (by kernel_rfl))
        ·
         rcases ifs h with ⟨c56, h⟩ | ⟨c56, h⟩
         ·
          refine AW.rg tt_okL10 [(200, vb true)] [] [] 67 [hn, hn, ht c56] (by kernel_rfl) ?_
          exact jl true h (conv_re [(0, 0), (1, 1), (2, 2)] (by kernel_rfl))
         ·
          rcases ifs h with ⟨c57, h⟩ | ⟨c57, h⟩
          ·
           refine AW.rg tt_okL10 [(200, vb true)] [] [] 67 [hn, hn, hf c56, hn, hn, hn, ht c57] (by kernel_rfl) ?_
           exact jl true h (conv_re [(0, 0), (1, 1), (2, 2)] (by kernel_rfl))
          ·
           obtain ⟨y58, e59, h⟩ := bnd_some h
           rcases ifs h with ⟨c60, h⟩ | ⟨c60, h⟩
           ·
            refine AW.rg tt_okL10 [(200, vb true)] [] [] 66 [hn, hn, hf c56, hn, hn, hn, hf c57, hn, hn, hn, hn, hg [] [] true 0 (q := (0 + y42.length ≤ y42.length) ∧ (0 + y45.length ≤ y45.length) ∧ (True)) ⟨le0, le0, tv⟩ (a0 := [vl 1 Ri64 y42, vl 1 Ri64 y45]) (rl_ref01_Ints_con y42 y45 y58 e59) ⟨ArgLe.refl _, ArgLe.refl _, tv⟩ (fun _ => tv), ht c60] (by kernel_rfl) ?_
            exact jl true h (conv_re [(0, 0), (1, 1), (2, 2)] (by kernel_rfl))
           ·
            obtain ⟨y61, e62, h⟩ := bnd_some h
            refine AW.rg tt_okL10 [(200, vb (!y61))] [] [] 65 [hn, hn, hf c56, hn, hn, hn, hf c57, hn, hn, hn, hn, hg [] [] true 0 (q := (0 + y42.length ≤ y42.length) ∧ (0 + y45.length ≤ y45.length) ∧ (True)) ⟨le0, le0, tv⟩ (a0 := [vl 1 Ri64 y42, vl 1 Ri64 y45]) (rl_ref01_Ints_con y42 y45 y58 e59) ⟨ArgLe.refl _, ArgLe.refl _, tv⟩ (fun _ => tv), hf c60, hn, hn, hn, hn, hg [] [] true 0 (q := (0 + y48.length ≤ y48.length) ∧ (0 + y51.length ≤ y51.length) ∧ (True)) ⟨le0, le0, tv⟩ (a0 := [vl 1 Ri64 y48, vl 1 Ri64 y51]) (rl_ref01_Ints_con y48 y51 y61 e62) ⟨ArgLe.refl _, ArgLe.refl _, tv⟩ (fun _ => tv)] (by kernel_rfl) ?_
            exact jl (!y61) h (conv_re [(0, 0), (1, 1), (2, 2)] (by kernel_rfl))
       ·
        refine AW.exit (AW.thenQ_exit ?_)
        exact lpo h rfl (conv_re [(0, 0), (1, 1)] (by kernel_rfl))
      ·
       replace h : rl_law23_PatternExact_a6 x33 = some o := h
       unfold rl_law23_PatternExact_a6 at h
       show (_ : Exit → St → Prop) (.exit 4) _
       refine AW.inBlock_hit (AW.inBlock_normal (AW.tn ?_))
       refine AW.rg tt_okL10 [(137, vi64 (i64.wrap (x33 + 1)))] [] [] 4 [] (by kernel_rfl) ?_
       exact lpn h (conv_re [(0, 0), (1, 1)] (by kernel_rfl))
      ·
       replace h : rl_law23_PatternExact_a7 = some o := h
       unfold rl_law23_PatternExact_a7 at h
       show (_ : Exit → St → Prop) (.ret) _
       refine AW.inBlock_ret (AW.inBlock_ret (AW.tr ?_))
       exact lpo h rfl (conv_re [] (by kernel_rfl))
     ·
      refine AW.exit (AW.thenQ_exit ?_)
      exact lpo h rfl (conv_re [(0, 0)] (by kernel_rfl))
    ·
     replace h : rl_law23_PatternExact_a23 p1 p2 p7 p8 y15 y30 = some r := h
     unfold rl_law23_PatternExact_a23 at h
     show (_ : Exit → St → Prop) (.exit 2) _
     refine AW.inBlock_hit (AW.tn ?_)
     obtain ⟨y64, y65, e66, h⟩ := bind2_some h
     refine AW.sg tt_okL10 [(40, vi64 y65), (39, vi64 y64)] [] [] 7 [hn, hk (pattern_Size_con p7 (y64, y65) e66)] (by kernel_rfl) ?_
     obtain ⟨y67, y68, e69, h⟩ := bind2_some h
     refine AW.sg tt_okL10 [(42, vi64 y68), (41, vi64 y67)] [] [] 13 [hn, hk (rl_ref23_Size_con p7 (y67, y68) e69)] (by kernel_rfl) ?_
     refine AW.seq (AW.seq ?_)
     refine AW.join (ι := Bool) (fun v => ⟨[(1, vl 1 Ri64 p1), (2, vl 1 Ri64 p2), (7, vi64 p7), (8, vi64 p8), (21, .c (.ptr 0 3 0 0)), (22, vi64 (i64.wrap (1 + y15))), (220, vb v)], [(0, .box 86 [cl 1 Ri64 y30.list, ci64 y30.at_, cu64 y30.state])], 1⟩) (fun v : Bool => rl_law23_PatternExact_k8 p1 p2 p7 p8 y15 y30 v = some r) (fun x70 h => ?_) ?_
     ·
      unfold rl_law23_PatternExact_k8 at h
      refine AW.tn ?_
      refine AW.co h (by kernel_rfl) (fun c71 h => ?_) (fun c71 h => ?_)
      ·
       refine AW.sg tt_okL10 [(18, vb false)] [] [] 2 [] (by kernel_rfl) ?_
       refine AW.ret (AW.tr ?_)
       obtain rfl := some_inj h
       exact fn0 (.inr rfl) [] 0 (vb false) (by kernel_rfl)
      ·
       refine AW.skip (AW.tn ?_)
       obtain ⟨y72, y73, e74, h⟩ := bind2_some h
       obtain ⟨y75, y76, e77, h⟩ := bind2_some h
       refine AW.sg tt_okL10 [(44, .c (.ref 6 1 0 y75.length)), (43, .c (.ref 3 1 0 y72.length))] [0, 3, 6] [(0, .box 86 [cl 1 Ri64 y76.list, ci64 y76.at_, cu64 y76.state]), (6, .row 3 false 1 y75.length (Ri64 y75)), (3, .row 3 false 1 y72.length (Ri64 y72))] 9 [hn, hn, hl [0] [] 1 (rl_make_Deck_Counts_con y30 (i64.wrap (1 + y15)) (y72, y73) e74), hn, hn, hl [0] [] 1 (rl_make_Deck_Counts_con y73 (i64.wrap (1 + y15)) (y75, y76) e77)] (by kernel_rfl) ?_
       refine AW.seq (AW.seq ?_)
       refine AW.pre (Conv.trans (cfz 3 3 1 y72.length (Ri64 y72) (by kernel_rfl)) (conv_tms [(43, vl 1 Ri64 y72)] ⟨⟨.c (.ref 3 1 0 y72.length), by kernel_rfl, ALe.c (CLe.ref (ty := 3) (f := Ri64 y72) (by kernel_rfl) le0)⟩, tv⟩)) ?_
       refine AW.rg tt_okL10 [(231, vi64 0), (230, vi64 ((([p1, y72] : List (List Int)).length : Nat) : Int)), (229, .c (.ref 11 1 0 (([p1, y72] : List (List Int)).length)))] [11] [(11, .row 22 false 1 ([p1, y72] : List (List Int)).length (Rli64 ([p1, y72] : List (List Int))))] 14 [hn, hn, hlit ([] : List Int) Eli64 1 (fun _ => rfl) ([p1, y72] : List (List Int))] (by kernel_rfl) ?_
       refine AW.tn (AW.block ?_)
       refine AW.lpE h (fun v => ⟨[(2, vl 1 Ri64 p2), (7, vi64 p7), (8, vi64 p8), (21, .c (.ptr 0 3 0 0)), (22, vi64 (i64.wrap (1 + y15))), (44, vl 1 Ri64 y75), (229, .c (.ref 1 1 0 (([p1, y72] : List (List Int)).length))), (230, vi64 ((([p1, y72] : List (List Int)).length : Nat) : Int)), (231, vi64 v.1)], [(0, .box 86 [cl 1 Ri64 v.2.1, ci64 v.2.2.1, cu64 v.2.2.2]), (1, .row 22 false 1 ([p1, y72] : List (List Int)).length (Rli64 ([p1, y72] : List (List Int))))], 2⟩) (fun t => (.exit 6, ⟨[], [], 0⟩)) (fun t => (.ret, ⟨[(18, vb false)], [], 0⟩)) (Conv.trans (cfz 6 3 1 y75.length (Ri64 y75) (by kernel_rfl)) (Conv.trans (conv_tms [(44, vl 1 Ri64 y75)] ⟨⟨.c (.ref 6 1 0 y75.length), by kernel_rfl, ALe.c (CLe.ref (ty := 3) (f := Ri64 y75) (by kernel_rfl) le0)⟩, tv⟩) (conv_re [(0, 0), (1, 11)] (by kernel_rfl)))) (fun _ => tv) (fun _ => tv) ?_ (fun t h => ?_) (fun t h => ?_)
       ·
        clear h
        intro v o h
        obtain ⟨x82, x83, x84, x85⟩ := v
        replace h : rl_law23_PatternExact_l9 p1 p2 p7 p8 y15 y72 y75 x82 x83 x84 x85 = some o := h
        unfold rl_law23_PatternExact_l9 at h
        refine AW.sg tt_okL10 [(232, vb (decide (x82 < ((([p1, y72] : List (List Int)).length : Nat) : Int))))] [] [] 3 [] (by kernel_rfl) ?_
        refine AW.seq ?_
        refine AW.co h (by kernel_rfl) (fun c86 h => ?_) (fun c86 h => ?_)
        ·
         refine AW.skip (AW.tn ?_)
         refine AW.seq (AW.block ?_)
         obtain ⟨g87, g88, h⟩ := ifd h
         refine AW.sg tt_okL10 [(46, vl 1 Ri64 (([p1, y72] : List (List Int)).getD (0 + x82.toNat) ([] : List Int)))] [] [] 6 [hq g87 g88, ho (p := (0 + x82.toNat) < ([p1, y72] : List (List Int)).length) (by have h1 : 0 ≤ x82 := g87; have h2 : x82 < ((([p1, y72] : List (List Int)).length : Nat) : Int) := g88; omega)] (by kernel_rfl) ?_
         refine AW.seq ?_
         refine AW.sg tt_okL10 [(239, vi64 0), (238, vi64 ((([p7, i64.wrap (1 + y15)] : List Int).length : Nat) : Int)), (237, .c (.ref 8 1 0 (([p7, i64.wrap (1 + y15)] : List Int).length)))] [8] [(8, .row 3 false 1 ([p7, i64.wrap (1 + y15)] : List Int).length (Ri64 ([p7, i64.wrap (1 + y15)] : List Int)))] 11 [hn, hn, hlit 0 Ei64 1 (fun _ => rfl) ([p7, i64.wrap (1 + y15)] : List Int)] (by kernel_rfl) ?_
         refine AW.block ?_
         refine AW.lpE h (fun v => ⟨[(2, vl 1 Ri64 p2), (7, vi64 p7), (8, vi64 p8), (21, .c (.ptr 0 3 0 0)), (22, vi64 (i64.wrap (1 + y15))), (44, vl 1 Ri64 y75), (46, vl 1 Ri64 (([p1, y72] : List (List Int)).getD (0 + x82.toNat) ([] : List Int))), (229, .c (.ref 1 1 0 (([p1, y72] : List (List Int)).length))), (230, vi64 ((([p1, y72] : List (List Int)).length : Nat) : Int)), (231, vi64 x82), (237, .c (.ref 2 1 0 (([p7, i64.wrap (1 + y15)] : List Int).length))), (238, vi64 ((([p7, i64.wrap (1 + y15)] : List Int).length : Nat) : Int)), (239, vi64 v.1)], [(0, .box 86 [cl 1 Ri64 v.2.1, ci64 v.2.2.1, cu64 v.2.2.2]), (1, .row 22 false 1 ([p1, y72] : List (List Int)).length (Rli64 ([p1, y72] : List (List Int)))), (2, .row 3 false 1 ([p7, i64.wrap (1 + y15)] : List Int).length (Ri64 ([p7, i64.wrap (1 + y15)] : List Int)))], 3⟩) (fun t => (.exit 8, ⟨[(2, vl 1 Ri64 p2), (7, vi64 p7), (8, vi64 p8), (21, .c (.ptr 0 3 0 0)), (22, vi64 (i64.wrap (1 + y15))), (44, vl 1 Ri64 y75), (46, vl 1 Ri64 (([p1, y72] : List (List Int)).getD (0 + x82.toNat) ([] : List Int))), (229, .c (.ref 1 1 0 (([p1, y72] : List (List Int)).length))), (230, vi64 ((([p1, y72] : List (List Int)).length : Nat) : Int)), (231, vi64 x82)], [(0, .box 86 [cl 1 Ri64 t.1, ci64 t.2.1, cu64 t.2.2]), (1, .row 22 false 1 ([p1, y72] : List (List Int)).length (Rli64 ([p1, y72] : List (List Int))))], 2⟩)) (fun t => (.ret, ⟨[(18, vb false)], [], 0⟩)) (conv_re [(0, 0), (1, 1), (2, 8)] (by kernel_rfl)) (fun _ => tv) (fun _ => tv) ?_ (fun t h => ?_) (fun t h => ?_)
         ·
          clear h
          intro v o h
          obtain ⟨x93, x94, x95, x96⟩ := v
          replace h : rl_law23_PatternExact_l10 p1 p2 p7 p8 y15 y72 y75 x82 x93 x94 x95 x96 = some o := h
          unfold rl_law23_PatternExact_l10 at h
          refine AW.sg tt_okL10 [(240, vb (decide (x93 < ((([p7, i64.wrap (1 + y15)] : List Int).length : Nat) : Int))))] [] [] 4 [] (by kernel_rfl) ?_
          refine AW.seq ?_
          refine AW.co h (by kernel_rfl) (fun c100 h => ?_) (fun c100 h => ?_)
          ·
           refine AW.skip (AW.tn ?_)
           refine AW.seq (AW.block ?_)
           obtain ⟨g101, g102, h⟩ := ifd h
           refine AW.sg tt_okL10 [(48, vi64 (([p7, i64.wrap (1 + y15)] : List Int).getD (0 + x93.toNat) 0))] [] [] 7 [hq g101 g102, ho (p := (0 + x93.toNat) < ([p7, i64.wrap (1 + y15)] : List Int).length) (by have h1 : 0 ≤ x93 := g101; have h2 : x93 < ((([p7, i64.wrap (1 + y15)] : List Int).length : Nat) : Int) := g102; omega)] (by kernel_rfl) ?_
           refine AW.seq ?_
           refine AW.sg tt_okL10 [(247, vi64 0), (246, vi64 ((([p2, y75] : List (List Int)).length : Nat) : Int)), (245, .c (.ref 9 1 0 (([p2, y75] : List (List Int)).length)))] [9] [(9, .row 22 false 1 ([p2, y75] : List (List Int)).length (Rli64 ([p2, y75] : List (List Int))))] 12 [hn, hn, hlit ([] : List Int) Eli64 1 (fun _ => rfl) ([p2, y75] : List (List Int))] (by kernel_rfl) ?_
           refine AW.block ?_
           refine AW.lpE h (fun v => ⟨[(2, vl 1 Ri64 p2), (7, vi64 p7), (8, vi64 p8), (21, .c (.ptr 0 3 0 0)), (22, vi64 (i64.wrap (1 + y15))), (44, vl 1 Ri64 y75), (46, vl 1 Ri64 (([p1, y72] : List (List Int)).getD (0 + x82.toNat) ([] : List Int))), (48, vi64 (([p7, i64.wrap (1 + y15)] : List Int).getD (0 + x93.toNat) 0)), (229, .c (.ref 1 1 0 (([p1, y72] : List (List Int)).length))), (230, vi64 ((([p1, y72] : List (List Int)).length : Nat) : Int)), (231, vi64 x82), (237, .c (.ref 2 1 0 (([p7, i64.wrap (1 + y15)] : List Int).length))), (238, vi64 ((([p7, i64.wrap (1 + y15)] : List Int).length : Nat) : Int)), (239, vi64 x93), (245, .c (.ref 3 1 0 (([p2, y75] : List (List Int)).length))), (246, vi64 ((([p2, y75] : List (List Int)).length : Nat) : Int)), (247, vi64 v)], [(0, .box 86 [cl 1 Ri64 x94, ci64 x95, cu64 x96]), (1, .row 22 false 1 ([p1, y72] : List (List Int)).length (Rli64 ([p1, y72] : List (List Int)))), (2, .row 3 false 1 ([p7, i64.wrap (1 + y15)] : List Int).length (Ri64 ([p7, i64.wrap (1 + y15)] : List Int))), (3, .row 22 false 1 ([p2, y75] : List (List Int)).length (Rli64 ([p2, y75] : List (List Int))))], 4⟩) (fun t => (.exit 10, ⟨[(2, vl 1 Ri64 p2), (7, vi64 p7), (8, vi64 p8), (21, .c (.ptr 0 3 0 0)), (22, vi64 (i64.wrap (1 + y15))), (44, vl 1 Ri64 y75), (46, vl 1 Ri64 (([p1, y72] : List (List Int)).getD (0 + x82.toNat) ([] : List Int))), (48, vi64 (([p7, i64.wrap (1 + y15)] : List Int).getD (0 + x93.toNat) 0)), (229, .c (.ref 1 1 0 (([p1, y72] : List (List Int)).length))), (230, vi64 ((([p1, y72] : List (List Int)).length : Nat) : Int)), (231, vi64 x82), (237, .c (.ref 2 1 0 (([p7, i64.wrap (1 + y15)] : List Int).length))), (238, vi64 ((([p7, i64.wrap (1 + y15)] : List Int).length : Nat) : Int)), (239, vi64 x93)], [(0, .box 86 [cl 1 Ri64 x94, ci64 x95, cu64 x96]), (1, .row 22 false 1 ([p1, y72] : List (List Int)).length (Rli64 ([p1, y72] : List (List Int)))), (2, .row 3 false 1 ([p7, i64.wrap (1 + y15)] : List Int).length (Ri64 ([p7, i64.wrap (1 + y15)] : List Int)))], 3⟩)) (fun t => (.ret, ⟨[(18, vb false)], [], 0⟩)) (conv_re [(0, 0), (1, 1), (2, 2), (3, 9)] (by kernel_rfl)) (fun _ => tv) (fun _ => tv) ?_ (fun t h => ?_) (fun t h => ?_)
           ·
            clear h
            intro x104 o h
            unfold rl_law23_PatternExact_l11 at h
            refine AW.sg tt_okL10 [(248, vb (decide (x104 < ((([p2, y75] : List (List Int)).length : Nat) : Int))))] [] [] 5 [] (by kernel_rfl) ?_
            refine AW.seq ?_
            refine AW.co h (by kernel_rfl) (fun c105 h => ?_) (fun c105 h => ?_)
            ·
             refine AW.skip (AW.tn ?_)
             refine AW.seq (AW.block ?_)
             obtain ⟨g106, g107, h⟩ := ifd h
             refine AW.sg tt_okL10 [(50, vl 1 Ri64 (([p2, y75] : List (List Int)).getD (0 + x104.toNat) ([] : List Int)))] [] [] 8 [hq g106 g107, ho (p := (0 + x104.toNat) < ([p2, y75] : List (List Int)).length) (by have h1 : 0 ≤ x104 := g106; have h2 : x104 < ((([p2, y75] : List (List Int)).length : Nat) : Int) := g107; omega)] (by kernel_rfl) ?_
             obtain ⟨y108, y109, e110, h⟩ := bind2_some h
             refine AW.sg tt_okL10 [(52, vi64 y109), (51, vl 1 Ri64 y108)] [] [] 16 [hn, hn, hn, hk (pattern_Add_con (([p1, y72] : List (List Int)).getD (0 + x82.toNat) ([] : List Int)) (([p2, y75] : List (List Int)).getD (0 + x104.toNat) ([] : List Int)) (([p7, i64.wrap (1 + y15)] : List Int).getD (0 + x93.toNat) 0) (y108, y109) e110)] (by kernel_rfl) ?_
             obtain ⟨y111, y112, e113, h⟩ := bind2_some h
             refine AW.sg tt_okL10 [(54, vi64 y112), (53, .c (.ref 19 1 0 y111.length))] [19] [(19, .row 3 false 1 y111.length (Ri64 y111))] 25 [hn, hn, hn, hm [] [] 1 (rl_ref23_Add_con (([p1, y72] : List (List Int)).getD (0 + x82.toNat) ([] : List Int)) (([p2, y75] : List (List Int)).getD (0 + x104.toNat) ([] : List Int)) (([p7, i64.wrap (1 + y15)] : List Int).getD (0 + x93.toNat) 0) (y111, y112) e113) ⟨rowL_flat Vi64 _ _ _, tv⟩] (by kernel_rfl) ?_
             refine AW.seq ?_
             refine AW.join (ι := Bool) (fun v => ⟨[(2, vl 1 Ri64 p2), (7, vi64 p7), (8, vi64 p8), (21, .c (.ptr 0 3 0 0)), (22, vi64 (i64.wrap (1 + y15))), (44, vl 1 Ri64 y75), (46, vl 1 Ri64 (([p1, y72] : List (List Int)).getD (0 + x82.toNat) ([] : List Int))), (48, vi64 (([p7, i64.wrap (1 + y15)] : List Int).getD (0 + x93.toNat) 0)), (229, .c (.ref 1 1 0 (([p1, y72] : List (List Int)).length))), (230, vi64 ((([p1, y72] : List (List Int)).length : Nat) : Int)), (231, vi64 x82), (237, .c (.ref 2 1 0 (([p7, i64.wrap (1 + y15)] : List Int).length))), (238, vi64 ((([p7, i64.wrap (1 + y15)] : List Int).length : Nat) : Int)), (239, vi64 x93), (245, .c (.ref 3 1 0 (([p2, y75] : List (List Int)).length))), (246, vi64 ((([p2, y75] : List (List Int)).length : Nat) : Int)), (247, vi64 x104), (273, vb v)], [(0, .box 86 [cl 1 Ri64 x94, ci64 x95, cu64 x96]), (1, .row 22 false 1 ([p1, y72] : List (List Int)).length (Rli64 ([p1, y72] : List (List Int)))), (2, .row 3 false 1 ([p7, i64.wrap (1 + y15)] : List Int).length (Ri64 ([p7, i64.wrap (1 + y15)] : List Int))), (3, .row 22 false 1 ([p2, y75] : List (List Int)).length (Rli64 ([p2, y75] : List (List Int))))], 4⟩) (fun v : Bool => rl_law23_PatternExact_k12 x104 v = some o) (fun x114 h => ?_) ?_
             ·
              unfold rl_law23_PatternExact_k12 at h
              refine AW.tn ?_
              refine AW.co h (by kernel_rfl) (fun c115 h => ?_) (fun c115 h => ?_)
              ·
               refine AW.sg tt_okL10 [(18, vb false)] [] [] 5 [] (by kernel_rfl) ?_
               refine AW.ret (AW.inBlock_ret (AW.tr ?_))
               exact lpo h rfl (conv_re [] (by kernel_rfl))
              ·
               refine AW.skip (AW.inBlock_normal (AW.tn ?_))
               refine AW.rg tt_okL10 [(247, vi64 (i64.wrap (x104 + 1)))] [] [] 6 [] (by kernel_rfl) ?_
               exact lpn h (conv_re [(0, 0), (1, 1), (2, 2), (3, 3)] (by kernel_rfl))
             ·
              rcases ifs h with ⟨c116, h⟩ | ⟨c116, h⟩
              ·
               refine AW.rg tt_okL10 [(273, vb true)] [] [] 34 [hn, hn, ht c116] (by kernel_rfl) ?_
               exact jl true h (conv_re [(0, 0), (1, 1), (2, 2), (3, 3)] (by kernel_rfl))
              ·
               obtain ⟨y117, e118, h⟩ := bnd_some h
               refine AW.rg tt_okL10 [(273, vb (!y117))] [] [] 33 [hn, hn, hf c116, hn, hn, hn, hg [] [] true 0 (q := (True) ∧ (0 + y111.length ≤ y111.length) ∧ (True)) ⟨tv, le0, tv⟩ (a0 := [vl 1 Ri64 y108, vl 1 Ri64 y111]) (rl_ref01_Ints_con y108 y111 y117 e118) ⟨ArgLe.refl _, ArgLe.refl _, tv⟩ (fun _ => tv)] (by kernel_rfl) ?_
               exact jl (!y117) h (conv_re [(0, 0), (1, 1), (2, 2), (3, 3)] (by kernel_rfl))
            ·
             refine AW.exit (AW.thenQ_exit ?_)
             exact lpo h rfl (conv_re [(0, 0), (1, 1), (2, 2)] (by kernel_rfl))
           ·
            replace h : rl_law23_PatternExact_a17 p1 p7 p8 y15 y72 x82 x93 x94 x95 x96 = some o := h
            unfold rl_law23_PatternExact_a17 at h
            show (_ : Exit → St → Prop) (.exit 10) _
            refine AW.inBlock_hit (AW.tn (AW.seq ?_))
            obtain ⟨y119, y120, e121, h⟩ := bind2_some h
            refine AW.sg tt_okL10 [(280, vi64 0), (279, vi64 ((([p8, y119] : List Int).length : Nat) : Int)), (278, .c (.ref 5 1 0 (([p8, y119] : List Int).length)))] [0, 5] [(5, .row 3 false 1 ([p8, y119] : List Int).length (Ri64 ([p8, y119] : List Int))), (0, .box 86 [cl 1 Ri64 y120.list, ci64 y120.at_, cu64 y120.state])] 8 [hn, hn, hl [0] [] 0 (rl_make_Deck_Next_con (⟨x94, x95, x96⟩ : S_recordlinkmake_Deck) 3 (y119, y120) e121), hlit 0 Ei64 1 (fun _ => rfl) ([p8, y119] : List Int)] (by kernel_rfl) ?_
            refine AW.block ?_
            refine AW.lpE h (fun v => ⟨[(2, vl 1 Ri64 p2), (7, vi64 p7), (8, vi64 p8), (21, .c (.ptr 0 3 0 0)), (22, vi64 (i64.wrap (1 + y15))), (44, vl 1 Ri64 y75), (46, vl 1 Ri64 (([p1, y72] : List (List Int)).getD (0 + x82.toNat) ([] : List Int))), (48, vi64 (([p7, i64.wrap (1 + y15)] : List Int).getD (0 + x93.toNat) 0)), (229, .c (.ref 1 1 0 (([p1, y72] : List (List Int)).length))), (230, vi64 ((([p1, y72] : List (List Int)).length : Nat) : Int)), (231, vi64 x82), (237, .c (.ref 2 1 0 (([p7, i64.wrap (1 + y15)] : List Int).length))), (238, vi64 ((([p7, i64.wrap (1 + y15)] : List Int).length : Nat) : Int)), (239, vi64 x93), (278, .c (.ref 3 1 0 (([p8, y119] : List Int).length))), (279, vi64 ((([p8, y119] : List Int).length : Nat) : Int)), (280, vi64 v)], [(0, .box 86 [cl 1 Ri64 y120.list, ci64 y120.at_, cu64 y120.state]), (1, .row 22 false 1 ([p1, y72] : List (List Int)).length (Rli64 ([p1, y72] : List (List Int)))), (2, .row 3 false 1 ([p7, i64.wrap (1 + y15)] : List Int).length (Ri64 ([p7, i64.wrap (1 + y15)] : List Int))), (3, .row 3 false 1 ([p8, y119] : List Int).length (Ri64 ([p8, y119] : List Int)))], 4⟩) (fun t => (.exit 12, ⟨[(2, vl 1 Ri64 p2), (7, vi64 p7), (8, vi64 p8), (21, .c (.ptr 0 3 0 0)), (22, vi64 (i64.wrap (1 + y15))), (44, vl 1 Ri64 y75), (46, vl 1 Ri64 (([p1, y72] : List (List Int)).getD (0 + x82.toNat) ([] : List Int))), (48, vi64 (([p7, i64.wrap (1 + y15)] : List Int).getD (0 + x93.toNat) 0)), (229, .c (.ref 1 1 0 (([p1, y72] : List (List Int)).length))), (230, vi64 ((([p1, y72] : List (List Int)).length : Nat) : Int)), (231, vi64 x82), (237, .c (.ref 2 1 0 (([p7, i64.wrap (1 + y15)] : List Int).length))), (238, vi64 ((([p7, i64.wrap (1 + y15)] : List Int).length : Nat) : Int)), (239, vi64 x93)], [(0, .box 86 [cl 1 Ri64 y120.list, ci64 y120.at_, cu64 y120.state]), (1, .row 22 false 1 ([p1, y72] : List (List Int)).length (Rli64 ([p1, y72] : List (List Int)))), (2, .row 3 false 1 ([p7, i64.wrap (1 + y15)] : List Int).length (Ri64 ([p7, i64.wrap (1 + y15)] : List Int)))], 3⟩)) (fun t => (.ret, ⟨[(18, vb false)], [], 0⟩)) (conv_re [(0, 0), (1, 1), (2, 2), (3, 5)] (by kernel_rfl)) (fun _ => tv) (fun _ => tv) ?_ (fun t h => ?_) (fun t h => ?_)
            ·
             clear h
             intro x123 o h
             unfold rl_law23_PatternExact_l13 at h
             refine AW.sg tt_okL10 [(281, vb (decide (x123 < ((([p8, y119] : List Int).length : Nat) : Int))))] [] [] 5 [] (by kernel_rfl) ?_
             refine AW.seq ?_
             refine AW.co h (by kernel_rfl) (fun c124 h => ?_) (fun c124 h => ?_)
             ·
              refine AW.skip (AW.tn ?_)
              refine AW.seq (AW.block ?_)
              obtain ⟨g125, g126, h⟩ := ifd h
              refine AW.sg tt_okL10 [(56, vi64 (([p8, y119] : List Int).getD (0 + x123.toNat) 0))] [] [] 8 [hq g125 g126, ho (p := (0 + x123.toNat) < ([p8, y119] : List Int).length) (by have h1 : 0 ≤ x123 := g125; have h2 : x123 < ((([p8, y119] : List Int).length : Nat) : Int) := g126; omega)] (by kernel_rfl) ?_
              obtain ⟨y127, y128, e129, h⟩ := bind2_some h
              refine AW.sg tt_okL10 [(58, vi64 y128), (57, .c (.ptr 14 1 0 0))] [14] [(14, .row 60 false 1 3 (Ri64 y127))] 17 [hn, hn, hn, hk (pattern_Marginal_con (([p1, y72] : List (List Int)).getD (0 + x82.toNat) ([] : List Int)) (([p7, i64.wrap (1 + y15)] : List Int).getD (0 + x93.toNat) 0) (([p8, y119] : List Int).getD (0 + x123.toNat) 0) (y127, y128) e129), hn, hn, hn, hr 3 (Ri64 ([0, 0, 0] : List Int)) (p := 3 = 3 ∧ ∀ i, i < 3 → ∀ j, j < 1 → TLe (rowOf [.v (.int .i64 0), .v (.int .i64 0), .v (.int .i64 0)] 1 i j) (Ri64 ([0, 0, 0] : List Int) i j)) (⟨rfl, fun i hi j hj => match i, hi, j, hj with | 0, _, 0, _ => TLe.refl _ | 1, _, 0, _ => TLe.refl _ | 2, _, 0, _ => TLe.refl _ | _ + 3, h, _, _ => absurd h (by omega) | _, _, _ + 1, h => absurd h (by omega)⟩), hr 3 (Ri64 y127) (p := 3 = 3 ∧ ∀ i, i < 3 → ∀ j, j < 1 → TLe (rowOf [.v (.int .i64 (y127.getD 0 0)), .v (.int .i64 (y127.getD 1 0)), .v (.int .i64 (y127.getD 2 0))] 1 i j) (Ri64 y127 i j)) (⟨rfl, fun i hi j hj => match i, hi, j, hj with | 0, _, 0, _ => TLe.refl _ | 1, _, 0, _ => TLe.refl _ | 2, _, 0, _ => TLe.refl _ | _ + 3, h, _, _ => absurd h (by omega) | _, _, _ + 1, h => absurd h (by omega)⟩)] (by kernel_rfl) ?_
              obtain ⟨y130, y131, e132, h⟩ := bind2_some h
              refine AW.sg tt_okL10 [(60, vi64 y131), (59, .c (.ptr 23 1 0 0))] [23] [(23, .row 60 false 1 3 (Ri64 y130))] 26 [hn, hn, hn, hk (rl_ref23_Marginal_con (([p1, y72] : List (List Int)).getD (0 + x82.toNat) ([] : List Int)) (([p7, i64.wrap (1 + y15)] : List Int).getD (0 + x93.toNat) 0) (([p8, y119] : List Int).getD (0 + x123.toNat) 0) (y130, y131) e132), hn, hn, hn, hr 3 (Ri64 ([0, 0, 0] : List Int)) (p := 3 = 3 ∧ ∀ i, i < 3 → ∀ j, j < 1 → TLe (rowOf [.v (.int .i64 0), .v (.int .i64 0), .v (.int .i64 0)] 1 i j) (Ri64 ([0, 0, 0] : List Int) i j)) (⟨rfl, fun i hi j hj => match i, hi, j, hj with | 0, _, 0, _ => TLe.refl _ | 1, _, 0, _ => TLe.refl _ | 2, _, 0, _ => TLe.refl _ | _ + 3, h, _, _ => absurd h (by omega) | _, _, _ + 1, h => absurd h (by omega)⟩), hr 3 (Ri64 y130) (p := 3 = 3 ∧ ∀ i, i < 3 → ∀ j, j < 1 → TLe (rowOf [.v (.int .i64 (y130.getD 0 0)), .v (.int .i64 (y130.getD 1 0)), .v (.int .i64 (y130.getD 2 0))] 1 i j) (Ri64 y130 i j)) (⟨rfl, fun i hi j hj => match i, hi, j, hj with | 0, _, 0, _ => TLe.refl _ | 1, _, 0, _ => TLe.refl _ | 2, _, 0, _ => TLe.refl _ | _ + 3, h, _, _ => absurd h (by omega) | _, _, _ + 1, h => absurd h (by omega)⟩)] (by kernel_rfl) ?_
              refine AW.seq ?_
              refine AW.join (ι := Bool) (fun v => ⟨[(2, vl 1 Ri64 p2), (7, vi64 p7), (8, vi64 p8), (21, .c (.ptr 0 3 0 0)), (22, vi64 (i64.wrap (1 + y15))), (44, vl 1 Ri64 y75), (46, vl 1 Ri64 (([p1, y72] : List (List Int)).getD (0 + x82.toNat) ([] : List Int))), (48, vi64 (([p7, i64.wrap (1 + y15)] : List Int).getD (0 + x93.toNat) 0)), (229, .c (.ref 1 1 0 (([p1, y72] : List (List Int)).length))), (230, vi64 ((([p1, y72] : List (List Int)).length : Nat) : Int)), (231, vi64 x82), (237, .c (.ref 2 1 0 (([p7, i64.wrap (1 + y15)] : List Int).length))), (238, vi64 ((([p7, i64.wrap (1 + y15)] : List Int).length : Nat) : Int)), (239, vi64 x93), (278, .c (.ref 3 1 0 (([p8, y119] : List Int).length))), (279, vi64 ((([p8, y119] : List Int).length : Nat) : Int)), (280, vi64 x123), (305, vb v)], [(0, .box 86 [cl 1 Ri64 y120.list, ci64 y120.at_, cu64 y120.state]), (1, .row 22 false 1 ([p1, y72] : List (List Int)).length (Rli64 ([p1, y72] : List (List Int)))), (2, .row 3 false 1 ([p7, i64.wrap (1 + y15)] : List Int).length (Ri64 ([p7, i64.wrap (1 + y15)] : List Int))), (3, .row 3 false 1 ([p8, y119] : List Int).length (Ri64 ([p8, y119] : List Int)))], 4⟩) (fun v : Bool => rl_law23_PatternExact_k14 x123 v = some o) (fun x133 h => ?_) ?_
              ·
               unfold rl_law23_PatternExact_k14 at h
               refine AW.tn ?_
               refine AW.co h (by kernel_rfl) (fun c134 h => ?_) (fun c134 h => ?_)
               ·
                refine AW.sg tt_okL10 [(18, vb false)] [] [] 5 [] (by kernel_rfl) ?_
                refine AW.ret (AW.inBlock_ret (AW.tr ?_))
                exact lpo h rfl (conv_re [] (by kernel_rfl))
               ·
                refine AW.skip (AW.inBlock_normal (AW.tn ?_))
                refine AW.rg tt_okL10 [(280, vi64 (i64.wrap (x123 + 1)))] [] [] 6 [] (by kernel_rfl) ?_
                exact lpn h (conv_re [(0, 0), (1, 1), (2, 2), (3, 3)] (by kernel_rfl))
              ·
               rcases ifs h with ⟨c135, h⟩ | ⟨c135, h⟩
               ·
                refine AW.rg tt_okL10 [(305, vb true)] [] [] 34 [ho (p := 0 + 2 < 3) (by decide), ho (p := 0 + 2 < 3) (by decide), ht c135] (by kernel_rfl) ?_
                exact jl true h (conv_re [(0, 0), (1, 1), (2, 2), (3, 3)] (by kernel_rfl))
               ·
                refine AW.rg tt_okL10 [(305, vb (y128 != y131))] [] [] 34 [ho (p := 0 + 2 < 3) (by decide), ho (p := 0 + 2 < 3) (by decide), hf c135] (by kernel_rfl) ?_
                exact jl (y128 != y131) h (conv_re [(0, 0), (1, 1), (2, 2), (3, 3)] (by kernel_rfl))
             ·
              refine AW.exit (AW.thenQ_exit ?_)
              exact lpo h rfl (conv_re [(0, 0), (1, 1), (2, 2)] (by kernel_rfl))
            ·
             replace h : rl_law23_PatternExact_a15 p1 p7 y15 y72 x82 x93 y120 = some o := h
             unfold rl_law23_PatternExact_a15 at h
             show (_ : Exit → St → Prop) (.exit 12) _
             refine AW.inBlock_hit (AW.tn ?_)
             obtain ⟨y136, e137, h⟩ := bnd_some h
             obtain ⟨y138, e139, h⟩ := bnd_some h
             refine AW.sg tt_okL10 [(313, vb (y136 != y138))] [] [] 8 [hn, hn, hk (pattern_Check_con (([p1, y72] : List (List Int)).getD (0 + x82.toNat) ([] : List Int)) (([p7, i64.wrap (1 + y15)] : List Int).getD (0 + x93.toNat) 0) y136 e137), hn, hn, hk (rl_ref23_Check_con (([p1, y72] : List (List Int)).getD (0 + x82.toNat) ([] : List Int)) (([p7, i64.wrap (1 + y15)] : List Int).getD (0 + x93.toNat) 0) y138 e139)] (by kernel_rfl) ?_
             refine AW.co h (by kernel_rfl) (fun c140 h => ?_) (fun c140 h => ?_)
             ·
              refine AW.sg tt_okL10 [(18, vb false)] [] [] 9 [] (by kernel_rfl) ?_
              refine AW.ret (AW.inBlock_ret (AW.tr ?_))
              exact lpo h rfl (conv_re [] (by kernel_rfl))
             ·
              refine AW.skip (AW.inBlock_normal (AW.tn ?_))
              refine AW.rg tt_okL10 [(239, vi64 (i64.wrap (x93 + 1)))] [] [] 10 [] (by kernel_rfl) ?_
              exact lpn h (conv_re [(0, 0), (1, 1), (2, 2)] (by kernel_rfl))
            ·
             replace h : rl_law23_PatternExact_a16 = some o := h
             unfold rl_law23_PatternExact_a16 at h
             show (_ : Exit → St → Prop) (.ret) _
             refine AW.inBlock_ret (AW.tr ?_)
             refine AW.inBlock_ret (AW.tr ?_)
             exact lpo h rfl (conv_re [] (by kernel_rfl))
           ·
            replace h : rl_law23_PatternExact_a18 = some o := h
            unfold rl_law23_PatternExact_a18 at h
            show (_ : Exit → St → Prop) (.ret) _
            refine AW.inBlock_ret (AW.tr ?_)
            refine AW.inBlock_ret (AW.tr ?_)
            exact lpo h rfl (conv_re [] (by kernel_rfl))
          ·
           refine AW.exit (AW.thenQ_exit ?_)
           exact lpo h rfl (conv_re [(0, 0), (1, 1)] (by kernel_rfl))
         ·
          obtain ⟨x143, x144, x145⟩ := t
          replace h : rl_law23_PatternExact_a19 p1 y72 x82 x143 x144 x145 = some o := h
          unfold rl_law23_PatternExact_a19 at h
          show (_ : Exit → St → Prop) (.exit 8) _
          refine AW.inBlock_hit (AW.tn ?_)
          obtain ⟨y146, e147, h⟩ := bnd_some h
          obtain ⟨y148, e149, h⟩ := bnd_some h
          refine AW.sg tt_okL10 [(319, vb (y146 != y148))] [] [] 5 [hn, hk (pattern_Total_con (([p1, y72] : List (List Int)).getD (0 + x82.toNat) ([] : List Int)) y146 e147), hn, hk (rl_ref23_Total_con (([p1, y72] : List (List Int)).getD (0 + x82.toNat) ([] : List Int)) y148 e149)] (by kernel_rfl) ?_
          refine AW.co h (by kernel_rfl) (fun c150 h => ?_) (fun c150 h => ?_)
          ·
           refine AW.sg tt_okL10 [(18, vb false)] [] [] 6 [] (by kernel_rfl) ?_
           refine AW.ret (AW.inBlock_ret (AW.tr ?_))
           exact lpo h rfl (conv_re [] (by kernel_rfl))
          ·
           refine AW.skip (AW.inBlock_normal (AW.tn ?_))
           refine AW.rg tt_okL10 [(231, vi64 (i64.wrap (x82 + 1)))] [] [] 7 [] (by kernel_rfl) ?_
           exact lpn h (conv_re [(0, 0), (1, 1)] (by kernel_rfl))
         ·
          replace h : rl_law23_PatternExact_a20 = some o := h
          unfold rl_law23_PatternExact_a20 at h
          show (_ : Exit → St → Prop) (.ret) _
          refine AW.inBlock_ret (AW.tr ?_)
          refine AW.inBlock_ret (AW.tr ?_)
          exact lpo h rfl (conv_re [] (by kernel_rfl))
        ·
         refine AW.exit (AW.thenQ_exit ?_)
         exact lpo h rfl (conv_re [] (by kernel_rfl))
       ·
        replace h : rl_law23_PatternExact_a21 = some r := h
        unfold rl_law23_PatternExact_a21 at h
        show (_ : Exit → St → Prop) (.exit 6) _
        refine AW.inBlock_hit (AW.tn ?_)
        refine AW.sg tt_okL10 [(18, vb true)] [] [] 1 [] (by kernel_rfl) ?_
        refine AW.ret ?_
        obtain rfl := some_inj h
        exact fn0 (.inr rfl) [] 0 (vb true) (by kernel_rfl)
       ·
        replace h : rl_law23_PatternExact_a22 = some r := h
        unfold rl_law23_PatternExact_a22 at h
        show (_ : Exit → St → Prop) (.ret) _
        refine AW.inBlock_ret (AW.tr ?_)
        obtain rfl := some_inj h
        exact fn0 (.inr rfl) [] 0 (vb false) (by kernel_rfl)
     ·
      rcases ifs h with ⟨c153, h⟩ | ⟨c153, h⟩
      ·
       refine AW.rg tt_okL10 [(220, vb true)] [] [] 21 [hn, hn, ht c153] (by kernel_rfl) ?_
       exact jl true h (conv_re [(0, 0)] (by kernel_rfl))
      ·
       refine AW.rg tt_okL10 [(220, vb (y65 != y68))] [] [] 21 [hn, hn, hf c153] (by kernel_rfl) ?_
       exact jl (y65 != y68) h (conv_re [(0, 0)] (by kernel_rfl))
    ·
     replace h : rl_law23_PatternExact_a24 = some r := h
     unfold rl_law23_PatternExact_a24 at h
     show (_ : Exit → St → Prop) (.ret) _
     refine AW.inBlock_ret (AW.tr ?_)
     obtain rfl := some_inj h
     exact fn0 (.inr rfl) [] 0 (vb false) (by kernel_rfl)
   ·
    replace h : rl_law23_PatternExact_a26 = some r := h
    unfold rl_law23_PatternExact_a26 at h
    show (_ : Exit → St → Prop) (.ret) _
    refine AW.inBlock_ret (AW.tr ?_)
    obtain rfl := some_inj h
    exact fn0 (.inr rfl) [] 0 (vb true) (by kernel_rfl)
 ·
  obtain ⟨y156, e157, h⟩ := bnd_some h
  rcases ifs h with ⟨c158, h⟩ | ⟨c158, h⟩
  ·
   refine AW.rg tt_okL10 [(97, vb true)] [] [] 37 [hk (rl_law23_awake_con y156 e157), ht c158] (by kernel_rfl) ?_
   exact jl true h (conv_re [] (by kernel_rfl))
  ·
   obtain ⟨y159, e160, h⟩ := bnd_some h
   rcases ifs h with ⟨c161, h⟩ | ⟨c161, h⟩
   ·
    refine AW.rg tt_okL10 [(97, vb true)] [] [] 36 [hk (rl_law23_awake_con y156 e157), hf c158, hn, hn, hk (rl_make_Few_con p0 y159 e160), ht c161] (by kernel_rfl) ?_
    exact jl true h (conv_re [] (by kernel_rfl))
   ·
    rcases ifs h with ⟨c162, h⟩ | ⟨c162, h⟩
    ·
     refine AW.rg tt_okL10 [(97, vb true)] [] [] 36 [hk (rl_law23_awake_con y156 e157), hf c158, hn, hn, hk (rl_make_Few_con p0 y159 e160), hf c161, hn, hn, hn, hn, ht c162] (by kernel_rfl) ?_
     exact jl true h (conv_re [] (by kernel_rfl))
    ·
     rcases ifs h with ⟨c163, h⟩ | ⟨c163, h⟩
     ·
      refine AW.rg tt_okL10 [(97, vb true)] [] [] 36 [hk (rl_law23_awake_con y156 e157), hf c158, hn, hn, hk (rl_make_Few_con p0 y159 e160), hf c161, hn, hn, hn, hn, hf c162, hn, hn, hn, hn, ht c163] (by kernel_rfl) ?_
      exact jl true h (conv_re [] (by kernel_rfl))
     ·
      rcases ifs h with ⟨c164, h⟩ | ⟨c164, h⟩
      ·
       refine AW.rg tt_okL10 [(97, vb true)] [] [] 36 [hk (rl_law23_awake_con y156 e157), hf c158, hn, hn, hk (rl_make_Few_con p0 y159 e160), hf c161, hn, hn, hn, hn, hf c162, hn, hn, hn, hn, hf c163, hn, hn, hn, hn, ht c164] (by kernel_rfl) ?_
       exact jl true h (conv_re [] (by kernel_rfl))
      ·
       rcases ifs h with ⟨c165, h⟩ | ⟨c165, h⟩
       ·
        refine AW.rg tt_okL10 [(97, vb true)] [] [] 36 [hk (rl_law23_awake_con y156 e157), hf c158, hn, hn, hk (rl_make_Few_con p0 y159 e160), hf c161, hn, hn, hn, hn, hf c162, hn, hn, hn, hn, hf c163, hn, hn, hn, hn, hf c164, hn, hn, hn, hn, ht c165] (by kernel_rfl) ?_
        exact jl true h (conv_re [] (by kernel_rfl))
       ·
        rcases ifs h with ⟨c166, h⟩ | ⟨c166, h⟩
        ·
         refine AW.rg tt_okL10 [(97, vb true)] [] [] 36 [hk (rl_law23_awake_con y156 e157), hf c158, hn, hn, hk (rl_make_Few_con p0 y159 e160), hf c161, hn, hn, hn, hn, hf c162, hn, hn, hn, hn, hf c163, hn, hn, hn, hn, hf c164, hn, hn, hn, hn, hf c165, hn, hn, hn, hn, ht c166] (by kernel_rfl) ?_
         exact jl true h (conv_re [] (by kernel_rfl))
        ·
         refine AW.rg tt_okL10 [(97, vb (decide ((p6.length : Int) > 20)))] [] [] 36 [hk (rl_law23_awake_con y156 e157), hf c158, hn, hn, hk (rl_make_Few_con p0 y159 e160), hf c161, hn, hn, hn, hn, hf c162, hn, hn, hn, hn, hf c163, hn, hn, hn, hn, hf c164, hn, hn, hn, hn, hf c165, hn, hn, hn, hn, hf c166] (by kernel_rfl) ?_
         exact jl (decide ((p6.length : Int) > 20)) h (conv_re [] (by kernel_rfl))
end Go.Proofs.Ytknlckjpgmjenaa
