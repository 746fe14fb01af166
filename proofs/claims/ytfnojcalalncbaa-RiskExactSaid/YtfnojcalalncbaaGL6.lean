/- Printed by a program of mine (vmgen.py): Go functions, and what they come to. -/
import Derived.Test.YtfnojcalalncbaaVr
import Derived.Test.YtfnojcalalncbaaRows
import Derived.Test.YtfnojcalalncbaaVw
import Derived.Test.YtfnojcalalncbaaG0
namespace Go.Proofs.Ytfnojcalalncbaa
open Vm
open IntKind (i64 u64 u32 u8)
set_option maxHeartbeats 10000000
set_option linter.unusedVariables false
set_option linter.unusedSimpArgs false
set_option linter.constructorNameAsVariable false
def ttlL6 : List (Nat × TI) := [(3, ⟨.int .i64, 1, 8, [.int .i64 0], false⟩), (4, ⟨.bool, 1, 1, [.bool false], false⟩), (22, ⟨.slice 3, 1, 24, [.slice none 0 0], false⟩), (25, ⟨.ptr 66, 1, 8, [.pointer none], false⟩), (28, ⟨.struct [(3, 0), (3, 1), (3, 2)], 3, 24, [.int .i64 0, .int .i64 0, .int .i64 0], true⟩), (29, ⟨.slice 28, 1, 24, [.slice none 0 0], false⟩), (32, ⟨.int .i64, 1, 8, [.int .i64 0], false⟩), (37, ⟨.slice 22, 1, 24, [.slice none 0 0], false⟩), (40, ⟨.arr 4 3, 4, 32, [.int .i64 0, .int .i64 0, .int .i64 0, .int .i64 0], true⟩), (41, ⟨.slice 40, 1, 24, [.slice none 0 0], false⟩), (43, ⟨.int .u64, 1, 8, [.int .u64 0], false⟩), (49, ⟨.slice 43, 1, 24, [.slice none 0 0], false⟩), (51, ⟨.struct [(3, 0), (49, 1)], 2, 32, [.int .i64 0, .slice none 0 0], false⟩), (66, ⟨.struct [(22, 0), (3, 1), (43, 2)], 3, 40, [.slice none 0 0, .int .i64 0, .int .u64 0], false⟩)]
theorem tt_okL6 : TTok Try.prog (Vm.look ttlL6) := ttok_of ⟨⟨by kernel_rfl, by kernel_rfl, by kernel_rfl⟩, ⟨by kernel_rfl, by kernel_rfl, by kernel_rfl⟩, ⟨by kernel_rfl, by kernel_rfl, by kernel_rfl⟩, ⟨by kernel_rfl, by kernel_rfl, by kernel_rfl⟩, ⟨by kernel_rfl, by kernel_rfl, by kernel_rfl⟩, ⟨by kernel_rfl, by kernel_rfl, by kernel_rfl⟩, ⟨by kernel_rfl, by kernel_rfl, by kernel_rfl⟩, ⟨by kernel_rfl, by kernel_rfl, by kernel_rfl⟩, ⟨by kernel_rfl, by kernel_rfl, by kernel_rfl⟩, ⟨by kernel_rfl, by kernel_rfl, by kernel_rfl⟩, ⟨by kernel_rfl, by kernel_rfl, by kernel_rfl⟩, ⟨by kernel_rfl, by kernel_rfl, by kernel_rfl⟩, ⟨by kernel_rfl, by kernel_rfl, by kernel_rfl⟩, ⟨by kernel_rfl, by kernel_rfl, by kernel_rfl⟩, trivial⟩
theorem moL6 : Try.prog.follows .mixedOrders = true := by kernel_rfl
/-! recordlink/recordlinklaw15.RiskExact -/
noncomputable def rl_law15_RiskExact_k4 (x29 : Int) (x51 : Bool) : Option (Int ⊕ (Unit ⊕ Unit)) := if x51 = true then (some (.inr (.inr ()))) else (some (.inl (i64.wrap (x29 + 1))))
noncomputable def rl_law15_RiskExact_l3 (p1 : S_api_Parameters) (p2 : Int) (y7 : List S_api_Parameters) (x15 : Int) (y25 : Int) (x29 : Int) : Option (Int ⊕ (Unit ⊕ Unit)) := if (decide (x29 < ((([p2, y25, 80, 81] : List Int).length : Nat) : Int))) = true then (if 0 ≤ x29 then (if x29 < ((([p2, y25, 80, 81] : List Int).length : Nat) : Int) then (bind2 (risk_Empty (([p1, (y7.getD (0 + 0) dS_api_Parameters), (⟨512, 16, (-1)⟩ : S_api_Parameters)] : List S_api_Parameters).getD (0 + x15.toNat) dS_api_Parameters) (([p2, y25, 80, 81] : List Int).getD (0 + x29.toNat) 0)) fun y33 y34 => (bind2 (rl_ref15_Empty (([p1, (y7.getD (0 + 0) dS_api_Parameters), (⟨512, 16, (-1)⟩ : S_api_Parameters)] : List S_api_Parameters).getD (0 + x15.toNat) dS_api_Parameters) (([p2, y25, 80, 81] : List Int).getD (0 + x29.toNat) 0)) fun y36 y37 => (bind2 (risk_Fill (([p1, (y7.getD (0 + 0) dS_api_Parameters), (⟨512, 16, (-1)⟩ : S_api_Parameters)] : List S_api_Parameters).getD (0 + x15.toNat) dS_api_Parameters) (([p2, y25, 80, 81] : List Int).getD (0 + x29.toNat) 0)) fun y39 y40 => (bind2 (rl_ref15_Fill (([p1, (y7.getD (0 + 0) dS_api_Parameters), (⟨512, 16, (-1)⟩ : S_api_Parameters)] : List S_api_Parameters).getD (0 + x15.toNat) dS_api_Parameters) (([p2, y25, 80, 81] : List Int).getD (0 + x29.toNat) 0)) fun y42 y43 => (bind2 (risk_Collision (([p1, (y7.getD (0 + 0) dS_api_Parameters), (⟨512, 16, (-1)⟩ : S_api_Parameters)] : List S_api_Parameters).getD (0 + x15.toNat) dS_api_Parameters) (([p2, y25, 80, 81] : List Int).getD (0 + x29.toNat) 0)) fun y45 y46 => (bind2 (rl_ref15_Collision (([p1, (y7.getD (0 + 0) dS_api_Parameters), (⟨512, 16, (-1)⟩ : S_api_Parameters)] : List S_api_Parameters).getD (0 + x15.toNat) dS_api_Parameters) (([p2, y25, 80, 81] : List Int).getD (0 + x29.toNat) 0)) fun y48 y49 => (if (y33 != y36) = true then (rl_law15_RiskExact_k4 x29 true) else (if (y34 != y37) = true then (rl_law15_RiskExact_k4 x29 true) else (if (y39 != y42) = true then (rl_law15_RiskExact_k4 x29 true) else (if (y40 != y43) = true then (rl_law15_RiskExact_k4 x29 true) else (if (y45 != y48) = true then (rl_law15_RiskExact_k4 x29 true) else (rl_law15_RiskExact_k4 x29 (y46 != y49))))))))))))) else none) else none) else (some (.inr (.inl ())))
noncomputable def rl_law15_RiskExact_a5 (x15 : Int) (y26 : S_recordlinkmake_Deck) : Option ((Int × (List Int) × Int × Int) ⊕ (((List Int) × Int × Int) ⊕ Unit)) := some (.inl (i64.wrap (x15 + 1), y26.list, y26.at_, y26.state))
noncomputable def rl_law15_RiskExact_a6 : Option ((Int × (List Int) × Int × Int) ⊕ (((List Int) × Int × Int) ⊕ Unit)) := some (.inr (.inr ()))
noncomputable def rl_law15_RiskExact_l2 (p1 : S_api_Parameters) (p2 : Int) (y7 : List S_api_Parameters) (x15 : Int) (x16 : List Int) (x17 : Int) (x18 : Int) : Option ((Int × (List Int) × Int × Int) ⊕ (((List Int) × Int × Int) ⊕ Unit)) := if (decide (x15 < ((([p1, (y7.getD (0 + 0) dS_api_Parameters), (⟨512, 16, (-1)⟩ : S_api_Parameters)] : List S_api_Parameters).length : Nat) : Int))) = true then (if 0 ≤ x15 then (if x15 < ((([p1, (y7.getD (0 + 0) dS_api_Parameters), (⟨512, 16, (-1)⟩ : S_api_Parameters)] : List S_api_Parameters).length : Nat) : Int) then (bind2 (rl_make_Deck_Next (⟨x16, x17, x18⟩ : S_recordlinkmake_Deck) 30) fun y25 y26 => (bindE (loop (fun v : Int => rl_law15_RiskExact_l3 p1 p2 y7 x15 y25 v) 0) (fun t => rl_law15_RiskExact_a5 x15 y26) (fun t => rl_law15_RiskExact_a6))) else none) else none) else (some (.inr (.inl (x16, x17, x18))))
noncomputable def rl_law15_RiskExact_k8 (x75 : Int) (x87 : Bool) : Option (Int ⊕ (Unit ⊕ Unit)) := if x87 = true then (some (.inr (.inr ()))) else (some (.inl (i64.wrap (x75 + 1))))
noncomputable def rl_law15_RiskExact_l7 (p3 : List Int) (y62 : Int) (y65 : Int) (y68 : Int) (y71 : Int) (x75 : Int) : Option (Int ⊕ (Unit ⊕ Unit)) := if (decide (x75 < ((([p3, ([y62, y65, y68, y71] : List Int)] : List (List Int)).length : Nat) : Int))) = true then (if 0 ≤ x75 then (if x75 < ((([p3, ([y62, y65, y68, y71] : List Int)] : List (List Int)).length : Nat) : Int) then (bind3 (risk_Unique (([p3, ([y62, y65, y68, y71] : List Int)] : List (List Int)).getD (0 + x75.toNat) ([] : List Int))) fun y79 y80 y81 => (bind3 (rl_ref15_Unique (([p3, ([y62, y65, y68, y71] : List Int)] : List (List Int)).getD (0 + x75.toNat) ([] : List Int))) fun y83 y84 y85 => (if (y79 != y83) = true then (rl_law15_RiskExact_k8 x75 true) else (if (y80 != y84) = true then (rl_law15_RiskExact_k8 x75 true) else (rl_law15_RiskExact_k8 x75 (y81 != y85)))))) else none) else none) else (some (.inr (.inl ())))
noncomputable def rl_law15_RiskExact_k10 (x104 : Int) (x114 : Bool) : Option (Int ⊕ (Unit ⊕ Unit)) := if x114 = true then (some (.inr (.inr ()))) else (some (.inl (i64.wrap (x104 + 1))))
noncomputable def rl_law15_RiskExact_l9 (p2 : Int) (p4 : Int) (p5 : Int) (p6 : Int) (y91 : Int) (y94 : Int) (y97 : Int) (y100 : Int) (x104 : Int) : Option (Int ⊕ (Unit ⊕ Unit)) := if (decide (x104 < ((([[p2, p4, p5, p6], [y94, y91, i64.wrap (y91 + y97), y100], [5, 0, 1000, 1000000]] : List (List Int)).length : Nat) : Int))) = true then (if 0 ≤ x104 then (if x104 < ((([[p2, p4, p5, p6], [y94, y91, i64.wrap (y91 + y97), y100], [5, 0, 1000, 1000000]] : List (List Int)).length : Nat) : Int) then (bind2 (risk_Choose ((([[p2, p4, p5, p6], [y94, y91, i64.wrap (y91 + y97), y100], [5, 0, 1000, 1000000]] : List (List Int)).getD (0 + x104.toNat) (List.replicate 4 (0 : Int))).getD 0 0) ((([[p2, p4, p5, p6], [y94, y91, i64.wrap (y91 + y97), y100], [5, 0, 1000, 1000000]] : List (List Int)).getD (0 + x104.toNat) (List.replicate 4 (0 : Int))).getD 1 0) ((([[p2, p4, p5, p6], [y94, y91, i64.wrap (y91 + y97), y100], [5, 0, 1000, 1000000]] : List (List Int)).getD (0 + x104.toNat) (List.replicate 4 (0 : Int))).getD 2 0) ((([[p2, p4, p5, p6], [y94, y91, i64.wrap (y91 + y97), y100], [5, 0, 1000, 1000000]] : List (List Int)).getD (0 + x104.toNat) (List.replicate 4 (0 : Int))).getD 3 0)) fun y108 y109 => (bind2 (rl_ref15_Choose ((([[p2, p4, p5, p6], [y94, y91, i64.wrap (y91 + y97), y100], [5, 0, 1000, 1000000]] : List (List Int)).getD (0 + x104.toNat) (List.replicate 4 (0 : Int))).getD 0 0) ((([[p2, p4, p5, p6], [y94, y91, i64.wrap (y91 + y97), y100], [5, 0, 1000, 1000000]] : List (List Int)).getD (0 + x104.toNat) (List.replicate 4 (0 : Int))).getD 1 0) ((([[p2, p4, p5, p6], [y94, y91, i64.wrap (y91 + y97), y100], [5, 0, 1000, 1000000]] : List (List Int)).getD (0 + x104.toNat) (List.replicate 4 (0 : Int))).getD 2 0) ((([[p2, p4, p5, p6], [y94, y91, i64.wrap (y91 + y97), y100], [5, 0, 1000, 1000000]] : List (List Int)).getD (0 + x104.toNat) (List.replicate 4 (0 : Int))).getD 3 0)) fun y111 y112 => (if (!((y108.Length == y111.Length) && ((y108.Hashes == y111.Hashes) && ((y108.Salt == y111.Salt) && true)))) = true then (rl_law15_RiskExact_k10 x104 true) else (rl_law15_RiskExact_k10 x104 (y109 != y112))))) else none) else none) else (some (.inr (.inl ())))
noncomputable def rl_law15_RiskExact_a11 : Option Bool := some true
noncomputable def rl_law15_RiskExact_a12 : Option Bool := some false
noncomputable def rl_law15_RiskExact_a13 (p2 : Int) (p4 : Int) (p5 : Int) (p6 : Int) (y72 : S_recordlinkmake_Deck) : Option Bool := bind2 (rl_make_Deck_Next y72 900) fun y91 y92 => (bind2 (rl_make_Deck_Next y92 20) fun y94 y95 => (bind2 (rl_make_Deck_Next y95 200) fun y97 y98 => (bind2 (rl_make_Deck_Next y98 1000001) fun y100 y101 => (bindE (loop (fun v : Int => rl_law15_RiskExact_l9 p2 p4 p5 p6 y91 y94 y97 y100 v) 0) (fun t => rl_law15_RiskExact_a11) (fun t => rl_law15_RiskExact_a12)))))
noncomputable def rl_law15_RiskExact_a14 : Option Bool := some false
noncomputable def rl_law15_RiskExact_a15 (p2 : Int) (p3 : List Int) (p4 : Int) (p5 : Int) (p6 : Int) (x59 : List Int) (x60 : Int) (x61 : Int) : Option Bool := bind2 (rl_make_Deck_Next (⟨x59, x60, x61⟩ : S_recordlinkmake_Deck) 4) fun y62 y63 => (bind2 (rl_make_Deck_Next y63 4) fun y65 y66 => (bind2 (rl_make_Deck_Next y66 4) fun y68 y69 => (bind2 (rl_make_Deck_Next y69 9) fun y71 y72 => (bindE (loop (fun v : Int => rl_law15_RiskExact_l7 p3 y62 y65 y68 y71 v) 0) (fun t => rl_law15_RiskExact_a13 p2 p4 p5 p6 y72) (fun t => rl_law15_RiskExact_a14)))))
noncomputable def rl_law15_RiskExact_a16 : Option Bool := some false
noncomputable def rl_law15_RiskExact_k1 (p0 : List Int) (p1 : S_api_Parameters) (p2 : Int) (p3 : List Int) (p4 : Int) (p5 : Int) (p6 : Int) (x1 : Bool) : Option Bool := if x1 = true then ((rl_law15_awake).bind fun y3 => (some y3)) else ((rl_make_New p0).bind fun y5 => (bind2 (rl_make_Deck_Parameters y5 1) fun y7 y8 => (if (0 : Int) < (y7.length : Int) then (bindE (loop (fun v : Int × (List Int) × Int × Int => rl_law15_RiskExact_l2 p1 p2 y7 v.1 v.2.1 v.2.2.1 v.2.2.2) (0, y8.list, y8.at_, y8.state)) (fun t => rl_law15_RiskExact_a15 p2 p3 p4 p5 p6 t.1 t.2.1 t.2.2) (fun t => rl_law15_RiskExact_a16)) else none)))
noncomputable def rl_law15_RiskExact (p0 : List Int) (p1 : S_api_Parameters) (p2 : Int) (p3 : List Int) (p4 : Int) (p5 : Int) (p6 : Int) : Option Bool := (rl_law15_awake).bind fun y120 => (if (!y120) = true then (rl_law15_RiskExact_k1 p0 p1 p2 p3 p4 p5 p6 true) else ((rl_make_Few p0).bind fun y123 => (if (!y123) = true then (rl_law15_RiskExact_k1 p0 p1 p2 p3 p4 p5 p6 true) else (rl_law15_RiskExact_k1 p0 p1 p2 p3 p4 p5 p6 (decide ((p3.length : Int) > 80))))))
set_option maxRecDepth 100000 in
theorem rl_law15_RiskExact_con (p0 : List Int) (p1 : S_api_Parameters) (p2 : Int) (p3 : List Int) (p4 : Int) (p5 : Int) (p6 : Int) (r : Bool) (h : rl_law15_RiskExact p0 p1 p2 p3 p4 p5 p6 = some r) : Con Try.prog 6 [vl 1 Ri64 p0, .agg [ci64 p1.Length, ci64 p1.Hashes, ci64 p1.Salt], vi64 p2, vl 1 Ri64 p3, vi64 p4, vi64 p5, vi64 p6] [] (vb r) [] := by
 refine con_of tt_okL6 0 Try.func6 (by kernel_rfl) rfl (by kernel_rfl) (fun base X _ => AW.post ?_)
 unfold rl_law15_RiskExact at h
 refine AW.sg tt_okL6 [(8, .c (.ptr 0 3 0 0))] [0] [(0, .box 28 [ci64 p1.Length, ci64 p1.Hashes, ci64 p1.Salt])] 2 [] (by kernel_rfl) ?_
 refine AW.seq (AW.seq ?_)
 refine AW.join (ι := Bool) (fun v => ⟨[(0, vl 1 Ri64 p0), (2, vi64 p2), (3, vl 1 Ri64 p3), (4, vi64 p4), (5, vi64 p5), (6, vi64 p6), (8, .c (.ptr 0 3 0 0)), (59, vb v)], [(0, .box 28 [ci64 p1.Length, ci64 p1.Hashes, ci64 p1.Salt])], 1⟩) (fun v : Bool => rl_law15_RiskExact_k1 p0 p1 p2 p3 p4 p5 p6 v = some r) (fun x1 h => ?_) ?_
 ·
  unfold rl_law15_RiskExact_k1 at h
  refine AW.tn ?_
  refine AW.co h (by kernel_rfl) (fun c2 h => ?_) (fun c2 h => ?_)
  ·
   obtain ⟨y3, e4, h⟩ := bnd_some h
   refine AW.sg tt_okL6 [(14, vb y3)] [] [] 2 [hk (rl_law15_awake_con y3 e4)] (by kernel_rfl) ?_
   refine AW.ret (AW.tr ?_)
   obtain rfl := some_inj h
   exact fn0 (.inr rfl) [] 0 (vb y3) (by kernel_rfl)
  ·
   refine AW.skip (AW.tn ?_)
   obtain ⟨y5, e6, h⟩ := bnd_some h
   refine AW.sg tt_okL6 [(15, .c (.ptr 2 3 0 0))] [2] [(2, .box 66 [cl 1 Ri64 y5.list, ci64 y5.at_, cu64 y5.state])] 4 [hn, hl [] [] 1 (rl_make_New_con p0 y5 e6)] (by kernel_rfl) ?_
   refine AW.seq ?_
   obtain ⟨y7, y8, e9, h⟩ := bind2_some h
   obtain ⟨g10, h⟩ := ifc h
   refine AW.sd tt_okL6 moL6 [[], [], [2, 6], [], [], [], [10]] [(71, vi64 0), (70, vi64 ((([p1, (y7.getD (0 + 0) dS_api_Parameters), (⟨512, 16, (-1)⟩ : S_api_Parameters)] : List S_api_Parameters).length : Nat) : Int)), (69, .c (.ref 10 3 0 (([p1, (y7.getD (0 + 0) dS_api_Parameters), (⟨512, 16, (-1)⟩ : S_api_Parameters)] : List S_api_Parameters).length)))] [(10, .row 28 false 3 ([p1, (y7.getD (0 + 0) dS_api_Parameters), (⟨512, 16, (-1)⟩ : S_api_Parameters)] : List S_api_Parameters).length (RS_api_Parameters ([p1, (y7.getD (0 + 0) dS_api_Parameters), (⟨512, 16, (-1)⟩ : S_api_Parameters)] : List S_api_Parameters))), (2, .box 66 [cl 1 Ri64 y8.list, ci64 y8.at_, cu64 y8.state])] 13 [hn, hn, hl [2] [] 1 (rl_make_Deck_Parameters_con y5 1 (y7, y8) e9), ho (p := (0 ≤ (0 : Int)) ∧ ((0 : Int) < (y7.length : Int))) (⟨(by decide), g10⟩), ho (p := (0 + 0) < y7.length) (by have h1 : 0 ≤ (0 : Int) := (by decide); have h2 : (0 : Int) < (y7.length : Int) := g10; omega), hn, hlit dS_api_Parameters ES_api_Parameters 3 (fun _ => rfl) ([p1, (y7.getD (0 + 0) dS_api_Parameters), (⟨512, 16, (-1)⟩ : S_api_Parameters)] : List S_api_Parameters)] (by kernel_rfl) ?_
   refine AW.block ?_
   refine AW.lpE h (fun v => ⟨[(2, vi64 p2), (3, vl 1 Ri64 p3), (4, vi64 p4), (5, vi64 p5), (6, vi64 p6), (15, .c (.ptr 0 3 0 0)), (69, .c (.ref 1 3 0 (([p1, (y7.getD (0 + 0) dS_api_Parameters), (⟨512, 16, (-1)⟩ : S_api_Parameters)] : List S_api_Parameters).length))), (70, vi64 ((([p1, (y7.getD (0 + 0) dS_api_Parameters), (⟨512, 16, (-1)⟩ : S_api_Parameters)] : List S_api_Parameters).length : Nat) : Int)), (71, vi64 v.1)], [(0, .box 66 [cl 1 Ri64 v.2.1, ci64 v.2.2.1, cu64 v.2.2.2]), (1, .row 28 false 3 ([p1, (y7.getD (0 + 0) dS_api_Parameters), (⟨512, 16, (-1)⟩ : S_api_Parameters)] : List S_api_Parameters).length (RS_api_Parameters ([p1, (y7.getD (0 + 0) dS_api_Parameters), (⟨512, 16, (-1)⟩ : S_api_Parameters)] : List S_api_Parameters)))], 2⟩) (fun t => (.exit 0, ⟨[(2, vi64 p2), (3, vl 1 Ri64 p3), (4, vi64 p4), (5, vi64 p5), (6, vi64 p6), (15, .c (.ptr 0 3 0 0))], [(0, .box 66 [cl 1 Ri64 t.1, ci64 t.2.1, cu64 t.2.2])], 1⟩)) (fun t => (.ret, ⟨[(14, vb false)], [], 0⟩)) (conv_re [(0, 2), (1, 10)] (by kernel_rfl)) (fun _ => tv) (fun _ => tv) ?_ (fun t h => ?_) (fun t h => ?_)
   ·
    clear h
    intro v o h
    obtain ⟨x15, x16, x17, x18⟩ := v
    replace h : rl_law15_RiskExact_l2 p1 p2 y7 x15 x16 x17 x18 = some o := h
    unfold rl_law15_RiskExact_l2 at h
    refine AW.sg tt_okL6 [(72, vb (decide (x15 < ((([p1, (y7.getD (0 + 0) dS_api_Parameters), (⟨512, 16, (-1)⟩ : S_api_Parameters)] : List S_api_Parameters).length : Nat) : Int))))] [] [] 3 [] (by kernel_rfl) ?_
    refine AW.seq ?_
    refine AW.co h (by kernel_rfl) (fun c22 h => ?_) (fun c22 h => ?_)
    ·
     refine AW.skip (AW.tn ?_)
     refine AW.seq (AW.block ?_)
     obtain ⟨g23, g24, h⟩ := ifd h
     refine AW.sg tt_okL6 [(17, .c (.ptr 5 3 0 0))] [5] [(5, .box 28 [ci64 ((([p1, (y7.getD (0 + 0) dS_api_Parameters), (⟨512, 16, (-1)⟩ : S_api_Parameters)] : List S_api_Parameters).getD (0 + x15.toNat) dS_api_Parameters).Length), ci64 ((([p1, (y7.getD (0 + 0) dS_api_Parameters), (⟨512, 16, (-1)⟩ : S_api_Parameters)] : List S_api_Parameters).getD (0 + x15.toNat) dS_api_Parameters).Hashes), ci64 ((([p1, (y7.getD (0 + 0) dS_api_Parameters), (⟨512, 16, (-1)⟩ : S_api_Parameters)] : List S_api_Parameters).getD (0 + x15.toNat) dS_api_Parameters).Salt)])] 7 [hq g23 g24, ho (p := (0 + x15.toNat) < ([p1, (y7.getD (0 + 0) dS_api_Parameters), (⟨512, 16, (-1)⟩ : S_api_Parameters)] : List S_api_Parameters).length) (by have h1 : 0 ≤ x15 := g23; have h2 : x15 < ((([p1, (y7.getD (0 + 0) dS_api_Parameters), (⟨512, 16, (-1)⟩ : S_api_Parameters)] : List S_api_Parameters).length : Nat) : Int) := g24; omega)] (by kernel_rfl) ?_
     obtain ⟨y25, y26, e27, h⟩ := bind2_some h
     refine AW.sg tt_okL6 [(80, vi64 0), (79, vi64 ((([p2, y25, 80, 81] : List Int).length : Nat) : Int)), (78, .c (.ref 9 1 0 (([p2, y25, 80, 81] : List Int).length)))] [0, 9] [(9, .row 3 false 1 ([p2, y25, 80, 81] : List Int).length (Ri64 ([p2, y25, 80, 81] : List Int))), (0, .box 66 [cl 1 Ri64 y26.list, ci64 y26.at_, cu64 y26.state])] 12 [hn, hn, hl [0] [] 0 (rl_make_Deck_Next_con (⟨x16, x17, x18⟩ : S_recordlinkmake_Deck) 30 (y25, y26) e27), hlit 0 Ei64 1 (fun _ => rfl) ([p2, y25, 80, 81] : List Int)] (by kernel_rfl) ?_
     refine AW.block ?_
     refine AW.lpE h (fun v => ⟨[(2, vi64 p2), (3, vl 1 Ri64 p3), (4, vi64 p4), (5, vi64 p5), (6, vi64 p6), (15, .c (.ptr 0 3 0 0)), (17, .c (.ptr 1 3 0 0)), (69, .c (.ref 2 3 0 (([p1, (y7.getD (0 + 0) dS_api_Parameters), (⟨512, 16, (-1)⟩ : S_api_Parameters)] : List S_api_Parameters).length))), (70, vi64 ((([p1, (y7.getD (0 + 0) dS_api_Parameters), (⟨512, 16, (-1)⟩ : S_api_Parameters)] : List S_api_Parameters).length : Nat) : Int)), (71, vi64 x15), (78, .c (.ref 3 1 0 (([p2, y25, 80, 81] : List Int).length))), (79, vi64 ((([p2, y25, 80, 81] : List Int).length : Nat) : Int)), (80, vi64 v)], [(0, .box 66 [cl 1 Ri64 y26.list, ci64 y26.at_, cu64 y26.state]), (1, .box 28 [ci64 ((([p1, (y7.getD (0 + 0) dS_api_Parameters), (⟨512, 16, (-1)⟩ : S_api_Parameters)] : List S_api_Parameters).getD (0 + x15.toNat) dS_api_Parameters).Length), ci64 ((([p1, (y7.getD (0 + 0) dS_api_Parameters), (⟨512, 16, (-1)⟩ : S_api_Parameters)] : List S_api_Parameters).getD (0 + x15.toNat) dS_api_Parameters).Hashes), ci64 ((([p1, (y7.getD (0 + 0) dS_api_Parameters), (⟨512, 16, (-1)⟩ : S_api_Parameters)] : List S_api_Parameters).getD (0 + x15.toNat) dS_api_Parameters).Salt)]), (2, .row 28 false 3 ([p1, (y7.getD (0 + 0) dS_api_Parameters), (⟨512, 16, (-1)⟩ : S_api_Parameters)] : List S_api_Parameters).length (RS_api_Parameters ([p1, (y7.getD (0 + 0) dS_api_Parameters), (⟨512, 16, (-1)⟩ : S_api_Parameters)] : List S_api_Parameters))), (3, .row 3 false 1 ([p2, y25, 80, 81] : List Int).length (Ri64 ([p2, y25, 80, 81] : List Int)))], 4⟩) (fun t => (.exit 2, ⟨[(2, vi64 p2), (3, vl 1 Ri64 p3), (4, vi64 p4), (5, vi64 p5), (6, vi64 p6), (15, .c (.ptr 0 3 0 0)), (69, .c (.ref 1 3 0 (([p1, (y7.getD (0 + 0) dS_api_Parameters), (⟨512, 16, (-1)⟩ : S_api_Parameters)] : List S_api_Parameters).length))), (70, vi64 ((([p1, (y7.getD (0 + 0) dS_api_Parameters), (⟨512, 16, (-1)⟩ : S_api_Parameters)] : List S_api_Parameters).length : Nat) : Int)), (71, vi64 x15)], [(0, .box 66 [cl 1 Ri64 y26.list, ci64 y26.at_, cu64 y26.state]), (1, .row 28 false 3 ([p1, (y7.getD (0 + 0) dS_api_Parameters), (⟨512, 16, (-1)⟩ : S_api_Parameters)] : List S_api_Parameters).length (RS_api_Parameters ([p1, (y7.getD (0 + 0) dS_api_Parameters), (⟨512, 16, (-1)⟩ : S_api_Parameters)] : List S_api_Parameters)))], 2⟩)) (fun t => (.ret, ⟨[(14, vb false)], [], 0⟩)) (conv_re [(0, 0), (1, 5), (2, 1), (3, 9)] (by kernel_rfl)) (fun _ => tv) (fun _ => tv) ?_ (fun t h => ?_) (fun t h => ?_)
     ·
      clear h
      intro x29 o h
      unfold rl_law15_RiskExact_l3 at h
      refine AW.sg tt_okL6 [(81, vb (decide (x29 < ((([p2, y25, 80, 81] : List Int).length : Nat) : Int))))] [] [] 5 [] (by kernel_rfl) ?_
      refine AW.seq ?_
      refine AW.co h (by kernel_rfl) (fun c30 h => ?_) (fun c30 h => ?_)
      ·
       refine AW.skip (AW.tn ?_)
       refine AW.seq (AW.block ?_)
       obtain ⟨g31, g32, h⟩ := ifd h
       refine AW.sg tt_okL6 [(19, vi64 (([p2, y25, 80, 81] : List Int).getD (0 + x29.toNat) 0))] [] [] 8 [hq g31 g32, ho (p := (0 + x29.toNat) < ([p2, y25, 80, 81] : List Int).length) (by have h1 : 0 ≤ x29 := g31; have h2 : x29 < ((([p2, y25, 80, 81] : List Int).length : Nat) : Int) := g32; omega)] (by kernel_rfl) ?_
       obtain ⟨y33, y34, e35, h⟩ := bind2_some h
       refine AW.sg tt_okL6 [(21, vi64 y34), (20, vi64 y33)] [] [] 15 [hn, hn, hk (risk_Empty_con (([p1, (y7.getD (0 + 0) dS_api_Parameters), (⟨512, 16, (-1)⟩ : S_api_Parameters)] : List S_api_Parameters).getD (0 + x15.toNat) dS_api_Parameters) (([p2, y25, 80, 81] : List Int).getD (0 + x29.toNat) 0) (y33, y34) e35)] (by kernel_rfl) ?_
       obtain ⟨y36, y37, e38, h⟩ := bind2_some h
       refine AW.sg tt_okL6 [(23, vi64 y37), (22, vi64 y36)] [] [] 22 [hn, hn, hk (rl_ref15_Empty_con (([p1, (y7.getD (0 + 0) dS_api_Parameters), (⟨512, 16, (-1)⟩ : S_api_Parameters)] : List S_api_Parameters).getD (0 + x15.toNat) dS_api_Parameters) (([p2, y25, 80, 81] : List Int).getD (0 + x29.toNat) 0) (y36, y37) e38)] (by kernel_rfl) ?_
       obtain ⟨y39, y40, e41, h⟩ := bind2_some h
       refine AW.sg tt_okL6 [(25, vi64 y40), (24, vi64 y39)] [] [] 29 [hn, hn, hk (risk_Fill_con (([p1, (y7.getD (0 + 0) dS_api_Parameters), (⟨512, 16, (-1)⟩ : S_api_Parameters)] : List S_api_Parameters).getD (0 + x15.toNat) dS_api_Parameters) (([p2, y25, 80, 81] : List Int).getD (0 + x29.toNat) 0) (y39, y40) e41)] (by kernel_rfl) ?_
       obtain ⟨y42, y43, e44, h⟩ := bind2_some h
       refine AW.sg tt_okL6 [(27, vi64 y43), (26, vi64 y42)] [] [] 36 [hn, hn, hk (rl_ref15_Fill_con (([p1, (y7.getD (0 + 0) dS_api_Parameters), (⟨512, 16, (-1)⟩ : S_api_Parameters)] : List S_api_Parameters).getD (0 + x15.toNat) dS_api_Parameters) (([p2, y25, 80, 81] : List Int).getD (0 + x29.toNat) 0) (y42, y43) e44)] (by kernel_rfl) ?_
       obtain ⟨y45, y46, e47, h⟩ := bind2_some h
       refine AW.sg tt_okL6 [(29, vi64 y46), (28, vi64 y45)] [] [] 43 [hn, hn, hk (risk_Collision_con (([p1, (y7.getD (0 + 0) dS_api_Parameters), (⟨512, 16, (-1)⟩ : S_api_Parameters)] : List S_api_Parameters).getD (0 + x15.toNat) dS_api_Parameters) (([p2, y25, 80, 81] : List Int).getD (0 + x29.toNat) 0) (y45, y46) e47)] (by kernel_rfl) ?_
       obtain ⟨y48, y49, e50, h⟩ := bind2_some h
       refine AW.sg tt_okL6 [(31, vi64 y49), (30, vi64 y48)] [] [] 50 [hn, hn, hk (rl_ref15_Collision_con (([p1, (y7.getD (0 + 0) dS_api_Parameters), (⟨512, 16, (-1)⟩ : S_api_Parameters)] : List S_api_Parameters).getD (0 + x15.toNat) dS_api_Parameters) (([p2, y25, 80, 81] : List Int).getD (0 + x29.toNat) 0) (y48, y49) e50)] (by kernel_rfl) ?_
       refine AW.seq ?_
       refine AW.join (ι := Bool) (fun v => ⟨[(2, vi64 p2), (3, vl 1 Ri64 p3), (4, vi64 p4), (5, vi64 p5), (6, vi64 p6), (15, .c (.ptr 0 3 0 0)), (17, .c (.ptr 1 3 0 0)), (69, .c (.ref 2 3 0 (([p1, (y7.getD (0 + 0) dS_api_Parameters), (⟨512, 16, (-1)⟩ : S_api_Parameters)] : List S_api_Parameters).length))), (70, vi64 ((([p1, (y7.getD (0 + 0) dS_api_Parameters), (⟨512, 16, (-1)⟩ : S_api_Parameters)] : List S_api_Parameters).length : Nat) : Int)), (71, vi64 x15), (78, .c (.ref 3 1 0 (([p2, y25, 80, 81] : List Int).length))), (79, vi64 ((([p2, y25, 80, 81] : List Int).length : Nat) : Int)), (80, vi64 x29), (147, vb v)], [(0, .box 66 [cl 1 Ri64 y26.list, ci64 y26.at_, cu64 y26.state]), (1, .box 28 [ci64 ((([p1, (y7.getD (0 + 0) dS_api_Parameters), (⟨512, 16, (-1)⟩ : S_api_Parameters)] : List S_api_Parameters).getD (0 + x15.toNat) dS_api_Parameters).Length), ci64 ((([p1, (y7.getD (0 + 0) dS_api_Parameters), (⟨512, 16, (-1)⟩ : S_api_Parameters)] : List S_api_Parameters).getD (0 + x15.toNat) dS_api_Parameters).Hashes), ci64 ((([p1, (y7.getD (0 + 0) dS_api_Parameters), (⟨512, 16, (-1)⟩ : S_api_Parameters)] : List S_api_Parameters).getD (0 + x15.toNat) dS_api_Parameters).Salt)]), (2, .row 28 false 3 ([p1, (y7.getD (0 + 0) dS_api_Parameters), (⟨512, 16, (-1)⟩ : S_api_Parameters)] : List S_api_Parameters).length (RS_api_Parameters ([p1, (y7.getD (0 + 0) dS_api_Parameters), (⟨512, 16, (-1)⟩ : S_api_Parameters)] : List S_api_Parameters))), (3, .row 3 false 1 ([p2, y25, 80, 81] : List Int).length (Ri64 ([p2, y25, 80, 81] : List Int)))], 4⟩) (fun v : Bool => rl_law15_RiskExact_k4 x29 v = some o) (fun x51 h => ?_) ?_
       ·
        unfold rl_law15_RiskExact_k4 at h
        refine AW.tn ?_
        refine AW.co h (by kernel_rfl) (fun c52 h => ?_) (fun c52 h => ?_)
        ·
         refine AW.sg tt_okL6 [(14, vb false)] [] [] 5 [] (by kernel_rfl) ?_
         refine AW.ret (AW.inBlock_ret (AW.tr ?_))
         exact lpo h rfl (conv_re [] (by kernel_rfl))
        ·
         refine AW.skip (AW.inBlock_normal (AW.tn ?_))
         refine AW.rg tt_okL6 [(80, vi64 (i64.wrap (x29 + 1)))] [] [] 6 [] (by kernel_rfl) ?_
         exact lpn h (conv_re [(0, 0), (1, 1), (2, 2), (3, 3)] (by kernel_rfl))
       ·
        rcases ifs h with ⟨c53, h⟩ | ⟨c53, h⟩
        ·
         refine AW.rg tt_okL6 [(147, vb true)] [] [] 78 [hn, hn, ht c53] (by kernel_rfl) ?_
         exact jl true h (conv_re [(0, 0), (1, 1), (2, 2), (3, 3)] (by kernel_rfl))
        ·
         rcases ifs h with ⟨c54, h⟩ | ⟨c54, h⟩
         ·
          refine AW.rg tt_okL6 [(147, vb true)] [] [] 78 [hn, hn, hf c53, hn, hn, hn, ht c54] (by kernel_rfl) ?_
          exact jl true h (conv_re [(0, 0), (1, 1), (2, 2), (3, 3)] (by kernel_rfl))
         ·
          rcases ifs h with ⟨c55, h⟩ | ⟨c55, h⟩
          ·
           refine AW.rg tt_okL6 [(147, vb true)] [] [] 78 [hn, hn, hf c53, hn, hn, hn, hf c54, hn, hn, hn, hn, ht c55] (by kernel_rfl) ?_
           exact jl true h (conv_re [(0, 0), (1, 1), (2, 2), (3, 3)] (by kernel_rfl))
          ·
           rcases ifs h with ⟨c56, h⟩ | ⟨c56, h⟩
           ·
            refine AW.rg tt_okL6 [(147, vb true)] [] [] 78 [hn, hn, hf c53, hn, hn, hn, hf c54, hn, hn, hn, hn, hf c55, hn, hn, hn, hn, ht c56] (by kernel_rfl) ?_
            exact jl true h (conv_re [(0, 0), (1, 1), (2, 2), (3, 3)] (by kernel_rfl))
           ·
            rcases ifs h with ⟨c57, h⟩ | ⟨c57, h⟩
            ·
             refine AW.rg tt_okL6 [(147, vb true)] [] [] 78 [hn, hn, hf c53, hn, hn, hn, hf c54, hn, hn, hn, hn, hf c55, hn, hn, hn, hn, hf c56, hn, hn, hn, hn, ht c57] (by kernel_rfl) ?_
             exact jl true h (conv_re [(0, 0), (1, 1), (2, 2), (3, 3)] (by kernel_rfl))
            ·
             refine AW.rg tt_okL6 [(147, vb (y46 != y49))] [] [] 78 [hn, hn, hf c53, hn, hn, hn, hf c54, hn, hn, hn, hn, hf c55, hn, hn, hn, hn, hf c56, hn, hn, hn, hn, hf c57] (by kernel_rfl) ?_
             exact jl (y46 != y49) h (conv_re [(0, 0), (1, 1), (2, 2), (3, 3)] (by kernel_rfl))
      ·
       refine AW.exit (AW.thenQ_exit ?_)
       exact lpo h rfl (conv_re [(0, 0), (1, 2)] (by kernel_rfl))
     ·
      replace h : rl_law15_RiskExact_a5 x15 y26 = some o := h
      unfold rl_law15_RiskExact_a5 at h
      show (_ : Exit → St → Prop) (.exit 2) _
      refine AW.inBlock_hit (AW.inBlock_normal (AW.tn ?_))
      refine AW.rg tt_okL6 [(71, vi64 (i64.wrap (x15 + 1)))] [] [] 4 [] (by kernel_rfl) ?_
      exact lpn h (conv_re [(0, 0), (1, 1)] (by kernel_rfl))
     ·
      replace h : rl_law15_RiskExact_a6 = some o := h
      unfold rl_law15_RiskExact_a6 at h
      show (_ : Exit → St → Prop) (.ret) _
      refine AW.inBlock_ret (AW.inBlock_ret (AW.tr ?_))
      exact lpo h rfl (conv_re [] (by kernel_rfl))
    ·
     refine AW.exit (AW.thenQ_exit ?_)
     exact lpo h rfl (conv_re [(0, 0)] (by kernel_rfl))
   ·
    obtain ⟨x59, x60, x61⟩ := t
    replace h : rl_law15_RiskExact_a15 p2 p3 p4 p5 p6 x59 x60 x61 = some r := h
    unfold rl_law15_RiskExact_a15 at h
    show (_ : Exit → St → Prop) (.exit 0) _
    refine AW.inBlock_hit (AW.tn ?_)
    obtain ⟨y62, y63, e64, h⟩ := bind2_some h
    obtain ⟨y65, y66, e67, h⟩ := bind2_some h
    obtain ⟨y68, y69, e70, h⟩ := bind2_some h
    obtain ⟨y71, y72, e73, h⟩ := bind2_some h
    refine AW.sg tt_okL6 [(32, .c (.ref 5 1 0 (([y62, y65, y68, y71] : List Int).length)))] [0, 5] [(5, .row 3 false 1 ([y62, y65, y68, y71] : List Int).length (Ri64 ([y62, y65, y68, y71] : List Int))), (0, .box 66 [cl 1 Ri64 y72.list, ci64 y72.at_, cu64 y72.state])] 7 [hn, hl [0] [] 0 (rl_make_Deck_Next_con (⟨x59, x60, x61⟩ : S_recordlinkmake_Deck) 4 (y62, y63) e64), hn, hl [0] [] 0 (rl_make_Deck_Next_con y63 4 (y65, y66) e67), hn, hl [0] [] 0 (rl_make_Deck_Next_con y66 4 (y68, y69) e70), hn, hl [0] [] 0 (rl_make_Deck_Next_con y69 9 (y71, y72) e73), hlit 0 Ei64 1 (fun _ => rfl) ([y62, y65, y68, y71] : List Int)] (by kernel_rfl) ?_
    refine AW.seq (AW.seq ?_)
    refine AW.pre (Conv.trans (cfz 5 3 1 (([y62, y65, y68, y71] : List Int).length) (Ri64 ([y62, y65, y68, y71] : List Int)) (by kernel_rfl)) (conv_tms [(32, vl 1 Ri64 ([y62, y65, y68, y71] : List Int))] ⟨⟨.c (.ref 5 1 0 (([y62, y65, y68, y71] : List Int).length)), by kernel_rfl, ALe.c (CLe.ref (ty := 3) (f := Ri64 ([y62, y65, y68, y71] : List Int)) (by kernel_rfl) le0)⟩, tv⟩)) ?_
    refine AW.rg tt_okL6 [(163, vi64 0), (162, vi64 ((([p3, ([y62, y65, y68, y71] : List Int)] : List (List Int)).length : Nat) : Int)), (161, .c (.ref 9 1 0 (([p3, ([y62, y65, y68, y71] : List Int)] : List (List Int)).length)))] [9] [(9, .row 22 false 1 ([p3, ([y62, y65, y68, y71] : List Int)] : List (List Int)).length (Rli64 ([p3, ([y62, y65, y68, y71] : List Int)] : List (List Int))))] 12 [hn, hn, hlit ([] : List Int) Eli64 1 (fun _ => rfl) ([p3, ([y62, y65, y68, y71] : List Int)] : List (List Int))] (by kernel_rfl) ?_
    refine AW.tn (AW.block ?_)
    refine AW.lpE h (fun v => ⟨[(2, vi64 p2), (4, vi64 p4), (5, vi64 p5), (6, vi64 p6), (15, .c (.ptr 0 3 0 0)), (161, .c (.ref 1 1 0 (([p3, ([y62, y65, y68, y71] : List Int)] : List (List Int)).length))), (162, vi64 ((([p3, ([y62, y65, y68, y71] : List Int)] : List (List Int)).length : Nat) : Int)), (163, vi64 v)], [(0, .box 66 [cl 1 Ri64 y72.list, ci64 y72.at_, cu64 y72.state]), (1, .row 22 false 1 ([p3, ([y62, y65, y68, y71] : List Int)] : List (List Int)).length (Rli64 ([p3, ([y62, y65, y68, y71] : List Int)] : List (List Int))))], 2⟩) (fun t => (.exit 4, ⟨[(2, vi64 p2), (4, vi64 p4), (5, vi64 p5), (6, vi64 p6), (15, .c (.ptr 0 3 0 0))], [(0, .box 66 [cl 1 Ri64 y72.list, ci64 y72.at_, cu64 y72.state])], 1⟩)) (fun t => (.ret, ⟨[(14, vb false)], [], 0⟩)) (conv_re [(0, 0), (1, 9)] (by kernel_rfl)) (fun _ => tv) (fun _ => tv) ?_ (fun t h => ?_) (fun t h => ?_)
    ·
     clear h
     intro x75 o h
     unfold rl_law15_RiskExact_l7 at h
     refine AW.sg tt_okL6 [(164, vb (decide (x75 < ((([p3, ([y62, y65, y68, y71] : List Int)] : List (List Int)).length : Nat) : Int))))] [] [] 3 [] (by kernel_rfl) ?_
     refine AW.seq ?_
     refine AW.co h (by kernel_rfl) (fun c76 h => ?_) (fun c76 h => ?_)
     ·
      refine AW.skip (AW.tn ?_)
      refine AW.seq (AW.block ?_)
      obtain ⟨g77, g78, h⟩ := ifd h
      refine AW.sg tt_okL6 [(34, vl 1 Ri64 (([p3, ([y62, y65, y68, y71] : List Int)] : List (List Int)).getD (0 + x75.toNat) ([] : List Int)))] [] [] 6 [hq g77 g78, ho (p := (0 + x75.toNat) < ([p3, ([y62, y65, y68, y71] : List Int)] : List (List Int)).length) (by have h1 : 0 ≤ x75 := g77; have h2 : x75 < ((([p3, ([y62, y65, y68, y71] : List Int)] : List (List Int)).length : Nat) : Int) := g78; omega)] (by kernel_rfl) ?_
      obtain ⟨y79, y80, y81, e82, h⟩ := bind3_some h
      refine AW.sg tt_okL6 [(37, vi64 y81), (36, vi64 y80), (35, vi64 y79)] [] [] 14 [hn, hk (risk_Unique_con (([p3, ([y62, y65, y68, y71] : List Int)] : List (List Int)).getD (0 + x75.toNat) ([] : List Int)) (y79, y80, y81) e82)] (by kernel_rfl) ?_
      obtain ⟨y83, y84, y85, e86, h⟩ := bind3_some h
      refine AW.sg tt_okL6 [(40, vi64 y85), (39, vi64 y84), (38, vi64 y83)] [] [] 22 [hn, hk (rl_ref15_Unique_con (([p3, ([y62, y65, y68, y71] : List Int)] : List (List Int)).getD (0 + x75.toNat) ([] : List Int)) (y83, y84, y85) e86)] (by kernel_rfl) ?_
      refine AW.seq ?_
      refine AW.join (ι := Bool) (fun v => ⟨[(2, vi64 p2), (4, vi64 p4), (5, vi64 p5), (6, vi64 p6), (15, .c (.ptr 0 3 0 0)), (161, .c (.ref 1 1 0 (([p3, ([y62, y65, y68, y71] : List Int)] : List (List Int)).length))), (162, vi64 ((([p3, ([y62, y65, y68, y71] : List Int)] : List (List Int)).length : Nat) : Int)), (163, vi64 x75), (191, vb v)], [(0, .box 66 [cl 1 Ri64 y72.list, ci64 y72.at_, cu64 y72.state]), (1, .row 22 false 1 ([p3, ([y62, y65, y68, y71] : List Int)] : List (List Int)).length (Rli64 ([p3, ([y62, y65, y68, y71] : List Int)] : List (List Int))))], 2⟩) (fun v : Bool => rl_law15_RiskExact_k8 x75 v = some o) (fun x87 h => ?_) ?_
      ·
       unfold rl_law15_RiskExact_k8 at h
       refine AW.tn ?_
       refine AW.co h (by kernel_rfl) (fun c88 h => ?_) (fun c88 h => ?_)
       ·
        refine AW.sg tt_okL6 [(14, vb false)] [] [] 3 [] (by kernel_rfl) ?_
        refine AW.ret (AW.inBlock_ret (AW.tr ?_))
        exact lpo h rfl (conv_re [] (by kernel_rfl))
       ·
        refine AW.skip (AW.inBlock_normal (AW.tn ?_))
        refine AW.rg tt_okL6 [(163, vi64 (i64.wrap (x75 + 1)))] [] [] 4 [] (by kernel_rfl) ?_
        exact lpn h (conv_re [(0, 0), (1, 1)] (by kernel_rfl))
      ·
       rcases ifs h with ⟨c89, h⟩ | ⟨c89, h⟩
       ·
        refine AW.rg tt_okL6 [(191, vb true)] [] [] 35 [hn, hn, ht c89] (by kernel_rfl) ?_
        exact jl true h (conv_re [(0, 0), (1, 1)] (by kernel_rfl))
       ·
        rcases ifs h with ⟨c90, h⟩ | ⟨c90, h⟩
        ·
         refine AW.rg tt_okL6 [(191, vb true)] [] [] 35 [hn, hn, hf c89, hn, hn, hn, ht c90] (by kernel_rfl) ?_
         exact jl true h (conv_re [(0, 0), (1, 1)] (by kernel_rfl))
        ·
         refine AW.rg tt_okL6 [(191, vb (y81 != y85))] [] [] 35 [hn, hn, hf c89, hn, hn, hn, hf c90] (by kernel_rfl) ?_
         exact jl (y81 != y85) h (conv_re [(0, 0), (1, 1)] (by kernel_rfl))
     ·
      refine AW.exit (AW.thenQ_exit ?_)
      exact lpo h rfl (conv_re [(0, 0)] (by kernel_rfl))
    ·
     replace h : rl_law15_RiskExact_a13 p2 p4 p5 p6 y72 = some r := h
     unfold rl_law15_RiskExact_a13 at h
     show (_ : Exit → St → Prop) (.exit 4) _
     refine AW.inBlock_hit (AW.tn ?_)
     obtain ⟨y91, y92, e93, h⟩ := bind2_some h
     refine AW.sg tt_okL6 [(41, vi64 y91)] [0] [(0, .box 66 [cl 1 Ri64 y92.list, ci64 y92.at_, cu64 y92.state])] 3 [hn, hl [0] [] 0 (rl_make_Deck_Next_con y72 900 (y91, y92) e93)] (by kernel_rfl) ?_
     refine AW.seq ?_
     obtain ⟨y94, y95, e96, h⟩ := bind2_some h
     obtain ⟨y97, y98, e99, h⟩ := bind2_some h
     obtain ⟨y100, y101, e102, h⟩ := bind2_some h
     refine AW.sg tt_okL6 [(213, vi64 0), (212, vi64 ((([[p2, p4, p5, p6], [y94, y91, i64.wrap (y91 + y97), y100], [5, 0, 1000, 1000000]] : List (List Int)).length : Nat) : Int)), (211, .c (.ref 16 4 0 (([[p2, p4, p5, p6], [y94, y91, i64.wrap (y91 + y97), y100], [5, 0, 1000, 1000000]] : List (List Int)).length)))] [0, 16] [(16, .row 40 false 4 ([[p2, p4, p5, p6], [y94, y91, i64.wrap (y91 + y97), y100], [5, 0, 1000, 1000000]] : List (List Int)).length (Ra4i64 ([[p2, p4, p5, p6], [y94, y91, i64.wrap (y91 + y97), y100], [5, 0, 1000, 1000000]] : List (List Int))))] 19 [hn, hn, hn, hn, hn, hn, hl [0] [] 0 (rl_make_Deck_Next_con y92 20 (y94, y95) e96), hn, hn, hn, hl [0] [] 0 (rl_make_Deck_Next_con y95 200 (y97, y98) e99), hn, hn, hl [0] [] 0 (rl_make_Deck_Next_con y98 1000001 (y100, y101) e102), hn, hn, hlit (List.replicate 4 (0 : Int)) Ea4i64 4 (fun _ => rfl) ([[p2, p4, p5, p6], [y94, y91, i64.wrap (y91 + y97), y100], [5, 0, 1000, 1000000]] : List (List Int))] (by kernel_rfl) ?_
     refine AW.block ?_
     refine AW.lpE h (fun v => ⟨[(211, .c (.ref 0 4 0 (([[p2, p4, p5, p6], [y94, y91, i64.wrap (y91 + y97), y100], [5, 0, 1000, 1000000]] : List (List Int)).length))), (212, vi64 ((([[p2, p4, p5, p6], [y94, y91, i64.wrap (y91 + y97), y100], [5, 0, 1000, 1000000]] : List (List Int)).length : Nat) : Int)), (213, vi64 v)], [(0, .row 40 false 4 ([[p2, p4, p5, p6], [y94, y91, i64.wrap (y91 + y97), y100], [5, 0, 1000, 1000000]] : List (List Int)).length (Ra4i64 ([[p2, p4, p5, p6], [y94, y91, i64.wrap (y91 + y97), y100], [5, 0, 1000, 1000000]] : List (List Int))))], 1⟩) (fun t => (.exit 6, ⟨[], [], 0⟩)) (fun t => (.ret, ⟨[(14, vb false)], [], 0⟩)) (conv_re [(0, 16)] (by kernel_rfl)) (fun _ => tv) (fun _ => tv) ?_ (fun t h => ?_) (fun t h => ?_)
     ·
      clear h
      intro x104 o h
      unfold rl_law15_RiskExact_l9 at h
      refine AW.sg tt_okL6 [(214, vb (decide (x104 < ((([[p2, p4, p5, p6], [y94, y91, i64.wrap (y91 + y97), y100], [5, 0, 1000, 1000000]] : List (List Int)).length : Nat) : Int))))] [] [] 2 [] (by kernel_rfl) ?_
      refine AW.seq ?_
      refine AW.co h (by kernel_rfl) (fun c105 h => ?_) (fun c105 h => ?_)
      ·
       refine AW.skip (AW.tn ?_)
       refine AW.seq (AW.block ?_)
       obtain ⟨g106, g107, h⟩ := ifd h
       refine AW.sg tt_okL6 [(43, .c (.ptr 4 1 0 0))] [4] [(4, .row 40 false 1 4 (Ri64 (([[p2, p4, p5, p6], [y94, y91, i64.wrap (y91 + y97), y100], [5, 0, 1000, 1000000]] : List (List Int)).getD (0 + x104.toNat) (List.replicate 4 (0 : Int)))))] 6 [hq g106 g107, ho (p := (0 + x104.toNat) < ([[p2, p4, p5, p6], [y94, y91, i64.wrap (y91 + y97), y100], [5, 0, 1000, 1000000]] : List (List Int)).length) (by have h1 : 0 ≤ x104 := g106; have h2 : x104 < ((([[p2, p4, p5, p6], [y94, y91, i64.wrap (y91 + y97), y100], [5, 0, 1000, 1000000]] : List (List Int)).length : Nat) : Int) := g107; omega), hr 4 (Ri64 ([0, 0, 0, 0] : List Int)) (p := 4 = 4 ∧ ∀ i, i < 4 → ∀ j, j < 1 → TLe (rowOf [.v (.int .i64 0), .v (.int .i64 0), .v (.int .i64 0), .v (.int .i64 0)] 1 i j) (Ri64 ([0, 0, 0, 0] : List Int) i j)) (⟨rfl, fun i hi j hj => match i, hi, j, hj with | 0, _, 0, _ => TLe.refl _ | 1, _, 0, _ => TLe.refl _ | 2, _, 0, _ => TLe.refl _ | 3, _, 0, _ => TLe.refl _ | _ + 4, h, _, _ => absurd h (by omega) | _, _, _ + 1, h => absurd h (by omega)⟩), hr 4 (Ri64 (([[p2, p4, p5, p6], [y94, y91, i64.wrap (y91 + y97), y100], [5, 0, 1000, 1000000]] : List (List Int)).getD (0 + x104.toNat) (List.replicate 4 (0 : Int)))) (p := 4 = 4 ∧ ∀ i, i < 4 → ∀ j, j < 1 → TLe (rowOf [.v (.int .i64 ((([[p2, p4, p5, p6], [y94, y91, i64.wrap (y91 + y97), y100], [5, 0, 1000, 1000000]] : List (List Int)).getD (0 + x104.toNat) (List.replicate 4 (0 : Int))).getD 0 0)), .v (.int .i64 ((([[p2, p4, p5, p6], [y94, y91, i64.wrap (y91 + y97), y100], [5, 0, 1000, 1000000]] : List (List Int)).getD (0 + x104.toNat) (List.replicate 4 (0 : Int))).getD 1 0)), .v (.int .i64 ((([[p2, p4, p5, p6], [y94, y91, i64.wrap (y91 + y97), y100], [5, 0, 1000, 1000000]] : List (List Int)).getD (0 + x104.toNat) (List.replicate 4 (0 : Int))).getD 2 0)), .v (.int .i64 ((([[p2, p4, p5, p6], [y94, y91, i64.wrap (y91 + y97), y100], [5, 0, 1000, 1000000]] : List (List Int)).getD (0 + x104.toNat) (List.replicate 4 (0 : Int))).getD 3 0))] 1 i j) (Ri64 (([[p2, p4, p5, p6], [y94, y91, i64.wrap (y91 + y97), y100], [5, 0, 1000, 1000000]] : List (List Int)).getD (0 + x104.toNat) (List.replicate 4 (0 : Int))) i j)) (⟨rfl, fun i hi j hj => match i, hi, j, hj with | 0, _, 0, _ => TLe.refl _ | 1, _, 0, _ => TLe.refl _ | 2, _, 0, _ => TLe.refl _ | 3, _, 0, _ => TLe.refl _ | _ + 4, h, _, _ => absurd h (by omega) | _, _, _ + 1, h => absurd h (by omega)⟩)] (by kernel_rfl) ?_
       obtain ⟨y108, y109, e110, h⟩ := bind2_some h
       refine AW.sg tt_okL6 [(45, vi64 y109), (44, .c (.ptr 17 3 0 0))] [17] [(17, .box 28 [ci64 y108.Length, ci64 y108.Hashes, ci64 y108.Salt])] 20 [ho (p := (0 ≤ (0 : Int)) ∧ ((0 : Int) < ((4 : Nat) : Int))) (⟨(by decide), (by decide)⟩), ho (p := 0 < 4) (by decide), ho (p := (0 ≤ (1 : Int)) ∧ ((1 : Int) < ((4 : Nat) : Int))) (⟨(by decide), (by decide)⟩), ho (p := 1 < 4) (by decide), ho (p := (0 ≤ (2 : Int)) ∧ ((2 : Int) < ((4 : Nat) : Int))) (⟨(by decide), (by decide)⟩), ho (p := 2 < 4) (by decide), ho (p := (0 ≤ (3 : Int)) ∧ ((3 : Int) < ((4 : Nat) : Int))) (⟨(by decide), (by decide)⟩), ho (p := 3 < 4) (by decide), hk (risk_Choose_con ((([[p2, p4, p5, p6], [y94, y91, i64.wrap (y91 + y97), y100], [5, 0, 1000, 1000000]] : List (List Int)).getD (0 + x104.toNat) (List.replicate 4 (0 : Int))).getD 0 0) ((([[p2, p4, p5, p6], [y94, y91, i64.wrap (y91 + y97), y100], [5, 0, 1000, 1000000]] : List (List Int)).getD (0 + x104.toNat) (List.replicate 4 (0 : Int))).getD 1 0) ((([[p2, p4, p5, p6], [y94, y91, i64.wrap (y91 + y97), y100], [5, 0, 1000, 1000000]] : List (List Int)).getD (0 + x104.toNat) (List.replicate 4 (0 : Int))).getD 2 0) ((([[p2, p4, p5, p6], [y94, y91, i64.wrap (y91 + y97), y100], [5, 0, 1000, 1000000]] : List (List Int)).getD (0 + x104.toNat) (List.replicate 4 (0 : Int))).getD 3 0) (y108, y109) e110)] (by kernel_rfl) ?_
       obtain ⟨y111, y112, e113, h⟩ := bind2_some h
       refine AW.sg tt_okL6 [(47, vi64 y112), (46, .c (.ptr 31 3 0 0))] [31] [(31, .box 28 [ci64 y111.Length, ci64 y111.Hashes, ci64 y111.Salt])] 34 [ho (p := (0 ≤ (0 : Int)) ∧ ((0 : Int) < ((4 : Nat) : Int))) (⟨(by decide), (by decide)⟩), ho (p := 0 < 4) (by decide), ho (p := (0 ≤ (1 : Int)) ∧ ((1 : Int) < ((4 : Nat) : Int))) (⟨(by decide), (by decide)⟩), ho (p := 1 < 4) (by decide), ho (p := (0 ≤ (2 : Int)) ∧ ((2 : Int) < ((4 : Nat) : Int))) (⟨(by decide), (by decide)⟩), ho (p := 2 < 4) (by decide), ho (p := (0 ≤ (3 : Int)) ∧ ((3 : Int) < ((4 : Nat) : Int))) (⟨(by decide), (by decide)⟩), ho (p := 3 < 4) (by decide), hk (rl_ref15_Choose_con ((([[p2, p4, p5, p6], [y94, y91, i64.wrap (y91 + y97), y100], [5, 0, 1000, 1000000]] : List (List Int)).getD (0 + x104.toNat) (List.replicate 4 (0 : Int))).getD 0 0) ((([[p2, p4, p5, p6], [y94, y91, i64.wrap (y91 + y97), y100], [5, 0, 1000, 1000000]] : List (List Int)).getD (0 + x104.toNat) (List.replicate 4 (0 : Int))).getD 1 0) ((([[p2, p4, p5, p6], [y94, y91, i64.wrap (y91 + y97), y100], [5, 0, 1000, 1000000]] : List (List Int)).getD (0 + x104.toNat) (List.replicate 4 (0 : Int))).getD 2 0) ((([[p2, p4, p5, p6], [y94, y91, i64.wrap (y91 + y97), y100], [5, 0, 1000, 1000000]] : List (List Int)).getD (0 + x104.toNat) (List.replicate 4 (0 : Int))).getD 3 0) (y111, y112) e113)] (by kernel_rfl) ?_
       refine AW.seq ?_
       refine AW.join (ι := Bool) (fun v => ⟨[(211, .c (.ref 0 4 0 (([[p2, p4, p5, p6], [y94, y91, i64.wrap (y91 + y97), y100], [5, 0, 1000, 1000000]] : List (List Int)).length))), (212, vi64 ((([[p2, p4, p5, p6], [y94, y91, i64.wrap (y91 + y97), y100], [5, 0, 1000, 1000000]] : List (List Int)).length : Nat) : Int)), (213, vi64 x104), (248, vb v)], [(0, .row 40 false 4 ([[p2, p4, p5, p6], [y94, y91, i64.wrap (y91 + y97), y100], [5, 0, 1000, 1000000]] : List (List Int)).length (Ra4i64 ([[p2, p4, p5, p6], [y94, y91, i64.wrap (y91 + y97), y100], [5, 0, 1000, 1000000]] : List (List Int))))], 1⟩) (fun v : Bool => rl_law15_RiskExact_k10 x104 v = some o) (fun x114 h => ?_) ?_
       ·
        unfold rl_law15_RiskExact_k10 at h
        refine AW.tn ?_
        refine AW.co h (by kernel_rfl) (fun c115 h => ?_) (fun c115 h => ?_)
        ·
         refine AW.sg tt_okL6 [(14, vb false)] [] [] 2 [] (by kernel_rfl) ?_
         refine AW.ret (AW.inBlock_ret (AW.tr ?_))
         exact lpo h rfl (conv_re [] (by kernel_rfl))
        ·
         refine AW.skip (AW.inBlock_normal (AW.tn ?_))
         refine AW.rg tt_okL6 [(213, vi64 (i64.wrap (x104 + 1)))] [] [] 3 [] (by kernel_rfl) ?_
         exact lpn h (conv_re [(0, 0)] (by kernel_rfl))
       ·
        rcases ifs h with ⟨c116, h⟩ | ⟨c116, h⟩
        ·
         refine AW.rg tt_okL6 [(248, vb true)] [] [] 42 [hn, hn, ht c116] (by kernel_rfl) ?_
         exact jl true h (conv_re [(0, 0)] (by kernel_rfl))
        ·
         refine AW.rg tt_okL6 [(248, vb (y109 != y112))] [] [] 42 [hn, hn, hf c116] (by kernel_rfl) ?_
         exact jl (y109 != y112) h (conv_re [(0, 0)] (by kernel_rfl))
      ·
       refine AW.exit (AW.thenQ_exit ?_)
       exact lpo h rfl (conv_re [] (by kernel_rfl))
     ·
      replace h : rl_law15_RiskExact_a11 = some r := h
      unfold rl_law15_RiskExact_a11 at h
      show (_ : Exit → St → Prop) (.exit 6) _
      refine AW.inBlock_hit (AW.tn ?_)
      refine AW.sg tt_okL6 [(14, vb true)] [] [] 1 [] (by kernel_rfl) ?_
      refine AW.ret ?_
      obtain rfl := some_inj h
      exact fn0 (.inr rfl) [] 0 (vb true) (by kernel_rfl)
     ·
      replace h : rl_law15_RiskExact_a12 = some r := h
      unfold rl_law15_RiskExact_a12 at h
      show (_ : Exit → St → Prop) (.ret) _
      refine AW.inBlock_ret (AW.tr ?_)
      obtain rfl := some_inj h
      exact fn0 (.inr rfl) [] 0 (vb false) (by kernel_rfl)
    ·
     replace h : rl_law15_RiskExact_a14 = some r := h
     unfold rl_law15_RiskExact_a14 at h
     show (_ : Exit → St → Prop) (.ret) _
     refine AW.inBlock_ret (AW.tr ?_)
     obtain rfl := some_inj h
     exact fn0 (.inr rfl) [] 0 (vb false) (by kernel_rfl)
   ·
    replace h : rl_law15_RiskExact_a16 = some r := h
    unfold rl_law15_RiskExact_a16 at h
    show (_ : Exit → St → Prop) (.ret) _
    refine AW.inBlock_ret (AW.tr ?_)
    obtain rfl := some_inj h
    exact fn0 (.inr rfl) [] 0 (vb false) (by kernel_rfl)
 ·
  obtain ⟨y120, e121, h⟩ := bnd_some h
  rcases ifs h with ⟨c122, h⟩ | ⟨c122, h⟩
  ·
   refine AW.rg tt_okL6 [(59, vb true)] [] [] 13 [hk (rl_law15_awake_con y120 e121), ht c122] (by kernel_rfl) ?_
   exact jl true h (conv_re [(0, 0)] (by kernel_rfl))
  ·
   obtain ⟨y123, e124, h⟩ := bnd_some h
   rcases ifs h with ⟨c125, h⟩ | ⟨c125, h⟩
   ·
    refine AW.rg tt_okL6 [(59, vb true)] [] [] 12 [hk (rl_law15_awake_con y120 e121), hf c122, hn, hn, hk (rl_make_Few_con p0 y123 e124), ht c125] (by kernel_rfl) ?_
    exact jl true h (conv_re [(0, 0)] (by kernel_rfl))
   ·
    refine AW.rg tt_okL6 [(59, vb (decide ((p3.length : Int) > 80)))] [] [] 12 [hk (rl_law15_awake_con y120 e121), hf c122, hn, hn, hk (rl_make_Few_con p0 y123 e124), hf c125] (by kernel_rfl) ?_
    exact jl (decide ((p3.length : Int) > 80)) h (conv_re [(0, 0)] (by kernel_rfl))
end Go.Proofs.Ytfnojcalalncbaa
