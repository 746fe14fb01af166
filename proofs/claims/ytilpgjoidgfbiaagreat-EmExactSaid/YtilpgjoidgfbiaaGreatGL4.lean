/- Printed by a program of mine (vmgen.py): Go functions, and what they come to. -/
import Derived.Test.YtilpgjoidgfbiaaGreatVr
import Derived.Test.YtilpgjoidgfbiaaGreatRows
import Derived.Test.YtilpgjoidgfbiaaGreatG2
namespace Go.Proofs.YtilpgjoidgfbiaaGreat
open Vm
open IntKind (i64 u64 u32 u8)
set_option maxHeartbeats 10000000
set_option linter.unusedVariables false
set_option linter.unusedSimpArgs false
set_option linter.constructorNameAsVariable false
def ttlL4 : List (Nat × TI) := [(3, ⟨.int .i64, 1, 8, [.int .i64 0], false⟩), (4, ⟨.bool, 1, 1, [.bool false], false⟩), (5, ⟨.int .u8, 1, 1, [.int .u8 0], false⟩), (9, ⟨.str, 1, 16, [.string ⟨#[]⟩], false⟩), (22, ⟨.slice 3, 1, 24, [.slice none 0 0], false⟩), (24, ⟨.struct [(3, 0), (22, 1), (22, 2)], 3, 56, [.int .i64 0, .slice none 0 0, .slice none 0 0], false⟩), (30, ⟨.ptr 75, 1, 8, [.pointer none], false⟩), (37, ⟨.int .i64, 1, 8, [.int .i64 0], false⟩), (42, ⟨.slice 72, 1, 24, [.slice none 0 0], false⟩), (44, ⟨.struct [(42, 0), (42, 1)], 2, 48, [.slice none 0 0, .slice none 0 0], false⟩), (55, ⟨.slice 24, 1, 24, [.slice none 0 0], false⟩), (60, ⟨.slice 22, 1, 24, [.slice none 0 0], false⟩), (72, ⟨.int .u32, 1, 4, [.int .u32 0], false⟩), (73, ⟨.int .u64, 1, 8, [.int .u64 0], false⟩), (75, ⟨.struct [(22, 0), (3, 1), (73, 2)], 3, 40, [.slice none 0 0, .int .i64 0, .int .u64 0], false⟩), (103, ⟨.struct [(3, 0), (22, 1), (22, 2)], 3, 56, [.int .i64 0, .slice none 0 0, .slice none 0 0], false⟩), (106, ⟨.arr 6 3, 6, 48, [.int .i64 0, .int .i64 0, .int .i64 0, .int .i64 0, .int .i64 0, .int .i64 0], true⟩), (114, ⟨.struct [(42, 0), (37, 1)], 2, 32, [.slice none 0 0, .int .i64 0], false⟩), (125, ⟨.struct [(3, 0), (3, 1), (3, 2), (3, 3)], 4, 32, [.int .i64 0, .int .i64 0, .int .i64 0, .int .i64 0], true⟩), (126, ⟨.slice 125, 1, 24, [.slice none 0 0], false⟩), (132, ⟨.slice 114, 1, 24, [.slice none 0 0], false⟩)]
theorem tt_okL4 : TTok Tryz.prog (Vm.look ttlL4) := ttok_of ⟨⟨by kernel_rfl, by kernel_rfl, by kernel_rfl⟩, ⟨by kernel_rfl, by kernel_rfl, by kernel_rfl⟩, ⟨by kernel_rfl, by kernel_rfl, by kernel_rfl⟩, ⟨by kernel_rfl, by kernel_rfl, by kernel_rfl⟩, ⟨by kernel_rfl, by kernel_rfl, by kernel_rfl⟩, ⟨by kernel_rfl, by kernel_rfl, by kernel_rfl⟩, ⟨by kernel_rfl, by kernel_rfl, by kernel_rfl⟩, ⟨by kernel_rfl, by kernel_rfl, by kernel_rfl⟩, ⟨by kernel_rfl, by kernel_rfl, by kernel_rfl⟩, ⟨by kernel_rfl, by kernel_rfl, by kernel_rfl⟩, ⟨by kernel_rfl, by kernel_rfl, by kernel_rfl⟩, ⟨by kernel_rfl, by kernel_rfl, by kernel_rfl⟩, ⟨by kernel_rfl, by kernel_rfl, by kernel_rfl⟩, ⟨by kernel_rfl, by kernel_rfl, by kernel_rfl⟩, ⟨by kernel_rfl, by kernel_rfl, by kernel_rfl⟩, ⟨by kernel_rfl, by kernel_rfl, by kernel_rfl⟩, ⟨by kernel_rfl, by kernel_rfl, by kernel_rfl⟩, ⟨by kernel_rfl, by kernel_rfl, by kernel_rfl⟩, ⟨by kernel_rfl, by kernel_rfl, by kernel_rfl⟩, ⟨by kernel_rfl, by kernel_rfl, by kernel_rfl⟩, ⟨by kernel_rfl, by kernel_rfl, by kernel_rfl⟩, trivial⟩
theorem moL4 : Tryz.prog.follows .mixedOrders = true := by kernel_rfl
/-! recordlink/recordlinklaw24.EmExact -/
noncomputable def rl_law24_EmExact_k4 (x28 : Int) (x44 : Bool) : Option (Int ⊕ (Unit ⊕ Unit)) := if x44 = true then (some (.inr (.inr ()))) else (some (.inl (i64.wrap (x28 + 1))))
noncomputable def rl_law24_EmExact_l3 (p1 : S_em_model) (p4 : Int) (y10 : S_em_model) (x17 : Int) (y24 : Int) (x28 : Int) : Option (Int ⊕ (Unit ⊕ Unit)) := if (decide (x28 < ((([p4, y24] : List Int).length : Nat) : Int))) = true then (if 0 ≤ x28 then (if x28 < ((([p4, y24] : List Int).length : Nat) : Int) then (bind2 (em_Posterior (([p1, y10] : List S_em_model).getD (0 + x17.toNat) dS_em_model) (([p4, y24] : List Int).getD (0 + x28.toNat) 0)) fun y32 y33 => (bind2 (rl_ref24_Posterior (([p1, y10] : List S_em_model).getD (0 + x17.toNat) dS_em_model) (([p4, y24] : List Int).getD (0 + x28.toNat) 0)) fun y35 y36 => (bind2 (em_Share (([p1, y10] : List S_em_model).getD (0 + x17.toNat) dS_em_model) (([p4, y24] : List Int).getD (0 + x28.toNat) 0)) fun y38 y39 => (bind2 (rl_ref24_Share (([p1, y10] : List S_em_model).getD (0 + x17.toNat) dS_em_model) (([p4, y24] : List Int).getD (0 + x28.toNat) 0)) fun y41 y42 => (if (y33 != y36) = true then (rl_law24_EmExact_k4 x28 true) else (if (y39 != y42) = true then (rl_law24_EmExact_k4 x28 true) else (if (y38 != y41) = true then (rl_law24_EmExact_k4 x28 true) else ((rl_ref11_Same y32 y35).bind fun y49 => (rl_law24_EmExact_k4 x28 (!y49)))))))))) else none) else none) else (some (.inr (.inl ())))
noncomputable def rl_law24_EmExact_k9 (x80 : Int) (x93 : Bool) : Option (Int ⊕ (Unit ⊕ Unit)) := if x93 = true then (some (.inr (.inr ()))) else (some (.inl (i64.wrap (x80 + 1))))
noncomputable def rl_law24_EmExact_k8 (p1 : S_em_model) (p3 : List Int) (y10 : S_em_model) (x17 : Int) (y51 : List Int) (x58 : Int) (x80 : Int) (x84 : Int) : Option (Int ⊕ (Unit ⊕ Unit)) := bind3 (em_Run (([p1, y10] : List S_em_model).getD (0 + x17.toNat) dS_em_model) (([p3, y51] : List (List Int)).getD (0 + x58.toNat) ([] : List Int)) x84) fun y85 y86 y87 => (bind3 (rl_ref24_Run (([p1, y10] : List S_em_model).getD (0 + x17.toNat) dS_em_model) (([p3, y51] : List (List Int)).getD (0 + x58.toNat) ([] : List Int)) x84) fun y89 y90 y91 => (if (y87 != y91) = true then (rl_law24_EmExact_k9 x80 true) else (if (y86 != y90) = true then (rl_law24_EmExact_k9 x80 true) else ((rl_ref24_Same y85 y89).bind fun y97 => (rl_law24_EmExact_k9 x80 (!y97))))))
noncomputable def rl_law24_EmExact_k10 (p1 : S_em_model) (p3 : List Int) (p5 : Int) (y10 : S_em_model) (x17 : Int) (y51 : List Int) (x58 : Int) (y76 : Int) (x80 : Int) (x99 : Bool) : Option (Int ⊕ (Unit ⊕ Unit)) := if x99 = true then (rl_law24_EmExact_k8 p1 p3 y10 x17 y51 x58 x80 4) else (rl_law24_EmExact_k8 p1 p3 y10 x17 y51 x58 x80 (([p5, y76] : List Int).getD (0 + x80.toNat) 0))
noncomputable def rl_law24_EmExact_l7 (p1 : S_em_model) (p3 : List Int) (p5 : Int) (y10 : S_em_model) (x17 : Int) (y51 : List Int) (x58 : Int) (y76 : Int) (x80 : Int) : Option (Int ⊕ (Unit ⊕ Unit)) := if (decide (x80 < ((([p5, y76] : List Int).length : Nat) : Int))) = true then (if 0 ≤ x80 then (if x80 < ((([p5, y76] : List Int).length : Nat) : Int) then (if (decide ((([p5, y76] : List Int).getD (0 + x80.toNat) 0) > 4)) = true then (rl_law24_EmExact_k10 p1 p3 p5 y10 x17 y51 x58 y76 x80 (decide ((([p5, y76] : List Int).getD (0 + x80.toNat) 0) ≤ 16))) else (rl_law24_EmExact_k10 p1 p3 p5 y10 x17 y51 x58 y76 x80 false)) else none) else none) else (some (.inr (.inl ())))
noncomputable def rl_law24_EmExact_a11 (x58 : Int) (y77 : S_recordlinkmake_Deck) : Option ((Int × (List Int) × Int × Int) ⊕ (((List Int) × Int × Int) ⊕ Unit)) := some (.inl (i64.wrap (x58 + 1), y77.list, y77.at_, y77.state))
noncomputable def rl_law24_EmExact_a12 : Option ((Int × (List Int) × Int × Int) ⊕ (((List Int) × Int × Int) ⊕ Unit)) := some (.inr (.inr ()))
noncomputable def rl_law24_EmExact_k6 (p1 : S_em_model) (p3 : List Int) (p5 : Int) (y10 : S_em_model) (x17 : Int) (y51 : List Int) (x58 : Int) (x59 : List Int) (x60 : Int) (x61 : Int) (x74 : Bool) : Option ((Int × (List Int) × Int × Int) ⊕ (((List Int) × Int × Int) ⊕ Unit)) := if x74 = true then (some (.inr (.inr ()))) else (bind2 (rl_make_Deck_Next (⟨x59, x60, x61⟩ : S_recordlinkmake_Deck) 4) fun y76 y77 => (bindE (loop (fun v : Int => rl_law24_EmExact_l7 p1 p3 p5 y10 x17 y51 x58 y76 v) 0) (fun t => rl_law24_EmExact_a11 x58 y77) (fun t => rl_law24_EmExact_a12)))
noncomputable def rl_law24_EmExact_l5 (p1 : S_em_model) (p3 : List Int) (p5 : Int) (y10 : S_em_model) (x17 : Int) (y51 : List Int) (x58 : Int) (x59 : List Int) (x60 : Int) (x61 : Int) : Option ((Int × (List Int) × Int × Int) ⊕ (((List Int) × Int × Int) ⊕ Unit)) := if (decide (x58 < ((([p3, y51] : List (List Int)).length : Nat) : Int))) = true then (if 0 ≤ x58 then (if x58 < ((([p3, y51] : List (List Int)).length : Nat) : Int) then (bind2 (em_Step (([p1, y10] : List S_em_model).getD (0 + x17.toNat) dS_em_model) (([p3, y51] : List (List Int)).getD (0 + x58.toNat) ([] : List Int))) fun y68 y69 => (bind2 (rl_ref24_Step (([p1, y10] : List S_em_model).getD (0 + x17.toNat) dS_em_model) (([p3, y51] : List (List Int)).getD (0 + x58.toNat) ([] : List Int))) fun y71 y72 => (if (y69 != y72) = true then (rl_law24_EmExact_k6 p1 p3 p5 y10 x17 y51 x58 x59 x60 x61 true) else ((rl_ref24_Same y68 y71).bind fun y104 => (rl_law24_EmExact_k6 p1 p3 p5 y10 x17 y51 x58 x59 x60 x61 (!y104)))))) else none) else none) else (some (.inr (.inl (x59, x60, x61))))
noncomputable def rl_law24_EmExact_k13 (x17 : Int) (x106 : List Int) (x107 : Int) (x108 : Int) (x109 : Bool) : Option ((Int × (List Int) × Int × Int) ⊕ (Unit ⊕ Unit)) := if x109 = true then (some (.inr (.inr ()))) else (some (.inl (i64.wrap (x17 + 1), x106, x107, x108)))
noncomputable def rl_law24_EmExact_a14 (p1 : S_em_model) (p2 : S_em_model) (y10 : S_em_model) (x17 : Int) (x106 : List Int) (x107 : Int) (x108 : Int) : Option ((Int × (List Int) × Int × Int) ⊕ (Unit ⊕ Unit)) := (em_Check (([p1, y10] : List S_em_model).getD (0 + x17.toNat) dS_em_model)).bind fun y111 => ((rl_ref24_Check (([p1, y10] : List S_em_model).getD (0 + x17.toNat) dS_em_model)).bind fun y113 => (if (y111 != y113) = true then (rl_law24_EmExact_k13 x17 x106 x107 x108 true) else ((em_Same (([p1, y10] : List S_em_model).getD (0 + x17.toNat) dS_em_model) p2).bind fun y116 => ((rl_ref24_Same (([p1, y10] : List S_em_model).getD (0 + x17.toNat) dS_em_model) p2).bind fun y118 => (if (!(y116 == y118)) = true then (rl_law24_EmExact_k13 x17 x106 x107 x108 true) else ((em_Same (([p1, y10] : List S_em_model).getD (0 + x17.toNat) dS_em_model) (([p1, y10] : List S_em_model).getD (0 + x17.toNat) dS_em_model)).bind fun y121 => (rl_law24_EmExact_k13 x17 x106 x107 x108 (!y121))))))))
noncomputable def rl_law24_EmExact_a15 : Option ((Int × (List Int) × Int × Int) ⊕ (Unit ⊕ Unit)) := some (.inr (.inr ()))
noncomputable def rl_law24_EmExact_a16 (p1 : S_em_model) (p2 : S_em_model) (p3 : List Int) (p5 : Int) (y7 : Int) (y10 : S_em_model) (x17 : Int) (y25 : S_recordlinkmake_Deck) : Option ((Int × (List Int) × Int × Int) ⊕ (Unit ⊕ Unit)) := bind2 (rl_make_Deck_Counts y25 (i64.wrap (1 + y7))) fun y51 y52 => (bindE (loop (fun v : Int × (List Int) × Int × Int => rl_law24_EmExact_l5 p1 p3 p5 y10 x17 y51 v.1 v.2.1 v.2.2.1 v.2.2.2) (0, y52.list, y52.at_, y52.state)) (fun t => rl_law24_EmExact_a14 p1 p2 y10 x17 t.1 t.2.1 t.2.2) (fun t => rl_law24_EmExact_a15))
noncomputable def rl_law24_EmExact_a17 : Option ((Int × (List Int) × Int × Int) ⊕ (Unit ⊕ Unit)) := some (.inr (.inr ()))
noncomputable def rl_law24_EmExact_l2 (p1 : S_em_model) (p2 : S_em_model) (p3 : List Int) (p4 : Int) (p5 : Int) (y7 : Int) (y10 : S_em_model) (x17 : Int) (x18 : List Int) (x19 : Int) (x20 : Int) : Option ((Int × (List Int) × Int × Int) ⊕ (Unit ⊕ Unit)) := if (decide (x17 < ((([p1, y10] : List S_em_model).length : Nat) : Int))) = true then (if 0 ≤ x17 then (if x17 < ((([p1, y10] : List S_em_model).length : Nat) : Int) then (bind2 (rl_make_Deck_Next (⟨x18, x19, x20⟩ : S_recordlinkmake_Deck) 30) fun y24 y25 => (bindE (loop (fun v : Int => rl_law24_EmExact_l3 p1 p4 y10 x17 y24 v) 0) (fun t => rl_law24_EmExact_a16 p1 p2 p3 p5 y7 y10 x17 y25) (fun t => rl_law24_EmExact_a17))) else none) else none) else (some (.inr (.inl ())))
noncomputable def rl_law24_EmExact_a18 : Option Bool := some true
noncomputable def rl_law24_EmExact_a19 : Option Bool := some false
noncomputable def rl_law24_EmExact_k1 (p0 : List Int) (p1 : S_em_model) (p2 : S_em_model) (p3 : List Int) (p4 : Int) (p5 : Int) (x1 : Bool) : Option Bool := if x1 = true then ((rl_law24_awake).bind fun y3 => (some y3)) else ((rl_make_New p0).bind fun y5 => (bind2 (rl_make_Deck_Next y5 3) fun y7 y8 => (bind2 (rl_make_Deck_Model y8 (i64.wrap (1 + y7))) fun y10 y11 => (bindE (loop (fun v : Int × (List Int) × Int × Int => rl_law24_EmExact_l2 p1 p2 p3 p4 p5 y7 y10 v.1 v.2.1 v.2.2.1 v.2.2.2) (0, y11.list, y11.at_, y11.state)) (fun t => rl_law24_EmExact_a18) (fun t => rl_law24_EmExact_a19)))))
noncomputable def rl_law24_EmExact (p0 : List Int) (p1 : S_em_model) (p2 : S_em_model) (p3 : List Int) (p4 : Int) (p5 : Int) : Option Bool := (rl_law24_awake).bind fun y126 => (if (!y126) = true then (rl_law24_EmExact_k1 p0 p1 p2 p3 p4 p5 true) else ((rl_make_Few p0).bind fun y129 => (if (!y129) = true then (rl_law24_EmExact_k1 p0 p1 p2 p3 p4 p5 true) else (if (decide (((p1.Match.length : Nat) : Int) > 20)) = true then (rl_law24_EmExact_k1 p0 p1 p2 p3 p4 p5 true) else (if (decide (((p1.Random.length : Nat) : Int) > 20)) = true then (rl_law24_EmExact_k1 p0 p1 p2 p3 p4 p5 true) else (if (decide (((p2.Match.length : Nat) : Int) > 20)) = true then (rl_law24_EmExact_k1 p0 p1 p2 p3 p4 p5 true) else (if (decide (((p2.Random.length : Nat) : Int) > 20)) = true then (rl_law24_EmExact_k1 p0 p1 p2 p3 p4 p5 true) else (rl_law24_EmExact_k1 p0 p1 p2 p3 p4 p5 (decide ((p3.length : Int) > 300))))))))))
set_option maxRecDepth 100000 in
theorem rl_law24_EmExact_con (p0 : List Int) (p1 : S_em_model) (p2 : S_em_model) (p3 : List Int) (p4 : Int) (p5 : Int) (r : Bool) (h : rl_law24_EmExact p0 p1 p2 p3 p4 p5 = some r) : Con Tryz.prog 4 [vl 1 Ri64 p0, .agg [ci64 p1.Prior, cl 1 Ri64 p1.Match, cl 1 Ri64 p1.Random], .agg [ci64 p2.Prior, cl 1 Ri64 p2.Match, cl 1 Ri64 p2.Random], vl 1 Ri64 p3, vi64 p4, vi64 p5] [] (vb r) [] := by
 refine con_of tt_okL4 0 Tryz.func4 (by kernel_rfl) rfl (by kernel_rfl) (fun base X _ => AW.post ?_)
 unfold rl_law24_EmExact at h
 refine AW.sg tt_okL4 [(8, .c (.ptr 1 3 0 0)), (7, .c (.ptr 0 3 0 0))] [0, 1] [(1, .box 24 [ci64 p2.Prior, cl 1 Ri64 p2.Match, cl 1 Ri64 p2.Random]), (0, .box 24 [ci64 p1.Prior, cl 1 Ri64 p1.Match, cl 1 Ri64 p1.Random])] 3 [] (by kernel_rfl) ?_
 refine AW.seq (AW.seq ?_)
 refine AW.join (ι := Bool) (fun v => ⟨[(0, vl 1 Ri64 p0), (3, vl 1 Ri64 p3), (4, vi64 p4), (5, vi64 p5), (7, .c (.ptr 0 3 0 0)), (8, .c (.ptr 1 3 0 0)), (77, vb v)], [(0, .box 24 [ci64 p1.Prior, cl 1 Ri64 p1.Match, cl 1 Ri64 p1.Random]), (1, .box 24 [ci64 p2.Prior, cl 1 Ri64 p2.Match, cl 1 Ri64 p2.Random])], 2⟩) (fun v : Bool => rl_law24_EmExact_k1 p0 p1 p2 p3 p4 p5 v = some r) (fun x1 h => ?_) ?_
 ·
  unfold rl_law24_EmExact_k1 at h
  refine AW.tn ?_
  refine AW.co h (by kernel_rfl) (fun c2 h => ?_) (fun c2 h => ?_)
  ·
   obtain ⟨y3, e4, h⟩ := bnd_some h
   refine AW.sg tt_okL4 [(12, vb y3)] [] [] 3 [hk (rl_law24_awake_con y3 e4)] (by kernel_rfl) ?_
   refine AW.ret (AW.tr ?_)
   obtain rfl := some_inj h
   exact fn0 (.inr rfl) [] 0 (vb y3) (by kernel_rfl)
  ·
   refine AW.skip (AW.tn ?_)
   obtain ⟨y5, e6, h⟩ := bnd_some h
   refine AW.sg tt_okL4 [(13, .c (.ptr 3 3 0 0))] [3] [(3, .box 75 [cl 1 Ri64 y5.list, ci64 y5.at_, cu64 y5.state])] 5 [hn, hl [] [] 1 (rl_make_New_con p0 y5 e6)] (by kernel_rfl) ?_
   obtain ⟨y7, y8, e9, h⟩ := bind2_some h
   refine AW.sg tt_okL4 [(14, vi64 (i64.wrap (1 + y7)))] [3] [(3, .box 75 [cl 1 Ri64 y8.list, ci64 y8.at_, cu64 y8.state])] 8 [hn, hl [3] [] 0 (rl_make_Deck_Next_con y5 3 (y7, y8) e9)] (by kernel_rfl) ?_
   obtain ⟨y10, y11, e12, h⟩ := bind2_some h
   refine AW.sg tt_okL4 [(15, .c (.ptr 12 3 0 0))] [3, 10, 11, 12] [(12, .box 24 [ci64 y10.Prior, .ref 10 1 0 y10.Match.length, .ref 11 1 0 y10.Random.length]), (3, .box 75 [cl 1 Ri64 y11.list, ci64 y11.at_, cu64 y11.state]), (10, .row 3 false 1 y10.Match.length (Ri64 y10.Match)), (11, .row 3 false 1 y10.Random.length (Ri64 y10.Random))] 14 [hn, hn, hl [3] [] 2 (rl_make_Deck_Model_con y8 (i64.wrap (1 + y7)) (y10, y11) e12)] (by kernel_rfl) ?_
   refine AW.seq (AW.seq ?_)
   refine AW.pre (Conv.trans (cfz 10 3 1 y10.Match.length (Ri64 y10.Match) (by kernel_rfl)) (conv_box (id := 12) (ty := 24) (cs := [ci64 y10.Prior, .ref 10 1 0 y10.Match.length, .ref 11 1 0 y10.Random.length]) (ds := [ci64 y10.Prior, cl 1 Ri64 y10.Match, .ref 11 1 0 y10.Random.length]) (by kernel_rfl) ⟨CLe.refl _ _, CLe.ref (ty := 3) (f := Ri64 y10.Match) (by kernel_rfl) le0, CLe.refl _ _, tv⟩)) ?_
   refine AW.pre (Conv.trans (cfz 11 3 1 y10.Random.length (Ri64 y10.Random) (by kernel_rfl)) (conv_box (id := 12) (ty := 24) (cs := [ci64 y10.Prior, cl 1 Ri64 y10.Match, .ref 11 1 0 y10.Random.length]) (ds := [ci64 y10.Prior, cl 1 Ri64 y10.Match, cl 1 Ri64 y10.Random]) (by kernel_rfl) ⟨CLe.refl _ _, CLe.refl _ _, CLe.ref (ty := 3) (f := Ri64 y10.Random) (by kernel_rfl) le0, tv⟩)) ?_
   refine AW.rg tt_okL4 [(91, vi64 0), (90, vi64 ((([p1, y10] : List S_em_model).length : Nat) : Int)), (89, .c (.ref 16 3 0 (([p1, y10] : List S_em_model).length)))] [16] [(16, .row 24 false 3 ([p1, y10] : List S_em_model).length (RS_em_model ([p1, y10] : List S_em_model)))] 19 [hn, hn, hlit dS_em_model ES_em_model 3 (fun _ => rfl) ([p1, y10] : List S_em_model)] (by kernel_rfl) ?_
   refine AW.tn (AW.block ?_)
   refine AW.lpE h (fun v => ⟨[(3, vl 1 Ri64 p3), (4, vi64 p4), (5, vi64 p5), (8, .c (.ptr 0 3 0 0)), (13, .c (.ptr 1 3 0 0)), (14, vi64 (i64.wrap (1 + y7))), (89, .c (.ref 2 3 0 (([p1, y10] : List S_em_model).length))), (90, vi64 ((([p1, y10] : List S_em_model).length : Nat) : Int)), (91, vi64 v.1)], [(0, .box 24 [ci64 p2.Prior, cl 1 Ri64 p2.Match, cl 1 Ri64 p2.Random]), (1, .box 75 [cl 1 Ri64 v.2.1, ci64 v.2.2.1, cu64 v.2.2.2]), (2, .row 24 false 3 ([p1, y10] : List S_em_model).length (RS_em_model ([p1, y10] : List S_em_model)))], 3⟩) (fun t => (.exit 0, ⟨[], [], 0⟩)) (fun t => (.ret, ⟨[(12, vb false)], [], 0⟩)) (conv_re [(0, 1), (1, 3), (2, 16)] (by kernel_rfl)) (fun _ => tv) (fun _ => tv) ?_ (fun t h => ?_) (fun t h => ?_)
   ·
    clear h
    intro v o h
    obtain ⟨x17, x18, x19, x20⟩ := v
    replace h : rl_law24_EmExact_l2 p1 p2 p3 p4 p5 y7 y10 x17 x18 x19 x20 = some o := h
    unfold rl_law24_EmExact_l2 at h
    refine AW.sg tt_okL4 [(92, vb (decide (x17 < ((([p1, y10] : List S_em_model).length : Nat) : Int))))] [] [] 4 [] (by kernel_rfl) ?_
    refine AW.seq ?_
    refine AW.co h (by kernel_rfl) (fun c21 h => ?_) (fun c21 h => ?_)
    ·
     refine AW.skip (AW.tn ?_)
     refine AW.seq (AW.block ?_)
     obtain ⟨g22, g23, h⟩ := ifd h
     refine AW.sg tt_okL4 [(17, .c (.ptr 6 3 0 0))] [6] [(6, .box 24 [ci64 ((([p1, y10] : List S_em_model).getD (0 + x17.toNat) dS_em_model).Prior), cl 1 Ri64 ((([p1, y10] : List S_em_model).getD (0 + x17.toNat) dS_em_model).Match), cl 1 Ri64 ((([p1, y10] : List S_em_model).getD (0 + x17.toNat) dS_em_model).Random)])] 8 [hq g22 g23, ho (p := (0 + x17.toNat) < ([p1, y10] : List S_em_model).length) (by have h1 : 0 ≤ x17 := g22; have h2 : x17 < ((([p1, y10] : List S_em_model).length : Nat) : Int) := g23; omega)] (by kernel_rfl) ?_
     refine AW.seq ?_
     obtain ⟨y24, y25, e26, h⟩ := bind2_some h
     refine AW.sg tt_okL4 [(100, vi64 0), (99, vi64 ((([p4, y24] : List Int).length : Nat) : Int)), (98, .c (.ref 10 1 0 (([p4, y24] : List Int).length)))] [1, 10] [(10, .row 3 false 1 ([p4, y24] : List Int).length (Ri64 ([p4, y24] : List Int))), (1, .box 75 [cl 1 Ri64 y25.list, ci64 y25.at_, cu64 y25.state])] 13 [hn, hn, hl [1] [] 0 (rl_make_Deck_Next_con (⟨x18, x19, x20⟩ : S_recordlinkmake_Deck) 30 (y24, y25) e26), hlit 0 Ei64 1 (fun _ => rfl) ([p4, y24] : List Int)] (by kernel_rfl) ?_
     refine AW.block ?_
     refine AW.lpE h (fun v => ⟨[(3, vl 1 Ri64 p3), (4, vi64 p4), (5, vi64 p5), (8, .c (.ptr 0 3 0 0)), (13, .c (.ptr 1 3 0 0)), (14, vi64 (i64.wrap (1 + y7))), (17, .c (.ptr 2 3 0 0)), (89, .c (.ref 3 3 0 (([p1, y10] : List S_em_model).length))), (90, vi64 ((([p1, y10] : List S_em_model).length : Nat) : Int)), (91, vi64 x17), (98, .c (.ref 4 1 0 (([p4, y24] : List Int).length))), (99, vi64 ((([p4, y24] : List Int).length : Nat) : Int)), (100, vi64 v)], [(0, .box 24 [ci64 p2.Prior, cl 1 Ri64 p2.Match, cl 1 Ri64 p2.Random]), (1, .box 75 [cl 1 Ri64 y25.list, ci64 y25.at_, cu64 y25.state]), (2, .box 24 [ci64 ((([p1, y10] : List S_em_model).getD (0 + x17.toNat) dS_em_model).Prior), cl 1 Ri64 ((([p1, y10] : List S_em_model).getD (0 + x17.toNat) dS_em_model).Match), cl 1 Ri64 ((([p1, y10] : List S_em_model).getD (0 + x17.toNat) dS_em_model).Random)]), (3, .row 24 false 3 ([p1, y10] : List S_em_model).length (RS_em_model ([p1, y10] : List S_em_model))), (4, .row 3 false 1 ([p4, y24] : List Int).length (Ri64 ([p4, y24] : List Int)))], 5⟩) (fun t => (.exit 2, ⟨[(3, vl 1 Ri64 p3), (4, vi64 p4), (5, vi64 p5), (8, .c (.ptr 0 3 0 0)), (13, .c (.ptr 1 3 0 0)), (14, vi64 (i64.wrap (1 + y7))), (17, .c (.ptr 2 3 0 0)), (89, .c (.ref 3 3 0 (([p1, y10] : List S_em_model).length))), (90, vi64 ((([p1, y10] : List S_em_model).length : Nat) : Int)), (91, vi64 x17)], [(0, .box 24 [ci64 p2.Prior, cl 1 Ri64 p2.Match, cl 1 Ri64 p2.Random]), (1, .box 75 [cl 1 Ri64 y25.list, ci64 y25.at_, cu64 y25.state]), (2, .box 24 [ci64 ((([p1, y10] : List S_em_model).getD (0 + x17.toNat) dS_em_model).Prior), cl 1 Ri64 ((([p1, y10] : List S_em_model).getD (0 + x17.toNat) dS_em_model).Match), cl 1 Ri64 ((([p1, y10] : List S_em_model).getD (0 + x17.toNat) dS_em_model).Random)]), (3, .row 24 false 3 ([p1, y10] : List S_em_model).length (RS_em_model ([p1, y10] : List S_em_model)))], 4⟩)) (fun t => (.ret, ⟨[(12, vb false)], [], 0⟩)) (conv_re [(0, 0), (1, 1), (2, 6), (3, 2), (4, 10)] (by kernel_rfl)) (fun _ => tv) (fun _ => tv) ?_ (fun t h => ?_) (fun t h => ?_)
     ·
      clear h
      intro x28 o h
      unfold rl_law24_EmExact_l3 at h
      refine AW.sg tt_okL4 [(101, vb (decide (x28 < ((([p4, y24] : List Int).length : Nat) : Int))))] [] [] 6 [] (by kernel_rfl) ?_
      refine AW.seq ?_
      refine AW.co h (by kernel_rfl) (fun c29 h => ?_) (fun c29 h => ?_)
      ·
       refine AW.skip (AW.tn ?_)
       refine AW.seq (AW.block ?_)
       obtain ⟨g30, g31, h⟩ := ifd h
       refine AW.sg tt_okL4 [(19, vi64 (([p4, y24] : List Int).getD (0 + x28.toNat) 0))] [] [] 9 [hq g30 g31, ho (p := (0 + x28.toNat) < ([p4, y24] : List Int).length) (by have h1 : 0 ≤ x28 := g30; have h2 : x28 < ((([p4, y24] : List Int).length : Nat) : Int) := g31; omega)] (by kernel_rfl) ?_
       obtain ⟨y32, y33, e34, h⟩ := bind2_some h
       refine AW.sg tt_okL4 [(21, vi64 y33), (20, .c (.ptr 14 2 0 0))] [14] [(14, .box 44 [cl 1 Ru32 y32.Num, cl 1 Ru32 y32.Den])] 17 [hn, hn, hk (em_Posterior_con (([p1, y10] : List S_em_model).getD (0 + x17.toNat) dS_em_model) (([p4, y24] : List Int).getD (0 + x28.toNat) 0) (y32, y33) e34)] (by kernel_rfl) ?_
       obtain ⟨y35, y36, e37, h⟩ := bind2_some h
       refine AW.sg tt_okL4 [(23, vi64 y36), (22, .c (.ptr 22 2 0 0))] [22] [(22, .box 44 [cl 1 Ru32 y35.Num, cl 1 Ru32 y35.Den])] 25 [hn, hn, hk (rl_ref24_Posterior_con (([p1, y10] : List S_em_model).getD (0 + x17.toNat) dS_em_model) (([p4, y24] : List Int).getD (0 + x28.toNat) 0) (y35, y36) e37)] (by kernel_rfl) ?_
       obtain ⟨y38, y39, e40, h⟩ := bind2_some h
       refine AW.sg tt_okL4 [(25, vi64 y39), (24, vi64 y38)] [] [] 32 [hn, hn, hk (em_Share_con (([p1, y10] : List S_em_model).getD (0 + x17.toNat) dS_em_model) (([p4, y24] : List Int).getD (0 + x28.toNat) 0) (y38, y39) e40)] (by kernel_rfl) ?_
       obtain ⟨y41, y42, e43, h⟩ := bind2_some h
       refine AW.sg tt_okL4 [(27, vi64 y42), (26, vi64 y41)] [] [] 39 [hn, hn, hk (rl_ref24_Share_con (([p1, y10] : List S_em_model).getD (0 + x17.toNat) dS_em_model) (([p4, y24] : List Int).getD (0 + x28.toNat) 0) (y41, y42) e43)] (by kernel_rfl) ?_
       refine AW.seq ?_
       refine AW.join (ι := Bool) (fun v => ⟨[(3, vl 1 Ri64 p3), (4, vi64 p4), (5, vi64 p5), (8, .c (.ptr 0 3 0 0)), (13, .c (.ptr 1 3 0 0)), (14, vi64 (i64.wrap (1 + y7))), (17, .c (.ptr 2 3 0 0)), (89, .c (.ref 3 3 0 (([p1, y10] : List S_em_model).length))), (90, vi64 ((([p1, y10] : List S_em_model).length : Nat) : Int)), (91, vi64 x17), (98, .c (.ref 4 1 0 (([p4, y24] : List Int).length))), (99, vi64 ((([p4, y24] : List Int).length : Nat) : Int)), (100, vi64 x28), (146, vb v)], [(0, .box 24 [ci64 p2.Prior, cl 1 Ri64 p2.Match, cl 1 Ri64 p2.Random]), (1, .box 75 [cl 1 Ri64 y25.list, ci64 y25.at_, cu64 y25.state]), (2, .box 24 [ci64 ((([p1, y10] : List S_em_model).getD (0 + x17.toNat) dS_em_model).Prior), cl 1 Ri64 ((([p1, y10] : List S_em_model).getD (0 + x17.toNat) dS_em_model).Match), cl 1 Ri64 ((([p1, y10] : List S_em_model).getD (0 + x17.toNat) dS_em_model).Random)]), (3, .row 24 false 3 ([p1, y10] : List S_em_model).length (RS_em_model ([p1, y10] : List S_em_model))), (4, .row 3 false 1 ([p4, y24] : List Int).length (Ri64 ([p4, y24] : List Int)))], 5⟩) (fun v : Bool => rl_law24_EmExact_k4 x28 v = some o) (fun x44 h => ?_) ?_
       ·
        unfold rl_law24_EmExact_k4 at h
        refine AW.tn ?_
        refine AW.co h (by kernel_rfl) (fun c45 h => ?_) (fun c45 h => ?_)
        ·
         refine AW.sg tt_okL4 [(12, vb false)] [] [] 6 [] (by kernel_rfl) ?_
         refine AW.ret (AW.inBlock_ret (AW.tr ?_))
         exact lpo h rfl (conv_re [] (by kernel_rfl))
        ·
         refine AW.skip (AW.inBlock_normal (AW.tn ?_))
         refine AW.rg tt_okL4 [(100, vi64 (i64.wrap (x28 + 1)))] [] [] 7 [] (by kernel_rfl) ?_
         exact lpn h (conv_re [(0, 0), (1, 1), (2, 2), (3, 3), (4, 4)] (by kernel_rfl))
       ·
        rcases ifs h with ⟨c46, h⟩ | ⟨c46, h⟩
        ·
         refine AW.rg tt_okL4 [(146, vb true)] [] [] 58 [hn, hn, ht c46] (by kernel_rfl) ?_
         exact jl true h (conv_re [(0, 0), (1, 1), (2, 2), (3, 3), (4, 4)] (by kernel_rfl))
        ·
         rcases ifs h with ⟨c47, h⟩ | ⟨c47, h⟩
         ·
          refine AW.rg tt_okL4 [(146, vb true)] [] [] 58 [hn, hn, hf c46, hn, hn, hn, ht c47] (by kernel_rfl) ?_
          exact jl true h (conv_re [(0, 0), (1, 1), (2, 2), (3, 3), (4, 4)] (by kernel_rfl))
         ·
          rcases ifs h with ⟨c48, h⟩ | ⟨c48, h⟩
          ·
           refine AW.rg tt_okL4 [(146, vb true)] [] [] 58 [hn, hn, hf c46, hn, hn, hn, hf c47, hn, hn, hn, hn, ht c48] (by kernel_rfl) ?_
           exact jl true h (conv_re [(0, 0), (1, 1), (2, 2), (3, 3), (4, 4)] (by kernel_rfl))
          ·
           obtain ⟨y49, e50, h⟩ := bnd_some h
           refine AW.rg tt_okL4 [(146, vb (!y49))] [] [] 57 [hn, hn, hf c46, hn, hn, hn, hf c47, hn, hn, hn, hn, hf c48, hn, hn, hn, hn, hk (rl_ref11_Same_con y32 y35 y49 e50)] (by kernel_rfl) ?_
           exact jl (!y49) h (conv_re [(0, 0), (1, 1), (2, 2), (3, 3), (4, 4)] (by kernel_rfl))
      ·
       refine AW.exit (AW.thenQ_exit ?_)
       exact lpo h rfl (conv_re [(0, 0), (1, 1), (2, 2), (3, 3)] (by kernel_rfl))
     ·
      replace h : rl_law24_EmExact_a16 p1 p2 p3 p5 y7 y10 x17 y25 = some o := h
      unfold rl_law24_EmExact_a16 at h
      show (_ : Exit → St → Prop) (.exit 2) _
      refine AW.inBlock_hit (AW.tn (AW.seq ?_))
      obtain ⟨y51, y52, e53, h⟩ := bind2_some h
      refine AW.sg tt_okL4 [(154, vi64 0), (153, vi64 ((([p3, y51] : List (List Int)).length : Nat) : Int)), (152, .c (.ref 7 1 0 (([p3, y51] : List (List Int)).length)))] [1, 7] [(7, .row 22 false 1 ([p3, y51] : List (List Int)).length (Rli64 ([p3, y51] : List (List Int)))), (1, .box 75 [cl 1 Ri64 y52.list, ci64 y52.at_, cu64 y52.state])] 10 [hn, hn, hn, hl [1] [] 0 (rl_make_Deck_Counts_conT y25 (i64.wrap (1 + y7)) (y51, y52) e53), hlit ([] : List Int) Eli64 1 (fun _ => rfl) ([p3, y51] : List (List Int))] (by kernel_rfl) ?_
      refine AW.block ?_
      refine AW.lpE h (fun v => ⟨[(3, vl 1 Ri64 p3), (4, vi64 p4), (5, vi64 p5), (8, .c (.ptr 0 3 0 0)), (13, .c (.ptr 1 3 0 0)), (14, vi64 (i64.wrap (1 + y7))), (17, .c (.ptr 2 3 0 0)), (89, .c (.ref 3 3 0 (([p1, y10] : List S_em_model).length))), (90, vi64 ((([p1, y10] : List S_em_model).length : Nat) : Int)), (91, vi64 x17), (152, .c (.ref 4 1 0 (([p3, y51] : List (List Int)).length))), (153, vi64 ((([p3, y51] : List (List Int)).length : Nat) : Int)), (154, vi64 v.1)], [(0, .box 24 [ci64 p2.Prior, cl 1 Ri64 p2.Match, cl 1 Ri64 p2.Random]), (1, .box 75 [cl 1 Ri64 v.2.1, ci64 v.2.2.1, cu64 v.2.2.2]), (2, .box 24 [ci64 ((([p1, y10] : List S_em_model).getD (0 + x17.toNat) dS_em_model).Prior), cl 1 Ri64 ((([p1, y10] : List S_em_model).getD (0 + x17.toNat) dS_em_model).Match), cl 1 Ri64 ((([p1, y10] : List S_em_model).getD (0 + x17.toNat) dS_em_model).Random)]), (3, .row 24 false 3 ([p1, y10] : List S_em_model).length (RS_em_model ([p1, y10] : List S_em_model))), (4, .row 22 false 1 ([p3, y51] : List (List Int)).length (Rli64 ([p3, y51] : List (List Int))))], 5⟩) (fun t => (.exit 4, ⟨[(3, vl 1 Ri64 p3), (4, vi64 p4), (5, vi64 p5), (8, .c (.ptr 0 3 0 0)), (13, .c (.ptr 1 3 0 0)), (14, vi64 (i64.wrap (1 + y7))), (17, .c (.ptr 2 3 0 0)), (89, .c (.ref 3 3 0 (([p1, y10] : List S_em_model).length))), (90, vi64 ((([p1, y10] : List S_em_model).length : Nat) : Int)), (91, vi64 x17)], [(0, .box 24 [ci64 p2.Prior, cl 1 Ri64 p2.Match, cl 1 Ri64 p2.Random]), (1, .box 75 [cl 1 Ri64 t.1, ci64 t.2.1, cu64 t.2.2]), (2, .box 24 [ci64 ((([p1, y10] : List S_em_model).getD (0 + x17.toNat) dS_em_model).Prior), cl 1 Ri64 ((([p1, y10] : List S_em_model).getD (0 + x17.toNat) dS_em_model).Match), cl 1 Ri64 ((([p1, y10] : List S_em_model).getD (0 + x17.toNat) dS_em_model).Random)]), (3, .row 24 false 3 ([p1, y10] : List S_em_model).length (RS_em_model ([p1, y10] : List S_em_model)))], 4⟩)) (fun t => (.ret, ⟨[(12, vb false)], [], 0⟩)) (conv_re [(0, 0), (1, 1), (2, 2), (3, 3), (4, 7)] (by kernel_rfl)) (fun _ => tv) (fun _ => tv) ?_ (fun t h => ?_) (fun t h => ?_)
      ·
       clear h
       intro v o h
       obtain ⟨x58, x59, x60, x61⟩ := v
       replace h : rl_law24_EmExact_l5 p1 p3 p5 y10 x17 y51 x58 x59 x60 x61 = some o := h
       unfold rl_law24_EmExact_l5 at h
       refine AW.sg tt_okL4 [(155, vb (decide (x58 < ((([p3, y51] : List (List Int)).length : Nat) : Int))))] [] [] 6 [] (by kernel_rfl) ?_
       refine AW.seq ?_
       refine AW.co h (by kernel_rfl) (fun c65 h => ?_) (fun c65 h => ?_)
       ·
        refine AW.skip (AW.tn ?_)
        refine AW.seq (AW.block ?_)
        obtain ⟨g66, g67, h⟩ := ifd h
        refine AW.sg tt_okL4 [(29, vl 1 Ri64 (([p3, y51] : List (List Int)).getD (0 + x58.toNat) ([] : List Int)))] [] [] 9 [hq g66 g67, ho (p := (0 + x58.toNat) < ([p3, y51] : List (List Int)).length) (by have h1 : 0 ≤ x58 := g66; have h2 : x58 < ((([p3, y51] : List (List Int)).length : Nat) : Int) := g67; omega)] (by kernel_rfl) ?_
        obtain ⟨y68, y69, e70, h⟩ := bind2_some h
        refine AW.sg tt_okL4 [(31, vi64 y69), (30, .c (.ptr 16 3 0 0))] [11, 12, 16] [(16, .box 24 [ci64 y68.Prior, .ref 11 1 0 y68.Match.length, .ref 12 1 0 y68.Random.length]), (11, .row 3 false 1 y68.Match.length (Ri64 y68.Match)), (12, .row 3 false 1 y68.Random.length (Ri64 y68.Random))] 19 [hn, hn, hm [] [] 2 (em_Step_con (([p1, y10] : List S_em_model).getD (0 + x17.toNat) dS_em_model) (([p3, y51] : List (List Int)).getD (0 + x58.toNat) ([] : List Int)) (y68, y69) e70) ⟨rowL_flat Vi64 _ _ _, rowL_flat Vi64 _ _ _, tv⟩] (by kernel_rfl) ?_
        obtain ⟨y71, y72, e73, h⟩ := bind2_some h
        refine AW.sg tt_okL4 [(33, vi64 y72), (32, .c (.ptr 26 3 0 0))] [21, 22, 26] [(26, .box 24 [ci64 y71.Prior, .ref 21 1 0 y71.Match.length, .ref 22 1 0 y71.Random.length]), (21, .row 3 false 1 y71.Match.length (Ri64 y71.Match)), (22, .row 3 false 1 y71.Random.length (Ri64 y71.Random))] 29 [hn, hn, hm [] [] 2 (rl_ref24_Step_con (([p1, y10] : List S_em_model).getD (0 + x17.toNat) dS_em_model) (([p3, y51] : List (List Int)).getD (0 + x58.toNat) ([] : List Int)) (y71, y72) e73) ⟨rowL_flat Vi64 _ _ _, rowL_flat Vi64 _ _ _, tv⟩] (by kernel_rfl) ?_
        refine AW.seq (AW.seq ?_)
        refine AW.join (ι := Bool) (fun v => ⟨[(3, vl 1 Ri64 p3), (4, vi64 p4), (5, vi64 p5), (8, .c (.ptr 0 3 0 0)), (13, .c (.ptr 1 3 0 0)), (14, vi64 (i64.wrap (1 + y7))), (17, .c (.ptr 2 3 0 0)), (29, vl 1 Ri64 (([p3, y51] : List (List Int)).getD (0 + x58.toNat) ([] : List Int))), (89, .c (.ref 3 3 0 (([p1, y10] : List S_em_model).length))), (90, vi64 ((([p1, y10] : List S_em_model).length : Nat) : Int)), (91, vi64 x17), (152, .c (.ref 4 1 0 (([p3, y51] : List (List Int)).length))), (153, vi64 ((([p3, y51] : List (List Int)).length : Nat) : Int)), (154, vi64 x58), (178, vb v)], [(0, .box 24 [ci64 p2.Prior, cl 1 Ri64 p2.Match, cl 1 Ri64 p2.Random]), (1, .box 75 [cl 1 Ri64 x59, ci64 x60, cu64 x61]), (2, .box 24 [ci64 ((([p1, y10] : List S_em_model).getD (0 + x17.toNat) dS_em_model).Prior), cl 1 Ri64 ((([p1, y10] : List S_em_model).getD (0 + x17.toNat) dS_em_model).Match), cl 1 Ri64 ((([p1, y10] : List S_em_model).getD (0 + x17.toNat) dS_em_model).Random)]), (3, .row 24 false 3 ([p1, y10] : List S_em_model).length (RS_em_model ([p1, y10] : List S_em_model))), (4, .row 22 false 1 ([p3, y51] : List (List Int)).length (Rli64 ([p3, y51] : List (List Int))))], 5⟩) (fun v : Bool => rl_law24_EmExact_k6 p1 p3 p5 y10 x17 y51 x58 x59 x60 x61 v = some o) (fun x74 h => ?_) ?_
        ·
         unfold rl_law24_EmExact_k6 at h
         refine AW.tn ?_
         refine AW.co h (by kernel_rfl) (fun c75 h => ?_) (fun c75 h => ?_)
         ·
          refine AW.sg tt_okL4 [(12, vb false)] [] [] 6 [] (by kernel_rfl) ?_
          refine AW.ret (AW.tr ?_)
          refine AW.inBlock_ret (AW.tr ?_)
          exact lpo h rfl (conv_re [] (by kernel_rfl))
         ·
          refine AW.skip (AW.tn ?_)
          obtain ⟨y76, y77, e78, h⟩ := bind2_some h
          refine AW.sg tt_okL4 [(184, vi64 0), (183, vi64 ((([p5, y76] : List Int).length : Nat) : Int)), (182, .c (.ref 7 1 0 (([p5, y76] : List Int).length)))] [1, 7] [(7, .row 3 false 1 ([p5, y76] : List Int).length (Ri64 ([p5, y76] : List Int))), (1, .box 75 [cl 1 Ri64 y77.list, ci64 y77.at_, cu64 y77.state])] 10 [hn, hn, hl [1] [] 0 (rl_make_Deck_Next_con (⟨x59, x60, x61⟩ : S_recordlinkmake_Deck) 4 (y76, y77) e78), hlit 0 Ei64 1 (fun _ => rfl) ([p5, y76] : List Int)] (by kernel_rfl) ?_
          refine AW.block ?_
          refine AW.lpE h (fun v => ⟨[(3, vl 1 Ri64 p3), (4, vi64 p4), (5, vi64 p5), (8, .c (.ptr 0 3 0 0)), (13, .c (.ptr 1 3 0 0)), (14, vi64 (i64.wrap (1 + y7))), (17, .c (.ptr 2 3 0 0)), (29, vl 1 Ri64 (([p3, y51] : List (List Int)).getD (0 + x58.toNat) ([] : List Int))), (89, .c (.ref 3 3 0 (([p1, y10] : List S_em_model).length))), (90, vi64 ((([p1, y10] : List S_em_model).length : Nat) : Int)), (91, vi64 x17), (152, .c (.ref 4 1 0 (([p3, y51] : List (List Int)).length))), (153, vi64 ((([p3, y51] : List (List Int)).length : Nat) : Int)), (154, vi64 x58), (182, .c (.ref 5 1 0 (([p5, y76] : List Int).length))), (183, vi64 ((([p5, y76] : List Int).length : Nat) : Int)), (184, vi64 v)], [(0, .box 24 [ci64 p2.Prior, cl 1 Ri64 p2.Match, cl 1 Ri64 p2.Random]), (1, .box 75 [cl 1 Ri64 y77.list, ci64 y77.at_, cu64 y77.state]), (2, .box 24 [ci64 ((([p1, y10] : List S_em_model).getD (0 + x17.toNat) dS_em_model).Prior), cl 1 Ri64 ((([p1, y10] : List S_em_model).getD (0 + x17.toNat) dS_em_model).Match), cl 1 Ri64 ((([p1, y10] : List S_em_model).getD (0 + x17.toNat) dS_em_model).Random)]), (3, .row 24 false 3 ([p1, y10] : List S_em_model).length (RS_em_model ([p1, y10] : List S_em_model))), (4, .row 22 false 1 ([p3, y51] : List (List Int)).length (Rli64 ([p3, y51] : List (List Int)))), (5, .row 3 false 1 ([p5, y76] : List Int).length (Ri64 ([p5, y76] : List Int)))], 6⟩) (fun t => (.exit 6, ⟨[(3, vl 1 Ri64 p3), (4, vi64 p4), (5, vi64 p5), (8, .c (.ptr 0 3 0 0)), (13, .c (.ptr 1 3 0 0)), (14, vi64 (i64.wrap (1 + y7))), (17, .c (.ptr 2 3 0 0)), (89, .c (.ref 3 3 0 (([p1, y10] : List S_em_model).length))), (90, vi64 ((([p1, y10] : List S_em_model).length : Nat) : Int)), (91, vi64 x17), (152, .c (.ref 4 1 0 (([p3, y51] : List (List Int)).length))), (153, vi64 ((([p3, y51] : List (List Int)).length : Nat) : Int)), (154, vi64 x58)], [(0, .box 24 [ci64 p2.Prior, cl 1 Ri64 p2.Match, cl 1 Ri64 p2.Random]), (1, .box 75 [cl 1 Ri64 y77.list, ci64 y77.at_, cu64 y77.state]), (2, .box 24 [ci64 ((([p1, y10] : List S_em_model).getD (0 + x17.toNat) dS_em_model).Prior), cl 1 Ri64 ((([p1, y10] : List S_em_model).getD (0 + x17.toNat) dS_em_model).Match), cl 1 Ri64 ((([p1, y10] : List S_em_model).getD (0 + x17.toNat) dS_em_model).Random)]), (3, .row 24 false 3 ([p1, y10] : List S_em_model).length (RS_em_model ([p1, y10] : List S_em_model))), (4, .row 22 false 1 ([p3, y51] : List (List Int)).length (Rli64 ([p3, y51] : List (List Int))))], 5⟩)) (fun t => (.ret, ⟨[(12, vb false)], [], 0⟩)) (conv_re [(0, 0), (1, 1), (2, 2), (3, 3), (4, 4), (5, 7)] (by kernel_rfl)) (fun _ => tv) (fun _ => tv) ?_ (fun t h => ?_) (fun t h => ?_)
          ·
           clear h
           intro x80 o h
           unfold rl_law24_EmExact_l7 at h
           refine AW.sg tt_okL4 [(185, vb (decide (x80 < ((([p5, y76] : List Int).length : Nat) : Int))))] [] [] 7 [] (by kernel_rfl) ?_
           refine AW.seq ?_
           refine AW.co h (by kernel_rfl) (fun c81 h => ?_) (fun c81 h => ?_)
           ·
            refine AW.skip (AW.tn ?_)
            refine AW.seq (AW.block ?_)
            obtain ⟨g82, g83, h⟩ := ifd h
            refine AW.sg tt_okL4 [(35, vi64 (([p5, y76] : List Int).getD (0 + x80.toNat) 0))] [] [] 10 [hq g82 g83, ho (p := (0 + x80.toNat) < ([p5, y76] : List Int).length) (by have h1 : 0 ≤ x80 := g82; have h2 : x80 < ((([p5, y76] : List Int).length : Nat) : Int) := g83; omega)] (by kernel_rfl) ?_
            refine AW.seq ?_
            refine AW.join (ι := Int) (fun v => ⟨[(3, vl 1 Ri64 p3), (4, vi64 p4), (5, vi64 p5), (8, .c (.ptr 0 3 0 0)), (13, .c (.ptr 1 3 0 0)), (14, vi64 (i64.wrap (1 + y7))), (17, .c (.ptr 2 3 0 0)), (29, vl 1 Ri64 (([p3, y51] : List (List Int)).getD (0 + x58.toNat) ([] : List Int))), (35, vi64 v), (89, .c (.ref 3 3 0 (([p1, y10] : List S_em_model).length))), (90, vi64 ((([p1, y10] : List S_em_model).length : Nat) : Int)), (91, vi64 x17), (152, .c (.ref 4 1 0 (([p3, y51] : List (List Int)).length))), (153, vi64 ((([p3, y51] : List (List Int)).length : Nat) : Int)), (154, vi64 x58), (182, .c (.ref 5 1 0 (([p5, y76] : List Int).length))), (183, vi64 ((([p5, y76] : List Int).length : Nat) : Int)), (184, vi64 x80)], [(0, .box 24 [ci64 p2.Prior, cl 1 Ri64 p2.Match, cl 1 Ri64 p2.Random]), (1, .box 75 [cl 1 Ri64 y77.list, ci64 y77.at_, cu64 y77.state]), (2, .box 24 [ci64 ((([p1, y10] : List S_em_model).getD (0 + x17.toNat) dS_em_model).Prior), cl 1 Ri64 ((([p1, y10] : List S_em_model).getD (0 + x17.toNat) dS_em_model).Match), cl 1 Ri64 ((([p1, y10] : List S_em_model).getD (0 + x17.toNat) dS_em_model).Random)]), (3, .row 24 false 3 ([p1, y10] : List S_em_model).length (RS_em_model ([p1, y10] : List S_em_model))), (4, .row 22 false 1 ([p3, y51] : List (List Int)).length (Rli64 ([p3, y51] : List (List Int)))), (5, .row 3 false 1 ([p5, y76] : List Int).length (Ri64 ([p5, y76] : List Int)))], 6⟩) (fun v : Int => rl_law24_EmExact_k8 p1 p3 y10 x17 y51 x58 x80 v = some o) (fun x84 h => ?_) ?_
            ·
             unfold rl_law24_EmExact_k8 at h
             refine AW.tn ?_
             obtain ⟨y85, y86, y87, e88, h⟩ := bind3_some h
             refine AW.sg tt_okL4 [(38, vi64 y87), (37, vi64 y86), (36, .c (.ptr 15 3 0 0))] [9, 10, 15] [(15, .box 24 [ci64 y85.Prior, .ref 9 1 0 y85.Match.length, .ref 10 1 0 y85.Random.length]), (9, .row 3 false 1 y85.Match.length (Ri64 y85.Match)), (10, .row 3 false 1 y85.Random.length (Ri64 y85.Random))] 19 [hn, hn, hn, hm [] [] 2 (em_Run_con (([p1, y10] : List S_em_model).getD (0 + x17.toNat) dS_em_model) (([p3, y51] : List (List Int)).getD (0 + x58.toNat) ([] : List Int)) x84 (y85, y86, y87) e88) ⟨rowL_flat Vi64 _ _ _, rowL_flat Vi64 _ _ _, tv⟩] (by kernel_rfl) ?_
             obtain ⟨y89, y90, y91, e92, h⟩ := bind3_some h
             refine AW.sg tt_okL4 [(41, vi64 y91), (40, vi64 y90), (39, .c (.ptr 28 3 0 0))] [22, 23, 28] [(28, .box 24 [ci64 y89.Prior, .ref 22 1 0 y89.Match.length, .ref 23 1 0 y89.Random.length]), (22, .row 3 false 1 y89.Match.length (Ri64 y89.Match)), (23, .row 3 false 1 y89.Random.length (Ri64 y89.Random))] 32 [hn, hn, hn, hm [] [] 2 (rl_ref24_Run_con (([p1, y10] : List S_em_model).getD (0 + x17.toNat) dS_em_model) (([p3, y51] : List (List Int)).getD (0 + x58.toNat) ([] : List Int)) x84 (y89, y90, y91) e92) ⟨rowL_flat Vi64 _ _ _, rowL_flat Vi64 _ _ _, tv⟩] (by kernel_rfl) ?_
             refine AW.seq ?_
             refine AW.join (ι := Bool) (fun v => ⟨[(3, vl 1 Ri64 p3), (4, vi64 p4), (5, vi64 p5), (8, .c (.ptr 0 3 0 0)), (13, .c (.ptr 1 3 0 0)), (14, vi64 (i64.wrap (1 + y7))), (17, .c (.ptr 2 3 0 0)), (29, vl 1 Ri64 (([p3, y51] : List (List Int)).getD (0 + x58.toNat) ([] : List Int))), (89, .c (.ref 3 3 0 (([p1, y10] : List S_em_model).length))), (90, vi64 ((([p1, y10] : List S_em_model).length : Nat) : Int)), (91, vi64 x17), (152, .c (.ref 4 1 0 (([p3, y51] : List (List Int)).length))), (153, vi64 ((([p3, y51] : List (List Int)).length : Nat) : Int)), (154, vi64 x58), (182, .c (.ref 5 1 0 (([p5, y76] : List Int).length))), (183, vi64 ((([p5, y76] : List Int).length : Nat) : Int)), (184, vi64 x80), (223, vb v)], [(0, .box 24 [ci64 p2.Prior, cl 1 Ri64 p2.Match, cl 1 Ri64 p2.Random]), (1, .box 75 [cl 1 Ri64 y77.list, ci64 y77.at_, cu64 y77.state]), (2, .box 24 [ci64 ((([p1, y10] : List S_em_model).getD (0 + x17.toNat) dS_em_model).Prior), cl 1 Ri64 ((([p1, y10] : List S_em_model).getD (0 + x17.toNat) dS_em_model).Match), cl 1 Ri64 ((([p1, y10] : List S_em_model).getD (0 + x17.toNat) dS_em_model).Random)]), (3, .row 24 false 3 ([p1, y10] : List S_em_model).length (RS_em_model ([p1, y10] : List S_em_model))), (4, .row 22 false 1 ([p3, y51] : List (List Int)).length (Rli64 ([p3, y51] : List (List Int)))), (5, .row 3 false 1 ([p5, y76] : List Int).length (Ri64 ([p5, y76] : List Int)))], 6⟩) (fun v : Bool => rl_law24_EmExact_k9 x80 v = some o) (fun x93 h => ?_) ?_
             ·
              unfold rl_law24_EmExact_k9 at h
              refine AW.tn ?_
              refine AW.co h (by kernel_rfl) (fun c94 h => ?_) (fun c94 h => ?_)
              ·
               refine AW.sg tt_okL4 [(12, vb false)] [] [] 7 [] (by kernel_rfl) ?_
               refine AW.ret (AW.inBlock_ret (AW.tr ?_))
               exact lpo h rfl (conv_re [] (by kernel_rfl))
              ·
               refine AW.skip (AW.inBlock_normal (AW.tn ?_))
               refine AW.rg tt_okL4 [(184, vi64 (i64.wrap (x80 + 1)))] [] [] 8 [] (by kernel_rfl) ?_
               exact lpn h (conv_re [(0, 0), (1, 1), (2, 2), (3, 3), (4, 4), (5, 5)] (by kernel_rfl))
             ·
              rcases ifs h with ⟨c95, h⟩ | ⟨c95, h⟩
              ·
               refine AW.rg tt_okL4 [(223, vb true)] [] [] 46 [hn, hn, ht c95] (by kernel_rfl) ?_
               exact jl true h (conv_re [(0, 0), (1, 1), (2, 2), (3, 3), (4, 4), (5, 5)] (by kernel_rfl))
              ·
               rcases ifs h with ⟨c96, h⟩ | ⟨c96, h⟩
               ·
                refine AW.rg tt_okL4 [(223, vb true)] [] [] 46 [hn, hn, hf c95, hn, hn, hn, ht c96] (by kernel_rfl) ?_
                exact jl true h (conv_re [(0, 0), (1, 1), (2, 2), (3, 3), (4, 4), (5, 5)] (by kernel_rfl))
               ·
                obtain ⟨y97, e98, h⟩ := bnd_some h
                refine AW.rg tt_okL4 [(223, vb (!y97))] [] [] 45 [hn, hn, hf c95, hn, hn, hn, hf c96, hn, hn, hn, hn, hg [] [] true 0 (q := ((True) ∧ (0 + y85.Match.length ≤ y85.Match.length) ∧ (0 + y85.Random.length ≤ y85.Random.length) ∧ (True)) ∧ ((True) ∧ (0 + y89.Match.length ≤ y89.Match.length) ∧ (0 + y89.Random.length ≤ y89.Random.length) ∧ (True)) ∧ (True)) ⟨⟨tv, le0, le0, tv⟩, ⟨tv, le0, le0, tv⟩, tv⟩ (a0 := [.agg [ci64 y85.Prior, cl 1 Ri64 y85.Match, cl 1 Ri64 y85.Random], .agg [ci64 y89.Prior, cl 1 Ri64 y89.Match, cl 1 Ri64 y89.Random]]) (rl_ref24_Same_con y85 y89 y97 e98) ⟨ArgLe.refl _, ArgLe.refl _, tv⟩ (fun _ => tv)] (by kernel_rfl) ?_
                exact jl (!y97) h (conv_re [(0, 0), (1, 1), (2, 2), (3, 3), (4, 4), (5, 5)] (by kernel_rfl))
            ·
             refine AW.seq ?_
             refine AW.join (ι := Bool) (fun v => ⟨[(3, vl 1 Ri64 p3), (4, vi64 p4), (5, vi64 p5), (8, .c (.ptr 0 3 0 0)), (13, .c (.ptr 1 3 0 0)), (14, vi64 (i64.wrap (1 + y7))), (17, .c (.ptr 2 3 0 0)), (29, vl 1 Ri64 (([p3, y51] : List (List Int)).getD (0 + x58.toNat) ([] : List Int))), (35, vi64 (([p5, y76] : List Int).getD (0 + x80.toNat) 0)), (89, .c (.ref 3 3 0 (([p1, y10] : List S_em_model).length))), (90, vi64 ((([p1, y10] : List S_em_model).length : Nat) : Int)), (91, vi64 x17), (152, .c (.ref 4 1 0 (([p3, y51] : List (List Int)).length))), (153, vi64 ((([p3, y51] : List (List Int)).length : Nat) : Int)), (154, vi64 x58), (182, .c (.ref 5 1 0 (([p5, y76] : List Int).length))), (183, vi64 ((([p5, y76] : List Int).length : Nat) : Int)), (184, vi64 x80), (193, vb v)], [(0, .box 24 [ci64 p2.Prior, cl 1 Ri64 p2.Match, cl 1 Ri64 p2.Random]), (1, .box 75 [cl 1 Ri64 y77.list, ci64 y77.at_, cu64 y77.state]), (2, .box 24 [ci64 ((([p1, y10] : List S_em_model).getD (0 + x17.toNat) dS_em_model).Prior), cl 1 Ri64 ((([p1, y10] : List S_em_model).getD (0 + x17.toNat) dS_em_model).Match), cl 1 Ri64 ((([p1, y10] : List S_em_model).getD (0 + x17.toNat) dS_em_model).Random)]), (3, .row 24 false 3 ([p1, y10] : List S_em_model).length (RS_em_model ([p1, y10] : List S_em_model))), (4, .row 22 false 1 ([p3, y51] : List (List Int)).length (Rli64 ([p3, y51] : List (List Int)))), (5, .row 3 false 1 ([p5, y76] : List Int).length (Ri64 ([p5, y76] : List Int)))], 6⟩) (fun v : Bool => rl_law24_EmExact_k10 p1 p3 p5 y10 x17 y51 x58 y76 x80 v = some o) (fun x99 h => ?_) ?_
             ·
              unfold rl_law24_EmExact_k10 at h
              refine AW.tn ?_
              refine AW.co h (by kernel_rfl) (fun c100 h => ?_) (fun c100 h => ?_)
              ·
               refine AW.rg tt_okL4 [(35, vi64 4)] [] [] 7 [] (by kernel_rfl) ?_
               exact jl 4 h (conv_re [(0, 0), (1, 1), (2, 2), (3, 3), (4, 4), (5, 5)] (by kernel_rfl))
              ·
               refine AW.skip ?_
               exact jl (([p5, y76] : List Int).getD (0 + x80.toNat) 0) h (conv_re [(0, 0), (1, 1), (2, 2), (3, 3), (4, 4), (5, 5)] (by kernel_rfl))
             ·
              rcases ifs h with ⟨c101, h⟩ | ⟨c101, h⟩
              ·
               refine AW.rg tt_okL4 [(193, vb (decide ((([p5, y76] : List Int).getD (0 + x80.toNat) 0) ≤ 16)))] [] [] 16 [hn, ht c101] (by kernel_rfl) ?_
               exact jl (decide ((([p5, y76] : List Int).getD (0 + x80.toNat) 0) ≤ 16)) h (conv_re [(0, 0), (1, 1), (2, 2), (3, 3), (4, 4), (5, 5)] (by kernel_rfl))
              ·
               refine AW.rg tt_okL4 [(193, vb false)] [] [] 16 [hn, hf c101] (by kernel_rfl) ?_
               exact jl false h (conv_re [(0, 0), (1, 1), (2, 2), (3, 3), (4, 4), (5, 5)] (by kernel_rfl))
           ·
            refine AW.exit (AW.thenQ_exit ?_)
            exact lpo h rfl (conv_re [(0, 0), (1, 1), (2, 2), (3, 3), (4, 4)] (by kernel_rfl))
          ·
           replace h : rl_law24_EmExact_a11 x58 y77 = some o := h
           unfold rl_law24_EmExact_a11 at h
           show (_ : Exit → St → Prop) (.exit 6) _
           refine AW.inBlock_hit (AW.inBlock_normal (AW.tn ?_))
           refine AW.rg tt_okL4 [(154, vi64 (i64.wrap (x58 + 1)))] [] [] 7 [] (by kernel_rfl) ?_
           exact lpn h (conv_re [(0, 0), (1, 1), (2, 2), (3, 3), (4, 4)] (by kernel_rfl))
          ·
           replace h : rl_law24_EmExact_a12 = some o := h
           unfold rl_law24_EmExact_a12 at h
           show (_ : Exit → St → Prop) (.ret) _
           refine AW.inBlock_ret (AW.inBlock_ret (AW.tr ?_))
           exact lpo h rfl (conv_re [] (by kernel_rfl))
        ·
         rcases ifs h with ⟨c103, h⟩ | ⟨c103, h⟩
         ·
          refine AW.rg tt_okL4 [(178, vb true)] [] [] 38 [hn, hn, ht c103] (by kernel_rfl) ?_
          exact jl true h (conv_re [(0, 0), (1, 1), (2, 2), (3, 3), (4, 4)] (by kernel_rfl))
         ·
          obtain ⟨y104, e105, h⟩ := bnd_some h
          refine AW.rg tt_okL4 [(178, vb (!y104))] [] [] 37 [hn, hn, hf c103, hn, hn, hn, hg [] [] true 0 (q := ((True) ∧ (0 + y68.Match.length ≤ y68.Match.length) ∧ (0 + y68.Random.length ≤ y68.Random.length) ∧ (True)) ∧ ((True) ∧ (0 + y71.Match.length ≤ y71.Match.length) ∧ (0 + y71.Random.length ≤ y71.Random.length) ∧ (True)) ∧ (True)) ⟨⟨tv, le0, le0, tv⟩, ⟨tv, le0, le0, tv⟩, tv⟩ (a0 := [.agg [ci64 y68.Prior, cl 1 Ri64 y68.Match, cl 1 Ri64 y68.Random], .agg [ci64 y71.Prior, cl 1 Ri64 y71.Match, cl 1 Ri64 y71.Random]]) (rl_ref24_Same_con y68 y71 y104 e105) ⟨ArgLe.refl _, ArgLe.refl _, tv⟩ (fun _ => tv)] (by kernel_rfl) ?_
          exact jl (!y104) h (conv_re [(0, 0), (1, 1), (2, 2), (3, 3), (4, 4)] (by kernel_rfl))
       ·
        refine AW.exit (AW.thenQ_exit ?_)
        exact lpo h rfl (conv_re [(0, 0), (1, 1), (2, 2), (3, 3)] (by kernel_rfl))
      ·
       obtain ⟨x106, x107, x108⟩ := t
       replace h : rl_law24_EmExact_a14 p1 p2 y10 x17 x106 x107 x108 = some o := h
       unfold rl_law24_EmExact_a14 at h
       show (_ : Exit → St → Prop) (.exit 4) _
       refine AW.inBlock_hit (AW.tn (AW.seq ?_))
       refine AW.join (ι := Bool) (fun v => ⟨[(3, vl 1 Ri64 p3), (4, vi64 p4), (5, vi64 p5), (8, .c (.ptr 0 3 0 0)), (13, .c (.ptr 1 3 0 0)), (14, vi64 (i64.wrap (1 + y7))), (89, .c (.ref 2 3 0 (([p1, y10] : List S_em_model).length))), (90, vi64 ((([p1, y10] : List S_em_model).length : Nat) : Int)), (91, vi64 x17), (245, vb v)], [(0, .box 24 [ci64 p2.Prior, cl 1 Ri64 p2.Match, cl 1 Ri64 p2.Random]), (1, .box 75 [cl 1 Ri64 x106, ci64 x107, cu64 x108]), (2, .row 24 false 3 ([p1, y10] : List S_em_model).length (RS_em_model ([p1, y10] : List S_em_model)))], 3⟩) (fun v : Bool => rl_law24_EmExact_k13 x17 x106 x107 x108 v = some o) (fun x109 h => ?_) ?_
       ·
        unfold rl_law24_EmExact_k13 at h
        refine AW.tn ?_
        refine AW.co h (by kernel_rfl) (fun c110 h => ?_) (fun c110 h => ?_)
        ·
         refine AW.sg tt_okL4 [(12, vb false)] [] [] 4 [] (by kernel_rfl) ?_
         refine AW.ret (AW.inBlock_ret (AW.tr ?_))
         exact lpo h rfl (conv_re [] (by kernel_rfl))
        ·
         refine AW.skip (AW.inBlock_normal (AW.tn ?_))
         refine AW.rg tt_okL4 [(91, vi64 (i64.wrap (x17 + 1)))] [] [] 5 [] (by kernel_rfl) ?_
         exact lpn h (conv_re [(0, 0), (1, 1), (2, 2)] (by kernel_rfl))
       ·
        obtain ⟨y111, e112, h⟩ := bnd_some h
        obtain ⟨y113, e114, h⟩ := bnd_some h
        rcases ifs h with ⟨c115, h⟩ | ⟨c115, h⟩
        ·
         refine AW.rd tt_okL4 moL4 [] [(245, vb true)] [] 22 [hn, hk (em_Check_con (([p1, y10] : List S_em_model).getD (0 + x17.toNat) dS_em_model) y111 e112), hn, hk (rl_ref24_Check_con (([p1, y10] : List S_em_model).getD (0 + x17.toNat) dS_em_model) y113 e114), ht c115] (by kernel_rfl) ?_
         exact jl true h (conv_re [(0, 0), (1, 1), (2, 3)] (by kernel_rfl))
        ·
         obtain ⟨y116, e117, h⟩ := bnd_some h
         obtain ⟨y118, e119, h⟩ := bnd_some h
         rcases ifs h with ⟨c120, h⟩ | ⟨c120, h⟩
         ·
          refine AW.rd tt_okL4 moL4 [] [(245, vb true)] [] 20 [hn, hk (em_Check_con (([p1, y10] : List S_em_model).getD (0 + x17.toNat) dS_em_model) y111 e112), hn, hk (rl_ref24_Check_con (([p1, y10] : List S_em_model).getD (0 + x17.toNat) dS_em_model) y113 e114), hf c115, hn, hn, hn, hk (em_Same_con (([p1, y10] : List S_em_model).getD (0 + x17.toNat) dS_em_model) p2 y116 e117), hn, hn, hk (rl_ref24_Same_con (([p1, y10] : List S_em_model).getD (0 + x17.toNat) dS_em_model) p2 y118 e119), ht c120] (by kernel_rfl) ?_
          exact jl true h (conv_re [(0, 0), (1, 1), (2, 3)] (by kernel_rfl))
         ·
          obtain ⟨y121, e122, h⟩ := bnd_some h
          refine AW.rd tt_okL4 moL4 [] [(245, vb (!y121))] [] 19 [hn, hk (em_Check_con (([p1, y10] : List S_em_model).getD (0 + x17.toNat) dS_em_model) y111 e112), hn, hk (rl_ref24_Check_con (([p1, y10] : List S_em_model).getD (0 + x17.toNat) dS_em_model) y113 e114), hf c115, hn, hn, hn, hk (em_Same_con (([p1, y10] : List S_em_model).getD (0 + x17.toNat) dS_em_model) p2 y116 e117), hn, hn, hk (rl_ref24_Same_con (([p1, y10] : List S_em_model).getD (0 + x17.toNat) dS_em_model) p2 y118 e119), hf c120, hn, hn, hn, hn, hk (em_Same_con (([p1, y10] : List S_em_model).getD (0 + x17.toNat) dS_em_model) (([p1, y10] : List S_em_model).getD (0 + x17.toNat) dS_em_model) y121 e122)] (by kernel_rfl) ?_
          exact jl (!y121) h (conv_re [(0, 0), (1, 1), (2, 3)] (by kernel_rfl))
      ·
       replace h : rl_law24_EmExact_a15 = some o := h
       unfold rl_law24_EmExact_a15 at h
       show (_ : Exit → St → Prop) (.ret) _
       refine AW.inBlock_ret (AW.tr ?_)
       refine AW.inBlock_ret (AW.tr ?_)
       exact lpo h rfl (conv_re [] (by kernel_rfl))
     ·
      replace h : rl_law24_EmExact_a17 = some o := h
      unfold rl_law24_EmExact_a17 at h
      show (_ : Exit → St → Prop) (.ret) _
      refine AW.inBlock_ret (AW.tr ?_)
      refine AW.inBlock_ret (AW.tr ?_)
      exact lpo h rfl (conv_re [] (by kernel_rfl))
    ·
     refine AW.exit (AW.thenQ_exit ?_)
     exact lpo h rfl (conv_re [] (by kernel_rfl))
   ·
    replace h : rl_law24_EmExact_a18 = some r := h
    unfold rl_law24_EmExact_a18 at h
    show (_ : Exit → St → Prop) (.exit 0) _
    refine AW.inBlock_hit (AW.tn ?_)
    refine AW.sg tt_okL4 [(12, vb true)] [] [] 1 [] (by kernel_rfl) ?_
    refine AW.ret ?_
    obtain rfl := some_inj h
    exact fn0 (.inr rfl) [] 0 (vb true) (by kernel_rfl)
   ·
    replace h : rl_law24_EmExact_a19 = some r := h
    unfold rl_law24_EmExact_a19 at h
    show (_ : Exit → St → Prop) (.ret) _
    refine AW.inBlock_ret (AW.tr ?_)
    obtain rfl := some_inj h
    exact fn0 (.inr rfl) [] 0 (vb false) (by kernel_rfl)
 ·
  obtain ⟨y126, e127, h⟩ := bnd_some h
  rcases ifs h with ⟨c128, h⟩ | ⟨c128, h⟩
  ·
   refine AW.rg tt_okL4 [(77, vb true)] [] [] 38 [hk (rl_law24_awake_con y126 e127), ht c128] (by kernel_rfl) ?_
   exact jl true h (conv_re [(0, 0), (1, 1)] (by kernel_rfl))
  ·
   obtain ⟨y129, e130, h⟩ := bnd_some h
   rcases ifs h with ⟨c131, h⟩ | ⟨c131, h⟩
   ·
    refine AW.rg tt_okL4 [(77, vb true)] [] [] 37 [hk (rl_law24_awake_con y126 e127), hf c128, hn, hn, hk (rl_make_Few_con p0 y129 e130), ht c131] (by kernel_rfl) ?_
    exact jl true h (conv_re [(0, 0), (1, 1)] (by kernel_rfl))
   ·
    rcases ifs h with ⟨c132, h⟩ | ⟨c132, h⟩
    ·
     refine AW.rg tt_okL4 [(77, vb true)] [] [] 37 [hk (rl_law24_awake_con y126 e127), hf c128, hn, hn, hk (rl_make_Few_con p0 y129 e130), hf c131, hn, hn, hn, hn, hn, ht c132] (by kernel_rfl) ?_
     exact jl true h (conv_re [(0, 0), (1, 1)] (by kernel_rfl))
    ·
     rcases ifs h with ⟨c133, h⟩ | ⟨c133, h⟩
     ·
      refine AW.rg tt_okL4 [(77, vb true)] [] [] 37 [hk (rl_law24_awake_con y126 e127), hf c128, hn, hn, hk (rl_make_Few_con p0 y129 e130), hf c131, hn, hn, hn, hn, hn, hf c132, hn, hn, hn, hn, hn, ht c133] (by kernel_rfl) ?_
      exact jl true h (conv_re [(0, 0), (1, 1)] (by kernel_rfl))
     ·
      rcases ifs h with ⟨c134, h⟩ | ⟨c134, h⟩
      ·
       refine AW.rg tt_okL4 [(77, vb true)] [] [] 37 [hk (rl_law24_awake_con y126 e127), hf c128, hn, hn, hk (rl_make_Few_con p0 y129 e130), hf c131, hn, hn, hn, hn, hn, hf c132, hn, hn, hn, hn, hn, hf c133, hn, hn, hn, hn, hn, ht c134] (by kernel_rfl) ?_
       exact jl true h (conv_re [(0, 0), (1, 1)] (by kernel_rfl))
      ·
       rcases ifs h with ⟨c135, h⟩ | ⟨c135, h⟩
       ·
        refine AW.rg tt_okL4 [(77, vb true)] [] [] 37 [hk (rl_law24_awake_con y126 e127), hf c128, hn, hn, hk (rl_make_Few_con p0 y129 e130), hf c131, hn, hn, hn, hn, hn, hf c132, hn, hn, hn, hn, hn, hf c133, hn, hn, hn, hn, hn, hf c134, hn, hn, hn, hn, hn, ht c135] (by kernel_rfl) ?_
        exact jl true h (conv_re [(0, 0), (1, 1)] (by kernel_rfl))
       ·
        refine AW.rg tt_okL4 [(77, vb (decide ((p3.length : Int) > 300)))] [] [] 37 [hk (rl_law24_awake_con y126 e127), hf c128, hn, hn, hk (rl_make_Few_con p0 y129 e130), hf c131, hn, hn, hn, hn, hn, hf c132, hn, hn, hn, hn, hn, hf c133, hn, hn, hn, hn, hn, hf c134, hn, hn, hn, hn, hn, hf c135] (by kernel_rfl) ?_
        exact jl (decide ((p3.length : Int) > 300)) h (conv_re [(0, 0), (1, 1)] (by kernel_rfl))
end Go.Proofs.YtilpgjoidgfbiaaGreat
