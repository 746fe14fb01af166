/- Printed by a program of mine (vmgen.py): Go functions, and what they come to. -/
import Derived.Test.YtafmpnilgknfhaaVr
import Derived.Test.YtafmpnilgknfhaaRows
import Derived.Test.YtafmpnilgknfhaaG1
namespace Go.Proofs.Ytafmpnilgknfhaa
open Vm
open IntKind (i64 u64 u32 u8)
set_option maxHeartbeats 10000000
set_option linter.unusedVariables false
set_option linter.unusedSimpArgs false
set_option linter.constructorNameAsVariable false
def ttlL8 : List (Nat × TI) := [(3, ⟨.int .i64, 1, 8, [.int .i64 0]⟩), (4, ⟨.bool, 1, 1, [.bool false]⟩), (5, ⟨.int .u8, 1, 1, [.int .u8 0]⟩), (9, ⟨.str, 1, 16, [.string ⟨#[]⟩]⟩), (22, ⟨.int .u16, 1, 2, [.int .u16 0]⟩), (23, ⟨.int .i64, 1, 8, [.int .i64 0]⟩), (29, ⟨.int .u64, 1, 8, [.int .u64 0]⟩), (31, ⟨.slice 3, 1, 24, [.slice none 0 0]⟩), (33, ⟨.ptr 60, 1, 8, [.pointer none]⟩), (36, ⟨.struct [(3, 0), (31, 1), (31, 2)], 3, 56, [.int .i64 0, .slice none 0 0, .slice none 0 0]⟩), (40, ⟨.struct [(3, 0), (31, 1), (31, 2)], 3, 56, [.int .i64 0, .slice none 0 0, .slice none 0 0]⟩), (48, ⟨.slice 36, 1, 24, [.slice none 0 0]⟩), (50, ⟨.slice 40, 1, 24, [.slice none 0 0]⟩), (53, ⟨.slice 78, 1, 24, [.slice none 0 0]⟩), (58, ⟨.int .u64, 1, 8, [.int .u64 0]⟩), (60, ⟨.struct [(31, 0), (3, 1), (58, 2)], 3, 40, [.slice none 0 0, .int .i64 0, .int .u64 0]⟩), (65, ⟨.arr 3 3, 3, 24, [.int .i64 0, .int .i64 0, .int .i64 0]⟩), (78, ⟨.int .u32, 1, 4, [.int .u32 0]⟩), (91, ⟨.arr 6 3, 6, 48, [.int .i64 0, .int .i64 0, .int .i64 0, .int .i64 0, .int .i64 0, .int .i64 0]⟩)]
theorem tt_okL8 : TTok Try.prog (Vm.look ttlL8) := ttok_of ⟨⟨by kernel_rfl, by kernel_rfl⟩, ⟨by kernel_rfl, by kernel_rfl⟩, ⟨by kernel_rfl, by kernel_rfl⟩, ⟨by kernel_rfl, by kernel_rfl⟩, ⟨by kernel_rfl, by kernel_rfl⟩, ⟨by kernel_rfl, by kernel_rfl⟩, ⟨by kernel_rfl, by kernel_rfl⟩, ⟨by kernel_rfl, by kernel_rfl⟩, ⟨by kernel_rfl, by kernel_rfl⟩, ⟨by kernel_rfl, by kernel_rfl⟩, ⟨by kernel_rfl, by kernel_rfl⟩, ⟨by kernel_rfl, by kernel_rfl⟩, ⟨by kernel_rfl, by kernel_rfl⟩, ⟨by kernel_rfl, by kernel_rfl⟩, ⟨by kernel_rfl, by kernel_rfl⟩, ⟨by kernel_rfl, by kernel_rfl⟩, ⟨by kernel_rfl, by kernel_rfl⟩, ⟨by kernel_rfl, by kernel_rfl⟩, ⟨by kernel_rfl, by kernel_rfl⟩, trivial⟩
theorem moL8 : Try.prog.follows .mixedOrders = true := by kernel_rfl
/-! recordlink/recordlinklaw25.WeightExact -/
noncomputable def rl_law25_WeightExact_k4 (x22 : Int) (x32 : Bool) : Option (Int ⊕ (Unit ⊕ Unit)) := if x32 = true then (some (.inr (.inr ()))) else (some (.inl (i64.wrap (x22 + 1))))
noncomputable def rl_law25_WeightExact_l3 (p4 : S_api_Model) (y18 : S_api_Model) (x22 : Int) : Option (Int ⊕ (Unit ⊕ Unit)) := if (decide (x22 < ((([p4, y18] : List S_api_Model).length : Nat) : Int))) = true then (if 0 ≤ x22 then (if x22 < ((([p4, y18] : List S_api_Model).length : Nat) : Int) then (bind2 (weight_Of (([p4, y18] : List S_api_Model).getD (0 + x22.toNat) dS_api_Model)) fun y26 y27 => (bind2 (rl_ref25_Of (([p4, y18] : List S_api_Model).getD (0 + x22.toNat) dS_api_Model)) fun y29 y30 => (if (y27 != y30) = true then (rl_law25_WeightExact_k4 x22 true) else ((rl_ref25_Same y26 y29).bind fun y35 => (rl_law25_WeightExact_k4 x22 (!y35)))))) else none) else none) else (some (.inr (.inl ())))
noncomputable def rl_law25_WeightExact_k8 (x73 : Int) (x89 : Bool) : Option (Int ⊕ (Unit ⊕ Unit)) := if x89 = true then (some (.inr (.inr ()))) else (some (.inl (i64.wrap (x73 + 1))))
noncomputable def rl_law25_WeightExact_l7 (p3 : S_api_Weights) (p5 : Int) (y37 : S_api_Weights) (y40 : S_api_Weights) (x47 : Int) (y69 : Int) (x73 : Int) : Option (Int ⊕ (Unit ⊕ Unit)) := if (decide (x73 < ((([p5, y69, 3, 0] : List Int).length : Nat) : Int))) = true then (if 0 ≤ x73 then (if x73 < ((([p5, y69, 3, 0] : List Int).length : Nat) : Int) then (bind2 (weight_Score (([p3, y37, y40] : List S_api_Weights).getD (0 + x47.toNat) dS_api_Weights) (([p5, y69, 3, 0] : List Int).getD (0 + x73.toNat) 0)) fun y77 y78 => (bind2 (rl_ref25_Score (([p3, y37, y40] : List S_api_Weights).getD (0 + x47.toNat) dS_api_Weights) (([p5, y69, 3, 0] : List Int).getD (0 + x73.toNat) 0)) fun y80 y81 => (bind2 (weight_Best (([p3, y37, y40] : List S_api_Weights).getD (0 + x47.toNat) dS_api_Weights) (([p5, y69, 3, 0] : List Int).getD (0 + x73.toNat) 0)) fun y83 y84 => (bind2 (rl_ref25_Best (([p3, y37, y40] : List S_api_Weights).getD (0 + x47.toNat) dS_api_Weights) (([p5, y69, 3, 0] : List Int).getD (0 + x73.toNat) 0)) fun y86 y87 => (if (y77 != y80) = true then (rl_law25_WeightExact_k8 x73 true) else (if (y78 != y81) = true then (rl_law25_WeightExact_k8 x73 true) else (if (y83 != y86) = true then (rl_law25_WeightExact_k8 x73 true) else (rl_law25_WeightExact_k8 x73 (y84 != y87))))))))) else none) else none) else (some (.inr (.inl ())))
noncomputable def rl_law25_WeightExact_a9 (x47 : Int) (y70 : S_recordlinkmake_Deck) : Option ((Int × (List Int) × Int × Int) ⊕ (Unit ⊕ Unit)) := some (.inl (i64.wrap (x47 + 1), y70.list, y70.at_, y70.state))
noncomputable def rl_law25_WeightExact_a10 : Option ((Int × (List Int) × Int × Int) ⊕ (Unit ⊕ Unit)) := some (.inr (.inr ()))
noncomputable def rl_law25_WeightExact_k6 (p3 : S_api_Weights) (p5 : Int) (y37 : S_api_Weights) (y40 : S_api_Weights) (x47 : Int) (x48 : List Int) (x49 : Int) (x50 : Int) (x67 : Bool) : Option ((Int × (List Int) × Int × Int) ⊕ (Unit ⊕ Unit)) := if x67 = true then (some (.inr (.inr ()))) else (bind2 (rl_make_Deck_Next (⟨x48, x49, x50⟩ : S_recordlinkmake_Deck) 81) fun y69 y70 => (bindE (loop (fun v : Int => rl_law25_WeightExact_l7 p3 p5 y37 y40 x47 y69 v) 0) (fun t => rl_law25_WeightExact_a9 x47 y70) (fun t => rl_law25_WeightExact_a10)))
noncomputable def rl_law25_WeightExact_l5 (p3 : S_api_Weights) (p5 : Int) (y37 : S_api_Weights) (y40 : S_api_Weights) (x47 : Int) (x48 : List Int) (x49 : Int) (x50 : Int) : Option ((Int × (List Int) × Int × Int) ⊕ (Unit ⊕ Unit)) := if (decide (x47 < ((([p3, y37, y40] : List S_api_Weights).length : Nat) : Int))) = true then (if 0 ≤ x47 then (if x47 < ((([p3, y37, y40] : List S_api_Weights).length : Nat) : Int) then ((weight_Check (([p3, y37, y40] : List S_api_Weights).getD (0 + x47.toNat) dS_api_Weights)).bind fun y54 => ((rl_ref25_Check (([p3, y37, y40] : List S_api_Weights).getD (0 + x47.toNat) dS_api_Weights)).bind fun y56 => (if (y54 != y56) = true then (some (.inr (.inr ()))) else (bind3 (weight_Bounds (([p3, y37, y40] : List S_api_Weights).getD (0 + x47.toNat) dS_api_Weights)) fun y59 y60 y61 => (bind3 (rl_ref25_Bounds (([p3, y37, y40] : List S_api_Weights).getD (0 + x47.toNat) dS_api_Weights)) fun y63 y64 y65 => (if (y59 != y63) = true then (rl_law25_WeightExact_k6 p3 p5 y37 y40 x47 x48 x49 x50 true) else (if (y60 != y64) = true then (rl_law25_WeightExact_k6 p3 p5 y37 y40 x47 x48 x49 x50 true) else (rl_law25_WeightExact_k6 p3 p5 y37 y40 x47 x48 x49 x50 (y61 != y65))))))))) else none) else none) else (some (.inr (.inl ())))
noncomputable def rl_law25_WeightExact_a11 : Option Bool := some true
noncomputable def rl_law25_WeightExact_a12 : Option Bool := some false
noncomputable def rl_law25_WeightExact_a13 (p3 : S_api_Weights) (p5 : Int) (y7 : Int) (y19 : S_recordlinkmake_Deck) : Option Bool := bind2 (rl_play_Weights y19 (i64.wrap (1 + y7))) fun y37 y38 => (bind2 (rl_play_BentWeights y38 (i64.wrap (1 + y7))) fun y40 y41 => (bindE (loop (fun v : Int × (List Int) × Int × Int => rl_law25_WeightExact_l5 p3 p5 y37 y40 v.1 v.2.1 v.2.2.1 v.2.2.2) (0, y41.list, y41.at_, y41.state)) (fun t => rl_law25_WeightExact_a11) (fun t => rl_law25_WeightExact_a12)))
noncomputable def rl_law25_WeightExact_a14 : Option Bool := some false
noncomputable def rl_law25_WeightExact_k2 (p3 : S_api_Weights) (p4 : S_api_Model) (p5 : Int) (y7 : Int) (y8 : S_recordlinkmake_Deck) (x16 : Bool) : Option Bool := if x16 = true then (some false) else (bind2 (rl_make_Deck_Model y8 (i64.wrap (1 + y7))) fun y18 y19 => (bindE (loop (fun v : Int => rl_law25_WeightExact_l3 p4 y18 v) 0) (fun t => rl_law25_WeightExact_a13 p3 p5 y7 y19) (fun t => rl_law25_WeightExact_a14)))
noncomputable def rl_law25_WeightExact_k1 (p0 : List Int) (p1 : Int) (p2 : Int) (p3 : S_api_Weights) (p4 : S_api_Model) (p5 : Int) (x1 : Bool) : Option Bool := if x1 = true then ((rl_law25_awake).bind fun y3 => (some y3)) else ((rl_make_New p0).bind fun y5 => (bind2 (rl_make_Deck_Next y5 4) fun y7 y8 => (bind2 (weight_Log p1 p2) fun y10 y11 => (bind2 (rl_ref25_Log p1 p2) fun y13 y14 => (if (y10 != y13) = true then (rl_law25_WeightExact_k2 p3 p4 p5 y7 y8 true) else (rl_law25_WeightExact_k2 p3 p4 p5 y7 y8 (y11 != y14)))))))
noncomputable def rl_law25_WeightExact (p0 : List Int) (p1 : Int) (p2 : Int) (p3 : S_api_Weights) (p4 : S_api_Model) (p5 : Int) : Option Bool := (rl_law25_awake).bind fun y100 => (if (!y100) = true then (rl_law25_WeightExact_k1 p0 p1 p2 p3 p4 p5 true) else ((rl_make_Few p0).bind fun y103 => (if (!y103) = true then (rl_law25_WeightExact_k1 p0 p1 p2 p3 p4 p5 true) else (if (decide ((i64.wrap (((p3.Agree.length : Nat) : Int) + ((p3.Differ.length : Nat) : Int))) > 40)) = true then (rl_law25_WeightExact_k1 p0 p1 p2 p3 p4 p5 true) else (rl_law25_WeightExact_k1 p0 p1 p2 p3 p4 p5 (decide ((i64.wrap (((p4.Match.length : Nat) : Int) + ((p4.Random.length : Nat) : Int))) > 40)))))))
set_option maxRecDepth 100000 in
theorem rl_law25_WeightExact_con (p0 : List Int) (p1 : Int) (p2 : Int) (p3 : S_api_Weights) (p4 : S_api_Model) (p5 : Int) (r : Bool) (h : rl_law25_WeightExact p0 p1 p2 p3 p4 p5 = some r) : Con Try.prog 8 [vl 1 Ri64 p0, vi64 p1, vi64 p2, .agg [ci64 p3.Prior, cl 1 Ri64 p3.Agree, cl 1 Ri64 p3.Differ], .agg [ci64 p4.Prior, cl 1 Ri64 p4.Match, cl 1 Ri64 p4.Random], vi64 p5] [] (vb r) [] := by
 refine con_of tt_okL8 0 Try.func8 (by kernel_rfl) rfl (by kernel_rfl) (fun base X _ => AW.post ?_)
 unfold rl_law25_WeightExact at h
 refine AW.sg tt_okL8 [(10, .c (.ptr 1 3 0 0)), (9, .c (.ptr 0 3 0 0))] [0, 1] [(1, .box 36 [ci64 p4.Prior, cl 1 Ri64 p4.Match, cl 1 Ri64 p4.Random]), (0, .box 40 [ci64 p3.Prior, cl 1 Ri64 p3.Agree, cl 1 Ri64 p3.Differ])] 3 [] (by kernel_rfl) ?_
 refine AW.seq (AW.seq ?_)
 refine AW.join (ι := Bool) (fun v => ⟨[(0, vl 1 Ri64 p0), (1, vi64 p1), (2, vi64 p2), (5, vi64 p5), (9, .c (.ptr 0 3 0 0)), (10, .c (.ptr 1 3 0 0)), (69, vb v)], [(0, .box 40 [ci64 p3.Prior, cl 1 Ri64 p3.Agree, cl 1 Ri64 p3.Differ]), (1, .box 36 [ci64 p4.Prior, cl 1 Ri64 p4.Match, cl 1 Ri64 p4.Random])], 2⟩) (fun v : Bool => rl_law25_WeightExact_k1 p0 p1 p2 p3 p4 p5 v = some r) (fun x1 h => ?_) ?_
 ·
  unfold rl_law25_WeightExact_k1 at h
  refine AW.tn ?_
  refine AW.co h (by kernel_rfl) (fun c2 h => ?_) (fun c2 h => ?_)
  ·
   obtain ⟨y3, e4, h⟩ := bnd_some h
   refine AW.sg tt_okL8 [(12, vb y3)] [] [] 3 [hk (rl_law25_awake_con y3 e4)] (by kernel_rfl) ?_
   refine AW.ret (AW.tr ?_)
   obtain rfl := some_inj h
   exact fn0 (.inr rfl) [] 0 (vb y3) (by kernel_rfl)
  ·
   refine AW.skip (AW.tn ?_)
   obtain ⟨y5, e6, h⟩ := bnd_some h
   refine AW.sg tt_okL8 [(13, .c (.ptr 3 3 0 0))] [3] [(3, .box 60 [cl 1 Ri64 y5.list, ci64 y5.at_, cu64 y5.state])] 5 [hn, hl [] [] 1 (rl_make_New_con p0 y5 e6)] (by kernel_rfl) ?_
   obtain ⟨y7, y8, e9, h⟩ := bind2_some h
   refine AW.sg tt_okL8 [(14, vi64 (i64.wrap (1 + y7)))] [3] [(3, .box 60 [cl 1 Ri64 y8.list, ci64 y8.at_, cu64 y8.state])] 8 [hn, hl [3] [] 0 (rl_make_Deck_Next_con y5 4 (y7, y8) e9)] (by kernel_rfl) ?_
   obtain ⟨y10, y11, e12, h⟩ := bind2_some h
   refine AW.sg tt_okL8 [(16, vi64 y11), (15, vi64 y10)] [] [] 15 [hn, hn, hk (weight_Log_con p1 p2 (y10, y11) e12)] (by kernel_rfl) ?_
   obtain ⟨y13, y14, e15, h⟩ := bind2_some h
   refine AW.sg tt_okL8 [(18, vi64 y14), (17, vi64 y13)] [] [] 22 [hn, hn, hk (rl_ref25_Log_con p1 p2 (y13, y14) e15)] (by kernel_rfl) ?_
   refine AW.seq (AW.seq ?_)
   refine AW.join (ι := Bool) (fun v => ⟨[(5, vi64 p5), (9, .c (.ptr 0 3 0 0)), (10, .c (.ptr 1 3 0 0)), (13, .c (.ptr 2 3 0 0)), (14, vi64 (i64.wrap (1 + y7))), (95, vb v)], [(0, .box 40 [ci64 p3.Prior, cl 1 Ri64 p3.Agree, cl 1 Ri64 p3.Differ]), (1, .box 36 [ci64 p4.Prior, cl 1 Ri64 p4.Match, cl 1 Ri64 p4.Random]), (2, .box 60 [cl 1 Ri64 y8.list, ci64 y8.at_, cu64 y8.state])], 3⟩) (fun v : Bool => rl_law25_WeightExact_k2 p3 p4 p5 y7 y8 v = some r) (fun x16 h => ?_) ?_
   ·
    unfold rl_law25_WeightExact_k2 at h
    refine AW.tn ?_
    refine AW.co h (by kernel_rfl) (fun c17 h => ?_) (fun c17 h => ?_)
    ·
     refine AW.sg tt_okL8 [(12, vb false)] [] [] 4 [] (by kernel_rfl) ?_
     refine AW.ret (AW.tr ?_)
     obtain rfl := some_inj h
     exact fn0 (.inr rfl) [] 0 (vb false) (by kernel_rfl)
    ·
     refine AW.skip (AW.tn (AW.seq ?_))
     obtain ⟨y18, y19, e20, h⟩ := bind2_some h
     refine AW.sd tt_okL8 moL8 [[], [], [], [2], [6]] [(102, vi64 0), (101, vi64 ((([p4, y18] : List S_api_Model).length : Nat) : Int)), (100, .c (.ref 6 3 0 (([p4, y18] : List S_api_Model).length)))] [(6, .row 36 false 3 ([p4, y18] : List S_api_Model).length (RS_api_Model ([p4, y18] : List S_api_Model))), (2, .box 60 [cl 1 Ri64 y19.list, ci64 y19.at_, cu64 y19.state])] 9 [hn, hn, hn, hl [2] [] 0 (rl_make_Deck_Model_conT y8 (i64.wrap (1 + y7)) (y18, y19) e20), hlit dS_api_Model ES_api_Model 3 (fun _ => rfl) ([p4, y18] : List S_api_Model)] (by kernel_rfl) ?_
     refine AW.block ?_
     refine AW.lpE h (fun v => ⟨[(5, vi64 p5), (9, .c (.ptr 0 3 0 0)), (13, .c (.ptr 1 3 0 0)), (14, vi64 (i64.wrap (1 + y7))), (100, .c (.ref 2 3 0 (([p4, y18] : List S_api_Model).length))), (101, vi64 ((([p4, y18] : List S_api_Model).length : Nat) : Int)), (102, vi64 v)], [(0, .box 40 [ci64 p3.Prior, cl 1 Ri64 p3.Agree, cl 1 Ri64 p3.Differ]), (1, .box 60 [cl 1 Ri64 y19.list, ci64 y19.at_, cu64 y19.state]), (2, .row 36 false 3 ([p4, y18] : List S_api_Model).length (RS_api_Model ([p4, y18] : List S_api_Model)))], 3⟩) (fun t => (.exit 0, ⟨[(5, vi64 p5), (9, .c (.ptr 0 3 0 0)), (13, .c (.ptr 1 3 0 0)), (14, vi64 (i64.wrap (1 + y7)))], [(0, .box 40 [ci64 p3.Prior, cl 1 Ri64 p3.Agree, cl 1 Ri64 p3.Differ]), (1, .box 60 [cl 1 Ri64 y19.list, ci64 y19.at_, cu64 y19.state])], 2⟩)) (fun t => (.ret, ⟨[(12, vb false)], [], 0⟩)) (conv_re [(0, 0), (1, 2), (2, 6)] (by kernel_rfl)) (fun _ => tv) (fun _ => tv) ?_ (fun t h => ?_) (fun t h => ?_)
     ·
      clear h
      intro x22 o h
      unfold rl_law25_WeightExact_l3 at h
      refine AW.sg tt_okL8 [(103, vb (decide (x22 < ((([p4, y18] : List S_api_Model).length : Nat) : Int))))] [] [] 4 [] (by kernel_rfl) ?_
      refine AW.seq ?_
      refine AW.co h (by kernel_rfl) (fun c23 h => ?_) (fun c23 h => ?_)
      ·
       refine AW.skip (AW.tn ?_)
       refine AW.seq (AW.block ?_)
       obtain ⟨g24, g25, h⟩ := ifd h
       refine AW.sg tt_okL8 [(20, .c (.ptr 6 3 0 0))] [6] [(6, .box 36 [ci64 ((([p4, y18] : List S_api_Model).getD (0 + x22.toNat) dS_api_Model).Prior), cl 1 Ri64 ((([p4, y18] : List S_api_Model).getD (0 + x22.toNat) dS_api_Model).Match), cl 1 Ri64 ((([p4, y18] : List S_api_Model).getD (0 + x22.toNat) dS_api_Model).Random)])] 8 [hq g24 g25, ho (p := (0 + x22.toNat) < ([p4, y18] : List S_api_Model).length) (by have h1 : 0 ≤ x22 := g24; have h2 : x22 < ((([p4, y18] : List S_api_Model).length : Nat) : Int) := g25; omega)] (by kernel_rfl) ?_
       obtain ⟨y26, y27, e28, h⟩ := bind2_some h
       refine AW.sg tt_okL8 [(22, vi64 y27), (21, .c (.ptr 14 3 0 0))] [9, 10, 14] [(14, .box 40 [ci64 y26.Prior, .ref 9 1 0 y26.Agree.length, .ref 10 1 0 y26.Differ.length]), (9, .row 3 false 1 y26.Agree.length (Ri64 y26.Agree)), (10, .row 3 false 1 y26.Differ.length (Ri64 y26.Differ))] 17 [hn, hm [] [] 2 (weight_Of_con (([p4, y18] : List S_api_Model).getD (0 + x22.toNat) dS_api_Model) (y26, y27) e28) ⟨rowL_flat Vi64 _ _ _, rowL_flat Vi64 _ _ _, tv⟩] (by kernel_rfl) ?_
       obtain ⟨y29, y30, e31, h⟩ := bind2_some h
       refine AW.sg tt_okL8 [(24, vi64 y30), (23, .c (.ptr 23 3 0 0))] [18, 19, 23] [(23, .box 40 [ci64 y29.Prior, .ref 18 1 0 y29.Agree.length, .ref 19 1 0 y29.Differ.length]), (18, .row 3 false 1 y29.Agree.length (Ri64 y29.Agree)), (19, .row 3 false 1 y29.Differ.length (Ri64 y29.Differ))] 26 [hn, hm [] [] 2 (rl_ref25_Of_con (([p4, y18] : List S_api_Model).getD (0 + x22.toNat) dS_api_Model) (y29, y30) e31) ⟨rowL_flat Vi64 _ _ _, rowL_flat Vi64 _ _ _, tv⟩] (by kernel_rfl) ?_
       refine AW.seq ?_
       refine AW.join (ι := Bool) (fun v => ⟨[(5, vi64 p5), (9, .c (.ptr 0 3 0 0)), (13, .c (.ptr 1 3 0 0)), (14, vi64 (i64.wrap (1 + y7))), (100, .c (.ref 2 3 0 (([p4, y18] : List S_api_Model).length))), (101, vi64 ((([p4, y18] : List S_api_Model).length : Nat) : Int)), (102, vi64 x22), (124, vb v)], [(0, .box 40 [ci64 p3.Prior, cl 1 Ri64 p3.Agree, cl 1 Ri64 p3.Differ]), (1, .box 60 [cl 1 Ri64 y19.list, ci64 y19.at_, cu64 y19.state]), (2, .row 36 false 3 ([p4, y18] : List S_api_Model).length (RS_api_Model ([p4, y18] : List S_api_Model)))], 3⟩) (fun v : Bool => rl_law25_WeightExact_k4 x22 v = some o) (fun x32 h => ?_) ?_
       ·
        unfold rl_law25_WeightExact_k4 at h
        refine AW.tn ?_
        refine AW.co h (by kernel_rfl) (fun c33 h => ?_) (fun c33 h => ?_)
        ·
         refine AW.sg tt_okL8 [(12, vb false)] [] [] 4 [] (by kernel_rfl) ?_
         refine AW.ret (AW.inBlock_ret (AW.tr ?_))
         exact lpo h rfl (conv_re [] (by kernel_rfl))
        ·
         refine AW.skip (AW.inBlock_normal (AW.tn ?_))
         refine AW.rg tt_okL8 [(102, vi64 (i64.wrap (x22 + 1)))] [] [] 5 [] (by kernel_rfl) ?_
         exact lpn h (conv_re [(0, 0), (1, 1), (2, 2)] (by kernel_rfl))
       ·
        rcases ifs h with ⟨c34, h⟩ | ⟨c34, h⟩
        ·
         refine AW.rg tt_okL8 [(124, vb true)] [] [] 35 [hn, hn, ht c34] (by kernel_rfl) ?_
         exact jl true h (conv_re [(0, 0), (1, 1), (2, 2)] (by kernel_rfl))
        ·
         obtain ⟨y35, e36, h⟩ := bnd_some h
         refine AW.rg tt_okL8 [(124, vb (!y35))] [] [] 34 [hn, hn, hf c34, hn, hn, hn, hg [] [] true 0 (q := ((True) ∧ (0 + y26.Agree.length ≤ y26.Agree.length) ∧ (0 + y26.Differ.length ≤ y26.Differ.length) ∧ (True)) ∧ ((True) ∧ (0 + y29.Agree.length ≤ y29.Agree.length) ∧ (0 + y29.Differ.length ≤ y29.Differ.length) ∧ (True)) ∧ (True)) ⟨⟨tv, le0, le0, tv⟩, ⟨tv, le0, le0, tv⟩, tv⟩ (a0 := [.agg [ci64 y26.Prior, cl 1 Ri64 y26.Agree, cl 1 Ri64 y26.Differ], .agg [ci64 y29.Prior, cl 1 Ri64 y29.Agree, cl 1 Ri64 y29.Differ]]) (rl_ref25_Same_con y26 y29 y35 e36) ⟨ArgLe.refl _, ArgLe.refl _, tv⟩ (fun _ => tv)] (by kernel_rfl) ?_
         exact jl (!y35) h (conv_re [(0, 0), (1, 1), (2, 2)] (by kernel_rfl))
      ·
       refine AW.exit (AW.thenQ_exit ?_)
       exact lpo h rfl (conv_re [(0, 0), (1, 1)] (by kernel_rfl))
     ·
      replace h : rl_law25_WeightExact_a13 p3 p5 y7 y19 = some r := h
      unfold rl_law25_WeightExact_a13 at h
      show (_ : Exit → St → Prop) (.exit 0) _
      refine AW.inBlock_hit (AW.tn (AW.seq ?_))
      obtain ⟨y37, y38, e39, h⟩ := bind2_some h
      obtain ⟨y40, y41, e42, h⟩ := bind2_some h
      refine AW.sd tt_okL8 moL8 [[], [], [], [1], [], [], [1], [7]] [(135, vi64 0), (134, vi64 ((([p3, y37, y40] : List S_api_Weights).length : Nat) : Int)), (133, .c (.ref 7 3 0 (([p3, y37, y40] : List S_api_Weights).length)))] [(7, .row 40 false 3 ([p3, y37, y40] : List S_api_Weights).length (RS_api_Weights ([p3, y37, y40] : List S_api_Weights))), (1, .box 60 [cl 1 Ri64 y41.list, ci64 y41.at_, cu64 y41.state])] 10 [hn, hn, hn, hl [1] [] 0 (rl_play_Weights_conT y19 (i64.wrap (1 + y7)) (y37, y38) e39), hn, hn, hl [1] [] 0 (rl_play_BentWeights_conT y38 (i64.wrap (1 + y7)) (y40, y41) e42), hlit dS_api_Weights ES_api_Weights 3 (fun _ => rfl) ([p3, y37, y40] : List S_api_Weights)] (by kernel_rfl) ?_
      refine AW.block ?_
      refine AW.lpE h (fun v => ⟨[(5, vi64 p5), (13, .c (.ptr 0 3 0 0)), (133, .c (.ref 1 3 0 (([p3, y37, y40] : List S_api_Weights).length))), (134, vi64 ((([p3, y37, y40] : List S_api_Weights).length : Nat) : Int)), (135, vi64 v.1)], [(0, .box 60 [cl 1 Ri64 v.2.1, ci64 v.2.2.1, cu64 v.2.2.2]), (1, .row 40 false 3 ([p3, y37, y40] : List S_api_Weights).length (RS_api_Weights ([p3, y37, y40] : List S_api_Weights)))], 2⟩) (fun t => (.exit 2, ⟨[], [], 0⟩)) (fun t => (.ret, ⟨[(12, vb false)], [], 0⟩)) (conv_re [(0, 1), (1, 7)] (by kernel_rfl)) (fun _ => tv) (fun _ => tv) ?_ (fun t h => ?_) (fun t h => ?_)
      ·
       clear h
       intro v o h
       obtain ⟨x47, x48, x49, x50⟩ := v
       replace h : rl_law25_WeightExact_l5 p3 p5 y37 y40 x47 x48 x49 x50 = some o := h
       unfold rl_law25_WeightExact_l5 at h
       refine AW.sg tt_okL8 [(136, vb (decide (x47 < ((([p3, y37, y40] : List S_api_Weights).length : Nat) : Int))))] [] [] 3 [] (by kernel_rfl) ?_
       refine AW.seq ?_
       refine AW.co h (by kernel_rfl) (fun c51 h => ?_) (fun c51 h => ?_)
       ·
        refine AW.skip (AW.tn ?_)
        refine AW.seq (AW.block ?_)
        obtain ⟨g52, g53, h⟩ := ifd h
        refine AW.sg tt_okL8 [(26, .c (.ptr 5 3 0 0))] [5] [(5, .box 40 [ci64 ((([p3, y37, y40] : List S_api_Weights).getD (0 + x47.toNat) dS_api_Weights).Prior), cl 1 Ri64 ((([p3, y37, y40] : List S_api_Weights).getD (0 + x47.toNat) dS_api_Weights).Agree), cl 1 Ri64 ((([p3, y37, y40] : List S_api_Weights).getD (0 + x47.toNat) dS_api_Weights).Differ)])] 7 [hq g52 g53, ho (p := (0 + x47.toNat) < ([p3, y37, y40] : List S_api_Weights).length) (by have h1 : 0 ≤ x47 := g52; have h2 : x47 < ((([p3, y37, y40] : List S_api_Weights).length : Nat) : Int) := g53; omega)] (by kernel_rfl) ?_
        refine AW.seq ?_
        obtain ⟨y54, e55, h⟩ := bnd_some h
        obtain ⟨y56, e57, h⟩ := bnd_some h
        refine AW.sd tt_okL8 moL8 [] [(143, vb (y54 != y56))] [] 10 [hn, hk (weight_Check_con (([p3, y37, y40] : List S_api_Weights).getD (0 + x47.toNat) dS_api_Weights) y54 e55), hn, hk (rl_ref25_Check_con (([p3, y37, y40] : List S_api_Weights).getD (0 + x47.toNat) dS_api_Weights) y56 e57)] (by kernel_rfl) ?_
        refine AW.co h (by kernel_rfl) (fun c58 h => ?_) (fun c58 h => ?_)
        ·
         refine AW.sg tt_okL8 [(12, vb false)] [] [] 11 [] (by kernel_rfl) ?_
         refine AW.ret (AW.tr ?_)
         refine AW.inBlock_ret (AW.tr ?_)
         exact lpo h rfl (conv_re [] (by kernel_rfl))
        ·
         refine AW.skip (AW.tn ?_)
         obtain ⟨y59, y60, y61, e62, h⟩ := bind3_some h
         refine AW.sg tt_okL8 [(29, vi64 y61), (28, vi64 y60), (27, vi64 y59)] [] [] 18 [hn, hk (weight_Bounds_con (([p3, y37, y40] : List S_api_Weights).getD (0 + x47.toNat) dS_api_Weights) (y59, y60, y61) e62)] (by kernel_rfl) ?_
         obtain ⟨y63, y64, y65, e66, h⟩ := bind3_some h
         refine AW.sg tt_okL8 [(32, vi64 y65), (31, vi64 y64), (30, vi64 y63)] [] [] 26 [hn, hk (rl_ref25_Bounds_con (([p3, y37, y40] : List S_api_Weights).getD (0 + x47.toNat) dS_api_Weights) (y63, y64, y65) e66)] (by kernel_rfl) ?_
         refine AW.seq (AW.seq ?_)
         refine AW.join (ι := Bool) (fun v => ⟨[(5, vi64 p5), (13, .c (.ptr 0 3 0 0)), (26, .c (.ptr 1 3 0 0)), (133, .c (.ref 2 3 0 (([p3, y37, y40] : List S_api_Weights).length))), (134, vi64 ((([p3, y37, y40] : List S_api_Weights).length : Nat) : Int)), (135, vi64 x47), (168, vb v)], [(0, .box 60 [cl 1 Ri64 x48, ci64 x49, cu64 x50]), (1, .box 40 [ci64 ((([p3, y37, y40] : List S_api_Weights).getD (0 + x47.toNat) dS_api_Weights).Prior), cl 1 Ri64 ((([p3, y37, y40] : List S_api_Weights).getD (0 + x47.toNat) dS_api_Weights).Agree), cl 1 Ri64 ((([p3, y37, y40] : List S_api_Weights).getD (0 + x47.toNat) dS_api_Weights).Differ)]), (2, .row 40 false 3 ([p3, y37, y40] : List S_api_Weights).length (RS_api_Weights ([p3, y37, y40] : List S_api_Weights)))], 3⟩) (fun v : Bool => rl_law25_WeightExact_k6 p3 p5 y37 y40 x47 x48 x49 x50 v = some o) (fun x67 h => ?_) ?_
         ·
          unfold rl_law25_WeightExact_k6 at h
          refine AW.tn ?_
          refine AW.co h (by kernel_rfl) (fun c68 h => ?_) (fun c68 h => ?_)
          ·
           refine AW.sg tt_okL8 [(12, vb false)] [] [] 4 [] (by kernel_rfl) ?_
           refine AW.ret (AW.tr ?_)
           refine AW.inBlock_ret (AW.tr ?_)
           exact lpo h rfl (conv_re [] (by kernel_rfl))
          ·
           refine AW.skip (AW.tn ?_)
           obtain ⟨y69, y70, e71, h⟩ := bind2_some h
           refine AW.sg tt_okL8 [(174, vi64 0), (173, vi64 ((([p5, y69, 3, 0] : List Int).length : Nat) : Int)), (172, .c (.ref 5 1 0 (([p5, y69, 3, 0] : List Int).length)))] [0, 5] [(5, .row 3 false 1 ([p5, y69, 3, 0] : List Int).length (Ri64 ([p5, y69, 3, 0] : List Int))), (0, .box 60 [cl 1 Ri64 y70.list, ci64 y70.at_, cu64 y70.state])] 8 [hn, hn, hl [0] [] 0 (rl_make_Deck_Next_con (⟨x48, x49, x50⟩ : S_recordlinkmake_Deck) 81 (y69, y70) e71), hlit 0 Ei64 1 (fun _ => rfl) ([p5, y69, 3, 0] : List Int)] (by kernel_rfl) ?_
           refine AW.block ?_
           refine AW.lpE h (fun v => ⟨[(5, vi64 p5), (13, .c (.ptr 0 3 0 0)), (26, .c (.ptr 1 3 0 0)), (133, .c (.ref 2 3 0 (([p3, y37, y40] : List S_api_Weights).length))), (134, vi64 ((([p3, y37, y40] : List S_api_Weights).length : Nat) : Int)), (135, vi64 x47), (172, .c (.ref 3 1 0 (([p5, y69, 3, 0] : List Int).length))), (173, vi64 ((([p5, y69, 3, 0] : List Int).length : Nat) : Int)), (174, vi64 v)], [(0, .box 60 [cl 1 Ri64 y70.list, ci64 y70.at_, cu64 y70.state]), (1, .box 40 [ci64 ((([p3, y37, y40] : List S_api_Weights).getD (0 + x47.toNat) dS_api_Weights).Prior), cl 1 Ri64 ((([p3, y37, y40] : List S_api_Weights).getD (0 + x47.toNat) dS_api_Weights).Agree), cl 1 Ri64 ((([p3, y37, y40] : List S_api_Weights).getD (0 + x47.toNat) dS_api_Weights).Differ)]), (2, .row 40 false 3 ([p3, y37, y40] : List S_api_Weights).length (RS_api_Weights ([p3, y37, y40] : List S_api_Weights))), (3, .row 3 false 1 ([p5, y69, 3, 0] : List Int).length (Ri64 ([p5, y69, 3, 0] : List Int)))], 4⟩) (fun t => (.exit 4, ⟨[(5, vi64 p5), (13, .c (.ptr 0 3 0 0)), (133, .c (.ref 1 3 0 (([p3, y37, y40] : List S_api_Weights).length))), (134, vi64 ((([p3, y37, y40] : List S_api_Weights).length : Nat) : Int)), (135, vi64 x47)], [(0, .box 60 [cl 1 Ri64 y70.list, ci64 y70.at_, cu64 y70.state]), (1, .row 40 false 3 ([p3, y37, y40] : List S_api_Weights).length (RS_api_Weights ([p3, y37, y40] : List S_api_Weights)))], 2⟩)) (fun t => (.ret, ⟨[(12, vb false)], [], 0⟩)) (conv_re [(0, 0), (1, 1), (2, 2), (3, 5)] (by kernel_rfl)) (fun _ => tv) (fun _ => tv) ?_ (fun t h => ?_) (fun t h => ?_)
           ·
            clear h
            intro x73 o h
            unfold rl_law25_WeightExact_l7 at h
            refine AW.sg tt_okL8 [(175, vb (decide (x73 < ((([p5, y69, 3, 0] : List Int).length : Nat) : Int))))] [] [] 5 [] (by kernel_rfl) ?_
            refine AW.seq ?_
            refine AW.co h (by kernel_rfl) (fun c74 h => ?_) (fun c74 h => ?_)
            ·
             refine AW.skip (AW.tn ?_)
             refine AW.seq (AW.block ?_)
             obtain ⟨g75, g76, h⟩ := ifd h
             refine AW.sg tt_okL8 [(34, vi64 (([p5, y69, 3, 0] : List Int).getD (0 + x73.toNat) 0))] [] [] 8 [hq g75 g76, ho (p := (0 + x73.toNat) < ([p5, y69, 3, 0] : List Int).length) (by have h1 : 0 ≤ x73 := g75; have h2 : x73 < ((([p5, y69, 3, 0] : List Int).length : Nat) : Int) := g76; omega)] (by kernel_rfl) ?_
             obtain ⟨y77, y78, e79, h⟩ := bind2_some h
             refine AW.sg tt_okL8 [(36, vi64 y78), (35, vi64 y77)] [] [] 15 [hn, hn, hk (weight_Score_con (([p3, y37, y40] : List S_api_Weights).getD (0 + x47.toNat) dS_api_Weights) (([p5, y69, 3, 0] : List Int).getD (0 + x73.toNat) 0) (y77, y78) e79)] (by kernel_rfl) ?_
             obtain ⟨y80, y81, e82, h⟩ := bind2_some h
             refine AW.sg tt_okL8 [(38, vi64 y81), (37, vi64 y80)] [] [] 22 [hn, hn, hk (rl_ref25_Score_con (([p3, y37, y40] : List S_api_Weights).getD (0 + x47.toNat) dS_api_Weights) (([p5, y69, 3, 0] : List Int).getD (0 + x73.toNat) 0) (y80, y81) e82)] (by kernel_rfl) ?_
             obtain ⟨y83, y84, e85, h⟩ := bind2_some h
             refine AW.sg tt_okL8 [(40, vi64 y84), (39, vi64 y83)] [] [] 29 [hn, hn, hk (weight_Best_con (([p3, y37, y40] : List S_api_Weights).getD (0 + x47.toNat) dS_api_Weights) (([p5, y69, 3, 0] : List Int).getD (0 + x73.toNat) 0) (y83, y84) e85)] (by kernel_rfl) ?_
             obtain ⟨y86, y87, e88, h⟩ := bind2_some h
             refine AW.sg tt_okL8 [(42, vi64 y87), (41, vi64 y86)] [] [] 36 [hn, hn, hk (rl_ref25_Best_con (([p3, y37, y40] : List S_api_Weights).getD (0 + x47.toNat) dS_api_Weights) (([p5, y69, 3, 0] : List Int).getD (0 + x73.toNat) 0) (y86, y87) e88)] (by kernel_rfl) ?_
             refine AW.seq ?_
             refine AW.join (ι := Bool) (fun v => ⟨[(5, vi64 p5), (13, .c (.ptr 0 3 0 0)), (26, .c (.ptr 1 3 0 0)), (133, .c (.ref 2 3 0 (([p3, y37, y40] : List S_api_Weights).length))), (134, vi64 ((([p3, y37, y40] : List S_api_Weights).length : Nat) : Int)), (135, vi64 x47), (172, .c (.ref 3 1 0 (([p5, y69, 3, 0] : List Int).length))), (173, vi64 ((([p5, y69, 3, 0] : List Int).length : Nat) : Int)), (174, vi64 x73), (219, vb v)], [(0, .box 60 [cl 1 Ri64 y70.list, ci64 y70.at_, cu64 y70.state]), (1, .box 40 [ci64 ((([p3, y37, y40] : List S_api_Weights).getD (0 + x47.toNat) dS_api_Weights).Prior), cl 1 Ri64 ((([p3, y37, y40] : List S_api_Weights).getD (0 + x47.toNat) dS_api_Weights).Agree), cl 1 Ri64 ((([p3, y37, y40] : List S_api_Weights).getD (0 + x47.toNat) dS_api_Weights).Differ)]), (2, .row 40 false 3 ([p3, y37, y40] : List S_api_Weights).length (RS_api_Weights ([p3, y37, y40] : List S_api_Weights))), (3, .row 3 false 1 ([p5, y69, 3, 0] : List Int).length (Ri64 ([p5, y69, 3, 0] : List Int)))], 4⟩) (fun v : Bool => rl_law25_WeightExact_k8 x73 v = some o) (fun x89 h => ?_) ?_
             ·
              unfold rl_law25_WeightExact_k8 at h
              refine AW.tn ?_
              refine AW.co h (by kernel_rfl) (fun c90 h => ?_) (fun c90 h => ?_)
              ·
               refine AW.sg tt_okL8 [(12, vb false)] [] [] 5 [] (by kernel_rfl) ?_
               refine AW.ret (AW.inBlock_ret (AW.tr ?_))
               exact lpo h rfl (conv_re [] (by kernel_rfl))
              ·
               refine AW.skip (AW.inBlock_normal (AW.tn ?_))
               refine AW.rg tt_okL8 [(174, vi64 (i64.wrap (x73 + 1)))] [] [] 6 [] (by kernel_rfl) ?_
               exact lpn h (conv_re [(0, 0), (1, 1), (2, 2), (3, 3)] (by kernel_rfl))
             ·
              rcases ifs h with ⟨c91, h⟩ | ⟨c91, h⟩
              ·
               refine AW.rg tt_okL8 [(219, vb true)] [] [] 54 [hn, hn, ht c91] (by kernel_rfl) ?_
               exact jl true h (conv_re [(0, 0), (1, 1), (2, 2), (3, 3)] (by kernel_rfl))
              ·
               rcases ifs h with ⟨c92, h⟩ | ⟨c92, h⟩
               ·
                refine AW.rg tt_okL8 [(219, vb true)] [] [] 54 [hn, hn, hf c91, hn, hn, hn, ht c92] (by kernel_rfl) ?_
                exact jl true h (conv_re [(0, 0), (1, 1), (2, 2), (3, 3)] (by kernel_rfl))
               ·
                rcases ifs h with ⟨c93, h⟩ | ⟨c93, h⟩
                ·
                 refine AW.rg tt_okL8 [(219, vb true)] [] [] 54 [hn, hn, hf c91, hn, hn, hn, hf c92, hn, hn, hn, hn, ht c93] (by kernel_rfl) ?_
                 exact jl true h (conv_re [(0, 0), (1, 1), (2, 2), (3, 3)] (by kernel_rfl))
                ·
                 refine AW.rg tt_okL8 [(219, vb (y84 != y87))] [] [] 54 [hn, hn, hf c91, hn, hn, hn, hf c92, hn, hn, hn, hn, hf c93] (by kernel_rfl) ?_
                 exact jl (y84 != y87) h (conv_re [(0, 0), (1, 1), (2, 2), (3, 3)] (by kernel_rfl))
            ·
             refine AW.exit (AW.thenQ_exit ?_)
             exact lpo h rfl (conv_re [(0, 0), (1, 2)] (by kernel_rfl))
           ·
            replace h : rl_law25_WeightExact_a9 x47 y70 = some o := h
            unfold rl_law25_WeightExact_a9 at h
            show (_ : Exit → St → Prop) (.exit 4) _
            refine AW.inBlock_hit (AW.inBlock_normal (AW.tn ?_))
            refine AW.rg tt_okL8 [(135, vi64 (i64.wrap (x47 + 1)))] [] [] 4 [] (by kernel_rfl) ?_
            exact lpn h (conv_re [(0, 0), (1, 1)] (by kernel_rfl))
           ·
            replace h : rl_law25_WeightExact_a10 = some o := h
            unfold rl_law25_WeightExact_a10 at h
            show (_ : Exit → St → Prop) (.ret) _
            refine AW.inBlock_ret (AW.inBlock_ret (AW.tr ?_))
            exact lpo h rfl (conv_re [] (by kernel_rfl))
         ·
          rcases ifs h with ⟨c95, h⟩ | ⟨c95, h⟩
          ·
           refine AW.rg tt_okL8 [(168, vb true)] [] [] 39 [hn, hn, ht c95] (by kernel_rfl) ?_
           exact jl true h (conv_re [(0, 0), (1, 5), (2, 1)] (by kernel_rfl))
          ·
           rcases ifs h with ⟨c96, h⟩ | ⟨c96, h⟩
           ·
            refine AW.rg tt_okL8 [(168, vb true)] [] [] 39 [hn, hn, hf c95, hn, hn, hn, ht c96] (by kernel_rfl) ?_
            exact jl true h (conv_re [(0, 0), (1, 5), (2, 1)] (by kernel_rfl))
           ·
            refine AW.rg tt_okL8 [(168, vb (y61 != y65))] [] [] 39 [hn, hn, hf c95, hn, hn, hn, hf c96] (by kernel_rfl) ?_
            exact jl (y61 != y65) h (conv_re [(0, 0), (1, 5), (2, 1)] (by kernel_rfl))
       ·
        refine AW.exit (AW.thenQ_exit ?_)
        exact lpo h rfl (conv_re [] (by kernel_rfl))
      ·
       replace h : rl_law25_WeightExact_a11 = some r := h
       unfold rl_law25_WeightExact_a11 at h
       show (_ : Exit → St → Prop) (.exit 2) _
       refine AW.inBlock_hit (AW.tn ?_)
       refine AW.sg tt_okL8 [(12, vb true)] [] [] 1 [] (by kernel_rfl) ?_
       refine AW.ret ?_
       obtain rfl := some_inj h
       exact fn0 (.inr rfl) [] 0 (vb true) (by kernel_rfl)
      ·
       replace h : rl_law25_WeightExact_a12 = some r := h
       unfold rl_law25_WeightExact_a12 at h
       show (_ : Exit → St → Prop) (.ret) _
       refine AW.inBlock_ret (AW.tr ?_)
       obtain rfl := some_inj h
       exact fn0 (.inr rfl) [] 0 (vb false) (by kernel_rfl)
     ·
      replace h : rl_law25_WeightExact_a14 = some r := h
      unfold rl_law25_WeightExact_a14 at h
      show (_ : Exit → St → Prop) (.ret) _
      refine AW.inBlock_ret (AW.tr ?_)
      obtain rfl := some_inj h
      exact fn0 (.inr rfl) [] 0 (vb false) (by kernel_rfl)
   ·
    rcases ifs h with ⟨c99, h⟩ | ⟨c99, h⟩
    ·
     refine AW.rg tt_okL8 [(95, vb true)] [] [] 30 [hn, hn, ht c99] (by kernel_rfl) ?_
     exact jl true h (conv_re [(0, 0), (1, 1), (2, 3)] (by kernel_rfl))
    ·
     refine AW.rg tt_okL8 [(95, vb (y11 != y14))] [] [] 30 [hn, hn, hf c99] (by kernel_rfl) ?_
     exact jl (y11 != y14) h (conv_re [(0, 0), (1, 1), (2, 3)] (by kernel_rfl))
 ·
  obtain ⟨y100, e101, h⟩ := bnd_some h
  rcases ifs h with ⟨c102, h⟩ | ⟨c102, h⟩
  ·
   refine AW.rg tt_okL8 [(69, vb true)] [] [] 29 [hk (rl_law25_awake_con y100 e101), ht c102] (by kernel_rfl) ?_
   exact jl true h (conv_re [(0, 0), (1, 1)] (by kernel_rfl))
  ·
   obtain ⟨y103, e104, h⟩ := bnd_some h
   rcases ifs h with ⟨c105, h⟩ | ⟨c105, h⟩
   ·
    refine AW.rg tt_okL8 [(69, vb true)] [] [] 28 [hk (rl_law25_awake_con y100 e101), hf c102, hn, hn, hk (rl_make_Few_con p0 y103 e104), ht c105] (by kernel_rfl) ?_
    exact jl true h (conv_re [(0, 0), (1, 1)] (by kernel_rfl))
   ·
    rcases ifs h with ⟨c106, h⟩ | ⟨c106, h⟩
    ·
     refine AW.rg tt_okL8 [(69, vb true)] [] [] 28 [hk (rl_law25_awake_con y100 e101), hf c102, hn, hn, hk (rl_make_Few_con p0 y103 e104), hf c105, hn, hn, hn, hn, hn, hn, hn, hn, hn, ht c106] (by kernel_rfl) ?_
     exact jl true h (conv_re [(0, 0), (1, 1)] (by kernel_rfl))
    ·
     refine AW.rg tt_okL8 [(69, vb (decide ((i64.wrap (((p4.Match.length : Nat) : Int) + ((p4.Random.length : Nat) : Int))) > 40)))] [] [] 28 [hk (rl_law25_awake_con y100 e101), hf c102, hn, hn, hk (rl_make_Few_con p0 y103 e104), hf c105, hn, hn, hn, hn, hn, hn, hn, hn, hn, hf c106] (by kernel_rfl) ?_
     exact jl (decide ((i64.wrap (((p4.Match.length : Nat) : Int) + ((p4.Random.length : Nat) : Int))) > 40)) h (conv_re [(0, 0), (1, 1)] (by kernel_rfl))
end Go.Proofs.Ytafmpnilgknfhaa
