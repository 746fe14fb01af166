/- Printed by a program of mine (vmgen.py): Go functions, and what they come to. -/
import Derived.Test.YtknlckjpgmjenaaVr
import Derived.Test.YtknlckjpgmjenaaRows
import Derived.Test.YtknlckjpgmjenaaG1
namespace Go.Proofs.Ytknlckjpgmjenaa
open Vm
open IntKind (i64 u64 u32 u8)
set_option maxHeartbeats 10000000
set_option linter.unusedVariables false
set_option linter.unusedSimpArgs false
set_option linter.constructorNameAsVariable false
def ttlL8 : List (Nat × TI) := [(3, ⟨.int .i64, 1, 8, [.int .i64 0], false⟩), (4, ⟨.bool, 1, 1, [.bool false], false⟩), (22, ⟨.slice 3, 1, 24, [.slice none 0 0], false⟩), (25, ⟨.ptr 86, 1, 8, [.pointer none], false⟩), (31, ⟨.int .i64, 1, 8, [.int .i64 0], false⟩), (38, ⟨.slice 84, 1, 24, [.slice none 0 0], false⟩), (40, ⟨.struct [(3, 0), (3, 1), (38, 2)], 3, 40, [.int .i64 0, .int .i64 0, .slice none 0 0], false⟩), (41, ⟨.slice 45, 1, 24, [.slice none 0 0], false⟩), (45, ⟨.int .u64, 1, 8, [.int .u64 0], false⟩), (60, ⟨.arr 3 3, 3, 24, [.int .i64 0, .int .i64 0, .int .i64 0], true⟩), (65, ⟨.slice 40, 1, 24, [.slice none 0 0], false⟩), (67, ⟨.slice 72, 1, 24, [.slice none 0 0], false⟩), (72, ⟨.struct [(3, 0), (3, 1)], 2, 16, [.int .i64 0, .int .i64 0], true⟩), (84, ⟨.struct [(3, 0), (41, 1)], 2, 32, [.int .i64 0, .slice none 0 0], false⟩), (86, ⟨.struct [(22, 0), (3, 1), (45, 2)], 3, 40, [.slice none 0 0, .int .i64 0, .int .u64 0], false⟩), (127, ⟨.slice 65, 1, 24, [.slice none 0 0], false⟩), (129, ⟨.arr 6 3, 6, 48, [.int .i64 0, .int .i64 0, .int .i64 0, .int .i64 0, .int .i64 0, .int .i64 0], true⟩)]
theorem tt_okL8 : TTok Try.prog (Vm.look ttlL8) := ttok_of ⟨⟨by kernel_rfl, by kernel_rfl, by kernel_rfl⟩, ⟨by kernel_rfl, by kernel_rfl, by kernel_rfl⟩, ⟨by kernel_rfl, by kernel_rfl, by kernel_rfl⟩, ⟨by kernel_rfl, by kernel_rfl, by kernel_rfl⟩, ⟨by kernel_rfl, by kernel_rfl, by kernel_rfl⟩, ⟨by kernel_rfl, by kernel_rfl, by kernel_rfl⟩, ⟨by kernel_rfl, by kernel_rfl, by kernel_rfl⟩, ⟨by kernel_rfl, by kernel_rfl, by kernel_rfl⟩, ⟨by kernel_rfl, by kernel_rfl, by kernel_rfl⟩, ⟨by kernel_rfl, by kernel_rfl, by kernel_rfl⟩, ⟨by kernel_rfl, by kernel_rfl, by kernel_rfl⟩, ⟨by kernel_rfl, by kernel_rfl, by kernel_rfl⟩, ⟨by kernel_rfl, by kernel_rfl, by kernel_rfl⟩, ⟨by kernel_rfl, by kernel_rfl, by kernel_rfl⟩, ⟨by kernel_rfl, by kernel_rfl, by kernel_rfl⟩, ⟨by kernel_rfl, by kernel_rfl, by kernel_rfl⟩, ⟨by kernel_rfl, by kernel_rfl, by kernel_rfl⟩, trivial⟩
theorem moL8 : Try.prog.follows .mixedOrders = true := by kernel_rfl
/-! recordlink/recordlinklaw23.PatternCounts -/
noncomputable def rl_law23_PatternCounts_k4 (x36 : Int) (x44 : Int) (x45 : Int) (x46 : List S_api_Bits) : Option ((Int × Int × Int × (List S_api_Bits)) ⊕ (Int × Int × (List S_api_Bits))) := some (.inl (i64.wrap (x36 - 1), x44, x45, x46))
noncomputable def rl_law23_PatternCounts_l3 (y10 : List S_api_Encoded) (y16 : List S_api_Couple) (x36 : Int) (x37 : Int) (x38 : Int) (x39 : List S_api_Bits) : Option ((Int × Int × Int × (List S_api_Bits)) ⊕ (Int × Int × (List S_api_Bits))) := if (decide (x36 ≥ 0)) = true then (if 0 ≤ x36 then (if x36 < (y10.length : Int) then (if (((y10.getD x36.toNat dS_api_Encoded).ID) == ((y16.getD (0 + 0) dS_api_Couple).A)) = true then (rl_law23_PatternCounts_k4 x36 ((y10.getD x36.toNat dS_api_Encoded).ID) ((y10.getD x36.toNat dS_api_Encoded).Version) ((y10.getD x36.toNat dS_api_Encoded).Fields)) else (rl_law23_PatternCounts_k4 x36 x37 x38 x39)) else none) else none) else (some (.inr (x37, x38, x39)))
noncomputable def rl_law23_PatternCounts_k6 (x57 : Int) (x65 : Int) (x66 : Int) (x67 : List S_api_Bits) : Option ((Int × Int × Int × (List S_api_Bits)) ⊕ (Int × Int × (List S_api_Bits))) := some (.inl (i64.wrap (x57 - 1), x65, x66, x67))
noncomputable def rl_law23_PatternCounts_l5 (y13 : List S_api_Encoded) (y16 : List S_api_Couple) (x57 : Int) (x58 : Int) (x59 : Int) (x60 : List S_api_Bits) : Option ((Int × Int × Int × (List S_api_Bits)) ⊕ (Int × Int × (List S_api_Bits))) := if (decide (x57 ≥ 0)) = true then (if 0 ≤ x57 then (if x57 < (y13.length : Int) then (if (((y13.getD x57.toNat dS_api_Encoded).ID) == ((y16.getD (0 + 0) dS_api_Couple).B)) = true then (rl_law23_PatternCounts_k6 x57 ((y13.getD x57.toNat dS_api_Encoded).ID) ((y13.getD x57.toNat dS_api_Encoded).Version) ((y13.getD x57.toNat dS_api_Encoded).Fields)) else (rl_law23_PatternCounts_k6 x57 x58 x59 x60)) else none) else none) else (some (.inr (x58, x59, x60)))
noncomputable def rl_law23_PatternCounts_k7 (x80 : Bool) : Option Bool := some x80
noncomputable def rl_law23_PatternCounts_k2 (y7 : Int) (y10 : List S_api_Encoded) (y13 : List S_api_Encoded) (y16 : List S_api_Couple) (y22 : List Int) (x30 : Bool) : Option Bool := if x30 = true then (some false) else (bind3 (loop (fun v : Int × Int × Int × (List S_api_Bits) => rl_law23_PatternCounts_l3 y10 y16 v.1 v.2.1 v.2.2.1 v.2.2.2) (i64.wrap ((y10.length : Int) - 1), 0, 0, [])) fun x50 x51 x52 => (bind3 (loop (fun v : Int × Int × Int × (List S_api_Bits) => rl_law23_PatternCounts_l5 y13 y16 v.1 v.2.1 v.2.2.1 v.2.2.2) (i64.wrap ((y13.length : Int) - 1), 0, 0, [])) fun x71 x72 x73 => (bind2 (rl_ref17_Compare (⟨x50, x51, x52⟩ : S_api_Encoded) (⟨x71, x72, x73⟩ : S_api_Encoded)) fun y74 y75 => (bind2 (rl_ref17_Pattern (([500, 800, 300] : List Int).take ((i64.wrap (1 + y7)).toNat)) y74) fun y77 y78 => (if (y75 == 0) = true then (if (y78 == 0) = true then (if (decide (y77 < (y22.length : Int))) = true then (if 0 ≤ y77 then (if y77 < (y22.length : Int) then (rl_law23_PatternCounts_k7 ((y22.getD (0 + y77.toNat) 0) == 1)) else none) else none) else (rl_law23_PatternCounts_k7 false)) else (rl_law23_PatternCounts_k7 false)) else (rl_law23_PatternCounts_k7 false))))))
noncomputable def rl_law23_PatternCounts_k1 (p0 : List Int) (x1 : Bool) : Option Bool := if x1 = true then ((rl_law23_awake).bind fun y3 => (some y3)) else ((rl_make_New p0).bind fun y5 => (bind2 (rl_make_Deck_Next y5 3) fun y7 y8 => (bind2 (rl_law23_records y8 (i64.wrap (1 + y7)) 4) fun y10 y11 => (bind2 (rl_law23_records y11 (i64.wrap (1 + y7)) 4) fun y13 y14 => (bind2 (rl_law23_couples y14 y10 y13 1) fun y16 y17 => (if ((y16.length : Int) == 0) = true then (some true) else (if 0 ≤ (i64.wrap (1 + y7)) then (if ((i64.wrap (1 + y7)).toNat) ≤ (([500, 800, 300] : List Int).length) then (bind2 (pattern_Tally y16 y10 y13 (([500, 800, 300] : List Int).take ((i64.wrap (1 + y7)).toNat))) fun y22 y23 => (if 0 + (i64.wrap (1 + y7)).toNat ≤ ([500, 800, 300] : List Int).length then (if (0 : Int) < (y16.length : Int) then (bind2 (pattern_Tally ([(⟨(y16.getD (0 + 0) dS_api_Couple).B, (y16.getD (0 + 0) dS_api_Couple).A⟩ : S_api_Couple)] : List S_api_Couple) y13 y10 (([500, 800, 300] : List Int).take ((i64.wrap (1 + y7)).toNat))) fun y27 y28 => (if (y23 != 0) = true then (rl_law23_PatternCounts_k2 y7 y10 y13 y16 y22 true) else (if (y28 != 0) = true then (rl_law23_PatternCounts_k2 y7 y10 y13 y16 y22 true) else ((rl_ref01_Ints y22 y27).bind fun y90 => (if (!y90) = true then (rl_law23_PatternCounts_k2 y7 y10 y13 y16 y22 true) else ((pattern_Total y22).bind fun y93 => (rl_law23_PatternCounts_k2 y7 y10 y13 y16 y22 (y93 != 1)))))))) else none) else none)) else none) else none)))))))
noncomputable def rl_law23_PatternCounts (p0 : List Int) : Option Bool := (rl_law23_awake).bind fun y95 => (if (!y95) = true then (rl_law23_PatternCounts_k1 p0 true) else ((rl_make_Few p0).bind fun y98 => (rl_law23_PatternCounts_k1 p0 (!y98))))
set_option maxRecDepth 100000 in
theorem rl_law23_PatternCounts_con (p0 : List Int) (r : Bool) (h : rl_law23_PatternCounts p0 = some r) : Con Try.prog 8 [vl 1 Ri64 p0] [] (vb r) [] := by
 refine con_of tt_okL8 0 Try.func8 (by kernel_rfl) rfl (by kernel_rfl) (fun base X _ => AW.post ?_)
 unfold rl_law23_PatternCounts at h
 refine AW.sg tt_okL8 [] [] [] 1 [] (by kernel_rfl) ?_
 refine AW.seq (AW.seq ?_)
 refine AW.join (ι := Bool) (fun v => ⟨[(0, vl 1 Ri64 p0), (27, vb v)], [], 0⟩) (fun v : Bool => rl_law23_PatternCounts_k1 p0 v = some r) (fun x1 h => ?_) ?_
 ·
  unfold rl_law23_PatternCounts_k1 at h
  refine AW.tn ?_
  refine AW.co h (by kernel_rfl) (fun c2 h => ?_) (fun c2 h => ?_)
  ·
   obtain ⟨y3, e4, h⟩ := bnd_some h
   refine AW.sg tt_okL8 [(2, vb y3)] [] [] 1 [hk (rl_law23_awake_con y3 e4)] (by kernel_rfl) ?_
   refine AW.ret (AW.tr ?_)
   obtain rfl := some_inj h
   exact fn0 (.inr rfl) [] 0 (vb y3) (by kernel_rfl)
  ·
   refine AW.skip (AW.tn ?_)
   obtain ⟨y5, e6, h⟩ := bnd_some h
   refine AW.sg tt_okL8 [(3, .c (.ptr 1 3 0 0))] [1] [(1, .box 86 [cl 1 Ri64 y5.list, ci64 y5.at_, cu64 y5.state])] 3 [hn, hl [] [] 1 (rl_make_New_con p0 y5 e6)] (by kernel_rfl) ?_
   obtain ⟨y7, y8, e9, h⟩ := bind2_some h
   refine AW.sg tt_okL8 [(4, vi64 (i64.wrap (1 + y7)))] [1] [(1, .box 86 [cl 1 Ri64 y8.list, ci64 y8.at_, cu64 y8.state])] 6 [hn, hl [1] [] 0 (rl_make_Deck_Next_con y5 3 (y7, y8) e9)] (by kernel_rfl) ?_
   obtain ⟨y10, y11, e12, h⟩ := bind2_some h
   obtain ⟨y13, y14, e15, h⟩ := bind2_some h
   refine AW.sg tt_okL8 [(6, .c (.ref 11 3 0 y13.length)), (5, .c (.ref 8 3 0 y10.length))] [1, 8, 11] [(1, .box 86 [cl 1 Ri64 y14.list, ci64 y14.at_, cu64 y14.state]), (11, .row 40 false 3 y13.length (RS_api_Encoded y13)), (8, .row 40 false 3 y10.length (RS_api_Encoded y10))] 14 [hn, hn, hl [1] [] 1 (rl_law23_records_con y8 (i64.wrap (1 + y7)) 4 (y10, y11) e12), hn, hn, hl [1] [] 1 (rl_law23_records_con y11 (i64.wrap (1 + y7)) 4 (y13, y14) e15)] (by kernel_rfl) ?_
   obtain ⟨y16, y17, e18, h⟩ := bind2_some h
   refine AW.sg tt_okL8 [(7, .c (.ref 17 2 0 y16.length))] [1, 8, 11, 17] [(17, .row 72 false 2 y16.length (RS_api_Couple y16)), (8, .row 40 true 3 y10.length (RS_api_Encoded y10)), (11, .row 40 true 3 y13.length (RS_api_Encoded y13))] 19 [hn, hn, hn, hg [1] [8, 11] false 1 (q := (True) ∧ (0 + y10.length ≤ y10.length) ∧ (0 + y13.length ≤ y13.length) ∧ (True) ∧ (True)) ⟨tv, le0, le0, tv, tv⟩ (a0 := [.c (.ptr 0 3 0 0), vl 3 RS_api_Encoded y10, vl 3 RS_api_Encoded y13, vi64 1]) (rl_law23_couples_con y14 y10 y13 1 (y16, y17) e18) ⟨ArgLe.refl _, ArgLe.refl _, ArgLe.refl _, ArgLe.refl _, tv⟩ (fun h => by cases h)] (by kernel_rfl) ?_
   refine AW.seq ?_
   refine AW.sg tt_okL8 [(46, vb ((y16.length : Int) == 0))] [] [] 22 [] (by kernel_rfl) ?_
   refine AW.co h (by kernel_rfl) (fun c19 h => ?_) (fun c19 h => ?_)
   ·
    refine AW.sg tt_okL8 [(2, vb true)] [] [] 23 [] (by kernel_rfl) ?_
    refine AW.ret (AW.tr ?_)
    obtain rfl := some_inj h
    exact fn0 (.inr rfl) [] 0 (vb true) (by kernel_rfl)
   ·
    refine AW.skip (AW.tn ?_)
    obtain ⟨g20, g21, h⟩ := ifd h
    refine AW.sg tt_okL8 [(8, .c (.ref 22 1 0 ((i64.wrap (1 + y7)).toNat)))] [22] [(22, .row 3 false 1 ([500, 800, 300] : List Int).length (Ri64 ([500, 800, 300] : List Int)))] 26 [hlit 0 Ei64 1 (fun _ => rfl) ([500, 800, 300] : List Int), hn, ho (p := (True) ∧ (0 ≤ (i64.wrap (1 + y7))) ∧ (0 ≤ ((i64.wrap (1 + y7)).toNat)) ∧ (((i64.wrap (1 + y7)).toNat) ≤ (([500, 800, 300] : List Int).length))) (⟨tv, g20, (Nat.zero_le _), g21⟩)] (by kernel_rfl) ?_
    obtain ⟨y22, y23, e24, h⟩ := bind2_some h
    obtain ⟨g25, h⟩ := ifc h
    refine AW.sg tt_okL8 [(10, vi64 y23), (9, .c (.ref 30 1 0 y22.length))] [30] [(30, .row 3 false 1 y22.length (Ri64 y22))] 36 [hn, hn, hn, hn, hg [] [] true 1 (q := (0 + y16.length ≤ y16.length) ∧ (0 + y10.length ≤ y10.length) ∧ (0 + y13.length ≤ y13.length) ∧ (0 + (i64.wrap (1 + y7)).toNat ≤ ([500, 800, 300] : List Int).length) ∧ (True)) ⟨le0, le0, le0, g25, tv⟩ (a0 := [vl 2 RS_api_Couple y16, vl 3 RS_api_Encoded y10, vl 3 RS_api_Encoded y13, .c (.t (.tree ((i64.wrap (1 + y7)).toNat) 1 (Ri64 ([500, 800, 300] : List Int))))]) (pattern_Tally_con y16 y10 y13 (([500, 800, 300] : List Int).take ((i64.wrap (1 + y7)).toNat)) (y22, y23) e24) ⟨ArgLe.refl _, ArgLe.refl _, ArgLe.refl _, ArgLe.c (CAle.tree (take_row (by omega))), tv⟩ (fun _ => ⟨rowL_flat Vi64 _ _ _, tv⟩)] (by kernel_rfl) ?_
    obtain ⟨g26, h⟩ := ifc h
    obtain ⟨y27, y28, e29, h⟩ := bind2_some h
    refine AW.sd tt_okL8 moL8 [[], [], [], [], [], [], [], [], [], [45], [], [], [], [49]] [(12, vi64 y28), (11, .c (.ref 49 1 0 y27.length))] [(49, .row 3 false 1 y27.length (Ri64 y27))] 55 [hn, ho (p := (0 ≤ (0 : Int)) ∧ ((0 : Int) < (y16.length : Int))) (⟨(by decide), g26⟩), hn, ho (p := (0 + 0) < y16.length) (by have h1 : 0 ≤ (0 : Int) := (by decide); have h2 : (0 : Int) < (y16.length : Int) := g26; omega), hn, ho (p := (0 ≤ (0 : Int)) ∧ ((0 : Int) < (y16.length : Int))) (⟨(by decide), g26⟩), hn, ho (p := (0 + 0) < y16.length) (by have h1 : 0 ≤ (0 : Int) := (by decide); have h2 : (0 : Int) < (y16.length : Int) := g26; omega), hn, hlit dS_api_Couple ES_api_Couple 2 (fun _ => rfl) ([(⟨(y16.getD (0 + 0) dS_api_Couple).B, (y16.getD (0 + 0) dS_api_Couple).A⟩ : S_api_Couple)] : List S_api_Couple), hn, hn, hn, hg [] [] true 1 (q := (0 + ([(⟨(y16.getD (0 + 0) dS_api_Couple).B, (y16.getD (0 + 0) dS_api_Couple).A⟩ : S_api_Couple)] : List S_api_Couple).length ≤ ([(⟨(y16.getD (0 + 0) dS_api_Couple).B, (y16.getD (0 + 0) dS_api_Couple).A⟩ : S_api_Couple)] : List S_api_Couple).length) ∧ (0 + y13.length ≤ y13.length) ∧ (0 + y10.length ≤ y10.length) ∧ (0 + (i64.wrap (1 + y7)).toNat ≤ ([500, 800, 300] : List Int).length) ∧ (True)) ⟨le0, le0, le0, g25, tv⟩ (a0 := [vl 2 RS_api_Couple ([(⟨(y16.getD (0 + 0) dS_api_Couple).B, (y16.getD (0 + 0) dS_api_Couple).A⟩ : S_api_Couple)] : List S_api_Couple), vl 3 RS_api_Encoded y13, vl 3 RS_api_Encoded y10, .c (.t (.tree ((i64.wrap (1 + y7)).toNat) 1 (Ri64 ([500, 800, 300] : List Int))))]) (pattern_Tally_con ([(⟨(y16.getD (0 + 0) dS_api_Couple).B, (y16.getD (0 + 0) dS_api_Couple).A⟩ : S_api_Couple)] : List S_api_Couple) y13 y10 (([500, 800, 300] : List Int).take ((i64.wrap (1 + y7)).toNat)) (y27, y28) e29) ⟨ArgLe.refl _, ArgLe.refl _, ArgLe.refl _, ArgLe.c (CAle.tree (take_row (by omega))), tv⟩ (fun _ => ⟨rowL_flat Vi64 _ _ _, tv⟩)] (by kernel_rfl) ?_
    refine AW.seq (AW.seq ?_)
    refine AW.join (ι := Bool) (fun v => ⟨[(5, vl 3 RS_api_Encoded y10), (6, vl 3 RS_api_Encoded y13), (7, .c (.ref 0 2 0 y16.length)), (8, .c (.ref 1 1 0 ((i64.wrap (1 + y7)).toNat))), (9, .c (.ref 2 1 0 y22.length)), (91, vb v)], [(0, .row 72 false 2 y16.length (RS_api_Couple y16)), (1, .row 3 false 1 ([500, 800, 300] : List Int).length (Ri64 ([500, 800, 300] : List Int))), (2, .row 3 false 1 y22.length (Ri64 y22))], 3⟩) (fun v : Bool => rl_law23_PatternCounts_k2 y7 y10 y13 y16 y22 v = some r) (fun x30 h => ?_) ?_
    ·
     unfold rl_law23_PatternCounts_k2 at h
     refine AW.tn ?_
     refine AW.co h (by kernel_rfl) (fun c31 h => ?_) (fun c31 h => ?_)
     ·
      refine AW.sg tt_okL8 [(2, vb false)] [] [] 4 [] (by kernel_rfl) ?_
      refine AW.ret (AW.tr ?_)
      obtain rfl := some_inj h
      exact fn0 (.inr rfl) [] 0 (vb false) (by kernel_rfl)
     ·
      refine AW.skip (AW.tn ?_)
      refine AW.sg tt_okL8 [(14, .c (.ptr 4 3 0 0)), (13, .c (.ptr 3 3 0 0))] [3, 4] [(4, .box 40 [ci64 0, ci64 0, .t (.v (.slice none 0 0))]), (3, .box 40 [ci64 0, ci64 0, .t (.v (.slice none 0 0))])] 5 [] (by kernel_rfl) ?_
      refine AW.seq ?_
      refine AW.sg tt_okL8 [(15, vi64 (i64.wrap ((y10.length : Int) - 1)))] [] [] 9 [] (by kernel_rfl) ?_
      refine AW.block ?_
      obtain ⟨x50, x51, x52, l87, h⟩ := bind3_some h
      refine AW.lp l87 (fun v => ⟨[(5, vl 3 RS_api_Encoded y10), (6, vl 3 RS_api_Encoded y13), (7, .c (.ref 0 2 0 y16.length)), (8, .c (.ref 1 1 0 ((i64.wrap (1 + y7)).toNat))), (9, .c (.ref 2 1 0 y22.length)), (13, .c (.ptr 3 3 0 0)), (14, .c (.ptr 4 3 0 0)), (15, vi64 v.1)], [(0, .row 72 false 2 y16.length (RS_api_Couple y16)), (1, .row 3 false 1 ([500, 800, 300] : List Int).length (Ri64 ([500, 800, 300] : List Int))), (2, .row 3 false 1 y22.length (Ri64 y22)), (3, .box 40 [ci64 v.2.1, ci64 v.2.2.1, cl 2 RS_api_Bits v.2.2.2]), (4, .box 40 [ci64 0, ci64 0, .t (.v (.slice none 0 0))])], 5⟩) (fun t : Int × Int × (List S_api_Bits) => (.exit 0, ⟨[(6, vl 3 RS_api_Encoded y13), (7, .c (.ref 0 2 0 y16.length)), (8, .c (.ref 1 1 0 ((i64.wrap (1 + y7)).toNat))), (9, .c (.ref 2 1 0 y22.length)), (13, .c (.ptr 3 3 0 0)), (14, .c (.ptr 4 3 0 0))], [(0, .row 72 false 2 y16.length (RS_api_Couple y16)), (1, .row 3 false 1 ([500, 800, 300] : List Int).length (Ri64 ([500, 800, 300] : List Int))), (2, .row 3 false 1 y22.length (Ri64 y22)), (3, .box 40 [ci64 t.1, ci64 t.2.1, cl 2 RS_api_Bits t.2.2]), (4, .box 40 [ci64 0, ci64 0, .t (.v (.slice none 0 0))])], 5⟩)) (Conv.trans (conv_box (id := 3) (ty := 40) (cs := [ci64 0, ci64 0, .t (.v (.slice none 0 0))]) (ds := [ci64 0, ci64 0, cl 2 RS_api_Bits ([] : List S_api_Bits)]) (by kernel_rfl) ⟨CLe.refl _ _, CLe.refl _ _, CLe.nil rfl, tv⟩) (conv_re [(0, 0), (1, 1), (2, 2), (3, 3), (4, 4)] (by kernel_rfl))) (fun _ => tv) ?_ ?_
      ·
       clear l87 h
       intro v o h
       obtain ⟨x36, x37, x38, x39⟩ := v
       replace h : rl_law23_PatternCounts_l3 y10 y16 x36 x37 x38 x39 = some o := h
       unfold rl_law23_PatternCounts_l3 at h
       refine AW.seq ?_
       refine AW.sg tt_okL8 [(96, vb (decide (x36 ≥ 0)))] [] [] 7 [] (by kernel_rfl) ?_
       refine AW.co h (by kernel_rfl) (fun c43 h => ?_) (fun c43 h => ?_)
       ·
        refine AW.skip (AW.tn (AW.seq ?_))
        refine AW.join (ι := Int × Int × (List S_api_Bits)) (fun v => ⟨[(5, vl 3 RS_api_Encoded y10), (6, vl 3 RS_api_Encoded y13), (7, .c (.ref 0 2 0 y16.length)), (8, .c (.ref 1 1 0 ((i64.wrap (1 + y7)).toNat))), (9, .c (.ref 2 1 0 y22.length)), (13, .c (.ptr 3 3 0 0)), (14, .c (.ptr 4 3 0 0)), (15, vi64 x36)], [(0, .row 72 false 2 y16.length (RS_api_Couple y16)), (1, .row 3 false 1 ([500, 800, 300] : List Int).length (Ri64 ([500, 800, 300] : List Int))), (2, .row 3 false 1 y22.length (Ri64 y22)), (3, .box 40 [ci64 v.1, ci64 v.2.1, cl 2 RS_api_Bits v.2.2]), (4, .box 40 [ci64 0, ci64 0, .t (.v (.slice none 0 0))])], 5⟩) (fun v : Int × Int × (List S_api_Bits) => rl_law23_PatternCounts_k4 x36 v.1 v.2.1 v.2.2 = some o) (fun v h => ?_) ?_
        ·
         obtain ⟨x44, x45, x46⟩ := v
         replace h : rl_law23_PatternCounts_k4 x36 x44 x45 x46 = some o := h
         unfold rl_law23_PatternCounts_k4 at h
         refine AW.tn ?_
         refine AW.rg tt_okL8 [(15, vi64 (i64.wrap (x36 - 1)))] [] [] 8 [] (by kernel_rfl) ?_
         exact lpn h (conv_re [(0, 0), (1, 1), (2, 2), (3, 3), (4, 4)] (by kernel_rfl))
        ·
         refine AW.block ?_
         obtain ⟨g47, g48, h⟩ := ifd h
         refine AW.sd tt_okL8 moL8 [] [(108, vb (((y10.getD x36.toNat dS_api_Encoded).ID) == ((y16.getD (0 + 0) dS_api_Couple).A)))] [] 17 [hn, hn, hq g47 g48, hn, hn, hn, ho (p := (0 ≤ (0 : Int)) ∧ ((0 : Int) < (y16.length : Int))) (⟨(by decide), g26⟩), hn, ho (p := (0 + 0) < y16.length) (by have h1 : 0 ≤ (0 : Int) := (by decide); have h2 : (0 : Int) < (y16.length : Int) := g26; omega)] (by kernel_rfl) ?_
         refine AW.co h (by kernel_rfl) (fun c49 h => ?_) (fun c49 h => ?_)
         ·
          refine AW.rg tt_okL8 [] [3] [(3, .box 40 [ci64 ((y10.getD x36.toNat dS_api_Encoded).ID), ci64 ((y10.getD x36.toNat dS_api_Encoded).Version), cl 2 RS_api_Bits ((y10.getD x36.toNat dS_api_Encoded).Fields)])] 22 [hn, hn, hq g47 g48] (by kernel_rfl) ?_
          refine AW.inBlock_normal ?_
          exact jl ((y10.getD x36.toNat dS_api_Encoded).ID, (y10.getD x36.toNat dS_api_Encoded).Version, (y10.getD x36.toNat dS_api_Encoded).Fields) h (conv_re [(0, 0), (1, 1), (2, 2), (3, 3), (4, 4)] (by kernel_rfl))
         ·
          refine AW.skip (AW.inBlock_normal ?_)
          exact jl (x37, x38, x39) h (conv_re [(0, 0), (1, 1), (2, 2), (3, 3), (4, 4)] (by kernel_rfl))
       ·
        refine AW.exit (AW.thenQ_exit ?_)
        exact lpo h rfl (conv_re [(0, 0), (1, 1), (2, 2), (3, 3), (4, 4)] (by kernel_rfl))
      ·
       show (_ : Exit → St → Prop) (.exit 0) _
       refine AW.inBlock_hit (AW.tn (AW.seq ?_))
       refine AW.sg tt_okL8 [(16, vi64 (i64.wrap ((y13.length : Int) - 1)))] [] [] 9 [] (by kernel_rfl) ?_
       refine AW.block ?_
       obtain ⟨x71, x72, x73, l86, h⟩ := bind3_some h
       refine AW.lp l86 (fun v => ⟨[(6, vl 3 RS_api_Encoded y13), (7, .c (.ref 0 2 0 y16.length)), (8, .c (.ref 1 1 0 ((i64.wrap (1 + y7)).toNat))), (9, .c (.ref 2 1 0 y22.length)), (13, .c (.ptr 3 3 0 0)), (14, .c (.ptr 4 3 0 0)), (16, vi64 v.1)], [(0, .row 72 false 2 y16.length (RS_api_Couple y16)), (1, .row 3 false 1 ([500, 800, 300] : List Int).length (Ri64 ([500, 800, 300] : List Int))), (2, .row 3 false 1 y22.length (Ri64 y22)), (3, .box 40 [ci64 x50, ci64 x51, cl 2 RS_api_Bits x52]), (4, .box 40 [ci64 v.2.1, ci64 v.2.2.1, cl 2 RS_api_Bits v.2.2.2])], 5⟩) (fun t : Int × Int × (List S_api_Bits) => (.exit 2, ⟨[(8, .c (.ref 0 1 0 ((i64.wrap (1 + y7)).toNat))), (9, .c (.ref 1 1 0 y22.length)), (13, .c (.ptr 2 3 0 0)), (14, .c (.ptr 3 3 0 0))], [(0, .row 3 false 1 ([500, 800, 300] : List Int).length (Ri64 ([500, 800, 300] : List Int))), (1, .row 3 false 1 y22.length (Ri64 y22)), (2, .box 40 [ci64 x50, ci64 x51, cl 2 RS_api_Bits x52]), (3, .box 40 [ci64 t.1, ci64 t.2.1, cl 2 RS_api_Bits t.2.2])], 4⟩)) (Conv.trans (conv_box (id := 4) (ty := 40) (cs := [ci64 0, ci64 0, .t (.v (.slice none 0 0))]) (ds := [ci64 0, ci64 0, cl 2 RS_api_Bits ([] : List S_api_Bits)]) (by kernel_rfl) ⟨CLe.refl _ _, CLe.refl _ _, CLe.nil rfl, tv⟩) (conv_re [(0, 0), (1, 1), (2, 2), (3, 3), (4, 4)] (by kernel_rfl))) (fun _ => tv) ?_ ?_
       ·
        clear l86 h
        intro v o h
        obtain ⟨x57, x58, x59, x60⟩ := v
        replace h : rl_law23_PatternCounts_l5 y13 y16 x57 x58 x59 x60 = some o := h
        unfold rl_law23_PatternCounts_l5 at h
        refine AW.seq ?_
        refine AW.sg tt_okL8 [(117, vb (decide (x57 ≥ 0)))] [] [] 7 [] (by kernel_rfl) ?_
        refine AW.co h (by kernel_rfl) (fun c64 h => ?_) (fun c64 h => ?_)
        ·
         refine AW.skip (AW.tn (AW.seq ?_))
         refine AW.join (ι := Int × Int × (List S_api_Bits)) (fun v => ⟨[(6, vl 3 RS_api_Encoded y13), (7, .c (.ref 0 2 0 y16.length)), (8, .c (.ref 1 1 0 ((i64.wrap (1 + y7)).toNat))), (9, .c (.ref 2 1 0 y22.length)), (13, .c (.ptr 3 3 0 0)), (14, .c (.ptr 4 3 0 0)), (16, vi64 x57)], [(0, .row 72 false 2 y16.length (RS_api_Couple y16)), (1, .row 3 false 1 ([500, 800, 300] : List Int).length (Ri64 ([500, 800, 300] : List Int))), (2, .row 3 false 1 y22.length (Ri64 y22)), (3, .box 40 [ci64 x50, ci64 x51, cl 2 RS_api_Bits x52]), (4, .box 40 [ci64 v.1, ci64 v.2.1, cl 2 RS_api_Bits v.2.2])], 5⟩) (fun v : Int × Int × (List S_api_Bits) => rl_law23_PatternCounts_k6 x57 v.1 v.2.1 v.2.2 = some o) (fun v h => ?_) ?_
         ·
          obtain ⟨x65, x66, x67⟩ := v
          replace h : rl_law23_PatternCounts_k6 x57 x65 x66 x67 = some o := h
          unfold rl_law23_PatternCounts_k6 at h
          refine AW.tn ?_
          refine AW.rg tt_okL8 [(16, vi64 (i64.wrap (x57 - 1)))] [] [] 8 [] (by kernel_rfl) ?_
          exact lpn h (conv_re [(0, 0), (1, 1), (2, 2), (3, 3), (4, 4)] (by kernel_rfl))
         ·
          refine AW.block ?_
          obtain ⟨g68, g69, h⟩ := ifd h
          refine AW.sd tt_okL8 moL8 [] [(129, vb (((y13.getD x57.toNat dS_api_Encoded).ID) == ((y16.getD (0 + 0) dS_api_Couple).B)))] [] 17 [hn, hn, hq g68 g69, hn, hn, hn, ho (p := (0 ≤ (0 : Int)) ∧ ((0 : Int) < (y16.length : Int))) (⟨(by decide), g26⟩), hn, ho (p := (0 + 0) < y16.length) (by have h1 : 0 ≤ (0 : Int) := (by decide); have h2 : (0 : Int) < (y16.length : Int) := g26; omega)] (by kernel_rfl) ?_
          refine AW.co h (by kernel_rfl) (fun c70 h => ?_) (fun c70 h => ?_)
          ·
           refine AW.rg tt_okL8 [] [4] [(4, .box 40 [ci64 ((y13.getD x57.toNat dS_api_Encoded).ID), ci64 ((y13.getD x57.toNat dS_api_Encoded).Version), cl 2 RS_api_Bits ((y13.getD x57.toNat dS_api_Encoded).Fields)])] 22 [hn, hn, hq g68 g69] (by kernel_rfl) ?_
           refine AW.inBlock_normal ?_
           exact jl ((y13.getD x57.toNat dS_api_Encoded).ID, (y13.getD x57.toNat dS_api_Encoded).Version, (y13.getD x57.toNat dS_api_Encoded).Fields) h (conv_re [(0, 0), (1, 1), (2, 2), (3, 3), (4, 4)] (by kernel_rfl))
          ·
           refine AW.skip (AW.inBlock_normal ?_)
           exact jl (x58, x59, x60) h (conv_re [(0, 0), (1, 1), (2, 2), (3, 3), (4, 4)] (by kernel_rfl))
        ·
         refine AW.exit (AW.thenQ_exit ?_)
         exact lpo h rfl (conv_re [(0, 1), (1, 2), (2, 3), (3, 4)] (by kernel_rfl))
       ·
        show (_ : Exit → St → Prop) (.exit 2) _
        refine AW.inBlock_hit (AW.tn ?_)
        obtain ⟨y74, y75, e76, h⟩ := bind2_some h
        refine AW.sg tt_okL8 [(18, vi64 y75), (17, .c (.ref 6 1 0 y74.length))] [6] [(6, .row 3 false 1 y74.length (Ri64 y74))] 12 [hn, hn, hm [] [] 1 (rl_ref17_Compare_con (⟨x50, x51, x52⟩ : S_api_Encoded) (⟨x71, x72, x73⟩ : S_api_Encoded) (y74, y75) e76) ⟨rowL_flat Vi64 _ _ _, tv⟩] (by kernel_rfl) ?_
        obtain ⟨y77, y78, e79, h⟩ := bind2_some h
        refine AW.sg tt_okL8 [(20, vi64 y78), (19, vi64 y77)] [] [] 19 [hn, hn, hg [] [] true 0 (q := (0 + (i64.wrap (1 + y7)).toNat ≤ ([500, 800, 300] : List Int).length) ∧ (0 + y74.length ≤ y74.length) ∧ (True)) ⟨g25, le0, tv⟩ (a0 := [.c (.t (.tree ((i64.wrap (1 + y7)).toNat) 1 (Ri64 ([500, 800, 300] : List Int)))), vl 1 Ri64 y74]) (rl_ref17_Pattern_con (([500, 800, 300] : List Int).take ((i64.wrap (1 + y7)).toNat)) y74 (y77, y78) e79) ⟨ArgLe.c (CAle.tree (take_row (by omega))), ArgLe.refl _, tv⟩ (fun _ => tv)] (by kernel_rfl) ?_
        refine AW.seq ?_
        refine AW.join (ι := Bool) (fun v => ⟨[(2, vb v)], [], 0⟩) (fun v : Bool => rl_law23_PatternCounts_k7 v = some r) (fun x80 h => ?_) ?_
        ·
         unfold rl_law23_PatternCounts_k7 at h
         refine AW.tn (AW.ret ?_)
         obtain rfl := some_inj h
         exact fn0 (.inr rfl) [] 0 (vb x80) (by kernel_rfl)
        ·
         rcases ifs h with ⟨c81, h⟩ | ⟨c81, h⟩
         ·
          rcases ifs h with ⟨c82, h⟩ | ⟨c82, h⟩
          ·
           rcases ifs h with ⟨c83, h⟩ | ⟨c83, h⟩
           ·
            obtain ⟨g84, g85, h⟩ := ifd h
            refine AW.rg tt_okL8 [(2, vb ((y22.getD (0 + y77.toNat) 0) == 1))] [] [] 39 [hn, ht c81, hn, hn, ht c82, hn, hn, hn, hn, hn, ht c83, hn, hn, hn, hn, hq g84 g85, ho (p := (0 + y77.toNat) < y22.length) (by have h1 : 0 ≤ y77 := g84; have h2 : y77 < (y22.length : Int) := g85; omega)] (by kernel_rfl) ?_
            exact jl ((y22.getD (0 + y77.toNat) 0) == 1) h (conv_re [] (by kernel_rfl))
           ·
            refine AW.rg tt_okL8 [(2, vb false)] [] [] 39 [hn, ht c81, hn, hn, ht c82, hn, hn, hn, hn, hn, hf c83] (by kernel_rfl) ?_
            exact jl false h (conv_re [] (by kernel_rfl))
          ·
           refine AW.rg tt_okL8 [(2, vb false)] [] [] 39 [hn, ht c81, hn, hn, hf c82] (by kernel_rfl) ?_
           exact jl false h (conv_re [] (by kernel_rfl))
         ·
          refine AW.rg tt_okL8 [(2, vb false)] [] [] 39 [hn, hf c81] (by kernel_rfl) ?_
          exact jl false h (conv_re [] (by kernel_rfl))
    ·
     rcases ifs h with ⟨c88, h⟩ | ⟨c88, h⟩
     ·
      refine AW.rg tt_okL8 [(91, vb true)] [] [] 72 [hn, ht c88] (by kernel_rfl) ?_
      exact jl true h (Conv.trans (conv_tms [(5, vl 3 RS_api_Encoded y10), (6, vl 3 RS_api_Encoded y13)] ⟨⟨.c (.ref 8 3 0 y10.length), by kernel_rfl, ALe.c (CLe.ref (ty := 40) (f := RS_api_Encoded y10) (by kernel_rfl) le0)⟩, ⟨.c (.ref 11 3 0 y13.length), by kernel_rfl, ALe.c (CLe.ref (ty := 40) (f := RS_api_Encoded y13) (by kernel_rfl) le0)⟩, tv⟩) (conv_re [(0, 17), (1, 22), (2, 30)] (by kernel_rfl)))
     ·
      rcases ifs h with ⟨c89, h⟩ | ⟨c89, h⟩
      ·
       refine AW.rg tt_okL8 [(91, vb true)] [] [] 72 [hn, hf c88, hn, hn, ht c89] (by kernel_rfl) ?_
       exact jl true h (Conv.trans (conv_tms [(5, vl 3 RS_api_Encoded y10), (6, vl 3 RS_api_Encoded y13)] ⟨⟨.c (.ref 8 3 0 y10.length), by kernel_rfl, ALe.c (CLe.ref (ty := 40) (f := RS_api_Encoded y10) (by kernel_rfl) le0)⟩, ⟨.c (.ref 11 3 0 y13.length), by kernel_rfl, ALe.c (CLe.ref (ty := 40) (f := RS_api_Encoded y13) (by kernel_rfl) le0)⟩, tv⟩) (conv_re [(0, 17), (1, 22), (2, 30)] (by kernel_rfl)))
      ·
       obtain ⟨y90, e91, h⟩ := bnd_some h
       rcases ifs h with ⟨c92, h⟩ | ⟨c92, h⟩
       ·
        refine AW.rg tt_okL8 [(91, vb true)] [] [] 71 [hn, hf c88, hn, hn, hf c89, hn, hn, hn, hn, hg [] [] true 0 (q := (0 + y22.length ≤ y22.length) ∧ (0 + y27.length ≤ y27.length) ∧ (True)) ⟨le0, le0, tv⟩ (a0 := [vl 1 Ri64 y22, vl 1 Ri64 y27]) (rl_ref01_Ints_con y22 y27 y90 e91) ⟨ArgLe.refl _, ArgLe.refl _, tv⟩ (fun _ => tv), ht c92] (by kernel_rfl) ?_
        exact jl true h (Conv.trans (conv_tms [(5, vl 3 RS_api_Encoded y10), (6, vl 3 RS_api_Encoded y13)] ⟨⟨.c (.ref 8 3 0 y10.length), by kernel_rfl, ALe.c (CLe.ref (ty := 40) (f := RS_api_Encoded y10) (by kernel_rfl) le0)⟩, ⟨.c (.ref 11 3 0 y13.length), by kernel_rfl, ALe.c (CLe.ref (ty := 40) (f := RS_api_Encoded y13) (by kernel_rfl) le0)⟩, tv⟩) (conv_re [(0, 17), (1, 22), (2, 30)] (by kernel_rfl)))
       ·
        obtain ⟨y93, e94, h⟩ := bnd_some h
        refine AW.rg tt_okL8 [(91, vb (y93 != 1))] [] [] 70 [hn, hf c88, hn, hn, hf c89, hn, hn, hn, hn, hg [] [] true 0 (q := (0 + y22.length ≤ y22.length) ∧ (0 + y27.length ≤ y27.length) ∧ (True)) ⟨le0, le0, tv⟩ (a0 := [vl 1 Ri64 y22, vl 1 Ri64 y27]) (rl_ref01_Ints_con y22 y27 y90 e91) ⟨ArgLe.refl _, ArgLe.refl _, tv⟩ (fun _ => tv), hf c92, hn, hn, hn, hg [] [] true 0 (q := (0 + y22.length ≤ y22.length) ∧ (True)) ⟨le0, tv⟩ (a0 := [vl 1 Ri64 y22]) (pattern_Total_con y22 y93 e94) ⟨ArgLe.refl _, tv⟩ (fun _ => tv)] (by kernel_rfl) ?_
        exact jl (y93 != 1) h (Conv.trans (conv_tms [(5, vl 3 RS_api_Encoded y10), (6, vl 3 RS_api_Encoded y13)] ⟨⟨.c (.ref 8 3 0 y10.length), by kernel_rfl, ALe.c (CLe.ref (ty := 40) (f := RS_api_Encoded y10) (by kernel_rfl) le0)⟩, ⟨.c (.ref 11 3 0 y13.length), by kernel_rfl, ALe.c (CLe.ref (ty := 40) (f := RS_api_Encoded y13) (by kernel_rfl) le0)⟩, tv⟩) (conv_re [(0, 17), (1, 22), (2, 30)] (by kernel_rfl)))
 ·
  obtain ⟨y95, e96, h⟩ := bnd_some h
  rcases ifs h with ⟨c97, h⟩ | ⟨c97, h⟩
  ·
   refine AW.rg tt_okL8 [(27, vb true)] [] [] 7 [hk (rl_law23_awake_con y95 e96), ht c97] (by kernel_rfl) ?_
   exact jl true h (conv_re [] (by kernel_rfl))
  ·
   obtain ⟨y98, e99, h⟩ := bnd_some h
   refine AW.rg tt_okL8 [(27, vb (!y98))] [] [] 6 [hk (rl_law23_awake_con y95 e96), hf c97, hn, hn, hk (rl_make_Few_con p0 y98 e99)] (by kernel_rfl) ?_
   exact jl (!y98) h (conv_re [] (by kernel_rfl))
end Go.Proofs.Ytknlckjpgmjenaa
