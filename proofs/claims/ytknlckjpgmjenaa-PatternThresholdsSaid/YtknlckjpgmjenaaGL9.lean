/- Printed by a program of mine (vmgen.py): Go functions, and what they come to. -/
import Derived.Test.YtknlckjpgmjenaaVr
import Derived.Test.YtknlckjpgmjenaaRows
import Derived.Test.YtknlckjpgmjenaaG1
namespace Go.Proofs.Ytknlckjpgmjenaa
open Vm
open IntKind (i64 u64 u32 u8)
set_option maxHeartbeats 10000000
set_option linter.unusedVariables false
set_option linter.unusedSimpArgs false
set_option linter.constructorNameAsVariable false
def ttlL9 : List (Nat × TI) := [(3, ⟨.int .i64, 1, 8, [.int .i64 0], false⟩), (4, ⟨.bool, 1, 1, [.bool false], false⟩), (22, ⟨.slice 3, 1, 24, [.slice none 0 0], false⟩), (25, ⟨.ptr 86, 1, 8, [.pointer none], false⟩), (31, ⟨.int .i64, 1, 8, [.int .i64 0], false⟩), (38, ⟨.slice 84, 1, 24, [.slice none 0 0], false⟩), (40, ⟨.struct [(3, 0), (3, 1), (38, 2)], 3, 40, [.int .i64 0, .int .i64 0, .slice none 0 0], false⟩), (41, ⟨.slice 45, 1, 24, [.slice none 0 0], false⟩), (45, ⟨.int .u64, 1, 8, [.int .u64 0], false⟩), (60, ⟨.arr 3 3, 3, 24, [.int .i64 0, .int .i64 0, .int .i64 0], true⟩), (65, ⟨.slice 40, 1, 24, [.slice none 0 0], false⟩), (67, ⟨.slice 72, 1, 24, [.slice none 0 0], false⟩), (72, ⟨.struct [(3, 0), (3, 1)], 2, 16, [.int .i64 0, .int .i64 0], true⟩), (84, ⟨.struct [(3, 0), (41, 1)], 2, 32, [.int .i64 0, .slice none 0 0], false⟩), (86, ⟨.struct [(22, 0), (3, 1), (45, 2)], 3, 40, [.slice none 0 0, .int .i64 0, .int .u64 0], false⟩), (127, ⟨.slice 65, 1, 24, [.slice none 0 0], false⟩), (129, ⟨.arr 6 3, 6, 48, [.int .i64 0, .int .i64 0, .int .i64 0, .int .i64 0, .int .i64 0, .int .i64 0], true⟩)]
theorem tt_okL9 : TTok Try.prog (Vm.look ttlL9) := ttok_of ⟨⟨by kernel_rfl, by kernel_rfl, by kernel_rfl⟩, ⟨by kernel_rfl, by kernel_rfl, by kernel_rfl⟩, ⟨by kernel_rfl, by kernel_rfl, by kernel_rfl⟩, ⟨by kernel_rfl, by kernel_rfl, by kernel_rfl⟩, ⟨by kernel_rfl, by kernel_rfl, by kernel_rfl⟩, ⟨by kernel_rfl, by kernel_rfl, by kernel_rfl⟩, ⟨by kernel_rfl, by kernel_rfl, by kernel_rfl⟩, ⟨by kernel_rfl, by kernel_rfl, by kernel_rfl⟩, ⟨by kernel_rfl, by kernel_rfl, by kernel_rfl⟩, ⟨by kernel_rfl, by kernel_rfl, by kernel_rfl⟩, ⟨by kernel_rfl, by kernel_rfl, by kernel_rfl⟩, ⟨by kernel_rfl, by kernel_rfl, by kernel_rfl⟩, ⟨by kernel_rfl, by kernel_rfl, by kernel_rfl⟩, ⟨by kernel_rfl, by kernel_rfl, by kernel_rfl⟩, ⟨by kernel_rfl, by kernel_rfl, by kernel_rfl⟩, ⟨by kernel_rfl, by kernel_rfl, by kernel_rfl⟩, ⟨by kernel_rfl, by kernel_rfl, by kernel_rfl⟩, trivial⟩
theorem moL9 : Try.prog.follows .mixedOrders = true := by kernel_rfl
/-! recordlink/recordlinklaw23.PatternThresholds -/
noncomputable def rl_law23_PatternThresholds_l2 (y7 : Int) (x25 : List Int) (x26 : List Int) (x27 : Int) (x28 : List Int) (x29 : Int) (x30 : Int) : Option (((List Int) × (List Int) × Int × (List Int) × Int × Int) ⊕ ((List Int) × (List Int))) := if (decide (x27 < (i64.wrap (1 + y7)))) = true then (bind2 (rl_make_Deck_Next (⟨x28, x29, x30⟩ : S_recordlinkmake_Deck) 1001) fun y34 y35 => (if x25.length + ([y34] : List Int).length ≤ 1099511627776 then (bind2 (rl_make_Deck_Next y35 (i64.wrap (y34 + 1))) fun y38 y39 => (if x26.length + ([y38] : List Int).length ≤ 1099511627776 then (some (.inl ((x25 ++ ([y34] : List Int)), (x26 ++ ([y38] : List Int)), i64.wrap (x27 + 1), y39.list, y39.at_, y39.state))) else none)) else none)) else (some (.inr (x25, x26)))
noncomputable def rl_law23_PatternThresholds_k5 (x53 : Int) (x61 : Bool) : Option (Int ⊕ (Unit ⊕ Unit)) := if x61 = true then (some (.inr (.inr ()))) else (some (.inl (i64.wrap (x53 + 1))))
noncomputable def rl_law23_PatternThresholds_l4 (y7 : Int) (y44 : List Int) (y47 : List Int) (x53 : Int) : Option (Int ⊕ (Unit ⊕ Unit)) := if (decide (x53 < (i64.wrap (1 + y7)))) = true then (bind2 (pattern_Marginal y44 (i64.wrap (1 + y7)) x53) fun y55 y56 => (bind2 (pattern_Marginal y47 (i64.wrap (1 + y7)) x53) fun y58 y59 => (if (y56 != 0) = true then (rl_law23_PatternThresholds_k5 x53 true) else (if (y59 != 0) = true then (rl_law23_PatternThresholds_k5 x53 true) else (if (decide ((y58.getD 2 0) < (y55.getD 2 0))) = true then (rl_law23_PatternThresholds_k5 x53 true) else (rl_law23_PatternThresholds_k5 x53 ((y58.getD 0 0) != (y55.getD 0 0)))))))) else (some (.inr (.inl ())))
noncomputable def rl_law23_PatternThresholds_a6 : Option Bool := some true
noncomputable def rl_law23_PatternThresholds_a7 : Option Bool := some false
noncomputable def rl_law23_PatternThresholds_k3 (y7 : Int) (y44 : List Int) (y47 : List Int) (x50 : Bool) : Option Bool := if x50 = true then (some false) else (bindE (loop (fun v : Int => rl_law23_PatternThresholds_l4 y7 y44 y47 v) 0) (fun t => rl_law23_PatternThresholds_a6) (fun t => rl_law23_PatternThresholds_a7))
noncomputable def rl_law23_PatternThresholds_k1 (p0 : List Int) (x1 : Bool) : Option Bool := if x1 = true then ((rl_law23_awake).bind fun y3 => (some y3)) else ((rl_make_New p0).bind fun y5 => (bind2 (rl_make_Deck_Next y5 3) fun y7 y8 => (bind2 (rl_law23_records y8 (i64.wrap (1 + y7)) 5) fun y10 y11 => (bind2 (rl_law23_records y11 (i64.wrap (1 + y7)) 5) fun y13 y14 => (bind2 (rl_law23_couples y14 y10 y13 12) fun y16 y17 => (bind2 (loop (fun v : (List Int) × (List Int) × Int × (List Int) × Int × Int => rl_law23_PatternThresholds_l2 y7 v.1 v.2.1 v.2.2.1 v.2.2.2.1 v.2.2.2.2.1 v.2.2.2.2.2) (([] : List Int), ([] : List Int), 0, y17.list, y17.at_, y17.state)) fun x42 x43 => (bind2 (pattern_Tally y16 y10 y13 x42) fun y44 y45 => (bind2 (pattern_Tally y16 y10 y13 x43) fun y47 y48 => (if (y45 != 0) = true then (rl_law23_PatternThresholds_k3 y7 y44 y47 true) else (rl_law23_PatternThresholds_k3 y7 y44 y47 (y48 != 0)))))))))))
noncomputable def rl_law23_PatternThresholds (p0 : List Int) : Option Bool := (rl_law23_awake).bind fun y69 => (if (!y69) = true then (rl_law23_PatternThresholds_k1 p0 true) else ((rl_make_Few p0).bind fun y72 => (rl_law23_PatternThresholds_k1 p0 (!y72))))
set_option maxRecDepth 100000 in
theorem rl_law23_PatternThresholds_con (p0 : List Int) (r : Bool) (h : rl_law23_PatternThresholds p0 = some r) : Con Try.prog 9 [vl 1 Ri64 p0] [] (vb r) [] := by
 refine con_of tt_okL9 0 Try.func9 (by kernel_rfl) rfl (by kernel_rfl) (fun base X _ => AW.post ?_)
 unfold rl_law23_PatternThresholds at h
 refine AW.sg tt_okL9 [] [] [] 1 [] (by kernel_rfl) ?_
 refine AW.seq (AW.seq ?_)
 refine AW.join (ι := Bool) (fun v => ⟨[(0, vl 1 Ri64 p0), (27, vb v)], [], 0⟩) (fun v : Bool => rl_law23_PatternThresholds_k1 p0 v = some r) (fun x1 h => ?_) ?_
 ·
  unfold rl_law23_PatternThresholds_k1 at h
  refine AW.tn ?_
  refine AW.co h (by kernel_rfl) (fun c2 h => ?_) (fun c2 h => ?_)
  ·
   obtain ⟨y3, e4, h⟩ := bnd_some h
   refine AW.sg tt_okL9 [(2, vb y3)] [] [] 1 [hk (rl_law23_awake_con y3 e4)] (by kernel_rfl) ?_
   refine AW.ret (AW.tr ?_)
   obtain rfl := some_inj h
   exact fn0 (.inr rfl) [] 0 (vb y3) (by kernel_rfl)
  ·
   refine AW.skip (AW.tn ?_)
   obtain ⟨y5, e6, h⟩ := bnd_some h
   refine AW.sg tt_okL9 [(3, .c (.ptr 1 3 0 0))] [1] [(1, .box 86 [cl 1 Ri64 y5.list, ci64 y5.at_, cu64 y5.state])] 3 [hn, hl [] [] 1 (rl_make_New_con p0 y5 e6)] (by kernel_rfl) ?_
   obtain ⟨y7, y8, e9, h⟩ := bind2_some h
   refine AW.sg tt_okL9 [(4, vi64 (i64.wrap (1 + y7)))] [1] [(1, .box 86 [cl 1 Ri64 y8.list, ci64 y8.at_, cu64 y8.state])] 6 [hn, hl [1] [] 0 (rl_make_Deck_Next_con y5 3 (y7, y8) e9)] (by kernel_rfl) ?_
   obtain ⟨y10, y11, e12, h⟩ := bind2_some h
   obtain ⟨y13, y14, e15, h⟩ := bind2_some h
   refine AW.sg tt_okL9 [(6, .c (.ref 11 3 0 y13.length)), (5, .c (.ref 8 3 0 y10.length))] [1, 8, 11] [(1, .box 86 [cl 1 Ri64 y14.list, ci64 y14.at_, cu64 y14.state]), (11, .row 40 false 3 y13.length (RS_api_Encoded y13)), (8, .row 40 false 3 y10.length (RS_api_Encoded y10))] 14 [hn, hn, hl [1] [] 1 (rl_law23_records_con y8 (i64.wrap (1 + y7)) 5 (y10, y11) e12), hn, hn, hl [1] [] 1 (rl_law23_records_con y11 (i64.wrap (1 + y7)) 5 (y13, y14) e15)] (by kernel_rfl) ?_
   obtain ⟨y16, y17, e18, h⟩ := bind2_some h
   refine AW.sg tt_okL9 [(7, .c (.ref 17 2 0 y16.length))] [1, 8, 11, 17] [(1, .box 86 [cl 1 Ri64 y17.list, ci64 y17.at_, cu64 y17.state]), (17, .row 72 false 2 y16.length (RS_api_Couple y16)), (8, .row 40 true 3 y10.length (RS_api_Encoded y10)), (11, .row 40 true 3 y13.length (RS_api_Encoded y13))] 19 [hn, hn, hn, hg [1] [8, 11] false 1 (q := (True) ∧ (0 + y10.length ≤ y10.length) ∧ (0 + y13.length ≤ y13.length) ∧ (True) ∧ (True)) ⟨tv, le0, le0, tv, tv⟩ (a0 := [.c (.ptr 0 3 0 0), vl 3 RS_api_Encoded y10, vl 3 RS_api_Encoded y13, vi64 12]) (rl_law23_couples_con y14 y10 y13 12 (y16, y17) e18) ⟨ArgLe.refl _, ArgLe.refl _, ArgLe.refl _, ArgLe.refl _, tv⟩ (fun h => by cases h)] (by kernel_rfl) ?_
   refine AW.sg tt_okL9 [(9, .c (.t (.v (.slice none 0 0)))), (8, .c (.t (.v (.slice none 0 0))))] [] [] 21 [] (by kernel_rfl) ?_
   refine AW.seq ?_
   refine AW.sg tt_okL9 [(10, vi64 0)] [] [] 22 [] (by kernel_rfl) ?_
   refine AW.block ?_
   obtain ⟨x42, x43, l68, h⟩ := bind2_some h
   refine AW.lp l68 (fun v => ⟨[(3, .c (.ptr 0 3 0 0)), (4, vi64 (i64.wrap (1 + y7))), (5, vl 3 RS_api_Encoded y10), (6, vl 3 RS_api_Encoded y13), (7, .c (.ref 1 2 0 y16.length)), (8, .c (.ref 2 1 0 v.1.length)), (9, .c (.ref 3 1 0 v.2.1.length)), (10, vi64 v.2.2.1)], [(0, .box 86 [cl 1 Ri64 v.2.2.2.1, ci64 v.2.2.2.2.1, cu64 v.2.2.2.2.2]), (1, .row 72 false 2 y16.length (RS_api_Couple y16)), (2, .row 3 false 1 v.1.length (Ri64 v.1)), (3, .row 3 false 1 v.2.1.length (Ri64 v.2.1))], 4⟩) (fun t : (List Int) × (List Int) => (.exit 0, ⟨[(4, vi64 (i64.wrap (1 + y7))), (5, vl 3 RS_api_Encoded y10), (6, vl 3 RS_api_Encoded y13), (7, .c (.ref 0 2 0 y16.length)), (8, .c (.ref 1 1 0 t.1.length)), (9, .c (.ref 2 1 0 t.2.length))], [(0, .row 72 false 2 y16.length (RS_api_Couple y16)), (1, .row 3 false 1 t.1.length (Ri64 t.1)), (2, .row 3 false 1 t.2.length (Ri64 t.2))], 3⟩)) (Conv.trans (conv_adopt (t := 8) (ty := 3) (sz := 1) (n := ([] : List Int).length) (f := Ri64 ([] : List Int)) (by kernel_rfl) rfl) (Conv.trans (conv_adopt (t := 9) (ty := 3) (sz := 1) (n := ([] : List Int).length) (f := Ri64 ([] : List Int)) (by kernel_rfl) rfl) (Conv.trans (conv_tms [(5, vl 3 RS_api_Encoded y10), (6, vl 3 RS_api_Encoded y13)] ⟨⟨.c (.ref 8 3 0 y10.length), by kernel_rfl, ALe.c (CLe.ref (ty := 40) (f := RS_api_Encoded y10) (by kernel_rfl) le0)⟩, ⟨.c (.ref 11 3 0 y13.length), by kernel_rfl, ALe.c (CLe.ref (ty := 40) (f := RS_api_Encoded y13) (by kernel_rfl) le0)⟩, tv⟩) (conv_re [(0, 1), (1, 17), (2, 22), (3, 23)] (by kernel_rfl))))) (fun _ => tv) ?_ ?_
   ·
    clear l68 h
    intro v o h
    obtain ⟨x25, x26, x27, x28, x29, x30⟩ := v
    replace h : rl_law23_PatternThresholds_l2 y7 x25 x26 x27 x28 x29 x30 = some o := h
    unfold rl_law23_PatternThresholds_l2 at h
    refine AW.seq ?_
    refine AW.sg tt_okL9 [(46, vb (decide (x27 < (i64.wrap (1 + y7)))))] [] [] 7 [] (by kernel_rfl) ?_
    refine AW.co h (by kernel_rfl) (fun c33 h => ?_) (fun c33 h => ?_)
    ·
     refine AW.skip (AW.tn ?_)
     refine AW.seq (AW.block ?_)
     obtain ⟨y34, y35, e36, h⟩ := bind2_some h
     refine AW.sg tt_okL9 [(11, vi64 y34)] [0] [(0, .box 86 [cl 1 Ri64 y35.list, ci64 y35.at_, cu64 y35.state])] 9 [hn, hl [0] [] 0 (rl_make_Deck_Next_con (⟨x28, x29, x30⟩ : S_recordlinkmake_Deck) 1001 (y34, y35) e36)] (by kernel_rfl) ?_
     obtain ⟨g37, h⟩ := ifc h
     obtain ⟨y38, y39, e40, h⟩ := bind2_some h
     obtain ⟨g41, h⟩ := ifc h
     refine AW.rg tt_okL9 [(9, .c (.ref 18 1 0 ((x26 ++ ([y38] : List Int)).length))), (8, .c (.ref 12 1 0 ((x25 ++ ([y34] : List Int)).length)))] [0, 2, 3, 11, 12, 17, 18] [(18, .row 3 false 1 (x26 ++ ([y38] : List Int)).length (Ri64 (x26 ++ ([y38] : List Int)))), (0, .box 86 [cl 1 Ri64 y39.list, ci64 y39.at_, cu64 y39.state]), (12, .row 3 false 1 (x25 ++ ([y34] : List Int)).length (Ri64 (x25 ++ ([y34] : List Int))))] 21 [hn, hn, hlit 0 Ei64 1 (fun _ => rfl) ([y34] : List Int), happ 0 Ei64 1 8 x25 ([y34] : List Int) g37 (by decide), hn, hn, hn, hn, hl [0] [] 0 (rl_make_Deck_Next_con y35 (i64.wrap (y34 + 1)) (y38, y39) e40), hlit 0 Ei64 1 (fun _ => rfl) ([y38] : List Int), happ 0 Ei64 1 8 x26 ([y38] : List Int) g41 (by decide)] (by kernel_rfl) ?_
     refine AW.inBlock_normal (AW.tn ?_)
     refine AW.rg tt_okL9 [(10, vi64 (i64.wrap (x27 + 1)))] [] [] 24 [] (by kernel_rfl) ?_
     exact lpn h (conv_re [(0, 0), (1, 1), (2, 12), (3, 18)] (by kernel_rfl))
    ·
     refine AW.exit (AW.thenQ_exit ?_)
     exact lpo h rfl (conv_re [(0, 1), (1, 2), (2, 3)] (by kernel_rfl))
   ·
    show (_ : Exit → St → Prop) (.exit 0) _
    refine AW.inBlock_hit (AW.tn ?_)
    obtain ⟨y44, y45, e46, h⟩ := bind2_some h
    refine AW.sg tt_okL9 [(13, vi64 y45), (12, .c (.ref 7 1 0 y44.length))] [7] [(7, .row 3 false 1 y44.length (Ri64 y44))] 13 [hn, hn, hn, hn, hg [] [] true 1 (q := (0 + y16.length ≤ y16.length) ∧ (True) ∧ (True) ∧ (0 + x42.length ≤ x42.length) ∧ (True)) ⟨le0, tv, tv, le0, tv⟩ (a0 := [vl 2 RS_api_Couple y16, vl 3 RS_api_Encoded y10, vl 3 RS_api_Encoded y13, vl 1 Ri64 x42]) (pattern_Tally_con y16 y10 y13 x42 (y44, y45) e46) ⟨ArgLe.refl _, ArgLe.refl _, ArgLe.refl _, ArgLe.refl _, tv⟩ (fun _ => ⟨rowL_flat Vi64 _ _ _, tv⟩)] (by kernel_rfl) ?_
    obtain ⟨y47, y48, e49, h⟩ := bind2_some h
    refine AW.sg tt_okL9 [(15, vi64 y48), (14, .c (.ref 17 1 0 y47.length))] [17] [(17, .row 3 false 1 y47.length (Ri64 y47))] 23 [hn, hn, hn, hn, hg [] [] true 1 (q := (0 + y16.length ≤ y16.length) ∧ (True) ∧ (True) ∧ (0 + x43.length ≤ x43.length) ∧ (True)) ⟨le0, tv, tv, le0, tv⟩ (a0 := [vl 2 RS_api_Couple y16, vl 3 RS_api_Encoded y10, vl 3 RS_api_Encoded y13, vl 1 Ri64 x43]) (pattern_Tally_con y16 y10 y13 x43 (y47, y48) e49) ⟨ArgLe.refl _, ArgLe.refl _, ArgLe.refl _, ArgLe.refl _, tv⟩ (fun _ => ⟨rowL_flat Vi64 _ _ _, tv⟩)] (by kernel_rfl) ?_
    refine AW.seq (AW.seq ?_)
    refine AW.join (ι := Bool) (fun v => ⟨[(4, vi64 (i64.wrap (1 + y7))), (12, .c (.ref 0 1 0 y44.length)), (14, .c (.ref 1 1 0 y47.length)), (83, vb v)], [(0, .row 3 false 1 y44.length (Ri64 y44)), (1, .row 3 false 1 y47.length (Ri64 y47))], 2⟩) (fun v : Bool => rl_law23_PatternThresholds_k3 y7 y44 y47 v = some r) (fun x50 h => ?_) ?_
    ·
     unfold rl_law23_PatternThresholds_k3 at h
     refine AW.tn ?_
     refine AW.co h (by kernel_rfl) (fun c51 h => ?_) (fun c51 h => ?_)
     ·
      refine AW.sg tt_okL9 [(2, vb false)] [] [] 3 [] (by kernel_rfl) ?_
      refine AW.ret (AW.tr ?_)
      obtain rfl := some_inj h
      exact fn0 (.inr rfl) [] 0 (vb false) (by kernel_rfl)
     ·
      refine AW.skip (AW.tn (AW.seq ?_))
      refine AW.sg tt_okL9 [(16, vi64 0)] [] [] 3 [] (by kernel_rfl) ?_
      refine AW.block ?_
      refine AW.lpE h (fun v => ⟨[(4, vi64 (i64.wrap (1 + y7))), (12, .c (.ref 0 1 0 y44.length)), (14, .c (.ref 1 1 0 y47.length)), (16, vi64 v)], [(0, .row 3 false 1 y44.length (Ri64 y44)), (1, .row 3 false 1 y47.length (Ri64 y47))], 2⟩) (fun t => (.exit 2, ⟨[], [], 0⟩)) (fun t => (.ret, ⟨[(2, vb false)], [], 0⟩)) (conv_re [(0, 0), (1, 1)] (by kernel_rfl)) (fun _ => tv) (fun _ => tv) ?_ (fun t h => ?_) (fun t h => ?_)
      ·
       clear h
       intro x53 o h
       unfold rl_law23_PatternThresholds_l4 at h
       refine AW.seq ?_
       refine AW.sg tt_okL9 [(86, vb (decide (x53 < (i64.wrap (1 + y7)))))] [] [] 5 [] (by kernel_rfl) ?_
       refine AW.co h (by kernel_rfl) (fun c54 h => ?_) (fun c54 h => ?_)
       ·
        refine AW.skip (AW.tn ?_)
        refine AW.seq (AW.block ?_)
        obtain ⟨y55, y56, e57, h⟩ := bind2_some h
        refine AW.sg tt_okL9 [(18, vi64 y56), (17, .c (.ptr 11 1 0 0))] [11] [(11, .row 60 false 1 3 (Ri64 y55))] 14 [hn, hn, hn, hg [] [] true 0 (q := (0 + y44.length ≤ y44.length) ∧ (True) ∧ (True) ∧ (True)) ⟨le0, tv, tv, tv⟩ (a0 := [vl 1 Ri64 y44, vi64 (i64.wrap (1 + y7)), vi64 x53]) (pattern_Marginal_con y44 (i64.wrap (1 + y7)) x53 (y55, y56) e57) ⟨ArgLe.refl _, ArgLe.refl _, ArgLe.refl _, tv⟩ (fun _ => tv), hn, hn, hn, hr 3 (Ri64 ([0, 0, 0] : List Int)) (p := 3 = 3 ∧ ∀ i, i < 3 → ∀ j, j < 1 → TLe (rowOf [.v (.int .i64 0), .v (.int .i64 0), .v (.int .i64 0)] 1 i j) (Ri64 ([0, 0, 0] : List Int) i j)) (⟨rfl, fun i hi j hj => match i, hi, j, hj with | 0, _, 0, _ => TLe.refl _ | 1, _, 0, _ => TLe.refl _ | 2, _, 0, _ => TLe.refl _ | _ + 3, h, _, _ => absurd h (by omega) | _, _, _ + 1, h => absurd h (by omega)⟩), hr 3 (Ri64 y55) (p := 3 = 3 ∧ ∀ i, i < 3 → ∀ j, j < 1 → TLe (rowOf [.v (.int .i64 (y55.getD 0 0)), .v (.int .i64 (y55.getD 1 0)), .v (.int .i64 (y55.getD 2 0))] 1 i j) (Ri64 y55 i j)) (⟨rfl, fun i hi j hj => match i, hi, j, hj with | 0, _, 0, _ => TLe.refl _ | 1, _, 0, _ => TLe.refl _ | 2, _, 0, _ => TLe.refl _ | _ + 3, h, _, _ => absurd h (by omega) | _, _, _ + 1, h => absurd h (by omega)⟩)] (by kernel_rfl) ?_
        obtain ⟨y58, y59, e60, h⟩ := bind2_some h
        refine AW.sg tt_okL9 [(20, vi64 y59), (19, .c (.ptr 20 1 0 0))] [20] [(20, .row 60 false 1 3 (Ri64 y58))] 23 [hn, hn, hn, hg [] [] true 0 (q := (0 + y47.length ≤ y47.length) ∧ (True) ∧ (True) ∧ (True)) ⟨le0, tv, tv, tv⟩ (a0 := [vl 1 Ri64 y47, vi64 (i64.wrap (1 + y7)), vi64 x53]) (pattern_Marginal_con y47 (i64.wrap (1 + y7)) x53 (y58, y59) e60) ⟨ArgLe.refl _, ArgLe.refl _, ArgLe.refl _, tv⟩ (fun _ => tv), hn, hn, hn, hr 3 (Ri64 ([0, 0, 0] : List Int)) (p := 3 = 3 ∧ ∀ i, i < 3 → ∀ j, j < 1 → TLe (rowOf [.v (.int .i64 0), .v (.int .i64 0), .v (.int .i64 0)] 1 i j) (Ri64 ([0, 0, 0] : List Int) i j)) (⟨rfl, fun i hi j hj => match i, hi, j, hj with | 0, _, 0, _ => TLe.refl _ | 1, _, 0, _ => TLe.refl _ | 2, _, 0, _ => TLe.refl _ | _ + 3, h, _, _ => absurd h (by omega) | _, _, _ + 1, h => absurd h (by omega)⟩), hr 3 (Ri64 y58) (p := 3 = 3 ∧ ∀ i, i < 3 → ∀ j, j < 1 → TLe (rowOf [.v (.int .i64 (y58.getD 0 0)), .v (.int .i64 (y58.getD 1 0)), .v (.int .i64 (y58.getD 2 0))] 1 i j) (Ri64 y58 i j)) (⟨rfl, fun i hi j hj => match i, hi, j, hj with | 0, _, 0, _ => TLe.refl _ | 1, _, 0, _ => TLe.refl _ | 2, _, 0, _ => TLe.refl _ | _ + 3, h, _, _ => absurd h (by omega) | _, _, _ + 1, h => absurd h (by omega)⟩)] (by kernel_rfl) ?_
        refine AW.seq ?_
        refine AW.join (ι := Bool) (fun v => ⟨[(4, vi64 (i64.wrap (1 + y7))), (12, .c (.ref 0 1 0 y44.length)), (14, .c (.ref 1 1 0 y47.length)), (16, vi64 x53), (122, vb v)], [(0, .row 3 false 1 y44.length (Ri64 y44)), (1, .row 3 false 1 y47.length (Ri64 y47))], 2⟩) (fun v : Bool => rl_law23_PatternThresholds_k5 x53 v = some o) (fun x61 h => ?_) ?_
        ·
         unfold rl_law23_PatternThresholds_k5 at h
         refine AW.tn ?_
         refine AW.co h (by kernel_rfl) (fun c62 h => ?_) (fun c62 h => ?_)
         ·
          refine AW.sg tt_okL9 [(2, vb false)] [] [] 3 [] (by kernel_rfl) ?_
          refine AW.ret (AW.inBlock_ret (AW.tr ?_))
          exact lpo h rfl (conv_re [] (by kernel_rfl))
         ·
          refine AW.skip (AW.inBlock_normal (AW.tn ?_))
          refine AW.rg tt_okL9 [(16, vi64 (i64.wrap (x53 + 1)))] [] [] 5 [] (by kernel_rfl) ?_
          exact lpn h (conv_re [(0, 0), (1, 1)] (by kernel_rfl))
        ·
         rcases ifs h with ⟨c63, h⟩ | ⟨c63, h⟩
         ·
          refine AW.rg tt_okL9 [(122, vb true)] [] [] 43 [hn, ht c63] (by kernel_rfl) ?_
          exact jl true h (conv_re [(0, 0), (1, 1)] (by kernel_rfl))
         ·
          rcases ifs h with ⟨c64, h⟩ | ⟨c64, h⟩
          ·
           refine AW.rg tt_okL9 [(122, vb true)] [] [] 43 [hn, hf c63, hn, hn, ht c64] (by kernel_rfl) ?_
           exact jl true h (conv_re [(0, 0), (1, 1)] (by kernel_rfl))
          ·
           rcases ifs h with ⟨c65, h⟩ | ⟨c65, h⟩
           ·
            refine AW.rg tt_okL9 [(122, vb true)] [] [] 43 [hn, hf c63, hn, hn, hf c64, hn, hn, ho (p := (0 ≤ (2 : Int)) ∧ ((2 : Int) < ((3 : Nat) : Int))) (⟨(by decide), (by decide)⟩), ho (p := 2 < 3) (by decide), ho (p := (0 ≤ (2 : Int)) ∧ ((2 : Int) < ((3 : Nat) : Int))) (⟨(by decide), (by decide)⟩), ho (p := 2 < 3) (by decide), ht c65] (by kernel_rfl) ?_
            exact jl true h (conv_re [(0, 0), (1, 1)] (by kernel_rfl))
           ·
            refine AW.rg tt_okL9 [(122, vb ((y58.getD 0 0) != (y55.getD 0 0)))] [] [] 43 [hn, hf c63, hn, hn, hf c64, hn, hn, ho (p := (0 ≤ (2 : Int)) ∧ ((2 : Int) < ((3 : Nat) : Int))) (⟨(by decide), (by decide)⟩), ho (p := 2 < 3) (by decide), ho (p := (0 ≤ (2 : Int)) ∧ ((2 : Int) < ((3 : Nat) : Int))) (⟨(by decide), (by decide)⟩), ho (p := 2 < 3) (by decide), hf c65, hn, hn, ho (p := (0 ≤ (0 : Int)) ∧ ((0 : Int) < ((3 : Nat) : Int))) (⟨(by decide), (by decide)⟩), ho (p := 0 < 3) (by decide), ho (p := (0 ≤ (0 : Int)) ∧ ((0 : Int) < ((3 : Nat) : Int))) (⟨(by decide), (by decide)⟩), ho (p := 0 < 3) (by decide)] (by kernel_rfl) ?_
            exact jl ((y58.getD 0 0) != (y55.getD 0 0)) h (conv_re [(0, 0), (1, 1)] (by kernel_rfl))
       ·
        refine AW.exit (AW.thenQ_exit ?_)
        exact lpo h rfl (conv_re [] (by kernel_rfl))
      ·
       replace h : rl_law23_PatternThresholds_a6 = some r := h
       unfold rl_law23_PatternThresholds_a6 at h
       show (_ : Exit → St → Prop) (.exit 2) _
       refine AW.inBlock_hit (AW.tn ?_)
       refine AW.sg tt_okL9 [(2, vb true)] [] [] 1 [] (by kernel_rfl) ?_
       refine AW.ret ?_
       obtain rfl := some_inj h
       exact fn0 (.inr rfl) [] 0 (vb true) (by kernel_rfl)
      ·
       replace h : rl_law23_PatternThresholds_a7 = some r := h
       unfold rl_law23_PatternThresholds_a7 at h
       show (_ : Exit → St → Prop) (.ret) _
       refine AW.inBlock_ret (AW.tr ?_)
       obtain rfl := some_inj h
       exact fn0 (.inr rfl) [] 0 (vb false) (by kernel_rfl)
    ·
     rcases ifs h with ⟨c67, h⟩ | ⟨c67, h⟩
     ·
      refine AW.rg tt_okL9 [(83, vb true)] [] [] 29 [hn, ht c67] (by kernel_rfl) ?_
      exact jl true h (conv_re [(0, 7), (1, 17)] (by kernel_rfl))
     ·
      refine AW.rg tt_okL9 [(83, vb (y48 != 0))] [] [] 29 [hn, hf c67] (by kernel_rfl) ?_
      exact jl (y48 != 0) h (conv_re [(0, 7), (1, 17)] (by kernel_rfl))
 ·
  obtain ⟨y69, e70, h⟩ := bnd_some h
  rcases ifs h with ⟨c71, h⟩ | ⟨c71, h⟩
  ·
   refine AW.rg tt_okL9 [(27, vb true)] [] [] 7 [hk (rl_law23_awake_con y69 e70), ht c71] (by kernel_rfl) ?_
   exact jl true h (conv_re [] (by kernel_rfl))
  ·
   obtain ⟨y72, e73, h⟩ := bnd_some h
   refine AW.rg tt_okL9 [(27, vb (!y72))] [] [] 6 [hk (rl_law23_awake_con y69 e70), hf c71, hn, hn, hk (rl_make_Few_con p0 y72 e73)] (by kernel_rfl) ?_
   exact jl (!y72) h (conv_re [] (by kernel_rfl))
end Go.Proofs.Ytknlckjpgmjenaa
