/- Printed by a program of mine (vmgen.py): Go functions, and what they come to. -/
import Derived.Test.YtknlckjpgmjenaaVr
import Derived.Test.YtknlckjpgmjenaaRows
import Derived.Test.YtknlckjpgmjenaaG0
namespace Go.Proofs.Ytknlckjpgmjenaa
open Vm
open IntKind (i64 u64 u32 u8)
set_option maxHeartbeats 10000000
set_option linter.unusedVariables false
set_option linter.unusedSimpArgs false
set_option linter.constructorNameAsVariable false
def ttl1 : List (Nat × TI) := [(3, ⟨.int .i64, 1, 8, [.int .i64 0], false⟩), (4, ⟨.bool, 1, 1, [.bool false], false⟩), (22, ⟨.slice 3, 1, 24, [.slice none 0 0], false⟩), (25, ⟨.ptr 86, 1, 8, [.pointer none], false⟩), (28, ⟨.slice 37, 1, 24, [.slice none 0 0], false⟩), (30, ⟨.slice 49, 1, 24, [.slice none 0 0], false⟩), (31, ⟨.int .i64, 1, 8, [.int .i64 0], false⟩), (35, ⟨.struct [(3, 0), (22, 1), (22, 2)], 3, 56, [.int .i64 0, .slice none 0 0, .slice none 0 0], false⟩), (37, ⟨.slice 44, 1, 24, [.slice none 0 0], false⟩), (38, ⟨.slice 84, 1, 24, [.slice none 0 0], false⟩), (40, ⟨.struct [(3, 0), (3, 1), (38, 2)], 3, 40, [.int .i64 0, .int .i64 0, .slice none 0 0], false⟩), (41, ⟨.slice 45, 1, 24, [.slice none 0 0], false⟩), (42, ⟨.slice 4, 1, 24, [.slice none 0 0], false⟩), (44, ⟨.struct [(40, 0), (41, 3), (42, 4)], 5, 88, [.int .i64 0, .int .i64 0, .slice none 0 0, .slice none 0 0, .slice none 0 0], false⟩), (45, ⟨.int .u64, 1, 8, [.int .u64 0], false⟩), (47, ⟨.struct [(3, 0), (3, 1)], 2, 16, [.int .i64 0, .int .i64 0], true⟩), (49, ⟨.struct [(47, 0), (47, 2), (3, 4), (3, 5)], 6, 48, [.int .i64 0, .int .i64 0, .int .i64 0, .int .i64 0, .int .i64 0, .int .i64 0], true⟩), (60, ⟨.arr 3 3, 3, 24, [.int .i64 0, .int .i64 0, .int .i64 0], true⟩), (84, ⟨.struct [(3, 0), (41, 1)], 2, 32, [.int .i64 0, .slice none 0 0], false⟩), (86, ⟨.struct [(22, 0), (3, 1), (45, 2)], 3, 40, [.slice none 0 0, .int .i64 0, .int .u64 0], false⟩), (129, ⟨.arr 6 3, 6, 48, [.int .i64 0, .int .i64 0, .int .i64 0, .int .i64 0, .int .i64 0, .int .i64 0], true⟩)]
theorem tt_ok1 : TTok Try.prog (Vm.look ttl1) := ttok_of ⟨⟨by kernel_rfl, by kernel_rfl, by kernel_rfl⟩, ⟨by kernel_rfl, by kernel_rfl, by kernel_rfl⟩, ⟨by kernel_rfl, by kernel_rfl, by kernel_rfl⟩, ⟨by kernel_rfl, by kernel_rfl, by kernel_rfl⟩, ⟨by kernel_rfl, by kernel_rfl, by kernel_rfl⟩, ⟨by kernel_rfl, by kernel_rfl, by kernel_rfl⟩, ⟨by kernel_rfl, by kernel_rfl, by kernel_rfl⟩, ⟨by kernel_rfl, by kernel_rfl, by kernel_rfl⟩, ⟨by kernel_rfl, by kernel_rfl, by kernel_rfl⟩, ⟨by kernel_rfl, by kernel_rfl, by kernel_rfl⟩, ⟨by kernel_rfl, by kernel_rfl, by kernel_rfl⟩, ⟨by kernel_rfl, by kernel_rfl, by kernel_rfl⟩, ⟨by kernel_rfl, by kernel_rfl, by kernel_rfl⟩, ⟨by kernel_rfl, by kernel_rfl, by kernel_rfl⟩, ⟨by kernel_rfl, by kernel_rfl, by kernel_rfl⟩, ⟨by kernel_rfl, by kernel_rfl, by kernel_rfl⟩, ⟨by kernel_rfl, by kernel_rfl, by kernel_rfl⟩, ⟨by kernel_rfl, by kernel_rfl, by kernel_rfl⟩, ⟨by kernel_rfl, by kernel_rfl, by kernel_rfl⟩, ⟨by kernel_rfl, by kernel_rfl, by kernel_rfl⟩, ⟨by kernel_rfl, by kernel_rfl, by kernel_rfl⟩, trivial⟩
theorem mo1 : Try.prog.follows .mixedOrders = true := by kernel_rfl
/-! recordlink/recordlinkplay.Range -/
noncomputable def rl_play_Range (p0 : S_recordlinkmake_Deck) (p1 : Int) (p2 : Int) : Option (Int × S_recordlinkmake_Deck) := bind2 (rl_make_Deck_Next p0 (i64.wrap ((i64.wrap (p2 - p1)) + 1))) fun y1 y2 => (some (i64.wrap (p1 + y1), y2))
set_option maxRecDepth 100000 in
theorem rl_play_Range_con (p0 : S_recordlinkmake_Deck) (p1 : Int) (p2 : Int) (r : Int × S_recordlinkmake_Deck) (h : rl_play_Range p0 p1 p2 = some r) : Con Try.prog 54 [.c (.ptr 0 3 0 0), vi64 p1, vi64 p2] [(0, .box 86 [cl 1 Ri64 p0.list, ci64 p0.at_, cu64 p0.state])] (vi64 r.1) [(0, .box 86 [cl 1 Ri64 r.2.list, ci64 r.2.at_, cu64 r.2.state])] := by
 refine con_of tt_ok1 1 Try.func54 (by kernel_rfl) rfl (by kernel_rfl) (fun base X _ => AW.post ?_)
 unfold rl_play_Range at h
 refine AW.sg tt_ok1 [] [] [] 2 [] (by kernel_rfl) ?_
 obtain ⟨y1, y2, e3, h⟩ := bind2_some h
 refine AW.sg tt_ok1 [(6, vi64 (i64.wrap (p1 + y1)))] [0] [(0, .box 86 [cl 1 Ri64 y2.list, ci64 y2.at_, cu64 y2.state])] 10 [hn, hn, hn, hn, hn, hn, hl [0] [] 0 (rl_make_Deck_Next_con p0 (i64.wrap ((i64.wrap (p2 - p1)) + 1)) (y1, y2) e3)] (by kernel_rfl) ?_
 refine AW.ret ?_
 obtain rfl := some_inj h
 exact fn0 (.inr rfl) [(0, 0)] 1 (vi64 (i64.wrap (p1 + y1))) (by kernel_rfl)
/-! recordlink/recordlinkplay.Weights -/
noncomputable def rl_play_Weights_l1 (p1 : Int) (x10 : Int) (x11 : List Int) (x12 : Int) (x13 : Int) (x14 : List Int) (x15 : List Int) : Option ((Int × (List Int) × Int × Int × (List Int) × (List Int)) ⊕ ((List Int) × Int × Int × (List Int) × (List Int))) := if (decide (x10 < p1)) = true then (bind2 (rl_play_Range (⟨x11, x12, x13⟩ : S_recordlinkmake_Deck) (-3) 60) fun y22 y23 => (if x14.length + ([y22] : List Int).length ≤ 1099511627776 then (bind2 (rl_play_Range y23 (-60) 3) fun y26 y27 => (if x15.length + ([y26] : List Int).length ≤ 1099511627776 then (some (.inl (i64.wrap (x10 + 1), y27.list, y27.at_, y27.state, (x14 ++ ([y22] : List Int)), (x15 ++ ([y26] : List Int))))) else none)) else none)) else (some (.inr (x11, x12, x13, x14, x15)))
noncomputable def rl_play_Weights (p0 : S_recordlinkmake_Deck) (p1 : Int) : Option (S_api_Weights × S_recordlinkmake_Deck) := bind2 (rl_play_Range p0 (-40) 10) fun y1 y2 => (bind5 (loop (fun v : Int × (List Int) × Int × Int × (List Int) × (List Int) => rl_play_Weights_l1 p1 v.1 v.2.1 v.2.2.1 v.2.2.2.1 v.2.2.2.2.1 v.2.2.2.2.2) (0, y2.list, y2.at_, y2.state, ([] : List Int), ([] : List Int))) fun x30 x31 x32 x33 x34 => (some ((⟨y1, x33, x34⟩ : S_api_Weights), (⟨x30, x31, x32⟩ : S_recordlinkmake_Deck))))
set_option maxRecDepth 100000 in
theorem rl_play_Weights_con (p0 : S_recordlinkmake_Deck) (p1 : Int) (r : S_api_Weights × S_recordlinkmake_Deck) (h : rl_play_Weights p0 p1 = some r) : Con Try.prog 18 [.c (.ptr 0 3 0 0), vi64 p1] [(0, .box 86 [cl 1 Ri64 p0.list, ci64 p0.at_, cu64 p0.state])] (.agg [ci64 r.1.Prior, .ref 1 1 0 r.1.Agree.length, .ref 2 1 0 r.1.Differ.length]) [(0, .box 86 [cl 1 Ri64 r.2.list, ci64 r.2.at_, cu64 r.2.state]), (1, .row 3 false 1 r.1.Agree.length (Ri64 r.1.Agree)), (2, .row 3 false 1 r.1.Differ.length (Ri64 r.1.Differ))] := by
 refine con_of tt_ok1 1 Try.func18 (by kernel_rfl) rfl (by kernel_rfl) (fun base X _ => AW.post ?_)
 unfold rl_play_Weights at h
 refine AW.sg tt_ok1 [(4, .c (.ptr 1 3 0 0))] [1] [(1, .box 35 [ci64 0, .t (.v (.slice none 0 0)), .t (.v (.slice none 0 0))])] 2 [] (by kernel_rfl) ?_
 obtain ⟨y1, y2, e3, h⟩ := bind2_some h
 refine AW.sg tt_ok1 [(5, .c (.ptr 4 3 0 0))] [0, 4] [(4, .box 35 [ci64 y1, .t (.v (.slice none 0 0)), .t (.v (.slice none 0 0))]), (0, .box 86 [cl 1 Ri64 y2.list, ci64 y2.at_, cu64 y2.state])] 6 [hn, hl [0] [] 0 (rl_play_Range_con p0 (-40) 10 (y1, y2) e3)] (by kernel_rfl) ?_
 refine AW.seq ?_
 refine AW.sg tt_ok1 [(6, vi64 0)] [] [] 7 [] (by kernel_rfl) ?_
 refine AW.block ?_
 obtain ⟨x30, x31, x32, x33, x34, l35, h⟩ := bind5_some h
 refine AW.lp l35 (fun v => ⟨[(0, .c (.ptr 0 3 0 0)), (1, vi64 p1), (4, .c (.ptr 1 3 0 0)), (5, .c (.ptr 2 3 0 0)), (6, vi64 v.1)], [(0, .box 86 [cl 1 Ri64 v.2.1, ci64 v.2.2.1, cu64 v.2.2.2.1]), (1, .box 35 [ci64 0, .t (.v (.slice none 0 0)), .t (.v (.slice none 0 0))]), (2, .box 35 [ci64 y1, .ref 3 1 0 v.2.2.2.2.1.length, .ref 4 1 0 v.2.2.2.2.2.length]), (3, .row 3 false 1 v.2.2.2.2.1.length (Ri64 v.2.2.2.2.1)), (4, .row 3 false 1 v.2.2.2.2.2.length (Ri64 v.2.2.2.2.2))], 5⟩) (fun t : (List Int) × Int × Int × (List Int) × (List Int) => (.exit 0, ⟨[(4, .c (.ptr 1 3 0 0)), (5, .c (.ptr 2 3 0 0))], [(0, .box 86 [cl 1 Ri64 t.1, ci64 t.2.1, cu64 t.2.2.1]), (1, .box 35 [ci64 0, .t (.v (.slice none 0 0)), .t (.v (.slice none 0 0))]), (2, .box 35 [ci64 y1, .ref 3 1 0 t.2.2.2.1.length, .ref 4 1 0 t.2.2.2.2.length]), (3, .row 3 false 1 t.2.2.2.1.length (Ri64 t.2.2.2.1)), (4, .row 3 false 1 t.2.2.2.2.length (Ri64 t.2.2.2.2))], 5⟩)) (Conv.trans (conv_adoptB (id := 4) (ty0 := 35) (cs := [ci64 y1, .t (.v (.slice none 0 0)), .t (.v (.slice none 0 0))]) 1 (ty := 3) (sz := 1) (n := ([] : List Int).length) (f := Ri64 ([] : List Int)) (by kernel_rfl) (by kernel_rfl) rfl) (Conv.trans (conv_adoptB (id := 4) (ty0 := 35) (cs := [ci64 y1, .ref 7 1 0 (([] : List Int).length), .t (.v (.slice none 0 0))]) 2 (ty := 3) (sz := 1) (n := ([] : List Int).length) (f := Ri64 ([] : List Int)) (by kernel_rfl) (by kernel_rfl) rfl) (conv_re [(0, 0), (1, 1), (2, 4), (3, 7), (4, 8)] (by kernel_rfl)))) (fun _ => tv) ?_ ?_
 ·
  clear l35 h
  intro v o h
  obtain ⟨x10, x11, x12, x13, x14, x15⟩ := v
  replace h : rl_play_Weights_l1 p1 x10 x11 x12 x13 x14 x15 = some o := h
  unfold rl_play_Weights_l1 at h
  refine AW.seq ?_
  refine AW.sg tt_ok1 [(12, vb (decide (x10 < p1)))] [] [] 8 [] (by kernel_rfl) ?_
  refine AW.co h (by kernel_rfl) (fun c21 h => ?_) (fun c21 h => ?_)
  ·
   refine AW.skip (AW.tn ?_)
   refine AW.seq (AW.block ?_)
   obtain ⟨y22, y23, e24, h⟩ := bind2_some h
   obtain ⟨g25, h⟩ := ifc h
   obtain ⟨y26, y27, e28, h⟩ := bind2_some h
   obtain ⟨g29, h⟩ := ifc h
   refine AW.rd tt_ok1 mo1 [[], [], [], [0], [11], [12, 3], [], [], [], [0], [16], [17, 4], [], [2], [], [2]] [] [(2, .box 35 [ci64 y1, .ref 12 1 0 ((x14 ++ ([y22] : List Int)).length), .ref 17 1 0 ((x15 ++ ([y26] : List Int)).length)]), (17, .row 3 false 1 (x15 ++ ([y26] : List Int)).length (Ri64 (x15 ++ ([y26] : List Int)))), (0, .box 86 [cl 1 Ri64 y27.list, ci64 y27.at_, cu64 y27.state]), (12, .row 3 false 1 (x14 ++ ([y22] : List Int)).length (Ri64 (x14 ++ ([y22] : List Int))))] 22 [hn, hn, hn, hl [0] [] 0 (rl_play_Range_con (⟨x11, x12, x13⟩ : S_recordlinkmake_Deck) (-3) 60 (y22, y23) e24), hlit 0 Ei64 1 (fun _ => rfl) ([y22] : List Int), happ 0 Ei64 1 8 x14 ([y22] : List Int) g25 (by decide), hn, hn, hn, hl [0] [] 0 (rl_play_Range_con y23 (-60) 3 (y26, y27) e28), hlit 0 Ei64 1 (fun _ => rfl) ([y26] : List Int), happ 0 Ei64 1 8 x15 ([y26] : List Int) g29 (by decide)] (by kernel_rfl) ?_
   refine AW.inBlock_normal (AW.tn ?_)
   refine AW.rg tt_ok1 [(6, vi64 (i64.wrap (x10 + 1)))] [] [] 25 [] (by kernel_rfl) ?_
   exact lpn h (conv_re [(0, 0), (1, 1), (2, 2), (3, 12), (4, 17)] (by kernel_rfl))
  ·
   refine AW.exit (AW.thenQ_exit ?_)
   exact lpo h rfl (conv_re [(0, 0), (1, 1), (2, 2), (3, 3), (4, 4)] (by kernel_rfl))
 ·
  show (_ : Exit → St → Prop) (.exit 0) _
  refine AW.inBlock_hit (AW.tn ?_)
  refine AW.sg tt_ok1 [] [1] [(1, .box 35 [ci64 y1, .ref 3 1 0 x33.length, .ref 4 1 0 x34.length])] 7 [] (by kernel_rfl) ?_
  refine AW.ret ?_
  obtain rfl := some_inj h
  exact fn0 (.inr rfl) [(0, 0), (1, 3), (2, 4)] 3 (.agg [ci64 y1, .ref 3 1 0 x33.length, .ref 4 1 0 x34.length]) (by kernel_rfl)
/-! recordlink/recordlinkref26.Same -/
noncomputable def rl_ref26_Same_l1 (p0 : List S_api_Candidate) (p1 : List S_api_Candidate) (x3 : Int) : Option (Int ⊕ (Unit ⊕ Unit)) := if (decide (x3 < (p0.length : Int))) = true then (if 0 ≤ x3 then (if x3 < (p0.length : Int) then (if x3 < (p1.length : Int) then (if (!((((((p0.getD x3.toNat dS_api_Candidate).A).Registry) == (((p1.getD x3.toNat dS_api_Candidate).A).Registry)) && (((((p0.getD x3.toNat dS_api_Candidate).A).ID) == (((p1.getD x3.toNat dS_api_Candidate).A).ID)) && true)) && ((((((p0.getD x3.toNat dS_api_Candidate).B).Registry) == (((p1.getD x3.toNat dS_api_Candidate).B).Registry)) && (((((p0.getD x3.toNat dS_api_Candidate).B).ID) == (((p1.getD x3.toNat dS_api_Candidate).B).ID)) && true)) && ((((p0.getD x3.toNat dS_api_Candidate).Pattern) == ((p1.getD x3.toNat dS_api_Candidate).Pattern)) && ((((p0.getD x3.toNat dS_api_Candidate).Weight) == ((p1.getD x3.toNat dS_api_Candidate).Weight)) && true))))) = true then (some (.inr (.inr ()))) else (some (.inl (i64.wrap (x3 + 1))))) else none) else none) else none) else (some (.inr (.inl ())))
noncomputable def rl_ref26_Same_a2 : Option Bool := some true
noncomputable def rl_ref26_Same_a3 : Option Bool := some false
noncomputable def rl_ref26_Same (p0 : List S_api_Candidate) (p1 : List S_api_Candidate) : Option Bool := if ((p0.length : Int) != (p1.length : Int)) = true then (some false) else (bindE (loop (fun v : Int => rl_ref26_Same_l1 p0 p1 v) 0) (fun t => rl_ref26_Same_a2) (fun t => rl_ref26_Same_a3))
set_option maxRecDepth 100000 in
theorem rl_ref26_Same_con (p0 : List S_api_Candidate) (p1 : List S_api_Candidate) (r : Bool) (h : rl_ref26_Same p0 p1 = some r) : Con Try.prog 19 [vl 6 RS_api_Candidate p0, vl 6 RS_api_Candidate p1] [] (vb r) [] := by
 refine con_of tt_ok1 0 Try.func19 (by kernel_rfl) rfl (by kernel_rfl) (fun base X _ => AW.post ?_)
 unfold rl_ref26_Same at h
 refine AW.sg tt_ok1 [] [] [] 1 [] (by kernel_rfl) ?_
 refine AW.seq ?_
 refine AW.sg tt_ok1 [(10, vb ((p0.length : Int) != (p1.length : Int)))] [] [] 6 [] (by kernel_rfl) ?_
 refine AW.co h (by kernel_rfl) (fun c1 h => ?_) (fun c1 h => ?_)
 ·
  refine AW.sg tt_ok1 [(4, vb false)] [] [] 7 [] (by kernel_rfl) ?_
  refine AW.ret (AW.tr ?_)
  obtain rfl := some_inj h
  exact fn0 (.inr rfl) [] 0 (vb false) (by kernel_rfl)
 ·
  refine AW.skip (AW.tn (AW.seq ?_))
  refine AW.sg tt_ok1 [(5, vi64 0)] [] [] 7 [] (by kernel_rfl) ?_
  refine AW.block ?_
  refine AW.lpE h (fun v => ⟨[(0, vl 6 RS_api_Candidate p0), (1, vl 6 RS_api_Candidate p1), (5, vi64 v)], [], 0⟩) (fun t => (.exit 0, ⟨[], [], 0⟩)) (fun t => (.ret, ⟨[(4, vb false)], [], 0⟩)) (conv_re [] (by kernel_rfl)) (fun _ => tv) (fun _ => tv) ?_ (fun t h => ?_) (fun t h => ?_)
  ·
   clear h
   intro x3 o h
   unfold rl_ref26_Same_l1 at h
   refine AW.seq ?_
   refine AW.sg tt_ok1 [(14, vb (decide (x3 < (p0.length : Int))))] [] [] 4 [] (by kernel_rfl) ?_
   refine AW.co h (by kernel_rfl) (fun c4 h => ?_) (fun c4 h => ?_)
   ·
    refine AW.skip (AW.tn ?_)
    refine AW.seq (AW.block ?_)
    obtain ⟨g5, g6, h⟩ := ifd h
    obtain ⟨g7, h⟩ := ifc h
    refine AW.sd tt_ok1 mo1 [] [(25, vb (!((((((p0.getD x3.toNat dS_api_Candidate).A).Registry) == (((p1.getD x3.toNat dS_api_Candidate).A).Registry)) && (((((p0.getD x3.toNat dS_api_Candidate).A).ID) == (((p1.getD x3.toNat dS_api_Candidate).A).ID)) && true)) && ((((((p0.getD x3.toNat dS_api_Candidate).B).Registry) == (((p1.getD x3.toNat dS_api_Candidate).B).Registry)) && (((((p0.getD x3.toNat dS_api_Candidate).B).ID) == (((p1.getD x3.toNat dS_api_Candidate).B).ID)) && true)) && ((((p0.getD x3.toNat dS_api_Candidate).Pattern) == ((p1.getD x3.toNat dS_api_Candidate).Pattern)) && ((((p0.getD x3.toNat dS_api_Candidate).Weight) == ((p1.getD x3.toNat dS_api_Candidate).Weight)) && true))))))] [] 13 [hn, hn, hq g5 g6, hn, hn, hn, hq g5 g7] (by kernel_rfl) ?_
    refine AW.co h (by kernel_rfl) (fun c8 h => ?_) (fun c8 h => ?_)
    ·
     refine AW.sg tt_ok1 [(4, vb false)] [] [] 14 [] (by kernel_rfl) ?_
     refine AW.ret (AW.inBlock_ret (AW.tr ?_))
     exact lpo h rfl (conv_re [] (by kernel_rfl))
    ·
     refine AW.skip (AW.inBlock_normal (AW.tn ?_))
     refine AW.rg tt_ok1 [(5, vi64 (i64.wrap (x3 + 1)))] [] [] 16 [] (by kernel_rfl) ?_
     exact lpn h (conv_re [] (by kernel_rfl))
   ·
    refine AW.exit (AW.thenQ_exit ?_)
    exact lpo h rfl (conv_re [] (by kernel_rfl))
  ·
   replace h : rl_ref26_Same_a2 = some r := h
   unfold rl_ref26_Same_a2 at h
   show (_ : Exit → St → Prop) (.exit 0) _
   refine AW.inBlock_hit (AW.tn ?_)
   refine AW.sg tt_ok1 [(4, vb true)] [] [] 1 [] (by kernel_rfl) ?_
   refine AW.ret ?_
   obtain rfl := some_inj h
   exact fn0 (.inr rfl) [] 0 (vb true) (by kernel_rfl)
  ·
   replace h : rl_ref26_Same_a3 = some r := h
   unfold rl_ref26_Same_a3 at h
   show (_ : Exit → St → Prop) (.ret) _
   refine AW.inBlock_ret (AW.tr ?_)
   obtain rfl := some_inj h
   exact fn0 (.inr rfl) [] 0 (vb false) (by kernel_rfl)
end Go.Proofs.Ytknlckjpgmjenaa
