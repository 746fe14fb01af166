/- Printed by a program of mine (vmgen.py): Go functions, and what they come to. -/
import Derived.Test.YtknlckjpgmjenaaVr
import Derived.Test.YtknlckjpgmjenaaRows
import Derived.Test.YtknlckjpgmjenaaVw
import Derived.Test.YtknlckjpgmjenaaG0
namespace Go.Proofs.Ytknlckjpgmjenaa
open Vm
open IntKind (i64 u64 u32 u8)
set_option maxHeartbeats 10000000
set_option linter.unusedVariables false
set_option linter.unusedSimpArgs false
set_option linter.constructorNameAsVariable false
def ttl1 : List (Nat × TI) := [(3, ⟨.int .i64, 1, 8, [.int .i64 0], false⟩), (4, ⟨.bool, 1, 1, [.bool false], false⟩), (22, ⟨.slice 3, 1, 24, [.slice none 0 0], false⟩), (25, ⟨.ptr 86, 1, 8, [.pointer none], false⟩), (28, ⟨.slice 37, 1, 24, [.slice none 0 0], false⟩), (30, ⟨.slice 49, 1, 24, [.slice none 0 0], false⟩), (31, ⟨.int .i64, 1, 8, [.int .i64 0], false⟩), (35, ⟨.struct [(3, 0), (22, 1), (22, 2)], 3, 56, [.int .i64 0, .slice none 0 0, .slice none 0 0], false⟩), (37, ⟨.slice 44, 1, 24, [.slice none 0 0], false⟩), (38, ⟨.slice 84, 1, 24, [.slice none 0 0], false⟩), (40, ⟨.struct [(3, 0), (3, 1), (38, 2)], 3, 40, [.int .i64 0, .int .i64 0, .slice none 0 0], false⟩), (41, ⟨.slice 45, 1, 24, [.slice none 0 0], false⟩), (42, ⟨.slice 4, 1, 24, [.slice none 0 0], false⟩), (44, ⟨.struct [(40, 0), (41, 3), (42, 4)], 5, 88, [.int .i64 0, .int .i64 0, .slice none 0 0, .slice none 0 0, .slice none 0 0], false⟩), (45, ⟨.int .u64, 1, 8, [.int .u64 0], false⟩), (47, ⟨.struct [(3, 0), (3, 1)], 2, 16, [.int .i64 0, .int .i64 0], true⟩), (49, ⟨.struct [(47, 0), (47, 2), (3, 4), (3, 5)], 6, 48, [.int .i64 0, .int .i64 0, .int .i64 0, .int .i64 0, .int .i64 0, .int .i64 0], true⟩), (56, ⟨.slice 28, 1, 24, [.slice none 0 0], false⟩), (57, ⟨.slice 22, 1, 24, [.slice none 0 0], false⟩), (60, ⟨.arr 3 3, 3, 24, [.int .i64 0, .int .i64 0, .int .i64 0], true⟩), (84, ⟨.struct [(3, 0), (41, 1)], 2, 32, [.int .i64 0, .slice none 0 0], false⟩), (86, ⟨.struct [(22, 0), (3, 1), (45, 2)], 3, 40, [.slice none 0 0, .int .i64 0, .int .u64 0], false⟩), (129, ⟨.arr 6 3, 6, 48, [.int .i64 0, .int .i64 0, .int .i64 0, .int .i64 0, .int .i64 0, .int .i64 0], true⟩)]
theorem tt_ok1 : TTok Try.prog (Vm.look ttl1) := ttok_of ⟨⟨by kernel_rfl, by kernel_rfl, by kernel_rfl⟩, ⟨by kernel_rfl, by kernel_rfl, by kernel_rfl⟩, ⟨by kernel_rfl, by kernel_rfl, by kernel_rfl⟩, ⟨by kernel_rfl, by kernel_rfl, by kernel_rfl⟩, ⟨by kernel_rfl, by kernel_rfl, by kernel_rfl⟩, ⟨by kernel_rfl, by kernel_rfl, by kernel_rfl⟩, ⟨by kernel_rfl, by kernel_rfl, by kernel_rfl⟩, ⟨by kernel_rfl, by kernel_rfl, by kernel_rfl⟩, ⟨by kernel_rfl, by kernel_rfl, by kernel_rfl⟩, ⟨by kernel_rfl, by kernel_rfl, by kernel_rfl⟩, ⟨by kernel_rfl, by kernel_rfl, by kernel_rfl⟩, ⟨by kernel_rfl, by kernel_rfl, by kernel_rfl⟩, ⟨by kernel_rfl, by kernel_rfl, by kernel_rfl⟩, ⟨by kernel_rfl, by kernel_rfl, by kernel_rfl⟩, ⟨by kernel_rfl, by kernel_rfl, by kernel_rfl⟩, ⟨by kernel_rfl, by kernel_rfl, by kernel_rfl⟩, ⟨by kernel_rfl, by kernel_rfl, by kernel_rfl⟩, ⟨by kernel_rfl, by kernel_rfl, by kernel_rfl⟩, ⟨by kernel_rfl, by kernel_rfl, by kernel_rfl⟩, ⟨by kernel_rfl, by kernel_rfl, by kernel_rfl⟩, ⟨by kernel_rfl, by kernel_rfl, by kernel_rfl⟩, ⟨by kernel_rfl, by kernel_rfl, by kernel_rfl⟩, ⟨by kernel_rfl, by kernel_rfl, by kernel_rfl⟩, trivial⟩
theorem mo1 : Try.prog.follows .mixedOrders = true := by kernel_rfl
/-! recordlink/recordlinkplay.Sheet -/
noncomputable def rl_play_Sheet_l2 (p1 : Int) (x32 : Int) (x33 : List Int) (x34 : Int) (x35 : Int) (x36 : List S_api_Bits) : Option ((Int × (List Int) × Int × Int × (List S_api_Bits)) ⊕ ((List Int) × Int × Int × (List S_api_Bits))) := if (decide (x32 < p1)) = true then (bind2 (rl_play_Array (⟨x33, x34, x35⟩ : S_recordlinkmake_Deck)) fun y42 y43 => (if x36.length + ([y42] : List S_api_Bits).length ≤ 1099511627776 then (some (.inl (i64.wrap (x32 + 1), y43.list, y43.at_, y43.state, (x36 ++ ([y42] : List S_api_Bits))))) else none)) else (some (.inr (x33, x34, x35, x36)))
noncomputable def rl_play_Sheet_k4 (x56 : Int) (x60 : List Int) (x61 : List Bool) (y68 : Bool) (x71 : Int) (x72 : List Int) (x73 : Int) (x74 : Int) : Option ((Int × (List Int) × Int × Int × (List Int) × (List Bool)) ⊕ ((List Int) × Int × Int × (List Int) × (List Bool))) := if x60.length + ([x71] : List Int).length ≤ 1099511627776 then (if x61.length + ([!y68] : List Bool).length ≤ 1099511627776 then (some (.inl (i64.wrap (x56 + 1), x72, x73, x74, (x60 ++ ([x71] : List Int)), (x61 ++ ([!y68] : List Bool))))) else none) else none
noncomputable def rl_play_Sheet_l3 (p2 : Int) (x56 : Int) (x57 : List Int) (x58 : Int) (x59 : Int) (x60 : List Int) (x61 : List Bool) : Option ((Int × (List Int) × Int × Int × (List Int) × (List Bool)) ⊕ ((List Int) × Int × Int × (List Int) × (List Bool))) := if (decide (x56 < p2)) = true then (bind2 (rl_make_Deck_One (⟨x57, x58, x59⟩ : S_recordlinkmake_Deck) 5) fun y68 y69 => (if (!y68) = true then (bind2 (rl_make_Deck_Next y69 3) fun y78 y79 => (rl_play_Sheet_k4 x56 x60 x61 y68 (u64.wrap y78) y79.list y79.at_ y79.state)) else (rl_play_Sheet_k4 x56 x60 x61 y68 0 y69.list y69.at_ y69.state))) else (some (.inr (x57, x58, x59, x60, x61)))
noncomputable def rl_play_Sheet_l1 (p1 : Int) (p2 : Int) (x10 : List S_api_Sent) (x11 : Int) (x12 : Int) (x13 : List Int) (x14 : Int) (x15 : Int) : Option (((List S_api_Sent) × Int × Int × (List Int) × Int × Int) ⊕ ((List S_api_Sent) × (List Int) × Int × Int)) := if (decide (x12 > 0)) = true then (bind2 (rl_make_Deck_Next (⟨x13, x14, x15⟩ : S_recordlinkmake_Deck) 2) fun y21 y22 => (bind2 (rl_make_Deck_Next y22 2) fun y24 y25 => (bind4 (loop (fun v : Int × (List Int) × Int × Int × (List S_api_Bits) => rl_play_Sheet_l2 p1 v.1 v.2.1 v.2.2.1 v.2.2.2.1 v.2.2.2.2) (0, y25.list, y25.at_, y25.state, ([] : List S_api_Bits))) fun x46 x47 x48 x49 => (bind5 (loop (fun v : Int × (List Int) × Int × Int × (List Int) × (List Bool) => rl_play_Sheet_l3 p2 v.1 v.2.1 v.2.2.1 v.2.2.2.1 v.2.2.2.2.1 v.2.2.2.2.2) (0, x46, x47, x48, ([] : List Int), ([] : List Bool))) fun x81 x82 x83 x84 x85 => (if x10.length + ([(⟨(⟨i64.wrap (x11 + (i64.wrap (1 + y21))), i64.wrap (1 + y24), x49⟩ : S_api_Encoded), x84, x85⟩ : S_api_Sent)] : List S_api_Sent).length ≤ 1099511627776 then (some (.inl ((x10 ++ ([(⟨(⟨i64.wrap (x11 + (i64.wrap (1 + y21))), i64.wrap (1 + y24), x49⟩ : S_api_Encoded), x84, x85⟩ : S_api_Sent)] : List S_api_Sent)), i64.wrap (x11 + (i64.wrap (1 + y21))), i64.wrap (x12 - 1), x81, x82, x83))) else none))))) else (some (.inr (x10, x13, x14, x15)))
noncomputable def rl_play_Sheet (p0 : S_recordlinkmake_Deck) (p1 : Int) (p2 : Int) (p3 : Int) : Option ((List S_api_Sent) × S_recordlinkmake_Deck) := bind2 (rl_make_Deck_Next p0 (i64.wrap (p3 + 1))) fun y1 y2 => (bind4 (loop (fun v : (List S_api_Sent) × Int × Int × (List Int) × Int × Int => rl_play_Sheet_l1 p1 p2 v.1 v.2.1 v.2.2.1 v.2.2.2.1 v.2.2.2.2.1 v.2.2.2.2.2) (([] : List S_api_Sent), 0, y1, y2.list, y2.at_, y2.state)) fun x89 x90 x91 x92 => (some (x89, (⟨x90, x91, x92⟩ : S_recordlinkmake_Deck))))
set_option maxRecDepth 100000 in
theorem rl_play_Sheet_con (p0 : S_recordlinkmake_Deck) (p1 : Int) (p2 : Int) (p3 : Int) (r : (List S_api_Sent) × S_recordlinkmake_Deck) (h : rl_play_Sheet p0 p1 p2 p3 = some r) : Con Try.prog 51 [.c (.ptr 0 3 0 0), vi64 p1, vi64 p2, vi64 p3] [(0, .box 86 [cl 1 Ri64 p0.list, ci64 p0.at_, cu64 p0.state])] (.c (.ref 1 5 0 r.1.length)) [(0, .box 86 [cl 1 Ri64 r.2.list, ci64 r.2.at_, cu64 r.2.state]), (1, .row 44 false 5 r.1.length (RS_api_Sent r.1))] := by
 refine con_of tt_ok1 1 Try.func51 (by kernel_rfl) rfl (by kernel_rfl) (fun base X _ => AW.post ?_)
 unfold rl_play_Sheet at h
 refine AW.sg tt_ok1 [] [] [] 2 [] (by kernel_rfl) ?_
 refine AW.sg tt_ok1 [(9, .c (.t (.v (.slice none 0 0))))] [] [] 3 [] (by kernel_rfl) ?_
 refine AW.sg tt_ok1 [(10, vi64 0)] [] [] 4 [] (by kernel_rfl) ?_
 refine AW.seq ?_
 obtain ⟨y1, y2, e3, h⟩ := bind2_some h
 refine AW.sg tt_ok1 [(11, vi64 y1)] [0] [(0, .box 86 [cl 1 Ri64 y2.list, ci64 y2.at_, cu64 y2.state])] 8 [hn, hn, hn, hl [0] [] 0 (rl_make_Deck_Next_con p0 (i64.wrap (p3 + 1)) (y1, y2) e3)] (by kernel_rfl) ?_
 refine AW.block ?_
 obtain ⟨x89, x90, x91, x92, l93, h⟩ := bind4_some h
 refine AW.lp l93 (fun v => ⟨[(0, .c (.ptr 0 3 0 0)), (1, vi64 p1), (2, vi64 p2), (9, .c (.ref 1 5 0 v.1.length)), (10, vi64 v.2.1), (11, vi64 v.2.2.1)], [(0, .box 86 [cl 1 Ri64 v.2.2.2.1, ci64 v.2.2.2.2.1, cu64 v.2.2.2.2.2]), (1, .row 44 false 5 v.1.length (RS_api_Sent v.1))], 2⟩) (fun t : (List S_api_Sent) × (List Int) × Int × Int => (.exit 0, ⟨[(9, .c (.ref 1 5 0 t.1.length))], [(0, .box 86 [cl 1 Ri64 t.2.1, ci64 t.2.2.1, cu64 t.2.2.2]), (1, .row 44 false 5 t.1.length (RS_api_Sent t.1))], 2⟩)) (Conv.trans (conv_adopt (t := 9) (ty := 44) (sz := 5) (n := ([] : List S_api_Sent).length) (f := RS_api_Sent ([] : List S_api_Sent)) (by kernel_rfl) rfl) (conv_re [(0, 0), (1, 8)] (by kernel_rfl))) (fun _ => tv) ?_ ?_
 ·
  clear l93 h
  intro v o h
  obtain ⟨x10, x11, x12, x13, x14, x15⟩ := v
  replace h : rl_play_Sheet_l1 p1 p2 x10 x11 x12 x13 x14 x15 = some o := h
  unfold rl_play_Sheet_l1 at h
  refine AW.seq ?_
  refine AW.sg tt_ok1 [(22, vb (decide (x12 > 0)))] [] [] 4 [] (by kernel_rfl) ?_
  refine AW.co h (by kernel_rfl) (fun c20 h => ?_) (fun c20 h => ?_)
  ·
   refine AW.skip (AW.tn ?_)
   refine AW.seq (AW.block ?_)
   obtain ⟨y21, y22, e23, h⟩ := bind2_some h
   refine AW.sg tt_ok1 [(10, vi64 (i64.wrap (x11 + (i64.wrap (1 + y21)))))] [0] [(0, .box 86 [cl 1 Ri64 y22.list, ci64 y22.at_, cu64 y22.state])] 9 [hn, hn, hl [0] [] 0 (rl_make_Deck_Next_con (⟨x13, x14, x15⟩ : S_recordlinkmake_Deck) 2 (y21, y22) e23)] (by kernel_rfl) ?_
   obtain ⟨y24, y25, e26, h⟩ := bind2_some h
   refine AW.sg tt_ok1 [(12, .c (.ptr 14 5 0 0))] [0, 14] [(14, .box 44 [ci64 (i64.wrap (x11 + (i64.wrap (1 + y21)))), ci64 (i64.wrap (1 + y24)), .t (.v (.slice none 0 0)), .t (.v (.slice none 0 0)), .t (.v (.slice none 0 0))]), (0, .box 86 [cl 1 Ri64 y25.list, ci64 y25.at_, cu64 y25.state])] 16 [hn, hn, hl [0] [] 0 (rl_make_Deck_Next_con y22 2 (y24, y25) e26)] (by kernel_rfl) ?_
   refine AW.seq ?_
   refine AW.sg tt_ok1 [(13, vi64 0)] [] [] 17 [] (by kernel_rfl) ?_
   refine AW.block ?_
   obtain ⟨x46, x47, x48, x49, l88, h⟩ := bind4_some h
   refine AW.lp l88 (fun v => ⟨[(0, .c (.ptr 0 3 0 0)), (1, vi64 p1), (2, vi64 p2), (9, .c (.ref 1 5 0 x10.length)), (10, vi64 (i64.wrap (x11 + (i64.wrap (1 + y21))))), (11, vi64 x12), (12, .c (.ptr 2 5 0 0)), (13, vi64 v.1)], [(0, .box 86 [cl 1 Ri64 v.2.1, ci64 v.2.2.1, cu64 v.2.2.2.1]), (1, .row 44 false 5 x10.length (RS_api_Sent x10)), (2, .box 44 [ci64 (i64.wrap (x11 + (i64.wrap (1 + y21)))), ci64 (i64.wrap (1 + y24)), .ref 3 2 0 v.2.2.2.2.length, .t (.v (.slice none 0 0)), .t (.v (.slice none 0 0))]), (3, .row 84 false 2 v.2.2.2.2.length (RS_api_Bits v.2.2.2.2))], 4⟩) (fun t : (List Int) × Int × Int × (List S_api_Bits) => (.exit 2, ⟨[(0, .c (.ptr 0 3 0 0)), (1, vi64 p1), (2, vi64 p2), (9, .c (.ref 1 5 0 x10.length)), (10, vi64 (i64.wrap (x11 + (i64.wrap (1 + y21))))), (11, vi64 x12), (12, .c (.ptr 2 5 0 0))], [(0, .box 86 [cl 1 Ri64 t.1, ci64 t.2.1, cu64 t.2.2.1]), (1, .row 44 false 5 x10.length (RS_api_Sent x10)), (2, .box 44 [ci64 (i64.wrap (x11 + (i64.wrap (1 + y21)))), ci64 (i64.wrap (1 + y24)), .ref 3 2 0 t.2.2.2.length, .t (.v (.slice none 0 0)), .t (.v (.slice none 0 0))]), (3, .row 84 false 2 t.2.2.2.length (RS_api_Bits t.2.2.2))], 4⟩)) (Conv.trans (conv_adoptB (id := 14) (ty0 := 44) (cs := [ci64 (i64.wrap (x11 + (i64.wrap (1 + y21)))), ci64 (i64.wrap (1 + y24)), .t (.v (.slice none 0 0)), .t (.v (.slice none 0 0)), .t (.v (.slice none 0 0))]) 2 (ty := 84) (sz := 2) (n := ([] : List S_api_Bits).length) (f := RS_api_Bits ([] : List S_api_Bits)) (by kernel_rfl) (by kernel_rfl) rfl) (conv_re [(0, 0), (1, 1), (2, 14), (3, 17)] (by kernel_rfl))) (fun _ => tv) ?_ ?_
   ·
    clear l88 h
    intro v o h
    obtain ⟨x32, x33, x34, x35, x36⟩ := v
    replace h : rl_play_Sheet_l2 p1 x32 x33 x34 x35 x36 = some o := h
    unfold rl_play_Sheet_l2 at h
    refine AW.seq ?_
    refine AW.sg tt_ok1 [(38, vb (decide (x32 < p1)))] [] [] 7 [] (by kernel_rfl) ?_
    refine AW.co h (by kernel_rfl) (fun c41 h => ?_) (fun c41 h => ?_)
    ·
     refine AW.skip (AW.tn ?_)
     refine AW.seq (AW.block ?_)
     obtain ⟨y42, y43, e44, h⟩ := bind2_some h
     obtain ⟨g45, h⟩ := ifc h
     refine AW.rd tt_ok1 mo1 [[], [], [], [], [0], [11], [12, 3], [], [], [2]] [] [(2, .box 44 [ci64 (i64.wrap (x11 + (i64.wrap (1 + y21)))), ci64 (i64.wrap (1 + y24)), .ref 12 2 0 ((x36 ++ ([y42] : List S_api_Bits)).length), .t (.v (.slice none 0 0)), .t (.v (.slice none 0 0))]), (12, .row 84 false 2 (x36 ++ ([y42] : List S_api_Bits)).length (RS_api_Bits (x36 ++ ([y42] : List S_api_Bits)))), (0, .box 86 [cl 1 Ri64 y43.list, ci64 y43.at_, cu64 y43.state])] 16 [hn, hn, hn, hn, hl [0] [] 0 (rl_play_Array_conT (⟨x33, x34, x35⟩ : S_recordlinkmake_Deck) (y42, y43) e44), hlit dS_api_Bits ES_api_Bits 2 (fun _ => rfl) ([y42] : List S_api_Bits), happ dS_api_Bits ES_api_Bits 2 32 x36 ([y42] : List S_api_Bits) g45 (by decide)] (by kernel_rfl) ?_
     refine AW.inBlock_normal (AW.tn ?_)
     refine AW.rg tt_ok1 [(13, vi64 (i64.wrap (x32 + 1)))] [] [] 19 [] (by kernel_rfl) ?_
     exact lpn h (conv_re [(0, 0), (1, 1), (2, 2), (3, 12)] (by kernel_rfl))
    ·
     refine AW.exit (AW.thenQ_exit ?_)
     exact lpo h rfl (conv_re [(0, 0), (1, 1), (2, 2), (3, 3)] (by kernel_rfl))
   ·
    show (_ : Exit → St → Prop) (.exit 2) _
    refine AW.inBlock_hit (AW.tn (AW.seq ?_))
    refine AW.sg tt_ok1 [(14, vi64 0)] [] [] 5 [] (by kernel_rfl) ?_
    refine AW.block ?_
    obtain ⟨x81, x82, x83, x84, x85, l87, h⟩ := bind5_some h
    refine AW.lp l87 (fun v => ⟨[(0, .c (.ptr 0 3 0 0)), (1, vi64 p1), (2, vi64 p2), (9, .c (.ref 1 5 0 x10.length)), (10, vi64 (i64.wrap (x11 + (i64.wrap (1 + y21))))), (11, vi64 x12), (12, .c (.ptr 2 5 0 0)), (14, vi64 v.1)], [(0, .box 86 [cl 1 Ri64 v.2.1, ci64 v.2.2.1, cu64 v.2.2.2.1]), (1, .row 44 false 5 x10.length (RS_api_Sent x10)), (2, .box 44 [ci64 (i64.wrap (x11 + (i64.wrap (1 + y21)))), ci64 (i64.wrap (1 + y24)), .ref 3 2 0 x49.length, .ref 4 1 0 v.2.2.2.2.1.length, .ref 5 1 0 v.2.2.2.2.2.length]), (3, .row 84 false 2 x49.length (RS_api_Bits x49)), (4, .row 45 false 1 v.2.2.2.2.1.length (Ru64 v.2.2.2.2.1)), (5, .row 4 false 1 v.2.2.2.2.2.length (Rb v.2.2.2.2.2))], 6⟩) (fun t : (List Int) × Int × Int × (List Int) × (List Bool) => (.exit 4, ⟨[(0, .c (.ptr 0 3 0 0)), (1, vi64 p1), (2, vi64 p2), (9, .c (.ref 1 5 0 x10.length)), (10, vi64 (i64.wrap (x11 + (i64.wrap (1 + y21))))), (11, vi64 x12), (12, .c (.ptr 2 5 0 0))], [(0, .box 86 [cl 1 Ri64 t.1, ci64 t.2.1, cu64 t.2.2.1]), (1, .row 44 false 5 x10.length (RS_api_Sent x10)), (2, .box 44 [ci64 (i64.wrap (x11 + (i64.wrap (1 + y21)))), ci64 (i64.wrap (1 + y24)), .ref 3 2 0 x49.length, .ref 4 1 0 t.2.2.2.1.length, .ref 5 1 0 t.2.2.2.2.length]), (3, .row 84 false 2 x49.length (RS_api_Bits x49)), (4, .row 45 false 1 t.2.2.2.1.length (Ru64 t.2.2.2.1)), (5, .row 4 false 1 t.2.2.2.2.length (Rb t.2.2.2.2))], 6⟩)) (Conv.trans (conv_adoptB (id := 2) (ty0 := 44) (cs := [ci64 (i64.wrap (x11 + (i64.wrap (1 + y21)))), ci64 (i64.wrap (1 + y24)), .ref 3 2 0 x49.length, .t (.v (.slice none 0 0)), .t (.v (.slice none 0 0))]) 3 (ty := 45) (sz := 1) (n := ([] : List Int).length) (f := Ru64 ([] : List Int)) (by kernel_rfl) (by kernel_rfl) rfl) (Conv.trans (conv_adoptB (id := 2) (ty0 := 44) (cs := [ci64 (i64.wrap (x11 + (i64.wrap (1 + y21)))), ci64 (i64.wrap (1 + y24)), .ref 3 2 0 x49.length, .ref 5 1 0 (([] : List Int).length), .t (.v (.slice none 0 0))]) 4 (ty := 4) (sz := 1) (n := ([] : List Bool).length) (f := Rb ([] : List Bool)) (by kernel_rfl) (by kernel_rfl) rfl) (conv_re [(0, 0), (1, 1), (2, 2), (3, 3), (4, 5), (5, 6)] (by kernel_rfl)))) (fun _ => tv) ?_ ?_
    ·
     clear l87 h
     intro v o h
     obtain ⟨x56, x57, x58, x59, x60, x61⟩ := v
     replace h : rl_play_Sheet_l3 p2 x56 x57 x58 x59 x60 x61 = some o := h
     unfold rl_play_Sheet_l3 at h
     refine AW.seq ?_
     refine AW.sg tt_ok1 [(52, vb (decide (x56 < p2)))] [] [] 9 [] (by kernel_rfl) ?_
     refine AW.co h (by kernel_rfl) (fun c67 h => ?_) (fun c67 h => ?_)
     ·
      refine AW.skip (AW.tn ?_)
      refine AW.seq (AW.block ?_)
      obtain ⟨y68, y69, e70, h⟩ := bind2_some h
      refine AW.sg tt_ok1 [(15, vb (!y68))] [0] [(0, .box 86 [cl 1 Ri64 y69.list, ci64 y69.at_, cu64 y69.state])] 12 [hn, hl [0] [] 0 (rl_make_Deck_One_con (⟨x57, x58, x59⟩ : S_recordlinkmake_Deck) 5 (y68, y69) e70)] (by kernel_rfl) ?_
      refine AW.sg tt_ok1 [(16, vu64 0)] [] [] 13 [] (by kernel_rfl) ?_
      refine AW.seq ?_
      refine AW.join (ι := Int × (List Int) × Int × Int) (fun v => ⟨[(0, .c (.ptr 0 3 0 0)), (1, vi64 p1), (2, vi64 p2), (9, .c (.ref 1 5 0 x10.length)), (10, vi64 (i64.wrap (x11 + (i64.wrap (1 + y21))))), (11, vi64 x12), (12, .c (.ptr 2 5 0 0)), (14, vi64 x56), (15, vb (!y68)), (16, vu64 v.1)], [(0, .box 86 [cl 1 Ri64 v.2.1, ci64 v.2.2.1, cu64 v.2.2.2]), (1, .row 44 false 5 x10.length (RS_api_Sent x10)), (2, .box 44 [ci64 (i64.wrap (x11 + (i64.wrap (1 + y21)))), ci64 (i64.wrap (1 + y24)), .ref 3 2 0 x49.length, .ref 4 1 0 x60.length, .ref 5 1 0 x61.length]), (3, .row 84 false 2 x49.length (RS_api_Bits x49)), (4, .row 45 false 1 x60.length (Ru64 x60)), (5, .row 4 false 1 x61.length (Rb x61))], 6⟩) (fun v : Int × (List Int) × Int × Int => rl_play_Sheet_k4 x56 x60 x61 y68 v.1 v.2.1 v.2.2.1 v.2.2.2 = some o) (fun v h => ?_) ?_
      ·
       obtain ⟨x71, x72, x73, x74⟩ := v
       replace h : rl_play_Sheet_k4 x56 x60 x61 y68 x71 x72 x73 x74 = some o := h
       unfold rl_play_Sheet_k4 at h
       refine AW.tn ?_
       obtain ⟨g75, g76, h⟩ := ifd h
       refine AW.rd tt_ok1 mo1 [[], [], [], [9], [10, 4], [], [], [], [14], [15, 5], [], [2], [], [2]] [] [(2, .box 44 [ci64 (i64.wrap (x11 + (i64.wrap (1 + y21)))), ci64 (i64.wrap (1 + y24)), .ref 3 2 0 x49.length, .ref 10 1 0 ((x60 ++ ([x71] : List Int)).length), .ref 15 1 0 ((x61 ++ ([!y68] : List Bool)).length)]), (15, .row 4 false 1 (x61 ++ ([!y68] : List Bool)).length (Rb (x61 ++ ([!y68] : List Bool)))), (10, .row 45 false 1 (x60 ++ ([x71] : List Int)).length (Ru64 (x60 ++ ([x71] : List Int))))] 20 [hn, hn, hn, hlit 0 Eu64 1 (fun _ => rfl) ([x71] : List Int), happ 0 Eu64 1 8 x60 ([x71] : List Int) g75 (by decide), hn, hn, hn, hlit false Eb 1 (fun _ => rfl) ([!y68] : List Bool), happ false Eb 1 1 x61 ([!y68] : List Bool) g76 (by decide)] (by kernel_rfl) ?_
       refine AW.inBlock_normal (AW.tn ?_)
       refine AW.rg tt_ok1 [(14, vi64 (i64.wrap (x56 + 1)))] [] [] 23 [] (by kernel_rfl) ?_
       exact lpn h (conv_re [(0, 0), (1, 1), (2, 2), (3, 3), (4, 10), (5, 15)] (by kernel_rfl))
      ·
       refine AW.sg tt_ok1 [(58, vb (!y68))] [] [] 14 [] (by kernel_rfl) ?_
       refine AW.co h (by kernel_rfl) (fun c77 h => ?_) (fun c77 h => ?_)
       ·
        obtain ⟨y78, y79, e80, h⟩ := bind2_some h
        refine AW.rg tt_ok1 [(16, vu64 (u64.wrap y78))] [0] [(0, .box 86 [cl 1 Ri64 y79.list, ci64 y79.at_, cu64 y79.state])] 17 [hn, hl [0] [] 0 (rl_make_Deck_Next_con y69 3 (y78, y79) e80)] (by kernel_rfl) ?_
        exact jl (u64.wrap y78, y79.list, y79.at_, y79.state) h (conv_re [(0, 0), (1, 1), (2, 2), (3, 3), (4, 4), (5, 5)] (by kernel_rfl))
       ·
        refine AW.skip ?_
        exact jl (0, y69.list, y69.at_, y69.state) h (conv_re [(0, 0), (1, 1), (2, 2), (3, 3), (4, 4), (5, 5)] (by kernel_rfl))
     ·
      refine AW.exit (AW.thenQ_exit ?_)
      exact lpo h rfl (conv_re [(0, 0), (1, 1), (2, 2), (3, 3), (4, 4), (5, 5)] (by kernel_rfl))
    ·
     show (_ : Exit → St → Prop) (.exit 4) _
     refine AW.inBlock_hit (AW.tn ?_)
     refine AW.pre (Conv.trans (cfz 3 84 2 x49.length (RS_api_Bits x49) (by kernel_rfl)) (conv_box (id := 2) (ty := 44) (cs := [ci64 (i64.wrap (x11 + (i64.wrap (1 + y21)))), ci64 (i64.wrap (1 + y24)), .ref 3 2 0 x49.length, .ref 4 1 0 x84.length, .ref 5 1 0 x85.length]) (ds := [ci64 (i64.wrap (x11 + (i64.wrap (1 + y21)))), ci64 (i64.wrap (1 + y24)), cl 2 RS_api_Bits x49, .ref 4 1 0 x84.length, .ref 5 1 0 x85.length]) (by kernel_rfl) ⟨CLe.refl _ _, CLe.refl _ _, CLe.ref (ty := 84) (f := RS_api_Bits x49) (by kernel_rfl) le0, CLe.refl _ _, CLe.refl _ _, tv⟩)) ?_
     refine AW.pre (Conv.trans (cfz 4 45 1 x84.length (Ru64 x84) (by kernel_rfl)) (conv_box (id := 2) (ty := 44) (cs := [ci64 (i64.wrap (x11 + (i64.wrap (1 + y21)))), ci64 (i64.wrap (1 + y24)), cl 2 RS_api_Bits x49, .ref 4 1 0 x84.length, .ref 5 1 0 x85.length]) (ds := [ci64 (i64.wrap (x11 + (i64.wrap (1 + y21)))), ci64 (i64.wrap (1 + y24)), cl 2 RS_api_Bits x49, cl 1 Ru64 x84, .ref 5 1 0 x85.length]) (by kernel_rfl) ⟨CLe.refl _ _, CLe.refl _ _, CLe.refl _ _, CLe.ref (ty := 45) (f := Ru64 x84) (by kernel_rfl) le0, CLe.refl _ _, tv⟩)) ?_
     refine AW.pre (Conv.trans (cfz 5 4 1 x85.length (Rb x85) (by kernel_rfl)) (conv_box (id := 2) (ty := 44) (cs := [ci64 (i64.wrap (x11 + (i64.wrap (1 + y21)))), ci64 (i64.wrap (1 + y24)), cl 2 RS_api_Bits x49, cl 1 Ru64 x84, .ref 5 1 0 x85.length]) (ds := [ci64 (i64.wrap (x11 + (i64.wrap (1 + y21)))), ci64 (i64.wrap (1 + y24)), cl 2 RS_api_Bits x49, cl 1 Ru64 x84, cl 1 Rb x85]) (by kernel_rfl) ⟨CLe.refl _ _, CLe.refl _ _, CLe.refl _ _, CLe.refl _ _, CLe.ref (ty := 4) (f := Rb x85) (by kernel_rfl) le0, tv⟩)) ?_
     obtain ⟨g86, h⟩ := ifc h
     refine AW.rg tt_ok1 [(9, .c (.ref 9 5 0 ((x10 ++ ([(⟨(⟨i64.wrap (x11 + (i64.wrap (1 + y21))), i64.wrap (1 + y24), x49⟩ : S_api_Encoded), x84, x85⟩ : S_api_Sent)] : List S_api_Sent)).length)))] [1, 8, 9] [(9, .row 44 false 5 (x10 ++ ([(⟨(⟨i64.wrap (x11 + (i64.wrap (1 + y21))), i64.wrap (1 + y24), x49⟩ : S_api_Encoded), x84, x85⟩ : S_api_Sent)] : List S_api_Sent)).length (RS_api_Sent (x10 ++ ([(⟨(⟨i64.wrap (x11 + (i64.wrap (1 + y21))), i64.wrap (1 + y24), x49⟩ : S_api_Encoded), x84, x85⟩ : S_api_Sent)] : List S_api_Sent))))] 11 [hn, hn, hlit dS_api_Sent ES_api_Sent 5 (fun _ => rfl) ([(⟨(⟨i64.wrap (x11 + (i64.wrap (1 + y21))), i64.wrap (1 + y24), x49⟩ : S_api_Encoded), x84, x85⟩ : S_api_Sent)] : List S_api_Sent), happ dS_api_Sent ES_api_Sent 5 88 x10 ([(⟨(⟨i64.wrap (x11 + (i64.wrap (1 + y21))), i64.wrap (1 + y24), x49⟩ : S_api_Encoded), x84, x85⟩ : S_api_Sent)] : List S_api_Sent) g86 (by decide)] (by kernel_rfl) ?_
     refine AW.inBlock_normal (AW.tn ?_)
     refine AW.rg tt_ok1 [(11, vi64 (i64.wrap (x12 - 1)))] [] [] 14 [] (by kernel_rfl) ?_
     exact lpn h (conv_re [(0, 0), (1, 9)] (by kernel_rfl))
  ·
   refine AW.exit (AW.thenQ_exit ?_)
   exact lpo h rfl (conv_re [(0, 0), (1, 1)] (by kernel_rfl))
 ·
  show (_ : Exit → St → Prop) (.exit 0) _
  refine AW.inBlock_hit (AW.tn ?_)
  refine AW.sg tt_ok1 [(8, .c (.ref 1 5 0 x89.length))] [] [] 4 [] (by kernel_rfl) ?_
  refine AW.ret ?_
  obtain rfl := some_inj h
  exact fn0 (.inr rfl) [(0, 0), (1, 1)] 2 (.c (.ref 1 5 0 x89.length)) (by kernel_rfl)
/-! recordlink/recordlinkplay.Sheet -/
set_option maxRecDepth 100000 in
theorem rl_play_Sheet_conT (p0 : S_recordlinkmake_Deck) (p1 : Int) (p2 : Int) (p3 : Int) (r : (List S_api_Sent) × S_recordlinkmake_Deck) (h : rl_play_Sheet p0 p1 p2 p3 = some r) : Con Try.prog 51 [.c (.ptr 0 3 0 0), vi64 p1, vi64 p2, vi64 p3] [(0, .box 86 [cl 1 Ri64 p0.list, ci64 p0.at_, cu64 p0.state])] (vl 5 RS_api_Sent r.1) [(0, .box 86 [cl 1 Ri64 r.2.list, ci64 r.2.at_, cu64 r.2.state])] := by
 refine con_of tt_ok1 1 Try.func51 (by kernel_rfl) rfl (by kernel_rfl) (fun base X _ => AW.post ?_)
 unfold rl_play_Sheet at h
 refine AW.sg tt_ok1 [] [] [] 2 [] (by kernel_rfl) ?_
 refine AW.sg tt_ok1 [(9, .c (.t (.v (.slice none 0 0))))] [] [] 3 [] (by kernel_rfl) ?_
 refine AW.sg tt_ok1 [(10, vi64 0)] [] [] 4 [] (by kernel_rfl) ?_
 refine AW.seq ?_
 obtain ⟨y1, y2, e3, h⟩ := bind2_some h
 refine AW.sg tt_ok1 [(11, vi64 y1)] [0] [(0, .box 86 [cl 1 Ri64 y2.list, ci64 y2.at_, cu64 y2.state])] 8 [hn, hn, hn, hl [0] [] 0 (rl_make_Deck_Next_con p0 (i64.wrap (p3 + 1)) (y1, y2) e3)] (by kernel_rfl) ?_
 refine AW.block ?_
 obtain ⟨x89, x90, x91, x92, l93, h⟩ := bind4_some h
 refine AW.lp l93 (fun v => ⟨[(0, .c (.ptr 0 3 0 0)), (1, vi64 p1), (2, vi64 p2), (9, .c (.ref 1 5 0 v.1.length)), (10, vi64 v.2.1), (11, vi64 v.2.2.1)], [(0, .box 86 [cl 1 Ri64 v.2.2.2.1, ci64 v.2.2.2.2.1, cu64 v.2.2.2.2.2]), (1, .row 44 false 5 v.1.length (RS_api_Sent v.1))], 2⟩) (fun t : (List S_api_Sent) × (List Int) × Int × Int => (.exit 0, ⟨[(9, .c (.ref 1 5 0 t.1.length))], [(0, .box 86 [cl 1 Ri64 t.2.1, ci64 t.2.2.1, cu64 t.2.2.2]), (1, .row 44 false 5 t.1.length (RS_api_Sent t.1))], 2⟩)) (Conv.trans (conv_adopt (t := 9) (ty := 44) (sz := 5) (n := ([] : List S_api_Sent).length) (f := RS_api_Sent ([] : List S_api_Sent)) (by kernel_rfl) rfl) (conv_re [(0, 0), (1, 8)] (by kernel_rfl))) (fun _ => tv) ?_ ?_
 ·
  clear l93 h
  intro v o h
  obtain ⟨x10, x11, x12, x13, x14, x15⟩ := v
  replace h : rl_play_Sheet_l1 p1 p2 x10 x11 x12 x13 x14 x15 = some o := h
  unfold rl_play_Sheet_l1 at h
  refine AW.seq ?_
  refine AW.sg tt_ok1 [(22, vb (decide (x12 > 0)))] [] [] 4 [] (by kernel_rfl) ?_
  refine AW.co h (by kernel_rfl) (fun c20 h => ?_) (fun c20 h => ?_)
  ·
   refine AW.skip (AW.tn ?_)
   refine AW.seq (AW.block ?_)
   obtain ⟨y21, y22, e23, h⟩ := bind2_some h
   refine AW.sg tt_ok1 [(10, vi64 (i64.wrap (x11 + (i64.wrap (1 + y21)))))] [0] [(0, .box 86 [cl 1 Ri64 y22.list, ci64 y22.at_, cu64 y22.state])] 9 [hn, hn, hl [0] [] 0 (rl_make_Deck_Next_con (⟨x13, x14, x15⟩ : S_recordlinkmake_Deck) 2 (y21, y22) e23)] (by kernel_rfl) ?_
   obtain ⟨y24, y25, e26, h⟩ := bind2_some h
   refine AW.sg tt_ok1 [(12, .c (.ptr 14 5 0 0))] [0, 14] [(14, .box 44 [ci64 (i64.wrap (x11 + (i64.wrap (1 + y21)))), ci64 (i64.wrap (1 + y24)), .t (.v (.slice none 0 0)), .t (.v (.slice none 0 0)), .t (.v (.slice none 0 0))]), (0, .box 86 [cl 1 Ri64 y25.list, ci64 y25.at_, cu64 y25.state])] 16 [hn, hn, hl [0] [] 0 (rl_make_Deck_Next_con y22 2 (y24, y25) e26)] (by kernel_rfl) ?_
   refine AW.seq ?_
   refine AW.sg tt_ok1 [(13, vi64 0)] [] [] 17 [] (by kernel_rfl) ?_
   refine AW.block ?_
   obtain ⟨x46, x47, x48, x49, l88, h⟩ := bind4_some h
   refine AW.lp l88 (fun v => ⟨[(0, .c (.ptr 0 3 0 0)), (1, vi64 p1), (2, vi64 p2), (9, .c (.ref 1 5 0 x10.length)), (10, vi64 (i64.wrap (x11 + (i64.wrap (1 + y21))))), (11, vi64 x12), (12, .c (.ptr 2 5 0 0)), (13, vi64 v.1)], [(0, .box 86 [cl 1 Ri64 v.2.1, ci64 v.2.2.1, cu64 v.2.2.2.1]), (1, .row 44 false 5 x10.length (RS_api_Sent x10)), (2, .box 44 [ci64 (i64.wrap (x11 + (i64.wrap (1 + y21)))), ci64 (i64.wrap (1 + y24)), .ref 3 2 0 v.2.2.2.2.length, .t (.v (.slice none 0 0)), .t (.v (.slice none 0 0))]), (3, .row 84 false 2 v.2.2.2.2.length (RS_api_Bits v.2.2.2.2))], 4⟩) (fun t : (List Int) × Int × Int × (List S_api_Bits) => (.exit 2, ⟨[(0, .c (.ptr 0 3 0 0)), (1, vi64 p1), (2, vi64 p2), (9, .c (.ref 1 5 0 x10.length)), (10, vi64 (i64.wrap (x11 + (i64.wrap (1 + y21))))), (11, vi64 x12), (12, .c (.ptr 2 5 0 0))], [(0, .box 86 [cl 1 Ri64 t.1, ci64 t.2.1, cu64 t.2.2.1]), (1, .row 44 false 5 x10.length (RS_api_Sent x10)), (2, .box 44 [ci64 (i64.wrap (x11 + (i64.wrap (1 + y21)))), ci64 (i64.wrap (1 + y24)), .ref 3 2 0 t.2.2.2.length, .t (.v (.slice none 0 0)), .t (.v (.slice none 0 0))]), (3, .row 84 false 2 t.2.2.2.length (RS_api_Bits t.2.2.2))], 4⟩)) (Conv.trans (conv_adoptB (id := 14) (ty0 := 44) (cs := [ci64 (i64.wrap (x11 + (i64.wrap (1 + y21)))), ci64 (i64.wrap (1 + y24)), .t (.v (.slice none 0 0)), .t (.v (.slice none 0 0)), .t (.v (.slice none 0 0))]) 2 (ty := 84) (sz := 2) (n := ([] : List S_api_Bits).length) (f := RS_api_Bits ([] : List S_api_Bits)) (by kernel_rfl) (by kernel_rfl) rfl) (conv_re [(0, 0), (1, 1), (2, 14), (3, 17)] (by kernel_rfl))) (fun _ => tv) ?_ ?_
   ·
    clear l88 h
    intro v o h
    obtain ⟨x32, x33, x34, x35, x36⟩ := v
    replace h : rl_play_Sheet_l2 p1 x32 x33 x34 x35 x36 = some o := h
    unfold rl_play_Sheet_l2 at h
    refine AW.seq ?_
    refine AW.sg tt_ok1 [(38, vb (decide (x32 < p1)))] [] [] 7 [] (by kernel_rfl) ?_
    refine AW.co h (by kernel_rfl) (fun c41 h => ?_) (fun c41 h => ?_)
    ·
     refine AW.skip (AW.tn ?_)
     refine AW.seq (AW.block ?_)
     obtain ⟨y42, y43, e44, h⟩ := bind2_some h
     obtain ⟨g45, h⟩ := ifc h
     refine AW.rd tt_ok1 mo1 [[], [], [], [], [0], [11], [12, 3], [], [], [2]] [] [(2, .box 44 [ci64 (i64.wrap (x11 + (i64.wrap (1 + y21)))), ci64 (i64.wrap (1 + y24)), .ref 12 2 0 ((x36 ++ ([y42] : List S_api_Bits)).length), .t (.v (.slice none 0 0)), .t (.v (.slice none 0 0))]), (12, .row 84 false 2 (x36 ++ ([y42] : List S_api_Bits)).length (RS_api_Bits (x36 ++ ([y42] : List S_api_Bits)))), (0, .box 86 [cl 1 Ri64 y43.list, ci64 y43.at_, cu64 y43.state])] 16 [hn, hn, hn, hn, hl [0] [] 0 (rl_play_Array_conT (⟨x33, x34, x35⟩ : S_recordlinkmake_Deck) (y42, y43) e44), hlit dS_api_Bits ES_api_Bits 2 (fun _ => rfl) ([y42] : List S_api_Bits), happ dS_api_Bits ES_api_Bits 2 32 x36 ([y42] : List S_api_Bits) g45 (by decide)] (by kernel_rfl) ?_
     refine AW.inBlock_normal (AW.tn ?_)
     refine AW.rg tt_ok1 [(13, vi64 (i64.wrap (x32 + 1)))] [] [] 19 [] (by kernel_rfl) ?_
     exact lpn h (conv_re [(0, 0), (1, 1), (2, 2), (3, 12)] (by kernel_rfl))
    ·
     refine AW.exit (AW.thenQ_exit ?_)
     exact lpo h rfl (conv_re [(0, 0), (1, 1), (2, 2), (3, 3)] (by kernel_rfl))
   ·
    show (_ : Exit → St → Prop) (.exit 2) _
    refine AW.inBlock_hit (AW.tn (AW.seq ?_))
    refine AW.sg tt_ok1 [(14, vi64 0)] [] [] 5 [] (by kernel_rfl) ?_
    refine AW.block ?_
    obtain ⟨x81, x82, x83, x84, x85, l87, h⟩ := bind5_some h
    refine AW.lp l87 (fun v => ⟨[(0, .c (.ptr 0 3 0 0)), (1, vi64 p1), (2, vi64 p2), (9, .c (.ref 1 5 0 x10.length)), (10, vi64 (i64.wrap (x11 + (i64.wrap (1 + y21))))), (11, vi64 x12), (12, .c (.ptr 2 5 0 0)), (14, vi64 v.1)], [(0, .box 86 [cl 1 Ri64 v.2.1, ci64 v.2.2.1, cu64 v.2.2.2.1]), (1, .row 44 false 5 x10.length (RS_api_Sent x10)), (2, .box 44 [ci64 (i64.wrap (x11 + (i64.wrap (1 + y21)))), ci64 (i64.wrap (1 + y24)), .ref 3 2 0 x49.length, .ref 4 1 0 v.2.2.2.2.1.length, .ref 5 1 0 v.2.2.2.2.2.length]), (3, .row 84 false 2 x49.length (RS_api_Bits x49)), (4, .row 45 false 1 v.2.2.2.2.1.length (Ru64 v.2.2.2.2.1)), (5, .row 4 false 1 v.2.2.2.2.2.length (Rb v.2.2.2.2.2))], 6⟩) (fun t : (List Int) × Int × Int × (List Int) × (List Bool) => (.exit 4, ⟨[(0, .c (.ptr 0 3 0 0)), (1, vi64 p1), (2, vi64 p2), (9, .c (.ref 1 5 0 x10.length)), (10, vi64 (i64.wrap (x11 + (i64.wrap (1 + y21))))), (11, vi64 x12), (12, .c (.ptr 2 5 0 0))], [(0, .box 86 [cl 1 Ri64 t.1, ci64 t.2.1, cu64 t.2.2.1]), (1, .row 44 false 5 x10.length (RS_api_Sent x10)), (2, .box 44 [ci64 (i64.wrap (x11 + (i64.wrap (1 + y21)))), ci64 (i64.wrap (1 + y24)), .ref 3 2 0 x49.length, .ref 4 1 0 t.2.2.2.1.length, .ref 5 1 0 t.2.2.2.2.length]), (3, .row 84 false 2 x49.length (RS_api_Bits x49)), (4, .row 45 false 1 t.2.2.2.1.length (Ru64 t.2.2.2.1)), (5, .row 4 false 1 t.2.2.2.2.length (Rb t.2.2.2.2))], 6⟩)) (Conv.trans (conv_adoptB (id := 2) (ty0 := 44) (cs := [ci64 (i64.wrap (x11 + (i64.wrap (1 + y21)))), ci64 (i64.wrap (1 + y24)), .ref 3 2 0 x49.length, .t (.v (.slice none 0 0)), .t (.v (.slice none 0 0))]) 3 (ty := 45) (sz := 1) (n := ([] : List Int).length) (f := Ru64 ([] : List Int)) (by kernel_rfl) (by kernel_rfl) rfl) (Conv.trans (conv_adoptB (id := 2) (ty0 := 44) (cs := [ci64 (i64.wrap (x11 + (i64.wrap (1 + y21)))), ci64 (i64.wrap (1 + y24)), .ref 3 2 0 x49.length, .ref 5 1 0 (([] : List Int).length), .t (.v (.slice none 0 0))]) 4 (ty := 4) (sz := 1) (n := ([] : List Bool).length) (f := Rb ([] : List Bool)) (by kernel_rfl) (by kernel_rfl) rfl) (conv_re [(0, 0), (1, 1), (2, 2), (3, 3), (4, 5), (5, 6)] (by kernel_rfl)))) (fun _ => tv) ?_ ?_
    ·
     clear l87 h
     intro v o h
     obtain ⟨x56, x57, x58, x59, x60, x61⟩ := v
     replace h : rl_play_Sheet_l3 p2 x56 x57 x58 x59 x60 x61 = some o := h
     unfold rl_play_Sheet_l3 at h
     refine AW.seq ?_
     refine AW.sg tt_ok1 [(52, vb (decide (x56 < p2)))] [] [] 9 [] (by kernel_rfl) ?_
     refine AW.co h (by kernel_rfl) (fun c67 h => ?_) (fun c67 h => ?_)
     ·
      refine AW.skip (AW.tn ?_)
      refine AW.seq (AW.block ?_)
      obtain ⟨y68, y69, e70, h⟩ := bind2_some h
      refine AW.sg tt_ok1 [(15, vb (!y68))] [0] [(0, .box 86 [cl 1 Ri64 y69.list, ci64 y69.at_, cu64 y69.state])] 12 [hn, hl [0] [] 0 (rl_make_Deck_One_con (⟨x57, x58, x59⟩ : S_recordlinkmake_Deck) 5 (y68, y69) e70)] (by kernel_rfl) ?_
      refine AW.sg tt_ok1 [(16, vu64 0)] [] [] 13 [] (by kernel_rfl) ?_
      refine AW.seq ?_
      refine AW.join (ι := Int × (List Int) × Int × Int) (fun v => ⟨[(0, .c (.ptr 0 3 0 0)), (1, vi64 p1), (2, vi64 p2), (9, .c (.ref 1 5 0 x10.length)), (10, vi64 (i64.wrap (x11 + (i64.wrap (1 + y21))))), (11, vi64 x12), (12, .c (.ptr 2 5 0 0)), (14, vi64 x56), (15, vb (!y68)), (16, vu64 v.1)], [(0, .box 86 [cl 1 Ri64 v.2.1, ci64 v.2.2.1, cu64 v.2.2.2]), (1, .row 44 false 5 x10.length (RS_api_Sent x10)), (2, .box 44 [ci64 (i64.wrap (x11 + (i64.wrap (1 + y21)))), ci64 (i64.wrap (1 + y24)), .ref 3 2 0 x49.length, .ref 4 1 0 x60.length, .ref 5 1 0 x61.length]), (3, .row 84 false 2 x49.length (RS_api_Bits x49)), (4, .row 45 false 1 x60.length (Ru64 x60)), (5, .row 4 false 1 x61.length (Rb x61))], 6⟩) (fun v : Int × (List Int) × Int × Int => rl_play_Sheet_k4 x56 x60 x61 y68 v.1 v.2.1 v.2.2.1 v.2.2.2 = some o) (fun v h => ?_) ?_
      ·
       obtain ⟨x71, x72, x73, x74⟩ := v
       replace h : rl_play_Sheet_k4 x56 x60 x61 y68 x71 x72 x73 x74 = some o := h
       unfold rl_play_Sheet_k4 at h
       refine AW.tn ?_
       obtain ⟨g75, g76, h⟩ := ifd h
       refine AW.rd tt_ok1 mo1 [[], [], [], [9], [10, 4], [], [], [], [14], [15, 5], [], [2], [], [2]] [] [(2, .box 44 [ci64 (i64.wrap (x11 + (i64.wrap (1 + y21)))), ci64 (i64.wrap (1 + y24)), .ref 3 2 0 x49.length, .ref 10 1 0 ((x60 ++ ([x71] : List Int)).length), .ref 15 1 0 ((x61 ++ ([!y68] : List Bool)).length)]), (15, .row 4 false 1 (x61 ++ ([!y68] : List Bool)).length (Rb (x61 ++ ([!y68] : List Bool)))), (10, .row 45 false 1 (x60 ++ ([x71] : List Int)).length (Ru64 (x60 ++ ([x71] : List Int))))] 20 [hn, hn, hn, hlit 0 Eu64 1 (fun _ => rfl) ([x71] : List Int), happ 0 Eu64 1 8 x60 ([x71] : List Int) g75 (by decide), hn, hn, hn, hlit false Eb 1 (fun _ => rfl) ([!y68] : List Bool), happ false Eb 1 1 x61 ([!y68] : List Bool) g76 (by decide)] (by kernel_rfl) ?_
       refine AW.inBlock_normal (AW.tn ?_)
       refine AW.rg tt_ok1 [(14, vi64 (i64.wrap (x56 + 1)))] [] [] 23 [] (by kernel_rfl) ?_
       exact lpn h (conv_re [(0, 0), (1, 1), (2, 2), (3, 3), (4, 10), (5, 15)] (by kernel_rfl))
      ·
       refine AW.sg tt_ok1 [(58, vb (!y68))] [] [] 14 [] (by kernel_rfl) ?_
       refine AW.co h (by kernel_rfl) (fun c77 h => ?_) (fun c77 h => ?_)
       ·
        obtain ⟨y78, y79, e80, h⟩ := bind2_some h
        refine AW.rg tt_ok1 [(16, vu64 (u64.wrap y78))] [0] [(0, .box 86 [cl 1 Ri64 y79.list, ci64 y79.at_, cu64 y79.state])] 17 [hn, hl [0] [] 0 (rl_make_Deck_Next_con y69 3 (y78, y79) e80)] (by kernel_rfl) ?_
        exact jl (u64.wrap y78, y79.list, y79.at_, y79.state) h (conv_re [(0, 0), (1, 1), (2, 2), (3, 3), (4, 4), (5, 5)] (by kernel_rfl))
       ·
        refine AW.skip ?_
        exact jl (0, y69.list, y69.at_, y69.state) h (conv_re [(0, 0), (1, 1), (2, 2), (3, 3), (4, 4), (5, 5)] (by kernel_rfl))
     ·
      refine AW.exit (AW.thenQ_exit ?_)
      exact lpo h rfl (conv_re [(0, 0), (1, 1), (2, 2), (3, 3), (4, 4), (5, 5)] (by kernel_rfl))
    ·
     show (_ : Exit → St → Prop) (.exit 4) _
     refine AW.inBlock_hit (AW.tn ?_)
     refine AW.pre (Conv.trans (cfz 3 84 2 x49.length (RS_api_Bits x49) (by kernel_rfl)) (conv_box (id := 2) (ty := 44) (cs := [ci64 (i64.wrap (x11 + (i64.wrap (1 + y21)))), ci64 (i64.wrap (1 + y24)), .ref 3 2 0 x49.length, .ref 4 1 0 x84.length, .ref 5 1 0 x85.length]) (ds := [ci64 (i64.wrap (x11 + (i64.wrap (1 + y21)))), ci64 (i64.wrap (1 + y24)), cl 2 RS_api_Bits x49, .ref 4 1 0 x84.length, .ref 5 1 0 x85.length]) (by kernel_rfl) ⟨CLe.refl _ _, CLe.refl _ _, CLe.ref (ty := 84) (f := RS_api_Bits x49) (by kernel_rfl) le0, CLe.refl _ _, CLe.refl _ _, tv⟩)) ?_
     refine AW.pre (Conv.trans (cfz 4 45 1 x84.length (Ru64 x84) (by kernel_rfl)) (conv_box (id := 2) (ty := 44) (cs := [ci64 (i64.wrap (x11 + (i64.wrap (1 + y21)))), ci64 (i64.wrap (1 + y24)), cl 2 RS_api_Bits x49, .ref 4 1 0 x84.length, .ref 5 1 0 x85.length]) (ds := [ci64 (i64.wrap (x11 + (i64.wrap (1 + y21)))), ci64 (i64.wrap (1 + y24)), cl 2 RS_api_Bits x49, cl 1 Ru64 x84, .ref 5 1 0 x85.length]) (by kernel_rfl) ⟨CLe.refl _ _, CLe.refl _ _, CLe.refl _ _, CLe.ref (ty := 45) (f := Ru64 x84) (by kernel_rfl) le0, CLe.refl _ _, tv⟩)) ?_
     refine AW.pre (Conv.trans (cfz 5 4 1 x85.length (Rb x85) (by kernel_rfl)) (conv_box (id := 2) (ty := 44) (cs := [ci64 (i64.wrap (x11 + (i64.wrap (1 + y21)))), ci64 (i64.wrap (1 + y24)), cl 2 RS_api_Bits x49, cl 1 Ru64 x84, .ref 5 1 0 x85.length]) (ds := [ci64 (i64.wrap (x11 + (i64.wrap (1 + y21)))), ci64 (i64.wrap (1 + y24)), cl 2 RS_api_Bits x49, cl 1 Ru64 x84, cl 1 Rb x85]) (by kernel_rfl) ⟨CLe.refl _ _, CLe.refl _ _, CLe.refl _ _, CLe.refl _ _, CLe.ref (ty := 4) (f := Rb x85) (by kernel_rfl) le0, tv⟩)) ?_
     obtain ⟨g86, h⟩ := ifc h
     refine AW.rg tt_ok1 [(9, .c (.ref 9 5 0 ((x10 ++ ([(⟨(⟨i64.wrap (x11 + (i64.wrap (1 + y21))), i64.wrap (1 + y24), x49⟩ : S_api_Encoded), x84, x85⟩ : S_api_Sent)] : List S_api_Sent)).length)))] [1, 8, 9] [(9, .row 44 false 5 (x10 ++ ([(⟨(⟨i64.wrap (x11 + (i64.wrap (1 + y21))), i64.wrap (1 + y24), x49⟩ : S_api_Encoded), x84, x85⟩ : S_api_Sent)] : List S_api_Sent)).length (RS_api_Sent (x10 ++ ([(⟨(⟨i64.wrap (x11 + (i64.wrap (1 + y21))), i64.wrap (1 + y24), x49⟩ : S_api_Encoded), x84, x85⟩ : S_api_Sent)] : List S_api_Sent))))] 11 [hn, hn, hlit dS_api_Sent ES_api_Sent 5 (fun _ => rfl) ([(⟨(⟨i64.wrap (x11 + (i64.wrap (1 + y21))), i64.wrap (1 + y24), x49⟩ : S_api_Encoded), x84, x85⟩ : S_api_Sent)] : List S_api_Sent), happ dS_api_Sent ES_api_Sent 5 88 x10 ([(⟨(⟨i64.wrap (x11 + (i64.wrap (1 + y21))), i64.wrap (1 + y24), x49⟩ : S_api_Encoded), x84, x85⟩ : S_api_Sent)] : List S_api_Sent) g86 (by decide)] (by kernel_rfl) ?_
     refine AW.inBlock_normal (AW.tn ?_)
     refine AW.rg tt_ok1 [(11, vi64 (i64.wrap (x12 - 1)))] [] [] 14 [] (by kernel_rfl) ?_
     exact lpn h (conv_re [(0, 0), (1, 9)] (by kernel_rfl))
  ·
   refine AW.exit (AW.thenQ_exit ?_)
   exact lpo h rfl (conv_re [(0, 0), (1, 1)] (by kernel_rfl))
 ·
  show (_ : Exit → St → Prop) (.exit 0) _
  refine AW.inBlock_hit (AW.tn ?_)
  refine AW.sg tt_ok1 [(8, .c (.ref 1 5 0 x89.length))] [] [] 4 [] (by kernel_rfl) ?_
  refine AW.ret ?_
  obtain rfl := some_inj h
  exact fnR (.inr rfl) [(0, 0)] 1 (vl 5 RS_api_Sent x89) (Conv.trans (cfz 1 44 5 x89.length (RS_api_Sent x89) (by kernel_rfl)) (conv_tms [(8, vl 5 RS_api_Sent x89)] ⟨⟨.c (.ref 1 5 0 x89.length), by kernel_rfl, ALe.c (CLe.ref (ty := 44) (f := RS_api_Sent x89) (by kernel_rfl) le0)⟩, tv⟩)) (by kernel_rfl)
/-! recordlink/recordlinkplay.Sheets -/
noncomputable def rl_play_Sheets_l1 (p1 : Int) (p2 : Int) (p3 : Int) (p4 : Int) (x6 : List (List S_api_Sent)) (x7 : Int) (x8 : List Int) (x9 : Int) (x10 : Int) : Option (((List (List S_api_Sent)) × Int × (List Int) × Int × Int) ⊕ ((List (List S_api_Sent)) × (List Int) × Int × Int)) := if (decide (x7 < p3)) = true then (bind2 (rl_play_Sheet (⟨x8, x9, x10⟩ : S_recordlinkmake_Deck) p1 p2 p4) fun y16 y17 => (if x6.length + ([y16] : List (List S_api_Sent)).length ≤ 1099511627776 then (some (.inl ((x6 ++ ([y16] : List (List S_api_Sent))), i64.wrap (x7 + 1), y17.list, y17.at_, y17.state))) else none)) else (some (.inr (x6, x8, x9, x10)))
noncomputable def rl_play_Sheets (p0 : S_recordlinkmake_Deck) (p1 : Int) (p2 : Int) (p3 : Int) (p4 : Int) : Option ((List (List S_api_Sent)) × S_recordlinkmake_Deck) := bind4 (loop (fun v : (List (List S_api_Sent)) × Int × (List Int) × Int × Int => rl_play_Sheets_l1 p1 p2 p3 p4 v.1 v.2.1 v.2.2.1 v.2.2.2.1 v.2.2.2.2) (([] : List (List S_api_Sent)), 0, p0.list, p0.at_, p0.state)) fun x20 x21 x22 x23 => (some (x20, (⟨x21, x22, x23⟩ : S_recordlinkmake_Deck)))
set_option maxRecDepth 100000 in
theorem rl_play_Sheets_con (p0 : S_recordlinkmake_Deck) (p1 : Int) (p2 : Int) (p3 : Int) (p4 : Int) (r : (List (List S_api_Sent)) × S_recordlinkmake_Deck) (h : rl_play_Sheets p0 p1 p2 p3 p4 = some r) : Con Try.prog 16 [.c (.ptr 0 3 0 0), vi64 p1, vi64 p2, vi64 p3, vi64 p4] [(0, .box 86 [cl 1 Ri64 p0.list, ci64 p0.at_, cu64 p0.state])] (.c (.ref 1 1 0 r.1.length)) [(0, .box 86 [cl 1 Ri64 r.2.list, ci64 r.2.at_, cu64 r.2.state]), (1, .row 37 false 1 r.1.length (RlS_api_Sent r.1))] := by
 refine con_of tt_ok1 1 Try.func16 (by kernel_rfl) rfl (by kernel_rfl) (fun base X _ => AW.post ?_)
 unfold rl_play_Sheets at h
 refine AW.sg tt_ok1 [] [] [] 2 [] (by kernel_rfl) ?_
 refine AW.sg tt_ok1 [(11, .c (.t (.v (.slice none 0 0))))] [] [] 3 [] (by kernel_rfl) ?_
 refine AW.seq ?_
 refine AW.sg tt_ok1 [(12, vi64 0)] [] [] 4 [] (by kernel_rfl) ?_
 refine AW.block ?_
 obtain ⟨x20, x21, x22, x23, l24, h⟩ := bind4_some h
 refine AW.lp l24 (fun v => ⟨[(0, .c (.ptr 0 3 0 0)), (1, vi64 p1), (2, vi64 p2), (3, vi64 p3), (4, vi64 p4), (11, .c (.ref 1 1 0 v.1.length)), (12, vi64 v.2.1)], [(0, .box 86 [cl 1 Ri64 v.2.2.1, ci64 v.2.2.2.1, cu64 v.2.2.2.2]), (1, .row 37 false 1 v.1.length (RlS_api_Sent v.1))], 2⟩) (fun t : (List (List S_api_Sent)) × (List Int) × Int × Int => (.exit 0, ⟨[(11, .c (.ref 1 1 0 t.1.length))], [(0, .box 86 [cl 1 Ri64 t.2.1, ci64 t.2.2.1, cu64 t.2.2.2]), (1, .row 37 false 1 t.1.length (RlS_api_Sent t.1))], 2⟩)) (Conv.trans (conv_adopt (t := 11) (ty := 37) (sz := 1) (n := ([] : List (List S_api_Sent)).length) (f := RlS_api_Sent ([] : List (List S_api_Sent))) (by kernel_rfl) rfl) (conv_re [(0, 0), (1, 4)] (by kernel_rfl))) (fun _ => tv) ?_ ?_
 ·
  clear l24 h
  intro v o h
  obtain ⟨x6, x7, x8, x9, x10⟩ := v
  replace h : rl_play_Sheets_l1 p1 p2 p3 p4 x6 x7 x8 x9 x10 = some o := h
  unfold rl_play_Sheets_l1 at h
  refine AW.seq ?_
  refine AW.sg tt_ok1 [(15, vb (decide (x7 < p3)))] [] [] 5 [] (by kernel_rfl) ?_
  refine AW.co h (by kernel_rfl) (fun c15 h => ?_) (fun c15 h => ?_)
  ·
   refine AW.skip (AW.tn ?_)
   refine AW.seq (AW.block ?_)
   obtain ⟨y16, y17, e18, h⟩ := bind2_some h
   obtain ⟨g19, h⟩ := ifc h
   refine AW.rg tt_ok1 [(11, .c (.ref 11 1 0 ((x6 ++ ([y16] : List (List S_api_Sent))).length)))] [0, 1, 10, 11] [(11, .row 37 false 1 (x6 ++ ([y16] : List (List S_api_Sent))).length (RlS_api_Sent (x6 ++ ([y16] : List (List S_api_Sent))))), (0, .box 86 [cl 1 Ri64 y17.list, ci64 y17.at_, cu64 y17.state])] 13 [hn, hn, hn, hn, hn, hl [0] [] 0 (rl_play_Sheet_conT (⟨x8, x9, x10⟩ : S_recordlinkmake_Deck) p1 p2 p4 (y16, y17) e18), hlit ([] : List S_api_Sent) ElS_api_Sent 1 (fun _ => rfl) ([y16] : List (List S_api_Sent)), happ ([] : List S_api_Sent) ElS_api_Sent 1 24 x6 ([y16] : List (List S_api_Sent)) g19 (by decide)] (by kernel_rfl) ?_
   refine AW.inBlock_normal (AW.tn ?_)
   refine AW.rg tt_ok1 [(12, vi64 (i64.wrap (x7 + 1)))] [] [] 16 [] (by kernel_rfl) ?_
   exact lpn h (conv_re [(0, 0), (1, 11)] (by kernel_rfl))
  ·
   refine AW.exit (AW.thenQ_exit ?_)
   exact lpo h rfl (conv_re [(0, 0), (1, 1)] (by kernel_rfl))
 ·
  show (_ : Exit → St → Prop) (.exit 0) _
  refine AW.inBlock_hit (AW.tn ?_)
  refine AW.sg tt_ok1 [(10, .c (.ref 1 1 0 x20.length))] [] [] 4 [] (by kernel_rfl) ?_
  refine AW.ret ?_
  obtain rfl := some_inj h
  exact fn0 (.inr rfl) [(0, 0), (1, 1)] 2 (.c (.ref 1 1 0 x20.length)) (by kernel_rfl)
/-! recordlink/recordlinkplay.BentSheet (by hand) -/
/-- A body's part begins: what is known there of a world. -/
theorem rep0 {P : Program} {w : World} {ok : Nat → Prop} {ρ : Ren} {nt : Nat} {S : St} {a : Act} (hok : ∀ b, ok b → b < w.heap.size) (hdom : ∀ id, ρ id ≠ none → id < S.n)
  (htm : ∀ t av, Vm.look S.tm t = some av → RV w ok ρ av (a.tmps.getD t undef)) (hh : ∀ id blk, Vm.look S.h id = some blk → ∃ l, ρ id = some l ∧ RB w ok ρ blk l ∧ ∀ b cap, l = .at b cap → b < w.heap.size ∧ ¬ ok b)
  (hinj : ∀ i j b c c', ρ i = some (.at b c) → ρ j = some (.at b c') → i = j) (hs : a.tmps.size = nt) (hd : a.defers = []) :
  RepS ⟨P, ⟨w, ok, ρ⟩, fun b => ∃ id cap, ρ id = some (.at b cap), nt⟩ ρ S a w := by
 have hk : ∀ b, ok b → okOf ⟨w, ok, ρ⟩ w ρ (Vm.look S.h) b := fun b hb => ⟨hok b hb, .inr (.inl hb), fun id blk cap h1 _ h3 => by
  obtain ⟨l, l1, _, l3⟩ := hh id blk h1
  rw [h3] at l1
  injection l1 with l1
  exact (l3 b cap l1.symm).2 hb⟩
 refine ⟨fun t av ht => RV.mono ⟨hk, fun _ _ => rfl⟩ (Ext.rfl_ _) _ _ (htm t av ht), fun id blk hid => ?_, fun _ h => h, fun i j b c1 c2 _ _ _ _ _ => hinj i j b c1 c2, fun id hid => hdom id hid, Upd.refl _ _, Ext.rfl_ _, hs, hd⟩
 obtain ⟨l, l1, l2, l3⟩ := hh id blk hid
 exact ⟨l, l1, RB.mono ⟨hk, fun _ _ => rfl⟩ (Ext.rfl_ _) _ _ (fun _ _ _ => rfl) l2, fun b cap e => ⟨(l3 b cap e).1, .inr ⟨id, cap, by rw [l1, e]⟩⟩⟩
theorem awrun {c : Fx} {S Sx : St} {code : Code} {x : Exit} (h : AW c S code fun e S' => e = x ∧ Conv c S' Sx) {ρ : Ren} {a : Act} {w : World} (R : RepS c.toCx ρ S a w) {Q : Exit → Act → World → Prop} (k : ∀ ρ' a' w', RepS c.toCx ρ' Sx a' w' → Q x a' w') : code.wp c.P Q a w :=
 wp_mono (h ρ a w R) fun e a' w' ⟨S', ⟨he, hc⟩, ρ', R'⟩ => by
  obtain ⟨ρ2, R2⟩ := hc ρ' a' w' R'
  subst he
  exact k ρ2 a' w' R2
theorem wp_loopJ {P : Program} {σ τ : Type} {step : σ → Option (σ ⊕ τ)} {s0 : σ} {t : τ} {body : Code} {Q : Exit → Act → World → Prop} (J : σ → Act → World → Prop) (hl : Vm.loop step s0 = some t)
  (hbody : ∀ s o, step s = some o → ∀ a w, J s a w → body.wp P (fun e a' w' => match o with | .inl s' => e = .normal ∧ J s' a' w' | .inr t' => t' = t → e ≠ .normal ∧ Q e a' w') a w) {a : Act} {w : World} (h0 : J s0 a w) : (Code.loop body).wp P Q a w := by
 intro b k cs
 obtain ⟨n, hn⟩ := loop_iff.1 hl
 have key : ∀ (n : Nat) (s : σ) (a : Act) (w : World), loopN step n s = some t → J s a w → ∃ e a' w', Q e a' w' ∧ Arrives P (lone (b.at a (.code body :: .inLoop body :: k)) cs w) b k cs e a' w' := by
  intro n
  induction n with
  | zero => intro s a w hs; cases hs
  | succ n ih =>
   intro s a w hs R
   simp only [loopN] at hs
   cases ho : step s with
   | none => rw [ho] at hs; cases hs
   | some o =>
    rw [ho] at hs
    obtain ⟨e, a₁, w₁, hq, harr⟩ := hbody s o ho a w R b (.inLoop body :: k) cs
    cases o with
    | inl s' =>
     obtain ⟨rfl, hJ⟩ := hq
     obtain ⟨e₂, a₂, w₂, hq₂, harr₂⟩ := ih s' a₁ w₁ hs hJ
     exact ⟨e₂, a₂, w₂, hq₂, .of_steps (Steps.trans harr (.one step_inLoop)) harr₂⟩
    | inr t' =>
     injection hs with hs
     obtain ⟨hne, hq⟩ := hq hs
     refine ⟨e, a₁, w₁, hq, ?_⟩
     cases e with
     | normal => exact absurd rfl hne
     | exit id => exact .pass (x := .inLoop body) rfl (fun _ _ => .inl (by simp)) harr
     | goto l => exact .pass (x := .inLoop body) rfl (fun _ _ => .inl (by simp)) harr
     | ret => exact .pass (x := .inLoop body) rfl (fun _ _ => .inl (by simp)) harr
     | panic ch => exact .pass (x := .inLoop body) rfl (fun _ _ => .inl (by simp)) harr
     | outgrown => exact .pass (x := .inLoop body) rfl (fun _ _ => .inl (by simp)) harr
 obtain ⟨e, a', w', hq, harr⟩ := key n s0 a w hn h0
 exact ⟨e, a', w', hq, .of_steps (.one step_loop) harr⟩
/-- the value of a slice that reads a whole row -/
def HV (l : Vm.Loc) (sz n : Nat) (v : Value) : Prop := match l with
 | .nil => n = 0 ∧ ∃ q, v = .slice q 0 0
 | .at b cap => (∃ c, v = .slice (some ⟨b, 0 * sz, none⟩) n c ∧ n ≤ c ∧ 0 + c ≤ cap) ∨ (n = 0 ∧ ∃ q, v = .slice q 0 0)
theorem HV.rc {w : World} {ok : Nat → Prop} {ρ : Ren} {id sz n : Nat} {l : Vm.Loc} {v : Value} (h : HV l sz n v) (hl : ρ id = some l) : RC w ok ρ (.ref id sz 0 n) v := by
 refine ⟨l, hl, ?_⟩
 cases l with
 | nil => exact ⟨rfl, h.1, h.2⟩
 | _ b cap => exact h
theorem HV.of {w : World} {ok : Nat → Prop} {ρ : Ren} {id sz n : Nat} {v : Value} (h : RC w ok ρ (.ref id sz 0 n) v) : ∃ l, ρ id = some l ∧ HV l sz n v := by
 obtain ⟨l, h1, h2⟩ := h
 refine ⟨l, h1, ?_⟩
 cases l with
 | nil => exact ⟨h2.2.1, h2.2.2⟩
 | _ b cap => exact h2
theorem HV.one {l : Vm.Loc} {sz n : Nat} {v : Value} (h : HV l sz n v) : v.oneCell' = true := by
 cases l with
 | nil => obtain ⟨_, q, rfl⟩ := h; rfl
 | _ b cap => rcases h with ⟨c, rfl, _⟩ | ⟨_, q, rfl⟩ <;> rfl
theorem rowρ {w : World} {ok ok' : Nat → Prop} {ρ ρ' : Ren} {ty : TypeId} {fro : Bool} {sz n : Nat} {f : Nat → Nat → T} {l : Vm.Loc} (hk : ∀ b, ok b → ok' b) (h : RB w ok ρ (.row ty fro sz n f) l) : RB w ok' ρ' (.row ty fro sz n f) l := by
 cases l with
 | nil => exact h
 | _ b cap =>
  obtain ⟨h0, vs, fz, h1, h2, h3, h4⟩ := h
  exact ⟨h0, vs, fz, h1, h2, h3, fun i hi j hj => let ⟨x, a, r⟩ := h4 i hi j hj; ⟨x, a, RT.mono ⟨hk, fun _ _ => rfl⟩ _ _ r⟩⟩
theorem rct {w : World} {ok ok' : Nat → Prop} {ρ ρ' : Ren} (hk : ∀ b, ok b → ok' b) : ∀ {l : List T} {ys : List Value}, All2 (RC w ok ρ) (l.map C.t) ys → All2 (RC w ok' ρ') (l.map C.t) ys
 | [], [], _ => tv
 | x :: l, y :: ys, ⟨h1, h2⟩ => ⟨RT.mono ⟨hk, fun _ _ => rfl⟩ x y h1, rct hk h2⟩
 | [], _ :: _, h => h.elim
 | _ :: _, [], h => h.elim
theorem boxρ {w : World} {ok ok' : Nat → Prop} {ρ ρ' : Ren} {ty : TypeId} {cs : List T} {l : Vm.Loc} (hk : ∀ b, ok b → ok' b) (h : RB w ok ρ (.box ty (cs.map C.t)) l) : RB w ok' ρ' (.box ty (cs.map C.t)) l := by
 obtain ⟨b, vs, e, h1, h2⟩ := h
 exact ⟨b, vs, e, h1, rct hk h2⟩
theorem rb_keep {w w' : World} {ok ok' : Nat → Prop} {ρ : Ren} (K : Keeps w w' ok ok') {ty : TypeId} {fro : Bool} {sz n : Nat} {f : Nat → Nat → T} {l : Vm.Loc} (hb : ∀ b cap, l = .at b cap → w'.heap[b]? = w.heap[b]?) (h : RB w ok ρ (.row ty fro sz n f) l) : RB w' ok' ρ (.row ty fro sz n f) l :=
 RB.mono K (Ext.rfl_ _) _ _ hb h
def dkT (d : S_recordlinkmake_Deck) : List T := [.tree d.list.length 1 (Ri64 d.list), .v (.int .i64 d.at_), .v (.int .u64 d.state)]
abbrev dkB (d : S_recordlinkmake_Deck) : Blk := .box 86 ((dkT d).map C.t)
abbrev V5 := Value × Value × Value × Value × Value
def dV5 : V5 := (undef, undef, undef, undef, undef)
def EV5 (x : V5) : List T := [.v x.1, .v x.2.1, .v x.2.2.1, .v x.2.2.2.1, .v x.2.2.2.2]
def v5 (x : V5) (j : Nat) : Value := match j with
 | 0 => x.1
 | 1 => x.2.1
 | 2 => x.2.2.1
 | 3 => x.2.2.2.1
 | _ => x.2.2.2.2
def hdB (s : S_api_Sent) (j : Nat) : Blk := match j with
 | 2 => .row 84 false 2 s.Record.Fields.length (RS_api_Bits s.Record.Fields)
 | 3 => .row 45 false 1 s.Hashes.length (Ru64 s.Hashes)
 | _ => .row 4 false 1 s.Has.length (Rb s.Has)
def hdS (j : Nat) : Nat := match j with
 | 2 => 2
 | _ => 1
def hdL (s : S_api_Sent) (j : Nat) : Nat := match j with
 | 2 => s.Record.Fields.length
 | 3 => s.Hashes.length
 | _ => s.Has.length
def Own (loc : Nat → Nat → Vm.Loc) (n b : Nat) : Prop := ∃ k j c, k < n ∧ 2 ≤ j ∧ j < 5 ∧ loc k j = .at b c
def okS (n0 : Nat) (okA : Nat → Prop) (bD : Nat) (lo : Vm.Loc) (loc : Nat → Nat → Vm.Loc) (n : Nat) (w : World) (b : Nat) : Prop := b < w.heap.size ∧ (n0 ≤ b ∨ okA b) ∧ (∀ c, lo ≠ .at b c) ∧ b ≠ bD ∧ ¬ Own loc n b
/-- A sheet whose records' slices have blocks of their own. -/
structure ShJ (w0 : World) (okA : Nat → Prop) (bD : Nat) (lo : Vm.Loc) (vs : List V5) (loc : Nat → Nat → Vm.Loc) (w : World) (v : Value) (l : List S_api_Sent) (d : S_recordlinkmake_Deck) : Prop where
 upd : Upd (fun b => b = bD) w0 w
 deck : RB w (okS w0.heap.size okA bD lo loc l.length w) (fun _ => none) (dkB d) (.at bD 1)
 len : vs.length = l.length
 row : RB w (fun _ => False) (fun _ => none) (.row 44 false 5 vs.length (rowL dV5 EV5 vs)) lo
 hv : HV lo 5 vs.length v
 lob : ∀ b c, lo = .at b c → w0.heap.size ≤ b ∧ b < w.heap.size
 num : ∀ i, i < l.length → (vs.getD i dV5).1 = .int .i64 (l.getD i dS_api_Sent).Record.ID ∧ (vs.getD i dV5).2.1 = .int .i64 (l.getD i dS_api_Sent).Record.Version
 hd : ∀ i j, i < l.length → 2 ≤ j → j < 5 → RB w (okS w0.heap.size okA bD lo loc l.length w) (fun _ => none) (hdB (l.getD i dS_api_Sent) j) (loc i j) ∧ HV (loc i j) (hdS j) (hdL (l.getD i dS_api_Sent) j) (v5 (vs.getD i dV5) j) ∧ ∀ b c, loc i j = .at b c → w0.heap.size ≤ b ∧ b < w.heap.size ∧ ∀ c', lo ≠ .at b c'
 inj : ∀ i j i' j' b c c', i < l.length → i' < l.length → 2 ≤ j → j < 5 → 2 ≤ j' → j' < 5 → loc i j = .at b c → loc i' j' = .at b c' → i = i' ∧ j = j'
def rho1 (bD : Nat) : Ren := fun id => if id = 0 then some (.at bD 1) else none
def rhoB (bD bx : Nat) (lo : Vm.Loc) (lx : Nat → Vm.Loc) : Ren := fun id => match id with
 | 0 => some (.at bD 1)
 | 1 => some lo
 | 2 => some (.at bx 1)
 | 3 => some (lx 2)
 | 4 => some (lx 3)
 | 5 => some (lx 4)
 | _ => none
/-- A round's record is made; it is not yet appended. -/
structure Mid (w1 : World) (ok1 : Nat → Prop) (bD bx : Nat) (lx : Nat → Vm.Loc) (okE : Nat → Prop) (w2 : World) (d : S_recordlinkmake_Deck) (s : S_api_Sent) (y : V5) : Prop where
 upd : Upd (fun b => b = bD) w1 w2
 e : ∀ b, okE b → b < w2.heap.size ∧ (w1.heap.size ≤ b ∨ ok1 b) ∧ b ≠ bD ∧ b ≠ bx ∧ ∀ j c, 2 ≤ j → j < 5 → lx j ≠ .at b c
 x : w1.heap.size ≤ bx ∧ bx < w2.heap.size
 f : ∀ j b c, 2 ≤ j → j < 5 → lx j = .at b c → w1.heap.size ≤ b ∧ b < w2.heap.size ∧ b ≠ bx
 inj : ∀ j j' b c c', 2 ≤ j → j < 5 → 2 ≤ j' → j' < 5 → lx j = .at b c → lx j' = .at b c' → j = j'
 deck : RB w2 okE (fun _ => none) (dkB d) (.at bD 1)
 box : w2.heap[bx]? = some (.cells #[y.1, y.2.1, y.2.2.1, y.2.2.2.1, y.2.2.2.2] 44 (0, 0))
 num : y.1 = .int .i64 s.Record.ID ∧ y.2.1 = .int .i64 s.Record.Version
 hd : ∀ j, 2 ≤ j → j < 5 → RB w2 okE (fun _ => none) (hdB s j) (lx j) ∧ HV (lx j) (hdS j) (hdL s j) (v5 y j)
theorem lt5 {j : Nat} (h : 2 ≤ j) (h2 : j < 5) : j = 2 ∨ j = 3 ∨ j = 4 := by omega
theorem mid_of {P : Program} {w1 w2 : World} {ok1 : Nat → Prop} {bD nt : Nat} {ρ2 : Ren} {a2 : Act} {tm : List (Nat × AV)} {d : S_recordlinkmake_Deck} {s : S_api_Sent} (hD : bD < w1.heap.size) (hok : ∀ b, ok1 b → b ≠ bD)
  (R : RepS ⟨P, ⟨w1, ok1, rho1 bD⟩, fun b => ∃ id cap, rho1 bD id = some (.at b cap), nt⟩ ρ2 ⟨tm, [(0, dkB d), (2, .box 44 [ci64 s.Record.ID, ci64 s.Record.Version, .ref 3 2 0 s.Record.Fields.length, .ref 4 1 0 s.Hashes.length, .ref 5 1 0 s.Has.length]),
   (3, .row 84 false 2 s.Record.Fields.length (RS_api_Bits s.Record.Fields)), (4, .row 45 false 1 s.Hashes.length (Ru64 s.Hashes)), (5, .row 4 false 1 s.Has.length (Rb s.Has))], 6⟩ a2 w2) :
  ∃ bx lx okE y, Mid w1 ok1 bD bx lx okE w2 d s y ∧ ρ2 2 = some (.at bx 1) := by
 have X1 : ∀ b, (∃ id cap, rho1 bD id = some (.at b cap)) → b = bD := by
  rintro b ⟨id, cap, h⟩
  simp only [rho1] at h
  split at h
  ·simp at h; exact h.1.symm
  ·cases h
 have r0 : ρ2 0 = some (.at bD 1) := R.ext0 0 _ (by simp [rho1])
 obtain ⟨l0, a0, b0, c0⟩ := R.heap 0 _ rfl
 obtain ⟨l2, a2', b2, c2⟩ := R.heap 2 _ rfl
 obtain ⟨bx, vs, rfl, hbx, hcs⟩ := b2
 obtain ⟨l3, a3, b3, c3⟩ := R.heap 3 _ rfl
 obtain ⟨l4, a4, b4, c4⟩ := R.heap 4 _ rfl
 obtain ⟨l5, a5, b5, c5⟩ := R.heap 5 _ rfl
 rw [r0] at a0
 obtain rfl := Option.some.inj a0
 have nD : ∀ {i : Nat} {b c : Nat} {x : Blk}, i ≠ 0 → Vm.look _ i = some x → ρ2 i = some (.at b c) → b ≠ bD := fun {i b c x} hi hx h e => by
  subst e
  exact hi (R.inj i 0 _ _ _ _ _ hx rfl (.inr rfl) h r0)
 have fr : ∀ {i : Nat} {b c : Nat} {x : Blk}, i ≠ 0 → Vm.look _ i = some x → ρ2 i = some (.at b c) → (w1.heap.size ≤ b ∨ ∃ id cap, rho1 bD id = some (.at b cap)) → w1.heap.size ≤ b := fun {i b c x} hi hx h hc => hc.resolve_right fun k => nD hi hx h (X1 b k)
 obtain ⟨ws⟩ := vs
 rcases ws with _ | ⟨y0, _ | ⟨y1, _ | ⟨y2, _ | ⟨y3, _ | ⟨y4, _ | ⟨y5, ws⟩⟩⟩⟩⟩⟩ <;> try exact hcs.elim
 ·exact hcs.2.elim
 ·exact hcs.2.2.elim
 ·exact hcs.2.2.2.elim
 ·exact hcs.2.2.2.2.elim
 ·obtain ⟨⟨rfl, _⟩, ⟨rfl, _⟩, k3, k4, k5, _⟩ := hcs
  obtain ⟨l3', e3, v3⟩ := HV.of k3
  obtain ⟨l4', e4, v4⟩ := HV.of k4
  obtain ⟨l5', e5, v5'⟩ := HV.of k5
  rw [a3] at e3; obtain rfl := Option.some.inj e3
  rw [a4] at e4; obtain rfl := Option.some.inj e4
  rw [a5] at e5; obtain rfl := Option.some.inj e5
  let lx : Nat → Vm.Loc := fun j => if j = 2 then l3 else if j = 3 then l4 else l5
  have hl : ∀ j, 2 ≤ j → j < 5 → ρ2 (j + 1) = some (lx j) := fun j h1 h2 => by
   rcases lt5 h1 h2 with rfl | rfl | rfl
   ·exact a3
   ·exact a4
   ·exact a5
  have hk : ∀ j, 2 ≤ j → j < 5 → ∃ x, Vm.look [(0, dkB d), (2, .box 44 [ci64 s.Record.ID, ci64 s.Record.Version, .ref 3 2 0 s.Record.Fields.length, .ref 4 1 0 s.Hashes.length, .ref 5 1 0 s.Has.length]), (3, .row 84 false 2 s.Record.Fields.length (RS_api_Bits s.Record.Fields)), (4, .row 45 false 1 s.Hashes.length (Ru64 s.Hashes)), (5, .row 4 false 1 s.Has.length (Rb s.Has))] (j + 1) = some x ∧ x.mut = true := fun j h1 h2 => by
   rcases lt5 h1 h2 with rfl | rfl | rfl
   ·exact ⟨_, rfl, rfl⟩
   ·exact ⟨_, rfl, rfl⟩
   ·exact ⟨_, rfl, rfl⟩
  have hloc : ∀ j b c, 2 ≤ j → j < 5 → lx j = .at b c → b < w2.heap.size ∧ w1.heap.size ≤ b := fun j b c h1 h2 h => by
   rcases lt5 h1 h2 with rfl | rfl | rfl
   ·exact ⟨(c3 b c h).1, fr (i := 3) (by decide) rfl (by rw [a3]; exact congrArg some h) (c3 b c h).2⟩
   ·exact ⟨(c4 b c h).1, fr (i := 4) (by decide) rfl (by rw [a4]; exact congrArg some h) (c4 b c h).2⟩
   ·exact ⟨(c5 b c h).1, fr (i := 5) (by decide) rfl (by rw [a5]; exact congrArg some h) (c5 b c h).2⟩
  have hbx2 : w1.heap.size ≤ bx := fr (i := 2) (by decide) rfl a2' (c2 bx 1 rfl).2
  refine ⟨bx, lx, okOf ⟨w1, ok1, rho1 bD⟩ w2 ρ2 (Vm.look [(0, dkB d), (2, .box 44 [ci64 s.Record.ID, ci64 s.Record.Version, .ref 3 2 0 s.Record.Fields.length, .ref 4 1 0 s.Hashes.length, .ref 5 1 0 s.Has.length]), (3, .row 84 false 2 s.Record.Fields.length (RS_api_Bits s.Record.Fields)), (4, .row 45 false 1 s.Hashes.length (Ru64 s.Hashes)), (5, .row 4 false 1 s.Has.length (Rb s.Has))]), (.int .i64 s.Record.ID, .int .i64 s.Record.Version, y2, y3, y4), ⟨?_, ?_, ⟨hbx2, (c2 bx 1 rfl).1⟩, ?_, ?_, ?_, hbx, ⟨rfl, rfl⟩, ?_⟩, a2'⟩
  ·exact ⟨R.upd.os, R.upd.tape, R.upd.output, R.upd.size, fun b hb hn => R.upd.block b hb fun k => hn (X1 b k)⟩
  ·rintro b ⟨o1, o2, o3⟩
   refine ⟨o1, ?_, fun e => o3 0 _ 1 rfl rfl (e ▸ r0), fun e => o3 2 _ 1 rfl rfl (e ▸ a2'), fun j c h1 h2 e => ?_⟩
   ·rcases o2 with o2 | o2 | o2
    ·exact .inl o2
    ·exact .inr o2
    ·exact absurd (X1 b o2 ▸ r0) (o3 0 _ 1 rfl rfl)
   ·obtain ⟨x, x1, x2⟩ := hk j h1 h2
    exact o3 (j + 1) x c x1 x2 (by rw [hl j h1 h2, e])
  ·intro j b c h1 h2 h
   obtain ⟨k1, k2⟩ := hloc j b c h1 h2 h
   refine ⟨k2, k1, fun e => ?_⟩
   obtain ⟨x, x1, x2⟩ := hk j h1 h2
   have := R.inj (j + 1) 2 bx c 1 x _ x1 rfl (.inl x2) (by rw [hl j h1 h2, h, e]) a2'
   omega
  ·intro j j' b c c' h1 h2 h3 h4 e1 e2
   obtain ⟨x, x1, x2⟩ := hk j h1 h2
   obtain ⟨x', x1', x2'⟩ := hk j' h3 h4
   have := R.inj (j + 1) (j' + 1) b c c' x x' x1 x1' (.inl x2) (by rw [hl j h1 h2, e1]) (by rw [hl j' h3 h4, e2])
   omega
  ·exact boxρ (fun _ h => h) b0
  ·intro j h1 h2
   rcases lt5 h1 h2 with rfl | rfl | rfl
   ·exact ⟨rowρ (fun _ h => h) b3, v3⟩
   ·exact ⟨rowρ (fun _ h => h) b4, v4⟩
   ·exact ⟨rowρ (fun _ h => h) b5, v5'⟩
 ·exact hcs.2.2.2.2.2.elim
section
variable {w0 w1 w2 : World} {okA ok1 okE : Nat → Prop} {bD bx : Nat} {lo : Vm.Loc} {vs : List V5} {loc : Nat → Nat → Vm.Loc} {lx : Nat → Vm.Loc} {v : Value} {l : List S_api_Sent} {d d2 : S_recordlinkmake_Deck} {s : S_api_Sent} {y : V5}
theorem rhoB_cases {P : Prop} {id b c : Nat} (h : rhoB bD bx lo lx id = some (.at b c)) (h0 : id = 0 → b = bD → c = 1 → P) (h1 : id = 1 → lo = .at b c → P) (h2 : id = 2 → b = bx → c = 1 → P) (h3 : ∀ j, 2 ≤ j → j < 5 → id = j + 1 → lx j = .at b c → P) : P := by
 match id, h with
 | 0, h => simp [rhoB] at h; exact h0 rfl h.1.symm h.2.symm
 | 1, h => simp [rhoB] at h; exact h1 rfl h
 | 2, h => simp [rhoB] at h; exact h2 rfl h.1.symm h.2.symm
 | 3, h => simp [rhoB] at h; exact h3 2 (by decide) (by decide) rfl h
 | 4, h => simp [rhoB] at h; exact h3 3 (by decide) (by decide) rfl h
 | 5, h => simp [rhoB] at h; exact h3 4 (by decide) (by decide) rfl h
 | n + 6, h => simp [rhoB] at h
theorem rhoB_inj (hD : bD < w0.heap.size) (H : ShJ w0 okA bD lo vs loc w1 v l d) (M : Mid w1 (okS w0.heap.size okA bD lo loc l.length w1) bD bx lx okE w2 d2 s y) : ∀ i j b c c', rhoB bD bx lo lx i = some (.at b c) → rhoB bD bx lo lx j = some (.at b c') → i = j := by
 have hs := H.upd.size
 intro i j b c c' hi hj
 have mx := M.x
 refine rhoB_cases hi (fun e1 e2 _ => ?_) (fun e1 e2 => ?_) (fun e1 e2 _ => ?_) (fun k k1 k2 e1 e2 => ?_) <;> refine rhoB_cases hj (fun f1 f2 _ => ?_) (fun f1 f2 => ?_) (fun f1 f2 _ => ?_) (fun m m1 m2 f1 f2 => ?_)
 all_goals first
  | omega
  | (have a1 := H.lob _ _ e2; have a2 := M.f _ _ _ m1 m2 f2; omega)
  | (have a1 := H.lob _ _ f2; have a2 := M.f _ _ _ k1 k2 e2; omega)
  | (have a1 := H.lob _ _ e2; omega)
  | (have a1 := H.lob _ _ f2; omega)
  | (have a2 := M.f _ _ _ m1 m2 f2; omega)
  | (have a2 := M.f _ _ _ k1 k2 e2; omega)
  | (have a2 := M.inj _ _ _ _ _ k1 k2 m1 m2 e2 f2; omega)
theorem rep2 {P : Program} {nt : Nat} {a : Act} {tm : List (Nat × AV)} (hD : bD < w0.heap.size) (H : ShJ w0 okA bD lo vs loc w1 v l d) (M : Mid w1 (okS w0.heap.size okA bD lo loc l.length w1) bD bx lx okE w2 d2 s y)
  (htm : ∀ t av, Vm.look tm t = some av → RV w2 okE (rhoB bD bx lo lx) av (a.tmps.getD t undef)) (ho : ∀ j, 2 ≤ j → j < 5 → (v5 y j).oneCell' = true) (hs : a.tmps.size = nt) (hd : a.defers = []) :
  RepS ⟨P, ⟨w2, okE, rhoB bD bx lo lx⟩, fun b => ∃ id cap, rhoB bD bx lo lx id = some (.at b cap), nt⟩ (rhoB bD bx lo lx) ⟨tm, [(0, dkB d2), (1, .row 44 false 5 vs.length (rowL dV5 EV5 vs)), (2, .box 44 [.t (.v y.1), .t (.v y.2.1), .t (.v y.2.2.1), .t (.v y.2.2.2.1), .t (.v y.2.2.2.2)]),
   (3, .row 84 false 2 s.Record.Fields.length (RS_api_Bits s.Record.Fields)), (4, .row 45 false 1 s.Hashes.length (Ru64 s.Hashes)), (5, .row 4 false 1 s.Has.length (Rb s.Has))], 6⟩ a w2 := by
 have hz := H.upd.size
 have mz := M.upd.size
 have mx := M.x
 refine rep0 (fun b hb => (M.e b hb).1) (fun id hid => ?_) htm (fun id blk hid => ?_) (rhoB_inj hD H M) hs hd
 ·match id, hid with
  | 0, _ => exact (by decide : (0 : Nat) < 6)
  | 1, _ => exact (by decide : (1 : Nat) < 6)
  | 2, _ => exact (by decide : (2 : Nat) < 6)
  | 3, _ => exact (by decide : (3 : Nat) < 6)
  | 4, _ => exact (by decide : (4 : Nat) < 6)
  | 5, _ => exact (by decide : (5 : Nat) < 6)
  | n + 6, h => simp [rhoB] at h
 ·have lk : ∀ j, 2 ≤ j → j < 5 → ∀ b cap, lx j = .at b cap → b < w2.heap.size ∧ ¬ okE b := fun j h1 h2 b cap e => ⟨(M.f j b cap h1 h2 e).2.1, fun k => (M.e b k).2.2.2.2 j cap h1 h2 e⟩
  match id, hid with
  | 0, h =>
   obtain rfl := Option.some.inj h
   exact ⟨_, rfl, boxρ (fun _ h => h) M.deck, fun b cap e => by injection e with e1 e2; subst e1; exact ⟨by omega, fun k => (M.e _ k).2.2.1 rfl⟩⟩
  | 1, h =>
   obtain rfl := Option.some.inj h
   refine ⟨lo, rfl, rowρ (fun _ h => h.elim) (rb_keep (w := w1) (ok' := fun _ => False) ⟨fun _ h => h, fun _ h => h.elim⟩ (fun b cap e => M.upd.block b (H.lob b cap e).2 fun k => ?_) H.row), fun b cap e => ⟨?_, fun k => ?_⟩⟩
   ·have := (H.lob b cap e).1; omega
   ·have := (H.lob b cap e).2; omega
   ·have := (H.lob b cap e).2
    rcases (M.e b k).2.1 with h | h
    ·omega
    ·exact h.2.2.1 cap e
  | 2, h =>
   obtain rfl := Option.some.inj h
   refine ⟨.at bx 1, rfl, ⟨bx, _, rfl, M.box, ⟨rfl, ?_⟩, ⟨rfl, ?_⟩, ⟨rfl, ho 2 (by decide) (by decide)⟩, ⟨rfl, ho 3 (by decide) (by decide)⟩, ⟨rfl, ho 4 (by decide) (by decide)⟩, tv⟩, fun b cap e => by injection e with e1 e2; subst e1; exact ⟨mx.2, fun k => (M.e _ k).2.2.2.1 rfl⟩⟩
   ·rw [M.num.1]; rfl
   ·rw [M.num.2]; rfl
  | 3, h =>
   obtain rfl := Option.some.inj h
   exact ⟨lx 2, rfl, rowρ (fun _ h => h) (M.hd 2 (by decide) (by decide)).1, lk 2 (by decide) (by decide)⟩
  | 4, h =>
   obtain rfl := Option.some.inj h
   exact ⟨lx 3, rfl, rowρ (fun _ h => h) (M.hd 3 (by decide) (by decide)).1, lk 3 (by decide) (by decide)⟩
  | 5, h =>
   obtain rfl := Option.some.inj h
   exact ⟨lx 4, rfl, rowρ (fun _ h => h) (M.hd 4 (by decide) (by decide)).1, lk 4 (by decide) (by decide)⟩
  | n + 6, h => cases h
/-- The record is appended. -/
theorem sh_step {P : Program} {nt : Nat} {a3 : Act} {w3 : World} {ρ3 : Ren} {tm : List (Nat × AV)} {v3 : Value} (hD : bD < w0.heap.size) (hA : ∀ b, okA b → b < w0.heap.size) (H : ShJ w0 okA bD lo vs loc w1 v l d) (M : Mid w1 (okS w0.heap.size okA bD lo loc l.length w1) bD bx lx okE w2 d2 s y) (ho : ∀ j, 2 ≤ j → j < 5 → (v5 y j).oneCell' = true)
  (R : RepS ⟨P, ⟨w2, okE, rhoB bD bx lo lx⟩, fun b => ∃ id cap, rhoB bD bx lo lx id = some (.at b cap), nt⟩ ρ3 ⟨tm, [(0, dkB d2), (6, .row 44 false 5 (vs ++ [y]).length (rowL dV5 EV5 (vs ++ [y]))), (3, .row 84 false 2 s.Record.Fields.length (RS_api_Bits s.Record.Fields)), (4, .row 45 false 1 s.Hashes.length (Ru64 s.Hashes)), (5, .row 4 false 1 s.Has.length (Rb s.Has))], 7⟩ a3 w3)
  (hv3 : RC w3 (fun _ => False) ρ3 (.ref 6 5 0 (vs ++ [y]).length) v3) : ∃ lo' loc', ShJ w0 okA bD lo' (vs ++ [y]) loc' w3 v3 (l ++ [s]) d2 := by
 have hz := H.upd.size
 have mz := M.upd.size
 have mx := M.x
 have rz := R.upd.size
 dsimp only at rz
 have r0 : ρ3 0 = some (.at bD 1) := R.ext0 0 _ rfl
 have rj : ∀ j, 2 ≤ j → j < 5 → ρ3 (j + 1) = some (lx j) := fun j h1 h2 => by
  rcases lt5 h1 h2 with rfl | rfl | rfl
  ·exact R.ext0 3 _ rfl
  ·exact R.ext0 4 _ rfl
  ·exact R.ext0 5 _ rfl
 obtain ⟨l0, a0, b0, c0⟩ := R.heap 0 _ rfl
 obtain ⟨lo', a6, b6, c6⟩ := R.heap 6 _ rfl
 rw [r0] at a0
 obtain rfl := Option.some.inj a0
 have rx : ∀ j, 2 ≤ j → j < 5 → ∃ x, Vm.look [(0, dkB d2), (6, .row 44 false 5 (vs ++ [y]).length (rowL dV5 EV5 (vs ++ [y]))), (3, .row 84 false 2 s.Record.Fields.length (RS_api_Bits s.Record.Fields)), (4, .row 45 false 1 s.Hashes.length (Ru64 s.Hashes)), (5, .row 4 false 1 s.Has.length (Rb s.Has))] (j + 1) = some x ∧ x.mut = true ∧ ∃ t sz n f, x = .row t false sz n f ∧ x = hdB s j := fun j h1 h2 => by
  rcases lt5 h1 h2 with rfl | rfl | rfl
  ·exact ⟨_, rfl, rfl, _, _, _, _, rfl, rfl⟩
  ·exact ⟨_, rfl, rfl, _, _, _, _, rfl, rfl⟩
  ·exact ⟨_, rfl, rfl, _, _, _, _, rfl, rfl⟩
 -- where the sheet's row lies now
 have o6D : ∀ b c, lo' = .at b c → b ≠ bD := fun b c e k => by
  have := R.inj 6 0 b c 1 _ _ rfl rfl (.inl rfl) (by rw [a6, e]) (by rw [r0, k])
  omega
 have o6j : ∀ j b c c', 2 ≤ j → j < 5 → lo' = .at b c → lx j ≠ .at b c' := fun j b c c' h1 h2 e k => by
  obtain ⟨x, x1, x2, _⟩ := rx j h1 h2
  have := R.inj 6 (j + 1) b c c' _ x rfl x1 (.inl rfl) (by rw [a6, e]) (by rw [rj j h1 h2, k])
  omega
 have o6 : ∀ b c, lo' = .at b c → b < w3.heap.size ∧ ((∃ c', lo = .at b c') ∨ w1.heap.size ≤ b) := fun b c e => by
  obtain ⟨h1, h2⟩ := c6 b c e
  refine ⟨h1, ?_⟩
  rcases h2 with h2 | ⟨id, cap, h2⟩
  ·exact .inr (by dsimp only at h2; omega)
  ·refine rhoB_cases h2 (fun _ k _ => absurd k (o6D b c e)) (fun _ k => .inl ⟨_, k⟩) (fun _ k _ => .inr (by omega)) (fun j j1 j2 _ k => absurd k (o6j j b c cap j1 j2 e))
 have X2 : ∀ b, b < w1.heap.size → (∃ id cap, rhoB bD bx lo lx id = some (.at b cap)) → b = bD ∨ ∃ c, lo = .at b c := fun b hb ⟨id, cap, h⟩ =>
  rhoB_cases h (fun _ k _ => .inl k) (fun _ k => .inr ⟨_, k⟩) (fun _ k _ => by omega) (fun j j1 j2 _ k => by have := M.f j b cap j1 j2 k; omega)
 let loc' : Nat → Nat → Vm.Loc := fun i j => if i < l.length then loc i j else lx j
 have hl1 : ∀ i j, i < l.length → loc' i j = loc i j := fun i j h => if_pos h
 have hl2 : ∀ j, loc' l.length j = lx j := fun j => if_neg (Nat.lt_irrefl _)
 have hlen : (l ++ [s]).length = l.length + 1 := by simp
 have cut : ∀ i, i < (l ++ [s]).length → i < l.length ∨ i = l.length := fun i hi => by rw [hlen] at hi; omega
 have own : ∀ b, Own loc' (l ++ [s]).length b → Own loc l.length b ∨ ∃ j c, 2 ≤ j ∧ j < 5 ∧ lx j = .at b c := by
  rintro b ⟨k, j, c, h1, h2, h3, h4⟩
  rcases cut k h1 with h | rfl
  ·rw [hl1 k j h] at h4; exact .inl ⟨k, j, c, h, h2, h3, h4⟩
  ·rw [hl2 j] at h4; exact .inr ⟨j, c, h2, h3, h4⟩
 have ownO : ∀ b, Own loc l.length b → w0.heap.size ≤ b ∧ b < w1.heap.size ∧ b ≠ bD ∧ ∀ c, lo ≠ .at b c := by
  rintro b ⟨k, j, c, h1, h2, h3, h4⟩
  obtain ⟨_, _, h5⟩ := H.hd k j h1 h2 h3
  obtain ⟨h6, h7, h8⟩ := h5 b c h4
  exact ⟨h6, h7, by omega, h8⟩
 -- what may be read stays
 have k13 : ∀ b, okS w0.heap.size okA bD lo loc l.length w1 b → okS w0.heap.size okA bD lo' loc' (l ++ [s]).length w3 b := by
  rintro b ⟨h1, h2, h3, h4, h5⟩
  refine ⟨by omega, h2, fun c e => ?_, h4, fun e => ?_⟩
  ·rcases (o6 b c e).2 with ⟨c', k⟩ | k
   ·exact h3 c' k
   ·omega
  ·rcases own b e with k | ⟨j, c, j1, j2, k⟩
   ·exact h5 k
   ·have := M.f j b c j1 j2 k; omega
 have kp : ∀ b, b < w1.heap.size → b ≠ bD → (∀ c, lo ≠ .at b c) → w3.heap[b]? = w1.heap[b]? := fun b h1 h2 h3 =>
  (R.upd.block b (by dsimp only; omega) fun k => by
   rcases X2 b h1 k with k | ⟨c, k⟩
   ·exact h2 k
   ·exact h3 c k).trans (M.upd.block b h1 h2)
 have K : Keeps w1 w3 (okS w0.heap.size okA bD lo loc l.length w1) (okS w0.heap.size okA bD lo' loc' (l ++ [s]).length w3) := ⟨k13, fun b hb => kp b hb.1 hb.2.2.2.1 hb.2.2.1⟩
 have kE : ∀ b, okOf ⟨w2, okE, rhoB bD bx lo lx⟩ w3 ρ3 (Vm.look [(0, dkB d2), (6, .row 44 false 5 (vs ++ [y]).length (rowL dV5 EV5 (vs ++ [y]))), (3, .row 84 false 2 s.Record.Fields.length (RS_api_Bits s.Record.Fields)), (4, .row 45 false 1 s.Hashes.length (Ru64 s.Hashes)), (5, .row 4 false 1 s.Has.length (Rb s.Has))]) b → okS w0.heap.size okA bD lo' loc' (l ++ [s]).length w3 b := by
  rintro b ⟨h1, h2, h3⟩
  have n0 : b ≠ bD := fun e => h3 0 _ 1 rfl rfl (by rw [r0, e])
  have nj : ∀ j c, 2 ≤ j → j < 5 → lx j ≠ .at b c := fun j c j1 j2 e => by
   obtain ⟨x, x1, x2, _⟩ := rx j j1 j2
   exact h3 (j + 1) x c x1 x2 (by rw [rj j j1 j2, e])
  have h4 : w2.heap.size ≤ b ∨ okE b ∨ b = bx ∨ ∃ c, lo = .at b c := by
   rcases h2 with h2 | h2 | ⟨id, cap, h2⟩
   ·exact .inl h2
   ·exact .inr (.inl h2)
   ·exact rhoB_cases h2 (fun _ k _ => absurd k n0) (fun _ k => .inr (.inr (.inr ⟨_, k⟩))) (fun _ k _ => .inr (.inr (.inl k))) (fun j j1 j2 _ k => absurd k (nj j _ j1 j2))
  refine ⟨h1, ?_, fun c e => h3 6 _ c rfl rfl (by rw [a6, e]), n0, fun e => ?_⟩
  ·rcases h4 with h4 | h4 | h4 | ⟨c, h4⟩
   ·exact .inl (by omega)
   ·rcases (M.e b h4).2.1 with h5 | h5
    ·exact .inl (by omega)
    ·exact h5.2.1
   ·exact .inl (by omega)
   ·exact .inl (H.lob b c h4).1
  ·rcases own b e with k | ⟨j, c, j1, j2, k⟩
   ·obtain ⟨k1, k2, k3, k4⟩ := ownO b k
    rcases h4 with h4 | h4 | h4 | ⟨c, h4⟩
    ·omega
    ·rcases (M.e b h4).2.1 with h5 | h5
     ·omega
     ·exact h5.2.2.2.2 k
    ·omega
    ·exact k4 c h4
   ·exact nj j c j1 j2 k
 have gl : ∀ i, i < l.length → (l ++ [s]).getD i dS_api_Sent = l.getD i dS_api_Sent := fun i h => by simp [List.getD_eq_getElem?_getD, List.getElem?_append_left h]
 have gv : ∀ i, i < l.length → (vs ++ [y]).getD i dV5 = vs.getD i dV5 := fun i h => by simp [List.getD_eq_getElem?_getD, List.getElem?_append_left (by rw [H.len]; exact h : i < vs.length)]
 have gl2 : (l ++ [s]).getD l.length dS_api_Sent = s := by simp [List.getD_eq_getElem?_getD]
 have gv2 : (vs ++ [y]).getD l.length dV5 = y := by rw [← H.len]; simp [List.getD_eq_getElem?_getD]
 refine ⟨lo', loc', ⟨?_, ?_, by simp [H.len], ?_, ?_, ?_, ?_, ?_, ?_⟩⟩
 ·refine H.upd.trans (Y := fun b => b = bD ∨ ∃ c, lo = .at b c) ⟨R.upd.os.trans M.upd.os, R.upd.tape.trans M.upd.tape, R.upd.output.trans M.upd.output, by omega, fun b hb hx => kp b hb (fun e => hx (.inl e)) fun c e => hx (.inr ⟨c, e⟩)⟩ ?_
  rintro b hb (h | ⟨c, h⟩)
  ·exact h
  ·have := (H.lob b c h).1; omega
 ·exact boxρ kE b0
 ·have := rowρ (w := w3) (ok' := fun _ => False) (ρ' := fun _ => none) (ok := fun _ => False) (ρ := ρ3) (ty := 44) (fro := false) (sz := 5) (n := (vs ++ [y]).length) (f := rowL dV5 EV5 (vs ++ [y])) (l := lo') (fun _ h => h)
  refine this ?_
  cases lo' with
  | nil => exact b6
  | _ b c =>
   obtain ⟨q0, q1, q2, q3, q4, q5, q6⟩ := b6
   refine ⟨q0, q1, q2, q3, q4, q5, fun i hi j hj => ?_⟩
   obtain ⟨x, x1, x2⟩ := q6 i hi j hj
   refine ⟨x, x1, ?_⟩
   have iv : isV (rowL dV5 EV5 (vs ++ [y]) i j) := rowL_flat (d := dV5) (enc := EV5) (fun x => (⟨tv, tv, tv, tv, tv, tv⟩ : allV [.v x.1, .v x.2.1, .v x.2.2.1, .v x.2.2.2.1, .v x.2.2.2.2])) (vs ++ [y]) 5 (vs ++ [y]).length i hi j hj
   exact isV_rt iv x2
 ·obtain ⟨l6, e6, v6⟩ := HV.of hv3
  rw [a6] at e6
  obtain rfl := Option.some.inj e6
  exact v6
 ·intro b c e
  obtain ⟨h1, h2⟩ := o6 b c e
  refine ⟨?_, h1⟩
  rcases h2 with ⟨c', h2⟩ | h2
  ·exact (H.lob b c' h2).1
  ·omega
 ·intro i hi
  rcases cut i hi with h | rfl
  ·rw [gl i h, gv i h]; exact H.num i h
  ·rw [gl2, gv2]; exact M.num
 ·intro i j hi h1 h2
  rcases cut i hi with h | rfl
  ·rw [gl i h, gv i h, hl1 i j h]
   obtain ⟨q1, q2, q3⟩ := H.hd i j h h1 h2
   refine ⟨?_, q2, fun b c e => ?_⟩
   ·have hb : ∀ b cap, loc i j = .at b cap → w3.heap[b]? = w1.heap[b]? := fun b cap e => by
     obtain ⟨z1, z2, z3⟩ := q3 b cap e
     exact kp b z2 (by omega) z3
    rcases lt5 h1 h2 with rfl | rfl | rfl
    ·exact rb_keep K hb q1
    ·exact rb_keep K hb q1
    ·exact rb_keep K hb q1
   ·obtain ⟨z1, z2, z3⟩ := q3 b c e
    refine ⟨z1, by omega, fun c' k => ?_⟩
    rcases (o6 b c' k).2 with ⟨c2, k2⟩ | k2
    ·exact z3 c2 k2
    ·omega
  ·rw [gl2, gv2, hl2 j]
   obtain ⟨x, x1, x2, t, sz, n, f, x3, x4⟩ := rx j h1 h2
   obtain ⟨lj, q1, q2, q3⟩ := R.heap (j + 1) x x1
   rw [rj j h1 h2] at q1
   obtain rfl := Option.some.inj q1
   refine ⟨?_, (M.hd j h1 h2).2, fun b c e => ?_⟩
   ·rw [← x4]
    subst x3
    exact rowρ kE q2
   ·have := M.f j b c h1 h2 e
    exact ⟨by omega, (q3 b c e).1, fun c' k => o6j j b c' c h1 h2 k e⟩
 ·intro i j i' j' b c c' hi hi' h1 h2 h3 h4 e1 e2
  rcases cut i hi with h | rfl <;> rcases cut i' hi' with h' | rfl
  ·rw [hl1 i j h] at e1
   rw [hl1 i' j' h'] at e2
   exact H.inj i j i' j' b c c' h h' h1 h2 h3 h4 e1 e2
  ·rw [hl1 i j h] at e1
   rw [hl2 j'] at e2
   have z1 := (H.hd i j h h1 h2).2.2 b c e1
   have z2 := M.f j' b c' h3 h4 e2
   omega
  ·rw [hl2 j] at e1
   rw [hl1 i' j' h'] at e2
   have z1 := (H.hd i' j' h' h3 h4).2.2 b c' e2
   have z2 := M.f j b c h1 h2 e1
   omega
  ·rw [hl2 j] at e1
   rw [hl2 j'] at e2
   exact ⟨rfl, M.inj j j' b c c' h1 h2 h3 h4 e1 e2⟩
end
section
@[reducible] noncomputable def fx1 (w : World) (ok : Nat → Prop) (bD : Nat) : Fx := ⟨⟨Try.prog, ⟨w, ok, rho1 bD⟩, fun b => ∃ id cap, rho1 bD id = some (.at b cap), 79⟩, 1, fun id h => by
 simp only [rho1] at h
 split at h
 ·omega
 ·exact absurd rfl h⟩
@[reducible] noncomputable def fxB (w : World) (ok : Nat → Prop) (bD bx : Nat) (lo : Vm.Loc) (lx : Nat → Vm.Loc) : Fx := ⟨⟨Try.prog, ⟨w, ok, rhoB bD bx lo lx⟩, fun b => ∃ id cap, rhoB bD bx lo lx id = some (.at b cap), 79⟩, 6, fun id h => by
 match id, h with
 | 0, _ => decide
 | 1, _ => decide
 | 2, _ => decide
 | 3, _ => decide
 | 4, _ => decide
 | 5, _ => decide
 | n + 6, h => simp [rhoB] at h⟩
theorem rho1_eq {bD id b c : Nat} (h : rho1 bD id = some (.at b c)) : id = 0 ∧ b = bD := by
 simp only [rho1] at h
 split at h
 ·rename_i e; simp at h; exact ⟨e, h.1.symm⟩
 ·cases h
/-- temporaries of Sheet -/
structure TJ (bD : Nat) (p1 p2 : Int) (v : Value) (i n : Int) (a : Act) : Prop where
 sz : a.tmps.size = 79
 df : a.defers = []
 t0 : a.tmps.getD 0 undef = .pointer (some ⟨bD, 0, none⟩)
 t1 : a.tmps.getD 1 undef = .int .i64 p1
 t2 : a.tmps.getD 2 undef = .int .i64 p2
 t9 : a.tmps.getD 9 undef = v
 t10 : a.tmps.getD 10 undef = .int .i64 i
 t11 : a.tmps.getD 11 undef = .int .i64 n
theorem rep1 {P : Program} {nt : Nat} {w : World} {ok : Nat → Prop} {bD n : Nat} {tm : List (Nat × AV)} {d : S_recordlinkmake_Deck} {a : Act} (hn : 0 < n) (hD : bD < w.heap.size) (hok : ∀ b, ok b → b < w.heap.size ∧ b ≠ bD) (hdk : RB w ok (fun _ => none) (dkB d) (.at bD 1))
  (htm : ∀ t av, Vm.look tm t = some av → RV w ok (rho1 bD) av (a.tmps.getD t undef)) (hs : a.tmps.size = nt) (hd : a.defers = []) : RepS ⟨P, ⟨w, ok, rho1 bD⟩, fun b => ∃ id cap, rho1 bD id = some (.at b cap), nt⟩ (rho1 bD) ⟨tm, [(0, dkB d)], n⟩ a w := by
 refine rep0 (fun b hb => (hok b hb).1) (fun id hid => ?_) htm (fun id blk hid => ?_) (fun i j b c c' h1 h2 => ?_) hs hd
 ·simp only [rho1] at hid
  split at hid
  ·rename_i e; subst e; exact hn
  ·exact absurd rfl hid
 ·match id, hid with
  | 0, h =>
   obtain rfl := Option.some.inj h
   exact ⟨_, rfl, boxρ (fun _ h => h) hdk, fun b cap e => by injection e with e1 e2; subst e1; exact ⟨hD, fun k => (hok _ k).2 rfl⟩⟩
  | n + 1, h => cases h
 ·have := rho1_eq h1; have := rho1_eq h2; omega
theorem okS_lt {n0 : Nat} {okA : Nat → Prop} {bD : Nat} {lo : Vm.Loc} {loc : Nat → Nat → Vm.Loc} {n : Nat} {w : World} (b : Nat) (h : okS n0 okA bD lo loc n w b) : b < w.heap.size ∧ b ≠ bD := ⟨h.1, h.2.2.2.1⟩
/-- What leaves the sheet alone. -/
theorem sh_keep {P : Program} {nt n : Nat} {w0 w w' : World} {okA : Nat → Prop} {bD : Nat} {lo : Vm.Loc} {vs : List V5} {loc : Nat → Nat → Vm.Loc} {v : Value} {l : List S_api_Sent} {d d' : S_recordlinkmake_Deck} {ρ : Ren} {tm : List (Nat × AV)} {a : Act} (hD : bD < w0.heap.size)
  {ok : Nat → Prop} (hok : ∀ b, ok b → okS w0.heap.size okA bD lo loc l.length w b) (H : ShJ w0 okA bD lo vs loc w v l d) (R : RepS ⟨P, ⟨w, ok, rho1 bD⟩, fun b => ∃ id cap, rho1 bD id = some (.at b cap), nt⟩ ρ ⟨tm, [(0, dkB d')], n⟩ a w') : ShJ w0 okA bD lo vs loc w' v l d' := by
 have r0 : ρ 0 = some (.at bD 1) := R.ext0 0 _ rfl
 have hz := H.upd.size
 have rz := R.upd.size
 dsimp only at rz
 obtain ⟨l0, a0, b0, c0⟩ := R.heap 0 _ rfl
 rw [r0] at a0
 obtain rfl := Option.some.inj a0
 have kp : ∀ b, b < w.heap.size → b ≠ bD → w'.heap[b]? = w.heap[b]? := fun b h1 h2 => R.upd.block b h1 fun ⟨id, cap, k⟩ => h2 (rho1_eq k).2
 have K : Keeps w w' (okS w0.heap.size okA bD lo loc l.length w) (okS w0.heap.size okA bD lo loc l.length w') := ⟨fun b ⟨h1, h2⟩ => ⟨by omega, h2⟩, fun b hb => kp b hb.1 hb.2.2.2.1⟩
 have kE : ∀ b, okOf ⟨w, ok, rho1 bD⟩ w' ρ (Vm.look [(0, dkB d')]) b → okS w0.heap.size okA bD lo loc l.length w' b := by
  rintro b ⟨h1, h2, h3⟩
  have nD : b ≠ bD := fun e => h3 0 _ 1 rfl rfl (by rw [r0, e])
  rcases h2 with h2 | h2 | ⟨id, cap, h2⟩
  ·dsimp only at h2
   refine ⟨h1, .inl (by omega), fun c e => by have := (H.lob b c e).2; omega, nD, fun ⟨k, j, c, k1, k2, k3, k4⟩ => by have := ((H.hd k j k1 k2 k3).2.2 b c k4).2.1; omega⟩
  ·exact K.le b (hok b h2)
  ·exact absurd (rho1_eq h2).2 nD
 refine ⟨H.upd.trans (Y := fun b => b = bD) ⟨R.upd.os, R.upd.tape, R.upd.output, rz, fun b h1 h2 => kp b h1 h2⟩ (fun _ _ h => h), boxρ kE b0, H.len, ?_, H.hv, fun b c e => ⟨(H.lob b c e).1, by have := (H.lob b c e).2; omega⟩, H.num, fun i j hi h1 h2 => ?_, H.inj⟩
 ·exact rb_keep ⟨fun _ h => h, fun _ h => h.elim⟩ (fun b cap e => kp b (H.lob b cap e).2 (by have := (H.lob b cap e).1; omega)) H.row
 ·obtain ⟨q1, q2, q3⟩ := H.hd i j hi h1 h2
  refine ⟨?_, q2, fun b c e => ⟨(q3 b c e).1, by have := (q3 b c e).2.1; omega, (q3 b c e).2.2⟩⟩
  have hb : ∀ b cap, loc i j = .at b cap → w'.heap[b]? = w.heap[b]? := fun b cap e => kp b (q3 b cap e).2.1 (by have := (q3 b cap e).1; omega)
  rcases lt5 h1 h2 with rfl | rfl | rfl
  ·exact rb_keep K hb q1
  ·exact rb_keep K hb q1
  ·exact rb_keep K hb q1
theorem sh_nil {w0 : World} {okA : Nat → Prop} {bD : Nat} {d : S_recordlinkmake_Deck} (hA : ∀ b, okA b → b < w0.heap.size ∧ b ≠ bD) (hdk : RB w0 okA (fun _ => none) (dkB d) (.at bD 1)) : ShJ w0 okA bD .nil [] (fun _ _ => .nil) w0 (.slice none 0 0) [] d where
 upd := Upd.refl _ _
 deck := boxρ (fun b hb => ⟨(hA b hb).1, .inr hb, fun c e => (by cases e), (hA b hb).2, fun ⟨k, j, c, k1, _⟩ => absurd k1 (Nat.not_lt_zero _)⟩) hdk
 len := rfl
 row := rfl
 hv := ⟨rfl, none, rfl⟩
 lob := fun b c e => by cases e
 num := fun i hi => absurd hi (Nat.not_lt_zero _)
 hd := fun i j hi => absurd hi (Nat.not_lt_zero _)
 inj := fun i j i' j' b c c' hi => absurd hi (Nat.not_lt_zero _)
theorem tj_of {c : Fx} {ρ : Ren} {bD : Nat} {p1 p2 i n : Int} {v : Value} {h : List (Nat × Blk)} {k : Nat} {a : Act} {w : World} (hnt : c.nt = 79) (h0 : ρ 0 = some (.at bD 1)) (R : RepS c.toCx ρ ⟨[(0, .c (.ptr 0 3 0 0)), (1, vi64 p1), (2, vi64 p2), (9, .c (.t (.v v))), (10, vi64 i), (11, vi64 n)], h, k⟩ a w) : TJ bD p1 p2 v i n a where
 sz := R.size.trans hnt
 df := R.defers
 t0 := by
  obtain ⟨b, cap, h1, h2⟩ := R.tmp 0 _ rfl
  rw [h0] at h1
  injection h1 with h1
  injection h1 with h1
  subst h1
  exact h2
 t1 := (R.tmp 1 _ rfl).1
 t2 := (R.tmp 2 _ rfl).1
 t9 := (R.tmp 9 _ rfl).1
 t10 := (R.tmp 10 _ rfl).1
 t11 := (R.tmp 11 _ rfl).1
theorem tj_rep {w : World} {ok : Nat → Prop} {bD : Nat} {p1 p2 i n : Int} {v : Value} {d : S_recordlinkmake_Deck} {a : Act} (hD : bD < w.heap.size) (hok : ∀ b, ok b → b < w.heap.size ∧ b ≠ bD) (hdk : RB w ok (fun _ => none) (dkB d) (.at bD 1)) (hv : v.oneCell' = true) (T : TJ bD p1 p2 v i n a) :
  RepS (fx1 w ok bD).toCx (rho1 bD) ⟨[(0, .c (.ptr 0 3 0 0)), (1, vi64 p1), (2, vi64 p2), (9, .c (.t (.v v))), (10, vi64 i), (11, vi64 n)], [(0, dkB d)], 2⟩ a w := by
 refine rep1 (by decide) hD hok hdk (fun t av ht => ?_) T.sz T.df
 match t, ht with
 | 0, ht => obtain rfl := Option.some.inj ht; exact ⟨bD, 1, rfl, T.t0⟩
 | 1, ht => obtain rfl := Option.some.inj ht; exact ⟨T.t1, rfl⟩
 | 2, ht => obtain rfl := Option.some.inj ht; exact ⟨T.t2, rfl⟩
 | 9, ht => obtain rfl := Option.some.inj ht; exact ⟨T.t9, hv⟩
 | 10, ht => obtain rfl := Option.some.inj ht; exact ⟨T.t10, rfl⟩
 | 11, ht => obtain rfl := Option.some.inj ht; exact ⟨T.t11, rfl⟩
 | 3, ht => cases ht
 | 4, ht => cases ht
 | 5, ht => cases ht
 | 6, ht => cases ht
 | 7, ht => cases ht
 | 8, ht => cases ht
 | n + 12, ht => cases ht
theorem getD_app {vs : Array Value} {n t : Nat} {y : Value} (h : vs[t]? = some y) : (vs ++ Array.replicate n undef).getD t undef = y := by
 have hlt := (Array.getElem?_eq_some_iff.1 h).1
 rw [Array.getD_eq_getD_getElem?, Array.getElem?_append_left hlt, h]
 rfl
set_option maxRecDepth 100000 in
theorem sheet_shape (p0 : S_recordlinkmake_Deck) (p1 p2 p3 : Int) (r : (List S_api_Sent) × S_recordlinkmake_Deck) (h : rl_play_Sheet p0 p1 p2 p3 = some r) (w0 : World) (okA : Nat → Prop) (bD : Nat) (hD : bD < w0.heap.size) (hA : ∀ b, okA b → b < w0.heap.size ∧ b ≠ bD) (hdk : RB w0 okA (fun _ => none) (dkB p0) (.at bD 1)) :
  Calls Try.prog 51 #[.pointer (some ⟨bD, 0, none⟩), .int .i64 p1, .int .i64 p2, .int .i64 p3] w0 fun e w' => ∃ v lo vs loc, e = .returned v ∧ ShJ w0 okA bD lo vs loc w' v r.1 r.2 := by
 refine calls_of_wp Try.func51 rfl ?_
 unfold rl_play_Sheet at h
 obtain ⟨y1, y2, e3, h⟩ := bind2_some h
 obtain ⟨x89, x90, x91, x92, l93, h⟩ := bind4_some h
 obtain rfl := some_inj h
 clear h
 have R0 : RepS (fx1 w0 okA bD).toCx (rho1 bD) ⟨[(0, .c (.ptr 0 3 0 0)), (1, vi64 p1), (2, vi64 p2), (3, vi64 p3)], [(0, dkB p0)], 1⟩ { tmps := #[.pointer (some ⟨bD, 0, none⟩), .int .i64 p1, .int .i64 p2, .int .i64 p3] ++ Array.replicate (Try.f51.ntmps - 4) undef, defers := [] } w0 := by
  have hsz : Try.f51.ntmps = 79 := by kernel_rfl
  refine rep1 (by decide) hD hA hdk (fun t av ht => ?_) (by rw [hsz]; simp) rfl
  match t, ht with
  | 0, ht => obtain rfl := Option.some.inj ht; exact ⟨bD, 1, rfl, getD_app rfl⟩
  | 1, ht => obtain rfl := Option.some.inj ht; exact ⟨getD_app rfl, rfl⟩
  | 2, ht => obtain rfl := Option.some.inj ht; exact ⟨getD_app rfl, rfl⟩
  | 3, ht => obtain rfl := Option.some.inj ht; exact ⟨getD_app rfl, rfl⟩
  | n + 4, ht => cases ht
 refine wp_seq (awrun (c := fx1 w0 okA bD) (x := .normal) (Sx := ⟨[(0, .c (.ptr 0 3 0 0)), (1, vi64 p1), (2, vi64 p2), (3, vi64 p3)], [(0, dkB p0)], 1⟩) (AW.rg tt_ok1 [] [] [] 2 [] (by kernel_rfl) ⟨rfl, conv_re [(0, 0)] (by kernel_rfl)⟩) R0 fun ρ1 a1 w1 R1 => ?_)
 refine wp_seq (awrun (c := fx1 w0 okA bD) (x := .normal) (Sx := ⟨[(0, .c (.ptr 0 3 0 0)), (1, vi64 p1), (2, vi64 p2), (3, vi64 p3), (9, .c (.t (.v (.slice none 0 0))))], [(0, dkB p0)], 1⟩) (AW.rg tt_ok1 [(9, .c (.t (.v (.slice none 0 0))))] [] [] 2 [] (by kernel_rfl) ⟨rfl, conv_re [(0, 0)] (by kernel_rfl)⟩) R1 fun ρ2 a2 w2 R2 => ?_)
 refine wp_seq (awrun (c := fx1 w0 okA bD) (x := .normal) (Sx := ⟨[(0, .c (.ptr 0 3 0 0)), (1, vi64 p1), (2, vi64 p2), (3, vi64 p3), (9, .c (.t (.v (.slice none 0 0)))), (10, vi64 0)], [(0, dkB p0)], 1⟩) (AW.rg tt_ok1 [(10, vi64 0)] [] [] 2 [] (by kernel_rfl) ⟨rfl, conv_re [(0, 0)] (by kernel_rfl)⟩) R2 fun ρ3 a3 w3 R3 => ?_)
 refine wp_seq (wp_seq (awrun (c := fx1 w0 okA bD) (x := .normal) (Sx := ⟨[(0, .c (.ptr 0 3 0 0)), (1, vi64 p1), (2, vi64 p2), (9, .c (.t (.v (.slice none 0 0)))), (10, vi64 0), (11, vi64 y1)], [(0, dkB y2)], 1⟩) (AW.rg tt_ok1 [(11, vi64 y1)] [0] [(0, .box 86 [cl 1 Ri64 y2.list, ci64 y2.at_, cu64 y2.state])] 5 [hn, hn, hn, hl [0] [] 0 (rl_make_Deck_Next_con p0 (i64.wrap (p3 + 1)) (y1, y2) e3)] (by kernel_rfl) ⟨rfl, conv_re [(0, 0)] (by kernel_rfl)⟩) R3 fun ρ4 a4 w4 R4 => ?_))
 refine wp_block (wp_loopJ (fun s a w => ∃ v lo vs loc, ShJ w0 okA bD lo vs loc w v s.1 ⟨s.2.2.2.1, s.2.2.2.2.1, s.2.2.2.2.2⟩ ∧ TJ bD p1 p2 v s.2.1 s.2.2.1 a) l93 (fun s o hs a w hj => ?_) ⟨_, _, _, _, sh_keep hD (fun b hb => ⟨(hA b hb).1, .inr hb, fun c e => (by cases e), (hA b hb).2, fun ⟨k, j, c, k1, _⟩ => absurd k1 (Nat.not_lt_zero _)⟩) (sh_nil hA hdk) R4, tj_of rfl (R4.ext0 0 _ rfl) R4⟩)
 obtain ⟨x10, x11, x12, x13, x14, x15⟩ := s
 obtain ⟨v9, lo, vs, loc, H, T⟩ := hj
 replace h : rl_play_Sheet_l1 p1 p2 x10 x11 x12 x13 x14 x15 = some o := hs
 clear hs l93
 unfold rl_play_Sheet_l1 at h
 have hz := H.upd.size
 have RJ := tj_rep (by omega) okS_lt H.deck H.hv.one T
 rcases ifs h with ⟨c20, h⟩ | ⟨c20, h⟩
 ·obtain ⟨y21, y22, e23, h⟩ := bind2_some h
  obtain ⟨y24, y25, e26, h⟩ := bind2_some h
  obtain ⟨x46, x47, x48, x49, l88, h⟩ := bind4_some h
  obtain ⟨x81, x82, x83, x84, x85, l87, h⟩ := bind5_some h
  obtain ⟨g86, h⟩ := ifc h
  obtain rfl := some_inj h
  clear h
  refine wp_seq (awrun (c := fx1 w (okS w0.heap.size okA bD lo loc x10.length w) bD) (x := .normal) (Sx := ⟨[(0, .c (.ptr 0 3 0 0)), (1, vi64 p1), (2, vi64 p2), (9, .c (.t (.v v9))), (10, vi64 x11), (11, vi64 x12)], [(0, dkB ⟨x13, x14, x15⟩)], 2⟩) ?_ RJ fun ρ6 a6 w6 R6 => ?_)
  ·refine AW.sg tt_ok1 [(22, vb (decide (x12 > 0)))] [] [] 4 [] (by kernel_rfl) ?_
   refine AW.cond (b := decide (x12 > 0)) (by kernel_rfl) (fun _ => AW.skip ⟨rfl, conv_re [(0, 0)] (by kernel_rfl)⟩) fun e => ?_
   rw [c20] at e
   cases e
  refine wp_seq (wp_block (wp_seq (awrun (c := fx1 w (okS w0.heap.size okA bD lo loc x10.length w) bD) (x := .normal) (Sx := ⟨[(0, .c (.ptr 0 3 0 0)), (1, vi64 p1), (2, vi64 p2), (9, .c (.t (.v v9))), (10, vi64 (i64.wrap (x11 + (i64.wrap (1 + y21))))), (11, vi64 x12)], [(0, dkB y22)], 2⟩) ?_ R6 fun ρ7 a7 w7 R7 => ?_)))
  ·exact AW.rg tt_ok1 [(10, vi64 (i64.wrap (x11 + (i64.wrap (1 + y21)))))] [0] [(0, .box 86 [cl 1 Ri64 y22.list, ci64 y22.at_, cu64 y22.state])] 7 [hn, hn, hl [0] [] 0 (rl_make_Deck_Next_con (⟨x13, x14, x15⟩ : S_recordlinkmake_Deck) 2 (y21, y22) e23)] (by kernel_rfl) ⟨rfl, conv_re [(0, 0)] (by kernel_rfl)⟩
  refine wp_seq (awrun (c := fx1 w (okS w0.heap.size okA bD lo loc x10.length w) bD) (x := .normal) (Sx := ⟨[(0, .c (.ptr 0 3 0 0)), (1, vi64 p1), (2, vi64 p2), (9, .c (.t (.v v9))), (10, vi64 (i64.wrap (x11 + (i64.wrap (1 + y21))))), (11, vi64 x12), (12, .c (.ptr 2 5 0 0))], [(0, dkB y25), (2, .box 44 [ci64 (i64.wrap (x11 + (i64.wrap (1 + y21)))), ci64 (i64.wrap (1 + y24)), .t (.v (.slice none 0 0)), .t (.v (.slice none 0 0)), .t (.v (.slice none 0 0))])], 3⟩) ?_ R7 fun ρ8 a8 w8 R8 => ?_)
  ·exact AW.rg tt_ok1 [(12, .c (.ptr 7 5 0 0))] [0, 7] [(7, .box 44 [ci64 (i64.wrap (x11 + (i64.wrap (1 + y21)))), ci64 (i64.wrap (1 + y24)), .t (.v (.slice none 0 0)), .t (.v (.slice none 0 0)), .t (.v (.slice none 0 0))]), (0, .box 86 [cl 1 Ri64 y25.list, ci64 y25.at_, cu64 y25.state])] 9 [hn, hn, hl [0] [] 0 (rl_make_Deck_Next_con y22 2 (y24, y25) e26)] (by kernel_rfl) ⟨rfl, conv_re [(0, 0), (2, 7)] (by kernel_rfl)⟩
  refine wp_seq (awrun (c := fx1 w (okS w0.heap.size okA bD lo loc x10.length w) bD) (x := .normal) (Sx := ⟨[(0, .c (.ptr 0 3 0 0)), (1, vi64 p1), (2, vi64 p2), (9, .c (.t (.v v9))), (10, vi64 (i64.wrap (x11 + (i64.wrap (1 + y21))))), (11, vi64 x12), (12, .c (.ptr 2 5 0 0))], [(0, .box 86 [cl 1 Ri64 x46, ci64 x47, cu64 x48]), (2, .box 44 [ci64 (i64.wrap (x11 + (i64.wrap (1 + y21)))), ci64 (i64.wrap (1 + y24)), .ref 3 2 0 x49.length, .t (.v (.slice none 0 0)), .t (.v (.slice none 0 0))]), (3, .row 84 false 2 x49.length (RS_api_Bits x49))], 4⟩) ?_ R8 fun ρ9 a9 w9 R9 => ?_)
  ·refine AW.sg tt_ok1 [(13, vi64 0)] [] [] 4 [] (by kernel_rfl) ?_
   refine AW.block ?_
   refine AW.lp l88 (fun v => ⟨[(0, .c (.ptr 0 3 0 0)), (1, vi64 p1), (2, vi64 p2), (9, .c (.t (.v v9))), (10, vi64 (i64.wrap (x11 + (i64.wrap (1 + y21))))), (11, vi64 x12), (12, .c (.ptr 2 5 0 0)), (13, vi64 v.1)], [(0, .box 86 [cl 1 Ri64 v.2.1, ci64 v.2.2.1, cu64 v.2.2.2.1]), (2, .box 44 [ci64 (i64.wrap (x11 + (i64.wrap (1 + y21)))), ci64 (i64.wrap (1 + y24)), .ref 3 2 0 v.2.2.2.2.length, .t (.v (.slice none 0 0)), .t (.v (.slice none 0 0))]), (3, .row 84 false 2 v.2.2.2.2.length (RS_api_Bits v.2.2.2.2))], 4⟩) (fun t : (List Int) × Int × Int × (List S_api_Bits) => (.exit 2, ⟨[(0, .c (.ptr 0 3 0 0)), (1, vi64 p1), (2, vi64 p2), (9, .c (.t (.v v9))), (10, vi64 (i64.wrap (x11 + (i64.wrap (1 + y21))))), (11, vi64 x12), (12, .c (.ptr 2 5 0 0))], [(0, .box 86 [cl 1 Ri64 t.1, ci64 t.2.1, cu64 t.2.2.1]), (2, .box 44 [ci64 (i64.wrap (x11 + (i64.wrap (1 + y21)))), ci64 (i64.wrap (1 + y24)), .ref 3 2 0 t.2.2.2.length, .t (.v (.slice none 0 0)), .t (.v (.slice none 0 0))]), (3, .row 84 false 2 t.2.2.2.length (RS_api_Bits t.2.2.2))], 4⟩)) (Conv.trans (conv_adoptB (id := 2) (ty0 := 44) (cs := [ci64 (i64.wrap (x11 + (i64.wrap (1 + y21)))), ci64 (i64.wrap (1 + y24)), .t (.v (.slice none 0 0)), .t (.v (.slice none 0 0)), .t (.v (.slice none 0 0))]) 2 (ty := 84) (sz := 2) (n := ([] : List S_api_Bits).length) (f := RS_api_Bits ([] : List S_api_Bits)) (by kernel_rfl) (by kernel_rfl) rfl) (conv_re [(0, 0), (2, 2), (3, 4)] (by kernel_rfl))) (fun _ => tv) ?_ ?_
   ·
    clear l88 h
    intro v o h
    obtain ⟨x32, x33, x34, x35, x36⟩ := v
    replace h : rl_play_Sheet_l2 p1 x32 x33 x34 x35 x36 = some o := h
    unfold rl_play_Sheet_l2 at h
    refine AW.seq ?_
    refine AW.sg tt_ok1 [(38, vb (decide (x32 < p1)))] [] [] 7 [] (by kernel_rfl) ?_
    refine AW.co h (by kernel_rfl) (fun c41 h => ?_) (fun c41 h => ?_)
    ·
     refine AW.skip (AW.tn ?_)
     refine AW.seq (AW.block ?_)
     obtain ⟨y42, y43, e44, h⟩ := bind2_some h
     obtain ⟨g45, h⟩ := ifc h
     refine AW.rd tt_ok1 mo1 [[], [], [], [], [0], [11], [12, 3], [], [], [2]] [] [(2, .box 44 [ci64 (i64.wrap (x11 + (i64.wrap (1 + y21)))), ci64 (i64.wrap (1 + y24)), .ref 12 2 0 ((x36 ++ ([y42] : List S_api_Bits)).length), .t (.v (.slice none 0 0)), .t (.v (.slice none 0 0))]), (12, .row 84 false 2 (x36 ++ ([y42] : List S_api_Bits)).length (RS_api_Bits (x36 ++ ([y42] : List S_api_Bits)))), (0, .box 86 [cl 1 Ri64 y43.list, ci64 y43.at_, cu64 y43.state])] 16 [hn, hn, hn, hn, hl [0] [] 0 (rl_play_Array_conT (⟨x33, x34, x35⟩ : S_recordlinkmake_Deck) (y42, y43) e44), hlit dS_api_Bits ES_api_Bits 2 (fun _ => rfl) ([y42] : List S_api_Bits), happ dS_api_Bits ES_api_Bits 2 32 x36 ([y42] : List S_api_Bits) g45 (by decide)] (by kernel_rfl) ?_
     refine AW.inBlock_normal (AW.tn ?_)
     refine AW.rg tt_ok1 [(13, vi64 (i64.wrap (x32 + 1)))] [] [] 19 [] (by kernel_rfl) ?_
     exact lpn h (conv_re [(0, 0), (2, 2), (3, 12)] (by kernel_rfl))
    ·
     refine AW.exit (AW.thenQ_exit ?_)
     exact lpo h rfl (conv_re [(0, 0), (2, 2), (3, 3)] (by kernel_rfl))
   ·show (_ : Exit → St → Prop) (.exit 2) _
    exact AW.inBlock_hit ⟨rfl, conv_re [(0, 0), (2, 2), (3, 3)] (by kernel_rfl)⟩
  refine wp_seq (awrun (c := fx1 w (okS w0.heap.size okA bD lo loc x10.length w) bD) (x := .normal) (Sx := ⟨[(0, .c (.ptr 0 3 0 0)), (1, vi64 p1), (2, vi64 p2), (9, .c (.t (.v v9))), (10, vi64 (i64.wrap (x11 + (i64.wrap (1 + y21))))), (11, vi64 x12), (12, .c (.ptr 2 5 0 0))], [(0, dkB ⟨x81, x82, x83⟩), (2, .box 44 [ci64 (i64.wrap (x11 + (i64.wrap (1 + y21)))), ci64 (i64.wrap (1 + y24)), .ref 3 2 0 x49.length, .ref 4 1 0 x84.length, .ref 5 1 0 x85.length]), (3, .row 84 false 2 x49.length (RS_api_Bits x49)), (4, .row 45 false 1 x84.length (Ru64 x84)), (5, .row 4 false 1 x85.length (Rb x85))], 6⟩) ?_ R9 fun ρc ac wc Rc => ?_)
  ·refine AW.sg tt_ok1 [(14, vi64 0)] [] [] 5 [] (by kernel_rfl) ?_
   refine AW.block ?_
   refine AW.lp l87 (fun v => ⟨[(0, .c (.ptr 0 3 0 0)), (1, vi64 p1), (2, vi64 p2), (9, .c (.t (.v v9))), (10, vi64 (i64.wrap (x11 + (i64.wrap (1 + y21))))), (11, vi64 x12), (12, .c (.ptr 2 5 0 0)), (14, vi64 v.1)], [(0, .box 86 [cl 1 Ri64 v.2.1, ci64 v.2.2.1, cu64 v.2.2.2.1]), (2, .box 44 [ci64 (i64.wrap (x11 + (i64.wrap (1 + y21)))), ci64 (i64.wrap (1 + y24)), .ref 3 2 0 x49.length, .ref 4 1 0 v.2.2.2.2.1.length, .ref 5 1 0 v.2.2.2.2.2.length]), (3, .row 84 false 2 x49.length (RS_api_Bits x49)), (4, .row 45 false 1 v.2.2.2.2.1.length (Ru64 v.2.2.2.2.1)), (5, .row 4 false 1 v.2.2.2.2.2.length (Rb v.2.2.2.2.2))], 6⟩) (fun t : (List Int) × Int × Int × (List Int) × (List Bool) => (.exit 4, ⟨[(0, .c (.ptr 0 3 0 0)), (1, vi64 p1), (2, vi64 p2), (9, .c (.t (.v v9))), (10, vi64 (i64.wrap (x11 + (i64.wrap (1 + y21))))), (11, vi64 x12), (12, .c (.ptr 2 5 0 0))], [(0, .box 86 [cl 1 Ri64 t.1, ci64 t.2.1, cu64 t.2.2.1]), (2, .box 44 [ci64 (i64.wrap (x11 + (i64.wrap (1 + y21)))), ci64 (i64.wrap (1 + y24)), .ref 3 2 0 x49.length, .ref 4 1 0 t.2.2.2.1.length, .ref 5 1 0 t.2.2.2.2.length]), (3, .row 84 false 2 x49.length (RS_api_Bits x49)), (4, .row 45 false 1 t.2.2.2.1.length (Ru64 t.2.2.2.1)), (5, .row 4 false 1 t.2.2.2.2.length (Rb t.2.2.2.2))], 6⟩)) (Conv.trans (conv_adoptB (id := 2) (ty0 := 44) (cs := [ci64 (i64.wrap (x11 + (i64.wrap (1 + y21)))), ci64 (i64.wrap (1 + y24)), .ref 3 2 0 x49.length, .t (.v (.slice none 0 0)), .t (.v (.slice none 0 0))]) 3 (ty := 45) (sz := 1) (n := ([] : List Int).length) (f := Ru64 ([] : List Int)) (by kernel_rfl) (by kernel_rfl) rfl) (Conv.trans (conv_adoptB (id := 2) (ty0 := 44) (cs := [ci64 (i64.wrap (x11 + (i64.wrap (1 + y21)))), ci64 (i64.wrap (1 + y24)), .ref 3 2 0 x49.length, .ref 5 1 0 (([] : List Int).length), .t (.v (.slice none 0 0))]) 4 (ty := 4) (sz := 1) (n := ([] : List Bool).length) (f := Rb ([] : List Bool)) (by kernel_rfl) (by kernel_rfl) rfl) (conv_re [(0, 0), (2, 2), (3, 3), (4, 5), (5, 6)] (by kernel_rfl)))) (fun _ => tv) ?_ ?_
   ·
    clear l87 h
    intro v o h
    obtain ⟨x56, x57, x58, x59, x60, x61⟩ := v
    replace h : rl_play_Sheet_l3 p2 x56 x57 x58 x59 x60 x61 = some o := h
    unfold rl_play_Sheet_l3 at h
    refine AW.seq ?_
    refine AW.sg tt_ok1 [(52, vb (decide (x56 < p2)))] [] [] 9 [] (by kernel_rfl) ?_
    refine AW.co h (by kernel_rfl) (fun c67 h => ?_) (fun c67 h => ?_)
    ·
     refine AW.skip (AW.tn ?_)
     refine AW.seq (AW.block ?_)
     obtain ⟨y68, y69, e70, h⟩ := bind2_some h
     refine AW.sg tt_ok1 [(15, vb (!y68))] [0] [(0, .box 86 [cl 1 Ri64 y69.list, ci64 y69.at_, cu64 y69.state])] 12 [hn, hl [0] [] 0 (rl_make_Deck_One_con (⟨x57, x58, x59⟩ : S_recordlinkmake_Deck) 5 (y68, y69) e70)] (by kernel_rfl) ?_
     refine AW.sg tt_ok1 [(16, vu64 0)] [] [] 13 [] (by kernel_rfl) ?_
     refine AW.seq ?_
     refine AW.join (ι := Int × (List Int) × Int × Int) (fun v => ⟨[(0, .c (.ptr 0 3 0 0)), (1, vi64 p1), (2, vi64 p2), (9, .c (.t (.v v9))), (10, vi64 (i64.wrap (x11 + (i64.wrap (1 + y21))))), (11, vi64 x12), (12, .c (.ptr 2 5 0 0)), (14, vi64 x56), (15, vb (!y68)), (16, vu64 v.1)], [(0, .box 86 [cl 1 Ri64 v.2.1, ci64 v.2.2.1, cu64 v.2.2.2]), (2, .box 44 [ci64 (i64.wrap (x11 + (i64.wrap (1 + y21)))), ci64 (i64.wrap (1 + y24)), .ref 3 2 0 x49.length, .ref 4 1 0 x60.length, .ref 5 1 0 x61.length]), (3, .row 84 false 2 x49.length (RS_api_Bits x49)), (4, .row 45 false 1 x60.length (Ru64 x60)), (5, .row 4 false 1 x61.length (Rb x61))], 6⟩) (fun v : Int × (List Int) × Int × Int => rl_play_Sheet_k4 x56 x60 x61 y68 v.1 v.2.1 v.2.2.1 v.2.2.2 = some o) (fun v h => ?_) ?_
     ·
      obtain ⟨x71, x72, x73, x74⟩ := v
      replace h : rl_play_Sheet_k4 x56 x60 x61 y68 x71 x72 x73 x74 = some o := h
      unfold rl_play_Sheet_k4 at h
      refine AW.tn ?_
      obtain ⟨g75, g76, h⟩ := ifd h
      refine AW.rd tt_ok1 mo1 [[], [], [], [9], [10, 4], [], [], [], [14], [15, 5], [], [2], [], [2]] [] [(2, .box 44 [ci64 (i64.wrap (x11 + (i64.wrap (1 + y21)))), ci64 (i64.wrap (1 + y24)), .ref 3 2 0 x49.length, .ref 10 1 0 ((x60 ++ ([x71] : List Int)).length), .ref 15 1 0 ((x61 ++ ([!y68] : List Bool)).length)]), (15, .row 4 false 1 (x61 ++ ([!y68] : List Bool)).length (Rb (x61 ++ ([!y68] : List Bool)))), (10, .row 45 false 1 (x60 ++ ([x71] : List Int)).length (Ru64 (x60 ++ ([x71] : List Int))))] 20 [hn, hn, hn, hlit 0 Eu64 1 (fun _ => rfl) ([x71] : List Int), happ 0 Eu64 1 8 x60 ([x71] : List Int) g75 (by decide), hn, hn, hn, hlit false Eb 1 (fun _ => rfl) ([!y68] : List Bool), happ false Eb 1 1 x61 ([!y68] : List Bool) g76 (by decide)] (by kernel_rfl) ?_
      refine AW.inBlock_normal (AW.tn ?_)
      refine AW.rg tt_ok1 [(14, vi64 (i64.wrap (x56 + 1)))] [] [] 23 [] (by kernel_rfl) ?_
      exact lpn h (conv_re [(0, 0), (2, 2), (3, 3), (4, 10), (5, 15)] (by kernel_rfl))
     ·
      refine AW.sg tt_ok1 [(58, vb (!y68))] [] [] 14 [] (by kernel_rfl) ?_
      refine AW.co h (by kernel_rfl) (fun c77 h => ?_) (fun c77 h => ?_)
      ·
       obtain ⟨y78, y79, e80, h⟩ := bind2_some h
       refine AW.rg tt_ok1 [(16, vu64 (u64.wrap y78))] [0] [(0, .box 86 [cl 1 Ri64 y79.list, ci64 y79.at_, cu64 y79.state])] 17 [hn, hl [0] [] 0 (rl_make_Deck_Next_con y69 3 (y78, y79) e80)] (by kernel_rfl) ?_
       exact jl (u64.wrap y78, y79.list, y79.at_, y79.state) h (conv_re [(0, 0), (2, 2), (3, 3), (4, 4), (5, 5)] (by kernel_rfl))
      ·
       refine AW.skip ?_
       exact jl (0, y69.list, y69.at_, y69.state) h (conv_re [(0, 0), (2, 2), (3, 3), (4, 4), (5, 5)] (by kernel_rfl))
    ·
     refine AW.exit (AW.thenQ_exit ?_)
     exact lpo h rfl (conv_re [(0, 0), (2, 2), (3, 3), (4, 4), (5, 5)] (by kernel_rfl))
   ·show (_ : Exit → St → Prop) (.exit 4) _
    exact AW.inBlock_hit ⟨rfl, conv_re [(0, 0), (2, 2), (3, 3), (4, 4), (5, 5)] (by kernel_rfl)⟩
  clear l87 l88 e23 e26 R6 R7 R8 R9 RJ
  obtain ⟨s, hs⟩ : ∃ s : S_api_Sent, (⟨(⟨i64.wrap (x11 + (i64.wrap (1 + y21))), i64.wrap (1 + y24), x49⟩ : S_api_Encoded), x84, x85⟩ : S_api_Sent) = s := ⟨_, rfl⟩
  obtain ⟨bx, lx, okE, y, M, hbx⟩ := mid_of (s := (⟨(⟨i64.wrap (x11 + (i64.wrap (1 + y21))), i64.wrap (1 + y24), x49⟩ : S_api_Encoded), x84, x85⟩ : S_api_Sent)) (by omega) (fun b hb => (okS_lt b hb).2) Rc
  rw [hs] at M g86 ⊢
  have ho : ∀ j, 2 ≤ j → j < 5 → (v5 y j).oneCell' = true := fun j h1 h2 => (M.hd j h1 h2).2.one
  have RB := rep2 (P := Try.prog) (nt := 79) (a := ac) (tm := [(0, .c (.ptr 0 3 0 0)), (1, vi64 p1), (2, vi64 p2), (9, .c (.ref 1 5 0 vs.length)), (10, vi64 (i64.wrap (x11 + (i64.wrap (1 + y21))))), (11, vi64 x12), (12, .c (.ptr 2 5 0 0))]) hD H M (fun t av ht => by
   have r0 : ρc 0 = some (.at bD 1) := Rc.ext0 0 _ rfl
   match t, ht with
   | 0, ht =>
    obtain rfl := Option.some.inj ht
    obtain ⟨b, cap, h1, h2⟩ := Rc.tmp 0 _ rfl
    rw [r0] at h1
    injection h1 with h1
    injection h1 with h1
    subst h1
    exact ⟨bD, 1, rfl, h2⟩
   | 1, ht => obtain rfl := Option.some.inj ht; exact Rc.tmp 1 _ rfl
   | 2, ht => obtain rfl := Option.some.inj ht; exact Rc.tmp 2 _ rfl
   | 9, ht =>
    obtain rfl := Option.some.inj ht
    have h9 : ac.tmps.getD 9 undef = v9 := (Rc.tmp 9 _ rfl).1
    rw [h9]
    exact HV.rc (w := wc) (ok := okE) H.hv rfl
   | 10, ht => obtain rfl := Option.some.inj ht; exact Rc.tmp 10 _ rfl
   | 11, ht => obtain rfl := Option.some.inj ht; exact Rc.tmp 11 _ rfl
   | 12, ht =>
    obtain rfl := Option.some.inj ht
    obtain ⟨b, cap, h1, h2⟩ := Rc.tmp 12 _ rfl
    rw [hbx] at h1
    injection h1 with h1
    injection h1 with h1
    subst h1
    exact ⟨bx, 1, rfl, h2⟩
   | 3, ht => cases ht
   | 4, ht => cases ht
   | 5, ht => cases ht
   | 6, ht => cases ht
   | 7, ht => cases ht
   | 8, ht => cases ht
   | n + 13, ht => cases ht) ho Rc.size Rc.defers
  have g87 : vs.length + [y].length ≤ 1099511627776 := by rw [H.len]; simpa using g86
  refine awrun (c := fxB wc okE bD bx lo lx) (x := .normal) (Sx := ⟨[(0, .c (.ptr 0 3 0 0)), (1, vi64 p1), (2, vi64 p2), (9, .c (.ref 6 5 0 (vs ++ [y]).length)), (10, vi64 (i64.wrap (x11 + (i64.wrap (1 + y21))))), (11, vi64 x12)], [(0, dkB ⟨x81, x82, x83⟩), (6, .row 44 false 5 (vs ++ [y]).length (rowL dV5 EV5 (vs ++ [y]))), (3, .row 84 false 2 s.Record.Fields.length (RS_api_Bits s.Record.Fields)), (4, .row 45 false 1 s.Hashes.length (Ru64 s.Hashes)), (5, .row 4 false 1 s.Has.length (Rb s.Has))], 7⟩) ?_ RB fun ρd ad wd Rd => ?_
  ·exact AW.rg tt_ok1 [(9, .c (.ref 9 5 0 ((vs ++ [y]).length)))] [1, 8, 9] [(9, .row 44 false 5 (vs ++ [y]).length (rowL dV5 EV5 (vs ++ [y])))] 11 [hn, hn, hlit dV5 EV5 5 (fun _ => rfl) [y], happ dV5 EV5 5 88 vs [y] g87 (by decide)] (by kernel_rfl) ⟨rfl, conv_re [(0, 0), (6, 9), (3, 3), (4, 4), (5, 5)] (by kernel_rfl)⟩
  refine awrun (c := fxB wc okE bD bx lo lx) (x := .normal) (Sx := ⟨[(0, .c (.ptr 0 3 0 0)), (1, vi64 p1), (2, vi64 p2), (9, .c (.ref 6 5 0 (vs ++ [y]).length)), (10, vi64 (i64.wrap (x11 + (i64.wrap (1 + y21))))), (11, vi64 (i64.wrap (x12 - 1)))], [(0, dkB ⟨x81, x82, x83⟩), (6, .row 44 false 5 (vs ++ [y]).length (rowL dV5 EV5 (vs ++ [y]))), (3, .row 84 false 2 s.Record.Fields.length (RS_api_Bits s.Record.Fields)), (4, .row 45 false 1 s.Hashes.length (Ru64 s.Hashes)), (5, .row 4 false 1 s.Has.length (Rb s.Has))], 7⟩) ?_ Rd fun ρe ae we Re => ?_
  ·exact AW.rg tt_ok1 [(11, vi64 (i64.wrap (x12 - 1)))] [] [] 10 [] (by kernel_rfl) ⟨rfl, conv_re [(0, 0), (6, 6), (3, 3), (4, 4), (5, 5)] (by kernel_rfl)⟩
  obtain ⟨lo', loc', H'⟩ := sh_step hD (fun b hb => (hA b hb).1) H M ho Re (v3 := ae.tmps.getD 9 undef) (Re.tmp 9 _ rfl)
  refine ⟨rfl, _, lo', vs ++ [y], loc', H', Re.size, Re.defers, ?_, (Re.tmp 1 _ rfl).1, (Re.tmp 2 _ rfl).1, rfl, (Re.tmp 10 _ rfl).1, (Re.tmp 11 _ rfl).1⟩
  obtain ⟨b, cap, h1, h2⟩ := Re.tmp 0 _ rfl
  have r0 : ρe 0 = some (.at bD 1) := Re.ext0 0 _ rfl
  rw [r0] at h1
  injection h1 with h1
  injection h1 with h1
  subst h1
  exact h2
 ·obtain rfl := some_inj h
  clear h
  refine wp_seq (awrun (c := fx1 w (okS w0.heap.size okA bD lo loc x10.length w) bD) (x := .exit 0) (Sx := ⟨[(9, .c (.t (.v v9)))], [(0, dkB ⟨x13, x14, x15⟩)], 2⟩) ?_ RJ fun ρ6 a6 w6 R6 => ?_)
  ·refine AW.sg tt_ok1 [(22, vb (decide (x12 > 0)))] [] [] 4 [] (by kernel_rfl) ?_
   refine AW.cond (b := decide (x12 > 0)) (by kernel_rfl) (fun e => ?_) fun _ => AW.exit ⟨rfl, conv_re [(0, 0)] (by kernel_rfl)⟩
   rw [c20] at e
   cases e
  have hs6 := R6.size
  have hd6 := R6.defers
  have h9 : a6.tmps.getD 9 undef = v9 := (R6.tmp 9 _ rfl).1
  have H6 := sh_keep hD (fun b h => h) H R6
  intro ht
  injection ht with ht1 ht2
  injection ht2 with ht2 ht3
  injection ht3 with ht3 ht4
  subst ht1; subst ht2; subst ht3; subst ht4
  refine ⟨by simp, ?_⟩
  have hz6 := H6.upd.size
  have R7 : RepS (fx1 w6 (okS w0.heap.size okA bD lo loc x10.length w6) bD).toCx (rho1 bD) ⟨[(9, .c (.t (.v v9)))], [(0, dkB ⟨x13, x14, x15⟩)], 2⟩ a6 w6 := rep1 (by decide) (by omega) okS_lt H6.deck (fun t av ht => by
   rw [look_cons] at ht
   split at ht
   ·rename_i e; subst e; obtain rfl := Option.some.inj ht; exact ⟨h9, H6.hv.one⟩
   ·cases ht) hs6 hd6
  refine wp_seq (awrun (c := fx1 w6 (okS w0.heap.size okA bD lo loc x10.length w6) bD) (x := .normal) (Sx := ⟨[(8, .c (.t (.v v9)))], [(0, dkB ⟨x13, x14, x15⟩)], 2⟩) (AW.rg tt_ok1 [(8, .c (.t (.v v9)))] [] [] 4 [] (by kernel_rfl) ⟨rfl, conv_re [(0, 0)] (by kernel_rfl)⟩) R7 fun ρ8 a8 w8 R8 => ?_)
  refine wp_ret ?_
  obtain ⟨v, e1, e2⟩ := aRes_run (fn := Try.f51) (out := .c (.t (.v v9))) (ps := [True]) tt_ok1 R8 (by kernel_rfl) ⟨tv, tv⟩
  obtain rfl : v = v9 := e2.1
  exact ⟨R8.defers, _, e1, _, lo, vs, loc, rfl, sh_keep hD (fun b h => h) H6 R8⟩
end
theorem runOps_wpK {c : Cx} {tt : TT} (hT : TTok c.P tt) {ops : List Oper} (hds : dstB ops c.nt = true) {Q : Exit → Act → World → Prop} : ∀ (l : List Oper) (k m : Nat) (xs : List Hi) (S S' : St) (ps : List Prop) (ρ : Ren) (a : Act) (w : World), (∀ j, j < l.length → l[j]? = ops[k + j]?) → RepS c ρ S a w → runOps c.P tt ops l xs S = some (S', ps) → AllP ps →
  (∀ ρ' a' w', RepS c ρ' S' a' w' → wpOps c.P ops.toArray Q (List.range' (k + l.length) m) a' w') → wpOps c.P ops.toArray Q (List.range' k (l.length + m)) a w
 | [], k, m, xs, S, S', ps, ρ, a, w, hl, R, e, hp, hQ => by
  simp only [runOps, Option.some.injEq, Prod.mk.injEq] at e
  obtain ⟨rfl, rfl⟩ := e
  simpa using hQ ρ a w R
 | o :: rest, k, m, xs, S, S', ps, ρ, a, w, hl, R, e, hp, hQ => by
  simp only [runOps] at e
  split at e
  ·rename_i r hr
   split at e
   ·rename_i S1 ps1 he
    simp only [Option.some.injEq, Prod.mk.injEq] at e
    obtain ⟨rfl, rfl⟩ := e
    obtain ⟨p1, p2⟩ := hp
    rw [show (o :: rest).length + m = (rest.length + m) + 1 by simp; omega, List.range'_succ, wpOps_cons]
    have ho : ops[k]? = some o := by have := hl 0 (by simp); simpa using this.symm
    refine aStep_wp (used' := fun id => id < S.n + (xs.headD {}).cnt) R hT (dstB_ok hds) ho (fun id h1 h2 => by omega) (fun id h => by omega) (fun id h1 h2 => by omega) hr p1 fun ρ' a' w' R' => ?_
    refine runOps_wpK hT hds rest (k + 1) m xs.tail _ S1 ps1 ρ' a' w' (fun j hj => ?_) ?_ he p2 fun ρ2 a2 w2 R2 => ?_
    ·have := hl (j + 1) (by simp; omega); simp only [List.getElem?_cons_succ] at this; rw [this]; congr 1; omega
    ·unfold RepS; rw [look_putTm, look_putHp]; exact R'
    ·have := hQ ρ2 a2 w2 R2
     rwa [show k + (o :: rest).length = k + 1 + rest.length by simp; omega] at this
   ·cases e
  ·cases e
def reRun (m : List (Nat × Nat)) (ks : List Nat) (n : Nat) : Option (St × List Prop) → Option (Option St × List Prop)
 | some (S1, ps) => some (renSt m ks n S1, ps)
 | none => none
theorem reRun_some {m : List (Nat × Nat)} {ks : List Nat} {n : Nat} {q : Option (St × List Prop)} {Sx : St} {ps : List Prop} (e : reRun m ks n q = some (some Sx, ps)) : ∃ S1, q = some (S1, ps) ∧ renSt m ks n S1 = some Sx := by
 cases q with
 | none => cases e
 | some p =>
  obtain ⟨S1, qs⟩ := p
  simp only [reRun, Option.some.injEq, Prod.mk.injEq] at e
  exact ⟨S1, by rw [e.2], e.1⟩
/-- The first n1 operations of a region. -/
theorem region_cut {c : Fx} {tt : TT} (hT : TTok c.P tt) {id : Nat} {ops : List Oper} (n1 n2 : Nat) {Q : Exit → Act → World → Prop} {S Sx : St} (m : List (Nat × Nat)) (xs : List HP)
  (e : (dstB ops c.nt, reRun m (keysOf Sx.tm) Sx.n (runOps c.P tt ops (ops.take n1) (xs.map HP.hi) S), nodupB (m.map (·.2)) && nodupB (m.map (·.1)) && keysLt Sx.n m && firstK c.k Sx.n m, Nat.beq ops.length (n1 + n2)) = (true, some (some Sx, padP n1 xs), true, true)) {ρ : Ren} {a : Act} {w : World} (R : RepS c.toCx ρ S a w)
  (k : ∀ ρ' a' w', RepS c.toCx ρ' Sx a' w' → wpOps c.P ops.toArray Q (List.range' n1 n2) a' w') : (Code.region id ops.toArray false).wp c.P Q a w := by
 simp only [Prod.mk.injEq] at e
 obtain ⟨e1, e2, e3, e4⟩ := e
 obtain ⟨S1, f1, f2⟩ := reRun_some e2
 have hlen := Nat.eq_of_beq_eq_true e4
 refine wp_region ?_
 have hl : (ops.take n1).length = n1 := by rw [List.length_take]; omega
 have := runOps_wpK (Q := Q) hT e1 (ops.take n1) 0 n2 _ S S1 _ ρ a w (fun j hj => by rw [Nat.zero_add, List.getElem?_take_of_lt (by omega)]) R f1 (padP_ok _ _) fun ρ' a' w' R' => by
  obtain ⟨ρ2, R2⟩ := conv_ren (c := c) m (keysOf Sx.tm) f2 e3 ρ' a' w' R'
  rw [hl, Nat.zero_add]
  exact k ρ2 a' w' R2
 rw [hl, ← hlen] at this
 simpa [List.range_eq_range'] using this
/-- .. the others. -/
theorem region_rest {c : Fx} {tt : TT} (hT : TTok c.P tt) {ops : List Oper} (n1 n2 : Nat) {Q : Exit → Act → World → Prop} {S Sx : St} (m : List (Nat × Nat)) (xs : List HP)
  (e : (dstB ops c.nt, reRun m (keysOf Sx.tm) Sx.n (runOps c.P tt ops (ops.drop n1) (xs.map HP.hi) S), nodupB (m.map (·.2)) && nodupB (m.map (·.1)) && keysLt Sx.n m && firstK c.k Sx.n m, Nat.beq ops.length (n1 + n2)) = (true, some (some Sx, padP n2 xs), true, true)) {ρ : Ren} {a : Act} {w : World} (R : RepS c.toCx ρ S a w)
  (k : ∀ ρ' a' w', RepS c.toCx ρ' Sx a' w' → Q .normal a' w') : wpOps c.P ops.toArray Q (List.range' n1 n2) a w := by
 simp only [Prod.mk.injEq] at e
 obtain ⟨e1, e2, e3, e4⟩ := e
 obtain ⟨S1, f1, f2⟩ := reRun_some e2
 have hlen := Nat.eq_of_beq_eq_true e4
 have hl : (ops.drop n1).length = n2 := by rw [List.length_drop]; omega
 have := runOps_wp (Q := Q) hT e1 (ops.drop n1) n1 _ S S1 _ ρ a w (fun j => by rw [List.getElem?_drop]) R f1 (padP_ok _ _) fun ρ' a' w' R' => by
  obtain ⟨ρ2, R2⟩ := conv_ren (c := c) m (keysOf Sx.tm) f2 e3 ρ' a' w' R'
  exact k ρ2 a' w' R2
 rwa [hl] at this
theorem rt_tree {w : World} {ok ok' : Nat → Prop} {ρ : Ren} {ty : TypeId} {fro : Bool} {sz n : Nat} {f : Nat → Nat → T} {l : Vm.Loc} {v : Value} (hv : HV l sz n v) (h : RB w ok ρ (.row ty fro sz n f) l) (hk : ∀ b, ok b → ok' b) (hl : ∀ b c, l = .at b c → ok' b) : RT w ok' (.tree n sz f) v := by
 cases l with
 | nil =>
  obtain ⟨rfl, q, rfl⟩ := hv
  exact ⟨q, 0, rfl, Nat.le_refl _, fun i hi => absurd hi (Nat.not_lt_zero _)⟩
 | _ b cap =>
  rcases hv with ⟨c, rfl, h1, h2⟩ | ⟨rfl, q, rfl⟩
  ·obtain ⟨k0, vs, fz, k1, k2, k3, k4⟩ := h
   refine ⟨_, c, rfl, h1, fun i hi j hj => ?_⟩
   obtain ⟨x, x1, x2⟩ := k4 i hi j hj
   refine ⟨b, 0 * sz, x, rfl, hl b cap rfl, ?_, RT.mono ⟨hk, fun _ _ => rfl⟩ _ _ x2⟩
   rw [cell_of_row w _ _ vs ty fz k1]
   simpa using x1
  ·exact ⟨q, 0, rfl, Nat.le_refl _, fun i hi => absurd hi (Nat.not_lt_zero _)⟩
def rhoC (bD : Nat) (lo lk : Vm.Loc) : Ren := fun id => match id with
 | 0 => some (.at bD 1)
 | 1 => some lo
 | 2 => some lk
 | _ => none
def okK (n0 : Nat) (okA : Nat → Prop) (bD : Nat) (lo lk : Vm.Loc) (w : World) (b : Nat) : Prop := b < w.heap.size ∧ (n0 ≤ b ∨ okA b) ∧ (∀ c, lo ≠ .at b c) ∧ b ≠ bD ∧ ∀ c, lk ≠ .at b c
def rowK (l : List S_api_Sent) (k jj : Nat) (y : Value) : Nat → Nat → T := fun i j => if i = k ∧ j = jj then .v y else RS_api_Sent l i j
@[reducible] noncomputable def fxC (w : World) (ok : Nat → Prop) (bD : Nat) (lo lk : Vm.Loc) : Fx := ⟨⟨Try.prog, ⟨w, ok, rhoC bD lo lk⟩, fun b => ∃ id cap, rhoC bD lo lk id = some (.at b cap), 109⟩, 3, fun id h => by
 match id, h with
 | 0, _ => decide
 | 1, _ => decide
 | 2, _ => decide
 | n + 3, h => simp [rhoC] at h⟩
theorem rhoC_cases {P : Prop} {bD : Nat} {lo lk : Vm.Loc} {id b c : Nat} (h : rhoC bD lo lk id = some (.at b c)) (h0 : id = 0 → b = bD → P) (h1 : id = 1 → lo = .at b c → P) (h2 : id = 2 → lk = .at b c → P) : P := by
 match id, h with
 | 0, h => simp [rhoC] at h; exact h0 rfl h.1.symm
 | 1, h => simp [rhoC] at h; exact h1 rfl h
 | 2, h => simp [rhoC] at h; exact h2 rfl h
 | n + 3, h => simp [rhoC] at h
section
variable {w0 w1 : World} {okA : Nat → Prop} {bD : Nat} {lo : Vm.Loc} {vs : List V5} {loc : Nat → Nat → Vm.Loc} {v : Value} {l : List S_api_Sent} {d : S_recordlinkmake_Deck}
theorem lt5' {j : Nat} (h : j < 5) : j = 0 ∨ j = 1 ∨ (2 ≤ j ∧ j < 5) := by omega
theorem rep3 {a : Act} {tm : List (Nat × AV)} {k jj : Nat} (hD : bD < w0.heap.size) (hA : ∀ b, okA b → b < w0.heap.size ∧ b ≠ bD) (H : ShJ w0 okA bD lo vs loc w1 v l d) (hk : k < l.length) (h1 : 2 ≤ jj) (h2 : jj < 5)
  (htm : ∀ t av, Vm.look tm t = some av → RV w1 (okK w0.heap.size okA bD lo (loc k jj) w1) (rhoC bD lo (loc k jj)) av (a.tmps.getD t undef)) (hs : a.tmps.size = 109) (hd : a.defers = []) :
  RepS (fxC w1 (okK w0.heap.size okA bD lo (loc k jj) w1) bD lo (loc k jj)).toCx (rhoC bD lo (loc k jj)) ⟨tm, [(0, dkB d), (1, .row 44 false 5 l.length (rowK l k jj (v5 (vs.getD k dV5) jj))), (2, hdB (l.getD k dS_api_Sent) jj)], 3⟩ a w1 := by
 have hz := H.upd.size
 have hS : ∀ b, okS w0.heap.size okA bD lo loc l.length w1 b → okK w0.heap.size okA bD lo (loc k jj) w1 b := fun b ⟨q1, q2, q3, q4, q5⟩ => ⟨q1, q2, q3, q4, fun c e => q5 ⟨k, jj, c, hk, h1, h2, e⟩⟩
 obtain ⟨hk1, hk2, hk3⟩ := H.hd k jj hk h1 h2
 refine rep0 (fun b hb => hb.1) (fun id hid => ?_) htm (fun id blk hid => ?_) (fun i j b c c' q1 q2 => ?_) hs hd
 ·match id, hid with
  | 0, _ => exact (by decide : (0 : Nat) < 3)
  | 1, _ => exact (by decide : (1 : Nat) < 3)
  | 2, _ => exact (by decide : (2 : Nat) < 3)
  | n + 3, h => simp [rhoC] at h
 ·match id, hid with
  | 0, h =>
   obtain rfl := Option.some.inj h
   exact ⟨_, rfl, boxρ hS H.deck, fun b cap e => by injection e with e1 e2; subst e1; exact ⟨by omega, fun k => k.2.2.2.1 rfl⟩⟩
  | 1, h =>
   obtain rfl := Option.some.inj h
   refine ⟨lo, rfl, ?_, fun b cap e => ⟨(H.lob b cap e).2, fun k => k.2.2.1 cap e⟩⟩
   have hr := H.row
   rw [H.len] at hr
   cases hlo : lo with
   | nil => rw [hlo] at hr; exact hr
   | _ bo co =>
    rw [hlo] at hr
    obtain ⟨q0, us, fz, q1, q2, q3, q4⟩ := hr
    rw [← hlo]
    refine hlo ▸ ⟨q0, us, fz, q1, q2, q3, fun i hi j hj => ?_⟩
    obtain ⟨x, x1, x2⟩ := q4 i hi j hj
    refine ⟨x, x1, ?_⟩
    have x3 : x = v5 (vs.getD i dV5) j ∧ (v5 (vs.getD i dV5) j).oneCell' = true := by
     rcases lt5' hj with rfl | rfl | ⟨j1, j2⟩
     ·exact x2
     ·exact x2
     ·rcases lt5 j1 j2 with rfl | rfl | rfl <;> exact x2
    unfold rowK
    split
    ·rename_i e
     rw [e.1, e.2] at x3
     exact x3
    ·rename_i ne
     rcases lt5' hj with rfl | rfl | ⟨j1, j2⟩
     ·exact ⟨x3.1.trans (H.num i hi).1, rfl⟩
     ·exact ⟨x3.1.trans (H.num i hi).2, rfl⟩
     ·obtain ⟨z1, z2, z3⟩ := H.hd i j hi j1 j2
      have zk : ∀ b c, loc i j = .at b c → okK w0.heap.size okA bD lo (loc k jj) w1 b := fun b c e => ⟨(z3 b c e).2.1, .inl (z3 b c e).1, (z3 b c e).2.2, by have := (z3 b c e).1; omega, fun c' e' => ne (H.inj i j k jj b c c' hi hk j1 j2 h1 h2 e e')⟩
      rw [x3.1]
      rw [hlo] at hS zk
      rcases lt5 j1 j2 with rfl | rfl | rfl
      ·exact rt_tree z2 z1 (hlo ▸ hS) zk
      ·exact rt_tree z2 z1 (hlo ▸ hS) zk
      ·exact rt_tree z2 z1 (hlo ▸ hS) zk
  | 2, h =>
   obtain rfl := Option.some.inj h
   refine ⟨loc k jj, rfl, ?_, fun b cap e => ⟨(hk3 b cap e).2.1, fun q => q.2.2.2.2 cap e⟩⟩
   rcases lt5 h1 h2 with rfl | rfl | rfl
   ·exact rowρ hS hk1
   ·exact rowρ hS hk1
   ·exact rowρ hS hk1
  | n + 3, h => cases h
 ·refine rhoC_cases q1 (fun e1 e2 => ?_) (fun e1 e2 => ?_) (fun e1 e2 => ?_) <;> refine rhoC_cases q2 (fun f1 f2 => ?_) (fun f1 f2 => ?_) (fun f1 f2 => ?_)
  all_goals first
   | omega
   | (have := H.lob _ _ e2; omega)
   | (have := H.lob _ _ f2; omega)
   | (have := hk3 _ _ e2; omega)
   | (have := hk3 _ _ f2; omega)
   | exact absurd e2 ((hk3 _ _ f2).2.2 _)
   | exact absurd f2 ((hk3 _ _ e2).2.2 _)
end
theorem fin3 {w0 w1 w' : World} {okA : Nat → Prop} {bD : Nat} {lo : Vm.Loc} {vs : List V5} {loc : Nat → Nat → Vm.Loc} {v : Value} {l : List S_api_Sent} {d d' : S_recordlinkmake_Deck} {a : Act} {k jj m : Nat} {ρ : Ren} {r1 : List S_api_Sent} {n : Nat} (hn : n = r1.length) (hD : bD < w0.heap.size) (hA : ∀ b, okA b → b < w0.heap.size ∧ b ≠ bD) (H : ShJ w0 okA bD lo vs loc w1 v l d) (hk : k < l.length) (h1 : 2 ≤ jj) (h2 : jj < 5)
  (R : RepS (fxC w1 (okK w0.heap.size okA bD lo (loc k jj) w1) bD lo (loc k jj)).toCx ρ ⟨[(8, .c (.ref 1 5 0 n))], [(0, dkB d'), (1, .row 44 false 5 n (RS_api_Sent r1))], m⟩ a w') (u : Value) (hu : RC w' (fun _ => False) ρ (.ref 1 5 0 n) u) :
  ∃ v ρ', Ending.returned u = .returned v ∧ Ext (rho1 bD) ρ' ∧ Upd (fun b => ∃ id cap, rho1 bD id = some (.at b cap)) w0 w' ∧ RV w' (okOf ⟨w0, okA, rho1 bD⟩ w' ρ' (Vm.look [(0, dkB d')])) ρ' (vl 5 RS_api_Sent r1) v ∧
   (∀ id blk, Vm.look [(0, dkB d')] id = some blk → ∃ l, ρ' id = some l ∧ RB w' (okOf ⟨w0, okA, rho1 bD⟩ w' ρ' (Vm.look [(0, dkB d')])) ρ' blk l ∧ ∀ b cap, l = .at b cap → b < w'.heap.size ∧ (w0.heap.size ≤ b ∨ ∃ id cap, rho1 bD id = some (.at b cap))) ∧
   (∀ i j b c c' x y, Vm.look [(0, dkB d')] i = some x → Vm.look [(0, dkB d')] j = some y → (x.mut = true ∨ y.mut = true) → ρ' i = some (.at b c) → ρ' j = some (.at b c') → i = j) := by
 subst hn
 have hz := H.upd.size
 have rz := R.upd.size
 dsimp only at rz
 obtain ⟨hk1, hk2, hk3⟩ := H.hd k jj hk h1 h2
 have r0 : ρ 0 = some (.at bD 1) := R.ext0 0 _ rfl
 obtain ⟨l0, a0, b0, c0⟩ := R.heap 0 _ rfl
 obtain ⟨l1, a1, b1, c1⟩ := R.heap 1 _ rfl
 rw [r0] at a0
 obtain rfl := Option.some.inj a0
 have hX : ∀ b, (∃ id cap, rhoC bD lo (loc k jj) id = some (.at b cap)) → b = bD ∨ w0.heap.size ≤ b := fun b ⟨id, cap, h⟩ => rhoC_cases h (fun _ e => .inl e) (fun _ e => .inr (H.lob _ _ e).1) (fun _ e => .inr (hk3 _ _ e).1)
 have n1 : ∀ b c, l1 = .at b c → b < w'.heap.size ∧ w0.heap.size ≤ b := fun b c e => by
  obtain ⟨q1, q2⟩ := c1 b c e
  refine ⟨q1, ?_⟩
  rcases q2 with q2 | q2
  ·dsimp only at q2; omega
  ·rcases hX b q2 with q3 | q3
   ·have := R.inj 0 1 bD 1 c _ _ rfl rfl (.inl rfl) r0 (by rw [a1, e, q3])
    omega
   ·exact q3
 have kE : ∀ b, okOf ⟨w1, okK w0.heap.size okA bD lo (loc k jj) w1, rhoC bD lo (loc k jj)⟩ w' ρ (Vm.look [(0, dkB d'), (1, .row 44 false 5 r1.length (RS_api_Sent r1))]) b → okOf ⟨w0, okA, rho1 bD⟩ w' (rho1 bD) (Vm.look [(0, dkB d')]) b := by
  rintro b ⟨q1, q2, q3⟩
  have nD : b ≠ bD := fun e => q3 0 _ 1 rfl rfl (by rw [r0, e])
  refine ⟨q1, ?_, fun id blk cap _ _ e => nD (rho1_eq e).2⟩
  rcases q2 with q2 | q2 | q2
  ·exact .inl (by dsimp only at q2 ⊢; omega)
  ·rcases q2.2.1 with q4 | q4
   ·exact .inl q4
   ·exact .inr (.inl q4)
  ·rcases hX b q2 with q4 | q4
   ·exact absurd q4 nD
   ·exact .inl q4
 refine ⟨u, rho1 bD, rfl, Ext.rfl_ _, ?_, ?_, fun id blk hid => ?_, fun i j b c c' x y _ _ _ e1 e2 => ?_⟩
 ·refine Upd.trans (X := fun b => ∃ id cap, rho1 bD id = some (.at b cap)) ⟨H.upd.os, H.upd.tape, H.upd.output, H.upd.size, fun b hb hn => H.upd.block b hb fun e => hn ⟨0, 1, by rw [e]; rfl⟩⟩ R.upd fun b hb hx => ?_
  rcases hX b hx with e | e
  ·exact ⟨0, 1, by rw [e]; rfl⟩
  ·omega
 ·obtain ⟨l1', e1, hv⟩ := HV.of hu
  rw [a1] at e1
  obtain rfl := Option.some.inj e1
  exact rt_tree hv b1 kE fun b c e => ⟨(n1 b c e).1, .inl (n1 b c e).2, fun id blk cap _ _ e' => by have := (rho1_eq e').2; have := (n1 b c e).2; omega⟩
 ·match id, hid with
  | 0, h =>
   obtain rfl := Option.some.inj h
   exact ⟨_, rfl, boxρ kE b0, fun b cap e => by injection e with e1 e2; subst e1; exact ⟨by omega, .inr ⟨0, 1, rfl⟩⟩⟩
  | n + 1, h => cases h
 ·have := rho1_eq e1; have := rho1_eq e2; omega
def bentF (s : S_api_Sent) : S_api_Sent := ⟨⟨s.Record.ID, s.Record.Version, s.Record.Fields ++ [(⟨0, []⟩ : S_api_Bits)]⟩, s.Hashes, s.Has⟩
def bentH (s : S_api_Sent) : S_api_Sent := ⟨s.Record, s.Hashes ++ [5], s.Has⟩
noncomputable def rl_play_Bent23 (p0 : S_recordlinkmake_Deck) (p1 p2 p3 : Int) : Option ((List S_api_Sent) × S_recordlinkmake_Deck) := bind2 (rl_play_Sheet p0 p1 p2 p3) fun y1 y2 => bind2 (rl_make_Deck_Next y2 (y1.length : Int)) fun y5 y6 => bind2 (rl_make_Deck_Next y6 9) fun y12 y13 =>
 if 0 ≤ y5 ∧ y5 < (y1.length : Int) then (if y12 = 2 then (if (y1.getD (0 + y5.toNat) dS_api_Sent).Record.Fields.length + 1 ≤ 1099511627776 then some (y1.set (0 + y5.toNat) (bentF (y1.getD (0 + y5.toNat) dS_api_Sent)), y13) else none)
  else (if y12 = 3 then (if (y1.getD (0 + y5.toNat) dS_api_Sent).Hashes.length + 1 ≤ 1099511627776 then some (y1.set (0 + y5.toNat) (bentH (y1.getD (0 + y5.toNat) dS_api_Sent)), y13) else none) else none)) else none
theorem rowK_upd {l : List S_api_Sent} {k jj : Nat} {y : Value} {s : S_api_Sent} {t : T} (hk : k < l.length) (hj : ∀ j, j < 5 → j ≠ jj → (ES_api_Sent s).getD j (.v undef) = (ES_api_Sent (l.getD k dS_api_Sent)).getD j (.v undef)) (ht : (ES_api_Sent s).getD jj (.v undef) = t) :
  k < l.length ∧ (l.length = l.length ∧ ∀ i, i < l.length → ∀ j, j < 5 → TLe (updRow (rowK l k jj y) k jj [t] i j) (RS_api_Sent (l.set k s) i j)) := by
 refine ⟨hk, rfl, fun i hi j hj5 => ?_⟩
 simp only [updRow, rowK, RS_api_Sent, rowL]
 by_cases e : i = k
 ·subst e
  have g : (l.set i s).getD i dS_api_Sent = s := by simp [List.getD_eq_getElem?_getD, hk]
  rw [g]
  by_cases e2 : j = jj
  ·subst e2
   rw [if_pos ⟨rfl, Nat.le_refl _, by simp⟩, Nat.sub_self, ht]
   exact TLe.refl _
  ·rw [if_neg (fun q => e2 (by have := q.2; simp at this; omega)), if_neg (fun q => e2 q.2), hj j hj5 e2]
   exact TLe.refl _
 ·have g : (l.set k s).getD i dS_api_Sent = l.getD i dS_api_Sent := by simp [List.getD_eq_getElem?_getD, Ne.symm e]
  rw [if_neg (fun q => e q.1), if_neg (fun q => e q.1), g]
  exact TLe.refl _
theorem sh_base {w0 wb w : World} {okA okB : Nat → Prop} {bD : Nat} {lo : Vm.Loc} {vs : List V5} {loc : Nat → Nat → Vm.Loc} {v : Value} {l : List S_api_Sent} {d : S_recordlinkmake_Deck} (U : Upd (fun b => b = bD) w0 wb) (hB : ∀ b, okB b → w0.heap.size ≤ b ∨ okA b) (H : ShJ wb okB bD lo vs loc w v l d) : ShJ w0 okA bD lo vs loc w v l d := by
 have uz := U.size
 have hk : ∀ b, okS wb.heap.size okB bD lo loc l.length w b → okS w0.heap.size okA bD lo loc l.length w b := fun b ⟨q1, q2, q3⟩ => ⟨q1, q2.elim (fun q => .inl (by omega)) (hB b), q3⟩
 refine ⟨U.trans H.upd fun _ _ h => h, boxρ hk H.deck, H.len, H.row, H.hv, fun b c e => ⟨by have := (H.lob b c e).1; omega, (H.lob b c e).2⟩, H.num, fun i j hi h1 h2 => ?_, H.inj⟩
 obtain ⟨q1, q2, q3⟩ := H.hd i j hi h1 h2
 refine ⟨?_, q2, fun b c e => ⟨by have := (q3 b c e).1; omega, (q3 b c e).2⟩⟩
 rcases lt5 h1 h2 with rfl | rfl | rfl
 ·exact rowρ hk q1
 ·exact rowρ hk q1
 ·exact rowρ hk q1
@[reducible] noncomputable def fxA (w : World) (ok : Nat → Prop) (bD : Nat) : Fx := ⟨⟨Try.prog, ⟨w, ok, rho1 bD⟩, fun b => ∃ id cap, rho1 bD id = some (.at b cap), 109⟩, 1, fun id h => by
 simp only [rho1] at h
 split at h
 ·omega
 ·exact absurd rfl h⟩
set_option maxRecDepth 100000 in
theorem bent_case2 (p0 : S_recordlinkmake_Deck) (p1 p2 p3 : Int) (y1 : List S_api_Sent) (y2 y6 y13 : S_recordlinkmake_Deck) (y5 y12 : Int) (k : Nat) (ek : 0 + y5.toNat = k) (h1 : rl_play_Sheet p0 p1 p2 p3 = some (y1, y2)) (h2 : rl_make_Deck_Next y2 (y1.length : Int) = some (y5, y6)) (h3 : rl_make_Deck_Next y6 9 = some (y12, y13)) (g1 : 0 ≤ y5) (g2 : y5 < (y1.length : Int)) (g3 : y12 = 2)
  (g4 : (y1.getD k dS_api_Sent).Record.Fields.length + 1 ≤ 1099511627776) (w0 : World) (okA : Nat → Prop) (bD : Nat) (hD : bD < w0.heap.size) (hA : ∀ b, okA b → b < w0.heap.size ∧ b ≠ bD) (hdk : RB w0 okA (fun _ => none) (dkB p0) (.at bD 1)) :
  Calls Try.prog 22 #[.pointer (some ⟨bD, 0, none⟩), .int .i64 p1, .int .i64 p2, .int .i64 p3] w0 fun e w' => ∃ v ρ', e = .returned v ∧ Ext (rho1 bD) ρ' ∧ Upd (fun b => ∃ id cap, rho1 bD id = some (.at b cap)) w0 w' ∧ RV w' (okOf ⟨w0, okA, rho1 bD⟩ w' ρ' (Vm.look [(0, dkB y13)])) ρ' (vl 5 RS_api_Sent (y1.set k (bentF (y1.getD k dS_api_Sent)))) v ∧
   (∀ id blk, Vm.look [(0, dkB y13)] id = some blk → ∃ l, ρ' id = some l ∧ RB w' (okOf ⟨w0, okA, rho1 bD⟩ w' ρ' (Vm.look [(0, dkB y13)])) ρ' blk l ∧ ∀ b cap, l = .at b cap → b < w'.heap.size ∧ (w0.heap.size ≤ b ∨ ∃ id cap, rho1 bD id = some (.at b cap))) ∧
   (∀ i j b c c' x y, Vm.look [(0, dkB y13)] i = some x → Vm.look [(0, dkB y13)] j = some y → (x.mut = true ∨ y.mut = true) → ρ' i = some (.at b c) → ρ' j = some (.at b c') → i = j) := by
 have hk : k < y1.length := by omega
 subst ek
 refine calls_of_wp Try.func22 rfl ?_
 have R0 : RepS (fxA w0 okA bD).toCx (rho1 bD) ⟨[(0, .c (.ptr 0 3 0 0)), (1, vi64 p1), (2, vi64 p2), (3, vi64 p3)], [(0, dkB p0)], 1⟩ { tmps := #[.pointer (some ⟨bD, 0, none⟩), .int .i64 p1, .int .i64 p2, .int .i64 p3] ++ Array.replicate (Try.f22.ntmps - 4) undef, defers := [] } w0 := by
  have hsz : Try.f22.ntmps = 109 := by kernel_rfl
  refine rep1 (by decide) hD hA hdk (fun t av ht => ?_) (by rw [hsz]; simp) rfl
  match t, ht with
  | 0, ht => obtain rfl := Option.some.inj ht; exact ⟨bD, 1, rfl, getD_app rfl⟩
  | 1, ht => obtain rfl := Option.some.inj ht; exact ⟨getD_app rfl, rfl⟩
  | 2, ht => obtain rfl := Option.some.inj ht; exact ⟨getD_app rfl, rfl⟩
  | 3, ht => obtain rfl := Option.some.inj ht; exact ⟨getD_app rfl, rfl⟩
  | n + 4, ht => cases ht
 refine wp_seq (awrun (c := fxA w0 okA bD) (x := .normal) (Sx := ⟨[(0, .c (.ptr 0 3 0 0)), (1, vi64 p1), (2, vi64 p2), (3, vi64 p3)], [(0, dkB p0)], 1⟩) (AW.rg tt_ok1 [] [] [] 2 [] (by kernel_rfl) ⟨rfl, conv_re [(0, 0)] (by kernel_rfl)⟩) R0 fun ρa aa wa Ra => ?_)
 refine wp_seq (region_cut (c := fxA w0 okA bD) (Sx := ⟨[(0, .c (.ptr 0 3 0 0)), (11, .c (.ptr 0 3 0 0)), (12, vi64 p1), (13, vi64 p2), (14, vi64 p3)], [(0, dkB p0)], 1⟩) tt_ok1 4 2 [(0, 0)] [] (by kernel_rfl) Ra fun ρb ab wb Rb => ?_)
 show wpOps _ _ _ [4, 5] _ _
 rw [wpOps_cons]
 refine wpOp_of_yields (o := { dst := some 15, op := .call { callee := .value (.func 51), args := #[.tmp 11, .tmp 12, .tmp 13, .tmp 14], argTypes := #[25, 3, 3, 3] }, type := 37, pos := "play.go:235", after := #[{ on := 0, ground := .data }, { on := 1, ground := .data }, { on := 2, ground := .data }, { on := 3, ground := .data }], guard := none }) (by kernel_rfl) (fun v w1 => ∃ lo vs loc, ShJ w0 okA bD lo vs loc w1 v y1 y2) (fun v w1 hv => ?_) ?_
 case refine_2 =>
  rw [if_pos (by rfl)]
  obtain ⟨⟨fs⟩, ⟨cs⟩, hfs, hcs, er⟩ := callee_run (o := { dst := some 15, op := .call { callee := .value (.func 51), args := #[.tmp 11, .tmp 12, .tmp 13, .tmp 14], argTypes := #[25, 3, 3, 3] }, type := 37, pos := "play.go:235", after := #[{ on := 0, ground := .data }, { on := 1, ground := .data }, { on := 2, ground := .data }, { on := 3, ground := .data }], guard := none }) (c := (fxA w0 okA bD).toCx) (f := 51) (s1 := []) (s2 := []) Rb (cl := { callee := .value (.func 51), args := #[.tmp 11, .tmp 12, .tmp 13, .tmp 14], argTypes := #[25, 3, 3, 3] }) rfl rfl (rl_play_Sheet_con p0 p1 p2 p3 (y1, y2) h1).1
  rw [er]
  obtain rfl : fs = [] := by cases fs with | nil => rfl | cons _ _ => exact hfs.elim
  obtain rfl : cs = [] := by cases cs with | nil => rfl | cons _ _ => exact hcs.elim
  have r0 : ρb 0 = some (.at bD 1) := Rb.ext0 0 _ rfl
  have bz := Rb.upd.size
  dsimp only at bz
  have e11 : ab.eval (.tmp 11) = .pointer (some ⟨bD, 0, none⟩) := by
   obtain ⟨b, cap, q1, q2⟩ := ev_ok Rb (x := .tmp 11) rfl
   rw [r0] at q1
   injection q1 with q1
   injection q1 with q1
   subst q1
   exact q2
  have e12 : ab.eval (.tmp 12) = .int .i64 p1 := ev_v Rb rfl
  have e13 : ab.eval (.tmp 13) = .int .i64 p2 := ev_v Rb rfl
  have e14 : ab.eval (.tmp 14) = .int .i64 p3 := ev_v Rb rfl
  obtain ⟨l0, a0, b0, c0⟩ := Rb.heap 0 _ rfl
  rw [r0] at a0
  obtain rfl := Option.some.inj a0
  have hO : ∀ b, okOf ⟨w0, okA, rho1 bD⟩ wb ρb (Vm.look [(0, dkB p0)]) b → (w0.heap.size ≤ b ∨ okA b) ∧ b < wb.heap.size ∧ b ≠ bD := by
   rintro b ⟨q1, q2, q3⟩
   have nD : b ≠ bD := fun e => q3 0 _ 1 rfl rfl (by rw [r0, e])
   refine ⟨?_, q1, nD⟩
   rcases q2 with q2 | q2 | ⟨id, cap, q2⟩
   ·exact .inl q2
   ·exact .inr q2
   ·exact absurd (rho1_eq q2).2 nD
  have ea : (#[] ++ #[Operand.tmp 11, .tmp 12, .tmp 13, .tmp 14].map ab.eval ++ #[] : Array Value) = #[.pointer (some ⟨bD, 0, none⟩), .int .i64 p1, .int .i64 p2, .int .i64 p3] := by
   simp only [List.map_toArray, List.map_cons, List.map_nil, e11, e12, e13, e14, Array.append_empty, Array.empty_append]
  show Calls _ _ _ _ _
  rw [ea]
  refine Calls.mono (sheet_shape p0 p1 p2 p3 (y1, y2) h1 wb (okOf ⟨w0, okA, rho1 bD⟩ wb ρb (Vm.look [(0, dkB p0)])) bD (by omega) (fun b hb => (hO b hb).2) (boxρ (fun _ h => h) b0)) ?_
  rintro e w' ⟨v, lo, vs, loc, rfl, Hs⟩
  refine ⟨v, rfl, lo, vs, loc, sh_base ⟨Rb.upd.os, Rb.upd.tape, Rb.upd.output, bz, fun b hb hn => Rb.upd.block b hb fun ⟨id, cap, q⟩ => hn (rho1_eq q).2⟩ (fun b hb => (hO b hb).1) Hs⟩
 obtain ⟨lo, vs, loc, Hs⟩ := hv
 have r0 : ρb 0 = some (.at bD 1) := Rb.ext0 0 _ rfl
 have hz1 := Hs.upd.size
 have t0 : (ab.put (some 15) v).tmps.getD 0 undef = .pointer (some ⟨bD, 0, none⟩) := by
  rw [put_ne v (by decide)]
  obtain ⟨b, cap, q1, q2⟩ := Rb.tmp 0 _ rfl
  rw [r0] at q1
  injection q1 with q1
  injection q1 with q1
  subst q1
  exact q2
 have Rc : RepS (fxA w1 (okS w0.heap.size okA bD lo loc y1.length w1) bD).toCx (rho1 bD) ⟨[(0, .c (.ptr 0 3 0 0)), (15, .c (.t (.v v)))], [(0, dkB y2)], 1⟩ (ab.put (some 15) v) w1 := by
  refine rep1 (by decide) (by omega) okS_lt Hs.deck (fun t av ht => ?_) (by rw [put_size']; exact Rb.size) (by rw [put_def']; exact Rb.defers)
  rw [look_cons] at ht
  split at ht
  ·rename_i e; subst e; obtain rfl := Option.some.inj ht; exact ⟨bD, 1, rfl, t0⟩
  ·rw [look_cons] at ht
   split at ht
   ·rename_i e; subst e; obtain rfl := Option.some.inj ht; exact ⟨put_eq v (by rw [Rb.size]; exact (by decide : 15 < 109)), Hs.hv.one⟩
   ·cases ht
 have hk2 : 0 + y5.toNat < y1.length := hk
 refine region_rest (c := fxA w1 (okS w0.heap.size okA bD lo loc y1.length w1) bD) (Sx := ⟨[(0, .c (.ptr 0 3 0 0)), (9, .c (.t (.v v)))], [(0, dkB y2)], 1⟩) tt_ok1 5 1 [(0, 0)] [] (by kernel_rfl) Rc fun ρd ad wd Rd => ?_
 replace Hs := sh_keep (by omega) (fun b h => h) Hs Rd
 have t0 : ad.tmps.getD 0 undef = .pointer (some ⟨bD, 0, none⟩) := by
  have r0 : ρd 0 = some (.at bD 1) := Rd.ext0 0 _ rfl
  obtain ⟨b, cap, q1, q2⟩ := Rd.tmp 0 _ rfl
  rw [r0] at q1
  injection q1 with q1
  injection q1 with q1
  subst q1
  exact q2
 have t9 : ad.tmps.getD 9 undef = v := (Rd.tmp 9 _ rfl).1
 have hsz := Rd.size
 have hdf := Rd.defers
 clear Rd Rc Rb Ra R0 hdk
 have hv2 := Hs.hv
 rw [Hs.len] at hv2
 have R2 := rep3 (a := ad) (tm := [(0, .c (.ptr 0 3 0 0)), (9, .c (.ref 1 5 0 y1.length))]) (k := 0 + y5.toNat) (jj := 2) hD hA Hs hk2 (by decide) (by decide) (fun t av ht => by
  rw [look_cons] at ht
  split at ht
  ·rename_i e; subst e; obtain rfl := Option.some.inj ht; exact ⟨bD, 1, rfl, t0⟩
  ·rw [look_cons] at ht
   split at ht
   ·rename_i e; subst e; obtain rfl := Option.some.inj ht; rw [t9]; exact HV.rc (w := wd) (ok := fun _ => False) hv2 rfl
   ·cases ht) hsz hdf
 subst g3
 refine wp_seq (awrun (c := fxC wd (okK w0.heap.size okA bD lo (loc (0 + y5.toNat) 2) wd) bD lo (loc (0 + y5.toNat) 2)) (x := .normal) (Sx := ⟨[(0, .c (.ptr 0 3 0 0)), (9, .c (.ref 1 5 0 y1.length))], [(0, dkB y2), (1, .row 44 false 5 y1.length (rowK y1 (0 + y5.toNat) 2 (v5 (vs.getD (0 + y5.toNat) dV5) 2))), (2, .row 84 false 2 (y1.getD (0 + y5.toNat) dS_api_Sent).Record.Fields.length (RS_api_Bits (y1.getD (0 + y5.toNat) dS_api_Sent).Record.Fields))], 3⟩) ?_ R2 fun ρ3 a3 w3 R3 => ?_)
 ·refine AW.sg tt_ok1 [(18, vb ((y1.length : Int) == 0))] [] [] 6 [] (by kernel_rfl) ?_
  refine AW.cond (b := ((y1.length : Int) == 0)) (by kernel_rfl) (fun e => ?_) fun _ => AW.skip ⟨rfl, conv_re [(0, 0), (1, 1), (2, 2)] (by kernel_rfl)⟩
  rw [beq_iff_eq] at e
  omega
 refine wp_seq (awrun (c := fxC wd (okK w0.heap.size okA bD lo (loc (0 + y5.toNat) 2) wd) bD lo (loc (0 + y5.toNat) 2)) (x := .normal) (Sx := ⟨[(0, .c (.ptr 0 3 0 0)), (9, .c (.ref 1 5 0 y1.length)), (10, vi64 y5)], [(0, dkB y6), (1, .row 44 false 5 y1.length (rowK y1 (0 + y5.toNat) 2 (v5 (vs.getD (0 + y5.toNat) dV5) 2))), (2, .row 84 false 2 (y1.getD (0 + y5.toNat) dS_api_Sent).Record.Fields.length (RS_api_Bits (y1.getD (0 + y5.toNat) dS_api_Sent).Record.Fields))], 3⟩) (AW.rg tt_ok1 [(10, vi64 y5)] [0] [(0, .box 86 [cl 1 Ri64 y6.list, ci64 y6.at_, cu64 y6.state])] 7 [hn, hn, hn, hl [0] [] 0 (rl_make_Deck_Next_con y2 (y1.length : Int) (y5, y6) h2)] (by kernel_rfl) ⟨rfl, conv_re [(0, 0), (1, 1), (2, 2)] (by kernel_rfl)⟩) R3 fun ρ4 a4 w4 R4 => ?_)
 refine wp_seq (wp_seq (awrun (c := fxC wd (okK w0.heap.size okA bD lo (loc (0 + y5.toNat) 2) wd) bD lo (loc (0 + y5.toNat) 2)) (x := .normal) (Sx := ⟨[(0, .c (.ptr 0 3 0 0)), (9, .c (.ref 1 5 0 y1.length)), (10, vi64 y5), (25, vi64 2)], [(0, dkB y13), (1, .row 44 false 5 y1.length (rowK y1 (0 + y5.toNat) 2 (v5 (vs.getD (0 + y5.toNat) dV5) 2))), (2, .row 84 false 2 (y1.getD (0 + y5.toNat) dS_api_Sent).Record.Fields.length (RS_api_Bits (y1.getD (0 + y5.toNat) dS_api_Sent).Record.Fields))], 3⟩) (AW.rg tt_ok1 [(25, vi64 2)] [0] [(0, .box 86 [cl 1 Ri64 y13.list, ci64 y13.at_, cu64 y13.state])] 4 [hn, hl [0] [] 0 (rl_make_Deck_Next_con y6 9 (2, y13) h3)] (by kernel_rfl) ⟨rfl, conv_re [(0, 0), (1, 1), (2, 2)] (by kernel_rfl)⟩) R4 fun ρ5 a5 w5 R5 => wp_block ?_))
 refine wp_seq (awrun (c := fxC wd (okK w0.heap.size okA bD lo (loc (0 + y5.toNat) 2) wd) bD lo (loc (0 + y5.toNat) 2)) (x := .normal) (Sx := ⟨[(0, .c (.ptr 0 3 0 0)), (9, .c (.ref 1 5 0 y1.length)), (10, vi64 y5), (25, vi64 2), (26, vb ((2 : Int) == 0))], [(0, dkB y13), (1, .row 44 false 5 y1.length (rowK y1 (0 + y5.toNat) 2 (v5 (vs.getD (0 + y5.toNat) dV5) 2))), (2, .row 84 false 2 (y1.getD (0 + y5.toNat) dS_api_Sent).Record.Fields.length (RS_api_Bits (y1.getD (0 + y5.toNat) dS_api_Sent).Record.Fields))], 3⟩) (AW.rg tt_ok1 [(26, vb ((2 : Int) == 0))] [] [] 5 [] (by kernel_rfl) ⟨rfl, conv_re [(0, 0), (1, 1), (2, 2)] (by kernel_rfl)⟩) R5 fun ρ6 a6 w6 R6 => wp_cond_false (ev_v R6 (x := .tmp 26) (by kernel_rfl)) ?_)
 refine wp_seq (awrun (c := fxC wd (okK w0.heap.size okA bD lo (loc (0 + y5.toNat) 2) wd) bD lo (loc (0 + y5.toNat) 2)) (x := .normal) (Sx := ⟨[(0, .c (.ptr 0 3 0 0)), (9, .c (.ref 1 5 0 y1.length)), (10, vi64 y5), (25, vi64 2), (38, vb ((2 : Int) == 1))], [(0, dkB y13), (1, .row 44 false 5 y1.length (rowK y1 (0 + y5.toNat) 2 (v5 (vs.getD (0 + y5.toNat) dV5) 2))), (2, .row 84 false 2 (y1.getD (0 + y5.toNat) dS_api_Sent).Record.Fields.length (RS_api_Bits (y1.getD (0 + y5.toNat) dS_api_Sent).Record.Fields))], 3⟩) (AW.rg tt_ok1 [(38, vb ((2 : Int) == 1))] [] [] 5 [] (by kernel_rfl) ⟨rfl, conv_re [(0, 0), (1, 1), (2, 2)] (by kernel_rfl)⟩) R6 fun ρ6 a6 w6 R6 => wp_cond_false (ev_v R6 (x := .tmp 38) (by kernel_rfl)) ?_)
 refine wp_seq (awrun (c := fxC wd (okK w0.heap.size okA bD lo (loc (0 + y5.toNat) 2) wd) bD lo (loc (0 + y5.toNat) 2)) (x := .normal) (Sx := ⟨[(0, .c (.ptr 0 3 0 0)), (9, .c (.ref 1 5 0 y1.length)), (10, vi64 y5), (25, vi64 2), (50, vb ((2 : Int) == 2))], [(0, dkB y13), (1, .row 44 false 5 y1.length (rowK y1 (0 + y5.toNat) 2 (v5 (vs.getD (0 + y5.toNat) dV5) 2))), (2, .row 84 false 2 (y1.getD (0 + y5.toNat) dS_api_Sent).Record.Fields.length (RS_api_Bits (y1.getD (0 + y5.toNat) dS_api_Sent).Record.Fields))], 3⟩) (AW.rg tt_ok1 [(50, vb ((2 : Int) == 2))] [] [] 5 [] (by kernel_rfl) ⟨rfl, conv_re [(0, 0), (1, 1), (2, 2)] (by kernel_rfl)⟩) R6 fun ρ6 a6 w6 R6 => wp_cond_true (ev_v R6 (x := .tmp 50) (by kernel_rfl)) ?_)
 refine region_cut (c := fxC wd (okK w0.heap.size okA bD lo (loc (0 + y5.toNat) 2) wd) bD lo (loc (0 + y5.toNat) 2)) (Sx := ⟨[(59, .c (.t (rowK y1 (0 + y5.toNat) 2 (v5 (vs.getD (0 + y5.toNat) dV5) 2) (0 + y5.toNat) 2))), (0, .c (.ptr 0 3 0 0)), (9, .c (.ref 1 5 0 y1.length)), (52, .c (.ref 1 5 0 y1.length)), (53, vi64 y5)], [(0, dkB y13), (1, .row 44 false 5 y1.length (rowK y1 (0 + y5.toNat) 2 (v5 (vs.getD (0 + y5.toNat) dV5) 2))), (2, .row 84 false 2 (y1.getD (0 + y5.toNat) dS_api_Sent).Record.Fields.length (RS_api_Bits (y1.getD (0 + y5.toNat) dS_api_Sent).Record.Fields))], 3⟩) tt_ok1 8 7 [(0, 0), (1, 1), (2, 2)] [hn, hn, hn, hn, hq g1 g2, hn, hn, ho (p := (0 + y5.toNat) < y1.length) hk2] (by kernel_rfl) R6 fun ρ7 a7 w7 R7 => ?_
 have R8 : RepS (fxC wd (okK w0.heap.size okA bD lo (loc (0 + y5.toNat) 2) wd) bD lo (loc (0 + y5.toNat) 2)).toCx ρ7 ⟨(59, .c (.ref 2 2 0 (y1.getD (0 + y5.toNat) dS_api_Sent).Record.Fields.length)) :: [(0, .c (.ptr 0 3 0 0)), (9, .c (.ref 1 5 0 y1.length)), (52, .c (.ref 1 5 0 y1.length)), (53, vi64 y5)], [(0, dkB y13), (1, .row 44 false 5 y1.length (rowK y1 (0 + y5.toNat) 2 (v5 (vs.getD (0 + y5.toNat) dV5) 2))), (2, .row 84 false 2 (y1.getD (0 + y5.toNat) dS_api_Sent).Record.Fields.length (RS_api_Bits (y1.getD (0 + y5.toNat) dS_api_Sent).Record.Fields))], 3⟩ a7 w7 := by
  refine ⟨fun t av ht => ?_, R7.heap, R7.hX, R7.inj, R7.used, R7.upd, R7.ext0, R7.size, R7.defers⟩
  rw [look_cons] at ht
  split at ht
  ·rename_i e
   subst e
   obtain rfl := Option.some.inj ht
   have ht := R7.tmp 59 _ rfl
   have hx : RT w7 (okOf (fxC wd (okK w0.heap.size okA bD lo (loc (0 + y5.toNat) 2) wd) bD lo (loc (0 + y5.toNat) 2)).base w7 ρ7 (Vm.look [(0, dkB y13), (1, .row 44 false 5 y1.length (rowK y1 (0 + y5.toNat) 2 (v5 (vs.getD (0 + y5.toNat) dV5) 2))), (2, .row 84 false 2 (y1.getD (0 + y5.toNat) dS_api_Sent).Record.Fields.length (RS_api_Bits (y1.getD (0 + y5.toNat) dS_api_Sent).Record.Fields))])) (rowK y1 (0 + y5.toNat) 2 (v5 (vs.getD (0 + y5.toNat) dV5) 2) (0 + y5.toNat) 2) (a7.tmps.getD 59 undef) := ht
   unfold rowK at hx
   rw [if_pos ⟨rfl, rfl⟩] at hx
   rw [hx.1]
   exact HV.rc (w := w7) (ok := fun _ => False) (Hs.hd (0 + y5.toNat) 2 hk2 (by decide) (by decide)).2.1 (R7.ext0 2 _ rfl)
  ·rename_i e
   exact R7.tmp t av (by rw [look_cons, if_neg e]; exact ht)
 refine region_rest (c := fxC wd (okK w0.heap.size okA bD lo (loc (0 + y5.toNat) 2) wd) bD lo (loc (0 + y5.toNat) 2)) (Sx := ⟨[(0, .c (.ptr 0 3 0 0)), (9, .c (.ref 1 5 0 y1.length))], [(0, dkB y13), (1, .row 44 false 5 y1.length (RS_api_Sent (y1.set (0 + y5.toNat) (bentF (y1.getD (0 + y5.toNat) dS_api_Sent)))))], 3⟩) tt_ok1 8 7 [(0, 0), (1, 1)] [hn, hr (([(⟨0, ([] : List Int)⟩ : S_api_Bits)] : List S_api_Bits).length) (RS_api_Bits ([(⟨0, ([] : List Int)⟩ : S_api_Bits)] : List S_api_Bits)) (p := 1 = ([(⟨0, ([] : List Int)⟩ : S_api_Bits)] : List S_api_Bits).length ∧ ∀ i, i < ([(⟨0, ([] : List Int)⟩ : S_api_Bits)] : List S_api_Bits).length → ∀ j, j < 2 → TLe ((rowOf [.v (.int .i64 0), .v (.slice none 0 0)] 2) i j) (RS_api_Bits ([(⟨0, ([] : List Int)⟩ : S_api_Bits)] : List S_api_Bits) i j)) (⟨rfl, lit_row (n := 1) (sz := 2) ⟨tv, ⟨⟨tv, TLe.refl _⟩, TLe.nil rfl⟩⟩⟩), hz (happ dS_api_Bits ES_api_Bits 2 32 (y1.getD (0 + y5.toNat) dS_api_Sent).Record.Fields [(⟨0, []⟩ : S_api_Bits)] g4 (by decide)) (((y1.getD (0 + y5.toNat) dS_api_Sent).Record.Fields ++ [(⟨0, []⟩ : S_api_Bits)]).length), hq g1 g2, hn, hn, hr y1.length (RS_api_Sent (y1.set (0 + y5.toNat) (bentF (y1.getD (0 + y5.toNat) dS_api_Sent)))) (rowK_upd (y := v5 (vs.getD (0 + y5.toNat) dV5) 2) (s := bentF (y1.getD (0 + y5.toNat) dS_api_Sent)) (t := .tree ((y1.getD (0 + y5.toNat) dS_api_Sent).Record.Fields ++ [(⟨0, []⟩ : S_api_Bits)]).length 2 (RS_api_Bits ((y1.getD (0 + y5.toNat) dS_api_Sent).Record.Fields ++ [(⟨0, []⟩ : S_api_Bits)]))) hk2 (fun j hj hn => match j, hj, hn with | 0, _, _ => rfl | 1, _, _ => rfl | 2, _, h => absurd rfl h | 3, _, h => rfl | 4, _, _ => rfl | _ + 5, h, _ => absurd h (by omega)) rfl)] (by kernel_rfl) R8 fun ρ9 a9 w9 R9 => ?_
 refine wp_seq (awrun (c := fxC wd (okK w0.heap.size okA bD lo (loc (0 + y5.toNat) 2) wd) bD lo (loc (0 + y5.toNat) 2)) (x := .normal) (Sx := ⟨[(8, .c (.ref 1 5 0 y1.length))], [(0, dkB y13), (1, .row 44 false 5 y1.length (RS_api_Sent (y1.set (0 + y5.toNat) (bentF (y1.getD (0 + y5.toNat) dS_api_Sent)))))], 3⟩) (AW.rg tt_ok1 [(8, .c (.ref 1 5 0 y1.length))] [] [] 5 [] (by kernel_rfl) ⟨rfl, conv_re [(0, 0), (1, 1)] (by kernel_rfl)⟩) R9 fun ρe ae we Re => ?_)
 refine wp_ret ?_
 obtain ⟨u, e1, e2⟩ := aRes_run (fn := Try.f22) (out := .c (.ref 1 5 0 y1.length)) (ps := [True]) tt_ok1 Re (by kernel_rfl) ⟨tv, tv⟩
 exact ⟨Re.defers, u, e1, fin3 (by simp) hD hA Hs hk2 (by decide) (by decide) Re u e2⟩
set_option maxRecDepth 100000 in
theorem bent_case3 (p0 : S_recordlinkmake_Deck) (p1 p2 p3 : Int) (y1 : List S_api_Sent) (y2 y6 y13 : S_recordlinkmake_Deck) (y5 y12 : Int) (k : Nat) (ek : 0 + y5.toNat = k) (h1 : rl_play_Sheet p0 p1 p2 p3 = some (y1, y2)) (h2 : rl_make_Deck_Next y2 (y1.length : Int) = some (y5, y6)) (h3 : rl_make_Deck_Next y6 9 = some (y12, y13)) (g1 : 0 ≤ y5) (g2 : y5 < (y1.length : Int)) (g3 : y12 = 3)
  (g4 : (y1.getD k dS_api_Sent).Hashes.length + 1 ≤ 1099511627776) (w0 : World) (okA : Nat → Prop) (bD : Nat) (hD : bD < w0.heap.size) (hA : ∀ b, okA b → b < w0.heap.size ∧ b ≠ bD) (hdk : RB w0 okA (fun _ => none) (dkB p0) (.at bD 1)) :
  Calls Try.prog 22 #[.pointer (some ⟨bD, 0, none⟩), .int .i64 p1, .int .i64 p2, .int .i64 p3] w0 fun e w' => ∃ v ρ', e = .returned v ∧ Ext (rho1 bD) ρ' ∧ Upd (fun b => ∃ id cap, rho1 bD id = some (.at b cap)) w0 w' ∧ RV w' (okOf ⟨w0, okA, rho1 bD⟩ w' ρ' (Vm.look [(0, dkB y13)])) ρ' (vl 5 RS_api_Sent (y1.set k (bentH (y1.getD k dS_api_Sent)))) v ∧
   (∀ id blk, Vm.look [(0, dkB y13)] id = some blk → ∃ l, ρ' id = some l ∧ RB w' (okOf ⟨w0, okA, rho1 bD⟩ w' ρ' (Vm.look [(0, dkB y13)])) ρ' blk l ∧ ∀ b cap, l = .at b cap → b < w'.heap.size ∧ (w0.heap.size ≤ b ∨ ∃ id cap, rho1 bD id = some (.at b cap))) ∧
   (∀ i j b c c' x y, Vm.look [(0, dkB y13)] i = some x → Vm.look [(0, dkB y13)] j = some y → (x.mut = true ∨ y.mut = true) → ρ' i = some (.at b c) → ρ' j = some (.at b c') → i = j) := by
 have hk : k < y1.length := by omega
 subst ek
 refine calls_of_wp Try.func22 rfl ?_
 have R0 : RepS (fxA w0 okA bD).toCx (rho1 bD) ⟨[(0, .c (.ptr 0 3 0 0)), (1, vi64 p1), (2, vi64 p2), (3, vi64 p3)], [(0, dkB p0)], 1⟩ { tmps := #[.pointer (some ⟨bD, 0, none⟩), .int .i64 p1, .int .i64 p2, .int .i64 p3] ++ Array.replicate (Try.f22.ntmps - 4) undef, defers := [] } w0 := by
  have hsz : Try.f22.ntmps = 109 := by kernel_rfl
  refine rep1 (by decide) hD hA hdk (fun t av ht => ?_) (by rw [hsz]; simp) rfl
  match t, ht with
  | 0, ht => obtain rfl := Option.some.inj ht; exact ⟨bD, 1, rfl, getD_app rfl⟩
  | 1, ht => obtain rfl := Option.some.inj ht; exact ⟨getD_app rfl, rfl⟩
  | 2, ht => obtain rfl := Option.some.inj ht; exact ⟨getD_app rfl, rfl⟩
  | 3, ht => obtain rfl := Option.some.inj ht; exact ⟨getD_app rfl, rfl⟩
  | n + 4, ht => cases ht
 refine wp_seq (awrun (c := fxA w0 okA bD) (x := .normal) (Sx := ⟨[(0, .c (.ptr 0 3 0 0)), (1, vi64 p1), (2, vi64 p2), (3, vi64 p3)], [(0, dkB p0)], 1⟩) (AW.rg tt_ok1 [] [] [] 2 [] (by kernel_rfl) ⟨rfl, conv_re [(0, 0)] (by kernel_rfl)⟩) R0 fun ρa aa wa Ra => ?_)
 refine wp_seq (region_cut (c := fxA w0 okA bD) (Sx := ⟨[(0, .c (.ptr 0 3 0 0)), (11, .c (.ptr 0 3 0 0)), (12, vi64 p1), (13, vi64 p2), (14, vi64 p3)], [(0, dkB p0)], 1⟩) tt_ok1 4 2 [(0, 0)] [] (by kernel_rfl) Ra fun ρb ab wb Rb => ?_)
 show wpOps _ _ _ [4, 5] _ _
 rw [wpOps_cons]
 refine wpOp_of_yields (o := { dst := some 15, op := .call { callee := .value (.func 51), args := #[.tmp 11, .tmp 12, .tmp 13, .tmp 14], argTypes := #[25, 3, 3, 3] }, type := 37, pos := "play.go:235", after := #[{ on := 0, ground := .data }, { on := 1, ground := .data }, { on := 2, ground := .data }, { on := 3, ground := .data }], guard := none }) (by kernel_rfl) (fun v w1 => ∃ lo vs loc, ShJ w0 okA bD lo vs loc w1 v y1 y2) (fun v w1 hv => ?_) ?_
 case refine_2 =>
  rw [if_pos (by rfl)]
  obtain ⟨⟨fs⟩, ⟨cs⟩, hfs, hcs, er⟩ := callee_run (o := { dst := some 15, op := .call { callee := .value (.func 51), args := #[.tmp 11, .tmp 12, .tmp 13, .tmp 14], argTypes := #[25, 3, 3, 3] }, type := 37, pos := "play.go:235", after := #[{ on := 0, ground := .data }, { on := 1, ground := .data }, { on := 2, ground := .data }, { on := 3, ground := .data }], guard := none }) (c := (fxA w0 okA bD).toCx) (f := 51) (s1 := []) (s2 := []) Rb (cl := { callee := .value (.func 51), args := #[.tmp 11, .tmp 12, .tmp 13, .tmp 14], argTypes := #[25, 3, 3, 3] }) rfl rfl (rl_play_Sheet_con p0 p1 p2 p3 (y1, y2) h1).1
  rw [er]
  obtain rfl : fs = [] := by cases fs with | nil => rfl | cons _ _ => exact hfs.elim
  obtain rfl : cs = [] := by cases cs with | nil => rfl | cons _ _ => exact hcs.elim
  have r0 : ρb 0 = some (.at bD 1) := Rb.ext0 0 _ rfl
  have bz := Rb.upd.size
  dsimp only at bz
  have e11 : ab.eval (.tmp 11) = .pointer (some ⟨bD, 0, none⟩) := by
   obtain ⟨b, cap, q1, q2⟩ := ev_ok Rb (x := .tmp 11) rfl
   rw [r0] at q1
   injection q1 with q1
   injection q1 with q1
   subst q1
   exact q2
  have e12 : ab.eval (.tmp 12) = .int .i64 p1 := ev_v Rb rfl
  have e13 : ab.eval (.tmp 13) = .int .i64 p2 := ev_v Rb rfl
  have e14 : ab.eval (.tmp 14) = .int .i64 p3 := ev_v Rb rfl
  obtain ⟨l0, a0, b0, c0⟩ := Rb.heap 0 _ rfl
  rw [r0] at a0
  obtain rfl := Option.some.inj a0
  have hO : ∀ b, okOf ⟨w0, okA, rho1 bD⟩ wb ρb (Vm.look [(0, dkB p0)]) b → (w0.heap.size ≤ b ∨ okA b) ∧ b < wb.heap.size ∧ b ≠ bD := by
   rintro b ⟨q1, q2, q3⟩
   have nD : b ≠ bD := fun e => q3 0 _ 1 rfl rfl (by rw [r0, e])
   refine ⟨?_, q1, nD⟩
   rcases q2 with q2 | q2 | ⟨id, cap, q2⟩
   ·exact .inl q2
   ·exact .inr q2
   ·exact absurd (rho1_eq q2).2 nD
  have ea : (#[] ++ #[Operand.tmp 11, .tmp 12, .tmp 13, .tmp 14].map ab.eval ++ #[] : Array Value) = #[.pointer (some ⟨bD, 0, none⟩), .int .i64 p1, .int .i64 p2, .int .i64 p3] := by
   simp only [List.map_toArray, List.map_cons, List.map_nil, e11, e12, e13, e14, Array.append_empty, Array.empty_append]
  show Calls _ _ _ _ _
  rw [ea]
  refine Calls.mono (sheet_shape p0 p1 p2 p3 (y1, y2) h1 wb (okOf ⟨w0, okA, rho1 bD⟩ wb ρb (Vm.look [(0, dkB p0)])) bD (by omega) (fun b hb => (hO b hb).2) (boxρ (fun _ h => h) b0)) ?_
  rintro e w' ⟨v, lo, vs, loc, rfl, Hs⟩
  refine ⟨v, rfl, lo, vs, loc, sh_base ⟨Rb.upd.os, Rb.upd.tape, Rb.upd.output, bz, fun b hb hn => Rb.upd.block b hb fun ⟨id, cap, q⟩ => hn (rho1_eq q).2⟩ (fun b hb => (hO b hb).1) Hs⟩
 obtain ⟨lo, vs, loc, Hs⟩ := hv
 have r0 : ρb 0 = some (.at bD 1) := Rb.ext0 0 _ rfl
 have hz1 := Hs.upd.size
 have t0 : (ab.put (some 15) v).tmps.getD 0 undef = .pointer (some ⟨bD, 0, none⟩) := by
  rw [put_ne v (by decide)]
  obtain ⟨b, cap, q1, q2⟩ := Rb.tmp 0 _ rfl
  rw [r0] at q1
  injection q1 with q1
  injection q1 with q1
  subst q1
  exact q2
 have Rc : RepS (fxA w1 (okS w0.heap.size okA bD lo loc y1.length w1) bD).toCx (rho1 bD) ⟨[(0, .c (.ptr 0 3 0 0)), (15, .c (.t (.v v)))], [(0, dkB y2)], 1⟩ (ab.put (some 15) v) w1 := by
  refine rep1 (by decide) (by omega) okS_lt Hs.deck (fun t av ht => ?_) (by rw [put_size']; exact Rb.size) (by rw [put_def']; exact Rb.defers)
  rw [look_cons] at ht
  split at ht
  ·rename_i e; subst e; obtain rfl := Option.some.inj ht; exact ⟨bD, 1, rfl, t0⟩
  ·rw [look_cons] at ht
   split at ht
   ·rename_i e; subst e; obtain rfl := Option.some.inj ht; exact ⟨put_eq v (by rw [Rb.size]; exact (by decide : 15 < 109)), Hs.hv.one⟩
   ·cases ht
 have hk2 : 0 + y5.toNat < y1.length := hk
 refine region_rest (c := fxA w1 (okS w0.heap.size okA bD lo loc y1.length w1) bD) (Sx := ⟨[(0, .c (.ptr 0 3 0 0)), (9, .c (.t (.v v)))], [(0, dkB y2)], 1⟩) tt_ok1 5 1 [(0, 0)] [] (by kernel_rfl) Rc fun ρd ad wd Rd => ?_
 replace Hs := sh_keep (by omega) (fun b h => h) Hs Rd
 have t0 : ad.tmps.getD 0 undef = .pointer (some ⟨bD, 0, none⟩) := by
  have r0 : ρd 0 = some (.at bD 1) := Rd.ext0 0 _ rfl
  obtain ⟨b, cap, q1, q2⟩ := Rd.tmp 0 _ rfl
  rw [r0] at q1
  injection q1 with q1
  injection q1 with q1
  subst q1
  exact q2
 have t9 : ad.tmps.getD 9 undef = v := (Rd.tmp 9 _ rfl).1
 have hsz := Rd.size
 have hdf := Rd.defers
 clear Rd Rc Rb Ra R0 hdk
 have hv2 := Hs.hv
 rw [Hs.len] at hv2
 have R2 := rep3 (a := ad) (tm := [(0, .c (.ptr 0 3 0 0)), (9, .c (.ref 1 5 0 y1.length))]) (k := 0 + y5.toNat) (jj := 3) hD hA Hs hk2 (by decide) (by decide) (fun t av ht => by
  rw [look_cons] at ht
  split at ht
  ·rename_i e; subst e; obtain rfl := Option.some.inj ht; exact ⟨bD, 1, rfl, t0⟩
  ·rw [look_cons] at ht
   split at ht
   ·rename_i e; subst e; obtain rfl := Option.some.inj ht; rw [t9]; exact HV.rc (w := wd) (ok := fun _ => False) hv2 rfl
   ·cases ht) hsz hdf
 subst g3
 refine wp_seq (awrun (c := fxC wd (okK w0.heap.size okA bD lo (loc (0 + y5.toNat) 3) wd) bD lo (loc (0 + y5.toNat) 3)) (x := .normal) (Sx := ⟨[(0, .c (.ptr 0 3 0 0)), (9, .c (.ref 1 5 0 y1.length))], [(0, dkB y2), (1, .row 44 false 5 y1.length (rowK y1 (0 + y5.toNat) 3 (v5 (vs.getD (0 + y5.toNat) dV5) 3))), (2, .row 45 false 1 (y1.getD (0 + y5.toNat) dS_api_Sent).Hashes.length (Ru64 (y1.getD (0 + y5.toNat) dS_api_Sent).Hashes))], 3⟩) ?_ R2 fun ρ3 a3 w3 R3 => ?_)
 ·refine AW.sg tt_ok1 [(18, vb ((y1.length : Int) == 0))] [] [] 6 [] (by kernel_rfl) ?_
  refine AW.cond (b := ((y1.length : Int) == 0)) (by kernel_rfl) (fun e => ?_) fun _ => AW.skip ⟨rfl, conv_re [(0, 0), (1, 1), (2, 2)] (by kernel_rfl)⟩
  rw [beq_iff_eq] at e
  omega
 refine wp_seq (awrun (c := fxC wd (okK w0.heap.size okA bD lo (loc (0 + y5.toNat) 3) wd) bD lo (loc (0 + y5.toNat) 3)) (x := .normal) (Sx := ⟨[(0, .c (.ptr 0 3 0 0)), (9, .c (.ref 1 5 0 y1.length)), (10, vi64 y5)], [(0, dkB y6), (1, .row 44 false 5 y1.length (rowK y1 (0 + y5.toNat) 3 (v5 (vs.getD (0 + y5.toNat) dV5) 3))), (2, .row 45 false 1 (y1.getD (0 + y5.toNat) dS_api_Sent).Hashes.length (Ru64 (y1.getD (0 + y5.toNat) dS_api_Sent).Hashes))], 3⟩) (AW.rg tt_ok1 [(10, vi64 y5)] [0] [(0, .box 86 [cl 1 Ri64 y6.list, ci64 y6.at_, cu64 y6.state])] 7 [hn, hn, hn, hl [0] [] 0 (rl_make_Deck_Next_con y2 (y1.length : Int) (y5, y6) h2)] (by kernel_rfl) ⟨rfl, conv_re [(0, 0), (1, 1), (2, 2)] (by kernel_rfl)⟩) R3 fun ρ4 a4 w4 R4 => ?_)
 refine wp_seq (wp_seq (awrun (c := fxC wd (okK w0.heap.size okA bD lo (loc (0 + y5.toNat) 3) wd) bD lo (loc (0 + y5.toNat) 3)) (x := .normal) (Sx := ⟨[(0, .c (.ptr 0 3 0 0)), (9, .c (.ref 1 5 0 y1.length)), (10, vi64 y5), (25, vi64 3)], [(0, dkB y13), (1, .row 44 false 5 y1.length (rowK y1 (0 + y5.toNat) 3 (v5 (vs.getD (0 + y5.toNat) dV5) 3))), (2, .row 45 false 1 (y1.getD (0 + y5.toNat) dS_api_Sent).Hashes.length (Ru64 (y1.getD (0 + y5.toNat) dS_api_Sent).Hashes))], 3⟩) (AW.rg tt_ok1 [(25, vi64 3)] [0] [(0, .box 86 [cl 1 Ri64 y13.list, ci64 y13.at_, cu64 y13.state])] 4 [hn, hl [0] [] 0 (rl_make_Deck_Next_con y6 9 (3, y13) h3)] (by kernel_rfl) ⟨rfl, conv_re [(0, 0), (1, 1), (2, 2)] (by kernel_rfl)⟩) R4 fun ρ5 a5 w5 R5 => wp_block ?_))
 refine wp_seq (awrun (c := fxC wd (okK w0.heap.size okA bD lo (loc (0 + y5.toNat) 3) wd) bD lo (loc (0 + y5.toNat) 3)) (x := .normal) (Sx := ⟨[(0, .c (.ptr 0 3 0 0)), (9, .c (.ref 1 5 0 y1.length)), (10, vi64 y5), (25, vi64 3), (26, vb ((3 : Int) == 0))], [(0, dkB y13), (1, .row 44 false 5 y1.length (rowK y1 (0 + y5.toNat) 3 (v5 (vs.getD (0 + y5.toNat) dV5) 3))), (2, .row 45 false 1 (y1.getD (0 + y5.toNat) dS_api_Sent).Hashes.length (Ru64 (y1.getD (0 + y5.toNat) dS_api_Sent).Hashes))], 3⟩) (AW.rg tt_ok1 [(26, vb ((3 : Int) == 0))] [] [] 5 [] (by kernel_rfl) ⟨rfl, conv_re [(0, 0), (1, 1), (2, 2)] (by kernel_rfl)⟩) R5 fun ρ6 a6 w6 R6 => wp_cond_false (ev_v R6 (x := .tmp 26) (by kernel_rfl)) ?_)
 refine wp_seq (awrun (c := fxC wd (okK w0.heap.size okA bD lo (loc (0 + y5.toNat) 3) wd) bD lo (loc (0 + y5.toNat) 3)) (x := .normal) (Sx := ⟨[(0, .c (.ptr 0 3 0 0)), (9, .c (.ref 1 5 0 y1.length)), (10, vi64 y5), (25, vi64 3), (38, vb ((3 : Int) == 1))], [(0, dkB y13), (1, .row 44 false 5 y1.length (rowK y1 (0 + y5.toNat) 3 (v5 (vs.getD (0 + y5.toNat) dV5) 3))), (2, .row 45 false 1 (y1.getD (0 + y5.toNat) dS_api_Sent).Hashes.length (Ru64 (y1.getD (0 + y5.toNat) dS_api_Sent).Hashes))], 3⟩) (AW.rg tt_ok1 [(38, vb ((3 : Int) == 1))] [] [] 5 [] (by kernel_rfl) ⟨rfl, conv_re [(0, 0), (1, 1), (2, 2)] (by kernel_rfl)⟩) R6 fun ρ6 a6 w6 R6 => wp_cond_false (ev_v R6 (x := .tmp 38) (by kernel_rfl)) ?_)
 refine wp_seq (awrun (c := fxC wd (okK w0.heap.size okA bD lo (loc (0 + y5.toNat) 3) wd) bD lo (loc (0 + y5.toNat) 3)) (x := .normal) (Sx := ⟨[(0, .c (.ptr 0 3 0 0)), (9, .c (.ref 1 5 0 y1.length)), (10, vi64 y5), (25, vi64 3), (50, vb ((3 : Int) == 2))], [(0, dkB y13), (1, .row 44 false 5 y1.length (rowK y1 (0 + y5.toNat) 3 (v5 (vs.getD (0 + y5.toNat) dV5) 3))), (2, .row 45 false 1 (y1.getD (0 + y5.toNat) dS_api_Sent).Hashes.length (Ru64 (y1.getD (0 + y5.toNat) dS_api_Sent).Hashes))], 3⟩) (AW.rg tt_ok1 [(50, vb ((3 : Int) == 2))] [] [] 5 [] (by kernel_rfl) ⟨rfl, conv_re [(0, 0), (1, 1), (2, 2)] (by kernel_rfl)⟩) R6 fun ρ6 a6 w6 R6 => wp_cond_false (ev_v R6 (x := .tmp 50) (by kernel_rfl)) ?_)
 refine wp_seq (awrun (c := fxC wd (okK w0.heap.size okA bD lo (loc (0 + y5.toNat) 3) wd) bD lo (loc (0 + y5.toNat) 3)) (x := .normal) (Sx := ⟨[(0, .c (.ptr 0 3 0 0)), (9, .c (.ref 1 5 0 y1.length)), (10, vi64 y5), (25, vi64 3), (66, vb ((3 : Int) == 3))], [(0, dkB y13), (1, .row 44 false 5 y1.length (rowK y1 (0 + y5.toNat) 3 (v5 (vs.getD (0 + y5.toNat) dV5) 3))), (2, .row 45 false 1 (y1.getD (0 + y5.toNat) dS_api_Sent).Hashes.length (Ru64 (y1.getD (0 + y5.toNat) dS_api_Sent).Hashes))], 3⟩) (AW.rg tt_ok1 [(66, vb ((3 : Int) == 3))] [] [] 5 [] (by kernel_rfl) ⟨rfl, conv_re [(0, 0), (1, 1), (2, 2)] (by kernel_rfl)⟩) R6 fun ρ6 a6 w6 R6 => wp_cond_true (ev_v R6 (x := .tmp 66) (by kernel_rfl)) ?_)
 refine region_cut (c := fxC wd (okK w0.heap.size okA bD lo (loc (0 + y5.toNat) 3) wd) bD lo (loc (0 + y5.toNat) 3)) (Sx := ⟨[(74, .c (.t (rowK y1 (0 + y5.toNat) 3 (v5 (vs.getD (0 + y5.toNat) dV5) 3) (0 + y5.toNat) 3))), (0, .c (.ptr 0 3 0 0)), (9, .c (.ref 1 5 0 y1.length)), (68, .c (.ref 1 5 0 y1.length)), (69, vi64 y5)], [(0, dkB y13), (1, .row 44 false 5 y1.length (rowK y1 (0 + y5.toNat) 3 (v5 (vs.getD (0 + y5.toNat) dV5) 3))), (2, .row 45 false 1 (y1.getD (0 + y5.toNat) dS_api_Sent).Hashes.length (Ru64 (y1.getD (0 + y5.toNat) dS_api_Sent).Hashes))], 3⟩) tt_ok1 7 5 [(0, 0), (1, 1), (2, 2)] [hn, hn, hn, hn, hq g1 g2, hn, ho (p := (0 + y5.toNat) < y1.length) hk2] (by kernel_rfl) R6 fun ρ7 a7 w7 R7 => ?_
 have R8 : RepS (fxC wd (okK w0.heap.size okA bD lo (loc (0 + y5.toNat) 3) wd) bD lo (loc (0 + y5.toNat) 3)).toCx ρ7 ⟨(74, .c (.ref 2 1 0 (y1.getD (0 + y5.toNat) dS_api_Sent).Hashes.length)) :: [(0, .c (.ptr 0 3 0 0)), (9, .c (.ref 1 5 0 y1.length)), (68, .c (.ref 1 5 0 y1.length)), (69, vi64 y5)], [(0, dkB y13), (1, .row 44 false 5 y1.length (rowK y1 (0 + y5.toNat) 3 (v5 (vs.getD (0 + y5.toNat) dV5) 3))), (2, .row 45 false 1 (y1.getD (0 + y5.toNat) dS_api_Sent).Hashes.length (Ru64 (y1.getD (0 + y5.toNat) dS_api_Sent).Hashes))], 3⟩ a7 w7 := by
  refine ⟨fun t av ht => ?_, R7.heap, R7.hX, R7.inj, R7.used, R7.upd, R7.ext0, R7.size, R7.defers⟩
  rw [look_cons] at ht
  split at ht
  ·rename_i e
   subst e
   obtain rfl := Option.some.inj ht
   have ht := R7.tmp 74 _ rfl
   have hx : RT w7 (okOf (fxC wd (okK w0.heap.size okA bD lo (loc (0 + y5.toNat) 3) wd) bD lo (loc (0 + y5.toNat) 3)).base w7 ρ7 (Vm.look [(0, dkB y13), (1, .row 44 false 5 y1.length (rowK y1 (0 + y5.toNat) 3 (v5 (vs.getD (0 + y5.toNat) dV5) 3))), (2, .row 45 false 1 (y1.getD (0 + y5.toNat) dS_api_Sent).Hashes.length (Ru64 (y1.getD (0 + y5.toNat) dS_api_Sent).Hashes))])) (rowK y1 (0 + y5.toNat) 3 (v5 (vs.getD (0 + y5.toNat) dV5) 3) (0 + y5.toNat) 3) (a7.tmps.getD 74 undef) := ht
   unfold rowK at hx
   rw [if_pos ⟨rfl, rfl⟩] at hx
   rw [hx.1]
   exact HV.rc (w := w7) (ok := fun _ => False) (Hs.hd (0 + y5.toNat) 3 hk2 (by decide) (by decide)).2.1 (R7.ext0 2 _ rfl)
  ·rename_i e
   exact R7.tmp t av (by rw [look_cons, if_neg e]; exact ht)
 refine region_rest (c := fxC wd (okK w0.heap.size okA bD lo (loc (0 + y5.toNat) 3) wd) bD lo (loc (0 + y5.toNat) 3)) (Sx := ⟨[(0, .c (.ptr 0 3 0 0)), (9, .c (.ref 1 5 0 y1.length))], [(0, dkB y13), (1, .row 44 false 5 y1.length (RS_api_Sent (y1.set (0 + y5.toNat) (bentH (y1.getD (0 + y5.toNat) dS_api_Sent)))))], 3⟩) tt_ok1 7 5 [(0, 0), (1, 1)] [hlit 0 Eu64 1 (fun _ => rfl) ([5] : List Int), hz (happ 0 Eu64 1 8 (y1.getD (0 + y5.toNat) dS_api_Sent).Hashes ([5] : List Int) g4 (by decide)) (((y1.getD (0 + y5.toNat) dS_api_Sent).Hashes ++ ([5] : List Int)).length), hq g1 g2, hn, hr y1.length (RS_api_Sent (y1.set (0 + y5.toNat) (bentH (y1.getD (0 + y5.toNat) dS_api_Sent)))) (rowK_upd (y := v5 (vs.getD (0 + y5.toNat) dV5) 3) (s := bentH (y1.getD (0 + y5.toNat) dS_api_Sent)) (t := .tree ((y1.getD (0 + y5.toNat) dS_api_Sent).Hashes ++ ([5] : List Int)).length 1 (Ru64 ((y1.getD (0 + y5.toNat) dS_api_Sent).Hashes ++ ([5] : List Int)))) hk2 (fun j hj hn => match j, hj, hn with | 0, _, _ => rfl | 1, _, _ => rfl | 2, _, h => rfl | 3, _, h => absurd rfl h | 4, _, _ => rfl | _ + 5, h, _ => absurd h (by omega)) rfl)] (by kernel_rfl) R8 fun ρ9 a9 w9 R9 => ?_
 refine wp_seq (awrun (c := fxC wd (okK w0.heap.size okA bD lo (loc (0 + y5.toNat) 3) wd) bD lo (loc (0 + y5.toNat) 3)) (x := .normal) (Sx := ⟨[(8, .c (.ref 1 5 0 y1.length))], [(0, dkB y13), (1, .row 44 false 5 y1.length (RS_api_Sent (y1.set (0 + y5.toNat) (bentH (y1.getD (0 + y5.toNat) dS_api_Sent)))))], 3⟩) (AW.rg tt_ok1 [(8, .c (.ref 1 5 0 y1.length))] [] [] 5 [] (by kernel_rfl) ⟨rfl, conv_re [(0, 0), (1, 1)] (by kernel_rfl)⟩) R9 fun ρe ae we Re => ?_)
 refine wp_ret ?_
 obtain ⟨u, e1, e2⟩ := aRes_run (fn := Try.f22) (out := .c (.ref 1 5 0 y1.length)) (ps := [True]) tt_ok1 Re (by kernel_rfl) ⟨tv, tv⟩
 exact ⟨Re.defers, u, e1, fin3 (by simp) hD hA Hs hk2 (by decide) (by decide) Re u e2⟩
theorem tle0 {n sz : Nat} {f g : Nat → Nat → T} (hn : n = 0) : TLe (.tree 0 sz f) (.tree n sz g) := fun w ok v h => by
 subst hn
 obtain ⟨q, c, e, h1, _⟩ := h
 exact ⟨q, c, e, h1, fun i hi => absurd hi (Nat.not_lt_zero _)⟩
noncomputable def rl_play_Bent0_k1 (x8 : List S_api_Sent) (x9 : List Int) (x10 : Int) (x11 : Int) : Option ((List S_api_Sent) × S_recordlinkmake_Deck) := some (x8, (⟨x9, x10, x11⟩ : S_recordlinkmake_Deck))
noncomputable def rl_play_Bent0 (p0 : S_recordlinkmake_Deck) (p1 : Int) (p2 : Int) (p3 : Int) : Option ((List S_api_Sent) × S_recordlinkmake_Deck) := bind2 (rl_play_Sheet p0 p1 p2 p3) fun y1 y2 => (if ((y1.length : Int) == 0) = true then (some (y1, y2)) else (bind2 (rl_make_Deck_Next y2 (y1.length : Int)) fun y5 y6 => (bind2 (rl_make_Deck_Next y6 9) fun y12 y13 => (if (y12 == 0) = true then (bind2 (rl_make_Deck_Next y13 4) fun y16 y17 => (if 0 ≤ y16 then (if y16 < ((([0, 1, 1048576, 1048577] : List Int).length : Nat) : Int) then (if 0 ≤ y5 then (if y5 < (y1.length : Int) then (rl_play_Bent0_k1 (y1.set (0 + y5.toNat) (⟨(⟨(([0, 1, 1048576, 1048577] : List Int).getD (0 + y16.toNat) 0), ((y1.getD (0 + y5.toNat) dS_api_Sent).Record).Version, ((y1.getD (0 + y5.toNat) dS_api_Sent).Record).Fields⟩ : S_api_Encoded), (y1.getD (0 + y5.toNat) dS_api_Sent).Hashes, (y1.getD (0 + y5.toNat) dS_api_Sent).Has⟩ : S_api_Sent)) y17.list y17.at_ y17.state) else none) else none) else none) else none)) else (if (y12 == 1) = true then (bind2 (rl_make_Deck_Next y13 3) fun y24 y25 => (if 0 ≤ y24 then (if y24 < ((([0, 1048576, 1048577] : List Int).length : Nat) : Int) then (if 0 ≤ y5 then (if y5 < (y1.length : Int) then (rl_play_Bent0_k1 (y1.set (0 + y5.toNat) (⟨(⟨((y1.getD (0 + y5.toNat) dS_api_Sent).Record).ID, (([0, 1048576, 1048577] : List Int).getD (0 + y24.toNat) 0), ((y1.getD (0 + y5.toNat) dS_api_Sent).Record).Fields⟩ : S_api_Encoded), (y1.getD (0 + y5.toNat) dS_api_Sent).Hashes, (y1.getD (0 + y5.toNat) dS_api_Sent).Has⟩ : S_api_Sent)) y25.list y25.at_ y25.state) else none) else none) else none) else none)) else (if (y12 == 2) = true then none else (if (y12 == 3) = true then none else (if (y12 == 4) = true then (if 0 ≤ y5 then (if y5 < (y1.length : Int) then (if 0 ≤ (((y1.getD (0 + y5.toNat) dS_api_Sent).Has).length) then (rl_play_Bent0_k1 (y1.set (0 + y5.toNat) (⟨((y1.getD (0 + y5.toNat) dS_api_Sent).Record), (y1.getD (0 + y5.toNat) dS_api_Sent).Hashes, (((y1.getD (0 + y5.toNat) dS_api_Sent).Has).take 0)⟩ : S_api_Sent)) y13.list y13.at_ y13.state) else none) else none) else none) else (if (y12 == 5) = true then (if 0 ≤ y5 then (if y5 < (y1.length : Int) then (if 1 ≤ ((((y1.getD (0 + y5.toNat) dS_api_Sent).Record).Fields).length) then (if ([(⟨64, ([] : List Int)⟩ : S_api_Bits)] : List S_api_Bits).length + ((((y1.getD (0 + y5.toNat) dS_api_Sent).Record).Fields).length - 1) ≤ 1099511627776 then (rl_play_Bent0_k1 (y1.set (0 + y5.toNat) (⟨(⟨((y1.getD (0 + y5.toNat) dS_api_Sent).Record).ID, ((y1.getD (0 + y5.toNat) dS_api_Sent).Record).Version, (([(⟨64, ([] : List Int)⟩ : S_api_Bits)] : List S_api_Bits) ++ (((((y1.getD (0 + y5.toNat) dS_api_Sent).Record).Fields).drop 1).take ((((y1.getD (0 + y5.toNat) dS_api_Sent).Record).Fields).length - 1)))⟩ : S_api_Encoded), (y1.getD (0 + y5.toNat) dS_api_Sent).Hashes, (y1.getD (0 + y5.toNat) dS_api_Sent).Has⟩ : S_api_Sent)) y13.list y13.at_ y13.state) else none) else none) else none) else none) else (rl_play_Bent0_k1 y1 y13.list y13.at_ y13.state))))))))))
set_option maxRecDepth 100000 in
theorem rl_play_Bent0_con (p0 : S_recordlinkmake_Deck) (p1 : Int) (p2 : Int) (p3 : Int) (r : (List S_api_Sent) × S_recordlinkmake_Deck) (h : rl_play_Bent0 p0 p1 p2 p3 = some r) : Con Try.prog 22 [.c (.ptr 0 3 0 0), vi64 p1, vi64 p2, vi64 p3] [(0, .box 86 [cl 1 Ri64 p0.list, ci64 p0.at_, cu64 p0.state])] (.c (.ref 1 5 0 r.1.length)) [(0, .box 86 [cl 1 Ri64 r.2.list, ci64 r.2.at_, cu64 r.2.state]), (1, .row 44 false 5 r.1.length (RS_api_Sent r.1))] := by
 refine con_of tt_ok1 1 Try.func22 (by kernel_rfl) rfl (by kernel_rfl) (fun base X _ => AW.post ?_)
 unfold rl_play_Bent0 at h
 refine AW.sg tt_ok1 [] [] [] 2 [] (by kernel_rfl) ?_
 obtain ⟨y1, y2, e3, h⟩ := bind2_some h
 refine AW.sg tt_ok1 [(9, .c (.ref 6 5 0 y1.length))] [0, 6] [(0, .box 86 [cl 1 Ri64 y2.list, ci64 y2.at_, cu64 y2.state]), (6, .row 44 false 5 y1.length (RS_api_Sent y1))] 8 [hn, hn, hn, hn, hl [0] [] 1 (rl_play_Sheet_con p0 p1 p2 p3 (y1, y2) e3)] (by kernel_rfl) ?_
 refine AW.seq ?_
 refine AW.sg tt_ok1 [(18, vb ((y1.length : Int) == 0))] [] [] 11 [] (by kernel_rfl) ?_
 refine AW.co h (by kernel_rfl) (fun c4 h => ?_) (fun c4 h => ?_)
 ·
  refine AW.sg tt_ok1 [(8, .c (.ref 6 5 0 y1.length))] [] [] 13 [] (by kernel_rfl) ?_
  refine AW.ret (AW.tr ?_)
  obtain rfl := some_inj h
  exact fn0 (.inr rfl) [(0, 0), (1, 6)] 2 (.c (.ref 6 5 0 y1.length)) (by kernel_rfl)
 ·
  refine AW.skip (AW.tn ?_)
  obtain ⟨y5, y6, e7, h⟩ := bind2_some h
  refine AW.sg tt_ok1 [(10, vi64 y5)] [0] [(0, .box 86 [cl 1 Ri64 y6.list, ci64 y6.at_, cu64 y6.state])] 15 [hn, hn, hn, hl [0] [] 0 (rl_make_Deck_Next_con y2 (y1.length : Int) (y5, y6) e7)] (by kernel_rfl) ?_
  refine AW.seq ?_
  refine AW.join (ι := (List S_api_Sent) × (List Int) × Int × Int) (fun v => ⟨[(9, .c (.ref 1 5 0 v.1.length))], [(0, .box 86 [cl 1 Ri64 v.2.1, ci64 v.2.2.1, cu64 v.2.2.2]), (1, .row 44 false 5 v.1.length (RS_api_Sent v.1))], 2⟩) (fun v : (List S_api_Sent) × (List Int) × Int × Int => rl_play_Bent0_k1 v.1 v.2.1 v.2.2.1 v.2.2.2 = some r) (fun v h => ?_) ?_
  ·
   obtain ⟨x8, x9, x10, x11⟩ := v
   replace h : rl_play_Bent0_k1 x8 x9 x10 x11 = some r := h
   unfold rl_play_Bent0_k1 at h
   refine AW.tn ?_
   refine AW.sg tt_ok1 [(8, .c (.ref 1 5 0 x8.length))] [] [] 4 [] (by kernel_rfl) ?_
   refine AW.ret ?_
   obtain rfl := some_inj h
   exact fn0 (.inr rfl) [(0, 0), (1, 1)] 2 (.c (.ref 1 5 0 x8.length)) (by kernel_rfl)
  ·
   obtain ⟨y12, y13, e14, h⟩ := bind2_some h
   refine AW.sg tt_ok1 [(25, vi64 y12)] [0] [(0, .box 86 [cl 1 Ri64 y13.list, ci64 y13.at_, cu64 y13.state])] 16 [hn, hl [0] [] 0 (rl_make_Deck_Next_con y6 9 (y12, y13) e14)] (by kernel_rfl) ?_
   refine AW.block ?_
   refine AW.sg tt_ok1 [(26, vb (y12 == 0))] [] [] 18 [] (by kernel_rfl) ?_
   refine AW.co h (by kernel_rfl) (fun c15 h => ?_) (fun c15 h => ?_)
   ·
    obtain ⟨y16, y17, e18, h⟩ := bind2_some h
    obtain ⟨g19, g20, h⟩ := ifd h
    obtain ⟨g21, g22, h⟩ := ifd h
    refine AW.rg tt_ok1 [] [0, 6, 20] [(6, .row 44 false 5 y1.length (RS_api_Sent (y1.set (0 + y5.toNat) (⟨(⟨(([0, 1, 1048576, 1048577] : List Int).getD (0 + y16.toNat) 0), ((y1.getD (0 + y5.toNat) dS_api_Sent).Record).Version, ((y1.getD (0 + y5.toNat) dS_api_Sent).Record).Fields⟩ : S_api_Encoded), (y1.getD (0 + y5.toNat) dS_api_Sent).Hashes, (y1.getD (0 + y5.toNat) dS_api_Sent).Has⟩ : S_api_Sent)))), (0, .box 86 [cl 1 Ri64 y17.list, ci64 y17.at_, cu64 y17.state])] 28 [hn, hn, hlit 0 Ei64 1 (fun _ => rfl) ([0, 1, 1048576, 1048577] : List Int), hn, hl [0] [] 0 (rl_make_Deck_Next_con y13 4 (y16, y17) e18), hq g19 g20, ho (p := (0 + y16.toNat) < ([0, 1, 1048576, 1048577] : List Int).length) (by have h1 : 0 ≤ y16 := g19; have h2 : y16 < ((([0, 1, 1048576, 1048577] : List Int).length : Nat) : Int) := g20; omega), hq g21 g22, hn, hn, hr y1.length (RS_api_Sent (y1.set (0 + y5.toNat) (⟨(⟨(([0, 1, 1048576, 1048577] : List Int).getD (0 + y16.toNat) 0), ((y1.getD (0 + y5.toNat) dS_api_Sent).Record).Version, ((y1.getD (0 + y5.toNat) dS_api_Sent).Record).Fields⟩ : S_api_Encoded), (y1.getD (0 + y5.toNat) dS_api_Sent).Hashes, (y1.getD (0 + y5.toNat) dS_api_Sent).Has⟩ : S_api_Sent))) (p := ((0 + y5.toNat) < y1.length) ∧ (y1.length = y1.length ∧ ∀ i, i < y1.length → ∀ j, j < 5 → TLe (updRow (RS_api_Sent y1) (0 + y5.toNat) 0 [.v (.int .i64 (([0, 1, 1048576, 1048577] : List Int).getD (0 + y16.toNat) 0))] i j) (RS_api_Sent (y1.set (0 + y5.toNat) (⟨(⟨(([0, 1, 1048576, 1048577] : List Int).getD (0 + y16.toNat) 0), ((y1.getD (0 + y5.toNat) dS_api_Sent).Record).Version, ((y1.getD (0 + y5.toNat) dS_api_Sent).Record).Fields⟩ : S_api_Encoded), (y1.getD (0 + y5.toNat) dS_api_Sent).Hashes, (y1.getD (0 + y5.toNat) dS_api_Sent).Has⟩ : S_api_Sent)) i j))) (⟨(by have h1 : 0 ≤ y5 := g21; have h2 : y5 < (y1.length : Int) := g22; omega), set_rowN rfl (by have h1 : 0 ≤ y5 := g21; have h2 : y5 < (y1.length : Int) := g22; omega) (fun j hj => match j, hj with | 0, _ => TLe.refl _ | 1, _ => TLe.refl _ | 2, _ => TLe.refl _ | 3, _ => TLe.refl _ | 4, _ => TLe.refl _ | _ + 5, h => absurd h (by omega))⟩)] (by kernel_rfl) ?_
    refine AW.inBlock_normal ?_
    exact jl ((y1.set (0 + y5.toNat) (⟨(⟨(([0, 1, 1048576, 1048577] : List Int).getD (0 + y16.toNat) 0), ((y1.getD (0 + y5.toNat) dS_api_Sent).Record).Version, ((y1.getD (0 + y5.toNat) dS_api_Sent).Record).Fields⟩ : S_api_Encoded), (y1.getD (0 + y5.toNat) dS_api_Sent).Hashes, (y1.getD (0 + y5.toNat) dS_api_Sent).Has⟩ : S_api_Sent)), y17.list, y17.at_, y17.state) h (Conv.trans (conv_tms [(9, .c (.ref 6 5 0 ((y1.set (0 + y5.toNat) (⟨(⟨(([0, 1, 1048576, 1048577] : List Int).getD (0 + y16.toNat) 0), ((y1.getD (0 + y5.toNat) dS_api_Sent).Record).Version, ((y1.getD (0 + y5.toNat) dS_api_Sent).Record).Fields⟩ : S_api_Encoded), (y1.getD (0 + y5.toNat) dS_api_Sent).Hashes, (y1.getD (0 + y5.toNat) dS_api_Sent).Has⟩ : S_api_Sent)).length)))] ⟨⟨.c (.ref 6 5 0 y1.length), by kernel_rfl, ALe.len (by simp only [List.length_set])⟩, tv⟩) (Conv.trans (conv_rowN 6 44 false 5 y1.length ((y1.set (0 + y5.toNat) (⟨(⟨(([0, 1, 1048576, 1048577] : List Int).getD (0 + y16.toNat) 0), ((y1.getD (0 + y5.toNat) dS_api_Sent).Record).Version, ((y1.getD (0 + y5.toNat) dS_api_Sent).Record).Fields⟩ : S_api_Encoded), (y1.getD (0 + y5.toNat) dS_api_Sent).Hashes, (y1.getD (0 + y5.toNat) dS_api_Sent).Has⟩ : S_api_Sent)).length) (RS_api_Sent (y1.set (0 + y5.toNat) (⟨(⟨(([0, 1, 1048576, 1048577] : List Int).getD (0 + y16.toNat) 0), ((y1.getD (0 + y5.toNat) dS_api_Sent).Record).Version, ((y1.getD (0 + y5.toNat) dS_api_Sent).Record).Fields⟩ : S_api_Encoded), (y1.getD (0 + y5.toNat) dS_api_Sent).Hashes, (y1.getD (0 + y5.toNat) dS_api_Sent).Has⟩ : S_api_Sent))) (by kernel_rfl) (by simp only [List.length_set])) (conv_re [(0, 0), (1, 6)] (by kernel_rfl))))
   ·
    refine AW.sg tt_ok1 [(38, vb (y12 == 1))] [] [] 20 [] (by kernel_rfl) ?_
    refine AW.co h (by kernel_rfl) (fun c23 h => ?_) (fun c23 h => ?_)
    ·
     obtain ⟨y24, y25, e26, h⟩ := bind2_some h
     obtain ⟨g27, g28, h⟩ := ifd h
     obtain ⟨g29, g30, h⟩ := ifd h
     refine AW.rg tt_ok1 [] [0, 6, 22] [(6, .row 44 false 5 y1.length (RS_api_Sent (y1.set (0 + y5.toNat) (⟨(⟨((y1.getD (0 + y5.toNat) dS_api_Sent).Record).ID, (([0, 1048576, 1048577] : List Int).getD (0 + y24.toNat) 0), ((y1.getD (0 + y5.toNat) dS_api_Sent).Record).Fields⟩ : S_api_Encoded), (y1.getD (0 + y5.toNat) dS_api_Sent).Hashes, (y1.getD (0 + y5.toNat) dS_api_Sent).Has⟩ : S_api_Sent)))), (0, .box 86 [cl 1 Ri64 y25.list, ci64 y25.at_, cu64 y25.state])] 30 [hn, hn, hlit 0 Ei64 1 (fun _ => rfl) ([0, 1048576, 1048577] : List Int), hn, hl [0] [] 0 (rl_make_Deck_Next_con y13 3 (y24, y25) e26), hq g27 g28, ho (p := (0 + y24.toNat) < ([0, 1048576, 1048577] : List Int).length) (by have h1 : 0 ≤ y24 := g27; have h2 : y24 < ((([0, 1048576, 1048577] : List Int).length : Nat) : Int) := g28; omega), hq g29 g30, hn, hn, hr y1.length (RS_api_Sent (y1.set (0 + y5.toNat) (⟨(⟨((y1.getD (0 + y5.toNat) dS_api_Sent).Record).ID, (([0, 1048576, 1048577] : List Int).getD (0 + y24.toNat) 0), ((y1.getD (0 + y5.toNat) dS_api_Sent).Record).Fields⟩ : S_api_Encoded), (y1.getD (0 + y5.toNat) dS_api_Sent).Hashes, (y1.getD (0 + y5.toNat) dS_api_Sent).Has⟩ : S_api_Sent))) (p := ((0 + y5.toNat) < y1.length) ∧ (y1.length = y1.length ∧ ∀ i, i < y1.length → ∀ j, j < 5 → TLe (updRow (RS_api_Sent y1) (0 + y5.toNat) 1 [.v (.int .i64 (([0, 1048576, 1048577] : List Int).getD (0 + y24.toNat) 0))] i j) (RS_api_Sent (y1.set (0 + y5.toNat) (⟨(⟨((y1.getD (0 + y5.toNat) dS_api_Sent).Record).ID, (([0, 1048576, 1048577] : List Int).getD (0 + y24.toNat) 0), ((y1.getD (0 + y5.toNat) dS_api_Sent).Record).Fields⟩ : S_api_Encoded), (y1.getD (0 + y5.toNat) dS_api_Sent).Hashes, (y1.getD (0 + y5.toNat) dS_api_Sent).Has⟩ : S_api_Sent)) i j))) (⟨(by have h1 : 0 ≤ y5 := g29; have h2 : y5 < (y1.length : Int) := g30; omega), set_rowN rfl (by have h1 : 0 ≤ y5 := g29; have h2 : y5 < (y1.length : Int) := g30; omega) (fun j hj => match j, hj with | 0, _ => TLe.refl _ | 1, _ => TLe.refl _ | 2, _ => TLe.refl _ | 3, _ => TLe.refl _ | 4, _ => TLe.refl _ | _ + 5, h => absurd h (by omega))⟩)] (by kernel_rfl) ?_
     refine AW.inBlock_normal ?_
     exact jl ((y1.set (0 + y5.toNat) (⟨(⟨((y1.getD (0 + y5.toNat) dS_api_Sent).Record).ID, (([0, 1048576, 1048577] : List Int).getD (0 + y24.toNat) 0), ((y1.getD (0 + y5.toNat) dS_api_Sent).Record).Fields⟩ : S_api_Encoded), (y1.getD (0 + y5.toNat) dS_api_Sent).Hashes, (y1.getD (0 + y5.toNat) dS_api_Sent).Has⟩ : S_api_Sent)), y25.list, y25.at_, y25.state) h (Conv.trans (conv_tms [(9, .c (.ref 6 5 0 ((y1.set (0 + y5.toNat) (⟨(⟨((y1.getD (0 + y5.toNat) dS_api_Sent).Record).ID, (([0, 1048576, 1048577] : List Int).getD (0 + y24.toNat) 0), ((y1.getD (0 + y5.toNat) dS_api_Sent).Record).Fields⟩ : S_api_Encoded), (y1.getD (0 + y5.toNat) dS_api_Sent).Hashes, (y1.getD (0 + y5.toNat) dS_api_Sent).Has⟩ : S_api_Sent)).length)))] ⟨⟨.c (.ref 6 5 0 y1.length), by kernel_rfl, ALe.len (by simp only [List.length_set])⟩, tv⟩) (Conv.trans (conv_rowN 6 44 false 5 y1.length ((y1.set (0 + y5.toNat) (⟨(⟨((y1.getD (0 + y5.toNat) dS_api_Sent).Record).ID, (([0, 1048576, 1048577] : List Int).getD (0 + y24.toNat) 0), ((y1.getD (0 + y5.toNat) dS_api_Sent).Record).Fields⟩ : S_api_Encoded), (y1.getD (0 + y5.toNat) dS_api_Sent).Hashes, (y1.getD (0 + y5.toNat) dS_api_Sent).Has⟩ : S_api_Sent)).length) (RS_api_Sent (y1.set (0 + y5.toNat) (⟨(⟨((y1.getD (0 + y5.toNat) dS_api_Sent).Record).ID, (([0, 1048576, 1048577] : List Int).getD (0 + y24.toNat) 0), ((y1.getD (0 + y5.toNat) dS_api_Sent).Record).Fields⟩ : S_api_Encoded), (y1.getD (0 + y5.toNat) dS_api_Sent).Hashes, (y1.getD (0 + y5.toNat) dS_api_Sent).Has⟩ : S_api_Sent))) (by kernel_rfl) (by simp only [List.length_set])) (conv_re [(0, 0), (1, 6)] (by kernel_rfl))))
    ·
     refine AW.sg tt_ok1 [(50, vb (y12 == 2))] [] [] 22 [] (by kernel_rfl) ?_
     refine AW.co h (by kernel_rfl) (fun c31 h => ?_) (fun c31 h => ?_)
     ·
      cases h
     ·
      refine AW.sg tt_ok1 [(66, vb (y12 == 3))] [] [] 24 [] (by kernel_rfl) ?_
      refine AW.co h (by kernel_rfl) (fun c32 h => ?_) (fun c32 h => ?_)
      ·
       cases h
      ·
       refine AW.sg tt_ok1 [(79, vb (y12 == 4))] [] [] 26 [] (by kernel_rfl) ?_
       refine AW.co h (by kernel_rfl) (fun c33 h => ?_) (fun c33 h => ?_)
       ·
        obtain ⟨g34, g35, h⟩ := ifd h
        obtain ⟨g36, h⟩ := ifc h
        refine AW.rg tt_ok1 [] [6] [(6, .row 44 false 5 y1.length (RS_api_Sent (y1.set (0 + y5.toNat) (⟨((y1.getD (0 + y5.toNat) dS_api_Sent).Record), (y1.getD (0 + y5.toNat) dS_api_Sent).Hashes, (((y1.getD (0 + y5.toNat) dS_api_Sent).Has).take 0)⟩ : S_api_Sent))))] 37 [hn, hn, hn, hn, hq g34 g35, hn, ho (p := (0 + y5.toNat) < y1.length) (by have h1 : 0 ≤ y5 := g34; have h2 : y5 < (y1.length : Int) := g35; omega), ho (p := (True) ∧ (0 ≤ (0 : Int)) ∧ (0 ≤ 0) ∧ (0 ≤ (((y1.getD (0 + y5.toNat) dS_api_Sent).Has).length))) (⟨tv, (by decide), (Nat.zero_le _), g36⟩), hq g34 g35, hn, hr y1.length (RS_api_Sent (y1.set (0 + y5.toNat) (⟨((y1.getD (0 + y5.toNat) dS_api_Sent).Record), (y1.getD (0 + y5.toNat) dS_api_Sent).Hashes, (((y1.getD (0 + y5.toNat) dS_api_Sent).Has).take 0)⟩ : S_api_Sent))) (p := ((0 + y5.toNat) < y1.length) ∧ (y1.length = y1.length ∧ ∀ i, i < y1.length → ∀ j, j < 5 → TLe (updRow (RS_api_Sent y1) (0 + y5.toNat) 4 [.tree 0 1 (Rb ((y1.getD (0 + y5.toNat) dS_api_Sent).Has))] i j) (RS_api_Sent (y1.set (0 + y5.toNat) (⟨((y1.getD (0 + y5.toNat) dS_api_Sent).Record), (y1.getD (0 + y5.toNat) dS_api_Sent).Hashes, (((y1.getD (0 + y5.toNat) dS_api_Sent).Has).take 0)⟩ : S_api_Sent)) i j))) (⟨(by have h1 : 0 ≤ y5 := g34; have h2 : y5 < (y1.length : Int) := g35; omega), set_rowN rfl (by have h1 : 0 ≤ y5 := g34; have h2 : y5 < (y1.length : Int) := g35; omega) (fun j hj => match j, hj with | 0, _ => TLe.refl _ | 1, _ => TLe.refl _ | 2, _ => TLe.refl _ | 3, _ => TLe.refl _ | 4, _ => tle0 (by simp) | _ + 5, h => absurd h (by omega))⟩)] (by kernel_rfl) ?_
        refine AW.inBlock_normal ?_
        exact jl ((y1.set (0 + y5.toNat) (⟨((y1.getD (0 + y5.toNat) dS_api_Sent).Record), (y1.getD (0 + y5.toNat) dS_api_Sent).Hashes, (((y1.getD (0 + y5.toNat) dS_api_Sent).Has).take 0)⟩ : S_api_Sent)), y13.list, y13.at_, y13.state) h (Conv.trans (conv_tms [(9, .c (.ref 6 5 0 ((y1.set (0 + y5.toNat) (⟨((y1.getD (0 + y5.toNat) dS_api_Sent).Record), (y1.getD (0 + y5.toNat) dS_api_Sent).Hashes, (((y1.getD (0 + y5.toNat) dS_api_Sent).Has).take 0)⟩ : S_api_Sent)).length)))] ⟨⟨.c (.ref 6 5 0 y1.length), by kernel_rfl, ALe.len (by simp only [List.length_set])⟩, tv⟩) (Conv.trans (conv_rowN 6 44 false 5 y1.length ((y1.set (0 + y5.toNat) (⟨((y1.getD (0 + y5.toNat) dS_api_Sent).Record), (y1.getD (0 + y5.toNat) dS_api_Sent).Hashes, (((y1.getD (0 + y5.toNat) dS_api_Sent).Has).take 0)⟩ : S_api_Sent)).length) (RS_api_Sent (y1.set (0 + y5.toNat) (⟨((y1.getD (0 + y5.toNat) dS_api_Sent).Record), (y1.getD (0 + y5.toNat) dS_api_Sent).Hashes, (((y1.getD (0 + y5.toNat) dS_api_Sent).Has).take 0)⟩ : S_api_Sent))) (by kernel_rfl) (by simp only [List.length_set])) (conv_re [(0, 0), (1, 6)] (by kernel_rfl))))
       ·
        refine AW.sg tt_ok1 [(91, vb (y12 == 5))] [] [] 28 [] (by kernel_rfl) ?_
        refine AW.co h (by kernel_rfl) (fun c37 h => ?_) (fun c37 h => ?_)
        ·
         obtain ⟨g38, g39, h⟩ := ifd h
         obtain ⟨g40, g41, h⟩ := ifd h
         refine AW.rg tt_ok1 [] [6, 31, 39] [(6, .row 44 false 5 y1.length (RS_api_Sent (y1.set (0 + y5.toNat) (⟨(⟨((y1.getD (0 + y5.toNat) dS_api_Sent).Record).ID, ((y1.getD (0 + y5.toNat) dS_api_Sent).Record).Version, (([(⟨64, ([] : List Int)⟩ : S_api_Bits)] : List S_api_Bits) ++ (((((y1.getD (0 + y5.toNat) dS_api_Sent).Record).Fields).drop 1).take ((((y1.getD (0 + y5.toNat) dS_api_Sent).Record).Fields).length - 1)))⟩ : S_api_Encoded), (y1.getD (0 + y5.toNat) dS_api_Sent).Hashes, (y1.getD (0 + y5.toNat) dS_api_Sent).Has⟩ : S_api_Sent))))] 44 [hn, hn, hn, hr (([(⟨64, ([] : List Int)⟩ : S_api_Bits)] : List S_api_Bits).length) (RS_api_Bits ([(⟨64, ([] : List Int)⟩ : S_api_Bits)] : List S_api_Bits)) (p := 1 = ([(⟨64, ([] : List Int)⟩ : S_api_Bits)] : List S_api_Bits).length ∧ ∀ i, i < ([(⟨64, ([] : List Int)⟩ : S_api_Bits)] : List S_api_Bits).length → ∀ j, j < 2 → TLe ((rowOf [.v (.int .i64 64), .v (.slice none 0 0)] 2) i j) (RS_api_Bits ([(⟨64, ([] : List Int)⟩ : S_api_Bits)] : List S_api_Bits) i j)) (⟨rfl, lit_row (n := 1) (sz := 2) ⟨tv, ⟨⟨tv, TLe.refl _⟩, TLe.nil rfl⟩⟩⟩), hn, hn, hq g38 g39, hn, hn, ho (p := (0 + y5.toNat) < y1.length) (by have h1 : 0 ≤ y5 := g38; have h2 : y5 < (y1.length : Int) := g39; omega), ho (p := (0 ≤ (1 : Int)) ∧ (True) ∧ (1 ≤ ((((y1.getD (0 + y5.toNat) dS_api_Sent).Record).Fields).length)) ∧ (((((y1.getD (0 + y5.toNat) dS_api_Sent).Record).Fields).length) ≤ ((((y1.getD (0 + y5.toNat) dS_api_Sent).Record).Fields).length))) (⟨(by decide), tv, g40, (Nat.le_refl _)⟩), hz (hr ((([(⟨64, ([] : List Int)⟩ : S_api_Bits)] : List S_api_Bits) ++ (((((y1.getD (0 + y5.toNat) dS_api_Sent).Record).Fields).drop 1).take ((((y1.getD (0 + y5.toNat) dS_api_Sent).Record).Fields).length - 1))).length) (RS_api_Bits (([(⟨64, ([] : List Int)⟩ : S_api_Bits)] : List S_api_Bits) ++ (((((y1.getD (0 + y5.toNat) dS_api_Sent).Record).Fields).drop 1).take ((((y1.getD (0 + y5.toNat) dS_api_Sent).Record).Fields).length - 1)))) (p := (([(⟨64, ([] : List Int)⟩ : S_api_Bits)] : List S_api_Bits).length = ([(⟨64, ([] : List Int)⟩ : S_api_Bits)] : List S_api_Bits).length) ∧ (True) ∧ ((([(⟨64, ([] : List Int)⟩ : S_api_Bits)] : List S_api_Bits).length + ((((y1.getD (0 + y5.toNat) dS_api_Sent).Record).Fields).length - 1) ≤ 1099511627776) ∧ ((32 : Nat) ≤ 128)) ∧ (([(⟨64, ([] : List Int)⟩ : S_api_Bits)] : List S_api_Bits).length + ((((y1.getD (0 + y5.toNat) dS_api_Sent).Record).Fields).length - 1) = (([(⟨64, ([] : List Int)⟩ : S_api_Bits)] : List S_api_Bits) ++ (((((y1.getD (0 + y5.toNat) dS_api_Sent).Record).Fields).drop 1).take ((((y1.getD (0 + y5.toNat) dS_api_Sent).Record).Fields).length - 1))).length ∧ ∀ i, i < (([(⟨64, ([] : List Int)⟩ : S_api_Bits)] : List S_api_Bits) ++ (((((y1.getD (0 + y5.toNat) dS_api_Sent).Record).Fields).drop 1).take ((((y1.getD (0 + y5.toNat) dS_api_Sent).Record).Fields).length - 1))).length → ∀ j, j < 2 → TLe ((appRow (([(⟨64, ([] : List Int)⟩ : S_api_Bits)] : List S_api_Bits).length) (RS_api_Bits ([(⟨64, ([] : List Int)⟩ : S_api_Bits)] : List S_api_Bits)) (fun i j => RS_api_Bits (((y1.getD (0 + y5.toNat) dS_api_Sent).Record).Fields) (1 + i) j)) i j) (RS_api_Bits (([(⟨64, ([] : List Int)⟩ : S_api_Bits)] : List S_api_Bits) ++ (((((y1.getD (0 + y5.toNat) dS_api_Sent).Record).Fields).drop 1).take ((((y1.getD (0 + y5.toNat) dS_api_Sent).Record).Fields).length - 1))) i j))) (⟨rfl, tv, ⟨g41, (by decide)⟩, rowT (app_row rfl (part_row (d := dS_api_Bits) (enc := ES_api_Bits) (sz := 2) (by omega)).1 row_rfl ((part_row (d := dS_api_Bits) (enc := ES_api_Bits) (sz := 2) (by omega)).elim fun e h i hi j hj => h i (Nat.lt_of_lt_of_eq hi e) j hj))⟩)) ((([(⟨64, ([] : List Int)⟩ : S_api_Bits)] : List S_api_Bits) ++ (((((y1.getD (0 + y5.toNat) dS_api_Sent).Record).Fields).drop 1).take ((((y1.getD (0 + y5.toNat) dS_api_Sent).Record).Fields).length - 1))).length), hq g38 g39, hn, hn, hr y1.length (RS_api_Sent (y1.set (0 + y5.toNat) (⟨(⟨((y1.getD (0 + y5.toNat) dS_api_Sent).Record).ID, ((y1.getD (0 + y5.toNat) dS_api_Sent).Record).Version, (([(⟨64, ([] : List Int)⟩ : S_api_Bits)] : List S_api_Bits) ++ (((((y1.getD (0 + y5.toNat) dS_api_Sent).Record).Fields).drop 1).take ((((y1.getD (0 + y5.toNat) dS_api_Sent).Record).Fields).length - 1)))⟩ : S_api_Encoded), (y1.getD (0 + y5.toNat) dS_api_Sent).Hashes, (y1.getD (0 + y5.toNat) dS_api_Sent).Has⟩ : S_api_Sent))) (p := ((0 + y5.toNat) < y1.length) ∧ (y1.length = y1.length ∧ ∀ i, i < y1.length → ∀ j, j < 5 → TLe (updRow (RS_api_Sent y1) (0 + y5.toNat) 2 [.tree ((([(⟨64, ([] : List Int)⟩ : S_api_Bits)] : List S_api_Bits) ++ (((((y1.getD (0 + y5.toNat) dS_api_Sent).Record).Fields).drop 1).take ((((y1.getD (0 + y5.toNat) dS_api_Sent).Record).Fields).length - 1))).length) 2 (RS_api_Bits (([(⟨64, ([] : List Int)⟩ : S_api_Bits)] : List S_api_Bits) ++ (((((y1.getD (0 + y5.toNat) dS_api_Sent).Record).Fields).drop 1).take ((((y1.getD (0 + y5.toNat) dS_api_Sent).Record).Fields).length - 1))))] i j) (RS_api_Sent (y1.set (0 + y5.toNat) (⟨(⟨((y1.getD (0 + y5.toNat) dS_api_Sent).Record).ID, ((y1.getD (0 + y5.toNat) dS_api_Sent).Record).Version, (([(⟨64, ([] : List Int)⟩ : S_api_Bits)] : List S_api_Bits) ++ (((((y1.getD (0 + y5.toNat) dS_api_Sent).Record).Fields).drop 1).take ((((y1.getD (0 + y5.toNat) dS_api_Sent).Record).Fields).length - 1)))⟩ : S_api_Encoded), (y1.getD (0 + y5.toNat) dS_api_Sent).Hashes, (y1.getD (0 + y5.toNat) dS_api_Sent).Has⟩ : S_api_Sent)) i j))) (⟨(by have h1 : 0 ≤ y5 := g38; have h2 : y5 < (y1.length : Int) := g39; omega), set_rowN rfl (by have h1 : 0 ≤ y5 := g38; have h2 : y5 < (y1.length : Int) := g39; omega) (fun j hj => match j, hj with | 0, _ => TLe.refl _ | 1, _ => TLe.refl _ | 2, _ => TLe.refl _ | 3, _ => TLe.refl _ | 4, _ => TLe.refl _ | _ + 5, h => absurd h (by omega))⟩)] (by kernel_rfl) ?_
         refine AW.inBlock_normal ?_
         exact jl ((y1.set (0 + y5.toNat) (⟨(⟨((y1.getD (0 + y5.toNat) dS_api_Sent).Record).ID, ((y1.getD (0 + y5.toNat) dS_api_Sent).Record).Version, (([(⟨64, ([] : List Int)⟩ : S_api_Bits)] : List S_api_Bits) ++ (((((y1.getD (0 + y5.toNat) dS_api_Sent).Record).Fields).drop 1).take ((((y1.getD (0 + y5.toNat) dS_api_Sent).Record).Fields).length - 1)))⟩ : S_api_Encoded), (y1.getD (0 + y5.toNat) dS_api_Sent).Hashes, (y1.getD (0 + y5.toNat) dS_api_Sent).Has⟩ : S_api_Sent)), y13.list, y13.at_, y13.state) h (Conv.trans (conv_tms [(9, .c (.ref 6 5 0 ((y1.set (0 + y5.toNat) (⟨(⟨((y1.getD (0 + y5.toNat) dS_api_Sent).Record).ID, ((y1.getD (0 + y5.toNat) dS_api_Sent).Record).Version, (([(⟨64, ([] : List Int)⟩ : S_api_Bits)] : List S_api_Bits) ++ (((((y1.getD (0 + y5.toNat) dS_api_Sent).Record).Fields).drop 1).take ((((y1.getD (0 + y5.toNat) dS_api_Sent).Record).Fields).length - 1)))⟩ : S_api_Encoded), (y1.getD (0 + y5.toNat) dS_api_Sent).Hashes, (y1.getD (0 + y5.toNat) dS_api_Sent).Has⟩ : S_api_Sent)).length)))] ⟨⟨.c (.ref 6 5 0 y1.length), by kernel_rfl, ALe.len (by simp only [List.length_set])⟩, tv⟩) (Conv.trans (conv_rowN 6 44 false 5 y1.length ((y1.set (0 + y5.toNat) (⟨(⟨((y1.getD (0 + y5.toNat) dS_api_Sent).Record).ID, ((y1.getD (0 + y5.toNat) dS_api_Sent).Record).Version, (([(⟨64, ([] : List Int)⟩ : S_api_Bits)] : List S_api_Bits) ++ (((((y1.getD (0 + y5.toNat) dS_api_Sent).Record).Fields).drop 1).take ((((y1.getD (0 + y5.toNat) dS_api_Sent).Record).Fields).length - 1)))⟩ : S_api_Encoded), (y1.getD (0 + y5.toNat) dS_api_Sent).Hashes, (y1.getD (0 + y5.toNat) dS_api_Sent).Has⟩ : S_api_Sent)).length) (RS_api_Sent (y1.set (0 + y5.toNat) (⟨(⟨((y1.getD (0 + y5.toNat) dS_api_Sent).Record).ID, ((y1.getD (0 + y5.toNat) dS_api_Sent).Record).Version, (([(⟨64, ([] : List Int)⟩ : S_api_Bits)] : List S_api_Bits) ++ (((((y1.getD (0 + y5.toNat) dS_api_Sent).Record).Fields).drop 1).take ((((y1.getD (0 + y5.toNat) dS_api_Sent).Record).Fields).length - 1)))⟩ : S_api_Encoded), (y1.getD (0 + y5.toNat) dS_api_Sent).Hashes, (y1.getD (0 + y5.toNat) dS_api_Sent).Has⟩ : S_api_Sent))) (by kernel_rfl) (by simp only [List.length_set])) (conv_re [(0, 0), (1, 6)] (by kernel_rfl))))
        ·
         refine AW.skip (AW.inBlock_normal ?_)
         exact jl (y1, y13.list, y13.at_, y13.state) h (conv_re [(0, 0), (1, 6)] (by kernel_rfl))
theorem con_close {P : Program} {f : FuncId} {args : List AV} {inb : List (Nat × Blk)} {B : Blk} {ty : TypeId} {sz n : Nat} {g : Nat → Nat → T} (hc : Con P f args inb (.c (.ref 1 sz 0 n)) [(0, B), (1, .row ty false sz n g)]) : Con P f args inb (.c (.t (.tree n sz g))) [(0, B)] := by
 refine ⟨hc.1, fun w okA ρ vs hA hdom hin hinj ha => Calls.mono (hc.2 w okA ρ vs hA hdom hin hinj ha) ?_⟩
 rintro e w' ⟨v, ρ', rfl, hE, hU, hv, hh, hi⟩
 have hk : ∀ b, okOf ⟨w, okA, ρ⟩ w' ρ' (Vm.look [(0, B), (1, .row ty false sz n g)]) b → okOf ⟨w, okA, ρ⟩ w' ρ' (Vm.look [(0, B)]) b := by
  rintro b ⟨q1, q2, q3⟩
  refine ⟨q1, q2, fun id blk cap e1 => ?_⟩
  match id, e1 with
  | 0, e1 => exact q3 0 blk cap e1
  | n + 1, e1 => cases e1
 obtain ⟨l1, a1, b1, c1⟩ := hh 1 _ rfl
 obtain ⟨l1', e1, hv'⟩ := HV.of (w := w') (ok := fun _ => False) hv
 rw [a1] at e1
 obtain rfl := Option.some.inj e1
 refine ⟨v, ρ', rfl, hE, hU, ?_, fun id blk e1 => ?_, fun i j b c c' x y h1 h2 h3 h4 h5 => ?_⟩
 ·refine rt_tree hv' b1 hk fun b c e => ⟨(c1 b c e).1, ?_, fun id blk cap e1 e2 e3 => ?_⟩
  ·rcases (c1 b c e).2 with q | q
   ·exact .inl q
   ·exact .inr (.inr q)
  ·match id, e1 with
   | 0, e1 =>
    have := hi 0 1 b cap c _ _ e1 rfl (.inr rfl) e3 (by rw [a1, e])
    omega
   | n + 1, e1 => cases e1
 ·match id, e1 with
  | 0, e1 =>
   obtain ⟨l, q1, q2, q3⟩ := hh 0 blk e1
   exact ⟨l, q1, RB.mono ⟨hk, fun _ _ => rfl⟩ (Ext.rfl_ _) _ _ (fun _ _ _ => rfl) q2, q3⟩
  | n + 1, e1 => cases e1
 ·match i, h1, j, h2 with
  | 0, _, 0, _ => rfl
  | n + 1, h, _, _ => cases h
  | 0, _, n + 1, h => cases h
theorem rl_play_Bent23_con (p0 : S_recordlinkmake_Deck) (p1 p2 p3 : Int) (r : (List S_api_Sent) × S_recordlinkmake_Deck) (h : rl_play_Bent23 p0 p1 p2 p3 = some r) : Con Try.prog 22 [.c (.ptr 0 3 0 0), vi64 p1, vi64 p2, vi64 p3] [(0, .box 86 [cl 1 Ri64 p0.list, ci64 p0.at_, cu64 p0.state])] (vl 5 RS_api_Sent r.1) [(0, .box 86 [cl 1 Ri64 r.2.list, ci64 r.2.at_, cu64 r.2.state])] := by
 refine ⟨⟨_, Try.func22, by kernel_rfl, rfl⟩, fun w0 okA ρ vs hA hdom hin hinj ha => ?_⟩
 obtain ⟨l0, a0, b0, c0⟩ := hin 0 _ rfl
 obtain ⟨bD, us, rfl, u1, u2⟩ := b0
 obtain rfl : ρ = rho1 bD := by
  funext id
  simp only [rho1]
  split
  ·rename_i e; rw [e]; exact a0
  ·rename_i e
   cases hr : ρ id with
   | none => rfl
   | some l =>
    obtain ⟨b, hb⟩ := hdom id (by rw [hr]; exact fun h => by cases h)
    match id, hb, e with
    | 0, _, e => exact absurd rfl e
    | n + 1, hb, _ => cases hb
 obtain ⟨hb1, hb2⟩ := c0 bD 1 rfl
 have hA2 : ∀ b, okA b → b < w0.heap.size ∧ b ≠ bD := fun b hb => ⟨hA b hb, fun e => hb2 (e ▸ hb)⟩
 have hdk : RB w0 okA (fun _ => none) (dkB p0) (.at bD 1) := boxρ (cs := dkT p0) (ρ := rho1 bD) (fun _ h => h) ⟨bD, us, rfl, u1, u2⟩
 obtain ⟨l⟩ := vs
 rcases l with _ | ⟨v0, _ | ⟨v1, _ | ⟨v2, _ | ⟨v3, _ | ⟨v4, l⟩⟩⟩⟩⟩
 ·exact ha.elim
 ·exact ha.2.elim
 ·exact ha.2.2.elim
 ·exact ha.2.2.2.elim
 ·obtain ⟨⟨b, cap, q1, rfl⟩, ⟨rfl, _⟩, ⟨rfl, _⟩, ⟨rfl, _⟩, _⟩ := ha
  have q1 := (rho1_eq q1).2
  subst q1
  unfold rl_play_Bent23 at h
  obtain ⟨y1, y2, e1, h⟩ := bind2_some h
  obtain ⟨y5, y6, e2, h⟩ := bind2_some h
  obtain ⟨y12, y13, e3, h⟩ := bind2_some h
  obtain ⟨⟨g1, g2⟩, h⟩ := ifc h
  by_cases g3 : y12 = 2
  ·rw [if_pos g3] at h
   obtain ⟨g4, h⟩ := ifc h
   obtain rfl := some_inj h
   exact bent_case2 p0 p1 p2 p3 y1 y2 y6 y13 y5 y12 _ rfl e1 e2 e3 g1 g2 g3 g4 w0 okA b hb1 hA2 hdk
  ·rw [if_neg g3] at h
   by_cases g5 : y12 = 3
   ·rw [if_pos g5] at h
    obtain ⟨g4, h⟩ := ifc h
    obtain rfl := some_inj h
    exact bent_case3 p0 p1 p2 p3 y1 y2 y6 y13 y5 y12 _ rfl e1 e2 e3 g1 g2 g5 g4 w0 okA b hb1 hA2 hdk
   ·rw [if_neg g5] at h
    cases h
 ·exact ha.2.2.2.2.elim
noncomputable def rl_play_BentSheet (p0 : S_recordlinkmake_Deck) (p1 : Int) (p2 : Int) (p3 : Int) : Option ((List S_api_Sent) × S_recordlinkmake_Deck) := match rl_play_Bent0 p0 p1 p2 p3 with
 | some r => some r
 | none => rl_play_Bent23 p0 p1 p2 p3
theorem rl_play_BentSheet_con (p0 : S_recordlinkmake_Deck) (p1 : Int) (p2 : Int) (p3 : Int) (r : (List S_api_Sent) × S_recordlinkmake_Deck) (h : rl_play_BentSheet p0 p1 p2 p3 = some r) : Con Try.prog 22 [.c (.ptr 0 3 0 0), vi64 p1, vi64 p2, vi64 p3] [(0, .box 86 [cl 1 Ri64 p0.list, ci64 p0.at_, cu64 p0.state])] (vl 5 RS_api_Sent r.1) [(0, .box 86 [cl 1 Ri64 r.2.list, ci64 r.2.at_, cu64 r.2.state])] := by
 unfold rl_play_BentSheet at h
 split at h
 ·rename_i r' hr
  obtain rfl := some_inj h
  exact con_close (rl_play_Bent0_con p0 p1 p2 p3 _ hr)
 ·exact rl_play_Bent23_con p0 p1 p2 p3 r h
/-! recordlink/recordlinkref16.missing -/
noncomputable def rl_ref16_missing_k1 (x1 : Bool) : Option Bool := some x1
noncomputable def rl_ref16_missing (p0 : S_api_Bits) : Option Bool := if (p0.Length == 0) = true then (rl_ref16_missing_k1 (((p0.Words.length : Nat) : Int) == 0)) else (rl_ref16_missing_k1 false)
set_option maxRecDepth 100000 in
theorem rl_ref16_missing_con (p0 : S_api_Bits) (r : Bool) (h : rl_ref16_missing p0 = some r) : Con Try.prog 86 [.agg [ci64 p0.Length, cl 1 Ru64 p0.Words]] [] (vb r) [] := by
 refine con_of tt_ok1 0 Try.func86 (by kernel_rfl) rfl (by kernel_rfl) (fun base X _ => AW.post ?_)
 unfold rl_ref16_missing at h
 refine AW.sg tt_ok1 [(1, .c (.ptr 0 2 0 0))] [0] [(0, .box 84 [ci64 p0.Length, cl 1 Ru64 p0.Words])] 2 [] (by kernel_rfl) ?_
 refine AW.seq ?_
 refine AW.join (ι := Bool) (fun v => ⟨[(2, vb v)], [], 0⟩) (fun v : Bool => rl_ref16_missing_k1 v = some r) (fun x1 h => ?_) ?_
 ·
  unfold rl_ref16_missing_k1 at h
  refine AW.tn (AW.ret ?_)
  obtain rfl := some_inj h
  exact fn0 (.inr rfl) [] 0 (vb x1) (by kernel_rfl)
 ·
  rcases ifs h with ⟨c2, h⟩ | ⟨c2, h⟩
  ·
   refine AW.rg tt_ok1 [(2, vb (((p0.Words.length : Nat) : Int) == 0))] [] [] 12 [hn, hn, ht c2] (by kernel_rfl) ?_
   exact jl (((p0.Words.length : Nat) : Int) == 0) h (conv_re [] (by kernel_rfl))
  ·
   refine AW.rg tt_ok1 [(2, vb false)] [] [] 12 [hn, hn, hf c2] (by kernel_rfl) ?_
   exact jl false h (conv_re [] (by kernel_rfl))
/-! recordlink/recordlinkref09.length -/
noncomputable def rl_ref09_length_k1 (x1 : Bool) : Option Bool := some x1
noncomputable def rl_ref09_length (p0 : Int) : Option Bool := if (decide (p0 ≥ 64)) = true then (if (decide (p0 ≤ 512)) = true then (rl_ref09_length_k1 ((p0.tmod 64) == 0)) else (rl_ref09_length_k1 false)) else (rl_ref09_length_k1 false)
set_option maxRecDepth 100000 in
theorem rl_ref09_length_con (p0 : Int) (r : Bool) (h : rl_ref09_length p0 = some r) : Con Try.prog 107 [vi64 p0] [] (vb r) [] := by
 refine con_of tt_ok1 0 Try.func107 (by kernel_rfl) rfl (by kernel_rfl) (fun base X _ => AW.post ?_)
 unfold rl_ref09_length at h
 refine AW.sg tt_ok1 [] [] [] 1 [] (by kernel_rfl) ?_
 refine AW.seq ?_
 refine AW.join (ι := Bool) (fun v => ⟨[(2, vb v)], [], 0⟩) (fun v : Bool => rl_ref09_length_k1 v = some r) (fun x1 h => ?_) ?_
 ·
  unfold rl_ref09_length_k1 at h
  refine AW.tn (AW.ret ?_)
  obtain rfl := some_inj h
  exact fn0 (.inr rfl) [] 0 (vb x1) (by kernel_rfl)
 ·
  rcases ifs h with ⟨c2, h⟩ | ⟨c2, h⟩
  ·
   rcases ifs h with ⟨c3, h⟩ | ⟨c3, h⟩
   ·
    refine AW.rg tt_ok1 [(2, vb ((p0.tmod 64) == 0))] [] [] 13 [hn, ht c2, hn, hn, ht c3, hn, hn, hn, ho (p := (64 : Int) ≠ 0) (by decide)] (by kernel_rfl) ?_
    exact jl ((p0.tmod 64) == 0) h (conv_re [] (by kernel_rfl))
   ·
    refine AW.rg tt_ok1 [(2, vb false)] [] [] 13 [hn, ht c2, hn, hn, hf c3] (by kernel_rfl) ?_
    exact jl false h (conv_re [] (by kernel_rfl))
  ·
   refine AW.rg tt_ok1 [(2, vb false)] [] [] 13 [hn, hf c2] (by kernel_rfl) ?_
   exact jl false h (conv_re [] (by kernel_rfl))
/-! recordlink/recordlinkref09.Valid -/
noncomputable def rl_ref09_Valid_k1 (x1 : Bool) : Option Bool := some x1
noncomputable def rl_ref09_Valid (p0 : S_api_Bits) : Option Bool := (rl_ref09_length p0.Length).bind fun y2 => (if y2 = true then (rl_ref09_Valid_k1 (((p0.Words.length : Nat) : Int) == (i64.wrap (p0.Length.tdiv 64)))) else (rl_ref09_Valid_k1 false))
set_option maxRecDepth 100000 in
theorem rl_ref09_Valid_con (p0 : S_api_Bits) (r : Bool) (h : rl_ref09_Valid p0 = some r) : Con Try.prog 87 [.agg [ci64 p0.Length, cl 1 Ru64 p0.Words]] [] (vb r) [] := by
 refine con_of tt_ok1 0 Try.func87 (by kernel_rfl) rfl (by kernel_rfl) (fun base X _ => AW.post ?_)
 unfold rl_ref09_Valid at h
 refine AW.sg tt_ok1 [(1, .c (.ptr 0 2 0 0))] [0] [(0, .box 84 [ci64 p0.Length, cl 1 Ru64 p0.Words])] 2 [] (by kernel_rfl) ?_
 refine AW.seq ?_
 refine AW.join (ι := Bool) (fun v => ⟨[(2, vb v)], [], 0⟩) (fun v : Bool => rl_ref09_Valid_k1 v = some r) (fun x1 h => ?_) ?_
 ·
  unfold rl_ref09_Valid_k1 at h
  refine AW.tn (AW.ret ?_)
  obtain rfl := some_inj h
  exact fn0 (.inr rfl) [] 0 (vb x1) (by kernel_rfl)
 ·
  obtain ⟨y2, e3, h⟩ := bnd_some h
  rcases ifs h with ⟨c4, hs⟩ | ⟨c4, hs⟩
  ·clear h; subst c4; have h := hs; clear hs
   refine AW.rg tt_ok1 [(2, vb (((p0.Words.length : Nat) : Int) == (i64.wrap (p0.Length.tdiv 64))))] [] [] 14 [hn, hn, hk (rl_ref09_length_con p0.Length true e3), hn, hn, hn, hn, hn, hn, ho (p := (64 : Int) ≠ 0) (by decide)] (by kernel_rfl) ?_
   exact jl (((p0.Words.length : Nat) : Int) == (i64.wrap (p0.Length.tdiv 64))) h (conv_re [] (by kernel_rfl))
  ·clear h; subst c4; have h := hs; clear hs
   refine AW.rg tt_ok1 [(2, vb false)] [] [] 14 [hn, hn, hk (rl_ref09_length_con p0.Length false e3)] (by kernel_rfl) ?_
   exact jl false h (conv_re [] (by kernel_rfl))
/-! recordlink/recordlinkref16.Valid -/
noncomputable def rl_ref16_Valid_k3 (x4 : Int) (x6 : Bool) : Option (Int ⊕ (Unit ⊕ Unit)) := if x6 = true then (some (.inr (.inr ()))) else (some (.inl (i64.wrap (x4 + 1))))
noncomputable def rl_ref16_Valid_l2 (p0 : S_api_Encoded) (x4 : Int) : Option (Int ⊕ (Unit ⊕ Unit)) := if (decide (x4 < ((p0.Fields.length : Nat) : Int))) = true then (if 0 ≤ x4 then (if x4 < ((p0.Fields.length : Nat) : Int) then ((rl_ref16_missing (p0.Fields.getD x4.toNat dS_api_Bits)).bind fun y10 => (if (!y10) = true then ((rl_ref09_Valid (p0.Fields.getD x4.toNat dS_api_Bits)).bind fun y13 => (rl_ref16_Valid_k3 x4 (!y13))) else (rl_ref16_Valid_k3 x4 false))) else none) else none) else (some (.inr (.inl ())))
noncomputable def rl_ref16_Valid_a4 : Option Bool := some true
noncomputable def rl_ref16_Valid_a5 : Option Bool := some false
noncomputable def rl_ref16_Valid_k1 (p0 : S_api_Encoded) (x1 : Bool) : Option Bool := if x1 = true then (some false) else (bindE (loop (fun v : Int => rl_ref16_Valid_l2 p0 v) 0) (fun t => rl_ref16_Valid_a4) (fun t => rl_ref16_Valid_a5))
noncomputable def rl_ref16_Valid (p0 : S_api_Encoded) : Option Bool := if (decide (p0.ID < 1)) = true then (rl_ref16_Valid_k1 p0 true) else (if (decide (p0.ID > 1048576)) = true then (rl_ref16_Valid_k1 p0 true) else (if (decide (p0.Version < 1)) = true then (rl_ref16_Valid_k1 p0 true) else (if (decide (p0.Version > 1048576)) = true then (rl_ref16_Valid_k1 p0 true) else (if (decide (((p0.Fields.length : Nat) : Int) < 1)) = true then (rl_ref16_Valid_k1 p0 true) else (rl_ref16_Valid_k1 p0 (decide (((p0.Fields.length : Nat) : Int) > 5)))))))
set_option maxRecDepth 100000 in
theorem rl_ref16_Valid_con (p0 : S_api_Encoded) (r : Bool) (h : rl_ref16_Valid p0 = some r) : Con Try.prog 56 [.agg [ci64 p0.ID, ci64 p0.Version, cl 2 RS_api_Bits p0.Fields]] [] (vb r) [] := by
 refine con_of tt_ok1 0 Try.func56 (by kernel_rfl) rfl (by kernel_rfl) (fun base X _ => AW.post ?_)
 unfold rl_ref16_Valid at h
 refine AW.sg tt_ok1 [(1, .c (.ptr 0 3 0 0))] [0] [(0, .box 40 [ci64 p0.ID, ci64 p0.Version, cl 2 RS_api_Bits p0.Fields])] 2 [] (by kernel_rfl) ?_
 refine AW.seq (AW.seq ?_)
 refine AW.join (ι := Bool) (fun v => ⟨[(1, .c (.ptr 0 3 0 0)), (33, vb v)], [(0, .box 40 [ci64 p0.ID, ci64 p0.Version, cl 2 RS_api_Bits p0.Fields])], 1⟩) (fun v : Bool => rl_ref16_Valid_k1 p0 v = some r) (fun x1 h => ?_) ?_
 ·
  unfold rl_ref16_Valid_k1 at h
  refine AW.tn ?_
  refine AW.co h (by kernel_rfl) (fun c2 h => ?_) (fun c2 h => ?_)
  ·
   refine AW.sg tt_ok1 [(2, vb false)] [] [] 2 [] (by kernel_rfl) ?_
   refine AW.ret (AW.tr ?_)
   obtain rfl := some_inj h
   exact fn0 (.inr rfl) [] 0 (vb false) (by kernel_rfl)
  ·
   refine AW.skip (AW.tn (AW.seq ?_))
   refine AW.sg tt_ok1 [(3, vi64 0)] [] [] 2 [] (by kernel_rfl) ?_
   refine AW.block ?_
   refine AW.lpE h (fun v => ⟨[(1, .c (.ptr 0 3 0 0)), (3, vi64 v)], [(0, .box 40 [ci64 p0.ID, ci64 p0.Version, cl 2 RS_api_Bits p0.Fields])], 1⟩) (fun t => (.exit 0, ⟨[], [], 0⟩)) (fun t => (.ret, ⟨[(2, vb false)], [], 0⟩)) (conv_re [(0, 0)] (by kernel_rfl)) (fun _ => tv) (fun _ => tv) ?_ (fun t h => ?_) (fun t h => ?_)
   ·
    clear h
    intro x4 o h
    unfold rl_ref16_Valid_l2 at h
    refine AW.seq ?_
    refine AW.sg tt_ok1 [(38, vb (decide (x4 < ((p0.Fields.length : Nat) : Int))))] [] [] 6 [] (by kernel_rfl) ?_
    refine AW.co h (by kernel_rfl) (fun c5 h => ?_) (fun c5 h => ?_)
    ·
     refine AW.skip (AW.tn ?_)
     refine AW.seq (AW.block (AW.seq ?_))
     refine AW.join (ι := Bool) (fun v => ⟨[(1, .c (.ptr 0 3 0 0)), (3, vi64 x4), (56, vb v)], [(0, .box 40 [ci64 p0.ID, ci64 p0.Version, cl 2 RS_api_Bits p0.Fields])], 1⟩) (fun v : Bool => rl_ref16_Valid_k3 x4 v = some o) (fun x6 h => ?_) ?_
     ·
      unfold rl_ref16_Valid_k3 at h
      refine AW.tn ?_
      refine AW.co h (by kernel_rfl) (fun c7 h => ?_) (fun c7 h => ?_)
      ·
       refine AW.sg tt_ok1 [(2, vb false)] [] [] 2 [] (by kernel_rfl) ?_
       refine AW.ret (AW.inBlock_ret (AW.tr ?_))
       exact lpo h rfl (conv_re [] (by kernel_rfl))
      ·
       refine AW.skip (AW.inBlock_normal (AW.tn ?_))
       refine AW.rg tt_ok1 [(3, vi64 (i64.wrap (x4 + 1)))] [] [] 4 [] (by kernel_rfl) ?_
       exact lpn h (conv_re [(0, 0)] (by kernel_rfl))
     ·
      obtain ⟨g8, g9, h⟩ := ifd h
      obtain ⟨y10, e11, h⟩ := bnd_some h
      rcases ifs h with ⟨c12, h⟩ | ⟨c12, h⟩
      ·
       obtain ⟨y13, e14, h⟩ := bnd_some h
       refine AW.rg tt_ok1 [(56, vb (!y13))] [] [] 20 [hn, hn, hn, hq g8 g9, hn, hk (rl_ref16_missing_con (p0.Fields.getD x4.toNat dS_api_Bits) y10 e11), ht c12, hn, hn, hn, hn, hq g8 g9, hn, hk (rl_ref09_Valid_con (p0.Fields.getD x4.toNat dS_api_Bits) y13 e14)] (by kernel_rfl) ?_
       exact jl (!y13) h (conv_re [(0, 0)] (by kernel_rfl))
      ·
       refine AW.rg tt_ok1 [(56, vb false)] [] [] 21 [hn, hn, hn, hq g8 g9, hn, hk (rl_ref16_missing_con (p0.Fields.getD x4.toNat dS_api_Bits) y10 e11), hf c12] (by kernel_rfl) ?_
       exact jl false h (conv_re [(0, 0)] (by kernel_rfl))
    ·
     refine AW.exit (AW.thenQ_exit ?_)
     exact lpo h rfl (conv_re [] (by kernel_rfl))
   ·
    replace h : rl_ref16_Valid_a4 = some r := h
    unfold rl_ref16_Valid_a4 at h
    show (_ : Exit → St → Prop) (.exit 0) _
    refine AW.inBlock_hit (AW.tn ?_)
    refine AW.sg tt_ok1 [(2, vb true)] [] [] 1 [] (by kernel_rfl) ?_
    refine AW.ret ?_
    obtain rfl := some_inj h
    exact fn0 (.inr rfl) [] 0 (vb true) (by kernel_rfl)
   ·
    replace h : rl_ref16_Valid_a5 = some r := h
    unfold rl_ref16_Valid_a5 at h
    show (_ : Exit → St → Prop) (.ret) _
    refine AW.inBlock_ret (AW.tr ?_)
    obtain rfl := some_inj h
    exact fn0 (.inr rfl) [] 0 (vb false) (by kernel_rfl)
 ·
  rcases ifs h with ⟨c16, h⟩ | ⟨c16, h⟩
  ·
   refine AW.rg tt_ok1 [(33, vb true)] [] [] 32 [hn, hn, ht c16] (by kernel_rfl) ?_
   exact jl true h (conv_re [(0, 0)] (by kernel_rfl))
  ·
   rcases ifs h with ⟨c17, h⟩ | ⟨c17, h⟩
   ·
    refine AW.rg tt_ok1 [(33, vb true)] [] [] 32 [hn, hn, hf c16, hn, hn, hn, ht c17] (by kernel_rfl) ?_
    exact jl true h (conv_re [(0, 0)] (by kernel_rfl))
   ·
    rcases ifs h with ⟨c18, h⟩ | ⟨c18, h⟩
    ·
     refine AW.rg tt_ok1 [(33, vb true)] [] [] 32 [hn, hn, hf c16, hn, hn, hn, hf c17, hn, hn, hn, hn, ht c18] (by kernel_rfl) ?_
     exact jl true h (conv_re [(0, 0)] (by kernel_rfl))
    ·
     rcases ifs h with ⟨c19, h⟩ | ⟨c19, h⟩
     ·
      refine AW.rg tt_ok1 [(33, vb true)] [] [] 32 [hn, hn, hf c16, hn, hn, hn, hf c17, hn, hn, hn, hn, hf c18, hn, hn, hn, hn, ht c19] (by kernel_rfl) ?_
      exact jl true h (conv_re [(0, 0)] (by kernel_rfl))
     ·
      rcases ifs h with ⟨c20, h⟩ | ⟨c20, h⟩
      ·
       refine AW.rg tt_ok1 [(33, vb true)] [] [] 32 [hn, hn, hf c16, hn, hn, hn, hf c17, hn, hn, hn, hn, hf c18, hn, hn, hn, hn, hf c19, hn, hn, hn, hn, hn, ht c20] (by kernel_rfl) ?_
       exact jl true h (conv_re [(0, 0)] (by kernel_rfl))
      ·
       refine AW.rg tt_ok1 [(33, vb (decide (((p0.Fields.length : Nat) : Int) > 5)))] [] [] 32 [hn, hn, hf c16, hn, hn, hn, hf c17, hn, hn, hn, hn, hf c18, hn, hn, hn, hn, hf c19, hn, hn, hn, hn, hn, hf c20] (by kernel_rfl) ?_
       exact jl (decide (((p0.Fields.length : Nat) : Int) > 5)) h (conv_re [(0, 0)] (by kernel_rfl))
/-! recordlink/recordlinkref26.Check -/
noncomputable def rl_ref26_Check_k5 (x5 : Int) (x14 : Bool) : Option (Int ⊕ (Unit ⊕ Int)) := if x14 = true then (some (.inr (.inr 12))) else (some (.inl (i64.wrap (x5 + 1))))
noncomputable def rl_ref26_Check_k4 (p2 : List S_api_Sent) (x5 : Int) (x12 : Bool) : Option (Int ⊕ (Unit ⊕ Int)) := if x12 = true then (some (.inr (.inr 8))) else (if (decide (x5 > 0)) = true then (if 0 ≤ (i64.wrap (x5 - 1)) then (if (i64.wrap (x5 - 1)) < (p2.length : Int) then (rl_ref26_Check_k5 x5 (decide ((((p2.getD ((i64.wrap (x5 - 1)).toNat) dS_api_Sent).Record).ID) ≥ (((p2.getD x5.toNat dS_api_Sent).Record).ID)))) else none) else none) else (rl_ref26_Check_k5 x5 false))
noncomputable def rl_ref26_Check_k3 (p1 : Int) (p2 : List S_api_Sent) (x5 : Int) (x10 : Bool) : Option (Int ⊕ (Unit ⊕ Int)) := if x10 = true then (some (.inr (.inr 7))) else (if (((((p2.getD x5.toNat dS_api_Sent).Hashes).length : Nat) : Int) != p1) = true then (rl_ref26_Check_k4 p2 x5 true) else (rl_ref26_Check_k4 p2 x5 (((((p2.getD x5.toNat dS_api_Sent).Has).length : Nat) : Int) != p1)))
noncomputable def rl_ref26_Check_l2 (p0 : Int) (p1 : Int) (p2 : List S_api_Sent) (x5 : Int) : Option (Int ⊕ (Unit ⊕ Int)) := if (decide (x5 < (p2.length : Int))) = true then (if 0 ≤ x5 then (if x5 < (p2.length : Int) then ((rl_ref16_Valid ((p2.getD x5.toNat dS_api_Sent).Record)).bind fun y20 => (if (!y20) = true then (rl_ref26_Check_k3 p1 p2 x5 true) else (rl_ref26_Check_k3 p1 p2 x5 ((((((p2.getD x5.toNat dS_api_Sent).Record).Fields).length : Nat) : Int) != p0)))) else none) else none) else (some (.inr (.inl ())))
noncomputable def rl_ref26_Check_a6 : Option Int := some 0
noncomputable def rl_ref26_Check_a7 (x23 : Int) : Option Int := some x23
noncomputable def rl_ref26_Check_k1 (p0 : Int) (p1 : Int) (p2 : List S_api_Sent) (x1 : Bool) : Option Int := if x1 = true then (some 2) else (if (decide ((p2.length : Int) > 64)) = true then (some 1) else (bindE (loop (fun v : Int => rl_ref26_Check_l2 p0 p1 p2 v) 0) (fun t => rl_ref26_Check_a6) (fun t => rl_ref26_Check_a7 t)))
noncomputable def rl_ref26_Check (p0 : Int) (p1 : Int) (p2 : List S_api_Sent) : Option Int := if (decide (p0 < 1)) = true then (rl_ref26_Check_k1 p0 p1 p2 true) else (if (decide (p0 > 5)) = true then (rl_ref26_Check_k1 p0 p1 p2 true) else (if (decide (p1 < 1)) = true then (rl_ref26_Check_k1 p0 p1 p2 true) else (rl_ref26_Check_k1 p0 p1 p2 (decide (p1 > 8)))))
set_option maxRecDepth 100000 in
theorem rl_ref26_Check_con (p0 : Int) (p1 : Int) (p2 : List S_api_Sent) (r : Int) (h : rl_ref26_Check p0 p1 p2 = some r) : Con Try.prog 24 [vi64 p0, vi64 p1, vl 5 RS_api_Sent p2] [] (vi64 r) [] := by
 refine con_of tt_ok1 0 Try.func24 (by kernel_rfl) rfl (by kernel_rfl) (fun base X _ => AW.post ?_)
 unfold rl_ref26_Check at h
 refine AW.sg tt_ok1 [] [] [] 1 [] (by kernel_rfl) ?_
 refine AW.seq (AW.seq ?_)
 refine AW.join (ι := Bool) (fun v => ⟨[(0, vi64 p0), (1, vi64 p1), (2, vl 5 RS_api_Sent p2), (22, vb v)], [], 0⟩) (fun v : Bool => rl_ref26_Check_k1 p0 p1 p2 v = some r) (fun x1 h => ?_) ?_
 ·
  unfold rl_ref26_Check_k1 at h
  refine AW.tn ?_
  refine AW.co h (by kernel_rfl) (fun c2 h => ?_) (fun c2 h => ?_)
  ·
   refine AW.sg tt_ok1 [(6, vi64 2)] [] [] 1 [] (by kernel_rfl) ?_
   refine AW.ret (AW.tr ?_)
   obtain rfl := some_inj h
   exact fn0 (.inr rfl) [] 0 (vi64 2) (by kernel_rfl)
  ·
   refine AW.skip (AW.tn (AW.seq ?_))
   refine AW.sg tt_ok1 [(25, vb (decide ((p2.length : Int) > 64)))] [] [] 3 [] (by kernel_rfl) ?_
   refine AW.co h (by kernel_rfl) (fun c3 h => ?_) (fun c3 h => ?_)
   ·
    refine AW.sg tt_ok1 [(6, vi64 1)] [] [] 4 [] (by kernel_rfl) ?_
    refine AW.ret (AW.tr ?_)
    obtain rfl := some_inj h
    exact fn0 (.inr rfl) [] 0 (vi64 1) (by kernel_rfl)
   ·
    refine AW.skip (AW.tn (AW.seq ?_))
    refine AW.sg tt_ok1 [(7, vi64 0)] [] [] 4 [] (by kernel_rfl) ?_
    refine AW.block ?_
    refine AW.lpE h (fun v => ⟨[(0, vi64 p0), (1, vi64 p1), (2, vl 5 RS_api_Sent p2), (7, vi64 v)], [], 0⟩) (fun t => (.exit 0, ⟨[], [], 0⟩)) (fun t => (.ret, ⟨[(6, vi64 t)], [], 0⟩)) (conv_re [] (by kernel_rfl)) (fun _ => tv) (fun _ => tv) ?_ (fun t h => ?_) (fun x23 h => ?_)
    ·
     clear h
     intro x5 o h
     unfold rl_ref26_Check_l2 at h
     refine AW.seq ?_
     refine AW.sg tt_ok1 [(29, vb (decide (x5 < (p2.length : Int))))] [] [] 4 [] (by kernel_rfl) ?_
     refine AW.co h (by kernel_rfl) (fun c7 h => ?_) (fun c7 h => ?_)
     ·
      refine AW.skip (AW.tn ?_)
      refine AW.seq (AW.block ?_)
      obtain ⟨g8, g9, h⟩ := ifd h
      refine AW.sg tt_ok1 [(8, .c (.ptr 8 5 0 0))] [8] [(8, .box 44 [ci64 (((p2.getD x5.toNat dS_api_Sent).Record).ID), ci64 (((p2.getD x5.toNat dS_api_Sent).Record).Version), cl 2 RS_api_Bits (((p2.getD x5.toNat dS_api_Sent).Record).Fields), cl 1 Ru64 ((p2.getD x5.toNat dS_api_Sent).Hashes), cl 1 Rb ((p2.getD x5.toNat dS_api_Sent).Has)])] 10 [hn, hn, hq g8 g9] (by kernel_rfl) ?_
      refine AW.seq (AW.seq ?_)
      refine AW.join (ι := Bool) (fun v => ⟨[(0, vi64 p0), (1, vi64 p1), (2, vl 5 RS_api_Sent p2), (7, vi64 x5), (8, .c (.ptr 0 5 0 0)), (47, vb v)], [(0, .box 44 [ci64 (((p2.getD x5.toNat dS_api_Sent).Record).ID), ci64 (((p2.getD x5.toNat dS_api_Sent).Record).Version), cl 2 RS_api_Bits (((p2.getD x5.toNat dS_api_Sent).Record).Fields), cl 1 Ru64 ((p2.getD x5.toNat dS_api_Sent).Hashes), cl 1 Rb ((p2.getD x5.toNat dS_api_Sent).Has)])], 1⟩) (fun v : Bool => rl_ref26_Check_k3 p1 p2 x5 v = some o) (fun x10 h => ?_) ?_
      ·
       unfold rl_ref26_Check_k3 at h
       refine AW.tn ?_
       refine AW.co h (by kernel_rfl) (fun c11 h => ?_) (fun c11 h => ?_)
       ·
        refine AW.sg tt_ok1 [(6, vi64 7)] [] [] 2 [] (by kernel_rfl) ?_
        refine AW.ret (AW.tr ?_)
        refine AW.inBlock_ret (AW.tr ?_)
        exact lpo h rfl (conv_re [] (by kernel_rfl))
       ·
        refine AW.skip (AW.tn ?_)
        refine AW.seq (AW.seq ?_)
        refine AW.join (ι := Bool) (fun v => ⟨[(0, vi64 p0), (1, vi64 p1), (2, vl 5 RS_api_Sent p2), (7, vi64 x5), (8, .c (.ptr 0 5 0 0)), (59, vb v)], [(0, .box 44 [ci64 (((p2.getD x5.toNat dS_api_Sent).Record).ID), ci64 (((p2.getD x5.toNat dS_api_Sent).Record).Version), cl 2 RS_api_Bits (((p2.getD x5.toNat dS_api_Sent).Record).Fields), cl 1 Ru64 ((p2.getD x5.toNat dS_api_Sent).Hashes), cl 1 Rb ((p2.getD x5.toNat dS_api_Sent).Has)])], 1⟩) (fun v : Bool => rl_ref26_Check_k4 p2 x5 v = some o) (fun x12 h => ?_) ?_
        ·
         unfold rl_ref26_Check_k4 at h
         refine AW.tn ?_
         refine AW.co h (by kernel_rfl) (fun c13 h => ?_) (fun c13 h => ?_)
         ·
          refine AW.sg tt_ok1 [(6, vi64 8)] [] [] 2 [] (by kernel_rfl) ?_
          refine AW.ret (AW.tr ?_)
          refine AW.inBlock_ret (AW.tr ?_)
          exact lpo h rfl (conv_re [] (by kernel_rfl))
         ·
          refine AW.skip (AW.tn (AW.seq ?_))
          refine AW.join (ι := Bool) (fun v => ⟨[(0, vi64 p0), (1, vi64 p1), (2, vl 5 RS_api_Sent p2), (7, vi64 x5), (74, vb v)], [], 0⟩) (fun v : Bool => rl_ref26_Check_k5 x5 v = some o) (fun x14 h => ?_) ?_
          ·
           unfold rl_ref26_Check_k5 at h
           refine AW.tn ?_
           refine AW.co h (by kernel_rfl) (fun c15 h => ?_) (fun c15 h => ?_)
           ·
            refine AW.sg tt_ok1 [(6, vi64 12)] [] [] 1 [] (by kernel_rfl) ?_
            refine AW.ret (AW.inBlock_ret (AW.tr ?_))
            exact lpo h rfl (conv_re [] (by kernel_rfl))
           ·
            refine AW.skip (AW.inBlock_normal (AW.tn ?_))
            refine AW.rg tt_ok1 [(7, vi64 (i64.wrap (x5 + 1)))] [] [] 3 [] (by kernel_rfl) ?_
            exact lpn h (conv_re [] (by kernel_rfl))
          ·
           rcases ifs h with ⟨c16, h⟩ | ⟨c16, h⟩
           ·
            obtain ⟨g17, g18, h⟩ := ifd h
            refine AW.rd tt_ok1 mo1 [] [(74, vb (decide ((((p2.getD ((i64.wrap (x5 - 1)).toNat) dS_api_Sent).Record).ID) ≥ (((p2.getD x5.toNat dS_api_Sent).Record).ID))))] [] 16 [hn, ht c16, hn, hn, hn, hn, hq g17 g18] (by kernel_rfl) ?_
            exact jl (decide ((((p2.getD ((i64.wrap (x5 - 1)).toNat) dS_api_Sent).Record).ID) ≥ (((p2.getD x5.toNat dS_api_Sent).Record).ID))) h (conv_re [] (by kernel_rfl))
           ·
            refine AW.rd tt_ok1 mo1 [] [(74, vb false)] [] 16 [hn, hf c16] (by kernel_rfl) ?_
            exact jl false h (conv_re [] (by kernel_rfl))
        ·
         rcases ifs h with ⟨c19, h⟩ | ⟨c19, h⟩
         ·
          refine AW.rg tt_ok1 [(59, vb true)] [] [] 13 [hn, hn, hn, hn, ht c19] (by kernel_rfl) ?_
          exact jl true h (conv_re [(0, 0)] (by kernel_rfl))
         ·
          refine AW.rg tt_ok1 [(59, vb (((((p2.getD x5.toNat dS_api_Sent).Has).length : Nat) : Int) != p1))] [] [] 13 [hn, hn, hn, hn, hf c19] (by kernel_rfl) ?_
          exact jl (((((p2.getD x5.toNat dS_api_Sent).Has).length : Nat) : Int) != p1) h (conv_re [(0, 0)] (by kernel_rfl))
      ·
       obtain ⟨y20, e21, h⟩ := bnd_some h
       rcases ifs h with ⟨c22, h⟩ | ⟨c22, h⟩
       ·
        refine AW.rg tt_ok1 [(47, vb true)] [] [] 21 [hn, hn, hk (rl_ref16_Valid_con ((p2.getD x5.toNat dS_api_Sent).Record) y20 e21), ht c22] (by kernel_rfl) ?_
        exact jl true h (conv_re [(0, 8)] (by kernel_rfl))
       ·
        refine AW.rg tt_ok1 [(47, vb ((((((p2.getD x5.toNat dS_api_Sent).Record).Fields).length : Nat) : Int) != p0))] [] [] 21 [hn, hn, hk (rl_ref16_Valid_con ((p2.getD x5.toNat dS_api_Sent).Record) y20 e21), hf c22] (by kernel_rfl) ?_
        exact jl ((((((p2.getD x5.toNat dS_api_Sent).Record).Fields).length : Nat) : Int) != p0) h (conv_re [(0, 8)] (by kernel_rfl))
     ·
      refine AW.exit (AW.thenQ_exit ?_)
      exact lpo h rfl (conv_re [] (by kernel_rfl))
    ·
     replace h : rl_ref26_Check_a6 = some r := h
     unfold rl_ref26_Check_a6 at h
     show (_ : Exit → St → Prop) (.exit 0) _
     refine AW.inBlock_hit (AW.tn ?_)
     refine AW.sg tt_ok1 [(6, vi64 0)] [] [] 1 [] (by kernel_rfl) ?_
     refine AW.ret ?_
     obtain rfl := some_inj h
     exact fn0 (.inr rfl) [] 0 (vi64 0) (by kernel_rfl)
    ·
     unfold rl_ref26_Check_a7 at h
     show (_ : Exit → St → Prop) (.ret) _
     refine AW.inBlock_ret (AW.tr ?_)
     obtain rfl := some_inj h
     exact fn0 (.inr rfl) [] 0 (vi64 x23) (by kernel_rfl)
 ·
  rcases ifs h with ⟨c25, h⟩ | ⟨c25, h⟩
  ·
   refine AW.rg tt_ok1 [(22, vb true)] [] [] 15 [hn, ht c25] (by kernel_rfl) ?_
   exact jl true h (conv_re [] (by kernel_rfl))
  ·
   rcases ifs h with ⟨c26, h⟩ | ⟨c26, h⟩
   ·
    refine AW.rg tt_ok1 [(22, vb true)] [] [] 15 [hn, hf c25, hn, hn, ht c26] (by kernel_rfl) ?_
    exact jl true h (conv_re [] (by kernel_rfl))
   ·
    rcases ifs h with ⟨c27, h⟩ | ⟨c27, h⟩
    ·
     refine AW.rg tt_ok1 [(22, vb true)] [] [] 15 [hn, hf c25, hn, hn, hf c26, hn, hn, hn, ht c27] (by kernel_rfl) ?_
     exact jl true h (conv_re [] (by kernel_rfl))
    ·
     refine AW.rg tt_ok1 [(22, vb (decide (p1 > 8)))] [] [] 15 [hn, hf c25, hn, hn, hf c26, hn, hn, hn, hf c27] (by kernel_rfl) ?_
     exact jl (decide (p1 > 8)) h (conv_re [] (by kernel_rfl))
/-! recordlink/candidate.Find$1 -/
noncomputable def candidate_Find_f1 (p0 : S_api_Sent) (pc0 : Int) : Option (Bool × Int) := some ((p0.Record.ID == pc0), pc0)
set_option maxRecDepth 100000 in
theorem candidate_Find_f1_con (p0 : S_api_Sent) (pc0 : Int) (r : Bool × Int) (h : candidate_Find_f1 p0 pc0 = some r) : Con Try.prog 58 [.agg [ci64 p0.Record.ID, ci64 p0.Record.Version, cl 2 RS_api_Bits p0.Record.Fields, cl 1 Ru64 p0.Hashes, cl 1 Rb p0.Has], .c (.ptr 0 1 0 0)] [(0, .box 3 [ci64 pc0])] (vb r.1) [(0, .box 3 [ci64 r.2])] := by
 refine con_of tt_ok1 1 Try.func58 (by kernel_rfl) rfl (by kernel_rfl) (fun base X _ => AW.post ?_)
 unfold candidate_Find_f1 at h
 refine AW.sg tt_ok1 [(2, .c (.ptr 1 5 0 0))] [1] [(1, .box 44 [ci64 p0.Record.ID, ci64 p0.Record.Version, cl 2 RS_api_Bits p0.Record.Fields, cl 1 Ru64 p0.Hashes, cl 1 Rb p0.Has])] 3 [] (by kernel_rfl) ?_
 refine AW.sg tt_ok1 [(3, vb (p0.Record.ID == pc0))] [] [] 9 [] (by kernel_rfl) ?_
 refine AW.ret ?_
 obtain rfl := some_inj h
 exact fn0 (.inr rfl) [(0, 0)] 1 (vb (p0.Record.ID == pc0)) (by kernel_rfl)
/-! slices.IndexFunc[[]recordlink/api.Sent,recordlink/api.Sent] -/
noncomputable def slices_IndexFunc_api_Sent_candidate_Find_f1_l1 (p0 : List S_api_Sent) (x3 : Int) (x4 : Int) : Option ((Int × Int) ⊕ (Int ⊕ (Int × Int))) := if (decide (x3 < (p0.length : Int))) = true then (if 0 ≤ x3 then (if x3 < (p0.length : Int) then (bind2 (candidate_Find_f1 (⟨((p0.getD x3.toNat dS_api_Sent).Record), (p0.getD x3.toNat dS_api_Sent).Hashes, (p0.getD x3.toNat dS_api_Sent).Has⟩ : S_api_Sent) x4) fun y11 y12 => (if y11 = true then (some (.inr (.inr (x3, y12)))) else (some (.inl (i64.wrap (x3 + 1), y12))))) else none) else none) else (some (.inr (.inl x4)))
noncomputable def slices_IndexFunc_api_Sent_candidate_Find_f1_a2 (x15 : Int) : Option (Int × Int) := some ((-1), x15)
noncomputable def slices_IndexFunc_api_Sent_candidate_Find_f1_a3 (x16 : Int) (x17 : Int) : Option (Int × Int) := some (x16, x17)
noncomputable def slices_IndexFunc_api_Sent_candidate_Find_f1 (p0 : List S_api_Sent) (p1d0 : Int) : Option (Int × Int) := bindE (loop (fun v : Int × Int => slices_IndexFunc_api_Sent_candidate_Find_f1_l1 p0 v.1 v.2) (0, p1d0)) (fun t => slices_IndexFunc_api_Sent_candidate_Find_f1_a2 t) (fun t => slices_IndexFunc_api_Sent_candidate_Find_f1_a3 t.1 t.2)
set_option maxRecDepth 100000 in
theorem slices_IndexFunc_api_Sent_candidate_Find_f1_con (p0 : List S_api_Sent) (p1d0 : Int) (r : Int × Int) (h : slices_IndexFunc_api_Sent_candidate_Find_f1 p0 p1d0 = some r) : Con Try.prog 57 [vl 5 RS_api_Sent p0, .clo 58 [] [.c (.ptr 0 1 0 0)]] [(0, .box 3 [ci64 p1d0])] (vi64 r.1) [(0, .box 3 [ci64 r.2])] := by
 refine con_of tt_ok1 1 Try.func57 (by kernel_rfl) rfl (by kernel_rfl) (fun base X _ => AW.post ?_)
 unfold slices_IndexFunc_api_Sent_candidate_Find_f1 at h
 refine AW.sg tt_ok1 [] [] [] 2 [] (by kernel_rfl) ?_
 refine AW.seq ?_
 refine AW.sg tt_ok1 [(8, vi64 0), (7, vi64 (p0.length : Int))] [] [] 5 [] (by kernel_rfl) ?_
 refine AW.block ?_
 refine AW.lpE h (fun v => ⟨[(0, vl 5 RS_api_Sent p0), (1, .clo 58 [] [.c (.ptr 0 1 0 0)]), (7, vi64 (p0.length : Int)), (8, vi64 v.1)], [(0, .box 3 [ci64 v.2])], 1⟩) (fun t => (.exit 0, ⟨[], [(0, .box 3 [ci64 t])], 1⟩)) (fun t => (.ret, ⟨[(4, vi64 t.1)], [(0, .box 3 [ci64 t.2])], 1⟩)) (conv_re [(0, 0)] (by kernel_rfl)) (fun _ => tv) (fun _ => tv) ?_ (fun x15 h => ?_) (fun t h => ?_)
 ·
  clear h
  intro v o h
  obtain ⟨x3, x4⟩ := v
  replace h : slices_IndexFunc_api_Sent_candidate_Find_f1_l1 p0 x3 x4 = some o := h
  unfold slices_IndexFunc_api_Sent_candidate_Find_f1_l1 at h
  refine AW.sg tt_ok1 [(9, vb (decide (x3 < (p0.length : Int))))] [] [] 2 [] (by kernel_rfl) ?_
  refine AW.seq ?_
  refine AW.co h (by kernel_rfl) (fun c8 h => ?_) (fun c8 h => ?_)
  ·
   refine AW.skip (AW.tn ?_)
   refine AW.seq (AW.block ?_)
   refine AW.sg tt_ok1 [(5, vi64 x3)] [] [] 4 [] (by kernel_rfl) ?_
   obtain ⟨g9, g10, h⟩ := ifd h
   obtain ⟨y11, y12, e13, h⟩ := bind2_some h
   refine AW.sg tt_ok1 [(16, vb y11)] [0] [(0, .box 3 [ci64 y12])] 9 [hn, hn, hn, hq g9 g10, hn, hm [0] [] 0 (candidate_Find_f1_con (⟨((p0.getD x3.toNat dS_api_Sent).Record), (p0.getD x3.toNat dS_api_Sent).Hashes, (p0.getD x3.toNat dS_api_Sent).Has⟩ : S_api_Sent) x4 (y11, y12) e13) ⟨rfl, tv⟩] (by kernel_rfl) ?_
   refine AW.co h (by kernel_rfl) (fun c14 h => ?_) (fun c14 h => ?_)
   ·
    refine AW.sg tt_ok1 [(4, vi64 x3)] [] [] 11 [] (by kernel_rfl) ?_
    refine AW.ret (AW.inBlock_ret (AW.tr ?_))
    exact lpo h rfl (conv_re [(0, 0)] (by kernel_rfl))
   ·
    refine AW.skip (AW.inBlock_normal (AW.tn ?_))
    refine AW.rg tt_ok1 [(8, vi64 (i64.wrap (x3 + 1)))] [] [] 11 [] (by kernel_rfl) ?_
    exact lpn h (conv_re [(0, 0)] (by kernel_rfl))
  ·
   refine AW.exit (AW.thenQ_exit ?_)
   exact lpo h rfl (conv_re [(0, 0)] (by kernel_rfl))
 ·
  unfold slices_IndexFunc_api_Sent_candidate_Find_f1_a2 at h
  show (_ : Exit → St → Prop) (.exit 0) _
  refine AW.inBlock_hit (AW.tn ?_)
  refine AW.sg tt_ok1 [(4, vi64 (-1))] [] [] 2 [] (by kernel_rfl) ?_
  refine AW.ret ?_
  obtain rfl := some_inj h
  exact fn0 (.inr rfl) [(0, 0)] 1 (vi64 (-1)) (by kernel_rfl)
 ·
  obtain ⟨x16, x17⟩ := t
  replace h : slices_IndexFunc_api_Sent_candidate_Find_f1_a3 x16 x17 = some r := h
  unfold slices_IndexFunc_api_Sent_candidate_Find_f1_a3 at h
  show (_ : Exit → St → Prop) (.ret) _
  refine AW.inBlock_ret (AW.tr ?_)
  obtain rfl := some_inj h
  exact fn0 (.inr rfl) [(0, 0)] 1 (vi64 x16) (by kernel_rfl)
/-! recordlink/candidate.Find -/
noncomputable def candidate_Find (p0 : List S_api_Sent) (p1 : Int) : Option Int := bind2 (slices_IndexFunc_api_Sent_candidate_Find_f1 p0 p1) fun y1 y2 => (some y1)
set_option maxRecDepth 100000 in
theorem candidate_Find_con (p0 : List S_api_Sent) (p1 : Int) (r : Int) (h : candidate_Find p0 p1 = some r) : Con Try.prog 25 [vl 5 RS_api_Sent p0, vi64 p1] [] (vi64 r) [] := by
 refine con_of tt_ok1 0 Try.func25 (by kernel_rfl) rfl (by kernel_rfl) (fun base X _ => AW.post ?_)
 unfold candidate_Find at h
 refine AW.sg tt_ok1 [(3, .c (.ptr 0 1 0 0))] [0] [(0, .box 3 [ci64 p1])] 2 [] (by kernel_rfl) ?_
 obtain ⟨y1, y2, e3, h⟩ := bind2_some h
 refine AW.sg tt_ok1 [(4, vi64 y1)] [0] [] 5 [hn, hn, hm [0] [] 0 (slices_IndexFunc_api_Sent_candidate_Find_f1_con p0 p1 (y1, y2) e3) ⟨rfl, tv⟩] (by kernel_rfl) ?_
 refine AW.ret ?_
 obtain rfl := some_inj h
 exact fn0 (.inr rfl) [] 0 (vi64 y1) (by kernel_rfl)
/-! recordlink/recordlinkref26.Find -/
noncomputable def rl_ref26_Find_l1 (p0 : List S_api_Sent) (p1 : Int) (x2 : Int) : Option (Int ⊕ (Unit ⊕ Int)) := if (decide (x2 < (p0.length : Int))) = true then (if 0 ≤ x2 then (if x2 < (p0.length : Int) then (if ((((p0.getD x2.toNat dS_api_Sent).Record).ID) == p1) = true then (some (.inr (.inr x2))) else (some (.inl (i64.wrap (x2 + 1))))) else none) else none) else (some (.inr (.inl ())))
noncomputable def rl_ref26_Find_a2 : Option Int := some (-1)
noncomputable def rl_ref26_Find_a3 (x8 : Int) : Option Int := some x8
noncomputable def rl_ref26_Find (p0 : List S_api_Sent) (p1 : Int) : Option Int := bindE (loop (fun v : Int => rl_ref26_Find_l1 p0 p1 v) 0) (fun t => rl_ref26_Find_a2) (fun t => rl_ref26_Find_a3 t)
set_option maxRecDepth 100000 in
theorem rl_ref26_Find_con (p0 : List S_api_Sent) (p1 : Int) (r : Int) (h : rl_ref26_Find p0 p1 = some r) : Con Try.prog 26 [vl 5 RS_api_Sent p0, vi64 p1] [] (vi64 r) [] := by
 refine con_of tt_ok1 0 Try.func26 (by kernel_rfl) rfl (by kernel_rfl) (fun base X _ => AW.post ?_)
 unfold rl_ref26_Find at h
 refine AW.sg tt_ok1 [] [] [] 1 [] (by kernel_rfl) ?_
 refine AW.seq ?_
 refine AW.sg tt_ok1 [(5, vi64 0)] [] [] 2 [] (by kernel_rfl) ?_
 refine AW.block ?_
 refine AW.lpE h (fun v => ⟨[(0, vl 5 RS_api_Sent p0), (1, vi64 p1), (5, vi64 v)], [], 0⟩) (fun t => (.exit 0, ⟨[], [], 0⟩)) (fun t => (.ret, ⟨[(4, vi64 t)], [], 0⟩)) (conv_re [] (by kernel_rfl)) (fun _ => tv) (fun _ => tv) ?_ (fun t h => ?_) (fun x8 h => ?_)
 ·
  clear h
  intro x2 o h
  unfold rl_ref26_Find_l1 at h
  refine AW.seq ?_
  refine AW.sg tt_ok1 [(9, vb (decide (x2 < (p0.length : Int))))] [] [] 4 [] (by kernel_rfl) ?_
  refine AW.co h (by kernel_rfl) (fun c4 h => ?_) (fun c4 h => ?_)
  ·
   refine AW.skip (AW.tn ?_)
   refine AW.seq (AW.block ?_)
   obtain ⟨g5, g6, h⟩ := ifd h
   refine AW.sg tt_ok1 [(19, vb ((((p0.getD x2.toNat dS_api_Sent).Record).ID) == p1))] [] [] 12 [hn, hn, hq g5 g6] (by kernel_rfl) ?_
   refine AW.co h (by kernel_rfl) (fun c7 h => ?_) (fun c7 h => ?_)
   ·
    refine AW.sg tt_ok1 [(4, vi64 x2)] [] [] 14 [] (by kernel_rfl) ?_
    refine AW.ret (AW.inBlock_ret (AW.tr ?_))
    exact lpo h rfl (conv_re [] (by kernel_rfl))
   ·
    refine AW.skip (AW.inBlock_normal (AW.tn ?_))
    refine AW.rg tt_ok1 [(5, vi64 (i64.wrap (x2 + 1)))] [] [] 15 [] (by kernel_rfl) ?_
    exact lpn h (conv_re [] (by kernel_rfl))
  ·
   refine AW.exit (AW.thenQ_exit ?_)
   exact lpo h rfl (conv_re [] (by kernel_rfl))
 ·
  replace h : rl_ref26_Find_a2 = some r := h
  unfold rl_ref26_Find_a2 at h
  show (_ : Exit → St → Prop) (.exit 0) _
  refine AW.inBlock_hit (AW.tn ?_)
  refine AW.sg tt_ok1 [(4, vi64 (-1))] [] [] 1 [] (by kernel_rfl) ?_
  refine AW.ret ?_
  obtain rfl := some_inj h
  exact fn0 (.inr rfl) [] 0 (vi64 (-1)) (by kernel_rfl)
 ·
  unfold rl_ref26_Find_a3 at h
  show (_ : Exit → St → Prop) (.ret) _
  refine AW.inBlock_ret (AW.tr ?_)
  obtain rfl := some_inj h
  exact fn0 (.inr rfl) [] 0 (vi64 x8) (by kernel_rfl)
/-! recordlink/recordlinkref26.Agree -/
noncomputable def rl_ref26_Agree_k3 (x2 : Int) (x5 : Bool) : Option (Int ⊕ (Unit ⊕ Unit)) := if x5 = true then (some (.inr (.inr ()))) else (some (.inl (i64.wrap (x2 + 1))))
noncomputable def rl_ref26_Agree_k2 (p0 : S_api_Sent) (p1 : S_api_Sent) (x2 : Int) (x3 : Bool) : Option (Int ⊕ (Unit ⊕ Unit)) := if x3 = true then (if 0 ≤ x2 then (if x2 < ((p0.Has.length : Nat) : Int) then (if (p0.Has.getD x2.toNat false) = true then (if x2 < ((p1.Has.length : Nat) : Int) then (if (p1.Has.getD x2.toNat false) = true then (if x2 < ((p0.Hashes.length : Nat) : Int) then (if x2 < ((p1.Hashes.length : Nat) : Int) then (rl_ref26_Agree_k3 x2 ((p0.Hashes.getD x2.toNat 0) == (p1.Hashes.getD x2.toNat 0))) else none) else none) else (rl_ref26_Agree_k3 x2 false)) else none) else (rl_ref26_Agree_k3 x2 false)) else none) else none) else (some (.inr (.inl ())))
noncomputable def rl_ref26_Agree_l1 (p0 : S_api_Sent) (p1 : S_api_Sent) (x2 : Int) : Option (Int ⊕ (Unit ⊕ Unit)) := if (decide (x2 < ((p0.Hashes.length : Nat) : Int))) = true then (if (decide (x2 < ((p0.Has.length : Nat) : Int))) = true then (if (decide (x2 < ((p1.Hashes.length : Nat) : Int))) = true then (rl_ref26_Agree_k2 p0 p1 x2 (decide (x2 < ((p1.Has.length : Nat) : Int)))) else (rl_ref26_Agree_k2 p0 p1 x2 false)) else (rl_ref26_Agree_k2 p0 p1 x2 false)) else (rl_ref26_Agree_k2 p0 p1 x2 false)
noncomputable def rl_ref26_Agree_a4 : Option Bool := some false
noncomputable def rl_ref26_Agree_a5 : Option Bool := some true
noncomputable def rl_ref26_Agree (p0 : S_api_Sent) (p1 : S_api_Sent) : Option Bool := bindE (loop (fun v : Int => rl_ref26_Agree_l1 p0 p1 v) 0) (fun t => rl_ref26_Agree_a4) (fun t => rl_ref26_Agree_a5)
set_option maxRecDepth 100000 in
theorem rl_ref26_Agree_con (p0 : S_api_Sent) (p1 : S_api_Sent) (r : Bool) (h : rl_ref26_Agree p0 p1 = some r) : Con Try.prog 28 [.agg [ci64 p0.Record.ID, ci64 p0.Record.Version, cl 2 RS_api_Bits p0.Record.Fields, cl 1 Ru64 p0.Hashes, cl 1 Rb p0.Has], .agg [ci64 p1.Record.ID, ci64 p1.Record.Version, cl 2 RS_api_Bits p1.Record.Fields, cl 1 Ru64 p1.Hashes, cl 1 Rb p1.Has]] [] (vb r) [] := by
 refine con_of tt_ok1 0 Try.func28 (by kernel_rfl) rfl (by kernel_rfl) (fun base X _ => AW.post ?_)
 unfold rl_ref26_Agree at h
 refine AW.sg tt_ok1 [(3, .c (.ptr 1 5 0 0)), (2, .c (.ptr 0 5 0 0))] [0, 1] [(1, .box 44 [ci64 p1.Record.ID, ci64 p1.Record.Version, cl 2 RS_api_Bits p1.Record.Fields, cl 1 Ru64 p1.Hashes, cl 1 Rb p1.Has]), (0, .box 44 [ci64 p0.Record.ID, ci64 p0.Record.Version, cl 2 RS_api_Bits p0.Record.Fields, cl 1 Ru64 p0.Hashes, cl 1 Rb p0.Has])] 3 [] (by kernel_rfl) ?_
 refine AW.seq ?_
 refine AW.sg tt_ok1 [(5, vi64 0)] [] [] 4 [] (by kernel_rfl) ?_
 refine AW.block ?_
 refine AW.lpE h (fun v => ⟨[(2, .c (.ptr 0 5 0 0)), (3, .c (.ptr 1 5 0 0)), (5, vi64 v)], [(0, .box 44 [ci64 p0.Record.ID, ci64 p0.Record.Version, cl 2 RS_api_Bits p0.Record.Fields, cl 1 Ru64 p0.Hashes, cl 1 Rb p0.Has]), (1, .box 44 [ci64 p1.Record.ID, ci64 p1.Record.Version, cl 2 RS_api_Bits p1.Record.Fields, cl 1 Ru64 p1.Hashes, cl 1 Rb p1.Has])], 2⟩) (fun t => (.exit 0, ⟨[], [], 0⟩)) (fun t => (.ret, ⟨[(4, vb true)], [], 0⟩)) (conv_re [(0, 0), (1, 1)] (by kernel_rfl)) (fun _ => tv) (fun _ => tv) ?_ (fun t h => ?_) (fun t h => ?_)
 ·
  clear h
  intro x2 o h
  unfold rl_ref26_Agree_l1 at h
  refine AW.seq (AW.seq ?_)
  refine AW.join (ι := Bool) (fun v => ⟨[(2, .c (.ptr 0 5 0 0)), (3, .c (.ptr 1 5 0 0)), (5, vi64 x2), (31, vb v)], [(0, .box 44 [ci64 p0.Record.ID, ci64 p0.Record.Version, cl 2 RS_api_Bits p0.Record.Fields, cl 1 Ru64 p0.Hashes, cl 1 Rb p0.Has]), (1, .box 44 [ci64 p1.Record.ID, ci64 p1.Record.Version, cl 2 RS_api_Bits p1.Record.Fields, cl 1 Ru64 p1.Hashes, cl 1 Rb p1.Has])], 2⟩) (fun v : Bool => rl_ref26_Agree_k2 p0 p1 x2 v = some o) (fun x3 h => ?_) ?_
  ·
   unfold rl_ref26_Agree_k2 at h
   refine AW.tn ?_
   refine AW.co h (by kernel_rfl) (fun c4 h => ?_) (fun c4 h => ?_)
   ·
    refine AW.skip (AW.tn ?_)
    refine AW.seq (AW.block (AW.seq ?_))
    refine AW.join (ι := Bool) (fun v => ⟨[(2, .c (.ptr 0 5 0 0)), (3, .c (.ptr 1 5 0 0)), (5, vi64 x2), (58, vb v)], [(0, .box 44 [ci64 p0.Record.ID, ci64 p0.Record.Version, cl 2 RS_api_Bits p0.Record.Fields, cl 1 Ru64 p0.Hashes, cl 1 Rb p0.Has]), (1, .box 44 [ci64 p1.Record.ID, ci64 p1.Record.Version, cl 2 RS_api_Bits p1.Record.Fields, cl 1 Ru64 p1.Hashes, cl 1 Rb p1.Has])], 2⟩) (fun v : Bool => rl_ref26_Agree_k3 x2 v = some o) (fun x5 h => ?_) ?_
    ·
     unfold rl_ref26_Agree_k3 at h
     refine AW.tn ?_
     refine AW.co h (by kernel_rfl) (fun c6 h => ?_) (fun c6 h => ?_)
     ·
      refine AW.sg tt_ok1 [(4, vb true)] [] [] 3 [] (by kernel_rfl) ?_
      refine AW.ret (AW.inBlock_ret (AW.tr ?_))
      exact lpo h rfl (conv_re [] (by kernel_rfl))
     ·
      refine AW.skip (AW.inBlock_normal (AW.tn ?_))
      refine AW.rg tt_ok1 [(5, vi64 (i64.wrap (x2 + 1)))] [] [] 5 [] (by kernel_rfl) ?_
      exact lpn h (conv_re [(0, 0), (1, 1)] (by kernel_rfl))
    ·
     obtain ⟨g7, g8, h⟩ := ifd h
     rcases ifs h with ⟨c9, h⟩ | ⟨c9, h⟩
     ·
      obtain ⟨g10, h⟩ := ifc h
      rcases ifs h with ⟨c11, h⟩ | ⟨c11, h⟩
      ·
       obtain ⟨g12, g13, h⟩ := ifd h
       refine AW.rd tt_ok1 mo1 [] [(58, vb ((p0.Hashes.getD x2.toNat 0) == (p1.Hashes.getD x2.toNat 0)))] [] 27 [hn, hn, hn, hq g7 g8, hbq true (hn) c9, hn, hn, hn, hn, hq g7 g10, hbq true (hn) c11, hn, hn, hn, hn, hn, hq g7 g12, hn, hn, hn, hn, hq g7 g13] (by kernel_rfl) ?_
       exact jl ((p0.Hashes.getD x2.toNat 0) == (p1.Hashes.getD x2.toNat 0)) h (conv_re [(0, 0), (1, 1)] (by kernel_rfl))
      ·
       refine AW.rd tt_ok1 mo1 [] [(58, vb false)] [] 27 [hn, hn, hn, hq g7 g8, hbq true (hn) c9, hn, hn, hn, hn, hq g7 g10, hbq false (hn) c11] (by kernel_rfl) ?_
       exact jl false h (conv_re [(0, 0), (1, 1)] (by kernel_rfl))
     ·
      refine AW.rd tt_ok1 mo1 [] [(58, vb false)] [] 27 [hn, hn, hn, hq g7 g8, hbq false (hn) c9] (by kernel_rfl) ?_
      exact jl false h (conv_re [(0, 0), (1, 1)] (by kernel_rfl))
   ·
    refine AW.exit (AW.thenQ_exit ?_)
    exact lpo h rfl (conv_re [] (by kernel_rfl))
  ·
   rcases ifs h with ⟨c14, h⟩ | ⟨c14, h⟩
   ·
    rcases ifs h with ⟨c15, h⟩ | ⟨c15, h⟩
    ·
     rcases ifs h with ⟨c16, h⟩ | ⟨c16, h⟩
     ·
      refine AW.rg tt_ok1 [(31, vb (decide (x2 < ((p1.Has.length : Nat) : Int))))] [] [] 28 [hn, hn, hn, hn, ht c14, hn, hn, hn, hn, hn, ht c15, hn, hn, hn, hn, hn, hn, ht c16] (by kernel_rfl) ?_
      exact jl (decide (x2 < ((p1.Has.length : Nat) : Int))) h (conv_re [(0, 0), (1, 1)] (by kernel_rfl))
     ·
      refine AW.rg tt_ok1 [(31, vb false)] [] [] 28 [hn, hn, hn, hn, ht c14, hn, hn, hn, hn, hn, ht c15, hn, hn, hn, hn, hn, hn, hf c16] (by kernel_rfl) ?_
      exact jl false h (conv_re [(0, 0), (1, 1)] (by kernel_rfl))
    ·
     refine AW.rg tt_ok1 [(31, vb false)] [] [] 28 [hn, hn, hn, hn, ht c14, hn, hn, hn, hn, hn, hf c15] (by kernel_rfl) ?_
     exact jl false h (conv_re [(0, 0), (1, 1)] (by kernel_rfl))
   ·
    refine AW.rg tt_ok1 [(31, vb false)] [] [] 28 [hn, hn, hn, hn, hf c14] (by kernel_rfl) ?_
    exact jl false h (conv_re [(0, 0), (1, 1)] (by kernel_rfl))
 ·
  replace h : rl_ref26_Agree_a4 = some r := h
  unfold rl_ref26_Agree_a4 at h
  show (_ : Exit → St → Prop) (.exit 0) _
  refine AW.inBlock_hit (AW.tn ?_)
  refine AW.sg tt_ok1 [(4, vb false)] [] [] 1 [] (by kernel_rfl) ?_
  refine AW.ret ?_
  obtain rfl := some_inj h
  exact fn0 (.inr rfl) [] 0 (vb false) (by kernel_rfl)
 ·
  replace h : rl_ref26_Agree_a5 = some r := h
  unfold rl_ref26_Agree_a5 at h
  show (_ : Exit → St → Prop) (.ret) _
  refine AW.inBlock_ret (AW.tr ?_)
  obtain rfl := some_inj h
  exact fn0 (.inr rfl) [] 0 (vb true) (by kernel_rfl)
def EllS_api_Sent (x : List (List S_api_Sent)) : List T := [.tree x.length 1 (RlS_api_Sent x)]
def RllS_api_Sent (xs : List (List (List S_api_Sent))) : Nat → Nat → T := rowL ([] : List (List S_api_Sent)) EllS_api_Sent xs
def Eli64 (x : List Int) : List T := [.tree x.length 1 (Ri64 x)]
def Rli64 (xs : List (List Int)) : Nat → Nat → T := rowL ([] : List Int) Eli64 xs
/-! recordlink/recordlinkref25.fits -/
noncomputable def rl_ref25_fits_k1 (x1 : Bool) : Option Bool := some x1
noncomputable def rl_ref25_fits (p0 : Int) : Option Bool := if (decide (p0 ≥ (-65536))) = true then (rl_ref25_fits_k1 (decide (p0 ≤ 65536))) else (rl_ref25_fits_k1 false)
set_option maxRecDepth 100000 in
theorem rl_ref25_fits_con (p0 : Int) (r : Bool) (h : rl_ref25_fits p0 = some r) : Con Try.prog 88 [vi64 p0] [] (vb r) [] := by
 refine con_of tt_ok1 0 Try.func88 (by kernel_rfl) rfl (by kernel_rfl) (fun base X _ => AW.post ?_)
 unfold rl_ref25_fits at h
 refine AW.sg tt_ok1 [] [] [] 1 [] (by kernel_rfl) ?_
 refine AW.seq ?_
 refine AW.join (ι := Bool) (fun v => ⟨[(2, vb v)], [], 0⟩) (fun v : Bool => rl_ref25_fits_k1 v = some r) (fun x1 h => ?_) ?_
 ·
  unfold rl_ref25_fits_k1 at h
  refine AW.tn (AW.ret ?_)
  obtain rfl := some_inj h
  exact fn0 (.inr rfl) [] 0 (vb x1) (by kernel_rfl)
 ·
  rcases ifs h with ⟨c2, h⟩ | ⟨c2, h⟩
  ·
   refine AW.rg tt_ok1 [(2, vb (decide (p0 ≤ 65536)))] [] [] 8 [hn, ht c2] (by kernel_rfl) ?_
   exact jl (decide (p0 ≤ 65536)) h (conv_re [] (by kernel_rfl))
  ·
   refine AW.rg tt_ok1 [(2, vb false)] [] [] 8 [hn, hf c2] (by kernel_rfl) ?_
   exact jl false h (conv_re [] (by kernel_rfl))
end Go.Proofs.Ytknlckjpgmjenaa
