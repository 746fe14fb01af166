/- Printed by a program of mine (vmgen.py): Go functions, and what they come to. -/
import Derived.Test.YtknlckjpgmjenaaVr
import Derived.Test.YtknlckjpgmjenaaRows
import Derived.Test.YtknlckjpgmjenaaVw
import Derived.Test.YtknlckjpgmjenaaG1
namespace Go.Proofs.Ytknlckjpgmjenaa
open Vm
open IntKind (i64 u64 u32 u8)
set_option maxHeartbeats 10000000
set_option linter.unusedVariables false
set_option linter.unusedSimpArgs false
set_option linter.constructorNameAsVariable false
def ttlL11 : List (Nat × TI) := [(3, ⟨.int .i64, 1, 8, [.int .i64 0], false⟩), (4, ⟨.bool, 1, 1, [.bool false], false⟩), (5, ⟨.int .u8, 1, 1, [.int .u8 0], false⟩), (22, ⟨.slice 3, 1, 24, [.slice none 0 0], false⟩), (25, ⟨.ptr 86, 1, 8, [.pointer none], false⟩), (31, ⟨.int .i64, 1, 8, [.int .i64 0], false⟩), (38, ⟨.slice 84, 1, 24, [.slice none 0 0], false⟩), (40, ⟨.struct [(3, 0), (3, 1), (38, 2)], 3, 40, [.int .i64 0, .int .i64 0, .slice none 0 0], false⟩), (41, ⟨.slice 45, 1, 24, [.slice none 0 0], false⟩), (45, ⟨.int .u64, 1, 8, [.int .u64 0], false⟩), (57, ⟨.slice 22, 1, 24, [.slice none 0 0], false⟩), (60, ⟨.arr 3 3, 3, 24, [.int .i64 0, .int .i64 0, .int .i64 0], true⟩), (65, ⟨.slice 40, 1, 24, [.slice none 0 0], false⟩), (67, ⟨.slice 72, 1, 24, [.slice none 0 0], false⟩), (72, ⟨.struct [(3, 0), (3, 1)], 2, 16, [.int .i64 0, .int .i64 0], true⟩), (77, ⟨.slice 67, 1, 24, [.slice none 0 0], false⟩), (84, ⟨.struct [(3, 0), (41, 1)], 2, 32, [.int .i64 0, .slice none 0 0], false⟩), (86, ⟨.struct [(22, 0), (3, 1), (45, 2)], 3, 40, [.slice none 0 0, .int .i64 0, .int .u64 0], false⟩), (127, ⟨.slice 65, 1, 24, [.slice none 0 0], false⟩), (129, ⟨.arr 6 3, 6, 48, [.int .i64 0, .int .i64 0, .int .i64 0, .int .i64 0, .int .i64 0, .int .i64 0], true⟩)]
theorem tt_okL11 : TTok Try.prog (Vm.look ttlL11) := ttok_of ⟨⟨by kernel_rfl, by kernel_rfl, by kernel_rfl⟩, ⟨by kernel_rfl, by kernel_rfl, by kernel_rfl⟩, ⟨by kernel_rfl, by kernel_rfl, by kernel_rfl⟩, ⟨by kernel_rfl, by kernel_rfl, by kernel_rfl⟩, ⟨by kernel_rfl, by kernel_rfl, by kernel_rfl⟩, ⟨by kernel_rfl, by kernel_rfl, by kernel_rfl⟩, ⟨by kernel_rfl, by kernel_rfl, by kernel_rfl⟩, ⟨by kernel_rfl, by kernel_rfl, by kernel_rfl⟩, ⟨by kernel_rfl, by kernel_rfl, by kernel_rfl⟩, ⟨by kernel_rfl, by kernel_rfl, by kernel_rfl⟩, ⟨by kernel_rfl, by kernel_rfl, by kernel_rfl⟩, ⟨by kernel_rfl, by kernel_rfl, by kernel_rfl⟩, ⟨by kernel_rfl, by kernel_rfl, by kernel_rfl⟩, ⟨by kernel_rfl, by kernel_rfl, by kernel_rfl⟩, ⟨by kernel_rfl, by kernel_rfl, by kernel_rfl⟩, ⟨by kernel_rfl, by kernel_rfl, by kernel_rfl⟩, ⟨by kernel_rfl, by kernel_rfl, by kernel_rfl⟩, ⟨by kernel_rfl, by kernel_rfl, by kernel_rfl⟩, ⟨by kernel_rfl, by kernel_rfl, by kernel_rfl⟩, ⟨by kernel_rfl, by kernel_rfl, by kernel_rfl⟩, trivial⟩
theorem moL11 : Try.prog.follows .mixedOrders = true := by kernel_rfl
/-! recordlink/recordlinklaw23.PatternAdds -/
noncomputable def rl_law23_PatternAdds_l2 (y18 : List S_api_Couple) (x25 : List S_api_Couple) (x26 : Int) : Option (((List S_api_Couple) × Int) ⊕ (List S_api_Couple)) := if (decide (x26 ≥ 0)) = true then (if 0 ≤ x26 then (if x26 < (y18.length : Int) then (if x25.length + ([(y18.getD (0 + x26.toNat) dS_api_Couple)] : List S_api_Couple).length ≤ 1099511627776 then (some (.inl ((x25 ++ ([(y18.getD (0 + x26.toNat) dS_api_Couple)] : List S_api_Couple)), i64.wrap (x26 - 1)))) else none) else none) else none) else (some (.inr x25))
noncomputable def rl_law23_PatternAdds_k3 (x53 : Bool) : Option Bool := some x53
noncomputable def rl_law23_PatternAdds_k1 (p0 : List Int) (p1 : Int) (x1 : Bool) : Option Bool := if x1 = true then ((rl_law23_awake).bind fun y3 => (some y3)) else ((rl_make_New p0).bind fun y5 => (bind2 (rl_make_Deck_Next y5 3) fun y7 y8 => (bind2 (rl_law23_records y8 (i64.wrap (1 + y7)) 5) fun y10 y11 => (bind2 (rl_law23_records y11 (i64.wrap (1 + y7)) 5) fun y13 y14 => (if 0 ≤ (i64.wrap (1 + y7)) then (if ((i64.wrap (1 + y7)).toNat) ≤ (([500, 800, 300] : List Int).length) then (bind2 (rl_law23_couples y14 y10 y13 12) fun y18 y19 => ((rl_make_Mod (i64.wrap p1) (i64.wrap ((y18.length : Int) + 1))).bind fun y21 => ((loop (fun v : (List S_api_Couple) × Int => rl_law23_PatternAdds_l2 y18 v.1 v.2) (([] : List S_api_Couple), i64.wrap ((y18.length : Int) - 1))).bind fun x32 => (bind2 (pattern_Tally y18 y10 y13 (([500, 800, 300] : List Int).take ((i64.wrap (1 + y7)).toNat))) fun y33 y34 => (if 0 + (i64.wrap (1 + y7)).toNat ≤ ([500, 800, 300] : List Int).length then (if 0 ≤ y21 then (if y21.toNat ≤ y18.length then (bind2 (pattern_Tally (y18.take y21.toNat) y10 y13 (([500, 800, 300] : List Int).take ((i64.wrap (1 + y7)).toNat))) fun y39 y40 => (if 0 + y21.toNat ≤ y18.length then (bind2 (pattern_Tally ((y18.drop (0 + y21.toNat)).take (y18.length - y21.toNat)) y10 y13 (([500, 800, 300] : List Int).take ((i64.wrap (1 + y7)).toNat))) fun y43 y44 => (if (0 + y21.toNat) + (y18.length - y21.toNat) ≤ y18.length then (bind2 (pattern_Add y39 y43 (i64.wrap (1 + y7))) fun y47 y48 => (bind2 (pattern_Tally x32 y10 y13 (([500, 800, 300] : List Int).take ((i64.wrap (1 + y7)).toNat))) fun y50 y51 => (if (y34 == 0) = true then (if (y40 == 0) = true then (if (y44 == 0) = true then (if (y48 == 0) = true then (if (y51 == 0) = true then ((rl_ref01_Ints y33 y47).bind fun y59 => (if y59 = true then ((rl_ref01_Ints y33 y50).bind fun y62 => (if y62 = true then ((pattern_Total y33).bind fun y65 => (rl_law23_PatternAdds_k3 (y65 == (y18.length : Int)))) else (rl_law23_PatternAdds_k3 false))) else (rl_law23_PatternAdds_k3 false))) else (rl_law23_PatternAdds_k3 false)) else (rl_law23_PatternAdds_k3 false)) else (rl_law23_PatternAdds_k3 false)) else (rl_law23_PatternAdds_k3 false)) else (rl_law23_PatternAdds_k3 false)))) else none)) else none)) else none) else none) else none))))) else none) else none)))))
noncomputable def rl_law23_PatternAdds (p0 : List Int) (p1 : Int) : Option Bool := (rl_law23_awake).bind fun y68 => (if (!y68) = true then (rl_law23_PatternAdds_k1 p0 p1 true) else ((rl_make_Few p0).bind fun y71 => (rl_law23_PatternAdds_k1 p0 p1 (!y71))))
set_option maxRecDepth 100000 in
theorem rl_law23_PatternAdds_con (p0 : List Int) (p1 : Int) (r : Bool) (h : rl_law23_PatternAdds p0 p1 = some r) : Con Try.prog 11 [vl 1 Ri64 p0, vu8 p1] [] (vb r) [] := by
 refine con_of tt_okL11 0 Try.func11 (by kernel_rfl) rfl (by kernel_rfl) (fun base X _ => AW.post ?_)
 unfold rl_law23_PatternAdds at h
 refine AW.sg tt_okL11 [] [] [] 1 [] (by kernel_rfl) ?_
 refine AW.seq (AW.seq ?_)
 refine AW.join (ι := Bool) (fun v => ⟨[(0, vl 1 Ri64 p0), (1, vu8 p1), (30, vb v)], [], 0⟩) (fun v : Bool => rl_law23_PatternAdds_k1 p0 p1 v = some r) (fun x1 h => ?_) ?_
 ·
  unfold rl_law23_PatternAdds_k1 at h
  refine AW.tn ?_
  refine AW.co h (by kernel_rfl) (fun c2 h => ?_) (fun c2 h => ?_)
  ·
   obtain ⟨y3, e4, h⟩ := bnd_some h
   refine AW.sg tt_okL11 [(4, vb y3)] [] [] 1 [hk (rl_law23_awake_con y3 e4)] (by kernel_rfl) ?_
   refine AW.ret (AW.tr ?_)
   obtain rfl := some_inj h
   exact fn0 (.inr rfl) [] 0 (vb y3) (by kernel_rfl)
  ·
   refine AW.skip (AW.tn ?_)
   obtain ⟨y5, e6, h⟩ := bnd_some h
   refine AW.sg tt_okL11 [(5, .c (.ptr 1 3 0 0))] [1] [(1, .box 86 [cl 1 Ri64 y5.list, ci64 y5.at_, cu64 y5.state])] 3 [hn, hl [] [] 1 (rl_make_New_con p0 y5 e6)] (by kernel_rfl) ?_
   obtain ⟨y7, y8, e9, h⟩ := bind2_some h
   refine AW.sg tt_okL11 [(6, vi64 (i64.wrap (1 + y7)))] [1] [(1, .box 86 [cl 1 Ri64 y8.list, ci64 y8.at_, cu64 y8.state])] 6 [hn, hl [1] [] 0 (rl_make_Deck_Next_con y5 3 (y7, y8) e9)] (by kernel_rfl) ?_
   obtain ⟨y10, y11, e12, h⟩ := bind2_some h
   obtain ⟨y13, y14, e15, h⟩ := bind2_some h
   refine AW.sg tt_okL11 [(8, .c (.ref 11 3 0 y13.length)), (7, .c (.ref 8 3 0 y10.length))] [1, 8, 11] [(1, .box 86 [cl 1 Ri64 y14.list, ci64 y14.at_, cu64 y14.state]), (11, .row 40 false 3 y13.length (RS_api_Encoded y13)), (8, .row 40 false 3 y10.length (RS_api_Encoded y10))] 14 [hn, hn, hl [1] [] 1 (rl_law23_records_con y8 (i64.wrap (1 + y7)) 5 (y10, y11) e12), hn, hn, hl [1] [] 1 (rl_law23_records_con y11 (i64.wrap (1 + y7)) 5 (y13, y14) e15)] (by kernel_rfl) ?_
   obtain ⟨g16, g17, h⟩ := ifd h
   refine AW.sg tt_okL11 [(9, .c (.ref 14 1 0 ((i64.wrap (1 + y7)).toNat)))] [14] [(14, .row 3 false 1 ([500, 800, 300] : List Int).length (Ri64 ([500, 800, 300] : List Int)))] 18 [hlit 0 Ei64 1 (fun _ => rfl) ([500, 800, 300] : List Int), hn, ho (p := (True) ∧ (0 ≤ (i64.wrap (1 + y7))) ∧ (0 ≤ ((i64.wrap (1 + y7)).toNat)) ∧ (((i64.wrap (1 + y7)).toNat) ≤ (([500, 800, 300] : List Int).length))) (⟨tv, g16, (Nat.zero_le _), g17⟩)] (by kernel_rfl) ?_
   obtain ⟨y18, y19, e20, h⟩ := bind2_some h
   refine AW.sg tt_okL11 [(10, .c (.ref 21 2 0 y18.length))] [1, 8, 11, 21] [(21, .row 72 false 2 y18.length (RS_api_Couple y18)), (8, .row 40 true 3 y10.length (RS_api_Encoded y10)), (11, .row 40 true 3 y13.length (RS_api_Encoded y13))] 23 [hn, hn, hn, hg [1] [8, 11] false 1 (q := (True) ∧ (0 + y10.length ≤ y10.length) ∧ (0 + y13.length ≤ y13.length) ∧ (True) ∧ (True)) ⟨tv, le0, le0, tv, tv⟩ (a0 := [.c (.ptr 0 3 0 0), vl 3 RS_api_Encoded y10, vl 3 RS_api_Encoded y13, vi64 12]) (rl_law23_couples_con y14 y10 y13 12 (y18, y19) e20) ⟨ArgLe.refl _, ArgLe.refl _, ArgLe.refl _, ArgLe.refl _, tv⟩ (fun h => by cases h)] (by kernel_rfl) ?_
   obtain ⟨y21, e22, h⟩ := bnd_some h
   refine AW.sg tt_okL11 [(11, vi64 y21)] [] [] 29 [hn, hn, hn, hn, hn, hk (rl_make_Mod_con (i64.wrap p1) (i64.wrap ((y18.length : Int) + 1)) y21 e22)] (by kernel_rfl) ?_
   refine AW.sg tt_okL11 [(12, .c (.t (.v (.slice none 0 0))))] [] [] 30 [] (by kernel_rfl) ?_
   refine AW.seq ?_
   refine AW.sg tt_okL11 [(13, vi64 (i64.wrap ((y18.length : Int) - 1)))] [] [] 34 [] (by kernel_rfl) ?_
   refine AW.block ?_
   obtain ⟨x32, l67, h⟩ := bnd_some h
   refine AW.lp l67 (fun v => ⟨[(6, vi64 (i64.wrap (1 + y7))), (7, vl 3 RS_api_Encoded y10), (8, vl 3 RS_api_Encoded y13), (9, .c (.ref 0 1 0 ((i64.wrap (1 + y7)).toNat))), (10, .c (.ref 1 2 0 y18.length)), (11, vi64 y21), (12, .c (.ref 2 2 0 v.1.length)), (13, vi64 v.2)], [(0, .row 3 false 1 ([500, 800, 300] : List Int).length (Ri64 ([500, 800, 300] : List Int))), (1, .row 72 false 2 y18.length (RS_api_Couple y18)), (2, .row 72 false 2 v.1.length (RS_api_Couple v.1))], 3⟩) (fun t : List S_api_Couple => (.exit 0, ⟨[(6, vi64 (i64.wrap (1 + y7))), (7, vl 3 RS_api_Encoded y10), (8, vl 3 RS_api_Encoded y13), (9, .c (.ref 0 1 0 ((i64.wrap (1 + y7)).toNat))), (10, .c (.ref 1 2 0 y18.length)), (11, vi64 y21), (12, .c (.ref 2 2 0 t.length))], [(0, .row 3 false 1 ([500, 800, 300] : List Int).length (Ri64 ([500, 800, 300] : List Int))), (1, .row 72 false 2 y18.length (RS_api_Couple y18)), (2, .row 72 false 2 t.length (RS_api_Couple t))], 3⟩)) (Conv.trans (conv_adopt (t := 12) (ty := 72) (sz := 2) (n := ([] : List S_api_Couple).length) (f := RS_api_Couple ([] : List S_api_Couple)) (by kernel_rfl) rfl) (Conv.trans (conv_tms [(7, vl 3 RS_api_Encoded y10), (8, vl 3 RS_api_Encoded y13)] ⟨⟨.c (.ref 8 3 0 y10.length), by kernel_rfl, ALe.c (CLe.ref (ty := 40) (f := RS_api_Encoded y10) (by kernel_rfl) le0)⟩, ⟨.c (.ref 11 3 0 y13.length), by kernel_rfl, ALe.c (CLe.ref (ty := 40) (f := RS_api_Encoded y13) (by kernel_rfl) le0)⟩, tv⟩) (conv_re [(0, 14), (1, 21), (2, 34)] (by kernel_rfl)))) (fun _ => tv) ?_ ?_
   ·
    clear l67 h
    intro v o h
    obtain ⟨x25, x26⟩ := v
    replace h : rl_law23_PatternAdds_l2 y18 x25 x26 = some o := h
    unfold rl_law23_PatternAdds_l2 at h
    refine AW.seq ?_
    refine AW.sg tt_okL11 [(60, vb (decide (x26 ≥ 0)))] [] [] 5 [] (by kernel_rfl) ?_
    refine AW.co h (by kernel_rfl) (fun c28 h => ?_) (fun c28 h => ?_)
    ·
     refine AW.skip (AW.tn ?_)
     refine AW.seq (AW.block ?_)
     obtain ⟨g29, g30, h⟩ := ifd h
     obtain ⟨g31, h⟩ := ifc h
     refine AW.rg tt_okL11 [(12, .c (.ref 11 2 0 ((x25 ++ ([(y18.getD (0 + x26.toNat) dS_api_Couple)] : List S_api_Couple)).length)))] [2, 10, 11] [(11, .row 72 false 2 (x25 ++ ([(y18.getD (0 + x26.toNat) dS_api_Couple)] : List S_api_Couple)).length (RS_api_Couple (x25 ++ ([(y18.getD (0 + x26.toNat) dS_api_Couple)] : List S_api_Couple))))] 13 [hn, hn, hn, hq g29 g30, ho (p := (0 + x26.toNat) < y18.length) (by have h1 : 0 ≤ x26 := g29; have h2 : x26 < (y18.length : Int) := g30; omega), hlit dS_api_Couple ES_api_Couple 2 (fun _ => rfl) ([(y18.getD (0 + x26.toNat) dS_api_Couple)] : List S_api_Couple), happ dS_api_Couple ES_api_Couple 2 16 x25 ([(y18.getD (0 + x26.toNat) dS_api_Couple)] : List S_api_Couple) g31 (by decide)] (by kernel_rfl) ?_
     refine AW.inBlock_normal (AW.tn ?_)
     refine AW.rg tt_okL11 [(13, vi64 (i64.wrap (x26 - 1)))] [] [] 16 [] (by kernel_rfl) ?_
     exact lpn h (conv_re [(0, 0), (1, 1), (2, 11)] (by kernel_rfl))
    ·
     refine AW.exit (AW.thenQ_exit ?_)
     exact lpo h rfl (conv_re [(0, 0), (1, 1), (2, 2)] (by kernel_rfl))
   ·
    show (_ : Exit → St → Prop) (.exit 0) _
    refine AW.inBlock_hit (AW.tn ?_)
    obtain ⟨y33, y34, e35, h⟩ := bind2_some h
    obtain ⟨g36, h⟩ := ifc h
    refine AW.sg tt_okL11 [(15, vi64 y34), (14, .c (.ref 7 1 0 y33.length))] [7] [(7, .row 3 false 1 y33.length (Ri64 y33))] 13 [hn, hn, hn, hn, hg [] [] true 1 (q := (0 + y18.length ≤ y18.length) ∧ (True) ∧ (True) ∧ (0 + (i64.wrap (1 + y7)).toNat ≤ ([500, 800, 300] : List Int).length) ∧ (True)) ⟨le0, tv, tv, g36, tv⟩ (a0 := [vl 2 RS_api_Couple y18, vl 3 RS_api_Encoded y10, vl 3 RS_api_Encoded y13, .c (.t (.tree ((i64.wrap (1 + y7)).toNat) 1 (Ri64 ([500, 800, 300] : List Int))))]) (pattern_Tally_con y18 y10 y13 (([500, 800, 300] : List Int).take ((i64.wrap (1 + y7)).toNat)) (y33, y34) e35) ⟨ArgLe.refl _, ArgLe.refl _, ArgLe.refl _, ArgLe.c (CAle.tree (take_row (by omega))), tv⟩ (fun _ => ⟨rowL_flat Vi64 _ _ _, tv⟩)] (by kernel_rfl) ?_
    obtain ⟨g37, g38, h⟩ := ifd h
    obtain ⟨y39, y40, e41, h⟩ := bind2_some h
    obtain ⟨g42, h⟩ := ifc h
    refine AW.sg tt_okL11 [(17, vi64 y40), (16, .c (.ref 19 1 0 y39.length))] [19] [(19, .row 3 false 1 y39.length (Ri64 y39))] 25 [hn, hn, ho (p := (True) ∧ (0 ≤ y21) ∧ (0 ≤ y21.toNat) ∧ (y21.toNat ≤ y18.length)) (⟨tv, g37, (Nat.zero_le _), g38⟩), hn, hn, hn, hg [] [] true 1 (q := (0 + y21.toNat ≤ y18.length) ∧ (True) ∧ (True) ∧ (0 + (i64.wrap (1 + y7)).toNat ≤ ([500, 800, 300] : List Int).length) ∧ (True)) ⟨g42, tv, tv, g36, tv⟩ (a0 := [.c (.t (.tree y21.toNat 2 (RS_api_Couple y18))), vl 3 RS_api_Encoded y10, vl 3 RS_api_Encoded y13, .c (.t (.tree ((i64.wrap (1 + y7)).toNat) 1 (Ri64 ([500, 800, 300] : List Int))))]) (pattern_Tally_con (y18.take y21.toNat) y10 y13 (([500, 800, 300] : List Int).take ((i64.wrap (1 + y7)).toNat)) (y39, y40) e41) ⟨ArgLe.c (CAle.tree (take_row (by omega))), ArgLe.refl _, ArgLe.refl _, ArgLe.c (CAle.tree (take_row (by omega))), tv⟩ (fun _ => ⟨rowL_flat Vi64 _ _ _, tv⟩)] (by kernel_rfl) ?_
    obtain ⟨y43, y44, e45, h⟩ := bind2_some h
    obtain ⟨g46, h⟩ := ifc h
    refine AW.sg tt_okL11 [(19, vi64 y44), (18, .c (.ref 31 1 0 y43.length))] [31] [(31, .row 3 false 1 y43.length (Ri64 y43))] 37 [hn, hn, ho (p := (0 ≤ y21) ∧ (True) ∧ (y21.toNat ≤ y18.length) ∧ (y18.length ≤ y18.length)) (⟨g37, tv, g38, (Nat.le_refl _)⟩), hn, hn, hn, hg [] [] true 1 (q := ((0 + y21.toNat) + (y18.length - y21.toNat) ≤ y18.length) ∧ (True) ∧ (True) ∧ (0 + (i64.wrap (1 + y7)).toNat ≤ ([500, 800, 300] : List Int).length) ∧ (True)) ⟨g46, tv, tv, g36, tv⟩ (a0 := [.c (.t (.tree (y18.length - y21.toNat) 2 (subF (0 + y21.toNat) (RS_api_Couple y18)))), vl 3 RS_api_Encoded y10, vl 3 RS_api_Encoded y13, .c (.t (.tree ((i64.wrap (1 + y7)).toNat) 1 (Ri64 ([500, 800, 300] : List Int))))]) (pattern_Tally_con ((y18.drop (0 + y21.toNat)).take (y18.length - y21.toNat)) y10 y13 (([500, 800, 300] : List Int).take ((i64.wrap (1 + y7)).toNat)) (y43, y44) e45) ⟨ArgLe.c (CAle.tree (part_rowS (by omega))), ArgLe.refl _, ArgLe.refl _, ArgLe.c (CAle.tree (take_row (by omega))), tv⟩ (fun _ => ⟨rowL_flat Vi64 _ _ _, tv⟩)] (by kernel_rfl) ?_
    obtain ⟨y47, y48, e49, h⟩ := bind2_some h
    refine AW.sg tt_okL11 [(21, vi64 y48), (20, vl 1 Ri64 y47)] [19, 31] [] 45 [hn, hn, hn, hg [] [19, 31] false 0 (q := (0 + y39.length ≤ y39.length) ∧ (0 + y43.length ≤ y43.length) ∧ (True) ∧ (True)) ⟨le0, le0, tv, tv⟩ (a0 := [vl 1 Ri64 y39, vl 1 Ri64 y43, vi64 (i64.wrap (1 + y7))]) (pattern_Add_con y39 y43 (i64.wrap (1 + y7)) (y47, y48) e49) ⟨ArgLe.refl _, ArgLe.refl _, ArgLe.refl _, tv⟩ (fun h => by cases h)] (by kernel_rfl) ?_
    obtain ⟨y50, y51, e52, h⟩ := bind2_some h
    refine AW.sg tt_okL11 [(23, vi64 y51), (22, .c (.ref 49 1 0 y50.length))] [49] [(49, .row 3 false 1 y50.length (Ri64 y50))] 55 [hn, hn, hn, hn, hg [] [] true 1 (q := (0 + x32.length ≤ x32.length) ∧ (True) ∧ (True) ∧ (0 + (i64.wrap (1 + y7)).toNat ≤ ([500, 800, 300] : List Int).length) ∧ (True)) ⟨le0, tv, tv, g36, tv⟩ (a0 := [vl 2 RS_api_Couple x32, vl 3 RS_api_Encoded y10, vl 3 RS_api_Encoded y13, .c (.t (.tree ((i64.wrap (1 + y7)).toNat) 1 (Ri64 ([500, 800, 300] : List Int))))]) (pattern_Tally_con x32 y10 y13 (([500, 800, 300] : List Int).take ((i64.wrap (1 + y7)).toNat)) (y50, y51) e52) ⟨ArgLe.refl _, ArgLe.refl _, ArgLe.refl _, ArgLe.c (CAle.tree (take_row (by omega))), tv⟩ (fun _ => ⟨rowL_flat Vi64 _ _ _, tv⟩)] (by kernel_rfl) ?_
    refine AW.seq ?_
    refine AW.join (ι := Bool) (fun v => ⟨[(4, vb v)], [], 0⟩) (fun v : Bool => rl_law23_PatternAdds_k3 v = some r) (fun x53 h => ?_) ?_
    ·
     unfold rl_law23_PatternAdds_k3 at h
     refine AW.tn (AW.ret ?_)
     obtain rfl := some_inj h
     exact fn0 (.inr rfl) [] 0 (vb x53) (by kernel_rfl)
    ·
     rcases ifs h with ⟨c54, h⟩ | ⟨c54, h⟩
     ·
      rcases ifs h with ⟨c55, h⟩ | ⟨c55, h⟩
      ·
       rcases ifs h with ⟨c56, h⟩ | ⟨c56, h⟩
       ·
        rcases ifs h with ⟨c57, h⟩ | ⟨c57, h⟩
        ·
         rcases ifs h with ⟨c58, h⟩ | ⟨c58, h⟩
         ·
          obtain ⟨y59, e60, h⟩ := bnd_some h
          rcases ifs h with ⟨c61, hs⟩ | ⟨c61, hs⟩
          ·clear h; subst c61; have h := hs; clear hs
           obtain ⟨y62, e63, h⟩ := bnd_some h
           rcases ifs h with ⟨c64, hs⟩ | ⟨c64, hs⟩
           ·clear h; subst c64; have h := hs; clear hs
            obtain ⟨y65, e66, h⟩ := bnd_some h
            refine AW.rg tt_okL11 [(4, vb (y65 == (y18.length : Int)))] [] [] 88 [hn, ht c54, hn, hn, ht c55, hn, hn, hn, ht c56, hn, hn, hn, ht c57, hn, hn, hn, ht c58, hn, hn, hn, hn, hg [] [] true 0 (q := (0 + y33.length ≤ y33.length) ∧ (True) ∧ (True)) ⟨le0, tv, tv⟩ (a0 := [vl 1 Ri64 y33, vl 1 Ri64 y47]) (rl_ref01_Ints_con y33 y47 true e60) ⟨ArgLe.refl _, ArgLe.refl _, tv⟩ (fun _ => tv), hn, hn, hn, hn, hg [] [] true 0 (q := (0 + y33.length ≤ y33.length) ∧ (0 + y50.length ≤ y50.length) ∧ (True)) ⟨le0, le0, tv⟩ (a0 := [vl 1 Ri64 y33, vl 1 Ri64 y50]) (rl_ref01_Ints_con y33 y50 true e63) ⟨ArgLe.refl _, ArgLe.refl _, tv⟩ (fun _ => tv), hn, hn, hn, hg [] [] true 0 (q := (0 + y33.length ≤ y33.length) ∧ (True)) ⟨le0, tv⟩ (a0 := [vl 1 Ri64 y33]) (pattern_Total_con y33 y65 e66) ⟨ArgLe.refl _, tv⟩ (fun _ => tv)] (by kernel_rfl) ?_
            exact jl (y65 == (y18.length : Int)) h (conv_re [] (by kernel_rfl))
           ·clear h; subst c64; have h := hs; clear hs
            refine AW.rg tt_okL11 [(4, vb false)] [] [] 89 [hn, ht c54, hn, hn, ht c55, hn, hn, hn, ht c56, hn, hn, hn, ht c57, hn, hn, hn, ht c58, hn, hn, hn, hn, hg [] [] true 0 (q := (0 + y33.length ≤ y33.length) ∧ (True) ∧ (True)) ⟨le0, tv, tv⟩ (a0 := [vl 1 Ri64 y33, vl 1 Ri64 y47]) (rl_ref01_Ints_con y33 y47 true e60) ⟨ArgLe.refl _, ArgLe.refl _, tv⟩ (fun _ => tv), hn, hn, hn, hn, hg [] [] true 0 (q := (0 + y33.length ≤ y33.length) ∧ (0 + y50.length ≤ y50.length) ∧ (True)) ⟨le0, le0, tv⟩ (a0 := [vl 1 Ri64 y33, vl 1 Ri64 y50]) (rl_ref01_Ints_con y33 y50 false e63) ⟨ArgLe.refl _, ArgLe.refl _, tv⟩ (fun _ => tv)] (by kernel_rfl) ?_
            exact jl false h (conv_re [] (by kernel_rfl))
          ·clear h; subst c61; have h := hs; clear hs
           refine AW.rg tt_okL11 [(4, vb false)] [] [] 90 [hn, ht c54, hn, hn, ht c55, hn, hn, hn, ht c56, hn, hn, hn, ht c57, hn, hn, hn, ht c58, hn, hn, hn, hn, hg [] [] true 0 (q := (0 + y33.length ≤ y33.length) ∧ (True) ∧ (True)) ⟨le0, tv, tv⟩ (a0 := [vl 1 Ri64 y33, vl 1 Ri64 y47]) (rl_ref01_Ints_con y33 y47 false e60) ⟨ArgLe.refl _, ArgLe.refl _, tv⟩ (fun _ => tv)] (by kernel_rfl) ?_
           exact jl false h (conv_re [] (by kernel_rfl))
         ·
          refine AW.rg tt_okL11 [(4, vb false)] [] [] 91 [hn, ht c54, hn, hn, ht c55, hn, hn, hn, ht c56, hn, hn, hn, ht c57, hn, hn, hn, hf c58] (by kernel_rfl) ?_
          exact jl false h (conv_re [] (by kernel_rfl))
        ·
         refine AW.rg tt_okL11 [(4, vb false)] [] [] 91 [hn, ht c54, hn, hn, ht c55, hn, hn, hn, ht c56, hn, hn, hn, hf c57] (by kernel_rfl) ?_
         exact jl false h (conv_re [] (by kernel_rfl))
       ·
        refine AW.rg tt_okL11 [(4, vb false)] [] [] 91 [hn, ht c54, hn, hn, ht c55, hn, hn, hn, hf c56] (by kernel_rfl) ?_
        exact jl false h (conv_re [] (by kernel_rfl))
      ·
       refine AW.rg tt_okL11 [(4, vb false)] [] [] 91 [hn, ht c54, hn, hn, hf c55] (by kernel_rfl) ?_
       exact jl false h (conv_re [] (by kernel_rfl))
     ·
      refine AW.rg tt_okL11 [(4, vb false)] [] [] 91 [hn, hf c54] (by kernel_rfl) ?_
      exact jl false h (conv_re [] (by kernel_rfl))
 ·
  obtain ⟨y68, e69, h⟩ := bnd_some h
  rcases ifs h with ⟨c70, h⟩ | ⟨c70, h⟩
  ·
   refine AW.rg tt_okL11 [(30, vb true)] [] [] 7 [hk (rl_law23_awake_con y68 e69), ht c70] (by kernel_rfl) ?_
   exact jl true h (conv_re [] (by kernel_rfl))
  ·
   obtain ⟨y71, e72, h⟩ := bnd_some h
   refine AW.rg tt_okL11 [(30, vb (!y71))] [] [] 6 [hk (rl_law23_awake_con y68 e69), hf c70, hn, hn, hk (rl_make_Few_con p0 y71 e72)] (by kernel_rfl) ?_
   exact jl (!y71) h (conv_re [] (by kernel_rfl))
end Go.Proofs.Ytknlckjpgmjenaa
