/- Printed by a program of mine (vmgen.py): Go functions, and what they come to. -/
import Derived.Test.YtilpgjoidgfbiaaVr
import Derived.Test.YtilpgjoidgfbiaaRows
import Derived.Test.YtilpgjoidgfbiaaG2
namespace Go.Proofs.Ytilpgjoidgfbiaa
open Vm
open IntKind (i64 u64 u32 u8)
set_option maxHeartbeats 10000000
set_option linter.unusedVariables false
set_option linter.unusedSimpArgs false
set_option linter.constructorNameAsVariable false
def ttlL6 : List (Nat × TI) := [(3, ⟨.int .i64, 1, 8, [.int .i64 0], false⟩), (4, ⟨.bool, 1, 1, [.bool false], false⟩), (5, ⟨.int .u8, 1, 1, [.int .u8 0], false⟩), (9, ⟨.str, 1, 16, [.string ⟨#[]⟩], false⟩), (22, ⟨.slice 3, 1, 24, [.slice none 0 0], false⟩), (23, ⟨.int .u16, 1, 2, [.int .u16 0], false⟩), (26, ⟨.ptr 72, 1, 8, [.pointer none], false⟩), (29, ⟨.slice 54, 1, 24, [.slice none 0 0], false⟩), (32, ⟨.struct [(3, 0), (22, 1), (22, 2)], 3, 56, [.int .i64 0, .slice none 0 0, .slice none 0 0], false⟩), (35, ⟨.struct [(3, 0), (3, 1), (3, 2)], 3, 24, [.int .i64 0, .int .i64 0, .int .i64 0], true⟩), (36, ⟨.int .i64, 1, 8, [.int .i64 0], false⟩), (42, ⟨.slice 69, 1, 24, [.slice none 0 0], false⟩), (44, ⟨.struct [(42, 0), (42, 1)], 2, 48, [.slice none 0 0, .slice none 0 0], false⟩), (52, ⟨.struct [(3, 0), (3, 1)], 2, 16, [.int .i64 0, .int .i64 0], true⟩), (54, ⟨.struct [(52, 0), (52, 2), (3, 4), (3, 5)], 6, 48, [.int .i64 0, .int .i64 0, .int .i64 0, .int .i64 0, .int .i64 0, .int .i64 0], true⟩), (69, ⟨.int .u32, 1, 4, [.int .u32 0], false⟩), (70, ⟨.int .u64, 1, 8, [.int .u64 0], false⟩), (72, ⟨.struct [(22, 0), (3, 1), (70, 2)], 3, 40, [.slice none 0 0, .int .i64 0, .int .u64 0], false⟩), (75, ⟨.slice 78, 1, 24, [.slice none 0 0], false⟩), (78, ⟨.struct [(52, 0), (52, 2), (3, 4)], 5, 40, [.int .i64 0, .int .i64 0, .int .i64 0, .int .i64 0, .int .i64 0], true⟩), (115, ⟨.arr 6 3, 6, 48, [.int .i64 0, .int .i64 0, .int .i64 0, .int .i64 0, .int .i64 0, .int .i64 0], true⟩), (121, ⟨.struct [(42, 0), (36, 1)], 2, 32, [.slice none 0 0, .int .i64 0], false⟩), (132, ⟨.slice 121, 1, 24, [.slice none 0 0], false⟩)]
theorem tt_okL6 : TTok Try.prog (Vm.look ttlL6) := ttok_of ⟨⟨by kernel_rfl, by kernel_rfl, by kernel_rfl⟩, ⟨by kernel_rfl, by kernel_rfl, by kernel_rfl⟩, ⟨by kernel_rfl, by kernel_rfl, by kernel_rfl⟩, ⟨by kernel_rfl, by kernel_rfl, by kernel_rfl⟩, ⟨by kernel_rfl, by kernel_rfl, by kernel_rfl⟩, ⟨by kernel_rfl, by kernel_rfl, by kernel_rfl⟩, ⟨by kernel_rfl, by kernel_rfl, by kernel_rfl⟩, ⟨by kernel_rfl, by kernel_rfl, by kernel_rfl⟩, ⟨by kernel_rfl, by kernel_rfl, by kernel_rfl⟩, ⟨by kernel_rfl, by kernel_rfl, by kernel_rfl⟩, ⟨by kernel_rfl, by kernel_rfl, by kernel_rfl⟩, ⟨by kernel_rfl, by kernel_rfl, by kernel_rfl⟩, ⟨by kernel_rfl, by kernel_rfl, by kernel_rfl⟩, ⟨by kernel_rfl, by kernel_rfl, by kernel_rfl⟩, ⟨by kernel_rfl, by kernel_rfl, by kernel_rfl⟩, ⟨by kernel_rfl, by kernel_rfl, by kernel_rfl⟩, ⟨by kernel_rfl, by kernel_rfl, by kernel_rfl⟩, ⟨by kernel_rfl, by kernel_rfl, by kernel_rfl⟩, ⟨by kernel_rfl, by kernel_rfl, by kernel_rfl⟩, ⟨by kernel_rfl, by kernel_rfl, by kernel_rfl⟩, ⟨by kernel_rfl, by kernel_rfl, by kernel_rfl⟩, ⟨by kernel_rfl, by kernel_rfl, by kernel_rfl⟩, ⟨by kernel_rfl, by kernel_rfl, by kernel_rfl⟩, trivial⟩
theorem moL6 : Try.prog.follows .mixedOrders = true := by kernel_rfl
/-! recordlink/recordlinklaw33.QualitySums -/
noncomputable def rl_law33_QualitySums_k4 (x30 : Int) (y50 : S_api_Estimate) (x53 : Bool) : Option ((Int × Int × Int × Int) ⊕ ((Int × Int × Int) ⊕ Unit)) := if x53 = true then (some (.inr (.inr ()))) else (some (.inl (i64.wrap (x30 + 1), y50.False, y50.Missed, y50.True)))
noncomputable def rl_law33_QualitySums_k3 (x30 : Int) (x31 : Int) (x32 : Int) (x33 : Int) (x46 : Int) (x47 : Int) (x48 : Int) (x49 : Int) : Option ((Int × Int × Int × Int) ⊕ ((Int × Int × Int) ⊕ Unit)) := bind2 (quality_Add (⟨x31, x32, x33⟩ : S_api_Estimate) (⟨x47, x48, x49⟩ : S_api_Estimate)) fun y50 y51 => (if (x46 != 0) = true then (rl_law33_QualitySums_k4 x30 y50 true) else (rl_law33_QualitySums_k4 x30 y50 (y51 != 0)))
noncomputable def rl_law33_QualitySums_l2 (y10 : List S_api_Candidate) (y13 : S_em_model) (y16 : Int) (x30 : Int) (x31 : Int) (x32 : Int) (x33 : Int) : Option ((Int × Int × Int × Int) ⊕ ((Int × Int × Int) ⊕ Unit)) := if (decide (x30 < (y10.length : Int))) = true then (if 0 ≤ x30 then (if 0 ≤ (i64.wrap (x30 + 1)) then (if x30.toNat ≤ ((i64.wrap (x30 + 1)).toNat) then (if ((i64.wrap (x30 + 1)).toNat) ≤ y10.length then (bind2 (quality_Of y13 ((y10.drop (0 + x30.toNat)).take ((i64.wrap (x30 + 1)).toNat - x30.toNat)) ([] : List S_api_Candidate)) fun y42 y43 => (if (0 + x30.toNat) + ((i64.wrap (x30 + 1)).toNat - x30.toNat) ≤ y10.length then (if (decide (x30 ≥ y16)) = true then (bind2 (quality_Of y13 ([] : List S_api_Candidate) ((y10.drop (0 + x30.toNat)).take ((i64.wrap (x30 + 1)).toNat - x30.toNat))) fun y57 y58 => (rl_law33_QualitySums_k3 x30 x31 x32 x33 y58 y57.False y57.Missed y57.True)) else (rl_law33_QualitySums_k3 x30 x31 x32 x33 y43 y42.False y42.Missed y42.True)) else none)) else none) else none) else none) else none) else (some (.inr (.inl (x31, x32, x33))))
noncomputable def rl_law33_QualitySums_k5 (x63 : Bool) : Option Bool := some x63
noncomputable def rl_law33_QualitySums_a6 (y16 : Int) (y21 : S_api_Estimate) (y22 : Int) (x60 : Int) (x61 : Int) (x62 : Int) : Option Bool := if (y22 == 0) = true then (if ((y21.False == x60) && ((y21.Missed == x61) && ((y21.True == x62) && true))) = true then (rl_law33_QualitySums_k5 ((i64.wrap (y21.True + y21.False)) == (i64.wrap (y16 * 1073741824)))) else (rl_law33_QualitySums_k5 false)) else (rl_law33_QualitySums_k5 false)
noncomputable def rl_law33_QualitySums_a7 : Option Bool := some false
noncomputable def rl_law33_QualitySums_k1 (p0 : List Int) (x1 : Bool) : Option Bool := if x1 = true then ((rl_law33_awake).bind fun y3 => (some y3)) else ((rl_make_New p0).bind fun y5 => (bind2 (rl_make_Deck_Next y5 3) fun y7 y8 => (bind2 (rl_play_Candidates y8 (i64.wrap (1 + y7))) fun y10 y11 => (bind2 (rl_make_Deck_Model y11 (i64.wrap (1 + y7))) fun y13 y14 => (bind2 (rl_make_Deck_Next y14 (i64.wrap ((y10.length : Int) + 1))) fun y16 y17 => (if 0 ≤ y16 then (if y16.toNat ≤ y10.length then (bind2 (quality_Of y13 (y10.take y16.toNat) ((y10.drop (0 + y16.toNat)).take (y10.length - y16.toNat))) fun y21 y22 => (if 0 + y16.toNat ≤ y10.length then (if (0 + y16.toNat) + (y10.length - y16.toNat) ≤ y10.length then (bindE (loop (fun v : Int × Int × Int × Int => rl_law33_QualitySums_l2 y10 y13 y16 v.1 v.2.1 v.2.2.1 v.2.2.2) (0, 0, 0, 0)) (fun t => rl_law33_QualitySums_a6 y16 y21 y22 t.1 t.2.1 t.2.2) (fun t => rl_law33_QualitySums_a7)) else none) else none)) else none) else none))))))
noncomputable def rl_law33_QualitySums (p0 : List Int) : Option Bool := (rl_law33_awake).bind fun y67 => (if (!y67) = true then (rl_law33_QualitySums_k1 p0 true) else ((rl_make_Few p0).bind fun y70 => (rl_law33_QualitySums_k1 p0 (!y70))))
set_option maxRecDepth 100000 in
theorem rl_law33_QualitySums_con (p0 : List Int) (r : Bool) (h : rl_law33_QualitySums p0 = some r) : Con Try.prog 6 [vl 1 Ri64 p0] [] (vb r) [] := by
 refine con_of tt_okL6 0 Try.func6 (by kernel_rfl) rfl (by kernel_rfl) (fun base X _ => AW.post ?_)
 unfold rl_law33_QualitySums at h
 refine AW.sg tt_okL6 [] [] [] 1 [] (by kernel_rfl) ?_
 refine AW.seq (AW.seq ?_)
 refine AW.join (ι := Bool) (fun v => ⟨[(0, vl 1 Ri64 p0), (22, vb v)], [], 0⟩) (fun v : Bool => rl_law33_QualitySums_k1 p0 v = some r) (fun x1 h => ?_) ?_
 ·
  unfold rl_law33_QualitySums_k1 at h
  refine AW.tn ?_
  refine AW.co h (by kernel_rfl) (fun c2 h => ?_) (fun c2 h => ?_)
  ·
   obtain ⟨y3, e4, h⟩ := bnd_some h
   refine AW.sg tt_okL6 [(2, vb y3)] [] [] 1 [hk (rl_law33_awake_con y3 e4)] (by kernel_rfl) ?_
   refine AW.ret (AW.tr ?_)
   obtain rfl := some_inj h
   exact fn0 (.inr rfl) [] 0 (vb y3) (by kernel_rfl)
  ·
   refine AW.skip (AW.tn ?_)
   obtain ⟨y5, e6, h⟩ := bnd_some h
   refine AW.sg tt_okL6 [(3, .c (.ptr 1 3 0 0))] [1] [(1, .box 72 [cl 1 Ri64 y5.list, ci64 y5.at_, cu64 y5.state])] 3 [hn, hl [] [] 1 (rl_make_New_con p0 y5 e6)] (by kernel_rfl) ?_
   obtain ⟨y7, y8, e9, h⟩ := bind2_some h
   refine AW.sg tt_okL6 [(4, vi64 (i64.wrap (1 + y7)))] [1] [(1, .box 72 [cl 1 Ri64 y8.list, ci64 y8.at_, cu64 y8.state])] 6 [hn, hl [1] [] 0 (rl_make_Deck_Next_con y5 3 (y7, y8) e9)] (by kernel_rfl) ?_
   obtain ⟨y10, y11, e12, h⟩ := bind2_some h
   obtain ⟨y13, y14, e15, h⟩ := bind2_some h
   refine AW.sg tt_okL6 [(5, .c (.ref 8 6 0 y10.length)), (6, .c (.ptr 13 3 0 0))] [1, 8, 11, 12, 13] [(13, .box 32 [ci64 y13.Prior, .ref 11 1 0 y13.Match.length, .ref 12 1 0 y13.Random.length]), (1, .box 72 [cl 1 Ri64 y14.list, ci64 y14.at_, cu64 y14.state]), (11, .row 3 false 1 y13.Match.length (Ri64 y13.Match)), (12, .row 3 false 1 y13.Random.length (Ri64 y13.Random)), (8, .row 54 false 6 y10.length (RS_api_Candidate y10))] 16 [hn, hn, hl [1] [] 1 (rl_play_Candidates_con y8 (i64.wrap (1 + y7)) (y10, y11) e12), hn, hn, hl [1] [] 2 (rl_make_Deck_Model_con y11 (i64.wrap (1 + y7)) (y13, y14) e15)] (by kernel_rfl) ?_
   obtain ⟨y16, y17, e18, h⟩ := bind2_some h
   refine AW.sg tt_okL6 [(7, vi64 y16)] [1] [] 21 [hn, hn, hn, hn, hl [1] [] 0 (rl_make_Deck_Next_con y14 (i64.wrap ((y10.length : Int) + 1)) (y16, y17) e18)] (by kernel_rfl) ?_
   obtain ⟨g19, g20, h⟩ := ifd h
   obtain ⟨y21, y22, e23, h⟩ := bind2_some h
   obtain ⟨g24, g25, h⟩ := ifd h
   refine AW.sd tt_okL6 moL6 [[], [], [], [], [], [], [], [], [], [], [], [31], [31]] [(9, vi64 y22), (8, .c (.ptr 31 3 0 0))] [(31, .box 35 [ci64 y21.False, ci64 y21.Missed, ci64 y21.True])] 34 [hn, hn, hn, ho (p := (True) ∧ (0 ≤ y16) ∧ (0 ≤ y16.toNat) ∧ (y16.toNat ≤ y10.length)) (⟨tv, g19, (Nat.zero_le _), g20⟩), hn, hn, ho (p := (0 ≤ y16) ∧ (True) ∧ (y16.toNat ≤ y10.length) ∧ (y10.length ≤ y10.length)) (⟨g19, tv, g20, (Nat.le_refl _)⟩), hg [] [] true 0 (q := ((True) ∧ (0 + y13.Match.length ≤ y13.Match.length) ∧ (0 + y13.Random.length ≤ y13.Random.length) ∧ (True)) ∧ (0 + y16.toNat ≤ y10.length) ∧ ((0 + y16.toNat) + (y10.length - y16.toNat) ≤ y10.length) ∧ (True)) ⟨⟨tv, le0, le0, tv⟩, g24, g25, tv⟩ (a0 := [.agg [ci64 y13.Prior, cl 1 Ri64 y13.Match, cl 1 Ri64 y13.Random], .c (.t (.tree y16.toNat 6 (RS_api_Candidate y10))), .c (.t (.tree (y10.length - y16.toNat) 6 (subF (0 + y16.toNat) (RS_api_Candidate y10))))]) (quality_Of_con y13 (y10.take y16.toNat) ((y10.drop (0 + y16.toNat)).take (y10.length - y16.toNat)) (y21, y22) e23) ⟨ArgLe.refl _, ArgLe.c (CAle.tree (take_row (by omega))), ArgLe.c (CAle.tree (part_rowS (by omega))), tv⟩ (fun _ => tv)] (by kernel_rfl) ?_
   refine AW.sg tt_okL6 [(10, .c (.ptr 35 3 0 0))] [35] [(35, .box 35 [ci64 0, ci64 0, ci64 0])] 37 [] (by kernel_rfl) ?_
   refine AW.seq ?_
   refine AW.sg tt_okL6 [(54, vi64 0), (53, vi64 (y10.length : Int))] [] [] 40 [] (by kernel_rfl) ?_
   refine AW.block ?_
   refine AW.lpE h (fun v => ⟨[(5, .c (.ref 0 6 0 y10.length)), (6, .c (.ptr 1 3 0 0)), (7, vi64 y16), (8, .c (.ptr 2 3 0 0)), (9, vi64 y22), (10, .c (.ptr 3 3 0 0)), (53, vi64 (y10.length : Int)), (54, vi64 v.1)], [(0, .row 54 false 6 y10.length (RS_api_Candidate y10)), (1, .box 32 [ci64 y13.Prior, .ref 4 1 0 y13.Match.length, .ref 5 1 0 y13.Random.length]), (2, .box 35 [ci64 y21.False, ci64 y21.Missed, ci64 y21.True]), (3, .box 35 [ci64 v.2.1, ci64 v.2.2.1, ci64 v.2.2.2]), (4, .row 3 false 1 y13.Match.length (Ri64 y13.Match)), (5, .row 3 false 1 y13.Random.length (Ri64 y13.Random))], 6⟩) (fun t => (.exit 0, ⟨[(7, vi64 y16), (8, .c (.ptr 0 3 0 0)), (9, vi64 y22), (10, .c (.ptr 1 3 0 0))], [(0, .box 35 [ci64 y21.False, ci64 y21.Missed, ci64 y21.True]), (1, .box 35 [ci64 t.1, ci64 t.2.1, ci64 t.2.2])], 2⟩)) (fun t => (.ret, ⟨[(2, vb false)], [], 0⟩)) (conv_re [(0, 8), (1, 13), (2, 31), (3, 35), (4, 11), (5, 12)] (by kernel_rfl)) (fun _ => tv) (fun _ => tv) ?_ (fun t h => ?_) (fun t h => ?_)
   ·
    clear h
    intro v o h
    obtain ⟨x30, x31, x32, x33⟩ := v
    replace h : rl_law33_QualitySums_l2 y10 y13 y16 x30 x31 x32 x33 = some o := h
    unfold rl_law33_QualitySums_l2 at h
    refine AW.sg tt_okL6 [(55, vb (decide (x30 < (y10.length : Int))))] [] [] 7 [] (by kernel_rfl) ?_
    refine AW.seq ?_
    refine AW.co h (by kernel_rfl) (fun c37 h => ?_) (fun c37 h => ?_)
    ·
     refine AW.skip (AW.tn ?_)
     refine AW.seq (AW.block ?_)
     refine AW.sg tt_okL6 [(11, vi64 x30)] [] [] 9 [] (by kernel_rfl) ?_
     obtain ⟨g38, g39, h⟩ := ifd h
     obtain ⟨g40, g41, h⟩ := ifd h
     obtain ⟨y42, y43, e44, h⟩ := bind2_some h
     obtain ⟨g45, h⟩ := ifc h
     refine AW.sd tt_okL6 moL6 [[], [], [], [], [], [], [], [], [], [], [18], [18]] [(13, vi64 y43), (12, .c (.ptr 18 3 0 0))] [(18, .box 35 [ci64 y42.False, ci64 y42.Missed, ci64 y42.True])] 21 [hn, hn, hn, hn, hn, ho (p := (0 ≤ x30) ∧ (0 ≤ (i64.wrap (x30 + 1))) ∧ (x30.toNat ≤ ((i64.wrap (x30 + 1)).toNat)) ∧ (((i64.wrap (x30 + 1)).toNat) ≤ y10.length)) (⟨g38, g39, g40, g41⟩), hg [] [] true 0 (q := ((True) ∧ (0 + y13.Match.length ≤ y13.Match.length) ∧ (0 + y13.Random.length ≤ y13.Random.length) ∧ (True)) ∧ ((0 + x30.toNat) + ((i64.wrap (x30 + 1)).toNat - x30.toNat) ≤ y10.length) ∧ (True) ∧ (True)) ⟨⟨tv, le0, le0, tv⟩, g45, tv, tv⟩ (a0 := [.agg [ci64 y13.Prior, cl 1 Ri64 y13.Match, cl 1 Ri64 y13.Random], .c (.t (.tree ((i64.wrap (x30 + 1)).toNat - x30.toNat) 6 (subF (0 + x30.toNat) (RS_api_Candidate y10)))), .c (.t (.v (.slice none 0 0)))]) (quality_Of_con y13 ((y10.drop (0 + x30.toNat)).take ((i64.wrap (x30 + 1)).toNat - x30.toNat)) ([] : List S_api_Candidate) (y42, y43) e44) ⟨ArgLe.refl _, ArgLe.c (CAle.tree (part_rowS (by omega))), ArgLe.c (CAle.nil rfl), tv⟩ (fun _ => tv)] (by kernel_rfl) ?_
     refine AW.seq ?_
     refine AW.join (ι := Int × Int × Int × Int) (fun v => ⟨[(5, .c (.ref 0 6 0 y10.length)), (6, .c (.ptr 1 3 0 0)), (7, vi64 y16), (8, .c (.ptr 2 3 0 0)), (9, vi64 y22), (10, .c (.ptr 3 3 0 0)), (12, .c (.ptr 4 3 0 0)), (13, vi64 v.1), (53, vi64 (y10.length : Int)), (54, vi64 x30)], [(0, .row 54 false 6 y10.length (RS_api_Candidate y10)), (1, .box 32 [ci64 y13.Prior, .ref 5 1 0 y13.Match.length, .ref 6 1 0 y13.Random.length]), (2, .box 35 [ci64 y21.False, ci64 y21.Missed, ci64 y21.True]), (3, .box 35 [ci64 x31, ci64 x32, ci64 x33]), (4, .box 35 [ci64 v.2.1, ci64 v.2.2.1, ci64 v.2.2.2]), (5, .row 3 false 1 y13.Match.length (Ri64 y13.Match)), (6, .row 3 false 1 y13.Random.length (Ri64 y13.Random))], 7⟩) (fun v : Int × Int × Int × Int => rl_law33_QualitySums_k3 x30 x31 x32 x33 v.1 v.2.1 v.2.2.1 v.2.2.2 = some o) (fun v h => ?_) ?_
     ·
      obtain ⟨x46, x47, x48, x49⟩ := v
      replace h : rl_law33_QualitySums_k3 x30 x31 x32 x33 x46 x47 x48 x49 = some o := h
      unfold rl_law33_QualitySums_k3 at h
      refine AW.tn ?_
      obtain ⟨y50, y51, e52, h⟩ := bind2_some h
      refine AW.sg tt_okL6 [(15, vi64 y51), (14, .c (.ptr 12 3 0 0))] [12] [(12, .box 35 [ci64 y50.False, ci64 y50.Missed, ci64 y50.True])] 15 [hn, hn, hk (quality_Add_con (⟨x31, x32, x33⟩ : S_api_Estimate) (⟨x47, x48, x49⟩ : S_api_Estimate) (y50, y51) e52)] (by kernel_rfl) ?_
      refine AW.seq (AW.seq ?_)
      refine AW.join (ι := Bool) (fun v => ⟨[(5, .c (.ref 0 6 0 y10.length)), (6, .c (.ptr 1 3 0 0)), (7, vi64 y16), (8, .c (.ptr 2 3 0 0)), (9, vi64 y22), (10, .c (.ptr 3 3 0 0)), (14, .c (.ptr 4 3 0 0)), (53, vi64 (y10.length : Int)), (54, vi64 x30), (91, vb v)], [(0, .row 54 false 6 y10.length (RS_api_Candidate y10)), (1, .box 32 [ci64 y13.Prior, .ref 5 1 0 y13.Match.length, .ref 6 1 0 y13.Random.length]), (2, .box 35 [ci64 y21.False, ci64 y21.Missed, ci64 y21.True]), (3, .box 35 [ci64 x31, ci64 x32, ci64 x33]), (4, .box 35 [ci64 y50.False, ci64 y50.Missed, ci64 y50.True]), (5, .row 3 false 1 y13.Match.length (Ri64 y13.Match)), (6, .row 3 false 1 y13.Random.length (Ri64 y13.Random))], 7⟩) (fun v : Bool => rl_law33_QualitySums_k4 x30 y50 v = some o) (fun x53 h => ?_) ?_
      ·
       unfold rl_law33_QualitySums_k4 at h
       refine AW.tn ?_
       refine AW.co h (by kernel_rfl) (fun c54 h => ?_) (fun c54 h => ?_)
       ·
        refine AW.sg tt_okL6 [(2, vb false)] [] [] 8 [] (by kernel_rfl) ?_
        refine AW.ret (AW.tr ?_)
        refine AW.inBlock_ret (AW.tr ?_)
        exact lpo h rfl (conv_re [] (by kernel_rfl))
       ·
        refine AW.skip (AW.tn ?_)
        refine AW.rg tt_okL6 [] [3] [(3, .box 35 [ci64 y50.False, ci64 y50.Missed, ci64 y50.True])] 9 [] (by kernel_rfl) ?_
        refine AW.inBlock_normal (AW.tn ?_)
        refine AW.rg tt_okL6 [(54, vi64 (i64.wrap (x30 + 1)))] [] [] 11 [] (by kernel_rfl) ?_
        exact lpn h (conv_re [(0, 0), (1, 1), (2, 2), (3, 3), (4, 5), (5, 6)] (by kernel_rfl))
      ·
       rcases ifs h with ⟨c55, h⟩ | ⟨c55, h⟩
       ·
        refine AW.rg tt_okL6 [(91, vb true)] [] [] 21 [hn, ht c55] (by kernel_rfl) ?_
        exact jl true h (conv_re [(0, 0), (1, 1), (2, 2), (3, 3), (4, 12), (5, 5), (6, 6)] (by kernel_rfl))
       ·
        refine AW.rg tt_okL6 [(91, vb (y51 != 0))] [] [] 21 [hn, hf c55] (by kernel_rfl) ?_
        exact jl (y51 != 0) h (conv_re [(0, 0), (1, 1), (2, 2), (3, 3), (4, 12), (5, 5), (6, 6)] (by kernel_rfl))
     ·
      refine AW.sg tt_okL6 [(69, vb (decide (x30 ≥ y16)))] [] [] 24 [] (by kernel_rfl) ?_
      refine AW.co h (by kernel_rfl) (fun c56 h => ?_) (fun c56 h => ?_)
      ·
       obtain ⟨y57, y58, e59, h⟩ := bind2_some h
       refine AW.rd tt_okL6 moL6 [[], [], [], [], [], [], [], [], [], [], [18]] [(13, vi64 y58)] [(18, .box 35 [ci64 y57.False, ci64 y57.Missed, ci64 y57.True])] 35 [hn, hn, hn, hn, hn, ho (p := (0 ≤ x30) ∧ (0 ≤ (i64.wrap (x30 + 1))) ∧ (x30.toNat ≤ ((i64.wrap (x30 + 1)).toNat)) ∧ (((i64.wrap (x30 + 1)).toNat) ≤ y10.length)) (⟨g38, g39, g40, g41⟩), hg [] [] true 0 (q := ((True) ∧ (0 + y13.Match.length ≤ y13.Match.length) ∧ (0 + y13.Random.length ≤ y13.Random.length) ∧ (True)) ∧ (True) ∧ ((0 + x30.toNat) + ((i64.wrap (x30 + 1)).toNat - x30.toNat) ≤ y10.length) ∧ (True)) ⟨⟨tv, le0, le0, tv⟩, tv, g45, tv⟩ (a0 := [.agg [ci64 y13.Prior, cl 1 Ri64 y13.Match, cl 1 Ri64 y13.Random], .c (.t (.v (.slice none 0 0))), .c (.t (.tree ((i64.wrap (x30 + 1)).toNat - x30.toNat) 6 (subF (0 + x30.toNat) (RS_api_Candidate y10))))]) (quality_Of_con y13 ([] : List S_api_Candidate) ((y10.drop (0 + x30.toNat)).take ((i64.wrap (x30 + 1)).toNat - x30.toNat)) (y57, y58) e59) ⟨ArgLe.refl _, ArgLe.c (CAle.nil rfl), ArgLe.c (CAle.tree (part_rowS (by omega))), tv⟩ (fun _ => tv)] (by kernel_rfl) ?_
       exact jl (y58, y57.False, y57.Missed, y57.True) h (conv_re [(0, 0), (1, 1), (2, 2), (3, 3), (4, 18), (5, 4), (6, 5)] (by kernel_rfl))
      ·
       refine AW.skip ?_
       exact jl (y43, y42.False, y42.Missed, y42.True) h (conv_re [(0, 0), (1, 1), (2, 2), (3, 3), (4, 18), (5, 4), (6, 5)] (by kernel_rfl))
    ·
     refine AW.exit (AW.thenQ_exit ?_)
     exact lpo h rfl (conv_re [(0, 2), (1, 3)] (by kernel_rfl))
   ·
    obtain ⟨x60, x61, x62⟩ := t
    replace h : rl_law33_QualitySums_a6 y16 y21 y22 x60 x61 x62 = some r := h
    unfold rl_law33_QualitySums_a6 at h
    show (_ : Exit → St → Prop) (.exit 0) _
    refine AW.inBlock_hit (AW.tn (AW.seq ?_))
    refine AW.join (ι := Bool) (fun v => ⟨[(2, vb v)], [], 0⟩) (fun v : Bool => rl_law33_QualitySums_k5 v = some r) (fun x63 h => ?_) ?_
    ·
     unfold rl_law33_QualitySums_k5 at h
     refine AW.tn (AW.ret ?_)
     obtain rfl := some_inj h
     exact fn0 (.inr rfl) [] 0 (vb x63) (by kernel_rfl)
    ·
     rcases ifs h with ⟨c64, h⟩ | ⟨c64, h⟩
     ·
      rcases ifs h with ⟨c65, h⟩ | ⟨c65, h⟩
      ·
       refine AW.rg tt_okL6 [(2, vb ((i64.wrap (y21.True + y21.False)) == (i64.wrap (y16 * 1073741824))))] [] [] 20 [hn, ht c64, hn, hn, hn, ht c65] (by kernel_rfl) ?_
       exact jl ((i64.wrap (y21.True + y21.False)) == (i64.wrap (y16 * 1073741824))) h (conv_re [] (by kernel_rfl))
      ·
       refine AW.rg tt_okL6 [(2, vb false)] [] [] 20 [hn, ht c64, hn, hn, hn, hf c65] (by kernel_rfl) ?_
       exact jl false h (conv_re [] (by kernel_rfl))
     ·
      refine AW.rg tt_okL6 [(2, vb false)] [] [] 20 [hn, hf c64] (by kernel_rfl) ?_
      exact jl false h (conv_re [] (by kernel_rfl))
   ·
    replace h : rl_law33_QualitySums_a7 = some r := h
    unfold rl_law33_QualitySums_a7 at h
    show (_ : Exit → St → Prop) (.ret) _
    refine AW.inBlock_ret (AW.tr ?_)
    obtain rfl := some_inj h
    exact fn0 (.inr rfl) [] 0 (vb false) (by kernel_rfl)
 ·
  obtain ⟨y67, e68, h⟩ := bnd_some h
  rcases ifs h with ⟨c69, h⟩ | ⟨c69, h⟩
  ·
   refine AW.rg tt_okL6 [(22, vb true)] [] [] 7 [hk (rl_law33_awake_con y67 e68), ht c69] (by kernel_rfl) ?_
   exact jl true h (conv_re [] (by kernel_rfl))
  ·
   obtain ⟨y70, e71, h⟩ := bnd_some h
   refine AW.rg tt_okL6 [(22, vb (!y70))] [] [] 6 [hk (rl_law33_awake_con y67 e68), hf c69, hn, hn, hk (rl_make_Few_con p0 y70 e71)] (by kernel_rfl) ?_
   exact jl (!y70) h (conv_re [] (by kernel_rfl))
end Go.Proofs.Ytilpgjoidgfbiaa
