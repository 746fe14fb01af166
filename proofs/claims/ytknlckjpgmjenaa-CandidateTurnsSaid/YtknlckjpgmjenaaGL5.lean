/- Printed by a program of mine (vmgen.py): Go functions, and what they come to. -/
import Derived.Test.YtknlckjpgmjenaaVr
import Derived.Test.YtknlckjpgmjenaaRows
import Derived.Test.YtknlckjpgmjenaaG1
namespace Go.Proofs.Ytknlckjpgmjenaa
open Vm
open IntKind (i64 u64 u32 u8)
set_option maxHeartbeats 10000000
set_option linter.unusedVariables false
set_option linter.unusedSimpArgs false
set_option linter.constructorNameAsVariable false
def ttlL5 : List (Nat × TI) := [(3, ⟨.int .i64, 1, 8, [.int .i64 0], false⟩), (4, ⟨.bool, 1, 1, [.bool false], false⟩), (22, ⟨.slice 3, 1, 24, [.slice none 0 0], false⟩), (25, ⟨.ptr 86, 1, 8, [.pointer none], false⟩), (28, ⟨.slice 37, 1, 24, [.slice none 0 0], false⟩), (30, ⟨.slice 49, 1, 24, [.slice none 0 0], false⟩), (31, ⟨.int .i64, 1, 8, [.int .i64 0], false⟩), (35, ⟨.struct [(3, 0), (22, 1), (22, 2)], 3, 56, [.int .i64 0, .slice none 0 0, .slice none 0 0], false⟩), (37, ⟨.slice 44, 1, 24, [.slice none 0 0], false⟩), (38, ⟨.slice 84, 1, 24, [.slice none 0 0], false⟩), (40, ⟨.struct [(3, 0), (3, 1), (38, 2)], 3, 40, [.int .i64 0, .int .i64 0, .slice none 0 0], false⟩), (41, ⟨.slice 45, 1, 24, [.slice none 0 0], false⟩), (42, ⟨.slice 4, 1, 24, [.slice none 0 0], false⟩), (44, ⟨.struct [(40, 0), (41, 3), (42, 4)], 5, 88, [.int .i64 0, .int .i64 0, .slice none 0 0, .slice none 0 0, .slice none 0 0], false⟩), (45, ⟨.int .u64, 1, 8, [.int .u64 0], false⟩), (47, ⟨.struct [(3, 0), (3, 1)], 2, 16, [.int .i64 0, .int .i64 0], true⟩), (49, ⟨.struct [(47, 0), (47, 2), (3, 4), (3, 5)], 6, 48, [.int .i64 0, .int .i64 0, .int .i64 0, .int .i64 0, .int .i64 0, .int .i64 0], true⟩), (60, ⟨.arr 3 3, 3, 24, [.int .i64 0, .int .i64 0, .int .i64 0], true⟩), (84, ⟨.struct [(3, 0), (41, 1)], 2, 32, [.int .i64 0, .slice none 0 0], false⟩), (86, ⟨.struct [(22, 0), (3, 1), (45, 2)], 3, 40, [.slice none 0 0, .int .i64 0, .int .u64 0], false⟩), (129, ⟨.arr 6 3, 6, 48, [.int .i64 0, .int .i64 0, .int .i64 0, .int .i64 0, .int .i64 0, .int .i64 0], true⟩)]
theorem tt_okL5 : TTok Try.prog (Vm.look ttlL5) := ttok_of ⟨⟨by kernel_rfl, by kernel_rfl, by kernel_rfl⟩, ⟨by kernel_rfl, by kernel_rfl, by kernel_rfl⟩, ⟨by kernel_rfl, by kernel_rfl, by kernel_rfl⟩, ⟨by kernel_rfl, by kernel_rfl, by kernel_rfl⟩, ⟨by kernel_rfl, by kernel_rfl, by kernel_rfl⟩, ⟨by kernel_rfl, by kernel_rfl, by kernel_rfl⟩, ⟨by kernel_rfl, by kernel_rfl, by kernel_rfl⟩, ⟨by kernel_rfl, by kernel_rfl, by kernel_rfl⟩, ⟨by kernel_rfl, by kernel_rfl, by kernel_rfl⟩, ⟨by kernel_rfl, by kernel_rfl, by kernel_rfl⟩, ⟨by kernel_rfl, by kernel_rfl, by kernel_rfl⟩, ⟨by kernel_rfl, by kernel_rfl, by kernel_rfl⟩, ⟨by kernel_rfl, by kernel_rfl, by kernel_rfl⟩, ⟨by kernel_rfl, by kernel_rfl, by kernel_rfl⟩, ⟨by kernel_rfl, by kernel_rfl, by kernel_rfl⟩, ⟨by kernel_rfl, by kernel_rfl, by kernel_rfl⟩, ⟨by kernel_rfl, by kernel_rfl, by kernel_rfl⟩, ⟨by kernel_rfl, by kernel_rfl, by kernel_rfl⟩, ⟨by kernel_rfl, by kernel_rfl, by kernel_rfl⟩, ⟨by kernel_rfl, by kernel_rfl, by kernel_rfl⟩, ⟨by kernel_rfl, by kernel_rfl, by kernel_rfl⟩, trivial⟩
theorem moL5 : Try.prog.follows .mixedOrders = true := by kernel_rfl
/-! recordlink/recordlinklaw26.CandidateTurns -/
noncomputable def rl_law26_CandidateTurns_k5 (x40 : Int) (x45 : Bool) : Option ((Bool × Int) ⊕ Bool) := some (.inl (x45, i64.wrap (x40 + 1)))
noncomputable def rl_law26_CandidateTurns_l4 (y21 : List S_api_Candidate) (y27 : List S_api_Candidate) (x33 : Int) (x39 : Bool) (x40 : Int) : Option ((Bool × Int) ⊕ Bool) := if (decide (x40 < (y27.length : Int))) = true then (if 0 ≤ x40 then (if x40 < (y27.length : Int) then (if x39 = true then (rl_law26_CandidateTurns_k5 x40 true) else (if ((((y27.getD (0 + x40.toNat) dS_api_Candidate).A).ID) == (((y21.getD (0 + x33.toNat) dS_api_Candidate).B).ID)) = true then (if ((((y27.getD (0 + x40.toNat) dS_api_Candidate).B).ID) == (((y21.getD (0 + x33.toNat) dS_api_Candidate).A).ID)) = true then (if (((y27.getD (0 + x40.toNat) dS_api_Candidate).Pattern) == ((y21.getD (0 + x33.toNat) dS_api_Candidate).Pattern)) = true then (rl_law26_CandidateTurns_k5 x40 (((y27.getD (0 + x40.toNat) dS_api_Candidate).Weight) == ((y21.getD (0 + x33.toNat) dS_api_Candidate).Weight))) else (rl_law26_CandidateTurns_k5 x40 false)) else (rl_law26_CandidateTurns_k5 x40 false)) else (rl_law26_CandidateTurns_k5 x40 false))) else none) else none) else (some (.inr x39))
noncomputable def rl_law26_CandidateTurns_l3 (y21 : List S_api_Candidate) (y27 : List S_api_Candidate) (x33 : Int) : Option (Int ⊕ (Unit ⊕ Unit)) := if (decide (x33 < (y21.length : Int))) = true then (if 0 ≤ x33 then (if x33 < (y21.length : Int) then ((loop (fun v : Bool × Int => rl_law26_CandidateTurns_l4 y21 y27 x33 v.1 v.2) (false, 0)).bind fun x50 => (if (!x50) = true then (some (.inr (.inr ()))) else (some (.inl (i64.wrap (x33 + 1)))))) else none) else none) else (some (.inr (.inl ())))
noncomputable def rl_law26_CandidateTurns_a6 : Option Bool := some true
noncomputable def rl_law26_CandidateTurns_a7 : Option Bool := some false
noncomputable def rl_law26_CandidateTurns_k2 (y21 : List S_api_Candidate) (y27 : List S_api_Candidate) (x30 : Bool) : Option Bool := if x30 = true then (some false) else (bindE (loop (fun v : Int => rl_law26_CandidateTurns_l3 y21 y27 v) 0) (fun t => rl_law26_CandidateTurns_a6) (fun t => rl_law26_CandidateTurns_a7))
noncomputable def rl_law26_CandidateTurns_k1 (p0 : List Int) (x1 : Bool) : Option Bool := if x1 = true then ((rl_law26_awake).bind fun y3 => (some y3)) else ((rl_make_New p0).bind fun y5 => (bind2 (rl_make_Deck_Next y5 3) fun y7 y8 => (bind2 (rl_make_Deck_Next y8 2) fun y10 y11 => (bind2 (rl_play_Weights y11 (i64.wrap (1 + y7))) fun y13 y14 => (if 0 ≤ (i64.wrap (1 + y7)) then (if ((i64.wrap (1 + y7)).toNat) ≤ (([700, 500, 900] : List Int).length) then (bind2 (rl_play_Sheets y14 (i64.wrap (1 + y7)) (i64.wrap (1 + y10)) 2 5) fun y18 y19 => (bind2 (candidate_Make y13 (([700, 500, 900] : List Int).take ((i64.wrap (1 + y7)).toNat)) (i64.wrap (1 + y10)) y18) fun y21 y22 => (if 0 + (i64.wrap (1 + y7)).toNat ≤ ([700, 500, 900] : List Int).length then (if (1 : Int) < (y18.length : Int) then (if (0 : Int) < (y18.length : Int) then (bind2 (candidate_Make y13 (([700, 500, 900] : List Int).take ((i64.wrap (1 + y7)).toNat)) (i64.wrap (1 + y10)) ([(y18.getD (0 + 1) ([] : List S_api_Sent)), (y18.getD (0 + 0) ([] : List S_api_Sent))] : List (List S_api_Sent))) fun y27 y28 => (if (y22 != 0) = true then (rl_law26_CandidateTurns_k2 y21 y27 true) else (if (y28 != 0) = true then (rl_law26_CandidateTurns_k2 y21 y27 true) else (rl_law26_CandidateTurns_k2 y21 y27 ((y21.length : Int) != (y27.length : Int)))))) else none) else none) else none))) else none) else none)))))
noncomputable def rl_law26_CandidateTurns (p0 : List Int) : Option Bool := (rl_law26_awake).bind fun y56 => (if (!y56) = true then (rl_law26_CandidateTurns_k1 p0 true) else ((rl_make_Few p0).bind fun y59 => (rl_law26_CandidateTurns_k1 p0 (!y59))))
set_option maxRecDepth 100000 in
theorem rl_law26_CandidateTurns_con (p0 : List Int) (r : Bool) (h : rl_law26_CandidateTurns p0 = some r) : Con Try.prog 5 [vl 1 Ri64 p0] [] (vb r) [] := by
 refine con_of tt_okL5 0 Try.func5 (by kernel_rfl) rfl (by kernel_rfl) (fun base X _ => AW.post ?_)
 unfold rl_law26_CandidateTurns at h
 refine AW.sg tt_okL5 [] [] [] 1 [] (by kernel_rfl) ?_
 refine AW.seq (AW.seq ?_)
 refine AW.join (ι := Bool) (fun v => ⟨[(0, vl 1 Ri64 p0), (24, vb v)], [], 0⟩) (fun v : Bool => rl_law26_CandidateTurns_k1 p0 v = some r) (fun x1 h => ?_) ?_
 ·
  unfold rl_law26_CandidateTurns_k1 at h
  refine AW.tn ?_
  refine AW.co h (by kernel_rfl) (fun c2 h => ?_) (fun c2 h => ?_)
  ·
   obtain ⟨y3, e4, h⟩ := bnd_some h
   refine AW.sg tt_okL5 [(2, vb y3)] [] [] 1 [hk (rl_law26_awake_con y3 e4)] (by kernel_rfl) ?_
   refine AW.ret (AW.tr ?_)
   obtain rfl := some_inj h
   exact fn0 (.inr rfl) [] 0 (vb y3) (by kernel_rfl)
  ·
   refine AW.skip (AW.tn ?_)
   obtain ⟨y5, e6, h⟩ := bnd_some h
   refine AW.sg tt_okL5 [(3, .c (.ptr 1 3 0 0))] [1] [(1, .box 86 [cl 1 Ri64 y5.list, ci64 y5.at_, cu64 y5.state])] 3 [hn, hl [] [] 1 (rl_make_New_con p0 y5 e6)] (by kernel_rfl) ?_
   obtain ⟨y7, y8, e9, h⟩ := bind2_some h
   obtain ⟨y10, y11, e12, h⟩ := bind2_some h
   refine AW.sg tt_okL5 [(5, vi64 (i64.wrap (1 + y10))), (4, vi64 (i64.wrap (1 + y7)))] [1] [(1, .box 86 [cl 1 Ri64 y11.list, ci64 y11.at_, cu64 y11.state])] 9 [hn, hl [1] [] 0 (rl_make_Deck_Next_con y5 3 (y7, y8) e9), hn, hn, hl [1] [] 0 (rl_make_Deck_Next_con y8 2 (y10, y11) e12)] (by kernel_rfl) ?_
   obtain ⟨y13, y14, e15, h⟩ := bind2_some h
   obtain ⟨g16, g17, h⟩ := ifd h
   refine AW.sd tt_okL5 moL5 [[], [], [1, 11, 12], [13], [], [], [16], [16]] [(7, .c (.ref 13 1 0 ((i64.wrap (1 + y7)).toNat))), (6, .c (.ptr 16 3 0 0))] [(16, .box 35 [ci64 y13.Prior, .ref 11 1 0 y13.Agree.length, .ref 12 1 0 y13.Differ.length]), (13, .row 3 false 1 ([700, 500, 900] : List Int).length (Ri64 ([700, 500, 900] : List Int))), (1, .box 86 [cl 1 Ri64 y14.list, ci64 y14.at_, cu64 y14.state]), (11, .row 3 false 1 y13.Agree.length (Ri64 y13.Agree)), (12, .row 3 false 1 y13.Differ.length (Ri64 y13.Differ))] 19 [hn, hn, hl [1] [] 2 (rl_play_Weights_con y11 (i64.wrap (1 + y7)) (y13, y14) e15), hlit 0 Ei64 1 (fun _ => rfl) ([700, 500, 900] : List Int), hn, ho (p := (True) ∧ (0 ≤ (i64.wrap (1 + y7))) ∧ (0 ≤ ((i64.wrap (1 + y7)).toNat)) ∧ (((i64.wrap (1 + y7)).toNat) ≤ (([700, 500, 900] : List Int).length))) (⟨tv, g16, (Nat.zero_le _), g17⟩)] (by kernel_rfl) ?_
   obtain ⟨y18, y19, e20, h⟩ := bind2_some h
   refine AW.sg tt_okL5 [(8, .c (.ref 22 1 0 y18.length))] [1, 22] [(22, .row 37 false 1 y18.length (RlS_api_Sent y18))] 24 [hn, hn, hn, hl [1] [] 1 (rl_play_Sheets_con y14 (i64.wrap (1 + y7)) (i64.wrap (1 + y10)) 2 5 (y18, y19) e20)] (by kernel_rfl) ?_
   obtain ⟨y21, y22, e23, h⟩ := bind2_some h
   obtain ⟨g24, h⟩ := ifc h
   refine AW.sg tt_okL5 [(10, vi64 y22), (9, .c (.ref 28 6 0 y21.length))] [28] [(28, .row 49 false 6 y21.length (RS_api_Candidate y21))] 34 [hn, hn, hn, hn, hg [] [] true 1 (q := ((True) ∧ (0 + y13.Agree.length ≤ y13.Agree.length) ∧ (0 + y13.Differ.length ≤ y13.Differ.length) ∧ (True)) ∧ (0 + (i64.wrap (1 + y7)).toNat ≤ ([700, 500, 900] : List Int).length) ∧ (True) ∧ (0 + y18.length ≤ y18.length) ∧ (True)) ⟨⟨tv, le0, le0, tv⟩, g24, tv, le0, tv⟩ (a0 := [.agg [ci64 y13.Prior, cl 1 Ri64 y13.Agree, cl 1 Ri64 y13.Differ], .c (.t (.tree ((i64.wrap (1 + y7)).toNat) 1 (Ri64 ([700, 500, 900] : List Int)))), vi64 (i64.wrap (1 + y10)), vl 1 RlS_api_Sent y18]) (candidate_Make_con y13 (([700, 500, 900] : List Int).take ((i64.wrap (1 + y7)).toNat)) (i64.wrap (1 + y10)) y18 (y21, y22) e23) ⟨ArgLe.refl _, ArgLe.c (CAle.tree (take_row (by omega))), ArgLe.refl _, ArgLe.refl _, tv⟩ (fun _ => ⟨rowL_flat VS_api_Candidate _ _ _, tv⟩)] (by kernel_rfl) ?_
   obtain ⟨g25, g26, h⟩ := ifd h
   obtain ⟨y27, y28, e29, h⟩ := bind2_some h
   refine AW.sd tt_okL5 moL5 [[], [], [], [], [], [], [], [], [], [43], [44]] [(12, vi64 y28), (11, .c (.ref 44 6 0 y27.length))] [(44, .row 49 false 6 y27.length (RS_api_Candidate y27))] 50 [hn, hn, hn, hn, ho (p := (0 ≤ (1 : Int)) ∧ ((1 : Int) < (y18.length : Int))) (⟨(by decide), g25⟩), ho (p := (0 + 1) < y18.length) (by have h1 : 0 ≤ (1 : Int) := (by decide); have h2 : (1 : Int) < (y18.length : Int) := g25; omega), hn, ho (p := (0 ≤ (0 : Int)) ∧ ((0 : Int) < (y18.length : Int))) (⟨(by decide), g26⟩), ho (p := (0 + 0) < y18.length) (by have h1 : 0 ≤ (0 : Int) := (by decide); have h2 : (0 : Int) < (y18.length : Int) := g26; omega), hlit ([] : List S_api_Sent) ElS_api_Sent 1 (fun _ => rfl) ([(y18.getD (0 + 1) ([] : List S_api_Sent)), (y18.getD (0 + 0) ([] : List S_api_Sent))] : List (List S_api_Sent)), hg [] [] true 1 (q := ((True) ∧ (0 + y13.Agree.length ≤ y13.Agree.length) ∧ (0 + y13.Differ.length ≤ y13.Differ.length) ∧ (True)) ∧ (0 + (i64.wrap (1 + y7)).toNat ≤ ([700, 500, 900] : List Int).length) ∧ (True) ∧ (0 + ([(y18.getD (0 + 1) ([] : List S_api_Sent)), (y18.getD (0 + 0) ([] : List S_api_Sent))] : List (List S_api_Sent)).length ≤ ([(y18.getD (0 + 1) ([] : List S_api_Sent)), (y18.getD (0 + 0) ([] : List S_api_Sent))] : List (List S_api_Sent)).length) ∧ (True)) ⟨⟨tv, le0, le0, tv⟩, g24, tv, le0, tv⟩ (a0 := [.agg [ci64 y13.Prior, cl 1 Ri64 y13.Agree, cl 1 Ri64 y13.Differ], .c (.t (.tree ((i64.wrap (1 + y7)).toNat) 1 (Ri64 ([700, 500, 900] : List Int)))), vi64 (i64.wrap (1 + y10)), vl 1 RlS_api_Sent ([(y18.getD (0 + 1) ([] : List S_api_Sent)), (y18.getD (0 + 0) ([] : List S_api_Sent))] : List (List S_api_Sent))]) (candidate_Make_con y13 (([700, 500, 900] : List Int).take ((i64.wrap (1 + y7)).toNat)) (i64.wrap (1 + y10)) ([(y18.getD (0 + 1) ([] : List S_api_Sent)), (y18.getD (0 + 0) ([] : List S_api_Sent))] : List (List S_api_Sent)) (y27, y28) e29) ⟨ArgLe.refl _, ArgLe.c (CAle.tree (take_row (by omega))), ArgLe.refl _, ArgLe.refl _, tv⟩ (fun _ => ⟨rowL_flat VS_api_Candidate _ _ _, tv⟩)] (by kernel_rfl) ?_
   refine AW.seq (AW.seq ?_)
   refine AW.join (ι := Bool) (fun v => ⟨[(9, .c (.ref 0 6 0 y21.length)), (11, .c (.ref 1 6 0 y27.length)), (78, vb v)], [(0, .row 49 false 6 y21.length (RS_api_Candidate y21)), (1, .row 49 false 6 y27.length (RS_api_Candidate y27))], 2⟩) (fun v : Bool => rl_law26_CandidateTurns_k2 y21 y27 v = some r) (fun x30 h => ?_) ?_
   ·
    unfold rl_law26_CandidateTurns_k2 at h
    refine AW.tn ?_
    refine AW.co h (by kernel_rfl) (fun c31 h => ?_) (fun c31 h => ?_)
    ·
     refine AW.sg tt_okL5 [(2, vb false)] [] [] 3 [] (by kernel_rfl) ?_
     refine AW.ret (AW.tr ?_)
     obtain rfl := some_inj h
     exact fn0 (.inr rfl) [] 0 (vb false) (by kernel_rfl)
    ·
     refine AW.skip (AW.tn (AW.seq ?_))
     refine AW.sg tt_okL5 [(81, vi64 0), (80, vi64 (y21.length : Int)), (79, .c (.ref 0 6 0 y21.length))] [] [] 5 [] (by kernel_rfl) ?_
     refine AW.block ?_
     refine AW.lpE h (fun v => ⟨[(11, .c (.ref 0 6 0 y27.length)), (79, .c (.ref 1 6 0 y21.length)), (80, vi64 (y21.length : Int)), (81, vi64 v)], [(0, .row 49 false 6 y27.length (RS_api_Candidate y27)), (1, .row 49 false 6 y21.length (RS_api_Candidate y21))], 2⟩) (fun t => (.exit 0, ⟨[], [], 0⟩)) (fun t => (.ret, ⟨[(2, vb false)], [], 0⟩)) (conv_re [(0, 1), (1, 0)] (by kernel_rfl)) (fun _ => tv) (fun _ => tv) ?_ (fun t h => ?_) (fun t h => ?_)
     ·
      clear h
      intro x33 o h
      unfold rl_law26_CandidateTurns_l3 at h
      refine AW.sg tt_okL5 [(82, vb (decide (x33 < (y21.length : Int))))] [] [] 3 [] (by kernel_rfl) ?_
      refine AW.seq ?_
      refine AW.co h (by kernel_rfl) (fun c34 h => ?_) (fun c34 h => ?_)
      ·
       refine AW.skip (AW.tn ?_)
       refine AW.seq (AW.block ?_)
       obtain ⟨g35, g36, h⟩ := ifd h
       refine AW.sg tt_okL5 [(14, .c (.ptr 5 6 0 0))] [5] [(5, .box 49 [ci64 (((y21.getD (0 + x33.toNat) dS_api_Candidate).A).Registry), ci64 (((y21.getD (0 + x33.toNat) dS_api_Candidate).A).ID), ci64 (((y21.getD (0 + x33.toNat) dS_api_Candidate).B).Registry), ci64 (((y21.getD (0 + x33.toNat) dS_api_Candidate).B).ID), ci64 ((y21.getD (0 + x33.toNat) dS_api_Candidate).Pattern), ci64 ((y21.getD (0 + x33.toNat) dS_api_Candidate).Weight)])] 7 [hq g35 g36, ho (p := (0 + x33.toNat) < y21.length) (by have h1 : 0 ≤ x33 := g35; have h2 : x33 < (y21.length : Int) := g36; omega)] (by kernel_rfl) ?_
       refine AW.sg tt_okL5 [(15, vb false)] [] [] 8 [] (by kernel_rfl) ?_
       refine AW.seq ?_
       refine AW.sg tt_okL5 [(87, vi64 0), (86, vi64 (y27.length : Int)), (85, .c (.ref 0 6 0 y27.length))] [] [] 11 [] (by kernel_rfl) ?_
       refine AW.block ?_
       obtain ⟨x50, l52, h⟩ := bnd_some h
       refine AW.lp l52 (fun v => ⟨[(11, .c (.ref 0 6 0 y27.length)), (14, .c (.ptr 1 6 0 0)), (15, vb v.1), (79, .c (.ref 2 6 0 y21.length)), (80, vi64 (y21.length : Int)), (81, vi64 x33), (85, .c (.ref 0 6 0 y27.length)), (86, vi64 (y27.length : Int)), (87, vi64 v.2)], [(0, .row 49 false 6 y27.length (RS_api_Candidate y27)), (1, .box 49 [ci64 (((y21.getD (0 + x33.toNat) dS_api_Candidate).A).Registry), ci64 (((y21.getD (0 + x33.toNat) dS_api_Candidate).A).ID), ci64 (((y21.getD (0 + x33.toNat) dS_api_Candidate).B).Registry), ci64 (((y21.getD (0 + x33.toNat) dS_api_Candidate).B).ID), ci64 ((y21.getD (0 + x33.toNat) dS_api_Candidate).Pattern), ci64 ((y21.getD (0 + x33.toNat) dS_api_Candidate).Weight)]), (2, .row 49 false 6 y21.length (RS_api_Candidate y21))], 3⟩) (fun t : Bool => (.exit 2, ⟨[(11, .c (.ref 0 6 0 y27.length)), (15, vb t), (79, .c (.ref 1 6 0 y21.length)), (80, vi64 (y21.length : Int)), (81, vi64 x33)], [(0, .row 49 false 6 y27.length (RS_api_Candidate y27)), (1, .row 49 false 6 y21.length (RS_api_Candidate y21))], 2⟩)) (conv_re [(0, 0), (1, 5), (2, 1)] (by kernel_rfl)) (fun _ => tv) ?_ ?_
       ·
        clear l52 h
        intro v o h
        obtain ⟨x39, x40⟩ := v
        replace h : rl_law26_CandidateTurns_l4 y21 y27 x33 x39 x40 = some o := h
        unfold rl_law26_CandidateTurns_l4 at h
        refine AW.sg tt_okL5 [(88, vb (decide (x40 < (y27.length : Int))))] [] [] 4 [] (by kernel_rfl) ?_
        refine AW.seq ?_
        refine AW.co h (by kernel_rfl) (fun c42 h => ?_) (fun c42 h => ?_)
        ·
         refine AW.skip (AW.tn ?_)
         refine AW.seq (AW.block ?_)
         obtain ⟨g43, g44, h⟩ := ifd h
         refine AW.sg tt_okL5 [(17, .c (.ptr 6 6 0 0))] [6] [(6, .box 49 [ci64 (((y27.getD (0 + x40.toNat) dS_api_Candidate).A).Registry), ci64 (((y27.getD (0 + x40.toNat) dS_api_Candidate).A).ID), ci64 (((y27.getD (0 + x40.toNat) dS_api_Candidate).B).Registry), ci64 (((y27.getD (0 + x40.toNat) dS_api_Candidate).B).ID), ci64 ((y27.getD (0 + x40.toNat) dS_api_Candidate).Pattern), ci64 ((y27.getD (0 + x40.toNat) dS_api_Candidate).Weight)])] 8 [hq g43 g44, ho (p := (0 + x40.toNat) < y27.length) (by have h1 : 0 ≤ x40 := g43; have h2 : x40 < (y27.length : Int) := g44; omega)] (by kernel_rfl) ?_
         refine AW.join (ι := Bool) (fun v => ⟨[(11, .c (.ref 0 6 0 y27.length)), (14, .c (.ptr 1 6 0 0)), (15, vb v), (79, .c (.ref 2 6 0 y21.length)), (80, vi64 (y21.length : Int)), (81, vi64 x33), (85, .c (.ref 0 6 0 y27.length)), (86, vi64 (y27.length : Int)), (87, vi64 x40)], [(0, .row 49 false 6 y27.length (RS_api_Candidate y27)), (1, .box 49 [ci64 (((y21.getD (0 + x33.toNat) dS_api_Candidate).A).Registry), ci64 (((y21.getD (0 + x33.toNat) dS_api_Candidate).A).ID), ci64 (((y21.getD (0 + x33.toNat) dS_api_Candidate).B).Registry), ci64 (((y21.getD (0 + x33.toNat) dS_api_Candidate).B).ID), ci64 ((y21.getD (0 + x33.toNat) dS_api_Candidate).Pattern), ci64 ((y21.getD (0 + x33.toNat) dS_api_Candidate).Weight)]), (2, .row 49 false 6 y21.length (RS_api_Candidate y21))], 3⟩) (fun v : Bool => rl_law26_CandidateTurns_k5 x40 v = some o) (fun x45 h => ?_) ?_
         ·
          unfold rl_law26_CandidateTurns_k5 at h
          refine AW.inBlock_normal (AW.tn ?_)
          refine AW.rg tt_okL5 [(87, vi64 (i64.wrap (x40 + 1)))] [] [] 5 [] (by kernel_rfl) ?_
          exact lpn h (conv_re [(0, 0), (1, 1), (2, 2)] (by kernel_rfl))
         ·
          rcases ifs h with ⟨c46, hs⟩ | ⟨c46, hs⟩
          ·clear h; subst c46; have h := hs; clear hs
           refine AW.rg tt_okL5 [(15, vb true)] [] [] 42 [] (by kernel_rfl) ?_
           exact jl true h (conv_re [(0, 0), (1, 1), (2, 2)] (by kernel_rfl))
          ·clear h; subst c46; have h := hs; clear hs
           rcases ifs h with ⟨c47, h⟩ | ⟨c47, h⟩
           ·
            rcases ifs h with ⟨c48, h⟩ | ⟨c48, h⟩
            ·
             rcases ifs h with ⟨c49, h⟩ | ⟨c49, h⟩
             ·
              refine AW.rg tt_okL5 [(15, vb (((y27.getD (0 + x40.toNat) dS_api_Candidate).Weight) == ((y21.getD (0 + x33.toNat) dS_api_Candidate).Weight)))] [] [] 42 [hn, hn, hn, hn, hn, hn, hn, hn, ht c47, hn, hn, hn, hn, hn, hn, hn, ht c48, hn, hn, hn, hn, hn, hn, ht c49] (by kernel_rfl) ?_
              exact jl (((y27.getD (0 + x40.toNat) dS_api_Candidate).Weight) == ((y21.getD (0 + x33.toNat) dS_api_Candidate).Weight)) h (conv_re [(0, 0), (1, 1), (2, 2)] (by kernel_rfl))
             ·
              refine AW.rg tt_okL5 [(15, vb false)] [] [] 42 [hn, hn, hn, hn, hn, hn, hn, hn, ht c47, hn, hn, hn, hn, hn, hn, hn, ht c48, hn, hn, hn, hn, hn, hn, hf c49] (by kernel_rfl) ?_
              exact jl false h (conv_re [(0, 0), (1, 1), (2, 2)] (by kernel_rfl))
            ·
             refine AW.rg tt_okL5 [(15, vb false)] [] [] 42 [hn, hn, hn, hn, hn, hn, hn, hn, ht c47, hn, hn, hn, hn, hn, hn, hn, hf c48] (by kernel_rfl) ?_
             exact jl false h (conv_re [(0, 0), (1, 1), (2, 2)] (by kernel_rfl))
           ·
            refine AW.rg tt_okL5 [(15, vb false)] [] [] 42 [hn, hn, hn, hn, hn, hn, hn, hn, hf c47] (by kernel_rfl) ?_
            exact jl false h (conv_re [(0, 0), (1, 1), (2, 2)] (by kernel_rfl))
        ·
         refine AW.exit (AW.thenQ_exit ?_)
         exact lpo h rfl (conv_re [(0, 0), (1, 2)] (by kernel_rfl))
       ·
        show (_ : Exit → St → Prop) (.exit 2) _
        refine AW.inBlock_hit (AW.tn ?_)
        refine AW.sg tt_okL5 [(126, vb (!x50))] [] [] 4 [] (by kernel_rfl) ?_
        refine AW.co h (by kernel_rfl) (fun c51 h => ?_) (fun c51 h => ?_)
        ·
         refine AW.sg tt_okL5 [(2, vb false)] [] [] 5 [] (by kernel_rfl) ?_
         refine AW.ret (AW.inBlock_ret (AW.tr ?_))
         exact lpo h rfl (conv_re [] (by kernel_rfl))
        ·
         refine AW.skip (AW.inBlock_normal (AW.tn ?_))
         refine AW.rg tt_okL5 [(81, vi64 (i64.wrap (x33 + 1)))] [] [] 6 [] (by kernel_rfl) ?_
         exact lpn h (conv_re [(0, 0), (1, 1)] (by kernel_rfl))
      ·
       refine AW.exit (AW.thenQ_exit ?_)
       exact lpo h rfl (conv_re [] (by kernel_rfl))
     ·
      replace h : rl_law26_CandidateTurns_a6 = some r := h
      unfold rl_law26_CandidateTurns_a6 at h
      show (_ : Exit → St → Prop) (.exit 0) _
      refine AW.inBlock_hit (AW.tn ?_)
      refine AW.sg tt_okL5 [(2, vb true)] [] [] 1 [] (by kernel_rfl) ?_
      refine AW.ret ?_
      obtain rfl := some_inj h
      exact fn0 (.inr rfl) [] 0 (vb true) (by kernel_rfl)
     ·
      replace h : rl_law26_CandidateTurns_a7 = some r := h
      unfold rl_law26_CandidateTurns_a7 at h
      show (_ : Exit → St → Prop) (.ret) _
      refine AW.inBlock_ret (AW.tr ?_)
      obtain rfl := some_inj h
      exact fn0 (.inr rfl) [] 0 (vb false) (by kernel_rfl)
   ·
    rcases ifs h with ⟨c54, h⟩ | ⟨c54, h⟩
    ·
     refine AW.rg tt_okL5 [(78, vb true)] [] [] 63 [hn, ht c54] (by kernel_rfl) ?_
     exact jl true h (conv_re [(0, 28), (1, 44)] (by kernel_rfl))
    ·
     rcases ifs h with ⟨c55, h⟩ | ⟨c55, h⟩
     ·
      refine AW.rg tt_okL5 [(78, vb true)] [] [] 63 [hn, hf c54, hn, hn, ht c55] (by kernel_rfl) ?_
      exact jl true h (conv_re [(0, 28), (1, 44)] (by kernel_rfl))
     ·
      refine AW.rg tt_okL5 [(78, vb ((y21.length : Int) != (y27.length : Int)))] [] [] 63 [hn, hf c54, hn, hn, hf c55] (by kernel_rfl) ?_
      exact jl ((y21.length : Int) != (y27.length : Int)) h (conv_re [(0, 28), (1, 44)] (by kernel_rfl))
 ·
  obtain ⟨y56, e57, h⟩ := bnd_some h
  rcases ifs h with ⟨c58, h⟩ | ⟨c58, h⟩
  ·
   refine AW.rg tt_okL5 [(24, vb true)] [] [] 7 [hk (rl_law26_awake_con y56 e57), ht c58] (by kernel_rfl) ?_
   exact jl true h (conv_re [] (by kernel_rfl))
  ·
   obtain ⟨y59, e60, h⟩ := bnd_some h
   refine AW.rg tt_okL5 [(24, vb (!y59))] [] [] 6 [hk (rl_law26_awake_con y56 e57), hf c58, hn, hn, hk (rl_make_Few_con p0 y59 e60)] (by kernel_rfl) ?_
   exact jl (!y59) h (conv_re [] (by kernel_rfl))
end Go.Proofs.Ytknlckjpgmjenaa
