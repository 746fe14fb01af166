/- Printed by a program of mine (vmgen.py): Go functions, and what they come to. -/
import Derived.Test.YtknlckjpgmjenaaVr
import Derived.Test.YtknlckjpgmjenaaRows
import Derived.Test.YtknlckjpgmjenaaG1
namespace Go.Proofs.Ytknlckjpgmjenaa
open Vm
open IntKind (i64 u64 u32 u8)
set_option maxHeartbeats 10000000
set_option linter.unusedVariables false
set_option linter.unusedSimpArgs false
set_option linter.constructorNameAsVariable false
def ttlL4 : List (Nat × TI) := [(3, ⟨.int .i64, 1, 8, [.int .i64 0], false⟩), (4, ⟨.bool, 1, 1, [.bool false], false⟩), (22, ⟨.slice 3, 1, 24, [.slice none 0 0], false⟩), (25, ⟨.ptr 86, 1, 8, [.pointer none], false⟩), (28, ⟨.slice 37, 1, 24, [.slice none 0 0], false⟩), (30, ⟨.slice 49, 1, 24, [.slice none 0 0], false⟩), (31, ⟨.int .i64, 1, 8, [.int .i64 0], false⟩), (35, ⟨.struct [(3, 0), (22, 1), (22, 2)], 3, 56, [.int .i64 0, .slice none 0 0, .slice none 0 0], false⟩), (37, ⟨.slice 44, 1, 24, [.slice none 0 0], false⟩), (38, ⟨.slice 84, 1, 24, [.slice none 0 0], false⟩), (40, ⟨.struct [(3, 0), (3, 1), (38, 2)], 3, 40, [.int .i64 0, .int .i64 0, .slice none 0 0], false⟩), (41, ⟨.slice 45, 1, 24, [.slice none 0 0], false⟩), (42, ⟨.slice 4, 1, 24, [.slice none 0 0], false⟩), (44, ⟨.struct [(40, 0), (41, 3), (42, 4)], 5, 88, [.int .i64 0, .int .i64 0, .slice none 0 0, .slice none 0 0, .slice none 0 0], false⟩), (45, ⟨.int .u64, 1, 8, [.int .u64 0], false⟩), (47, ⟨.struct [(3, 0), (3, 1)], 2, 16, [.int .i64 0, .int .i64 0], true⟩), (49, ⟨.struct [(47, 0), (47, 2), (3, 4), (3, 5)], 6, 48, [.int .i64 0, .int .i64 0, .int .i64 0, .int .i64 0, .int .i64 0, .int .i64 0], true⟩), (60, ⟨.arr 3 3, 3, 24, [.int .i64 0, .int .i64 0, .int .i64 0], true⟩), (84, ⟨.struct [(3, 0), (41, 1)], 2, 32, [.int .i64 0, .slice none 0 0], false⟩), (86, ⟨.struct [(22, 0), (3, 1), (45, 2)], 3, 40, [.slice none 0 0, .int .i64 0, .int .u64 0], false⟩), (129, ⟨.arr 6 3, 6, 48, [.int .i64 0, .int .i64 0, .int .i64 0, .int .i64 0, .int .i64 0, .int .i64 0], true⟩)]
theorem tt_okL4 : TTok Try.prog (Vm.look ttlL4) := ttok_of ⟨⟨by kernel_rfl, by kernel_rfl, by kernel_rfl⟩, ⟨by kernel_rfl, by kernel_rfl, by kernel_rfl⟩, ⟨by kernel_rfl, by kernel_rfl, by kernel_rfl⟩, ⟨by kernel_rfl, by kernel_rfl, by kernel_rfl⟩, ⟨by kernel_rfl, by kernel_rfl, by kernel_rfl⟩, ⟨by kernel_rfl, by kernel_rfl, by kernel_rfl⟩, ⟨by kernel_rfl, by kernel_rfl, by kernel_rfl⟩, ⟨by kernel_rfl, by kernel_rfl, by kernel_rfl⟩, ⟨by kernel_rfl, by kernel_rfl, by kernel_rfl⟩, ⟨by kernel_rfl, by kernel_rfl, by kernel_rfl⟩, ⟨by kernel_rfl, by kernel_rfl, by kernel_rfl⟩, ⟨by kernel_rfl, by kernel_rfl, by kernel_rfl⟩, ⟨by kernel_rfl, by kernel_rfl, by kernel_rfl⟩, ⟨by kernel_rfl, by kernel_rfl, by kernel_rfl⟩, ⟨by kernel_rfl, by kernel_rfl, by kernel_rfl⟩, ⟨by kernel_rfl, by kernel_rfl, by kernel_rfl⟩, ⟨by kernel_rfl, by kernel_rfl, by kernel_rfl⟩, ⟨by kernel_rfl, by kernel_rfl, by kernel_rfl⟩, ⟨by kernel_rfl, by kernel_rfl, by kernel_rfl⟩, ⟨by kernel_rfl, by kernel_rfl, by kernel_rfl⟩, ⟨by kernel_rfl, by kernel_rfl, by kernel_rfl⟩, trivial⟩
theorem moL4 : Try.prog.follows .mixedOrders = true := by kernel_rfl
/-! recordlink/recordlinklaw26.CandidateGrows -/
noncomputable def rl_law26_CandidateGrows_k4 (x50 : Int) (x53 : List S_api_Candidate) : Option (((List S_api_Candidate) × Int) ⊕ (List S_api_Candidate)) := some (.inl (x53, i64.wrap (x50 + 1)))
noncomputable def rl_law26_CandidateGrows_k5 (y21 : List S_api_Candidate) (x49 : List S_api_Candidate) (x50 : Int) (x56 : Bool) : Option (((List S_api_Candidate) × Int) ⊕ (List S_api_Candidate)) := if x56 = true then (if x49.length + ([(⟨((y21.getD (0 + x50.toNat) dS_api_Candidate).A), ((y21.getD (0 + x50.toNat) dS_api_Candidate).B), (y21.getD (0 + x50.toNat) dS_api_Candidate).Pattern, (y21.getD (0 + x50.toNat) dS_api_Candidate).Weight⟩ : S_api_Candidate)] : List S_api_Candidate).length ≤ 1099511627776 then (rl_law26_CandidateGrows_k4 x50 (x49 ++ ([(⟨((y21.getD (0 + x50.toNat) dS_api_Candidate).A), ((y21.getD (0 + x50.toNat) dS_api_Candidate).B), (y21.getD (0 + x50.toNat) dS_api_Candidate).Pattern, (y21.getD (0 + x50.toNat) dS_api_Candidate).Weight⟩ : S_api_Candidate)] : List S_api_Candidate))) else none) else (rl_law26_CandidateGrows_k4 x50 x49)
noncomputable def rl_law26_CandidateGrows_l3 (y18 : List (List S_api_Sent)) (y21 : List S_api_Candidate) (y25 : Int) (y32 : Int) (x49 : List S_api_Candidate) (x50 : Int) : Option (((List S_api_Candidate) × Int) ⊕ (List S_api_Candidate)) := if (decide (x50 < (y21.length : Int))) = true then (if 0 ≤ x50 then (if x50 < (y21.length : Int) then (if (!(((((y21.getD (0 + x50.toNat) dS_api_Candidate).A).Registry) == y25) && (((((y21.getD (0 + x50.toNat) dS_api_Candidate).A).ID) == ((((y18.getD (0 + y25.toNat) ([] : List S_api_Sent)).getD y32.toNat dS_api_Sent).Record).ID)) && true))) = true then (rl_law26_CandidateGrows_k5 y21 x49 x50 (!(((((y21.getD (0 + x50.toNat) dS_api_Candidate).B).Registry) == y25) && (((((y21.getD (0 + x50.toNat) dS_api_Candidate).B).ID) == ((((y18.getD (0 + y25.toNat) ([] : List S_api_Sent)).getD y32.toNat dS_api_Sent).Record).ID)) && true)))) else (rl_law26_CandidateGrows_k5 y21 x49 x50 false)) else none) else none) else (some (.inr x49))
noncomputable def rl_law26_CandidateGrows_k6 (x61 : Bool) : Option Bool := some x61
noncomputable def rl_law26_CandidateGrows_k2 (y7 : Int) (y10 : Int) (y13 : S_api_Weights) (y18 : List (List S_api_Sent)) (y21 : List S_api_Candidate) (y22 : Int) (y25 : Int) (y26 : S_recordlinkmake_Deck) (x28 : Bool) : Option Bool := if x28 = true then (some (y22 == 0)) else (if 0 ≤ y25 then (if y25 < (y18.length : Int) then (bind2 (rl_make_Deck_Next y26 (((y18.getD (0 + y25.toNat) ([] : List S_api_Sent)).length : Nat) : Int)) fun y32 y33 => (if 0 ≤ y32 then (if y32 < (((y18.getD (0 + y25.toNat) ([] : List S_api_Sent)).length : Nat) : Int) then (if 0 + y18.length ≤ 1099511627776 then (if y32.toNat ≤ ((y18.getD (0 + y25.toNat) ([] : List S_api_Sent)).length) then (if 0 + y32.toNat ≤ 1099511627776 then (if 0 ≤ (i64.wrap (y32 + 1)) then (if ((i64.wrap (y32 + 1)).toNat) ≤ ((y18.getD (0 + y25.toNat) ([] : List S_api_Sent)).length) then (if (([] : List S_api_Sent) ++ ((y18.getD (0 + y25.toNat) ([] : List S_api_Sent)).take y32.toNat)).length + ((y18.getD (0 + y25.toNat) ([] : List S_api_Sent)).length - (i64.wrap (y32 + 1)).toNat) ≤ 1099511627776 then (if y25 < (((([] : List (List S_api_Sent)) ++ y18).length : Nat) : Int) then (bind2 (candidate_Make y13 (([700, 500, 900] : List Int).take ((i64.wrap (1 + y7)).toNat)) (i64.wrap (1 + y10)) ((([] : List (List S_api_Sent)) ++ y18).set (0 + y25.toNat) ((([] : List S_api_Sent) ++ ((y18.getD (0 + y25.toNat) ([] : List S_api_Sent)).take y32.toNat)) ++ (((y18.getD (0 + y25.toNat) ([] : List S_api_Sent)).drop ((i64.wrap (y32 + 1)).toNat)).take ((y18.getD (0 + y25.toNat) ([] : List S_api_Sent)).length - (i64.wrap (y32 + 1)).toNat))))) fun y44 y45 => ((loop (fun v : (List S_api_Candidate) × Int => rl_law26_CandidateGrows_l3 y18 y21 y25 y32 v.1 v.2) (([] : List S_api_Candidate), 0)).bind fun x60 => (if (y45 == 0) = true then ((rl_ref26_Same y44 x60).bind fun y63 => (rl_law26_CandidateGrows_k6 y63)) else (rl_law26_CandidateGrows_k6 false)))) else none) else none) else none) else none) else none) else none) else none) else none) else none)) else none) else none)
noncomputable def rl_law26_CandidateGrows_k1 (p0 : List Int) (x1 : Bool) : Option Bool := if x1 = true then ((rl_law26_awake).bind fun y3 => (some y3)) else ((rl_make_New p0).bind fun y5 => (bind2 (rl_make_Deck_Next y5 3) fun y7 y8 => (bind2 (rl_make_Deck_Next y8 2) fun y10 y11 => (bind2 (rl_play_Weights y11 (i64.wrap (1 + y7))) fun y13 y14 => (if 0 ≤ (i64.wrap (1 + y7)) then (if ((i64.wrap (1 + y7)).toNat) ≤ (([700, 500, 900] : List Int).length) then (bind2 (rl_play_Sheets y14 (i64.wrap (1 + y7)) (i64.wrap (1 + y10)) 3 4) fun y18 y19 => (bind2 (candidate_Make y13 (([700, 500, 900] : List Int).take ((i64.wrap (1 + y7)).toNat)) (i64.wrap (1 + y10)) y18) fun y21 y22 => (if 0 + (i64.wrap (1 + y7)).toNat ≤ ([700, 500, 900] : List Int).length then (bind2 (rl_make_Deck_Next y19 3) fun y25 y26 => (if (y22 != 0) = true then (rl_law26_CandidateGrows_k2 y7 y10 y13 y18 y21 y22 y25 y26 true) else (if 0 ≤ y25 then (if y25 < (y18.length : Int) then (rl_law26_CandidateGrows_k2 y7 y10 y13 y18 y21 y22 y25 y26 ((((y18.getD (0 + y25.toNat) ([] : List S_api_Sent)).length : Nat) : Int) == 0)) else none) else none))) else none))) else none) else none)))))
noncomputable def rl_law26_CandidateGrows (p0 : List Int) : Option Bool := (rl_law26_awake).bind fun y69 => (if (!y69) = true then (rl_law26_CandidateGrows_k1 p0 true) else ((rl_make_Few p0).bind fun y72 => (rl_law26_CandidateGrows_k1 p0 (!y72))))
set_option maxRecDepth 100000 in
theorem rl_law26_CandidateGrows_con (p0 : List Int) (r : Bool) (h : rl_law26_CandidateGrows p0 = some r) : Con Try.prog 4 [vl 1 Ri64 p0] [] (vb r) [] := by
 refine con_of tt_okL4 0 Try.func4 (by kernel_rfl) rfl (by kernel_rfl) (fun base X _ => AW.post ?_)
 unfold rl_law26_CandidateGrows at h
 refine AW.sg tt_okL4 [] [] [] 1 [] (by kernel_rfl) ?_
 refine AW.seq (AW.seq ?_)
 refine AW.join (ι := Bool) (fun v => ⟨[(0, vl 1 Ri64 p0), (26, vb v)], [], 0⟩) (fun v : Bool => rl_law26_CandidateGrows_k1 p0 v = some r) (fun x1 h => ?_) ?_
 ·
  unfold rl_law26_CandidateGrows_k1 at h
  refine AW.tn ?_
  refine AW.co h (by kernel_rfl) (fun c2 h => ?_) (fun c2 h => ?_)
  ·
   obtain ⟨y3, e4, h⟩ := bnd_some h
   refine AW.sg tt_okL4 [(2, vb y3)] [] [] 1 [hk (rl_law26_awake_con y3 e4)] (by kernel_rfl) ?_
   refine AW.ret (AW.tr ?_)
   obtain rfl := some_inj h
   exact fn0 (.inr rfl) [] 0 (vb y3) (by kernel_rfl)
  ·
   refine AW.skip (AW.tn ?_)
   obtain ⟨y5, e6, h⟩ := bnd_some h
   refine AW.sg tt_okL4 [(3, .c (.ptr 1 3 0 0))] [1] [(1, .box 86 [cl 1 Ri64 y5.list, ci64 y5.at_, cu64 y5.state])] 3 [hn, hl [] [] 1 (rl_make_New_con p0 y5 e6)] (by kernel_rfl) ?_
   obtain ⟨y7, y8, e9, h⟩ := bind2_some h
   obtain ⟨y10, y11, e12, h⟩ := bind2_some h
   refine AW.sg tt_okL4 [(5, vi64 (i64.wrap (1 + y10))), (4, vi64 (i64.wrap (1 + y7)))] [1] [(1, .box 86 [cl 1 Ri64 y11.list, ci64 y11.at_, cu64 y11.state])] 9 [hn, hl [1] [] 0 (rl_make_Deck_Next_con y5 3 (y7, y8) e9), hn, hn, hl [1] [] 0 (rl_make_Deck_Next_con y8 2 (y10, y11) e12)] (by kernel_rfl) ?_
   obtain ⟨y13, y14, e15, h⟩ := bind2_some h
   obtain ⟨g16, g17, h⟩ := ifd h
   refine AW.sd tt_okL4 moL4 [[], [], [1, 11, 12], [13], [], [], [16], [16]] [(7, .c (.ref 13 1 0 ((i64.wrap (1 + y7)).toNat))), (6, .c (.ptr 16 3 0 0))] [(16, .box 35 [ci64 y13.Prior, .ref 11 1 0 y13.Agree.length, .ref 12 1 0 y13.Differ.length]), (13, .row 3 false 1 ([700, 500, 900] : List Int).length (Ri64 ([700, 500, 900] : List Int))), (1, .box 86 [cl 1 Ri64 y14.list, ci64 y14.at_, cu64 y14.state]), (11, .row 3 false 1 y13.Agree.length (Ri64 y13.Agree)), (12, .row 3 false 1 y13.Differ.length (Ri64 y13.Differ))] 19 [hn, hn, hl [1] [] 2 (rl_play_Weights_con y11 (i64.wrap (1 + y7)) (y13, y14) e15), hlit 0 Ei64 1 (fun _ => rfl) ([700, 500, 900] : List Int), hn, ho (p := (True) ∧ (0 ≤ (i64.wrap (1 + y7))) ∧ (0 ≤ ((i64.wrap (1 + y7)).toNat)) ∧ (((i64.wrap (1 + y7)).toNat) ≤ (([700, 500, 900] : List Int).length))) (⟨tv, g16, (Nat.zero_le _), g17⟩)] (by kernel_rfl) ?_
   obtain ⟨y18, y19, e20, h⟩ := bind2_some h
   refine AW.sg tt_okL4 [(8, .c (.ref 22 1 0 y18.length))] [1, 22] [(1, .box 86 [cl 1 Ri64 y19.list, ci64 y19.at_, cu64 y19.state]), (22, .row 37 false 1 y18.length (RlS_api_Sent y18))] 24 [hn, hn, hn, hl [1] [] 1 (rl_play_Sheets_con y14 (i64.wrap (1 + y7)) (i64.wrap (1 + y10)) 3 4 (y18, y19) e20)] (by kernel_rfl) ?_
   obtain ⟨y21, y22, e23, h⟩ := bind2_some h
   obtain ⟨g24, h⟩ := ifc h
   refine AW.sg tt_okL4 [(10, vi64 y22), (9, .c (.ref 28 6 0 y21.length))] [28] [(28, .row 49 false 6 y21.length (RS_api_Candidate y21))] 34 [hn, hn, hn, hn, hg [] [] true 1 (q := ((True) ∧ (0 + y13.Agree.length ≤ y13.Agree.length) ∧ (0 + y13.Differ.length ≤ y13.Differ.length) ∧ (True)) ∧ (0 + (i64.wrap (1 + y7)).toNat ≤ ([700, 500, 900] : List Int).length) ∧ (True) ∧ (0 + y18.length ≤ y18.length) ∧ (True)) ⟨⟨tv, le0, le0, tv⟩, g24, tv, le0, tv⟩ (a0 := [.agg [ci64 y13.Prior, cl 1 Ri64 y13.Agree, cl 1 Ri64 y13.Differ], .c (.t (.tree ((i64.wrap (1 + y7)).toNat) 1 (Ri64 ([700, 500, 900] : List Int)))), vi64 (i64.wrap (1 + y10)), vl 1 RlS_api_Sent y18]) (candidate_Make_con y13 (([700, 500, 900] : List Int).take ((i64.wrap (1 + y7)).toNat)) (i64.wrap (1 + y10)) y18 (y21, y22) e23) ⟨ArgLe.refl _, ArgLe.c (CAle.tree (take_row (by omega))), ArgLe.refl _, ArgLe.refl _, tv⟩ (fun _ => ⟨rowL_flat VS_api_Candidate _ _ _, tv⟩)] (by kernel_rfl) ?_
   obtain ⟨y25, y26, e27, h⟩ := bind2_some h
   refine AW.sg tt_okL4 [(11, vi64 y25)] [1] [(1, .box 86 [cl 1 Ri64 y26.list, ci64 y26.at_, cu64 y26.state])] 36 [hn, hl [1] [] 0 (rl_make_Deck_Next_con y19 3 (y25, y26) e27)] (by kernel_rfl) ?_
   refine AW.seq (AW.seq ?_)
   refine AW.join (ι := Bool) (fun v => ⟨[(3, .c (.ptr 0 3 0 0)), (5, vi64 (i64.wrap (1 + y10))), (6, .c (.ptr 1 3 0 0)), (7, .c (.ref 2 1 0 ((i64.wrap (1 + y7)).toNat))), (8, .c (.ref 3 1 0 y18.length)), (9, .c (.ref 4 6 0 y21.length)), (10, vi64 y22), (11, vi64 y25), (65, vb v)], [(0, .box 86 [cl 1 Ri64 y26.list, ci64 y26.at_, cu64 y26.state]), (1, .box 35 [ci64 y13.Prior, .ref 5 1 0 y13.Agree.length, .ref 6 1 0 y13.Differ.length]), (2, .row 3 false 1 ([700, 500, 900] : List Int).length (Ri64 ([700, 500, 900] : List Int))), (3, .row 37 false 1 y18.length (RlS_api_Sent y18)), (4, .row 49 false 6 y21.length (RS_api_Candidate y21)), (5, .row 3 false 1 y13.Agree.length (Ri64 y13.Agree)), (6, .row 3 false 1 y13.Differ.length (Ri64 y13.Differ))], 7⟩) (fun v : Bool => rl_law26_CandidateGrows_k2 y7 y10 y13 y18 y21 y22 y25 y26 v = some r) (fun x28 h => ?_) ?_
   ·
    unfold rl_law26_CandidateGrows_k2 at h
    refine AW.tn ?_
    refine AW.co h (by kernel_rfl) (fun c29 h => ?_) (fun c29 h => ?_)
    ·
     refine AW.sg tt_okL4 [(2, vb (y22 == 0))] [] [] 10 [] (by kernel_rfl) ?_
     refine AW.ret (AW.tr ?_)
     obtain rfl := some_inj h
     exact fn0 (.inr rfl) [] 0 (vb (y22 == 0)) (by kernel_rfl)
    ·
     refine AW.skip (AW.tn ?_)
     obtain ⟨g30, g31, h⟩ := ifd h
     obtain ⟨y32, y33, e34, h⟩ := bind2_some h
     refine AW.sg tt_okL4 [(12, vi64 y32)] [0] [] 14 [hn, hn, hn, hq g30 g31, ho (p := (0 + y25.toNat) < y18.length) (by have h1 : 0 ≤ y25 := g30; have h2 : y25 < (y18.length : Int) := g31; omega), hn, hl [0] [] 0 (rl_make_Deck_Next_con y26 (((y18.getD (0 + y25.toNat) ([] : List S_api_Sent)).length : Nat) : Int) (y32, y33) e34)] (by kernel_rfl) ?_
     obtain ⟨g35, g36, h⟩ := ifd h
     refine AW.sg tt_okL4 [(13, .c (.ptr 25 2 0 0))] [25] [(25, .box 47 [ci64 y25, ci64 ((((y18.getD (0 + y25.toNat) ([] : List S_api_Sent)).getD y32.toNat dS_api_Sent).Record).ID)])] 27 [hn, hn, hn, hq g30 g31, ho (p := (0 + y25.toNat) < y18.length) (by have h1 : 0 ≤ y25 := g30; have h2 : y25 < (y18.length : Int) := g31; omega), hn, hq g35 g36] (by kernel_rfl) ?_
     obtain ⟨g37, h⟩ := ifc h
     refine AW.sg tt_okL4 [(14, .c (.ref 28 1 0 ((([] : List (List S_api_Sent)) ++ y18).length)))] [28] [(28, .row 37 false 1 (([] : List (List S_api_Sent)) ++ y18).length (RlS_api_Sent (([] : List (List S_api_Sent)) ++ y18)))] 30 [hn, happ0 ([] : List S_api_Sent) ElS_api_Sent 1 24 y18 g37 (by decide)] (by kernel_rfl) ?_
     obtain ⟨g38, g39, h⟩ := ifd h
     obtain ⟨g40, g41, h⟩ := ifd h
     obtain ⟨g42, g43, h⟩ := ifd h
     refine AW.sd tt_okL4 moL4 [[], [], [], [], [], [], [], [], [38], [], [], [], [], [], [], [], [46, 38], [], [28]] [] [(28, .row 37 false 1 (([] : List (List S_api_Sent)) ++ y18).length (RlS_api_Sent ((([] : List (List S_api_Sent)) ++ y18).set (0 + y25.toNat) ((([] : List S_api_Sent) ++ ((y18.getD (0 + y25.toNat) ([] : List S_api_Sent)).take y32.toNat)) ++ (((y18.getD (0 + y25.toNat) ([] : List S_api_Sent)).drop ((i64.wrap (y32 + 1)).toNat)).take ((y18.getD (0 + y25.toNat) ([] : List S_api_Sent)).length - (i64.wrap (y32 + 1)).toNat))))))] 49 [hn, hn, hn, hn, hq g30 g31, ho (p := (0 + y25.toNat) < y18.length) (by have h1 : 0 ≤ y25 := g30; have h2 : y25 < (y18.length : Int) := g31; omega), hn, ho (p := (True) ∧ (0 ≤ y32) ∧ (0 ≤ y32.toNat) ∧ (y32.toNat ≤ ((y18.getD (0 + y25.toNat) ([] : List S_api_Sent)).length))) (⟨tv, g35, (Nat.zero_le _), g38⟩), hr ((([] : List S_api_Sent) ++ ((y18.getD (0 + y25.toNat) ([] : List S_api_Sent)).take y32.toNat)).length) (RS_api_Sent (([] : List S_api_Sent) ++ ((y18.getD (0 + y25.toNat) ([] : List S_api_Sent)).take y32.toNat))) (p := (True) ∧ (True) ∧ ((0 + y32.toNat ≤ 1099511627776) ∧ ((88 : Nat) ≤ 128)) ∧ (0 + y32.toNat = (([] : List S_api_Sent) ++ ((y18.getD (0 + y25.toNat) ([] : List S_api_Sent)).take y32.toNat)).length ∧ ∀ i, i < (([] : List S_api_Sent) ++ ((y18.getD (0 + y25.toNat) ([] : List S_api_Sent)).take y32.toNat)).length → ∀ j, j < 5 → TLe ((appRow 0 (fun _ _ => .v undef) (RS_api_Sent (y18.getD (0 + y25.toNat) ([] : List S_api_Sent)))) i j) (RS_api_Sent (([] : List S_api_Sent) ++ ((y18.getD (0 + y25.toNat) ([] : List S_api_Sent)).take y32.toNat)) i j))) (⟨tv, tv, ⟨g39, (by decide)⟩, rowT (app_row rfl (take_row (d := dS_api_Sent) (enc := ES_api_Sent) (sz := 5) (by omega)).1 row_nil ((take_row (d := dS_api_Sent) (enc := ES_api_Sent) (sz := 5) (by omega)).elim fun e h i hi j hj => h i (Nat.lt_of_lt_of_eq hi e) j hj))⟩), hn, hn, hq g30 g31, ho (p := (0 + y25.toNat) < y18.length) (by have h1 : 0 ≤ y25 := g30; have h2 : y25 < (y18.length : Int) := g31; omega), hn, hn, ho (p := (0 ≤ (i64.wrap (y32 + 1))) ∧ (True) ∧ (((i64.wrap (y32 + 1)).toNat) ≤ ((y18.getD (0 + y25.toNat) ([] : List S_api_Sent)).length)) ∧ (((y18.getD (0 + y25.toNat) ([] : List S_api_Sent)).length) ≤ ((y18.getD (0 + y25.toNat) ([] : List S_api_Sent)).length))) (⟨g40, tv, g41, (Nat.le_refl _)⟩), hz (hr (((([] : List S_api_Sent) ++ ((y18.getD (0 + y25.toNat) ([] : List S_api_Sent)).take y32.toNat)) ++ (((y18.getD (0 + y25.toNat) ([] : List S_api_Sent)).drop ((i64.wrap (y32 + 1)).toNat)).take ((y18.getD (0 + y25.toNat) ([] : List S_api_Sent)).length - (i64.wrap (y32 + 1)).toNat))).length) (RS_api_Sent ((([] : List S_api_Sent) ++ ((y18.getD (0 + y25.toNat) ([] : List S_api_Sent)).take y32.toNat)) ++ (((y18.getD (0 + y25.toNat) ([] : List S_api_Sent)).drop ((i64.wrap (y32 + 1)).toNat)).take ((y18.getD (0 + y25.toNat) ([] : List S_api_Sent)).length - (i64.wrap (y32 + 1)).toNat)))) (p := ((([] : List S_api_Sent) ++ ((y18.getD (0 + y25.toNat) ([] : List S_api_Sent)).take y32.toNat)).length = (([] : List S_api_Sent) ++ ((y18.getD (0 + y25.toNat) ([] : List S_api_Sent)).take y32.toNat)).length) ∧ (True) ∧ (((([] : List S_api_Sent) ++ ((y18.getD (0 + y25.toNat) ([] : List S_api_Sent)).take y32.toNat)).length + ((y18.getD (0 + y25.toNat) ([] : List S_api_Sent)).length - (i64.wrap (y32 + 1)).toNat) ≤ 1099511627776) ∧ ((88 : Nat) ≤ 128)) ∧ ((([] : List S_api_Sent) ++ ((y18.getD (0 + y25.toNat) ([] : List S_api_Sent)).take y32.toNat)).length + ((y18.getD (0 + y25.toNat) ([] : List S_api_Sent)).length - (i64.wrap (y32 + 1)).toNat) = ((([] : List S_api_Sent) ++ ((y18.getD (0 + y25.toNat) ([] : List S_api_Sent)).take y32.toNat)) ++ (((y18.getD (0 + y25.toNat) ([] : List S_api_Sent)).drop ((i64.wrap (y32 + 1)).toNat)).take ((y18.getD (0 + y25.toNat) ([] : List S_api_Sent)).length - (i64.wrap (y32 + 1)).toNat))).length ∧ ∀ i, i < ((([] : List S_api_Sent) ++ ((y18.getD (0 + y25.toNat) ([] : List S_api_Sent)).take y32.toNat)) ++ (((y18.getD (0 + y25.toNat) ([] : List S_api_Sent)).drop ((i64.wrap (y32 + 1)).toNat)).take ((y18.getD (0 + y25.toNat) ([] : List S_api_Sent)).length - (i64.wrap (y32 + 1)).toNat))).length → ∀ j, j < 5 → TLe ((appRow ((([] : List S_api_Sent) ++ ((y18.getD (0 + y25.toNat) ([] : List S_api_Sent)).take y32.toNat)).length) (RS_api_Sent (([] : List S_api_Sent) ++ ((y18.getD (0 + y25.toNat) ([] : List S_api_Sent)).take y32.toNat))) (fun i j => RS_api_Sent (y18.getD (0 + y25.toNat) ([] : List S_api_Sent)) ((i64.wrap (y32 + 1)).toNat + i) j)) i j) (RS_api_Sent ((([] : List S_api_Sent) ++ ((y18.getD (0 + y25.toNat) ([] : List S_api_Sent)).take y32.toNat)) ++ (((y18.getD (0 + y25.toNat) ([] : List S_api_Sent)).drop ((i64.wrap (y32 + 1)).toNat)).take ((y18.getD (0 + y25.toNat) ([] : List S_api_Sent)).length - (i64.wrap (y32 + 1)).toNat))) i j))) (⟨rfl, tv, ⟨g42, (by decide)⟩, rowT (app_row rfl (part_row (d := dS_api_Sent) (enc := ES_api_Sent) (sz := 5) (by omega)).1 row_rfl ((part_row (d := dS_api_Sent) (enc := ES_api_Sent) (sz := 5) (by omega)).elim fun e h i hi j hj => h i (Nat.lt_of_lt_of_eq hi e) j hj))⟩)) (((([] : List S_api_Sent) ++ ((y18.getD (0 + y25.toNat) ([] : List S_api_Sent)).take y32.toNat)) ++ (((y18.getD (0 + y25.toNat) ([] : List S_api_Sent)).drop ((i64.wrap (y32 + 1)).toNat)).take ((y18.getD (0 + y25.toNat) ([] : List S_api_Sent)).length - (i64.wrap (y32 + 1)).toNat))).length), hq g30 g43, hset ([] : List S_api_Sent) ElS_api_Sent (([] : List (List S_api_Sent)) ++ y18) (0 + y25.toNat) ((([] : List S_api_Sent) ++ ((y18.getD (0 + y25.toNat) ([] : List S_api_Sent)).take y32.toNat)) ++ (((y18.getD (0 + y25.toNat) ([] : List S_api_Sent)).drop ((i64.wrap (y32 + 1)).toNat)).take ((y18.getD (0 + y25.toNat) ([] : List S_api_Sent)).length - (i64.wrap (y32 + 1)).toNat))) (n := (([] : List (List S_api_Sent)) ++ y18).length) (by have h1 : 0 ≤ y25 := g30; have h2 : y25 < (((([] : List (List S_api_Sent)) ++ y18).length : Nat) : Int) := g43; omega) rfl] (by kernel_rfl) ?_
     obtain ⟨y44, y45, e46, h⟩ := bind2_some h
     refine AW.sg tt_okL4 [(16, vi64 y45), (15, .c (.ref 53 6 0 y44.length))] [53] [(53, .row 49 false 6 y44.length (RS_api_Candidate y44))] 59 [hn, hn, hn, hn, hg [] [] true 1 (q := ((True) ∧ (0 + y13.Agree.length ≤ y13.Agree.length) ∧ (0 + y13.Differ.length ≤ y13.Differ.length) ∧ (True)) ∧ (0 + (i64.wrap (1 + y7)).toNat ≤ ([700, 500, 900] : List Int).length) ∧ (True) ∧ (0 + (([] : List (List S_api_Sent)) ++ y18).length ≤ (([] : List (List S_api_Sent)) ++ y18).length) ∧ (True)) ⟨⟨tv, le0, le0, tv⟩, g24, tv, le0, tv⟩ (a0 := [.agg [ci64 y13.Prior, cl 1 Ri64 y13.Agree, cl 1 Ri64 y13.Differ], .c (.t (.tree ((i64.wrap (1 + y7)).toNat) 1 (Ri64 ([700, 500, 900] : List Int)))), vi64 (i64.wrap (1 + y10)), .c (.t (.tree ((([] : List (List S_api_Sent)) ++ y18).length) 1 (RlS_api_Sent ((([] : List (List S_api_Sent)) ++ y18).set (0 + y25.toNat) ((([] : List S_api_Sent) ++ ((y18.getD (0 + y25.toNat) ([] : List S_api_Sent)).take y32.toNat)) ++ (((y18.getD (0 + y25.toNat) ([] : List S_api_Sent)).drop ((i64.wrap (y32 + 1)).toNat)).take ((y18.getD (0 + y25.toNat) ([] : List S_api_Sent)).length - (i64.wrap (y32 + 1)).toNat)))))))]) (show Con Try.prog 17 [.agg [ci64 y13.Prior, cl 1 Ri64 y13.Agree, cl 1 Ri64 y13.Differ], vl 1 Ri64 (([700, 500, 900] : List Int).take ((i64.wrap (1 + y7)).toNat)), vi64 (i64.wrap (1 + y10)), .c (.t (.tree ((([] : List (List S_api_Sent)) ++ y18).length) 1 (RlS_api_Sent ((([] : List (List S_api_Sent)) ++ y18).set (0 + y25.toNat) ((([] : List S_api_Sent) ++ ((y18.getD (0 + y25.toNat) ([] : List S_api_Sent)).take y32.toNat)) ++ (((y18.getD (0 + y25.toNat) ([] : List S_api_Sent)).drop ((i64.wrap (y32 + 1)).toNat)).take ((y18.getD (0 + y25.toNat) ([] : List S_api_Sent)).length - (i64.wrap (y32 + 1)).toNat)))))))] [] (.tup [.c (.ref 0 6 0 y44.length), vi64 y45]) [(0, .row 49 false 6 y44.length (RS_api_Candidate y44))] from by have hc := (candidate_Make_con y13 (([700, 500, 900] : List Int).take ((i64.wrap (1 + y7)).toNat)) (i64.wrap (1 + y10)) ((([] : List (List S_api_Sent)) ++ y18).set (0 + y25.toNat) ((([] : List S_api_Sent) ++ ((y18.getD (0 + y25.toNat) ([] : List S_api_Sent)).take y32.toNat)) ++ (((y18.getD (0 + y25.toNat) ([] : List S_api_Sent)).drop ((i64.wrap (y32 + 1)).toNat)).take ((y18.getD (0 + y25.toNat) ([] : List S_api_Sent)).length - (i64.wrap (y32 + 1)).toNat)))) (y44, y45) e46); simpa only [List.length_set, vl, cl] using hc) ⟨ArgLe.refl _, ArgLe.c (CAle.tree (take_row (by omega))), ArgLe.refl _, ArgLe.refl _, tv⟩ (fun _ => ⟨rowL_flat VS_api_Candidate _ _ _, tv⟩)] (by kernel_rfl) ?_
     refine AW.sg tt_okL4 [(17, .c (.t (.v (.slice none 0 0))))] [] [] 60 [] (by kernel_rfl) ?_
     refine AW.seq ?_
     refine AW.sg tt_okL4 [(116, vi64 0), (115, vi64 (y21.length : Int)), (114, .c (.ref 4 6 0 y21.length))] [] [] 63 [] (by kernel_rfl) ?_
     refine AW.block ?_
     obtain ⟨x60, l65, h⟩ := bnd_some h
     refine AW.lp l65 (fun v => ⟨[(13, .c (.ptr 0 2 0 0)), (15, .c (.ref 1 6 0 y44.length)), (16, vi64 y45), (17, .c (.ref 2 6 0 v.1.length)), (114, .c (.ref 3 6 0 y21.length)), (115, vi64 (y21.length : Int)), (116, vi64 v.2)], [(0, .box 47 [ci64 y25, ci64 ((((y18.getD (0 + y25.toNat) ([] : List S_api_Sent)).getD y32.toNat dS_api_Sent).Record).ID)]), (1, .row 49 false 6 y44.length (RS_api_Candidate y44)), (2, .row 49 false 6 v.1.length (RS_api_Candidate v.1)), (3, .row 49 false 6 y21.length (RS_api_Candidate y21))], 4⟩) (fun t : List S_api_Candidate => (.exit 0, ⟨[(15, .c (.ref 0 6 0 y44.length)), (16, vi64 y45), (17, .c (.ref 1 6 0 t.length))], [(0, .row 49 false 6 y44.length (RS_api_Candidate y44)), (1, .row 49 false 6 t.length (RS_api_Candidate t))], 2⟩)) (Conv.trans (conv_adopt (t := 17) (ty := 49) (sz := 6) (n := ([] : List S_api_Candidate).length) (f := RS_api_Candidate ([] : List S_api_Candidate)) (by kernel_rfl) rfl) (conv_re [(0, 25), (1, 53), (2, 63), (3, 4)] (by kernel_rfl))) (fun _ => tv) ?_ ?_
     ·
      clear l65 h
      intro v o h
      obtain ⟨x49, x50⟩ := v
      replace h : rl_law26_CandidateGrows_l3 y18 y21 y25 y32 x49 x50 = some o := h
      unfold rl_law26_CandidateGrows_l3 at h
      refine AW.sg tt_okL4 [(117, vb (decide (x50 < (y21.length : Int))))] [] [] 5 [] (by kernel_rfl) ?_
      refine AW.seq ?_
      refine AW.co h (by kernel_rfl) (fun c52 h => ?_) (fun c52 h => ?_)
      ·
       refine AW.skip (AW.tn (AW.seq ?_))
       refine AW.join (ι := List S_api_Candidate) (fun v => ⟨[(13, .c (.ptr 0 2 0 0)), (15, .c (.ref 1 6 0 y44.length)), (16, vi64 y45), (17, .c (.ref 2 6 0 v.length)), (114, .c (.ref 3 6 0 y21.length)), (115, vi64 (y21.length : Int)), (116, vi64 x50)], [(0, .box 47 [ci64 y25, ci64 ((((y18.getD (0 + y25.toNat) ([] : List S_api_Sent)).getD y32.toNat dS_api_Sent).Record).ID)]), (1, .row 49 false 6 y44.length (RS_api_Candidate y44)), (2, .row 49 false 6 v.length (RS_api_Candidate v)), (3, .row 49 false 6 y21.length (RS_api_Candidate y21))], 4⟩) (fun v : List S_api_Candidate => rl_law26_CandidateGrows_k4 x50 v = some o) (fun x53 h => ?_) ?_
       ·
        unfold rl_law26_CandidateGrows_k4 at h
        refine AW.tn ?_
        refine AW.rg tt_okL4 [(116, vi64 (i64.wrap (x50 + 1)))] [] [] 6 [] (by kernel_rfl) ?_
        exact lpn h (conv_re [(0, 0), (1, 1), (2, 2), (3, 3)] (by kernel_rfl))
       ·
        refine AW.block ?_
        obtain ⟨g54, g55, h⟩ := ifd h
        refine AW.sg tt_okL4 [(19, .c (.ptr 7 6 0 0))] [7] [(7, .box 49 [ci64 (((y21.getD (0 + x50.toNat) dS_api_Candidate).A).Registry), ci64 (((y21.getD (0 + x50.toNat) dS_api_Candidate).A).ID), ci64 (((y21.getD (0 + x50.toNat) dS_api_Candidate).B).Registry), ci64 (((y21.getD (0 + x50.toNat) dS_api_Candidate).B).ID), ci64 ((y21.getD (0 + x50.toNat) dS_api_Candidate).Pattern), ci64 ((y21.getD (0 + x50.toNat) dS_api_Candidate).Weight)])] 9 [hq g54 g55, ho (p := (0 + x50.toNat) < y21.length) (by have h1 : 0 ≤ x50 := g54; have h2 : x50 < (y21.length : Int) := g55; omega)] (by kernel_rfl) ?_
        refine AW.seq ?_
        refine AW.join (ι := Bool) (fun v => ⟨[(13, .c (.ptr 0 2 0 0)), (15, .c (.ref 1 6 0 y44.length)), (16, vi64 y45), (17, .c (.ref 2 6 0 x49.length)), (19, .c (.ptr 3 6 0 0)), (114, .c (.ref 4 6 0 y21.length)), (115, vi64 (y21.length : Int)), (116, vi64 x50), (129, vb v)], [(0, .box 47 [ci64 y25, ci64 ((((y18.getD (0 + y25.toNat) ([] : List S_api_Sent)).getD y32.toNat dS_api_Sent).Record).ID)]), (1, .row 49 false 6 y44.length (RS_api_Candidate y44)), (2, .row 49 false 6 x49.length (RS_api_Candidate x49)), (3, .box 49 [ci64 (((y21.getD (0 + x50.toNat) dS_api_Candidate).A).Registry), ci64 (((y21.getD (0 + x50.toNat) dS_api_Candidate).A).ID), ci64 (((y21.getD (0 + x50.toNat) dS_api_Candidate).B).Registry), ci64 (((y21.getD (0 + x50.toNat) dS_api_Candidate).B).ID), ci64 ((y21.getD (0 + x50.toNat) dS_api_Candidate).Pattern), ci64 ((y21.getD (0 + x50.toNat) dS_api_Candidate).Weight)]), (4, .row 49 false 6 y21.length (RS_api_Candidate y21))], 5⟩) (fun v : Bool => rl_law26_CandidateGrows_k5 y21 x49 x50 v = some o) (fun x56 h => ?_) ?_
        ·
         unfold rl_law26_CandidateGrows_k5 at h
         refine AW.tn ?_
         refine AW.co h (by kernel_rfl) (fun c57 h => ?_) (fun c57 h => ?_)
         ·
          obtain ⟨g58, h⟩ := ifc h
          refine AW.rg tt_okL4 [(17, .c (.ref 8 6 0 ((x49 ++ ([(⟨((y21.getD (0 + x50.toNat) dS_api_Candidate).A), ((y21.getD (0 + x50.toNat) dS_api_Candidate).B), (y21.getD (0 + x50.toNat) dS_api_Candidate).Pattern, (y21.getD (0 + x50.toNat) dS_api_Candidate).Weight⟩ : S_api_Candidate)] : List S_api_Candidate)).length)))] [2, 7, 8] [(8, .row 49 false 6 (x49 ++ ([(⟨((y21.getD (0 + x50.toNat) dS_api_Candidate).A), ((y21.getD (0 + x50.toNat) dS_api_Candidate).B), (y21.getD (0 + x50.toNat) dS_api_Candidate).Pattern, (y21.getD (0 + x50.toNat) dS_api_Candidate).Weight⟩ : S_api_Candidate)] : List S_api_Candidate)).length (RS_api_Candidate (x49 ++ ([(⟨((y21.getD (0 + x50.toNat) dS_api_Candidate).A), ((y21.getD (0 + x50.toNat) dS_api_Candidate).B), (y21.getD (0 + x50.toNat) dS_api_Candidate).Pattern, (y21.getD (0 + x50.toNat) dS_api_Candidate).Weight⟩ : S_api_Candidate)] : List S_api_Candidate))))] 10 [hn, hn, hlit dS_api_Candidate ES_api_Candidate 6 (fun _ => rfl) ([(⟨((y21.getD (0 + x50.toNat) dS_api_Candidate).A), ((y21.getD (0 + x50.toNat) dS_api_Candidate).B), (y21.getD (0 + x50.toNat) dS_api_Candidate).Pattern, (y21.getD (0 + x50.toNat) dS_api_Candidate).Weight⟩ : S_api_Candidate)] : List S_api_Candidate), happ dS_api_Candidate ES_api_Candidate 6 48 x49 ([(⟨((y21.getD (0 + x50.toNat) dS_api_Candidate).A), ((y21.getD (0 + x50.toNat) dS_api_Candidate).B), (y21.getD (0 + x50.toNat) dS_api_Candidate).Pattern, (y21.getD (0 + x50.toNat) dS_api_Candidate).Weight⟩ : S_api_Candidate)] : List S_api_Candidate) g58 (by decide)] (by kernel_rfl) ?_
          refine AW.inBlock_normal ?_
          exact jl (x49 ++ ([(⟨((y21.getD (0 + x50.toNat) dS_api_Candidate).A), ((y21.getD (0 + x50.toNat) dS_api_Candidate).B), (y21.getD (0 + x50.toNat) dS_api_Candidate).Pattern, (y21.getD (0 + x50.toNat) dS_api_Candidate).Weight⟩ : S_api_Candidate)] : List S_api_Candidate)) h (conv_re [(0, 0), (1, 1), (2, 8), (3, 4)] (by kernel_rfl))
         ·
          refine AW.skip (AW.inBlock_normal ?_)
          exact jl x49 h (conv_re [(0, 0), (1, 1), (2, 2), (3, 4)] (by kernel_rfl))
        ·
         rcases ifs h with ⟨c59, h⟩ | ⟨c59, h⟩
         ·
          refine AW.rg tt_okL4 [(129, vb (!(((((y21.getD (0 + x50.toNat) dS_api_Candidate).B).Registry) == y25) && (((((y21.getD (0 + x50.toNat) dS_api_Candidate).B).ID) == ((((y18.getD (0 + y25.toNat) ([] : List S_api_Sent)).getD y32.toNat dS_api_Sent).Record).ID)) && true))))] [] [] 19 [hn, hn, hn, ht c59] (by kernel_rfl) ?_
          exact jl (!(((((y21.getD (0 + x50.toNat) dS_api_Candidate).B).Registry) == y25) && (((((y21.getD (0 + x50.toNat) dS_api_Candidate).B).ID) == ((((y18.getD (0 + y25.toNat) ([] : List S_api_Sent)).getD y32.toNat dS_api_Sent).Record).ID)) && true))) h (conv_re [(0, 0), (1, 1), (2, 2), (3, 7), (4, 3)] (by kernel_rfl))
         ·
          refine AW.rg tt_okL4 [(129, vb false)] [] [] 19 [hn, hn, hn, hf c59] (by kernel_rfl) ?_
          exact jl false h (conv_re [(0, 0), (1, 1), (2, 2), (3, 7), (4, 3)] (by kernel_rfl))
      ·
       refine AW.exit (AW.thenQ_exit ?_)
       exact lpo h rfl (conv_re [(0, 1), (1, 2)] (by kernel_rfl))
     ·
      show (_ : Exit → St → Prop) (.exit 0) _
      refine AW.inBlock_hit (AW.tn (AW.seq ?_))
      refine AW.join (ι := Bool) (fun v => ⟨[(2, vb v)], [], 0⟩) (fun v : Bool => rl_law26_CandidateGrows_k6 v = some r) (fun x61 h => ?_) ?_
      ·
       unfold rl_law26_CandidateGrows_k6 at h
       refine AW.tn (AW.ret ?_)
       obtain rfl := some_inj h
       exact fn0 (.inr rfl) [] 0 (vb x61) (by kernel_rfl)
      ·
       rcases ifs h with ⟨c62, h⟩ | ⟨c62, h⟩
       ·
        obtain ⟨y63, e64, h⟩ := bnd_some h
        refine AW.rg tt_okL4 [(2, vb y63)] [] [] 9 [hn, ht c62, hn, hn, hn, hg [] [] true 0 (q := (0 + y44.length ≤ y44.length) ∧ (0 + x60.length ≤ x60.length) ∧ (True)) ⟨le0, le0, tv⟩ (a0 := [vl 6 RS_api_Candidate y44, vl 6 RS_api_Candidate x60]) (rl_ref26_Same_con y44 x60 y63 e64) ⟨ArgLe.refl _, ArgLe.refl _, tv⟩ (fun _ => tv)] (by kernel_rfl) ?_
        exact jl y63 h (conv_re [] (by kernel_rfl))
       ·
        refine AW.rg tt_okL4 [(2, vb false)] [] [] 10 [hn, hf c62] (by kernel_rfl) ?_
        exact jl false h (conv_re [] (by kernel_rfl))
   ·
    rcases ifs h with ⟨c66, h⟩ | ⟨c66, h⟩
    ·
     refine AW.rg tt_okL4 [(65, vb true)] [] [] 46 [hn, ht c66] (by kernel_rfl) ?_
     exact jl true h (conv_re [(0, 1), (1, 16), (2, 13), (3, 22), (4, 28), (5, 11), (6, 12)] (by kernel_rfl))
    ·
     obtain ⟨g67, g68, h⟩ := ifd h
     refine AW.rg tt_okL4 [(65, vb ((((y18.getD (0 + y25.toNat) ([] : List S_api_Sent)).length : Nat) : Int) == 0))] [] [] 46 [hn, hf c66, hn, hn, hn, hq g67 g68, ho (p := (0 + y25.toNat) < y18.length) (by have h1 : 0 ≤ y25 := g67; have h2 : y25 < (y18.length : Int) := g68; omega)] (by kernel_rfl) ?_
     exact jl ((((y18.getD (0 + y25.toNat) ([] : List S_api_Sent)).length : Nat) : Int) == 0) h (conv_re [(0, 1), (1, 16), (2, 13), (3, 22), (4, 28), (5, 11), (6, 12)] (by kernel_rfl))
 ·
  obtain ⟨y69, e70, h⟩ := bnd_some h
  rcases ifs h with ⟨c71, h⟩ | ⟨c71, h⟩
  ·
   refine AW.rg tt_okL4 [(26, vb true)] [] [] 7 [hk (rl_law26_awake_con y69 e70), ht c71] (by kernel_rfl) ?_
   exact jl true h (conv_re [] (by kernel_rfl))
  ·
   obtain ⟨y72, e73, h⟩ := bnd_some h
   refine AW.rg tt_okL4 [(26, vb (!y72))] [] [] 6 [hk (rl_law26_awake_con y69 e70), hf c71, hn, hn, hk (rl_make_Few_con p0 y72 e73)] (by kernel_rfl) ?_
   exact jl (!y72) h (conv_re [] (by kernel_rfl))
end Go.Proofs.Ytknlckjpgmjenaa
