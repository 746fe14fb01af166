/- Printed by a program of mine (vmgen.py): Go functions, and what they come to. -/
import Derived.Test.YtknlckjpgmjenaaVr
import Derived.Test.YtknlckjpgmjenaaRows
import Derived.Test.YtknlckjpgmjenaaG1
namespace Go.Proofs.Ytknlckjpgmjenaa
open Vm
open IntKind (i64 u64 u32 u8)
set_option maxHeartbeats 10000000
set_option linter.unusedVariables false
set_option linter.unusedSimpArgs false
set_option linter.constructorNameAsVariable false
def ttlL3 : List (Nat × TI) := [(3, ⟨.int .i64, 1, 8, [.int .i64 0], false⟩), (4, ⟨.bool, 1, 1, [.bool false], false⟩), (22, ⟨.slice 3, 1, 24, [.slice none 0 0], false⟩), (25, ⟨.ptr 86, 1, 8, [.pointer none], false⟩), (28, ⟨.slice 37, 1, 24, [.slice none 0 0], false⟩), (30, ⟨.slice 49, 1, 24, [.slice none 0 0], false⟩), (31, ⟨.int .i64, 1, 8, [.int .i64 0], false⟩), (35, ⟨.struct [(3, 0), (22, 1), (22, 2)], 3, 56, [.int .i64 0, .slice none 0 0, .slice none 0 0], false⟩), (37, ⟨.slice 44, 1, 24, [.slice none 0 0], false⟩), (38, ⟨.slice 84, 1, 24, [.slice none 0 0], false⟩), (40, ⟨.struct [(3, 0), (3, 1), (38, 2)], 3, 40, [.int .i64 0, .int .i64 0, .slice none 0 0], false⟩), (41, ⟨.slice 45, 1, 24, [.slice none 0 0], false⟩), (42, ⟨.slice 4, 1, 24, [.slice none 0 0], false⟩), (44, ⟨.struct [(40, 0), (41, 3), (42, 4)], 5, 88, [.int .i64 0, .int .i64 0, .slice none 0 0, .slice none 0 0, .slice none 0 0], false⟩), (45, ⟨.int .u64, 1, 8, [.int .u64 0], false⟩), (47, ⟨.struct [(3, 0), (3, 1)], 2, 16, [.int .i64 0, .int .i64 0], true⟩), (49, ⟨.struct [(47, 0), (47, 2), (3, 4), (3, 5)], 6, 48, [.int .i64 0, .int .i64 0, .int .i64 0, .int .i64 0, .int .i64 0, .int .i64 0], true⟩), (60, ⟨.arr 3 3, 3, 24, [.int .i64 0, .int .i64 0, .int .i64 0], true⟩), (84, ⟨.struct [(3, 0), (41, 1)], 2, 32, [.int .i64 0, .slice none 0 0], false⟩), (86, ⟨.struct [(22, 0), (3, 1), (45, 2)], 3, 40, [.slice none 0 0, .int .i64 0, .int .u64 0], false⟩), (129, ⟨.arr 6 3, 6, 48, [.int .i64 0, .int .i64 0, .int .i64 0, .int .i64 0, .int .i64 0, .int .i64 0], true⟩)]
theorem tt_okL3 : TTok Try.prog (Vm.look ttlL3) := ttok_of ⟨⟨by kernel_rfl, by kernel_rfl, by kernel_rfl⟩, ⟨by kernel_rfl, by kernel_rfl, by kernel_rfl⟩, ⟨by kernel_rfl, by kernel_rfl, by kernel_rfl⟩, ⟨by kernel_rfl, by kernel_rfl, by kernel_rfl⟩, ⟨by kernel_rfl, by kernel_rfl, by kernel_rfl⟩, ⟨by kernel_rfl, by kernel_rfl, by kernel_rfl⟩, ⟨by kernel_rfl, by kernel_rfl, by kernel_rfl⟩, ⟨by kernel_rfl, by kernel_rfl, by kernel_rfl⟩, ⟨by kernel_rfl, by kernel_rfl, by kernel_rfl⟩, ⟨by kernel_rfl, by kernel_rfl, by kernel_rfl⟩, ⟨by kernel_rfl, by kernel_rfl, by kernel_rfl⟩, ⟨by kernel_rfl, by kernel_rfl, by kernel_rfl⟩, ⟨by kernel_rfl, by kernel_rfl, by kernel_rfl⟩, ⟨by kernel_rfl, by kernel_rfl, by kernel_rfl⟩, ⟨by kernel_rfl, by kernel_rfl, by kernel_rfl⟩, ⟨by kernel_rfl, by kernel_rfl, by kernel_rfl⟩, ⟨by kernel_rfl, by kernel_rfl, by kernel_rfl⟩, ⟨by kernel_rfl, by kernel_rfl, by kernel_rfl⟩, ⟨by kernel_rfl, by kernel_rfl, by kernel_rfl⟩, ⟨by kernel_rfl, by kernel_rfl, by kernel_rfl⟩, ⟨by kernel_rfl, by kernel_rfl, by kernel_rfl⟩, trivial⟩
theorem moL3 : Try.prog.follows .mixedOrders = true := by kernel_rfl
/-! recordlink/recordlinklaw26.CandidateKeys -/
noncomputable def rl_law26_CandidateKeys_k7 (x61 : Int) (x64 : Bool) : Option ((Bool × Int) ⊕ Bool) := some (.inl (x64, i64.wrap (x61 + 1)))
noncomputable def rl_law26_CandidateKeys_l6 (y10 : Int) (y13 : List (List S_api_Sent)) (x29 : Int) (x35 : Int) (x43 : Int) (x53 : Int) (x60 : Bool) (x61 : Int) : Option ((Bool × Int) ⊕ Bool) := if (decide (x61 < (i64.wrap (1 + y10)))) = true then (if x60 = true then (rl_law26_CandidateKeys_k7 x61 true) else (if 0 ≤ x61 then (if x61 < (((((y13.getD (0 + x29.toNat) ([] : List S_api_Sent)).getD x43.toNat dS_api_Sent).Has).length : Nat) : Int) then (if ((((y13.getD (0 + x29.toNat) ([] : List S_api_Sent)).getD x43.toNat dS_api_Sent).Has).getD x61.toNat false) = true then (if x61 < (((((y13.getD (0 + x35.toNat) ([] : List S_api_Sent)).getD x53.toNat dS_api_Sent).Has).length : Nat) : Int) then (if ((((y13.getD (0 + x35.toNat) ([] : List S_api_Sent)).getD x53.toNat dS_api_Sent).Has).getD x61.toNat false) = true then (if x61 < (((((y13.getD (0 + x29.toNat) ([] : List S_api_Sent)).getD x43.toNat dS_api_Sent).Hashes).length : Nat) : Int) then (if x61 < (((((y13.getD (0 + x35.toNat) ([] : List S_api_Sent)).getD x53.toNat dS_api_Sent).Hashes).length : Nat) : Int) then (rl_law26_CandidateKeys_k7 x61 (((((y13.getD (0 + x29.toNat) ([] : List S_api_Sent)).getD x43.toNat dS_api_Sent).Hashes).getD x61.toNat 0) == ((((y13.getD (0 + x35.toNat) ([] : List S_api_Sent)).getD x53.toNat dS_api_Sent).Hashes).getD x61.toNat 0))) else none) else none) else (rl_law26_CandidateKeys_k7 x61 false)) else none) else (rl_law26_CandidateKeys_k7 x61 false)) else none) else none)) else (some (.inr x60))
noncomputable def rl_law26_CandidateKeys_k9 (x77 : Int) (x80 : Int) : Option ((Int × Int) ⊕ Int) := some (.inl (x80, i64.wrap (x77 + 1)))
noncomputable def rl_law26_CandidateKeys_k10 (x76 : Int) (x77 : Int) (x83 : Bool) : Option ((Int × Int) ⊕ Int) := if x83 = true then (rl_law26_CandidateKeys_k9 x77 (i64.wrap (x76 + 1))) else (rl_law26_CandidateKeys_k9 x77 x76)
noncomputable def rl_law26_CandidateKeys_l8 (y13 : List (List S_api_Sent)) (y21 : List S_api_Candidate) (x29 : Int) (x35 : Int) (x43 : Int) (x53 : Int) (x76 : Int) (x77 : Int) : Option ((Int × Int) ⊕ Int) := if (decide (x77 < (y21.length : Int))) = true then (if 0 ≤ x77 then (if x77 < (y21.length : Int) then (if (((((y21.getD (0 + x77.toNat) dS_api_Candidate).A).Registry) == x29) && (((((y21.getD (0 + x77.toNat) dS_api_Candidate).A).ID) == ((((y13.getD (0 + x29.toNat) ([] : List S_api_Sent)).getD x43.toNat dS_api_Sent).Record).ID)) && true)) = true then (rl_law26_CandidateKeys_k10 x76 x77 (((((y21.getD (0 + x77.toNat) dS_api_Candidate).B).Registry) == x35) && (((((y21.getD (0 + x77.toNat) dS_api_Candidate).B).ID) == ((((y13.getD (0 + x35.toNat) ([] : List S_api_Sent)).getD x53.toNat dS_api_Sent).Record).ID)) && true))) else (rl_law26_CandidateKeys_k10 x76 x77 false)) else none) else none) else (some (.inr x76))
noncomputable def rl_law26_CandidateKeys_k11 (x52 : Int) (x53 : Int) (x86 : Int) (x87 : Bool) : Option ((Int × Int) ⊕ (Int ⊕ Unit)) := if x87 = true then (some (.inr (.inr ()))) else (some (.inl (i64.wrap (x52 + x86), i64.wrap (x53 + 1))))
noncomputable def rl_law26_CandidateKeys_l5 (y10 : Int) (y13 : List (List S_api_Sent)) (y21 : List S_api_Candidate) (x29 : Int) (x35 : Int) (x43 : Int) (x52 : Int) (x53 : Int) : Option ((Int × Int) ⊕ (Int ⊕ Unit)) := if (decide (x53 < (((y13.getD (0 + x35.toNat) ([] : List S_api_Sent)).length : Nat) : Int))) = true then (if 0 ≤ x53 then (if x53 < (((y13.getD (0 + x35.toNat) ([] : List S_api_Sent)).length : Nat) : Int) then ((loop (fun v : Bool × Int => rl_law26_CandidateKeys_l6 y10 y13 x29 x35 x43 x53 v.1 v.2) (false, 0)).bind fun x73 => ((loop (fun v : Int × Int => rl_law26_CandidateKeys_l8 y13 y21 x29 x35 x43 x53 v.1 v.2) (0, 0)).bind fun x86 => (if (!(x73 == (x86 == 1))) = true then (rl_law26_CandidateKeys_k11 x52 x53 x86 true) else (rl_law26_CandidateKeys_k11 x52 x53 x86 (decide (x86 > 1)))))) else none) else none) else (some (.inr (.inl x52)))
noncomputable def rl_law26_CandidateKeys_a12 (x43 : Int) (x92 : Int) : Option ((Int × Int) ⊕ (Int ⊕ Unit)) := some (.inl (x92, i64.wrap (x43 + 1)))
noncomputable def rl_law26_CandidateKeys_a13 : Option ((Int × Int) ⊕ (Int ⊕ Unit)) := some (.inr (.inr ()))
noncomputable def rl_law26_CandidateKeys_l4 (y10 : Int) (y13 : List (List S_api_Sent)) (y21 : List S_api_Candidate) (x29 : Int) (x35 : Int) (x42 : Int) (x43 : Int) : Option ((Int × Int) ⊕ (Int ⊕ Unit)) := if (decide (x43 < (((y13.getD (0 + x29.toNat) ([] : List S_api_Sent)).length : Nat) : Int))) = true then (if 0 ≤ x43 then (if x43 < (((y13.getD (0 + x29.toNat) ([] : List S_api_Sent)).length : Nat) : Int) then (if 0 ≤ x35 then (if x35 < (y13.length : Int) then (bindE (loop (fun v : Int × Int => rl_law26_CandidateKeys_l5 y10 y13 y21 x29 x35 x43 v.1 v.2) (x42, 0)) (fun t => rl_law26_CandidateKeys_a12 x43 t) (fun t => rl_law26_CandidateKeys_a13)) else none) else none) else none) else none) else (some (.inr (.inl x42)))
noncomputable def rl_law26_CandidateKeys_a14 (x35 : Int) (x94 : Int) : Option ((Int × Int) ⊕ (Int ⊕ Unit)) := some (.inl (x94, i64.wrap (x35 + 1)))
noncomputable def rl_law26_CandidateKeys_a15 : Option ((Int × Int) ⊕ (Int ⊕ Unit)) := some (.inr (.inr ()))
noncomputable def rl_law26_CandidateKeys_l3 (y10 : Int) (y13 : List (List S_api_Sent)) (y21 : List S_api_Candidate) (x29 : Int) (x34 : Int) (x35 : Int) : Option ((Int × Int) ⊕ (Int ⊕ Unit)) := if (decide (x35 < (y13.length : Int))) = true then (if 0 ≤ x29 then (if x29 < (y13.length : Int) then (bindE (loop (fun v : Int × Int => rl_law26_CandidateKeys_l4 y10 y13 y21 x29 x35 v.1 v.2) (x34, 0)) (fun t => rl_law26_CandidateKeys_a14 x35 t) (fun t => rl_law26_CandidateKeys_a15)) else none) else none) else (some (.inr (.inl x34)))
noncomputable def rl_law26_CandidateKeys_a16 (x29 : Int) (x96 : Int) : Option ((Int × Int) ⊕ (Int ⊕ Unit)) := some (.inl (x96, i64.wrap (x29 + 1)))
noncomputable def rl_law26_CandidateKeys_a17 : Option ((Int × Int) ⊕ (Int ⊕ Unit)) := some (.inr (.inr ()))
noncomputable def rl_law26_CandidateKeys_l2 (y10 : Int) (y13 : List (List S_api_Sent)) (y21 : List S_api_Candidate) (x28 : Int) (x29 : Int) : Option ((Int × Int) ⊕ (Int ⊕ Unit)) := if (decide (x29 < (y13.length : Int))) = true then (bindE (loop (fun v : Int × Int => rl_law26_CandidateKeys_l3 y10 y13 y21 x29 v.1 v.2) (x28, i64.wrap (x29 + 1))) (fun t => rl_law26_CandidateKeys_a16 x29 t) (fun t => rl_law26_CandidateKeys_a17)) else (some (.inr (.inl x28)))
noncomputable def rl_law26_CandidateKeys_a18 (y21 : List S_api_Candidate) (x98 : Int) : Option Bool := some (x98 == (y21.length : Int))
noncomputable def rl_law26_CandidateKeys_a19 : Option Bool := some false
noncomputable def rl_law26_CandidateKeys_k1 (p0 : List Int) (x1 : Bool) : Option Bool := if x1 = true then ((rl_law26_awake).bind fun y3 => (some y3)) else ((rl_make_New p0).bind fun y5 => (bind2 (rl_make_Deck_Next y5 3) fun y7 y8 => (bind2 (rl_make_Deck_Next y8 3) fun y10 y11 => (bind2 (rl_play_Sheets y11 (i64.wrap (1 + y7)) (i64.wrap (1 + y10)) 3 4) fun y13 y14 => (bind2 (rl_play_Weights y14 (i64.wrap (1 + y7))) fun y16 y17 => (if 0 ≤ (i64.wrap (1 + y7)) then (if ((i64.wrap (1 + y7)).toNat) ≤ (([700, 700, 700] : List Int).length) then (bind2 (candidate_Make y16 (([700, 700, 700] : List Int).take ((i64.wrap (1 + y7)).toNat)) (i64.wrap (1 + y10)) y13) fun y21 y22 => (if 0 + (i64.wrap (1 + y7)).toNat ≤ ([700, 700, 700] : List Int).length then (if (y22 != 0) = true then (some false) else (bindE (loop (fun v : Int × Int => rl_law26_CandidateKeys_l2 y10 y13 y21 v.1 v.2) (0, 0)) (fun t => rl_law26_CandidateKeys_a18 y21 t) (fun t => rl_law26_CandidateKeys_a19))) else none)) else none) else none))))))
noncomputable def rl_law26_CandidateKeys (p0 : List Int) : Option Bool := (rl_law26_awake).bind fun y100 => (if (!y100) = true then (rl_law26_CandidateKeys_k1 p0 true) else ((rl_make_Few p0).bind fun y103 => (rl_law26_CandidateKeys_k1 p0 (!y103))))
set_option maxRecDepth 100000 in
theorem rl_law26_CandidateKeys_con (p0 : List Int) (r : Bool) (h : rl_law26_CandidateKeys p0 = some r) : Con Try.prog 3 [vl 1 Ri64 p0] [] (vb r) [] := by
 refine con_of tt_okL3 0 Try.func3 (by kernel_rfl) rfl (by kernel_rfl) (fun base X _ => AW.post ?_)
 unfold rl_law26_CandidateKeys at h
 refine AW.sg tt_okL3 [] [] [] 1 [] (by kernel_rfl) ?_
 refine AW.seq (AW.seq ?_)
 refine AW.join (ι := Bool) (fun v => ⟨[(0, vl 1 Ri64 p0), (27, vb v)], [], 0⟩) (fun v : Bool => rl_law26_CandidateKeys_k1 p0 v = some r) (fun x1 h => ?_) ?_
 ·
  unfold rl_law26_CandidateKeys_k1 at h
  refine AW.tn ?_
  refine AW.co h (by kernel_rfl) (fun c2 h => ?_) (fun c2 h => ?_)
  ·
   obtain ⟨y3, e4, h⟩ := bnd_some h
   refine AW.sg tt_okL3 [(2, vb y3)] [] [] 1 [hk (rl_law26_awake_con y3 e4)] (by kernel_rfl) ?_
   refine AW.ret (AW.tr ?_)
   obtain rfl := some_inj h
   exact fn0 (.inr rfl) [] 0 (vb y3) (by kernel_rfl)
  ·
   refine AW.skip (AW.tn ?_)
   obtain ⟨y5, e6, h⟩ := bnd_some h
   refine AW.sg tt_okL3 [(3, .c (.ptr 1 3 0 0))] [1] [(1, .box 86 [cl 1 Ri64 y5.list, ci64 y5.at_, cu64 y5.state])] 3 [hn, hl [] [] 1 (rl_make_New_con p0 y5 e6)] (by kernel_rfl) ?_
   obtain ⟨y7, y8, e9, h⟩ := bind2_some h
   obtain ⟨y10, y11, e12, h⟩ := bind2_some h
   refine AW.sg tt_okL3 [(5, vi64 (i64.wrap (1 + y10))), (4, vi64 (i64.wrap (1 + y7)))] [1] [(1, .box 86 [cl 1 Ri64 y11.list, ci64 y11.at_, cu64 y11.state])] 9 [hn, hl [1] [] 0 (rl_make_Deck_Next_con y5 3 (y7, y8) e9), hn, hn, hl [1] [] 0 (rl_make_Deck_Next_con y8 3 (y10, y11) e12)] (by kernel_rfl) ?_
   obtain ⟨y13, y14, e15, h⟩ := bind2_some h
   refine AW.sg tt_okL3 [(6, .c (.ref 12 1 0 y13.length))] [1, 12] [(1, .box 86 [cl 1 Ri64 y14.list, ci64 y14.at_, cu64 y14.state]), (12, .row 37 false 1 y13.length (RlS_api_Sent y13))] 14 [hn, hn, hn, hl [1] [] 1 (rl_play_Sheets_con y11 (i64.wrap (1 + y7)) (i64.wrap (1 + y10)) 3 4 (y13, y14) e15)] (by kernel_rfl) ?_
   obtain ⟨y16, y17, e18, h⟩ := bind2_some h
   obtain ⟨g19, g20, h⟩ := ifd h
   obtain ⟨y21, y22, e23, h⟩ := bind2_some h
   obtain ⟨g24, h⟩ := ifc h
   refine AW.sd tt_okL3 moL3 [[], [], [1, 16, 17], [18], [], [], [], [], [23]] [(8, vi64 y22), (7, .c (.ref 23 6 0 y21.length))] [(23, .row 49 false 6 y21.length (RS_api_Candidate y21))] 29 [hn, hn, hl [1] [] 2 (rl_play_Weights_con y14 (i64.wrap (1 + y7)) (y16, y17) e18), hlit 0 Ei64 1 (fun _ => rfl) ([700, 700, 700] : List Int), hn, ho (p := (True) ∧ (0 ≤ (i64.wrap (1 + y7))) ∧ (0 ≤ ((i64.wrap (1 + y7)).toNat)) ∧ (((i64.wrap (1 + y7)).toNat) ≤ (([700, 700, 700] : List Int).length))) (⟨tv, g19, (Nat.zero_le _), g20⟩), hn, hn, hg [] [] true 1 (q := ((True) ∧ (0 + y16.Agree.length ≤ y16.Agree.length) ∧ (0 + y16.Differ.length ≤ y16.Differ.length) ∧ (True)) ∧ (0 + (i64.wrap (1 + y7)).toNat ≤ ([700, 700, 700] : List Int).length) ∧ (True) ∧ (0 + y13.length ≤ y13.length) ∧ (True)) ⟨⟨tv, le0, le0, tv⟩, g24, tv, le0, tv⟩ (a0 := [.agg [ci64 y16.Prior, cl 1 Ri64 y16.Agree, cl 1 Ri64 y16.Differ], .c (.t (.tree ((i64.wrap (1 + y7)).toNat) 1 (Ri64 ([700, 700, 700] : List Int)))), vi64 (i64.wrap (1 + y10)), vl 1 RlS_api_Sent y13]) (candidate_Make_con y16 (([700, 700, 700] : List Int).take ((i64.wrap (1 + y7)).toNat)) (i64.wrap (1 + y10)) y13 (y21, y22) e23) ⟨ArgLe.refl _, ArgLe.c (CAle.tree (take_row (by omega))), ArgLe.refl _, ArgLe.refl _, tv⟩ (fun _ => ⟨rowL_flat VS_api_Candidate _ _ _, tv⟩)] (by kernel_rfl) ?_
   refine AW.seq ?_
   refine AW.sg tt_okL3 [(54, vb (y22 != 0))] [] [] 31 [] (by kernel_rfl) ?_
   refine AW.co h (by kernel_rfl) (fun c25 h => ?_) (fun c25 h => ?_)
   ·
    refine AW.sg tt_okL3 [(2, vb false)] [] [] 32 [] (by kernel_rfl) ?_
    refine AW.ret (AW.tr ?_)
    obtain rfl := some_inj h
    exact fn0 (.inr rfl) [] 0 (vb false) (by kernel_rfl)
   ·
    refine AW.skip (AW.tn ?_)
    refine AW.sg tt_okL3 [(9, vi64 0)] [] [] 32 [] (by kernel_rfl) ?_
    refine AW.seq ?_
    refine AW.sg tt_okL3 [(57, vi64 0), (56, vi64 (y13.length : Int))] [] [] 35 [] (by kernel_rfl) ?_
    refine AW.block ?_
    refine AW.lpE h (fun v => ⟨[(5, vi64 (i64.wrap (1 + y10))), (6, .c (.ref 0 1 0 y13.length)), (7, .c (.ref 1 6 0 y21.length)), (9, vi64 v.1), (56, vi64 (y13.length : Int)), (57, vi64 v.2)], [(0, .row 37 false 1 y13.length (RlS_api_Sent y13)), (1, .row 49 false 6 y21.length (RS_api_Candidate y21))], 2⟩) (fun t => (.exit 0, ⟨[(7, .c (.ref 0 6 0 y21.length)), (9, vi64 t)], [(0, .row 49 false 6 y21.length (RS_api_Candidate y21))], 1⟩)) (fun t => (.ret, ⟨[(2, vb false)], [], 0⟩)) (conv_re [(0, 12), (1, 23)] (by kernel_rfl)) (fun _ => tv) (fun _ => tv) ?_ (fun x98 h => ?_) (fun t h => ?_)
    ·
     clear h
     intro v o h
     obtain ⟨x28, x29⟩ := v
     replace h : rl_law26_CandidateKeys_l2 y10 y13 y21 x28 x29 = some o := h
     unfold rl_law26_CandidateKeys_l2 at h
     refine AW.sg tt_okL3 [(58, vb (decide (x29 < (y13.length : Int))))] [] [] 3 [] (by kernel_rfl) ?_
     refine AW.seq ?_
     refine AW.co h (by kernel_rfl) (fun c31 h => ?_) (fun c31 h => ?_)
     ·
      refine AW.skip (AW.tn ?_)
      refine AW.seq (AW.block ?_)
      refine AW.sg tt_okL3 [(10, vi64 x29)] [] [] 5 [] (by kernel_rfl) ?_
      refine AW.sg tt_okL3 [(11, vi64 (i64.wrap (x29 + 1)))] [] [] 8 [] (by kernel_rfl) ?_
      refine AW.block ?_
      refine AW.lpE h (fun v => ⟨[(5, vi64 (i64.wrap (1 + y10))), (6, .c (.ref 0 1 0 y13.length)), (7, .c (.ref 1 6 0 y21.length)), (9, vi64 v.1), (10, vi64 x29), (11, vi64 v.2), (56, vi64 (y13.length : Int)), (57, vi64 x29)], [(0, .row 37 false 1 y13.length (RlS_api_Sent y13)), (1, .row 49 false 6 y21.length (RS_api_Candidate y21))], 2⟩) (fun t => (.exit 2, ⟨[(5, vi64 (i64.wrap (1 + y10))), (6, .c (.ref 0 1 0 y13.length)), (7, .c (.ref 1 6 0 y21.length)), (9, vi64 t), (56, vi64 (y13.length : Int)), (57, vi64 x29)], [(0, .row 37 false 1 y13.length (RlS_api_Sent y13)), (1, .row 49 false 6 y21.length (RS_api_Candidate y21))], 2⟩)) (fun t => (.ret, ⟨[(2, vb false)], [], 0⟩)) (conv_re [(0, 0), (1, 1)] (by kernel_rfl)) (fun _ => tv) (fun _ => tv) ?_ (fun x96 h => ?_) (fun t h => ?_)
      ·
       clear h
       intro v o h
       obtain ⟨x34, x35⟩ := v
       replace h : rl_law26_CandidateKeys_l3 y10 y13 y21 x29 x34 x35 = some o := h
       unfold rl_law26_CandidateKeys_l3 at h
       refine AW.seq ?_
       refine AW.sg tt_okL3 [(65, vb (decide (x35 < (y13.length : Int))))] [] [] 6 [] (by kernel_rfl) ?_
       refine AW.co h (by kernel_rfl) (fun c37 h => ?_) (fun c37 h => ?_)
       ·
        refine AW.skip (AW.tn ?_)
        refine AW.seq (AW.block ?_)
        obtain ⟨g38, g39, h⟩ := ifd h
        refine AW.sg tt_okL3 [(73, vi64 0), (72, vi64 (((y13.getD (0 + x29.toNat) ([] : List S_api_Sent)).length : Nat) : Int)), (71, vl 5 RS_api_Sent (y13.getD (0 + x29.toNat) ([] : List S_api_Sent)))] [] [] 12 [hn, hn, hq g38 g39, ho (p := (0 + x29.toNat) < y13.length) (by have h1 : 0 ≤ x29 := g38; have h2 : x29 < (y13.length : Int) := g39; omega)] (by kernel_rfl) ?_
        refine AW.block ?_
        refine AW.lpE h (fun v => ⟨[(5, vi64 (i64.wrap (1 + y10))), (6, .c (.ref 0 1 0 y13.length)), (7, .c (.ref 1 6 0 y21.length)), (9, vi64 v.1), (10, vi64 x29), (11, vi64 x35), (56, vi64 (y13.length : Int)), (57, vi64 x29), (71, vl 5 RS_api_Sent (y13.getD (0 + x29.toNat) ([] : List S_api_Sent))), (72, vi64 (((y13.getD (0 + x29.toNat) ([] : List S_api_Sent)).length : Nat) : Int)), (73, vi64 v.2)], [(0, .row 37 false 1 y13.length (RlS_api_Sent y13)), (1, .row 49 false 6 y21.length (RS_api_Candidate y21))], 2⟩) (fun t => (.exit 4, ⟨[(5, vi64 (i64.wrap (1 + y10))), (6, .c (.ref 0 1 0 y13.length)), (7, .c (.ref 1 6 0 y21.length)), (9, vi64 t), (10, vi64 x29), (11, vi64 x35), (56, vi64 (y13.length : Int)), (57, vi64 x29)], [(0, .row 37 false 1 y13.length (RlS_api_Sent y13)), (1, .row 49 false 6 y21.length (RS_api_Candidate y21))], 2⟩)) (fun t => (.ret, ⟨[(2, vb false)], [], 0⟩)) (conv_re [(0, 0), (1, 1)] (by kernel_rfl)) (fun _ => tv) (fun _ => tv) ?_ (fun x94 h => ?_) (fun t h => ?_)
        ·
         clear h
         intro v o h
         obtain ⟨x42, x43⟩ := v
         replace h : rl_law26_CandidateKeys_l4 y10 y13 y21 x29 x35 x42 x43 = some o := h
         unfold rl_law26_CandidateKeys_l4 at h
         refine AW.sg tt_okL3 [(74, vb (decide (x43 < (((y13.getD (0 + x29.toNat) ([] : List S_api_Sent)).length : Nat) : Int))))] [] [] 3 [] (by kernel_rfl) ?_
         refine AW.seq ?_
         refine AW.co h (by kernel_rfl) (fun c45 h => ?_) (fun c45 h => ?_)
         ·
          refine AW.skip (AW.tn ?_)
          refine AW.seq (AW.block ?_)
          obtain ⟨g46, g47, h⟩ := ifd h
          refine AW.sg tt_okL3 [(13, .c (.ptr 5 5 0 0))] [5] [(5, .box 44 [ci64 ((((y13.getD (0 + x29.toNat) ([] : List S_api_Sent)).getD x43.toNat dS_api_Sent).Record).ID), ci64 ((((y13.getD (0 + x29.toNat) ([] : List S_api_Sent)).getD x43.toNat dS_api_Sent).Record).Version), cl 2 RS_api_Bits ((((y13.getD (0 + x29.toNat) ([] : List S_api_Sent)).getD x43.toNat dS_api_Sent).Record).Fields), cl 1 Ru64 (((y13.getD (0 + x29.toNat) ([] : List S_api_Sent)).getD x43.toNat dS_api_Sent).Hashes), cl 1 Rb (((y13.getD (0 + x29.toNat) ([] : List S_api_Sent)).getD x43.toNat dS_api_Sent).Has)])] 7 [hq g46 g47] (by kernel_rfl) ?_
          obtain ⟨g48, g49, h⟩ := ifd h
          refine AW.sg tt_okL3 [(82, vi64 0), (81, vi64 (((y13.getD (0 + x35.toNat) ([] : List S_api_Sent)).length : Nat) : Int)), (80, vl 5 RS_api_Sent (y13.getD (0 + x35.toNat) ([] : List S_api_Sent)))] [] [] 13 [hn, hn, hq g48 g49, ho (p := (0 + x35.toNat) < y13.length) (by have h1 : 0 ≤ x35 := g48; have h2 : x35 < (y13.length : Int) := g49; omega)] (by kernel_rfl) ?_
          refine AW.block ?_
          refine AW.lpE h (fun v => ⟨[(5, vi64 (i64.wrap (1 + y10))), (6, .c (.ref 0 1 0 y13.length)), (7, .c (.ref 1 6 0 y21.length)), (9, vi64 v.1), (10, vi64 x29), (11, vi64 x35), (13, .c (.ptr 2 5 0 0)), (56, vi64 (y13.length : Int)), (57, vi64 x29), (71, vl 5 RS_api_Sent (y13.getD (0 + x29.toNat) ([] : List S_api_Sent))), (72, vi64 (((y13.getD (0 + x29.toNat) ([] : List S_api_Sent)).length : Nat) : Int)), (73, vi64 x43), (80, vl 5 RS_api_Sent (y13.getD (0 + x35.toNat) ([] : List S_api_Sent))), (81, vi64 (((y13.getD (0 + x35.toNat) ([] : List S_api_Sent)).length : Nat) : Int)), (82, vi64 v.2)], [(0, .row 37 false 1 y13.length (RlS_api_Sent y13)), (1, .row 49 false 6 y21.length (RS_api_Candidate y21)), (2, .box 44 [ci64 ((((y13.getD (0 + x29.toNat) ([] : List S_api_Sent)).getD x43.toNat dS_api_Sent).Record).ID), ci64 ((((y13.getD (0 + x29.toNat) ([] : List S_api_Sent)).getD x43.toNat dS_api_Sent).Record).Version), cl 2 RS_api_Bits ((((y13.getD (0 + x29.toNat) ([] : List S_api_Sent)).getD x43.toNat dS_api_Sent).Record).Fields), cl 1 Ru64 (((y13.getD (0 + x29.toNat) ([] : List S_api_Sent)).getD x43.toNat dS_api_Sent).Hashes), cl 1 Rb (((y13.getD (0 + x29.toNat) ([] : List S_api_Sent)).getD x43.toNat dS_api_Sent).Has)])], 3⟩) (fun t => (.exit 6, ⟨[(5, vi64 (i64.wrap (1 + y10))), (6, .c (.ref 0 1 0 y13.length)), (7, .c (.ref 1 6 0 y21.length)), (9, vi64 t), (10, vi64 x29), (11, vi64 x35), (56, vi64 (y13.length : Int)), (57, vi64 x29), (71, vl 5 RS_api_Sent (y13.getD (0 + x29.toNat) ([] : List S_api_Sent))), (72, vi64 (((y13.getD (0 + x29.toNat) ([] : List S_api_Sent)).length : Nat) : Int)), (73, vi64 x43)], [(0, .row 37 false 1 y13.length (RlS_api_Sent y13)), (1, .row 49 false 6 y21.length (RS_api_Candidate y21))], 2⟩)) (fun t => (.ret, ⟨[(2, vb false)], [], 0⟩)) (conv_re [(0, 0), (1, 1), (2, 5)] (by kernel_rfl)) (fun _ => tv) (fun _ => tv) ?_ (fun x92 h => ?_) (fun t h => ?_)
          ·
           clear h
           intro v o h
           obtain ⟨x52, x53⟩ := v
           replace h : rl_law26_CandidateKeys_l5 y10 y13 y21 x29 x35 x43 x52 x53 = some o := h
           unfold rl_law26_CandidateKeys_l5 at h
           refine AW.sg tt_okL3 [(83, vb (decide (x53 < (((y13.getD (0 + x35.toNat) ([] : List S_api_Sent)).length : Nat) : Int))))] [] [] 4 [] (by kernel_rfl) ?_
           refine AW.seq ?_
           refine AW.co h (by kernel_rfl) (fun c55 h => ?_) (fun c55 h => ?_)
           ·
            refine AW.skip (AW.tn ?_)
            refine AW.seq (AW.block ?_)
            obtain ⟨g56, g57, h⟩ := ifd h
            refine AW.sg tt_okL3 [(15, .c (.ptr 6 5 0 0))] [6] [(6, .box 44 [ci64 ((((y13.getD (0 + x35.toNat) ([] : List S_api_Sent)).getD x53.toNat dS_api_Sent).Record).ID), ci64 ((((y13.getD (0 + x35.toNat) ([] : List S_api_Sent)).getD x53.toNat dS_api_Sent).Record).Version), cl 2 RS_api_Bits ((((y13.getD (0 + x35.toNat) ([] : List S_api_Sent)).getD x53.toNat dS_api_Sent).Record).Fields), cl 1 Ru64 (((y13.getD (0 + x35.toNat) ([] : List S_api_Sent)).getD x53.toNat dS_api_Sent).Hashes), cl 1 Rb (((y13.getD (0 + x35.toNat) ([] : List S_api_Sent)).getD x53.toNat dS_api_Sent).Has)])] 8 [hq g56 g57] (by kernel_rfl) ?_
            refine AW.sg tt_okL3 [(16, vb false)] [] [] 9 [] (by kernel_rfl) ?_
            refine AW.seq ?_
            refine AW.sg tt_okL3 [(17, vi64 0)] [] [] 10 [] (by kernel_rfl) ?_
            refine AW.block ?_
            obtain ⟨x73, l91, h⟩ := bnd_some h
            refine AW.lp l91 (fun v => ⟨[(5, vi64 (i64.wrap (1 + y10))), (6, .c (.ref 0 1 0 y13.length)), (7, .c (.ref 1 6 0 y21.length)), (9, vi64 x52), (10, vi64 x29), (11, vi64 x35), (13, .c (.ptr 2 5 0 0)), (15, .c (.ptr 3 5 0 0)), (16, vb v.1), (17, vi64 v.2), (56, vi64 (y13.length : Int)), (57, vi64 x29), (71, vl 5 RS_api_Sent (y13.getD (0 + x29.toNat) ([] : List S_api_Sent))), (72, vi64 (((y13.getD (0 + x29.toNat) ([] : List S_api_Sent)).length : Nat) : Int)), (73, vi64 x43), (80, vl 5 RS_api_Sent (y13.getD (0 + x35.toNat) ([] : List S_api_Sent))), (81, vi64 (((y13.getD (0 + x35.toNat) ([] : List S_api_Sent)).length : Nat) : Int)), (82, vi64 x53)], [(0, .row 37 false 1 y13.length (RlS_api_Sent y13)), (1, .row 49 false 6 y21.length (RS_api_Candidate y21)), (2, .box 44 [ci64 ((((y13.getD (0 + x29.toNat) ([] : List S_api_Sent)).getD x43.toNat dS_api_Sent).Record).ID), ci64 ((((y13.getD (0 + x29.toNat) ([] : List S_api_Sent)).getD x43.toNat dS_api_Sent).Record).Version), cl 2 RS_api_Bits ((((y13.getD (0 + x29.toNat) ([] : List S_api_Sent)).getD x43.toNat dS_api_Sent).Record).Fields), cl 1 Ru64 (((y13.getD (0 + x29.toNat) ([] : List S_api_Sent)).getD x43.toNat dS_api_Sent).Hashes), cl 1 Rb (((y13.getD (0 + x29.toNat) ([] : List S_api_Sent)).getD x43.toNat dS_api_Sent).Has)]), (3, .box 44 [ci64 ((((y13.getD (0 + x35.toNat) ([] : List S_api_Sent)).getD x53.toNat dS_api_Sent).Record).ID), ci64 ((((y13.getD (0 + x35.toNat) ([] : List S_api_Sent)).getD x53.toNat dS_api_Sent).Record).Version), cl 2 RS_api_Bits ((((y13.getD (0 + x35.toNat) ([] : List S_api_Sent)).getD x53.toNat dS_api_Sent).Record).Fields), cl 1 Ru64 (((y13.getD (0 + x35.toNat) ([] : List S_api_Sent)).getD x53.toNat dS_api_Sent).Hashes), cl 1 Rb (((y13.getD (0 + x35.toNat) ([] : List S_api_Sent)).getD x53.toNat dS_api_Sent).Has)])], 4⟩) (fun t : Bool => (.exit 8, ⟨[(5, vi64 (i64.wrap (1 + y10))), (6, .c (.ref 0 1 0 y13.length)), (7, .c (.ref 1 6 0 y21.length)), (9, vi64 x52), (10, vi64 x29), (11, vi64 x35), (13, .c (.ptr 2 5 0 0)), (15, .c (.ptr 3 5 0 0)), (16, vb t), (56, vi64 (y13.length : Int)), (57, vi64 x29), (71, vl 5 RS_api_Sent (y13.getD (0 + x29.toNat) ([] : List S_api_Sent))), (72, vi64 (((y13.getD (0 + x29.toNat) ([] : List S_api_Sent)).length : Nat) : Int)), (73, vi64 x43), (80, vl 5 RS_api_Sent (y13.getD (0 + x35.toNat) ([] : List S_api_Sent))), (81, vi64 (((y13.getD (0 + x35.toNat) ([] : List S_api_Sent)).length : Nat) : Int)), (82, vi64 x53)], [(0, .row 37 false 1 y13.length (RlS_api_Sent y13)), (1, .row 49 false 6 y21.length (RS_api_Candidate y21)), (2, .box 44 [ci64 ((((y13.getD (0 + x29.toNat) ([] : List S_api_Sent)).getD x43.toNat dS_api_Sent).Record).ID), ci64 ((((y13.getD (0 + x29.toNat) ([] : List S_api_Sent)).getD x43.toNat dS_api_Sent).Record).Version), cl 2 RS_api_Bits ((((y13.getD (0 + x29.toNat) ([] : List S_api_Sent)).getD x43.toNat dS_api_Sent).Record).Fields), cl 1 Ru64 (((y13.getD (0 + x29.toNat) ([] : List S_api_Sent)).getD x43.toNat dS_api_Sent).Hashes), cl 1 Rb (((y13.getD (0 + x29.toNat) ([] : List S_api_Sent)).getD x43.toNat dS_api_Sent).Has)]), (3, .box 44 [ci64 ((((y13.getD (0 + x35.toNat) ([] : List S_api_Sent)).getD x53.toNat dS_api_Sent).Record).ID), ci64 ((((y13.getD (0 + x35.toNat) ([] : List S_api_Sent)).getD x53.toNat dS_api_Sent).Record).Version), cl 2 RS_api_Bits ((((y13.getD (0 + x35.toNat) ([] : List S_api_Sent)).getD x53.toNat dS_api_Sent).Record).Fields), cl 1 Ru64 (((y13.getD (0 + x35.toNat) ([] : List S_api_Sent)).getD x53.toNat dS_api_Sent).Hashes), cl 1 Rb (((y13.getD (0 + x35.toNat) ([] : List S_api_Sent)).getD x53.toNat dS_api_Sent).Has)])], 4⟩)) (conv_re [(0, 0), (1, 1), (2, 2), (3, 6)] (by kernel_rfl)) (fun _ => tv) ?_ ?_
            ·
             clear l91 h
             intro v o h
             obtain ⟨x60, x61⟩ := v
             replace h : rl_law26_CandidateKeys_l6 y10 y13 x29 x35 x43 x53 x60 x61 = some o := h
             unfold rl_law26_CandidateKeys_l6 at h
             refine AW.seq ?_
             refine AW.sg tt_okL3 [(88, vb (decide (x61 < (i64.wrap (1 + y10)))))] [] [] 7 [] (by kernel_rfl) ?_
             refine AW.co h (by kernel_rfl) (fun c63 h => ?_) (fun c63 h => ?_)
             ·
              refine AW.skip (AW.tn ?_)
              refine AW.seq (AW.block ?_)
              refine AW.join (ι := Bool) (fun v => ⟨[(5, vi64 (i64.wrap (1 + y10))), (6, .c (.ref 0 1 0 y13.length)), (7, .c (.ref 1 6 0 y21.length)), (9, vi64 x52), (10, vi64 x29), (11, vi64 x35), (13, .c (.ptr 2 5 0 0)), (15, .c (.ptr 3 5 0 0)), (16, vb v), (17, vi64 x61), (56, vi64 (y13.length : Int)), (57, vi64 x29), (71, vl 5 RS_api_Sent (y13.getD (0 + x29.toNat) ([] : List S_api_Sent))), (72, vi64 (((y13.getD (0 + x29.toNat) ([] : List S_api_Sent)).length : Nat) : Int)), (73, vi64 x43), (80, vl 5 RS_api_Sent (y13.getD (0 + x35.toNat) ([] : List S_api_Sent))), (81, vi64 (((y13.getD (0 + x35.toNat) ([] : List S_api_Sent)).length : Nat) : Int)), (82, vi64 x53)], [(0, .row 37 false 1 y13.length (RlS_api_Sent y13)), (1, .row 49 false 6 y21.length (RS_api_Candidate y21)), (2, .box 44 [ci64 ((((y13.getD (0 + x29.toNat) ([] : List S_api_Sent)).getD x43.toNat dS_api_Sent).Record).ID), ci64 ((((y13.getD (0 + x29.toNat) ([] : List S_api_Sent)).getD x43.toNat dS_api_Sent).Record).Version), cl 2 RS_api_Bits ((((y13.getD (0 + x29.toNat) ([] : List S_api_Sent)).getD x43.toNat dS_api_Sent).Record).Fields), cl 1 Ru64 (((y13.getD (0 + x29.toNat) ([] : List S_api_Sent)).getD x43.toNat dS_api_Sent).Hashes), cl 1 Rb (((y13.getD (0 + x29.toNat) ([] : List S_api_Sent)).getD x43.toNat dS_api_Sent).Has)]), (3, .box 44 [ci64 ((((y13.getD (0 + x35.toNat) ([] : List S_api_Sent)).getD x53.toNat dS_api_Sent).Record).ID), ci64 ((((y13.getD (0 + x35.toNat) ([] : List S_api_Sent)).getD x53.toNat dS_api_Sent).Record).Version), cl 2 RS_api_Bits ((((y13.getD (0 + x35.toNat) ([] : List S_api_Sent)).getD x53.toNat dS_api_Sent).Record).Fields), cl 1 Ru64 (((y13.getD (0 + x35.toNat) ([] : List S_api_Sent)).getD x53.toNat dS_api_Sent).Hashes), cl 1 Rb (((y13.getD (0 + x35.toNat) ([] : List S_api_Sent)).getD x53.toNat dS_api_Sent).Has)])], 4⟩) (fun v : Bool => rl_law26_CandidateKeys_k7 x61 v = some o) (fun x64 h => ?_) ?_
              ·
               unfold rl_law26_CandidateKeys_k7 at h
               refine AW.inBlock_normal (AW.tn ?_)
               refine AW.rg tt_okL3 [(17, vi64 (i64.wrap (x61 + 1)))] [] [] 7 [] (by kernel_rfl) ?_
               exact lpn h (conv_re [(0, 0), (1, 1), (2, 2), (3, 3)] (by kernel_rfl))
              ·
               rcases ifs h with ⟨c65, hs⟩ | ⟨c65, hs⟩
               ·clear h; subst c65; have h := hs; clear hs
                refine AW.rd tt_okL3 moL3 [] [(16, vb true)] [] 36 [] (by kernel_rfl) ?_
                exact jl true h (conv_re [(0, 0), (1, 1), (2, 2), (3, 3)] (by kernel_rfl))
               ·clear h; subst c65; have h := hs; clear hs
                obtain ⟨g66, g67, h⟩ := ifd h
                rcases ifs h with ⟨c68, h⟩ | ⟨c68, h⟩
                ·
                 obtain ⟨g69, h⟩ := ifc h
                 rcases ifs h with ⟨c70, h⟩ | ⟨c70, h⟩
                 ·
                  obtain ⟨g71, g72, h⟩ := ifd h
                  refine AW.rd tt_okL3 moL3 [] [(16, vb (((((y13.getD (0 + x29.toNat) ([] : List S_api_Sent)).getD x43.toNat dS_api_Sent).Hashes).getD x61.toNat 0) == ((((y13.getD (0 + x35.toNat) ([] : List S_api_Sent)).getD x53.toNat dS_api_Sent).Hashes).getD x61.toNat 0)))] [] 36 [hn, hn, hn, hn, hn, hq g66 g67, hbq true (hn) c68, hn, hn, hn, hn, hq g66 g69, hbq true (hn) c70, hn, hn, hn, hn, hn, hq g66 g71, hn, hn, hn, hn, hq g66 g72] (by kernel_rfl) ?_
                  exact jl (((((y13.getD (0 + x29.toNat) ([] : List S_api_Sent)).getD x43.toNat dS_api_Sent).Hashes).getD x61.toNat 0) == ((((y13.getD (0 + x35.toNat) ([] : List S_api_Sent)).getD x53.toNat dS_api_Sent).Hashes).getD x61.toNat 0)) h (conv_re [(0, 0), (1, 1), (2, 2), (3, 3)] (by kernel_rfl))
                 ·
                  refine AW.rd tt_okL3 moL3 [] [(16, vb false)] [] 36 [hn, hn, hn, hn, hn, hq g66 g67, hbq true (hn) c68, hn, hn, hn, hn, hq g66 g69, hbq false (hn) c70] (by kernel_rfl) ?_
                  exact jl false h (conv_re [(0, 0), (1, 1), (2, 2), (3, 3)] (by kernel_rfl))
                ·
                 refine AW.rd tt_okL3 moL3 [] [(16, vb false)] [] 36 [hn, hn, hn, hn, hn, hq g66 g67, hbq false (hn) c68] (by kernel_rfl) ?_
                 exact jl false h (conv_re [(0, 0), (1, 1), (2, 2), (3, 3)] (by kernel_rfl))
             ·
              refine AW.exit (AW.thenQ_exit ?_)
              exact lpo h rfl (conv_re [(0, 0), (1, 1), (2, 2), (3, 3)] (by kernel_rfl))
            ·
             show (_ : Exit → St → Prop) (.exit 8) _
             refine AW.inBlock_hit (AW.tn ?_)
             refine AW.sg tt_okL3 [(18, vi64 0)] [] [] 5 [] (by kernel_rfl) ?_
             refine AW.seq ?_
             refine AW.sg tt_okL3 [(121, vi64 0), (120, vi64 (y21.length : Int)), (119, .c (.ref 1 6 0 y21.length))] [] [] 8 [] (by kernel_rfl) ?_
             refine AW.block ?_
             obtain ⟨x86, l90, h⟩ := bnd_some h
             refine AW.lp l90 (fun v => ⟨[(5, vi64 (i64.wrap (1 + y10))), (6, .c (.ref 0 1 0 y13.length)), (7, .c (.ref 1 6 0 y21.length)), (9, vi64 x52), (10, vi64 x29), (11, vi64 x35), (13, .c (.ptr 2 5 0 0)), (15, .c (.ptr 3 5 0 0)), (16, vb x73), (18, vi64 v.1), (56, vi64 (y13.length : Int)), (57, vi64 x29), (71, vl 5 RS_api_Sent (y13.getD (0 + x29.toNat) ([] : List S_api_Sent))), (72, vi64 (((y13.getD (0 + x29.toNat) ([] : List S_api_Sent)).length : Nat) : Int)), (73, vi64 x43), (80, vl 5 RS_api_Sent (y13.getD (0 + x35.toNat) ([] : List S_api_Sent))), (81, vi64 (((y13.getD (0 + x35.toNat) ([] : List S_api_Sent)).length : Nat) : Int)), (82, vi64 x53), (119, .c (.ref 1 6 0 y21.length)), (120, vi64 (y21.length : Int)), (121, vi64 v.2)], [(0, .row 37 false 1 y13.length (RlS_api_Sent y13)), (1, .row 49 false 6 y21.length (RS_api_Candidate y21)), (2, .box 44 [ci64 ((((y13.getD (0 + x29.toNat) ([] : List S_api_Sent)).getD x43.toNat dS_api_Sent).Record).ID), ci64 ((((y13.getD (0 + x29.toNat) ([] : List S_api_Sent)).getD x43.toNat dS_api_Sent).Record).Version), cl 2 RS_api_Bits ((((y13.getD (0 + x29.toNat) ([] : List S_api_Sent)).getD x43.toNat dS_api_Sent).Record).Fields), cl 1 Ru64 (((y13.getD (0 + x29.toNat) ([] : List S_api_Sent)).getD x43.toNat dS_api_Sent).Hashes), cl 1 Rb (((y13.getD (0 + x29.toNat) ([] : List S_api_Sent)).getD x43.toNat dS_api_Sent).Has)]), (3, .box 44 [ci64 ((((y13.getD (0 + x35.toNat) ([] : List S_api_Sent)).getD x53.toNat dS_api_Sent).Record).ID), ci64 ((((y13.getD (0 + x35.toNat) ([] : List S_api_Sent)).getD x53.toNat dS_api_Sent).Record).Version), cl 2 RS_api_Bits ((((y13.getD (0 + x35.toNat) ([] : List S_api_Sent)).getD x53.toNat dS_api_Sent).Record).Fields), cl 1 Ru64 (((y13.getD (0 + x35.toNat) ([] : List S_api_Sent)).getD x53.toNat dS_api_Sent).Hashes), cl 1 Rb (((y13.getD (0 + x35.toNat) ([] : List S_api_Sent)).getD x53.toNat dS_api_Sent).Has)])], 4⟩) (fun t : Int => (.exit 10, ⟨[(5, vi64 (i64.wrap (1 + y10))), (6, .c (.ref 0 1 0 y13.length)), (7, .c (.ref 1 6 0 y21.length)), (9, vi64 x52), (10, vi64 x29), (11, vi64 x35), (13, .c (.ptr 2 5 0 0)), (16, vb x73), (18, vi64 t), (56, vi64 (y13.length : Int)), (57, vi64 x29), (71, vl 5 RS_api_Sent (y13.getD (0 + x29.toNat) ([] : List S_api_Sent))), (72, vi64 (((y13.getD (0 + x29.toNat) ([] : List S_api_Sent)).length : Nat) : Int)), (73, vi64 x43), (80, vl 5 RS_api_Sent (y13.getD (0 + x35.toNat) ([] : List S_api_Sent))), (81, vi64 (((y13.getD (0 + x35.toNat) ([] : List S_api_Sent)).length : Nat) : Int)), (82, vi64 x53)], [(0, .row 37 false 1 y13.length (RlS_api_Sent y13)), (1, .row 49 false 6 y21.length (RS_api_Candidate y21)), (2, .box 44 [ci64 ((((y13.getD (0 + x29.toNat) ([] : List S_api_Sent)).getD x43.toNat dS_api_Sent).Record).ID), ci64 ((((y13.getD (0 + x29.toNat) ([] : List S_api_Sent)).getD x43.toNat dS_api_Sent).Record).Version), cl 2 RS_api_Bits ((((y13.getD (0 + x29.toNat) ([] : List S_api_Sent)).getD x43.toNat dS_api_Sent).Record).Fields), cl 1 Ru64 (((y13.getD (0 + x29.toNat) ([] : List S_api_Sent)).getD x43.toNat dS_api_Sent).Hashes), cl 1 Rb (((y13.getD (0 + x29.toNat) ([] : List S_api_Sent)).getD x43.toNat dS_api_Sent).Has)])], 3⟩)) (conv_re [(0, 0), (1, 1), (2, 2), (3, 3)] (by kernel_rfl)) (fun _ => tv) ?_ ?_
             ·
              clear l90 h
              intro v o h
              obtain ⟨x76, x77⟩ := v
              replace h : rl_law26_CandidateKeys_l8 y13 y21 x29 x35 x43 x53 x76 x77 = some o := h
              unfold rl_law26_CandidateKeys_l8 at h
              refine AW.sg tt_okL3 [(122, vb (decide (x77 < (y21.length : Int))))] [] [] 5 [] (by kernel_rfl) ?_
              refine AW.seq ?_
              refine AW.co h (by kernel_rfl) (fun c79 h => ?_) (fun c79 h => ?_)
              ·
               refine AW.skip (AW.tn (AW.seq ?_))
               refine AW.join (ι := Int) (fun v => ⟨[(5, vi64 (i64.wrap (1 + y10))), (6, .c (.ref 0 1 0 y13.length)), (7, .c (.ref 1 6 0 y21.length)), (9, vi64 x52), (10, vi64 x29), (11, vi64 x35), (13, .c (.ptr 2 5 0 0)), (15, .c (.ptr 3 5 0 0)), (16, vb x73), (18, vi64 v), (56, vi64 (y13.length : Int)), (57, vi64 x29), (71, vl 5 RS_api_Sent (y13.getD (0 + x29.toNat) ([] : List S_api_Sent))), (72, vi64 (((y13.getD (0 + x29.toNat) ([] : List S_api_Sent)).length : Nat) : Int)), (73, vi64 x43), (80, vl 5 RS_api_Sent (y13.getD (0 + x35.toNat) ([] : List S_api_Sent))), (81, vi64 (((y13.getD (0 + x35.toNat) ([] : List S_api_Sent)).length : Nat) : Int)), (82, vi64 x53), (119, .c (.ref 1 6 0 y21.length)), (120, vi64 (y21.length : Int)), (121, vi64 x77)], [(0, .row 37 false 1 y13.length (RlS_api_Sent y13)), (1, .row 49 false 6 y21.length (RS_api_Candidate y21)), (2, .box 44 [ci64 ((((y13.getD (0 + x29.toNat) ([] : List S_api_Sent)).getD x43.toNat dS_api_Sent).Record).ID), ci64 ((((y13.getD (0 + x29.toNat) ([] : List S_api_Sent)).getD x43.toNat dS_api_Sent).Record).Version), cl 2 RS_api_Bits ((((y13.getD (0 + x29.toNat) ([] : List S_api_Sent)).getD x43.toNat dS_api_Sent).Record).Fields), cl 1 Ru64 (((y13.getD (0 + x29.toNat) ([] : List S_api_Sent)).getD x43.toNat dS_api_Sent).Hashes), cl 1 Rb (((y13.getD (0 + x29.toNat) ([] : List S_api_Sent)).getD x43.toNat dS_api_Sent).Has)]), (3, .box 44 [ci64 ((((y13.getD (0 + x35.toNat) ([] : List S_api_Sent)).getD x53.toNat dS_api_Sent).Record).ID), ci64 ((((y13.getD (0 + x35.toNat) ([] : List S_api_Sent)).getD x53.toNat dS_api_Sent).Record).Version), cl 2 RS_api_Bits ((((y13.getD (0 + x35.toNat) ([] : List S_api_Sent)).getD x53.toNat dS_api_Sent).Record).Fields), cl 1 Ru64 (((y13.getD (0 + x35.toNat) ([] : List S_api_Sent)).getD x53.toNat dS_api_Sent).Hashes), cl 1 Rb (((y13.getD (0 + x35.toNat) ([] : List S_api_Sent)).getD x53.toNat dS_api_Sent).Has)])], 4⟩) (fun v : Int => rl_law26_CandidateKeys_k9 x77 v = some o) (fun x80 h => ?_) ?_
               ·
                unfold rl_law26_CandidateKeys_k9 at h
                refine AW.tn ?_
                refine AW.rg tt_okL3 [(121, vi64 (i64.wrap (x77 + 1)))] [] [] 6 [] (by kernel_rfl) ?_
                exact lpn h (conv_re [(0, 0), (1, 1), (2, 2), (3, 3)] (by kernel_rfl))
               ·
                refine AW.block ?_
                obtain ⟨g81, g82, h⟩ := ifd h
                refine AW.sg tt_okL3 [(20, .c (.ptr 7 6 0 0))] [7] [(7, .box 49 [ci64 (((y21.getD (0 + x77.toNat) dS_api_Candidate).A).Registry), ci64 (((y21.getD (0 + x77.toNat) dS_api_Candidate).A).ID), ci64 (((y21.getD (0 + x77.toNat) dS_api_Candidate).B).Registry), ci64 (((y21.getD (0 + x77.toNat) dS_api_Candidate).B).ID), ci64 ((y21.getD (0 + x77.toNat) dS_api_Candidate).Pattern), ci64 ((y21.getD (0 + x77.toNat) dS_api_Candidate).Weight)])] 9 [hq g81 g82, ho (p := (0 + x77.toNat) < y21.length) (by have h1 : 0 ≤ x77 := g81; have h2 : x77 < (y21.length : Int) := g82; omega)] (by kernel_rfl) ?_
                refine AW.seq ?_
                refine AW.join (ι := Bool) (fun v => ⟨[(5, vi64 (i64.wrap (1 + y10))), (6, .c (.ref 0 1 0 y13.length)), (7, .c (.ref 1 6 0 y21.length)), (9, vi64 x52), (10, vi64 x29), (11, vi64 x35), (13, .c (.ptr 2 5 0 0)), (15, .c (.ptr 3 5 0 0)), (16, vb x73), (18, vi64 x76), (56, vi64 (y13.length : Int)), (57, vi64 x29), (71, vl 5 RS_api_Sent (y13.getD (0 + x29.toNat) ([] : List S_api_Sent))), (72, vi64 (((y13.getD (0 + x29.toNat) ([] : List S_api_Sent)).length : Nat) : Int)), (73, vi64 x43), (80, vl 5 RS_api_Sent (y13.getD (0 + x35.toNat) ([] : List S_api_Sent))), (81, vi64 (((y13.getD (0 + x35.toNat) ([] : List S_api_Sent)).length : Nat) : Int)), (82, vi64 x53), (119, .c (.ref 1 6 0 y21.length)), (120, vi64 (y21.length : Int)), (121, vi64 x77), (142, vb v)], [(0, .row 37 false 1 y13.length (RlS_api_Sent y13)), (1, .row 49 false 6 y21.length (RS_api_Candidate y21)), (2, .box 44 [ci64 ((((y13.getD (0 + x29.toNat) ([] : List S_api_Sent)).getD x43.toNat dS_api_Sent).Record).ID), ci64 ((((y13.getD (0 + x29.toNat) ([] : List S_api_Sent)).getD x43.toNat dS_api_Sent).Record).Version), cl 2 RS_api_Bits ((((y13.getD (0 + x29.toNat) ([] : List S_api_Sent)).getD x43.toNat dS_api_Sent).Record).Fields), cl 1 Ru64 (((y13.getD (0 + x29.toNat) ([] : List S_api_Sent)).getD x43.toNat dS_api_Sent).Hashes), cl 1 Rb (((y13.getD (0 + x29.toNat) ([] : List S_api_Sent)).getD x43.toNat dS_api_Sent).Has)]), (3, .box 44 [ci64 ((((y13.getD (0 + x35.toNat) ([] : List S_api_Sent)).getD x53.toNat dS_api_Sent).Record).ID), ci64 ((((y13.getD (0 + x35.toNat) ([] : List S_api_Sent)).getD x53.toNat dS_api_Sent).Record).Version), cl 2 RS_api_Bits ((((y13.getD (0 + x35.toNat) ([] : List S_api_Sent)).getD x53.toNat dS_api_Sent).Record).Fields), cl 1 Ru64 (((y13.getD (0 + x35.toNat) ([] : List S_api_Sent)).getD x53.toNat dS_api_Sent).Hashes), cl 1 Rb (((y13.getD (0 + x35.toNat) ([] : List S_api_Sent)).getD x53.toNat dS_api_Sent).Has)])], 4⟩) (fun v : Bool => rl_law26_CandidateKeys_k10 x76 x77 v = some o) (fun x83 h => ?_) ?_
                ·
                 unfold rl_law26_CandidateKeys_k10 at h
                 refine AW.tn ?_
                 refine AW.co h (by kernel_rfl) (fun c84 h => ?_) (fun c84 h => ?_)
                 ·
                  refine AW.rg tt_okL3 [(18, vi64 (i64.wrap (x76 + 1)))] [] [] 7 [] (by kernel_rfl) ?_
                  refine AW.inBlock_normal ?_
                  exact jl (i64.wrap (x76 + 1)) h (conv_re [(0, 0), (1, 1), (2, 2), (3, 3)] (by kernel_rfl))
                 ·
                  refine AW.skip (AW.inBlock_normal ?_)
                  exact jl x76 h (conv_re [(0, 0), (1, 1), (2, 2), (3, 3)] (by kernel_rfl))
                ·
                 rcases ifs h with ⟨c85, h⟩ | ⟨c85, h⟩
                 ·
                  refine AW.rg tt_okL3 [(142, vb (((((y21.getD (0 + x77.toNat) dS_api_Candidate).B).Registry) == x35) && (((((y21.getD (0 + x77.toNat) dS_api_Candidate).B).ID) == ((((y13.getD (0 + x35.toNat) ([] : List S_api_Sent)).getD x53.toNat dS_api_Sent).Record).ID)) && true)))] [] [] 27 [hn, hn, hn, hn, hn, hn, hn, ht c85] (by kernel_rfl) ?_
                  exact jl (((((y21.getD (0 + x77.toNat) dS_api_Candidate).B).Registry) == x35) && (((((y21.getD (0 + x77.toNat) dS_api_Candidate).B).ID) == ((((y13.getD (0 + x35.toNat) ([] : List S_api_Sent)).getD x53.toNat dS_api_Sent).Record).ID)) && true)) h (conv_re [(0, 0), (1, 1), (2, 2), (3, 3)] (by kernel_rfl))
                 ·
                  refine AW.rg tt_okL3 [(142, vb false)] [] [] 27 [hn, hn, hn, hn, hn, hn, hn, hf c85] (by kernel_rfl) ?_
                  exact jl false h (conv_re [(0, 0), (1, 1), (2, 2), (3, 3)] (by kernel_rfl))
              ·
               refine AW.exit (AW.thenQ_exit ?_)
               exact lpo h rfl (conv_re [(0, 0), (1, 1), (2, 2)] (by kernel_rfl))
             ·
              show (_ : Exit → St → Prop) (.exit 10) _
              refine AW.inBlock_hit (AW.tn ?_)
              refine AW.seq (AW.seq ?_)
              refine AW.join (ι := Bool) (fun v => ⟨[(5, vi64 (i64.wrap (1 + y10))), (6, .c (.ref 0 1 0 y13.length)), (7, .c (.ref 1 6 0 y21.length)), (9, vi64 x52), (10, vi64 x29), (11, vi64 x35), (13, .c (.ptr 2 5 0 0)), (18, vi64 x86), (56, vi64 (y13.length : Int)), (57, vi64 x29), (71, vl 5 RS_api_Sent (y13.getD (0 + x29.toNat) ([] : List S_api_Sent))), (72, vi64 (((y13.getD (0 + x29.toNat) ([] : List S_api_Sent)).length : Nat) : Int)), (73, vi64 x43), (80, vl 5 RS_api_Sent (y13.getD (0 + x35.toNat) ([] : List S_api_Sent))), (81, vi64 (((y13.getD (0 + x35.toNat) ([] : List S_api_Sent)).length : Nat) : Int)), (82, vi64 x53), (153, vb v)], [(0, .row 37 false 1 y13.length (RlS_api_Sent y13)), (1, .row 49 false 6 y21.length (RS_api_Candidate y21)), (2, .box 44 [ci64 ((((y13.getD (0 + x29.toNat) ([] : List S_api_Sent)).getD x43.toNat dS_api_Sent).Record).ID), ci64 ((((y13.getD (0 + x29.toNat) ([] : List S_api_Sent)).getD x43.toNat dS_api_Sent).Record).Version), cl 2 RS_api_Bits ((((y13.getD (0 + x29.toNat) ([] : List S_api_Sent)).getD x43.toNat dS_api_Sent).Record).Fields), cl 1 Ru64 (((y13.getD (0 + x29.toNat) ([] : List S_api_Sent)).getD x43.toNat dS_api_Sent).Hashes), cl 1 Rb (((y13.getD (0 + x29.toNat) ([] : List S_api_Sent)).getD x43.toNat dS_api_Sent).Has)])], 3⟩) (fun v : Bool => rl_law26_CandidateKeys_k11 x52 x53 x86 v = some o) (fun x87 h => ?_) ?_
              ·
               unfold rl_law26_CandidateKeys_k11 at h
               refine AW.tn ?_
               refine AW.co h (by kernel_rfl) (fun c88 h => ?_) (fun c88 h => ?_)
               ·
                refine AW.sg tt_okL3 [(2, vb false)] [] [] 4 [] (by kernel_rfl) ?_
                refine AW.ret (AW.tr ?_)
                refine AW.inBlock_ret (AW.tr ?_)
                exact lpo h rfl (conv_re [] (by kernel_rfl))
               ·
                refine AW.skip (AW.tn ?_)
                refine AW.rg tt_okL3 [(9, vi64 (i64.wrap (x52 + x86)))] [] [] 7 [] (by kernel_rfl) ?_
                refine AW.inBlock_normal (AW.tn ?_)
                refine AW.rg tt_okL3 [(82, vi64 (i64.wrap (x53 + 1)))] [] [] 9 [] (by kernel_rfl) ?_
                exact lpn h (conv_re [(0, 0), (1, 1), (2, 2)] (by kernel_rfl))
              ·
               rcases ifs h with ⟨c89, h⟩ | ⟨c89, h⟩
               ·
                refine AW.rg tt_okL3 [(153, vb true)] [] [] 11 [hn, hn, hn, ht c89] (by kernel_rfl) ?_
                exact jl true h (conv_re [(0, 0), (1, 1), (2, 2)] (by kernel_rfl))
               ·
                refine AW.rg tt_okL3 [(153, vb (decide (x86 > 1)))] [] [] 11 [hn, hn, hn, hf c89] (by kernel_rfl) ?_
                exact jl (decide (x86 > 1)) h (conv_re [(0, 0), (1, 1), (2, 2)] (by kernel_rfl))
           ·
            refine AW.exit (AW.thenQ_exit ?_)
            exact lpo h rfl (conv_re [(0, 0), (1, 1)] (by kernel_rfl))
          ·
           unfold rl_law26_CandidateKeys_a12 at h
           show (_ : Exit → St → Prop) (.exit 6) _
           refine AW.inBlock_hit (AW.inBlock_normal (AW.tn ?_))
           refine AW.rg tt_okL3 [(73, vi64 (i64.wrap (x43 + 1)))] [] [] 4 [] (by kernel_rfl) ?_
           exact lpn h (conv_re [(0, 0), (1, 1)] (by kernel_rfl))
          ·
           replace h : rl_law26_CandidateKeys_a13 = some o := h
           unfold rl_law26_CandidateKeys_a13 at h
           show (_ : Exit → St → Prop) (.ret) _
           refine AW.inBlock_ret (AW.inBlock_ret (AW.tr ?_))
           exact lpo h rfl (conv_re [] (by kernel_rfl))
         ·
          refine AW.exit (AW.thenQ_exit ?_)
          exact lpo h rfl (conv_re [(0, 0), (1, 1)] (by kernel_rfl))
        ·
         unfold rl_law26_CandidateKeys_a14 at h
         show (_ : Exit → St → Prop) (.exit 4) _
         refine AW.inBlock_hit (AW.inBlock_normal (AW.tn ?_))
         refine AW.rg tt_okL3 [(11, vi64 (i64.wrap (x35 + 1)))] [] [] 5 [] (by kernel_rfl) ?_
         exact lpn h (conv_re [(0, 0), (1, 1)] (by kernel_rfl))
        ·
         replace h : rl_law26_CandidateKeys_a15 = some o := h
         unfold rl_law26_CandidateKeys_a15 at h
         show (_ : Exit → St → Prop) (.ret) _
         refine AW.inBlock_ret (AW.inBlock_ret (AW.tr ?_))
         exact lpo h rfl (conv_re [] (by kernel_rfl))
       ·
        refine AW.exit (AW.thenQ_exit ?_)
        exact lpo h rfl (conv_re [(0, 0), (1, 1)] (by kernel_rfl))
      ·
       unfold rl_law26_CandidateKeys_a16 at h
       show (_ : Exit → St → Prop) (.exit 2) _
       refine AW.inBlock_hit (AW.inBlock_normal (AW.tn ?_))
       refine AW.rg tt_okL3 [(57, vi64 (i64.wrap (x29 + 1)))] [] [] 4 [] (by kernel_rfl) ?_
       exact lpn h (conv_re [(0, 0), (1, 1)] (by kernel_rfl))
      ·
       replace h : rl_law26_CandidateKeys_a17 = some o := h
       unfold rl_law26_CandidateKeys_a17 at h
       show (_ : Exit → St → Prop) (.ret) _
       refine AW.inBlock_ret (AW.inBlock_ret (AW.tr ?_))
       exact lpo h rfl (conv_re [] (by kernel_rfl))
     ·
      refine AW.exit (AW.thenQ_exit ?_)
      exact lpo h rfl (conv_re [(0, 1)] (by kernel_rfl))
    ·
     unfold rl_law26_CandidateKeys_a18 at h
     show (_ : Exit → St → Prop) (.exit 0) _
     refine AW.inBlock_hit (AW.tn ?_)
     refine AW.sg tt_okL3 [(2, vb (x98 == (y21.length : Int)))] [] [] 6 [] (by kernel_rfl) ?_
     refine AW.ret ?_
     obtain rfl := some_inj h
     exact fn0 (.inr rfl) [] 0 (vb (x98 == (y21.length : Int))) (by kernel_rfl)
    ·
     replace h : rl_law26_CandidateKeys_a19 = some r := h
     unfold rl_law26_CandidateKeys_a19 at h
     show (_ : Exit → St → Prop) (.ret) _
     refine AW.inBlock_ret (AW.tr ?_)
     obtain rfl := some_inj h
     exact fn0 (.inr rfl) [] 0 (vb false) (by kernel_rfl)
 ·
  obtain ⟨y100, e101, h⟩ := bnd_some h
  rcases ifs h with ⟨c102, h⟩ | ⟨c102, h⟩
  ·
   refine AW.rg tt_okL3 [(27, vb true)] [] [] 7 [hk (rl_law26_awake_con y100 e101), ht c102] (by kernel_rfl) ?_
   exact jl true h (conv_re [] (by kernel_rfl))
  ·
   obtain ⟨y103, e104, h⟩ := bnd_some h
   refine AW.rg tt_okL3 [(27, vb (!y103))] [] [] 6 [hk (rl_law26_awake_con y100 e101), hf c102, hn, hn, hk (rl_make_Few_con p0 y103 e104)] (by kernel_rfl) ?_
   exact jl (!y103) h (conv_re [] (by kernel_rfl))
end Go.Proofs.Ytknlckjpgmjenaa
