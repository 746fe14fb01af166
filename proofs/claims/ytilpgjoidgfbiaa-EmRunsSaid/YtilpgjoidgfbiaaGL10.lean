/- Printed by a program of mine (vmgen.py): Go functions, and what they come to. -/
import Derived.Test.YtilpgjoidgfbiaaVr
import Derived.Test.YtilpgjoidgfbiaaRows
import Derived.Test.YtilpgjoidgfbiaaG2
namespace Go.Proofs.Ytilpgjoidgfbiaa
open Vm
open IntKind (i64 u64 u32 u8)
set_option maxHeartbeats 10000000
set_option linter.unusedVariables false
set_option linter.unusedSimpArgs false
set_option linter.constructorNameAsVariable false
def ttlL10 : List (Nat × TI) := [(3, ⟨.int .i64, 1, 8, [.int .i64 0], false⟩), (4, ⟨.bool, 1, 1, [.bool false], false⟩), (5, ⟨.int .u8, 1, 1, [.int .u8 0], false⟩), (9, ⟨.str, 1, 16, [.string ⟨#[]⟩], false⟩), (22, ⟨.slice 3, 1, 24, [.slice none 0 0], false⟩), (23, ⟨.int .u16, 1, 2, [.int .u16 0], false⟩), (26, ⟨.ptr 72, 1, 8, [.pointer none], false⟩), (29, ⟨.slice 54, 1, 24, [.slice none 0 0], false⟩), (32, ⟨.struct [(3, 0), (22, 1), (22, 2)], 3, 56, [.int .i64 0, .slice none 0 0, .slice none 0 0], false⟩), (35, ⟨.struct [(3, 0), (3, 1), (3, 2)], 3, 24, [.int .i64 0, .int .i64 0, .int .i64 0], true⟩), (36, ⟨.int .i64, 1, 8, [.int .i64 0], false⟩), (42, ⟨.slice 69, 1, 24, [.slice none 0 0], false⟩), (44, ⟨.struct [(42, 0), (42, 1)], 2, 48, [.slice none 0 0, .slice none 0 0], false⟩), (52, ⟨.struct [(3, 0), (3, 1)], 2, 16, [.int .i64 0, .int .i64 0], true⟩), (54, ⟨.struct [(52, 0), (52, 2), (3, 4), (3, 5)], 6, 48, [.int .i64 0, .int .i64 0, .int .i64 0, .int .i64 0, .int .i64 0, .int .i64 0], true⟩), (64, ⟨.arr 3 44, 6, 144, [.slice none 0 0, .slice none 0 0, .slice none 0 0, .slice none 0 0, .slice none 0 0, .slice none 0 0], false⟩), (69, ⟨.int .u32, 1, 4, [.int .u32 0], false⟩), (70, ⟨.int .u64, 1, 8, [.int .u64 0], false⟩), (72, ⟨.struct [(22, 0), (3, 1), (70, 2)], 3, 40, [.slice none 0 0, .int .i64 0, .int .u64 0], false⟩), (75, ⟨.slice 78, 1, 24, [.slice none 0 0], false⟩), (78, ⟨.struct [(52, 0), (52, 2), (3, 4)], 5, 40, [.int .i64 0, .int .i64 0, .int .i64 0, .int .i64 0, .int .i64 0], true⟩), (106, ⟨.struct [(3, 0), (22, 1), (22, 2)], 3, 56, [.int .i64 0, .slice none 0 0, .slice none 0 0], false⟩), (110, ⟨.struct [(3, 0), (3, 1), (3, 2), (3, 3)], 4, 32, [.int .i64 0, .int .i64 0, .int .i64 0, .int .i64 0], true⟩), (111, ⟨.slice 110, 1, 24, [.slice none 0 0], false⟩), (115, ⟨.arr 6 3, 6, 48, [.int .i64 0, .int .i64 0, .int .i64 0, .int .i64 0, .int .i64 0, .int .i64 0], true⟩), (121, ⟨.struct [(42, 0), (36, 1)], 2, 32, [.slice none 0 0, .int .i64 0], false⟩), (132, ⟨.slice 121, 1, 24, [.slice none 0 0], false⟩)]
theorem tt_okL10 : TTok Try.prog (Vm.look ttlL10) := ttok_of ⟨⟨by kernel_rfl, by kernel_rfl, by kernel_rfl⟩, ⟨by kernel_rfl, by kernel_rfl, by kernel_rfl⟩, ⟨by kernel_rfl, by kernel_rfl, by kernel_rfl⟩, ⟨by kernel_rfl, by kernel_rfl, by kernel_rfl⟩, ⟨by kernel_rfl, by kernel_rfl, by kernel_rfl⟩, ⟨by kernel_rfl, by kernel_rfl, by kernel_rfl⟩, ⟨by kernel_rfl, by kernel_rfl, by kernel_rfl⟩, ⟨by kernel_rfl, by kernel_rfl, by kernel_rfl⟩, ⟨by kernel_rfl, by kernel_rfl, by kernel_rfl⟩, ⟨by kernel_rfl, by kernel_rfl, by kernel_rfl⟩, ⟨by kernel_rfl, by kernel_rfl, by kernel_rfl⟩, ⟨by kernel_rfl, by kernel_rfl, by kernel_rfl⟩, ⟨by kernel_rfl, by kernel_rfl, by kernel_rfl⟩, ⟨by kernel_rfl, by kernel_rfl, by kernel_rfl⟩, ⟨by kernel_rfl, by kernel_rfl, by kernel_rfl⟩, ⟨by kernel_rfl, by kernel_rfl, by kernel_rfl⟩, ⟨by kernel_rfl, by kernel_rfl, by kernel_rfl⟩, ⟨by kernel_rfl, by kernel_rfl, by kernel_rfl⟩, ⟨by kernel_rfl, by kernel_rfl, by kernel_rfl⟩, ⟨by kernel_rfl, by kernel_rfl, by kernel_rfl⟩, ⟨by kernel_rfl, by kernel_rfl, by kernel_rfl⟩, ⟨by kernel_rfl, by kernel_rfl, by kernel_rfl⟩, ⟨by kernel_rfl, by kernel_rfl, by kernel_rfl⟩, ⟨by kernel_rfl, by kernel_rfl, by kernel_rfl⟩, ⟨by kernel_rfl, by kernel_rfl, by kernel_rfl⟩, ⟨by kernel_rfl, by kernel_rfl, by kernel_rfl⟩, ⟨by kernel_rfl, by kernel_rfl, by kernel_rfl⟩, trivial⟩
theorem moL10 : Try.prog.follows .mixedOrders = true := by kernel_rfl
/-! recordlink/recordlinklaw24.EmRuns -/
noncomputable def rl_law24_EmRuns_k3 (x40 : Bool) : Option Bool := some x40
noncomputable def rl_law24_EmRuns_k2 (y13 : List Int) (y16 : Int) (y19 : Int) (y30 : S_em_model) (y31 : Int) (x34 : Bool) : Option Bool := if x34 = true then (some false) else (if (y31 == (i64.wrap (y16 + y19))) = true then (some true) else (bind2 (em_Step y30 y13) fun y37 y38 => (if (y38 == 0) = true then ((rl_ref24_Same y37 y30).bind fun y42 => (rl_law24_EmRuns_k3 y42)) else (rl_law24_EmRuns_k3 false))))
noncomputable def rl_law24_EmRuns_k1 (p0 : List Int) (x1 : Bool) : Option Bool := if x1 = true then ((rl_law24_awake).bind fun y3 => (some y3)) else ((rl_make_New p0).bind fun y5 => (bind2 (rl_make_Deck_Next y5 2) fun y7 y8 => (bind2 (rl_make_Deck_Model y8 (i64.wrap (1 + y7))) fun y10 y11 => (bind2 (rl_make_Deck_Counts y11 (i64.wrap (1 + y7))) fun y13 y14 => (bind2 (rl_make_Deck_Next y14 4) fun y16 y17 => (bind2 (rl_make_Deck_Next y17 4) fun y19 y20 => (bind3 (em_Run y10 y13 y16) fun y22 y23 y24 => (bind3 (em_Run y22 y13 y19) fun y26 y27 y28 => (bind3 (em_Run y10 y13 (i64.wrap (y16 + y19))) fun y30 y31 y32 => (if (y24 != 0) = true then (rl_law24_EmRuns_k2 y13 y16 y19 y30 y31 true) else (if (y28 != 0) = true then (rl_law24_EmRuns_k2 y13 y16 y19 y30 y31 true) else (if (y32 != 0) = true then (rl_law24_EmRuns_k2 y13 y16 y19 y30 y31 true) else (if (decide (y23 > y16)) = true then (rl_law24_EmRuns_k2 y13 y16 y19 y30 y31 true) else (if (decide (y27 > y19)) = true then (rl_law24_EmRuns_k2 y13 y16 y19 y30 y31 true) else (if (decide (y31 > (i64.wrap (y16 + y19)))) = true then (rl_law24_EmRuns_k2 y13 y16 y19 y30 y31 true) else ((rl_ref24_Same y26 y30).bind fun y50 => (if (!y50) = true then (rl_law24_EmRuns_k2 y13 y16 y19 y30 y31 true) else (rl_law24_EmRuns_k2 y13 y16 y19 y30 y31 (y31 != (i64.wrap (y23 + y27)))))))))))))))))))))
noncomputable def rl_law24_EmRuns (p0 : List Int) : Option Bool := (rl_law24_awake).bind fun y53 => (if (!y53) = true then (rl_law24_EmRuns_k1 p0 true) else ((rl_make_Few p0).bind fun y56 => (rl_law24_EmRuns_k1 p0 (!y56))))
set_option maxRecDepth 100000 in
theorem rl_law24_EmRuns_con (p0 : List Int) (r : Bool) (h : rl_law24_EmRuns p0 = some r) : Con Try.prog 10 [vl 1 Ri64 p0] [] (vb r) [] := by
 refine con_of tt_okL10 0 Try.func10 (by kernel_rfl) rfl (by kernel_rfl) (fun base X _ => AW.post ?_)
 unfold rl_law24_EmRuns at h
 refine AW.sg tt_okL10 [] [] [] 1 [] (by kernel_rfl) ?_
 refine AW.seq (AW.seq ?_)
 refine AW.join (ι := Bool) (fun v => ⟨[(0, vl 1 Ri64 p0), (26, vb v)], [], 0⟩) (fun v : Bool => rl_law24_EmRuns_k1 p0 v = some r) (fun x1 h => ?_) ?_
 ·
  unfold rl_law24_EmRuns_k1 at h
  refine AW.tn ?_
  refine AW.co h (by kernel_rfl) (fun c2 h => ?_) (fun c2 h => ?_)
  ·
   obtain ⟨y3, e4, h⟩ := bnd_some h
   refine AW.sg tt_okL10 [(2, vb y3)] [] [] 1 [hk (rl_law24_awake_con y3 e4)] (by kernel_rfl) ?_
   refine AW.ret (AW.tr ?_)
   obtain rfl := some_inj h
   exact fn0 (.inr rfl) [] 0 (vb y3) (by kernel_rfl)
  ·
   refine AW.skip (AW.tn ?_)
   obtain ⟨y5, e6, h⟩ := bnd_some h
   refine AW.sg tt_okL10 [(3, .c (.ptr 1 3 0 0))] [1] [(1, .box 72 [cl 1 Ri64 y5.list, ci64 y5.at_, cu64 y5.state])] 3 [hn, hl [] [] 1 (rl_make_New_con p0 y5 e6)] (by kernel_rfl) ?_
   obtain ⟨y7, y8, e9, h⟩ := bind2_some h
   refine AW.sg tt_okL10 [(4, vi64 (i64.wrap (1 + y7)))] [1] [(1, .box 72 [cl 1 Ri64 y8.list, ci64 y8.at_, cu64 y8.state])] 6 [hn, hl [1] [] 0 (rl_make_Deck_Next_con y5 2 (y7, y8) e9)] (by kernel_rfl) ?_
   obtain ⟨y10, y11, e12, h⟩ := bind2_some h
   obtain ⟨y13, y14, e15, h⟩ := bind2_some h
   refine AW.sg tt_okL10 [(6, .c (.ref 12 1 0 y13.length)), (5, .c (.ptr 13 3 0 0))] [1, 8, 9, 12, 13] [(13, .box 32 [ci64 y10.Prior, .ref 8 1 0 y10.Match.length, .ref 9 1 0 y10.Random.length]), (1, .box 72 [cl 1 Ri64 y14.list, ci64 y14.at_, cu64 y14.state]), (12, .row 3 false 1 y13.length (Ri64 y13)), (8, .row 3 false 1 y10.Match.length (Ri64 y10.Match)), (9, .row 3 false 1 y10.Random.length (Ri64 y10.Random))] 16 [hn, hn, hl [1] [] 2 (rl_make_Deck_Model_con y8 (i64.wrap (1 + y7)) (y10, y11) e12), hn, hn, hl [1] [] 1 (rl_make_Deck_Counts_con y11 (i64.wrap (1 + y7)) (y13, y14) e15)] (by kernel_rfl) ?_
   obtain ⟨y16, y17, e18, h⟩ := bind2_some h
   obtain ⟨y19, y20, e21, h⟩ := bind2_some h
   refine AW.sg tt_okL10 [(8, vi64 y19), (7, vi64 y16)] [1] [] 20 [hn, hl [1] [] 0 (rl_make_Deck_Next_con y14 4 (y16, y17) e18), hn, hl [1] [] 0 (rl_make_Deck_Next_con y17 4 (y19, y20) e21)] (by kernel_rfl) ?_
   obtain ⟨y22, y23, y24, e25, h⟩ := bind3_some h
   refine AW.sg tt_okL10 [(11, vi64 y24), (10, vi64 y23), (9, .c (.ptr 29 3 0 0))] [23, 24, 29] [(29, .box 32 [ci64 y22.Prior, .ref 23 1 0 y22.Match.length, .ref 24 1 0 y22.Random.length]), (23, .row 3 false 1 y22.Match.length (Ri64 y22.Match)), (24, .row 3 false 1 y22.Random.length (Ri64 y22.Random))] 33 [hn, hn, hn, hg [] [] true 2 (q := ((True) ∧ (0 + y10.Match.length ≤ y10.Match.length) ∧ (0 + y10.Random.length ≤ y10.Random.length) ∧ (True)) ∧ (0 + y13.length ≤ y13.length) ∧ (True) ∧ (True)) ⟨⟨tv, le0, le0, tv⟩, le0, tv, tv⟩ (a0 := [.agg [ci64 y10.Prior, cl 1 Ri64 y10.Match, cl 1 Ri64 y10.Random], vl 1 Ri64 y13, vi64 y16]) (em_Run_con y10 y13 y16 (y22, y23, y24) e25) ⟨ArgLe.refl _, ArgLe.refl _, ArgLe.refl _, tv⟩ (fun _ => ⟨rowL_flat Vi64 _ _ _, rowL_flat Vi64 _ _ _, tv⟩)] (by kernel_rfl) ?_
   obtain ⟨y26, y27, y28, e29, h⟩ := bind3_some h
   refine AW.sg tt_okL10 [(14, vi64 y28), (13, vi64 y27), (12, .c (.ptr 42 3 0 0))] [36, 37, 42] [(42, .box 32 [ci64 y26.Prior, .ref 36 1 0 y26.Match.length, .ref 37 1 0 y26.Random.length]), (36, .row 3 false 1 y26.Match.length (Ri64 y26.Match)), (37, .row 3 false 1 y26.Random.length (Ri64 y26.Random))] 46 [hn, hn, hn, hg [] [] true 2 (q := ((True) ∧ (0 + y22.Match.length ≤ y22.Match.length) ∧ (0 + y22.Random.length ≤ y22.Random.length) ∧ (True)) ∧ (0 + y13.length ≤ y13.length) ∧ (True) ∧ (True)) ⟨⟨tv, le0, le0, tv⟩, le0, tv, tv⟩ (a0 := [.agg [ci64 y22.Prior, cl 1 Ri64 y22.Match, cl 1 Ri64 y22.Random], vl 1 Ri64 y13, vi64 y19]) (em_Run_con y22 y13 y19 (y26, y27, y28) e29) ⟨ArgLe.refl _, ArgLe.refl _, ArgLe.refl _, tv⟩ (fun _ => ⟨rowL_flat Vi64 _ _ _, rowL_flat Vi64 _ _ _, tv⟩)] (by kernel_rfl) ?_
   obtain ⟨y30, y31, y32, e33, h⟩ := bind3_some h
   refine AW.sg tt_okL10 [(17, vi64 y32), (16, vi64 y31), (15, .c (.ptr 57 3 0 0))] [51, 52, 57] [(57, .box 32 [ci64 y30.Prior, .ref 51 1 0 y30.Match.length, .ref 52 1 0 y30.Random.length]), (51, .row 3 false 1 y30.Match.length (Ri64 y30.Match)), (52, .row 3 false 1 y30.Random.length (Ri64 y30.Random))] 61 [hn, hn, hn, hn, hn, hg [] [] true 2 (q := ((True) ∧ (0 + y10.Match.length ≤ y10.Match.length) ∧ (0 + y10.Random.length ≤ y10.Random.length) ∧ (True)) ∧ (0 + y13.length ≤ y13.length) ∧ (True) ∧ (True)) ⟨⟨tv, le0, le0, tv⟩, le0, tv, tv⟩ (a0 := [.agg [ci64 y10.Prior, cl 1 Ri64 y10.Match, cl 1 Ri64 y10.Random], vl 1 Ri64 y13, vi64 (i64.wrap (y16 + y19))]) (em_Run_con y10 y13 (i64.wrap (y16 + y19)) (y30, y31, y32) e33) ⟨ArgLe.refl _, ArgLe.refl _, ArgLe.refl _, tv⟩ (fun _ => ⟨rowL_flat Vi64 _ _ _, rowL_flat Vi64 _ _ _, tv⟩)] (by kernel_rfl) ?_
   refine AW.seq (AW.seq ?_)
   refine AW.join (ι := Bool) (fun v => ⟨[(6, .c (.ref 0 1 0 y13.length)), (7, vi64 y16), (8, vi64 y19), (15, .c (.ptr 1 3 0 0)), (16, vi64 y31), (108, vb v)], [(0, .row 3 false 1 y13.length (Ri64 y13)), (1, .box 32 [ci64 y30.Prior, .ref 2 1 0 y30.Match.length, .ref 3 1 0 y30.Random.length]), (2, .row 3 false 1 y30.Match.length (Ri64 y30.Match)), (3, .row 3 false 1 y30.Random.length (Ri64 y30.Random))], 4⟩) (fun v : Bool => rl_law24_EmRuns_k2 y13 y16 y19 y30 y31 v = some r) (fun x34 h => ?_) ?_
   ·
    unfold rl_law24_EmRuns_k2 at h
    refine AW.tn ?_
    refine AW.co h (by kernel_rfl) (fun c35 h => ?_) (fun c35 h => ?_)
    ·
     refine AW.sg tt_okL10 [(2, vb false)] [] [] 5 [] (by kernel_rfl) ?_
     refine AW.ret (AW.tr ?_)
     obtain rfl := some_inj h
     exact fn0 (.inr rfl) [] 0 (vb false) (by kernel_rfl)
    ·
     refine AW.skip (AW.tn (AW.seq ?_))
     refine AW.sg tt_okL10 [(113, vb (y31 == (i64.wrap (y16 + y19))))] [] [] 9 [] (by kernel_rfl) ?_
     refine AW.co h (by kernel_rfl) (fun c36 h => ?_) (fun c36 h => ?_)
     ·
      refine AW.sg tt_okL10 [(2, vb true)] [] [] 10 [] (by kernel_rfl) ?_
      refine AW.ret (AW.tr ?_)
      obtain rfl := some_inj h
      exact fn0 (.inr rfl) [] 0 (vb true) (by kernel_rfl)
     ·
      refine AW.skip (AW.tn ?_)
      obtain ⟨y37, y38, e39, h⟩ := bind2_some h
      refine AW.sg tt_okL10 [(19, vi64 y38), (18, .c (.ptr 16 3 0 0))] [11, 12, 16] [(16, .box 32 [ci64 y37.Prior, .ref 11 1 0 y37.Match.length, .ref 12 1 0 y37.Random.length]), (11, .row 3 false 1 y37.Match.length (Ri64 y37.Match)), (12, .row 3 false 1 y37.Random.length (Ri64 y37.Random))] 19 [hn, hn, hg [] [] true 2 (q := ((True) ∧ (0 + y30.Match.length ≤ y30.Match.length) ∧ (0 + y30.Random.length ≤ y30.Random.length) ∧ (True)) ∧ (0 + y13.length ≤ y13.length) ∧ (True)) ⟨⟨tv, le0, le0, tv⟩, le0, tv⟩ (a0 := [.agg [ci64 y30.Prior, cl 1 Ri64 y30.Match, cl 1 Ri64 y30.Random], vl 1 Ri64 y13]) (em_Step_con y30 y13 (y37, y38) e39) ⟨ArgLe.refl _, ArgLe.refl _, tv⟩ (fun _ => ⟨rowL_flat Vi64 _ _ _, rowL_flat Vi64 _ _ _, tv⟩)] (by kernel_rfl) ?_
      refine AW.seq ?_
      refine AW.join (ι := Bool) (fun v => ⟨[(2, vb v)], [], 0⟩) (fun v : Bool => rl_law24_EmRuns_k3 v = some r) (fun x40 h => ?_) ?_
      ·
       unfold rl_law24_EmRuns_k3 at h
       refine AW.tn (AW.ret ?_)
       obtain rfl := some_inj h
       exact fn0 (.inr rfl) [] 0 (vb x40) (by kernel_rfl)
      ·
       rcases ifs h with ⟨c41, h⟩ | ⟨c41, h⟩
       ·
        obtain ⟨y42, e43, h⟩ := bnd_some h
        refine AW.rg tt_okL10 [(2, vb y42)] [] [] 26 [hn, ht c41, hn, hn, hn, hg [] [] true 0 (q := ((True) ∧ (0 + y37.Match.length ≤ y37.Match.length) ∧ (0 + y37.Random.length ≤ y37.Random.length) ∧ (True)) ∧ ((True) ∧ (0 + y30.Match.length ≤ y30.Match.length) ∧ (0 + y30.Random.length ≤ y30.Random.length) ∧ (True)) ∧ (True)) ⟨⟨tv, le0, le0, tv⟩, ⟨tv, le0, le0, tv⟩, tv⟩ (a0 := [.agg [ci64 y37.Prior, cl 1 Ri64 y37.Match, cl 1 Ri64 y37.Random], .agg [ci64 y30.Prior, cl 1 Ri64 y30.Match, cl 1 Ri64 y30.Random]]) (rl_ref24_Same_con y37 y30 y42 e43) ⟨ArgLe.refl _, ArgLe.refl _, tv⟩ (fun _ => tv)] (by kernel_rfl) ?_
        exact jl y42 h (conv_re [] (by kernel_rfl))
       ·
        refine AW.rg tt_okL10 [(2, vb false)] [] [] 27 [hn, hf c41] (by kernel_rfl) ?_
        exact jl false h (conv_re [] (by kernel_rfl))
   ·
    rcases ifs h with ⟨c44, h⟩ | ⟨c44, h⟩
    ·
     refine AW.rg tt_okL10 [(108, vb true)] [] [] 101 [hn, ht c44] (by kernel_rfl) ?_
     exact jl true h (conv_re [(0, 12), (1, 57), (2, 51), (3, 52)] (by kernel_rfl))
    ·
     rcases ifs h with ⟨c45, h⟩ | ⟨c45, h⟩
     ·
      refine AW.rg tt_okL10 [(108, vb true)] [] [] 101 [hn, hf c44, hn, hn, ht c45] (by kernel_rfl) ?_
      exact jl true h (conv_re [(0, 12), (1, 57), (2, 51), (3, 52)] (by kernel_rfl))
     ·
      rcases ifs h with ⟨c46, h⟩ | ⟨c46, h⟩
      ·
       refine AW.rg tt_okL10 [(108, vb true)] [] [] 101 [hn, hf c44, hn, hn, hf c45, hn, hn, hn, ht c46] (by kernel_rfl) ?_
       exact jl true h (conv_re [(0, 12), (1, 57), (2, 51), (3, 52)] (by kernel_rfl))
      ·
       rcases ifs h with ⟨c47, h⟩ | ⟨c47, h⟩
       ·
        refine AW.rg tt_okL10 [(108, vb true)] [] [] 101 [hn, hf c44, hn, hn, hf c45, hn, hn, hn, hf c46, hn, hn, hn, hn, ht c47] (by kernel_rfl) ?_
        exact jl true h (conv_re [(0, 12), (1, 57), (2, 51), (3, 52)] (by kernel_rfl))
       ·
        rcases ifs h with ⟨c48, h⟩ | ⟨c48, h⟩
        ·
         refine AW.rg tt_okL10 [(108, vb true)] [] [] 101 [hn, hf c44, hn, hn, hf c45, hn, hn, hn, hf c46, hn, hn, hn, hn, hf c47, hn, hn, hn, hn, ht c48] (by kernel_rfl) ?_
         exact jl true h (conv_re [(0, 12), (1, 57), (2, 51), (3, 52)] (by kernel_rfl))
        ·
         rcases ifs h with ⟨c49, h⟩ | ⟨c49, h⟩
         ·
          refine AW.rg tt_okL10 [(108, vb true)] [] [] 101 [hn, hf c44, hn, hn, hf c45, hn, hn, hn, hf c46, hn, hn, hn, hn, hf c47, hn, hn, hn, hn, hf c48, hn, hn, hn, hn, hn, hn, ht c49] (by kernel_rfl) ?_
          exact jl true h (conv_re [(0, 12), (1, 57), (2, 51), (3, 52)] (by kernel_rfl))
         ·
          obtain ⟨y50, e51, h⟩ := bnd_some h
          rcases ifs h with ⟨c52, h⟩ | ⟨c52, h⟩
          ·
           refine AW.rg tt_okL10 [(108, vb true)] [] [] 100 [hn, hf c44, hn, hn, hf c45, hn, hn, hn, hf c46, hn, hn, hn, hn, hf c47, hn, hn, hn, hn, hf c48, hn, hn, hn, hn, hn, hn, hf c49, hn, hn, hn, hn, hg [] [] true 0 (q := ((True) ∧ (0 + y26.Match.length ≤ y26.Match.length) ∧ (0 + y26.Random.length ≤ y26.Random.length) ∧ (True)) ∧ ((True) ∧ (0 + y30.Match.length ≤ y30.Match.length) ∧ (0 + y30.Random.length ≤ y30.Random.length) ∧ (True)) ∧ (True)) ⟨⟨tv, le0, le0, tv⟩, ⟨tv, le0, le0, tv⟩, tv⟩ (a0 := [.agg [ci64 y26.Prior, cl 1 Ri64 y26.Match, cl 1 Ri64 y26.Random], .agg [ci64 y30.Prior, cl 1 Ri64 y30.Match, cl 1 Ri64 y30.Random]]) (rl_ref24_Same_con y26 y30 y50 e51) ⟨ArgLe.refl _, ArgLe.refl _, tv⟩ (fun _ => tv), ht c52] (by kernel_rfl) ?_
           exact jl true h (conv_re [(0, 12), (1, 57), (2, 51), (3, 52)] (by kernel_rfl))
          ·
           refine AW.rg tt_okL10 [(108, vb (y31 != (i64.wrap (y23 + y27))))] [] [] 100 [hn, hf c44, hn, hn, hf c45, hn, hn, hn, hf c46, hn, hn, hn, hn, hf c47, hn, hn, hn, hn, hf c48, hn, hn, hn, hn, hn, hn, hf c49, hn, hn, hn, hn, hg [] [] true 0 (q := ((True) ∧ (0 + y26.Match.length ≤ y26.Match.length) ∧ (0 + y26.Random.length ≤ y26.Random.length) ∧ (True)) ∧ ((True) ∧ (0 + y30.Match.length ≤ y30.Match.length) ∧ (0 + y30.Random.length ≤ y30.Random.length) ∧ (True)) ∧ (True)) ⟨⟨tv, le0, le0, tv⟩, ⟨tv, le0, le0, tv⟩, tv⟩ (a0 := [.agg [ci64 y26.Prior, cl 1 Ri64 y26.Match, cl 1 Ri64 y26.Random], .agg [ci64 y30.Prior, cl 1 Ri64 y30.Match, cl 1 Ri64 y30.Random]]) (rl_ref24_Same_con y26 y30 y50 e51) ⟨ArgLe.refl _, ArgLe.refl _, tv⟩ (fun _ => tv), hf c52] (by kernel_rfl) ?_
           exact jl (y31 != (i64.wrap (y23 + y27))) h (conv_re [(0, 12), (1, 57), (2, 51), (3, 52)] (by kernel_rfl))
 ·
  obtain ⟨y53, e54, h⟩ := bnd_some h
  rcases ifs h with ⟨c55, h⟩ | ⟨c55, h⟩
  ·
   refine AW.rg tt_okL10 [(26, vb true)] [] [] 7 [hk (rl_law24_awake_con y53 e54), ht c55] (by kernel_rfl) ?_
   exact jl true h (conv_re [] (by kernel_rfl))
  ·
   obtain ⟨y56, e57, h⟩ := bnd_some h
   refine AW.rg tt_okL10 [(26, vb (!y56))] [] [] 6 [hk (rl_law24_awake_con y53 e54), hf c55, hn, hn, hk (rl_make_Few_con p0 y56 e57)] (by kernel_rfl) ?_
   exact jl (!y56) h (conv_re [] (by kernel_rfl))
end Go.Proofs.Ytilpgjoidgfbiaa
