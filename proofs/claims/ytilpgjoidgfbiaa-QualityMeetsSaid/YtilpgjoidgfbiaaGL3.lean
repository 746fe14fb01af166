/- Printed by a program of mine (vmgen.py): Go functions, and what they come to. -/
import Derived.Test.YtilpgjoidgfbiaaVr
import Derived.Test.YtilpgjoidgfbiaaRows
import Derived.Test.YtilpgjoidgfbiaaG2
namespace Go.Proofs.Ytilpgjoidgfbiaa
open Vm
open IntKind (i64 u64 u32 u8)
set_option maxHeartbeats 10000000
set_option linter.unusedVariables false
set_option linter.unusedSimpArgs false
set_option linter.constructorNameAsVariable false
def ttlL3 : List (Nat × TI) := [(3, ⟨.int .i64, 1, 8, [.int .i64 0], false⟩), (4, ⟨.bool, 1, 1, [.bool false], false⟩), (5, ⟨.int .u8, 1, 1, [.int .u8 0], false⟩), (9, ⟨.str, 1, 16, [.string ⟨#[]⟩], false⟩), (22, ⟨.slice 3, 1, 24, [.slice none 0 0], false⟩), (23, ⟨.int .u16, 1, 2, [.int .u16 0], false⟩), (26, ⟨.ptr 72, 1, 8, [.pointer none], false⟩), (29, ⟨.slice 54, 1, 24, [.slice none 0 0], false⟩), (32, ⟨.struct [(3, 0), (22, 1), (22, 2)], 3, 56, [.int .i64 0, .slice none 0 0, .slice none 0 0], false⟩), (35, ⟨.struct [(3, 0), (3, 1), (3, 2)], 3, 24, [.int .i64 0, .int .i64 0, .int .i64 0], true⟩), (36, ⟨.int .i64, 1, 8, [.int .i64 0], false⟩), (42, ⟨.slice 69, 1, 24, [.slice none 0 0], false⟩), (44, ⟨.struct [(42, 0), (42, 1)], 2, 48, [.slice none 0 0, .slice none 0 0], false⟩), (52, ⟨.struct [(3, 0), (3, 1)], 2, 16, [.int .i64 0, .int .i64 0], true⟩), (54, ⟨.struct [(52, 0), (52, 2), (3, 4), (3, 5)], 6, 48, [.int .i64 0, .int .i64 0, .int .i64 0, .int .i64 0, .int .i64 0, .int .i64 0], true⟩), (69, ⟨.int .u32, 1, 4, [.int .u32 0], false⟩), (70, ⟨.int .u64, 1, 8, [.int .u64 0], false⟩), (72, ⟨.struct [(22, 0), (3, 1), (70, 2)], 3, 40, [.slice none 0 0, .int .i64 0, .int .u64 0], false⟩), (75, ⟨.slice 78, 1, 24, [.slice none 0 0], false⟩), (78, ⟨.struct [(52, 0), (52, 2), (3, 4)], 5, 40, [.int .i64 0, .int .i64 0, .int .i64 0, .int .i64 0, .int .i64 0], true⟩), (115, ⟨.arr 6 3, 6, 48, [.int .i64 0, .int .i64 0, .int .i64 0, .int .i64 0, .int .i64 0, .int .i64 0], true⟩), (121, ⟨.struct [(42, 0), (36, 1)], 2, 32, [.slice none 0 0, .int .i64 0], false⟩), (132, ⟨.slice 121, 1, 24, [.slice none 0 0], false⟩)]
theorem tt_okL3 : TTok Try.prog (Vm.look ttlL3) := ttok_of ⟨⟨by kernel_rfl, by kernel_rfl, by kernel_rfl⟩, ⟨by kernel_rfl, by kernel_rfl, by kernel_rfl⟩, ⟨by kernel_rfl, by kernel_rfl, by kernel_rfl⟩, ⟨by kernel_rfl, by kernel_rfl, by kernel_rfl⟩, ⟨by kernel_rfl, by kernel_rfl, by kernel_rfl⟩, ⟨by kernel_rfl, by kernel_rfl, by kernel_rfl⟩, ⟨by kernel_rfl, by kernel_rfl, by kernel_rfl⟩, ⟨by kernel_rfl, by kernel_rfl, by kernel_rfl⟩, ⟨by kernel_rfl, by kernel_rfl, by kernel_rfl⟩, ⟨by kernel_rfl, by kernel_rfl, by kernel_rfl⟩, ⟨by kernel_rfl, by kernel_rfl, by kernel_rfl⟩, ⟨by kernel_rfl, by kernel_rfl, by kernel_rfl⟩, ⟨by kernel_rfl, by kernel_rfl, by kernel_rfl⟩, ⟨by kernel_rfl, by kernel_rfl, by kernel_rfl⟩, ⟨by kernel_rfl, by kernel_rfl, by kernel_rfl⟩, ⟨by kernel_rfl, by kernel_rfl, by kernel_rfl⟩, ⟨by kernel_rfl, by kernel_rfl, by kernel_rfl⟩, ⟨by kernel_rfl, by kernel_rfl, by kernel_rfl⟩, ⟨by kernel_rfl, by kernel_rfl, by kernel_rfl⟩, ⟨by kernel_rfl, by kernel_rfl, by kernel_rfl⟩, ⟨by kernel_rfl, by kernel_rfl, by kernel_rfl⟩, ⟨by kernel_rfl, by kernel_rfl, by kernel_rfl⟩, ⟨by kernel_rfl, by kernel_rfl, by kernel_rfl⟩, trivial⟩
theorem moL3 : Try.prog.follows .mixedOrders = true := by kernel_rfl
/-! recordlink/recordlinklaw33.QualityMeets -/
noncomputable def rl_law33_QualityMeets_k3 (x35 : Bool) : Option Bool := some x35
noncomputable def rl_law33_QualityMeets_k4 (x43 : Bool) : Option Bool := some x43
noncomputable def rl_law33_QualityMeets_k2 (p1 : Int) (y10 : List S_api_Candidate) (y16 : S_api_Estimate) (x28 : Bool) (x29 : Bool) : Option Bool := if x29 = true then (some false) else (bind2 (quality_Precision y16) fun y31 y32 => (if ((y10.length : Int) == 0) = true then (if (y32 == 9) = true then (rl_law33_QualityMeets_k3 x28) else (rl_law33_QualityMeets_k3 false)) else (bind2 (rl_ref11_Of ((i64.wrap p1).tmod 1001) 1000) fun y37 y38 => (bind2 (rl_ref11_Compare y31 y37) fun y40 y41 => (if (y32 == 0) = true then (if (y38 == 0) = true then (if (y41 == 0) = true then (rl_law33_QualityMeets_k4 (x28 == (decide (y40 ≥ 0)))) else (rl_law33_QualityMeets_k4 false)) else (rl_law33_QualityMeets_k4 false)) else (rl_law33_QualityMeets_k4 false))))))
noncomputable def rl_law33_QualityMeets_k1 (p0 : List Int) (p1 : Int) (x1 : Bool) : Option Bool := if x1 = true then ((rl_law33_awake).bind fun y3 => (some y3)) else ((rl_make_New p0).bind fun y5 => (bind2 (rl_make_Deck_Next y5 3) fun y7 y8 => (bind2 (rl_play_Candidates y8 (i64.wrap (1 + y7))) fun y10 y11 => (bind2 (rl_make_Deck_Model y11 (i64.wrap (1 + y7))) fun y13 y14 => (bind2 (quality_Of y13 y10 ([] : List S_api_Candidate)) fun y16 y17 => (bind2 (quality_Meets y16 ((i64.wrap p1).tmod 1001) 0) fun y19 y20 => (bind2 (rl_make_Deck_Next y14 (i64.wrap (((i64.wrap p1).tmod 1001) + 1))) fun y22 y23 => (bind2 (quality_Meets y16 y22 0) fun y25 y26 => (if (y17 != 0) = true then (rl_law33_QualityMeets_k2 p1 y10 y16 y19 true) else (if (y20 != 0) = true then (rl_law33_QualityMeets_k2 p1 y10 y16 y19 true) else (if (y26 != 0) = true then (rl_law33_QualityMeets_k2 p1 y10 y16 y19 true) else (if y19 = true then (rl_law33_QualityMeets_k2 p1 y10 y16 true (!y25)) else (rl_law33_QualityMeets_k2 p1 y10 y16 false false)))))))))))))
noncomputable def rl_law33_QualityMeets (p0 : List Int) (p1 : Int) : Option Bool := (rl_law33_awake).bind fun y51 => (if (!y51) = true then (rl_law33_QualityMeets_k1 p0 p1 true) else ((rl_make_Few p0).bind fun y54 => (rl_law33_QualityMeets_k1 p0 p1 (!y54))))
set_option maxRecDepth 100000 in
theorem rl_law33_QualityMeets_con (p0 : List Int) (p1 : Int) (r : Bool) (h : rl_law33_QualityMeets p0 p1 = some r) : Con Try.prog 3 [vl 1 Ri64 p0, vu16 p1] [] (vb r) [] := by
 refine con_of tt_okL3 0 Try.func3 (by kernel_rfl) rfl (by kernel_rfl) (fun base X _ => AW.post ?_)
 unfold rl_law33_QualityMeets at h
 refine AW.sg tt_okL3 [] [] [] 1 [] (by kernel_rfl) ?_
 refine AW.seq (AW.seq ?_)
 refine AW.join (ι := Bool) (fun v => ⟨[(0, vl 1 Ri64 p0), (1, vu16 p1), (28, vb v)], [], 0⟩) (fun v : Bool => rl_law33_QualityMeets_k1 p0 p1 v = some r) (fun x1 h => ?_) ?_
 ·
  unfold rl_law33_QualityMeets_k1 at h
  refine AW.tn ?_
  refine AW.co h (by kernel_rfl) (fun c2 h => ?_) (fun c2 h => ?_)
  ·
   obtain ⟨y3, e4, h⟩ := bnd_some h
   refine AW.sg tt_okL3 [(4, vb y3)] [] [] 1 [hk (rl_law33_awake_con y3 e4)] (by kernel_rfl) ?_
   refine AW.ret (AW.tr ?_)
   obtain rfl := some_inj h
   exact fn0 (.inr rfl) [] 0 (vb y3) (by kernel_rfl)
  ·
   refine AW.skip (AW.tn ?_)
   obtain ⟨y5, e6, h⟩ := bnd_some h
   refine AW.sg tt_okL3 [(5, .c (.ptr 1 3 0 0))] [1] [(1, .box 72 [cl 1 Ri64 y5.list, ci64 y5.at_, cu64 y5.state])] 3 [hn, hl [] [] 1 (rl_make_New_con p0 y5 e6)] (by kernel_rfl) ?_
   obtain ⟨y7, y8, e9, h⟩ := bind2_some h
   refine AW.sg tt_okL3 [(6, vi64 (i64.wrap (1 + y7)))] [1] [(1, .box 72 [cl 1 Ri64 y8.list, ci64 y8.at_, cu64 y8.state])] 6 [hn, hl [1] [] 0 (rl_make_Deck_Next_con y5 3 (y7, y8) e9)] (by kernel_rfl) ?_
   obtain ⟨y10, y11, e12, h⟩ := bind2_some h
   obtain ⟨y13, y14, e15, h⟩ := bind2_some h
   refine AW.sg tt_okL3 [(7, .c (.ref 8 6 0 y10.length)), (8, .c (.ptr 13 3 0 0))] [1, 8, 11, 12, 13] [(13, .box 32 [ci64 y13.Prior, .ref 11 1 0 y13.Match.length, .ref 12 1 0 y13.Random.length]), (1, .box 72 [cl 1 Ri64 y14.list, ci64 y14.at_, cu64 y14.state]), (11, .row 3 false 1 y13.Match.length (Ri64 y13.Match)), (12, .row 3 false 1 y13.Random.length (Ri64 y13.Random)), (8, .row 54 false 6 y10.length (RS_api_Candidate y10))] 16 [hn, hn, hl [1] [] 1 (rl_play_Candidates_con y8 (i64.wrap (1 + y7)) (y10, y11) e12), hn, hn, hl [1] [] 2 (rl_make_Deck_Model_con y11 (i64.wrap (1 + y7)) (y13, y14) e15)] (by kernel_rfl) ?_
   obtain ⟨y16, y17, e18, h⟩ := bind2_some h
   refine AW.sg tt_okL3 [(10, vi64 y17), (9, .c (.ptr 21 3 0 0))] [21] [(21, .box 35 [ci64 y16.False, ci64 y16.Missed, ci64 y16.True])] 24 [hn, hn, hg [] [] true 0 (q := ((True) ∧ (0 + y13.Match.length ≤ y13.Match.length) ∧ (0 + y13.Random.length ≤ y13.Random.length) ∧ (True)) ∧ (0 + y10.length ≤ y10.length) ∧ (True) ∧ (True)) ⟨⟨tv, le0, le0, tv⟩, le0, tv, tv⟩ (a0 := [.agg [ci64 y13.Prior, cl 1 Ri64 y13.Match, cl 1 Ri64 y13.Random], vl 6 RS_api_Candidate y10, .c (.t (.v (.slice none 0 0)))]) (quality_Of_con y13 y10 ([] : List S_api_Candidate) (y16, y17) e18) ⟨ArgLe.refl _, ArgLe.refl _, ArgLe.c (CAle.nil rfl), tv⟩ (fun _ => tv)] (by kernel_rfl) ?_
   refine AW.sg tt_okL3 [(11, vi64 ((i64.wrap p1).tmod 1001))] [] [] 28 [hn, hn, ho (p := (1001 : Int) ≠ 0) (by decide)] (by kernel_rfl) ?_
   obtain ⟨y19, y20, e21, h⟩ := bind2_some h
   refine AW.sg tt_okL3 [(13, vi64 y20), (12, vb y19)] [] [] 35 [hn, hn, hk (quality_Meets_con y16 ((i64.wrap p1).tmod 1001) 0 (y19, y20) e21)] (by kernel_rfl) ?_
   obtain ⟨y22, y23, e24, h⟩ := bind2_some h
   obtain ⟨y25, y26, e27, h⟩ := bind2_some h
   refine AW.sd tt_okL3 moL3 [[], [], [], [], [1]] [(15, vi64 y26), (14, vb y25)] [] 44 [hn, hn, hn, hn, hl [1] [] 0 (rl_make_Deck_Next_con y14 (i64.wrap (((i64.wrap p1).tmod 1001) + 1)) (y22, y23) e24), hk (quality_Meets_con y16 y22 0 (y25, y26) e27)] (by kernel_rfl) ?_
   refine AW.seq (AW.seq ?_)
   refine AW.join (ι := Bool × Bool) (fun v => ⟨[(7, .c (.ref 0 6 0 y10.length)), (9, .c (.ptr 1 3 0 0)), (11, vi64 ((i64.wrap p1).tmod 1001)), (12, vb v.1), (81, vb v.2)], [(0, .row 54 false 6 y10.length (RS_api_Candidate y10)), (1, .box 35 [ci64 y16.False, ci64 y16.Missed, ci64 y16.True])], 2⟩) (fun v : Bool × Bool => rl_law33_QualityMeets_k2 p1 y10 y16 v.1 v.2 = some r) (fun v h => ?_) ?_
   ·
    obtain ⟨x28, x29⟩ := v
    replace h : rl_law33_QualityMeets_k2 p1 y10 y16 x28 x29 = some r := h
    unfold rl_law33_QualityMeets_k2 at h
    refine AW.tn ?_
    refine AW.co h (by kernel_rfl) (fun c30 h => ?_) (fun c30 h => ?_)
    ·
     refine AW.sg tt_okL3 [(4, vb false)] [] [] 3 [] (by kernel_rfl) ?_
     refine AW.ret (AW.tr ?_)
     obtain rfl := some_inj h
     exact fn0 (.inr rfl) [] 0 (vb false) (by kernel_rfl)
    ·
     refine AW.skip (AW.tn ?_)
     obtain ⟨y31, y32, e33, h⟩ := bind2_some h
     refine AW.sg tt_okL3 [(17, vi64 y32), (16, .c (.ptr 6 2 0 0))] [6] [(6, .box 44 [cl 1 Ru32 y31.Num, cl 1 Ru32 y31.Den])] 9 [hn, hk (quality_Precision_con y16 (y31, y32) e33)] (by kernel_rfl) ?_
     refine AW.seq ?_
     refine AW.sg tt_okL3 [(89, vb ((y10.length : Int) == 0))] [] [] 12 [] (by kernel_rfl) ?_
     refine AW.co h (by kernel_rfl) (fun c34 h => ?_) (fun c34 h => ?_)
     ·
      refine AW.seq ?_
      refine AW.join (ι := Bool) (fun v => ⟨[(4, vb v)], [], 0⟩) (fun v : Bool => rl_law33_QualityMeets_k3 v = some r) (fun x35 h => ?_) ?_
      ·
       unfold rl_law33_QualityMeets_k3 at h
       refine AW.tn (AW.ret (AW.tr ?_))
       obtain rfl := some_inj h
       exact fn0 (.inr rfl) [] 0 (vb x35) (by kernel_rfl)
      ·
       rcases ifs h with ⟨c36, h⟩ | ⟨c36, h⟩
       ·
        refine AW.rg tt_okL3 [(4, vb x28)] [] [] 18 [hn, ht c36] (by kernel_rfl) ?_
        exact jl x28 h (conv_re [] (by kernel_rfl))
       ·
        refine AW.rg tt_okL3 [(4, vb false)] [] [] 18 [hn, hf c36] (by kernel_rfl) ?_
        exact jl false h (conv_re [] (by kernel_rfl))
     ·
      refine AW.skip (AW.tn ?_)
      obtain ⟨y37, y38, e39, h⟩ := bind2_some h
      refine AW.sg tt_okL3 [(19, vi64 y38), (18, .c (.ptr 16 2 0 0))] [16] [(16, .box 44 [cl 1 Ru32 y37.Num, cl 1 Ru32 y37.Den])] 19 [hn, hk (rl_ref11_Of_con ((i64.wrap p1).tmod 1001) 1000 (y37, y38) e39)] (by kernel_rfl) ?_
      obtain ⟨y40, y41, e42, h⟩ := bind2_some h
      refine AW.sg tt_okL3 [(21, vi64 y41), (20, vi64 y40)] [] [] 26 [hn, hn, hk (rl_ref11_Compare_con y31 y37 (y40, y41) e42)] (by kernel_rfl) ?_
      refine AW.seq ?_
      refine AW.join (ι := Bool) (fun v => ⟨[(4, vb v)], [], 0⟩) (fun v : Bool => rl_law33_QualityMeets_k4 v = some r) (fun x43 h => ?_) ?_
      ·
       unfold rl_law33_QualityMeets_k4 at h
       refine AW.tn (AW.ret ?_)
       obtain rfl := some_inj h
       exact fn0 (.inr rfl) [] 0 (vb x43) (by kernel_rfl)
      ·
       rcases ifs h with ⟨c44, h⟩ | ⟨c44, h⟩
       ·
        rcases ifs h with ⟨c45, h⟩ | ⟨c45, h⟩
        ·
         rcases ifs h with ⟨c46, h⟩ | ⟨c46, h⟩
         ·
          refine AW.rg tt_okL3 [(4, vb (x28 == (decide (y40 ≥ 0))))] [] [] 43 [hn, ht c44, hn, hn, ht c45, hn, hn, hn, ht c46] (by kernel_rfl) ?_
          exact jl (x28 == (decide (y40 ≥ 0))) h (conv_re [] (by kernel_rfl))
         ·
          refine AW.rg tt_okL3 [(4, vb false)] [] [] 43 [hn, ht c44, hn, hn, ht c45, hn, hn, hn, hf c46] (by kernel_rfl) ?_
          exact jl false h (conv_re [] (by kernel_rfl))
        ·
         refine AW.rg tt_okL3 [(4, vb false)] [] [] 43 [hn, ht c44, hn, hn, hf c45] (by kernel_rfl) ?_
         exact jl false h (conv_re [] (by kernel_rfl))
       ·
        refine AW.rg tt_okL3 [(4, vb false)] [] [] 43 [hn, hf c44] (by kernel_rfl) ?_
        exact jl false h (conv_re [] (by kernel_rfl))
   ·
    rcases ifs h with ⟨c47, h⟩ | ⟨c47, h⟩
    ·
     refine AW.rg tt_okL3 [(81, vb true)] [] [] 61 [hn, ht c47] (by kernel_rfl) ?_
     exact jl (y19, true) h (conv_re [(0, 8), (1, 21)] (by kernel_rfl))
    ·
     rcases ifs h with ⟨c48, h⟩ | ⟨c48, h⟩
     ·
      refine AW.rg tt_okL3 [(81, vb true)] [] [] 61 [hn, hf c47, hn, hn, ht c48] (by kernel_rfl) ?_
      exact jl (y19, true) h (conv_re [(0, 8), (1, 21)] (by kernel_rfl))
     ·
      rcases ifs h with ⟨c49, h⟩ | ⟨c49, h⟩
      ·
       refine AW.rg tt_okL3 [(81, vb true)] [] [] 61 [hn, hf c47, hn, hn, hf c48, hn, hn, hn, ht c49] (by kernel_rfl) ?_
       exact jl (y19, true) h (conv_re [(0, 8), (1, 21)] (by kernel_rfl))
      ·
       rcases ifs h with ⟨c50, hs⟩ | ⟨c50, hs⟩
       ·clear h; subst c50; have h := hs; clear hs
        refine AW.rg tt_okL3 [(81, vb (!y25))] [] [] 61 [hn, hf c47, hn, hn, hf c48, hn, hn, hn, hf c49] (by kernel_rfl) ?_
        exact jl (true, !y25) h (conv_re [(0, 8), (1, 21)] (by kernel_rfl))
       ·clear h; subst c50; have h := hs; clear hs
        refine AW.rg tt_okL3 [(81, vb false)] [] [] 61 [hn, hf c47, hn, hn, hf c48, hn, hn, hn, hf c49] (by kernel_rfl) ?_
        exact jl (false, false) h (conv_re [(0, 8), (1, 21)] (by kernel_rfl))
 ·
  obtain ⟨y51, e52, h⟩ := bnd_some h
  rcases ifs h with ⟨c53, h⟩ | ⟨c53, h⟩
  ·
   refine AW.rg tt_okL3 [(28, vb true)] [] [] 7 [hk (rl_law33_awake_con y51 e52), ht c53] (by kernel_rfl) ?_
   exact jl true h (conv_re [] (by kernel_rfl))
  ·
   obtain ⟨y54, e55, h⟩ := bnd_some h
   refine AW.rg tt_okL3 [(28, vb (!y54))] [] [] 6 [hk (rl_law33_awake_con y51 e52), hf c53, hn, hn, hk (rl_make_Few_con p0 y54 e55)] (by kernel_rfl) ?_
   exact jl (!y54) h (conv_re [] (by kernel_rfl))
end Go.Proofs.Ytilpgjoidgfbiaa
