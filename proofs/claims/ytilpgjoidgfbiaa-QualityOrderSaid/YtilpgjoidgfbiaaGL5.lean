/- Printed by a program of mine (vmgen.py): Go functions, and what they come to. -/
import Derived.Test.YtilpgjoidgfbiaaVr
import Derived.Test.YtilpgjoidgfbiaaRows
import Derived.Test.YtilpgjoidgfbiaaG2
namespace Go.Proofs.Ytilpgjoidgfbiaa
open Vm
open IntKind (i64 u64 u32 u8)
set_option maxHeartbeats 10000000
set_option linter.unusedVariables false
set_option linter.unusedSimpArgs false
set_option linter.constructorNameAsVariable false
def ttlL5 : List (Nat × TI) := [(3, ⟨.int .i64, 1, 8, [.int .i64 0], false⟩), (4, ⟨.bool, 1, 1, [.bool false], false⟩), (5, ⟨.int .u8, 1, 1, [.int .u8 0], false⟩), (9, ⟨.str, 1, 16, [.string ⟨#[]⟩], false⟩), (22, ⟨.slice 3, 1, 24, [.slice none 0 0], false⟩), (23, ⟨.int .u16, 1, 2, [.int .u16 0], false⟩), (26, ⟨.ptr 72, 1, 8, [.pointer none], false⟩), (29, ⟨.slice 54, 1, 24, [.slice none 0 0], false⟩), (32, ⟨.struct [(3, 0), (22, 1), (22, 2)], 3, 56, [.int .i64 0, .slice none 0 0, .slice none 0 0], false⟩), (35, ⟨.struct [(3, 0), (3, 1), (3, 2)], 3, 24, [.int .i64 0, .int .i64 0, .int .i64 0], true⟩), (36, ⟨.int .i64, 1, 8, [.int .i64 0], false⟩), (42, ⟨.slice 69, 1, 24, [.slice none 0 0], false⟩), (44, ⟨.struct [(42, 0), (42, 1)], 2, 48, [.slice none 0 0, .slice none 0 0], false⟩), (52, ⟨.struct [(3, 0), (3, 1)], 2, 16, [.int .i64 0, .int .i64 0], true⟩), (54, ⟨.struct [(52, 0), (52, 2), (3, 4), (3, 5)], 6, 48, [.int .i64 0, .int .i64 0, .int .i64 0, .int .i64 0, .int .i64 0, .int .i64 0], true⟩), (69, ⟨.int .u32, 1, 4, [.int .u32 0], false⟩), (70, ⟨.int .u64, 1, 8, [.int .u64 0], false⟩), (72, ⟨.struct [(22, 0), (3, 1), (70, 2)], 3, 40, [.slice none 0 0, .int .i64 0, .int .u64 0], false⟩), (75, ⟨.slice 78, 1, 24, [.slice none 0 0], false⟩), (78, ⟨.struct [(52, 0), (52, 2), (3, 4)], 5, 40, [.int .i64 0, .int .i64 0, .int .i64 0, .int .i64 0, .int .i64 0], true⟩), (115, ⟨.arr 6 3, 6, 48, [.int .i64 0, .int .i64 0, .int .i64 0, .int .i64 0, .int .i64 0, .int .i64 0], true⟩), (121, ⟨.struct [(42, 0), (36, 1)], 2, 32, [.slice none 0 0, .int .i64 0], false⟩), (132, ⟨.slice 121, 1, 24, [.slice none 0 0], false⟩)]
theorem tt_okL5 : TTok Try.prog (Vm.look ttlL5) := ttok_of ⟨⟨by kernel_rfl, by kernel_rfl, by kernel_rfl⟩, ⟨by kernel_rfl, by kernel_rfl, by kernel_rfl⟩, ⟨by kernel_rfl, by kernel_rfl, by kernel_rfl⟩, ⟨by kernel_rfl, by kernel_rfl, by kernel_rfl⟩, ⟨by kernel_rfl, by kernel_rfl, by kernel_rfl⟩, ⟨by kernel_rfl, by kernel_rfl, by kernel_rfl⟩, ⟨by kernel_rfl, by kernel_rfl, by kernel_rfl⟩, ⟨by kernel_rfl, by kernel_rfl, by kernel_rfl⟩, ⟨by kernel_rfl, by kernel_rfl, by kernel_rfl⟩, ⟨by kernel_rfl, by kernel_rfl, by kernel_rfl⟩, ⟨by kernel_rfl, by kernel_rfl, by kernel_rfl⟩, ⟨by kernel_rfl, by kernel_rfl, by kernel_rfl⟩, ⟨by kernel_rfl, by kernel_rfl, by kernel_rfl⟩, ⟨by kernel_rfl, by kernel_rfl, by kernel_rfl⟩, ⟨by kernel_rfl, by kernel_rfl, by kernel_rfl⟩, ⟨by kernel_rfl, by kernel_rfl, by kernel_rfl⟩, ⟨by kernel_rfl, by kernel_rfl, by kernel_rfl⟩, ⟨by kernel_rfl, by kernel_rfl, by kernel_rfl⟩, ⟨by kernel_rfl, by kernel_rfl, by kernel_rfl⟩, ⟨by kernel_rfl, by kernel_rfl, by kernel_rfl⟩, ⟨by kernel_rfl, by kernel_rfl, by kernel_rfl⟩, ⟨by kernel_rfl, by kernel_rfl, by kernel_rfl⟩, ⟨by kernel_rfl, by kernel_rfl, by kernel_rfl⟩, trivial⟩
theorem moL5 : Try.prog.follows .mixedOrders = true := by kernel_rfl
/-! recordlink/recordlinklaw33.QualityOrder -/
noncomputable def rl_law33_QualityOrder_l2 (y13 : List S_api_Candidate) (x21 : List S_api_Candidate) (x22 : Int) (x23 : List Int) (x24 : Int) (x25 : Int) : Option (((List S_api_Candidate) × Int × (List Int) × Int × Int) ⊕ (List S_api_Candidate)) := if (decide (x22 ≥ 0)) = true then (if 0 ≤ x22 then (if x22 < (y13.length : Int) then (bind2 (rl_make_Deck_Next (⟨x23, x24, x25⟩ : S_recordlinkmake_Deck) 50) fun y30 y31 => (if x21.length + ([(⟨(⟨0, 0⟩ : S_api_Ref), (⟨0, 0⟩ : S_api_Ref), (y13.getD (0 + x22.toNat) dS_api_Candidate).Pattern, y30⟩ : S_api_Candidate)] : List S_api_Candidate).length ≤ 1099511627776 then (some (.inl ((x21 ++ ([(⟨(⟨0, 0⟩ : S_api_Ref), (⟨0, 0⟩ : S_api_Ref), (y13.getD (0 + x22.toNat) dS_api_Candidate).Pattern, y30⟩ : S_api_Candidate)] : List S_api_Candidate)), i64.wrap (x22 - 1), y31.list, y31.at_, y31.state))) else none)) else none) else none) else (some (.inr x21))
noncomputable def rl_law33_QualityOrder_k3 (x41 : Bool) : Option Bool := some x41
noncomputable def rl_law33_QualityOrder_k1 (p0 : List Int) (x1 : Bool) : Option Bool := if x1 = true then ((rl_law33_awake).bind fun y3 => (some y3)) else ((rl_make_New p0).bind fun y5 => (bind2 (rl_make_Deck_Next y5 3) fun y7 y8 => (bind2 (rl_make_Deck_Model y8 (i64.wrap (1 + y7))) fun y10 y11 => (bind2 (rl_play_Candidates y11 (i64.wrap (1 + y7))) fun y13 y14 => ((loop (fun v : (List S_api_Candidate) × Int × (List Int) × Int × Int => rl_law33_QualityOrder_l2 y13 v.1 v.2.1 v.2.2.1 v.2.2.2.1 v.2.2.2.2) (([] : List S_api_Candidate), i64.wrap ((y13.length : Int) - 1), y14.list, y14.at_, y14.state)).bind fun x34 => (bind2 (quality_Of y10 y13 x34) fun y35 y36 => (bind2 (quality_Of y10 x34 y13) fun y38 y39 => (if (y36 == 0) = true then (if (y39 == 0) = true then (if ((y35.False == y38.False) && ((y35.Missed == y38.Missed) && ((y35.True == y38.True) && true))) = true then (rl_law33_QualityOrder_k3 (y35.Missed == y35.True)) else (rl_law33_QualityOrder_k3 false)) else (rl_law33_QualityOrder_k3 false)) else (rl_law33_QualityOrder_k3 false)))))))))
noncomputable def rl_law33_QualityOrder (p0 : List Int) : Option Bool := (rl_law33_awake).bind fun y46 => (if (!y46) = true then (rl_law33_QualityOrder_k1 p0 true) else ((rl_make_Few p0).bind fun y49 => (rl_law33_QualityOrder_k1 p0 (!y49))))
set_option maxRecDepth 100000 in
theorem rl_law33_QualityOrder_con (p0 : List Int) (r : Bool) (h : rl_law33_QualityOrder p0 = some r) : Con Try.prog 5 [vl 1 Ri64 p0] [] (vb r) [] := by
 refine con_of tt_okL5 0 Try.func5 (by kernel_rfl) rfl (by kernel_rfl) (fun base X _ => AW.post ?_)
 unfold rl_law33_QualityOrder at h
 refine AW.sg tt_okL5 [] [] [] 1 [] (by kernel_rfl) ?_
 refine AW.seq (AW.seq ?_)
 refine AW.join (ι := Bool) (fun v => ⟨[(0, vl 1 Ri64 p0), (19, vb v)], [], 0⟩) (fun v : Bool => rl_law33_QualityOrder_k1 p0 v = some r) (fun x1 h => ?_) ?_
 ·
  unfold rl_law33_QualityOrder_k1 at h
  refine AW.tn ?_
  refine AW.co h (by kernel_rfl) (fun c2 h => ?_) (fun c2 h => ?_)
  ·
   obtain ⟨y3, e4, h⟩ := bnd_some h
   refine AW.sg tt_okL5 [(2, vb y3)] [] [] 1 [hk (rl_law33_awake_con y3 e4)] (by kernel_rfl) ?_
   refine AW.ret (AW.tr ?_)
   obtain rfl := some_inj h
   exact fn0 (.inr rfl) [] 0 (vb y3) (by kernel_rfl)
  ·
   refine AW.skip (AW.tn ?_)
   obtain ⟨y5, e6, h⟩ := bnd_some h
   refine AW.sg tt_okL5 [(3, .c (.ptr 1 3 0 0))] [1] [(1, .box 72 [cl 1 Ri64 y5.list, ci64 y5.at_, cu64 y5.state])] 3 [hn, hl [] [] 1 (rl_make_New_con p0 y5 e6)] (by kernel_rfl) ?_
   obtain ⟨y7, y8, e9, h⟩ := bind2_some h
   refine AW.sg tt_okL5 [(4, vi64 (i64.wrap (1 + y7)))] [1] [(1, .box 72 [cl 1 Ri64 y8.list, ci64 y8.at_, cu64 y8.state])] 6 [hn, hl [1] [] 0 (rl_make_Deck_Next_con y5 3 (y7, y8) e9)] (by kernel_rfl) ?_
   obtain ⟨y10, y11, e12, h⟩ := bind2_some h
   obtain ⟨y13, y14, e15, h⟩ := bind2_some h
   refine AW.sg tt_okL5 [(6, .c (.ref 12 6 0 y13.length)), (5, .c (.ptr 13 3 0 0))] [1, 8, 9, 12, 13] [(13, .box 32 [ci64 y10.Prior, .ref 8 1 0 y10.Match.length, .ref 9 1 0 y10.Random.length]), (1, .box 72 [cl 1 Ri64 y14.list, ci64 y14.at_, cu64 y14.state]), (12, .row 54 false 6 y13.length (RS_api_Candidate y13)), (8, .row 3 false 1 y10.Match.length (Ri64 y10.Match)), (9, .row 3 false 1 y10.Random.length (Ri64 y10.Random))] 16 [hn, hn, hl [1] [] 2 (rl_make_Deck_Model_con y8 (i64.wrap (1 + y7)) (y10, y11) e12), hn, hn, hl [1] [] 1 (rl_play_Candidates_con y11 (i64.wrap (1 + y7)) (y13, y14) e15)] (by kernel_rfl) ?_
   refine AW.sg tt_okL5 [(7, .c (.t (.v (.slice none 0 0))))] [] [] 17 [] (by kernel_rfl) ?_
   refine AW.seq ?_
   refine AW.sg tt_okL5 [(8, vi64 (i64.wrap ((y13.length : Int) - 1)))] [] [] 21 [] (by kernel_rfl) ?_
   refine AW.block ?_
   obtain ⟨x34, l45, h⟩ := bnd_some h
   refine AW.lp l45 (fun v => ⟨[(3, .c (.ptr 0 3 0 0)), (5, .c (.ptr 1 3 0 0)), (6, .c (.ref 2 6 0 y13.length)), (7, .c (.ref 3 6 0 v.1.length)), (8, vi64 v.2.1)], [(0, .box 72 [cl 1 Ri64 v.2.2.1, ci64 v.2.2.2.1, cu64 v.2.2.2.2]), (1, .box 32 [ci64 y10.Prior, .ref 4 1 0 y10.Match.length, .ref 5 1 0 y10.Random.length]), (2, .row 54 false 6 y13.length (RS_api_Candidate y13)), (3, .row 54 false 6 v.1.length (RS_api_Candidate v.1)), (4, .row 3 false 1 y10.Match.length (Ri64 y10.Match)), (5, .row 3 false 1 y10.Random.length (Ri64 y10.Random))], 6⟩) (fun t : List S_api_Candidate => (.exit 0, ⟨[(5, .c (.ptr 0 3 0 0)), (6, .c (.ref 1 6 0 y13.length)), (7, .c (.ref 2 6 0 t.length))], [(0, .box 32 [ci64 y10.Prior, .ref 3 1 0 y10.Match.length, .ref 4 1 0 y10.Random.length]), (1, .row 54 false 6 y13.length (RS_api_Candidate y13)), (2, .row 54 false 6 t.length (RS_api_Candidate t)), (3, .row 3 false 1 y10.Match.length (Ri64 y10.Match)), (4, .row 3 false 1 y10.Random.length (Ri64 y10.Random))], 5⟩)) (Conv.trans (conv_adopt (t := 7) (ty := 54) (sz := 6) (n := ([] : List S_api_Candidate).length) (f := RS_api_Candidate ([] : List S_api_Candidate)) (by kernel_rfl) rfl) (conv_re [(0, 1), (1, 13), (2, 12), (3, 21), (4, 8), (5, 9)] (by kernel_rfl))) (fun _ => tv) ?_ ?_
   ·
    clear l45 h
    intro v o h
    obtain ⟨x21, x22, x23, x24, x25⟩ := v
    replace h : rl_law33_QualityOrder_l2 y13 x21 x22 x23 x24 x25 = some o := h
    unfold rl_law33_QualityOrder_l2 at h
    refine AW.seq ?_
    refine AW.sg tt_okL5 [(36, vb (decide (x22 ≥ 0)))] [] [] 8 [] (by kernel_rfl) ?_
    refine AW.co h (by kernel_rfl) (fun c27 h => ?_) (fun c27 h => ?_)
    ·
     refine AW.skip (AW.tn ?_)
     refine AW.seq (AW.block ?_)
     obtain ⟨g28, g29, h⟩ := ifd h
     obtain ⟨y30, y31, e32, h⟩ := bind2_some h
     obtain ⟨g33, h⟩ := ifc h
     refine AW.rd tt_okL5 moL5 [[], [], [], [], [], [], [], [0], [], [16], [17, 3]] [(7, .c (.ref 17 6 0 ((x21 ++ ([(⟨(⟨0, 0⟩ : S_api_Ref), (⟨0, 0⟩ : S_api_Ref), (y13.getD (0 + x22.toNat) dS_api_Candidate).Pattern, y30⟩ : S_api_Candidate)] : List S_api_Candidate)).length)))] [(17, .row 54 false 6 (x21 ++ ([(⟨(⟨0, 0⟩ : S_api_Ref), (⟨0, 0⟩ : S_api_Ref), (y13.getD (0 + x22.toNat) dS_api_Candidate).Pattern, y30⟩ : S_api_Candidate)] : List S_api_Candidate)).length (RS_api_Candidate (x21 ++ ([(⟨(⟨0, 0⟩ : S_api_Ref), (⟨0, 0⟩ : S_api_Ref), (y13.getD (0 + x22.toNat) dS_api_Candidate).Pattern, y30⟩ : S_api_Candidate)] : List S_api_Candidate)))), (0, .box 72 [cl 1 Ri64 y31.list, ci64 y31.at_, cu64 y31.state])] 19 [hn, hn, hn, hq g28 g29, hn, ho (p := (0 + x22.toNat) < y13.length) (by have h1 : 0 ≤ x22 := g28; have h2 : x22 < (y13.length : Int) := g29; omega), hn, hl [0] [] 0 (rl_make_Deck_Next_con (⟨x23, x24, x25⟩ : S_recordlinkmake_Deck) 50 (y30, y31) e32), hn, hlit dS_api_Candidate ES_api_Candidate 6 (fun _ => rfl) ([(⟨(⟨0, 0⟩ : S_api_Ref), (⟨0, 0⟩ : S_api_Ref), (y13.getD (0 + x22.toNat) dS_api_Candidate).Pattern, y30⟩ : S_api_Candidate)] : List S_api_Candidate), happ dS_api_Candidate ES_api_Candidate 6 48 x21 ([(⟨(⟨0, 0⟩ : S_api_Ref), (⟨0, 0⟩ : S_api_Ref), (y13.getD (0 + x22.toNat) dS_api_Candidate).Pattern, y30⟩ : S_api_Candidate)] : List S_api_Candidate) g33 (by decide)] (by kernel_rfl) ?_
     refine AW.inBlock_normal (AW.tn ?_)
     refine AW.rg tt_okL5 [(8, vi64 (i64.wrap (x22 - 1)))] [] [] 22 [] (by kernel_rfl) ?_
     exact lpn h (conv_re [(0, 0), (1, 1), (2, 2), (3, 17), (4, 4), (5, 5)] (by kernel_rfl))
    ·
     refine AW.exit (AW.thenQ_exit ?_)
     exact lpo h rfl (conv_re [(0, 1), (1, 2), (2, 3), (3, 4), (4, 5)] (by kernel_rfl))
   ·
    show (_ : Exit → St → Prop) (.exit 0) _
    refine AW.inBlock_hit (AW.tn ?_)
    obtain ⟨y35, y36, e37, h⟩ := bind2_some h
    refine AW.sg tt_okL5 [(10, vi64 y36), (9, .c (.ptr 11 3 0 0))] [11] [(11, .box 35 [ci64 y35.False, ci64 y35.Missed, ci64 y35.True])] 14 [hn, hn, hn, hg [] [] true 0 (q := ((True) ∧ (0 + y10.Match.length ≤ y10.Match.length) ∧ (0 + y10.Random.length ≤ y10.Random.length) ∧ (True)) ∧ (0 + y13.length ≤ y13.length) ∧ (0 + x34.length ≤ x34.length) ∧ (True)) ⟨⟨tv, le0, le0, tv⟩, le0, le0, tv⟩ (a0 := [.agg [ci64 y10.Prior, cl 1 Ri64 y10.Match, cl 1 Ri64 y10.Random], vl 6 RS_api_Candidate y13, vl 6 RS_api_Candidate x34]) (quality_Of_con y10 y13 x34 (y35, y36) e37) ⟨ArgLe.refl _, ArgLe.refl _, ArgLe.refl _, tv⟩ (fun _ => tv)] (by kernel_rfl) ?_
    obtain ⟨y38, y39, e40, h⟩ := bind2_some h
    refine AW.sg tt_okL5 [(12, vi64 y39), (11, .c (.ptr 20 3 0 0))] [20] [(20, .box 35 [ci64 y38.False, ci64 y38.Missed, ci64 y38.True])] 23 [hn, hn, hn, hg [] [] true 0 (q := ((True) ∧ (0 + y10.Match.length ≤ y10.Match.length) ∧ (0 + y10.Random.length ≤ y10.Random.length) ∧ (True)) ∧ (0 + x34.length ≤ x34.length) ∧ (0 + y13.length ≤ y13.length) ∧ (True)) ⟨⟨tv, le0, le0, tv⟩, le0, le0, tv⟩ (a0 := [.agg [ci64 y10.Prior, cl 1 Ri64 y10.Match, cl 1 Ri64 y10.Random], vl 6 RS_api_Candidate x34, vl 6 RS_api_Candidate y13]) (quality_Of_con y10 x34 y13 (y38, y39) e40) ⟨ArgLe.refl _, ArgLe.refl _, ArgLe.refl _, tv⟩ (fun _ => tv)] (by kernel_rfl) ?_
    refine AW.seq ?_
    refine AW.join (ι := Bool) (fun v => ⟨[(2, vb v)], [], 0⟩) (fun v : Bool => rl_law33_QualityOrder_k3 v = some r) (fun x41 h => ?_) ?_
    ·
     unfold rl_law33_QualityOrder_k3 at h
     refine AW.tn (AW.ret ?_)
     obtain rfl := some_inj h
     exact fn0 (.inr rfl) [] 0 (vb x41) (by kernel_rfl)
    ·
     rcases ifs h with ⟨c42, h⟩ | ⟨c42, h⟩
     ·
      rcases ifs h with ⟨c43, h⟩ | ⟨c43, h⟩
      ·
       rcases ifs h with ⟨c44, h⟩ | ⟨c44, h⟩
       ·
        refine AW.rg tt_okL5 [(2, vb (y35.Missed == y35.True))] [] [] 42 [hn, ht c42, hn, hn, ht c43, hn, hn, hn, hn, ht c44] (by kernel_rfl) ?_
        exact jl (y35.Missed == y35.True) h (conv_re [] (by kernel_rfl))
       ·
        refine AW.rg tt_okL5 [(2, vb false)] [] [] 42 [hn, ht c42, hn, hn, ht c43, hn, hn, hn, hn, hf c44] (by kernel_rfl) ?_
        exact jl false h (conv_re [] (by kernel_rfl))
      ·
       refine AW.rg tt_okL5 [(2, vb false)] [] [] 42 [hn, ht c42, hn, hn, hf c43] (by kernel_rfl) ?_
       exact jl false h (conv_re [] (by kernel_rfl))
     ·
      refine AW.rg tt_okL5 [(2, vb false)] [] [] 42 [hn, hf c42] (by kernel_rfl) ?_
      exact jl false h (conv_re [] (by kernel_rfl))
 ·
  obtain ⟨y46, e47, h⟩ := bnd_some h
  rcases ifs h with ⟨c48, h⟩ | ⟨c48, h⟩
  ·
   refine AW.rg tt_okL5 [(19, vb true)] [] [] 7 [hk (rl_law33_awake_con y46 e47), ht c48] (by kernel_rfl) ?_
   exact jl true h (conv_re [] (by kernel_rfl))
  ·
   obtain ⟨y49, e50, h⟩ := bnd_some h
   refine AW.rg tt_okL5 [(19, vb (!y49))] [] [] 6 [hk (rl_law33_awake_con y46 e47), hf c48, hn, hn, hk (rl_make_Few_con p0 y49 e50)] (by kernel_rfl) ?_
   exact jl (!y49) h (conv_re [] (by kernel_rfl))
end Go.Proofs.Ytilpgjoidgfbiaa
