/- Printed by a program of mine (vmgen.py): Go functions, and what they come to. -/
import Derived.Test.YtilpgjoidgfbiaaVr
import Derived.Test.YtilpgjoidgfbiaaRows
import Derived.Test.YtilpgjoidgfbiaaG2
namespace Go.Proofs.Ytilpgjoidgfbiaa
open Vm
open IntKind (i64 u64 u32 u8)
set_option maxHeartbeats 10000000
set_option linter.unusedVariables false
set_option linter.unusedSimpArgs false
set_option linter.constructorNameAsVariable false
def ttlL4 : List (Nat × TI) := [(3, ⟨.int .i64, 1, 8, [.int .i64 0], false⟩), (4, ⟨.bool, 1, 1, [.bool false], false⟩), (5, ⟨.int .u8, 1, 1, [.int .u8 0], false⟩), (9, ⟨.str, 1, 16, [.string ⟨#[]⟩], false⟩), (22, ⟨.slice 3, 1, 24, [.slice none 0 0], false⟩), (23, ⟨.int .u16, 1, 2, [.int .u16 0], false⟩), (26, ⟨.ptr 72, 1, 8, [.pointer none], false⟩), (29, ⟨.slice 54, 1, 24, [.slice none 0 0], false⟩), (32, ⟨.struct [(3, 0), (22, 1), (22, 2)], 3, 56, [.int .i64 0, .slice none 0 0, .slice none 0 0], false⟩), (35, ⟨.struct [(3, 0), (3, 1), (3, 2)], 3, 24, [.int .i64 0, .int .i64 0, .int .i64 0], true⟩), (36, ⟨.int .i64, 1, 8, [.int .i64 0], false⟩), (42, ⟨.slice 69, 1, 24, [.slice none 0 0], false⟩), (44, ⟨.struct [(42, 0), (42, 1)], 2, 48, [.slice none 0 0, .slice none 0 0], false⟩), (52, ⟨.struct [(3, 0), (3, 1)], 2, 16, [.int .i64 0, .int .i64 0], true⟩), (54, ⟨.struct [(52, 0), (52, 2), (3, 4), (3, 5)], 6, 48, [.int .i64 0, .int .i64 0, .int .i64 0, .int .i64 0, .int .i64 0, .int .i64 0], true⟩), (69, ⟨.int .u32, 1, 4, [.int .u32 0], false⟩), (70, ⟨.int .u64, 1, 8, [.int .u64 0], false⟩), (72, ⟨.struct [(22, 0), (3, 1), (70, 2)], 3, 40, [.slice none 0 0, .int .i64 0, .int .u64 0], false⟩), (75, ⟨.slice 78, 1, 24, [.slice none 0 0], false⟩), (78, ⟨.struct [(52, 0), (52, 2), (3, 4)], 5, 40, [.int .i64 0, .int .i64 0, .int .i64 0, .int .i64 0, .int .i64 0], true⟩), (115, ⟨.arr 6 3, 6, 48, [.int .i64 0, .int .i64 0, .int .i64 0, .int .i64 0, .int .i64 0, .int .i64 0], true⟩), (121, ⟨.struct [(42, 0), (36, 1)], 2, 32, [.slice none 0 0, .int .i64 0], false⟩), (132, ⟨.slice 121, 1, 24, [.slice none 0 0], false⟩)]
theorem tt_okL4 : TTok Try.prog (Vm.look ttlL4) := ttok_of ⟨⟨by kernel_rfl, by kernel_rfl, by kernel_rfl⟩, ⟨by kernel_rfl, by kernel_rfl, by kernel_rfl⟩, ⟨by kernel_rfl, by kernel_rfl, by kernel_rfl⟩, ⟨by kernel_rfl, by kernel_rfl, by kernel_rfl⟩, ⟨by kernel_rfl, by kernel_rfl, by kernel_rfl⟩, ⟨by kernel_rfl, by kernel_rfl, by kernel_rfl⟩, ⟨by kernel_rfl, by kernel_rfl, by kernel_rfl⟩, ⟨by kernel_rfl, by kernel_rfl, by kernel_rfl⟩, ⟨by kernel_rfl, by kernel_rfl, by kernel_rfl⟩, ⟨by kernel_rfl, by kernel_rfl, by kernel_rfl⟩, ⟨by kernel_rfl, by kernel_rfl, by kernel_rfl⟩, ⟨by kernel_rfl, by kernel_rfl, by kernel_rfl⟩, ⟨by kernel_rfl, by kernel_rfl, by kernel_rfl⟩, ⟨by kernel_rfl, by kernel_rfl, by kernel_rfl⟩, ⟨by kernel_rfl, by kernel_rfl, by kernel_rfl⟩, ⟨by kernel_rfl, by kernel_rfl, by kernel_rfl⟩, ⟨by kernel_rfl, by kernel_rfl, by kernel_rfl⟩, ⟨by kernel_rfl, by kernel_rfl, by kernel_rfl⟩, ⟨by kernel_rfl, by kernel_rfl, by kernel_rfl⟩, ⟨by kernel_rfl, by kernel_rfl, by kernel_rfl⟩, ⟨by kernel_rfl, by kernel_rfl, by kernel_rfl⟩, ⟨by kernel_rfl, by kernel_rfl, by kernel_rfl⟩, ⟨by kernel_rfl, by kernel_rfl, by kernel_rfl⟩, trivial⟩
theorem moL4 : Try.prog.follows .mixedOrders = true := by kernel_rfl
/-! recordlink/recordlinklaw33.QualityModel -/
noncomputable def rl_law33_QualityModel_l2 (y7 : Int) (x15 : Int) (x16 : Int) : Option ((Int × Int) ⊕ Int) := if (decide (x16 < (i64.wrap (1 + y7)))) = true then (some (.inl (i64.wrap ((i64.wrap (x15 * 3)) + 2), i64.wrap (x16 + 1)))) else (some (.inr x15))
noncomputable def rl_law33_QualityModel_k3 (x31 : Bool) : Option Bool := some x31
noncomputable def rl_law33_QualityModel_k1 (p0 : List Int) (p1 : Int) (x1 : Bool) : Option Bool := if x1 = true then ((rl_law33_awake).bind fun y3 => (some y3)) else ((rl_make_New p0).bind fun y5 => (bind2 (rl_make_Deck_Next y5 3) fun y7 y8 => (bind2 (rl_make_Deck_Model y8 (i64.wrap (1 + y7))) fun y10 y11 => ((loop (fun v : Int × Int => rl_law33_QualityModel_l2 y7 v.1 v.2) (0, 0)).bind fun x19 => (bind2 (quality_Of y10 ([(⟨(⟨0, 0⟩ : S_api_Ref), (⟨0, 0⟩ : S_api_Ref), x19, 0⟩ : S_api_Candidate)] : List S_api_Candidate) ([] : List S_api_Candidate)) fun y20 y21 => (bind2 (rl_make_Deck_Next y11 (i64.wrap (1 + y7))) fun y23 y24 => (if 0 ≤ y23 then (if y23 < ((y10.Match.length : Nat) : Int) then (bind2 (quality_Of (⟨y10.Prior, (y10.Match.set (0 + y23.toNat) (if (i64.wrap ((y10.Match.getD (0 + y23.toNat) 0) + (i64.wrap p1))) < 65535 then (i64.wrap ((y10.Match.getD (0 + y23.toNat) 0) + (i64.wrap p1))) else 65535)), y10.Random⟩ : S_em_model) ([(⟨(⟨0, 0⟩ : S_api_Ref), (⟨0, 0⟩ : S_api_Ref), x19, 0⟩ : S_api_Candidate)] : List S_api_Candidate) ([] : List S_api_Candidate)) fun y28 y29 => (if (y21 == 0) = true then (if (y29 == 0) = true then (if (decide (y28.False ≤ y20.False)) = true then (rl_law33_QualityModel_k3 (decide (y28.True ≥ y20.True))) else (rl_law33_QualityModel_k3 false)) else (rl_law33_QualityModel_k3 false)) else (rl_law33_QualityModel_k3 false))) else none) else none)))))))
noncomputable def rl_law33_QualityModel (p0 : List Int) (p1 : Int) : Option Bool := (rl_law33_awake).bind fun y36 => (if (!y36) = true then (rl_law33_QualityModel_k1 p0 p1 true) else ((rl_make_Few p0).bind fun y39 => (rl_law33_QualityModel_k1 p0 p1 (!y39))))
set_option maxRecDepth 100000 in
theorem rl_law33_QualityModel_con (p0 : List Int) (p1 : Int) (r : Bool) (h : rl_law33_QualityModel p0 p1 = some r) : Con Try.prog 4 [vl 1 Ri64 p0, vu16 p1] [] (vb r) [] := by
 refine con_of tt_okL4 0 Try.func4 (by kernel_rfl) rfl (by kernel_rfl) (fun base X _ => AW.post ?_)
 unfold rl_law33_QualityModel at h
 refine AW.sg tt_okL4 [] [] [] 1 [] (by kernel_rfl) ?_
 refine AW.seq (AW.seq ?_)
 refine AW.join (ι := Bool) (fun v => ⟨[(0, vl 1 Ri64 p0), (1, vu16 p1), (21, vb v)], [], 0⟩) (fun v : Bool => rl_law33_QualityModel_k1 p0 p1 v = some r) (fun x1 h => ?_) ?_
 ·
  unfold rl_law33_QualityModel_k1 at h
  refine AW.tn ?_
  refine AW.co h (by kernel_rfl) (fun c2 h => ?_) (fun c2 h => ?_)
  ·
   obtain ⟨y3, e4, h⟩ := bnd_some h
   refine AW.sg tt_okL4 [(4, vb y3)] [] [] 1 [hk (rl_law33_awake_con y3 e4)] (by kernel_rfl) ?_
   refine AW.ret (AW.tr ?_)
   obtain rfl := some_inj h
   exact fn0 (.inr rfl) [] 0 (vb y3) (by kernel_rfl)
  ·
   refine AW.skip (AW.tn ?_)
   obtain ⟨y5, e6, h⟩ := bnd_some h
   refine AW.sg tt_okL4 [(5, .c (.ptr 1 3 0 0))] [1] [(1, .box 72 [cl 1 Ri64 y5.list, ci64 y5.at_, cu64 y5.state])] 3 [hn, hl [] [] 1 (rl_make_New_con p0 y5 e6)] (by kernel_rfl) ?_
   obtain ⟨y7, y8, e9, h⟩ := bind2_some h
   refine AW.sg tt_okL4 [(6, vi64 (i64.wrap (1 + y7)))] [1] [(1, .box 72 [cl 1 Ri64 y8.list, ci64 y8.at_, cu64 y8.state])] 6 [hn, hl [1] [] 0 (rl_make_Deck_Next_con y5 3 (y7, y8) e9)] (by kernel_rfl) ?_
   obtain ⟨y10, y11, e12, h⟩ := bind2_some h
   refine AW.sg tt_okL4 [(7, .c (.ptr 10 3 0 0))] [1, 8, 9, 10] [(10, .box 32 [ci64 y10.Prior, .ref 8 1 0 y10.Match.length, .ref 9 1 0 y10.Random.length]), (1, .box 72 [cl 1 Ri64 y11.list, ci64 y11.at_, cu64 y11.state]), (8, .row 3 false 1 y10.Match.length (Ri64 y10.Match)), (9, .row 3 false 1 y10.Random.length (Ri64 y10.Random))] 12 [hn, hn, hl [1] [] 2 (rl_make_Deck_Model_con y8 (i64.wrap (1 + y7)) (y10, y11) e12)] (by kernel_rfl) ?_
   refine AW.sg tt_okL4 [(8, vi64 0)] [] [] 13 [] (by kernel_rfl) ?_
   refine AW.seq ?_
   refine AW.sg tt_okL4 [(9, vi64 0)] [] [] 14 [] (by kernel_rfl) ?_
   refine AW.block ?_
   obtain ⟨x19, l35, h⟩ := bnd_some h
   refine AW.lp l35 (fun v => ⟨[(1, vu16 p1), (5, .c (.ptr 0 3 0 0)), (6, vi64 (i64.wrap (1 + y7))), (7, .c (.ptr 1 3 0 0)), (8, vi64 v.1), (9, vi64 v.2)], [(0, .box 72 [cl 1 Ri64 y11.list, ci64 y11.at_, cu64 y11.state]), (1, .box 32 [ci64 y10.Prior, .ref 2 1 0 y10.Match.length, .ref 3 1 0 y10.Random.length]), (2, .row 3 false 1 y10.Match.length (Ri64 y10.Match)), (3, .row 3 false 1 y10.Random.length (Ri64 y10.Random))], 4⟩) (fun t : Int => (.exit 0, ⟨[(1, vu16 p1), (5, .c (.ptr 0 3 0 0)), (6, vi64 (i64.wrap (1 + y7))), (7, .c (.ptr 1 3 0 0)), (8, vi64 t)], [(0, .box 72 [cl 1 Ri64 y11.list, ci64 y11.at_, cu64 y11.state]), (1, .box 32 [ci64 y10.Prior, .ref 2 1 0 y10.Match.length, .ref 3 1 0 y10.Random.length]), (2, .row 3 false 1 y10.Match.length (Ri64 y10.Match)), (3, .row 3 false 1 y10.Random.length (Ri64 y10.Random))], 4⟩)) (conv_re [(0, 1), (1, 10), (2, 8), (3, 9)] (by kernel_rfl)) (fun _ => tv) ?_ ?_
   ·
    clear l35 h
    intro v o h
    obtain ⟨x15, x16⟩ := v
    replace h : rl_law33_QualityModel_l2 y7 x15 x16 = some o := h
    unfold rl_law33_QualityModel_l2 at h
    refine AW.seq ?_
    refine AW.sg tt_okL4 [(33, vb (decide (x16 < (i64.wrap (1 + y7)))))] [] [] 7 [] (by kernel_rfl) ?_
    refine AW.co h (by kernel_rfl) (fun c18 h => ?_) (fun c18 h => ?_)
    ·
     refine AW.skip (AW.tn ?_)
     refine AW.seq (AW.block ?_)
     refine AW.rg tt_okL4 [(8, vi64 (i64.wrap ((i64.wrap (x15 * 3)) + 2)))] [] [] 11 [] (by kernel_rfl) ?_
     refine AW.inBlock_normal (AW.tn ?_)
     refine AW.rg tt_okL4 [(9, vi64 (i64.wrap (x16 + 1)))] [] [] 14 [] (by kernel_rfl) ?_
     exact lpn h (conv_re [(0, 0), (1, 1), (2, 2), (3, 3)] (by kernel_rfl))
    ·
     refine AW.exit (AW.thenQ_exit ?_)
     exact lpo h rfl (conv_re [(0, 0), (1, 1), (2, 2), (3, 3)] (by kernel_rfl))
   ·
    show (_ : Exit → St → Prop) (.exit 0) _
    refine AW.inBlock_hit (AW.tn ?_)
    obtain ⟨y20, y21, e22, h⟩ := bind2_some h
    refine AW.sg tt_okL4 [(11, vi64 y21), (10, .c (.ptr 11 3 0 0))] [7, 11] [(11, .box 35 [ci64 y20.False, ci64 y20.Missed, ci64 y20.True])] 14 [hn, hn, hn, hlit dS_api_Candidate ES_api_Candidate 6 (fun _ => rfl) ([(⟨(⟨0, 0⟩ : S_api_Ref), (⟨0, 0⟩ : S_api_Ref), x19, 0⟩ : S_api_Candidate)] : List S_api_Candidate), hg [] [] true 0 (q := ((True) ∧ (0 + y10.Match.length ≤ y10.Match.length) ∧ (0 + y10.Random.length ≤ y10.Random.length) ∧ (True)) ∧ (0 + ([(⟨(⟨0, 0⟩ : S_api_Ref), (⟨0, 0⟩ : S_api_Ref), x19, 0⟩ : S_api_Candidate)] : List S_api_Candidate).length ≤ ([(⟨(⟨0, 0⟩ : S_api_Ref), (⟨0, 0⟩ : S_api_Ref), x19, 0⟩ : S_api_Candidate)] : List S_api_Candidate).length) ∧ (True) ∧ (True)) ⟨⟨tv, le0, le0, tv⟩, le0, tv, tv⟩ (a0 := [.agg [ci64 y10.Prior, cl 1 Ri64 y10.Match, cl 1 Ri64 y10.Random], vl 6 RS_api_Candidate ([(⟨(⟨0, 0⟩ : S_api_Ref), (⟨0, 0⟩ : S_api_Ref), x19, 0⟩ : S_api_Candidate)] : List S_api_Candidate), .c (.t (.v (.slice none 0 0)))]) (quality_Of_con y10 ([(⟨(⟨0, 0⟩ : S_api_Ref), (⟨0, 0⟩ : S_api_Ref), x19, 0⟩ : S_api_Candidate)] : List S_api_Candidate) ([] : List S_api_Candidate) (y20, y21) e22) ⟨ArgLe.refl _, ArgLe.refl _, ArgLe.c (CAle.nil rfl), tv⟩ (fun _ => tv)] (by kernel_rfl) ?_
    obtain ⟨y23, y24, e25, h⟩ := bind2_some h
    refine AW.sg tt_okL4 [(12, vi64 y23)] [0] [] 17 [hn, hn, hl [0] [] 0 (rl_make_Deck_Next_con y11 (i64.wrap (1 + y7)) (y23, y24) e25)] (by kernel_rfl) ?_
    obtain ⟨g26, g27, h⟩ := ifd h
    refine AW.sd tt_okL4 moL4 [[], [], [], [], [], [], [], [], [], [], [], [], [], [2]] [] [(2, .row 3 false 1 y10.Match.length (Ri64 (y10.Match.set (0 + y23.toNat) (if (i64.wrap ((y10.Match.getD (0 + y23.toNat) 0) + (i64.wrap p1))) < 65535 then (i64.wrap ((y10.Match.getD (0 + y23.toNat) 0) + (i64.wrap p1))) else 65535))))] 31 [hn, hn, hn, hn, hn, hn, hq g26 g27, ho (p := (0 + y23.toNat) < y10.Match.length) (by have h1 : 0 ≤ y23 := g26; have h2 : y23 < ((y10.Match.length : Nat) : Int) := g27; omega), hn, hn, hn, hn, hq g26 g27, hset 0 Ei64 y10.Match (0 + y23.toNat) (if (i64.wrap ((y10.Match.getD (0 + y23.toNat) 0) + (i64.wrap p1))) < 65535 then (i64.wrap ((y10.Match.getD (0 + y23.toNat) 0) + (i64.wrap p1))) else 65535) (n := y10.Match.length) (by have h1 : 0 ≤ y23 := g26; have h2 : y23 < ((y10.Match.length : Nat) : Int) := g27; omega) rfl] (by kernel_rfl) ?_
    obtain ⟨y28, y29, e30, h⟩ := bind2_some h
    refine AW.sg tt_okL4 [(14, vi64 y29), (13, .c (.ptr 38 3 0 0))] [34, 38] [(38, .box 35 [ci64 y28.False, ci64 y28.Missed, ci64 y28.True])] 41 [hn, hn, hn, hlit dS_api_Candidate ES_api_Candidate 6 (fun _ => rfl) ([(⟨(⟨0, 0⟩ : S_api_Ref), (⟨0, 0⟩ : S_api_Ref), x19, 0⟩ : S_api_Candidate)] : List S_api_Candidate), hg [] [] true 0 (q := ((True) ∧ (0 + y10.Match.length ≤ y10.Match.length) ∧ (0 + y10.Random.length ≤ y10.Random.length) ∧ (True)) ∧ (0 + ([(⟨(⟨0, 0⟩ : S_api_Ref), (⟨0, 0⟩ : S_api_Ref), x19, 0⟩ : S_api_Candidate)] : List S_api_Candidate).length ≤ ([(⟨(⟨0, 0⟩ : S_api_Ref), (⟨0, 0⟩ : S_api_Ref), x19, 0⟩ : S_api_Candidate)] : List S_api_Candidate).length) ∧ (True) ∧ (True)) ⟨⟨tv, le0, le0, tv⟩, le0, tv, tv⟩ (a0 := [.agg [ci64 y10.Prior, .t (.tree y10.Match.length 1 (Ri64 (y10.Match.set (0 + y23.toNat) (if (i64.wrap ((y10.Match.getD (0 + y23.toNat) 0) + (i64.wrap p1))) < 65535 then (i64.wrap ((y10.Match.getD (0 + y23.toNat) 0) + (i64.wrap p1))) else 65535)))), cl 1 Ri64 y10.Random], vl 6 RS_api_Candidate ([(⟨(⟨0, 0⟩ : S_api_Ref), (⟨0, 0⟩ : S_api_Ref), x19, 0⟩ : S_api_Candidate)] : List S_api_Candidate), .c (.t (.v (.slice none 0 0)))]) (show Con Try.prog 17 [.agg [ci64 y10.Prior, .t (.tree y10.Match.length 1 (Ri64 (y10.Match.set (0 + y23.toNat) (if (i64.wrap ((y10.Match.getD (0 + y23.toNat) 0) + (i64.wrap p1))) < 65535 then (i64.wrap ((y10.Match.getD (0 + y23.toNat) 0) + (i64.wrap p1))) else 65535)))), cl 1 Ri64 y10.Random], vl 6 RS_api_Candidate ([(⟨(⟨0, 0⟩ : S_api_Ref), (⟨0, 0⟩ : S_api_Ref), x19, 0⟩ : S_api_Candidate)] : List S_api_Candidate), vl 6 RS_api_Candidate ([] : List S_api_Candidate)] [] (.tup [.agg [ci64 y28.False, ci64 y28.Missed, ci64 y28.True], vi64 y29]) [] from by have hc := (quality_Of_con (⟨y10.Prior, (y10.Match.set (0 + y23.toNat) (if (i64.wrap ((y10.Match.getD (0 + y23.toNat) 0) + (i64.wrap p1))) < 65535 then (i64.wrap ((y10.Match.getD (0 + y23.toNat) 0) + (i64.wrap p1))) else 65535)), y10.Random⟩ : S_em_model) ([(⟨(⟨0, 0⟩ : S_api_Ref), (⟨0, 0⟩ : S_api_Ref), x19, 0⟩ : S_api_Candidate)] : List S_api_Candidate) ([] : List S_api_Candidate) (y28, y29) e30); simpa only [List.length_set, vl, cl] using hc) ⟨ArgLe.refl _, ArgLe.refl _, ArgLe.c (CAle.nil rfl), tv⟩ (fun _ => tv)] (by kernel_rfl) ?_
    refine AW.seq ?_
    refine AW.join (ι := Bool) (fun v => ⟨[(4, vb v)], [], 0⟩) (fun v : Bool => rl_law33_QualityModel_k3 v = some r) (fun x31 h => ?_) ?_
    ·
     unfold rl_law33_QualityModel_k3 at h
     refine AW.tn (AW.ret ?_)
     obtain rfl := some_inj h
     exact fn0 (.inr rfl) [] 0 (vb x31) (by kernel_rfl)
    ·
     rcases ifs h with ⟨c32, h⟩ | ⟨c32, h⟩
     ·
      rcases ifs h with ⟨c33, h⟩ | ⟨c33, h⟩
      ·
       rcases ifs h with ⟨c34, h⟩ | ⟨c34, h⟩
       ·
        refine AW.rg tt_okL4 [(4, vb (decide (y28.True ≥ y20.True)))] [] [] 62 [hn, ht c32, hn, hn, ht c33, hn, hn, hn, hn, hn, hn, ht c34] (by kernel_rfl) ?_
        exact jl (decide (y28.True ≥ y20.True)) h (conv_re [] (by kernel_rfl))
       ·
        refine AW.rg tt_okL4 [(4, vb false)] [] [] 62 [hn, ht c32, hn, hn, ht c33, hn, hn, hn, hn, hn, hn, hf c34] (by kernel_rfl) ?_
        exact jl false h (conv_re [] (by kernel_rfl))
      ·
       refine AW.rg tt_okL4 [(4, vb false)] [] [] 62 [hn, ht c32, hn, hn, hf c33] (by kernel_rfl) ?_
       exact jl false h (conv_re [] (by kernel_rfl))
     ·
      refine AW.rg tt_okL4 [(4, vb false)] [] [] 62 [hn, hf c32] (by kernel_rfl) ?_
      exact jl false h (conv_re [] (by kernel_rfl))
 ·
  obtain ⟨y36, e37, h⟩ := bnd_some h
  rcases ifs h with ⟨c38, h⟩ | ⟨c38, h⟩
  ·
   refine AW.rg tt_okL4 [(21, vb true)] [] [] 7 [hk (rl_law33_awake_con y36 e37), ht c38] (by kernel_rfl) ?_
   exact jl true h (conv_re [] (by kernel_rfl))
  ·
   obtain ⟨y39, e40, h⟩ := bnd_some h
   refine AW.rg tt_okL4 [(21, vb (!y39))] [] [] 6 [hk (rl_law33_awake_con y36 e37), hf c38, hn, hn, hk (rl_make_Few_con p0 y39 e40)] (by kernel_rfl) ?_
   exact jl (!y39) h (conv_re [] (by kernel_rfl))
end Go.Proofs.Ytilpgjoidgfbiaa
