/- Printed by a program of mine (vmgen.py): Go functions, and what they come to. -/
import Derived.Test.YtilpgjoidgfbiaaVr
import Derived.Test.YtilpgjoidgfbiaaRows
import Derived.Test.YtilpgjoidgfbiaaG2
namespace Go.Proofs.Ytilpgjoidgfbiaa
open Vm
open IntKind (i64 u64 u32 u8)
set_option maxHeartbeats 10000000
set_option linter.unusedVariables false
set_option linter.unusedSimpArgs false
set_option linter.constructorNameAsVariable false
def ttlL7 : List (Nat × TI) := [(3, ⟨.int .i64, 1, 8, [.int .i64 0], false⟩), (4, ⟨.bool, 1, 1, [.bool false], false⟩), (5, ⟨.int .u8, 1, 1, [.int .u8 0], false⟩), (9, ⟨.str, 1, 16, [.string ⟨#[]⟩], false⟩), (22, ⟨.slice 3, 1, 24, [.slice none 0 0], false⟩), (23, ⟨.int .u16, 1, 2, [.int .u16 0], false⟩), (26, ⟨.ptr 72, 1, 8, [.pointer none], false⟩), (29, ⟨.slice 54, 1, 24, [.slice none 0 0], false⟩), (32, ⟨.struct [(3, 0), (22, 1), (22, 2)], 3, 56, [.int .i64 0, .slice none 0 0, .slice none 0 0], false⟩), (35, ⟨.struct [(3, 0), (3, 1), (3, 2)], 3, 24, [.int .i64 0, .int .i64 0, .int .i64 0], true⟩), (36, ⟨.int .i64, 1, 8, [.int .i64 0], false⟩), (42, ⟨.slice 69, 1, 24, [.slice none 0 0], false⟩), (44, ⟨.struct [(42, 0), (42, 1)], 2, 48, [.slice none 0 0, .slice none 0 0], false⟩), (52, ⟨.struct [(3, 0), (3, 1)], 2, 16, [.int .i64 0, .int .i64 0], true⟩), (54, ⟨.struct [(52, 0), (52, 2), (3, 4), (3, 5)], 6, 48, [.int .i64 0, .int .i64 0, .int .i64 0, .int .i64 0, .int .i64 0, .int .i64 0], true⟩), (69, ⟨.int .u32, 1, 4, [.int .u32 0], false⟩), (70, ⟨.int .u64, 1, 8, [.int .u64 0], false⟩), (72, ⟨.struct [(22, 0), (3, 1), (70, 2)], 3, 40, [.slice none 0 0, .int .i64 0, .int .u64 0], false⟩), (75, ⟨.slice 78, 1, 24, [.slice none 0 0], false⟩), (78, ⟨.struct [(52, 0), (52, 2), (3, 4)], 5, 40, [.int .i64 0, .int .i64 0, .int .i64 0, .int .i64 0, .int .i64 0], true⟩), (106, ⟨.struct [(3, 0), (22, 1), (22, 2)], 3, 56, [.int .i64 0, .slice none 0 0, .slice none 0 0], false⟩), (110, ⟨.struct [(3, 0), (3, 1), (3, 2), (3, 3)], 4, 32, [.int .i64 0, .int .i64 0, .int .i64 0, .int .i64 0], true⟩), (111, ⟨.slice 110, 1, 24, [.slice none 0 0], false⟩), (115, ⟨.arr 6 3, 6, 48, [.int .i64 0, .int .i64 0, .int .i64 0, .int .i64 0, .int .i64 0, .int .i64 0], true⟩), (121, ⟨.struct [(42, 0), (36, 1)], 2, 32, [.slice none 0 0, .int .i64 0], false⟩), (132, ⟨.slice 121, 1, 24, [.slice none 0 0], false⟩)]
theorem tt_okL7 : TTok Try.prog (Vm.look ttlL7) := ttok_of ⟨⟨by kernel_rfl, by kernel_rfl, by kernel_rfl⟩, ⟨by kernel_rfl, by kernel_rfl, by kernel_rfl⟩, ⟨by kernel_rfl, by kernel_rfl, by kernel_rfl⟩, ⟨by kernel_rfl, by kernel_rfl, by kernel_rfl⟩, ⟨by kernel_rfl, by kernel_rfl, by kernel_rfl⟩, ⟨by kernel_rfl, by kernel_rfl, by kernel_rfl⟩, ⟨by kernel_rfl, by kernel_rfl, by kernel_rfl⟩, ⟨by kernel_rfl, by kernel_rfl, by kernel_rfl⟩, ⟨by kernel_rfl, by kernel_rfl, by kernel_rfl⟩, ⟨by kernel_rfl, by kernel_rfl, by kernel_rfl⟩, ⟨by kernel_rfl, by kernel_rfl, by kernel_rfl⟩, ⟨by kernel_rfl, by kernel_rfl, by kernel_rfl⟩, ⟨by kernel_rfl, by kernel_rfl, by kernel_rfl⟩, ⟨by kernel_rfl, by kernel_rfl, by kernel_rfl⟩, ⟨by kernel_rfl, by kernel_rfl, by kernel_rfl⟩, ⟨by kernel_rfl, by kernel_rfl, by kernel_rfl⟩, ⟨by kernel_rfl, by kernel_rfl, by kernel_rfl⟩, ⟨by kernel_rfl, by kernel_rfl, by kernel_rfl⟩, ⟨by kernel_rfl, by kernel_rfl, by kernel_rfl⟩, ⟨by kernel_rfl, by kernel_rfl, by kernel_rfl⟩, ⟨by kernel_rfl, by kernel_rfl, by kernel_rfl⟩, ⟨by kernel_rfl, by kernel_rfl, by kernel_rfl⟩, ⟨by kernel_rfl, by kernel_rfl, by kernel_rfl⟩, ⟨by kernel_rfl, by kernel_rfl, by kernel_rfl⟩, ⟨by kernel_rfl, by kernel_rfl, by kernel_rfl⟩, ⟨by kernel_rfl, by kernel_rfl, by kernel_rfl⟩, trivial⟩
theorem moL7 : Try.prog.follows .mixedOrders = true := by kernel_rfl
/-! recordlink/recordlinklaw24.EmValid -/
noncomputable def rl_law24_EmValid_k2 (x26 : Bool) : Option Bool := some x26
noncomputable def rl_law24_EmValid_k1 (p0 : List Int) (x1 : Bool) : Option Bool := if x1 = true then ((rl_law24_awake).bind fun y3 => (some y3)) else ((rl_make_New p0).bind fun y5 => (bind2 (rl_make_Deck_Next y5 3) fun y7 y8 => (bind2 (rl_make_Deck_Model y8 (i64.wrap (1 + y7))) fun y10 y11 => (bind2 (rl_make_Deck_Counts y11 (i64.wrap (1 + y7))) fun y13 y14 => (bind2 (em_Step y10 y13) fun y16 y17 => ((rl_ref17_Size (i64.wrap (1 + y7))).bind fun y19 => (if 0 ≤ y19 then (if y19 ≤ 1099511627776 then (bind2 (em_Step y10 (List.replicate y19.toNat (0 : Int))) fun y23 y24 => (if (y17 == 0) = true then (if (y24 == 0) = true then ((em_Check y16).bind fun y29 => (if (y29 == 0) = true then (if (((y16.Match.length : Nat) : Int) == (i64.wrap (1 + y7))) = true then ((rl_ref24_Same y23 y10).bind fun y33 => (rl_law24_EmValid_k2 y33)) else (rl_law24_EmValid_k2 false)) else (rl_law24_EmValid_k2 false))) else (rl_law24_EmValid_k2 false)) else (rl_law24_EmValid_k2 false))) else none) else none)))))))
noncomputable def rl_law24_EmValid (p0 : List Int) : Option Bool := (rl_law24_awake).bind fun y35 => (if (!y35) = true then (rl_law24_EmValid_k1 p0 true) else ((rl_make_Few p0).bind fun y38 => (rl_law24_EmValid_k1 p0 (!y38))))
set_option maxRecDepth 100000 in
theorem rl_law24_EmValid_con (p0 : List Int) (r : Bool) (h : rl_law24_EmValid p0 = some r) : Con Try.prog 7 [vl 1 Ri64 p0] [] (vb r) [] := by
 refine con_of tt_okL7 0 Try.func7 (by kernel_rfl) rfl (by kernel_rfl) (fun base X _ => AW.post ?_)
 unfold rl_law24_EmValid at h
 refine AW.sg tt_okL7 [] [] [] 1 [] (by kernel_rfl) ?_
 refine AW.seq (AW.seq ?_)
 refine AW.join (ι := Bool) (fun v => ⟨[(0, vl 1 Ri64 p0), (16, vb v)], [], 0⟩) (fun v : Bool => rl_law24_EmValid_k1 p0 v = some r) (fun x1 h => ?_) ?_
 ·
  unfold rl_law24_EmValid_k1 at h
  refine AW.tn ?_
  refine AW.co h (by kernel_rfl) (fun c2 h => ?_) (fun c2 h => ?_)
  ·
   obtain ⟨y3, e4, h⟩ := bnd_some h
   refine AW.sg tt_okL7 [(2, vb y3)] [] [] 1 [hk (rl_law24_awake_con y3 e4)] (by kernel_rfl) ?_
   refine AW.ret (AW.tr ?_)
   obtain rfl := some_inj h
   exact fn0 (.inr rfl) [] 0 (vb y3) (by kernel_rfl)
  ·
   refine AW.skip (AW.tn ?_)
   obtain ⟨y5, e6, h⟩ := bnd_some h
   refine AW.sg tt_okL7 [(3, .c (.ptr 1 3 0 0))] [1] [(1, .box 72 [cl 1 Ri64 y5.list, ci64 y5.at_, cu64 y5.state])] 3 [hn, hl [] [] 1 (rl_make_New_con p0 y5 e6)] (by kernel_rfl) ?_
   obtain ⟨y7, y8, e9, h⟩ := bind2_some h
   refine AW.sg tt_okL7 [(4, vi64 (i64.wrap (1 + y7)))] [1] [(1, .box 72 [cl 1 Ri64 y8.list, ci64 y8.at_, cu64 y8.state])] 6 [hn, hl [1] [] 0 (rl_make_Deck_Next_con y5 3 (y7, y8) e9)] (by kernel_rfl) ?_
   obtain ⟨y10, y11, e12, h⟩ := bind2_some h
   refine AW.sg tt_okL7 [(5, .c (.ptr 10 3 0 0))] [1, 8, 9, 10] [(10, .box 32 [ci64 y10.Prior, .ref 8 1 0 y10.Match.length, .ref 9 1 0 y10.Random.length]), (1, .box 72 [cl 1 Ri64 y11.list, ci64 y11.at_, cu64 y11.state]), (8, .row 3 false 1 y10.Match.length (Ri64 y10.Match)), (9, .row 3 false 1 y10.Random.length (Ri64 y10.Random))] 12 [hn, hn, hl [1] [] 2 (rl_make_Deck_Model_con y8 (i64.wrap (1 + y7)) (y10, y11) e12)] (by kernel_rfl) ?_
   obtain ⟨y13, y14, e15, h⟩ := bind2_some h
   obtain ⟨y16, y17, e18, h⟩ := bind2_some h
   refine AW.sd tt_okL7 moL7 [[], [], [], [1, 15], [16, 17], [], [], [], [21], [21]] [(7, vi64 y17), (6, .c (.ptr 21 3 0 0))] [(21, .box 32 [ci64 y16.Prior, .ref 16 1 0 y16.Match.length, .ref 17 1 0 y16.Random.length]), (16, .row 3 false 1 y16.Match.length (Ri64 y16.Match)), (17, .row 3 false 1 y16.Random.length (Ri64 y16.Random))] 24 [hn, hn, hn, hl [1] [] 1 (rl_make_Deck_Counts_con y11 (i64.wrap (1 + y7)) (y13, y14) e15), hg [] [] true 2 (q := ((True) ∧ (0 + y10.Match.length ≤ y10.Match.length) ∧ (0 + y10.Random.length ≤ y10.Random.length) ∧ (True)) ∧ (0 + y13.length ≤ y13.length) ∧ (True)) ⟨⟨tv, le0, le0, tv⟩, le0, tv⟩ (a0 := [.agg [ci64 y10.Prior, cl 1 Ri64 y10.Match, cl 1 Ri64 y10.Random], vl 1 Ri64 y13]) (em_Step_con y10 y13 (y16, y17) e18) ⟨ArgLe.refl _, ArgLe.refl _, tv⟩ (fun _ => ⟨rowL_flat Vi64 _ _ _, rowL_flat Vi64 _ _ _, tv⟩)] (by kernel_rfl) ?_
   obtain ⟨y19, e20, h⟩ := bnd_some h
   obtain ⟨g21, g22, h⟩ := ifd h
   obtain ⟨y23, y24, e25, h⟩ := bind2_some h
   refine AW.sd tt_okL7 moL7 [[], [], [], [26], [27, 28], [], [], [], [32], [32]] [(9, vi64 y24), (8, .c (.ptr 32 3 0 0))] [(32, .box 32 [ci64 y23.Prior, .ref 27 1 0 y23.Match.length, .ref 28 1 0 y23.Random.length]), (27, .row 3 false 1 y23.Match.length (Ri64 y23.Match)), (28, .row 3 false 1 y23.Random.length (Ri64 y23.Random))] 35 [hn, hn, hk (rl_ref17_Size_con (i64.wrap (1 + y7)) y19 e20), hmk 0 Ei64 1 8 [.int .i64 0] rfl rfl y19 y19 g21 (Int.le_refl _) g22 (by decide), hg [] [] true 2 (q := ((True) ∧ (0 + y10.Match.length ≤ y10.Match.length) ∧ (0 + y10.Random.length ≤ y10.Random.length) ∧ (True)) ∧ (0 + (List.replicate y19.toNat (0 : Int)).length ≤ (List.replicate y19.toNat (0 : Int)).length) ∧ (True)) ⟨⟨tv, le0, le0, tv⟩, le0, tv⟩ (a0 := [.agg [ci64 y10.Prior, cl 1 Ri64 y10.Match, cl 1 Ri64 y10.Random], vl 1 Ri64 (List.replicate y19.toNat (0 : Int))]) (em_Step_con y10 (List.replicate y19.toNat (0 : Int)) (y23, y24) e25) ⟨ArgLe.refl _, ArgLe.refl _, tv⟩ (fun _ => ⟨rowL_flat Vi64 _ _ _, rowL_flat Vi64 _ _ _, tv⟩)] (by kernel_rfl) ?_
   refine AW.seq ?_
   refine AW.join (ι := Bool) (fun v => ⟨[(2, vb v)], [], 0⟩) (fun v : Bool => rl_law24_EmValid_k2 v = some r) (fun x26 h => ?_) ?_
   ·
    unfold rl_law24_EmValid_k2 at h
    refine AW.tn (AW.ret ?_)
    obtain rfl := some_inj h
    exact fn0 (.inr rfl) [] 0 (vb x26) (by kernel_rfl)
   ·
    rcases ifs h with ⟨c27, h⟩ | ⟨c27, h⟩
    ·
     rcases ifs h with ⟨c28, h⟩ | ⟨c28, h⟩
     ·
      obtain ⟨y29, e30, h⟩ := bnd_some h
      rcases ifs h with ⟨c31, h⟩ | ⟨c31, h⟩
      ·
       rcases ifs h with ⟨c32, h⟩ | ⟨c32, h⟩
       ·
        obtain ⟨y33, e34, h⟩ := bnd_some h
        refine AW.rg tt_okL7 [(2, vb y33)] [] [] 57 [hn, ht c27, hn, hn, ht c28, hn, hn, hn, hg [] [] true 0 (q := ((True) ∧ (0 + y16.Match.length ≤ y16.Match.length) ∧ (0 + y16.Random.length ≤ y16.Random.length) ∧ (True)) ∧ (True)) ⟨⟨tv, le0, le0, tv⟩, tv⟩ (a0 := [.agg [ci64 y16.Prior, cl 1 Ri64 y16.Match, cl 1 Ri64 y16.Random]]) (em_Check_con y16 y29 e30) ⟨ArgLe.refl _, tv⟩ (fun _ => tv), ht c31, hn, hn, hn, hn, hn, hn, ht c32, hn, hn, hn, hn, hg [] [] true 0 (q := ((True) ∧ (0 + y23.Match.length ≤ y23.Match.length) ∧ (0 + y23.Random.length ≤ y23.Random.length) ∧ (True)) ∧ ((True) ∧ (0 + y10.Match.length ≤ y10.Match.length) ∧ (0 + y10.Random.length ≤ y10.Random.length) ∧ (True)) ∧ (True)) ⟨⟨tv, le0, le0, tv⟩, ⟨tv, le0, le0, tv⟩, tv⟩ (a0 := [.agg [ci64 y23.Prior, cl 1 Ri64 y23.Match, cl 1 Ri64 y23.Random], .agg [ci64 y10.Prior, cl 1 Ri64 y10.Match, cl 1 Ri64 y10.Random]]) (rl_ref24_Same_con y23 y10 y33 e34) ⟨ArgLe.refl _, ArgLe.refl _, tv⟩ (fun _ => tv)] (by kernel_rfl) ?_
        exact jl y33 h (conv_re [] (by kernel_rfl))
       ·
        refine AW.rg tt_okL7 [(2, vb false)] [] [] 58 [hn, ht c27, hn, hn, ht c28, hn, hn, hn, hg [] [] true 0 (q := ((True) ∧ (0 + y16.Match.length ≤ y16.Match.length) ∧ (0 + y16.Random.length ≤ y16.Random.length) ∧ (True)) ∧ (True)) ⟨⟨tv, le0, le0, tv⟩, tv⟩ (a0 := [.agg [ci64 y16.Prior, cl 1 Ri64 y16.Match, cl 1 Ri64 y16.Random]]) (em_Check_con y16 y29 e30) ⟨ArgLe.refl _, tv⟩ (fun _ => tv), ht c31, hn, hn, hn, hn, hn, hn, hf c32] (by kernel_rfl) ?_
        exact jl false h (conv_re [] (by kernel_rfl))
      ·
       refine AW.rg tt_okL7 [(2, vb false)] [] [] 58 [hn, ht c27, hn, hn, ht c28, hn, hn, hn, hg [] [] true 0 (q := ((True) ∧ (0 + y16.Match.length ≤ y16.Match.length) ∧ (0 + y16.Random.length ≤ y16.Random.length) ∧ (True)) ∧ (True)) ⟨⟨tv, le0, le0, tv⟩, tv⟩ (a0 := [.agg [ci64 y16.Prior, cl 1 Ri64 y16.Match, cl 1 Ri64 y16.Random]]) (em_Check_con y16 y29 e30) ⟨ArgLe.refl _, tv⟩ (fun _ => tv), hf c31] (by kernel_rfl) ?_
       exact jl false h (conv_re [] (by kernel_rfl))
     ·
      refine AW.rg tt_okL7 [(2, vb false)] [] [] 59 [hn, ht c27, hn, hn, hf c28] (by kernel_rfl) ?_
      exact jl false h (conv_re [] (by kernel_rfl))
    ·
     refine AW.rg tt_okL7 [(2, vb false)] [] [] 59 [hn, hf c27] (by kernel_rfl) ?_
     exact jl false h (conv_re [] (by kernel_rfl))
 ·
  obtain ⟨y35, e36, h⟩ := bnd_some h
  rcases ifs h with ⟨c37, h⟩ | ⟨c37, h⟩
  ·
   refine AW.rg tt_okL7 [(16, vb true)] [] [] 7 [hk (rl_law24_awake_con y35 e36), ht c37] (by kernel_rfl) ?_
   exact jl true h (conv_re [] (by kernel_rfl))
  ·
   obtain ⟨y38, e39, h⟩ := bnd_some h
   refine AW.rg tt_okL7 [(16, vb (!y38))] [] [] 6 [hk (rl_law24_awake_con y35 e36), hf c37, hn, hn, hk (rl_make_Few_con p0 y38 e39)] (by kernel_rfl) ?_
   exact jl (!y38) h (conv_re [] (by kernel_rfl))
end Go.Proofs.Ytilpgjoidgfbiaa
