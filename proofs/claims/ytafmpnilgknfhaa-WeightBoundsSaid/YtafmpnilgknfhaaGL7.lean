/- Printed by a program of mine (vmgen.py): Go functions, and what they come to. -/
import Derived.Test.YtafmpnilgknfhaaVr
import Derived.Test.YtafmpnilgknfhaaRows
import Derived.Test.YtafmpnilgknfhaaG1
namespace Go.Proofs.Ytafmpnilgknfhaa
open Vm
open IntKind (i64 u64 u32 u8)
set_option maxHeartbeats 10000000
set_option linter.unusedVariables false
set_option linter.unusedSimpArgs false
set_option linter.constructorNameAsVariable false
def ttlL7 : List (Nat × TI) := [(3, ⟨.int .i64, 1, 8, [.int .i64 0]⟩), (4, ⟨.bool, 1, 1, [.bool false]⟩), (5, ⟨.int .u8, 1, 1, [.int .u8 0]⟩), (9, ⟨.str, 1, 16, [.string ⟨#[]⟩]⟩), (22, ⟨.int .u16, 1, 2, [.int .u16 0]⟩), (23, ⟨.int .i64, 1, 8, [.int .i64 0]⟩), (29, ⟨.int .u64, 1, 8, [.int .u64 0]⟩), (31, ⟨.slice 3, 1, 24, [.slice none 0 0]⟩), (33, ⟨.ptr 60, 1, 8, [.pointer none]⟩), (36, ⟨.struct [(3, 0), (31, 1), (31, 2)], 3, 56, [.int .i64 0, .slice none 0 0, .slice none 0 0]⟩), (40, ⟨.struct [(3, 0), (31, 1), (31, 2)], 3, 56, [.int .i64 0, .slice none 0 0, .slice none 0 0]⟩), (53, ⟨.slice 78, 1, 24, [.slice none 0 0]⟩), (58, ⟨.int .u64, 1, 8, [.int .u64 0]⟩), (60, ⟨.struct [(31, 0), (3, 1), (58, 2)], 3, 40, [.slice none 0 0, .int .i64 0, .int .u64 0]⟩), (65, ⟨.arr 3 3, 3, 24, [.int .i64 0, .int .i64 0, .int .i64 0]⟩), (78, ⟨.int .u32, 1, 4, [.int .u32 0]⟩), (91, ⟨.arr 6 3, 6, 48, [.int .i64 0, .int .i64 0, .int .i64 0, .int .i64 0, .int .i64 0, .int .i64 0]⟩)]
theorem tt_okL7 : TTok Try.prog (Vm.look ttlL7) := ttok_of ⟨⟨by kernel_rfl, by kernel_rfl⟩, ⟨by kernel_rfl, by kernel_rfl⟩, ⟨by kernel_rfl, by kernel_rfl⟩, ⟨by kernel_rfl, by kernel_rfl⟩, ⟨by kernel_rfl, by kernel_rfl⟩, ⟨by kernel_rfl, by kernel_rfl⟩, ⟨by kernel_rfl, by kernel_rfl⟩, ⟨by kernel_rfl, by kernel_rfl⟩, ⟨by kernel_rfl, by kernel_rfl⟩, ⟨by kernel_rfl, by kernel_rfl⟩, ⟨by kernel_rfl, by kernel_rfl⟩, ⟨by kernel_rfl, by kernel_rfl⟩, ⟨by kernel_rfl, by kernel_rfl⟩, ⟨by kernel_rfl, by kernel_rfl⟩, ⟨by kernel_rfl, by kernel_rfl⟩, ⟨by kernel_rfl, by kernel_rfl⟩, ⟨by kernel_rfl, by kernel_rfl⟩, trivial⟩
theorem moL7 : Try.prog.follows .mixedOrders = true := by kernel_rfl
/-! recordlink/recordlinklaw25.WeightBounds -/
noncomputable def rl_law25_WeightBounds_l2 (y7 : Int) (x19 : Int) (x20 : Int) : Option ((Int × Int) ⊕ Int) := if (decide (x20 < (i64.wrap (1 + y7)))) = true then (some (.inl (i64.wrap (x19 * 3), i64.wrap (x20 + 1)))) else (some (.inr x19))
noncomputable def rl_law25_WeightBounds_k5 (x29 : Int) (x41 : Bool) (x42 : Bool) : Option ((Bool × Bool × Int) ⊕ ((Bool × Bool) ⊕ Unit)) := some (.inl (x41, x42, i64.wrap (x29 + 1)))
noncomputable def rl_law25_WeightBounds_k4 (y13 : Int) (y14 : Int) (x27 : Bool) (x28 : Bool) (x29 : Int) (y33 : Int) (x39 : Bool) : Option ((Bool × Bool × Int) ⊕ ((Bool × Bool) ⊕ Unit)) := if x39 = true then (some (.inr (.inr ()))) else (if x27 = true then (if x28 = true then (rl_law25_WeightBounds_k5 x29 true true) else (rl_law25_WeightBounds_k5 x29 true (y33 == y14))) else (if x28 = true then (rl_law25_WeightBounds_k5 x29 (y33 == y13) true) else (rl_law25_WeightBounds_k5 x29 (y33 == y13) (y33 == y14))))
noncomputable def rl_law25_WeightBounds_l3 (y10 : S_api_Weights) (y13 : Int) (y14 : Int) (x23 : Int) (x27 : Bool) (x28 : Bool) (x29 : Int) : Option ((Bool × Bool × Int) ⊕ ((Bool × Bool) ⊕ Unit)) := if (decide (x29 < x23)) = true then (bind2 (weight_Score y10 x29) fun y33 y34 => (bind2 (weight_Best y10 x29) fun y36 y37 => (if (y34 != 0) = true then (rl_law25_WeightBounds_k4 y13 y14 x27 x28 x29 y33 true) else (if (y37 != 0) = true then (rl_law25_WeightBounds_k4 y13 y14 x27 x28 x29 y33 true) else (if (decide (y33 < y13)) = true then (rl_law25_WeightBounds_k4 y13 y14 x27 x28 x29 y33 true) else (if (decide (y33 > y14)) = true then (rl_law25_WeightBounds_k4 y13 y14 x27 x28 x29 y33 true) else (if (decide (y36 < y33)) = true then (rl_law25_WeightBounds_k4 y13 y14 x27 x28 x29 y33 true) else (rl_law25_WeightBounds_k4 y13 y14 x27 x28 x29 y33 (decide (y36 > y14)))))))))) else (some (.inr (.inl (x27, x28))))
noncomputable def rl_law25_WeightBounds_k6 (x53 : Bool) : Option Bool := some x53
noncomputable def rl_law25_WeightBounds_a7 (y15 : Int) (x51 : Bool) (x52 : Bool) : Option Bool := if (y15 == 0) = true then (if x51 = true then (rl_law25_WeightBounds_k6 x52) else (rl_law25_WeightBounds_k6 false)) else (rl_law25_WeightBounds_k6 false)
noncomputable def rl_law25_WeightBounds_a8 : Option Bool := some false
noncomputable def rl_law25_WeightBounds_k1 (p0 : List Int) (x1 : Bool) : Option Bool := if x1 = true then ((rl_law25_awake).bind fun y3 => (some y3)) else ((rl_make_New p0).bind fun y5 => (bind2 (rl_make_Deck_Next y5 4) fun y7 y8 => (bind2 (rl_play_Weights y8 (i64.wrap (1 + y7))) fun y10 y11 => (bind3 (weight_Bounds y10) fun y13 y14 y15 => ((loop (fun v : Int × Int => rl_law25_WeightBounds_l2 y7 v.1 v.2) (1, 0)).bind fun x23 => (bindE (loop (fun v : Bool × Bool × Int => rl_law25_WeightBounds_l3 y10 y13 y14 x23 v.1 v.2.1 v.2.2) (false, false, 0)) (fun t => rl_law25_WeightBounds_a7 y15 t.1 t.2) (fun t => rl_law25_WeightBounds_a8)))))))
noncomputable def rl_law25_WeightBounds (p0 : List Int) : Option Bool := (rl_law25_awake).bind fun y58 => (if (!y58) = true then (rl_law25_WeightBounds_k1 p0 true) else ((rl_make_Few p0).bind fun y61 => (rl_law25_WeightBounds_k1 p0 (!y61))))
set_option maxRecDepth 100000 in
theorem rl_law25_WeightBounds_con (p0 : List Int) (r : Bool) (h : rl_law25_WeightBounds p0 = some r) : Con Try.prog 7 [vl 1 Ri64 p0] [] (vb r) [] := by
 refine con_of tt_okL7 0 Try.func7 (by kernel_rfl) rfl (by kernel_rfl) (fun base X _ => AW.post ?_)
 unfold rl_law25_WeightBounds at h
 refine AW.sg tt_okL7 [] [] [] 1 [] (by kernel_rfl) ?_
 refine AW.seq (AW.seq ?_)
 refine AW.join (ι := Bool) (fun v => ⟨[(0, vl 1 Ri64 p0), (24, vb v)], [], 0⟩) (fun v : Bool => rl_law25_WeightBounds_k1 p0 v = some r) (fun x1 h => ?_) ?_
 ·
  unfold rl_law25_WeightBounds_k1 at h
  refine AW.tn ?_
  refine AW.co h (by kernel_rfl) (fun c2 h => ?_) (fun c2 h => ?_)
  ·
   obtain ⟨y3, e4, h⟩ := bnd_some h
   refine AW.sg tt_okL7 [(2, vb y3)] [] [] 1 [hk (rl_law25_awake_con y3 e4)] (by kernel_rfl) ?_
   refine AW.ret (AW.tr ?_)
   obtain rfl := some_inj h
   exact fn0 (.inr rfl) [] 0 (vb y3) (by kernel_rfl)
  ·
   refine AW.skip (AW.tn ?_)
   obtain ⟨y5, e6, h⟩ := bnd_some h
   refine AW.sg tt_okL7 [(3, .c (.ptr 1 3 0 0))] [1] [(1, .box 60 [cl 1 Ri64 y5.list, ci64 y5.at_, cu64 y5.state])] 3 [hn, hl [] [] 1 (rl_make_New_con p0 y5 e6)] (by kernel_rfl) ?_
   obtain ⟨y7, y8, e9, h⟩ := bind2_some h
   refine AW.sg tt_okL7 [(4, vi64 (i64.wrap (1 + y7)))] [1] [(1, .box 60 [cl 1 Ri64 y8.list, ci64 y8.at_, cu64 y8.state])] 6 [hn, hl [1] [] 0 (rl_make_Deck_Next_con y5 4 (y7, y8) e9)] (by kernel_rfl) ?_
   obtain ⟨y10, y11, e12, h⟩ := bind2_some h
   refine AW.sg tt_okL7 [(5, .c (.ptr 10 3 0 0))] [1, 8, 9, 10] [(10, .box 40 [ci64 y10.Prior, .ref 8 1 0 y10.Agree.length, .ref 9 1 0 y10.Differ.length]), (8, .row 3 false 1 y10.Agree.length (Ri64 y10.Agree)), (9, .row 3 false 1 y10.Differ.length (Ri64 y10.Differ))] 12 [hn, hn, hl [1] [] 2 (rl_play_Weights_con y8 (i64.wrap (1 + y7)) (y10, y11) e12)] (by kernel_rfl) ?_
   obtain ⟨y13, y14, y15, e16, h⟩ := bind3_some h
   refine AW.sg tt_okL7 [(8, vi64 y15), (7, vi64 y14), (6, vi64 y13)] [] [] 20 [hn, hg [] [] true 0 (q := ((True) ∧ (0 + y10.Agree.length ≤ y10.Agree.length) ∧ (0 + y10.Differ.length ≤ y10.Differ.length) ∧ (True)) ∧ (True)) ⟨⟨tv, le0, le0, tv⟩, tv⟩ (a0 := [.agg [ci64 y10.Prior, cl 1 Ri64 y10.Agree, cl 1 Ri64 y10.Differ]]) (weight_Bounds_con y10 (y13, y14, y15) e16) ⟨ArgLe.refl _, tv⟩ (fun _ => tv)] (by kernel_rfl) ?_
   refine AW.sg tt_okL7 [(10, vb false), (9, vb false)] [] [] 22 [] (by kernel_rfl) ?_
   refine AW.sg tt_okL7 [(11, vi64 1)] [] [] 23 [] (by kernel_rfl) ?_
   refine AW.seq ?_
   refine AW.sg tt_okL7 [(12, vi64 0)] [] [] 24 [] (by kernel_rfl) ?_
   refine AW.block ?_
   obtain ⟨x23, l57, h⟩ := bnd_some h
   refine AW.lp l57 (fun v => ⟨[(4, vi64 (i64.wrap (1 + y7))), (5, .c (.ptr 0 3 0 0)), (6, vi64 y13), (7, vi64 y14), (8, vi64 y15), (9, vb false), (10, vb false), (11, vi64 v.1), (12, vi64 v.2)], [(0, .box 40 [ci64 y10.Prior, .ref 1 1 0 y10.Agree.length, .ref 2 1 0 y10.Differ.length]), (1, .row 3 false 1 y10.Agree.length (Ri64 y10.Agree)), (2, .row 3 false 1 y10.Differ.length (Ri64 y10.Differ))], 3⟩) (fun t : Int => (.exit 0, ⟨[(5, .c (.ptr 0 3 0 0)), (6, vi64 y13), (7, vi64 y14), (8, vi64 y15), (9, vb false), (10, vb false), (11, vi64 t)], [(0, .box 40 [ci64 y10.Prior, .ref 1 1 0 y10.Agree.length, .ref 2 1 0 y10.Differ.length]), (1, .row 3 false 1 y10.Agree.length (Ri64 y10.Agree)), (2, .row 3 false 1 y10.Differ.length (Ri64 y10.Differ))], 3⟩)) (conv_re [(0, 10), (1, 8), (2, 9)] (by kernel_rfl)) (fun _ => tv) ?_ ?_
   ·
    clear l57 h
    intro v o h
    obtain ⟨x19, x20⟩ := v
    replace h : rl_law25_WeightBounds_l2 y7 x19 x20 = some o := h
    unfold rl_law25_WeightBounds_l2 at h
    refine AW.seq ?_
    refine AW.sg tt_okL7 [(42, vb (decide (x20 < (i64.wrap (1 + y7)))))] [] [] 6 [] (by kernel_rfl) ?_
    refine AW.co h (by kernel_rfl) (fun c22 h => ?_) (fun c22 h => ?_)
    ·
     refine AW.skip (AW.tn ?_)
     refine AW.seq (AW.block ?_)
     refine AW.rg tt_okL7 [(11, vi64 (i64.wrap (x19 * 3)))] [] [] 9 [] (by kernel_rfl) ?_
     refine AW.inBlock_normal (AW.tn ?_)
     refine AW.rg tt_okL7 [(12, vi64 (i64.wrap (x20 + 1)))] [] [] 12 [] (by kernel_rfl) ?_
     exact lpn h (conv_re [(0, 0), (1, 1), (2, 2)] (by kernel_rfl))
    ·
     refine AW.exit (AW.thenQ_exit ?_)
     exact lpo h rfl (conv_re [(0, 0), (1, 1), (2, 2)] (by kernel_rfl))
   ·
    show (_ : Exit → St → Prop) (.exit 0) _
    refine AW.inBlock_hit (AW.tn (AW.seq ?_))
    refine AW.sg tt_okL7 [(13, vi64 0)] [] [] 4 [] (by kernel_rfl) ?_
    refine AW.block ?_
    refine AW.lpE h (fun v => ⟨[(5, .c (.ptr 0 3 0 0)), (6, vi64 y13), (7, vi64 y14), (8, vi64 y15), (9, vb v.1), (10, vb v.2.1), (11, vi64 x23), (13, vi64 v.2.2)], [(0, .box 40 [ci64 y10.Prior, .ref 1 1 0 y10.Agree.length, .ref 2 1 0 y10.Differ.length]), (1, .row 3 false 1 y10.Agree.length (Ri64 y10.Agree)), (2, .row 3 false 1 y10.Differ.length (Ri64 y10.Differ))], 3⟩) (fun t => (.exit 2, ⟨[(8, vi64 y15), (9, vb t.1), (10, vb t.2)], [], 0⟩)) (fun t => (.ret, ⟨[(2, vb false)], [], 0⟩)) (conv_re [(0, 0), (1, 1), (2, 2)] (by kernel_rfl)) (fun _ => tv) (fun _ => tv) ?_ (fun t h => ?_) (fun t h => ?_)
    ·
     clear h
     intro v o h
     obtain ⟨x27, x28, x29⟩ := v
     replace h : rl_law25_WeightBounds_l3 y10 y13 y14 x23 x27 x28 x29 = some o := h
     unfold rl_law25_WeightBounds_l3 at h
     refine AW.seq ?_
     refine AW.sg tt_okL7 [(49, vb (decide (x29 < x23)))] [] [] 6 [] (by kernel_rfl) ?_
     refine AW.co h (by kernel_rfl) (fun c32 h => ?_) (fun c32 h => ?_)
     ·
      refine AW.skip (AW.tn ?_)
      refine AW.seq (AW.block ?_)
      obtain ⟨y33, y34, e35, h⟩ := bind2_some h
      refine AW.sg tt_okL7 [(15, vi64 y34), (14, vi64 y33)] [] [] 13 [hn, hn, hg [] [] true 0 (q := ((True) ∧ (0 + y10.Agree.length ≤ y10.Agree.length) ∧ (0 + y10.Differ.length ≤ y10.Differ.length) ∧ (True)) ∧ (True) ∧ (True)) ⟨⟨tv, le0, le0, tv⟩, tv, tv⟩ (a0 := [.agg [ci64 y10.Prior, cl 1 Ri64 y10.Agree, cl 1 Ri64 y10.Differ], vi64 x29]) (weight_Score_con y10 x29 (y33, y34) e35) ⟨ArgLe.refl _, ArgLe.refl _, tv⟩ (fun _ => tv)] (by kernel_rfl) ?_
      obtain ⟨y36, y37, e38, h⟩ := bind2_some h
      refine AW.sg tt_okL7 [(17, vi64 y37), (16, vi64 y36)] [] [] 20 [hn, hn, hg [] [] true 0 (q := ((True) ∧ (0 + y10.Agree.length ≤ y10.Agree.length) ∧ (0 + y10.Differ.length ≤ y10.Differ.length) ∧ (True)) ∧ (True) ∧ (True)) ⟨⟨tv, le0, le0, tv⟩, tv, tv⟩ (a0 := [.agg [ci64 y10.Prior, cl 1 Ri64 y10.Agree, cl 1 Ri64 y10.Differ], vi64 x29]) (weight_Best_con y10 x29 (y36, y37) e38) ⟨ArgLe.refl _, ArgLe.refl _, tv⟩ (fun _ => tv)] (by kernel_rfl) ?_
      refine AW.seq (AW.seq ?_)
      refine AW.join (ι := Bool) (fun v => ⟨[(5, .c (.ptr 0 3 0 0)), (6, vi64 y13), (7, vi64 y14), (8, vi64 y15), (9, vb x27), (10, vb x28), (11, vi64 x23), (13, vi64 x29), (14, vi64 y33), (89, vb v)], [(0, .box 40 [ci64 y10.Prior, .ref 1 1 0 y10.Agree.length, .ref 2 1 0 y10.Differ.length]), (1, .row 3 false 1 y10.Agree.length (Ri64 y10.Agree)), (2, .row 3 false 1 y10.Differ.length (Ri64 y10.Differ))], 3⟩) (fun v : Bool => rl_law25_WeightBounds_k4 y13 y14 x27 x28 x29 y33 v = some o) (fun x39 h => ?_) ?_
      ·
       unfold rl_law25_WeightBounds_k4 at h
       refine AW.tn ?_
       refine AW.co h (by kernel_rfl) (fun c40 h => ?_) (fun c40 h => ?_)
       ·
        refine AW.sg tt_okL7 [(2, vb false)] [] [] 4 [] (by kernel_rfl) ?_
        refine AW.ret (AW.tr ?_)
        refine AW.inBlock_ret (AW.tr ?_)
        exact lpo h rfl (conv_re [] (by kernel_rfl))
       ·
        refine AW.skip (AW.tn ?_)
        refine AW.join (ι := Bool × Bool) (fun v => ⟨[(5, .c (.ptr 0 3 0 0)), (6, vi64 y13), (7, vi64 y14), (8, vi64 y15), (9, vb v.1), (10, vb v.2), (11, vi64 x23), (13, vi64 x29)], [(0, .box 40 [ci64 y10.Prior, .ref 1 1 0 y10.Agree.length, .ref 2 1 0 y10.Differ.length]), (1, .row 3 false 1 y10.Agree.length (Ri64 y10.Agree)), (2, .row 3 false 1 y10.Differ.length (Ri64 y10.Differ))], 3⟩) (fun v : Bool × Bool => rl_law25_WeightBounds_k5 x29 v.1 v.2 = some o) (fun v h => ?_) ?_
        ·
         obtain ⟨x41, x42⟩ := v
         replace h : rl_law25_WeightBounds_k5 x29 x41 x42 = some o := h
         unfold rl_law25_WeightBounds_k5 at h
         refine AW.inBlock_normal (AW.tn ?_)
         refine AW.rg tt_okL7 [(13, vi64 (i64.wrap (x29 + 1)))] [] [] 6 [] (by kernel_rfl) ?_
         exact lpn h (conv_re [(0, 0), (1, 1), (2, 2)] (by kernel_rfl))
        ·
         rcases ifs h with ⟨c43, hs⟩ | ⟨c43, hs⟩
         ·clear h; subst c43; have h := hs; clear hs
          rcases ifs h with ⟨c44, hs⟩ | ⟨c44, hs⟩
          ·clear h; subst c44; have h := hs; clear hs
           refine AW.rg tt_okL7 [(10, vb true), (9, vb true)] [] [] 17 [] (by kernel_rfl) ?_
           exact jl (true, true) h (conv_re [(0, 0), (1, 1), (2, 2)] (by kernel_rfl))
          ·clear h; subst c44; have h := hs; clear hs
           refine AW.rg tt_okL7 [(10, vb (y33 == y14)), (9, vb true)] [] [] 17 [] (by kernel_rfl) ?_
           exact jl (true, (y33 == y14)) h (conv_re [(0, 0), (1, 1), (2, 2)] (by kernel_rfl))
         ·clear h; subst c43; have h := hs; clear hs
          rcases ifs h with ⟨c45, hs⟩ | ⟨c45, hs⟩
          ·clear h; subst c45; have h := hs; clear hs
           refine AW.rg tt_okL7 [(10, vb true), (9, vb (y33 == y13))] [] [] 17 [] (by kernel_rfl) ?_
           exact jl ((y33 == y13), true) h (conv_re [(0, 0), (1, 1), (2, 2)] (by kernel_rfl))
          ·clear h; subst c45; have h := hs; clear hs
           refine AW.rg tt_okL7 [(10, vb (y33 == y14)), (9, vb (y33 == y13))] [] [] 17 [] (by kernel_rfl) ?_
           exact jl ((y33 == y13), (y33 == y14)) h (conv_re [(0, 0), (1, 1), (2, 2)] (by kernel_rfl))
      ·
       rcases ifs h with ⟨c46, h⟩ | ⟨c46, h⟩
       ·
        refine AW.rg tt_okL7 [(89, vb true)] [] [] 46 [hn, ht c46] (by kernel_rfl) ?_
        exact jl true h (conv_re [(0, 0), (1, 1), (2, 2)] (by kernel_rfl))
       ·
        rcases ifs h with ⟨c47, h⟩ | ⟨c47, h⟩
        ·
         refine AW.rg tt_okL7 [(89, vb true)] [] [] 46 [hn, hf c46, hn, hn, ht c47] (by kernel_rfl) ?_
         exact jl true h (conv_re [(0, 0), (1, 1), (2, 2)] (by kernel_rfl))
        ·
         rcases ifs h with ⟨c48, h⟩ | ⟨c48, h⟩
         ·
          refine AW.rg tt_okL7 [(89, vb true)] [] [] 46 [hn, hf c46, hn, hn, hf c47, hn, hn, hn, hn, ht c48] (by kernel_rfl) ?_
          exact jl true h (conv_re [(0, 0), (1, 1), (2, 2)] (by kernel_rfl))
         ·
          rcases ifs h with ⟨c49, h⟩ | ⟨c49, h⟩
          ·
           refine AW.rg tt_okL7 [(89, vb true)] [] [] 46 [hn, hf c46, hn, hn, hf c47, hn, hn, hn, hn, hf c48, hn, hn, hn, hn, ht c49] (by kernel_rfl) ?_
           exact jl true h (conv_re [(0, 0), (1, 1), (2, 2)] (by kernel_rfl))
          ·
           rcases ifs h with ⟨c50, h⟩ | ⟨c50, h⟩
           ·
            refine AW.rg tt_okL7 [(89, vb true)] [] [] 46 [hn, hf c46, hn, hn, hf c47, hn, hn, hn, hn, hf c48, hn, hn, hn, hn, hf c49, hn, hn, hn, hn, ht c50] (by kernel_rfl) ?_
            exact jl true h (conv_re [(0, 0), (1, 1), (2, 2)] (by kernel_rfl))
           ·
            refine AW.rg tt_okL7 [(89, vb (decide (y36 > y14)))] [] [] 46 [hn, hf c46, hn, hn, hf c47, hn, hn, hn, hn, hf c48, hn, hn, hn, hn, hf c49, hn, hn, hn, hn, hf c50] (by kernel_rfl) ?_
            exact jl (decide (y36 > y14)) h (conv_re [(0, 0), (1, 1), (2, 2)] (by kernel_rfl))
     ·
      refine AW.exit (AW.thenQ_exit ?_)
      exact lpo h rfl (conv_re [] (by kernel_rfl))
    ·
     obtain ⟨x51, x52⟩ := t
     replace h : rl_law25_WeightBounds_a7 y15 x51 x52 = some r := h
     unfold rl_law25_WeightBounds_a7 at h
     show (_ : Exit → St → Prop) (.exit 2) _
     refine AW.inBlock_hit (AW.tn (AW.seq ?_))
     refine AW.join (ι := Bool) (fun v => ⟨[(2, vb v)], [], 0⟩) (fun v : Bool => rl_law25_WeightBounds_k6 v = some r) (fun x53 h => ?_) ?_
     ·
      unfold rl_law25_WeightBounds_k6 at h
      refine AW.tn (AW.ret ?_)
      obtain rfl := some_inj h
      exact fn0 (.inr rfl) [] 0 (vb x53) (by kernel_rfl)
     ·
      rcases ifs h with ⟨c54, h⟩ | ⟨c54, h⟩
      ·
       rcases ifs h with ⟨c55, hs⟩ | ⟨c55, hs⟩
       ·clear h; subst c55; have h := hs; clear hs
        refine AW.rg tt_okL7 [(2, vb x52)] [] [] 9 [hn, ht c54] (by kernel_rfl) ?_
        exact jl x52 h (conv_re [] (by kernel_rfl))
       ·clear h; subst c55; have h := hs; clear hs
        refine AW.rg tt_okL7 [(2, vb false)] [] [] 9 [hn, ht c54] (by kernel_rfl) ?_
        exact jl false h (conv_re [] (by kernel_rfl))
      ·
       refine AW.rg tt_okL7 [(2, vb false)] [] [] 9 [hn, hf c54] (by kernel_rfl) ?_
       exact jl false h (conv_re [] (by kernel_rfl))
    ·
     replace h : rl_law25_WeightBounds_a8 = some r := h
     unfold rl_law25_WeightBounds_a8 at h
     show (_ : Exit → St → Prop) (.ret) _
     refine AW.inBlock_ret (AW.tr ?_)
     obtain rfl := some_inj h
     exact fn0 (.inr rfl) [] 0 (vb false) (by kernel_rfl)
 ·
  obtain ⟨y58, e59, h⟩ := bnd_some h
  rcases ifs h with ⟨c60, h⟩ | ⟨c60, h⟩
  ·
   refine AW.rg tt_okL7 [(24, vb true)] [] [] 7 [hk (rl_law25_awake_con y58 e59), ht c60] (by kernel_rfl) ?_
   exact jl true h (conv_re [] (by kernel_rfl))
  ·
   obtain ⟨y61, e62, h⟩ := bnd_some h
   refine AW.rg tt_okL7 [(24, vb (!y61))] [] [] 6 [hk (rl_law25_awake_con y58 e59), hf c60, hn, hn, hk (rl_make_Few_con p0 y61 e62)] (by kernel_rfl) ?_
   exact jl (!y61) h (conv_re [] (by kernel_rfl))
end Go.Proofs.Ytafmpnilgknfhaa
