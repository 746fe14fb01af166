/- Printed by a program of mine (vmgen.py): Go functions, and what they come to. -/
import Derived.Test.YtnfikddgjkfflaaVr
import Derived.Test.YtnfikddgjkfflaaRows
import Derived.Test.YtnfikddgjkfflaaG1
namespace Go.Proofs.Ytnfikddgjkfflaa
open Vm
open IntKind (i64 u64 u32 u8)
set_option maxHeartbeats 10000000
set_option linter.unusedVariables false
set_option linter.unusedSimpArgs false
set_option linter.constructorNameAsVariable false
def ttlL4 : List (Nat × TI) := [(3, ⟨.int .i64, 1, 8, [.int .i64 0]⟩), (4, ⟨.bool, 1, 1, [.bool false]⟩), (5, ⟨.int .u8, 1, 1, [.int .u8 0]⟩), (9, ⟨.str, 1, 16, [.string ⟨#[]⟩]⟩), (22, ⟨.slice 3, 1, 24, [.slice none 0 0]⟩), (25, ⟨.ptr 55, 1, 8, [.pointer none]⟩), (27, ⟨.slice 52, 1, 24, [.slice none 0 0]⟩), (28, ⟨.slice 52, 1, 24, [.slice none 0 0]⟩), (30, ⟨.struct [(28, 0), (28, 1)], 2, 48, [.slice none 0 0, .slice none 0 0]⟩), (32, ⟨.int .i64, 1, 8, [.int .i64 0]⟩), (52, ⟨.int .u32, 1, 4, [.int .u32 0]⟩), (53, ⟨.int .u64, 1, 8, [.int .u64 0]⟩), (55, ⟨.struct [(22, 0), (3, 1), (53, 2)], 3, 40, [.slice none 0 0, .int .i64 0, .int .u64 0]⟩), (62, ⟨.struct [(28, 0), (32, 1)], 2, 32, [.slice none 0 0, .int .i64 0]⟩), (81, ⟨.slice 62, 1, 24, [.slice none 0 0]⟩)]
theorem tt_okL4 : TTok Try.prog (Vm.look ttlL4) := ttok_of ⟨⟨by kernel_rfl, by kernel_rfl⟩, ⟨by kernel_rfl, by kernel_rfl⟩, ⟨by kernel_rfl, by kernel_rfl⟩, ⟨by kernel_rfl, by kernel_rfl⟩, ⟨by kernel_rfl, by kernel_rfl⟩, ⟨by kernel_rfl, by kernel_rfl⟩, ⟨by kernel_rfl, by kernel_rfl⟩, ⟨by kernel_rfl, by kernel_rfl⟩, ⟨by kernel_rfl, by kernel_rfl⟩, ⟨by kernel_rfl, by kernel_rfl⟩, ⟨by kernel_rfl, by kernel_rfl⟩, ⟨by kernel_rfl, by kernel_rfl⟩, ⟨by kernel_rfl, by kernel_rfl⟩, ⟨by kernel_rfl, by kernel_rfl⟩, ⟨by kernel_rfl, by kernel_rfl⟩, trivial⟩
theorem moL4 : Try.prog.follows .mixedOrders = true := by kernel_rfl
/-! recordlink/recordlinklaw11.RationalReduced -/
noncomputable def rl_law11_RationalReduced_k3 (x30 : Bool) : Option Bool := some x30
noncomputable def rl_law11_RationalReduced_k4 (x32 : Bool) : Option Bool := some x32
noncomputable def rl_law11_RationalReduced_k2 (y10 : List Int) (y22 : S_api_Rational) (y23 : Int) (y25 : S_api_Rational) (y26 : Int) (x28 : Bool) : Option Bool := if x28 = true then (if (y26 == 9) = true then (rl_law11_RationalReduced_k3 ((decide ((y10.length : Int) > 0)) == (y23 == 0))) else (rl_law11_RationalReduced_k3 false)) else (if (y23 == 0) = true then (if (y26 == 0) = true then ((rl_ref11_Same y22 y25).bind fun y35 => (if y35 = true then ((rational_Valid y22).bind fun y38 => (rl_law11_RationalReduced_k4 y38)) else (rl_law11_RationalReduced_k4 false))) else (rl_law11_RationalReduced_k4 false)) else (rl_law11_RationalReduced_k4 false))
noncomputable def rl_law11_RationalReduced_k1 (p0 : List Int) (x1 : Bool) : Option Bool := if x1 = true then ((rl_law11_awake).bind fun y3 => (some y3)) else ((rl_make_New p0).bind fun y5 => (bind2 (rl_make_Deck_Natural y5 3) fun y7 y8 => (bind2 (rl_make_Deck_Natural y8 3) fun y10 y11 => (bind2 (rl_make_Deck_Natural y11 2) fun y13 y14 => (bind2 (rl_ref10_Mul y7 y13) fun y16 y17 => (bind2 (rl_ref10_Mul y10 y13) fun y19 y20 => (bind2 (rational_Make y7 y10) fun y22 y23 => (bind2 (rational_Make y16 y19) fun y25 y26 => (if ((y10.length : Int) == 0) = true then (rl_law11_RationalReduced_k2 y10 y22 y23 y25 y26 true) else (rl_law11_RationalReduced_k2 y10 y22 y23 y25 y26 ((y13.length : Int) == 0)))))))))))
noncomputable def rl_law11_RationalReduced (p0 : List Int) : Option Bool := (rl_law11_awake).bind fun y41 => (if (!y41) = true then (rl_law11_RationalReduced_k1 p0 true) else ((rl_make_Few p0).bind fun y44 => (rl_law11_RationalReduced_k1 p0 (!y44))))
set_option maxRecDepth 100000 in
theorem rl_law11_RationalReduced_con (p0 : List Int) (r : Bool) (h : rl_law11_RationalReduced p0 = some r) : Con Try.prog 4 [vl 1 Ri64 p0] [] (vb r) [] := by
 refine con_of tt_okL4 0 Try.func4 (by kernel_rfl) rfl (by kernel_rfl) (fun base X _ => AW.post ?_)
 unfold rl_law11_RationalReduced at h
 refine AW.sg tt_okL4 [] [] [] 1 [] (by kernel_rfl) ?_
 refine AW.seq (AW.seq ?_)
 refine AW.join (ι := Bool) (fun v => ⟨[(0, vl 1 Ri64 p0), (21, vb v)], [], 0⟩) (fun v : Bool => rl_law11_RationalReduced_k1 p0 v = some r) (fun x1 h => ?_) ?_
 ·
  unfold rl_law11_RationalReduced_k1 at h
  refine AW.tn ?_
  refine AW.co h (by kernel_rfl) (fun c2 h => ?_) (fun c2 h => ?_)
  ·
   obtain ⟨y3, e4, h⟩ := bnd_some h
   refine AW.sg tt_okL4 [(2, vb y3)] [] [] 1 [hk (rl_law11_awake_con y3 e4)] (by kernel_rfl) ?_
   refine AW.ret (AW.tr ?_)
   obtain rfl := some_inj h
   exact fn0 (.inr rfl) [] 0 (vb y3) (by kernel_rfl)
  ·
   refine AW.skip (AW.tn ?_)
   obtain ⟨y5, e6, h⟩ := bnd_some h
   refine AW.sg tt_okL4 [(3, .c (.ptr 1 3 0 0))] [1] [(1, .box 55 [cl 1 Ri64 y5.list, ci64 y5.at_, cu64 y5.state])] 3 [hn, hl [] [] 1 (rl_make_New_con p0 y5 e6)] (by kernel_rfl) ?_
   obtain ⟨y7, y8, e9, h⟩ := bind2_some h
   obtain ⟨y10, y11, e12, h⟩ := bind2_some h
   obtain ⟨y13, y14, e15, h⟩ := bind2_some h
   refine AW.sg tt_okL4 [(6, .c (.ref 8 1 0 y13.length)), (5, .c (.ref 6 1 0 y10.length)), (4, .c (.ref 4 1 0 y7.length))] [1, 4, 6, 8] [(8, .row 52 false 1 y13.length (Ru32 y13)), (6, .row 52 false 1 y10.length (Ru32 y10)), (4, .row 52 false 1 y7.length (Ru32 y7))] 12 [hn, hl [1] [] 1 (rl_make_Deck_Natural_con y5 3 (y7, y8) e9), hn, hl [1] [] 1 (rl_make_Deck_Natural_con y8 3 (y10, y11) e12), hn, hl [1] [] 1 (rl_make_Deck_Natural_con y11 2 (y13, y14) e15)] (by kernel_rfl) ?_
   obtain ⟨y16, y17, e18, h⟩ := bind2_some h
   refine AW.sg tt_okL4 [(7, vl 1 Ru32 y16)] [4, 8] [(4, .row 52 true 1 y7.length (Ru32 y7)), (8, .row 52 true 1 y13.length (Ru32 y13))] 19 [hn, hn, hg [] [4, 8] false 0 (q := (0 + y7.length ≤ y7.length) ∧ (0 + y13.length ≤ y13.length) ∧ (True)) ⟨le0, le0, tv⟩ (a0 := [vl 1 Ru32 y7, vl 1 Ru32 y13]) (rl_ref10_Mul_con y7 y13 (y16, y17) e18) ⟨ArgLe.refl _, ArgLe.refl _, tv⟩ (fun h => by cases h)] (by kernel_rfl) ?_
   obtain ⟨y19, y20, e21, h⟩ := bind2_some h
   refine AW.sg tt_okL4 [(9, vl 1 Ru32 y19)] [6] [(6, .row 52 true 1 y10.length (Ru32 y10))] 26 [hn, hn, hg [] [6] false 0 (q := (0 + y10.length ≤ y10.length) ∧ (0 + y13.length ≤ y13.length) ∧ (True)) ⟨le0, le0, tv⟩ (a0 := [vl 1 Ru32 y10, vl 1 Ru32 y13]) (rl_ref10_Mul_con y10 y13 (y19, y20) e21) ⟨ArgLe.refl _, ArgLe.refl _, tv⟩ (fun h => by cases h)] (by kernel_rfl) ?_
   obtain ⟨y22, y23, e24, h⟩ := bind2_some h
   refine AW.sg tt_okL4 [(12, vi64 y23), (11, .c (.ptr 31 2 0 0))] [31] [(31, .box 30 [cl 1 Ru32 y22.Num, cl 1 Ru32 y22.Den])] 34 [hn, hn, hg [] [] false 0 (q := (0 + y7.length ≤ y7.length) ∧ (0 + y10.length ≤ y10.length) ∧ (True)) ⟨le0, le0, tv⟩ (a0 := [vl 1 Ru32 y7, vl 1 Ru32 y10]) (rational_Make_con y7 y10 (y22, y23) e24) ⟨ArgLe.refl _, ArgLe.refl _, tv⟩ (fun h => by cases h)] (by kernel_rfl) ?_
   obtain ⟨y25, y26, e27, h⟩ := bind2_some h
   refine AW.sg tt_okL4 [(14, vi64 y26), (13, .c (.ptr 39 2 0 0))] [39] [(39, .box 30 [cl 1 Ru32 y25.Num, cl 1 Ru32 y25.Den])] 42 [hn, hn, hk (rational_Make_con y16 y19 (y25, y26) e27)] (by kernel_rfl) ?_
   refine AW.seq (AW.seq ?_)
   refine AW.join (ι := Bool) (fun v => ⟨[(5, vl 1 Ru32 y10), (11, .c (.ptr 0 2 0 0)), (12, vi64 y23), (13, .c (.ptr 1 2 0 0)), (14, vi64 y26), (62, vb v)], [(0, .box 30 [cl 1 Ru32 y22.Num, cl 1 Ru32 y22.Den]), (1, .box 30 [cl 1 Ru32 y25.Num, cl 1 Ru32 y25.Den])], 2⟩) (fun v : Bool => rl_law11_RationalReduced_k2 y10 y22 y23 y25 y26 v = some r) (fun x28 h => ?_) ?_
   ·
    unfold rl_law11_RationalReduced_k2 at h
    refine AW.tn ?_
    refine AW.co h (by kernel_rfl) (fun c29 h => ?_) (fun c29 h => ?_)
    ·
     refine AW.seq ?_
     refine AW.join (ι := Bool) (fun v => ⟨[(2, vb v)], [], 0⟩) (fun v : Bool => rl_law11_RationalReduced_k3 v = some r) (fun x30 h => ?_) ?_
     ·
      unfold rl_law11_RationalReduced_k3 at h
      refine AW.tn (AW.ret (AW.tr ?_))
      obtain rfl := some_inj h
      exact fn0 (.inr rfl) [] 0 (vb x30) (by kernel_rfl)
     ·
      rcases ifs h with ⟨c31, h⟩ | ⟨c31, h⟩
      ·
       refine AW.rg tt_okL4 [(2, vb ((decide ((y10.length : Int) > 0)) == (y23 == 0)))] [] [] 13 [hn, ht c31] (by kernel_rfl) ?_
       exact jl ((decide ((y10.length : Int) > 0)) == (y23 == 0)) h (conv_re [] (by kernel_rfl))
      ·
       refine AW.rg tt_okL4 [(2, vb false)] [] [] 13 [hn, hf c31] (by kernel_rfl) ?_
       exact jl false h (conv_re [] (by kernel_rfl))
    ·
     refine AW.skip (AW.tn (AW.seq ?_))
     refine AW.join (ι := Bool) (fun v => ⟨[(2, vb v)], [], 0⟩) (fun v : Bool => rl_law11_RationalReduced_k4 v = some r) (fun x32 h => ?_) ?_
     ·
      unfold rl_law11_RationalReduced_k4 at h
      refine AW.tn (AW.ret ?_)
      obtain rfl := some_inj h
      exact fn0 (.inr rfl) [] 0 (vb x32) (by kernel_rfl)
     ·
      rcases ifs h with ⟨c33, h⟩ | ⟨c33, h⟩
      ·
       rcases ifs h with ⟨c34, h⟩ | ⟨c34, h⟩
       ·
        obtain ⟨y35, e36, h⟩ := bnd_some h
        rcases ifs h with ⟨c37, hs⟩ | ⟨c37, hs⟩
        ·clear h; subst c37; have h := hs; clear hs
         obtain ⟨y38, e39, h⟩ := bnd_some h
         refine AW.rg tt_okL4 [(2, vb y38)] [] [] 16 [hn, ht c33, hn, hn, ht c34, hn, hn, hn, hn, hk (rl_ref11_Same_con y22 y25 true e36), hn, hn, hn, hk (rational_Valid_con y22 y38 e39)] (by kernel_rfl) ?_
         exact jl y38 h (conv_re [] (by kernel_rfl))
        ·clear h; subst c37; have h := hs; clear hs
         refine AW.rg tt_okL4 [(2, vb false)] [] [] 17 [hn, ht c33, hn, hn, ht c34, hn, hn, hn, hn, hk (rl_ref11_Same_con y22 y25 false e36)] (by kernel_rfl) ?_
         exact jl false h (conv_re [] (by kernel_rfl))
       ·
        refine AW.rg tt_okL4 [(2, vb false)] [] [] 18 [hn, ht c33, hn, hn, hf c34] (by kernel_rfl) ?_
        exact jl false h (conv_re [] (by kernel_rfl))
      ·
       refine AW.rg tt_okL4 [(2, vb false)] [] [] 18 [hn, hf c33] (by kernel_rfl) ?_
       exact jl false h (conv_re [] (by kernel_rfl))
   ·
    rcases ifs h with ⟨c40, h⟩ | ⟨c40, h⟩
    ·
     refine AW.rg tt_okL4 [(62, vb true)] [] [] 50 [hn, hn, ht c40] (by kernel_rfl) ?_
     exact jl true h (Conv.trans (conv_tms [(5, vl 1 Ru32 y10)] ⟨⟨.c (.ref 6 1 0 y10.length), by kernel_rfl, ALe.c (CLe.ref (ty := 52) (f := Ru32 y10) (by kernel_rfl) le0)⟩, tv⟩) (conv_re [(0, 31), (1, 39)] (by kernel_rfl)))
    ·
     refine AW.rg tt_okL4 [(62, vb ((y13.length : Int) == 0))] [] [] 50 [hn, hn, hf c40] (by kernel_rfl) ?_
     exact jl ((y13.length : Int) == 0) h (Conv.trans (conv_tms [(5, vl 1 Ru32 y10)] ⟨⟨.c (.ref 6 1 0 y10.length), by kernel_rfl, ALe.c (CLe.ref (ty := 52) (f := Ru32 y10) (by kernel_rfl) le0)⟩, tv⟩) (conv_re [(0, 31), (1, 39)] (by kernel_rfl)))
 ·
  obtain ⟨y41, e42, h⟩ := bnd_some h
  rcases ifs h with ⟨c43, h⟩ | ⟨c43, h⟩
  ·
   refine AW.rg tt_okL4 [(21, vb true)] [] [] 7 [hk (rl_law11_awake_con y41 e42), ht c43] (by kernel_rfl) ?_
   exact jl true h (conv_re [] (by kernel_rfl))
  ·
   obtain ⟨y44, e45, h⟩ := bnd_some h
   refine AW.rg tt_okL4 [(21, vb (!y44))] [] [] 6 [hk (rl_law11_awake_con y41 e42), hf c43, hn, hn, hk (rl_make_Few_con p0 y44 e45)] (by kernel_rfl) ?_
   exact jl (!y44) h (conv_re [] (by kernel_rfl))
end Go.Proofs.Ytnfikddgjkfflaa
