/- Printed by a program of mine (vmgen.py): Go functions, and what they come to. -/
import Derived.Test.YtnfikddgjkfflaaVr
import Derived.Test.YtnfikddgjkfflaaRows
import Derived.Test.YtnfikddgjkfflaaG1
namespace Go.Proofs.Ytnfikddgjkfflaa
open Vm
open IntKind (i64 u64 u32 u8)
set_option maxHeartbeats 10000000
set_option linter.unusedVariables false
set_option linter.unusedSimpArgs false
set_option linter.constructorNameAsVariable false
def ttlL6 : List (Nat × TI) := [(3, ⟨.int .i64, 1, 8, [.int .i64 0]⟩), (4, ⟨.bool, 1, 1, [.bool false]⟩), (5, ⟨.int .u8, 1, 1, [.int .u8 0]⟩), (9, ⟨.str, 1, 16, [.string ⟨#[]⟩]⟩), (22, ⟨.slice 3, 1, 24, [.slice none 0 0]⟩), (25, ⟨.ptr 55, 1, 8, [.pointer none]⟩), (27, ⟨.slice 52, 1, 24, [.slice none 0 0]⟩), (28, ⟨.slice 52, 1, 24, [.slice none 0 0]⟩), (30, ⟨.struct [(28, 0), (28, 1)], 2, 48, [.slice none 0 0, .slice none 0 0]⟩), (32, ⟨.int .i64, 1, 8, [.int .i64 0]⟩), (41, ⟨.int .u16, 1, 2, [.int .u16 0]⟩), (52, ⟨.int .u32, 1, 4, [.int .u32 0]⟩), (53, ⟨.int .u64, 1, 8, [.int .u64 0]⟩), (55, ⟨.struct [(22, 0), (3, 1), (53, 2)], 3, 40, [.slice none 0 0, .int .i64 0, .int .u64 0]⟩), (62, ⟨.struct [(28, 0), (32, 1)], 2, 32, [.slice none 0 0, .int .i64 0]⟩), (81, ⟨.slice 62, 1, 24, [.slice none 0 0]⟩)]
theorem tt_okL6 : TTok Try.prog (Vm.look ttlL6) := ttok_of ⟨⟨by kernel_rfl, by kernel_rfl⟩, ⟨by kernel_rfl, by kernel_rfl⟩, ⟨by kernel_rfl, by kernel_rfl⟩, ⟨by kernel_rfl, by kernel_rfl⟩, ⟨by kernel_rfl, by kernel_rfl⟩, ⟨by kernel_rfl, by kernel_rfl⟩, ⟨by kernel_rfl, by kernel_rfl⟩, ⟨by kernel_rfl, by kernel_rfl⟩, ⟨by kernel_rfl, by kernel_rfl⟩, ⟨by kernel_rfl, by kernel_rfl⟩, ⟨by kernel_rfl, by kernel_rfl⟩, ⟨by kernel_rfl, by kernel_rfl⟩, ⟨by kernel_rfl, by kernel_rfl⟩, ⟨by kernel_rfl, by kernel_rfl⟩, ⟨by kernel_rfl, by kernel_rfl⟩, ⟨by kernel_rfl, by kernel_rfl⟩, trivial⟩
theorem moL6 : Try.prog.follows .mixedOrders = true := by kernel_rfl
/-! recordlink/recordlinklaw11.RationalOrder -/
noncomputable def rl_law11_RationalOrder_k2 (x28 : Bool) : Option Bool := some x28
noncomputable def rl_law11_RationalOrder_k1 (p0 : List Int) (x1 : Bool) : Option Bool := if x1 = true then ((rl_law11_awake).bind fun y3 => (some y3)) else ((rl_make_New p0).bind fun y5 => (bind2 (rl_make_Deck_Rational y5 3) fun y7 y8 => (bind2 (rl_make_Deck_Rational y8 3) fun y10 y11 => (bind2 (rational_Compare y7 y10) fun y13 y14 => (bind2 (rational_Compare y10 y7) fun y16 y17 => (bind2 (rational_Sub y7 y10) fun y19 y20 => (bind2 (rational_Add y7 y10) fun y22 y23 => (bind2 (rational_Compare y22 y7) fun y25 y26 => (if (y14 == 0) = true then (if (y17 == 0) = true then (if (y23 == 0) = true then (if (y26 == 0) = true then (if (y13 == (i64.wrap (0 - y16))) = true then (if ((decide (y13 < 0)) == (y20 == 2)) = true then ((rl_ref11_Same y7 y10).bind fun y35 => (if ((y13 == 0) == y35) = true then (if ((y25 == 0) == (((y10.Num.length : Nat) : Int) == 0)) = true then (rl_law11_RationalOrder_k2 (decide (y25 ≥ 0))) else (rl_law11_RationalOrder_k2 false)) else (rl_law11_RationalOrder_k2 false))) else (rl_law11_RationalOrder_k2 false)) else (rl_law11_RationalOrder_k2 false)) else (rl_law11_RationalOrder_k2 false)) else (rl_law11_RationalOrder_k2 false)) else (rl_law11_RationalOrder_k2 false)) else (rl_law11_RationalOrder_k2 false))))))))))
noncomputable def rl_law11_RationalOrder (p0 : List Int) : Option Bool := (rl_law11_awake).bind fun y39 => (if (!y39) = true then (rl_law11_RationalOrder_k1 p0 true) else ((rl_make_Few p0).bind fun y42 => (rl_law11_RationalOrder_k1 p0 (!y42))))
set_option maxRecDepth 100000 in
theorem rl_law11_RationalOrder_con (p0 : List Int) (r : Bool) (h : rl_law11_RationalOrder p0 = some r) : Con Try.prog 6 [vl 1 Ri64 p0] [] (vb r) [] := by
 refine con_of tt_okL6 0 Try.func6 (by kernel_rfl) rfl (by kernel_rfl) (fun base X _ => AW.post ?_)
 unfold rl_law11_RationalOrder at h
 refine AW.sg tt_okL6 [] [] [] 1 [] (by kernel_rfl) ?_
 refine AW.seq (AW.seq ?_)
 refine AW.join (ι := Bool) (fun v => ⟨[(0, vl 1 Ri64 p0), (22, vb v)], [], 0⟩) (fun v : Bool => rl_law11_RationalOrder_k1 p0 v = some r) (fun x1 h => ?_) ?_
 ·
  unfold rl_law11_RationalOrder_k1 at h
  refine AW.tn ?_
  refine AW.co h (by kernel_rfl) (fun c2 h => ?_) (fun c2 h => ?_)
  ·
   obtain ⟨y3, e4, h⟩ := bnd_some h
   refine AW.sg tt_okL6 [(2, vb y3)] [] [] 1 [hk (rl_law11_awake_con y3 e4)] (by kernel_rfl) ?_
   refine AW.ret (AW.tr ?_)
   obtain rfl := some_inj h
   exact fn0 (.inr rfl) [] 0 (vb y3) (by kernel_rfl)
  ·
   refine AW.skip (AW.tn ?_)
   obtain ⟨y5, e6, h⟩ := bnd_some h
   refine AW.sg tt_okL6 [(3, .c (.ptr 1 3 0 0))] [1] [(1, .box 55 [cl 1 Ri64 y5.list, ci64 y5.at_, cu64 y5.state])] 3 [hn, hl [] [] 1 (rl_make_New_con p0 y5 e6)] (by kernel_rfl) ?_
   obtain ⟨y7, y8, e9, h⟩ := bind2_some h
   obtain ⟨y10, y11, e12, h⟩ := bind2_some h
   refine AW.sg tt_okL6 [(5, .c (.ptr 6 2 0 0)), (4, .c (.ptr 5 2 0 0))] [1, 5, 6] [(6, .box 30 [cl 1 Ru32 y10.Num, cl 1 Ru32 y10.Den]), (5, .box 30 [cl 1 Ru32 y7.Num, cl 1 Ru32 y7.Den])] 9 [hn, hl [1] [] 0 (rl_make_Deck_Rational_con y5 3 (y7, y8) e9), hn, hl [1] [] 0 (rl_make_Deck_Rational_con y8 3 (y10, y11) e12)] (by kernel_rfl) ?_
   obtain ⟨y13, y14, e15, h⟩ := bind2_some h
   refine AW.sg tt_okL6 [(7, vi64 y14), (6, vi64 y13)] [] [] 16 [hn, hn, hk (rational_Compare_con y7 y10 (y13, y14) e15)] (by kernel_rfl) ?_
   obtain ⟨y16, y17, e18, h⟩ := bind2_some h
   refine AW.sg tt_okL6 [(9, vi64 y17), (8, vi64 y16)] [] [] 23 [hn, hn, hk (rational_Compare_con y10 y7 (y16, y17) e18)] (by kernel_rfl) ?_
   obtain ⟨y19, y20, e21, h⟩ := bind2_some h
   refine AW.sg tt_okL6 [(11, vi64 y20)] [28] [] 31 [hn, hn, hk (rational_Sub_con y7 y10 (y19, y20) e21)] (by kernel_rfl) ?_
   obtain ⟨y22, y23, e24, h⟩ := bind2_some h
   refine AW.sg tt_okL6 [(13, vi64 y23), (12, .c (.ptr 36 2 0 0))] [36] [(36, .box 30 [cl 1 Ru32 y22.Num, cl 1 Ru32 y22.Den])] 39 [hn, hn, hk (rational_Add_con y7 y10 (y22, y23) e24)] (by kernel_rfl) ?_
   obtain ⟨y25, y26, e27, h⟩ := bind2_some h
   refine AW.sg tt_okL6 [(15, vi64 y26), (14, vi64 y25)] [] [] 46 [hn, hn, hk (rational_Compare_con y22 y7 (y25, y26) e27)] (by kernel_rfl) ?_
   refine AW.seq ?_
   refine AW.join (ι := Bool) (fun v => ⟨[(2, vb v)], [], 0⟩) (fun v : Bool => rl_law11_RationalOrder_k2 v = some r) (fun x28 h => ?_) ?_
   ·
    unfold rl_law11_RationalOrder_k2 at h
    refine AW.tn (AW.ret ?_)
    obtain rfl := some_inj h
    exact fn0 (.inr rfl) [] 0 (vb x28) (by kernel_rfl)
   ·
    rcases ifs h with ⟨c29, h⟩ | ⟨c29, h⟩
    ·
     rcases ifs h with ⟨c30, h⟩ | ⟨c30, h⟩
     ·
      rcases ifs h with ⟨c31, h⟩ | ⟨c31, h⟩
      ·
       rcases ifs h with ⟨c32, h⟩ | ⟨c32, h⟩
       ·
        rcases ifs h with ⟨c33, h⟩ | ⟨c33, h⟩
        ·
         rcases ifs h with ⟨c34, h⟩ | ⟨c34, h⟩
         ·
          obtain ⟨y35, e36, h⟩ := bnd_some h
          rcases ifs h with ⟨c37, h⟩ | ⟨c37, h⟩
          ·
           rcases ifs h with ⟨c38, h⟩ | ⟨c38, h⟩
           ·
            refine AW.rg tt_okL6 [(2, vb (decide (y25 ≥ 0)))] [] [] 94 [hn, ht c29, hn, hn, ht c30, hn, hn, hn, ht c31, hn, hn, hn, ht c32, hn, hn, hn, hn, hn, ht c33, hn, hn, hn, hn, hn, hn, ht c34, hn, hn, hn, hn, hn, hn, hk (rl_ref11_Same_con y7 y10 y35 e36), ht c37, hn, hn, hn, hn, hn, hn, hn, hn, ht c38] (by kernel_rfl) ?_
            exact jl (decide (y25 ≥ 0)) h (conv_re [] (by kernel_rfl))
           ·
            refine AW.rg tt_okL6 [(2, vb false)] [] [] 94 [hn, ht c29, hn, hn, ht c30, hn, hn, hn, ht c31, hn, hn, hn, ht c32, hn, hn, hn, hn, hn, ht c33, hn, hn, hn, hn, hn, hn, ht c34, hn, hn, hn, hn, hn, hn, hk (rl_ref11_Same_con y7 y10 y35 e36), ht c37, hn, hn, hn, hn, hn, hn, hn, hn, hf c38] (by kernel_rfl) ?_
            exact jl false h (conv_re [] (by kernel_rfl))
          ·
           refine AW.rg tt_okL6 [(2, vb false)] [] [] 94 [hn, ht c29, hn, hn, ht c30, hn, hn, hn, ht c31, hn, hn, hn, ht c32, hn, hn, hn, hn, hn, ht c33, hn, hn, hn, hn, hn, hn, ht c34, hn, hn, hn, hn, hn, hn, hk (rl_ref11_Same_con y7 y10 y35 e36), hf c37] (by kernel_rfl) ?_
           exact jl false h (conv_re [] (by kernel_rfl))
         ·
          refine AW.rg tt_okL6 [(2, vb false)] [] [] 95 [hn, ht c29, hn, hn, ht c30, hn, hn, hn, ht c31, hn, hn, hn, ht c32, hn, hn, hn, hn, hn, ht c33, hn, hn, hn, hn, hn, hn, hf c34] (by kernel_rfl) ?_
          exact jl false h (conv_re [] (by kernel_rfl))
        ·
         refine AW.rg tt_okL6 [(2, vb false)] [] [] 95 [hn, ht c29, hn, hn, ht c30, hn, hn, hn, ht c31, hn, hn, hn, ht c32, hn, hn, hn, hn, hn, hf c33] (by kernel_rfl) ?_
         exact jl false h (conv_re [] (by kernel_rfl))
       ·
        refine AW.rg tt_okL6 [(2, vb false)] [] [] 95 [hn, ht c29, hn, hn, ht c30, hn, hn, hn, ht c31, hn, hn, hn, hf c32] (by kernel_rfl) ?_
        exact jl false h (conv_re [] (by kernel_rfl))
      ·
       refine AW.rg tt_okL6 [(2, vb false)] [] [] 95 [hn, ht c29, hn, hn, ht c30, hn, hn, hn, hf c31] (by kernel_rfl) ?_
       exact jl false h (conv_re [] (by kernel_rfl))
     ·
      refine AW.rg tt_okL6 [(2, vb false)] [] [] 95 [hn, ht c29, hn, hn, hf c30] (by kernel_rfl) ?_
      exact jl false h (conv_re [] (by kernel_rfl))
    ·
     refine AW.rg tt_okL6 [(2, vb false)] [] [] 95 [hn, hf c29] (by kernel_rfl) ?_
     exact jl false h (conv_re [] (by kernel_rfl))
 ·
  obtain ⟨y39, e40, h⟩ := bnd_some h
  rcases ifs h with ⟨c41, h⟩ | ⟨c41, h⟩
  ·
   refine AW.rg tt_okL6 [(22, vb true)] [] [] 7 [hk (rl_law11_awake_con y39 e40), ht c41] (by kernel_rfl) ?_
   exact jl true h (conv_re [] (by kernel_rfl))
  ·
   obtain ⟨y42, e43, h⟩ := bnd_some h
   refine AW.rg tt_okL6 [(22, vb (!y42))] [] [] 6 [hk (rl_law11_awake_con y39 e40), hf c41, hn, hn, hk (rl_make_Few_con p0 y42 e43)] (by kernel_rfl) ?_
   exact jl (!y42) h (conv_re [] (by kernel_rfl))
end Go.Proofs.Ytnfikddgjkfflaa
