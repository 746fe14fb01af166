/- Printed by a program of mine (vmgen.py): Go functions, and what they come to. -/
import Derived.Test.YtnfikddgjkfflaaVr
import Derived.Test.YtnfikddgjkfflaaRows
import Derived.Test.YtnfikddgjkfflaaG1
namespace Go.Proofs.Ytnfikddgjkfflaa
open Vm
open IntKind (i64 u64 u32 u8)
set_option maxHeartbeats 10000000
set_option linter.unusedVariables false
set_option linter.unusedSimpArgs false
set_option linter.constructorNameAsVariable false
def ttlL7 : List (Nat × TI) := [(3, ⟨.int .i64, 1, 8, [.int .i64 0]⟩), (4, ⟨.bool, 1, 1, [.bool false]⟩), (5, ⟨.int .u8, 1, 1, [.int .u8 0]⟩), (9, ⟨.str, 1, 16, [.string ⟨#[]⟩]⟩), (22, ⟨.slice 3, 1, 24, [.slice none 0 0]⟩), (25, ⟨.ptr 55, 1, 8, [.pointer none]⟩), (27, ⟨.slice 52, 1, 24, [.slice none 0 0]⟩), (28, ⟨.slice 52, 1, 24, [.slice none 0 0]⟩), (30, ⟨.struct [(28, 0), (28, 1)], 2, 48, [.slice none 0 0, .slice none 0 0]⟩), (32, ⟨.int .i64, 1, 8, [.int .i64 0]⟩), (41, ⟨.int .u16, 1, 2, [.int .u16 0]⟩), (52, ⟨.int .u32, 1, 4, [.int .u32 0]⟩), (53, ⟨.int .u64, 1, 8, [.int .u64 0]⟩), (55, ⟨.struct [(22, 0), (3, 1), (53, 2)], 3, 40, [.slice none 0 0, .int .i64 0, .int .u64 0]⟩), (62, ⟨.struct [(28, 0), (32, 1)], 2, 32, [.slice none 0 0, .int .i64 0]⟩), (81, ⟨.slice 62, 1, 24, [.slice none 0 0]⟩)]
theorem tt_okL7 : TTok Try.prog (Vm.look ttlL7) := ttok_of ⟨⟨by kernel_rfl, by kernel_rfl⟩, ⟨by kernel_rfl, by kernel_rfl⟩, ⟨by kernel_rfl, by kernel_rfl⟩, ⟨by kernel_rfl, by kernel_rfl⟩, ⟨by kernel_rfl, by kernel_rfl⟩, ⟨by kernel_rfl, by kernel_rfl⟩, ⟨by kernel_rfl, by kernel_rfl⟩, ⟨by kernel_rfl, by kernel_rfl⟩, ⟨by kernel_rfl, by kernel_rfl⟩, ⟨by kernel_rfl, by kernel_rfl⟩, ⟨by kernel_rfl, by kernel_rfl⟩, ⟨by kernel_rfl, by kernel_rfl⟩, ⟨by kernel_rfl, by kernel_rfl⟩, ⟨by kernel_rfl, by kernel_rfl⟩, ⟨by kernel_rfl, by kernel_rfl⟩, ⟨by kernel_rfl, by kernel_rfl⟩, trivial⟩
theorem moL7 : Try.prog.follows .mixedOrders = true := by kernel_rfl
/-! recordlink/recordlinklaw11.RationalUndone -/
noncomputable def rl_law11_RationalUndone_k3 (x27 : Bool) : Option Bool := some x27
noncomputable def rl_law11_RationalUndone_k2 (y7 : S_api_Rational) (y10 : S_api_Rational) (y22 : S_api_Rational) (y23 : Int) (x25 : Bool) : Option Bool := if x25 = true then (some false) else (if (((y10.Num.length : Nat) : Int) == 0) = true then (if (y23 == 9) = true then (rl_law11_RationalUndone_k3 true) else (if (y23 == 0) = true then ((rl_ref11_Same y22 y7).bind fun y31 => (rl_law11_RationalUndone_k3 y31)) else (rl_law11_RationalUndone_k3 false))) else (if (y23 == 0) = true then ((rl_ref11_Same y22 y7).bind fun y34 => (rl_law11_RationalUndone_k3 y34)) else (rl_law11_RationalUndone_k3 false)))
noncomputable def rl_law11_RationalUndone_k1 (p0 : List Int) (x1 : Bool) : Option Bool := if x1 = true then ((rl_law11_awake).bind fun y3 => (some y3)) else ((rl_make_New p0).bind fun y5 => (bind2 (rl_make_Deck_Rational y5 3) fun y7 y8 => (bind2 (rl_make_Deck_Rational y8 3) fun y10 y11 => (bind2 (rational_Add y7 y10) fun y13 y14 => (bind2 (rational_Sub y13 y10) fun y16 y17 => (bind2 (rational_Mul y7 y10) fun y19 y20 => (bind2 (rational_Div y19 y10) fun y22 y23 => (if (y14 != 0) = true then (rl_law11_RationalUndone_k2 y7 y10 y22 y23 true) else (if (y17 != 0) = true then (rl_law11_RationalUndone_k2 y7 y10 y22 y23 true) else (if (y20 != 0) = true then (rl_law11_RationalUndone_k2 y7 y10 y22 y23 true) else ((rl_ref11_Same y16 y7).bind fun y39 => (rl_law11_RationalUndone_k2 y7 y10 y22 y23 (!y39)))))))))))))
noncomputable def rl_law11_RationalUndone (p0 : List Int) : Option Bool := (rl_law11_awake).bind fun y41 => (if (!y41) = true then (rl_law11_RationalUndone_k1 p0 true) else ((rl_make_Few p0).bind fun y44 => (rl_law11_RationalUndone_k1 p0 (!y44))))
set_option maxRecDepth 100000 in
theorem rl_law11_RationalUndone_con (p0 : List Int) (r : Bool) (h : rl_law11_RationalUndone p0 = some r) : Con Try.prog 7 [vl 1 Ri64 p0] [] (vb r) [] := by
 refine con_of tt_okL7 0 Try.func7 (by kernel_rfl) rfl (by kernel_rfl) (fun base X _ => AW.post ?_)
 unfold rl_law11_RationalUndone at h
 refine AW.sg tt_okL7 [] [] [] 1 [] (by kernel_rfl) ?_
 refine AW.seq (AW.seq ?_)
 refine AW.join (ι := Bool) (fun v => ⟨[(0, vl 1 Ri64 p0), (20, vb v)], [], 0⟩) (fun v : Bool => rl_law11_RationalUndone_k1 p0 v = some r) (fun x1 h => ?_) ?_
 ·
  unfold rl_law11_RationalUndone_k1 at h
  refine AW.tn ?_
  refine AW.co h (by kernel_rfl) (fun c2 h => ?_) (fun c2 h => ?_)
  ·
   obtain ⟨y3, e4, h⟩ := bnd_some h
   refine AW.sg tt_okL7 [(2, vb y3)] [] [] 1 [hk (rl_law11_awake_con y3 e4)] (by kernel_rfl) ?_
   refine AW.ret (AW.tr ?_)
   obtain rfl := some_inj h
   exact fn0 (.inr rfl) [] 0 (vb y3) (by kernel_rfl)
  ·
   refine AW.skip (AW.tn ?_)
   obtain ⟨y5, e6, h⟩ := bnd_some h
   refine AW.sg tt_okL7 [(3, .c (.ptr 1 3 0 0))] [1] [(1, .box 55 [cl 1 Ri64 y5.list, ci64 y5.at_, cu64 y5.state])] 3 [hn, hl [] [] 1 (rl_make_New_con p0 y5 e6)] (by kernel_rfl) ?_
   obtain ⟨y7, y8, e9, h⟩ := bind2_some h
   obtain ⟨y10, y11, e12, h⟩ := bind2_some h
   refine AW.sg tt_okL7 [(5, .c (.ptr 6 2 0 0)), (4, .c (.ptr 5 2 0 0))] [1, 5, 6] [(6, .box 30 [cl 1 Ru32 y10.Num, cl 1 Ru32 y10.Den]), (5, .box 30 [cl 1 Ru32 y7.Num, cl 1 Ru32 y7.Den])] 9 [hn, hl [1] [] 0 (rl_make_Deck_Rational_con y5 3 (y7, y8) e9), hn, hl [1] [] 0 (rl_make_Deck_Rational_con y8 3 (y10, y11) e12)] (by kernel_rfl) ?_
   obtain ⟨y13, y14, e15, h⟩ := bind2_some h
   refine AW.sg tt_okL7 [(7, vi64 y14), (6, .c (.ptr 14 2 0 0))] [14] [(14, .box 30 [cl 1 Ru32 y13.Num, cl 1 Ru32 y13.Den])] 17 [hn, hn, hk (rational_Add_con y7 y10 (y13, y14) e15)] (by kernel_rfl) ?_
   obtain ⟨y16, y17, e18, h⟩ := bind2_some h
   refine AW.sg tt_okL7 [(9, vi64 y17), (8, .c (.ptr 22 2 0 0))] [22] [(22, .box 30 [cl 1 Ru32 y16.Num, cl 1 Ru32 y16.Den])] 25 [hn, hn, hk (rational_Sub_con y13 y10 (y16, y17) e18)] (by kernel_rfl) ?_
   obtain ⟨y19, y20, e21, h⟩ := bind2_some h
   refine AW.sg tt_okL7 [(11, vi64 y20), (10, .c (.ptr 30 2 0 0))] [30] [(30, .box 30 [cl 1 Ru32 y19.Num, cl 1 Ru32 y19.Den])] 33 [hn, hn, hk (rational_Mul_con y7 y10 (y19, y20) e21)] (by kernel_rfl) ?_
   obtain ⟨y22, y23, e24, h⟩ := bind2_some h
   refine AW.sg tt_okL7 [(13, vi64 y23), (12, .c (.ptr 38 2 0 0))] [38] [(38, .box 30 [cl 1 Ru32 y22.Num, cl 1 Ru32 y22.Den])] 41 [hn, hn, hk (rational_Div_con y19 y10 (y22, y23) e24)] (by kernel_rfl) ?_
   refine AW.seq (AW.seq ?_)
   refine AW.join (ι := Bool) (fun v => ⟨[(4, .c (.ptr 0 2 0 0)), (5, .c (.ptr 1 2 0 0)), (12, .c (.ptr 2 2 0 0)), (13, vi64 y23), (67, vb v)], [(0, .box 30 [cl 1 Ru32 y7.Num, cl 1 Ru32 y7.Den]), (1, .box 30 [cl 1 Ru32 y10.Num, cl 1 Ru32 y10.Den]), (2, .box 30 [cl 1 Ru32 y22.Num, cl 1 Ru32 y22.Den])], 3⟩) (fun v : Bool => rl_law11_RationalUndone_k2 y7 y10 y22 y23 v = some r) (fun x25 h => ?_) ?_
   ·
    unfold rl_law11_RationalUndone_k2 at h
    refine AW.tn ?_
    refine AW.co h (by kernel_rfl) (fun c26 h => ?_) (fun c26 h => ?_)
    ·
     refine AW.sg tt_okL7 [(2, vb false)] [] [] 4 [] (by kernel_rfl) ?_
     refine AW.ret (AW.tr ?_)
     obtain rfl := some_inj h
     exact fn0 (.inr rfl) [] 0 (vb false) (by kernel_rfl)
    ·
     refine AW.skip (AW.tn (AW.seq ?_))
     refine AW.join (ι := Bool) (fun v => ⟨[(2, vb v)], [], 0⟩) (fun v : Bool => rl_law11_RationalUndone_k3 v = some r) (fun x27 h => ?_) ?_
     ·
      unfold rl_law11_RationalUndone_k3 at h
      refine AW.tn (AW.ret ?_)
      obtain rfl := some_inj h
      exact fn0 (.inr rfl) [] 0 (vb x27) (by kernel_rfl)
     ·
      rcases ifs h with ⟨c28, h⟩ | ⟨c28, h⟩
      ·
       rcases ifs h with ⟨c29, h⟩ | ⟨c29, h⟩
       ·
        refine AW.rg tt_okL7 [(2, vb true)] [] [] 21 [hn, hn, hn, ht c28, hn, hn, ht c29] (by kernel_rfl) ?_
        exact jl true h (conv_re [] (by kernel_rfl))
       ·
        rcases ifs h with ⟨c30, h⟩ | ⟨c30, h⟩
        ·
         obtain ⟨y31, e32, h⟩ := bnd_some h
         refine AW.rg tt_okL7 [(2, vb y31)] [] [] 20 [hn, hn, hn, ht c28, hn, hn, hf c29, hn, hn, hn, ht c30, hn, hn, hn, hk (rl_ref11_Same_con y22 y7 y31 e32)] (by kernel_rfl) ?_
         exact jl y31 h (conv_re [] (by kernel_rfl))
        ·
         refine AW.rg tt_okL7 [(2, vb false)] [] [] 21 [hn, hn, hn, ht c28, hn, hn, hf c29, hn, hn, hn, hf c30] (by kernel_rfl) ?_
         exact jl false h (conv_re [] (by kernel_rfl))
      ·
       rcases ifs h with ⟨c33, h⟩ | ⟨c33, h⟩
       ·
        obtain ⟨y34, e35, h⟩ := bnd_some h
        refine AW.rg tt_okL7 [(2, vb y34)] [] [] 20 [hn, hn, hn, hf c28, hn, hn, hn, hn, hn, hn, ht c33, hn, hn, hn, hk (rl_ref11_Same_con y22 y7 y34 e35)] (by kernel_rfl) ?_
        exact jl y34 h (conv_re [] (by kernel_rfl))
       ·
        refine AW.rg tt_okL7 [(2, vb false)] [] [] 21 [hn, hn, hn, hf c28, hn, hn, hn, hn, hn, hn, hf c33] (by kernel_rfl) ?_
        exact jl false h (conv_re [] (by kernel_rfl))
   ·
    rcases ifs h with ⟨c36, h⟩ | ⟨c36, h⟩
    ·
     refine AW.rg tt_okL7 [(67, vb true)] [] [] 57 [hn, ht c36] (by kernel_rfl) ?_
     exact jl true h (conv_re [(0, 5), (1, 6), (2, 38)] (by kernel_rfl))
    ·
     rcases ifs h with ⟨c37, h⟩ | ⟨c37, h⟩
     ·
      refine AW.rg tt_okL7 [(67, vb true)] [] [] 57 [hn, hf c36, hn, hn, ht c37] (by kernel_rfl) ?_
      exact jl true h (conv_re [(0, 5), (1, 6), (2, 38)] (by kernel_rfl))
     ·
      rcases ifs h with ⟨c38, h⟩ | ⟨c38, h⟩
      ·
       refine AW.rg tt_okL7 [(67, vb true)] [] [] 57 [hn, hf c36, hn, hn, hf c37, hn, hn, hn, ht c38] (by kernel_rfl) ?_
       exact jl true h (conv_re [(0, 5), (1, 6), (2, 38)] (by kernel_rfl))
      ·
       obtain ⟨y39, e40, h⟩ := bnd_some h
       refine AW.rg tt_okL7 [(67, vb (!y39))] [] [] 56 [hn, hf c36, hn, hn, hf c37, hn, hn, hn, hf c38, hn, hn, hn, hn, hk (rl_ref11_Same_con y16 y7 y39 e40)] (by kernel_rfl) ?_
       exact jl (!y39) h (conv_re [(0, 5), (1, 6), (2, 38)] (by kernel_rfl))
 ·
  obtain ⟨y41, e42, h⟩ := bnd_some h
  rcases ifs h with ⟨c43, h⟩ | ⟨c43, h⟩
  ·
   refine AW.rg tt_okL7 [(20, vb true)] [] [] 7 [hk (rl_law11_awake_con y41 e42), ht c43] (by kernel_rfl) ?_
   exact jl true h (conv_re [] (by kernel_rfl))
  ·
   obtain ⟨y44, e45, h⟩ := bnd_some h
   refine AW.rg tt_okL7 [(20, vb (!y44))] [] [] 6 [hk (rl_law11_awake_con y41 e42), hf c43, hn, hn, hk (rl_make_Few_con p0 y44 e45)] (by kernel_rfl) ?_
   exact jl (!y44) h (conv_re [] (by kernel_rfl))
end Go.Proofs.Ytnfikddgjkfflaa
