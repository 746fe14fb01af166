/- Printed by a program of mine (vmgen.py): Go functions, and what they come to. -/
import Derived.Test.YtnfikddgjkfflaaVr
import Derived.Test.YtnfikddgjkfflaaRows
import Derived.Test.YtnfikddgjkfflaaG1
namespace Go.Proofs.Ytnfikddgjkfflaa
open Vm
open IntKind (i64 u64 u32 u8)
set_option maxHeartbeats 10000000
set_option linter.unusedVariables false
set_option linter.unusedSimpArgs false
set_option linter.constructorNameAsVariable false
def ttlL3 : List (Nat × TI) := [(3, ⟨.int .i64, 1, 8, [.int .i64 0]⟩), (4, ⟨.bool, 1, 1, [.bool false]⟩), (5, ⟨.int .u8, 1, 1, [.int .u8 0]⟩), (9, ⟨.str, 1, 16, [.string ⟨#[]⟩]⟩), (22, ⟨.slice 3, 1, 24, [.slice none 0 0]⟩), (25, ⟨.ptr 55, 1, 8, [.pointer none]⟩), (27, ⟨.slice 52, 1, 24, [.slice none 0 0]⟩), (28, ⟨.slice 52, 1, 24, [.slice none 0 0]⟩), (30, ⟨.struct [(28, 0), (28, 1)], 2, 48, [.slice none 0 0, .slice none 0 0]⟩), (32, ⟨.int .i64, 1, 8, [.int .i64 0]⟩), (52, ⟨.int .u32, 1, 4, [.int .u32 0]⟩), (53, ⟨.int .u64, 1, 8, [.int .u64 0]⟩), (55, ⟨.struct [(22, 0), (3, 1), (53, 2)], 3, 40, [.slice none 0 0, .int .i64 0, .int .u64 0]⟩), (62, ⟨.struct [(28, 0), (32, 1)], 2, 32, [.slice none 0 0, .int .i64 0]⟩), (81, ⟨.slice 62, 1, 24, [.slice none 0 0]⟩)]
theorem tt_okL3 : TTok Try.prog (Vm.look ttlL3) := ttok_of ⟨⟨by kernel_rfl, by kernel_rfl⟩, ⟨by kernel_rfl, by kernel_rfl⟩, ⟨by kernel_rfl, by kernel_rfl⟩, ⟨by kernel_rfl, by kernel_rfl⟩, ⟨by kernel_rfl, by kernel_rfl⟩, ⟨by kernel_rfl, by kernel_rfl⟩, ⟨by kernel_rfl, by kernel_rfl⟩, ⟨by kernel_rfl, by kernel_rfl⟩, ⟨by kernel_rfl, by kernel_rfl⟩, ⟨by kernel_rfl, by kernel_rfl⟩, ⟨by kernel_rfl, by kernel_rfl⟩, ⟨by kernel_rfl, by kernel_rfl⟩, ⟨by kernel_rfl, by kernel_rfl⟩, ⟨by kernel_rfl, by kernel_rfl⟩, ⟨by kernel_rfl, by kernel_rfl⟩, trivial⟩
theorem moL3 : Try.prog.follows .mixedOrders = true := by kernel_rfl
/-! recordlink/recordlinklaw11.RationalField -/
noncomputable def rl_law11_RationalField_k2 (x34 : Bool) : Option Bool := some x34
noncomputable def rl_law11_RationalField_k1 (p0 : List Int) (x1 : Bool) : Option Bool := if x1 = true then ((rl_law11_awake).bind fun y3 => (some y3)) else ((rl_make_New p0).bind fun y5 => (bind2 (rl_make_Deck_Rational y5 2) fun y7 y8 => (bind2 (rl_make_Deck_Rational y8 2) fun y10 y11 => (bind2 (rl_make_Deck_Rational y11 2) fun y13 y14 => (bind2 (rational_Add y7 y10) fun y16 y17 => (bind2 (rational_Add y10 y7) fun y19 y20 => (bind2 (rational_Mul y16 y13) fun y22 y23 => (bind2 (rational_Mul y7 y13) fun y25 y26 => (bind2 (rational_Mul y13 y10) fun y28 y29 => (bind2 (rational_Add y25 y28) fun y31 y32 => (if (y17 == 0) = true then (if (y20 == 0) = true then (if (y23 == 0) = true then (if (y26 == 0) = true then (if (y29 == 0) = true then (if (y32 == 0) = true then ((rl_ref11_Same y16 y19).bind fun y41 => (if y41 = true then ((rl_ref11_Same y22 y31).bind fun y44 => (if y44 = true then ((rational_Valid y22).bind fun y47 => (rl_law11_RationalField_k2 y47)) else (rl_law11_RationalField_k2 false))) else (rl_law11_RationalField_k2 false))) else (rl_law11_RationalField_k2 false)) else (rl_law11_RationalField_k2 false)) else (rl_law11_RationalField_k2 false)) else (rl_law11_RationalField_k2 false)) else (rl_law11_RationalField_k2 false)) else (rl_law11_RationalField_k2 false))))))))))))
noncomputable def rl_law11_RationalField (p0 : List Int) : Option Bool := (rl_law11_awake).bind fun y49 => (if (!y49) = true then (rl_law11_RationalField_k1 p0 true) else ((rl_make_Few p0).bind fun y52 => (rl_law11_RationalField_k1 p0 (!y52))))
set_option maxRecDepth 100000 in
theorem rl_law11_RationalField_con (p0 : List Int) (r : Bool) (h : rl_law11_RationalField p0 = some r) : Con Try.prog 3 [vl 1 Ri64 p0] [] (vb r) [] := by
 refine con_of tt_okL3 0 Try.func3 (by kernel_rfl) rfl (by kernel_rfl) (fun base X _ => AW.post ?_)
 unfold rl_law11_RationalField at h
 refine AW.sg tt_okL3 [] [] [] 1 [] (by kernel_rfl) ?_
 refine AW.seq (AW.seq ?_)
 refine AW.join (ι := Bool) (fun v => ⟨[(0, vl 1 Ri64 p0), (25, vb v)], [], 0⟩) (fun v : Bool => rl_law11_RationalField_k1 p0 v = some r) (fun x1 h => ?_) ?_
 ·
  unfold rl_law11_RationalField_k1 at h
  refine AW.tn ?_
  refine AW.co h (by kernel_rfl) (fun c2 h => ?_) (fun c2 h => ?_)
  ·
   obtain ⟨y3, e4, h⟩ := bnd_some h
   refine AW.sg tt_okL3 [(2, vb y3)] [] [] 1 [hk (rl_law11_awake_con y3 e4)] (by kernel_rfl) ?_
   refine AW.ret (AW.tr ?_)
   obtain rfl := some_inj h
   exact fn0 (.inr rfl) [] 0 (vb y3) (by kernel_rfl)
  ·
   refine AW.skip (AW.tn ?_)
   obtain ⟨y5, e6, h⟩ := bnd_some h
   refine AW.sg tt_okL3 [(3, .c (.ptr 1 3 0 0))] [1] [(1, .box 55 [cl 1 Ri64 y5.list, ci64 y5.at_, cu64 y5.state])] 3 [hn, hl [] [] 1 (rl_make_New_con p0 y5 e6)] (by kernel_rfl) ?_
   obtain ⟨y7, y8, e9, h⟩ := bind2_some h
   obtain ⟨y10, y11, e12, h⟩ := bind2_some h
   obtain ⟨y13, y14, e15, h⟩ := bind2_some h
   refine AW.sg tt_okL3 [(6, .c (.ptr 8 2 0 0)), (5, .c (.ptr 7 2 0 0)), (4, .c (.ptr 6 2 0 0))] [1, 6, 7, 8] [(8, .box 30 [cl 1 Ru32 y13.Num, cl 1 Ru32 y13.Den]), (7, .box 30 [cl 1 Ru32 y10.Num, cl 1 Ru32 y10.Den]), (6, .box 30 [cl 1 Ru32 y7.Num, cl 1 Ru32 y7.Den])] 12 [hn, hl [1] [] 0 (rl_make_Deck_Rational_con y5 2 (y7, y8) e9), hn, hl [1] [] 0 (rl_make_Deck_Rational_con y8 2 (y10, y11) e12), hn, hl [1] [] 0 (rl_make_Deck_Rational_con y11 2 (y13, y14) e15)] (by kernel_rfl) ?_
   obtain ⟨y16, y17, e18, h⟩ := bind2_some h
   refine AW.sg tt_okL3 [(8, vi64 y17), (7, .c (.ptr 17 2 0 0))] [17] [(17, .box 30 [cl 1 Ru32 y16.Num, cl 1 Ru32 y16.Den])] 20 [hn, hn, hk (rational_Add_con y7 y10 (y16, y17) e18)] (by kernel_rfl) ?_
   obtain ⟨y19, y20, e21, h⟩ := bind2_some h
   refine AW.sg tt_okL3 [(10, vi64 y20), (9, .c (.ptr 25 2 0 0))] [25] [(25, .box 30 [cl 1 Ru32 y19.Num, cl 1 Ru32 y19.Den])] 28 [hn, hn, hk (rational_Add_con y10 y7 (y19, y20) e21)] (by kernel_rfl) ?_
   obtain ⟨y22, y23, e24, h⟩ := bind2_some h
   refine AW.sg tt_okL3 [(12, vi64 y23), (11, .c (.ptr 33 2 0 0))] [33] [(33, .box 30 [cl 1 Ru32 y22.Num, cl 1 Ru32 y22.Den])] 36 [hn, hn, hk (rational_Mul_con y16 y13 (y22, y23) e24)] (by kernel_rfl) ?_
   obtain ⟨y25, y26, e27, h⟩ := bind2_some h
   refine AW.sg tt_okL3 [(14, vi64 y26), (13, .c (.ptr 41 2 0 0))] [41] [(41, .box 30 [cl 1 Ru32 y25.Num, cl 1 Ru32 y25.Den])] 44 [hn, hn, hk (rational_Mul_con y7 y13 (y25, y26) e27)] (by kernel_rfl) ?_
   obtain ⟨y28, y29, e30, h⟩ := bind2_some h
   refine AW.sg tt_okL3 [(16, vi64 y29), (15, .c (.ptr 49 2 0 0))] [49] [(49, .box 30 [cl 1 Ru32 y28.Num, cl 1 Ru32 y28.Den])] 52 [hn, hn, hk (rational_Mul_con y13 y10 (y28, y29) e30)] (by kernel_rfl) ?_
   obtain ⟨y31, y32, e33, h⟩ := bind2_some h
   refine AW.sg tt_okL3 [(18, vi64 y32), (17, .c (.ptr 57 2 0 0))] [57] [(57, .box 30 [cl 1 Ru32 y31.Num, cl 1 Ru32 y31.Den])] 60 [hn, hn, hk (rational_Add_con y25 y28 (y31, y32) e33)] (by kernel_rfl) ?_
   refine AW.seq ?_
   refine AW.join (ι := Bool) (fun v => ⟨[(2, vb v)], [], 0⟩) (fun v : Bool => rl_law11_RationalField_k2 v = some r) (fun x34 h => ?_) ?_
   ·
    unfold rl_law11_RationalField_k2 at h
    refine AW.tn (AW.ret ?_)
    obtain rfl := some_inj h
    exact fn0 (.inr rfl) [] 0 (vb x34) (by kernel_rfl)
   ·
    rcases ifs h with ⟨c35, h⟩ | ⟨c35, h⟩
    ·
     rcases ifs h with ⟨c36, h⟩ | ⟨c36, h⟩
     ·
      rcases ifs h with ⟨c37, h⟩ | ⟨c37, h⟩
      ·
       rcases ifs h with ⟨c38, h⟩ | ⟨c38, h⟩
       ·
        rcases ifs h with ⟨c39, h⟩ | ⟨c39, h⟩
        ·
         rcases ifs h with ⟨c40, h⟩ | ⟨c40, h⟩
         ·
          obtain ⟨y41, e42, h⟩ := bnd_some h
          rcases ifs h with ⟨c43, hs⟩ | ⟨c43, hs⟩
          ·clear h; subst c43; have h := hs; clear hs
           obtain ⟨y44, e45, h⟩ := bnd_some h
           rcases ifs h with ⟨c46, hs⟩ | ⟨c46, hs⟩
           ·clear h; subst c46; have h := hs; clear hs
            obtain ⟨y47, e48, h⟩ := bnd_some h
            refine AW.rg tt_okL3 [(2, vb y47)] [] [] 94 [hn, ht c35, hn, hn, ht c36, hn, hn, hn, ht c37, hn, hn, hn, ht c38, hn, hn, hn, ht c39, hn, hn, hn, ht c40, hn, hn, hn, hn, hk (rl_ref11_Same_con y16 y19 true e42), hn, hn, hn, hn, hk (rl_ref11_Same_con y22 y31 true e45), hn, hn, hn, hk (rational_Valid_con y22 y47 e48)] (by kernel_rfl) ?_
            exact jl y47 h (conv_re [] (by kernel_rfl))
           ·clear h; subst c46; have h := hs; clear hs
            refine AW.rg tt_okL3 [(2, vb false)] [] [] 95 [hn, ht c35, hn, hn, ht c36, hn, hn, hn, ht c37, hn, hn, hn, ht c38, hn, hn, hn, ht c39, hn, hn, hn, ht c40, hn, hn, hn, hn, hk (rl_ref11_Same_con y16 y19 true e42), hn, hn, hn, hn, hk (rl_ref11_Same_con y22 y31 false e45)] (by kernel_rfl) ?_
            exact jl false h (conv_re [] (by kernel_rfl))
          ·clear h; subst c43; have h := hs; clear hs
           refine AW.rg tt_okL3 [(2, vb false)] [] [] 96 [hn, ht c35, hn, hn, ht c36, hn, hn, hn, ht c37, hn, hn, hn, ht c38, hn, hn, hn, ht c39, hn, hn, hn, ht c40, hn, hn, hn, hn, hk (rl_ref11_Same_con y16 y19 false e42)] (by kernel_rfl) ?_
           exact jl false h (conv_re [] (by kernel_rfl))
         ·
          refine AW.rg tt_okL3 [(2, vb false)] [] [] 97 [hn, ht c35, hn, hn, ht c36, hn, hn, hn, ht c37, hn, hn, hn, ht c38, hn, hn, hn, ht c39, hn, hn, hn, hf c40] (by kernel_rfl) ?_
          exact jl false h (conv_re [] (by kernel_rfl))
        ·
         refine AW.rg tt_okL3 [(2, vb false)] [] [] 97 [hn, ht c35, hn, hn, ht c36, hn, hn, hn, ht c37, hn, hn, hn, ht c38, hn, hn, hn, hf c39] (by kernel_rfl) ?_
         exact jl false h (conv_re [] (by kernel_rfl))
       ·
        refine AW.rg tt_okL3 [(2, vb false)] [] [] 97 [hn, ht c35, hn, hn, ht c36, hn, hn, hn, ht c37, hn, hn, hn, hf c38] (by kernel_rfl) ?_
        exact jl false h (conv_re [] (by kernel_rfl))
      ·
       refine AW.rg tt_okL3 [(2, vb false)] [] [] 97 [hn, ht c35, hn, hn, ht c36, hn, hn, hn, hf c37] (by kernel_rfl) ?_
       exact jl false h (conv_re [] (by kernel_rfl))
     ·
      refine AW.rg tt_okL3 [(2, vb false)] [] [] 97 [hn, ht c35, hn, hn, hf c36] (by kernel_rfl) ?_
      exact jl false h (conv_re [] (by kernel_rfl))
    ·
     refine AW.rg tt_okL3 [(2, vb false)] [] [] 97 [hn, hf c35] (by kernel_rfl) ?_
     exact jl false h (conv_re [] (by kernel_rfl))
 ·
  obtain ⟨y49, e50, h⟩ := bnd_some h
  rcases ifs h with ⟨c51, h⟩ | ⟨c51, h⟩
  ·
   refine AW.rg tt_okL3 [(25, vb true)] [] [] 7 [hk (rl_law11_awake_con y49 e50), ht c51] (by kernel_rfl) ?_
   exact jl true h (conv_re [] (by kernel_rfl))
  ·
   obtain ⟨y52, e53, h⟩ := bnd_some h
   refine AW.rg tt_okL3 [(25, vb (!y52))] [] [] 6 [hk (rl_law11_awake_con y49 e50), hf c51, hn, hn, hk (rl_make_Few_con p0 y52 e53)] (by kernel_rfl) ?_
   exact jl (!y52) h (conv_re [] (by kernel_rfl))
end Go.Proofs.Ytnfikddgjkfflaa
