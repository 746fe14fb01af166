/- Printed by a program of mine (vmgen.py): Go functions, and what they come to. -/
import Derived.Test.YtnfikddgjkfflaaVr
import Derived.Test.YtnfikddgjkfflaaRows
import Derived.Test.YtnfikddgjkfflaaG1
namespace Go.Proofs.Ytnfikddgjkfflaa
open Vm
open IntKind (i64 u64 u32 u8)
set_option maxHeartbeats 10000000
set_option linter.unusedVariables false
set_option linter.unusedSimpArgs false
set_option linter.constructorNameAsVariable false
def ttlL5 : List (Nat × TI) := [(3, ⟨.int .i64, 1, 8, [.int .i64 0]⟩), (4, ⟨.bool, 1, 1, [.bool false]⟩), (5, ⟨.int .u8, 1, 1, [.int .u8 0]⟩), (9, ⟨.str, 1, 16, [.string ⟨#[]⟩]⟩), (22, ⟨.slice 3, 1, 24, [.slice none 0 0]⟩), (25, ⟨.ptr 55, 1, 8, [.pointer none]⟩), (27, ⟨.slice 52, 1, 24, [.slice none 0 0]⟩), (28, ⟨.slice 52, 1, 24, [.slice none 0 0]⟩), (30, ⟨.struct [(28, 0), (28, 1)], 2, 48, [.slice none 0 0, .slice none 0 0]⟩), (32, ⟨.int .i64, 1, 8, [.int .i64 0]⟩), (41, ⟨.int .u16, 1, 2, [.int .u16 0]⟩), (52, ⟨.int .u32, 1, 4, [.int .u32 0]⟩), (53, ⟨.int .u64, 1, 8, [.int .u64 0]⟩), (55, ⟨.struct [(22, 0), (3, 1), (53, 2)], 3, 40, [.slice none 0 0, .int .i64 0, .int .u64 0]⟩), (62, ⟨.struct [(28, 0), (32, 1)], 2, 32, [.slice none 0 0, .int .i64 0]⟩), (81, ⟨.slice 62, 1, 24, [.slice none 0 0]⟩)]
theorem tt_okL5 : TTok Try.prog (Vm.look ttlL5) := ttok_of ⟨⟨by kernel_rfl, by kernel_rfl⟩, ⟨by kernel_rfl, by kernel_rfl⟩, ⟨by kernel_rfl, by kernel_rfl⟩, ⟨by kernel_rfl, by kernel_rfl⟩, ⟨by kernel_rfl, by kernel_rfl⟩, ⟨by kernel_rfl, by kernel_rfl⟩, ⟨by kernel_rfl, by kernel_rfl⟩, ⟨by kernel_rfl, by kernel_rfl⟩, ⟨by kernel_rfl, by kernel_rfl⟩, ⟨by kernel_rfl, by kernel_rfl⟩, ⟨by kernel_rfl, by kernel_rfl⟩, ⟨by kernel_rfl, by kernel_rfl⟩, ⟨by kernel_rfl, by kernel_rfl⟩, ⟨by kernel_rfl, by kernel_rfl⟩, ⟨by kernel_rfl, by kernel_rfl⟩, ⟨by kernel_rfl, by kernel_rfl⟩, trivial⟩
theorem moL5 : Try.prog.follows .mixedOrders = true := by kernel_rfl
/-! recordlink/recordlinklaw11.RationalRounds -/
noncomputable def rl_law11_RationalRounds_k2 (x40 : Bool) : Option Bool := some x40
noncomputable def rl_law11_RationalRounds_k1 (p0 : List Int) (p1 : Int) (x1 : Bool) : Option Bool := if x1 = true then ((rl_law11_awake).bind fun y3 => (some y3)) else ((rl_make_New p0).bind fun y5 => (bind2 (rl_make_Deck_Next y5 5000) fun y7 y8 => (bind2 (rl_make_Deck_Next y8 300) fun y10 y11 => (bind2 (rl_ref11_Of y7 (i64.wrap (1 + y10))) fun y13 y14 => (bind2 (rl_make_Deck_Next y11 2000) fun y16 y17 => (bind2 (rational_Round y13 (i64.wrap (1 + y16))) fun y19 y20 => (bind2 (rational_Of (if (i64.wrap ((i64.wrap (2 * y19)) - 1)) > 0 then (i64.wrap ((i64.wrap (2 * y19)) - 1)) else 0) (i64.wrap (2 * (i64.wrap (1 + y16))))) fun y22 y23 => (bind2 (rational_Of (i64.wrap ((i64.wrap (2 * y19)) + 1)) (i64.wrap (2 * (i64.wrap (1 + y16))))) fun y25 y26 => (bind2 (rational_Compare y22 y13) fun y28 y29 => (bind2 (rational_Compare y13 y25) fun y31 y32 => (bind2 (rational_Of (i64.wrap p1) (i64.wrap (1 + y16))) fun y34 y35 => (bind2 (rational_Round y34 (i64.wrap (1 + y16))) fun y37 y38 => (if (y20 == 0) = true then (if (y23 == 0) = true then (if (y26 == 0) = true then (if (y29 == 0) = true then (if (y32 == 0) = true then (if (y35 == 0) = true then (if (y38 == 0) = true then (if (decide (y28 ≤ 0)) = true then (if (decide (y31 < 0)) = true then (rl_law11_RationalRounds_k2 (y37 == (i64.wrap p1))) else (rl_law11_RationalRounds_k2 false)) else (rl_law11_RationalRounds_k2 false)) else (rl_law11_RationalRounds_k2 false)) else (rl_law11_RationalRounds_k2 false)) else (rl_law11_RationalRounds_k2 false)) else (rl_law11_RationalRounds_k2 false)) else (rl_law11_RationalRounds_k2 false)) else (rl_law11_RationalRounds_k2 false)) else (rl_law11_RationalRounds_k2 false))))))))))))))
noncomputable def rl_law11_RationalRounds (p0 : List Int) (p1 : Int) : Option Bool := (rl_law11_awake).bind fun y50 => (if (!y50) = true then (rl_law11_RationalRounds_k1 p0 p1 true) else ((rl_make_Few p0).bind fun y53 => (rl_law11_RationalRounds_k1 p0 p1 (!y53))))
set_option maxRecDepth 100000 in
theorem rl_law11_RationalRounds_con (p0 : List Int) (p1 : Int) (r : Bool) (h : rl_law11_RationalRounds p0 p1 = some r) : Con Try.prog 5 [vl 1 Ri64 p0, vu16 p1] [] (vb r) [] := by
 refine con_of tt_okL5 0 Try.func5 (by kernel_rfl) rfl (by kernel_rfl) (fun base X _ => AW.post ?_)
 unfold rl_law11_RationalRounds at h
 refine AW.sg tt_okL5 [] [] [] 1 [] (by kernel_rfl) ?_
 refine AW.seq (AW.seq ?_)
 refine AW.join (ι := Bool) (fun v => ⟨[(0, vl 1 Ri64 p0), (1, vu16 p1), (29, vb v)], [], 0⟩) (fun v : Bool => rl_law11_RationalRounds_k1 p0 p1 v = some r) (fun x1 h => ?_) ?_
 ·
  unfold rl_law11_RationalRounds_k1 at h
  refine AW.tn ?_
  refine AW.co h (by kernel_rfl) (fun c2 h => ?_) (fun c2 h => ?_)
  ·
   obtain ⟨y3, e4, h⟩ := bnd_some h
   refine AW.sg tt_okL5 [(4, vb y3)] [] [] 1 [hk (rl_law11_awake_con y3 e4)] (by kernel_rfl) ?_
   refine AW.ret (AW.tr ?_)
   obtain rfl := some_inj h
   exact fn0 (.inr rfl) [] 0 (vb y3) (by kernel_rfl)
  ·
   refine AW.skip (AW.tn ?_)
   obtain ⟨y5, e6, h⟩ := bnd_some h
   refine AW.sg tt_okL5 [(5, .c (.ptr 1 3 0 0))] [1] [(1, .box 55 [cl 1 Ri64 y5.list, ci64 y5.at_, cu64 y5.state])] 3 [hn, hl [] [] 1 (rl_make_New_con p0 y5 e6)] (by kernel_rfl) ?_
   obtain ⟨y7, y8, e9, h⟩ := bind2_some h
   obtain ⟨y10, y11, e12, h⟩ := bind2_some h
   obtain ⟨y13, y14, e15, h⟩ := bind2_some h
   refine AW.sg tt_okL5 [(6, .c (.ptr 9 2 0 0))] [1, 9] [(9, .box 30 [cl 1 Ru32 y13.Num, cl 1 Ru32 y13.Den]), (1, .box 55 [cl 1 Ri64 y11.list, ci64 y11.at_, cu64 y11.state])] 12 [hn, hl [1] [] 0 (rl_make_Deck_Next_con y5 5000 (y7, y8) e9), hn, hl [1] [] 0 (rl_make_Deck_Next_con y8 300 (y10, y11) e12), hn, hk (rl_ref11_Of_con y7 (i64.wrap (1 + y10)) (y13, y14) e15)] (by kernel_rfl) ?_
   obtain ⟨y16, y17, e18, h⟩ := bind2_some h
   refine AW.sg tt_okL5 [(8, vi64 (i64.wrap (1 + y16)))] [1] [] 15 [hn, hl [1] [] 0 (rl_make_Deck_Next_con y11 2000 (y16, y17) e18)] (by kernel_rfl) ?_
   obtain ⟨y19, y20, e21, h⟩ := bind2_some h
   refine AW.sg tt_okL5 [(10, vi64 y20), (9, vi64 y19)] [] [] 22 [hn, hn, hk (rational_Round_con y13 (i64.wrap (1 + y16)) (y19, y20) e21)] (by kernel_rfl) ?_
   obtain ⟨y22, y23, e24, h⟩ := bind2_some h
   refine AW.sg tt_okL5 [(12, vi64 y23), (11, .c (.ptr 31 2 0 0))] [31] [(31, .box 30 [cl 1 Ru32 y22.Num, cl 1 Ru32 y22.Den])] 34 [hn, hn, hn, hn, hn, hn, hk (rational_Of_con (if (i64.wrap ((i64.wrap (2 * y19)) - 1)) > 0 then (i64.wrap ((i64.wrap (2 * y19)) - 1)) else 0) (i64.wrap (2 * (i64.wrap (1 + y16)))) (y22, y23) e24)] (by kernel_rfl) ?_
   obtain ⟨y25, y26, e27, h⟩ := bind2_some h
   refine AW.sg tt_okL5 [(14, vi64 y26), (13, .c (.ptr 42 2 0 0))] [42] [(42, .box 30 [cl 1 Ru32 y25.Num, cl 1 Ru32 y25.Den])] 45 [hn, hn, hn, hn, hn, hk (rational_Of_con (i64.wrap ((i64.wrap (2 * y19)) + 1)) (i64.wrap (2 * (i64.wrap (1 + y16)))) (y25, y26) e27)] (by kernel_rfl) ?_
   obtain ⟨y28, y29, e30, h⟩ := bind2_some h
   refine AW.sg tt_okL5 [(16, vi64 y29), (15, vi64 y28)] [] [] 52 [hn, hn, hk (rational_Compare_con y22 y13 (y28, y29) e30)] (by kernel_rfl) ?_
   obtain ⟨y31, y32, e33, h⟩ := bind2_some h
   refine AW.sg tt_okL5 [(18, vi64 y32), (17, vi64 y31)] [] [] 59 [hn, hn, hk (rational_Compare_con y13 y25 (y31, y32) e33)] (by kernel_rfl) ?_
   obtain ⟨y34, y35, e36, h⟩ := bind2_some h
   refine AW.sg tt_okL5 [(20, vi64 y35), (19, .c (.ptr 65 2 0 0))] [65] [(65, .box 30 [cl 1 Ru32 y34.Num, cl 1 Ru32 y34.Den])] 68 [hn, hn, hn, hk (rational_Of_con (i64.wrap p1) (i64.wrap (1 + y16)) (y34, y35) e36)] (by kernel_rfl) ?_
   obtain ⟨y37, y38, e39, h⟩ := bind2_some h
   refine AW.sg tt_okL5 [(22, vi64 y38), (21, vi64 y37)] [] [] 75 [hn, hn, hk (rational_Round_con y34 (i64.wrap (1 + y16)) (y37, y38) e39)] (by kernel_rfl) ?_
   refine AW.seq ?_
   refine AW.join (ι := Bool) (fun v => ⟨[(4, vb v)], [], 0⟩) (fun v : Bool => rl_law11_RationalRounds_k2 v = some r) (fun x40 h => ?_) ?_
   ·
    unfold rl_law11_RationalRounds_k2 at h
    refine AW.tn (AW.ret ?_)
    obtain rfl := some_inj h
    exact fn0 (.inr rfl) [] 0 (vb x40) (by kernel_rfl)
   ·
    rcases ifs h with ⟨c41, h⟩ | ⟨c41, h⟩
    ·
     rcases ifs h with ⟨c42, h⟩ | ⟨c42, h⟩
     ·
      rcases ifs h with ⟨c43, h⟩ | ⟨c43, h⟩
      ·
       rcases ifs h with ⟨c44, h⟩ | ⟨c44, h⟩
       ·
        rcases ifs h with ⟨c45, h⟩ | ⟨c45, h⟩
        ·
         rcases ifs h with ⟨c46, h⟩ | ⟨c46, h⟩
         ·
          rcases ifs h with ⟨c47, h⟩ | ⟨c47, h⟩
          ·
           rcases ifs h with ⟨c48, h⟩ | ⟨c48, h⟩
           ·
            rcases ifs h with ⟨c49, h⟩ | ⟨c49, h⟩
            ·
             refine AW.rg tt_okL5 [(4, vb (y37 == (i64.wrap p1)))] [] [] 116 [hn, ht c41, hn, hn, ht c42, hn, hn, hn, ht c43, hn, hn, hn, ht c44, hn, hn, hn, ht c45, hn, hn, hn, ht c46, hn, hn, hn, ht c47, hn, hn, hn, ht c48, hn, hn, hn, ht c49] (by kernel_rfl) ?_
             exact jl (y37 == (i64.wrap p1)) h (conv_re [] (by kernel_rfl))
            ·
             refine AW.rg tt_okL5 [(4, vb false)] [] [] 116 [hn, ht c41, hn, hn, ht c42, hn, hn, hn, ht c43, hn, hn, hn, ht c44, hn, hn, hn, ht c45, hn, hn, hn, ht c46, hn, hn, hn, ht c47, hn, hn, hn, ht c48, hn, hn, hn, hf c49] (by kernel_rfl) ?_
             exact jl false h (conv_re [] (by kernel_rfl))
           ·
            refine AW.rg tt_okL5 [(4, vb false)] [] [] 116 [hn, ht c41, hn, hn, ht c42, hn, hn, hn, ht c43, hn, hn, hn, ht c44, hn, hn, hn, ht c45, hn, hn, hn, ht c46, hn, hn, hn, ht c47, hn, hn, hn, hf c48] (by kernel_rfl) ?_
            exact jl false h (conv_re [] (by kernel_rfl))
          ·
           refine AW.rg tt_okL5 [(4, vb false)] [] [] 116 [hn, ht c41, hn, hn, ht c42, hn, hn, hn, ht c43, hn, hn, hn, ht c44, hn, hn, hn, ht c45, hn, hn, hn, ht c46, hn, hn, hn, hf c47] (by kernel_rfl) ?_
           exact jl false h (conv_re [] (by kernel_rfl))
         ·
          refine AW.rg tt_okL5 [(4, vb false)] [] [] 116 [hn, ht c41, hn, hn, ht c42, hn, hn, hn, ht c43, hn, hn, hn, ht c44, hn, hn, hn, ht c45, hn, hn, hn, hf c46] (by kernel_rfl) ?_
          exact jl false h (conv_re [] (by kernel_rfl))
        ·
         refine AW.rg tt_okL5 [(4, vb false)] [] [] 116 [hn, ht c41, hn, hn, ht c42, hn, hn, hn, ht c43, hn, hn, hn, ht c44, hn, hn, hn, hf c45] (by kernel_rfl) ?_
         exact jl false h (conv_re [] (by kernel_rfl))
       ·
        refine AW.rg tt_okL5 [(4, vb false)] [] [] 116 [hn, ht c41, hn, hn, ht c42, hn, hn, hn, ht c43, hn, hn, hn, hf c44] (by kernel_rfl) ?_
        exact jl false h (conv_re [] (by kernel_rfl))
      ·
       refine AW.rg tt_okL5 [(4, vb false)] [] [] 116 [hn, ht c41, hn, hn, ht c42, hn, hn, hn, hf c43] (by kernel_rfl) ?_
       exact jl false h (conv_re [] (by kernel_rfl))
     ·
      refine AW.rg tt_okL5 [(4, vb false)] [] [] 116 [hn, ht c41, hn, hn, hf c42] (by kernel_rfl) ?_
      exact jl false h (conv_re [] (by kernel_rfl))
    ·
     refine AW.rg tt_okL5 [(4, vb false)] [] [] 116 [hn, hf c41] (by kernel_rfl) ?_
     exact jl false h (conv_re [] (by kernel_rfl))
 ·
  obtain ⟨y50, e51, h⟩ := bnd_some h
  rcases ifs h with ⟨c52, h⟩ | ⟨c52, h⟩
  ·
   refine AW.rg tt_okL5 [(29, vb true)] [] [] 7 [hk (rl_law11_awake_con y50 e51), ht c52] (by kernel_rfl) ?_
   exact jl true h (conv_re [] (by kernel_rfl))
  ·
   obtain ⟨y53, e54, h⟩ := bnd_some h
   refine AW.rg tt_okL5 [(29, vb (!y53))] [] [] 6 [hk (rl_law11_awake_con y50 e51), hf c52, hn, hn, hk (rl_make_Few_con p0 y53 e54)] (by kernel_rfl) ?_
   exact jl (!y53) h (conv_re [] (by kernel_rfl))
end Go.Proofs.Ytnfikddgjkfflaa
