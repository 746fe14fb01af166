/- Printed by a program of mine (vmgen.py): Go functions, and what they come to. -/
import Derived.Test.YtfnojcalalncbaaVr
import Derived.Test.YtfnojcalalncbaaRows
import Derived.Test.YtfnojcalalncbaaVw
import Derived.Test.YtfnojcalalncbaaG0
namespace Go.Proofs.Ytfnojcalalncbaa
open Vm
open IntKind (i64 u64 u32 u8)
set_option maxHeartbeats 10000000
set_option linter.unusedVariables false
set_option linter.unusedSimpArgs false
set_option linter.constructorNameAsVariable false
def ttlL3 : List (Nat × TI) := [(3, ⟨.int .i64, 1, 8, [.int .i64 0], false⟩), (4, ⟨.bool, 1, 1, [.bool false], false⟩), (22, ⟨.slice 3, 1, 24, [.slice none 0 0], false⟩), (25, ⟨.ptr 66, 1, 8, [.pointer none], false⟩), (28, ⟨.struct [(3, 0), (3, 1), (3, 2)], 3, 24, [.int .i64 0, .int .i64 0, .int .i64 0], true⟩), (29, ⟨.slice 28, 1, 24, [.slice none 0 0], false⟩), (32, ⟨.int .i64, 1, 8, [.int .i64 0], false⟩), (43, ⟨.int .u64, 1, 8, [.int .u64 0], false⟩), (49, ⟨.slice 43, 1, 24, [.slice none 0 0], false⟩), (51, ⟨.struct [(3, 0), (49, 1)], 2, 32, [.int .i64 0, .slice none 0 0], false⟩), (66, ⟨.struct [(22, 0), (3, 1), (43, 2)], 3, 40, [.slice none 0 0, .int .i64 0, .int .u64 0], false⟩)]
theorem tt_okL3 : TTok Try.prog (Vm.look ttlL3) := ttok_of ⟨⟨by kernel_rfl, by kernel_rfl, by kernel_rfl⟩, ⟨by kernel_rfl, by kernel_rfl, by kernel_rfl⟩, ⟨by kernel_rfl, by kernel_rfl, by kernel_rfl⟩, ⟨by kernel_rfl, by kernel_rfl, by kernel_rfl⟩, ⟨by kernel_rfl, by kernel_rfl, by kernel_rfl⟩, ⟨by kernel_rfl, by kernel_rfl, by kernel_rfl⟩, ⟨by kernel_rfl, by kernel_rfl, by kernel_rfl⟩, ⟨by kernel_rfl, by kernel_rfl, by kernel_rfl⟩, ⟨by kernel_rfl, by kernel_rfl, by kernel_rfl⟩, ⟨by kernel_rfl, by kernel_rfl, by kernel_rfl⟩, ⟨by kernel_rfl, by kernel_rfl, by kernel_rfl⟩, trivial⟩
theorem moL3 : Try.prog.follows .mixedOrders = true := by kernel_rfl
/-! recordlink/recordlinklaw15.RiskGrows -/
noncomputable def rl_law15_RiskGrows_k2 (x33 : Bool) : Option Bool := some x33
noncomputable def rl_law15_RiskGrows_k1 (p0 : List Int) (x1 : Bool) : Option Bool := if x1 = true then ((rl_law15_awake).bind fun y3 => (some y3)) else ((rl_make_New p0).bind fun y5 => (bind2 (rl_make_Deck_Parameters y5 1) fun y7 y8 => (if (0 : Int) < (y7.length : Int) then (bind2 (rl_make_Deck_Next y8 80) fun y11 y12 => ((some (i64.wrap (((y7.getD (0 + 0) dS_api_Parameters).Hashes) + 1))).bind fun z14 => ((some (i64.wrap (((y7.getD (0 + 0) dS_api_Parameters).Length) + 64))).bind fun z16 => (bind2 (risk_Fill (y7.getD (0 + 0) dS_api_Parameters) y11) fun y18 y19 => (bind2 (risk_Fill (y7.getD (0 + 0) dS_api_Parameters) (i64.wrap (y11 + 1))) fun y21 y22 => (bind2 (risk_Fill (⟨(y7.getD (0 + 0) dS_api_Parameters).Length, z14, (y7.getD (0 + 0) dS_api_Parameters).Salt⟩ : S_api_Parameters) y11) fun y24 y25 => (bind2 (risk_Fill (⟨z16, (y7.getD (0 + 0) dS_api_Parameters).Hashes, (y7.getD (0 + 0) dS_api_Parameters).Salt⟩ : S_api_Parameters) y11) fun y27 y28 => (bind2 (risk_Fill (y7.getD (0 + 0) dS_api_Parameters) 0) fun y30 y31 => (if (y19 == 0) = true then (if (y22 == 0) = true then (if (y25 == 0) = true then (if (y28 == 0) = true then (if (y31 == 0) = true then (if (decide (y18 ≤ y21)) = true then (if (decide (y18 ≤ y24)) = true then (if (decide (y27 ≤ y18)) = true then (if (y30 == 0) = true then (rl_law15_RiskGrows_k2 (decide (y21 ≤ 1000))) else (rl_law15_RiskGrows_k2 false)) else (rl_law15_RiskGrows_k2 false)) else (rl_law15_RiskGrows_k2 false)) else (rl_law15_RiskGrows_k2 false)) else (rl_law15_RiskGrows_k2 false)) else (rl_law15_RiskGrows_k2 false)) else (rl_law15_RiskGrows_k2 false)) else (rl_law15_RiskGrows_k2 false)) else (rl_law15_RiskGrows_k2 false)))))))))) else none)))
noncomputable def rl_law15_RiskGrows (p0 : List Int) : Option Bool := (rl_law15_awake).bind fun y43 => (if (!y43) = true then (rl_law15_RiskGrows_k1 p0 true) else ((rl_make_Few p0).bind fun y46 => (rl_law15_RiskGrows_k1 p0 (!y46))))
set_option maxRecDepth 100000 in
theorem rl_law15_RiskGrows_con (p0 : List Int) (r : Bool) (h : rl_law15_RiskGrows p0 = some r) : Con Try.prog 3 [vl 1 Ri64 p0] [] (vb r) [] := by
 refine con_of tt_okL3 0 Try.func3 (by kernel_rfl) rfl (by kernel_rfl) (fun base X _ => AW.post ?_)
 unfold rl_law15_RiskGrows at h
 refine AW.sg tt_okL3 [] [] [] 1 [] (by kernel_rfl) ?_
 refine AW.seq (AW.seq ?_)
 refine AW.join (ι := Bool) (fun v => ⟨[(0, vl 1 Ri64 p0), (24, vb v)], [], 0⟩) (fun v : Bool => rl_law15_RiskGrows_k1 p0 v = some r) (fun x1 h => ?_) ?_
 ·
  unfold rl_law15_RiskGrows_k1 at h
  refine AW.tn ?_
  refine AW.co h (by kernel_rfl) (fun c2 h => ?_) (fun c2 h => ?_)
  ·
   obtain ⟨y3, e4, h⟩ := bnd_some h
   refine AW.sg tt_okL3 [(2, vb y3)] [] [] 1 [hk (rl_law15_awake_con y3 e4)] (by kernel_rfl) ?_
   refine AW.ret (AW.tr ?_)
   obtain rfl := some_inj h
   exact fn0 (.inr rfl) [] 0 (vb y3) (by kernel_rfl)
  ·
   refine AW.skip (AW.tn ?_)
   obtain ⟨y5, e6, h⟩ := bnd_some h
   refine AW.sg tt_okL3 [(3, .c (.ptr 1 3 0 0))] [1] [(1, .box 66 [cl 1 Ri64 y5.list, ci64 y5.at_, cu64 y5.state])] 3 [hn, hl [] [] 1 (rl_make_New_con p0 y5 e6)] (by kernel_rfl) ?_
   obtain ⟨y7, y8, e9, h⟩ := bind2_some h
   obtain ⟨g10, h⟩ := ifc h
   refine AW.sg tt_okL3 [(4, .c (.ptr 7 3 0 0))] [1, 4, 7] [(7, .box 28 [ci64 ((y7.getD (0 + 0) dS_api_Parameters).Length), ci64 ((y7.getD (0 + 0) dS_api_Parameters).Hashes), ci64 ((y7.getD (0 + 0) dS_api_Parameters).Salt)]), (1, .box 66 [cl 1 Ri64 y8.list, ci64 y8.at_, cu64 y8.state])] 9 [hn, hl [1] [] 1 (rl_make_Deck_Parameters_con y5 1 (y7, y8) e9), ho (p := (0 ≤ (0 : Int)) ∧ ((0 : Int) < (y7.length : Int))) (⟨(by decide), g10⟩), ho (p := (0 + 0) < y7.length) (by have h1 : 0 ≤ (0 : Int) := (by decide); have h2 : (0 : Int) < (y7.length : Int) := g10; omega)] (by kernel_rfl) ?_
   obtain ⟨y11, y12, e13, h⟩ := bind2_some h
   refine AW.sg tt_okL3 [(5, vi64 y11)] [1] [] 11 [hn, hl [1] [] 0 (rl_make_Deck_Next_con y8 80 (y11, y12) e13)] (by kernel_rfl) ?_
   refine AW.sd tt_okL3 moL3 [[], [], [13], [14], [13], [14]] [(7, .c (.ptr 14 3 0 0)), (6, .c (.ptr 13 3 0 0))] [(14, .box 28 [ci64 ((y7.getD (0 + 0) dS_api_Parameters).Length), ci64 ((y7.getD (0 + 0) dS_api_Parameters).Hashes), ci64 ((y7.getD (0 + 0) dS_api_Parameters).Salt)]), (13, .box 28 [ci64 ((y7.getD (0 + 0) dS_api_Parameters).Length), ci64 ((y7.getD (0 + 0) dS_api_Parameters).Hashes), ci64 ((y7.getD (0 + 0) dS_api_Parameters).Salt)])] 17 [] (by kernel_rfl) ?_
   obtain ⟨z14, n15, h⟩ := bnd_some h
   replace n15 := some_inj n15
   refine AW.sg tt_okL3 [] [13] [(13, .box 28 [ci64 ((y7.getD (0 + 0) dS_api_Parameters).Length), ci64 z14, ci64 ((y7.getD (0 + 0) dS_api_Parameters).Salt)])] 22 [] (by subst n15; kernel_rfl) ?_
   obtain ⟨z16, n17, h⟩ := bnd_some h
   replace n17 := some_inj n17
   refine AW.sg tt_okL3 [] [14] [(14, .box 28 [ci64 z16, ci64 ((y7.getD (0 + 0) dS_api_Parameters).Hashes), ci64 ((y7.getD (0 + 0) dS_api_Parameters).Salt)])] 27 [] (by subst n17; kernel_rfl) ?_
   obtain ⟨y18, y19, e20, h⟩ := bind2_some h
   refine AW.sg tt_okL3 [(9, vi64 y19), (8, vi64 y18)] [] [] 34 [hn, hn, hk (risk_Fill_con (y7.getD (0 + 0) dS_api_Parameters) y11 (y18, y19) e20)] (by kernel_rfl) ?_
   obtain ⟨y21, y22, e23, h⟩ := bind2_some h
   refine AW.sg tt_okL3 [(11, vi64 y22), (10, vi64 y21)] [] [] 42 [hn, hn, hn, hk (risk_Fill_con (y7.getD (0 + 0) dS_api_Parameters) (i64.wrap (y11 + 1)) (y21, y22) e23)] (by kernel_rfl) ?_
   obtain ⟨y24, y25, e26, h⟩ := bind2_some h
   refine AW.sg tt_okL3 [(13, vi64 y25), (12, vi64 y24)] [] [] 49 [hn, hn, hk (risk_Fill_con (⟨(y7.getD (0 + 0) dS_api_Parameters).Length, z14, (y7.getD (0 + 0) dS_api_Parameters).Salt⟩ : S_api_Parameters) y11 (y24, y25) e26)] (by kernel_rfl) ?_
   obtain ⟨y27, y28, e29, h⟩ := bind2_some h
   refine AW.sg tt_okL3 [(15, vi64 y28), (14, vi64 y27)] [] [] 56 [hn, hn, hk (risk_Fill_con (⟨z16, (y7.getD (0 + 0) dS_api_Parameters).Hashes, (y7.getD (0 + 0) dS_api_Parameters).Salt⟩ : S_api_Parameters) y11 (y27, y28) e29)] (by kernel_rfl) ?_
   obtain ⟨y30, y31, e32, h⟩ := bind2_some h
   refine AW.sg tt_okL3 [(17, vi64 y31), (16, vi64 y30)] [] [] 62 [hn, hk (risk_Fill_con (y7.getD (0 + 0) dS_api_Parameters) 0 (y30, y31) e32)] (by kernel_rfl) ?_
   refine AW.seq ?_
   refine AW.join (ι := Bool) (fun v => ⟨[(2, vb v)], [], 0⟩) (fun v : Bool => rl_law15_RiskGrows_k2 v = some r) (fun x33 h => ?_) ?_
   ·
    unfold rl_law15_RiskGrows_k2 at h
    refine AW.tn (AW.ret ?_)
    obtain rfl := some_inj h
    exact fn0 (.inr rfl) [] 0 (vb x33) (by kernel_rfl)
   ·
    rcases ifs h with ⟨c34, h⟩ | ⟨c34, h⟩
    ·
     rcases ifs h with ⟨c35, h⟩ | ⟨c35, h⟩
     ·
      rcases ifs h with ⟨c36, h⟩ | ⟨c36, h⟩
      ·
       rcases ifs h with ⟨c37, h⟩ | ⟨c37, h⟩
       ·
        rcases ifs h with ⟨c38, h⟩ | ⟨c38, h⟩
        ·
         rcases ifs h with ⟨c39, h⟩ | ⟨c39, h⟩
         ·
          rcases ifs h with ⟨c40, h⟩ | ⟨c40, h⟩
          ·
           rcases ifs h with ⟨c41, h⟩ | ⟨c41, h⟩
           ·
            rcases ifs h with ⟨c42, h⟩ | ⟨c42, h⟩
            ·
             refine AW.rg tt_okL3 [(2, vb (decide (y21 ≤ 1000)))] [] [] 104 [hn, ht c34, hn, hn, ht c35, hn, hn, hn, ht c36, hn, hn, hn, ht c37, hn, hn, hn, ht c38, hn, hn, hn, hn, ht c39, hn, hn, hn, hn, ht c40, hn, hn, hn, hn, ht c41, hn, hn, hn, ht c42] (by kernel_rfl) ?_
             exact jl (decide (y21 ≤ 1000)) h (conv_re [] (by kernel_rfl))
            ·
             refine AW.rg tt_okL3 [(2, vb false)] [] [] 104 [hn, ht c34, hn, hn, ht c35, hn, hn, hn, ht c36, hn, hn, hn, ht c37, hn, hn, hn, ht c38, hn, hn, hn, hn, ht c39, hn, hn, hn, hn, ht c40, hn, hn, hn, hn, ht c41, hn, hn, hn, hf c42] (by kernel_rfl) ?_
             exact jl false h (conv_re [] (by kernel_rfl))
           ·
            refine AW.rg tt_okL3 [(2, vb false)] [] [] 104 [hn, ht c34, hn, hn, ht c35, hn, hn, hn, ht c36, hn, hn, hn, ht c37, hn, hn, hn, ht c38, hn, hn, hn, hn, ht c39, hn, hn, hn, hn, ht c40, hn, hn, hn, hn, hf c41] (by kernel_rfl) ?_
            exact jl false h (conv_re [] (by kernel_rfl))
          ·
           refine AW.rg tt_okL3 [(2, vb false)] [] [] 104 [hn, ht c34, hn, hn, ht c35, hn, hn, hn, ht c36, hn, hn, hn, ht c37, hn, hn, hn, ht c38, hn, hn, hn, hn, ht c39, hn, hn, hn, hn, hf c40] (by kernel_rfl) ?_
           exact jl false h (conv_re [] (by kernel_rfl))
         ·
          refine AW.rg tt_okL3 [(2, vb false)] [] [] 104 [hn, ht c34, hn, hn, ht c35, hn, hn, hn, ht c36, hn, hn, hn, ht c37, hn, hn, hn, ht c38, hn, hn, hn, hn, hf c39] (by kernel_rfl) ?_
          exact jl false h (conv_re [] (by kernel_rfl))
        ·
         refine AW.rg tt_okL3 [(2, vb false)] [] [] 104 [hn, ht c34, hn, hn, ht c35, hn, hn, hn, ht c36, hn, hn, hn, ht c37, hn, hn, hn, hf c38] (by kernel_rfl) ?_
         exact jl false h (conv_re [] (by kernel_rfl))
       ·
        refine AW.rg tt_okL3 [(2, vb false)] [] [] 104 [hn, ht c34, hn, hn, ht c35, hn, hn, hn, ht c36, hn, hn, hn, hf c37] (by kernel_rfl) ?_
        exact jl false h (conv_re [] (by kernel_rfl))
      ·
       refine AW.rg tt_okL3 [(2, vb false)] [] [] 104 [hn, ht c34, hn, hn, ht c35, hn, hn, hn, hf c36] (by kernel_rfl) ?_
       exact jl false h (conv_re [] (by kernel_rfl))
     ·
      refine AW.rg tt_okL3 [(2, vb false)] [] [] 104 [hn, ht c34, hn, hn, hf c35] (by kernel_rfl) ?_
      exact jl false h (conv_re [] (by kernel_rfl))
    ·
     refine AW.rg tt_okL3 [(2, vb false)] [] [] 104 [hn, hf c34] (by kernel_rfl) ?_
     exact jl false h (conv_re [] (by kernel_rfl))
 ·
  obtain ⟨y43, e44, h⟩ := bnd_some h
  rcases ifs h with ⟨c45, h⟩ | ⟨c45, h⟩
  ·
   refine AW.rg tt_okL3 [(24, vb true)] [] [] 7 [hk (rl_law15_awake_con y43 e44), ht c45] (by kernel_rfl) ?_
   exact jl true h (conv_re [] (by kernel_rfl))
  ·
   obtain ⟨y46, e47, h⟩ := bnd_some h
   refine AW.rg tt_okL3 [(24, vb (!y46))] [] [] 6 [hk (rl_law15_awake_con y43 e44), hf c45, hn, hn, hk (rl_make_Few_con p0 y46 e47)] (by kernel_rfl) ?_
   exact jl (!y46) h (conv_re [] (by kernel_rfl))
end Go.Proofs.Ytfnojcalalncbaa
