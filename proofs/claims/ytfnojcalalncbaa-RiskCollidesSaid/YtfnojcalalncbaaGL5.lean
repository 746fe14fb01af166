/- Printed by a program of mine (vmgen.py): Go functions, and what they come to. -/
import Derived.Test.YtfnojcalalncbaaVr
import Derived.Test.YtfnojcalalncbaaRows
import Derived.Test.YtfnojcalalncbaaVw
import Derived.Test.YtfnojcalalncbaaG0
namespace Go.Proofs.Ytfnojcalalncbaa
open Vm
open IntKind (i64 u64 u32 u8)
set_option maxHeartbeats 10000000
set_option linter.unusedVariables false
set_option linter.unusedSimpArgs false
set_option linter.constructorNameAsVariable false
def ttlL5 : List (Nat × TI) := [(3, ⟨.int .i64, 1, 8, [.int .i64 0], false⟩), (4, ⟨.bool, 1, 1, [.bool false], false⟩), (22, ⟨.slice 3, 1, 24, [.slice none 0 0], false⟩), (25, ⟨.ptr 66, 1, 8, [.pointer none], false⟩), (28, ⟨.struct [(3, 0), (3, 1), (3, 2)], 3, 24, [.int .i64 0, .int .i64 0, .int .i64 0], true⟩), (29, ⟨.slice 28, 1, 24, [.slice none 0 0], false⟩), (32, ⟨.int .i64, 1, 8, [.int .i64 0], false⟩), (43, ⟨.int .u64, 1, 8, [.int .u64 0], false⟩), (49, ⟨.slice 43, 1, 24, [.slice none 0 0], false⟩), (51, ⟨.struct [(3, 0), (49, 1)], 2, 32, [.int .i64 0, .slice none 0 0], false⟩), (66, ⟨.struct [(22, 0), (3, 1), (43, 2)], 3, 40, [.slice none 0 0, .int .i64 0, .int .u64 0], false⟩)]
theorem tt_okL5 : TTok Try.prog (Vm.look ttlL5) := ttok_of ⟨⟨by kernel_rfl, by kernel_rfl, by kernel_rfl⟩, ⟨by kernel_rfl, by kernel_rfl, by kernel_rfl⟩, ⟨by kernel_rfl, by kernel_rfl, by kernel_rfl⟩, ⟨by kernel_rfl, by kernel_rfl, by kernel_rfl⟩, ⟨by kernel_rfl, by kernel_rfl, by kernel_rfl⟩, ⟨by kernel_rfl, by kernel_rfl, by kernel_rfl⟩, ⟨by kernel_rfl, by kernel_rfl, by kernel_rfl⟩, ⟨by kernel_rfl, by kernel_rfl, by kernel_rfl⟩, ⟨by kernel_rfl, by kernel_rfl, by kernel_rfl⟩, ⟨by kernel_rfl, by kernel_rfl, by kernel_rfl⟩, ⟨by kernel_rfl, by kernel_rfl, by kernel_rfl⟩, trivial⟩
theorem moL5 : Try.prog.follows .mixedOrders = true := by kernel_rfl
/-! recordlink/recordlinklaw15.RiskCollides -/
noncomputable def rl_law15_RiskCollides_k2 (x23 : Bool) : Option Bool := some x23
noncomputable def rl_law15_RiskCollides_k1 (p0 : List Int) (x1 : Bool) : Option Bool := if x1 = true then ((rl_law15_awake).bind fun y3 => (some y3)) else ((rl_make_New p0).bind fun y5 => (bind2 (rl_make_Deck_Parameters y5 1) fun y7 y8 => (if (0 : Int) < (y7.length : Int) then (bind2 (rl_make_Deck_Next y8 40) fun y11 y12 => (bind2 (risk_Collision (y7.getD (0 + 0) dS_api_Parameters) y11) fun y14 y15 => (bind2 (risk_Collision (y7.getD (0 + 0) dS_api_Parameters) 0) fun y17 y18 => (bind2 (risk_Empty (y7.getD (0 + 0) dS_api_Parameters) y11) fun y20 y21 => (if (y15 == 0) = true then (if (y18 == 0) = true then (if (y21 == 0) = true then (if (y17 == 0) = true then (if (decide (y14 ≥ 0)) = true then (if (decide (y14 ≤ 1000000)) = true then (if (decide (y20 ≥ 0)) = true then (if (decide (y20 ≤ 1073741824)) = true then (if (decide (y11 > 0)) = true then (rl_law15_RiskCollides_k2 true) else (rl_law15_RiskCollides_k2 (y20 == 1073741824))) else (rl_law15_RiskCollides_k2 false)) else (rl_law15_RiskCollides_k2 false)) else (rl_law15_RiskCollides_k2 false)) else (rl_law15_RiskCollides_k2 false)) else (rl_law15_RiskCollides_k2 false)) else (rl_law15_RiskCollides_k2 false)) else (rl_law15_RiskCollides_k2 false)) else (rl_law15_RiskCollides_k2 false)))))) else none)))
noncomputable def rl_law15_RiskCollides (p0 : List Int) : Option Bool := (rl_law15_awake).bind fun y33 => (if (!y33) = true then (rl_law15_RiskCollides_k1 p0 true) else ((rl_make_Few p0).bind fun y36 => (rl_law15_RiskCollides_k1 p0 (!y36))))
set_option maxRecDepth 100000 in
theorem rl_law15_RiskCollides_con (p0 : List Int) (r : Bool) (h : rl_law15_RiskCollides p0 = some r) : Con Try.prog 5 [vl 1 Ri64 p0] [] (vb r) [] := by
 refine con_of tt_okL5 0 Try.func5 (by kernel_rfl) rfl (by kernel_rfl) (fun base X _ => AW.post ?_)
 unfold rl_law15_RiskCollides at h
 refine AW.sg tt_okL5 [] [] [] 1 [] (by kernel_rfl) ?_
 refine AW.seq (AW.seq ?_)
 refine AW.join (ι := Bool) (fun v => ⟨[(0, vl 1 Ri64 p0), (18, vb v)], [], 0⟩) (fun v : Bool => rl_law15_RiskCollides_k1 p0 v = some r) (fun x1 h => ?_) ?_
 ·
  unfold rl_law15_RiskCollides_k1 at h
  refine AW.tn ?_
  refine AW.co h (by kernel_rfl) (fun c2 h => ?_) (fun c2 h => ?_)
  ·
   obtain ⟨y3, e4, h⟩ := bnd_some h
   refine AW.sg tt_okL5 [(2, vb y3)] [] [] 1 [hk (rl_law15_awake_con y3 e4)] (by kernel_rfl) ?_
   refine AW.ret (AW.tr ?_)
   obtain rfl := some_inj h
   exact fn0 (.inr rfl) [] 0 (vb y3) (by kernel_rfl)
  ·
   refine AW.skip (AW.tn ?_)
   obtain ⟨y5, e6, h⟩ := bnd_some h
   refine AW.sg tt_okL5 [(3, .c (.ptr 1 3 0 0))] [1] [(1, .box 66 [cl 1 Ri64 y5.list, ci64 y5.at_, cu64 y5.state])] 3 [hn, hl [] [] 1 (rl_make_New_con p0 y5 e6)] (by kernel_rfl) ?_
   obtain ⟨y7, y8, e9, h⟩ := bind2_some h
   obtain ⟨g10, h⟩ := ifc h
   refine AW.sg tt_okL5 [(4, .c (.ptr 7 3 0 0))] [1, 4, 7] [(7, .box 28 [ci64 ((y7.getD (0 + 0) dS_api_Parameters).Length), ci64 ((y7.getD (0 + 0) dS_api_Parameters).Hashes), ci64 ((y7.getD (0 + 0) dS_api_Parameters).Salt)]), (1, .box 66 [cl 1 Ri64 y8.list, ci64 y8.at_, cu64 y8.state])] 9 [hn, hl [1] [] 1 (rl_make_Deck_Parameters_con y5 1 (y7, y8) e9), ho (p := (0 ≤ (0 : Int)) ∧ ((0 : Int) < (y7.length : Int))) (⟨(by decide), g10⟩), ho (p := (0 + 0) < y7.length) (by have h1 : 0 ≤ (0 : Int) := (by decide); have h2 : (0 : Int) < (y7.length : Int) := g10; omega)] (by kernel_rfl) ?_
   obtain ⟨y11, y12, e13, h⟩ := bind2_some h
   refine AW.sg tt_okL5 [(5, vi64 y11)] [1] [] 11 [hn, hl [1] [] 0 (rl_make_Deck_Next_con y8 40 (y11, y12) e13)] (by kernel_rfl) ?_
   obtain ⟨y14, y15, e16, h⟩ := bind2_some h
   refine AW.sg tt_okL5 [(7, vi64 y15), (6, vi64 y14)] [] [] 18 [hn, hn, hk (risk_Collision_con (y7.getD (0 + 0) dS_api_Parameters) y11 (y14, y15) e16)] (by kernel_rfl) ?_
   obtain ⟨y17, y18, e19, h⟩ := bind2_some h
   refine AW.sg tt_okL5 [(9, vi64 y18), (8, vi64 y17)] [] [] 24 [hn, hk (risk_Collision_con (y7.getD (0 + 0) dS_api_Parameters) 0 (y17, y18) e19)] (by kernel_rfl) ?_
   obtain ⟨y20, y21, e22, h⟩ := bind2_some h
   refine AW.sg tt_okL5 [(11, vi64 y21), (10, vi64 y20)] [] [] 31 [hn, hn, hk (risk_Empty_con (y7.getD (0 + 0) dS_api_Parameters) y11 (y20, y21) e22)] (by kernel_rfl) ?_
   refine AW.seq ?_
   refine AW.join (ι := Bool) (fun v => ⟨[(2, vb v)], [], 0⟩) (fun v : Bool => rl_law15_RiskCollides_k2 v = some r) (fun x23 h => ?_) ?_
   ·
    unfold rl_law15_RiskCollides_k2 at h
    refine AW.tn (AW.ret ?_)
    obtain rfl := some_inj h
    exact fn0 (.inr rfl) [] 0 (vb x23) (by kernel_rfl)
   ·
    rcases ifs h with ⟨c24, h⟩ | ⟨c24, h⟩
    ·
     rcases ifs h with ⟨c25, h⟩ | ⟨c25, h⟩
     ·
      rcases ifs h with ⟨c26, h⟩ | ⟨c26, h⟩
      ·
       rcases ifs h with ⟨c27, h⟩ | ⟨c27, h⟩
       ·
        rcases ifs h with ⟨c28, h⟩ | ⟨c28, h⟩
        ·
         rcases ifs h with ⟨c29, h⟩ | ⟨c29, h⟩
         ·
          rcases ifs h with ⟨c30, h⟩ | ⟨c30, h⟩
          ·
           rcases ifs h with ⟨c31, h⟩ | ⟨c31, h⟩
           ·
            rcases ifs h with ⟨c32, h⟩ | ⟨c32, h⟩
            ·
             refine AW.rg tt_okL5 [(2, vb true)] [] [] 70 [hn, ht c24, hn, hn, ht c25, hn, hn, hn, ht c26, hn, hn, hn, ht c27, hn, hn, hn, ht c28, hn, hn, hn, ht c29, hn, hn, hn, ht c30, hn, hn, hn, ht c31, hn, hn, hn, ht c32] (by kernel_rfl) ?_
             exact jl true h (conv_re [] (by kernel_rfl))
            ·
             refine AW.rg tt_okL5 [(2, vb (y20 == 1073741824))] [] [] 70 [hn, ht c24, hn, hn, ht c25, hn, hn, hn, ht c26, hn, hn, hn, ht c27, hn, hn, hn, ht c28, hn, hn, hn, ht c29, hn, hn, hn, ht c30, hn, hn, hn, ht c31, hn, hn, hn, hf c32] (by kernel_rfl) ?_
             exact jl (y20 == 1073741824) h (conv_re [] (by kernel_rfl))
           ·
            refine AW.rg tt_okL5 [(2, vb false)] [] [] 70 [hn, ht c24, hn, hn, ht c25, hn, hn, hn, ht c26, hn, hn, hn, ht c27, hn, hn, hn, ht c28, hn, hn, hn, ht c29, hn, hn, hn, ht c30, hn, hn, hn, hf c31] (by kernel_rfl) ?_
            exact jl false h (conv_re [] (by kernel_rfl))
          ·
           refine AW.rg tt_okL5 [(2, vb false)] [] [] 70 [hn, ht c24, hn, hn, ht c25, hn, hn, hn, ht c26, hn, hn, hn, ht c27, hn, hn, hn, ht c28, hn, hn, hn, ht c29, hn, hn, hn, hf c30] (by kernel_rfl) ?_
           exact jl false h (conv_re [] (by kernel_rfl))
         ·
          refine AW.rg tt_okL5 [(2, vb false)] [] [] 70 [hn, ht c24, hn, hn, ht c25, hn, hn, hn, ht c26, hn, hn, hn, ht c27, hn, hn, hn, ht c28, hn, hn, hn, hf c29] (by kernel_rfl) ?_
          exact jl false h (conv_re [] (by kernel_rfl))
        ·
         refine AW.rg tt_okL5 [(2, vb false)] [] [] 70 [hn, ht c24, hn, hn, ht c25, hn, hn, hn, ht c26, hn, hn, hn, ht c27, hn, hn, hn, hf c28] (by kernel_rfl) ?_
         exact jl false h (conv_re [] (by kernel_rfl))
       ·
        refine AW.rg tt_okL5 [(2, vb false)] [] [] 70 [hn, ht c24, hn, hn, ht c25, hn, hn, hn, ht c26, hn, hn, hn, hf c27] (by kernel_rfl) ?_
        exact jl false h (conv_re [] (by kernel_rfl))
      ·
       refine AW.rg tt_okL5 [(2, vb false)] [] [] 70 [hn, ht c24, hn, hn, ht c25, hn, hn, hn, hf c26] (by kernel_rfl) ?_
       exact jl false h (conv_re [] (by kernel_rfl))
     ·
      refine AW.rg tt_okL5 [(2, vb false)] [] [] 70 [hn, ht c24, hn, hn, hf c25] (by kernel_rfl) ?_
      exact jl false h (conv_re [] (by kernel_rfl))
    ·
     refine AW.rg tt_okL5 [(2, vb false)] [] [] 70 [hn, hf c24] (by kernel_rfl) ?_
     exact jl false h (conv_re [] (by kernel_rfl))
 ·
  obtain ⟨y33, e34, h⟩ := bnd_some h
  rcases ifs h with ⟨c35, h⟩ | ⟨c35, h⟩
  ·
   refine AW.rg tt_okL5 [(18, vb true)] [] [] 7 [hk (rl_law15_awake_con y33 e34), ht c35] (by kernel_rfl) ?_
   exact jl true h (conv_re [] (by kernel_rfl))
  ·
   obtain ⟨y36, e37, h⟩ := bnd_some h
   refine AW.rg tt_okL5 [(18, vb (!y36))] [] [] 6 [hk (rl_law15_awake_con y33 e34), hf c35, hn, hn, hk (rl_make_Few_con p0 y36 e37)] (by kernel_rfl) ?_
   exact jl (!y36) h (conv_re [] (by kernel_rfl))
end Go.Proofs.Ytfnojcalalncbaa
