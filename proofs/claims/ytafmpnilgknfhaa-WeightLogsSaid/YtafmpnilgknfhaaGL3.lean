/- Printed by a program of mine (vmgen.py): Go functions, and what they come to. -/
import Derived.Test.YtafmpnilgknfhaaVr
import Derived.Test.YtafmpnilgknfhaaRows
import Derived.Test.YtafmpnilgknfhaaG1
namespace Go.Proofs.Ytafmpnilgknfhaa
open Vm
open IntKind (i64 u64 u32 u8)
set_option maxHeartbeats 10000000
set_option linter.unusedVariables false
set_option linter.unusedSimpArgs false
set_option linter.constructorNameAsVariable false
def ttlL3 : List (Nat × TI) := [(3, ⟨.int .i64, 1, 8, [.int .i64 0]⟩), (4, ⟨.bool, 1, 1, [.bool false]⟩), (5, ⟨.int .u8, 1, 1, [.int .u8 0]⟩), (9, ⟨.str, 1, 16, [.string ⟨#[]⟩]⟩), (22, ⟨.int .u16, 1, 2, [.int .u16 0]⟩), (23, ⟨.int .i64, 1, 8, [.int .i64 0]⟩), (53, ⟨.slice 78, 1, 24, [.slice none 0 0]⟩), (58, ⟨.int .u64, 1, 8, [.int .u64 0]⟩), (78, ⟨.int .u32, 1, 4, [.int .u32 0]⟩)]
theorem tt_okL3 : TTok Try.prog (Vm.look ttlL3) := ttok_of ⟨⟨by kernel_rfl, by kernel_rfl⟩, ⟨by kernel_rfl, by kernel_rfl⟩, ⟨by kernel_rfl, by kernel_rfl⟩, ⟨by kernel_rfl, by kernel_rfl⟩, ⟨by kernel_rfl, by kernel_rfl⟩, ⟨by kernel_rfl, by kernel_rfl⟩, ⟨by kernel_rfl, by kernel_rfl⟩, ⟨by kernel_rfl, by kernel_rfl⟩, ⟨by kernel_rfl, by kernel_rfl⟩, trivial⟩
theorem moL3 : Try.prog.follows .mixedOrders = true := by kernel_rfl
/-! recordlink/recordlinklaw25.WeightLogs -/
noncomputable def rl_law25_WeightLogs_l2 (p1 : Int) (x11 : Int) (x12 : Int) : Option ((Int × Int) ⊕ Int) := if (decide (x12 ≥ (i64.wrap (2 * (i64.wrap (1 + ((i64.wrap p1).tmod 65536))))))) = true then (some (.inl (i64.wrap (x11 + 1), i64.wrap (x12.tdiv 2)))) else (some (.inr x11))
noncomputable def rl_law25_WeightLogs_k4 (x21 : Bool) : Option Bool := some x21
noncomputable def rl_law25_WeightLogs_k3 (p0 : Int) (p1 : Int) (y1 : Int) (x16 : Bool) : Option Bool := if x16 = true then (some false) else (bind2 (weight_Log (if (i64.wrap (2 * (i64.wrap (1 + ((i64.wrap p0).tmod 65536))))) < 65536 then (i64.wrap (2 * (i64.wrap (1 + ((i64.wrap p0).tmod 65536))))) else 65536) (i64.wrap (1 + ((i64.wrap p1).tmod 65536)))) fun y18 y19 => (if (y19 == 0) = true then (if (decide ((i64.wrap (2 * (i64.wrap (1 + ((i64.wrap p0).tmod 65536))))) > 65536)) = true then ((rl_law25_awake).bind fun y24 => (rl_law25_WeightLogs_k4 y24)) else (if (y18 == (i64.wrap (y1 + 16))) = true then ((rl_law25_awake).bind fun y27 => (rl_law25_WeightLogs_k4 y27)) else (rl_law25_WeightLogs_k4 false))) else (rl_law25_WeightLogs_k4 false)))
noncomputable def rl_law25_WeightLogs_k1 (p0 : Int) (p1 : Int) (y1 : Int) (x7 : Bool) : Option Bool := if x7 = true then (some false) else ((loop (fun v : Int × Int => rl_law25_WeightLogs_l2 p1 v.1 v.2) (0, i64.wrap (1 + ((i64.wrap p0).tmod 65536)))).bind fun x15 => (if (decide ((i64.wrap (1 + ((i64.wrap p0).tmod 65536))) ≥ (i64.wrap (1 + ((i64.wrap p1).tmod 65536))))) = true then (if (decide (y1 < 0)) = true then (rl_law25_WeightLogs_k3 p0 p1 y1 true) else (if (decide ((i64.wrap (y1.tdiv 16)) > 16)) = true then (rl_law25_WeightLogs_k3 p0 p1 y1 true) else (if (decide ((i64.wrap (1 + ((i64.wrap p0).tmod 65536))) ≥ (i64.wrap (1 + ((i64.wrap p1).tmod 65536))))) = true then (rl_law25_WeightLogs_k3 p0 p1 y1 (decide ((i64.wrap (y1.tdiv 16)) < (i64.wrap (x15 - 1))))) else (rl_law25_WeightLogs_k3 p0 p1 y1 false)))) else (if (decide ((i64.wrap (1 + ((i64.wrap p0).tmod 65536))) ≥ (i64.wrap (1 + ((i64.wrap p1).tmod 65536))))) = true then (rl_law25_WeightLogs_k3 p0 p1 y1 (decide ((i64.wrap (y1.tdiv 16)) < (i64.wrap (x15 - 1))))) else (rl_law25_WeightLogs_k3 p0 p1 y1 false))))
noncomputable def rl_law25_WeightLogs (p0 : Int) (p1 : Int) : Option Bool := bind2 (weight_Log (i64.wrap (1 + ((i64.wrap p0).tmod 65536))) (i64.wrap (1 + ((i64.wrap p1).tmod 65536)))) fun y1 y2 => (bind2 (weight_Log (i64.wrap (1 + ((i64.wrap p1).tmod 65536))) (i64.wrap (1 + ((i64.wrap p0).tmod 65536)))) fun y4 y5 => (if (y2 != 0) = true then (rl_law25_WeightLogs_k1 p0 p1 y1 true) else (if (y5 != 0) = true then (rl_law25_WeightLogs_k1 p0 p1 y1 true) else (if ((i64.wrap (y1 + y4)) != 0) = true then (rl_law25_WeightLogs_k1 p0 p1 y1 ((i64.wrap (y1 + y4)) != (-1))) else (rl_law25_WeightLogs_k1 p0 p1 y1 false)))))
set_option maxRecDepth 100000 in
theorem rl_law25_WeightLogs_con (p0 : Int) (p1 : Int) (r : Bool) (h : rl_law25_WeightLogs p0 p1 = some r) : Con Try.prog 3 [vu16 p0, vu16 p1] [] (vb r) [] := by
 refine con_of tt_okL3 0 Try.func3 (by kernel_rfl) rfl (by kernel_rfl) (fun base X _ => AW.post ?_)
 unfold rl_law25_WeightLogs at h
 refine AW.sg tt_okL3 [] [] [] 1 [] (by kernel_rfl) ?_
 refine AW.sg tt_okL3 [(6, vi64 (i64.wrap (1 + ((i64.wrap p1).tmod 65536)))), (5, vi64 (i64.wrap (1 + ((i64.wrap p0).tmod 65536))))] [] [] 11 [hn, hn, ho (p := (65536 : Int) ≠ 0) (by decide), hn, hn, hn, ho (p := (65536 : Int) ≠ 0) (by decide)] (by kernel_rfl) ?_
 obtain ⟨y1, y2, e3, h⟩ := bind2_some h
 refine AW.sg tt_okL3 [(8, vi64 y2), (7, vi64 y1)] [] [] 18 [hn, hn, hk (weight_Log_con (i64.wrap (1 + ((i64.wrap p0).tmod 65536))) (i64.wrap (1 + ((i64.wrap p1).tmod 65536))) (y1, y2) e3)] (by kernel_rfl) ?_
 obtain ⟨y4, y5, e6, h⟩ := bind2_some h
 refine AW.sg tt_okL3 [(10, vi64 y5), (9, vi64 y4)] [] [] 25 [hn, hn, hk (weight_Log_con (i64.wrap (1 + ((i64.wrap p1).tmod 65536))) (i64.wrap (1 + ((i64.wrap p0).tmod 65536))) (y4, y5) e6)] (by kernel_rfl) ?_
 refine AW.seq (AW.seq ?_)
 refine AW.join (ι := Bool) (fun v => ⟨[(5, vi64 (i64.wrap (1 + ((i64.wrap p0).tmod 65536)))), (6, vi64 (i64.wrap (1 + ((i64.wrap p1).tmod 65536)))), (7, vi64 y1), (52, vb v)], [], 0⟩) (fun v : Bool => rl_law25_WeightLogs_k1 p0 p1 y1 v = some r) (fun x7 h => ?_) ?_
 ·
  unfold rl_law25_WeightLogs_k1 at h
  refine AW.tn ?_
  refine AW.co h (by kernel_rfl) (fun c8 h => ?_) (fun c8 h => ?_)
  ·
   refine AW.sg tt_okL3 [(4, vb false)] [] [] 1 [] (by kernel_rfl) ?_
   refine AW.ret (AW.tr ?_)
   obtain rfl := some_inj h
   exact fn0 (.inr rfl) [] 0 (vb false) (by kernel_rfl)
  ·
   refine AW.skip (AW.tn ?_)
   refine AW.sg tt_okL3 [(11, vi64 0)] [] [] 1 [] (by kernel_rfl) ?_
   refine AW.seq ?_
   refine AW.sg tt_okL3 [(12, vi64 (i64.wrap (1 + ((i64.wrap p0).tmod 65536))))] [] [] 3 [] (by kernel_rfl) ?_
   refine AW.block ?_
   obtain ⟨x15, l34, h⟩ := bnd_some h
   refine AW.lp l34 (fun v => ⟨[(5, vi64 (i64.wrap (1 + ((i64.wrap p0).tmod 65536)))), (6, vi64 (i64.wrap (1 + ((i64.wrap p1).tmod 65536)))), (7, vi64 y1), (11, vi64 v.1), (12, vi64 v.2)], [], 0⟩) (fun t : Int => (.exit 0, ⟨[(5, vi64 (i64.wrap (1 + ((i64.wrap p0).tmod 65536)))), (6, vi64 (i64.wrap (1 + ((i64.wrap p1).tmod 65536)))), (7, vi64 y1), (11, vi64 t)], [], 0⟩)) (conv_re [] (by kernel_rfl)) (fun _ => tv) ?_ ?_
   ·
    clear l34 h
    intro v o h
    obtain ⟨x11, x12⟩ := v
    replace h : rl_law25_WeightLogs_l2 p1 x11 x12 = some o := h
    unfold rl_law25_WeightLogs_l2 at h
    refine AW.seq ?_
    refine AW.sg tt_okL3 [(57, vb (decide (x12 ≥ (i64.wrap (2 * (i64.wrap (1 + ((i64.wrap p1).tmod 65536))))))))] [] [] 4 [] (by kernel_rfl) ?_
    refine AW.co h (by kernel_rfl) (fun c14 h => ?_) (fun c14 h => ?_)
    ·
     refine AW.skip (AW.tn ?_)
     refine AW.seq (AW.block ?_)
     refine AW.rg tt_okL3 [(11, vi64 (i64.wrap (x11 + 1)))] [] [] 7 [] (by kernel_rfl) ?_
     refine AW.inBlock_normal (AW.tn ?_)
     refine AW.rg tt_okL3 [(12, vi64 (i64.wrap (x12.tdiv 2)))] [] [] 10 [hn, ho (p := (2 : Int) ≠ 0) (by decide)] (by kernel_rfl) ?_
     exact lpn h (conv_re [] (by kernel_rfl))
    ·
     refine AW.exit (AW.thenQ_exit ?_)
     exact lpo h rfl (conv_re [] (by kernel_rfl))
   ·
    show (_ : Exit → St → Prop) (.exit 0) _
    refine AW.inBlock_hit (AW.tn ?_)
    refine AW.seq (AW.seq ?_)
    refine AW.join (ι := Bool) (fun v => ⟨[(5, vi64 (i64.wrap (1 + ((i64.wrap p0).tmod 65536)))), (6, vi64 (i64.wrap (1 + ((i64.wrap p1).tmod 65536)))), (7, vi64 y1), (85, vb v)], [], 0⟩) (fun v : Bool => rl_law25_WeightLogs_k3 p0 p1 y1 v = some r) (fun x16 h => ?_) ?_
    ·
     unfold rl_law25_WeightLogs_k3 at h
     refine AW.tn ?_
     refine AW.co h (by kernel_rfl) (fun c17 h => ?_) (fun c17 h => ?_)
     ·
      refine AW.sg tt_okL3 [(4, vb false)] [] [] 1 [] (by kernel_rfl) ?_
      refine AW.ret (AW.tr ?_)
      obtain rfl := some_inj h
      exact fn0 (.inr rfl) [] 0 (vb false) (by kernel_rfl)
     ·
      refine AW.skip (AW.tn ?_)
      obtain ⟨y18, y19, e20, h⟩ := bind2_some h
      refine AW.sg tt_okL3 [(14, vi64 y19), (13, vi64 y18)] [] [] 9 [hn, hn, hn, hn, hk (weight_Log_con (if (i64.wrap (2 * (i64.wrap (1 + ((i64.wrap p0).tmod 65536))))) < 65536 then (i64.wrap (2 * (i64.wrap (1 + ((i64.wrap p0).tmod 65536))))) else 65536) (i64.wrap (1 + ((i64.wrap p1).tmod 65536))) (y18, y19) e20)] (by kernel_rfl) ?_
      refine AW.seq ?_
      refine AW.join (ι := Bool) (fun v => ⟨[(4, vb v)], [], 0⟩) (fun v : Bool => rl_law25_WeightLogs_k4 v = some r) (fun x21 h => ?_) ?_
      ·
       unfold rl_law25_WeightLogs_k4 at h
       refine AW.tn (AW.ret ?_)
       obtain rfl := some_inj h
       exact fn0 (.inr rfl) [] 0 (vb x21) (by kernel_rfl)
      ·
       rcases ifs h with ⟨c22, h⟩ | ⟨c22, h⟩
       ·
        rcases ifs h with ⟨c23, h⟩ | ⟨c23, h⟩
        ·
         obtain ⟨y24, e25, h⟩ := bnd_some h
         refine AW.rg tt_okL3 [(4, vb y24)] [] [] 25 [hn, ht c22, hn, hn, hn, ht c23, hn, hn, hn, hn, hn, hn, hn, hn, hk (rl_law25_awake_con y24 e25)] (by kernel_rfl) ?_
         exact jl y24 h (conv_re [] (by kernel_rfl))
        ·
         rcases ifs h with ⟨c26, h⟩ | ⟨c26, h⟩
         ·
          obtain ⟨y27, e28, h⟩ := bnd_some h
          refine AW.rg tt_okL3 [(4, vb y27)] [] [] 25 [hn, ht c22, hn, hn, hn, hf c23, hn, hn, hn, hn, ht c26, hn, hn, hn, hk (rl_law25_awake_con y27 e28)] (by kernel_rfl) ?_
          exact jl y27 h (conv_re [] (by kernel_rfl))
         ·
          refine AW.rg tt_okL3 [(4, vb false)] [] [] 26 [hn, ht c22, hn, hn, hn, hf c23, hn, hn, hn, hn, hf c26] (by kernel_rfl) ?_
          exact jl false h (conv_re [] (by kernel_rfl))
       ·
        refine AW.rg tt_okL3 [(4, vb false)] [] [] 26 [hn, hf c22] (by kernel_rfl) ?_
        exact jl false h (conv_re [] (by kernel_rfl))
    ·
     rcases ifs h with ⟨c29, h⟩ | ⟨c29, h⟩
     ·
      rcases ifs h with ⟨c30, h⟩ | ⟨c30, h⟩
      ·
       refine AW.rg tt_okL3 [(85, vb true)] [] [] 24 [hn, hn, ht c29, hn, hn, ht c30] (by kernel_rfl) ?_
       exact jl true h (conv_re [] (by kernel_rfl))
      ·
       rcases ifs h with ⟨c31, h⟩ | ⟨c31, h⟩
       ·
        refine AW.rg tt_okL3 [(85, vb true)] [] [] 24 [hn, hn, ht c29, hn, hn, hf c30, hn, hn, ho (p := (16 : Int) ≠ 0) (by decide), ht c31] (by kernel_rfl) ?_
        exact jl true h (conv_re [] (by kernel_rfl))
       ·
        rcases ifs h with ⟨c32, h⟩ | ⟨c32, h⟩
        ·
         refine AW.rg tt_okL3 [(85, vb (decide ((i64.wrap (y1.tdiv 16)) < (i64.wrap (x15 - 1)))))] [] [] 24 [hn, hn, ht c32, hn, hn, hf c30, hn, hn, ho (p := (16 : Int) ≠ 0) (by decide), hf c31, hn, hn, hn, hn, hn, ht c32, hn, hn, ho (p := (16 : Int) ≠ 0) (by decide)] (by kernel_rfl) ?_
         exact jl (decide ((i64.wrap (y1.tdiv 16)) < (i64.wrap (x15 - 1)))) h (conv_re [] (by kernel_rfl))
        ·
         refine AW.rg tt_okL3 [(85, vb false)] [] [] 24 [hn, hn, ht c29, hn, hn, hf c30, hn, hn, ho (p := (16 : Int) ≠ 0) (by decide), hf c31, hn, hn, hn, hn, hn, hf c32] (by kernel_rfl) ?_
         exact jl false h (conv_re [] (by kernel_rfl))
     ·
      rcases ifs h with ⟨c33, h⟩ | ⟨c33, h⟩
      ·
       refine AW.rg tt_okL3 [(85, vb (decide ((i64.wrap (y1.tdiv 16)) < (i64.wrap (x15 - 1)))))] [] [] 24 [hn, hn, hf c29, hn, hn, hn, hn, hn, hn, hn, hn, hn, hn, hn, hn, ht c33, hn, hn, ho (p := (16 : Int) ≠ 0) (by decide)] (by kernel_rfl) ?_
       exact jl (decide ((i64.wrap (y1.tdiv 16)) < (i64.wrap (x15 - 1)))) h (conv_re [] (by kernel_rfl))
      ·
       refine AW.rg tt_okL3 [(85, vb false)] [] [] 24 [hn, hn, hf c33, hn, hn, hn, hn, hn, hn, hn, hn, hn, hn, hn, hn, hf c33] (by kernel_rfl) ?_
       exact jl false h (conv_re [] (by kernel_rfl))
 ·
  rcases ifs h with ⟨c35, h⟩ | ⟨c35, h⟩
  ·
   refine AW.rg tt_okL3 [(52, vb true)] [] [] 43 [hn, ht c35] (by kernel_rfl) ?_
   exact jl true h (conv_re [] (by kernel_rfl))
  ·
   rcases ifs h with ⟨c36, h⟩ | ⟨c36, h⟩
   ·
    refine AW.rg tt_okL3 [(52, vb true)] [] [] 43 [hn, hf c35, hn, hn, ht c36] (by kernel_rfl) ?_
    exact jl true h (conv_re [] (by kernel_rfl))
   ·
    rcases ifs h with ⟨c37, h⟩ | ⟨c37, h⟩
    ·
     refine AW.rg tt_okL3 [(52, vb ((i64.wrap (y1 + y4)) != (-1)))] [] [] 43 [hn, hf c35, hn, hn, hf c36, hn, hn, hn, hn, hn, ht c37] (by kernel_rfl) ?_
     exact jl ((i64.wrap (y1 + y4)) != (-1)) h (conv_re [] (by kernel_rfl))
    ·
     refine AW.rg tt_okL3 [(52, vb false)] [] [] 43 [hn, hf c35, hn, hn, hf c36, hn, hn, hn, hn, hn, hf c37] (by kernel_rfl) ?_
     exact jl false h (conv_re [] (by kernel_rfl))
end Go.Proofs.Ytafmpnilgknfhaa
