/- Printed by a program of mine (vmgen.py): Go functions, and what they come to. -/
import Derived.Test.YtafmpnilgknfhaaVr
import Derived.Test.YtafmpnilgknfhaaRows
import Derived.Test.YtafmpnilgknfhaaG1
namespace Go.Proofs.Ytafmpnilgknfhaa
open Vm
open IntKind (i64 u64 u32 u8)
set_option maxHeartbeats 10000000
set_option linter.unusedVariables false
set_option linter.unusedSimpArgs false
set_option linter.constructorNameAsVariable false
def ttlL4 : List (Nat × TI) := [(3, ⟨.int .i64, 1, 8, [.int .i64 0]⟩), (4, ⟨.bool, 1, 1, [.bool false]⟩), (5, ⟨.int .u8, 1, 1, [.int .u8 0]⟩), (9, ⟨.str, 1, 16, [.string ⟨#[]⟩]⟩), (22, ⟨.int .u16, 1, 2, [.int .u16 0]⟩), (23, ⟨.int .i64, 1, 8, [.int .i64 0]⟩), (53, ⟨.slice 78, 1, 24, [.slice none 0 0]⟩), (58, ⟨.int .u64, 1, 8, [.int .u64 0]⟩), (78, ⟨.int .u32, 1, 4, [.int .u32 0]⟩)]
theorem tt_okL4 : TTok Try.prog (Vm.look ttlL4) := ttok_of ⟨⟨by kernel_rfl, by kernel_rfl⟩, ⟨by kernel_rfl, by kernel_rfl⟩, ⟨by kernel_rfl, by kernel_rfl⟩, ⟨by kernel_rfl, by kernel_rfl⟩, ⟨by kernel_rfl, by kernel_rfl⟩, ⟨by kernel_rfl, by kernel_rfl⟩, ⟨by kernel_rfl, by kernel_rfl⟩, ⟨by kernel_rfl, by kernel_rfl⟩, ⟨by kernel_rfl, by kernel_rfl⟩, trivial⟩
theorem moL4 : Try.prog.follows .mixedOrders = true := by kernel_rfl
/-! recordlink/recordlinklaw25.WeightAdds -/
noncomputable def rl_law25_WeightAdds_k1 (x13 : Bool) : Option Bool := some x13
noncomputable def rl_law25_WeightAdds (p0 : Int) (p1 : Int) (p2 : Int) (p3 : Int) : Option Bool := bind2 (weight_Log (i64.wrap (1 + ((i64.wrap p0).tmod 65536))) (i64.wrap (1 + ((i64.wrap p1).tmod 65536)))) fun y1 y2 => (bind2 (weight_Log (i64.wrap (1 + ((i64.wrap p1).tmod 65536))) (i64.wrap (1 + ((i64.wrap p2).tmod 65536)))) fun y4 y5 => (bind2 (weight_Log (i64.wrap (1 + ((i64.wrap p0).tmod 65536))) (i64.wrap (1 + ((i64.wrap p2).tmod 65536)))) fun y7 y8 => (bind2 (weight_Log (if (i64.wrap ((i64.wrap (1 + ((i64.wrap p0).tmod 65536))) + (i64.wrap p3))) < 65536 then (i64.wrap ((i64.wrap (1 + ((i64.wrap p0).tmod 65536))) + (i64.wrap p3))) else 65536) (i64.wrap (1 + ((i64.wrap p2).tmod 65536)))) fun y10 y11 => (if (y2 == 0) = true then (if (y5 == 0) = true then (if (y8 == 0) = true then (if (y11 == 0) = true then (if ((i64.wrap (y1 + y4)) == y7) = true then (if (decide (y10 ≥ y7)) = true then ((rl_law25_awake).bind fun y20 => (rl_law25_WeightAdds_k1 y20)) else (rl_law25_WeightAdds_k1 false)) else (if ((i64.wrap (y1 + y4)) == (i64.wrap (y7 - 1))) = true then (if (decide (y10 ≥ y7)) = true then ((rl_law25_awake).bind fun y24 => (rl_law25_WeightAdds_k1 y24)) else (rl_law25_WeightAdds_k1 false)) else (rl_law25_WeightAdds_k1 false))) else (rl_law25_WeightAdds_k1 false)) else (rl_law25_WeightAdds_k1 false)) else (rl_law25_WeightAdds_k1 false)) else (rl_law25_WeightAdds_k1 false)))))
set_option maxRecDepth 100000 in
theorem rl_law25_WeightAdds_con (p0 : Int) (p1 : Int) (p2 : Int) (p3 : Int) (r : Bool) (h : rl_law25_WeightAdds p0 p1 p2 p3 = some r) : Con Try.prog 4 [vu16 p0, vu16 p1, vu16 p2, vu8 p3] [] (vb r) [] := by
 refine con_of tt_okL4 0 Try.func4 (by kernel_rfl) rfl (by kernel_rfl) (fun base X _ => AW.post ?_)
 unfold rl_law25_WeightAdds at h
 refine AW.sg tt_okL4 [] [] [] 1 [] (by kernel_rfl) ?_
 refine AW.sg tt_okL4 [(11, vi64 (i64.wrap (1 + ((i64.wrap p2).tmod 65536)))), (10, vi64 (i64.wrap (1 + ((i64.wrap p1).tmod 65536)))), (9, vi64 (i64.wrap (1 + ((i64.wrap p0).tmod 65536))))] [] [] 16 [hn, hn, ho (p := (65536 : Int) ≠ 0) (by decide), hn, hn, hn, ho (p := (65536 : Int) ≠ 0) (by decide), hn, hn, hn, ho (p := (65536 : Int) ≠ 0) (by decide)] (by kernel_rfl) ?_
 obtain ⟨y1, y2, e3, h⟩ := bind2_some h
 refine AW.sg tt_okL4 [(13, vi64 y2), (12, vi64 y1)] [] [] 23 [hn, hn, hk (weight_Log_con (i64.wrap (1 + ((i64.wrap p0).tmod 65536))) (i64.wrap (1 + ((i64.wrap p1).tmod 65536))) (y1, y2) e3)] (by kernel_rfl) ?_
 obtain ⟨y4, y5, e6, h⟩ := bind2_some h
 refine AW.sg tt_okL4 [(15, vi64 y5), (14, vi64 y4)] [] [] 30 [hn, hn, hk (weight_Log_con (i64.wrap (1 + ((i64.wrap p1).tmod 65536))) (i64.wrap (1 + ((i64.wrap p2).tmod 65536))) (y4, y5) e6)] (by kernel_rfl) ?_
 obtain ⟨y7, y8, e9, h⟩ := bind2_some h
 refine AW.sg tt_okL4 [(17, vi64 y8), (16, vi64 y7)] [] [] 37 [hn, hn, hk (weight_Log_con (i64.wrap (1 + ((i64.wrap p0).tmod 65536))) (i64.wrap (1 + ((i64.wrap p2).tmod 65536))) (y7, y8) e9)] (by kernel_rfl) ?_
 obtain ⟨y10, y11, e12, h⟩ := bind2_some h
 refine AW.sg tt_okL4 [(19, vi64 y11), (18, vi64 y10)] [] [] 48 [hn, hn, hn, hn, hn, hn, hk (weight_Log_con (if (i64.wrap ((i64.wrap (1 + ((i64.wrap p0).tmod 65536))) + (i64.wrap p3))) < 65536 then (i64.wrap ((i64.wrap (1 + ((i64.wrap p0).tmod 65536))) + (i64.wrap p3))) else 65536) (i64.wrap (1 + ((i64.wrap p2).tmod 65536))) (y10, y11) e12)] (by kernel_rfl) ?_
 refine AW.seq ?_
 refine AW.join (ι := Bool) (fun v => ⟨[(8, vb v)], [], 0⟩) (fun v : Bool => rl_law25_WeightAdds_k1 v = some r) (fun x13 h => ?_) ?_
 ·
  unfold rl_law25_WeightAdds_k1 at h
  refine AW.tn (AW.ret ?_)
  obtain rfl := some_inj h
  exact fn0 (.inr rfl) [] 0 (vb x13) (by kernel_rfl)
 ·
  rcases ifs h with ⟨c14, h⟩ | ⟨c14, h⟩
  ·
   rcases ifs h with ⟨c15, h⟩ | ⟨c15, h⟩
   ·
    rcases ifs h with ⟨c16, h⟩ | ⟨c16, h⟩
    ·
     rcases ifs h with ⟨c17, h⟩ | ⟨c17, h⟩
     ·
      rcases ifs h with ⟨c18, h⟩ | ⟨c18, h⟩
      ·
       rcases ifs h with ⟨c19, h⟩ | ⟨c19, h⟩
       ·
        obtain ⟨y20, e21, h⟩ := bnd_some h
        refine AW.rg tt_okL4 [(8, vb y20)] [] [] 85 [hn, ht c14, hn, hn, ht c15, hn, hn, hn, ht c16, hn, hn, hn, ht c17, hn, hn, hn, hn, hn, hn, ht c18, hn, hn, hn, hn, hn, hn, hn, hn, hn, hn, hn, hn, ht c19, hn, hn, hk (rl_law25_awake_con y20 e21)] (by kernel_rfl) ?_
        exact jl y20 h (conv_re [] (by kernel_rfl))
       ·
        refine AW.rg tt_okL4 [(8, vb false)] [] [] 86 [hn, ht c14, hn, hn, ht c15, hn, hn, hn, ht c16, hn, hn, hn, ht c17, hn, hn, hn, hn, hn, hn, ht c18, hn, hn, hn, hn, hn, hn, hn, hn, hn, hn, hn, hn, hf c19] (by kernel_rfl) ?_
        exact jl false h (conv_re [] (by kernel_rfl))
      ·
       rcases ifs h with ⟨c22, h⟩ | ⟨c22, h⟩
       ·
        rcases ifs h with ⟨c23, h⟩ | ⟨c23, h⟩
        ·
         obtain ⟨y24, e25, h⟩ := bnd_some h
         refine AW.rg tt_okL4 [(8, vb y24)] [] [] 85 [hn, ht c14, hn, hn, ht c15, hn, hn, hn, ht c16, hn, hn, hn, ht c17, hn, hn, hn, hn, hn, hn, hf c18, hn, hn, hn, hn, hn, hn, ht c22, hn, hn, hn, hn, hn, ht c23, hn, hn, hk (rl_law25_awake_con y24 e25)] (by kernel_rfl) ?_
         exact jl y24 h (conv_re [] (by kernel_rfl))
        ·
         refine AW.rg tt_okL4 [(8, vb false)] [] [] 86 [hn, ht c14, hn, hn, ht c15, hn, hn, hn, ht c16, hn, hn, hn, ht c17, hn, hn, hn, hn, hn, hn, hf c18, hn, hn, hn, hn, hn, hn, ht c22, hn, hn, hn, hn, hn, hf c23] (by kernel_rfl) ?_
         exact jl false h (conv_re [] (by kernel_rfl))
       ·
        refine AW.rg tt_okL4 [(8, vb false)] [] [] 86 [hn, ht c14, hn, hn, ht c15, hn, hn, hn, ht c16, hn, hn, hn, ht c17, hn, hn, hn, hn, hn, hn, hf c18, hn, hn, hn, hn, hn, hn, hf c22] (by kernel_rfl) ?_
        exact jl false h (conv_re [] (by kernel_rfl))
     ·
      refine AW.rg tt_okL4 [(8, vb false)] [] [] 86 [hn, ht c14, hn, hn, ht c15, hn, hn, hn, ht c16, hn, hn, hn, hf c17] (by kernel_rfl) ?_
      exact jl false h (conv_re [] (by kernel_rfl))
    ·
     refine AW.rg tt_okL4 [(8, vb false)] [] [] 86 [hn, ht c14, hn, hn, ht c15, hn, hn, hn, hf c16] (by kernel_rfl) ?_
     exact jl false h (conv_re [] (by kernel_rfl))
   ·
    refine AW.rg tt_okL4 [(8, vb false)] [] [] 86 [hn, ht c14, hn, hn, hf c15] (by kernel_rfl) ?_
    exact jl false h (conv_re [] (by kernel_rfl))
  ·
   refine AW.rg tt_okL4 [(8, vb false)] [] [] 86 [hn, hf c14] (by kernel_rfl) ?_
   exact jl false h (conv_re [] (by kernel_rfl))
end Go.Proofs.Ytafmpnilgknfhaa
