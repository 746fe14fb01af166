/- Printed by a program of mine (vmgen.py): Go functions, and what they come to. -/
import Derived.Test.YtafmpnilgknfhaaVr
import Derived.Test.YtafmpnilgknfhaaRows
import Derived.Test.YtafmpnilgknfhaaG1
namespace Go.Proofs.Ytafmpnilgknfhaa
open Vm
open IntKind (i64 u64 u32 u8)
set_option maxHeartbeats 10000000
set_option linter.unusedVariables false
set_option linter.unusedSimpArgs false
set_option linter.constructorNameAsVariable false
def ttlL5 : List (Nat × TI) := [(3, ⟨.int .i64, 1, 8, [.int .i64 0]⟩), (4, ⟨.bool, 1, 1, [.bool false]⟩), (5, ⟨.int .u8, 1, 1, [.int .u8 0]⟩), (9, ⟨.str, 1, 16, [.string ⟨#[]⟩]⟩), (22, ⟨.int .u16, 1, 2, [.int .u16 0]⟩), (23, ⟨.int .i64, 1, 8, [.int .i64 0]⟩), (29, ⟨.int .u64, 1, 8, [.int .u64 0]⟩), (53, ⟨.slice 78, 1, 24, [.slice none 0 0]⟩), (58, ⟨.int .u64, 1, 8, [.int .u64 0]⟩), (78, ⟨.int .u32, 1, 4, [.int .u32 0]⟩)]
theorem tt_okL5 : TTok Try.prog (Vm.look ttlL5) := ttok_of ⟨⟨by kernel_rfl, by kernel_rfl⟩, ⟨by kernel_rfl, by kernel_rfl⟩, ⟨by kernel_rfl, by kernel_rfl⟩, ⟨by kernel_rfl, by kernel_rfl⟩, ⟨by kernel_rfl, by kernel_rfl⟩, ⟨by kernel_rfl, by kernel_rfl⟩, ⟨by kernel_rfl, by kernel_rfl⟩, ⟨by kernel_rfl, by kernel_rfl⟩, ⟨by kernel_rfl, by kernel_rfl⟩, ⟨by kernel_rfl, by kernel_rfl⟩, trivial⟩
theorem moL5 : Try.prog.follows .mixedOrders = true := by kernel_rfl
/-! recordlink/recordlinklaw25.WeightDoubles -/
noncomputable def rl_law25_WeightDoubles_k2 (x12 : Bool) : Option Bool := some x12
noncomputable def rl_law25_WeightDoubles_k1 (p0 : Int) (p2 : Int) (x1 : Int) : Option Bool := bind2 (weight_Log (i64.wrap (1 + ((i64.wrap p0).tmod 1024))) x1) fun y2 y3 => (if 0 ≤ (u64.wrap ((i64.wrap p2).tmod 7)) then (bind2 (weight_Log (ishl .i64 (i64.wrap (1 + ((i64.wrap p0).tmod 1024))) (u64.wrap ((i64.wrap p2).tmod 7))) x1) fun y6 y7 => (bind2 (weight_Log (i64.wrap (1 + ((i64.wrap p0).tmod 1024))) (i64.wrap (1 + ((i64.wrap p0).tmod 1024)))) fun y9 y10 => (if (y3 == 0) = true then (if (y7 == 0) = true then (if (y10 == 0) = true then (if (y6 == (i64.wrap (y2 + (i64.wrap (16 * ((i64.wrap p2).tmod 7)))))) = true then (if (y9 == 0) = true then ((rl_law25_awake).bind fun y18 => (rl_law25_WeightDoubles_k2 y18)) else (rl_law25_WeightDoubles_k2 false)) else (rl_law25_WeightDoubles_k2 false)) else (rl_law25_WeightDoubles_k2 false)) else (rl_law25_WeightDoubles_k2 false)) else (rl_law25_WeightDoubles_k2 false)))) else none)
noncomputable def rl_law25_WeightDoubles (p0 : Int) (p1 : Int) (p2 : Int) : Option Bool := if (decide ((i64.wrap (1 + (i64.wrap p1))) > 65536)) = true then (rl_law25_WeightDoubles_k1 p0 p2 65536) else (rl_law25_WeightDoubles_k1 p0 p2 (i64.wrap (1 + (i64.wrap p1))))
set_option maxRecDepth 100000 in
theorem rl_law25_WeightDoubles_con (p0 : Int) (p1 : Int) (p2 : Int) (r : Bool) (h : rl_law25_WeightDoubles p0 p1 p2 = some r) : Con Try.prog 5 [vu16 p0, vu16 p1, vu8 p2] [] (vb r) [] := by
 refine con_of tt_okL5 0 Try.func5 (by kernel_rfl) rfl (by kernel_rfl) (fun base X _ => AW.post ?_)
 unfold rl_law25_WeightDoubles at h
 refine AW.sg tt_okL5 [] [] [] 1 [] (by kernel_rfl) ?_
 refine AW.sg tt_okL5 [(8, vi64 (i64.wrap (1 + (i64.wrap p1)))), (7, vi64 (i64.wrap (1 + ((i64.wrap p0).tmod 1024))))] [] [] 10 [hn, hn, ho (p := (1024 : Int) ≠ 0) (by decide)] (by kernel_rfl) ?_
 refine AW.seq ?_
 refine AW.join (ι := Int) (fun v => ⟨[(2, vu8 p2), (7, vi64 (i64.wrap (1 + ((i64.wrap p0).tmod 1024)))), (8, vi64 v)], [], 0⟩) (fun v : Int => rl_law25_WeightDoubles_k1 p0 p2 v = some r) (fun x1 h => ?_) ?_
 ·
  unfold rl_law25_WeightDoubles_k1 at h
  refine AW.tn ?_
  refine AW.sg tt_okL5 [(9, vi64 ((i64.wrap p2).tmod 7))] [] [] 4 [hn, hn, ho (p := (7 : Int) ≠ 0) (by decide)] (by kernel_rfl) ?_
  obtain ⟨y2, y3, e4, h⟩ := bind2_some h
  refine AW.sg tt_okL5 [(11, vi64 y3), (10, vi64 y2)] [] [] 11 [hn, hn, hk (weight_Log_con (i64.wrap (1 + ((i64.wrap p0).tmod 1024))) x1 (y2, y3) e4)] (by kernel_rfl) ?_
  obtain ⟨g5, h⟩ := ifc h
  obtain ⟨y6, y7, e8, h⟩ := bind2_some h
  refine AW.sg tt_okL5 [(13, vi64 y7), (12, vi64 y6)] [] [] 21 [hn, hn, hn, ho g5, hn, hk (weight_Log_con (ishl .i64 (i64.wrap (1 + ((i64.wrap p0).tmod 1024))) (u64.wrap ((i64.wrap p2).tmod 7))) x1 (y6, y7) e8)] (by kernel_rfl) ?_
  obtain ⟨y9, y10, e11, h⟩ := bind2_some h
  refine AW.sg tt_okL5 [(15, vi64 y10), (14, vi64 y9)] [] [] 28 [hn, hn, hk (weight_Log_con (i64.wrap (1 + ((i64.wrap p0).tmod 1024))) (i64.wrap (1 + ((i64.wrap p0).tmod 1024))) (y9, y10) e11)] (by kernel_rfl) ?_
  refine AW.seq ?_
  refine AW.join (ι := Bool) (fun v => ⟨[(6, vb v)], [], 0⟩) (fun v : Bool => rl_law25_WeightDoubles_k2 v = some r) (fun x12 h => ?_) ?_
  ·
   unfold rl_law25_WeightDoubles_k2 at h
   refine AW.tn (AW.ret ?_)
   obtain rfl := some_inj h
   exact fn0 (.inr rfl) [] 0 (vb x12) (by kernel_rfl)
  ·
   rcases ifs h with ⟨c13, h⟩ | ⟨c13, h⟩
   ·
    rcases ifs h with ⟨c14, h⟩ | ⟨c14, h⟩
    ·
     rcases ifs h with ⟨c15, h⟩ | ⟨c15, h⟩
     ·
      rcases ifs h with ⟨c16, h⟩ | ⟨c16, h⟩
      ·
       rcases ifs h with ⟨c17, h⟩ | ⟨c17, h⟩
       ·
        obtain ⟨y18, e19, h⟩ := bnd_some h
        refine AW.rg tt_okL5 [(6, vb y18)] [] [] 53 [hn, ht c13, hn, hn, ht c14, hn, hn, hn, ht c15, hn, hn, hn, hn, hn, hn, hn, ht c16, hn, hn, hn, ht c17, hn, hn, hk (rl_law25_awake_con y18 e19)] (by kernel_rfl) ?_
        exact jl y18 h (conv_re [] (by kernel_rfl))
       ·
        refine AW.rg tt_okL5 [(6, vb false)] [] [] 54 [hn, ht c13, hn, hn, ht c14, hn, hn, hn, ht c15, hn, hn, hn, hn, hn, hn, hn, ht c16, hn, hn, hn, hf c17] (by kernel_rfl) ?_
        exact jl false h (conv_re [] (by kernel_rfl))
      ·
       refine AW.rg tt_okL5 [(6, vb false)] [] [] 54 [hn, ht c13, hn, hn, ht c14, hn, hn, hn, ht c15, hn, hn, hn, hn, hn, hn, hn, hf c16] (by kernel_rfl) ?_
       exact jl false h (conv_re [] (by kernel_rfl))
     ·
      refine AW.rg tt_okL5 [(6, vb false)] [] [] 54 [hn, ht c13, hn, hn, ht c14, hn, hn, hn, hf c15] (by kernel_rfl) ?_
      exact jl false h (conv_re [] (by kernel_rfl))
    ·
     refine AW.rg tt_okL5 [(6, vb false)] [] [] 54 [hn, ht c13, hn, hn, hf c14] (by kernel_rfl) ?_
     exact jl false h (conv_re [] (by kernel_rfl))
   ·
    refine AW.rg tt_okL5 [(6, vb false)] [] [] 54 [hn, hf c13] (by kernel_rfl) ?_
    exact jl false h (conv_re [] (by kernel_rfl))
 ·
  refine AW.sg tt_okL5 [(24, vb (decide ((i64.wrap (1 + (i64.wrap p1))) > 65536)))] [] [] 12 [] (by kernel_rfl) ?_
  refine AW.co h (by kernel_rfl) (fun c20 h => ?_) (fun c20 h => ?_)
  ·
   refine AW.rg tt_okL5 [(8, vi64 65536)] [] [] 13 [] (by kernel_rfl) ?_
   exact jl 65536 h (conv_re [] (by kernel_rfl))
  ·
   refine AW.skip ?_
   exact jl (i64.wrap (1 + (i64.wrap p1))) h (conv_re [] (by kernel_rfl))
end Go.Proofs.Ytafmpnilgknfhaa
