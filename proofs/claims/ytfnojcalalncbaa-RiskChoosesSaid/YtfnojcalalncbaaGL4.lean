/- Printed by a program of mine (vmgen.py): Go functions, and what they come to. -/
import Derived.Test.YtfnojcalalncbaaVr
import Derived.Test.YtfnojcalalncbaaRows
import Derived.Test.YtfnojcalalncbaaVw
import Derived.Test.YtfnojcalalncbaaG0
namespace Go.Proofs.Ytfnojcalalncbaa
open Vm
open IntKind (i64 u64 u32 u8)
set_option maxHeartbeats 10000000
set_option linter.unusedVariables false
set_option linter.unusedSimpArgs false
set_option linter.constructorNameAsVariable false
def ttlL4 : List (Nat × TI) := [(3, ⟨.int .i64, 1, 8, [.int .i64 0], false⟩), (4, ⟨.bool, 1, 1, [.bool false], false⟩), (22, ⟨.slice 3, 1, 24, [.slice none 0 0], false⟩), (25, ⟨.ptr 66, 1, 8, [.pointer none], false⟩), (28, ⟨.struct [(3, 0), (3, 1), (3, 2)], 3, 24, [.int .i64 0, .int .i64 0, .int .i64 0], true⟩), (29, ⟨.slice 28, 1, 24, [.slice none 0 0], false⟩), (32, ⟨.int .i64, 1, 8, [.int .i64 0], false⟩), (43, ⟨.int .u64, 1, 8, [.int .u64 0], false⟩), (49, ⟨.slice 43, 1, 24, [.slice none 0 0], false⟩), (51, ⟨.struct [(3, 0), (49, 1)], 2, 32, [.int .i64 0, .slice none 0 0], false⟩), (66, ⟨.struct [(22, 0), (3, 1), (43, 2)], 3, 40, [.slice none 0 0, .int .i64 0, .int .u64 0], false⟩)]
theorem tt_okL4 : TTok Try.prog (Vm.look ttlL4) := ttok_of ⟨⟨by kernel_rfl, by kernel_rfl, by kernel_rfl⟩, ⟨by kernel_rfl, by kernel_rfl, by kernel_rfl⟩, ⟨by kernel_rfl, by kernel_rfl, by kernel_rfl⟩, ⟨by kernel_rfl, by kernel_rfl, by kernel_rfl⟩, ⟨by kernel_rfl, by kernel_rfl, by kernel_rfl⟩, ⟨by kernel_rfl, by kernel_rfl, by kernel_rfl⟩, ⟨by kernel_rfl, by kernel_rfl, by kernel_rfl⟩, ⟨by kernel_rfl, by kernel_rfl, by kernel_rfl⟩, ⟨by kernel_rfl, by kernel_rfl, by kernel_rfl⟩, ⟨by kernel_rfl, by kernel_rfl, by kernel_rfl⟩, ⟨by kernel_rfl, by kernel_rfl, by kernel_rfl⟩, trivial⟩
theorem moL4 : Try.prog.follows .mixedOrders = true := by kernel_rfl
/-! recordlink/recordlinklaw15.RiskChooses -/
noncomputable def rl_law15_RiskChooses_k7 (x29 : Int) (x40 : Bool) (x41 : Bool) : Option (Int ⊕ (Unit ⊕ Bool)) := if x41 = true then (some (.inr (.inr x40))) else (if x40 = true then (some (.inr (.inr false))) else (some (.inl (i64.wrap (x29 + 1)))))
noncomputable def rl_law15_RiskChooses_k6 (y19 : S_api_Parameters) (y20 : Int) (x25 : Int) (x29 : Int) (x40 : Bool) : Option (Int ⊕ (Unit ⊕ Bool)) := if (y20 == 0) = true then (rl_law15_RiskChooses_k7 x29 x40 ((x25 == y19.Length) && ((x29 == y19.Hashes) && ((((-1) : Int) == y19.Salt) && true)))) else (rl_law15_RiskChooses_k7 x29 x40 false)
noncomputable def rl_law15_RiskChooses_k5 (y10 : Int) (y13 : Int) (y16 : Int) (y19 : S_api_Parameters) (y20 : Int) (x25 : Int) (x29 : Int) (y32 : Int) (y35 : Int) (x38 : Bool) : Option (Int ⊕ (Unit ⊕ Bool)) := if x38 = true then (some (.inr (.inr false))) else (if (decide (y32 ≥ y10)) = true then (if (decide (y32 ≤ (i64.wrap (y10 + y13)))) = true then (rl_law15_RiskChooses_k6 y19 y20 x25 x29 (decide (y35 ≤ y16))) else (rl_law15_RiskChooses_k6 y19 y20 x25 x29 false)) else (rl_law15_RiskChooses_k6 y19 y20 x25 x29 false))
noncomputable def rl_law15_RiskChooses_l4 (y7 : Int) (y10 : Int) (y13 : Int) (y16 : Int) (y19 : S_api_Parameters) (y20 : Int) (x25 : Int) (x29 : Int) : Option (Int ⊕ (Unit ⊕ Bool)) := if (decide (x29 ≤ 16)) = true then (bind2 (risk_Fill (⟨x25, x29, (-1)⟩ : S_api_Parameters) y7) fun y32 y33 => (bind2 (risk_Collision (⟨x25, x29, (-1)⟩ : S_api_Parameters) y7) fun y35 y36 => (if (y33 != 0) = true then (rl_law15_RiskChooses_k5 y10 y13 y16 y19 y20 x25 x29 y32 y35 true) else (rl_law15_RiskChooses_k5 y10 y13 y16 y19 y20 x25 x29 y32 y35 (y36 != 0))))) else (some (.inr (.inl ())))
noncomputable def rl_law15_RiskChooses_a8 (x25 : Int) : Option (Int ⊕ (Unit ⊕ Bool)) := some (.inl (i64.wrap (x25 + 64)))
noncomputable def rl_law15_RiskChooses_a9 (x48 : Bool) : Option (Int ⊕ (Unit ⊕ Bool)) := some (.inr (.inr x48))
noncomputable def rl_law15_RiskChooses_l3 (y7 : Int) (y10 : Int) (y13 : Int) (y16 : Int) (y19 : S_api_Parameters) (y20 : Int) (x25 : Int) : Option (Int ⊕ (Unit ⊕ Bool)) := if (decide (x25 ≤ 512)) = true then (bindE (loop (fun v : Int => rl_law15_RiskChooses_l4 y7 y10 y13 y16 y19 y20 x25 v) 1) (fun t => rl_law15_RiskChooses_a8 x25) (fun t => rl_law15_RiskChooses_a9 t)) else (some (.inr (.inl ())))
noncomputable def rl_law15_RiskChooses_a10 (y20 : Int) : Option Bool := some (y20 == 13)
noncomputable def rl_law15_RiskChooses_a11 (x50 : Bool) : Option Bool := some x50
noncomputable def rl_law15_RiskChooses_k2 (y7 : Int) (y10 : Int) (y13 : Int) (y16 : Int) (y19 : S_api_Parameters) (y20 : Int) (x22 : Bool) : Option Bool := if x22 = true then (some false) else (bindE (loop (fun v : Int => rl_law15_RiskChooses_l3 y7 y10 y13 y16 y19 y20 v) 64) (fun t => rl_law15_RiskChooses_a10 y20) (fun t => rl_law15_RiskChooses_a11 t))
noncomputable def rl_law15_RiskChooses_k1 (p0 : List Int) (x1 : Bool) : Option Bool := if x1 = true then ((rl_law15_awake).bind fun y3 => (some y3)) else ((rl_make_New p0).bind fun y5 => (bind2 (rl_make_Deck_Next y5 20) fun y7 y8 => (bind2 (rl_make_Deck_Next y8 600) fun y10 y11 => (bind2 (rl_make_Deck_Next y11 300) fun y13 y14 => (bind2 (rl_make_Deck_Next y14 200000) fun y16 y17 => (bind2 (risk_Choose y7 y10 (i64.wrap (y10 + y13)) y16) fun y19 y20 => (if (y20 != 0) = true then (if (y20 != 13) = true then (rl_law15_RiskChooses_k2 y7 y10 y13 y16 y19 y20 true) else (rl_law15_RiskChooses_k2 y7 y10 y13 y16 y19 y20 (!((y19.Length == 0) && ((y19.Hashes == 0) && ((y19.Salt == 0) && true)))))) else (rl_law15_RiskChooses_k2 y7 y10 y13 y16 y19 y20 false))))))))
noncomputable def rl_law15_RiskChooses (p0 : List Int) : Option Bool := (rl_law15_awake).bind fun y54 => (if (!y54) = true then (rl_law15_RiskChooses_k1 p0 true) else ((rl_make_Few p0).bind fun y57 => (rl_law15_RiskChooses_k1 p0 (!y57))))
set_option maxRecDepth 100000 in
theorem rl_law15_RiskChooses_con (p0 : List Int) (r : Bool) (h : rl_law15_RiskChooses p0 = some r) : Con Try.prog 4 [vl 1 Ri64 p0] [] (vb r) [] := by
 refine con_of tt_okL4 0 Try.func4 (by kernel_rfl) rfl (by kernel_rfl) (fun base X _ => AW.post ?_)
 unfold rl_law15_RiskChooses at h
 refine AW.sg tt_okL4 [] [] [] 1 [] (by kernel_rfl) ?_
 refine AW.seq (AW.seq ?_)
 refine AW.join (ι := Bool) (fun v => ⟨[(0, vl 1 Ri64 p0), (24, vb v)], [], 0⟩) (fun v : Bool => rl_law15_RiskChooses_k1 p0 v = some r) (fun x1 h => ?_) ?_
 ·
  unfold rl_law15_RiskChooses_k1 at h
  refine AW.tn ?_
  refine AW.co h (by kernel_rfl) (fun c2 h => ?_) (fun c2 h => ?_)
  ·
   obtain ⟨y3, e4, h⟩ := bnd_some h
   refine AW.sg tt_okL4 [(2, vb y3)] [] [] 1 [hk (rl_law15_awake_con y3 e4)] (by kernel_rfl) ?_
   refine AW.ret (AW.tr ?_)
   obtain rfl := some_inj h
   exact fn0 (.inr rfl) [] 0 (vb y3) (by kernel_rfl)
  ·
   refine AW.skip (AW.tn ?_)
   obtain ⟨y5, e6, h⟩ := bnd_some h
   refine AW.sg tt_okL4 [(3, .c (.ptr 1 3 0 0))] [1] [(1, .box 66 [cl 1 Ri64 y5.list, ci64 y5.at_, cu64 y5.state])] 3 [hn, hl [] [] 1 (rl_make_New_con p0 y5 e6)] (by kernel_rfl) ?_
   obtain ⟨y7, y8, e9, h⟩ := bind2_some h
   obtain ⟨y10, y11, e12, h⟩ := bind2_some h
   refine AW.sg tt_okL4 [(5, vi64 y10), (4, vi64 y7)] [1] [(1, .box 66 [cl 1 Ri64 y11.list, ci64 y11.at_, cu64 y11.state])] 7 [hn, hl [1] [] 0 (rl_make_Deck_Next_con y5 20 (y7, y8) e9), hn, hl [1] [] 0 (rl_make_Deck_Next_con y8 600 (y10, y11) e12)] (by kernel_rfl) ?_
   obtain ⟨y13, y14, e15, h⟩ := bind2_some h
   obtain ⟨y16, y17, e18, h⟩ := bind2_some h
   refine AW.sg tt_okL4 [(7, vi64 y16), (6, vi64 (i64.wrap (y10 + y13)))] [1] [] 13 [hn, hn, hl [1] [] 0 (rl_make_Deck_Next_con y11 300 (y13, y14) e15), hn, hn, hl [1] [] 0 (rl_make_Deck_Next_con y14 200000 (y16, y17) e18)] (by kernel_rfl) ?_
   obtain ⟨y19, y20, e21, h⟩ := bind2_some h
   refine AW.sg tt_okL4 [(9, vi64 y20), (8, .c (.ptr 20 3 0 0))] [20] [(20, .box 28 [ci64 y19.Length, ci64 y19.Hashes, ci64 y19.Salt])] 23 [hn, hn, hn, hn, hk (risk_Choose_con y7 y10 (i64.wrap (y10 + y13)) y16 (y19, y20) e21)] (by kernel_rfl) ?_
   refine AW.seq (AW.seq ?_)
   refine AW.join (ι := Bool) (fun v => ⟨[(4, vi64 y7), (5, vi64 y10), (6, vi64 (i64.wrap (y10 + y13))), (7, vi64 y16), (8, .c (.ptr 0 3 0 0)), (9, vi64 y20), (56, vb v)], [(0, .box 28 [ci64 y19.Length, ci64 y19.Hashes, ci64 y19.Salt])], 1⟩) (fun v : Bool => rl_law15_RiskChooses_k2 y7 y10 y13 y16 y19 y20 v = some r) (fun x22 h => ?_) ?_
   ·
    unfold rl_law15_RiskChooses_k2 at h
    refine AW.tn ?_
    refine AW.co h (by kernel_rfl) (fun c23 h => ?_) (fun c23 h => ?_)
    ·
     refine AW.sg tt_okL4 [(2, vb false)] [] [] 2 [] (by kernel_rfl) ?_
     refine AW.ret (AW.tr ?_)
     obtain rfl := some_inj h
     exact fn0 (.inr rfl) [] 0 (vb false) (by kernel_rfl)
    ·
     refine AW.skip (AW.tn (AW.seq ?_))
     refine AW.sg tt_okL4 [(10, vi64 64)] [] [] 2 [] (by kernel_rfl) ?_
     refine AW.block ?_
     refine AW.lpE h (fun v => ⟨[(4, vi64 y7), (5, vi64 y10), (6, vi64 (i64.wrap (y10 + y13))), (7, vi64 y16), (8, .c (.ptr 0 3 0 0)), (9, vi64 y20), (10, vi64 v)], [(0, .box 28 [ci64 y19.Length, ci64 y19.Hashes, ci64 y19.Salt])], 1⟩) (fun t => (.exit 0, ⟨[(9, vi64 y20)], [], 0⟩)) (fun t => (.ret, ⟨[(2, vb t)], [], 0⟩)) (conv_re [(0, 0)] (by kernel_rfl)) (fun _ => tv) (fun _ => tv) ?_ (fun t h => ?_) (fun x50 h => ?_)
     ·
      clear h
      intro x25 o h
      unfold rl_law15_RiskChooses_l3 at h
      refine AW.seq ?_
      refine AW.sg tt_okL4 [(58, vb (decide (x25 ≤ 512)))] [] [] 3 [] (by kernel_rfl) ?_
      refine AW.co h (by kernel_rfl) (fun c27 h => ?_) (fun c27 h => ?_)
      ·
       refine AW.skip (AW.tn ?_)
       refine AW.seq (AW.block ?_)
       refine AW.sg tt_okL4 [(11, vi64 1)] [] [] 4 [] (by kernel_rfl) ?_
       refine AW.block ?_
       refine AW.lpE h (fun v => ⟨[(4, vi64 y7), (5, vi64 y10), (6, vi64 (i64.wrap (y10 + y13))), (7, vi64 y16), (8, .c (.ptr 0 3 0 0)), (9, vi64 y20), (10, vi64 x25), (11, vi64 v)], [(0, .box 28 [ci64 y19.Length, ci64 y19.Hashes, ci64 y19.Salt])], 1⟩) (fun t => (.exit 2, ⟨[(4, vi64 y7), (5, vi64 y10), (6, vi64 (i64.wrap (y10 + y13))), (7, vi64 y16), (8, .c (.ptr 0 3 0 0)), (9, vi64 y20), (10, vi64 x25)], [(0, .box 28 [ci64 y19.Length, ci64 y19.Hashes, ci64 y19.Salt])], 1⟩)) (fun t => (.ret, ⟨[(2, vb t)], [], 0⟩)) (conv_re [(0, 0)] (by kernel_rfl)) (fun _ => tv) (fun _ => tv) ?_ (fun t h => ?_) (fun x48 h => ?_)
       ·
        clear h
        intro x29 o h
        unfold rl_law15_RiskChooses_l4 at h
        refine AW.seq ?_
        refine AW.sg tt_okL4 [(62, vb (decide (x29 ≤ 16)))] [] [] 3 [] (by kernel_rfl) ?_
        refine AW.co h (by kernel_rfl) (fun c31 h => ?_) (fun c31 h => ?_)
        ·
         refine AW.skip (AW.tn ?_)
         refine AW.seq (AW.block ?_)
         refine AW.sg tt_okL4 [(12, .c (.ptr 6 3 0 0))] [6] [(6, .box 28 [ci64 x25, ci64 x29, ci64 (-1)])] 8 [] (by kernel_rfl) ?_
         obtain ⟨y32, y33, e34, h⟩ := bind2_some h
         refine AW.sg tt_okL4 [(14, vi64 y33), (13, vi64 y32)] [] [] 15 [hn, hn, hk (risk_Fill_con (⟨x25, x29, (-1)⟩ : S_api_Parameters) y7 (y32, y33) e34)] (by kernel_rfl) ?_
         obtain ⟨y35, y36, e37, h⟩ := bind2_some h
         refine AW.sg tt_okL4 [(16, vi64 y36), (15, vi64 y35)] [] [] 22 [hn, hn, hk (risk_Collision_con (⟨x25, x29, (-1)⟩ : S_api_Parameters) y7 (y35, y36) e37)] (by kernel_rfl) ?_
         refine AW.seq (AW.seq ?_)
         refine AW.join (ι := Bool) (fun v => ⟨[(4, vi64 y7), (5, vi64 y10), (6, vi64 (i64.wrap (y10 + y13))), (7, vi64 y16), (8, .c (.ptr 0 3 0 0)), (9, vi64 y20), (10, vi64 x25), (11, vi64 x29), (12, .c (.ptr 1 3 0 0)), (13, vi64 y32), (15, vi64 y35), (85, vb v)], [(0, .box 28 [ci64 y19.Length, ci64 y19.Hashes, ci64 y19.Salt]), (1, .box 28 [ci64 x25, ci64 x29, ci64 (-1)])], 2⟩) (fun v : Bool => rl_law15_RiskChooses_k5 y10 y13 y16 y19 y20 x25 x29 y32 y35 v = some o) (fun x38 h => ?_) ?_
         ·
          unfold rl_law15_RiskChooses_k5 at h
          refine AW.tn ?_
          refine AW.co h (by kernel_rfl) (fun c39 h => ?_) (fun c39 h => ?_)
          ·
           refine AW.sg tt_okL4 [(2, vb false)] [] [] 3 [] (by kernel_rfl) ?_
           refine AW.ret (AW.tr ?_)
           refine AW.inBlock_ret (AW.tr ?_)
           exact lpo h rfl (conv_re [] (by kernel_rfl))
          ·
           refine AW.skip (AW.tn (AW.seq ?_))
           refine AW.join (ι := Bool) (fun v => ⟨[(4, vi64 y7), (5, vi64 y10), (6, vi64 (i64.wrap (y10 + y13))), (7, vi64 y16), (8, .c (.ptr 0 3 0 0)), (9, vi64 y20), (10, vi64 x25), (11, vi64 x29), (12, .c (.ptr 1 3 0 0)), (17, vb v)], [(0, .box 28 [ci64 y19.Length, ci64 y19.Hashes, ci64 y19.Salt]), (1, .box 28 [ci64 x25, ci64 x29, ci64 (-1)])], 2⟩) (fun v : Bool => rl_law15_RiskChooses_k6 y19 y20 x25 x29 v = some o) (fun x40 h => ?_) ?_
           ·
            unfold rl_law15_RiskChooses_k6 at h
            refine AW.tn (AW.seq (AW.seq ?_))
            refine AW.join (ι := Bool) (fun v => ⟨[(4, vi64 y7), (5, vi64 y10), (6, vi64 (i64.wrap (y10 + y13))), (7, vi64 y16), (8, .c (.ptr 0 3 0 0)), (9, vi64 y20), (10, vi64 x25), (11, vi64 x29), (17, vb x40), (105, vb v)], [(0, .box 28 [ci64 y19.Length, ci64 y19.Hashes, ci64 y19.Salt])], 1⟩) (fun v : Bool => rl_law15_RiskChooses_k7 x29 x40 v = some o) (fun x41 h => ?_) ?_
            ·
             unfold rl_law15_RiskChooses_k7 at h
             refine AW.tn ?_
             refine AW.co h (by kernel_rfl) (fun c42 h => ?_) (fun c42 h => ?_)
             ·
              refine AW.sg tt_okL4 [(2, vb x40)] [] [] 3 [] (by kernel_rfl) ?_
              refine AW.ret (AW.tr ?_)
              refine AW.inBlock_ret (AW.tr ?_)
              exact lpo h rfl (conv_re [] (by kernel_rfl))
             ·
              refine AW.skip (AW.tn ?_)
              refine AW.sg tt_okL4 [(107, vb x40)] [] [] 2 [] (by kernel_rfl) ?_
              refine AW.co h (by kernel_rfl) (fun c43 h => ?_) (fun c43 h => ?_)
              ·
               refine AW.sg tt_okL4 [(2, vb false)] [] [] 3 [] (by kernel_rfl) ?_
               refine AW.ret (AW.inBlock_ret (AW.tr ?_))
               exact lpo h rfl (conv_re [] (by kernel_rfl))
              ·
               refine AW.skip (AW.inBlock_normal (AW.tn ?_))
               refine AW.rg tt_okL4 [(11, vi64 (i64.wrap (x29 + 1)))] [] [] 5 [] (by kernel_rfl) ?_
               exact lpn h (conv_re [(0, 0)] (by kernel_rfl))
            ·
             rcases ifs h with ⟨c44, h⟩ | ⟨c44, h⟩
             ·
              refine AW.rg tt_okL4 [(105, vb ((x25 == y19.Length) && ((x29 == y19.Hashes) && ((((-1) : Int) == y19.Salt) && true))))] [] [] 9 [hn, ht c44] (by kernel_rfl) ?_
              exact jl ((x25 == y19.Length) && ((x29 == y19.Hashes) && ((((-1) : Int) == y19.Salt) && true))) h (conv_re [(0, 0)] (by kernel_rfl))
             ·
              refine AW.rg tt_okL4 [(105, vb false)] [] [] 9 [hn, hf c44] (by kernel_rfl) ?_
              exact jl false h (conv_re [(0, 0)] (by kernel_rfl))
           ·
            rcases ifs h with ⟨c45, h⟩ | ⟨c45, h⟩
            ·
             rcases ifs h with ⟨c46, h⟩ | ⟨c46, h⟩
             ·
              refine AW.rg tt_okL4 [(17, vb (decide (y35 ≤ y16)))] [] [] 16 [hn, hn, ht c45, hn, hn, hn, ht c46] (by kernel_rfl) ?_
              exact jl (decide (y35 ≤ y16)) h (conv_re [(0, 0), (1, 1)] (by kernel_rfl))
             ·
              refine AW.rg tt_okL4 [(17, vb false)] [] [] 16 [hn, hn, ht c45, hn, hn, hn, hf c46] (by kernel_rfl) ?_
              exact jl false h (conv_re [(0, 0), (1, 1)] (by kernel_rfl))
            ·
             refine AW.rg tt_okL4 [(17, vb false)] [] [] 16 [hn, hn, hf c45] (by kernel_rfl) ?_
             exact jl false h (conv_re [(0, 0), (1, 1)] (by kernel_rfl))
         ·
          rcases ifs h with ⟨c47, h⟩ | ⟨c47, h⟩
          ·
           refine AW.rg tt_okL4 [(85, vb true)] [] [] 28 [hn, ht c47] (by kernel_rfl) ?_
           exact jl true h (conv_re [(0, 0), (1, 6)] (by kernel_rfl))
          ·
           refine AW.rg tt_okL4 [(85, vb (y36 != 0))] [] [] 28 [hn, hf c47] (by kernel_rfl) ?_
           exact jl (y36 != 0) h (conv_re [(0, 0), (1, 6)] (by kernel_rfl))
        ·
         refine AW.exit (AW.thenQ_exit ?_)
         exact lpo h rfl (conv_re [(0, 0)] (by kernel_rfl))
       ·
        replace h : rl_law15_RiskChooses_a8 x25 = some o := h
        unfold rl_law15_RiskChooses_a8 at h
        show (_ : Exit → St → Prop) (.exit 2) _
        refine AW.inBlock_hit (AW.inBlock_normal (AW.tn ?_))
        refine AW.rg tt_okL4 [(10, vi64 (i64.wrap (x25 + 64)))] [] [] 4 [] (by kernel_rfl) ?_
        exact lpn h (conv_re [(0, 0)] (by kernel_rfl))
       ·
        unfold rl_law15_RiskChooses_a9 at h
        show (_ : Exit → St → Prop) (.ret) _
        refine AW.inBlock_ret (AW.inBlock_ret (AW.tr ?_))
        exact lpo h rfl (conv_re [] (by kernel_rfl))
      ·
       refine AW.exit (AW.thenQ_exit ?_)
       exact lpo h rfl (conv_re [] (by kernel_rfl))
     ·
      replace h : rl_law15_RiskChooses_a10 y20 = some r := h
      unfold rl_law15_RiskChooses_a10 at h
      show (_ : Exit → St → Prop) (.exit 0) _
      refine AW.inBlock_hit (AW.tn ?_)
      refine AW.sg tt_okL4 [(2, vb (y20 == 13))] [] [] 3 [] (by kernel_rfl) ?_
      refine AW.ret ?_
      obtain rfl := some_inj h
      exact fn0 (.inr rfl) [] 0 (vb (y20 == 13)) (by kernel_rfl)
     ·
      unfold rl_law15_RiskChooses_a11 at h
      show (_ : Exit → St → Prop) (.ret) _
      refine AW.inBlock_ret (AW.tr ?_)
      obtain rfl := some_inj h
      exact fn0 (.inr rfl) [] 0 (vb x50) (by kernel_rfl)
   ·
    rcases ifs h with ⟨c52, h⟩ | ⟨c52, h⟩
    ·
     rcases ifs h with ⟨c53, h⟩ | ⟨c53, h⟩
     ·
      refine AW.rg tt_okL4 [(56, vb true)] [] [] 34 [hn, ht c52, hn, hn, ht c53] (by kernel_rfl) ?_
      exact jl true h (conv_re [(0, 20)] (by kernel_rfl))
     ·
      refine AW.rg tt_okL4 [(56, vb (!((y19.Length == 0) && ((y19.Hashes == 0) && ((y19.Salt == 0) && true)))))] [] [] 34 [hn, ht c52, hn, hn, hf c53] (by kernel_rfl) ?_
      exact jl (!((y19.Length == 0) && ((y19.Hashes == 0) && ((y19.Salt == 0) && true)))) h (conv_re [(0, 20)] (by kernel_rfl))
    ·
     refine AW.rg tt_okL4 [(56, vb false)] [] [] 34 [hn, hf c52] (by kernel_rfl) ?_
     exact jl false h (conv_re [(0, 20)] (by kernel_rfl))
 ·
  obtain ⟨y54, e55, h⟩ := bnd_some h
  rcases ifs h with ⟨c56, h⟩ | ⟨c56, h⟩
  ·
   refine AW.rg tt_okL4 [(24, vb true)] [] [] 7 [hk (rl_law15_awake_con y54 e55), ht c56] (by kernel_rfl) ?_
   exact jl true h (conv_re [] (by kernel_rfl))
  ·
   obtain ⟨y57, e58, h⟩ := bnd_some h
   refine AW.rg tt_okL4 [(24, vb (!y57))] [] [] 6 [hk (rl_law15_awake_con y54 e55), hf c56, hn, hn, hk (rl_make_Few_con p0 y57 e58)] (by kernel_rfl) ?_
   exact jl (!y57) h (conv_re [] (by kernel_rfl))
end Go.Proofs.Ytfnojcalalncbaa
