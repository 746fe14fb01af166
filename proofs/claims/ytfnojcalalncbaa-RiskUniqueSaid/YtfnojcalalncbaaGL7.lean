/- Printed by a program of mine (vmgen.py): Go functions, and what they come to. -/
import Derived.Test.YtfnojcalalncbaaVr
import Derived.Test.YtfnojcalalncbaaRows
import Derived.Test.YtfnojcalalncbaaVw
import Derived.Test.YtfnojcalalncbaaG0
namespace Go.Proofs.Ytfnojcalalncbaa
open Vm
open IntKind (i64 u64 u32 u8)
set_option maxHeartbeats 10000000
set_option linter.unusedVariables false
set_option linter.unusedSimpArgs false
set_option linter.constructorNameAsVariable false
def ttlL7 : List (Nat × TI) := [(3, ⟨.int .i64, 1, 8, [.int .i64 0], false⟩), (4, ⟨.bool, 1, 1, [.bool false], false⟩), (22, ⟨.slice 3, 1, 24, [.slice none 0 0], false⟩), (25, ⟨.ptr 66, 1, 8, [.pointer none], false⟩), (28, ⟨.struct [(3, 0), (3, 1), (3, 2)], 3, 24, [.int .i64 0, .int .i64 0, .int .i64 0], true⟩), (29, ⟨.slice 28, 1, 24, [.slice none 0 0], false⟩), (32, ⟨.int .i64, 1, 8, [.int .i64 0], false⟩), (37, ⟨.slice 22, 1, 24, [.slice none 0 0], false⟩), (40, ⟨.arr 4 3, 4, 32, [.int .i64 0, .int .i64 0, .int .i64 0, .int .i64 0], true⟩), (41, ⟨.slice 40, 1, 24, [.slice none 0 0], false⟩), (43, ⟨.int .u64, 1, 8, [.int .u64 0], false⟩), (49, ⟨.slice 43, 1, 24, [.slice none 0 0], false⟩), (51, ⟨.struct [(3, 0), (49, 1)], 2, 32, [.int .i64 0, .slice none 0 0], false⟩), (66, ⟨.struct [(22, 0), (3, 1), (43, 2)], 3, 40, [.slice none 0 0, .int .i64 0, .int .u64 0], false⟩)]
theorem tt_okL7 : TTok Try.prog (Vm.look ttlL7) := ttok_of ⟨⟨by kernel_rfl, by kernel_rfl, by kernel_rfl⟩, ⟨by kernel_rfl, by kernel_rfl, by kernel_rfl⟩, ⟨by kernel_rfl, by kernel_rfl, by kernel_rfl⟩, ⟨by kernel_rfl, by kernel_rfl, by kernel_rfl⟩, ⟨by kernel_rfl, by kernel_rfl, by kernel_rfl⟩, ⟨by kernel_rfl, by kernel_rfl, by kernel_rfl⟩, ⟨by kernel_rfl, by kernel_rfl, by kernel_rfl⟩, ⟨by kernel_rfl, by kernel_rfl, by kernel_rfl⟩, ⟨by kernel_rfl, by kernel_rfl, by kernel_rfl⟩, ⟨by kernel_rfl, by kernel_rfl, by kernel_rfl⟩, ⟨by kernel_rfl, by kernel_rfl, by kernel_rfl⟩, ⟨by kernel_rfl, by kernel_rfl, by kernel_rfl⟩, ⟨by kernel_rfl, by kernel_rfl, by kernel_rfl⟩, ⟨by kernel_rfl, by kernel_rfl, by kernel_rfl⟩, trivial⟩
theorem moL7 : Try.prog.follows .mixedOrders = true := by kernel_rfl
/-! recordlink/recordlinklaw15.RiskUnique -/
noncomputable def rl_law15_RiskUnique_l2 (x15 : List Int) (x16 : Int) (x17 : List Int) (x18 : Int) (x19 : Int) : Option (((List Int) × Int × (List Int) × Int × Int) ⊕ (List Int)) := if (decide (x16 > 0)) = true then (bind2 (rl_make_Deck_Next (⟨x17, x18, x19⟩ : S_recordlinkmake_Deck) 6) fun y22 y23 => (if x15.length + ([y22] : List Int).length ≤ 1099511627776 then (some (.inl ((x15 ++ ([y22] : List Int)), i64.wrap (x16 - 1), y23.list, y23.at_, y23.state))) else none)) else (some (.inr x15))
noncomputable def rl_law15_RiskUnique_l3 (x26 : List Int) (x29 : List Int) (x30 : Int) : Option (((List Int) × Int) ⊕ (List Int)) := if (decide (x30 ≥ 0)) = true then (if 0 ≤ x30 then (if x30 < (x26.length : Int) then (if x29.length + ([(x26.getD (0 + x30.toNat) 0)] : List Int).length ≤ 1099511627776 then (some (.inl ((x29 ++ ([(x26.getD (0 + x30.toNat) 0)] : List Int)), i64.wrap (x30 - 1)))) else none) else none) else none) else (some (.inr x29))
noncomputable def rl_law15_RiskUnique_k4 (x51 : Bool) : Option Bool := some x51
noncomputable def rl_law15_RiskUnique_k1 (p0 : List Int) (x1 : Bool) : Option Bool := if x1 = true then ((rl_law15_awake).bind fun y3 => (some y3)) else ((rl_make_New p0).bind fun y5 => (bind2 (rl_make_Deck_Next y5 8) fun y7 y8 => ((loop (fun v : (List Int) × Int × (List Int) × Int × Int => rl_law15_RiskUnique_l2 v.1 v.2.1 v.2.2.1 v.2.2.2.1 v.2.2.2.2) (([] : List Int), y7, y8.list, y8.at_, y8.state)).bind fun x26 => ((loop (fun v : (List Int) × Int => rl_law15_RiskUnique_l3 x26 v.1 v.2) (([] : List Int), i64.wrap ((x26.length : Int) - 1))).bind fun x36 => (bind3 (risk_Unique x26) fun y37 y38 y39 => (bind3 (risk_Unique x36) fun y41 y42 y43 => (if 0 + x26.length ≤ 1099511627776 then (if (([] : List Int) ++ x26).length + x26.length ≤ 1099511627776 then (bind3 (risk_Unique ((([] : List Int) ++ x26) ++ x26)) fun y47 y48 y49 => (if (y39 == 0) = true then (if (y43 == 0) = true then (if (y49 == 0) = true then (if (y37 == y41) = true then (if (y38 == y42) = true then (if (decide (y37 ≤ y38)) = true then (if (y47 == 0) = true then (rl_law15_RiskUnique_k4 (y48 == (i64.wrap (2 * y38)))) else (rl_law15_RiskUnique_k4 false)) else (rl_law15_RiskUnique_k4 false)) else (rl_law15_RiskUnique_k4 false)) else (rl_law15_RiskUnique_k4 false)) else (rl_law15_RiskUnique_k4 false)) else (rl_law15_RiskUnique_k4 false)) else (rl_law15_RiskUnique_k4 false))) else none) else none)))))))
noncomputable def rl_law15_RiskUnique (p0 : List Int) : Option Bool := (rl_law15_awake).bind fun y61 => (if (!y61) = true then (rl_law15_RiskUnique_k1 p0 true) else ((rl_make_Few p0).bind fun y64 => (rl_law15_RiskUnique_k1 p0 (!y64))))
set_option maxRecDepth 100000 in
theorem rl_law15_RiskUnique_con (p0 : List Int) (r : Bool) (h : rl_law15_RiskUnique p0 = some r) : Con Try.prog 7 [vl 1 Ri64 p0] [] (vb r) [] := by
 refine con_of tt_okL7 0 Try.func7 (by kernel_rfl) rfl (by kernel_rfl) (fun base X _ => AW.post ?_)
 unfold rl_law15_RiskUnique at h
 refine AW.sg tt_okL7 [] [] [] 1 [] (by kernel_rfl) ?_
 refine AW.seq (AW.seq ?_)
 refine AW.join (ι := Bool) (fun v => ⟨[(0, vl 1 Ri64 p0), (23, vb v)], [], 0⟩) (fun v : Bool => rl_law15_RiskUnique_k1 p0 v = some r) (fun x1 h => ?_) ?_
 ·
  unfold rl_law15_RiskUnique_k1 at h
  refine AW.tn ?_
  refine AW.co h (by kernel_rfl) (fun c2 h => ?_) (fun c2 h => ?_)
  ·
   obtain ⟨y3, e4, h⟩ := bnd_some h
   refine AW.sg tt_okL7 [(2, vb y3)] [] [] 1 [hk (rl_law15_awake_con y3 e4)] (by kernel_rfl) ?_
   refine AW.ret (AW.tr ?_)
   obtain rfl := some_inj h
   exact fn0 (.inr rfl) [] 0 (vb y3) (by kernel_rfl)
  ·
   refine AW.skip (AW.tn ?_)
   obtain ⟨y5, e6, h⟩ := bnd_some h
   refine AW.sg tt_okL7 [(3, .c (.ptr 1 3 0 0))] [1] [(1, .box 66 [cl 1 Ri64 y5.list, ci64 y5.at_, cu64 y5.state])] 3 [hn, hl [] [] 1 (rl_make_New_con p0 y5 e6)] (by kernel_rfl) ?_
   refine AW.sg tt_okL7 [(5, .c (.t (.v (.slice none 0 0)))), (4, .c (.t (.v (.slice none 0 0))))] [] [] 5 [] (by kernel_rfl) ?_
   refine AW.seq ?_
   obtain ⟨y7, y8, e9, h⟩ := bind2_some h
   refine AW.sg tt_okL7 [(6, vi64 y7)] [1] [(1, .box 66 [cl 1 Ri64 y8.list, ci64 y8.at_, cu64 y8.state])] 7 [hn, hl [1] [] 0 (rl_make_Deck_Next_con y5 8 (y7, y8) e9)] (by kernel_rfl) ?_
   refine AW.block ?_
   obtain ⟨x26, l60, h⟩ := bnd_some h
   refine AW.lp l60 (fun v => ⟨[(3, .c (.ptr 0 3 0 0)), (4, .c (.ref 1 1 0 v.1.length)), (5, .c (.t (.v (.slice none 0 0)))), (6, vi64 v.2.1)], [(0, .box 66 [cl 1 Ri64 v.2.2.1, ci64 v.2.2.2.1, cu64 v.2.2.2.2]), (1, .row 3 false 1 v.1.length (Ri64 v.1))], 2⟩) (fun t : List Int => (.exit 0, ⟨[(4, .c (.ref 0 1 0 t.length)), (5, .c (.t (.v (.slice none 0 0))))], [(0, .row 3 false 1 t.length (Ri64 t))], 1⟩)) (Conv.trans (conv_adopt (t := 4) (ty := 3) (sz := 1) (n := ([] : List Int).length) (f := Ri64 ([] : List Int)) (by kernel_rfl) rfl) (conv_re [(0, 1), (1, 7)] (by kernel_rfl))) (fun _ => tv) ?_ ?_
   ·
    clear l60 h
    intro v o h
    obtain ⟨x15, x16, x17, x18, x19⟩ := v
    replace h : rl_law15_RiskUnique_l2 x15 x16 x17 x18 x19 = some o := h
    unfold rl_law15_RiskUnique_l2 at h
    refine AW.seq ?_
    refine AW.sg tt_okL7 [(30, vb (decide (x16 > 0)))] [] [] 4 [] (by kernel_rfl) ?_
    refine AW.co h (by kernel_rfl) (fun c21 h => ?_) (fun c21 h => ?_)
    ·
     refine AW.skip (AW.tn ?_)
     refine AW.seq (AW.block ?_)
     obtain ⟨y22, y23, e24, h⟩ := bind2_some h
     obtain ⟨g25, h⟩ := ifc h
     refine AW.rg tt_okL7 [(4, .c (.ref 7 1 0 ((x15 ++ ([y22] : List Int)).length)))] [0, 1, 6, 7] [(7, .row 3 false 1 (x15 ++ ([y22] : List Int)).length (Ri64 (x15 ++ ([y22] : List Int)))), (0, .box 66 [cl 1 Ri64 y23.list, ci64 y23.at_, cu64 y23.state])] 9 [hn, hn, hl [0] [] 0 (rl_make_Deck_Next_con (⟨x17, x18, x19⟩ : S_recordlinkmake_Deck) 6 (y22, y23) e24), hlit 0 Ei64 1 (fun _ => rfl) ([y22] : List Int), happ 0 Ei64 1 8 x15 ([y22] : List Int) g25 (by decide)] (by kernel_rfl) ?_
     refine AW.inBlock_normal (AW.tn ?_)
     refine AW.rg tt_okL7 [(6, vi64 (i64.wrap (x16 - 1)))] [] [] 12 [] (by kernel_rfl) ?_
     exact lpn h (conv_re [(0, 0), (1, 7)] (by kernel_rfl))
    ·
     refine AW.exit (AW.thenQ_exit ?_)
     exact lpo h rfl (conv_re [(0, 1)] (by kernel_rfl))
   ·
    show (_ : Exit → St → Prop) (.exit 0) _
    refine AW.inBlock_hit (AW.tn (AW.seq ?_))
    refine AW.sg tt_okL7 [(7, vi64 (i64.wrap ((x26.length : Int) - 1)))] [] [] 5 [] (by kernel_rfl) ?_
    refine AW.block ?_
    obtain ⟨x36, l59, h⟩ := bnd_some h
    refine AW.lp l59 (fun v => ⟨[(4, .c (.ref 0 1 0 x26.length)), (5, .c (.ref 1 1 0 v.1.length)), (7, vi64 v.2)], [(0, .row 3 false 1 x26.length (Ri64 x26)), (1, .row 3 false 1 v.1.length (Ri64 v.1))], 2⟩) (fun t : List Int => (.exit 2, ⟨[(4, .c (.ref 0 1 0 x26.length)), (5, .c (.ref 1 1 0 t.length))], [(0, .row 3 false 1 x26.length (Ri64 x26)), (1, .row 3 false 1 t.length (Ri64 t))], 2⟩)) (Conv.trans (conv_adopt (t := 5) (ty := 3) (sz := 1) (n := ([] : List Int).length) (f := Ri64 ([] : List Int)) (by kernel_rfl) rfl) (conv_re [(0, 0), (1, 5)] (by kernel_rfl))) (fun _ => tv) ?_ ?_
    ·
     clear l59 h
     intro v o h
     obtain ⟨x29, x30⟩ := v
     replace h : rl_law15_RiskUnique_l3 x26 x29 x30 = some o := h
     unfold rl_law15_RiskUnique_l3 at h
     refine AW.seq ?_
     refine AW.sg tt_okL7 [(42, vb (decide (x30 ≥ 0)))] [] [] 4 [] (by kernel_rfl) ?_
     refine AW.co h (by kernel_rfl) (fun c32 h => ?_) (fun c32 h => ?_)
     ·
      refine AW.skip (AW.tn ?_)
      refine AW.seq (AW.block ?_)
      obtain ⟨g33, g34, h⟩ := ifd h
      obtain ⟨g35, h⟩ := ifc h
      refine AW.rg tt_okL7 [(5, .c (.ref 10 1 0 ((x29 ++ ([(x26.getD (0 + x30.toNat) 0)] : List Int)).length)))] [1, 9, 10] [(10, .row 3 false 1 (x29 ++ ([(x26.getD (0 + x30.toNat) 0)] : List Int)).length (Ri64 (x29 ++ ([(x26.getD (0 + x30.toNat) 0)] : List Int))))] 12 [hn, hn, hn, hq g33 g34, ho (p := (0 + x30.toNat) < x26.length) (by have h1 : 0 ≤ x30 := g33; have h2 : x30 < (x26.length : Int) := g34; omega), hlit 0 Ei64 1 (fun _ => rfl) ([(x26.getD (0 + x30.toNat) 0)] : List Int), happ 0 Ei64 1 8 x29 ([(x26.getD (0 + x30.toNat) 0)] : List Int) g35 (by decide)] (by kernel_rfl) ?_
      refine AW.inBlock_normal (AW.tn ?_)
      refine AW.rg tt_okL7 [(7, vi64 (i64.wrap (x30 - 1)))] [] [] 15 [] (by kernel_rfl) ?_
      exact lpn h (conv_re [(0, 0), (1, 10)] (by kernel_rfl))
     ·
      refine AW.exit (AW.thenQ_exit ?_)
      exact lpo h rfl (conv_re [(0, 0), (1, 1)] (by kernel_rfl))
    ·
     show (_ : Exit → St → Prop) (.exit 2) _
     refine AW.inBlock_hit (AW.tn ?_)
     obtain ⟨y37, y38, y39, e40, h⟩ := bind3_some h
     refine AW.sg tt_okL7 [(10, vi64 y39), (9, vi64 y38), (8, vi64 y37)] [] [] 10 [hn, hg [] [] true 0 (q := (0 + x26.length ≤ x26.length) ∧ (True)) ⟨le0, tv⟩ (a0 := [vl 1 Ri64 x26]) (risk_Unique_con x26 (y37, y38, y39) e40) ⟨ArgLe.refl _, tv⟩ (fun _ => tv)] (by kernel_rfl) ?_
     obtain ⟨y41, y42, y43, e44, h⟩ := bind3_some h
     refine AW.sg tt_okL7 [(13, vi64 y43), (12, vi64 y42), (11, vi64 y41)] [] [] 18 [hn, hg [] [] true 0 (q := (0 + x36.length ≤ x36.length) ∧ (True)) ⟨le0, tv⟩ (a0 := [vl 1 Ri64 x36]) (risk_Unique_con x36 (y41, y42, y43) e44) ⟨ArgLe.refl _, tv⟩ (fun _ => tv)] (by kernel_rfl) ?_
     obtain ⟨g45, g46, h⟩ := ifd h
     obtain ⟨y47, y48, y49, e50, h⟩ := bind3_some h
     refine AW.sg tt_okL7 [(16, vi64 y49), (15, vi64 y48), (14, vi64 y47)] [19, 21] [] 29 [hn, happ0 0 Ei64 1 8 x26 g45 (by decide), hn, happ 0 Ei64 1 8 (([] : List Int) ++ x26) x26 g46 (by decide), hg [] [] true 0 (q := (0 + ((([] : List Int) ++ x26) ++ x26).length ≤ ((([] : List Int) ++ x26) ++ x26).length) ∧ (True)) ⟨le0, tv⟩ (a0 := [vl 1 Ri64 ((([] : List Int) ++ x26) ++ x26)]) (risk_Unique_con ((([] : List Int) ++ x26) ++ x26) (y47, y48, y49) e50) ⟨ArgLe.refl _, tv⟩ (fun _ => tv)] (by kernel_rfl) ?_
     refine AW.seq ?_
     refine AW.join (ι := Bool) (fun v => ⟨[(2, vb v)], [], 0⟩) (fun v : Bool => rl_law15_RiskUnique_k4 v = some r) (fun x51 h => ?_) ?_
     ·
      unfold rl_law15_RiskUnique_k4 at h
      refine AW.tn (AW.ret ?_)
      obtain rfl := some_inj h
      exact fn0 (.inr rfl) [] 0 (vb x51) (by kernel_rfl)
     ·
      rcases ifs h with ⟨c52, h⟩ | ⟨c52, h⟩
      ·
       rcases ifs h with ⟨c53, h⟩ | ⟨c53, h⟩
       ·
        rcases ifs h with ⟨c54, h⟩ | ⟨c54, h⟩
        ·
         rcases ifs h with ⟨c55, h⟩ | ⟨c55, h⟩
         ·
          rcases ifs h with ⟨c56, h⟩ | ⟨c56, h⟩
          ·
           rcases ifs h with ⟨c57, h⟩ | ⟨c57, h⟩
           ·
            rcases ifs h with ⟨c58, h⟩ | ⟨c58, h⟩
            ·
             refine AW.rg tt_okL7 [(2, vb (y48 == (i64.wrap (2 * y38))))] [] [] 65 [hn, ht c52, hn, hn, ht c53, hn, hn, hn, ht c54, hn, hn, hn, hn, ht c55, hn, hn, hn, hn, ht c56, hn, hn, hn, hn, ht c57, hn, hn, hn, ht c58] (by kernel_rfl) ?_
             exact jl (y48 == (i64.wrap (2 * y38))) h (conv_re [] (by kernel_rfl))
            ·
             refine AW.rg tt_okL7 [(2, vb false)] [] [] 65 [hn, ht c52, hn, hn, ht c53, hn, hn, hn, ht c54, hn, hn, hn, hn, ht c55, hn, hn, hn, hn, ht c56, hn, hn, hn, hn, ht c57, hn, hn, hn, hf c58] (by kernel_rfl) ?_
             exact jl false h (conv_re [] (by kernel_rfl))
           ·
            refine AW.rg tt_okL7 [(2, vb false)] [] [] 65 [hn, ht c52, hn, hn, ht c53, hn, hn, hn, ht c54, hn, hn, hn, hn, ht c55, hn, hn, hn, hn, ht c56, hn, hn, hn, hn, hf c57] (by kernel_rfl) ?_
            exact jl false h (conv_re [] (by kernel_rfl))
          ·
           refine AW.rg tt_okL7 [(2, vb false)] [] [] 65 [hn, ht c52, hn, hn, ht c53, hn, hn, hn, ht c54, hn, hn, hn, hn, ht c55, hn, hn, hn, hn, hf c56] (by kernel_rfl) ?_
           exact jl false h (conv_re [] (by kernel_rfl))
         ·
          refine AW.rg tt_okL7 [(2, vb false)] [] [] 65 [hn, ht c52, hn, hn, ht c53, hn, hn, hn, ht c54, hn, hn, hn, hn, hf c55] (by kernel_rfl) ?_
          exact jl false h (conv_re [] (by kernel_rfl))
        ·
         refine AW.rg tt_okL7 [(2, vb false)] [] [] 65 [hn, ht c52, hn, hn, ht c53, hn, hn, hn, hf c54] (by kernel_rfl) ?_
         exact jl false h (conv_re [] (by kernel_rfl))
       ·
        refine AW.rg tt_okL7 [(2, vb false)] [] [] 65 [hn, ht c52, hn, hn, hf c53] (by kernel_rfl) ?_
        exact jl false h (conv_re [] (by kernel_rfl))
      ·
       refine AW.rg tt_okL7 [(2, vb false)] [] [] 65 [hn, hf c52] (by kernel_rfl) ?_
       exact jl false h (conv_re [] (by kernel_rfl))
 ·
  obtain ⟨y61, e62, h⟩ := bnd_some h
  rcases ifs h with ⟨c63, h⟩ | ⟨c63, h⟩
  ·
   refine AW.rg tt_okL7 [(23, vb true)] [] [] 7 [hk (rl_law15_awake_con y61 e62), ht c63] (by kernel_rfl) ?_
   exact jl true h (conv_re [] (by kernel_rfl))
  ·
   obtain ⟨y64, e65, h⟩ := bnd_some h
   refine AW.rg tt_okL7 [(23, vb (!y64))] [] [] 6 [hk (rl_law15_awake_con y61 e62), hf c63, hn, hn, hk (rl_make_Few_con p0 y64 e65)] (by kernel_rfl) ?_
   exact jl (!y64) h (conv_re [] (by kernel_rfl))
end Go.Proofs.Ytfnojcalalncbaa
