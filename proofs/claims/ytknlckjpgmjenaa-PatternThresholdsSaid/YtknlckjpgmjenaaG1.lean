/- Printed by a program of mine (vmgen.py): Go functions, and what they come to. -/
import Derived.Test.YtknlckjpgmjenaaVr
import Derived.Test.YtknlckjpgmjenaaRows
import Derived.Test.YtknlckjpgmjenaaG0
namespace Go.Proofs.Ytknlckjpgmjenaa
open Vm
open IntKind (i64 u64 u32 u8)
set_option maxHeartbeats 10000000
set_option linter.unusedVariables false
set_option linter.unusedSimpArgs false
set_option linter.constructorNameAsVariable false
def ttl1 : List (Nat × TI) := [(3, ⟨.int .i64, 1, 8, [.int .i64 0], false⟩), (4, ⟨.bool, 1, 1, [.bool false], false⟩), (22, ⟨.slice 3, 1, 24, [.slice none 0 0], false⟩), (25, ⟨.ptr 86, 1, 8, [.pointer none], false⟩), (31, ⟨.int .i64, 1, 8, [.int .i64 0], false⟩), (38, ⟨.slice 84, 1, 24, [.slice none 0 0], false⟩), (40, ⟨.struct [(3, 0), (3, 1), (38, 2)], 3, 40, [.int .i64 0, .int .i64 0, .slice none 0 0], false⟩), (41, ⟨.slice 45, 1, 24, [.slice none 0 0], false⟩), (45, ⟨.int .u64, 1, 8, [.int .u64 0], false⟩), (60, ⟨.arr 3 3, 3, 24, [.int .i64 0, .int .i64 0, .int .i64 0], true⟩), (65, ⟨.slice 40, 1, 24, [.slice none 0 0], false⟩), (67, ⟨.slice 72, 1, 24, [.slice none 0 0], false⟩), (72, ⟨.struct [(3, 0), (3, 1)], 2, 16, [.int .i64 0, .int .i64 0], true⟩), (84, ⟨.struct [(3, 0), (41, 1)], 2, 32, [.int .i64 0, .slice none 0 0], false⟩), (86, ⟨.struct [(22, 0), (3, 1), (45, 2)], 3, 40, [.slice none 0 0, .int .i64 0, .int .u64 0], false⟩), (127, ⟨.slice 65, 1, 24, [.slice none 0 0], false⟩), (129, ⟨.arr 6 3, 6, 48, [.int .i64 0, .int .i64 0, .int .i64 0, .int .i64 0, .int .i64 0, .int .i64 0], true⟩)]
theorem tt_ok1 : TTok Try.prog (Vm.look ttl1) := ttok_of ⟨⟨by kernel_rfl, by kernel_rfl, by kernel_rfl⟩, ⟨by kernel_rfl, by kernel_rfl, by kernel_rfl⟩, ⟨by kernel_rfl, by kernel_rfl, by kernel_rfl⟩, ⟨by kernel_rfl, by kernel_rfl, by kernel_rfl⟩, ⟨by kernel_rfl, by kernel_rfl, by kernel_rfl⟩, ⟨by kernel_rfl, by kernel_rfl, by kernel_rfl⟩, ⟨by kernel_rfl, by kernel_rfl, by kernel_rfl⟩, ⟨by kernel_rfl, by kernel_rfl, by kernel_rfl⟩, ⟨by kernel_rfl, by kernel_rfl, by kernel_rfl⟩, ⟨by kernel_rfl, by kernel_rfl, by kernel_rfl⟩, ⟨by kernel_rfl, by kernel_rfl, by kernel_rfl⟩, ⟨by kernel_rfl, by kernel_rfl, by kernel_rfl⟩, ⟨by kernel_rfl, by kernel_rfl, by kernel_rfl⟩, ⟨by kernel_rfl, by kernel_rfl, by kernel_rfl⟩, ⟨by kernel_rfl, by kernel_rfl, by kernel_rfl⟩, ⟨by kernel_rfl, by kernel_rfl, by kernel_rfl⟩, ⟨by kernel_rfl, by kernel_rfl, by kernel_rfl⟩, trivial⟩
theorem mo1 : Try.prog.follows .mixedOrders = true := by kernel_rfl
/-! recordlink/recordlinkref17.Dice -/
noncomputable def rl_ref17_Dice (p0 : S_api_Bits) (p1 : S_api_Bits) : Option Int := bind2 (rl_ref09_And p0 p1) fun y1 y2 => (if (y2 != 0) = true then (some (-1)) else ((rl_ref09_Count p0).bind fun y5 => ((rl_ref09_Count p1).bind fun y7 => (if ((i64.wrap (y5 + y7)) == 0) = true then (some 0) else ((rl_ref09_Count y1).bind fun y10 => ((rl_ref05_Rounded (i64.wrap (2000 * y10)) (i64.wrap (y5 + y7))).bind fun y12 => (some y12)))))))
set_option maxRecDepth 100000 in
theorem rl_ref17_Dice_con (p0 : S_api_Bits) (p1 : S_api_Bits) (r : Int) (h : rl_ref17_Dice p0 p1 = some r) : Con Try.prog 68 [.agg [ci64 p0.Length, cl 1 Ru64 p0.Words], .agg [ci64 p1.Length, cl 1 Ru64 p1.Words]] [] (vi64 r) [] := by
 refine con_of tt_ok1 0 Try.func68 (by kernel_rfl) rfl (by kernel_rfl) (fun base X _ => AW.post ?_)
 unfold rl_ref17_Dice at h
 refine AW.sg tt_ok1 [(3, .c (.ptr 1 2 0 0)), (2, .c (.ptr 0 2 0 0))] [0, 1] [(1, .box 84 [ci64 p1.Length, cl 1 Ru64 p1.Words]), (0, .box 84 [ci64 p0.Length, cl 1 Ru64 p0.Words])] 3 [] (by kernel_rfl) ?_
 obtain ⟨y1, y2, e3, h⟩ := bind2_some h
 refine AW.sg tt_ok1 [(6, vi64 y2), (5, .c (.ptr 9 2 0 0))] [5, 9] [(9, .box 84 [ci64 y1.Length, .ref 5 1 0 y1.Words.length]), (5, .row 45 false 1 y1.Words.length (Ru64 y1.Words))] 12 [hn, hn, hm [] [] 1 (rl_ref09_And_con p0 p1 (y1, y2) e3) ⟨rowL_flat Vu64 _ _ _, tv⟩] (by kernel_rfl) ?_
 refine AW.seq ?_
 refine AW.sg tt_ok1 [(15, vb (y2 != 0))] [] [] 14 [] (by kernel_rfl) ?_
 refine AW.co h (by kernel_rfl) (fun c4 h => ?_) (fun c4 h => ?_)
 ·
  refine AW.sg tt_ok1 [(4, vi64 (-1))] [] [] 15 [] (by kernel_rfl) ?_
  refine AW.ret (AW.tr ?_)
  obtain rfl := some_inj h
  exact fn0 (.inr rfl) [] 0 (vi64 (-1)) (by kernel_rfl)
 ·
  refine AW.skip (AW.tn ?_)
  obtain ⟨y5, e6, h⟩ := bnd_some h
  obtain ⟨y7, e8, h⟩ := bnd_some h
  refine AW.sd tt_ok1 mo1 [] [(7, vi64 (i64.wrap (y5 + y7)))] [] 18 [hn, hk (rl_ref09_Count_con p0 y5 e6), hn, hk (rl_ref09_Count_con p1 y7 e8)] (by kernel_rfl) ?_
  refine AW.seq ?_
  refine AW.sg tt_ok1 [(22, vb ((i64.wrap (y5 + y7)) == 0))] [] [] 20 [] (by kernel_rfl) ?_
  refine AW.co h (by kernel_rfl) (fun c9 h => ?_) (fun c9 h => ?_)
  ·
   refine AW.sg tt_ok1 [(4, vi64 0)] [] [] 21 [] (by kernel_rfl) ?_
   refine AW.ret (AW.tr ?_)
   obtain rfl := some_inj h
   exact fn0 (.inr rfl) [] 0 (vi64 0) (by kernel_rfl)
  ·
   refine AW.skip (AW.tn ?_)
   obtain ⟨y10, e11, h⟩ := bnd_some h
   obtain ⟨y12, e13, h⟩ := bnd_some h
   refine AW.sg tt_ok1 [(4, vi64 y12)] [] [] 24 [hn, hg [] [] true 0 (q := ((True) ∧ (0 + y1.Words.length ≤ y1.Words.length) ∧ (True)) ∧ (True)) ⟨⟨tv, le0, tv⟩, tv⟩ (a0 := [.agg [ci64 y1.Length, cl 1 Ru64 y1.Words]]) (rl_ref09_Count_con y1 y10 e11) ⟨ArgLe.refl _, tv⟩ (fun _ => tv), hn, hn, hk (rl_ref05_Rounded_con (i64.wrap (2000 * y10)) (i64.wrap (y5 + y7)) y12 e13)] (by kernel_rfl) ?_
   refine AW.ret ?_
   obtain rfl := some_inj h
   exact fn0 (.inr rfl) [] 0 (vi64 y12) (by kernel_rfl)
/-! recordlink/recordlinkref17.Compare -/
noncomputable def rl_ref17_Compare_l2 (p0 : S_api_Encoded) (p1 : S_api_Encoded) (x5 : List Int) (x6 : Int) : Option (((List Int) × Int) ⊕ (List Int)) := if (decide (x6 < ((p0.Fields.length : Nat) : Int))) = true then (if 0 ≤ x6 then (if x6 < ((p0.Fields.length : Nat) : Int) then (if x6 < ((p1.Fields.length : Nat) : Int) then ((rl_ref17_Dice (p0.Fields.getD x6.toNat dS_api_Bits) (p1.Fields.getD x6.toNat dS_api_Bits)).bind fun y12 => (if x5.length + ([y12] : List Int).length ≤ 1099511627776 then (some (.inl ((x5 ++ ([y12] : List Int)), i64.wrap (x6 + 1)))) else none)) else none) else none) else none) else (some (.inr x5))
noncomputable def rl_ref17_Compare_k1 (p0 : S_api_Encoded) (p1 : S_api_Encoded) (x1 : Bool) : Option ((List Int) × Int) := if x1 = true then (some (([] : List Int), 8)) else ((loop (fun v : (List Int) × Int => rl_ref17_Compare_l2 p0 p1 v.1 v.2) (([] : List Int), 0)).bind fun x15 => (some (x15, 0)))
noncomputable def rl_ref17_Compare (p0 : S_api_Encoded) (p1 : S_api_Encoded) : Option ((List Int) × Int) := if (((p0.Fields.length : Nat) : Int) != ((p1.Fields.length : Nat) : Int)) = true then (rl_ref17_Compare_k1 p0 p1 true) else (if (decide (((p0.Fields.length : Nat) : Int) < 1)) = true then (rl_ref17_Compare_k1 p0 p1 true) else (rl_ref17_Compare_k1 p0 p1 (decide (((p0.Fields.length : Nat) : Int) > 5))))
set_option maxRecDepth 100000 in
theorem rl_ref17_Compare_con (p0 : S_api_Encoded) (p1 : S_api_Encoded) (r : (List Int) × Int) (h : rl_ref17_Compare p0 p1 = some r) : Con Try.prog 39 [.agg [ci64 p0.ID, ci64 p0.Version, cl 2 RS_api_Bits p0.Fields], .agg [ci64 p1.ID, ci64 p1.Version, cl 2 RS_api_Bits p1.Fields]] [] (.tup [.c (.ref 0 1 0 r.1.length), vi64 r.2]) [(0, .row 3 false 1 r.1.length (Ri64 r.1))] := by
 refine con_of tt_ok1 0 Try.func39 (by kernel_rfl) rfl (by kernel_rfl) (fun base X _ => AW.post ?_)
 unfold rl_ref17_Compare at h
 refine AW.sg tt_ok1 [(3, .c (.ptr 1 3 0 0)), (2, .c (.ptr 0 3 0 0))] [0, 1] [(1, .box 40 [ci64 p1.ID, ci64 p1.Version, cl 2 RS_api_Bits p1.Fields]), (0, .box 40 [ci64 p0.ID, ci64 p0.Version, cl 2 RS_api_Bits p0.Fields])] 4 [] (by kernel_rfl) ?_
 refine AW.seq (AW.seq ?_)
 refine AW.join (ι := Bool) (fun v => ⟨[(2, .c (.ptr 0 3 0 0)), (3, .c (.ptr 1 3 0 0)), (26, vb v)], [(0, .box 40 [ci64 p0.ID, ci64 p0.Version, cl 2 RS_api_Bits p0.Fields]), (1, .box 40 [ci64 p1.ID, ci64 p1.Version, cl 2 RS_api_Bits p1.Fields])], 2⟩) (fun v : Bool => rl_ref17_Compare_k1 p0 p1 v = some r) (fun x1 h => ?_) ?_
 ·
  unfold rl_ref17_Compare_k1 at h
  refine AW.tn ?_
  refine AW.co h (by kernel_rfl) (fun c2 h => ?_) (fun c2 h => ?_)
  ·
   refine AW.sg tt_ok1 [(5, vi64 8), (4, .c (.t (.v (.slice none 0 0))))] [] [] 4 [] (by kernel_rfl) ?_
   refine AW.ret (AW.tr ?_)
   obtain rfl := some_inj h
   exact fnR (.inr rfl) [(0, 4)] 1 (.tup [.c (.ref 4 1 0 (([] : List Int).length)), vi64 8]) (conv_adopt (t := 4) (ty := 3) (sz := 1) (n := ([] : List Int).length) (f := Ri64 ([] : List Int)) (by kernel_rfl) rfl) (by kernel_rfl)
  ·
   refine AW.skip (AW.tn ?_)
   refine AW.sg tt_ok1 [(6, .c (.t (.v (.slice none 0 0))))] [] [] 3 [] (by kernel_rfl) ?_
   refine AW.seq ?_
   refine AW.sg tt_ok1 [(7, vi64 0)] [] [] 4 [] (by kernel_rfl) ?_
   refine AW.block ?_
   obtain ⟨x15, l16, h⟩ := bnd_some h
   refine AW.lp l16 (fun v => ⟨[(2, .c (.ptr 0 3 0 0)), (3, .c (.ptr 1 3 0 0)), (6, .c (.ref 2 1 0 v.1.length)), (7, vi64 v.2)], [(0, .box 40 [ci64 p0.ID, ci64 p0.Version, cl 2 RS_api_Bits p0.Fields]), (1, .box 40 [ci64 p1.ID, ci64 p1.Version, cl 2 RS_api_Bits p1.Fields]), (2, .row 3 false 1 v.1.length (Ri64 v.1))], 3⟩) (fun t : List Int => (.exit 0, ⟨[(6, .c (.ref 0 1 0 t.length))], [(0, .row 3 false 1 t.length (Ri64 t))], 1⟩)) (Conv.trans (conv_adopt (t := 6) (ty := 3) (sz := 1) (n := ([] : List Int).length) (f := Ri64 ([] : List Int)) (by kernel_rfl) rfl) (conv_re [(0, 0), (1, 1), (2, 4)] (by kernel_rfl))) (fun _ => tv) ?_ ?_
   ·
    clear l16 h
    intro v o h
    obtain ⟨x5, x6⟩ := v
    replace h : rl_ref17_Compare_l2 p0 p1 x5 x6 = some o := h
    unfold rl_ref17_Compare_l2 at h
    refine AW.seq ?_
    refine AW.sg tt_ok1 [(31, vb (decide (x6 < ((p0.Fields.length : Nat) : Int))))] [] [] 8 [] (by kernel_rfl) ?_
    refine AW.co h (by kernel_rfl) (fun c8 h => ?_) (fun c8 h => ?_)
    ·
     refine AW.skip (AW.tn ?_)
     refine AW.seq (AW.block ?_)
     obtain ⟨g9, g10, h⟩ := ifd h
     obtain ⟨g11, h⟩ := ifc h
     obtain ⟨y12, e13, h⟩ := bnd_some h
     obtain ⟨g14, h⟩ := ifc h
     refine AW.rd tt_ok1 mo1 [[], [], [], [], [], [], [], [], [], [], [], [], [19], [20, 2]] [(6, .c (.ref 20 1 0 ((x5 ++ ([y12] : List Int)).length)))] [(20, .row 3 false 1 (x5 ++ ([y12] : List Int)).length (Ri64 (x5 ++ ([y12] : List Int))))] 22 [hn, hn, hn, hn, hq g9 g10, hn, hn, hn, hn, hq g9 g11, hn, hk (rl_ref17_Dice_con (p0.Fields.getD x6.toNat dS_api_Bits) (p1.Fields.getD x6.toNat dS_api_Bits) y12 e13), hlit 0 Ei64 1 (fun _ => rfl) ([y12] : List Int), happ 0 Ei64 1 8 x5 ([y12] : List Int) g14 (by decide)] (by kernel_rfl) ?_
     refine AW.inBlock_normal (AW.tn ?_)
     refine AW.rg tt_ok1 [(7, vi64 (i64.wrap (x6 + 1)))] [] [] 25 [] (by kernel_rfl) ?_
     exact lpn h (conv_re [(0, 0), (1, 1), (2, 20)] (by kernel_rfl))
    ·
     refine AW.exit (AW.thenQ_exit ?_)
     exact lpo h rfl (conv_re [(0, 2)] (by kernel_rfl))
   ·
    show (_ : Exit → St → Prop) (.exit 0) _
    refine AW.inBlock_hit (AW.tn ?_)
    refine AW.sg tt_ok1 [(5, vi64 0), (4, .c (.ref 0 1 0 x15.length))] [] [] 4 [] (by kernel_rfl) ?_
    refine AW.ret ?_
    obtain rfl := some_inj h
    exact fn0 (.inr rfl) [(0, 0)] 1 (.tup [.c (.ref 0 1 0 x15.length), vi64 0]) (by kernel_rfl)
 ·
  rcases ifs h with ⟨c17, h⟩ | ⟨c17, h⟩
  ·
   refine AW.rg tt_ok1 [(26, vb true)] [] [] 23 [hn, hn, hn, hn, hn, hn, ht c17] (by kernel_rfl) ?_
   exact jl true h (conv_re [(0, 0), (1, 1)] (by kernel_rfl))
  ·
   rcases ifs h with ⟨c18, h⟩ | ⟨c18, h⟩
   ·
    refine AW.rg tt_ok1 [(26, vb true)] [] [] 23 [hn, hn, hn, hn, hn, hn, hf c17, hn, hn, hn, hn, ht c18] (by kernel_rfl) ?_
    exact jl true h (conv_re [(0, 0), (1, 1)] (by kernel_rfl))
   ·
    refine AW.rg tt_ok1 [(26, vb (decide (((p0.Fields.length : Nat) : Int) > 5)))] [] [] 23 [hn, hn, hn, hn, hn, hn, hf c17, hn, hn, hn, hn, hf c18] (by kernel_rfl) ?_
    exact jl (decide (((p0.Fields.length : Nat) : Int) > 5)) h (conv_re [(0, 0), (1, 1)] (by kernel_rfl))
/-! recordlink/recordlinkref17.Number -/
noncomputable def rl_ref17_Number_k3 (p0 : List Int) (x5 : Int) (x6 : Int) (x9 : Bool) : Option ((Int × Int) ⊕ (Int ⊕ Unit)) := if x9 = true then (some (.inr (.inr ()))) else (if 0 ≤ x6 then (if x6 < (p0.length : Int) then ((some (i64.wrap ((i64.wrap (3 * x5)) + (p0.getD x6.toNat 0)))).bind fun z13 => (some (.inl (z13, i64.wrap (x6 - 1))))) else none) else none)
noncomputable def rl_ref17_Number_l2 (p0 : List Int) (x5 : Int) (x6 : Int) : Option ((Int × Int) ⊕ (Int ⊕ Unit)) := if (decide (x6 ≥ 0)) = true then (if 0 ≤ x6 then (if x6 < (p0.length : Int) then (if (decide ((p0.getD x6.toNat 0) < 0)) = true then (rl_ref17_Number_k3 p0 x5 x6 true) else (rl_ref17_Number_k3 p0 x5 x6 (decide ((p0.getD x6.toNat 0) > 2)))) else none) else none) else (some (.inr (.inl x5)))
noncomputable def rl_ref17_Number_a4 (x18 : Int) : Option (Int × Int) := some (x18, 0)
noncomputable def rl_ref17_Number_a5 : Option (Int × Int) := some (0, 2)
noncomputable def rl_ref17_Number_k1 (p0 : List Int) (x1 : Bool) : Option (Int × Int) := if x1 = true then (some (0, 8)) else (bindE (loop (fun v : Int × Int => rl_ref17_Number_l2 p0 v.1 v.2) (0, i64.wrap ((p0.length : Int) - 1))) (fun t => rl_ref17_Number_a4 t) (fun t => rl_ref17_Number_a5))
noncomputable def rl_ref17_Number (p0 : List Int) : Option (Int × Int) := if (decide ((p0.length : Int) < 1)) = true then (rl_ref17_Number_k1 p0 true) else (rl_ref17_Number_k1 p0 (decide ((p0.length : Int) > 5)))
set_option maxRecDepth 100000 in
theorem rl_ref17_Number_con (p0 : List Int) (r : Int × Int) (h : rl_ref17_Number p0 = some r) : Con Try.prog 69 [vl 1 Ri64 p0] [] (.tup [vi64 r.1, vi64 r.2]) [] := by
 refine con_of tt_ok1 0 Try.func69 (by kernel_rfl) rfl (by kernel_rfl) (fun base X _ => AW.post ?_)
 unfold rl_ref17_Number at h
 refine AW.sg tt_ok1 [] [] [] 2 [] (by kernel_rfl) ?_
 refine AW.seq (AW.seq ?_)
 refine AW.join (ι := Bool) (fun v => ⟨[(0, vl 1 Ri64 p0), (13, vb v)], [], 0⟩) (fun v : Bool => rl_ref17_Number_k1 p0 v = some r) (fun x1 h => ?_) ?_
 ·
  unfold rl_ref17_Number_k1 at h
  refine AW.tn ?_
  refine AW.co h (by kernel_rfl) (fun c2 h => ?_) (fun c2 h => ?_)
  ·
   refine AW.sg tt_ok1 [(3, vi64 8), (2, vi64 0)] [] [] 2 [] (by kernel_rfl) ?_
   refine AW.ret (AW.tr ?_)
   obtain rfl := some_inj h
   exact fn0 (.inr rfl) [] 0 (.tup [vi64 0, vi64 8]) (by kernel_rfl)
  ·
   refine AW.skip (AW.tn ?_)
   refine AW.sg tt_ok1 [(4, vi64 0)] [] [] 1 [] (by kernel_rfl) ?_
   refine AW.seq ?_
   refine AW.sg tt_ok1 [(5, vi64 (i64.wrap ((p0.length : Int) - 1)))] [] [] 5 [] (by kernel_rfl) ?_
   refine AW.block ?_
   refine AW.lpE h (fun v => ⟨[(0, vl 1 Ri64 p0), (4, vi64 v.1), (5, vi64 v.2)], [], 0⟩) (fun t => (.exit 0, ⟨[(4, vi64 t)], [], 0⟩)) (fun t => (.ret, ⟨[(2, vi64 0), (3, vi64 2)], [], 0⟩)) (conv_re [] (by kernel_rfl)) (fun _ => tv) (fun _ => tv) ?_ (fun x18 h => ?_) (fun t h => ?_)
   ·
    clear h
    intro v o h
    obtain ⟨x5, x6⟩ := v
    replace h : rl_ref17_Number_l2 p0 x5 x6 = some o := h
    unfold rl_ref17_Number_l2 at h
    refine AW.seq ?_
    refine AW.sg tt_ok1 [(18, vb (decide (x6 ≥ 0)))] [] [] 2 [] (by kernel_rfl) ?_
    refine AW.co h (by kernel_rfl) (fun c8 h => ?_) (fun c8 h => ?_)
    ·
     refine AW.skip (AW.tn ?_)
     refine AW.seq (AW.block ?_)
     refine AW.seq (AW.seq ?_)
     refine AW.join (ι := Bool) (fun v => ⟨[(0, vl 1 Ri64 p0), (4, vi64 x5), (5, vi64 x6), (32, vb v)], [], 0⟩) (fun v : Bool => rl_ref17_Number_k3 p0 x5 x6 v = some o) (fun x9 h => ?_) ?_
     ·
      unfold rl_ref17_Number_k3 at h
      refine AW.tn ?_
      refine AW.co h (by kernel_rfl) (fun c10 h => ?_) (fun c10 h => ?_)
      ·
       refine AW.sg tt_ok1 [(3, vi64 2), (2, vi64 0)] [] [] 2 [] (by kernel_rfl) ?_
       refine AW.ret (AW.tr ?_)
       refine AW.inBlock_ret (AW.tr ?_)
       exact lpo h rfl (conv_re [] (by kernel_rfl))
      ·
       refine AW.skip (AW.tn ?_)
       obtain ⟨g11, g12, h⟩ := ifd h
       obtain ⟨z13, n14, h⟩ := bnd_some h
       replace n14 := some_inj n14
       refine AW.rg tt_ok1 [(4, vi64 z13)] [] [] 8 [hn, hn, hn, hn, hq g11 g12] (by subst n14; kernel_rfl) ?_
       refine AW.inBlock_normal (AW.tn ?_)
       refine AW.rg tt_ok1 [(5, vi64 (i64.wrap (x6 - 1)))] [] [] 11 [] (by kernel_rfl) ?_
       exact lpn h (conv_re [] (by kernel_rfl))
     ·
      obtain ⟨g15, g16, h⟩ := ifd h
      rcases ifs h with ⟨c17, h⟩ | ⟨c17, h⟩
      ·
       refine AW.rg tt_ok1 [(32, vb true)] [] [] 14 [hn, hn, hq g15 g16, hn, ht c17] (by kernel_rfl) ?_
       exact jl true h (conv_re [] (by kernel_rfl))
      ·
       refine AW.rg tt_ok1 [(32, vb (decide ((p0.getD x6.toNat 0) > 2)))] [] [] 14 [hn, hn, hq g15 g16, hn, hf c17, hn, hn, hn, hq g15 g16] (by kernel_rfl) ?_
       exact jl (decide ((p0.getD x6.toNat 0) > 2)) h (conv_re [] (by kernel_rfl))
    ·
     refine AW.exit (AW.thenQ_exit ?_)
     exact lpo h rfl (conv_re [] (by kernel_rfl))
   ·
    unfold rl_ref17_Number_a4 at h
    show (_ : Exit → St → Prop) (.exit 0) _
    refine AW.inBlock_hit (AW.tn ?_)
    refine AW.sg tt_ok1 [(3, vi64 0), (2, vi64 x18)] [] [] 3 [] (by kernel_rfl) ?_
    refine AW.ret ?_
    obtain rfl := some_inj h
    exact fn0 (.inr rfl) [] 0 (.tup [vi64 x18, vi64 0]) (by kernel_rfl)
   ·
    replace h : rl_ref17_Number_a5 = some r := h
    unfold rl_ref17_Number_a5 at h
    show (_ : Exit → St → Prop) (.ret) _
    refine AW.inBlock_ret (AW.tr ?_)
    obtain rfl := some_inj h
    exact fn0 (.inr rfl) [] 0 (.tup [vi64 0, vi64 2]) (by kernel_rfl)
 ·
  rcases ifs h with ⟨c20, h⟩ | ⟨c20, h⟩
  ·
   refine AW.rg tt_ok1 [(13, vb true)] [] [] 10 [hn, hn, ht c20] (by kernel_rfl) ?_
   exact jl true h (conv_re [] (by kernel_rfl))
  ·
   refine AW.rg tt_ok1 [(13, vb (decide ((p0.length : Int) > 5)))] [] [] 10 [hn, hn, hf c20] (by kernel_rfl) ?_
   exact jl (decide ((p0.length : Int) > 5)) h (conv_re [] (by kernel_rfl))
/-! recordlink/recordlinkref17.Pattern -/
noncomputable def rl_ref17_Pattern_k3 (x6 : Int) (x9 : List Int) : Option (((List Int) × Int) ⊕ ((List Int) ⊕ Unit)) := some (.inl (x9, i64.wrap (x6 + 1)))
noncomputable def rl_ref17_Pattern_k4 (p0 : List Int) (p1 : List Int) (x5 : List Int) (x6 : Int) (x10 : Bool) : Option (((List Int) × Int) ⊕ ((List Int) ⊕ Unit)) := if x10 = true then (some (.inr (.inr ()))) else (if 0 ≤ x6 then (if x6 < (p1.length : Int) then (if (decide ((p1.getD x6.toNat 0) < 0)) = true then (if x5.length + ([0] : List Int).length ≤ 1099511627776 then (rl_ref17_Pattern_k3 x6 (x5 ++ ([0] : List Int))) else none) else (if x6 < (p0.length : Int) then (if (decide ((p1.getD x6.toNat 0) ≥ (p0.getD x6.toNat 0))) = true then (if x5.length + ([2] : List Int).length ≤ 1099511627776 then (rl_ref17_Pattern_k3 x6 (x5 ++ ([2] : List Int))) else none) else (if x5.length + ([1] : List Int).length ≤ 1099511627776 then (rl_ref17_Pattern_k3 x6 (x5 ++ ([1] : List Int))) else none)) else none)) else none) else none)
noncomputable def rl_ref17_Pattern_l2 (p0 : List Int) (p1 : List Int) (x5 : List Int) (x6 : Int) : Option (((List Int) × Int) ⊕ ((List Int) ⊕ Unit)) := if (decide (x6 < (p1.length : Int))) = true then (if 0 ≤ x6 then (if x6 < (p0.length : Int) then (if (decide ((p0.getD x6.toNat 0) < 0)) = true then (rl_ref17_Pattern_k4 p0 p1 x5 x6 true) else (if (decide ((p0.getD x6.toNat 0) > 1000)) = true then (rl_ref17_Pattern_k4 p0 p1 x5 x6 true) else (if x6 < (p1.length : Int) then (if (decide ((p1.getD x6.toNat 0) < (-1))) = true then (rl_ref17_Pattern_k4 p0 p1 x5 x6 true) else (rl_ref17_Pattern_k4 p0 p1 x5 x6 (decide ((p1.getD x6.toNat 0) > 1000)))) else none))) else none) else none) else (some (.inr (.inl x5)))
noncomputable def rl_ref17_Pattern_a5 (x26 : List Int) : Option (Int × Int) := bind2 (rl_ref17_Number x26) fun y27 y28 => (some (y27, y28))
noncomputable def rl_ref17_Pattern_a6 : Option (Int × Int) := some (0, 2)
noncomputable def rl_ref17_Pattern_k1 (p0 : List Int) (p1 : List Int) (x1 : Bool) : Option (Int × Int) := if x1 = true then (some (0, 8)) else (bindE (loop (fun v : (List Int) × Int => rl_ref17_Pattern_l2 p0 p1 v.1 v.2) (([] : List Int), 0)) (fun t => rl_ref17_Pattern_a5 t) (fun t => rl_ref17_Pattern_a6))
noncomputable def rl_ref17_Pattern (p0 : List Int) (p1 : List Int) : Option (Int × Int) := if ((p1.length : Int) != (p0.length : Int)) = true then (rl_ref17_Pattern_k1 p0 p1 true) else (if (decide ((p1.length : Int) < 1)) = true then (rl_ref17_Pattern_k1 p0 p1 true) else (rl_ref17_Pattern_k1 p0 p1 (decide ((p1.length : Int) > 5))))
set_option maxRecDepth 100000 in
theorem rl_ref17_Pattern_con (p0 : List Int) (p1 : List Int) (r : Int × Int) (h : rl_ref17_Pattern p0 p1 = some r) : Con Try.prog 40 [vl 1 Ri64 p0, vl 1 Ri64 p1] [] (.tup [vi64 r.1, vi64 r.2]) [] := by
 refine con_of tt_ok1 0 Try.func40 (by kernel_rfl) rfl (by kernel_rfl) (fun base X _ => AW.post ?_)
 unfold rl_ref17_Pattern at h
 refine AW.sg tt_ok1 [] [] [] 2 [] (by kernel_rfl) ?_
 refine AW.seq (AW.seq ?_)
 refine AW.join (ι := Bool) (fun v => ⟨[(0, vl 1 Ri64 p0), (1, vl 1 Ri64 p1), (22, vb v)], [], 0⟩) (fun v : Bool => rl_ref17_Pattern_k1 p0 p1 v = some r) (fun x1 h => ?_) ?_
 ·
  unfold rl_ref17_Pattern_k1 at h
  refine AW.tn ?_
  refine AW.co h (by kernel_rfl) (fun c2 h => ?_) (fun c2 h => ?_)
  ·
   refine AW.sg tt_ok1 [(5, vi64 8), (4, vi64 0)] [] [] 2 [] (by kernel_rfl) ?_
   refine AW.ret (AW.tr ?_)
   obtain rfl := some_inj h
   exact fn0 (.inr rfl) [] 0 (.tup [vi64 0, vi64 8]) (by kernel_rfl)
  ·
   refine AW.skip (AW.tn ?_)
   refine AW.sg tt_ok1 [(6, .c (.t (.v (.slice none 0 0))))] [] [] 1 [] (by kernel_rfl) ?_
   refine AW.seq ?_
   refine AW.sg tt_ok1 [(7, vi64 0)] [] [] 2 [] (by kernel_rfl) ?_
   refine AW.block ?_
   refine AW.lpE h (fun v => ⟨[(0, vl 1 Ri64 p0), (1, vl 1 Ri64 p1), (6, .c (.ref 0 1 0 v.1.length)), (7, vi64 v.2)], [(0, .row 3 false 1 v.1.length (Ri64 v.1))], 1⟩) (fun t => (.exit 0, ⟨[(6, .c (.ref 0 1 0 t.length))], [(0, .row 3 false 1 t.length (Ri64 t))], 1⟩)) (fun t => (.ret, ⟨[(4, vi64 0), (5, vi64 2)], [], 0⟩)) (Conv.trans (conv_adopt (t := 6) (ty := 3) (sz := 1) (n := ([] : List Int).length) (f := Ri64 ([] : List Int)) (by kernel_rfl) rfl) (conv_re [(0, 2)] (by kernel_rfl))) (fun _ => tv) (fun _ => tv) ?_ (fun x26 h => ?_) (fun t h => ?_)
   ·
    clear h
    intro v o h
    obtain ⟨x5, x6⟩ := v
    replace h : rl_ref17_Pattern_l2 p0 p1 x5 x6 = some o := h
    unfold rl_ref17_Pattern_l2 at h
    refine AW.seq ?_
    refine AW.sg tt_ok1 [(26, vb (decide (x6 < (p1.length : Int))))] [] [] 5 [] (by kernel_rfl) ?_
    refine AW.co h (by kernel_rfl) (fun c8 h => ?_) (fun c8 h => ?_)
    ·
     refine AW.skip (AW.tn (AW.seq ?_))
     refine AW.join (ι := List Int) (fun v => ⟨[(0, vl 1 Ri64 p0), (1, vl 1 Ri64 p1), (6, .c (.ref 0 1 0 v.length)), (7, vi64 x6)], [(0, .row 3 false 1 v.length (Ri64 v))], 1⟩) (fun v : List Int => rl_ref17_Pattern_k3 x6 v = some o) (fun x9 h => ?_) ?_
     ·
      unfold rl_ref17_Pattern_k3 at h
      refine AW.tn ?_
      refine AW.rg tt_ok1 [(7, vi64 (i64.wrap (x6 + 1)))] [] [] 4 [] (by kernel_rfl) ?_
      exact lpn h (conv_re [(0, 0)] (by kernel_rfl))
     ·
      refine AW.block (AW.seq (AW.seq ?_))
      refine AW.join (ι := Bool) (fun v => ⟨[(0, vl 1 Ri64 p0), (1, vl 1 Ri64 p1), (6, .c (.ref 0 1 0 x5.length)), (7, vi64 x6), (54, vb v)], [(0, .row 3 false 1 x5.length (Ri64 x5))], 1⟩) (fun v : Bool => rl_ref17_Pattern_k4 p0 p1 x5 x6 v = some o) (fun x10 h => ?_) ?_
      ·
       unfold rl_ref17_Pattern_k4 at h
       refine AW.tn ?_
       refine AW.co h (by kernel_rfl) (fun c11 h => ?_) (fun c11 h => ?_)
       ·
        refine AW.sg tt_ok1 [(5, vi64 2), (4, vi64 0)] [] [] 3 [] (by kernel_rfl) ?_
        refine AW.ret (AW.tr (AW.inBlock_ret ?_))
        refine joinQ_ret ?_
        refine AW.tr ?_
        exact lpo h rfl (conv_re [] (by kernel_rfl))
       ·
        refine AW.skip (AW.tn (AW.block ?_))
        obtain ⟨g12, g13, h⟩ := ifd h
        refine AW.sg tt_ok1 [(58, vb (decide ((p1.getD x6.toNat 0) < 0)))] [] [] 7 [hn, hn, hq g12 g13] (by kernel_rfl) ?_
        refine AW.co h (by kernel_rfl) (fun c14 h => ?_) (fun c14 h => ?_)
        ·
         obtain ⟨g15, h⟩ := ifc h
         refine AW.rg tt_ok1 [(6, .c (.ref 9 1 0 ((x5 ++ ([0] : List Int)).length)))] [0, 8, 9] [(9, .row 3 false 1 (x5 ++ ([0] : List Int)).length (Ri64 (x5 ++ ([0] : List Int))))] 11 [hn, hlit 0 Ei64 1 (fun _ => rfl) ([0] : List Int), happ 0 Ei64 1 8 x5 ([0] : List Int) g15 (by decide)] (by kernel_rfl) ?_
         refine AW.inBlock_normal (AW.inBlock_normal ?_)
         exact jl (x5 ++ ([0] : List Int)) h (conv_re [(0, 9)] (by kernel_rfl))
        ·
         obtain ⟨g16, h⟩ := ifc h
         refine AW.sd tt_ok1 mo1 [] [(67, vb (decide ((p1.getD x6.toNat 0) ≥ (p0.getD x6.toNat 0))))] [] 17 [hn, hn, hq g12 g13, hn, hn, hn, hq g12 g16] (by kernel_rfl) ?_
         refine AW.co h (by kernel_rfl) (fun c17 h => ?_) (fun c17 h => ?_)
         ·
          obtain ⟨g18, h⟩ := ifc h
          refine AW.rg tt_ok1 [(6, .c (.ref 19 1 0 ((x5 ++ ([2] : List Int)).length)))] [0, 18, 19] [(19, .row 3 false 1 (x5 ++ ([2] : List Int)).length (Ri64 (x5 ++ ([2] : List Int))))] 21 [hn, hlit 0 Ei64 1 (fun _ => rfl) ([2] : List Int), happ 0 Ei64 1 8 x5 ([2] : List Int) g18 (by decide)] (by kernel_rfl) ?_
          refine AW.inBlock_normal (AW.inBlock_normal ?_)
          exact jl (x5 ++ ([2] : List Int)) h (conv_re [(0, 19)] (by kernel_rfl))
         ·
          obtain ⟨g19, h⟩ := ifc h
          refine AW.rg tt_ok1 [(6, .c (.ref 19 1 0 ((x5 ++ ([1] : List Int)).length)))] [0, 18, 19] [(19, .row 3 false 1 (x5 ++ ([1] : List Int)).length (Ri64 (x5 ++ ([1] : List Int))))] 21 [hn, hlit 0 Ei64 1 (fun _ => rfl) ([1] : List Int), happ 0 Ei64 1 8 x5 ([1] : List Int) g19 (by decide)] (by kernel_rfl) ?_
          refine AW.inBlock_normal (AW.inBlock_normal ?_)
          exact jl (x5 ++ ([1] : List Int)) h (conv_re [(0, 19)] (by kernel_rfl))
      ·
       obtain ⟨g20, g21, h⟩ := ifd h
       rcases ifs h with ⟨c22, h⟩ | ⟨c22, h⟩
       ·
        refine AW.rg tt_ok1 [(54, vb true)] [] [] 31 [hn, hn, hq g20 g21, hn, ht c22] (by kernel_rfl) ?_
        exact jl true h (conv_re [(0, 0)] (by kernel_rfl))
       ·
        rcases ifs h with ⟨c23, h⟩ | ⟨c23, h⟩
        ·
         refine AW.rg tt_ok1 [(54, vb true)] [] [] 31 [hn, hn, hq g20 g21, hn, hf c22, hn, hn, hn, hq g20 g21, hn, ht c23] (by kernel_rfl) ?_
         exact jl true h (conv_re [(0, 0)] (by kernel_rfl))
        ·
         obtain ⟨g24, h⟩ := ifc h
         rcases ifs h with ⟨c25, h⟩ | ⟨c25, h⟩
         ·
          refine AW.rg tt_ok1 [(54, vb true)] [] [] 31 [hn, hn, hq g20 g21, hn, hf c22, hn, hn, hn, hq g20 g21, hn, hf c23, hn, hn, hn, hn, hq g20 g24, hn, ht c25] (by kernel_rfl) ?_
          exact jl true h (conv_re [(0, 0)] (by kernel_rfl))
         ·
          refine AW.rg tt_ok1 [(54, vb (decide ((p1.getD x6.toNat 0) > 1000)))] [] [] 31 [hn, hn, hq g20 g21, hn, hf c22, hn, hn, hn, hq g20 g21, hn, hf c23, hn, hn, hn, hn, hq g20 g24, hn, hf c25, hn, hn, hn, hn, hq g20 g24] (by kernel_rfl) ?_
          exact jl (decide ((p1.getD x6.toNat 0) > 1000)) h (conv_re [(0, 0)] (by kernel_rfl))
    ·
     refine AW.exit (AW.thenQ_exit ?_)
     exact lpo h rfl (conv_re [(0, 0)] (by kernel_rfl))
   ·
    unfold rl_ref17_Pattern_a5 at h
    show (_ : Exit → St → Prop) (.exit 0) _
    refine AW.inBlock_hit (AW.tn ?_)
    obtain ⟨y27, y28, e29, h⟩ := bind2_some h
    refine AW.sg tt_ok1 [(5, vi64 y28), (4, vi64 y27)] [] [] 6 [hn, hg [] [] true 0 (q := (0 + x26.length ≤ x26.length) ∧ (True)) ⟨le0, tv⟩ (a0 := [vl 1 Ri64 x26]) (rl_ref17_Number_con x26 (y27, y28) e29) ⟨ArgLe.refl _, tv⟩ (fun _ => tv)] (by kernel_rfl) ?_
    refine AW.ret ?_
    obtain rfl := some_inj h
    exact fn0 (.inr rfl) [] 0 (.tup [vi64 y27, vi64 y28]) (by kernel_rfl)
   ·
    replace h : rl_ref17_Pattern_a6 = some r := h
    unfold rl_ref17_Pattern_a6 at h
    show (_ : Exit → St → Prop) (.ret) _
    refine AW.inBlock_ret (AW.tr ?_)
    obtain rfl := some_inj h
    exact fn0 (.inr rfl) [] 0 (.tup [vi64 0, vi64 2]) (by kernel_rfl)
 ·
  rcases ifs h with ⟨c31, h⟩ | ⟨c31, h⟩
  ·
   refine AW.rg tt_ok1 [(22, vb true)] [] [] 17 [hn, hn, hn, hn, ht c31] (by kernel_rfl) ?_
   exact jl true h (conv_re [] (by kernel_rfl))
  ·
   rcases ifs h with ⟨c32, h⟩ | ⟨c32, h⟩
   ·
    refine AW.rg tt_ok1 [(22, vb true)] [] [] 17 [hn, hn, hn, hn, hf c31, hn, hn, hn, ht c32] (by kernel_rfl) ?_
    exact jl true h (conv_re [] (by kernel_rfl))
   ·
    refine AW.rg tt_ok1 [(22, vb (decide ((p1.length : Int) > 5)))] [] [] 17 [hn, hn, hn, hn, hf c31, hn, hn, hn, hf c32] (by kernel_rfl) ?_
    exact jl (decide ((p1.length : Int) > 5)) h (conv_re [] (by kernel_rfl))
end Go.Proofs.Ytknlckjpgmjenaa
