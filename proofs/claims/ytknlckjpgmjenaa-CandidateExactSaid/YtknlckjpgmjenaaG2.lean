/- Printed by a program of mine (vmgen.py): Go functions, and what they come to. -/
import Derived.Test.YtknlckjpgmjenaaVr
import Derived.Test.YtknlckjpgmjenaaRows
import Derived.Test.YtknlckjpgmjenaaVw
import Derived.Test.YtknlckjpgmjenaaG1
namespace Go.Proofs.Ytknlckjpgmjenaa
open Vm
open IntKind (i64 u64 u32 u8)
set_option maxHeartbeats 10000000
set_option linter.unusedVariables false
set_option linter.unusedSimpArgs false
set_option linter.constructorNameAsVariable false
def ttl2 : List (Nat × TI) := [(3, ⟨.int .i64, 1, 8, [.int .i64 0], false⟩), (4, ⟨.bool, 1, 1, [.bool false], false⟩), (22, ⟨.slice 3, 1, 24, [.slice none 0 0], false⟩), (25, ⟨.ptr 86, 1, 8, [.pointer none], false⟩), (28, ⟨.slice 37, 1, 24, [.slice none 0 0], false⟩), (30, ⟨.slice 49, 1, 24, [.slice none 0 0], false⟩), (31, ⟨.int .i64, 1, 8, [.int .i64 0], false⟩), (35, ⟨.struct [(3, 0), (22, 1), (22, 2)], 3, 56, [.int .i64 0, .slice none 0 0, .slice none 0 0], false⟩), (37, ⟨.slice 44, 1, 24, [.slice none 0 0], false⟩), (38, ⟨.slice 84, 1, 24, [.slice none 0 0], false⟩), (40, ⟨.struct [(3, 0), (3, 1), (38, 2)], 3, 40, [.int .i64 0, .int .i64 0, .slice none 0 0], false⟩), (41, ⟨.slice 45, 1, 24, [.slice none 0 0], false⟩), (42, ⟨.slice 4, 1, 24, [.slice none 0 0], false⟩), (44, ⟨.struct [(40, 0), (41, 3), (42, 4)], 5, 88, [.int .i64 0, .int .i64 0, .slice none 0 0, .slice none 0 0, .slice none 0 0], false⟩), (45, ⟨.int .u64, 1, 8, [.int .u64 0], false⟩), (47, ⟨.struct [(3, 0), (3, 1)], 2, 16, [.int .i64 0, .int .i64 0], true⟩), (49, ⟨.struct [(47, 0), (47, 2), (3, 4), (3, 5)], 6, 48, [.int .i64 0, .int .i64 0, .int .i64 0, .int .i64 0, .int .i64 0, .int .i64 0], true⟩), (56, ⟨.slice 28, 1, 24, [.slice none 0 0], false⟩), (57, ⟨.slice 22, 1, 24, [.slice none 0 0], false⟩), (60, ⟨.arr 3 3, 3, 24, [.int .i64 0, .int .i64 0, .int .i64 0], true⟩), (84, ⟨.struct [(3, 0), (41, 1)], 2, 32, [.int .i64 0, .slice none 0 0], false⟩), (86, ⟨.struct [(22, 0), (3, 1), (45, 2)], 3, 40, [.slice none 0 0, .int .i64 0, .int .u64 0], false⟩), (129, ⟨.arr 6 3, 6, 48, [.int .i64 0, .int .i64 0, .int .i64 0, .int .i64 0, .int .i64 0, .int .i64 0], true⟩)]
theorem tt_ok2 : TTok Try.prog (Vm.look ttl2) := ttok_of ⟨⟨by kernel_rfl, by kernel_rfl, by kernel_rfl⟩, ⟨by kernel_rfl, by kernel_rfl, by kernel_rfl⟩, ⟨by kernel_rfl, by kernel_rfl, by kernel_rfl⟩, ⟨by kernel_rfl, by kernel_rfl, by kernel_rfl⟩, ⟨by kernel_rfl, by kernel_rfl, by kernel_rfl⟩, ⟨by kernel_rfl, by kernel_rfl, by kernel_rfl⟩, ⟨by kernel_rfl, by kernel_rfl, by kernel_rfl⟩, ⟨by kernel_rfl, by kernel_rfl, by kernel_rfl⟩, ⟨by kernel_rfl, by kernel_rfl, by kernel_rfl⟩, ⟨by kernel_rfl, by kernel_rfl, by kernel_rfl⟩, ⟨by kernel_rfl, by kernel_rfl, by kernel_rfl⟩, ⟨by kernel_rfl, by kernel_rfl, by kernel_rfl⟩, ⟨by kernel_rfl, by kernel_rfl, by kernel_rfl⟩, ⟨by kernel_rfl, by kernel_rfl, by kernel_rfl⟩, ⟨by kernel_rfl, by kernel_rfl, by kernel_rfl⟩, ⟨by kernel_rfl, by kernel_rfl, by kernel_rfl⟩, ⟨by kernel_rfl, by kernel_rfl, by kernel_rfl⟩, ⟨by kernel_rfl, by kernel_rfl, by kernel_rfl⟩, ⟨by kernel_rfl, by kernel_rfl, by kernel_rfl⟩, ⟨by kernel_rfl, by kernel_rfl, by kernel_rfl⟩, ⟨by kernel_rfl, by kernel_rfl, by kernel_rfl⟩, ⟨by kernel_rfl, by kernel_rfl, by kernel_rfl⟩, ⟨by kernel_rfl, by kernel_rfl, by kernel_rfl⟩, trivial⟩
theorem mo2 : Try.prog.follows .mixedOrders = true := by kernel_rfl
/-! recordlink/recordlinkref25.Check -/
noncomputable def rl_ref25_Check_k3 (x4 : Int) (x6 : Bool) : Option (Int ⊕ (Unit ⊕ Unit)) := if x6 = true then (some (.inr (.inr ()))) else (some (.inl (i64.wrap (x4 + 1))))
noncomputable def rl_ref25_Check_l2 (p0 : S_api_Weights) (x4 : Int) : Option (Int ⊕ (Unit ⊕ Unit)) := if (decide (x4 < ((p0.Agree.length : Nat) : Int))) = true then (if 0 ≤ x4 then (if x4 < ((p0.Agree.length : Nat) : Int) then ((rl_ref25_fits (p0.Agree.getD x4.toNat 0)).bind fun y10 => (if (!y10) = true then (rl_ref25_Check_k3 x4 true) else (if x4 < ((p0.Differ.length : Nat) : Int) then ((rl_ref25_fits (p0.Differ.getD x4.toNat 0)).bind fun y14 => (rl_ref25_Check_k3 x4 (!y14))) else none))) else none) else none) else (some (.inr (.inl ())))
noncomputable def rl_ref25_Check_a4 : Option Int := some 0
noncomputable def rl_ref25_Check_a5 : Option Int := some 40
noncomputable def rl_ref25_Check_k1 (p0 : S_api_Weights) (x1 : Bool) : Option Int := if x1 = true then (some 40) else (bindE (loop (fun v : Int => rl_ref25_Check_l2 p0 v) 0) (fun t => rl_ref25_Check_a4) (fun t => rl_ref25_Check_a5))
noncomputable def rl_ref25_Check (p0 : S_api_Weights) : Option Int := if (((p0.Agree.length : Nat) : Int) != ((p0.Differ.length : Nat) : Int)) = true then (rl_ref25_Check_k1 p0 true) else (if (decide (((p0.Agree.length : Nat) : Int) < 1)) = true then (rl_ref25_Check_k1 p0 true) else (if (decide (((p0.Agree.length : Nat) : Int) > 5)) = true then (rl_ref25_Check_k1 p0 true) else ((rl_ref25_fits p0.Prior).bind fun y20 => (rl_ref25_Check_k1 p0 (!y20)))))
set_option maxRecDepth 100000 in
theorem rl_ref25_Check_con (p0 : S_api_Weights) (r : Int) (h : rl_ref25_Check p0 = some r) : Con Try.prog 59 [.agg [ci64 p0.Prior, cl 1 Ri64 p0.Agree, cl 1 Ri64 p0.Differ]] [] (vi64 r) [] := by
 refine con_of tt_ok2 0 Try.func59 (by kernel_rfl) rfl (by kernel_rfl) (fun base X _ => AW.post ?_)
 unfold rl_ref25_Check at h
 refine AW.sg tt_ok2 [(1, .c (.ptr 0 3 0 0))] [0] [(0, .box 35 [ci64 p0.Prior, cl 1 Ri64 p0.Agree, cl 1 Ri64 p0.Differ])] 2 [] (by kernel_rfl) ?_
 refine AW.seq (AW.seq ?_)
 refine AW.join (ι := Bool) (fun v => ⟨[(1, .c (.ptr 0 3 0 0)), (28, vb v)], [(0, .box 35 [ci64 p0.Prior, cl 1 Ri64 p0.Agree, cl 1 Ri64 p0.Differ])], 1⟩) (fun v : Bool => rl_ref25_Check_k1 p0 v = some r) (fun x1 h => ?_) ?_
 ·
  unfold rl_ref25_Check_k1 at h
  refine AW.tn ?_
  refine AW.co h (by kernel_rfl) (fun c2 h => ?_) (fun c2 h => ?_)
  ·
   refine AW.sg tt_ok2 [(2, vi64 40)] [] [] 2 [] (by kernel_rfl) ?_
   refine AW.ret (AW.tr ?_)
   obtain rfl := some_inj h
   exact fn0 (.inr rfl) [] 0 (vi64 40) (by kernel_rfl)
  ·
   refine AW.skip (AW.tn (AW.seq ?_))
   refine AW.sg tt_ok2 [(3, vi64 0)] [] [] 2 [] (by kernel_rfl) ?_
   refine AW.block ?_
   refine AW.lpE h (fun v => ⟨[(1, .c (.ptr 0 3 0 0)), (3, vi64 v)], [(0, .box 35 [ci64 p0.Prior, cl 1 Ri64 p0.Agree, cl 1 Ri64 p0.Differ])], 1⟩) (fun t => (.exit 0, ⟨[], [], 0⟩)) (fun t => (.ret, ⟨[(2, vi64 40)], [], 0⟩)) (conv_re [(0, 0)] (by kernel_rfl)) (fun _ => tv) (fun _ => tv) ?_ (fun t h => ?_) (fun t h => ?_)
   ·
    clear h
    intro x4 o h
    unfold rl_ref25_Check_l2 at h
    refine AW.seq ?_
    refine AW.sg tt_ok2 [(33, vb (decide (x4 < ((p0.Agree.length : Nat) : Int))))] [] [] 6 [] (by kernel_rfl) ?_
    refine AW.co h (by kernel_rfl) (fun c5 h => ?_) (fun c5 h => ?_)
    ·
     refine AW.skip (AW.tn ?_)
     refine AW.seq (AW.block (AW.seq ?_))
     refine AW.join (ι := Bool) (fun v => ⟨[(1, .c (.ptr 0 3 0 0)), (3, vi64 x4), (51, vb v)], [(0, .box 35 [ci64 p0.Prior, cl 1 Ri64 p0.Agree, cl 1 Ri64 p0.Differ])], 1⟩) (fun v : Bool => rl_ref25_Check_k3 x4 v = some o) (fun x6 h => ?_) ?_
     ·
      unfold rl_ref25_Check_k3 at h
      refine AW.tn ?_
      refine AW.co h (by kernel_rfl) (fun c7 h => ?_) (fun c7 h => ?_)
      ·
       refine AW.sg tt_ok2 [(2, vi64 40)] [] [] 2 [] (by kernel_rfl) ?_
       refine AW.ret (AW.inBlock_ret (AW.tr ?_))
       exact lpo h rfl (conv_re [] (by kernel_rfl))
      ·
       refine AW.skip (AW.inBlock_normal (AW.tn ?_))
       refine AW.rg tt_ok2 [(3, vi64 (i64.wrap (x4 + 1)))] [] [] 4 [] (by kernel_rfl) ?_
       exact lpn h (conv_re [(0, 0)] (by kernel_rfl))
     ·
      obtain ⟨g8, g9, h⟩ := ifd h
      obtain ⟨y10, e11, h⟩ := bnd_some h
      rcases ifs h with ⟨c12, h⟩ | ⟨c12, h⟩
      ·
       refine AW.rg tt_ok2 [(51, vb true)] [] [] 21 [hn, hn, hn, hq g8 g9, hn, hk (rl_ref25_fits_con (p0.Agree.getD x4.toNat 0) y10 e11), ht c12] (by kernel_rfl) ?_
       exact jl true h (conv_re [(0, 0)] (by kernel_rfl))
      ·
       obtain ⟨g13, h⟩ := ifc h
       obtain ⟨y14, e15, h⟩ := bnd_some h
       refine AW.rg tt_ok2 [(51, vb (!y14))] [] [] 20 [hn, hn, hn, hq g8 g9, hn, hk (rl_ref25_fits_con (p0.Agree.getD x4.toNat 0) y10 e11), hf c12, hn, hn, hn, hn, hq g8 g13, hn, hk (rl_ref25_fits_con (p0.Differ.getD x4.toNat 0) y14 e15)] (by kernel_rfl) ?_
       exact jl (!y14) h (conv_re [(0, 0)] (by kernel_rfl))
    ·
     refine AW.exit (AW.thenQ_exit ?_)
     exact lpo h rfl (conv_re [] (by kernel_rfl))
   ·
    replace h : rl_ref25_Check_a4 = some r := h
    unfold rl_ref25_Check_a4 at h
    show (_ : Exit → St → Prop) (.exit 0) _
    refine AW.inBlock_hit (AW.tn ?_)
    refine AW.sg tt_ok2 [(2, vi64 0)] [] [] 1 [] (by kernel_rfl) ?_
    refine AW.ret ?_
    obtain rfl := some_inj h
    exact fn0 (.inr rfl) [] 0 (vi64 0) (by kernel_rfl)
   ·
    replace h : rl_ref25_Check_a5 = some r := h
    unfold rl_ref25_Check_a5 at h
    show (_ : Exit → St → Prop) (.ret) _
    refine AW.inBlock_ret (AW.tr ?_)
    obtain rfl := some_inj h
    exact fn0 (.inr rfl) [] 0 (vi64 40) (by kernel_rfl)
 ·
  rcases ifs h with ⟨c17, h⟩ | ⟨c17, h⟩
  ·
   refine AW.rg tt_ok2 [(28, vb true)] [] [] 27 [hn, hn, hn, hn, hn, hn, ht c17] (by kernel_rfl) ?_
   exact jl true h (conv_re [(0, 0)] (by kernel_rfl))
  ·
   rcases ifs h with ⟨c18, h⟩ | ⟨c18, h⟩
   ·
    refine AW.rg tt_ok2 [(28, vb true)] [] [] 27 [hn, hn, hn, hn, hn, hn, hf c17, hn, hn, hn, hn, ht c18] (by kernel_rfl) ?_
    exact jl true h (conv_re [(0, 0)] (by kernel_rfl))
   ·
    rcases ifs h with ⟨c19, h⟩ | ⟨c19, h⟩
    ·
     refine AW.rg tt_ok2 [(28, vb true)] [] [] 27 [hn, hn, hn, hn, hn, hn, hf c17, hn, hn, hn, hn, hf c18, hn, hn, hn, hn, hn, ht c19] (by kernel_rfl) ?_
     exact jl true h (conv_re [(0, 0)] (by kernel_rfl))
    ·
     obtain ⟨y20, e21, h⟩ := bnd_some h
     refine AW.rg tt_ok2 [(28, vb (!y20))] [] [] 26 [hn, hn, hn, hn, hn, hn, hf c17, hn, hn, hn, hn, hf c18, hn, hn, hn, hn, hn, hf c19, hn, hn, hn, hn, hk (rl_ref25_fits_con p0.Prior y20 e21)] (by kernel_rfl) ?_
     exact jl (!y20) h (conv_re [(0, 0)] (by kernel_rfl))
/-! recordlink/recordlinkref09.Copy -/
noncomputable def rl_ref09_Copy (p0 : S_api_Bits) : Option S_api_Bits := if 0 + p0.Words.length ≤ 1099511627776 then (some (⟨p0.Length, (([] : List Int) ++ p0.Words)⟩ : S_api_Bits)) else none
set_option maxRecDepth 100000 in
theorem rl_ref09_Copy_con (p0 : S_api_Bits) (r : S_api_Bits) (h : rl_ref09_Copy p0 = some r) : Con Try.prog 119 [.agg [ci64 p0.Length, cl 1 Ru64 p0.Words]] [] (.agg [ci64 r.Length, .ref 0 1 0 r.Words.length]) [(0, .row 45 false 1 r.Words.length (Ru64 r.Words))] := by
 refine con_of tt_ok2 0 Try.func119 (by kernel_rfl) rfl (by kernel_rfl) (fun base X _ => AW.post ?_)
 unfold rl_ref09_Copy at h
 refine AW.sg tt_ok2 [(2, .c (.ptr 1 2 0 0)), (1, .c (.ptr 0 2 0 0))] [0, 1] [(1, .box 84 [ci64 0, .t (.v (.slice none 0 0))]), (0, .box 84 [ci64 p0.Length, cl 1 Ru64 p0.Words])] 2 [] (by kernel_rfl) ?_
 obtain ⟨g1, h⟩ := ifc h
 refine AW.sd tt_ok2 mo2 [[], [], [], [], [6], [], [1]] [] [(1, .box 84 [ci64 p0.Length, .ref 6 1 0 ((([] : List Int) ++ p0.Words).length)]), (6, .row 45 false 1 (([] : List Int) ++ p0.Words).length (Ru64 (([] : List Int) ++ p0.Words)))] 9 [hn, hn, hn, hn, hr ((([] : List Int) ++ p0.Words).length) (Ru64 (([] : List Int) ++ p0.Words)) (p := (True) ∧ (True) ∧ ((0 + p0.Words.length ≤ 1099511627776) ∧ ((8 : Nat) ≤ 128)) ∧ (0 + p0.Words.length = (([] : List Int) ++ p0.Words).length ∧ ∀ i, i < (([] : List Int) ++ p0.Words).length → ∀ j, j < 1 → TLe ((appRow 0 (fun _ _ => .v undef) (Ru64 p0.Words)) i j) (Ru64 (([] : List Int) ++ p0.Words) i j))) (⟨tv, tv, ⟨g1, (by decide)⟩, rowT (app_row rfl rfl row_nil row_rfl)⟩)] (by kernel_rfl) ?_
 refine AW.ret ?_
 obtain rfl := some_inj h
 exact fn0 (.inr rfl) [(0, 6)] 1 (.agg [ci64 p0.Length, .ref 6 1 0 ((([] : List Int) ++ p0.Words).length)]) (by kernel_rfl)
/-! recordlink/recordlinkref09.combine -/
noncomputable def rl_ref09_combine_k3 (x7 : Int) (x11 : List Int) : Option ((Int × (List Int)) ⊕ (List Int)) := some (.inl (i64.wrap (x7 + 1), x11))
noncomputable def rl_ref09_combine_l2 (p1 : S_api_Bits) (p2 : Int) (x7 : Int) (x8 : List Int) : Option ((Int × (List Int)) ⊕ (List Int)) := if (decide (x7 < (x8.length : Int))) = true then (if (p2 == 0) = true then (if 0 ≤ x7 then (if x7 < (x8.length : Int) then (if x7 < ((p1.Words.length : Nat) : Int) then (rl_ref09_combine_k3 x7 (x8.set (0 + x7.toNat) (iand .u64 (x8.getD (0 + x7.toNat) 0) (p1.Words.getD x7.toNat 0)))) else none) else none) else none) else (if (p2 == 1) = true then (if 0 ≤ x7 then (if x7 < (x8.length : Int) then (if x7 < ((p1.Words.length : Nat) : Int) then (rl_ref09_combine_k3 x7 (x8.set (0 + x7.toNat) (ior .u64 (x8.getD (0 + x7.toNat) 0) (p1.Words.getD x7.toNat 0)))) else none) else none) else none) else (if 0 ≤ x7 then (if x7 < (x8.length : Int) then (if x7 < ((p1.Words.length : Nat) : Int) then (rl_ref09_combine_k3 x7 (x8.set (0 + x7.toNat) (ixor .u64 (x8.getD (0 + x7.toNat) 0) (p1.Words.getD x7.toNat 0)))) else none) else none) else none))) else (some (.inr x8))
noncomputable def rl_ref09_combine_k1 (p0 : S_api_Bits) (p1 : S_api_Bits) (p2 : Int) (x1 : Bool) : Option (S_api_Bits × Int) := if x1 = true then (some ((⟨0, ([] : List Int)⟩ : S_api_Bits), 8)) else ((rl_ref09_Copy p0).bind fun y3 => ((loop (fun v : Int × (List Int) => rl_ref09_combine_l2 p1 p2 v.1 v.2) (0, y3.Words)).bind fun x23 => (some ((⟨y3.Length, x23⟩ : S_api_Bits), 0))))
noncomputable def rl_ref09_combine (p0 : S_api_Bits) (p1 : S_api_Bits) (p2 : Int) : Option (S_api_Bits × Int) := (rl_ref09_Valid p0).bind fun y25 => (if (!y25) = true then (rl_ref09_combine_k1 p0 p1 p2 true) else ((rl_ref09_Valid p1).bind fun y28 => (if (!y28) = true then (rl_ref09_combine_k1 p0 p1 p2 true) else (rl_ref09_combine_k1 p0 p1 p2 (p0.Length != p1.Length)))))
set_option maxRecDepth 100000 in
theorem rl_ref09_combine_con (p0 : S_api_Bits) (p1 : S_api_Bits) (p2 : Int) (r : S_api_Bits × Int) (h : rl_ref09_combine p0 p1 p2 = some r) : Con Try.prog 112 [.agg [ci64 p0.Length, cl 1 Ru64 p0.Words], .agg [ci64 p1.Length, cl 1 Ru64 p1.Words], vi64 p2] [] (.tup [.agg [ci64 r.1.Length, .ref 0 1 0 r.1.Words.length], vi64 r.2]) [(0, .row 45 false 1 r.1.Words.length (Ru64 r.1.Words))] := by
 refine con_of tt_ok2 0 Try.func112 (by kernel_rfl) rfl (by kernel_rfl) (fun base X _ => AW.post ?_)
 unfold rl_ref09_combine at h
 refine AW.sg tt_ok2 [(6, .c (.ptr 2 2 0 0)), (4, .c (.ptr 1 2 0 0)), (3, .c (.ptr 0 2 0 0))] [0, 1, 2] [(2, .box 84 [ci64 0, .t (.v (.slice none 0 0))]), (1, .box 84 [ci64 p1.Length, cl 1 Ru64 p1.Words]), (0, .box 84 [ci64 p0.Length, cl 1 Ru64 p0.Words])] 4 [] (by kernel_rfl) ?_
 refine AW.seq (AW.seq ?_)
 refine AW.join (ι := Bool) (fun v => ⟨[(2, vi64 p2), (3, .c (.ptr 0 2 0 0)), (4, .c (.ptr 1 2 0 0)), (6, .c (.ptr 2 2 0 0)), (24, vb v)], [(0, .box 84 [ci64 p0.Length, cl 1 Ru64 p0.Words]), (1, .box 84 [ci64 p1.Length, cl 1 Ru64 p1.Words]), (2, .box 84 [ci64 0, .t (.v (.slice none 0 0))])], 3⟩) (fun v : Bool => rl_ref09_combine_k1 p0 p1 p2 v = some r) (fun x1 h => ?_) ?_
 ·
  unfold rl_ref09_combine_k1 at h
  refine AW.tn ?_
  refine AW.co h (by kernel_rfl) (fun c2 h => ?_) (fun c2 h => ?_)
  ·
   refine AW.sg tt_ok2 [(7, vi64 8)] [2] [(2, .box 84 [ci64 0, .t (.v (.slice none 0 0))])] 6 [] (by kernel_rfl) ?_
   refine AW.ret (AW.tr ?_)
   obtain rfl := some_inj h
   exact fnR (.inr rfl) [(0, 6)] 1 (.tup [.agg [ci64 0, .ref 6 1 0 (([] : List Int).length)], vi64 8]) (conv_adoptB (id := 2) (ty0 := 84) (cs := [ci64 0, .t (.v (.slice none 0 0))]) 1 (ty := 45) (sz := 1) (n := ([] : List Int).length) (f := Ru64 ([] : List Int)) (by kernel_rfl) (by kernel_rfl) rfl) (by kernel_rfl)
  ·
   refine AW.skip (AW.tn ?_)
   obtain ⟨y3, e4, h⟩ := bnd_some h
   refine AW.sg tt_ok2 [(8, .c (.ptr 5 2 0 0))] [4, 5] [(5, .box 84 [ci64 y3.Length, .ref 4 1 0 y3.Words.length]), (4, .row 45 false 1 y3.Words.length (Ru64 y3.Words))] 7 [hn, hm [] [] 1 (rl_ref09_Copy_con p0 y3 e4) ⟨rowL_flat Vu64 _ _ _, tv⟩] (by kernel_rfl) ?_
   refine AW.seq ?_
   refine AW.sg tt_ok2 [(9, vi64 0)] [] [] 8 [] (by kernel_rfl) ?_
   refine AW.block ?_
   obtain ⟨x23, l24, h⟩ := bnd_some h
   refine AW.lp l24 (fun v => ⟨[(2, vi64 p2), (4, .c (.ptr 0 2 0 0)), (6, .c (.ptr 1 2 0 0)), (8, .c (.ptr 2 2 0 0)), (9, vi64 v.1)], [(0, .box 84 [ci64 p1.Length, cl 1 Ru64 p1.Words]), (1, .box 84 [ci64 0, .t (.v (.slice none 0 0))]), (2, .box 84 [ci64 y3.Length, .ref 3 1 0 v.2.length]), (3, .row 45 false 1 v.2.length (Ru64 v.2))], 4⟩) (fun t : List Int => (.exit 0, ⟨[(6, .c (.ptr 0 2 0 0)), (8, .c (.ptr 1 2 0 0))], [(0, .box 84 [ci64 0, .t (.v (.slice none 0 0))]), (1, .box 84 [ci64 y3.Length, .ref 2 1 0 t.length]), (2, .row 45 false 1 t.length (Ru64 t))], 3⟩)) (conv_re [(0, 1), (1, 2), (2, 5), (3, 4)] (by kernel_rfl)) (fun _ => tv) ?_ ?_
   ·
    clear l24 h
    intro v o h
    obtain ⟨x7, x8⟩ := v
    replace h : rl_ref09_combine_l2 p1 p2 x7 x8 = some o := h
    unfold rl_ref09_combine_l2 at h
    refine AW.seq ?_
    refine AW.sg tt_ok2 [(32, vb (decide (x7 < (x8.length : Int))))] [] [] 9 [] (by kernel_rfl) ?_
    refine AW.co h (by kernel_rfl) (fun c10 h => ?_) (fun c10 h => ?_)
    ·
     refine AW.skip (AW.tn (AW.seq ?_))
     refine AW.join (ι := List Int) (fun v => ⟨[(2, vi64 p2), (4, .c (.ptr 0 2 0 0)), (6, .c (.ptr 1 2 0 0)), (8, .c (.ptr 2 2 0 0)), (9, vi64 x7)], [(0, .box 84 [ci64 p1.Length, cl 1 Ru64 p1.Words]), (1, .box 84 [ci64 0, .t (.v (.slice none 0 0))]), (2, .box 84 [ci64 y3.Length, .ref 3 1 0 v.length]), (3, .row 45 false 1 v.length (Ru64 v))], 4⟩) (fun v : List Int => rl_ref09_combine_k3 x7 v = some o) (fun x11 h => ?_) ?_
     ·
      unfold rl_ref09_combine_k3 at h
      refine AW.tn ?_
      refine AW.rg tt_ok2 [(9, vi64 (i64.wrap (x7 + 1)))] [] [] 7 [] (by kernel_rfl) ?_
      exact lpn h (conv_re [(0, 0), (1, 1), (2, 2), (3, 3)] (by kernel_rfl))
     ·
      refine AW.block ?_
      refine AW.sg tt_ok2 [(35, vi64 p2)] [] [] 10 [] (by kernel_rfl) ?_
      refine AW.block ?_
      refine AW.sg tt_ok2 [(48, vb (p2 == 0))] [] [] 12 [] (by kernel_rfl) ?_
      refine AW.co h (by kernel_rfl) (fun c12 h => ?_) (fun c12 h => ?_)
      ·
       obtain ⟨g13, g14, h⟩ := ifd h
       obtain ⟨g15, h⟩ := ifc h
       refine AW.rd tt_ok2 mo2 [[], [], [], [], [], [], [], [], [], [], [], [], [3]] [] [(3, .row 45 false 1 x8.length (Ru64 (x8.set (0 + x7.toNat) (iand .u64 (x8.getD (0 + x7.toNat) 0) (p1.Words.getD x7.toNat 0)))))] 25 [hn, hn, hn, hq g13 g14, ho (p := (0 + x7.toNat) < x8.length) (by have h1 : 0 ≤ x7 := g13; have h2 : x7 < (x8.length : Int) := g14; omega), hn, hn, hn, hq g13 g15, hn, hn, hq g13 g14, hset 0 Eu64 x8 (0 + x7.toNat) (iand .u64 (x8.getD (0 + x7.toNat) 0) (p1.Words.getD x7.toNat 0)) (n := x8.length) (by have h1 : 0 ≤ x7 := g13; have h2 : x7 < (x8.length : Int) := g14; omega) rfl] (by kernel_rfl) ?_
       refine AW.inBlock_normal (AW.inBlock_normal ?_)
       exact jl (x8.set (0 + x7.toNat) (iand .u64 (x8.getD (0 + x7.toNat) 0) (p1.Words.getD x7.toNat 0))) h (Conv.trans (conv_re (S' := ⟨[(2, vi64 p2), (4, .c (.ptr 0 2 0 0)), (6, .c (.ptr 1 2 0 0)), (8, .c (.ptr 2 2 0 0)), (9, vi64 x7)], [(3, .row 45 false 1 x8.length (Ru64 (x8.set (0 + x7.toNat) (iand .u64 (x8.getD (0 + x7.toNat) 0) (p1.Words.getD x7.toNat 0))))), (0, .box 84 [ci64 p1.Length, cl 1 Ru64 p1.Words]), (1, .box 84 [ci64 0, .t (.v (.slice none 0 0))]), (2, .box 84 [ci64 y3.Length, .ref 3 1 0 x8.length])], 25⟩) [(3, 3), (0, 0), (1, 1), (2, 2)] (by kernel_rfl)) (Conv.trans (conv_len (S' := ⟨[(2, vi64 p2), (4, .c (.ptr 0 2 0 0)), (6, .c (.ptr 1 2 0 0)), (8, .c (.ptr 2 2 0 0)), (9, vi64 x7)], [(3, .row 45 false 1 (x8.set (0 + x7.toNat) (iand .u64 (x8.getD (0 + x7.toNat) 0) (p1.Words.getD x7.toNat 0))).length (Ru64 (x8.set (0 + x7.toNat) (iand .u64 (x8.getD (0 + x7.toNat) 0) (p1.Words.getD x7.toNat 0))))), (0, .box 84 [ci64 p1.Length, cl 1 Ru64 p1.Words]), (1, .box 84 [ci64 0, .t (.v (.slice none 0 0))]), (2, .box 84 [ci64 y3.Length, .ref 3 1 0 ((x8.set (0 + x7.toNat) (iand .u64 (x8.getD (0 + x7.toNat) 0) (p1.Words.getD x7.toNat 0))).length)])], 25⟩) (by simp only [List.length_set])) (conv_re [(0, 0), (1, 1), (2, 2), (3, 3)] (by kernel_rfl))))
      ·
       refine AW.sg tt_ok2 [(62, vb (p2 == 1))] [] [] 14 [] (by kernel_rfl) ?_
       refine AW.co h (by kernel_rfl) (fun c16 h => ?_) (fun c16 h => ?_)
       ·
        obtain ⟨g17, g18, h⟩ := ifd h
        obtain ⟨g19, h⟩ := ifc h
        refine AW.rd tt_ok2 mo2 [[], [], [], [], [], [], [], [], [], [], [], [], [3]] [] [(3, .row 45 false 1 x8.length (Ru64 (x8.set (0 + x7.toNat) (ior .u64 (x8.getD (0 + x7.toNat) 0) (p1.Words.getD x7.toNat 0)))))] 27 [hn, hn, hn, hq g17 g18, ho (p := (0 + x7.toNat) < x8.length) (by have h1 : 0 ≤ x7 := g17; have h2 : x7 < (x8.length : Int) := g18; omega), hn, hn, hn, hq g17 g19, hn, hn, hq g17 g18, hset 0 Eu64 x8 (0 + x7.toNat) (ior .u64 (x8.getD (0 + x7.toNat) 0) (p1.Words.getD x7.toNat 0)) (n := x8.length) (by have h1 : 0 ≤ x7 := g17; have h2 : x7 < (x8.length : Int) := g18; omega) rfl] (by kernel_rfl) ?_
        refine AW.inBlock_normal (AW.inBlock_normal ?_)
        exact jl (x8.set (0 + x7.toNat) (ior .u64 (x8.getD (0 + x7.toNat) 0) (p1.Words.getD x7.toNat 0))) h (Conv.trans (conv_re (S' := ⟨[(2, vi64 p2), (4, .c (.ptr 0 2 0 0)), (6, .c (.ptr 1 2 0 0)), (8, .c (.ptr 2 2 0 0)), (9, vi64 x7)], [(3, .row 45 false 1 x8.length (Ru64 (x8.set (0 + x7.toNat) (ior .u64 (x8.getD (0 + x7.toNat) 0) (p1.Words.getD x7.toNat 0))))), (0, .box 84 [ci64 p1.Length, cl 1 Ru64 p1.Words]), (1, .box 84 [ci64 0, .t (.v (.slice none 0 0))]), (2, .box 84 [ci64 y3.Length, .ref 3 1 0 x8.length])], 27⟩) [(3, 3), (0, 0), (1, 1), (2, 2)] (by kernel_rfl)) (Conv.trans (conv_len (S' := ⟨[(2, vi64 p2), (4, .c (.ptr 0 2 0 0)), (6, .c (.ptr 1 2 0 0)), (8, .c (.ptr 2 2 0 0)), (9, vi64 x7)], [(3, .row 45 false 1 (x8.set (0 + x7.toNat) (ior .u64 (x8.getD (0 + x7.toNat) 0) (p1.Words.getD x7.toNat 0))).length (Ru64 (x8.set (0 + x7.toNat) (ior .u64 (x8.getD (0 + x7.toNat) 0) (p1.Words.getD x7.toNat 0))))), (0, .box 84 [ci64 p1.Length, cl 1 Ru64 p1.Words]), (1, .box 84 [ci64 0, .t (.v (.slice none 0 0))]), (2, .box 84 [ci64 y3.Length, .ref 3 1 0 ((x8.set (0 + x7.toNat) (ior .u64 (x8.getD (0 + x7.toNat) 0) (p1.Words.getD x7.toNat 0))).length)])], 27⟩) (by simp only [List.length_set])) (conv_re [(0, 0), (1, 1), (2, 2), (3, 3)] (by kernel_rfl))))
       ·
        obtain ⟨g20, g21, h⟩ := ifd h
        obtain ⟨g22, h⟩ := ifc h
        refine AW.rd tt_ok2 mo2 [[], [], [], [], [], [], [], [], [], [], [], [], [3]] [] [(3, .row 45 false 1 x8.length (Ru64 (x8.set (0 + x7.toNat) (ixor .u64 (x8.getD (0 + x7.toNat) 0) (p1.Words.getD x7.toNat 0)))))] 27 [hn, hn, hn, hq g20 g21, ho (p := (0 + x7.toNat) < x8.length) (by have h1 : 0 ≤ x7 := g20; have h2 : x7 < (x8.length : Int) := g21; omega), hn, hn, hn, hq g20 g22, hn, hn, hq g20 g21, hset 0 Eu64 x8 (0 + x7.toNat) (ixor .u64 (x8.getD (0 + x7.toNat) 0) (p1.Words.getD x7.toNat 0)) (n := x8.length) (by have h1 : 0 ≤ x7 := g20; have h2 : x7 < (x8.length : Int) := g21; omega) rfl] (by kernel_rfl) ?_
        refine AW.inBlock_normal (AW.inBlock_normal ?_)
        exact jl (x8.set (0 + x7.toNat) (ixor .u64 (x8.getD (0 + x7.toNat) 0) (p1.Words.getD x7.toNat 0))) h (Conv.trans (conv_re (S' := ⟨[(2, vi64 p2), (4, .c (.ptr 0 2 0 0)), (6, .c (.ptr 1 2 0 0)), (8, .c (.ptr 2 2 0 0)), (9, vi64 x7)], [(3, .row 45 false 1 x8.length (Ru64 (x8.set (0 + x7.toNat) (ixor .u64 (x8.getD (0 + x7.toNat) 0) (p1.Words.getD x7.toNat 0))))), (0, .box 84 [ci64 p1.Length, cl 1 Ru64 p1.Words]), (1, .box 84 [ci64 0, .t (.v (.slice none 0 0))]), (2, .box 84 [ci64 y3.Length, .ref 3 1 0 x8.length])], 27⟩) [(3, 3), (0, 0), (1, 1), (2, 2)] (by kernel_rfl)) (Conv.trans (conv_len (S' := ⟨[(2, vi64 p2), (4, .c (.ptr 0 2 0 0)), (6, .c (.ptr 1 2 0 0)), (8, .c (.ptr 2 2 0 0)), (9, vi64 x7)], [(3, .row 45 false 1 (x8.set (0 + x7.toNat) (ixor .u64 (x8.getD (0 + x7.toNat) 0) (p1.Words.getD x7.toNat 0))).length (Ru64 (x8.set (0 + x7.toNat) (ixor .u64 (x8.getD (0 + x7.toNat) 0) (p1.Words.getD x7.toNat 0))))), (0, .box 84 [ci64 p1.Length, cl 1 Ru64 p1.Words]), (1, .box 84 [ci64 0, .t (.v (.slice none 0 0))]), (2, .box 84 [ci64 y3.Length, .ref 3 1 0 ((x8.set (0 + x7.toNat) (ixor .u64 (x8.getD (0 + x7.toNat) 0) (p1.Words.getD x7.toNat 0))).length)])], 27⟩) (by simp only [List.length_set])) (conv_re [(0, 0), (1, 1), (2, 2), (3, 3)] (by kernel_rfl))))
    ·
     refine AW.exit (AW.thenQ_exit ?_)
     exact lpo h rfl (conv_re [(0, 1), (1, 2), (2, 3)] (by kernel_rfl))
   ·
    show (_ : Exit → St → Prop) (.exit 0) _
    refine AW.inBlock_hit (AW.tn ?_)
    refine AW.sg tt_ok2 [(7, vi64 0)] [0] [(0, .box 84 [ci64 y3.Length, .ref 2 1 0 x23.length])] 6 [] (by kernel_rfl) ?_
    refine AW.ret ?_
    obtain rfl := some_inj h
    exact fn0 (.inr rfl) [(0, 2)] 1 (.tup [.agg [ci64 y3.Length, .ref 2 1 0 x23.length], vi64 0]) (by kernel_rfl)
 ·
  obtain ⟨y25, e26, h⟩ := bnd_some h
  rcases ifs h with ⟨c27, h⟩ | ⟨c27, h⟩
  ·
   refine AW.rg tt_ok2 [(24, vb true)] [] [] 18 [hn, hk (rl_ref09_Valid_con p0 y25 e26), ht c27] (by kernel_rfl) ?_
   exact jl true h (conv_re [(0, 0), (1, 1), (2, 2)] (by kernel_rfl))
  ·
   obtain ⟨y28, e29, h⟩ := bnd_some h
   rcases ifs h with ⟨c30, h⟩ | ⟨c30, h⟩
   ·
    refine AW.rg tt_ok2 [(24, vb true)] [] [] 17 [hn, hk (rl_ref09_Valid_con p0 y25 e26), hf c27, hn, hn, hk (rl_ref09_Valid_con p1 y28 e29), ht c30] (by kernel_rfl) ?_
    exact jl true h (conv_re [(0, 0), (1, 1), (2, 2)] (by kernel_rfl))
   ·
    refine AW.rg tt_ok2 [(24, vb (p0.Length != p1.Length))] [] [] 17 [hn, hk (rl_ref09_Valid_con p0 y25 e26), hf c27, hn, hn, hk (rl_ref09_Valid_con p1 y28 e29), hf c30] (by kernel_rfl) ?_
    exact jl (p0.Length != p1.Length) h (conv_re [(0, 0), (1, 1), (2, 2)] (by kernel_rfl))
/-! recordlink/recordlinkref09.And -/
noncomputable def rl_ref09_And (p0 : S_api_Bits) (p1 : S_api_Bits) : Option (S_api_Bits × Int) := bind2 (rl_ref09_combine p0 p1 0) fun y1 y2 => (some (y1, y2))
set_option maxRecDepth 100000 in
theorem rl_ref09_And_con (p0 : S_api_Bits) (p1 : S_api_Bits) (r : S_api_Bits × Int) (h : rl_ref09_And p0 p1 = some r) : Con Try.prog 97 [.agg [ci64 p0.Length, cl 1 Ru64 p0.Words], .agg [ci64 p1.Length, cl 1 Ru64 p1.Words]] [] (.tup [.agg [ci64 r.1.Length, .ref 0 1 0 r.1.Words.length], vi64 r.2]) [(0, .row 45 false 1 r.1.Words.length (Ru64 r.1.Words))] := by
 refine con_of tt_ok2 0 Try.func97 (by kernel_rfl) rfl (by kernel_rfl) (fun base X _ => AW.post ?_)
 unfold rl_ref09_And at h
 refine AW.sg tt_ok2 [(4, .c (.ptr 2 2 0 0)), (3, .c (.ptr 1 2 0 0)), (2, .c (.ptr 0 2 0 0))] [0, 1, 2] [(2, .box 84 [ci64 0, .t (.v (.slice none 0 0))]), (1, .box 84 [ci64 p1.Length, cl 1 Ru64 p1.Words]), (0, .box 84 [ci64 p0.Length, cl 1 Ru64 p0.Words])] 4 [] (by kernel_rfl) ?_
 obtain ⟨y1, y2, e3, h⟩ := bind2_some h
 refine AW.sg tt_ok2 [(5, vi64 y2)] [2, 6] [(2, .box 84 [ci64 y1.Length, .ref 6 1 0 y1.Words.length]), (6, .row 45 false 1 y1.Words.length (Ru64 y1.Words))] 11 [hn, hn, hm [] [] 1 (rl_ref09_combine_con p0 p1 0 (y1, y2) e3) ⟨rowL_flat Vu64 _ _ _, tv⟩] (by kernel_rfl) ?_
 refine AW.ret ?_
 obtain rfl := some_inj h
 exact fn0 (.inr rfl) [(0, 6)] 1 (.tup [.agg [ci64 y1.Length, .ref 6 1 0 y1.Words.length], vi64 y2]) (by kernel_rfl)
/-! recordlink/recordlinkref09.Has -/
noncomputable def rl_ref09_Has_k1 (x1 : Bool) : Option Bool := some x1
noncomputable def rl_ref09_Has (p0 : S_api_Bits) (p1 : Int) : Option Bool := (rl_ref09_Valid p0).bind fun y2 => (if y2 = true then (if (decide (p1 ≥ 0)) = true then (if (decide (p1 < p0.Length)) = true then (if 0 ≤ (i64.wrap (p1.tdiv 64)) then (if (i64.wrap (p1.tdiv 64)) < ((p0.Words.length : Nat) : Int) then (if 0 ≤ (p1.tmod 64) then (rl_ref09_Has_k1 ((iand .u64 (ishr .u64 (p0.Words.getD ((i64.wrap (p1.tdiv 64)).toNat) 0) (p1.tmod 64)) 1) == 1)) else none) else none) else none) else (rl_ref09_Has_k1 false)) else (rl_ref09_Has_k1 false)) else (rl_ref09_Has_k1 false))
set_option maxRecDepth 100000 in
theorem rl_ref09_Has_con (p0 : S_api_Bits) (p1 : Int) (r : Bool) (h : rl_ref09_Has p0 p1 = some r) : Con Try.prog 113 [.agg [ci64 p0.Length, cl 1 Ru64 p0.Words], vi64 p1] [] (vb r) [] := by
 refine con_of tt_ok2 0 Try.func113 (by kernel_rfl) rfl (by kernel_rfl) (fun base X _ => AW.post ?_)
 unfold rl_ref09_Has at h
 refine AW.sg tt_ok2 [(2, .c (.ptr 0 2 0 0))] [0] [(0, .box 84 [ci64 p0.Length, cl 1 Ru64 p0.Words])] 2 [] (by kernel_rfl) ?_
 refine AW.seq ?_
 refine AW.join (ι := Bool) (fun v => ⟨[(4, vb v)], [], 0⟩) (fun v : Bool => rl_ref09_Has_k1 v = some r) (fun x1 h => ?_) ?_
 ·
  unfold rl_ref09_Has_k1 at h
  refine AW.tn (AW.ret ?_)
  obtain rfl := some_inj h
  exact fn0 (.inr rfl) [] 0 (vb x1) (by kernel_rfl)
 ·
  obtain ⟨y2, e3, h⟩ := bnd_some h
  rcases ifs h with ⟨c4, hs⟩ | ⟨c4, hs⟩
  ·clear h; subst c4; have h := hs; clear hs
   rcases ifs h with ⟨c5, h⟩ | ⟨c5, h⟩
   ·
    rcases ifs h with ⟨c6, h⟩ | ⟨c6, h⟩
    ·
     obtain ⟨g7, g8, h⟩ := ifd h
     obtain ⟨g9, h⟩ := ifc h
     refine AW.rg tt_ok2 [(4, vb ((iand .u64 (ishr .u64 (p0.Words.getD ((i64.wrap (p1.tdiv 64)).toNat) 0) (p1.tmod 64)) 1) == 1))] [] [] 27 [hn, hk (rl_ref09_Valid_con p0 true e3), hn, hn, ht c5, hn, hn, hn, hn, hn, ht c6, hn, hn, hn, hn, hn, ho (p := (64 : Int) ≠ 0) (by decide), hq g7 g8, hn, hn, ho (p := (64 : Int) ≠ 0) (by decide), ho g9] (by kernel_rfl) ?_
     exact jl ((iand .u64 (ishr .u64 (p0.Words.getD ((i64.wrap (p1.tdiv 64)).toNat) 0) (p1.tmod 64)) 1) == 1) h (conv_re [] (by kernel_rfl))
    ·
     refine AW.rg tt_ok2 [(4, vb false)] [] [] 27 [hn, hk (rl_ref09_Valid_con p0 true e3), hn, hn, ht c5, hn, hn, hn, hn, hn, hf c6] (by kernel_rfl) ?_
     exact jl false h (conv_re [] (by kernel_rfl))
   ·
    refine AW.rg tt_ok2 [(4, vb false)] [] [] 27 [hn, hk (rl_ref09_Valid_con p0 true e3), hn, hn, hf c5] (by kernel_rfl) ?_
    exact jl false h (conv_re [] (by kernel_rfl))
  ·clear h; subst c4; have h := hs; clear hs
   refine AW.rg tt_ok2 [(4, vb false)] [] [] 27 [hn, hk (rl_ref09_Valid_con p0 false e3)] (by kernel_rfl) ?_
   exact jl false h (conv_re [] (by kernel_rfl))
/-! recordlink/recordlinkref09.Count -/
noncomputable def rl_ref09_Count_k3 (x4 : Int) (x8 : Int) : Option ((Int × Int) ⊕ Int) := some (.inl (x8, i64.wrap (x4 + 1)))
noncomputable def rl_ref09_Count_k2 (p0 : S_api_Bits) (x3 : Int) (x4 : Int) (x6 : Bool) : Option ((Int × Int) ⊕ Int) := if x6 = true then ((rl_ref09_Has p0 x4).bind fun y9 => (if y9 = true then (rl_ref09_Count_k3 x4 (i64.wrap (x3 + 1))) else (rl_ref09_Count_k3 x4 x3))) else (some (.inr x3))
noncomputable def rl_ref09_Count_l1 (p0 : S_api_Bits) (x3 : Int) (x4 : Int) : Option ((Int × Int) ⊕ Int) := (rl_ref09_Valid p0).bind fun y12 => (if y12 = true then (rl_ref09_Count_k2 p0 x3 x4 (decide (x4 < p0.Length))) else (rl_ref09_Count_k2 p0 x3 x4 false))
noncomputable def rl_ref09_Count (p0 : S_api_Bits) : Option Int := (loop (fun v : Int × Int => rl_ref09_Count_l1 p0 v.1 v.2) (0, 0)).bind fun x15 => (some x15)
set_option maxRecDepth 100000 in
theorem rl_ref09_Count_con (p0 : S_api_Bits) (r : Int) (h : rl_ref09_Count p0 = some r) : Con Try.prog 98 [.agg [ci64 p0.Length, cl 1 Ru64 p0.Words]] [] (vi64 r) [] := by
 refine con_of tt_ok2 0 Try.func98 (by kernel_rfl) rfl (by kernel_rfl) (fun base X _ => AW.post ?_)
 unfold rl_ref09_Count at h
 refine AW.sg tt_ok2 [(1, .c (.ptr 0 2 0 0))] [0] [(0, .box 84 [ci64 p0.Length, cl 1 Ru64 p0.Words])] 2 [] (by kernel_rfl) ?_
 refine AW.sg tt_ok2 [(3, vi64 0)] [] [] 3 [] (by kernel_rfl) ?_
 refine AW.seq ?_
 refine AW.sg tt_ok2 [(4, vi64 0)] [] [] 4 [] (by kernel_rfl) ?_
 refine AW.block ?_
 obtain ⟨x15, l16, h⟩ := bnd_some h
 refine AW.lp l16 (fun v => ⟨[(1, .c (.ptr 0 2 0 0)), (3, vi64 v.1), (4, vi64 v.2)], [(0, .box 84 [ci64 p0.Length, cl 1 Ru64 p0.Words])], 1⟩) (fun t : Int => (.exit 0, ⟨[(3, vi64 t)], [], 0⟩)) (conv_re [(0, 0)] (by kernel_rfl)) (fun _ => tv) ?_ ?_
 ·
  clear l16 h
  intro v o h
  obtain ⟨x3, x4⟩ := v
  replace h : rl_ref09_Count_l1 p0 x3 x4 = some o := h
  unfold rl_ref09_Count_l1 at h
  refine AW.seq (AW.seq ?_)
  refine AW.join (ι := Bool) (fun v => ⟨[(1, .c (.ptr 0 2 0 0)), (3, vi64 x3), (4, vi64 x4), (12, vb v)], [(0, .box 84 [ci64 p0.Length, cl 1 Ru64 p0.Words])], 1⟩) (fun v : Bool => rl_ref09_Count_k2 p0 x3 x4 v = some o) (fun x6 h => ?_) ?_
  ·
   unfold rl_ref09_Count_k2 at h
   refine AW.tn ?_
   refine AW.co h (by kernel_rfl) (fun c7 h => ?_) (fun c7 h => ?_)
   ·
    refine AW.skip (AW.tn (AW.seq ?_))
    refine AW.join (ι := Int) (fun v => ⟨[(1, .c (.ptr 0 2 0 0)), (3, vi64 v), (4, vi64 x4)], [(0, .box 84 [ci64 p0.Length, cl 1 Ru64 p0.Words])], 1⟩) (fun v : Int => rl_ref09_Count_k3 x4 v = some o) (fun x8 h => ?_) ?_
    ·
     unfold rl_ref09_Count_k3 at h
     refine AW.tn ?_
     refine AW.rg tt_ok2 [(4, vi64 (i64.wrap (x4 + 1)))] [] [] 4 [] (by kernel_rfl) ?_
     exact lpn h (conv_re [(0, 0)] (by kernel_rfl))
    ·
     refine AW.block ?_
     obtain ⟨y9, e10, h⟩ := bnd_some h
     refine AW.sg tt_ok2 [(17, vb y9)] [] [] 3 [hn, hn, hk (rl_ref09_Has_con p0 x4 y9 e10)] (by kernel_rfl) ?_
     refine AW.co h (by kernel_rfl) (fun c11 h => ?_) (fun c11 h => ?_)
     ·
      refine AW.rg tt_ok2 [(3, vi64 (i64.wrap (x3 + 1)))] [] [] 6 [] (by kernel_rfl) ?_
      refine AW.inBlock_normal ?_
      exact jl (i64.wrap (x3 + 1)) h (conv_re [(0, 0)] (by kernel_rfl))
     ·
      refine AW.skip (AW.inBlock_normal ?_)
      exact jl x3 h (conv_re [(0, 0)] (by kernel_rfl))
   ·
    refine AW.exit (AW.thenQ_exit ?_)
    exact lpo h rfl (conv_re [] (by kernel_rfl))
  ·
   obtain ⟨y12, e13, h⟩ := bnd_some h
   rcases ifs h with ⟨c14, hs⟩ | ⟨c14, hs⟩
   ·clear h; subst c14; have h := hs; clear hs
    refine AW.rg tt_ok2 [(12, vb (decide (x4 < p0.Length)))] [] [] 8 [hn, hk (rl_ref09_Valid_con p0 true e13)] (by kernel_rfl) ?_
    exact jl (decide (x4 < p0.Length)) h (conv_re [(0, 0)] (by kernel_rfl))
   ·clear h; subst c14; have h := hs; clear hs
    refine AW.rg tt_ok2 [(12, vb false)] [] [] 8 [hn, hk (rl_ref09_Valid_con p0 false e13)] (by kernel_rfl) ?_
    exact jl false h (conv_re [(0, 0)] (by kernel_rfl))
 ·
  show (_ : Exit → St → Prop) (.exit 0) _
  refine AW.inBlock_hit (AW.tn ?_)
  refine AW.sg tt_ok2 [(2, vi64 x15)] [] [] 2 [] (by kernel_rfl) ?_
  refine AW.ret ?_
  obtain rfl := some_inj h
  exact fn0 (.inr rfl) [] 0 (vi64 x15) (by kernel_rfl)
/-! recordlink/recordlinkref05.Rounded -/
noncomputable def rl_ref05_Rounded (p0 : Int) (p1 : Int) : Option Int := if (i64.wrap (2 * p1)) ≠ 0 then ((some (i64.wrap ((i64.wrap ((i64.wrap (2 * p0)) + p1)).tdiv (i64.wrap (2 * p1))))).bind fun z2 => (some z2)) else none
set_option maxRecDepth 100000 in
theorem rl_ref05_Rounded_con (p0 : Int) (p1 : Int) (r : Int) (h : rl_ref05_Rounded p0 p1 = some r) : Con Try.prog 99 [vi64 p0, vi64 p1] [] (vi64 r) [] := by
 refine con_of tt_ok2 0 Try.func99 (by kernel_rfl) rfl (by kernel_rfl) (fun base X _ => AW.post ?_)
 unfold rl_ref05_Rounded at h
 refine AW.sg tt_ok2 [] [] [] 1 [] (by kernel_rfl) ?_
 obtain ⟨g1, h⟩ := ifc h
 obtain ⟨z2, n3, h⟩ := bnd_some h
 replace n3 := some_inj n3
 refine AW.sg tt_ok2 [(4, vi64 z2)] [] [] 9 [hn, hn, hn, hn, hn, hn, ho g1] (by subst n3; kernel_rfl) ?_
 refine AW.ret ?_
 obtain rfl := some_inj h
 exact fn0 (.inr rfl) [] 0 (vi64 z2) (by kernel_rfl)
/-! recordlink/recordlinkref17.Dice -/
noncomputable def rl_ref17_Dice (p0 : S_api_Bits) (p1 : S_api_Bits) : Option Int := bind2 (rl_ref09_And p0 p1) fun y1 y2 => (if (y2 != 0) = true then (some (-1)) else ((rl_ref09_Count p0).bind fun y5 => ((rl_ref09_Count p1).bind fun y7 => (if ((i64.wrap (y5 + y7)) == 0) = true then (some 0) else ((rl_ref09_Count y1).bind fun y10 => ((rl_ref05_Rounded (i64.wrap (2000 * y10)) (i64.wrap (y5 + y7))).bind fun y12 => (some y12)))))))
set_option maxRecDepth 100000 in
theorem rl_ref17_Dice_con (p0 : S_api_Bits) (p1 : S_api_Bits) (r : Int) (h : rl_ref17_Dice p0 p1 = some r) : Con Try.prog 68 [.agg [ci64 p0.Length, cl 1 Ru64 p0.Words], .agg [ci64 p1.Length, cl 1 Ru64 p1.Words]] [] (vi64 r) [] := by
 refine con_of tt_ok2 0 Try.func68 (by kernel_rfl) rfl (by kernel_rfl) (fun base X _ => AW.post ?_)
 unfold rl_ref17_Dice at h
 refine AW.sg tt_ok2 [(3, .c (.ptr 1 2 0 0)), (2, .c (.ptr 0 2 0 0))] [0, 1] [(1, .box 84 [ci64 p1.Length, cl 1 Ru64 p1.Words]), (0, .box 84 [ci64 p0.Length, cl 1 Ru64 p0.Words])] 3 [] (by kernel_rfl) ?_
 obtain ⟨y1, y2, e3, h⟩ := bind2_some h
 refine AW.sg tt_ok2 [(6, vi64 y2), (5, .c (.ptr 9 2 0 0))] [5, 9] [(9, .box 84 [ci64 y1.Length, .ref 5 1 0 y1.Words.length]), (5, .row 45 false 1 y1.Words.length (Ru64 y1.Words))] 12 [hn, hn, hm [] [] 1 (rl_ref09_And_con p0 p1 (y1, y2) e3) ⟨rowL_flat Vu64 _ _ _, tv⟩] (by kernel_rfl) ?_
 refine AW.seq ?_
 refine AW.sg tt_ok2 [(15, vb (y2 != 0))] [] [] 14 [] (by kernel_rfl) ?_
 refine AW.co h (by kernel_rfl) (fun c4 h => ?_) (fun c4 h => ?_)
 ·
  refine AW.sg tt_ok2 [(4, vi64 (-1))] [] [] 15 [] (by kernel_rfl) ?_
  refine AW.ret (AW.tr ?_)
  obtain rfl := some_inj h
  exact fn0 (.inr rfl) [] 0 (vi64 (-1)) (by kernel_rfl)
 ·
  refine AW.skip (AW.tn ?_)
  obtain ⟨y5, e6, h⟩ := bnd_some h
  obtain ⟨y7, e8, h⟩ := bnd_some h
  refine AW.sd tt_ok2 mo2 [] [(7, vi64 (i64.wrap (y5 + y7)))] [] 18 [hn, hk (rl_ref09_Count_con p0 y5 e6), hn, hk (rl_ref09_Count_con p1 y7 e8)] (by kernel_rfl) ?_
  refine AW.seq ?_
  refine AW.sg tt_ok2 [(22, vb ((i64.wrap (y5 + y7)) == 0))] [] [] 20 [] (by kernel_rfl) ?_
  refine AW.co h (by kernel_rfl) (fun c9 h => ?_) (fun c9 h => ?_)
  ·
   refine AW.sg tt_ok2 [(4, vi64 0)] [] [] 21 [] (by kernel_rfl) ?_
   refine AW.ret (AW.tr ?_)
   obtain rfl := some_inj h
   exact fn0 (.inr rfl) [] 0 (vi64 0) (by kernel_rfl)
  ·
   refine AW.skip (AW.tn ?_)
   obtain ⟨y10, e11, h⟩ := bnd_some h
   obtain ⟨y12, e13, h⟩ := bnd_some h
   refine AW.sg tt_ok2 [(4, vi64 y12)] [] [] 24 [hn, hg [] [] true 0 (q := ((True) ∧ (0 + y1.Words.length ≤ y1.Words.length) ∧ (True)) ∧ (True)) ⟨⟨tv, le0, tv⟩, tv⟩ (a0 := [.agg [ci64 y1.Length, cl 1 Ru64 y1.Words]]) (rl_ref09_Count_con y1 y10 e11) ⟨ArgLe.refl _, tv⟩ (fun _ => tv), hn, hn, hk (rl_ref05_Rounded_con (i64.wrap (2000 * y10)) (i64.wrap (y5 + y7)) y12 e13)] (by kernel_rfl) ?_
   refine AW.ret ?_
   obtain rfl := some_inj h
   exact fn0 (.inr rfl) [] 0 (vi64 y12) (by kernel_rfl)
/-! recordlink/recordlinkref17.Compare -/
noncomputable def rl_ref17_Compare_l2 (p0 : S_api_Encoded) (p1 : S_api_Encoded) (x5 : List Int) (x6 : Int) : Option (((List Int) × Int) ⊕ (List Int)) := if (decide (x6 < ((p0.Fields.length : Nat) : Int))) = true then (if 0 ≤ x6 then (if x6 < ((p0.Fields.length : Nat) : Int) then (if x6 < ((p1.Fields.length : Nat) : Int) then ((rl_ref17_Dice (p0.Fields.getD x6.toNat dS_api_Bits) (p1.Fields.getD x6.toNat dS_api_Bits)).bind fun y12 => (if x5.length + ([y12] : List Int).length ≤ 1099511627776 then (some (.inl ((x5 ++ ([y12] : List Int)), i64.wrap (x6 + 1)))) else none)) else none) else none) else none) else (some (.inr x5))
noncomputable def rl_ref17_Compare_k1 (p0 : S_api_Encoded) (p1 : S_api_Encoded) (x1 : Bool) : Option ((List Int) × Int) := if x1 = true then (some (([] : List Int), 8)) else ((loop (fun v : (List Int) × Int => rl_ref17_Compare_l2 p0 p1 v.1 v.2) (([] : List Int), 0)).bind fun x15 => (some (x15, 0)))
noncomputable def rl_ref17_Compare (p0 : S_api_Encoded) (p1 : S_api_Encoded) : Option ((List Int) × Int) := if (((p0.Fields.length : Nat) : Int) != ((p1.Fields.length : Nat) : Int)) = true then (rl_ref17_Compare_k1 p0 p1 true) else (if (decide (((p0.Fields.length : Nat) : Int) < 1)) = true then (rl_ref17_Compare_k1 p0 p1 true) else (rl_ref17_Compare_k1 p0 p1 (decide (((p0.Fields.length : Nat) : Int) > 5))))
set_option maxRecDepth 100000 in
theorem rl_ref17_Compare_con (p0 : S_api_Encoded) (p1 : S_api_Encoded) (r : (List Int) × Int) (h : rl_ref17_Compare p0 p1 = some r) : Con Try.prog 39 [.agg [ci64 p0.ID, ci64 p0.Version, cl 2 RS_api_Bits p0.Fields], .agg [ci64 p1.ID, ci64 p1.Version, cl 2 RS_api_Bits p1.Fields]] [] (.tup [.c (.ref 0 1 0 r.1.length), vi64 r.2]) [(0, .row 3 false 1 r.1.length (Ri64 r.1))] := by
 refine con_of tt_ok2 0 Try.func39 (by kernel_rfl) rfl (by kernel_rfl) (fun base X _ => AW.post ?_)
 unfold rl_ref17_Compare at h
 refine AW.sg tt_ok2 [(3, .c (.ptr 1 3 0 0)), (2, .c (.ptr 0 3 0 0))] [0, 1] [(1, .box 40 [ci64 p1.ID, ci64 p1.Version, cl 2 RS_api_Bits p1.Fields]), (0, .box 40 [ci64 p0.ID, ci64 p0.Version, cl 2 RS_api_Bits p0.Fields])] 4 [] (by kernel_rfl) ?_
 refine AW.seq (AW.seq ?_)
 refine AW.join (ι := Bool) (fun v => ⟨[(2, .c (.ptr 0 3 0 0)), (3, .c (.ptr 1 3 0 0)), (26, vb v)], [(0, .box 40 [ci64 p0.ID, ci64 p0.Version, cl 2 RS_api_Bits p0.Fields]), (1, .box 40 [ci64 p1.ID, ci64 p1.Version, cl 2 RS_api_Bits p1.Fields])], 2⟩) (fun v : Bool => rl_ref17_Compare_k1 p0 p1 v = some r) (fun x1 h => ?_) ?_
 ·
  unfold rl_ref17_Compare_k1 at h
  refine AW.tn ?_
  refine AW.co h (by kernel_rfl) (fun c2 h => ?_) (fun c2 h => ?_)
  ·
   refine AW.sg tt_ok2 [(5, vi64 8), (4, .c (.t (.v (.slice none 0 0))))] [] [] 4 [] (by kernel_rfl) ?_
   refine AW.ret (AW.tr ?_)
   obtain rfl := some_inj h
   exact fnR (.inr rfl) [(0, 4)] 1 (.tup [.c (.ref 4 1 0 (([] : List Int).length)), vi64 8]) (conv_adopt (t := 4) (ty := 3) (sz := 1) (n := ([] : List Int).length) (f := Ri64 ([] : List Int)) (by kernel_rfl) rfl) (by kernel_rfl)
  ·
   refine AW.skip (AW.tn ?_)
   refine AW.sg tt_ok2 [(6, .c (.t (.v (.slice none 0 0))))] [] [] 3 [] (by kernel_rfl) ?_
   refine AW.seq ?_
   refine AW.sg tt_ok2 [(7, vi64 0)] [] [] 4 [] (by kernel_rfl) ?_
   refine AW.block ?_
   obtain ⟨x15, l16, h⟩ := bnd_some h
   refine AW.lp l16 (fun v => ⟨[(2, .c (.ptr 0 3 0 0)), (3, .c (.ptr 1 3 0 0)), (6, .c (.ref 2 1 0 v.1.length)), (7, vi64 v.2)], [(0, .box 40 [ci64 p0.ID, ci64 p0.Version, cl 2 RS_api_Bits p0.Fields]), (1, .box 40 [ci64 p1.ID, ci64 p1.Version, cl 2 RS_api_Bits p1.Fields]), (2, .row 3 false 1 v.1.length (Ri64 v.1))], 3⟩) (fun t : List Int => (.exit 0, ⟨[(6, .c (.ref 0 1 0 t.length))], [(0, .row 3 false 1 t.length (Ri64 t))], 1⟩)) (Conv.trans (conv_adopt (t := 6) (ty := 3) (sz := 1) (n := ([] : List Int).length) (f := Ri64 ([] : List Int)) (by kernel_rfl) rfl) (conv_re [(0, 0), (1, 1), (2, 4)] (by kernel_rfl))) (fun _ => tv) ?_ ?_
   ·
    clear l16 h
    intro v o h
    obtain ⟨x5, x6⟩ := v
    replace h : rl_ref17_Compare_l2 p0 p1 x5 x6 = some o := h
    unfold rl_ref17_Compare_l2 at h
    refine AW.seq ?_
    refine AW.sg tt_ok2 [(31, vb (decide (x6 < ((p0.Fields.length : Nat) : Int))))] [] [] 8 [] (by kernel_rfl) ?_
    refine AW.co h (by kernel_rfl) (fun c8 h => ?_) (fun c8 h => ?_)
    ·
     refine AW.skip (AW.tn ?_)
     refine AW.seq (AW.block ?_)
     obtain ⟨g9, g10, h⟩ := ifd h
     obtain ⟨g11, h⟩ := ifc h
     obtain ⟨y12, e13, h⟩ := bnd_some h
     obtain ⟨g14, h⟩ := ifc h
     refine AW.rd tt_ok2 mo2 [[], [], [], [], [], [], [], [], [], [], [], [], [19], [20, 2]] [(6, .c (.ref 20 1 0 ((x5 ++ ([y12] : List Int)).length)))] [(20, .row 3 false 1 (x5 ++ ([y12] : List Int)).length (Ri64 (x5 ++ ([y12] : List Int))))] 22 [hn, hn, hn, hn, hq g9 g10, hn, hn, hn, hn, hq g9 g11, hn, hk (rl_ref17_Dice_con (p0.Fields.getD x6.toNat dS_api_Bits) (p1.Fields.getD x6.toNat dS_api_Bits) y12 e13), hlit 0 Ei64 1 (fun _ => rfl) ([y12] : List Int), happ 0 Ei64 1 8 x5 ([y12] : List Int) g14 (by decide)] (by kernel_rfl) ?_
     refine AW.inBlock_normal (AW.tn ?_)
     refine AW.rg tt_ok2 [(7, vi64 (i64.wrap (x6 + 1)))] [] [] 25 [] (by kernel_rfl) ?_
     exact lpn h (conv_re [(0, 0), (1, 1), (2, 20)] (by kernel_rfl))
    ·
     refine AW.exit (AW.thenQ_exit ?_)
     exact lpo h rfl (conv_re [(0, 2)] (by kernel_rfl))
   ·
    show (_ : Exit → St → Prop) (.exit 0) _
    refine AW.inBlock_hit (AW.tn ?_)
    refine AW.sg tt_ok2 [(5, vi64 0), (4, .c (.ref 0 1 0 x15.length))] [] [] 4 [] (by kernel_rfl) ?_
    refine AW.ret ?_
    obtain rfl := some_inj h
    exact fn0 (.inr rfl) [(0, 0)] 1 (.tup [.c (.ref 0 1 0 x15.length), vi64 0]) (by kernel_rfl)
 ·
  rcases ifs h with ⟨c17, h⟩ | ⟨c17, h⟩
  ·
   refine AW.rg tt_ok2 [(26, vb true)] [] [] 23 [hn, hn, hn, hn, hn, hn, ht c17] (by kernel_rfl) ?_
   exact jl true h (conv_re [(0, 0), (1, 1)] (by kernel_rfl))
  ·
   rcases ifs h with ⟨c18, h⟩ | ⟨c18, h⟩
   ·
    refine AW.rg tt_ok2 [(26, vb true)] [] [] 23 [hn, hn, hn, hn, hn, hn, hf c17, hn, hn, hn, hn, ht c18] (by kernel_rfl) ?_
    exact jl true h (conv_re [(0, 0), (1, 1)] (by kernel_rfl))
   ·
    refine AW.rg tt_ok2 [(26, vb (decide (((p0.Fields.length : Nat) : Int) > 5)))] [] [] 23 [hn, hn, hn, hn, hn, hn, hf c17, hn, hn, hn, hn, hf c18] (by kernel_rfl) ?_
    exact jl (decide (((p0.Fields.length : Nat) : Int) > 5)) h (conv_re [(0, 0), (1, 1)] (by kernel_rfl))
/-! recordlink/recordlinkref17.Number -/
noncomputable def rl_ref17_Number_k3 (p0 : List Int) (x5 : Int) (x6 : Int) (x9 : Bool) : Option ((Int × Int) ⊕ (Int ⊕ Unit)) := if x9 = true then (some (.inr (.inr ()))) else (if 0 ≤ x6 then (if x6 < (p0.length : Int) then ((some (i64.wrap ((i64.wrap (3 * x5)) + (p0.getD x6.toNat 0)))).bind fun z13 => (some (.inl (z13, i64.wrap (x6 - 1))))) else none) else none)
noncomputable def rl_ref17_Number_l2 (p0 : List Int) (x5 : Int) (x6 : Int) : Option ((Int × Int) ⊕ (Int ⊕ Unit)) := if (decide (x6 ≥ 0)) = true then (if 0 ≤ x6 then (if x6 < (p0.length : Int) then (if (decide ((p0.getD x6.toNat 0) < 0)) = true then (rl_ref17_Number_k3 p0 x5 x6 true) else (rl_ref17_Number_k3 p0 x5 x6 (decide ((p0.getD x6.toNat 0) > 2)))) else none) else none) else (some (.inr (.inl x5)))
noncomputable def rl_ref17_Number_a4 (x18 : Int) : Option (Int × Int) := some (x18, 0)
noncomputable def rl_ref17_Number_a5 : Option (Int × Int) := some (0, 2)
noncomputable def rl_ref17_Number_k1 (p0 : List Int) (x1 : Bool) : Option (Int × Int) := if x1 = true then (some (0, 8)) else (bindE (loop (fun v : Int × Int => rl_ref17_Number_l2 p0 v.1 v.2) (0, i64.wrap ((p0.length : Int) - 1))) (fun t => rl_ref17_Number_a4 t) (fun t => rl_ref17_Number_a5))
noncomputable def rl_ref17_Number (p0 : List Int) : Option (Int × Int) := if (decide ((p0.length : Int) < 1)) = true then (rl_ref17_Number_k1 p0 true) else (rl_ref17_Number_k1 p0 (decide ((p0.length : Int) > 5)))
set_option maxRecDepth 100000 in
theorem rl_ref17_Number_con (p0 : List Int) (r : Int × Int) (h : rl_ref17_Number p0 = some r) : Con Try.prog 69 [vl 1 Ri64 p0] [] (.tup [vi64 r.1, vi64 r.2]) [] := by
 refine con_of tt_ok2 0 Try.func69 (by kernel_rfl) rfl (by kernel_rfl) (fun base X _ => AW.post ?_)
 unfold rl_ref17_Number at h
 refine AW.sg tt_ok2 [] [] [] 2 [] (by kernel_rfl) ?_
 refine AW.seq (AW.seq ?_)
 refine AW.join (ι := Bool) (fun v => ⟨[(0, vl 1 Ri64 p0), (13, vb v)], [], 0⟩) (fun v : Bool => rl_ref17_Number_k1 p0 v = some r) (fun x1 h => ?_) ?_
 ·
  unfold rl_ref17_Number_k1 at h
  refine AW.tn ?_
  refine AW.co h (by kernel_rfl) (fun c2 h => ?_) (fun c2 h => ?_)
  ·
   refine AW.sg tt_ok2 [(3, vi64 8), (2, vi64 0)] [] [] 2 [] (by kernel_rfl) ?_
   refine AW.ret (AW.tr ?_)
   obtain rfl := some_inj h
   exact fn0 (.inr rfl) [] 0 (.tup [vi64 0, vi64 8]) (by kernel_rfl)
  ·
   refine AW.skip (AW.tn ?_)
   refine AW.sg tt_ok2 [(4, vi64 0)] [] [] 1 [] (by kernel_rfl) ?_
   refine AW.seq ?_
   refine AW.sg tt_ok2 [(5, vi64 (i64.wrap ((p0.length : Int) - 1)))] [] [] 5 [] (by kernel_rfl) ?_
   refine AW.block ?_
   refine AW.lpE h (fun v => ⟨[(0, vl 1 Ri64 p0), (4, vi64 v.1), (5, vi64 v.2)], [], 0⟩) (fun t => (.exit 0, ⟨[(4, vi64 t)], [], 0⟩)) (fun t => (.ret, ⟨[(2, vi64 0), (3, vi64 2)], [], 0⟩)) (conv_re [] (by kernel_rfl)) (fun _ => tv) (fun _ => tv) ?_ (fun x18 h => ?_) (fun t h => ?_)
   ·
    clear h
    intro v o h
    obtain ⟨x5, x6⟩ := v
    replace h : rl_ref17_Number_l2 p0 x5 x6 = some o := h
    unfold rl_ref17_Number_l2 at h
    refine AW.seq ?_
    refine AW.sg tt_ok2 [(18, vb (decide (x6 ≥ 0)))] [] [] 2 [] (by kernel_rfl) ?_
    refine AW.co h (by kernel_rfl) (fun c8 h => ?_) (fun c8 h => ?_)
    ·
     refine AW.skip (AW.tn ?_)
     refine AW.seq (AW.block ?_)
     refine AW.seq (AW.seq ?_)
     refine AW.join (ι := Bool) (fun v => ⟨[(0, vl 1 Ri64 p0), (4, vi64 x5), (5, vi64 x6), (32, vb v)], [], 0⟩) (fun v : Bool => rl_ref17_Number_k3 p0 x5 x6 v = some o) (fun x9 h => ?_) ?_
     ·
      unfold rl_ref17_Number_k3 at h
      refine AW.tn ?_
      refine AW.co h (by kernel_rfl) (fun c10 h => ?_) (fun c10 h => ?_)
      ·
       refine AW.sg tt_ok2 [(3, vi64 2), (2, vi64 0)] [] [] 2 [] (by kernel_rfl) ?_
       refine AW.ret (AW.tr ?_)
       refine AW.inBlock_ret (AW.tr ?_)
       exact lpo h rfl (conv_re [] (by kernel_rfl))
      ·
       refine AW.skip (AW.tn ?_)
       obtain ⟨g11, g12, h⟩ := ifd h
       obtain ⟨z13, n14, h⟩ := bnd_some h
       replace n14 := some_inj n14
       refine AW.rg tt_ok2 [(4, vi64 z13)] [] [] 8 [hn, hn, hn, hn, hq g11 g12] (by subst n14; kernel_rfl) ?_
       refine AW.inBlock_normal (AW.tn ?_)
       refine AW.rg tt_ok2 [(5, vi64 (i64.wrap (x6 - 1)))] [] [] 11 [] (by kernel_rfl) ?_
       exact lpn h (conv_re [] (by kernel_rfl))
     ·
      obtain ⟨g15, g16, h⟩ := ifd h
      rcases ifs h with ⟨c17, h⟩ | ⟨c17, h⟩
      ·
       refine AW.rg tt_ok2 [(32, vb true)] [] [] 14 [hn, hn, hq g15 g16, hn, ht c17] (by kernel_rfl) ?_
       exact jl true h (conv_re [] (by kernel_rfl))
      ·
       refine AW.rg tt_ok2 [(32, vb (decide ((p0.getD x6.toNat 0) > 2)))] [] [] 14 [hn, hn, hq g15 g16, hn, hf c17, hn, hn, hn, hq g15 g16] (by kernel_rfl) ?_
       exact jl (decide ((p0.getD x6.toNat 0) > 2)) h (conv_re [] (by kernel_rfl))
    ·
     refine AW.exit (AW.thenQ_exit ?_)
     exact lpo h rfl (conv_re [] (by kernel_rfl))
   ·
    unfold rl_ref17_Number_a4 at h
    show (_ : Exit → St → Prop) (.exit 0) _
    refine AW.inBlock_hit (AW.tn ?_)
    refine AW.sg tt_ok2 [(3, vi64 0), (2, vi64 x18)] [] [] 3 [] (by kernel_rfl) ?_
    refine AW.ret ?_
    obtain rfl := some_inj h
    exact fn0 (.inr rfl) [] 0 (.tup [vi64 x18, vi64 0]) (by kernel_rfl)
   ·
    replace h : rl_ref17_Number_a5 = some r := h
    unfold rl_ref17_Number_a5 at h
    show (_ : Exit → St → Prop) (.ret) _
    refine AW.inBlock_ret (AW.tr ?_)
    obtain rfl := some_inj h
    exact fn0 (.inr rfl) [] 0 (.tup [vi64 0, vi64 2]) (by kernel_rfl)
 ·
  rcases ifs h with ⟨c20, h⟩ | ⟨c20, h⟩
  ·
   refine AW.rg tt_ok2 [(13, vb true)] [] [] 10 [hn, hn, ht c20] (by kernel_rfl) ?_
   exact jl true h (conv_re [] (by kernel_rfl))
  ·
   refine AW.rg tt_ok2 [(13, vb (decide ((p0.length : Int) > 5)))] [] [] 10 [hn, hn, hf c20] (by kernel_rfl) ?_
   exact jl (decide ((p0.length : Int) > 5)) h (conv_re [] (by kernel_rfl))
/-! recordlink/recordlinkref17.Pattern -/
noncomputable def rl_ref17_Pattern_k3 (x6 : Int) (x9 : List Int) : Option (((List Int) × Int) ⊕ ((List Int) ⊕ Unit)) := some (.inl (x9, i64.wrap (x6 + 1)))
noncomputable def rl_ref17_Pattern_k4 (p0 : List Int) (p1 : List Int) (x5 : List Int) (x6 : Int) (x10 : Bool) : Option (((List Int) × Int) ⊕ ((List Int) ⊕ Unit)) := if x10 = true then (some (.inr (.inr ()))) else (if 0 ≤ x6 then (if x6 < (p1.length : Int) then (if (decide ((p1.getD x6.toNat 0) < 0)) = true then (if x5.length + ([0] : List Int).length ≤ 1099511627776 then (rl_ref17_Pattern_k3 x6 (x5 ++ ([0] : List Int))) else none) else (if x6 < (p0.length : Int) then (if (decide ((p1.getD x6.toNat 0) ≥ (p0.getD x6.toNat 0))) = true then (if x5.length + ([2] : List Int).length ≤ 1099511627776 then (rl_ref17_Pattern_k3 x6 (x5 ++ ([2] : List Int))) else none) else (if x5.length + ([1] : List Int).length ≤ 1099511627776 then (rl_ref17_Pattern_k3 x6 (x5 ++ ([1] : List Int))) else none)) else none)) else none) else none)
noncomputable def rl_ref17_Pattern_l2 (p0 : List Int) (p1 : List Int) (x5 : List Int) (x6 : Int) : Option (((List Int) × Int) ⊕ ((List Int) ⊕ Unit)) := if (decide (x6 < (p1.length : Int))) = true then (if 0 ≤ x6 then (if x6 < (p0.length : Int) then (if (decide ((p0.getD x6.toNat 0) < 0)) = true then (rl_ref17_Pattern_k4 p0 p1 x5 x6 true) else (if (decide ((p0.getD x6.toNat 0) > 1000)) = true then (rl_ref17_Pattern_k4 p0 p1 x5 x6 true) else (if x6 < (p1.length : Int) then (if (decide ((p1.getD x6.toNat 0) < (-1))) = true then (rl_ref17_Pattern_k4 p0 p1 x5 x6 true) else (rl_ref17_Pattern_k4 p0 p1 x5 x6 (decide ((p1.getD x6.toNat 0) > 1000)))) else none))) else none) else none) else (some (.inr (.inl x5)))
noncomputable def rl_ref17_Pattern_a5 (x26 : List Int) : Option (Int × Int) := bind2 (rl_ref17_Number x26) fun y27 y28 => (some (y27, y28))
noncomputable def rl_ref17_Pattern_a6 : Option (Int × Int) := some (0, 2)
noncomputable def rl_ref17_Pattern_k1 (p0 : List Int) (p1 : List Int) (x1 : Bool) : Option (Int × Int) := if x1 = true then (some (0, 8)) else (bindE (loop (fun v : (List Int) × Int => rl_ref17_Pattern_l2 p0 p1 v.1 v.2) (([] : List Int), 0)) (fun t => rl_ref17_Pattern_a5 t) (fun t => rl_ref17_Pattern_a6))
noncomputable def rl_ref17_Pattern (p0 : List Int) (p1 : List Int) : Option (Int × Int) := if ((p1.length : Int) != (p0.length : Int)) = true then (rl_ref17_Pattern_k1 p0 p1 true) else (if (decide ((p1.length : Int) < 1)) = true then (rl_ref17_Pattern_k1 p0 p1 true) else (rl_ref17_Pattern_k1 p0 p1 (decide ((p1.length : Int) > 5))))
set_option maxRecDepth 100000 in
theorem rl_ref17_Pattern_con (p0 : List Int) (p1 : List Int) (r : Int × Int) (h : rl_ref17_Pattern p0 p1 = some r) : Con Try.prog 40 [vl 1 Ri64 p0, vl 1 Ri64 p1] [] (.tup [vi64 r.1, vi64 r.2]) [] := by
 refine con_of tt_ok2 0 Try.func40 (by kernel_rfl) rfl (by kernel_rfl) (fun base X _ => AW.post ?_)
 unfold rl_ref17_Pattern at h
 refine AW.sg tt_ok2 [] [] [] 2 [] (by kernel_rfl) ?_
 refine AW.seq (AW.seq ?_)
 refine AW.join (ι := Bool) (fun v => ⟨[(0, vl 1 Ri64 p0), (1, vl 1 Ri64 p1), (22, vb v)], [], 0⟩) (fun v : Bool => rl_ref17_Pattern_k1 p0 p1 v = some r) (fun x1 h => ?_) ?_
 ·
  unfold rl_ref17_Pattern_k1 at h
  refine AW.tn ?_
  refine AW.co h (by kernel_rfl) (fun c2 h => ?_) (fun c2 h => ?_)
  ·
   refine AW.sg tt_ok2 [(5, vi64 8), (4, vi64 0)] [] [] 2 [] (by kernel_rfl) ?_
   refine AW.ret (AW.tr ?_)
   obtain rfl := some_inj h
   exact fn0 (.inr rfl) [] 0 (.tup [vi64 0, vi64 8]) (by kernel_rfl)
  ·
   refine AW.skip (AW.tn ?_)
   refine AW.sg tt_ok2 [(6, .c (.t (.v (.slice none 0 0))))] [] [] 1 [] (by kernel_rfl) ?_
   refine AW.seq ?_
   refine AW.sg tt_ok2 [(7, vi64 0)] [] [] 2 [] (by kernel_rfl) ?_
   refine AW.block ?_
   refine AW.lpE h (fun v => ⟨[(0, vl 1 Ri64 p0), (1, vl 1 Ri64 p1), (6, .c (.ref 0 1 0 v.1.length)), (7, vi64 v.2)], [(0, .row 3 false 1 v.1.length (Ri64 v.1))], 1⟩) (fun t => (.exit 0, ⟨[(6, .c (.ref 0 1 0 t.length))], [(0, .row 3 false 1 t.length (Ri64 t))], 1⟩)) (fun t => (.ret, ⟨[(4, vi64 0), (5, vi64 2)], [], 0⟩)) (Conv.trans (conv_adopt (t := 6) (ty := 3) (sz := 1) (n := ([] : List Int).length) (f := Ri64 ([] : List Int)) (by kernel_rfl) rfl) (conv_re [(0, 2)] (by kernel_rfl))) (fun _ => tv) (fun _ => tv) ?_ (fun x26 h => ?_) (fun t h => ?_)
   ·
    clear h
    intro v o h
    obtain ⟨x5, x6⟩ := v
    replace h : rl_ref17_Pattern_l2 p0 p1 x5 x6 = some o := h
    unfold rl_ref17_Pattern_l2 at h
    refine AW.seq ?_
    refine AW.sg tt_ok2 [(26, vb (decide (x6 < (p1.length : Int))))] [] [] 5 [] (by kernel_rfl) ?_
    refine AW.co h (by kernel_rfl) (fun c8 h => ?_) (fun c8 h => ?_)
    ·
     refine AW.skip (AW.tn (AW.seq ?_))
     refine AW.join (ι := List Int) (fun v => ⟨[(0, vl 1 Ri64 p0), (1, vl 1 Ri64 p1), (6, .c (.ref 0 1 0 v.length)), (7, vi64 x6)], [(0, .row 3 false 1 v.length (Ri64 v))], 1⟩) (fun v : List Int => rl_ref17_Pattern_k3 x6 v = some o) (fun x9 h => ?_) ?_
     ·
      unfold rl_ref17_Pattern_k3 at h
      refine AW.tn ?_
      refine AW.rg tt_ok2 [(7, vi64 (i64.wrap (x6 + 1)))] [] [] 4 [] (by kernel_rfl) ?_
      exact lpn h (conv_re [(0, 0)] (by kernel_rfl))
     ·
      refine AW.block (AW.seq (AW.seq ?_))
      refine AW.join (ι := Bool) (fun v => ⟨[(0, vl 1 Ri64 p0), (1, vl 1 Ri64 p1), (6, .c (.ref 0 1 0 x5.length)), (7, vi64 x6), (54, vb v)], [(0, .row 3 false 1 x5.length (Ri64 x5))], 1⟩) (fun v : Bool => rl_ref17_Pattern_k4 p0 p1 x5 x6 v = some o) (fun x10 h => ?_) ?_
      ·
       unfold rl_ref17_Pattern_k4 at h
       refine AW.tn ?_
       refine AW.co h (by kernel_rfl) (fun c11 h => ?_) (fun c11 h => ?_)
       ·
        refine AW.sg tt_ok2 [(5, vi64 2), (4, vi64 0)] [] [] 3 [] (by kernel_rfl) ?_
        refine AW.ret (AW.tr (AW.inBlock_ret ?_))
        refine joinQ_ret ?_
        refine AW.tr ?_
        exact lpo h rfl (conv_re [] (by kernel_rfl))
       ·
        refine AW.skip (AW.tn (AW.block ?_))
        obtain ⟨g12, g13, h⟩ := ifd h
        refine AW.sg tt_ok2 [(58, vb (decide ((p1.getD x6.toNat 0) < 0)))] [] [] 7 [hn, hn, hq g12 g13] (by kernel_rfl) ?_
        refine AW.co h (by kernel_rfl) (fun c14 h => ?_) (fun c14 h => ?_)
        ·
         obtain ⟨g15, h⟩ := ifc h
         refine AW.rg tt_ok2 [(6, .c (.ref 9 1 0 ((x5 ++ ([0] : List Int)).length)))] [0, 8, 9] [(9, .row 3 false 1 (x5 ++ ([0] : List Int)).length (Ri64 (x5 ++ ([0] : List Int))))] 11 [hn, hlit 0 Ei64 1 (fun _ => rfl) ([0] : List Int), happ 0 Ei64 1 8 x5 ([0] : List Int) g15 (by decide)] (by kernel_rfl) ?_
         refine AW.inBlock_normal (AW.inBlock_normal ?_)
         exact jl (x5 ++ ([0] : List Int)) h (conv_re [(0, 9)] (by kernel_rfl))
        ·
         obtain ⟨g16, h⟩ := ifc h
         refine AW.sd tt_ok2 mo2 [] [(67, vb (decide ((p1.getD x6.toNat 0) ≥ (p0.getD x6.toNat 0))))] [] 17 [hn, hn, hq g12 g13, hn, hn, hn, hq g12 g16] (by kernel_rfl) ?_
         refine AW.co h (by kernel_rfl) (fun c17 h => ?_) (fun c17 h => ?_)
         ·
          obtain ⟨g18, h⟩ := ifc h
          refine AW.rg tt_ok2 [(6, .c (.ref 19 1 0 ((x5 ++ ([2] : List Int)).length)))] [0, 18, 19] [(19, .row 3 false 1 (x5 ++ ([2] : List Int)).length (Ri64 (x5 ++ ([2] : List Int))))] 21 [hn, hlit 0 Ei64 1 (fun _ => rfl) ([2] : List Int), happ 0 Ei64 1 8 x5 ([2] : List Int) g18 (by decide)] (by kernel_rfl) ?_
          refine AW.inBlock_normal (AW.inBlock_normal ?_)
          exact jl (x5 ++ ([2] : List Int)) h (conv_re [(0, 19)] (by kernel_rfl))
         ·
          obtain ⟨g19, h⟩ := ifc h
          refine AW.rg tt_ok2 [(6, .c (.ref 19 1 0 ((x5 ++ ([1] : List Int)).length)))] [0, 18, 19] [(19, .row 3 false 1 (x5 ++ ([1] : List Int)).length (Ri64 (x5 ++ ([1] : List Int))))] 21 [hn, hlit 0 Ei64 1 (fun _ => rfl) ([1] : List Int), happ 0 Ei64 1 8 x5 ([1] : List Int) g19 (by decide)] (by kernel_rfl) ?_
          refine AW.inBlock_normal (AW.inBlock_normal ?_)
          exact jl (x5 ++ ([1] : List Int)) h (conv_re [(0, 19)] (by kernel_rfl))
      ·
       obtain ⟨g20, g21, h⟩ := ifd h
       rcases ifs h with ⟨c22, h⟩ | ⟨c22, h⟩
       ·
        refine AW.rg tt_ok2 [(54, vb true)] [] [] 31 [hn, hn, hq g20 g21, hn, ht c22] (by kernel_rfl) ?_
        exact jl true h (conv_re [(0, 0)] (by kernel_rfl))
       ·
        rcases ifs h with ⟨c23, h⟩ | ⟨c23, h⟩
        ·
         refine AW.rg tt_ok2 [(54, vb true)] [] [] 31 [hn, hn, hq g20 g21, hn, hf c22, hn, hn, hn, hq g20 g21, hn, ht c23] (by kernel_rfl) ?_
         exact jl true h (conv_re [(0, 0)] (by kernel_rfl))
        ·
         obtain ⟨g24, h⟩ := ifc h
         rcases ifs h with ⟨c25, h⟩ | ⟨c25, h⟩
         ·
          refine AW.rg tt_ok2 [(54, vb true)] [] [] 31 [hn, hn, hq g20 g21, hn, hf c22, hn, hn, hn, hq g20 g21, hn, hf c23, hn, hn, hn, hn, hq g20 g24, hn, ht c25] (by kernel_rfl) ?_
          exact jl true h (conv_re [(0, 0)] (by kernel_rfl))
         ·
          refine AW.rg tt_ok2 [(54, vb (decide ((p1.getD x6.toNat 0) > 1000)))] [] [] 31 [hn, hn, hq g20 g21, hn, hf c22, hn, hn, hn, hq g20 g21, hn, hf c23, hn, hn, hn, hn, hq g20 g24, hn, hf c25, hn, hn, hn, hn, hq g20 g24] (by kernel_rfl) ?_
          exact jl (decide ((p1.getD x6.toNat 0) > 1000)) h (conv_re [(0, 0)] (by kernel_rfl))
    ·
     refine AW.exit (AW.thenQ_exit ?_)
     exact lpo h rfl (conv_re [(0, 0)] (by kernel_rfl))
   ·
    unfold rl_ref17_Pattern_a5 at h
    show (_ : Exit → St → Prop) (.exit 0) _
    refine AW.inBlock_hit (AW.tn ?_)
    obtain ⟨y27, y28, e29, h⟩ := bind2_some h
    refine AW.sg tt_ok2 [(5, vi64 y28), (4, vi64 y27)] [] [] 6 [hn, hg [] [] true 0 (q := (0 + x26.length ≤ x26.length) ∧ (True)) ⟨le0, tv⟩ (a0 := [vl 1 Ri64 x26]) (rl_ref17_Number_con x26 (y27, y28) e29) ⟨ArgLe.refl _, tv⟩ (fun _ => tv)] (by kernel_rfl) ?_
    refine AW.ret ?_
    obtain rfl := some_inj h
    exact fn0 (.inr rfl) [] 0 (.tup [vi64 y27, vi64 y28]) (by kernel_rfl)
   ·
    replace h : rl_ref17_Pattern_a6 = some r := h
    unfold rl_ref17_Pattern_a6 at h
    show (_ : Exit → St → Prop) (.ret) _
    refine AW.inBlock_ret (AW.tr ?_)
    obtain rfl := some_inj h
    exact fn0 (.inr rfl) [] 0 (.tup [vi64 0, vi64 2]) (by kernel_rfl)
 ·
  rcases ifs h with ⟨c31, h⟩ | ⟨c31, h⟩
  ·
   refine AW.rg tt_ok2 [(22, vb true)] [] [] 17 [hn, hn, hn, hn, ht c31] (by kernel_rfl) ?_
   exact jl true h (conv_re [] (by kernel_rfl))
  ·
   rcases ifs h with ⟨c32, h⟩ | ⟨c32, h⟩
   ·
    refine AW.rg tt_ok2 [(22, vb true)] [] [] 17 [hn, hn, hn, hn, hf c31, hn, hn, hn, ht c32] (by kernel_rfl) ?_
    exact jl true h (conv_re [] (by kernel_rfl))
   ·
    refine AW.rg tt_ok2 [(22, vb (decide ((p1.length : Int) > 5)))] [] [] 17 [hn, hn, hn, hn, hf c31, hn, hn, hn, hf c32] (by kernel_rfl) ?_
    exact jl (decide ((p1.length : Int) > 5)) h (conv_re [] (by kernel_rfl))
/-! recordlink/recordlinkref17.Size -/
noncomputable def rl_ref17_Size_l1 (p0 : Int) (x3 : Int) (x4 : Int) : Option ((Int × Int) ⊕ Int) := if (decide (x4 < p0)) = true then (some (.inl (i64.wrap (x3 * 3), i64.wrap (x4 + 1)))) else (some (.inr x3))
noncomputable def rl_ref17_Size (p0 : Int) : Option Int := (loop (fun v : Int × Int => rl_ref17_Size_l1 p0 v.1 v.2) (1, 0)).bind fun x7 => (some x7)
set_option maxRecDepth 100000 in
theorem rl_ref17_Size_con (p0 : Int) (r : Int) (h : rl_ref17_Size p0 = some r) : Con Try.prog 72 [vi64 p0] [] (vi64 r) [] := by
 refine con_of tt_ok2 0 Try.func72 (by kernel_rfl) rfl (by kernel_rfl) (fun base X _ => AW.post ?_)
 unfold rl_ref17_Size at h
 refine AW.sg tt_ok2 [] [] [] 1 [] (by kernel_rfl) ?_
 refine AW.sg tt_ok2 [(3, vi64 1)] [] [] 2 [] (by kernel_rfl) ?_
 refine AW.seq ?_
 refine AW.sg tt_ok2 [(4, vi64 0)] [] [] 3 [] (by kernel_rfl) ?_
 refine AW.block ?_
 obtain ⟨x7, l8, h⟩ := bnd_some h
 refine AW.lp l8 (fun v => ⟨[(0, vi64 p0), (3, vi64 v.1), (4, vi64 v.2)], [], 0⟩) (fun t : Int => (.exit 0, ⟨[(3, vi64 t)], [], 0⟩)) (conv_re [] (by kernel_rfl)) (fun _ => tv) ?_ ?_
 ·
  clear l8 h
  intro v o h
  obtain ⟨x3, x4⟩ := v
  replace h : rl_ref17_Size_l1 p0 x3 x4 = some o := h
  unfold rl_ref17_Size_l1 at h
  refine AW.seq ?_
  refine AW.sg tt_ok2 [(7, vb (decide (x4 < p0)))] [] [] 3 [] (by kernel_rfl) ?_
  refine AW.co h (by kernel_rfl) (fun c6 h => ?_) (fun c6 h => ?_)
  ·
   refine AW.skip (AW.tn ?_)
   refine AW.seq (AW.block ?_)
   refine AW.rg tt_ok2 [(3, vi64 (i64.wrap (x3 * 3)))] [] [] 6 [] (by kernel_rfl) ?_
   refine AW.inBlock_normal (AW.tn ?_)
   refine AW.rg tt_ok2 [(4, vi64 (i64.wrap (x4 + 1)))] [] [] 9 [] (by kernel_rfl) ?_
   exact lpn h (conv_re [] (by kernel_rfl))
  ·
   refine AW.exit (AW.thenQ_exit ?_)
   exact lpo h rfl (conv_re [] (by kernel_rfl))
 ·
  show (_ : Exit → St → Prop) (.exit 0) _
  refine AW.inBlock_hit (AW.tn ?_)
  refine AW.sg tt_ok2 [(2, vi64 x7)] [] [] 2 [] (by kernel_rfl) ?_
  refine AW.ret ?_
  obtain rfl := some_inj h
  exact fn0 (.inr rfl) [] 0 (vi64 x7) (by kernel_rfl)
/-! recordlink/recordlinkref17.Digits -/
noncomputable def rl_ref17_Digits_l3 (p1 : Int) (x8 : Int) (x9 : List Int) (x10 : Int) : Option ((Int × (List Int) × Int) ⊕ (List Int)) := if (decide (x10 < p1)) = true then (if x9.length + ([(x8.tmod 3)] : List Int).length ≤ 1099511627776 then (some (.inl (i64.wrap (x8.tdiv 3), (x9 ++ ([(x8.tmod 3)] : List Int)), i64.wrap (x10 + 1)))) else none) else (some (.inr x9))
noncomputable def rl_ref17_Digits_k2 (p0 : Int) (p1 : Int) (x3 : Bool) : Option ((List Int) × Int) := if x3 = true then (some (([] : List Int), 2)) else ((loop (fun v : Int × (List Int) × Int => rl_ref17_Digits_l3 p1 v.1 v.2.1 v.2.2) (p0, ([] : List Int), 0)).bind fun x14 => (some (x14, 0)))
noncomputable def rl_ref17_Digits_k1 (p0 : Int) (p1 : Int) (x1 : Bool) : Option ((List Int) × Int) := if x1 = true then (some (([] : List Int), 8)) else (if (decide (p0 < 0)) = true then (rl_ref17_Digits_k2 p0 p1 true) else ((rl_ref17_Size p1).bind fun y17 => (rl_ref17_Digits_k2 p0 p1 (decide (p0 ≥ y17)))))
noncomputable def rl_ref17_Digits (p0 : Int) (p1 : Int) : Option ((List Int) × Int) := if (decide (p1 < 1)) = true then (rl_ref17_Digits_k1 p0 p1 true) else (rl_ref17_Digits_k1 p0 p1 (decide (p1 > 5)))
set_option maxRecDepth 100000 in
theorem rl_ref17_Digits_con (p0 : Int) (p1 : Int) (r : (List Int) × Int) (h : rl_ref17_Digits p0 p1 = some r) : Con Try.prog 75 [vi64 p0, vi64 p1] [] (.tup [.c (.ref 0 1 0 r.1.length), vi64 r.2]) [(0, .row 3 false 1 r.1.length (Ri64 r.1))] := by
 refine con_of tt_ok2 0 Try.func75 (by kernel_rfl) rfl (by kernel_rfl) (fun base X _ => AW.post ?_)
 unfold rl_ref17_Digits at h
 refine AW.sg tt_ok2 [] [] [] 2 [] (by kernel_rfl) ?_
 refine AW.seq (AW.seq ?_)
 refine AW.join (ι := Bool) (fun v => ⟨[(0, vi64 p0), (1, vi64 p1), (13, vb v)], [], 0⟩) (fun v : Bool => rl_ref17_Digits_k1 p0 p1 v = some r) (fun x1 h => ?_) ?_
 ·
  unfold rl_ref17_Digits_k1 at h
  refine AW.tn ?_
  refine AW.co h (by kernel_rfl) (fun c2 h => ?_) (fun c2 h => ?_)
  ·
   refine AW.sg tt_ok2 [(5, vi64 8), (4, .c (.t (.v (.slice none 0 0))))] [] [] 2 [] (by kernel_rfl) ?_
   refine AW.ret (AW.tr ?_)
   obtain rfl := some_inj h
   exact fnR (.inr rfl) [(0, 2)] 1 (.tup [.c (.ref 2 1 0 (([] : List Int).length)), vi64 8]) (conv_adopt (t := 4) (ty := 3) (sz := 1) (n := ([] : List Int).length) (f := Ri64 ([] : List Int)) (by kernel_rfl) rfl) (by kernel_rfl)
  ·
   refine AW.skip (AW.tn ?_)
   refine AW.seq (AW.seq ?_)
   refine AW.join (ι := Bool) (fun v => ⟨[(0, vi64 p0), (1, vi64 p1), (21, vb v)], [], 0⟩) (fun v : Bool => rl_ref17_Digits_k2 p0 p1 v = some r) (fun x3 h => ?_) ?_
   ·
    unfold rl_ref17_Digits_k2 at h
    refine AW.tn ?_
    refine AW.co h (by kernel_rfl) (fun c4 h => ?_) (fun c4 h => ?_)
    ·
     refine AW.sg tt_ok2 [(5, vi64 2), (4, .c (.t (.v (.slice none 0 0))))] [] [] 2 [] (by kernel_rfl) ?_
     refine AW.ret (AW.tr ?_)
     obtain rfl := some_inj h
     exact fnR (.inr rfl) [(0, 2)] 1 (.tup [.c (.ref 2 1 0 (([] : List Int).length)), vi64 2]) (conv_adopt (t := 4) (ty := 3) (sz := 1) (n := ([] : List Int).length) (f := Ri64 ([] : List Int)) (by kernel_rfl) rfl) (by kernel_rfl)
    ·
     refine AW.skip (AW.tn ?_)
     refine AW.sg tt_ok2 [(6, .c (.t (.v (.slice none 0 0))))] [] [] 1 [] (by kernel_rfl) ?_
     refine AW.seq ?_
     refine AW.sg tt_ok2 [(7, vi64 0)] [] [] 2 [] (by kernel_rfl) ?_
     refine AW.block ?_
     obtain ⟨x14, l15, h⟩ := bnd_some h
     refine AW.lp l15 (fun v => ⟨[(0, vi64 v.1), (1, vi64 p1), (6, .c (.ref 0 1 0 v.2.1.length)), (7, vi64 v.2.2)], [(0, .row 3 false 1 v.2.1.length (Ri64 v.2.1))], 1⟩) (fun t : List Int => (.exit 0, ⟨[(6, .c (.ref 0 1 0 t.length))], [(0, .row 3 false 1 t.length (Ri64 t))], 1⟩)) (Conv.trans (conv_adopt (t := 6) (ty := 3) (sz := 1) (n := ([] : List Int).length) (f := Ri64 ([] : List Int)) (by kernel_rfl) rfl) (conv_re [(0, 2)] (by kernel_rfl))) (fun _ => tv) ?_ ?_
     ·
      clear l15 h
      intro v o h
      obtain ⟨x8, x9, x10⟩ := v
      replace h : rl_ref17_Digits_l3 p1 x8 x9 x10 = some o := h
      unfold rl_ref17_Digits_l3 at h
      refine AW.seq ?_
      refine AW.sg tt_ok2 [(24, vb (decide (x10 < p1)))] [] [] 4 [] (by kernel_rfl) ?_
      refine AW.co h (by kernel_rfl) (fun c12 h => ?_) (fun c12 h => ?_)
      ·
       refine AW.skip (AW.tn ?_)
       refine AW.seq (AW.block ?_)
       obtain ⟨g13, h⟩ := ifc h
       refine AW.sg tt_ok2 [(6, .c (.ref 8 1 0 ((x9 ++ ([(x8.tmod 3)] : List Int)).length)))] [0, 7, 8] [(8, .row 3 false 1 (x9 ++ ([(x8.tmod 3)] : List Int)).length (Ri64 (x9 ++ ([(x8.tmod 3)] : List Int))))] 10 [hn, hn, ho (p := (3 : Int) ≠ 0) (by decide), hlit 0 Ei64 1 (fun _ => rfl) ([(x8.tmod 3)] : List Int), happ 0 Ei64 1 8 x9 ([(x8.tmod 3)] : List Int) g13 (by decide)] (by kernel_rfl) ?_
       refine AW.rg tt_ok2 [(0, vi64 (i64.wrap (x8.tdiv 3)))] [] [] 13 [hn, ho (p := (3 : Int) ≠ 0) (by decide)] (by kernel_rfl) ?_
       refine AW.inBlock_normal (AW.tn ?_)
       refine AW.rg tt_ok2 [(7, vi64 (i64.wrap (x10 + 1)))] [] [] 16 [] (by kernel_rfl) ?_
       exact lpn h (conv_re [(0, 8)] (by kernel_rfl))
      ·
       refine AW.exit (AW.thenQ_exit ?_)
       exact lpo h rfl (conv_re [(0, 0)] (by kernel_rfl))
     ·
      show (_ : Exit → St → Prop) (.exit 0) _
      refine AW.inBlock_hit (AW.tn ?_)
      refine AW.sg tt_ok2 [(5, vi64 0), (4, .c (.ref 0 1 0 x14.length))] [] [] 4 [] (by kernel_rfl) ?_
      refine AW.ret ?_
      obtain rfl := some_inj h
      exact fn0 (.inr rfl) [(0, 0)] 1 (.tup [.c (.ref 0 1 0 x14.length), vi64 0]) (by kernel_rfl)
   ·
    rcases ifs h with ⟨c16, h⟩ | ⟨c16, h⟩
    ·
     refine AW.rg tt_ok2 [(21, vb true)] [] [] 8 [hn, ht c16] (by kernel_rfl) ?_
     exact jl true h (conv_re [] (by kernel_rfl))
    ·
     obtain ⟨y17, e18, h⟩ := bnd_some h
     refine AW.rg tt_ok2 [(21, vb (decide (p0 ≥ y17)))] [] [] 7 [hn, hf c16, hn, hn, hn, hk (rl_ref17_Size_con p1 y17 e18)] (by kernel_rfl) ?_
     exact jl (decide (p0 ≥ y17)) h (conv_re [] (by kernel_rfl))
 ·
  rcases ifs h with ⟨c19, h⟩ | ⟨c19, h⟩
  ·
   refine AW.rg tt_ok2 [(13, vb true)] [] [] 8 [hn, ht c19] (by kernel_rfl) ?_
   exact jl true h (conv_re [] (by kernel_rfl))
  ·
   refine AW.rg tt_ok2 [(13, vb (decide (p1 > 5)))] [] [] 8 [hn, hf c19] (by kernel_rfl) ?_
   exact jl (decide (p1 > 5)) h (conv_re [] (by kernel_rfl))
/-! recordlink/recordlinkref25.digits -/
noncomputable def rl_ref25_digits (p0 : S_api_Weights) (p1 : Int) : Option ((List Int) × Int) := (rl_ref25_Check p0).bind fun y1 => (if (y1 != 0) = true then (some (([] : List Int), y1)) else (bind2 (rl_ref17_Digits p1 ((p0.Agree.length : Nat) : Int)) fun y4 y5 => (some (y4, y5))))
set_option maxRecDepth 100000 in
theorem rl_ref25_digits_con (p0 : S_api_Weights) (p1 : Int) (r : (List Int) × Int) (h : rl_ref25_digits p0 p1 = some r) : Con Try.prog 89 [.agg [ci64 p0.Prior, cl 1 Ri64 p0.Agree, cl 1 Ri64 p0.Differ], vi64 p1] [] (.tup [.c (.ref 0 1 0 r.1.length), vi64 r.2]) [(0, .row 3 false 1 r.1.length (Ri64 r.1))] := by
 refine con_of tt_ok2 0 Try.func89 (by kernel_rfl) rfl (by kernel_rfl) (fun base X _ => AW.post ?_)
 unfold rl_ref25_digits at h
 refine AW.sg tt_ok2 [(2, .c (.ptr 0 3 0 0))] [0] [(0, .box 35 [ci64 p0.Prior, cl 1 Ri64 p0.Agree, cl 1 Ri64 p0.Differ])] 3 [] (by kernel_rfl) ?_
 refine AW.seq ?_
 obtain ⟨y1, e2, h⟩ := bnd_some h
 refine AW.sg tt_ok2 [(6, vi64 y1)] [] [] 5 [hn, hk (rl_ref25_Check_con p0 y1 e2)] (by kernel_rfl) ?_
 refine AW.sg tt_ok2 [(10, vb (y1 != 0))] [] [] 7 [] (by kernel_rfl) ?_
 refine AW.co h (by kernel_rfl) (fun c3 h => ?_) (fun c3 h => ?_)
 ·
  refine AW.sg tt_ok2 [(5, vi64 y1), (4, .c (.t (.v (.slice none 0 0))))] [] [] 10 [] (by kernel_rfl) ?_
  refine AW.ret (AW.tr ?_)
  obtain rfl := some_inj h
  exact fnR (.inr rfl) [(0, 10)] 1 (.tup [.c (.ref 10 1 0 (([] : List Int).length)), vi64 y1]) (conv_adopt (t := 4) (ty := 3) (sz := 1) (n := ([] : List Int).length) (f := Ri64 ([] : List Int)) (by kernel_rfl) rfl) (by kernel_rfl)
 ·
  refine AW.skip (AW.tn ?_)
  obtain ⟨y4, y5, e6, h⟩ := bind2_some h
  refine AW.sg tt_ok2 [(5, vi64 y5), (4, .c (.ref 11 1 0 y4.length))] [11] [(11, .row 3 false 1 y4.length (Ri64 y4))] 16 [hn, hn, hn, hn, hm [] [] 1 (rl_ref17_Digits_con p1 ((p0.Agree.length : Nat) : Int) (y4, y5) e6) ⟨rowL_flat Vi64 _ _ _, tv⟩] (by kernel_rfl) ?_
  refine AW.ret ?_
  obtain rfl := some_inj h
  exact fn0 (.inr rfl) [(0, 11)] 1 (.tup [.c (.ref 11 1 0 y4.length), vi64 y5]) (by kernel_rfl)
/-! recordlink/recordlinkref25.Score -/
noncomputable def rl_ref25_Score_k2 (x8 : Int) (x11 : Int) : Option ((Int × Int) ⊕ Int) := some (.inl (x11, i64.wrap (x8 + 1)))
noncomputable def rl_ref25_Score_k3 (p0 : S_api_Weights) (y1 : List Int) (x8 : Int) (x12 : Int) : Option ((Int × Int) ⊕ Int) := if 0 ≤ x8 then (if x8 < (y1.length : Int) then (if ((y1.getD (0 + x8.toNat) 0) == 1) = true then (if x8 < ((p0.Differ.length : Nat) : Int) then (rl_ref25_Score_k2 x8 (i64.wrap (x12 + (p0.Differ.getD x8.toNat 0)))) else none) else (rl_ref25_Score_k2 x8 x12)) else none) else none
noncomputable def rl_ref25_Score_l1 (p0 : S_api_Weights) (y1 : List Int) (x7 : Int) (x8 : Int) : Option ((Int × Int) ⊕ Int) := if (decide (x8 < (y1.length : Int))) = true then (if 0 ≤ x8 then (if x8 < (y1.length : Int) then (if ((y1.getD (0 + x8.toNat) 0) == 2) = true then (if x8 < ((p0.Agree.length : Nat) : Int) then (rl_ref25_Score_k3 p0 y1 x8 (i64.wrap (x7 + (p0.Agree.getD x8.toNat 0)))) else none) else (rl_ref25_Score_k3 p0 y1 x8 x7)) else none) else none) else (some (.inr x7))
noncomputable def rl_ref25_Score (p0 : S_api_Weights) (p1 : Int) : Option (Int × Int) := bind2 (rl_ref25_digits p0 p1) fun y1 y2 => (if (y2 != 0) = true then (some (0, y2)) else ((loop (fun v : Int × Int => rl_ref25_Score_l1 p0 y1 v.1 v.2) (p0.Prior, 0)).bind fun x21 => (some (x21, 0))))
set_option maxRecDepth 100000 in
theorem rl_ref25_Score_con (p0 : S_api_Weights) (p1 : Int) (r : Int × Int) (h : rl_ref25_Score p0 p1 = some r) : Con Try.prog 60 [.agg [ci64 p0.Prior, cl 1 Ri64 p0.Agree, cl 1 Ri64 p0.Differ], vi64 p1] [] (.tup [vi64 r.1, vi64 r.2]) [] := by
 refine con_of tt_ok2 0 Try.func60 (by kernel_rfl) rfl (by kernel_rfl) (fun base X _ => AW.post ?_)
 unfold rl_ref25_Score at h
 refine AW.sg tt_ok2 [(2, .c (.ptr 0 3 0 0))] [0] [(0, .box 35 [ci64 p0.Prior, cl 1 Ri64 p0.Agree, cl 1 Ri64 p0.Differ])] 3 [] (by kernel_rfl) ?_
 obtain ⟨y1, y2, e3, h⟩ := bind2_some h
 refine AW.sg tt_ok2 [(7, vi64 y2), (6, .c (.ref 5 1 0 y1.length))] [5] [(5, .row 3 false 1 y1.length (Ri64 y1))] 11 [hn, hn, hm [] [] 1 (rl_ref25_digits_con p0 p1 (y1, y2) e3) ⟨rowL_flat Vi64 _ _ _, tv⟩] (by kernel_rfl) ?_
 refine AW.seq ?_
 refine AW.sg tt_ok2 [(17, vb (y2 != 0))] [] [] 13 [] (by kernel_rfl) ?_
 refine AW.co h (by kernel_rfl) (fun c4 h => ?_) (fun c4 h => ?_)
 ·
  refine AW.sg tt_ok2 [(5, vi64 y2), (4, vi64 0)] [] [] 16 [] (by kernel_rfl) ?_
  refine AW.ret (AW.tr ?_)
  obtain rfl := some_inj h
  exact fn0 (.inr rfl) [] 0 (.tup [vi64 0, vi64 y2]) (by kernel_rfl)
 ·
  refine AW.skip (AW.tn ?_)
  refine AW.sg tt_ok2 [(8, vi64 p0.Prior)] [] [] 16 [] (by kernel_rfl) ?_
  refine AW.seq ?_
  refine AW.sg tt_ok2 [(9, vi64 0)] [] [] 17 [] (by kernel_rfl) ?_
  refine AW.block ?_
  obtain ⟨x21, l22, h⟩ := bnd_some h
  refine AW.lp l22 (fun v => ⟨[(2, .c (.ptr 0 3 0 0)), (6, .c (.ref 1 1 0 y1.length)), (8, vi64 v.1), (9, vi64 v.2)], [(0, .box 35 [ci64 p0.Prior, cl 1 Ri64 p0.Agree, cl 1 Ri64 p0.Differ]), (1, .row 3 false 1 y1.length (Ri64 y1))], 2⟩) (fun t : Int => (.exit 0, ⟨[(8, vi64 t)], [], 0⟩)) (conv_re [(0, 0), (1, 5)] (by kernel_rfl)) (fun _ => tv) ?_ ?_
  ·
   clear l22 h
   intro v o h
   obtain ⟨x7, x8⟩ := v
   replace h : rl_ref25_Score_l1 p0 y1 x7 x8 = some o := h
   unfold rl_ref25_Score_l1 at h
   refine AW.seq ?_
   refine AW.sg tt_ok2 [(24, vb (decide (x8 < (y1.length : Int))))] [] [] 6 [] (by kernel_rfl) ?_
   refine AW.co h (by kernel_rfl) (fun c10 h => ?_) (fun c10 h => ?_)
   ·
    refine AW.skip (AW.tn (AW.seq ?_))
    refine AW.join (ι := Int) (fun v => ⟨[(2, .c (.ptr 0 3 0 0)), (6, .c (.ref 1 1 0 y1.length)), (8, vi64 v), (9, vi64 x8)], [(0, .box 35 [ci64 p0.Prior, cl 1 Ri64 p0.Agree, cl 1 Ri64 p0.Differ]), (1, .row 3 false 1 y1.length (Ri64 y1))], 2⟩) (fun v : Int => rl_ref25_Score_k2 x8 v = some o) (fun x11 h => ?_) ?_
    ·
     unfold rl_ref25_Score_k2 at h
     refine AW.tn ?_
     refine AW.rg tt_ok2 [(9, vi64 (i64.wrap (x8 + 1)))] [] [] 5 [] (by kernel_rfl) ?_
     exact lpn h (conv_re [(0, 0), (1, 1)] (by kernel_rfl))
    ·
     refine AW.block (AW.seq ?_)
     refine AW.join (ι := Int) (fun v => ⟨[(2, .c (.ptr 0 3 0 0)), (6, .c (.ref 1 1 0 y1.length)), (8, vi64 v), (9, vi64 x8)], [(0, .box 35 [ci64 p0.Prior, cl 1 Ri64 p0.Agree, cl 1 Ri64 p0.Differ]), (1, .row 3 false 1 y1.length (Ri64 y1))], 2⟩) (fun v : Int => rl_ref25_Score_k3 p0 y1 x8 v = some o) (fun x12 h => ?_) ?_
     ·
      unfold rl_ref25_Score_k3 at h
      refine AW.tn ?_
      obtain ⟨g13, g14, h⟩ := ifd h
      refine AW.sg tt_ok2 [(43, vb ((y1.getD (0 + x8.toNat) 0) == 1))] [] [] 7 [hn, hn, hq g13 g14, ho (p := (0 + x8.toNat) < y1.length) (by have h1 : 0 ≤ x8 := g13; have h2 : x8 < (y1.length : Int) := g14; omega)] (by kernel_rfl) ?_
      refine AW.co h (by kernel_rfl) (fun c15 h => ?_) (fun c15 h => ?_)
      ·
       obtain ⟨g16, h⟩ := ifc h
       refine AW.rg tt_ok2 [(8, vi64 (i64.wrap (x12 + (p0.Differ.getD x8.toNat 0))))] [] [] 15 [hn, hn, hn, hn, hq g13 g16] (by kernel_rfl) ?_
       refine AW.inBlock_normal ?_
       exact jl (i64.wrap (x12 + (p0.Differ.getD x8.toNat 0))) h (conv_re [(0, 0), (1, 1)] (by kernel_rfl))
      ·
       refine AW.skip (AW.inBlock_normal ?_)
       exact jl x12 h (conv_re [(0, 0), (1, 1)] (by kernel_rfl))
     ·
      obtain ⟨g17, g18, h⟩ := ifd h
      refine AW.sg tt_ok2 [(31, vb ((y1.getD (0 + x8.toNat) 0) == 2))] [] [] 11 [hn, hn, hq g17 g18, ho (p := (0 + x8.toNat) < y1.length) (by have h1 : 0 ≤ x8 := g17; have h2 : x8 < (y1.length : Int) := g18; omega)] (by kernel_rfl) ?_
      refine AW.co h (by kernel_rfl) (fun c19 h => ?_) (fun c19 h => ?_)
      ·
       obtain ⟨g20, h⟩ := ifc h
       refine AW.rg tt_ok2 [(8, vi64 (i64.wrap (x7 + (p0.Agree.getD x8.toNat 0))))] [] [] 19 [hn, hn, hn, hn, hq g17 g20] (by kernel_rfl) ?_
       exact jl (i64.wrap (x7 + (p0.Agree.getD x8.toNat 0))) h (conv_re [(0, 0), (1, 1)] (by kernel_rfl))
      ·
       refine AW.skip ?_
       exact jl x7 h (conv_re [(0, 0), (1, 1)] (by kernel_rfl))
   ·
    refine AW.exit (AW.thenQ_exit ?_)
    exact lpo h rfl (conv_re [] (by kernel_rfl))
  ·
   show (_ : Exit → St → Prop) (.exit 0) _
   refine AW.inBlock_hit (AW.tn ?_)
   refine AW.sg tt_ok2 [(5, vi64 0), (4, vi64 x21)] [] [] 3 [] (by kernel_rfl) ?_
   refine AW.ret ?_
   obtain rfl := some_inj h
   exact fn0 (.inr rfl) [] 0 (.tup [vi64 x21, vi64 0]) (by kernel_rfl)
/-! recordlink/recordlinkref26.Make -/
noncomputable def rl_ref26_Make_k2 (x6 : Int) (x8 : Bool) : Option (Int ⊕ (Unit ⊕ Unit)) := if x8 = true then (some (.inr (.inr ()))) else (some (.inl (i64.wrap (x6 + 1))))
noncomputable def rl_ref26_Make_l1 (p1 : List Int) (x6 : Int) : Option (Int ⊕ (Unit ⊕ Unit)) := if (decide (x6 < (p1.length : Int))) = true then (if 0 ≤ x6 then (if x6 < (p1.length : Int) then (if (decide ((p1.getD x6.toNat 0) < 0)) = true then (rl_ref26_Make_k2 x6 true) else (rl_ref26_Make_k2 x6 (decide ((p1.getD x6.toNat 0) > 1000)))) else none) else none) else (some (.inr (.inl ())))
noncomputable def rl_ref26_Make_l3 (p0 : S_api_Weights) (p2 : Int) (p3 : List (List S_api_Sent)) (x15 : Int) : Option (Int ⊕ (Unit ⊕ Int)) := if (decide (x15 < (p3.length : Int))) = true then (if 0 ≤ x15 then (if x15 < (p3.length : Int) then ((rl_ref26_Check ((p0.Agree.length : Nat) : Int) p2 (p3.getD x15.toNat ([] : List S_api_Sent))).bind fun y20 => (if (y20 != 0) = true then (some (.inr (.inr y20))) else (some (.inl (i64.wrap (x15 + 1)))))) else none) else none) else (some (.inr (.inl ())))
noncomputable def rl_ref26_Make_k8 (x46 : Int) (x51 : List S_api_Candidate) : Option (((List S_api_Candidate) × Int) ⊕ (List S_api_Candidate)) := some (.inl (x51, i64.wrap (x46 + 1)))
noncomputable def rl_ref26_Make_l7 (p0 : S_api_Weights) (p1 : List Int) (p3 : List (List S_api_Sent)) (x26 : Int) (x32 : Int) (x40 : Int) (x45 : List S_api_Candidate) (x46 : Int) : Option (((List S_api_Candidate) × Int) ⊕ (List S_api_Candidate)) := if 0 ≤ x40 then (if x40 < (p3.length : Int) then (if (decide (x46 < (((p3.getD x40.toNat ([] : List S_api_Sent)).length : Nat) : Int))) = true then (if 0 ≤ x32 then (if x32 < (((p3.getD x26.toNat ([] : List S_api_Sent)).length : Nat) : Int) then (if 0 ≤ x46 then (if x46 < (((p3.getD x40.toNat ([] : List S_api_Sent)).length : Nat) : Int) then ((rl_ref26_Agree (⟨(((p3.getD x26.toNat ([] : List S_api_Sent)).getD x32.toNat dS_api_Sent).Record), ((p3.getD x26.toNat ([] : List S_api_Sent)).getD x32.toNat dS_api_Sent).Hashes, ((p3.getD x26.toNat ([] : List S_api_Sent)).getD x32.toNat dS_api_Sent).Has⟩ : S_api_Sent) (⟨(((p3.getD x40.toNat ([] : List S_api_Sent)).getD x46.toNat dS_api_Sent).Record), ((p3.getD x40.toNat ([] : List S_api_Sent)).getD x46.toNat dS_api_Sent).Hashes, ((p3.getD x40.toNat ([] : List S_api_Sent)).getD x46.toNat dS_api_Sent).Has⟩ : S_api_Sent)).bind fun y56 => (if (!y56) = true then (rl_ref26_Make_k8 x46 x45) else (bind2 (rl_ref17_Compare (((p3.getD x26.toNat ([] : List S_api_Sent)).getD x32.toNat dS_api_Sent).Record) (((p3.getD x40.toNat ([] : List S_api_Sent)).getD x46.toNat dS_api_Sent).Record)) fun y59 y60 => (bind2 (rl_ref17_Pattern p1 y59) fun y62 y63 => (bind2 (rl_ref25_Score p0 y62) fun y65 y66 => (if x45.length + ([(⟨(⟨x26, (((p3.getD x26.toNat ([] : List S_api_Sent)).getD x32.toNat dS_api_Sent).Record).ID⟩ : S_api_Ref), (⟨x40, (((p3.getD x40.toNat ([] : List S_api_Sent)).getD x46.toNat dS_api_Sent).Record).ID⟩ : S_api_Ref), y62, y65⟩ : S_api_Candidate)] : List S_api_Candidate).length ≤ 1099511627776 then (rl_ref26_Make_k8 x46 (x45 ++ ([(⟨(⟨x26, (((p3.getD x26.toNat ([] : List S_api_Sent)).getD x32.toNat dS_api_Sent).Record).ID⟩ : S_api_Ref), (⟨x40, (((p3.getD x40.toNat ([] : List S_api_Sent)).getD x46.toNat dS_api_Sent).Record).ID⟩ : S_api_Ref), y62, y65⟩ : S_api_Candidate)] : List S_api_Candidate))) else none)))))) else none) else none) else none) else none) else (some (.inr x45))) else none) else none
noncomputable def rl_ref26_Make_l6 (p0 : S_api_Weights) (p1 : List Int) (p3 : List (List S_api_Sent)) (x26 : Int) (x32 : Int) (x39 : List S_api_Candidate) (x40 : Int) : Option (((List S_api_Candidate) × Int) ⊕ (List S_api_Candidate)) := if (decide (x40 < (p3.length : Int))) = true then ((loop (fun v : (List S_api_Candidate) × Int => rl_ref26_Make_l7 p0 p1 p3 x26 x32 x40 v.1 v.2) (x39, 0)).bind fun x69 => (some (.inl (x69, i64.wrap (x40 + 1))))) else (some (.inr x39))
noncomputable def rl_ref26_Make_l5 (p0 : S_api_Weights) (p1 : List Int) (p3 : List (List S_api_Sent)) (x26 : Int) (x31 : List S_api_Candidate) (x32 : Int) : Option (((List S_api_Candidate) × Int) ⊕ (List S_api_Candidate)) := if 0 ≤ x26 then (if x26 < (p3.length : Int) then (if (decide (x32 < (((p3.getD x26.toNat ([] : List S_api_Sent)).length : Nat) : Int))) = true then ((loop (fun v : (List S_api_Candidate) × Int => rl_ref26_Make_l6 p0 p1 p3 x26 x32 v.1 v.2) (x31, i64.wrap (x26 + 1))).bind fun x71 => (some (.inl (x71, i64.wrap (x32 + 1))))) else (some (.inr x31))) else none) else none
noncomputable def rl_ref26_Make_l4 (p0 : S_api_Weights) (p1 : List Int) (p3 : List (List S_api_Sent)) (x25 : List S_api_Candidate) (x26 : Int) : Option (((List S_api_Candidate) × Int) ⊕ (List S_api_Candidate)) := if (decide (x26 < (p3.length : Int))) = true then ((loop (fun v : (List S_api_Candidate) × Int => rl_ref26_Make_l5 p0 p1 p3 x26 v.1 v.2) (x25, 0)).bind fun x73 => (some (.inl (x73, i64.wrap (x26 + 1))))) else (some (.inr x25))
noncomputable def rl_ref26_Make_a9 (p0 : S_api_Weights) (p1 : List Int) (p3 : List (List S_api_Sent)) : Option ((List S_api_Candidate) × Int) := (loop (fun v : (List S_api_Candidate) × Int => rl_ref26_Make_l4 p0 p1 p3 v.1 v.2) (([] : List S_api_Candidate), 0)).bind fun x75 => (if (decide ((x75.length : Int) > 4096)) = true then (some (([] : List S_api_Candidate), 1)) else (some (x75, 0)))
noncomputable def rl_ref26_Make_a10 (x78 : Int) : Option ((List S_api_Candidate) × Int) := some (([] : List S_api_Candidate), x78)
noncomputable def rl_ref26_Make_a11 (p0 : S_api_Weights) (p1 : List Int) (p2 : Int) (p3 : List (List S_api_Sent)) : Option ((List S_api_Candidate) × Int) := if (decide ((p3.length : Int) > 4)) = true then (some (([] : List S_api_Candidate), 1)) else (bindE (loop (fun v : Int => rl_ref26_Make_l3 p0 p2 p3 v) 0) (fun t => rl_ref26_Make_a9 p0 p1 p3) (fun t => rl_ref26_Make_a10 t))
noncomputable def rl_ref26_Make_a12 : Option ((List S_api_Candidate) × Int) := some (([] : List S_api_Candidate), 2)
noncomputable def rl_ref26_Make (p0 : S_api_Weights) (p1 : List Int) (p2 : Int) (p3 : List (List S_api_Sent)) : Option ((List S_api_Candidate) × Int) := (rl_ref25_Check p0).bind fun y1 => (if (y1 != 0) = true then (some (([] : List S_api_Candidate), y1)) else (if ((p1.length : Int) != ((p0.Agree.length : Nat) : Int)) = true then (some (([] : List S_api_Candidate), 8)) else (bindE (loop (fun v : Int => rl_ref26_Make_l1 p1 v) 0) (fun t => rl_ref26_Make_a11 p0 p1 p2 p3) (fun t => rl_ref26_Make_a12))))
set_option maxRecDepth 100000 in
theorem rl_ref26_Make_con (p0 : S_api_Weights) (p1 : List Int) (p2 : Int) (p3 : List (List S_api_Sent)) (r : (List S_api_Candidate) × Int) (h : rl_ref26_Make p0 p1 p2 p3 = some r) : Con Try.prog 29 [.agg [ci64 p0.Prior, cl 1 Ri64 p0.Agree, cl 1 Ri64 p0.Differ], vl 1 Ri64 p1, vi64 p2, vl 1 RlS_api_Sent p3] [] (.tup [.c (.ref 0 6 0 r.1.length), vi64 r.2]) [(0, .row 49 false 6 r.1.length (RS_api_Candidate r.1))] := by
 refine con_of tt_ok2 0 Try.func29 (by kernel_rfl) rfl (by kernel_rfl) (fun base X _ => AW.post ?_)
 unfold rl_ref26_Make at h
 refine AW.sg tt_ok2 [(4, .c (.ptr 0 3 0 0))] [0] [(0, .box 35 [ci64 p0.Prior, cl 1 Ri64 p0.Agree, cl 1 Ri64 p0.Differ])] 3 [] (by kernel_rfl) ?_
 refine AW.seq ?_
 obtain ⟨y1, e2, h⟩ := bnd_some h
 refine AW.sg tt_ok2 [(10, vi64 y1)] [] [] 5 [hn, hk (rl_ref25_Check_con p0 y1 e2)] (by kernel_rfl) ?_
 refine AW.sg tt_ok2 [(30, vb (y1 != 0))] [] [] 7 [] (by kernel_rfl) ?_
 refine AW.co h (by kernel_rfl) (fun c3 h => ?_) (fun c3 h => ?_)
 ·
  refine AW.sg tt_ok2 [(9, vi64 y1), (8, .c (.t (.v (.slice none 0 0))))] [] [] 10 [] (by kernel_rfl) ?_
  refine AW.ret (AW.tr ?_)
  obtain rfl := some_inj h
  exact fnR (.inr rfl) [(0, 10)] 1 (.tup [.c (.ref 10 6 0 (([] : List S_api_Candidate).length)), vi64 y1]) (conv_adopt (t := 8) (ty := 49) (sz := 6) (n := ([] : List S_api_Candidate).length) (f := RS_api_Candidate ([] : List S_api_Candidate)) (by kernel_rfl) rfl) (by kernel_rfl)
 ·
  refine AW.skip (AW.tn (AW.seq ?_))
  refine AW.sg tt_ok2 [(37, vb ((p1.length : Int) != ((p0.Agree.length : Nat) : Int)))] [] [] 13 [] (by kernel_rfl) ?_
  refine AW.co h (by kernel_rfl) (fun c4 h => ?_) (fun c4 h => ?_)
  ·
   refine AW.sg tt_ok2 [(9, vi64 8), (8, .c (.t (.v (.slice none 0 0))))] [] [] 15 [] (by kernel_rfl) ?_
   refine AW.ret (AW.tr ?_)
   obtain rfl := some_inj h
   exact fnR (.inr rfl) [(0, 15)] 1 (.tup [.c (.ref 15 6 0 (([] : List S_api_Candidate).length)), vi64 8]) (conv_adopt (t := 8) (ty := 49) (sz := 6) (n := ([] : List S_api_Candidate).length) (f := RS_api_Candidate ([] : List S_api_Candidate)) (by kernel_rfl) rfl) (by kernel_rfl)
  ·
   refine AW.skip (AW.tn (AW.seq ?_))
   refine AW.sg tt_ok2 [(11, vi64 0)] [] [] 14 [] (by kernel_rfl) ?_
   refine AW.block ?_
   refine AW.lpE h (fun v => ⟨[(1, vl 1 Ri64 p1), (2, vi64 p2), (3, vl 1 RlS_api_Sent p3), (4, .c (.ptr 0 3 0 0)), (11, vi64 v)], [(0, .box 35 [ci64 p0.Prior, cl 1 Ri64 p0.Agree, cl 1 Ri64 p0.Differ])], 1⟩) (fun t => (.exit 0, ⟨[(1, vl 1 Ri64 p1), (2, vi64 p2), (3, vl 1 RlS_api_Sent p3), (4, .c (.ptr 0 3 0 0))], [(0, .box 35 [ci64 p0.Prior, cl 1 Ri64 p0.Agree, cl 1 Ri64 p0.Differ])], 1⟩)) (fun t => (.ret, ⟨[(8, .c (.t (.v (.slice none 0 0)))), (9, vi64 2)], [], 0⟩)) (conv_re [(0, 0)] (by kernel_rfl)) (fun _ => tv) (fun _ => tv) ?_ (fun t h => ?_) (fun t h => ?_)
   ·
    clear h
    intro x6 o h
    unfold rl_ref26_Make_l1 at h
    refine AW.seq ?_
    refine AW.sg tt_ok2 [(41, vb (decide (x6 < (p1.length : Int))))] [] [] 5 [] (by kernel_rfl) ?_
    refine AW.co h (by kernel_rfl) (fun c7 h => ?_) (fun c7 h => ?_)
    ·
     refine AW.skip (AW.tn ?_)
     refine AW.seq (AW.block (AW.seq ?_))
     refine AW.join (ι := Bool) (fun v => ⟨[(1, vl 1 Ri64 p1), (2, vi64 p2), (3, vl 1 RlS_api_Sent p3), (4, .c (.ptr 0 3 0 0)), (11, vi64 x6), (55, vb v)], [(0, .box 35 [ci64 p0.Prior, cl 1 Ri64 p0.Agree, cl 1 Ri64 p0.Differ])], 1⟩) (fun v : Bool => rl_ref26_Make_k2 x6 v = some o) (fun x8 h => ?_) ?_
     ·
      unfold rl_ref26_Make_k2 at h
      refine AW.tn ?_
      refine AW.co h (by kernel_rfl) (fun c9 h => ?_) (fun c9 h => ?_)
      ·
       refine AW.sg tt_ok2 [(9, vi64 2), (8, .c (.t (.v (.slice none 0 0))))] [] [] 3 [] (by kernel_rfl) ?_
       refine AW.ret (AW.inBlock_ret (AW.tr ?_))
       exact lpo h rfl (conv_re [] (by kernel_rfl))
      ·
       refine AW.skip (AW.inBlock_normal (AW.tn ?_))
       refine AW.rg tt_ok2 [(11, vi64 (i64.wrap (x6 + 1)))] [] [] 4 [] (by kernel_rfl) ?_
       exact lpn h (conv_re [(0, 0)] (by kernel_rfl))
     ·
      obtain ⟨g10, g11, h⟩ := ifd h
      rcases ifs h with ⟨c12, h⟩ | ⟨c12, h⟩
      ·
       refine AW.rg tt_ok2 [(55, vb true)] [] [] 17 [hn, hn, hq g10 g11, hn, ht c12] (by kernel_rfl) ?_
       exact jl true h (conv_re [(0, 0)] (by kernel_rfl))
      ·
       refine AW.rg tt_ok2 [(55, vb (decide ((p1.getD x6.toNat 0) > 1000)))] [] [] 17 [hn, hn, hq g10 g11, hn, hf c12, hn, hn, hn, hq g10 g11] (by kernel_rfl) ?_
       exact jl (decide ((p1.getD x6.toNat 0) > 1000)) h (conv_re [(0, 0)] (by kernel_rfl))
    ·
     refine AW.exit (AW.thenQ_exit ?_)
     exact lpo h rfl (conv_re [(0, 0)] (by kernel_rfl))
   ·
    replace h : rl_ref26_Make_a11 p0 p1 p2 p3 = some r := h
    unfold rl_ref26_Make_a11 at h
    show (_ : Exit → St → Prop) (.exit 0) _
    refine AW.inBlock_hit (AW.tn (AW.seq ?_))
    refine AW.sg tt_ok2 [(58, vb (decide ((p3.length : Int) > 4)))] [] [] 4 [] (by kernel_rfl) ?_
    refine AW.co h (by kernel_rfl) (fun c13 h => ?_) (fun c13 h => ?_)
    ·
     refine AW.sg tt_ok2 [(9, vi64 1), (8, .c (.t (.v (.slice none 0 0))))] [] [] 6 [] (by kernel_rfl) ?_
     refine AW.ret (AW.tr ?_)
     obtain rfl := some_inj h
     exact fnR (.inr rfl) [(0, 6)] 1 (.tup [.c (.ref 6 6 0 (([] : List S_api_Candidate).length)), vi64 1]) (conv_adopt (t := 8) (ty := 49) (sz := 6) (n := ([] : List S_api_Candidate).length) (f := RS_api_Candidate ([] : List S_api_Candidate)) (by kernel_rfl) rfl) (by kernel_rfl)
    ·
     refine AW.skip (AW.tn (AW.seq ?_))
     refine AW.sg tt_ok2 [(12, vi64 0)] [] [] 5 [] (by kernel_rfl) ?_
     refine AW.block ?_
     refine AW.lpE h (fun v => ⟨[(1, vl 1 Ri64 p1), (2, vi64 p2), (3, vl 1 RlS_api_Sent p3), (4, .c (.ptr 0 3 0 0)), (12, vi64 v)], [(0, .box 35 [ci64 p0.Prior, cl 1 Ri64 p0.Agree, cl 1 Ri64 p0.Differ])], 1⟩) (fun t => (.exit 2, ⟨[(1, vl 1 Ri64 p1), (3, vl 1 RlS_api_Sent p3), (4, .c (.ptr 0 3 0 0))], [(0, .box 35 [ci64 p0.Prior, cl 1 Ri64 p0.Agree, cl 1 Ri64 p0.Differ])], 1⟩)) (fun t => (.ret, ⟨[(8, .c (.t (.v (.slice none 0 0)))), (9, vi64 t)], [], 0⟩)) (conv_re [(0, 0)] (by kernel_rfl)) (fun _ => tv) (fun _ => tv) ?_ (fun t h => ?_) (fun x78 h => ?_)
     ·
      clear h
      intro x15 o h
      unfold rl_ref26_Make_l3 at h
      refine AW.seq ?_
      refine AW.sg tt_ok2 [(62, vb (decide (x15 < (p3.length : Int))))] [] [] 5 [] (by kernel_rfl) ?_
      refine AW.co h (by kernel_rfl) (fun c17 h => ?_) (fun c17 h => ?_)
      ·
       refine AW.skip (AW.tn ?_)
       refine AW.seq (AW.block ?_)
       obtain ⟨g18, g19, h⟩ := ifd h
       obtain ⟨y20, e21, h⟩ := bnd_some h
       refine AW.sd tt_ok2 mo2 [] [(13, vi64 y20)] [] 14 [hn, hn, hn, hn, hn, hn, hq g18 g19, hn, hk (rl_ref26_Check_con ((p0.Agree.length : Nat) : Int) p2 (p3.getD x15.toNat ([] : List S_api_Sent)) y20 e21)] (by kernel_rfl) ?_
       refine AW.sg tt_ok2 [(75, vb (y20 != 0))] [] [] 16 [] (by kernel_rfl) ?_
       refine AW.co h (by kernel_rfl) (fun c22 h => ?_) (fun c22 h => ?_)
       ·
        refine AW.sg tt_ok2 [(9, vi64 y20), (8, .c (.t (.v (.slice none 0 0))))] [] [] 19 [] (by kernel_rfl) ?_
        refine AW.ret (AW.inBlock_ret (AW.tr ?_))
        exact lpo h rfl (conv_re [] (by kernel_rfl))
       ·
        refine AW.skip (AW.inBlock_normal (AW.tn ?_))
        refine AW.rg tt_ok2 [(12, vi64 (i64.wrap (x15 + 1)))] [] [] 19 [] (by kernel_rfl) ?_
        exact lpn h (conv_re [(0, 0)] (by kernel_rfl))
      ·
       refine AW.exit (AW.thenQ_exit ?_)
       exact lpo h rfl (conv_re [(0, 0)] (by kernel_rfl))
     ·
      replace h : rl_ref26_Make_a9 p0 p1 p3 = some r := h
      unfold rl_ref26_Make_a9 at h
      show (_ : Exit → St → Prop) (.exit 2) _
      refine AW.inBlock_hit (AW.tn ?_)
      refine AW.sg tt_ok2 [(14, .c (.t (.v (.slice none 0 0))))] [] [] 2 [] (by kernel_rfl) ?_
      refine AW.seq ?_
      refine AW.sg tt_ok2 [(15, vi64 0)] [] [] 3 [] (by kernel_rfl) ?_
      refine AW.block ?_
      obtain ⟨x75, l77, h⟩ := bnd_some h
      refine AW.lp l77 (fun v => ⟨[(1, vl 1 Ri64 p1), (3, vl 1 RlS_api_Sent p3), (4, .c (.ptr 0 3 0 0)), (14, .c (.ref 1 6 0 v.1.length)), (15, vi64 v.2)], [(0, .box 35 [ci64 p0.Prior, cl 1 Ri64 p0.Agree, cl 1 Ri64 p0.Differ]), (1, .row 49 false 6 v.1.length (RS_api_Candidate v.1))], 2⟩) (fun t : List S_api_Candidate => (.exit 4, ⟨[(14, .c (.ref 0 6 0 t.length))], [(0, .row 49 false 6 t.length (RS_api_Candidate t))], 1⟩)) (Conv.trans (conv_adopt (t := 14) (ty := 49) (sz := 6) (n := ([] : List S_api_Candidate).length) (f := RS_api_Candidate ([] : List S_api_Candidate)) (by kernel_rfl) rfl) (conv_re [(0, 0), (1, 3)] (by kernel_rfl))) (fun _ => tv) ?_ ?_
      ·
       clear l77 h
       intro v o h
       obtain ⟨x25, x26⟩ := v
       replace h : rl_ref26_Make_l4 p0 p1 p3 x25 x26 = some o := h
       unfold rl_ref26_Make_l4 at h
       refine AW.seq ?_
       refine AW.sg tt_ok2 [(80, vb (decide (x26 < (p3.length : Int))))] [] [] 6 [] (by kernel_rfl) ?_
       refine AW.co h (by kernel_rfl) (fun c28 h => ?_) (fun c28 h => ?_)
       ·
        refine AW.skip (AW.tn ?_)
        refine AW.seq (AW.block ?_)
        refine AW.sg tt_ok2 [(16, vi64 0)] [] [] 7 [] (by kernel_rfl) ?_
        refine AW.block ?_
        obtain ⟨x73, l74, h⟩ := bnd_some h
        refine AW.lp l74 (fun v => ⟨[(1, vl 1 Ri64 p1), (3, vl 1 RlS_api_Sent p3), (4, .c (.ptr 0 3 0 0)), (14, .c (.ref 1 6 0 v.1.length)), (15, vi64 x26), (16, vi64 v.2)], [(0, .box 35 [ci64 p0.Prior, cl 1 Ri64 p0.Agree, cl 1 Ri64 p0.Differ]), (1, .row 49 false 6 v.1.length (RS_api_Candidate v.1))], 2⟩) (fun t : List S_api_Candidate => (.exit 6, ⟨[(1, vl 1 Ri64 p1), (3, vl 1 RlS_api_Sent p3), (4, .c (.ptr 0 3 0 0)), (14, .c (.ref 1 6 0 t.length)), (15, vi64 x26)], [(0, .box 35 [ci64 p0.Prior, cl 1 Ri64 p0.Agree, cl 1 Ri64 p0.Differ]), (1, .row 49 false 6 t.length (RS_api_Candidate t))], 2⟩)) (conv_re [(0, 0), (1, 1)] (by kernel_rfl)) (fun _ => tv) ?_ ?_
        ·
         clear l74 h
         intro v o h
         obtain ⟨x31, x32⟩ := v
         replace h : rl_ref26_Make_l5 p0 p1 p3 x26 x31 x32 = some o := h
         unfold rl_ref26_Make_l5 at h
         refine AW.seq ?_
         obtain ⟨g34, g35, h⟩ := ifd h
         refine AW.sg tt_ok2 [(89, vb (decide (x32 < (((p3.getD x26.toNat ([] : List S_api_Sent)).length : Nat) : Int))))] [] [] 9 [hn, hn, hn, hq g34 g35] (by kernel_rfl) ?_
         refine AW.co h (by kernel_rfl) (fun c36 h => ?_) (fun c36 h => ?_)
         ·
          refine AW.skip (AW.tn ?_)
          refine AW.seq (AW.block ?_)
          refine AW.sg tt_ok2 [(17, vi64 (i64.wrap (x26 + 1)))] [] [] 12 [] (by kernel_rfl) ?_
          refine AW.block ?_
          obtain ⟨x71, l72, h⟩ := bnd_some h
          refine AW.lp l72 (fun v => ⟨[(1, vl 1 Ri64 p1), (3, vl 1 RlS_api_Sent p3), (4, .c (.ptr 0 3 0 0)), (14, .c (.ref 1 6 0 v.1.length)), (15, vi64 x26), (16, vi64 x32), (17, vi64 v.2)], [(0, .box 35 [ci64 p0.Prior, cl 1 Ri64 p0.Agree, cl 1 Ri64 p0.Differ]), (1, .row 49 false 6 v.1.length (RS_api_Candidate v.1))], 2⟩) (fun t : List S_api_Candidate => (.exit 8, ⟨[(1, vl 1 Ri64 p1), (3, vl 1 RlS_api_Sent p3), (4, .c (.ptr 0 3 0 0)), (14, .c (.ref 1 6 0 t.length)), (15, vi64 x26), (16, vi64 x32)], [(0, .box 35 [ci64 p0.Prior, cl 1 Ri64 p0.Agree, cl 1 Ri64 p0.Differ]), (1, .row 49 false 6 t.length (RS_api_Candidate t))], 2⟩)) (conv_re [(0, 0), (1, 1)] (by kernel_rfl)) (fun _ => tv) ?_ ?_
          ·
           clear l72 h
           intro v o h
           obtain ⟨x39, x40⟩ := v
           replace h : rl_ref26_Make_l6 p0 p1 p3 x26 x32 x39 x40 = some o := h
           unfold rl_ref26_Make_l6 at h
           refine AW.seq ?_
           refine AW.sg tt_ok2 [(97, vb (decide (x40 < (p3.length : Int))))] [] [] 6 [] (by kernel_rfl) ?_
           refine AW.co h (by kernel_rfl) (fun c42 h => ?_) (fun c42 h => ?_)
           ·
            refine AW.skip (AW.tn ?_)
            refine AW.seq (AW.block ?_)
            refine AW.sg tt_ok2 [(18, vi64 0)] [] [] 7 [] (by kernel_rfl) ?_
            refine AW.block ?_
            obtain ⟨x69, l70, h⟩ := bnd_some h
            refine AW.lp l70 (fun v => ⟨[(1, vl 1 Ri64 p1), (3, vl 1 RlS_api_Sent p3), (4, .c (.ptr 0 3 0 0)), (14, .c (.ref 1 6 0 v.1.length)), (15, vi64 x26), (16, vi64 x32), (17, vi64 x40), (18, vi64 v.2)], [(0, .box 35 [ci64 p0.Prior, cl 1 Ri64 p0.Agree, cl 1 Ri64 p0.Differ]), (1, .row 49 false 6 v.1.length (RS_api_Candidate v.1))], 2⟩) (fun t : List S_api_Candidate => (.exit 10, ⟨[(1, vl 1 Ri64 p1), (3, vl 1 RlS_api_Sent p3), (4, .c (.ptr 0 3 0 0)), (14, .c (.ref 1 6 0 t.length)), (15, vi64 x26), (16, vi64 x32), (17, vi64 x40)], [(0, .box 35 [ci64 p0.Prior, cl 1 Ri64 p0.Agree, cl 1 Ri64 p0.Differ]), (1, .row 49 false 6 t.length (RS_api_Candidate t))], 2⟩)) (conv_re [(0, 0), (1, 1)] (by kernel_rfl)) (fun _ => tv) ?_ ?_
            ·
             clear l70 h
             intro v o h
             obtain ⟨x45, x46⟩ := v
             replace h : rl_ref26_Make_l7 p0 p1 p3 x26 x32 x40 x45 x46 = some o := h
             unfold rl_ref26_Make_l7 at h
             refine AW.seq ?_
             obtain ⟨g48, g49, h⟩ := ifd h
             refine AW.sg tt_ok2 [(106, vb (decide (x46 < (((p3.getD x40.toNat ([] : List S_api_Sent)).length : Nat) : Int))))] [] [] 9 [hn, hn, hn, hq g48 g49] (by kernel_rfl) ?_
             refine AW.co h (by kernel_rfl) (fun c50 h => ?_) (fun c50 h => ?_)
             ·
              refine AW.skip (AW.tn (AW.seq ?_))
              refine AW.join (ι := List S_api_Candidate) (fun v => ⟨[(1, vl 1 Ri64 p1), (3, vl 1 RlS_api_Sent p3), (4, .c (.ptr 0 3 0 0)), (14, .c (.ref 1 6 0 v.length)), (15, vi64 x26), (16, vi64 x32), (17, vi64 x40), (18, vi64 x46)], [(0, .box 35 [ci64 p0.Prior, cl 1 Ri64 p0.Agree, cl 1 Ri64 p0.Differ]), (1, .row 49 false 6 v.length (RS_api_Candidate v))], 2⟩) (fun v : List S_api_Candidate => rl_ref26_Make_k8 x46 v = some o) (fun x51 h => ?_) ?_
              ·
               unfold rl_ref26_Make_k8 at h
               refine AW.tn ?_
               refine AW.rg tt_ok2 [(18, vi64 (i64.wrap (x46 + 1)))] [] [] 5 [] (by kernel_rfl) ?_
               exact lpn h (conv_re [(0, 0), (1, 1)] (by kernel_rfl))
              ·
               refine AW.block ?_
               obtain ⟨g52, g53, h⟩ := ifd h
               obtain ⟨g54, g55, h⟩ := ifd h
               refine AW.sd tt_ok2 mo2 [[], [], [], [], [], [], [], [], [], [], [], [], [], [], [23], [24], [23], [24]] [(20, .c (.ptr 24 5 0 0)), (19, .c (.ptr 23 5 0 0))] [(24, .box 44 [ci64 ((((p3.getD x40.toNat ([] : List S_api_Sent)).getD x46.toNat dS_api_Sent).Record).ID), ci64 ((((p3.getD x40.toNat ([] : List S_api_Sent)).getD x46.toNat dS_api_Sent).Record).Version), cl 2 RS_api_Bits ((((p3.getD x40.toNat ([] : List S_api_Sent)).getD x46.toNat dS_api_Sent).Record).Fields), cl 1 Ru64 (((p3.getD x40.toNat ([] : List S_api_Sent)).getD x46.toNat dS_api_Sent).Hashes), cl 1 Rb (((p3.getD x40.toNat ([] : List S_api_Sent)).getD x46.toNat dS_api_Sent).Has)]), (23, .box 44 [ci64 ((((p3.getD x26.toNat ([] : List S_api_Sent)).getD x32.toNat dS_api_Sent).Record).ID), ci64 ((((p3.getD x26.toNat ([] : List S_api_Sent)).getD x32.toNat dS_api_Sent).Record).Version), cl 2 RS_api_Bits ((((p3.getD x26.toNat ([] : List S_api_Sent)).getD x32.toNat dS_api_Sent).Record).Fields), cl 1 Ru64 (((p3.getD x26.toNat ([] : List S_api_Sent)).getD x32.toNat dS_api_Sent).Hashes), cl 1 Rb (((p3.getD x26.toNat ([] : List S_api_Sent)).getD x32.toNat dS_api_Sent).Has)])] 27 [hn, hn, hq g34 g35, hn, hn, hq g52 g53, hn, hn, hn, hq g48 g49, hn, hn, hq g54 g55] (by kernel_rfl) ?_
               refine AW.seq ?_
               obtain ⟨y56, e57, h⟩ := bnd_some h
               refine AW.sg tt_ok2 [(126, vb (!y56))] [] [] 30 [hn, hn, hk (rl_ref26_Agree_con (⟨(((p3.getD x26.toNat ([] : List S_api_Sent)).getD x32.toNat dS_api_Sent).Record), ((p3.getD x26.toNat ([] : List S_api_Sent)).getD x32.toNat dS_api_Sent).Hashes, ((p3.getD x26.toNat ([] : List S_api_Sent)).getD x32.toNat dS_api_Sent).Has⟩ : S_api_Sent) (⟨(((p3.getD x40.toNat ([] : List S_api_Sent)).getD x46.toNat dS_api_Sent).Record), ((p3.getD x40.toNat ([] : List S_api_Sent)).getD x46.toNat dS_api_Sent).Hashes, ((p3.getD x40.toNat ([] : List S_api_Sent)).getD x46.toNat dS_api_Sent).Has⟩ : S_api_Sent) y56 e57)] (by kernel_rfl) ?_
               refine AW.co h (by kernel_rfl) (fun c58 h => ?_) (fun c58 h => ?_)
               ·
                refine AW.exit (AW.thenQ_exit (AW.inBlock_hit ?_))
                exact jl x45 h (conv_re [(0, 0), (1, 1)] (by kernel_rfl))
               ·
                refine AW.skip (AW.tn ?_)
                obtain ⟨y59, y60, e61, h⟩ := bind2_some h
                refine AW.sg tt_ok2 [(21, .c (.ref 34 1 0 y59.length))] [34] [(34, .row 3 false 1 y59.length (Ri64 y59))] 40 [hn, hn, hn, hn, hm [] [] 1 (rl_ref17_Compare_con (((p3.getD x26.toNat ([] : List S_api_Sent)).getD x32.toNat dS_api_Sent).Record) (((p3.getD x40.toNat ([] : List S_api_Sent)).getD x46.toNat dS_api_Sent).Record) (y59, y60) e61) ⟨rowL_flat Vi64 _ _ _, tv⟩] (by kernel_rfl) ?_
                obtain ⟨y62, y63, e64, h⟩ := bind2_some h
                refine AW.sg tt_ok2 [(23, vi64 y62)] [] [] 47 [hn, hn, hg [] [] true 0 (q := (True) ∧ (0 + y59.length ≤ y59.length) ∧ (True)) ⟨tv, le0, tv⟩ (a0 := [vl 1 Ri64 p1, vl 1 Ri64 y59]) (rl_ref17_Pattern_con p1 y59 (y62, y63) e64) ⟨ArgLe.refl _, ArgLe.refl _, tv⟩ (fun _ => tv)] (by kernel_rfl) ?_
                obtain ⟨y65, y66, e67, h⟩ := bind2_some h
                refine AW.sg tt_ok2 [(25, vi64 y65)] [] [] 54 [hn, hn, hk (rl_ref25_Score_con p0 y62 (y65, y66) e67)] (by kernel_rfl) ?_
                obtain ⟨g68, h⟩ := ifc h
                refine AW.rg tt_ok2 [(14, .c (.ref 69 6 0 ((x45 ++ ([(⟨(⟨x26, (((p3.getD x26.toNat ([] : List S_api_Sent)).getD x32.toNat dS_api_Sent).Record).ID⟩ : S_api_Ref), (⟨x40, (((p3.getD x40.toNat ([] : List S_api_Sent)).getD x46.toNat dS_api_Sent).Record).ID⟩ : S_api_Ref), y62, y65⟩ : S_api_Candidate)] : List S_api_Candidate)).length)))] [1, 68, 69] [(69, .row 49 false 6 (x45 ++ ([(⟨(⟨x26, (((p3.getD x26.toNat ([] : List S_api_Sent)).getD x32.toNat dS_api_Sent).Record).ID⟩ : S_api_Ref), (⟨x40, (((p3.getD x40.toNat ([] : List S_api_Sent)).getD x46.toNat dS_api_Sent).Record).ID⟩ : S_api_Ref), y62, y65⟩ : S_api_Candidate)] : List S_api_Candidate)).length (RS_api_Candidate (x45 ++ ([(⟨(⟨x26, (((p3.getD x26.toNat ([] : List S_api_Sent)).getD x32.toNat dS_api_Sent).Record).ID⟩ : S_api_Ref), (⟨x40, (((p3.getD x40.toNat ([] : List S_api_Sent)).getD x46.toNat dS_api_Sent).Record).ID⟩ : S_api_Ref), y62, y65⟩ : S_api_Candidate)] : List S_api_Candidate))))] 71 [hn, hn, hn, hn, hn, hn, hn, hn, hn, hn, hn, hn, hn, hn, hlit dS_api_Candidate ES_api_Candidate 6 (fun _ => rfl) ([(⟨(⟨x26, (((p3.getD x26.toNat ([] : List S_api_Sent)).getD x32.toNat dS_api_Sent).Record).ID⟩ : S_api_Ref), (⟨x40, (((p3.getD x40.toNat ([] : List S_api_Sent)).getD x46.toNat dS_api_Sent).Record).ID⟩ : S_api_Ref), y62, y65⟩ : S_api_Candidate)] : List S_api_Candidate), happ dS_api_Candidate ES_api_Candidate 6 48 x45 ([(⟨(⟨x26, (((p3.getD x26.toNat ([] : List S_api_Sent)).getD x32.toNat dS_api_Sent).Record).ID⟩ : S_api_Ref), (⟨x40, (((p3.getD x40.toNat ([] : List S_api_Sent)).getD x46.toNat dS_api_Sent).Record).ID⟩ : S_api_Ref), y62, y65⟩ : S_api_Candidate)] : List S_api_Candidate) g68 (by decide)] (by kernel_rfl) ?_
                refine AW.inBlock_normal ?_
                exact jl (x45 ++ ([(⟨(⟨x26, (((p3.getD x26.toNat ([] : List S_api_Sent)).getD x32.toNat dS_api_Sent).Record).ID⟩ : S_api_Ref), (⟨x40, (((p3.getD x40.toNat ([] : List S_api_Sent)).getD x46.toNat dS_api_Sent).Record).ID⟩ : S_api_Ref), y62, y65⟩ : S_api_Candidate)] : List S_api_Candidate)) h (conv_re [(0, 0), (1, 69)] (by kernel_rfl))
             ·
              refine AW.exit (AW.thenQ_exit ?_)
              exact lpo h rfl (conv_re [(0, 0), (1, 1)] (by kernel_rfl))
            ·
             show (_ : Exit → St → Prop) (.exit 10) _
             refine AW.inBlock_hit (AW.inBlock_normal (AW.tn ?_))
             refine AW.rg tt_ok2 [(17, vi64 (i64.wrap (x40 + 1)))] [] [] 5 [] (by kernel_rfl) ?_
             exact lpn h (conv_re [(0, 0), (1, 1)] (by kernel_rfl))
           ·
            refine AW.exit (AW.thenQ_exit ?_)
            exact lpo h rfl (conv_re [(0, 0), (1, 1)] (by kernel_rfl))
          ·
           show (_ : Exit → St → Prop) (.exit 8) _
           refine AW.inBlock_hit (AW.inBlock_normal (AW.tn ?_))
           refine AW.rg tt_ok2 [(16, vi64 (i64.wrap (x32 + 1)))] [] [] 5 [] (by kernel_rfl) ?_
           exact lpn h (conv_re [(0, 0), (1, 1)] (by kernel_rfl))
         ·
          refine AW.exit (AW.thenQ_exit ?_)
          exact lpo h rfl (conv_re [(0, 0), (1, 1)] (by kernel_rfl))
        ·
         show (_ : Exit → St → Prop) (.exit 6) _
         refine AW.inBlock_hit (AW.inBlock_normal (AW.tn ?_))
         refine AW.rg tt_ok2 [(15, vi64 (i64.wrap (x26 + 1)))] [] [] 5 [] (by kernel_rfl) ?_
         exact lpn h (conv_re [(0, 0), (1, 1)] (by kernel_rfl))
       ·
        refine AW.exit (AW.thenQ_exit ?_)
        exact lpo h rfl (conv_re [(0, 1)] (by kernel_rfl))
      ·
       show (_ : Exit → St → Prop) (.exit 4) _
       refine AW.inBlock_hit (AW.tn (AW.seq ?_))
       refine AW.sg tt_ok2 [(165, vb (decide ((x75.length : Int) > 4096)))] [] [] 4 [] (by kernel_rfl) ?_
       refine AW.co h (by kernel_rfl) (fun c76 h => ?_) (fun c76 h => ?_)
       ·
        refine AW.sg tt_ok2 [(9, vi64 1), (8, .c (.t (.v (.slice none 0 0))))] [] [] 6 [] (by kernel_rfl) ?_
        refine AW.ret (AW.tr ?_)
        obtain rfl := some_inj h
        exact fnR (.inr rfl) [(0, 6)] 1 (.tup [.c (.ref 6 6 0 (([] : List S_api_Candidate).length)), vi64 1]) (conv_adopt (t := 8) (ty := 49) (sz := 6) (n := ([] : List S_api_Candidate).length) (f := RS_api_Candidate ([] : List S_api_Candidate)) (by kernel_rfl) rfl) (by kernel_rfl)
       ·
        refine AW.skip (AW.tn ?_)
        refine AW.sg tt_ok2 [(9, vi64 0), (8, .c (.ref 0 6 0 x75.length))] [] [] 7 [] (by kernel_rfl) ?_
        refine AW.ret ?_
        obtain rfl := some_inj h
        exact fn0 (.inr rfl) [(0, 0)] 1 (.tup [.c (.ref 0 6 0 x75.length), vi64 0]) (by kernel_rfl)
     ·
      unfold rl_ref26_Make_a10 at h
      show (_ : Exit → St → Prop) (.ret) _
      refine AW.inBlock_ret (AW.tr ?_)
      obtain rfl := some_inj h
      exact fnR (.inr rfl) [(0, 0)] 1 (.tup [.c (.ref 0 6 0 (([] : List S_api_Candidate).length)), vi64 x78]) (conv_adopt (t := 8) (ty := 49) (sz := 6) (n := ([] : List S_api_Candidate).length) (f := RS_api_Candidate ([] : List S_api_Candidate)) (by kernel_rfl) rfl) (by kernel_rfl)
   ·
    replace h : rl_ref26_Make_a12 = some r := h
    unfold rl_ref26_Make_a12 at h
    show (_ : Exit → St → Prop) (.ret) _
    refine AW.inBlock_ret (AW.tr ?_)
    obtain rfl := some_inj h
    exact fnR (.inr rfl) [(0, 0)] 1 (.tup [.c (.ref 0 6 0 (([] : List S_api_Candidate).length)), vi64 2]) (conv_adopt (t := 8) (ty := 49) (sz := 6) (n := ([] : List S_api_Candidate).length) (f := RS_api_Candidate ([] : List S_api_Candidate)) (by kernel_rfl) rfl) (by kernel_rfl)
/-! recordlink/recordlinkref26.Same -/
noncomputable def rl_ref26_Same_l1 (p0 : List S_api_Candidate) (p1 : List S_api_Candidate) (x3 : Int) : Option (Int ⊕ (Unit ⊕ Unit)) := if (decide (x3 < (p0.length : Int))) = true then (if 0 ≤ x3 then (if x3 < (p0.length : Int) then (if x3 < (p1.length : Int) then (if (!((((((p0.getD x3.toNat dS_api_Candidate).A).Registry) == (((p1.getD x3.toNat dS_api_Candidate).A).Registry)) && (((((p0.getD x3.toNat dS_api_Candidate).A).ID) == (((p1.getD x3.toNat dS_api_Candidate).A).ID)) && true)) && ((((((p0.getD x3.toNat dS_api_Candidate).B).Registry) == (((p1.getD x3.toNat dS_api_Candidate).B).Registry)) && (((((p0.getD x3.toNat dS_api_Candidate).B).ID) == (((p1.getD x3.toNat dS_api_Candidate).B).ID)) && true)) && ((((p0.getD x3.toNat dS_api_Candidate).Pattern) == ((p1.getD x3.toNat dS_api_Candidate).Pattern)) && ((((p0.getD x3.toNat dS_api_Candidate).Weight) == ((p1.getD x3.toNat dS_api_Candidate).Weight)) && true))))) = true then (some (.inr (.inr ()))) else (some (.inl (i64.wrap (x3 + 1))))) else none) else none) else none) else (some (.inr (.inl ())))
noncomputable def rl_ref26_Same_a2 : Option Bool := some true
noncomputable def rl_ref26_Same_a3 : Option Bool := some false
noncomputable def rl_ref26_Same (p0 : List S_api_Candidate) (p1 : List S_api_Candidate) : Option Bool := if ((p0.length : Int) != (p1.length : Int)) = true then (some false) else (bindE (loop (fun v : Int => rl_ref26_Same_l1 p0 p1 v) 0) (fun t => rl_ref26_Same_a2) (fun t => rl_ref26_Same_a3))
set_option maxRecDepth 100000 in
theorem rl_ref26_Same_con (p0 : List S_api_Candidate) (p1 : List S_api_Candidate) (r : Bool) (h : rl_ref26_Same p0 p1 = some r) : Con Try.prog 19 [vl 6 RS_api_Candidate p0, vl 6 RS_api_Candidate p1] [] (vb r) [] := by
 refine con_of tt_ok2 0 Try.func19 (by kernel_rfl) rfl (by kernel_rfl) (fun base X _ => AW.post ?_)
 unfold rl_ref26_Same at h
 refine AW.sg tt_ok2 [] [] [] 1 [] (by kernel_rfl) ?_
 refine AW.seq ?_
 refine AW.sg tt_ok2 [(10, vb ((p0.length : Int) != (p1.length : Int)))] [] [] 6 [] (by kernel_rfl) ?_
 refine AW.co h (by kernel_rfl) (fun c1 h => ?_) (fun c1 h => ?_)
 ·
  refine AW.sg tt_ok2 [(4, vb false)] [] [] 7 [] (by kernel_rfl) ?_
  refine AW.ret (AW.tr ?_)
  obtain rfl := some_inj h
  exact fn0 (.inr rfl) [] 0 (vb false) (by kernel_rfl)
 ·
  refine AW.skip (AW.tn (AW.seq ?_))
  refine AW.sg tt_ok2 [(5, vi64 0)] [] [] 7 [] (by kernel_rfl) ?_
  refine AW.block ?_
  refine AW.lpE h (fun v => ⟨[(0, vl 6 RS_api_Candidate p0), (1, vl 6 RS_api_Candidate p1), (5, vi64 v)], [], 0⟩) (fun t => (.exit 0, ⟨[], [], 0⟩)) (fun t => (.ret, ⟨[(4, vb false)], [], 0⟩)) (conv_re [] (by kernel_rfl)) (fun _ => tv) (fun _ => tv) ?_ (fun t h => ?_) (fun t h => ?_)
  ·
   clear h
   intro x3 o h
   unfold rl_ref26_Same_l1 at h
   refine AW.seq ?_
   refine AW.sg tt_ok2 [(14, vb (decide (x3 < (p0.length : Int))))] [] [] 4 [] (by kernel_rfl) ?_
   refine AW.co h (by kernel_rfl) (fun c4 h => ?_) (fun c4 h => ?_)
   ·
    refine AW.skip (AW.tn ?_)
    refine AW.seq (AW.block ?_)
    obtain ⟨g5, g6, h⟩ := ifd h
    obtain ⟨g7, h⟩ := ifc h
    refine AW.sd tt_ok2 mo2 [] [(25, vb (!((((((p0.getD x3.toNat dS_api_Candidate).A).Registry) == (((p1.getD x3.toNat dS_api_Candidate).A).Registry)) && (((((p0.getD x3.toNat dS_api_Candidate).A).ID) == (((p1.getD x3.toNat dS_api_Candidate).A).ID)) && true)) && ((((((p0.getD x3.toNat dS_api_Candidate).B).Registry) == (((p1.getD x3.toNat dS_api_Candidate).B).Registry)) && (((((p0.getD x3.toNat dS_api_Candidate).B).ID) == (((p1.getD x3.toNat dS_api_Candidate).B).ID)) && true)) && ((((p0.getD x3.toNat dS_api_Candidate).Pattern) == ((p1.getD x3.toNat dS_api_Candidate).Pattern)) && ((((p0.getD x3.toNat dS_api_Candidate).Weight) == ((p1.getD x3.toNat dS_api_Candidate).Weight)) && true))))))] [] 13 [hn, hn, hq g5 g6, hn, hn, hn, hq g5 g7] (by kernel_rfl) ?_
    refine AW.co h (by kernel_rfl) (fun c8 h => ?_) (fun c8 h => ?_)
    ·
     refine AW.sg tt_ok2 [(4, vb false)] [] [] 14 [] (by kernel_rfl) ?_
     refine AW.ret (AW.inBlock_ret (AW.tr ?_))
     exact lpo h rfl (conv_re [] (by kernel_rfl))
    ·
     refine AW.skip (AW.inBlock_normal (AW.tn ?_))
     refine AW.rg tt_ok2 [(5, vi64 (i64.wrap (x3 + 1)))] [] [] 16 [] (by kernel_rfl) ?_
     exact lpn h (conv_re [] (by kernel_rfl))
   ·
    refine AW.exit (AW.thenQ_exit ?_)
    exact lpo h rfl (conv_re [] (by kernel_rfl))
  ·
   replace h : rl_ref26_Same_a2 = some r := h
   unfold rl_ref26_Same_a2 at h
   show (_ : Exit → St → Prop) (.exit 0) _
   refine AW.inBlock_hit (AW.tn ?_)
   refine AW.sg tt_ok2 [(4, vb true)] [] [] 1 [] (by kernel_rfl) ?_
   refine AW.ret ?_
   obtain rfl := some_inj h
   exact fn0 (.inr rfl) [] 0 (vb true) (by kernel_rfl)
  ·
   replace h : rl_ref26_Same_a3 = some r := h
   unfold rl_ref26_Same_a3 at h
   show (_ : Exit → St → Prop) (.ret) _
   refine AW.inBlock_ret (AW.tr ?_)
   obtain rfl := some_inj h
   exact fn0 (.inr rfl) [] 0 (vb false) (by kernel_rfl)
end Go.Proofs.Ytknlckjpgmjenaa
