/- Printed by a program of mine (vmgen.py): Go functions, and what they come to. -/
import Derived.Test.YtknlckjpgmjenaaVr
import Derived.Test.YtknlckjpgmjenaaRows
import Derived.Test.YtknlckjpgmjenaaVw
import Derived.Test.YtknlckjpgmjenaaG0
namespace Go.Proofs.Ytknlckjpgmjenaa
open Vm
open IntKind (i64 u64 u32 u8)
set_option maxHeartbeats 10000000
set_option linter.unusedVariables false
set_option linter.unusedSimpArgs false
set_option linter.constructorNameAsVariable false
def ttl1 : List (Nat × TI) := [(3, ⟨.int .i64, 1, 8, [.int .i64 0], false⟩), (4, ⟨.bool, 1, 1, [.bool false], false⟩), (5, ⟨.int .u8, 1, 1, [.int .u8 0], false⟩), (22, ⟨.slice 3, 1, 24, [.slice none 0 0], false⟩), (25, ⟨.ptr 86, 1, 8, [.pointer none], false⟩), (31, ⟨.int .i64, 1, 8, [.int .i64 0], false⟩), (38, ⟨.slice 84, 1, 24, [.slice none 0 0], false⟩), (40, ⟨.struct [(3, 0), (3, 1), (38, 2)], 3, 40, [.int .i64 0, .int .i64 0, .slice none 0 0], false⟩), (41, ⟨.slice 45, 1, 24, [.slice none 0 0], false⟩), (45, ⟨.int .u64, 1, 8, [.int .u64 0], false⟩), (57, ⟨.slice 22, 1, 24, [.slice none 0 0], false⟩), (60, ⟨.arr 3 3, 3, 24, [.int .i64 0, .int .i64 0, .int .i64 0], true⟩), (65, ⟨.slice 40, 1, 24, [.slice none 0 0], false⟩), (67, ⟨.slice 72, 1, 24, [.slice none 0 0], false⟩), (72, ⟨.struct [(3, 0), (3, 1)], 2, 16, [.int .i64 0, .int .i64 0], true⟩), (77, ⟨.slice 67, 1, 24, [.slice none 0 0], false⟩), (84, ⟨.struct [(3, 0), (41, 1)], 2, 32, [.int .i64 0, .slice none 0 0], false⟩), (86, ⟨.struct [(22, 0), (3, 1), (45, 2)], 3, 40, [.slice none 0 0, .int .i64 0, .int .u64 0], false⟩), (127, ⟨.slice 65, 1, 24, [.slice none 0 0], false⟩), (129, ⟨.arr 6 3, 6, 48, [.int .i64 0, .int .i64 0, .int .i64 0, .int .i64 0, .int .i64 0, .int .i64 0], true⟩)]
theorem tt_ok1 : TTok Try.prog (Vm.look ttl1) := ttok_of ⟨⟨by kernel_rfl, by kernel_rfl, by kernel_rfl⟩, ⟨by kernel_rfl, by kernel_rfl, by kernel_rfl⟩, ⟨by kernel_rfl, by kernel_rfl, by kernel_rfl⟩, ⟨by kernel_rfl, by kernel_rfl, by kernel_rfl⟩, ⟨by kernel_rfl, by kernel_rfl, by kernel_rfl⟩, ⟨by kernel_rfl, by kernel_rfl, by kernel_rfl⟩, ⟨by kernel_rfl, by kernel_rfl, by kernel_rfl⟩, ⟨by kernel_rfl, by kernel_rfl, by kernel_rfl⟩, ⟨by kernel_rfl, by kernel_rfl, by kernel_rfl⟩, ⟨by kernel_rfl, by kernel_rfl, by kernel_rfl⟩, ⟨by kernel_rfl, by kernel_rfl, by kernel_rfl⟩, ⟨by kernel_rfl, by kernel_rfl, by kernel_rfl⟩, ⟨by kernel_rfl, by kernel_rfl, by kernel_rfl⟩, ⟨by kernel_rfl, by kernel_rfl, by kernel_rfl⟩, ⟨by kernel_rfl, by kernel_rfl, by kernel_rfl⟩, ⟨by kernel_rfl, by kernel_rfl, by kernel_rfl⟩, ⟨by kernel_rfl, by kernel_rfl, by kernel_rfl⟩, ⟨by kernel_rfl, by kernel_rfl, by kernel_rfl⟩, ⟨by kernel_rfl, by kernel_rfl, by kernel_rfl⟩, ⟨by kernel_rfl, by kernel_rfl, by kernel_rfl⟩, trivial⟩
theorem mo1 : Try.prog.follows .mixedOrders = true := by kernel_rfl
/-! recordlink/recordlinkref09.And -/
noncomputable def rl_ref09_And (p0 : S_api_Bits) (p1 : S_api_Bits) : Option (S_api_Bits × Int) := bind2 (rl_ref09_combine p0 p1 0) fun y1 y2 => (some (y1, y2))
set_option maxRecDepth 100000 in
theorem rl_ref09_And_con (p0 : S_api_Bits) (p1 : S_api_Bits) (r : S_api_Bits × Int) (h : rl_ref09_And p0 p1 = some r) : Con Try.prog 97 [.agg [ci64 p0.Length, cl 1 Ru64 p0.Words], .agg [ci64 p1.Length, cl 1 Ru64 p1.Words]] [] (.tup [.agg [ci64 r.1.Length, .ref 0 1 0 r.1.Words.length], vi64 r.2]) [(0, .row 45 false 1 r.1.Words.length (Ru64 r.1.Words))] := by
 refine con_of tt_ok1 0 Try.func97 (by kernel_rfl) rfl (by kernel_rfl) (fun base X _ => AW.post ?_)
 unfold rl_ref09_And at h
 refine AW.sg tt_ok1 [(4, .c (.ptr 2 2 0 0)), (3, .c (.ptr 1 2 0 0)), (2, .c (.ptr 0 2 0 0))] [0, 1, 2] [(2, .box 84 [ci64 0, .t (.v (.slice none 0 0))]), (1, .box 84 [ci64 p1.Length, cl 1 Ru64 p1.Words]), (0, .box 84 [ci64 p0.Length, cl 1 Ru64 p0.Words])] 4 [] (by kernel_rfl) ?_
 obtain ⟨y1, y2, e3, h⟩ := bind2_some h
 refine AW.sg tt_ok1 [(5, vi64 y2)] [2, 6] [(2, .box 84 [ci64 y1.Length, .ref 6 1 0 y1.Words.length]), (6, .row 45 false 1 y1.Words.length (Ru64 y1.Words))] 11 [hn, hn, hm [] [] 1 (rl_ref09_combine_con p0 p1 0 (y1, y2) e3) ⟨rowL_flat Vu64 _ _ _, tv⟩] (by kernel_rfl) ?_
 refine AW.ret ?_
 obtain rfl := some_inj h
 exact fn0 (.inr rfl) [(0, 6)] 1 (.tup [.agg [ci64 y1.Length, .ref 6 1 0 y1.Words.length], vi64 y2]) (by kernel_rfl)
/-! recordlink/recordlinkref09.Has -/
noncomputable def rl_ref09_Has_k1 (x1 : Bool) : Option Bool := some x1
noncomputable def rl_ref09_Has (p0 : S_api_Bits) (p1 : Int) : Option Bool := (rl_ref09_Valid p0).bind fun y2 => (if y2 = true then (if (decide (p1 ≥ 0)) = true then (if (decide (p1 < p0.Length)) = true then (if 0 ≤ (i64.wrap (p1.tdiv 64)) then (if (i64.wrap (p1.tdiv 64)) < ((p0.Words.length : Nat) : Int) then (if 0 ≤ (p1.tmod 64) then (rl_ref09_Has_k1 ((iand .u64 (ishr .u64 (p0.Words.getD ((i64.wrap (p1.tdiv 64)).toNat) 0) (p1.tmod 64)) 1) == 1)) else none) else none) else none) else (rl_ref09_Has_k1 false)) else (rl_ref09_Has_k1 false)) else (rl_ref09_Has_k1 false))
set_option maxRecDepth 100000 in
theorem rl_ref09_Has_con (p0 : S_api_Bits) (p1 : Int) (r : Bool) (h : rl_ref09_Has p0 p1 = some r) : Con Try.prog 113 [.agg [ci64 p0.Length, cl 1 Ru64 p0.Words], vi64 p1] [] (vb r) [] := by
 refine con_of tt_ok1 0 Try.func113 (by kernel_rfl) rfl (by kernel_rfl) (fun base X _ => AW.post ?_)
 unfold rl_ref09_Has at h
 refine AW.sg tt_ok1 [(2, .c (.ptr 0 2 0 0))] [0] [(0, .box 84 [ci64 p0.Length, cl 1 Ru64 p0.Words])] 2 [] (by kernel_rfl) ?_
 refine AW.seq ?_
 refine AW.join (ι := Bool) (fun v => ⟨[(4, vb v)], [], 0⟩) (fun v : Bool => rl_ref09_Has_k1 v = some r) (fun x1 h => ?_) ?_
 ·
  unfold rl_ref09_Has_k1 at h
  refine AW.tn (AW.ret ?_)
  obtain rfl := some_inj h
  exact fn0 (.inr rfl) [] 0 (vb x1) (by kernel_rfl)
 ·
  obtain ⟨y2, e3, h⟩ := bnd_some h
  rcases ifs h with ⟨c4, hs⟩ | ⟨c4, hs⟩
  ·clear h; subst c4; have h := hs; clear hs
   rcases ifs h with ⟨c5, h⟩ | ⟨c5, h⟩
   ·
    rcases ifs h with ⟨c6, h⟩ | ⟨c6, h⟩
    ·
     obtain ⟨g7, g8, h⟩ := ifd h
     obtain ⟨g9, h⟩ := ifc h
     refine AW.rg tt_ok1 [(4, vb ((iand .u64 (ishr .u64 (p0.Words.getD ((i64.wrap (p1.tdiv 64)).toNat) 0) (p1.tmod 64)) 1) == 1))] [] [] 27 [hn, hk (rl_ref09_Valid_con p0 true e3), hn, hn, ht c5, hn, hn, hn, hn, hn, ht c6, hn, hn, hn, hn, hn, ho (p := (64 : Int) ≠ 0) (by decide), hq g7 g8, hn, hn, ho (p := (64 : Int) ≠ 0) (by decide), ho g9] (by kernel_rfl) ?_
     exact jl ((iand .u64 (ishr .u64 (p0.Words.getD ((i64.wrap (p1.tdiv 64)).toNat) 0) (p1.tmod 64)) 1) == 1) h (conv_re [] (by kernel_rfl))
    ·
     refine AW.rg tt_ok1 [(4, vb false)] [] [] 27 [hn, hk (rl_ref09_Valid_con p0 true e3), hn, hn, ht c5, hn, hn, hn, hn, hn, hf c6] (by kernel_rfl) ?_
     exact jl false h (conv_re [] (by kernel_rfl))
   ·
    refine AW.rg tt_ok1 [(4, vb false)] [] [] 27 [hn, hk (rl_ref09_Valid_con p0 true e3), hn, hn, hf c5] (by kernel_rfl) ?_
    exact jl false h (conv_re [] (by kernel_rfl))
  ·clear h; subst c4; have h := hs; clear hs
   refine AW.rg tt_ok1 [(4, vb false)] [] [] 27 [hn, hk (rl_ref09_Valid_con p0 false e3)] (by kernel_rfl) ?_
   exact jl false h (conv_re [] (by kernel_rfl))
/-! recordlink/recordlinkref09.Count -/
noncomputable def rl_ref09_Count_k3 (x4 : Int) (x8 : Int) : Option ((Int × Int) ⊕ Int) := some (.inl (x8, i64.wrap (x4 + 1)))
noncomputable def rl_ref09_Count_k2 (p0 : S_api_Bits) (x3 : Int) (x4 : Int) (x6 : Bool) : Option ((Int × Int) ⊕ Int) := if x6 = true then ((rl_ref09_Has p0 x4).bind fun y9 => (if y9 = true then (rl_ref09_Count_k3 x4 (i64.wrap (x3 + 1))) else (rl_ref09_Count_k3 x4 x3))) else (some (.inr x3))
noncomputable def rl_ref09_Count_l1 (p0 : S_api_Bits) (x3 : Int) (x4 : Int) : Option ((Int × Int) ⊕ Int) := (rl_ref09_Valid p0).bind fun y12 => (if y12 = true then (rl_ref09_Count_k2 p0 x3 x4 (decide (x4 < p0.Length))) else (rl_ref09_Count_k2 p0 x3 x4 false))
noncomputable def rl_ref09_Count (p0 : S_api_Bits) : Option Int := (loop (fun v : Int × Int => rl_ref09_Count_l1 p0 v.1 v.2) (0, 0)).bind fun x15 => (some x15)
set_option maxRecDepth 100000 in
theorem rl_ref09_Count_con (p0 : S_api_Bits) (r : Int) (h : rl_ref09_Count p0 = some r) : Con Try.prog 98 [.agg [ci64 p0.Length, cl 1 Ru64 p0.Words]] [] (vi64 r) [] := by
 refine con_of tt_ok1 0 Try.func98 (by kernel_rfl) rfl (by kernel_rfl) (fun base X _ => AW.post ?_)
 unfold rl_ref09_Count at h
 refine AW.sg tt_ok1 [(1, .c (.ptr 0 2 0 0))] [0] [(0, .box 84 [ci64 p0.Length, cl 1 Ru64 p0.Words])] 2 [] (by kernel_rfl) ?_
 refine AW.sg tt_ok1 [(3, vi64 0)] [] [] 3 [] (by kernel_rfl) ?_
 refine AW.seq ?_
 refine AW.sg tt_ok1 [(4, vi64 0)] [] [] 4 [] (by kernel_rfl) ?_
 refine AW.block ?_
 obtain ⟨x15, l16, h⟩ := bnd_some h
 refine AW.lp l16 (fun v => ⟨[(1, .c (.ptr 0 2 0 0)), (3, vi64 v.1), (4, vi64 v.2)], [(0, .box 84 [ci64 p0.Length, cl 1 Ru64 p0.Words])], 1⟩) (fun t : Int => (.exit 0, ⟨[(3, vi64 t)], [], 0⟩)) (conv_re [(0, 0)] (by kernel_rfl)) (fun _ => tv) ?_ ?_
 ·
  clear l16 h
  intro v o h
  obtain ⟨x3, x4⟩ := v
  replace h : rl_ref09_Count_l1 p0 x3 x4 = some o := h
  unfold rl_ref09_Count_l1 at h
  refine AW.seq (AW.seq ?_)
  refine AW.join (ι := Bool) (fun v => ⟨[(1, .c (.ptr 0 2 0 0)), (3, vi64 x3), (4, vi64 x4), (12, vb v)], [(0, .box 84 [ci64 p0.Length, cl 1 Ru64 p0.Words])], 1⟩) (fun v : Bool => rl_ref09_Count_k2 p0 x3 x4 v = some o) (fun x6 h => ?_) ?_
  ·
   unfold rl_ref09_Count_k2 at h
   refine AW.tn ?_
   refine AW.co h (by kernel_rfl) (fun c7 h => ?_) (fun c7 h => ?_)
   ·
    refine AW.skip (AW.tn (AW.seq ?_))
    refine AW.join (ι := Int) (fun v => ⟨[(1, .c (.ptr 0 2 0 0)), (3, vi64 v), (4, vi64 x4)], [(0, .box 84 [ci64 p0.Length, cl 1 Ru64 p0.Words])], 1⟩) (fun v : Int => rl_ref09_Count_k3 x4 v = some o) (fun x8 h => ?_) ?_
    ·
     unfold rl_ref09_Count_k3 at h
     refine AW.tn ?_
     refine AW.rg tt_ok1 [(4, vi64 (i64.wrap (x4 + 1)))] [] [] 4 [] (by kernel_rfl) ?_
     exact lpn h (conv_re [(0, 0)] (by kernel_rfl))
    ·
     refine AW.block ?_
     obtain ⟨y9, e10, h⟩ := bnd_some h
     refine AW.sg tt_ok1 [(17, vb y9)] [] [] 3 [hn, hn, hk (rl_ref09_Has_con p0 x4 y9 e10)] (by kernel_rfl) ?_
     refine AW.co h (by kernel_rfl) (fun c11 h => ?_) (fun c11 h => ?_)
     ·
      refine AW.rg tt_ok1 [(3, vi64 (i64.wrap (x3 + 1)))] [] [] 6 [] (by kernel_rfl) ?_
      refine AW.inBlock_normal ?_
      exact jl (i64.wrap (x3 + 1)) h (conv_re [(0, 0)] (by kernel_rfl))
     ·
      refine AW.skip (AW.inBlock_normal ?_)
      exact jl x3 h (conv_re [(0, 0)] (by kernel_rfl))
   ·
    refine AW.exit (AW.thenQ_exit ?_)
    exact lpo h rfl (conv_re [] (by kernel_rfl))
  ·
   obtain ⟨y12, e13, h⟩ := bnd_some h
   rcases ifs h with ⟨c14, hs⟩ | ⟨c14, hs⟩
   ·clear h; subst c14; have h := hs; clear hs
    refine AW.rg tt_ok1 [(12, vb (decide (x4 < p0.Length)))] [] [] 8 [hn, hk (rl_ref09_Valid_con p0 true e13)] (by kernel_rfl) ?_
    exact jl (decide (x4 < p0.Length)) h (conv_re [(0, 0)] (by kernel_rfl))
   ·clear h; subst c14; have h := hs; clear hs
    refine AW.rg tt_ok1 [(12, vb false)] [] [] 8 [hn, hk (rl_ref09_Valid_con p0 false e13)] (by kernel_rfl) ?_
    exact jl false h (conv_re [(0, 0)] (by kernel_rfl))
 ·
  show (_ : Exit → St → Prop) (.exit 0) _
  refine AW.inBlock_hit (AW.tn ?_)
  refine AW.sg tt_ok1 [(2, vi64 x15)] [] [] 2 [] (by kernel_rfl) ?_
  refine AW.ret ?_
  obtain rfl := some_inj h
  exact fn0 (.inr rfl) [] 0 (vi64 x15) (by kernel_rfl)
/-! recordlink/recordlinkref05.Rounded -/
noncomputable def rl_ref05_Rounded (p0 : Int) (p1 : Int) : Option Int := if (i64.wrap (2 * p1)) ≠ 0 then ((some (i64.wrap ((i64.wrap ((i64.wrap (2 * p0)) + p1)).tdiv (i64.wrap (2 * p1))))).bind fun z2 => (some z2)) else none
set_option maxRecDepth 100000 in
theorem rl_ref05_Rounded_con (p0 : Int) (p1 : Int) (r : Int) (h : rl_ref05_Rounded p0 p1 = some r) : Con Try.prog 99 [vi64 p0, vi64 p1] [] (vi64 r) [] := by
 refine con_of tt_ok1 0 Try.func99 (by kernel_rfl) rfl (by kernel_rfl) (fun base X _ => AW.post ?_)
 unfold rl_ref05_Rounded at h
 refine AW.sg tt_ok1 [] [] [] 1 [] (by kernel_rfl) ?_
 obtain ⟨g1, h⟩ := ifc h
 obtain ⟨z2, n3, h⟩ := bnd_some h
 replace n3 := some_inj n3
 refine AW.sg tt_ok1 [(4, vi64 z2)] [] [] 9 [hn, hn, hn, hn, hn, hn, ho g1] (by subst n3; kernel_rfl) ?_
 refine AW.ret ?_
 obtain rfl := some_inj h
 exact fn0 (.inr rfl) [] 0 (vi64 z2) (by kernel_rfl)
/-! recordlink/recordlinkref17.Dice -/
noncomputable def rl_ref17_Dice (p0 : S_api_Bits) (p1 : S_api_Bits) : Option Int := bind2 (rl_ref09_And p0 p1) fun y1 y2 => (if (y2 != 0) = true then (some (-1)) else ((rl_ref09_Count p0).bind fun y5 => ((rl_ref09_Count p1).bind fun y7 => (if ((i64.wrap (y5 + y7)) == 0) = true then (some 0) else ((rl_ref09_Count y1).bind fun y10 => ((rl_ref05_Rounded (i64.wrap (2000 * y10)) (i64.wrap (y5 + y7))).bind fun y12 => (some y12)))))))
set_option maxRecDepth 100000 in
theorem rl_ref17_Dice_con (p0 : S_api_Bits) (p1 : S_api_Bits) (r : Int) (h : rl_ref17_Dice p0 p1 = some r) : Con Try.prog 68 [.agg [ci64 p0.Length, cl 1 Ru64 p0.Words], .agg [ci64 p1.Length, cl 1 Ru64 p1.Words]] [] (vi64 r) [] := by
 refine con_of tt_ok1 0 Try.func68 (by kernel_rfl) rfl (by kernel_rfl) (fun base X _ => AW.post ?_)
 unfold rl_ref17_Dice at h
 refine AW.sg tt_ok1 [(3, .c (.ptr 1 2 0 0)), (2, .c (.ptr 0 2 0 0))] [0, 1] [(1, .box 84 [ci64 p1.Length, cl 1 Ru64 p1.Words]), (0, .box 84 [ci64 p0.Length, cl 1 Ru64 p0.Words])] 3 [] (by kernel_rfl) ?_
 obtain ⟨y1, y2, e3, h⟩ := bind2_some h
 refine AW.sg tt_ok1 [(6, vi64 y2), (5, .c (.ptr 9 2 0 0))] [5, 9] [(9, .box 84 [ci64 y1.Length, .ref 5 1 0 y1.Words.length]), (5, .row 45 false 1 y1.Words.length (Ru64 y1.Words))] 12 [hn, hn, hm [] [] 1 (rl_ref09_And_con p0 p1 (y1, y2) e3) ⟨rowL_flat Vu64 _ _ _, tv⟩] (by kernel_rfl) ?_
 refine AW.seq ?_
 refine AW.sg tt_ok1 [(15, vb (y2 != 0))] [] [] 14 [] (by kernel_rfl) ?_
 refine AW.co h (by kernel_rfl) (fun c4 h => ?_) (fun c4 h => ?_)
 ·
  refine AW.sg tt_ok1 [(4, vi64 (-1))] [] [] 15 [] (by kernel_rfl) ?_
  refine AW.ret (AW.tr ?_)
  obtain rfl := some_inj h
  exact fn0 (.inr rfl) [] 0 (vi64 (-1)) (by kernel_rfl)
 ·
  refine AW.skip (AW.tn ?_)
  obtain ⟨y5, e6, h⟩ := bnd_some h
  obtain ⟨y7, e8, h⟩ := bnd_some h
  refine AW.sd tt_ok1 mo1 [] [(7, vi64 (i64.wrap (y5 + y7)))] [] 18 [hn, hk (rl_ref09_Count_con p0 y5 e6), hn, hk (rl_ref09_Count_con p1 y7 e8)] (by kernel_rfl) ?_
  refine AW.seq ?_
  refine AW.sg tt_ok1 [(22, vb ((i64.wrap (y5 + y7)) == 0))] [] [] 20 [] (by kernel_rfl) ?_
  refine AW.co h (by kernel_rfl) (fun c9 h => ?_) (fun c9 h => ?_)
  ·
   refine AW.sg tt_ok1 [(4, vi64 0)] [] [] 21 [] (by kernel_rfl) ?_
   refine AW.ret (AW.tr ?_)
   obtain rfl := some_inj h
   exact fn0 (.inr rfl) [] 0 (vi64 0) (by kernel_rfl)
  ·
   refine AW.skip (AW.tn ?_)
   obtain ⟨y10, e11, h⟩ := bnd_some h
   obtain ⟨y12, e13, h⟩ := bnd_some h
   refine AW.sg tt_ok1 [(4, vi64 y12)] [] [] 24 [hn, hg [] [] true 0 (q := ((True) ∧ (0 + y1.Words.length ≤ y1.Words.length) ∧ (True)) ∧ (True)) ⟨⟨tv, le0, tv⟩, tv⟩ (a0 := [.agg [ci64 y1.Length, cl 1 Ru64 y1.Words]]) (rl_ref09_Count_con y1 y10 e11) ⟨ArgLe.refl _, tv⟩ (fun _ => tv), hn, hn, hk (rl_ref05_Rounded_con (i64.wrap (2000 * y10)) (i64.wrap (y5 + y7)) y12 e13)] (by kernel_rfl) ?_
   refine AW.ret ?_
   obtain rfl := some_inj h
   exact fn0 (.inr rfl) [] 0 (vi64 y12) (by kernel_rfl)
/-! recordlink/recordlinkref17.Compare -/
noncomputable def rl_ref17_Compare_l2 (p0 : S_api_Encoded) (p1 : S_api_Encoded) (x5 : List Int) (x6 : Int) : Option (((List Int) × Int) ⊕ (List Int)) := if (decide (x6 < ((p0.Fields.length : Nat) : Int))) = true then (if 0 ≤ x6 then (if x6 < ((p0.Fields.length : Nat) : Int) then (if x6 < ((p1.Fields.length : Nat) : Int) then ((rl_ref17_Dice (p0.Fields.getD x6.toNat dS_api_Bits) (p1.Fields.getD x6.toNat dS_api_Bits)).bind fun y12 => (if x5.length + ([y12] : List Int).length ≤ 1099511627776 then (some (.inl ((x5 ++ ([y12] : List Int)), i64.wrap (x6 + 1)))) else none)) else none) else none) else none) else (some (.inr x5))
noncomputable def rl_ref17_Compare_k1 (p0 : S_api_Encoded) (p1 : S_api_Encoded) (x1 : Bool) : Option ((List Int) × Int) := if x1 = true then (some (([] : List Int), 8)) else ((loop (fun v : (List Int) × Int => rl_ref17_Compare_l2 p0 p1 v.1 v.2) (([] : List Int), 0)).bind fun x15 => (some (x15, 0)))
noncomputable def rl_ref17_Compare (p0 : S_api_Encoded) (p1 : S_api_Encoded) : Option ((List Int) × Int) := if (((p0.Fields.length : Nat) : Int) != ((p1.Fields.length : Nat) : Int)) = true then (rl_ref17_Compare_k1 p0 p1 true) else (if (decide (((p0.Fields.length : Nat) : Int) < 1)) = true then (rl_ref17_Compare_k1 p0 p1 true) else (rl_ref17_Compare_k1 p0 p1 (decide (((p0.Fields.length : Nat) : Int) > 5))))
set_option maxRecDepth 100000 in
theorem rl_ref17_Compare_con (p0 : S_api_Encoded) (p1 : S_api_Encoded) (r : (List Int) × Int) (h : rl_ref17_Compare p0 p1 = some r) : Con Try.prog 39 [.agg [ci64 p0.ID, ci64 p0.Version, cl 2 RS_api_Bits p0.Fields], .agg [ci64 p1.ID, ci64 p1.Version, cl 2 RS_api_Bits p1.Fields]] [] (.tup [.c (.ref 0 1 0 r.1.length), vi64 r.2]) [(0, .row 3 false 1 r.1.length (Ri64 r.1))] := by
 refine con_of tt_ok1 0 Try.func39 (by kernel_rfl) rfl (by kernel_rfl) (fun base X _ => AW.post ?_)
 unfold rl_ref17_Compare at h
 refine AW.sg tt_ok1 [(3, .c (.ptr 1 3 0 0)), (2, .c (.ptr 0 3 0 0))] [0, 1] [(1, .box 40 [ci64 p1.ID, ci64 p1.Version, cl 2 RS_api_Bits p1.Fields]), (0, .box 40 [ci64 p0.ID, ci64 p0.Version, cl 2 RS_api_Bits p0.Fields])] 4 [] (by kernel_rfl) ?_
 refine AW.seq (AW.seq ?_)
 refine AW.join (ι := Bool) (fun v => ⟨[(2, .c (.ptr 0 3 0 0)), (3, .c (.ptr 1 3 0 0)), (26, vb v)], [(0, .box 40 [ci64 p0.ID, ci64 p0.Version, cl 2 RS_api_Bits p0.Fields]), (1, .box 40 [ci64 p1.ID, ci64 p1.Version, cl 2 RS_api_Bits p1.Fields])], 2⟩) (fun v : Bool => rl_ref17_Compare_k1 p0 p1 v = some r) (fun x1 h => ?_) ?_
 ·
  unfold rl_ref17_Compare_k1 at h
  refine AW.tn ?_
  refine AW.co h (by kernel_rfl) (fun c2 h => ?_) (fun c2 h => ?_)
  ·
   refine AW.sg tt_ok1 [(5, vi64 8), (4, .c (.t (.v (.slice none 0 0))))] [] [] 4 [] (by kernel_rfl) ?_
   refine AW.ret (AW.tr ?_)
   obtain rfl := some_inj h
   exact fnR (.inr rfl) [(0, 4)] 1 (.tup [.c (.ref 4 1 0 (([] : List Int).length)), vi64 8]) (conv_adopt (t := 4) (ty := 3) (sz := 1) (n := ([] : List Int).length) (f := Ri64 ([] : List Int)) (by kernel_rfl) rfl) (by kernel_rfl)
  ·
   refine AW.skip (AW.tn ?_)
   refine AW.sg tt_ok1 [(6, .c (.t (.v (.slice none 0 0))))] [] [] 3 [] (by kernel_rfl) ?_
   refine AW.seq ?_
   refine AW.sg tt_ok1 [(7, vi64 0)] [] [] 4 [] (by kernel_rfl) ?_
   refine AW.block ?_
   obtain ⟨x15, l16, h⟩ := bnd_some h
   refine AW.lp l16 (fun v => ⟨[(2, .c (.ptr 0 3 0 0)), (3, .c (.ptr 1 3 0 0)), (6, .c (.ref 2 1 0 v.1.length)), (7, vi64 v.2)], [(0, .box 40 [ci64 p0.ID, ci64 p0.Version, cl 2 RS_api_Bits p0.Fields]), (1, .box 40 [ci64 p1.ID, ci64 p1.Version, cl 2 RS_api_Bits p1.Fields]), (2, .row 3 false 1 v.1.length (Ri64 v.1))], 3⟩) (fun t : List Int => (.exit 0, ⟨[(6, .c (.ref 0 1 0 t.length))], [(0, .row 3 false 1 t.length (Ri64 t))], 1⟩)) (Conv.trans (conv_adopt (t := 6) (ty := 3) (sz := 1) (n := ([] : List Int).length) (f := Ri64 ([] : List Int)) (by kernel_rfl) rfl) (conv_re [(0, 0), (1, 1), (2, 4)] (by kernel_rfl))) (fun _ => tv) ?_ ?_
   ·
    clear l16 h
    intro v o h
    obtain ⟨x5, x6⟩ := v
    replace h : rl_ref17_Compare_l2 p0 p1 x5 x6 = some o := h
    unfold rl_ref17_Compare_l2 at h
    refine AW.seq ?_
    refine AW.sg tt_ok1 [(31, vb (decide (x6 < ((p0.Fields.length : Nat) : Int))))] [] [] 8 [] (by kernel_rfl) ?_
    refine AW.co h (by kernel_rfl) (fun c8 h => ?_) (fun c8 h => ?_)
    ·
     refine AW.skip (AW.tn ?_)
     refine AW.seq (AW.block ?_)
     obtain ⟨g9, g10, h⟩ := ifd h
     obtain ⟨g11, h⟩ := ifc h
     obtain ⟨y12, e13, h⟩ := bnd_some h
     obtain ⟨g14, h⟩ := ifc h
     refine AW.rd tt_ok1 mo1 [[], [], [], [], [], [], [], [], [], [], [], [], [19], [20, 2]] [(6, .c (.ref 20 1 0 ((x5 ++ ([y12] : List Int)).length)))] [(20, .row 3 false 1 (x5 ++ ([y12] : List Int)).length (Ri64 (x5 ++ ([y12] : List Int))))] 22 [hn, hn, hn, hn, hq g9 g10, hn, hn, hn, hn, hq g9 g11, hn, hk (rl_ref17_Dice_con (p0.Fields.getD x6.toNat dS_api_Bits) (p1.Fields.getD x6.toNat dS_api_Bits) y12 e13), hlit 0 Ei64 1 (fun _ => rfl) ([y12] : List Int), happ 0 Ei64 1 8 x5 ([y12] : List Int) g14 (by decide)] (by kernel_rfl) ?_
     refine AW.inBlock_normal (AW.tn ?_)
     refine AW.rg tt_ok1 [(7, vi64 (i64.wrap (x6 + 1)))] [] [] 25 [] (by kernel_rfl) ?_
     exact lpn h (conv_re [(0, 0), (1, 1), (2, 20)] (by kernel_rfl))
    ·
     refine AW.exit (AW.thenQ_exit ?_)
     exact lpo h rfl (conv_re [(0, 2)] (by kernel_rfl))
   ·
    show (_ : Exit → St → Prop) (.exit 0) _
    refine AW.inBlock_hit (AW.tn ?_)
    refine AW.sg tt_ok1 [(5, vi64 0), (4, .c (.ref 0 1 0 x15.length))] [] [] 4 [] (by kernel_rfl) ?_
    refine AW.ret ?_
    obtain rfl := some_inj h
    exact fn0 (.inr rfl) [(0, 0)] 1 (.tup [.c (.ref 0 1 0 x15.length), vi64 0]) (by kernel_rfl)
 ·
  rcases ifs h with ⟨c17, h⟩ | ⟨c17, h⟩
  ·
   refine AW.rg tt_ok1 [(26, vb true)] [] [] 23 [hn, hn, hn, hn, hn, hn, ht c17] (by kernel_rfl) ?_
   exact jl true h (conv_re [(0, 0), (1, 1)] (by kernel_rfl))
  ·
   rcases ifs h with ⟨c18, h⟩ | ⟨c18, h⟩
   ·
    refine AW.rg tt_ok1 [(26, vb true)] [] [] 23 [hn, hn, hn, hn, hn, hn, hf c17, hn, hn, hn, hn, ht c18] (by kernel_rfl) ?_
    exact jl true h (conv_re [(0, 0), (1, 1)] (by kernel_rfl))
   ·
    refine AW.rg tt_ok1 [(26, vb (decide (((p0.Fields.length : Nat) : Int) > 5)))] [] [] 23 [hn, hn, hn, hn, hn, hn, hf c17, hn, hn, hn, hn, hf c18] (by kernel_rfl) ?_
    exact jl (decide (((p0.Fields.length : Nat) : Int) > 5)) h (conv_re [(0, 0), (1, 1)] (by kernel_rfl))
/-! recordlink/recordlinkref17.Number -/
noncomputable def rl_ref17_Number_k3 (p0 : List Int) (x5 : Int) (x6 : Int) (x9 : Bool) : Option ((Int × Int) ⊕ (Int ⊕ Unit)) := if x9 = true then (some (.inr (.inr ()))) else (if 0 ≤ x6 then (if x6 < (p0.length : Int) then ((some (i64.wrap ((i64.wrap (3 * x5)) + (p0.getD x6.toNat 0)))).bind fun z13 => (some (.inl (z13, i64.wrap (x6 - 1))))) else none) else none)
noncomputable def rl_ref17_Number_l2 (p0 : List Int) (x5 : Int) (x6 : Int) : Option ((Int × Int) ⊕ (Int ⊕ Unit)) := if (decide (x6 ≥ 0)) = true then (if 0 ≤ x6 then (if x6 < (p0.length : Int) then (if (decide ((p0.getD x6.toNat 0) < 0)) = true then (rl_ref17_Number_k3 p0 x5 x6 true) else (rl_ref17_Number_k3 p0 x5 x6 (decide ((p0.getD x6.toNat 0) > 2)))) else none) else none) else (some (.inr (.inl x5)))
noncomputable def rl_ref17_Number_a4 (x18 : Int) : Option (Int × Int) := some (x18, 0)
noncomputable def rl_ref17_Number_a5 : Option (Int × Int) := some (0, 2)
noncomputable def rl_ref17_Number_k1 (p0 : List Int) (x1 : Bool) : Option (Int × Int) := if x1 = true then (some (0, 8)) else (bindE (loop (fun v : Int × Int => rl_ref17_Number_l2 p0 v.1 v.2) (0, i64.wrap ((p0.length : Int) - 1))) (fun t => rl_ref17_Number_a4 t) (fun t => rl_ref17_Number_a5))
noncomputable def rl_ref17_Number (p0 : List Int) : Option (Int × Int) := if (decide ((p0.length : Int) < 1)) = true then (rl_ref17_Number_k1 p0 true) else (rl_ref17_Number_k1 p0 (decide ((p0.length : Int) > 5)))
set_option maxRecDepth 100000 in
theorem rl_ref17_Number_con (p0 : List Int) (r : Int × Int) (h : rl_ref17_Number p0 = some r) : Con Try.prog 69 [vl 1 Ri64 p0] [] (.tup [vi64 r.1, vi64 r.2]) [] := by
 refine con_of tt_ok1 0 Try.func69 (by kernel_rfl) rfl (by kernel_rfl) (fun base X _ => AW.post ?_)
 unfold rl_ref17_Number at h
 refine AW.sg tt_ok1 [] [] [] 2 [] (by kernel_rfl) ?_
 refine AW.seq (AW.seq ?_)
 refine AW.join (ι := Bool) (fun v => ⟨[(0, vl 1 Ri64 p0), (13, vb v)], [], 0⟩) (fun v : Bool => rl_ref17_Number_k1 p0 v = some r) (fun x1 h => ?_) ?_
 ·
  unfold rl_ref17_Number_k1 at h
  refine AW.tn ?_
  refine AW.co h (by kernel_rfl) (fun c2 h => ?_) (fun c2 h => ?_)
  ·
   refine AW.sg tt_ok1 [(3, vi64 8), (2, vi64 0)] [] [] 2 [] (by kernel_rfl) ?_
   refine AW.ret (AW.tr ?_)
   obtain rfl := some_inj h
   exact fn0 (.inr rfl) [] 0 (.tup [vi64 0, vi64 8]) (by kernel_rfl)
  ·
   refine AW.skip (AW.tn ?_)
   refine AW.sg tt_ok1 [(4, vi64 0)] [] [] 1 [] (by kernel_rfl) ?_
   refine AW.seq ?_
   refine AW.sg tt_ok1 [(5, vi64 (i64.wrap ((p0.length : Int) - 1)))] [] [] 5 [] (by kernel_rfl) ?_
   refine AW.block ?_
   refine AW.lpE h (fun v => ⟨[(0, vl 1 Ri64 p0), (4, vi64 v.1), (5, vi64 v.2)], [], 0⟩) (fun t => (.exit 0, ⟨[(4, vi64 t)], [], 0⟩)) (fun t => (.ret, ⟨[(2, vi64 0), (3, vi64 2)], [], 0⟩)) (conv_re [] (by kernel_rfl)) (fun _ => tv) (fun _ => tv) ?_ (fun x18 h => ?_) (fun t h => ?_)
   ·
    clear h
    intro v o h
    obtain ⟨x5, x6⟩ := v
    replace h : rl_ref17_Number_l2 p0 x5 x6 = some o := h
    unfold rl_ref17_Number_l2 at h
    refine AW.seq ?_
    refine AW.sg tt_ok1 [(18, vb (decide (x6 ≥ 0)))] [] [] 2 [] (by kernel_rfl) ?_
    refine AW.co h (by kernel_rfl) (fun c8 h => ?_) (fun c8 h => ?_)
    ·
     refine AW.skip (AW.tn ?_)
     refine AW.seq (AW.block ?_)
     refine AW.seq (AW.seq ?_)
     refine AW.join (ι := Bool) (fun v => ⟨[(0, vl 1 Ri64 p0), (4, vi64 x5), (5, vi64 x6), (32, vb v)], [], 0⟩) (fun v : Bool => rl_ref17_Number_k3 p0 x5 x6 v = some o) (fun x9 h => ?_) ?_
     ·
      unfold rl_ref17_Number_k3 at h
      refine AW.tn ?_
      refine AW.co h (by kernel_rfl) (fun c10 h => ?_) (fun c10 h => ?_)
      ·
       refine AW.sg tt_ok1 [(3, vi64 2), (2, vi64 0)] [] [] 2 [] (by kernel_rfl) ?_
       refine AW.ret (AW.tr ?_)
       refine AW.inBlock_ret (AW.tr ?_)
       exact lpo h rfl (conv_re [] (by kernel_rfl))
      ·
       refine AW.skip (AW.tn ?_)
       obtain ⟨g11, g12, h⟩ := ifd h
       obtain ⟨z13, n14, h⟩ := bnd_some h
       replace n14 := some_inj n14
       refine AW.rg tt_ok1 [(4, vi64 z13)] [] [] 8 [hn, hn, hn, hn, hq g11 g12] (by subst n14; kernel_rfl) ?_
       refine AW.inBlock_normal (AW.tn ?_)
       refine AW.rg tt_ok1 [(5, vi64 (i64.wrap (x6 - 1)))] [] [] 11 [] (by kernel_rfl) ?_
       exact lpn h (conv_re [] (by kernel_rfl))
     ·
      obtain ⟨g15, g16, h⟩ := ifd h
      rcases ifs h with ⟨c17, h⟩ | ⟨c17, h⟩
      ·
       refine AW.rg tt_ok1 [(32, vb true)] [] [] 14 [hn, hn, hq g15 g16, hn, ht c17] (by kernel_rfl) ?_
       exact jl true h (conv_re [] (by kernel_rfl))
      ·
       refine AW.rg tt_ok1 [(32, vb (decide ((p0.getD x6.toNat 0) > 2)))] [] [] 14 [hn, hn, hq g15 g16, hn, hf c17, hn, hn, hn, hq g15 g16] (by kernel_rfl) ?_
       exact jl (decide ((p0.getD x6.toNat 0) > 2)) h (conv_re [] (by kernel_rfl))
    ·
     refine AW.exit (AW.thenQ_exit ?_)
     exact lpo h rfl (conv_re [] (by kernel_rfl))
   ·
    unfold rl_ref17_Number_a4 at h
    show (_ : Exit → St → Prop) (.exit 0) _
    refine AW.inBlock_hit (AW.tn ?_)
    refine AW.sg tt_ok1 [(3, vi64 0), (2, vi64 x18)] [] [] 3 [] (by kernel_rfl) ?_
    refine AW.ret ?_
    obtain rfl := some_inj h
    exact fn0 (.inr rfl) [] 0 (.tup [vi64 x18, vi64 0]) (by kernel_rfl)
   ·
    replace h : rl_ref17_Number_a5 = some r := h
    unfold rl_ref17_Number_a5 at h
    show (_ : Exit → St → Prop) (.ret) _
    refine AW.inBlock_ret (AW.tr ?_)
    obtain rfl := some_inj h
    exact fn0 (.inr rfl) [] 0 (.tup [vi64 0, vi64 2]) (by kernel_rfl)
 ·
  rcases ifs h with ⟨c20, h⟩ | ⟨c20, h⟩
  ·
   refine AW.rg tt_ok1 [(13, vb true)] [] [] 10 [hn, hn, ht c20] (by kernel_rfl) ?_
   exact jl true h (conv_re [] (by kernel_rfl))
  ·
   refine AW.rg tt_ok1 [(13, vb (decide ((p0.length : Int) > 5)))] [] [] 10 [hn, hn, hf c20] (by kernel_rfl) ?_
   exact jl (decide ((p0.length : Int) > 5)) h (conv_re [] (by kernel_rfl))
/-! recordlink/recordlinkref17.Pattern -/
noncomputable def rl_ref17_Pattern_k3 (x6 : Int) (x9 : List Int) : Option (((List Int) × Int) ⊕ ((List Int) ⊕ Unit)) := some (.inl (x9, i64.wrap (x6 + 1)))
noncomputable def rl_ref17_Pattern_k4 (p0 : List Int) (p1 : List Int) (x5 : List Int) (x6 : Int) (x10 : Bool) : Option (((List Int) × Int) ⊕ ((List Int) ⊕ Unit)) := if x10 = true then (some (.inr (.inr ()))) else (if 0 ≤ x6 then (if x6 < (p1.length : Int) then (if (decide ((p1.getD x6.toNat 0) < 0)) = true then (if x5.length + ([0] : List Int).length ≤ 1099511627776 then (rl_ref17_Pattern_k3 x6 (x5 ++ ([0] : List Int))) else none) else (if x6 < (p0.length : Int) then (if (decide ((p1.getD x6.toNat 0) ≥ (p0.getD x6.toNat 0))) = true then (if x5.length + ([2] : List Int).length ≤ 1099511627776 then (rl_ref17_Pattern_k3 x6 (x5 ++ ([2] : List Int))) else none) else (if x5.length + ([1] : List Int).length ≤ 1099511627776 then (rl_ref17_Pattern_k3 x6 (x5 ++ ([1] : List Int))) else none)) else none)) else none) else none)
noncomputable def rl_ref17_Pattern_l2 (p0 : List Int) (p1 : List Int) (x5 : List Int) (x6 : Int) : Option (((List Int) × Int) ⊕ ((List Int) ⊕ Unit)) := if (decide (x6 < (p1.length : Int))) = true then (if 0 ≤ x6 then (if x6 < (p0.length : Int) then (if (decide ((p0.getD x6.toNat 0) < 0)) = true then (rl_ref17_Pattern_k4 p0 p1 x5 x6 true) else (if (decide ((p0.getD x6.toNat 0) > 1000)) = true then (rl_ref17_Pattern_k4 p0 p1 x5 x6 true) else (if x6 < (p1.length : Int) then (if (decide ((p1.getD x6.toNat 0) < (-1))) = true then (rl_ref17_Pattern_k4 p0 p1 x5 x6 true) else (rl_ref17_Pattern_k4 p0 p1 x5 x6 (decide ((p1.getD x6.toNat 0) > 1000)))) else none))) else none) else none) else (some (.inr (.inl x5)))
noncomputable def rl_ref17_Pattern_a5 (x26 : List Int) : Option (Int × Int) := bind2 (rl_ref17_Number x26) fun y27 y28 => (some (y27, y28))
noncomputable def rl_ref17_Pattern_a6 : Option (Int × Int) := some (0, 2)
noncomputable def rl_ref17_Pattern_k1 (p0 : List Int) (p1 : List Int) (x1 : Bool) : Option (Int × Int) := if x1 = true then (some (0, 8)) else (bindE (loop (fun v : (List Int) × Int => rl_ref17_Pattern_l2 p0 p1 v.1 v.2) (([] : List Int), 0)) (fun t => rl_ref17_Pattern_a5 t) (fun t => rl_ref17_Pattern_a6))
noncomputable def rl_ref17_Pattern (p0 : List Int) (p1 : List Int) : Option (Int × Int) := if ((p1.length : Int) != (p0.length : Int)) = true then (rl_ref17_Pattern_k1 p0 p1 true) else (if (decide ((p1.length : Int) < 1)) = true then (rl_ref17_Pattern_k1 p0 p1 true) else (rl_ref17_Pattern_k1 p0 p1 (decide ((p1.length : Int) > 5))))
set_option maxRecDepth 100000 in
theorem rl_ref17_Pattern_con (p0 : List Int) (p1 : List Int) (r : Int × Int) (h : rl_ref17_Pattern p0 p1 = some r) : Con Try.prog 40 [vl 1 Ri64 p0, vl 1 Ri64 p1] [] (.tup [vi64 r.1, vi64 r.2]) [] := by
 refine con_of tt_ok1 0 Try.func40 (by kernel_rfl) rfl (by kernel_rfl) (fun base X _ => AW.post ?_)
 unfold rl_ref17_Pattern at h
 refine AW.sg tt_ok1 [] [] [] 2 [] (by kernel_rfl) ?_
 refine AW.seq (AW.seq ?_)
 refine AW.join (ι := Bool) (fun v => ⟨[(0, vl 1 Ri64 p0), (1, vl 1 Ri64 p1), (22, vb v)], [], 0⟩) (fun v : Bool => rl_ref17_Pattern_k1 p0 p1 v = some r) (fun x1 h => ?_) ?_
 ·
  unfold rl_ref17_Pattern_k1 at h
  refine AW.tn ?_
  refine AW.co h (by kernel_rfl) (fun c2 h => ?_) (fun c2 h => ?_)
  ·
   refine AW.sg tt_ok1 [(5, vi64 8), (4, vi64 0)] [] [] 2 [] (by kernel_rfl) ?_
   refine AW.ret (AW.tr ?_)
   obtain rfl := some_inj h
   exact fn0 (.inr rfl) [] 0 (.tup [vi64 0, vi64 8]) (by kernel_rfl)
  ·
   refine AW.skip (AW.tn ?_)
   refine AW.sg tt_ok1 [(6, .c (.t (.v (.slice none 0 0))))] [] [] 1 [] (by kernel_rfl) ?_
   refine AW.seq ?_
   refine AW.sg tt_ok1 [(7, vi64 0)] [] [] 2 [] (by kernel_rfl) ?_
   refine AW.block ?_
   refine AW.lpE h (fun v => ⟨[(0, vl 1 Ri64 p0), (1, vl 1 Ri64 p1), (6, .c (.ref 0 1 0 v.1.length)), (7, vi64 v.2)], [(0, .row 3 false 1 v.1.length (Ri64 v.1))], 1⟩) (fun t => (.exit 0, ⟨[(6, .c (.ref 0 1 0 t.length))], [(0, .row 3 false 1 t.length (Ri64 t))], 1⟩)) (fun t => (.ret, ⟨[(4, vi64 0), (5, vi64 2)], [], 0⟩)) (Conv.trans (conv_adopt (t := 6) (ty := 3) (sz := 1) (n := ([] : List Int).length) (f := Ri64 ([] : List Int)) (by kernel_rfl) rfl) (conv_re [(0, 2)] (by kernel_rfl))) (fun _ => tv) (fun _ => tv) ?_ (fun x26 h => ?_) (fun t h => ?_)
   ·
    clear h
    intro v o h
    obtain ⟨x5, x6⟩ := v
    replace h : rl_ref17_Pattern_l2 p0 p1 x5 x6 = some o := h
    unfold rl_ref17_Pattern_l2 at h
    refine AW.seq ?_
    refine AW.sg tt_ok1 [(26, vb (decide (x6 < (p1.length : Int))))] [] [] 5 [] (by kernel_rfl) ?_
    refine AW.co h (by kernel_rfl) (fun c8 h => ?_) (fun c8 h => ?_)
    ·
     refine AW.skip (AW.tn (AW.seq ?_))
     refine AW.join (ι := List Int) (fun v => ⟨[(0, vl 1 Ri64 p0), (1, vl 1 Ri64 p1), (6, .c (.ref 0 1 0 v.length)), (7, vi64 x6)], [(0, .row 3 false 1 v.length (Ri64 v))], 1⟩) (fun v : List Int => rl_ref17_Pattern_k3 x6 v = some o) (fun x9 h => ?_) ?_
     ·
      unfold rl_ref17_Pattern_k3 at h
      refine AW.tn ?_
      refine AW.rg tt_ok1 [(7, vi64 (i64.wrap (x6 + 1)))] [] [] 4 [] (by kernel_rfl) ?_
      exact lpn h (conv_re [(0, 0)] (by kernel_rfl))
     ·
      refine AW.block (AW.seq (AW.seq ?_))
      refine AW.join (ι := Bool) (fun v => ⟨[(0, vl 1 Ri64 p0), (1, vl 1 Ri64 p1), (6, .c (.ref 0 1 0 x5.length)), (7, vi64 x6), (54, vb v)], [(0, .row 3 false 1 x5.length (Ri64 x5))], 1⟩) (fun v : Bool => rl_ref17_Pattern_k4 p0 p1 x5 x6 v = some o) (fun x10 h => ?_) ?_
      ·
       unfold rl_ref17_Pattern_k4 at h
       refine AW.tn ?_
       refine AW.co h (by kernel_rfl) (fun c11 h => ?_) (fun c11 h => ?_)
       ·
        refine AW.sg tt_ok1 [(5, vi64 2), (4, vi64 0)] [] [] 3 [] (by kernel_rfl) ?_
        refine AW.ret (AW.tr (AW.inBlock_ret ?_))
        refine joinQ_ret ?_
        refine AW.tr ?_
        exact lpo h rfl (conv_re [] (by kernel_rfl))
       ·
        refine AW.skip (AW.tn (AW.block ?_))
        obtain ⟨g12, g13, h⟩ := ifd h
        refine AW.sg tt_ok1 [(58, vb (decide ((p1.getD x6.toNat 0) < 0)))] [] [] 7 [hn, hn, hq g12 g13] (by kernel_rfl) ?_
        refine AW.co h (by kernel_rfl) (fun c14 h => ?_) (fun c14 h => ?_)
        ·
         obtain ⟨g15, h⟩ := ifc h
         refine AW.rg tt_ok1 [(6, .c (.ref 9 1 0 ((x5 ++ ([0] : List Int)).length)))] [0, 8, 9] [(9, .row 3 false 1 (x5 ++ ([0] : List Int)).length (Ri64 (x5 ++ ([0] : List Int))))] 11 [hn, hlit 0 Ei64 1 (fun _ => rfl) ([0] : List Int), happ 0 Ei64 1 8 x5 ([0] : List Int) g15 (by decide)] (by kernel_rfl) ?_
         refine AW.inBlock_normal (AW.inBlock_normal ?_)
         exact jl (x5 ++ ([0] : List Int)) h (conv_re [(0, 9)] (by kernel_rfl))
        ·
         obtain ⟨g16, h⟩ := ifc h
         refine AW.sd tt_ok1 mo1 [] [(67, vb (decide ((p1.getD x6.toNat 0) ≥ (p0.getD x6.toNat 0))))] [] 17 [hn, hn, hq g12 g13, hn, hn, hn, hq g12 g16] (by kernel_rfl) ?_
         refine AW.co h (by kernel_rfl) (fun c17 h => ?_) (fun c17 h => ?_)
         ·
          obtain ⟨g18, h⟩ := ifc h
          refine AW.rg tt_ok1 [(6, .c (.ref 19 1 0 ((x5 ++ ([2] : List Int)).length)))] [0, 18, 19] [(19, .row 3 false 1 (x5 ++ ([2] : List Int)).length (Ri64 (x5 ++ ([2] : List Int))))] 21 [hn, hlit 0 Ei64 1 (fun _ => rfl) ([2] : List Int), happ 0 Ei64 1 8 x5 ([2] : List Int) g18 (by decide)] (by kernel_rfl) ?_
          refine AW.inBlock_normal (AW.inBlock_normal ?_)
          exact jl (x5 ++ ([2] : List Int)) h (conv_re [(0, 19)] (by kernel_rfl))
         ·
          obtain ⟨g19, h⟩ := ifc h
          refine AW.rg tt_ok1 [(6, .c (.ref 19 1 0 ((x5 ++ ([1] : List Int)).length)))] [0, 18, 19] [(19, .row 3 false 1 (x5 ++ ([1] : List Int)).length (Ri64 (x5 ++ ([1] : List Int))))] 21 [hn, hlit 0 Ei64 1 (fun _ => rfl) ([1] : List Int), happ 0 Ei64 1 8 x5 ([1] : List Int) g19 (by decide)] (by kernel_rfl) ?_
          refine AW.inBlock_normal (AW.inBlock_normal ?_)
          exact jl (x5 ++ ([1] : List Int)) h (conv_re [(0, 19)] (by kernel_rfl))
      ·
       obtain ⟨g20, g21, h⟩ := ifd h
       rcases ifs h with ⟨c22, h⟩ | ⟨c22, h⟩
       ·
        refine AW.rg tt_ok1 [(54, vb true)] [] [] 31 [hn, hn, hq g20 g21, hn, ht c22] (by kernel_rfl) ?_
        exact jl true h (conv_re [(0, 0)] (by kernel_rfl))
       ·
        rcases ifs h with ⟨c23, h⟩ | ⟨c23, h⟩
        ·
         refine AW.rg tt_ok1 [(54, vb true)] [] [] 31 [hn, hn, hq g20 g21, hn, hf c22, hn, hn, hn, hq g20 g21, hn, ht c23] (by kernel_rfl) ?_
         exact jl true h (conv_re [(0, 0)] (by kernel_rfl))
        ·
         obtain ⟨g24, h⟩ := ifc h
         rcases ifs h with ⟨c25, h⟩ | ⟨c25, h⟩
         ·
          refine AW.rg tt_ok1 [(54, vb true)] [] [] 31 [hn, hn, hq g20 g21, hn, hf c22, hn, hn, hn, hq g20 g21, hn, hf c23, hn, hn, hn, hn, hq g20 g24, hn, ht c25] (by kernel_rfl) ?_
          exact jl true h (conv_re [(0, 0)] (by kernel_rfl))
         ·
          refine AW.rg tt_ok1 [(54, vb (decide ((p1.getD x6.toNat 0) > 1000)))] [] [] 31 [hn, hn, hq g20 g21, hn, hf c22, hn, hn, hn, hq g20 g21, hn, hf c23, hn, hn, hn, hn, hq g20 g24, hn, hf c25, hn, hn, hn, hn, hq g20 g24] (by kernel_rfl) ?_
          exact jl (decide ((p1.getD x6.toNat 0) > 1000)) h (conv_re [(0, 0)] (by kernel_rfl))
    ·
     refine AW.exit (AW.thenQ_exit ?_)
     exact lpo h rfl (conv_re [(0, 0)] (by kernel_rfl))
   ·
    unfold rl_ref17_Pattern_a5 at h
    show (_ : Exit → St → Prop) (.exit 0) _
    refine AW.inBlock_hit (AW.tn ?_)
    obtain ⟨y27, y28, e29, h⟩ := bind2_some h
    refine AW.sg tt_ok1 [(5, vi64 y28), (4, vi64 y27)] [] [] 6 [hn, hg [] [] true 0 (q := (0 + x26.length ≤ x26.length) ∧ (True)) ⟨le0, tv⟩ (a0 := [vl 1 Ri64 x26]) (rl_ref17_Number_con x26 (y27, y28) e29) ⟨ArgLe.refl _, tv⟩ (fun _ => tv)] (by kernel_rfl) ?_
    refine AW.ret ?_
    obtain rfl := some_inj h
    exact fn0 (.inr rfl) [] 0 (.tup [vi64 y27, vi64 y28]) (by kernel_rfl)
   ·
    replace h : rl_ref17_Pattern_a6 = some r := h
    unfold rl_ref17_Pattern_a6 at h
    show (_ : Exit → St → Prop) (.ret) _
    refine AW.inBlock_ret (AW.tr ?_)
    obtain rfl := some_inj h
    exact fn0 (.inr rfl) [] 0 (.tup [vi64 0, vi64 2]) (by kernel_rfl)
 ·
  rcases ifs h with ⟨c31, h⟩ | ⟨c31, h⟩
  ·
   refine AW.rg tt_ok1 [(22, vb true)] [] [] 17 [hn, hn, hn, hn, ht c31] (by kernel_rfl) ?_
   exact jl true h (conv_re [] (by kernel_rfl))
  ·
   rcases ifs h with ⟨c32, h⟩ | ⟨c32, h⟩
   ·
    refine AW.rg tt_ok1 [(22, vb true)] [] [] 17 [hn, hn, hn, hn, hf c31, hn, hn, hn, ht c32] (by kernel_rfl) ?_
    exact jl true h (conv_re [] (by kernel_rfl))
   ·
    refine AW.rg tt_ok1 [(22, vb (decide ((p1.length : Int) > 5)))] [] [] 17 [hn, hn, hn, hn, hf c31, hn, hn, hn, hf c32] (by kernel_rfl) ?_
    exact jl (decide ((p1.length : Int) > 5)) h (conv_re [] (by kernel_rfl))
/-! recordlink/recordlinkref23.Tally -/
noncomputable def rl_ref23_Tally_k2 (x7 : Int) (x9 : Bool) : Option (Int ⊕ (Unit ⊕ Unit)) := if x9 = true then (some (.inr (.inr ()))) else (some (.inl (i64.wrap (x7 + 1))))
noncomputable def rl_ref23_Tally_l1 (p3 : List Int) (x7 : Int) : Option (Int ⊕ (Unit ⊕ Unit)) := if (decide (x7 < (p3.length : Int))) = true then (if 0 ≤ x7 then (if x7 < (p3.length : Int) then (if (decide ((p3.getD x7.toNat 0) < 0)) = true then (rl_ref23_Tally_k2 x7 true) else (rl_ref23_Tally_k2 x7 (decide ((p3.getD x7.toNat 0) > 1000)))) else none) else none) else (some (.inr (.inl ())))
noncomputable def rl_ref23_Tally_k5 (p1 : List S_api_Encoded) (p2 : List S_api_Encoded) (p3 : List Int) (x20 : List Int) (x21 : Int) (y26 : Int) (y28 : Int) (x30 : Bool) : Option (((List Int) × Int) ⊕ ((List Int) ⊕ Unit)) := if x30 = true then (some (.inr (.inr ()))) else (if 0 ≤ y26 then (if y26 < (p1.length : Int) then (if 0 ≤ y28 then (if y28 < (p2.length : Int) then (bind2 (rl_ref17_Compare (p1.getD y26.toNat dS_api_Encoded) (p2.getD y28.toNat dS_api_Encoded)) fun y36 y37 => (bind2 (rl_ref17_Pattern p3 y36) fun y39 y40 => (if 0 ≤ y39 then (if y39 < (x20.length : Int) then (some (.inl ((x20.set (0 + y39.toNat) (i64.wrap ((x20.getD (0 + y39.toNat) 0) + 1))), i64.wrap (x21 + 1)))) else none) else none))) else none) else none) else none) else none)
noncomputable def rl_ref23_Tally_l4 (p0 : List S_api_Couple) (p1 : List S_api_Encoded) (p2 : List S_api_Encoded) (p3 : List Int) (x20 : List Int) (x21 : Int) : Option (((List Int) × Int) ⊕ ((List Int) ⊕ Unit)) := if (decide (x21 < (p0.length : Int))) = true then (if 0 ≤ x21 then (if x21 < (p0.length : Int) then ((rl_ref23_find p1 ((p0.getD x21.toNat dS_api_Couple).A)).bind fun y26 => ((rl_ref23_find p2 ((p0.getD x21.toNat dS_api_Couple).B)).bind fun y28 => (if (decide (y26 < 0)) = true then (rl_ref23_Tally_k5 p1 p2 p3 x20 x21 y26 y28 true) else (rl_ref23_Tally_k5 p1 p2 p3 x20 x21 y26 y28 (decide (y28 < 0)))))) else none) else none) else (some (.inr (.inl x20)))
noncomputable def rl_ref23_Tally_a6 (x45 : List Int) : Option ((List Int) × Int) := some (x45, 0)
noncomputable def rl_ref23_Tally_a7 : Option ((List Int) × Int) := some (([] : List Int), 13)
noncomputable def rl_ref23_Tally_k3 (p0 : List S_api_Couple) (p1 : List S_api_Encoded) (p2 : List S_api_Encoded) (p3 : List Int) (y1 : Int) (x14 : Bool) : Option ((List Int) × Int) := if x14 = true then (some (([] : List Int), 7)) else (if 0 ≤ y1 then (if y1 ≤ 1099511627776 then (bindE (loop (fun v : (List Int) × Int => rl_ref23_Tally_l4 p0 p1 p2 p3 v.1 v.2) ((List.replicate y1.toNat (0 : Int)), 0)) (fun t => rl_ref23_Tally_a6 t) (fun t => rl_ref23_Tally_a7)) else none) else none)
noncomputable def rl_ref23_Tally_a8 (p0 : List S_api_Couple) (p1 : List S_api_Encoded) (p2 : List S_api_Encoded) (p3 : List Int) (y1 : Int) : Option ((List Int) × Int) := (rl_ref23_right p1 (p3.length : Int)).bind fun y47 => (if (!y47) = true then (rl_ref23_Tally_k3 p0 p1 p2 p3 y1 true) else ((rl_ref23_right p2 (p3.length : Int)).bind fun y50 => (rl_ref23_Tally_k3 p0 p1 p2 p3 y1 (!y50))))
noncomputable def rl_ref23_Tally_a9 : Option ((List Int) × Int) := some (([] : List Int), 2)
noncomputable def rl_ref23_Tally (p0 : List S_api_Couple) (p1 : List S_api_Encoded) (p2 : List S_api_Encoded) (p3 : List Int) : Option ((List Int) × Int) := bind2 (rl_ref23_Size (p3.length : Int)) fun y1 y2 => (if (y2 != 0) = true then (some (([] : List Int), y2)) else (if (decide ((p0.length : Int) > 4096)) = true then (some (([] : List Int), 1)) else (bindE (loop (fun v : Int => rl_ref23_Tally_l1 p3 v) 0) (fun t => rl_ref23_Tally_a8 p0 p1 p2 p3 y1) (fun t => rl_ref23_Tally_a9))))
set_option maxRecDepth 100000 in
theorem rl_ref23_Tally_con (p0 : List S_api_Couple) (p1 : List S_api_Encoded) (p2 : List S_api_Encoded) (p3 : List Int) (r : (List Int) × Int) (h : rl_ref23_Tally p0 p1 p2 p3 = some r) : Con Try.prog 41 [vl 2 RS_api_Couple p0, vl 3 RS_api_Encoded p1, vl 3 RS_api_Encoded p2, vl 1 Ri64 p3] [] (.tup [.c (.ref 0 1 0 r.1.length), vi64 r.2]) [(0, .row 3 false 1 r.1.length (Ri64 r.1))] := by
 refine con_of tt_ok1 0 Try.func41 (by kernel_rfl) rfl (by kernel_rfl) (fun base X _ => AW.post ?_)
 unfold rl_ref23_Tally at h
 refine AW.sg tt_ok1 [] [] [] 2 [] (by kernel_rfl) ?_
 obtain ⟨y1, y2, e3, h⟩ := bind2_some h
 refine AW.sg tt_ok1 [(11, vi64 y2), (10, vi64 y1)] [] [] 9 [hn, hn, hk (rl_ref23_Size_con (p3.length : Int) (y1, y2) e3)] (by kernel_rfl) ?_
 refine AW.seq ?_
 refine AW.sg tt_ok1 [(28, vb (y2 != 0))] [] [] 11 [] (by kernel_rfl) ?_
 refine AW.co h (by kernel_rfl) (fun c4 h => ?_) (fun c4 h => ?_)
 ·
  refine AW.sg tt_ok1 [(9, vi64 y2), (8, .c (.t (.v (.slice none 0 0))))] [] [] 14 [] (by kernel_rfl) ?_
  refine AW.ret (AW.tr ?_)
  obtain rfl := some_inj h
  exact fnR (.inr rfl) [(0, 14)] 1 (.tup [.c (.ref 14 1 0 (([] : List Int).length)), vi64 y2]) (conv_adopt (t := 8) (ty := 3) (sz := 1) (n := ([] : List Int).length) (f := Ri64 ([] : List Int)) (by kernel_rfl) rfl) (by kernel_rfl)
 ·
  refine AW.skip (AW.tn (AW.seq ?_))
  refine AW.sg tt_ok1 [(32, vb (decide ((p0.length : Int) > 4096)))] [] [] 14 [] (by kernel_rfl) ?_
  refine AW.co h (by kernel_rfl) (fun c5 h => ?_) (fun c5 h => ?_)
  ·
   refine AW.sg tt_ok1 [(9, vi64 1), (8, .c (.t (.v (.slice none 0 0))))] [] [] 16 [] (by kernel_rfl) ?_
   refine AW.ret (AW.tr ?_)
   obtain rfl := some_inj h
   exact fnR (.inr rfl) [(0, 16)] 1 (.tup [.c (.ref 16 1 0 (([] : List Int).length)), vi64 1]) (conv_adopt (t := 8) (ty := 3) (sz := 1) (n := ([] : List Int).length) (f := Ri64 ([] : List Int)) (by kernel_rfl) rfl) (by kernel_rfl)
  ·
   refine AW.skip (AW.tn (AW.seq ?_))
   refine AW.sg tt_ok1 [(12, vi64 0)] [] [] 15 [] (by kernel_rfl) ?_
   refine AW.block ?_
   refine AW.lpE h (fun v => ⟨[(0, vl 2 RS_api_Couple p0), (1, vl 3 RS_api_Encoded p1), (2, vl 3 RS_api_Encoded p2), (3, vl 1 Ri64 p3), (10, vi64 y1), (12, vi64 v)], [], 0⟩) (fun t => (.exit 0, ⟨[(0, vl 2 RS_api_Couple p0), (1, vl 3 RS_api_Encoded p1), (2, vl 3 RS_api_Encoded p2), (3, vl 1 Ri64 p3), (10, vi64 y1)], [], 0⟩)) (fun t => (.ret, ⟨[(8, .c (.t (.v (.slice none 0 0)))), (9, vi64 2)], [], 0⟩)) (conv_re [] (by kernel_rfl)) (fun _ => tv) (fun _ => tv) ?_ (fun t h => ?_) (fun t h => ?_)
   ·
    clear h
    intro x7 o h
    unfold rl_ref23_Tally_l1 at h
    refine AW.seq ?_
    refine AW.sg tt_ok1 [(36, vb (decide (x7 < (p3.length : Int))))] [] [] 4 [] (by kernel_rfl) ?_
    refine AW.co h (by kernel_rfl) (fun c8 h => ?_) (fun c8 h => ?_)
    ·
     refine AW.skip (AW.tn ?_)
     refine AW.seq (AW.block (AW.seq ?_))
     refine AW.join (ι := Bool) (fun v => ⟨[(0, vl 2 RS_api_Couple p0), (1, vl 3 RS_api_Encoded p1), (2, vl 3 RS_api_Encoded p2), (3, vl 1 Ri64 p3), (10, vi64 y1), (12, vi64 x7), (50, vb v)], [], 0⟩) (fun v : Bool => rl_ref23_Tally_k2 x7 v = some o) (fun x9 h => ?_) ?_
     ·
      unfold rl_ref23_Tally_k2 at h
      refine AW.tn ?_
      refine AW.co h (by kernel_rfl) (fun c10 h => ?_) (fun c10 h => ?_)
      ·
       refine AW.sg tt_ok1 [(9, vi64 2), (8, .c (.t (.v (.slice none 0 0))))] [] [] 2 [] (by kernel_rfl) ?_
       refine AW.ret (AW.inBlock_ret (AW.tr ?_))
       exact lpo h rfl (conv_re [] (by kernel_rfl))
      ·
       refine AW.skip (AW.inBlock_normal (AW.tn ?_))
       refine AW.rg tt_ok1 [(12, vi64 (i64.wrap (x7 + 1)))] [] [] 3 [] (by kernel_rfl) ?_
       exact lpn h (conv_re [] (by kernel_rfl))
     ·
      obtain ⟨g11, g12, h⟩ := ifd h
      rcases ifs h with ⟨c13, h⟩ | ⟨c13, h⟩
      ·
       refine AW.rg tt_ok1 [(50, vb true)] [] [] 16 [hn, hn, hq g11 g12, hn, ht c13] (by kernel_rfl) ?_
       exact jl true h (conv_re [] (by kernel_rfl))
      ·
       refine AW.rg tt_ok1 [(50, vb (decide ((p3.getD x7.toNat 0) > 1000)))] [] [] 16 [hn, hn, hq g11 g12, hn, hf c13, hn, hn, hn, hq g11 g12] (by kernel_rfl) ?_
       exact jl (decide ((p3.getD x7.toNat 0) > 1000)) h (conv_re [] (by kernel_rfl))
    ·
     refine AW.exit (AW.thenQ_exit ?_)
     exact lpo h rfl (conv_re [] (by kernel_rfl))
   ·
    replace h : rl_ref23_Tally_a8 p0 p1 p2 p3 y1 = some r := h
    unfold rl_ref23_Tally_a8 at h
    show (_ : Exit → St → Prop) (.exit 0) _
    refine AW.inBlock_hit (AW.tn ?_)
    refine AW.seq (AW.seq ?_)
    refine AW.join (ι := Bool) (fun v => ⟨[(0, vl 2 RS_api_Couple p0), (1, vl 3 RS_api_Encoded p1), (2, vl 3 RS_api_Encoded p2), (3, vl 1 Ri64 p3), (10, vi64 y1), (62, vb v)], [], 0⟩) (fun v : Bool => rl_ref23_Tally_k3 p0 p1 p2 p3 y1 v = some r) (fun x14 h => ?_) ?_
    ·
     unfold rl_ref23_Tally_k3 at h
     refine AW.tn ?_
     refine AW.co h (by kernel_rfl) (fun c15 h => ?_) (fun c15 h => ?_)
     ·
      refine AW.sg tt_ok1 [(9, vi64 7), (8, .c (.t (.v (.slice none 0 0))))] [] [] 2 [] (by kernel_rfl) ?_
      refine AW.ret (AW.tr ?_)
      obtain rfl := some_inj h
      exact fnR (.inr rfl) [(0, 2)] 1 (.tup [.c (.ref 2 1 0 (([] : List Int).length)), vi64 7]) (conv_adopt (t := 8) (ty := 3) (sz := 1) (n := ([] : List Int).length) (f := Ri64 ([] : List Int)) (by kernel_rfl) rfl) (by kernel_rfl)
     ·
      refine AW.skip (AW.tn ?_)
      obtain ⟨g16, g17, h⟩ := ifd h
      refine AW.sg tt_ok1 [(13, .c (.ref 1 1 0 ((List.replicate y1.toNat (0 : Int)).length)))] [1] [(1, .row 3 false 1 (List.replicate y1.toNat (0 : Int)).length (Ri64 (List.replicate y1.toNat (0 : Int))))] 3 [hn, hmk 0 Ei64 1 8 [.int .i64 0] rfl rfl y1 y1 g16 (Int.le_refl _) g17 (by decide)] (by kernel_rfl) ?_
      refine AW.seq ?_
      refine AW.sg tt_ok1 [(14, vi64 0)] [] [] 4 [] (by kernel_rfl) ?_
      refine AW.block ?_
      refine AW.lpE h (fun v => ⟨[(0, vl 2 RS_api_Couple p0), (1, vl 3 RS_api_Encoded p1), (2, vl 3 RS_api_Encoded p2), (3, vl 1 Ri64 p3), (13, .c (.ref 0 1 0 v.1.length)), (14, vi64 v.2)], [(0, .row 3 false 1 v.1.length (Ri64 v.1))], 1⟩) (fun t => (.exit 2, ⟨[(13, .c (.ref 0 1 0 t.length))], [(0, .row 3 false 1 t.length (Ri64 t))], 1⟩)) (fun t => (.ret, ⟨[(8, .c (.t (.v (.slice none 0 0)))), (9, vi64 13)], [], 0⟩)) (conv_re [(0, 1)] (by kernel_rfl)) (fun _ => tv) (fun _ => tv) ?_ (fun x45 h => ?_) (fun t h => ?_)
      ·
       clear h
       intro v o h
       obtain ⟨x20, x21⟩ := v
       replace h : rl_ref23_Tally_l4 p0 p1 p2 p3 x20 x21 = some o := h
       unfold rl_ref23_Tally_l4 at h
       refine AW.seq ?_
       refine AW.sg tt_ok1 [(68, vb (decide (x21 < (p0.length : Int))))] [] [] 5 [] (by kernel_rfl) ?_
       refine AW.co h (by kernel_rfl) (fun c23 h => ?_) (fun c23 h => ?_)
       ·
        refine AW.skip (AW.tn ?_)
        refine AW.seq (AW.block ?_)
        obtain ⟨g24, g25, h⟩ := ifd h
        obtain ⟨y26, e27, h⟩ := bnd_some h
        obtain ⟨y28, e29, h⟩ := bnd_some h
        refine AW.sd tt_ok1 mo1 [] [(16, vi64 y28), (15, vi64 y26)] [] 19 [hn, hn, hn, hq g24 g25, hn, hn, hk (rl_ref23_find_con p1 ((p0.getD x21.toNat dS_api_Couple).A) y26 e27), hn, hn, hn, hq g24 g25, hn, hn, hk (rl_ref23_find_con p2 ((p0.getD x21.toNat dS_api_Couple).B) y28 e29)] (by kernel_rfl) ?_
        refine AW.seq (AW.seq ?_)
        refine AW.join (ι := Bool) (fun v => ⟨[(0, vl 2 RS_api_Couple p0), (1, vl 3 RS_api_Encoded p1), (2, vl 3 RS_api_Encoded p2), (3, vl 1 Ri64 p3), (13, .c (.ref 0 1 0 x20.length)), (14, vi64 x21), (15, vi64 y26), (16, vi64 y28), (90, vb v)], [(0, .row 3 false 1 x20.length (Ri64 x20))], 1⟩) (fun v : Bool => rl_ref23_Tally_k5 p1 p2 p3 x20 x21 y26 y28 v = some o) (fun x30 h => ?_) ?_
        ·
         unfold rl_ref23_Tally_k5 at h
         refine AW.tn ?_
         refine AW.co h (by kernel_rfl) (fun c31 h => ?_) (fun c31 h => ?_)
         ·
          refine AW.sg tt_ok1 [(9, vi64 13), (8, .c (.t (.v (.slice none 0 0))))] [] [] 3 [] (by kernel_rfl) ?_
          refine AW.ret (AW.tr ?_)
          refine AW.inBlock_ret (AW.tr ?_)
          exact lpo h rfl (conv_re [] (by kernel_rfl))
         ·
          refine AW.skip (AW.tn ?_)
          obtain ⟨g32, g33, h⟩ := ifd h
          obtain ⟨g34, g35, h⟩ := ifd h
          obtain ⟨y36, y37, e38, h⟩ := bind2_some h
          refine AW.sd tt_ok1 mo1 [[], [], [], [], [], [], [], [], [9]] [(17, .c (.ref 9 1 0 y36.length))] [(9, .row 3 false 1 y36.length (Ri64 y36))] 15 [hn, hn, hq g32 g33, hn, hn, hn, hq g34 g35, hn, hm [] [] 1 (rl_ref17_Compare_con (p1.getD y26.toNat dS_api_Encoded) (p2.getD y28.toNat dS_api_Encoded) (y36, y37) e38) ⟨rowL_flat Vi64 _ _ _, tv⟩] (by kernel_rfl) ?_
          obtain ⟨y39, y40, e41, h⟩ := bind2_some h
          refine AW.sg tt_ok1 [(19, vi64 y39)] [] [] 22 [hn, hn, hg [] [] true 0 (q := (True) ∧ (0 + y36.length ≤ y36.length) ∧ (True)) ⟨tv, le0, tv⟩ (a0 := [vl 1 Ri64 p3, vl 1 Ri64 y36]) (rl_ref17_Pattern_con p3 y36 (y39, y40) e41) ⟨ArgLe.refl _, ArgLe.refl _, tv⟩ (fun _ => tv)] (by kernel_rfl) ?_
          obtain ⟨g42, g43, h⟩ := ifd h
          refine AW.rg tt_ok1 [] [0] [(0, .row 3 false 1 x20.length (Ri64 (x20.set (0 + y39.toNat) (i64.wrap ((x20.getD (0 + y39.toNat) 0) + 1)))))] 29 [hn, hn, hq g42 g43, ho (p := (0 + y39.toNat) < x20.length) (by have h1 : 0 ≤ y39 := g42; have h2 : y39 < (x20.length : Int) := g43; omega), hn, hq g42 g43, hset 0 Ei64 x20 (0 + y39.toNat) (i64.wrap ((x20.getD (0 + y39.toNat) 0) + 1)) (n := x20.length) (by have h1 : 0 ≤ y39 := g42; have h2 : y39 < (x20.length : Int) := g43; omega) rfl] (by kernel_rfl) ?_
          refine AW.inBlock_normal (AW.tn ?_)
          refine AW.rg tt_ok1 [(14, vi64 (i64.wrap (x21 + 1)))] [] [] 32 [] (by kernel_rfl) ?_
          exact lpn h (Conv.trans (conv_tms [(13, .c (.ref 0 1 0 ((x20.set (0 + y39.toNat) (i64.wrap ((x20.getD (0 + y39.toNat) 0) + 1))).length)))] ⟨⟨.c (.ref 0 1 0 x20.length), by kernel_rfl, ALe.len (by simp only [List.length_set])⟩, tv⟩) (Conv.trans (conv_rowN 0 3 false 1 x20.length ((x20.set (0 + y39.toNat) (i64.wrap ((x20.getD (0 + y39.toNat) 0) + 1))).length) (Ri64 (x20.set (0 + y39.toNat) (i64.wrap ((x20.getD (0 + y39.toNat) 0) + 1)))) (by kernel_rfl) (by simp only [List.length_set])) (conv_re [(0, 0)] (by kernel_rfl))))
        ·
         rcases ifs h with ⟨c44, h⟩ | ⟨c44, h⟩
         ·
          refine AW.rg tt_ok1 [(90, vb true)] [] [] 25 [hn, ht c44] (by kernel_rfl) ?_
          exact jl true h (conv_re [(0, 0)] (by kernel_rfl))
         ·
          refine AW.rg tt_ok1 [(90, vb (decide (y28 < 0)))] [] [] 25 [hn, hf c44] (by kernel_rfl) ?_
          exact jl (decide (y28 < 0)) h (conv_re [(0, 0)] (by kernel_rfl))
       ·
        refine AW.exit (AW.thenQ_exit ?_)
        exact lpo h rfl (conv_re [(0, 0)] (by kernel_rfl))
      ·
       unfold rl_ref23_Tally_a6 at h
       show (_ : Exit → St → Prop) (.exit 2) _
       refine AW.inBlock_hit (AW.tn ?_)
       refine AW.sg tt_ok1 [(9, vi64 0), (8, .c (.ref 0 1 0 x45.length))] [] [] 4 [] (by kernel_rfl) ?_
       refine AW.ret ?_
       obtain rfl := some_inj h
       exact fn0 (.inr rfl) [(0, 0)] 1 (.tup [.c (.ref 0 1 0 x45.length), vi64 0]) (by kernel_rfl)
      ·
       replace h : rl_ref23_Tally_a7 = some r := h
       unfold rl_ref23_Tally_a7 at h
       show (_ : Exit → St → Prop) (.ret) _
       refine AW.inBlock_ret (AW.tr ?_)
       obtain rfl := some_inj h
       exact fnR (.inr rfl) [(0, 0)] 1 (.tup [.c (.ref 0 1 0 (([] : List Int).length)), vi64 13]) (conv_adopt (t := 8) (ty := 3) (sz := 1) (n := ([] : List Int).length) (f := Ri64 ([] : List Int)) (by kernel_rfl) rfl) (by kernel_rfl)
    ·
     obtain ⟨y47, e48, h⟩ := bnd_some h
     rcases ifs h with ⟨c49, h⟩ | ⟨c49, h⟩
     ·
      refine AW.rg tt_ok1 [(62, vb true)] [] [] 11 [hn, hn, hn, hk (rl_ref23_right_con p1 (p3.length : Int) y47 e48), ht c49] (by kernel_rfl) ?_
      exact jl true h (conv_re [] (by kernel_rfl))
     ·
      obtain ⟨y50, e51, h⟩ := bnd_some h
      refine AW.rg tt_ok1 [(62, vb (!y50))] [] [] 10 [hn, hn, hn, hk (rl_ref23_right_con p1 (p3.length : Int) y47 e48), hf c49, hn, hn, hn, hn, hk (rl_ref23_right_con p2 (p3.length : Int) y50 e51)] (by kernel_rfl) ?_
      exact jl (!y50) h (conv_re [] (by kernel_rfl))
   ·
    replace h : rl_ref23_Tally_a9 = some r := h
    unfold rl_ref23_Tally_a9 at h
    show (_ : Exit → St → Prop) (.ret) _
    refine AW.inBlock_ret (AW.tr ?_)
    obtain rfl := some_inj h
    exact fnR (.inr rfl) [(0, 0)] 1 (.tup [.c (.ref 0 1 0 (([] : List Int).length)), vi64 2]) (conv_adopt (t := 8) (ty := 3) (sz := 1) (n := ([] : List Int).length) (f := Ri64 ([] : List Int)) (by kernel_rfl) rfl) (by kernel_rfl)
/-! recordlink/recordlinkref01.Ints -/
noncomputable def rl_ref01_Ints_l1 (p0 : List Int) (p1 : List Int) (x3 : Int) : Option (Int ⊕ (Unit ⊕ Unit)) := if (decide (x3 < (p0.length : Int))) = true then (if 0 ≤ x3 then (if x3 < (p0.length : Int) then (if x3 < (p1.length : Int) then (if ((p0.getD x3.toNat 0) != (p1.getD x3.toNat 0)) = true then (some (.inr (.inr ()))) else (some (.inl (i64.wrap (x3 + 1))))) else none) else none) else none) else (some (.inr (.inl ())))
noncomputable def rl_ref01_Ints_a2 : Option Bool := some true
noncomputable def rl_ref01_Ints_a3 : Option Bool := some false
noncomputable def rl_ref01_Ints (p0 : List Int) (p1 : List Int) : Option Bool := if ((p0.length : Int) != (p1.length : Int)) = true then (some false) else (bindE (loop (fun v : Int => rl_ref01_Ints_l1 p0 p1 v) 0) (fun t => rl_ref01_Ints_a2) (fun t => rl_ref01_Ints_a3))
set_option maxRecDepth 100000 in
theorem rl_ref01_Ints_con (p0 : List Int) (p1 : List Int) (r : Bool) (h : rl_ref01_Ints p0 p1 = some r) : Con Try.prog 38 [vl 1 Ri64 p0, vl 1 Ri64 p1] [] (vb r) [] := by
 refine con_of tt_ok1 0 Try.func38 (by kernel_rfl) rfl (by kernel_rfl) (fun base X _ => AW.post ?_)
 unfold rl_ref01_Ints at h
 refine AW.sg tt_ok1 [] [] [] 1 [] (by kernel_rfl) ?_
 refine AW.seq ?_
 refine AW.sg tt_ok1 [(10, vb ((p0.length : Int) != (p1.length : Int)))] [] [] 6 [] (by kernel_rfl) ?_
 refine AW.co h (by kernel_rfl) (fun c1 h => ?_) (fun c1 h => ?_)
 ·
  refine AW.sg tt_ok1 [(4, vb false)] [] [] 7 [] (by kernel_rfl) ?_
  refine AW.ret (AW.tr ?_)
  obtain rfl := some_inj h
  exact fn0 (.inr rfl) [] 0 (vb false) (by kernel_rfl)
 ·
  refine AW.skip (AW.tn (AW.seq ?_))
  refine AW.sg tt_ok1 [(5, vi64 0)] [] [] 7 [] (by kernel_rfl) ?_
  refine AW.block ?_
  refine AW.lpE h (fun v => ⟨[(0, vl 1 Ri64 p0), (1, vl 1 Ri64 p1), (5, vi64 v)], [], 0⟩) (fun t => (.exit 0, ⟨[], [], 0⟩)) (fun t => (.ret, ⟨[(4, vb false)], [], 0⟩)) (conv_re [] (by kernel_rfl)) (fun _ => tv) (fun _ => tv) ?_ (fun t h => ?_) (fun t h => ?_)
  ·
   clear h
   intro x3 o h
   unfold rl_ref01_Ints_l1 at h
   refine AW.seq ?_
   refine AW.sg tt_ok1 [(14, vb (decide (x3 < (p0.length : Int))))] [] [] 4 [] (by kernel_rfl) ?_
   refine AW.co h (by kernel_rfl) (fun c4 h => ?_) (fun c4 h => ?_)
   ·
    refine AW.skip (AW.tn ?_)
    refine AW.seq (AW.block ?_)
    obtain ⟨g5, g6, h⟩ := ifd h
    obtain ⟨g7, h⟩ := ifc h
    refine AW.sd tt_ok1 mo1 [] [(25, vb ((p0.getD x3.toNat 0) != (p1.getD x3.toNat 0)))] [] 13 [hn, hn, hq g5 g6, hn, hn, hn, hq g5 g7] (by kernel_rfl) ?_
    refine AW.co h (by kernel_rfl) (fun c8 h => ?_) (fun c8 h => ?_)
    ·
     refine AW.sg tt_ok1 [(4, vb false)] [] [] 14 [] (by kernel_rfl) ?_
     refine AW.ret (AW.inBlock_ret (AW.tr ?_))
     exact lpo h rfl (conv_re [] (by kernel_rfl))
    ·
     refine AW.skip (AW.inBlock_normal (AW.tn ?_))
     refine AW.rg tt_ok1 [(5, vi64 (i64.wrap (x3 + 1)))] [] [] 16 [] (by kernel_rfl) ?_
     exact lpn h (conv_re [] (by kernel_rfl))
   ·
    refine AW.exit (AW.thenQ_exit ?_)
    exact lpo h rfl (conv_re [] (by kernel_rfl))
  ·
   replace h : rl_ref01_Ints_a2 = some r := h
   unfold rl_ref01_Ints_a2 at h
   show (_ : Exit → St → Prop) (.exit 0) _
   refine AW.inBlock_hit (AW.tn ?_)
   refine AW.sg tt_ok1 [(4, vb true)] [] [] 1 [] (by kernel_rfl) ?_
   refine AW.ret ?_
   obtain rfl := some_inj h
   exact fn0 (.inr rfl) [] 0 (vb true) (by kernel_rfl)
  ·
   replace h : rl_ref01_Ints_a3 = some r := h
   unfold rl_ref01_Ints_a3 at h
   show (_ : Exit → St → Prop) (.ret) _
   refine AW.inBlock_ret (AW.tr ?_)
   obtain rfl := some_inj h
   exact fn0 (.inr rfl) [] 0 (vb false) (by kernel_rfl)
/-! (*recordlink/recordlinkmake.Deck).Counts -/
noncomputable def rl_make_Deck_Counts_l1 (p1 : Int) (x3 : Int) (x4 : Int) : Option ((Int × Int) ⊕ Int) := if (decide (x4 < p1)) = true then (some (.inl (i64.wrap (x3 * 3), i64.wrap (x4 + 1)))) else (some (.inr x3))
noncomputable def rl_make_Deck_Counts_l2 (x7 : Int) (x18 : List Int) (x19 : Int) (x20 : List Int) (x21 : Int) (x22 : Int) : Option (((List Int) × Int × (List Int) × Int × Int) ⊕ ((List Int) × (List Int) × Int × Int)) := if (decide (x19 > 0)) = true then (bind2 (rl_make_Deck_Next (⟨x20, x21, x22⟩ : S_recordlinkmake_Deck) x7) fun y28 y29 => (if 0 ≤ y28 then (if y28 < (x18.length : Int) then (bind2 (rl_make_Deck_Next y29 40) fun y33 y34 => (some (.inl ((x18.set (0 + y28.toNat) (i64.wrap ((x18.getD (0 + y28.toNat) 0) + y33))), i64.wrap (x19 - 1), y34.list, y34.at_, y34.state)))) else none) else none)) else (some (.inr (x18, x20, x21, x22)))
noncomputable def rl_make_Deck_Counts (p0 : S_recordlinkmake_Deck) (p1 : Int) : Option ((List Int) × S_recordlinkmake_Deck) := (loop (fun v : Int × Int => rl_make_Deck_Counts_l1 p1 v.1 v.2) (1, 0)).bind fun x7 => (if 0 ≤ x7 then (if x7 ≤ 1099511627776 then (bind2 (rl_make_Deck_Next p0 20) fun y10 y11 => (bind4 (loop (fun v : (List Int) × Int × (List Int) × Int × Int => rl_make_Deck_Counts_l2 x7 v.1 v.2.1 v.2.2.1 v.2.2.2.1 v.2.2.2.2) ((List.replicate x7.toNat (0 : Int)), y10, y11.list, y11.at_, y11.state)) fun x36 x37 x38 x39 => (some (x36, (⟨x37, x38, x39⟩ : S_recordlinkmake_Deck))))) else none) else none)
set_option maxRecDepth 100000 in
theorem rl_make_Deck_Counts_con (p0 : S_recordlinkmake_Deck) (p1 : Int) (r : (List Int) × S_recordlinkmake_Deck) (h : rl_make_Deck_Counts p0 p1 = some r) : Con Try.prog 31 [.c (.ptr 0 3 0 0), vi64 p1] [(0, .box 86 [cl 1 Ri64 p0.list, ci64 p0.at_, cu64 p0.state])] (.c (.ref 1 1 0 r.1.length)) [(0, .box 86 [cl 1 Ri64 r.2.list, ci64 r.2.at_, cu64 r.2.state]), (1, .row 3 false 1 r.1.length (Ri64 r.1))] := by
 refine con_of tt_ok1 1 Try.func31 (by kernel_rfl) rfl (by kernel_rfl) (fun base X _ => AW.post ?_)
 unfold rl_make_Deck_Counts at h
 refine AW.sg tt_ok1 [] [] [] 2 [] (by kernel_rfl) ?_
 refine AW.sg tt_ok1 [(5, vi64 1)] [] [] 3 [] (by kernel_rfl) ?_
 refine AW.seq ?_
 refine AW.sg tt_ok1 [(6, vi64 0)] [] [] 4 [] (by kernel_rfl) ?_
 refine AW.block ?_
 obtain ⟨x7, l41, h⟩ := bnd_some h
 refine AW.lp l41 (fun v => ⟨[(0, .c (.ptr 0 3 0 0)), (1, vi64 p1), (5, vi64 v.1), (6, vi64 v.2)], [(0, .box 86 [cl 1 Ri64 p0.list, ci64 p0.at_, cu64 p0.state])], 1⟩) (fun t : Int => (.exit 0, ⟨[(0, .c (.ptr 0 3 0 0)), (5, vi64 t)], [(0, .box 86 [cl 1 Ri64 p0.list, ci64 p0.at_, cu64 p0.state])], 1⟩)) (conv_re [(0, 0)] (by kernel_rfl)) (fun _ => tv) ?_ ?_
 ·
  clear l41 h
  intro v o h
  obtain ⟨x3, x4⟩ := v
  replace h : rl_make_Deck_Counts_l1 p1 x3 x4 = some o := h
  unfold rl_make_Deck_Counts_l1 at h
  refine AW.seq ?_
  refine AW.sg tt_ok1 [(11, vb (decide (x4 < p1)))] [] [] 4 [] (by kernel_rfl) ?_
  refine AW.co h (by kernel_rfl) (fun c6 h => ?_) (fun c6 h => ?_)
  ·
   refine AW.skip (AW.tn ?_)
   refine AW.seq (AW.block ?_)
   refine AW.rg tt_ok1 [(5, vi64 (i64.wrap (x3 * 3)))] [] [] 7 [] (by kernel_rfl) ?_
   refine AW.inBlock_normal (AW.tn ?_)
   refine AW.rg tt_ok1 [(6, vi64 (i64.wrap (x4 + 1)))] [] [] 10 [] (by kernel_rfl) ?_
   exact lpn h (conv_re [(0, 0)] (by kernel_rfl))
  ·
   refine AW.exit (AW.thenQ_exit ?_)
   exact lpo h rfl (conv_re [(0, 0)] (by kernel_rfl))
 ·
  show (_ : Exit → St → Prop) (.exit 0) _
  refine AW.inBlock_hit (AW.tn ?_)
  obtain ⟨g8, g9, h⟩ := ifd h
  refine AW.sg tt_ok1 [(7, .c (.ref 2 1 0 ((List.replicate x7.toNat (0 : Int)).length)))] [2] [(2, .row 3 false 1 (List.replicate x7.toNat (0 : Int)).length (Ri64 (List.replicate x7.toNat (0 : Int))))] 4 [hn, hmk 0 Ei64 1 8 [.int .i64 0] rfl rfl x7 x7 g8 (Int.le_refl _) g9 (by decide)] (by kernel_rfl) ?_
  refine AW.seq ?_
  obtain ⟨y10, y11, e12, h⟩ := bind2_some h
  refine AW.sg tt_ok1 [(8, vi64 y10)] [0] [(0, .box 86 [cl 1 Ri64 y11.list, ci64 y11.at_, cu64 y11.state])] 6 [hn, hl [0] [] 0 (rl_make_Deck_Next_con p0 20 (y10, y11) e12)] (by kernel_rfl) ?_
  refine AW.block ?_
  obtain ⟨x36, x37, x38, x39, l40, h⟩ := bind4_some h
  refine AW.lp l40 (fun v => ⟨[(0, .c (.ptr 0 3 0 0)), (5, vi64 x7), (7, .c (.ref 1 1 0 v.1.length)), (8, vi64 v.2.1)], [(0, .box 86 [cl 1 Ri64 v.2.2.1, ci64 v.2.2.2.1, cu64 v.2.2.2.2]), (1, .row 3 false 1 v.1.length (Ri64 v.1))], 2⟩) (fun t : (List Int) × (List Int) × Int × Int => (.exit 2, ⟨[(7, .c (.ref 1 1 0 t.1.length))], [(0, .box 86 [cl 1 Ri64 t.2.1, ci64 t.2.2.1, cu64 t.2.2.2]), (1, .row 3 false 1 t.1.length (Ri64 t.1))], 2⟩)) (conv_re [(0, 0), (1, 2)] (by kernel_rfl)) (fun _ => tv) ?_ ?_
  ·
   clear l40 h
   intro v o h
   obtain ⟨x18, x19, x20, x21, x22⟩ := v
   replace h : rl_make_Deck_Counts_l2 x7 x18 x19 x20 x21 x22 = some o := h
   unfold rl_make_Deck_Counts_l2 at h
   refine AW.seq ?_
   refine AW.sg tt_ok1 [(21, vb (decide (x19 > 0)))] [] [] 4 [] (by kernel_rfl) ?_
   refine AW.co h (by kernel_rfl) (fun c27 h => ?_) (fun c27 h => ?_)
   ·
    refine AW.skip (AW.tn ?_)
    refine AW.seq (AW.block ?_)
    obtain ⟨y28, y29, e30, h⟩ := bind2_some h
    obtain ⟨g31, g32, h⟩ := ifd h
    obtain ⟨y33, y34, e35, h⟩ := bind2_some h
    refine AW.rd tt_ok1 mo1 [[], [], [], [0], [], [], [], [0], [], [], [1]] [] [(1, .row 3 false 1 x18.length (Ri64 (x18.set (0 + y28.toNat) (i64.wrap ((x18.getD (0 + y28.toNat) 0) + y33))))), (0, .box 86 [cl 1 Ri64 y34.list, ci64 y34.at_, cu64 y34.state])] 13 [hn, hn, hn, hl [0] [] 0 (rl_make_Deck_Next_con (⟨x20, x21, x22⟩ : S_recordlinkmake_Deck) x7 (y28, y29) e30), hq g31 g32, ho (p := (0 + y28.toNat) < x18.length) (by have h1 : 0 ≤ y28 := g31; have h2 : y28 < (x18.length : Int) := g32; omega), hn, hl [0] [] 0 (rl_make_Deck_Next_con y29 40 (y33, y34) e35), hn, hq g31 g32, hset 0 Ei64 x18 (0 + y28.toNat) (i64.wrap ((x18.getD (0 + y28.toNat) 0) + y33)) (n := x18.length) (by have h1 : 0 ≤ y28 := g31; have h2 : y28 < (x18.length : Int) := g32; omega) rfl] (by kernel_rfl) ?_
    refine AW.inBlock_normal (AW.tn ?_)
    refine AW.rg tt_ok1 [(8, vi64 (i64.wrap (x19 - 1)))] [] [] 16 [] (by kernel_rfl) ?_
    exact lpn h (Conv.trans (conv_tms [(7, .c (.ref 1 1 0 ((x18.set (0 + y28.toNat) (i64.wrap ((x18.getD (0 + y28.toNat) 0) + y33))).length)))] ⟨⟨.c (.ref 1 1 0 x18.length), by kernel_rfl, ALe.len (by simp only [List.length_set])⟩, tv⟩) (Conv.trans (conv_rowN 1 3 false 1 x18.length ((x18.set (0 + y28.toNat) (i64.wrap ((x18.getD (0 + y28.toNat) 0) + y33))).length) (Ri64 (x18.set (0 + y28.toNat) (i64.wrap ((x18.getD (0 + y28.toNat) 0) + y33)))) (by kernel_rfl) (by simp only [List.length_set])) (conv_re [(0, 0), (1, 1)] (by kernel_rfl))))
   ·
    refine AW.exit (AW.thenQ_exit ?_)
    exact lpo h rfl (conv_re [(0, 0), (1, 1)] (by kernel_rfl))
  ·
   show (_ : Exit → St → Prop) (.exit 2) _
   refine AW.inBlock_hit (AW.tn ?_)
   refine AW.sg tt_ok1 [(4, .c (.ref 1 1 0 x36.length))] [] [] 4 [] (by kernel_rfl) ?_
   refine AW.ret ?_
   obtain rfl := some_inj h
   exact fn0 (.inr rfl) [(0, 0), (1, 1)] 2 (.c (.ref 1 1 0 x36.length)) (by kernel_rfl)
/-! recordlink/pattern.Add (by hand) -/
section
open Go.RowKit Go.Shelf
attribute [local go_sem] Oper.semAt_some
/-- a slice of numbers that lies below n0 -/
def AdS (n0 : Nat) (W : World) (q : Option Addr) (l : List Int) : Prop := ∀ i, i < l.length → ∃ b o, q = some ⟨b, o, none⟩ ∧ b < n0 ∧ W.cell? ⟨b, o + i, none⟩ = some (.int .i64 (l.getD i 0))
theorem AdS.below {n0 : Nat} {W W' : World} {q : Option Addr} {l : List Int} (h : AdS n0 W q l) (hB : Below n0 W W') : AdS n0 W' q l := fun i hi => by
 obtain ⟨b, o, e, hb, hc⟩ := h i hi
 exact ⟨b, o, e, hb, (hB.cell (p := ⟨b, o + i, none⟩) hb).trans hc⟩
def adE (p : Int × Int) : Array Value := #[.int .i64 p.1, .int .i64 p.2]
theorem zip_take_succ {x y : List Int} {i : Nat} (hx : i < x.length) (hy : i < y.length) : (x.zip y).take (i + 1) = (x.zip y).take i ++ [(x.getD i 0, y.getD i 0)] := by
 rw [List.take_add_one, List.getElem?_eq_getElem (by rw [List.length_zip]; omega), List.getElem_zip, List.getD_eq_getElem?_getD, List.getElem?_eq_getElem hx, List.getD_eq_getElem?_getD, List.getElem?_eq_getElem hy]
 rfl
def AdK (n0 B1 B2 : Nat) (W W' : World) : Prop := Below n0 W W' ∧ W'.heap[B1]? = W.heap[B1]? ∧ W'.heap[B2]? = W.heap[B2]?
theorem AdK.trans {n0 B1 B2 : Nat} {A B C : World} (h : AdK n0 B1 B2 A B) (k : AdK n0 B1 B2 B C) : AdK n0 B1 B2 A C := ⟨h.1.trans k.1, k.2.1.trans h.2.1, k.2.2.trans h.2.2⟩
theorem cell_blk {A B : World} {b o : Nat} (h : B.heap[b]? = A.heap[b]?) : B.cell? ⟨b, o, none⟩ = A.cell? ⟨b, o, none⟩ := by simp only [World.cell?, h]
set_option maxRecDepth 100000 in
theorem both_stops (n : Nat) (hn : 1 ≤ n) (n0 : Nat) (w : World) (B1 B2 : Nat) (hB1 : B1 < w.heap.size) (hB2 : B2 < w.heap.size) (hn0 : n0 ≤ w.heap.size) (q1 q2 : Option Addr) (c1 c2 : Nat) (x y : List Int) (hxy : Hid (y.length = x.length)) (hlen : x.length < 1000000)
  (b1 : w.cell? ⟨B1, 0, none⟩ = some (.slice q1 x.length c1)) (b2 : w.cell? ⟨B2, 0, none⟩ = some (.slice q2 x.length c2)) (h1 : AdS n0 w q1 x) (h2 : AdS n0 w q2 y) (hB1' : n0 ≤ B1) :
  SeqStopsK Fence.wide n Try.prog 100 #[.pointer (some ⟨B1, 0, none⟩), .pointer (some ⟨B2, 0, none⟩)] adE (AdK n0 B1 B2) (fun xs => xs = x.zip y) (fun pre => pre <+: x.zip y) x.length w := fun l J Jx W hW hJ hJx hY h0 => by
 refine callsIn_of_wp Try.func100 rfl tv ?_ rfl
 simp only [Try.ntmps100, List.size_toArray, List.length_cons, List.length_nil, Nat.reduceAdd, Nat.reduceSub, Array.replicate_succ, Array.replicate_zero, List.push_toArray, List.append_toArray, List.nil_append, List.cons_append]
 have b1' := (hW.cell (p := ⟨B1, 0, none⟩) hB1).trans b1
 have hmx : Try.prog.follows .mixedOrders = true := by kernel_rfl
 gi_wp2
 gi_loopw [7] (fun v wr => ∃ i : Nat, v = .int .i64 (i : Int) ∧ i ≤ x.length ∧ J ((x.zip y).take i) wr ∧ AdK n0 B1 B2 w wr) (fun v wr => x.length - (intOf v).toNat)
 case atStart => exact ⟨0, rfl, by omega, by simpa using h0, hW.mono hn0, hW.block B1 hB1, hW.block B2 hB2⟩
 case round =>
  obtain ⟨i, rfl, hi, hJi, hWr⟩ := hrel
  by_cases hlt : (i : Int) < (x.length : Int)
  ·obtain ⟨bx, ox, rfl, hbx, hcx⟩ := (h1.below hWr.1) i (by omega)
   obtain ⟨by_, oy, rfl, hby, hcy⟩ := (h2.below hWr.1) i (by have := hxy.out; omega)
   have b1'' := (cell_blk hWr.2.1).trans b1
   have b2'' := (cell_blk hWr.2.2).trans b2
   obtain ⟨u, hu⟩ : ∃ u, x.getD i 0 = u := ⟨_, rfl⟩
   obtain ⟨v, hv⟩ : ∃ v, y.getD i 0 = v := ⟨_, rfl⟩
   rw [hu] at hcx
   rw [hv] at hcy
   have hll : ((x.zip y).take i).length < x.length := by rw [List.length_take, List.length_zip]; have := hxy.out; omega
   have hJi' : J ((x.zip y).take i) wr.drew := hJ _ wr wr.drew none hJi ⟨rfl, rfl, rfl, Nat.le_refl _, fun _ _ _ => rfl⟩ (fun r e => by cases e)
   obtain ⟨fn, tmps, assign, body, hy, hR⟩ := hY ((x.zip y).take i) (u, v) _ hJi' hll
   replace hR := hR.mono (R' := fun e W' => ∃ g : Bool, e = .returned (.bool g) ∧ Hid ((g = true ∧ J ((x.zip y).take i ++ [(u, v)]) W' ∧ AdK n0 B1 B2 wr.drew W') ∨ (g = false ∧ Jx ((x.zip y).take i ++ [(u, v)]) W'))) (fun e W' h => by
    rcases h with ⟨rfl, h1, h2⟩ | ⟨rfl, h1⟩
    ·exact ⟨true, rfl, .inl ⟨rfl, h1, h2⟩⟩
    ·exact ⟨false, rfl, .inr ⟨rfl, h1⟩⟩)
   have HU : Hid _ := hu
   have HV : Hid _ := hv
   clear hu hv hll hJi' b1 b2 b1' h1 h2 hY hJ hJx hJi h0
   dsimp only [adE] at hy
   gi_wp2
   gi_region_with_o (refine hR.mono ?_; rintro e W' ⟨g, rfl, hg⟩)
   all_goals
    rcases hg.out with ⟨rfl, hJ', hk'⟩ | ⟨rfl, hJx'⟩
    ·gi_wp2
     go_roundw
     ·refine ⟨i + 1, by show _ = _; first | rfl | (congr 1; unfold wrap64; omega), by omega, ?_, hWr.trans ⟨⟨hk'.1.os, hk'.1.tape, hk'.1.output, hk'.1.size, hk'.1.block⟩, hk'.2.1, hk'.2.2⟩⟩
      rw [zip_take_succ (by omega) (by have := hxy.out; omega), HU.out, HV.out]
      exact hJ'
     ·simp only [intOf]
      (try unfold wrap64)
      omega
    ·gi_wp2
     refine bodyPost_ret (results_none rfl _ _ _) rfl ?_
     refine ⟨⟨_, rfl⟩, .inr ⟨_, ?_, hJx'⟩⟩
     rw [← HU.out, ← HV.out, ← zip_take_succ (by omega) (by have := hxy.out; omega)]
     exact List.take_prefix _ _
--ITER
  ·gi_wp2
   go_end0
   obtain rfl : i = x.length := by omega
   rw [List.take_of_length_le (by rw [List.length_zip]; omega)] at hJi
   exact ⟨⟨_, rfl⟩, .inl hJi⟩
theorem both_in (n : Nat) (w : World) (q1 q2 : Option Addr) (n1 n2 c1 c2 : Nat) : CallsIn Fence.wide n Try.prog 73 #[.slice q1 n1 c1, .slice q2 n2 c2] w fun e w' => e = .returned (.func (.func 100) #[] #[.pointer (some ⟨w.heap.size, 0, none⟩), .pointer (some ⟨w.heap.size + 1, 0, none⟩)]) ∧ w' = (w.alloc (.cells #[.slice q1 n1 c1] 22)).alloc (.cells #[.slice q2 n2 c2] 22) := by
 refine callsIn_of_wp Try.func73 rfl tv ?_ rfl
 simp only [Try.ntmps73, List.size_toArray, List.length_cons, List.length_nil, Nat.reduceAdd, Nat.reduceSub, Array.replicate_succ, Array.replicate_zero, List.push_toArray, List.append_toArray, List.nil_append, List.cons_append]
 gi_wp2
 go_ret
 exact ⟨rfl, rfl⟩
theorem ck_call {n : Nat} {q : Option Addr} {c : Nat} {l : List Int} {f e : Int} (hc : Con Try.prog 34 [vl 1 Ri64 l, vi64 f] [] (vi64 e) []) (W : World) (hlc : l.length ≤ c) (h : AdS W.heap.size W q l) :
  CallsIn Fence.wide n Try.prog 34 #[.slice q l.length c, .int .i64 f] W fun e' W' => e' = .returned (.int .i64 e) ∧ Below W.heap.size W W' := by
 refine CallsIn.mono (Con.callsIn (fun b => b < W.heap.size) (fun _ h => h) hc _ ⟨⟨q, c, rfl, hlc, fun i hi j hj => ?_⟩, ⟨rfl, rfl⟩, tv⟩) ?_
 ·obtain ⟨b, o, e, hb, hcell⟩ := h i hi
  obtain rfl : j = 0 := by omega
  exact ⟨b, o, _, e, hb, by rw [← hcell]; congr 2; omega, rfl, rfl⟩
 ·rintro e' W' ⟨v, rfl, hB, ok', ρ', hv⟩
  obtain ⟨rfl, _⟩ := hv
  exact ⟨rfl, hB⟩
theorem ad_of_row {n0 : Nat} {W : World} {v : Value} {l : List Int} (h : W.ownsRow n0 3 1 v l.length (l.map (Value.int .i64))) : ∃ q c, v = .slice q l.length c ∧ l.length ≤ c ∧ ∀ i, i < l.length → ∃ b o, q = some ⟨b, o, none⟩ ∧ n0 ≤ b ∧ b < W.heap.size ∧ W.cell? ⟨b, o + i, none⟩ = some (.int .i64 (l.getD i 0)) := by
 obtain ⟨h1, ⟨rfl, h2⟩ | ⟨g, cap, cur, rfl, hg, hb, hn, hm, hs, ht⟩⟩ := h
 ·rw [h2]
  exact ⟨none, 0, rfl, by omega, fun i hi => by omega⟩
 ·refine ⟨_, _, rfl, hn, fun i hi => ⟨g, 0, rfl, hg, (Array.getElem?_eq_some_iff.1 hb).1, ?_⟩⟩
  have hi2 : i < cur.size := by omega
  have : cur.toList[i]? = some (.int .i64 (l.getD i 0)) := by
   have := congrArg (fun k => k[i]?) ht
   simp only [List.getElem?_take, List.getElem?_map] at this
   rw [if_pos (by omega)] at this
   rw [this, List.getD_eq_getElem?_getD, List.getElem?_eq_getElem hi]
   rfl
  simp [World.cell?, hb]
  simpa using this
def adL (x y : List Int) : List Int := List.zipWith (fun a b => wrap64 (a + b)) x y
/-- what is handed back: no list and an error; or the sums -/
def AdR (w w' : World) (L : List Int) (e1 e2 e3 : Int) (v : Value) (E : Int) : Prop :=
 (e1 ≠ 0 ∧ v = .slice none 0 0 ∧ E = e1) ∨ (e1 = 0 ∧ e2 ≠ 0 ∧ v = .slice none 0 0 ∧ E = e2) ∨ (e1 = 0 ∧ e2 = 0 ∧ e3 ≠ 0 ∧ v = .slice none 0 0 ∧ E = 19) ∨
 (e1 = 0 ∧ e2 = 0 ∧ e3 = 0 ∧ E = 0 ∧ ∃ q c, v = .slice q L.length c ∧ L.length ≤ c ∧ ∀ i, i < L.length → ∃ b o, q = some ⟨b, o, none⟩ ∧ w.heap.size ≤ b ∧ b < w'.heap.size ∧ w'.cell? ⟨b, o + i, none⟩ = some (.int .i64 (L.getD i 0)))
theorem AdS.le {n0 m : Nat} {W : World} {q : Option Addr} {l : List Int} (h : AdS n0 W q l) (hm : n0 ≤ m) : AdS m W q l := fun i hi => by
 obtain ⟨b, o, e, hb, hc⟩ := h i hi
 exact ⟨b, o, e, by omega, hc⟩
set_option maxRecDepth 100000 in
theorem add_walk (x y : List Int) (hlen : x.length < 1000000) (w : World) (q1 q2 : Option Addr) (c1 c2 : Nat) (hc1 : Hid (x.length ≤ c1)) (hc2 : Hid (y.length ≤ c2)) (h1 : AdS w.heap.size w q1 x) (h2 : AdS w.heap.size w q2 y) (f : Int)
  (e1 e2 e3 : Int) (k1 : Con Try.prog 34 [vl 1 Ri64 x, vi64 f] [] (vi64 e1) []) (k2 : Hid (e1 = 0) → Con Try.prog 34 [vl 1 Ri64 y, vi64 f] [] (vi64 e2) []) (k3 : Hid (e1 = 0 ∧ e2 = 0) → y.length = x.length ∧ Con Try.prog 34 [vl 1 Ri64 (adL x y), vi64 f] [] (vi64 e3) []) :
  CallsIn Fence.wide 10 Try.prog 44 #[.slice q1 x.length c1, .slice q2 y.length c2, .int .i64 f] w fun e w' => ∃ v E, e = .returned (.tuple #[v, .int .i64 E]) ∧ Below w.heap.size w w' ∧ AdR w w' (adL x y) e1 e2 e3 v E := by
 refine callsIn_of_wp_marks Try.func44 rfl tv ?_ rfl
 simp only [Try.ntmps44, List.size_toArray, List.length_cons, List.length_nil, Nat.reduceAdd, Nat.reduceSub, Array.replicate_succ, Array.replicate_zero, List.push_toArray, List.append_toArray, List.nil_append, List.cons_append]
 gi_wp2
 gi_loopw [18] (fun v wr => ∃ j : Nat, v = .int .i64 (j : Int) ∧ j ≤ 2 ∧ Hid ((1 ≤ j → e1 = 0) ∧ (2 ≤ j → e2 = 0)) ∧ wr.cell? ⟨w.heap.size, 0, none⟩ = some (.slice q1 x.length c1) ∧ wr.cell? ⟨w.heap.size, 1, none⟩ = some (.slice q2 y.length c2) ∧ Below w.heap.size w wr ∧ w.heap.size < wr.heap.size) (fun v wr => (2 - intOf v).toNat)
 case atStart => exact ⟨0, rfl, by omega, ⟨fun h => by omega, fun h => by omega⟩, by simp, by simp, (Below.refl _ w).alloc (Nat.le_refl _) _, by simp⟩
 case round =>
  obtain ⟨j, rfl, hj, he, b0, b1, hB, hlt⟩ := hrel
  have hB' := hB.size
  by_cases j0 : j = 0
  ·subst j0
   have hS1 := (h1.below hB).le hB'
   have kk := ck_call (n := 9) k1 wr hc1.out hS1
   gi_wp2_with fail
   refine ⟨tv, kk.mono ?_⟩
   clear kk
   rintro e' W1 ⟨rfl, hB1⟩
   by_cases g1 : e1 = 0
   ·have G1 : Hid (e1 = 0) := g1
    have hn : (e1 != 0) = false := by rw [g1]; rfl
    clear g1
    gi_wp2
    go_roundw
    case rel => exact ⟨1, rfl, by omega, ⟨fun _ => G1.out, fun h => by omega⟩, (hB1.cell (p := ⟨w.heap.size, 0, none⟩) hlt).trans b0, (hB1.cell (p := ⟨w.heap.size, 1, none⟩) hlt).trans b1, hB.trans (hB1.mono hB'), Nat.lt_of_lt_of_le hlt hB1.size⟩
    case measure => simp only [intOf]; omega
   ·gi_wp2
    exact ⟨_, results_tmp2 rfl _ _ _, .slice none 0 0, e1, rfl, hB.trans (hB1.mono hB'), .inl ⟨g1, rfl, rfl⟩⟩
  ·have G1 : Hid (e1 = 0) := he.out.1 (by omega)
   by_cases j1 : j = 1
   ·subst j1
    have hS1 := (h2.below hB).le hB'
    have kk := ck_call (n := 9) (k2 G1) wr hc2.out hS1
    gi_wp2_with fail
    refine ⟨tv, kk.mono ?_⟩
    clear kk
    rintro e' W1 ⟨rfl, hB1⟩
    by_cases g2 : e2 = 0
    ·have G2 : Hid (e2 = 0) := g2
     have hn : (e2 != 0) = false := by rw [g2]; rfl
     clear g2
     gi_wp2
     go_roundw
     case rel => exact ⟨2, rfl, by omega, ⟨fun _ => G1.out, fun h => G2.out⟩, (hB1.cell (p := ⟨w.heap.size, 0, none⟩) hlt).trans b0, (hB1.cell (p := ⟨w.heap.size, 1, none⟩) hlt).trans b1, hB.trans (hB1.mono hB'), Nat.lt_of_lt_of_le hlt hB1.size⟩
     case measure => simp only [intOf]; omega
    ·gi_wp2
     exact ⟨_, results_tmp2 rfl _ _ _, .slice none 0 0, e2, rfl, hB.trans (hB1.mono hB'), .inr (.inl ⟨G1.out, g2, rfl, rfl⟩)⟩
   ·obtain rfl : j = 2 := by omega
    have G2 : Hid (e2 = 0) := he.out.2 (by omega)
    obtain ⟨hyx, k3⟩ := k3 ⟨G1.out, G2.out⟩
    have hxy : Hid (y.length = x.length) := hyx
    rw [hyx]
    clear hyx
    clear k1 k2
    gi_wp2_with (refine ⟨tv, ?_⟩; gi_at_call 73; refine (both_in _ _ _ _ _ _ _ _).mono ?_; rintro e' w' ⟨rfl, rfl⟩)
    have hi0 : (Try.prog.info? 3).map (fun i => (i.zero, i.size, i.bytes)) = some (some (.int .i64 0), 1, 8) := by kernel_rfl
    obtain ⟨i0, hi, hz0, hz1, hz2⟩ := info_parts hi0
    clear hi0
    have bO := ((Boxed.new wr 22 (.slice none 0 0)).alloc (.cells #[.slice q1 x.length c1] 22)).alloc (.cells #[.slice q2 x.length c2] 22)
    have bX := (Boxed.new (wr.alloc (.cells #[.slice none 0 0] 22)) 22 (.slice q1 x.length c1)).alloc (.cells #[.slice q2 x.length c2] 22)
    have bY := Boxed.new ((wr.alloc (.cells #[.slice none 0 0] 22)).alloc (.cells #[.slice q1 x.length c1] 22)) 22 (.slice q2 x.length c2)
    simp only [World.size_alloc] at bX bY
    have hB0 : Below w.heap.size w (((wr.alloc (.cells #[.slice none 0 0] 22)).alloc (.cells #[.slice q1 x.length c1] 22)).alloc (.cells #[.slice q2 x.length c2] 22)) := ((hB.alloc hB' _).alloc (by simp; omega) _).alloc (by simp; omega) _
    have hsz : (((wr.alloc (.cells #[.slice none 0 0] 22)).alloc (.cells #[.slice q1 x.length c1] 22)).alloc (.cells #[.slice q2 x.length c2] 22)).heap.size = wr.heap.size + 1 + 1 + 1 := by simp
    obtain ⟨W0, hW0⟩ : ∃ W0, ((wr.alloc (.cells #[.slice none 0 0] 22)).alloc (.cells #[.slice q1 x.length c1] 22)).alloc (.cells #[.slice q2 x.length c2] 22) = W0 := ⟨_, rfl⟩
    rw [hW0] at bO bX bY hB0 hsz ⊢
    clear hW0 b0 b1 hB
    generalize wr.heap.size = nb at *
    have hK : ∀ (W : World) (l : Nat) (o o' : Obj), W0.heap.size ≤ l → W.heap[l]? = some o → o.isCells = false → o.isWalk = false → AdK w.heap.size (nb + 1) (nb + 1 + 1) W (W.putObj l o') := fun W l o o' hl ho hc hw => ⟨belowK_b (w := W0) hB0.size W l o o' hl ho hc hw, World.putObj_heap_other (by omega), World.putObj_heap_other (by omega)⟩
    refine wpIn_rangeFunc_ownF rfl (by omega) (gf := 100) (lb := #[.pointer (some ⟨nb + 1, 0, none⟩), .pointer (some ⟨nb + 1 + 1, 0, none⟩)]) rfl tv (enters_of Try.func100 (by kernel_rfl) rfl)
     (both_stops 9 (by omega) w.heap.size W0 (nb + 1) (nb + 1 + 1) (by omega) (by omega) hB0.size q1 q2 c1 c2 x y hxy hlen bX.cell bY.cell (h1.below hB0) (h2.below hB0) (by omega)) (fun h k => h.trans k) hK (Below.refl _ _) (fun _ => rfl)
     (fun pre W => (((∃ v, Boxed W nb 22 v ∧ W.ownsRow w.heap.size 3 1 v pre.length (pre.map fun p => Value.int .i64 (wrap64 (p.1 + p.2))) ∧ True) ∧ Boxed W (nb + 1) 22 (.slice q1 x.length c1)) ∧ Boxed W (nb + 1 + 1) 22 (.slice q2 x.length c2)) ∧ Below w.heap.size w W)
     (fun _ _ _ => False)
     (OwnFrom.and (OwnFrom.and (OwnFrom.and (Own.from (holdsRow_own _ _ _ _ _ (fun pre : List (Int × Int) => pre.length) (fun pre => pre.map fun p => Value.int .i64 (wrap64 (p.1 + p.2))) (fun _ _ => True)) _) (Own.from (boxed_own _ _ _) _)) (Own.from (boxed_own _ _ _) _)) (ownFrom_below (Nat.le_refl _) hB0.size))
     (fun _ _ _ _ _ hs _ _ => hs)
     ⟨⟨⟨⟨_, bO, World.ownsRow_nil _ _ _ _, tv⟩, bX⟩, bY⟩, hB0⟩
     (fun p => { tmps := #[.slice q1 x.length c1, .slice q2 x.length c2, .int .i64 f, undef, undef, undef, u6, u7, undef, u9, u10, .pointer (some ⟨nb, 0, none⟩), .int .i64 p.1, .int .i64 p.2, .slice q1 x.length c1, .slice q2 x.length c2, .slice (some ⟨w.heap.size, 0, none⟩) 2 2, .int .i64 2, .int .i64 2, .bool false, u20, u21, u22, u23, u24, u25, u26, u27, u28, .slice q1 x.length c1, .slice q2 x.length c2, .func (.func 100) #[] #[.pointer (some ⟨nb + 1, 0, none⟩), .pointer (some ⟨nb + 1 + 1, 0, none⟩)], .int .i64 p.1, .int .i64 p.2, undef, undef, undef, undef, undef, undef, undef, undef, undef, undef, undef], defers := [] }) ?assign ?body ?done ?stop
    case assign =>
     intro l p W K hK
     unfold adE
     gi_wp2
     exact hK
    case body =>
     rintro l pre p W ⟨⟨⟨⟨v, hv, hrow, -⟩, bX1⟩, bY1⟩, hBW⟩ hlt1
     have cv := hv.cell
     have fv := hv.frozen
     gi_wp2_with (gi_at_builtin; refine wpListIn_append_own _ rfl _ _ 22 rfl w.heap.size 3 i0 (.int .i64 0) 1 8 Try.underlying22 hi hz0 hz1 hz2 rfl (by decide) _ _ _ rfl (hrow.alloc _) ⟨W.heap.size, 0, none⟩ 1 1 [.int .i64 (wrap64 (p.1 + p.2))] rfl rfl (cell_one_new _ _ _) (by simp [Value.oneCell']) (by unfold maxLen; omega) (by omega) (by have := hBW.size; simp; omega) ?_; intro v' w1 hown' hgrow _; obtain ⟨g', cap', rfl⟩ := ownsRow_succ hown'; obtain ⟨hv1, hv2, hr2, hk2, hb2⟩ := hv.appended (by decide) hrow hBW.size (by omega) hown' hgrow; have hc1 := hv1.cell; have hf1 := hv1.frozen)
     have bX2 : Boxed (w1.setCell ⟨nb, 0, none⟩ (.slice (some ⟨g', 0, none⟩) (pre.length + 1) cap')) (nb + 1) 22 (.slice q1 x.length c1) := ((bX1.alloc _).kept hgrow (bX1.not_row (by decide) hrow)).other (by omega) _
     have bY2 : Boxed (w1.setCell ⟨nb, 0, none⟩ (.slice (some ⟨g', 0, none⟩) (pre.length + 1) cap')) (nb + 1 + 1) 22 (.slice q2 x.length c2) := ((bY1.alloc _).kept hgrow (bY1.not_row (by decide) hrow)).other (by omega) _
     exact ⟨hk2, ⟨hb2, Eq.trans (show _ = _ from bX2) (show _ = _ from bX1).symm, Eq.trans (show _ = _ from bY2) (show _ = _ from bY1).symm⟩, ⟨⟨⟨_, hv2, by rw [List.length_append, List.map_append]; exact hr2, tv⟩, bX2⟩, bY2⟩, hBW.trans hb2⟩
    case done =>
     rintro D ps W hD rfl ⟨⟨⟨⟨v, hv, hrow, -⟩, bX1⟩, bY1⟩, hBW⟩ hK'
     have hL : (x.zip y).map (fun p => Value.int .i64 (wrap64 (p.1 + p.2))) = (adL x y).map (Value.int .i64) := by
      unfold adL
      rw [List.map_zipWith, ← List.map_uncurry_zip_eq_zipWith]
      rfl
     have hLl : (x.zip y).length = (adL x y).length := by
      unfold adL
      rw [List.length_zip, List.length_zipWith]
     rw [hL, hLl] at hrow
     have hrow' := hrow
     obtain ⟨q, cc, rfl, hcc, hcells⟩ := ad_of_row hrow
     have cv := hv.cell
     have kk := ck_call (n := 9) k3 W hcc (fun i hi => by
      obtain ⟨b, o, e, _, hb, hcell⟩ := hcells i hi
      exact ⟨b, o, e, hb, hcell⟩)
     gi_wp2_with fail
     refine ⟨tv, kk.mono ?_⟩
     clear kk
     rintro e' W1 ⟨rfl, hB1⟩
     have hK1 : W1.heap[D]? = some (.deferred (some [])) := (hB1.block D (Array.getElem?_eq_some_iff.1 hK').1).trans hK'
     have hBW1 : Below w.heap.size w W1 := hBW.trans (hB1.mono hBW.size)
     have cv1 := (hB1.cell (p := ⟨nb, 0, none⟩) hv.lt).trans cv
     have hBF : Below w.heap.size w (W1.putObj D (.deferred none)) := hBW1.trans (belowK_b (w := w) (Nat.le_refl _) W1 D _ _ (Nat.le_trans hB0.size hD) hK1 rfl rfl)
     by_cases g3 : e3 = 0
     ·have hn : (e3 != 0) = false := by rw [g3]; rfl
      have G3 : Hid (e3 = 0) := g3
      clear g3
      gi_wp2
      refine ⟨by simp, .inl ⟨_, _, rfl, run_takeDeferred hK1, ?_⟩⟩
      refine ⟨_, results_tmp2 rfl _ _ _, _, 0, rfl, hBF, .inr (.inr (.inr ⟨G1.out, G2.out, G3.out, rfl, q, cc, rfl, hcc, fun i hi => ?_⟩))⟩
      obtain ⟨b, o, e, hb0, hb, hcell⟩ := hcells i hi
      refine ⟨b, o, e, hb0, Nat.lt_of_lt_of_le hb (by simpa using hB1.size), ?_⟩
      exact cell_kept ((hB1.cell (p := ⟨b, o + i, none⟩) hb).trans hcell) (grownBy_putObj' _ D _) (fun r e => by cases e; exact ⟨_, hK1, rfl⟩)
     ·gi_wp2
      refine ⟨by simp, .inl ⟨_, _, rfl, run_takeDeferred hK1, ?_⟩⟩
      exact ⟨_, results_tmp2 rfl _ _ _, _, 19, rfl, hBF, .inr (.inr (.inl ⟨G1.out, G2.out, g3, rfl, rfl⟩))⟩
    case stop =>
     rintro D c pre W _ _ h _
     exact h.elim
end
noncomputable def pattern_Add (p0 : List Int) (p1 : List Int) (p2 : Int) : Option ((List Int) × Int) := if p0.length < 1000000 then ((pattern_Check p0 p2).bind fun y1 => (if (y1 != 0) = true then (some (([] : List Int), y1)) else ((pattern_Check p1 p2).bind fun y2 => (if (y2 != 0) = true then (some (([] : List Int), y2)) else (if p1.length = p0.length then ((pattern_Check (adL p0 p1) p2).bind fun y3 => (if (y3 != 0) = true then (some (([] : List Int), 19)) else (some (adL p0 p1, 0)))) else none))))) else none
theorem pattern_Add_con (p0 : List Int) (p1 : List Int) (p2 : Int) (r : (List Int) × Int) (h : pattern_Add p0 p1 p2 = some r) : Con Try.prog 44 [vl 1 Ri64 p0, vl 1 Ri64 p1, vi64 p2] [] (.tup [vl 1 Ri64 r.1, vi64 r.2]) [] := by
 refine con_of_calls2 (n := 10) ⟨_, Try.func44, by kernel_rfl, rfl⟩ fun w ok vs hok ha => ?_
 obtain ⟨l⟩ := vs
 rcases l with _ | ⟨v0, _ | ⟨v1, _ | ⟨v2, _ | ⟨v3, l⟩⟩⟩⟩
 ·exact ha.elim
 ·exact ha.2.elim
 ·exact ha.2.2.elim
 ·obtain ⟨⟨q1, c1, rfl, hc1, a1⟩, ⟨q2, c2, rfl, hc2, a2⟩, ⟨rfl, _⟩, _⟩ := ha
  have toS : ∀ {q : Option Addr} {l : List Int}, (∀ i, i < l.length → ∀ j, j < 1 → ∃ b o x, q = some ⟨b, o, none⟩ ∧ ok b ∧ w.cell? ⟨b, o + i * 1 + j, none⟩ = some x ∧ RT w ok (Ri64 l i j) x) → AdS w.heap.size w q l := fun {q l} ha i hi => by
   obtain ⟨b, o, x, e, hb, hx, hr⟩ := ha i hi 0 (by decide)
   obtain ⟨rfl, _⟩ := (show RT w ok (.v (.int .i64 (l.getD i 0))) x from hr)
   exact ⟨b, o, e, hok b hb, by rw [← hx]; congr 2; omega⟩
  have s1 := toS a1
  have s2 := toS a2
  unfold pattern_Add at h
  obtain ⟨hlen, h⟩ := ifc h
  obtain ⟨e1, k1, h⟩ := bnd_some h
  have K1 := pattern_Check_con _ _ _ k1
  have fin : ∀ (e2 e3 : Int), (Go.RowKit.Hid (e1 = 0) → Con Try.prog 34 [vl 1 Ri64 p1, vi64 p2] [] (vi64 e2) []) → (Go.RowKit.Hid (e1 = 0 ∧ e2 = 0) → p1.length = p0.length ∧ Con Try.prog 34 [vl 1 Ri64 (adL p0 p1), vi64 p2] [] (vi64 e3) []) →
    (r = if e1 ≠ 0 then ([], e1) else if e2 ≠ 0 then ([], e2) else if e3 ≠ 0 then ([], 19) else (adL p0 p1, 0)) →
    CallsIn Fence.wide 10 Try.prog 44 #[.slice q1 p0.length c1, .slice q2 p1.length c2, .int .i64 p2] w fun e w' => ∃ v, e = .returned v ∧ Go.RowKit.Below w.heap.size w w' ∧ RV w' (fun b => w.heap.size ≤ b ∧ b < w'.heap.size) (fun _ => none) (.tup [vl 1 Ri64 r.1, vi64 r.2]) v := fun e2 e3 K2 K3 hr => by
   refine CallsIn.mono (add_walk p0 p1 hlen w q1 q2 c1 c2 hc1 hc2 s1 s2 p2 e1 e2 e3 K1 K2 K3) ?_
   rintro e w' ⟨v, E, rfl, hB, hR⟩
   refine ⟨_, rfl, hB, ?_⟩
   have nil : ∀ E', r = ([], E') → RV w' (fun b => w.heap.size ≤ b ∧ b < w'.heap.size) (fun _ => none) (.tup [vl 1 Ri64 r.1, vi64 r.2]) (.tuple #[.slice none 0 0, .int .i64 E']) := fun E' e => by
    rw [e]
    exact ⟨_, rfl, ⟨none, 0, rfl, Nat.le_refl _, fun i hi => absurd hi (Nat.not_lt_zero i)⟩, ⟨rfl, rfl⟩, tv⟩
   rcases hR with ⟨g1, rfl, rfl⟩ | ⟨g1, g2, rfl, rfl⟩ | ⟨g1, g2, g3, rfl, rfl⟩ | ⟨g1, g2, g3, rfl, q, c, rfl, hc, hcells⟩
   ·exact nil _ (by rw [hr, if_pos g1])
   ·exact nil _ (by rw [hr, if_neg (by simpa using g1), if_pos g2])
   ·exact nil _ (by rw [hr, if_neg (by simpa using g1), if_neg (by simpa using g2), if_pos g3])
   ·rw [hr, if_neg (by simpa using g1), if_neg (by simpa using g2), if_neg (by simpa using g3)]
    refine ⟨_, rfl, ⟨q, c, rfl, hc, fun i hi j hj => ?_⟩, ⟨rfl, rfl⟩, tv⟩
    obtain ⟨b, o, e, hb0, hb, hcell⟩ := hcells i hi
    obtain rfl : j = 0 := by omega
    exact ⟨b, o, _, e, ⟨hb0, hb⟩, by rw [← hcell]; congr 2; omega, rfl, rfl⟩
  by_cases g1 : e1 = 0
  ·rw [if_neg (by simpa using g1)] at h
   obtain ⟨e2, k2, h⟩ := bnd_some h
   by_cases g2 : e2 = 0
   ·rw [if_neg (by simpa using g2)] at h
    obtain ⟨hxy, h⟩ := ifc h
    obtain ⟨e3, k3, h⟩ := bnd_some h
    refine fin e2 e3 (fun _ => pattern_Check_con _ _ _ k2) (fun _ => ⟨hxy, pattern_Check_con _ _ _ k3⟩) ?_
    rw [if_neg (by simpa using g1), if_neg (by simpa using g2)]
    by_cases g3 : e3 = 0
    ·rw [if_neg (by simpa using g3)] at h
     rw [if_neg (by simpa using g3)]
     exact (some_inj h).symm
    ·rw [if_pos (by simpa using g3)] at h
     rw [if_pos g3]
     exact (some_inj h).symm
   ·rw [if_pos (by simpa using g2)] at h
    refine fin e2 0 (fun _ => pattern_Check_con _ _ _ k2) (fun k => absurd k.out.2 g2) ?_
    rw [if_neg (by simpa using g1), if_pos g2]
    exact (some_inj h).symm
  ·rw [if_pos (by simpa using g1)] at h
   refine fin 0 0 (fun k => absurd k.out g1) (fun k => absurd k.out.1 g1) ?_
   rw [if_pos g1]
   exact (some_inj h).symm
 ·exact ha.2.2.2.elim
/-! recordlink/recordlinkref23.valid -/
noncomputable def rl_ref23_valid_k2 (p0 : List Int) (x3 : Int) (x4 : Int) (x6 : Bool) : Option ((Int × Int) ⊕ (Unit ⊕ Unit)) := if x6 = true then (some (.inr (.inr ()))) else (if 0 ≤ x4 then (if x4 < (p0.length : Int) then (some (.inl (i64.wrap (x3 + (p0.getD x4.toNat 0)), i64.wrap (x4 + 1)))) else none) else none)
noncomputable def rl_ref23_valid_l1 (p0 : List Int) (x3 : Int) (x4 : Int) : Option ((Int × Int) ⊕ (Unit ⊕ Unit)) := if (decide (x4 < (p0.length : Int))) = true then (if 0 ≤ x4 then (if x4 < (p0.length : Int) then (if (decide ((p0.getD x4.toNat 0) < 0)) = true then (rl_ref23_valid_k2 p0 x3 x4 true) else (if (decide ((p0.getD x4.toNat 0) > 4096)) = true then (rl_ref23_valid_k2 p0 x3 x4 true) else (rl_ref23_valid_k2 p0 x3 x4 (decide ((i64.wrap (x3 + (p0.getD x4.toNat 0))) > 4096))))) else none) else none) else (some (.inr (.inl ())))
noncomputable def rl_ref23_valid_a3 : Option Bool := some true
noncomputable def rl_ref23_valid_a4 : Option Bool := some false
noncomputable def rl_ref23_valid (p0 : List Int) : Option Bool := bindE (loop (fun v : Int × Int => rl_ref23_valid_l1 p0 v.1 v.2) (0, 0)) (fun t => rl_ref23_valid_a3) (fun t => rl_ref23_valid_a4)
set_option maxRecDepth 100000 in
theorem rl_ref23_valid_con (p0 : List Int) (r : Bool) (h : rl_ref23_valid p0 = some r) : Con Try.prog 74 [vl 1 Ri64 p0] [] (vb r) [] := by
 refine con_of tt_ok1 0 Try.func74 (by kernel_rfl) rfl (by kernel_rfl) (fun base X _ => AW.post ?_)
 unfold rl_ref23_valid at h
 refine AW.sg tt_ok1 [] [] [] 1 [] (by kernel_rfl) ?_
 refine AW.sg tt_ok1 [(3, vi64 0)] [] [] 2 [] (by kernel_rfl) ?_
 refine AW.seq ?_
 refine AW.sg tt_ok1 [(4, vi64 0)] [] [] 3 [] (by kernel_rfl) ?_
 refine AW.block ?_
 refine AW.lpE h (fun v => ⟨[(0, vl 1 Ri64 p0), (3, vi64 v.1), (4, vi64 v.2)], [], 0⟩) (fun t => (.exit 0, ⟨[], [], 0⟩)) (fun t => (.ret, ⟨[(2, vb false)], [], 0⟩)) (conv_re [] (by kernel_rfl)) (fun _ => tv) (fun _ => tv) ?_ (fun t h => ?_) (fun t h => ?_)
 ·
  clear h
  intro v o h
  obtain ⟨x3, x4⟩ := v
  replace h : rl_ref23_valid_l1 p0 x3 x4 = some o := h
  unfold rl_ref23_valid_l1 at h
  refine AW.seq ?_
  refine AW.sg tt_ok1 [(8, vb (decide (x4 < (p0.length : Int))))] [] [] 4 [] (by kernel_rfl) ?_
  refine AW.co h (by kernel_rfl) (fun c5 h => ?_) (fun c5 h => ?_)
  ·
   refine AW.skip (AW.tn ?_)
   refine AW.seq (AW.block ?_)
   refine AW.seq (AW.seq ?_)
   refine AW.join (ι := Bool) (fun v => ⟨[(0, vl 1 Ri64 p0), (3, vi64 x3), (4, vi64 x4), (31, vb v)], [], 0⟩) (fun v : Bool => rl_ref23_valid_k2 p0 x3 x4 v = some o) (fun x6 h => ?_) ?_
   ·
    unfold rl_ref23_valid_k2 at h
    refine AW.tn ?_
    refine AW.co h (by kernel_rfl) (fun c7 h => ?_) (fun c7 h => ?_)
    ·
     refine AW.sg tt_ok1 [(2, vb false)] [] [] 1 [] (by kernel_rfl) ?_
     refine AW.ret (AW.tr ?_)
     refine AW.inBlock_ret (AW.tr ?_)
     exact lpo h rfl (conv_re [] (by kernel_rfl))
    ·
     refine AW.skip (AW.tn ?_)
     obtain ⟨g8, g9, h⟩ := ifd h
     refine AW.rg tt_ok1 [(3, vi64 (i64.wrap (x3 + (p0.getD x4.toNat 0))))] [] [] 7 [hn, hn, hn, hq g8 g9] (by kernel_rfl) ?_
     refine AW.inBlock_normal (AW.tn ?_)
     refine AW.rg tt_ok1 [(4, vi64 (i64.wrap (x4 + 1)))] [] [] 10 [] (by kernel_rfl) ?_
     exact lpn h (conv_re [] (by kernel_rfl))
   ·
    obtain ⟨g10, g11, h⟩ := ifd h
    rcases ifs h with ⟨c12, h⟩ | ⟨c12, h⟩
    ·
     refine AW.rg tt_ok1 [(31, vb true)] [] [] 25 [hn, hn, hq g10 g11, hn, ht c12] (by kernel_rfl) ?_
     exact jl true h (conv_re [] (by kernel_rfl))
    ·
     rcases ifs h with ⟨c13, h⟩ | ⟨c13, h⟩
     ·
      refine AW.rg tt_ok1 [(31, vb true)] [] [] 25 [hn, hn, hq g10 g11, hn, hf c12, hn, hn, hn, hq g10 g11, hn, ht c13] (by kernel_rfl) ?_
      exact jl true h (conv_re [] (by kernel_rfl))
     ·
      refine AW.rg tt_ok1 [(31, vb (decide ((i64.wrap (x3 + (p0.getD x4.toNat 0))) > 4096)))] [] [] 25 [hn, hn, hq g10 g11, hn, hf c12, hn, hn, hn, hq g10 g11, hn, hf c13, hn, hn, hn, hn, hn, hq g10 g11] (by kernel_rfl) ?_
      exact jl (decide ((i64.wrap (x3 + (p0.getD x4.toNat 0))) > 4096)) h (conv_re [] (by kernel_rfl))
  ·
   refine AW.exit (AW.thenQ_exit ?_)
   exact lpo h rfl (conv_re [] (by kernel_rfl))
 ·
  replace h : rl_ref23_valid_a3 = some r := h
  unfold rl_ref23_valid_a3 at h
  show (_ : Exit → St → Prop) (.exit 0) _
  refine AW.inBlock_hit (AW.tn ?_)
  refine AW.sg tt_ok1 [(2, vb true)] [] [] 1 [] (by kernel_rfl) ?_
  refine AW.ret ?_
  obtain rfl := some_inj h
  exact fn0 (.inr rfl) [] 0 (vb true) (by kernel_rfl)
 ·
  replace h : rl_ref23_valid_a4 = some r := h
  unfold rl_ref23_valid_a4 at h
  show (_ : Exit → St → Prop) (.ret) _
  refine AW.inBlock_ret (AW.tr ?_)
  obtain rfl := some_inj h
  exact fn0 (.inr rfl) [] 0 (vb false) (by kernel_rfl)
/-! recordlink/recordlinkref23.Check -/
noncomputable def rl_ref23_Check (p0 : List Int) (p1 : Int) : Option Int := bind2 (rl_ref23_Size p1) fun y1 y2 => (if (y2 != 0) = true then (some y2) else (if ((p0.length : Int) != y1) = true then (some 8) else ((rl_ref23_valid p0).bind fun y6 => (if (!y6) = true then (some 19) else (some 0)))))
set_option maxRecDepth 100000 in
theorem rl_ref23_Check_con (p0 : List Int) (p1 : Int) (r : Int) (h : rl_ref23_Check p0 p1 = some r) : Con Try.prog 47 [vl 1 Ri64 p0, vi64 p1] [] (vi64 r) [] := by
 refine con_of tt_ok1 0 Try.func47 (by kernel_rfl) rfl (by kernel_rfl) (fun base X _ => AW.post ?_)
 unfold rl_ref23_Check at h
 refine AW.sg tt_ok1 [] [] [] 1 [] (by kernel_rfl) ?_
 obtain ⟨y1, y2, e3, h⟩ := bind2_some h
 refine AW.sg tt_ok1 [(6, vi64 y2), (5, vi64 y1)] [] [] 7 [hn, hk (rl_ref23_Size_con p1 (y1, y2) e3)] (by kernel_rfl) ?_
 refine AW.seq ?_
 refine AW.sg tt_ok1 [(13, vb (y2 != 0))] [] [] 9 [] (by kernel_rfl) ?_
 refine AW.co h (by kernel_rfl) (fun c4 h => ?_) (fun c4 h => ?_)
 ·
  refine AW.sg tt_ok1 [(4, vi64 y2)] [] [] 11 [] (by kernel_rfl) ?_
  refine AW.ret (AW.tr ?_)
  obtain rfl := some_inj h
  exact fn0 (.inr rfl) [] 0 (vi64 y2) (by kernel_rfl)
 ·
  refine AW.skip (AW.tn (AW.seq ?_))
  refine AW.sg tt_ok1 [(18, vb ((p0.length : Int) != y1))] [] [] 13 [] (by kernel_rfl) ?_
  refine AW.co h (by kernel_rfl) (fun c5 h => ?_) (fun c5 h => ?_)
  ·
   refine AW.sg tt_ok1 [(4, vi64 8)] [] [] 14 [] (by kernel_rfl) ?_
   refine AW.ret (AW.tr ?_)
   obtain rfl := some_inj h
   exact fn0 (.inr rfl) [] 0 (vi64 8) (by kernel_rfl)
  ·
   refine AW.skip (AW.tn (AW.seq ?_))
   obtain ⟨y6, e7, h⟩ := bnd_some h
   refine AW.sg tt_ok1 [(21, vb (!y6))] [] [] 15 [hn, hk (rl_ref23_valid_con p0 y6 e7)] (by kernel_rfl) ?_
   refine AW.co h (by kernel_rfl) (fun c8 h => ?_) (fun c8 h => ?_)
   ·
    refine AW.sg tt_ok1 [(4, vi64 19)] [] [] 16 [] (by kernel_rfl) ?_
    refine AW.ret (AW.tr ?_)
    obtain rfl := some_inj h
    exact fn0 (.inr rfl) [] 0 (vi64 19) (by kernel_rfl)
   ·
    refine AW.skip (AW.tn ?_)
    refine AW.sg tt_ok1 [(4, vi64 0)] [] [] 16 [] (by kernel_rfl) ?_
    refine AW.ret ?_
    obtain rfl := some_inj h
    exact fn0 (.inr rfl) [] 0 (vi64 0) (by kernel_rfl)
/-! recordlink/recordlinkref23.Add -/
noncomputable def rl_ref23_Add_l1 (p0 : List Int) (p1 : List Int) (x9 : List Int) (x10 : Int) : Option (((List Int) × Int) ⊕ (List Int)) := if (decide (x10 < (p0.length : Int))) = true then (if 0 ≤ x10 then (if x10 < (p0.length : Int) then (if x10 < (p1.length : Int) then (if x9.length + ([i64.wrap ((p0.getD x10.toNat 0) + (p1.getD x10.toNat 0))] : List Int).length ≤ 1099511627776 then (some (.inl ((x9 ++ ([i64.wrap ((p0.getD x10.toNat 0) + (p1.getD x10.toNat 0))] : List Int)), i64.wrap (x10 + 1)))) else none) else none) else none) else none) else (some (.inr x9))
noncomputable def rl_ref23_Add (p0 : List Int) (p1 : List Int) (p2 : Int) : Option ((List Int) × Int) := (rl_ref23_Check p0 p2).bind fun y1 => (if (y1 != 0) = true then (some (([] : List Int), y1)) else ((rl_ref23_Check p1 p2).bind fun y4 => (if (y4 != 0) = true then (some (([] : List Int), y4)) else ((loop (fun v : (List Int) × Int => rl_ref23_Add_l1 p0 p1 v.1 v.2) (([] : List Int), 0)).bind fun x17 => ((rl_ref23_valid x17).bind fun y18 => (if (!y18) = true then (some (([] : List Int), 19)) else (some (x17, 0))))))))
set_option maxRecDepth 100000 in
theorem rl_ref23_Add_con (p0 : List Int) (p1 : List Int) (p2 : Int) (r : (List Int) × Int) (h : rl_ref23_Add p0 p1 p2 = some r) : Con Try.prog 45 [vl 1 Ri64 p0, vl 1 Ri64 p1, vi64 p2] [] (.tup [.c (.ref 0 1 0 r.1.length), vi64 r.2]) [(0, .row 3 false 1 r.1.length (Ri64 r.1))] := by
 refine con_of tt_ok1 0 Try.func45 (by kernel_rfl) rfl (by kernel_rfl) (fun base X _ => AW.post ?_)
 unfold rl_ref23_Add at h
 refine AW.sg tt_ok1 [] [] [] 2 [] (by kernel_rfl) ?_
 refine AW.seq ?_
 obtain ⟨y1, e2, h⟩ := bnd_some h
 refine AW.sg tt_ok1 [(8, vi64 y1)] [] [] 5 [hn, hn, hk (rl_ref23_Check_con p0 p2 y1 e2)] (by kernel_rfl) ?_
 refine AW.sg tt_ok1 [(16, vb (y1 != 0))] [] [] 7 [] (by kernel_rfl) ?_
 refine AW.co h (by kernel_rfl) (fun c3 h => ?_) (fun c3 h => ?_)
 ·
  refine AW.sg tt_ok1 [(7, vi64 y1), (6, .c (.t (.v (.slice none 0 0))))] [] [] 10 [] (by kernel_rfl) ?_
  refine AW.ret (AW.tr ?_)
  obtain rfl := some_inj h
  exact fnR (.inr rfl) [(0, 10)] 1 (.tup [.c (.ref 10 1 0 (([] : List Int).length)), vi64 y1]) (conv_adopt (t := 6) (ty := 3) (sz := 1) (n := ([] : List Int).length) (f := Ri64 ([] : List Int)) (by kernel_rfl) rfl) (by kernel_rfl)
 ·
  refine AW.skip (AW.tn (AW.seq ?_))
  obtain ⟨y4, e5, h⟩ := bnd_some h
  refine AW.sg tt_ok1 [(9, vi64 y4)] [] [] 10 [hn, hn, hk (rl_ref23_Check_con p1 p2 y4 e5)] (by kernel_rfl) ?_
  refine AW.sg tt_ok1 [(22, vb (y4 != 0))] [] [] 12 [] (by kernel_rfl) ?_
  refine AW.co h (by kernel_rfl) (fun c6 h => ?_) (fun c6 h => ?_)
  ·
   refine AW.sg tt_ok1 [(7, vi64 y4), (6, .c (.t (.v (.slice none 0 0))))] [] [] 15 [] (by kernel_rfl) ?_
   refine AW.ret (AW.tr ?_)
   obtain rfl := some_inj h
   exact fnR (.inr rfl) [(0, 15)] 1 (.tup [.c (.ref 15 1 0 (([] : List Int).length)), vi64 y4]) (conv_adopt (t := 6) (ty := 3) (sz := 1) (n := ([] : List Int).length) (f := Ri64 ([] : List Int)) (by kernel_rfl) rfl) (by kernel_rfl)
  ·
   refine AW.skip (AW.tn ?_)
   refine AW.sg tt_ok1 [(10, .c (.t (.v (.slice none 0 0))))] [] [] 13 [] (by kernel_rfl) ?_
   refine AW.seq ?_
   refine AW.sg tt_ok1 [(11, vi64 0)] [] [] 14 [] (by kernel_rfl) ?_
   refine AW.block ?_
   obtain ⟨x17, l21, h⟩ := bnd_some h
   refine AW.lp l21 (fun v => ⟨[(0, vl 1 Ri64 p0), (1, vl 1 Ri64 p1), (10, .c (.ref 0 1 0 v.1.length)), (11, vi64 v.2)], [(0, .row 3 false 1 v.1.length (Ri64 v.1))], 1⟩) (fun t : List Int => (.exit 0, ⟨[(10, .c (.ref 0 1 0 t.length))], [(0, .row 3 false 1 t.length (Ri64 t))], 1⟩)) (Conv.trans (conv_adopt (t := 10) (ty := 3) (sz := 1) (n := ([] : List Int).length) (f := Ri64 ([] : List Int)) (by kernel_rfl) rfl) (conv_re [(0, 14)] (by kernel_rfl))) (fun _ => tv) ?_ ?_
   ·
    clear l21 h
    intro v o h
    obtain ⟨x9, x10⟩ := v
    replace h : rl_ref23_Add_l1 p0 p1 x9 x10 = some o := h
    unfold rl_ref23_Add_l1 at h
    refine AW.seq ?_
    refine AW.sg tt_ok1 [(27, vb (decide (x10 < (p0.length : Int))))] [] [] 5 [] (by kernel_rfl) ?_
    refine AW.co h (by kernel_rfl) (fun c12 h => ?_) (fun c12 h => ?_)
    ·
     refine AW.skip (AW.tn ?_)
     refine AW.seq (AW.block ?_)
     obtain ⟨g13, g14, h⟩ := ifd h
     obtain ⟨g15, g16, h⟩ := ifd h
     refine AW.rd tt_ok1 mo1 [[], [], [], [], [], [], [], [], [], [], [15], [16, 0]] [(10, .c (.ref 16 1 0 ((x9 ++ ([i64.wrap ((p0.getD x10.toNat 0) + (p1.getD x10.toNat 0))] : List Int)).length)))] [(16, .row 3 false 1 (x9 ++ ([i64.wrap ((p0.getD x10.toNat 0) + (p1.getD x10.toNat 0))] : List Int)).length (Ri64 (x9 ++ ([i64.wrap ((p0.getD x10.toNat 0) + (p1.getD x10.toNat 0))] : List Int))))] 18 [hn, hn, hn, hq g13 g14, hn, hn, hn, hq g13 g15, hn, hn, hlit 0 Ei64 1 (fun _ => rfl) ([i64.wrap ((p0.getD x10.toNat 0) + (p1.getD x10.toNat 0))] : List Int), happ 0 Ei64 1 8 x9 ([i64.wrap ((p0.getD x10.toNat 0) + (p1.getD x10.toNat 0))] : List Int) g16 (by decide)] (by kernel_rfl) ?_
     refine AW.inBlock_normal (AW.tn ?_)
     refine AW.rg tt_ok1 [(11, vi64 (i64.wrap (x10 + 1)))] [] [] 21 [] (by kernel_rfl) ?_
     exact lpn h (conv_re [(0, 16)] (by kernel_rfl))
    ·
     refine AW.exit (AW.thenQ_exit ?_)
     exact lpo h rfl (conv_re [(0, 0)] (by kernel_rfl))
   ·
    show (_ : Exit → St → Prop) (.exit 0) _
    refine AW.inBlock_hit (AW.tn (AW.seq ?_))
    obtain ⟨y18, e19, h⟩ := bnd_some h
    refine AW.sg tt_ok1 [(44, vb (!y18))] [] [] 3 [hn, hg [] [] true 0 (q := (0 + x17.length ≤ x17.length) ∧ (True)) ⟨le0, tv⟩ (a0 := [vl 1 Ri64 x17]) (rl_ref23_valid_con x17 y18 e19) ⟨ArgLe.refl _, tv⟩ (fun _ => tv)] (by kernel_rfl) ?_
    refine AW.co h (by kernel_rfl) (fun c20 h => ?_) (fun c20 h => ?_)
    ·
     refine AW.sg tt_ok1 [(7, vi64 19), (6, .c (.t (.v (.slice none 0 0))))] [] [] 5 [] (by kernel_rfl) ?_
     refine AW.ret (AW.tr ?_)
     obtain rfl := some_inj h
     exact fnR (.inr rfl) [(0, 5)] 1 (.tup [.c (.ref 5 1 0 (([] : List Int).length)), vi64 19]) (conv_adopt (t := 6) (ty := 3) (sz := 1) (n := ([] : List Int).length) (f := Ri64 ([] : List Int)) (by kernel_rfl) rfl) (by kernel_rfl)
    ·
     refine AW.skip (AW.tn ?_)
     refine AW.sg tt_ok1 [(7, vi64 0), (6, .c (.ref 0 1 0 x17.length))] [] [] 6 [] (by kernel_rfl) ?_
     refine AW.ret ?_
     obtain rfl := some_inj h
     exact fn0 (.inr rfl) [(0, 0)] 1 (.tup [.c (.ref 0 1 0 x17.length), vi64 0]) (by kernel_rfl)
/-! recordlink/recordlinkref17.Digits -/
noncomputable def rl_ref17_Digits_l3 (p1 : Int) (x8 : Int) (x9 : List Int) (x10 : Int) : Option ((Int × (List Int) × Int) ⊕ (List Int)) := if (decide (x10 < p1)) = true then (if x9.length + ([(x8.tmod 3)] : List Int).length ≤ 1099511627776 then (some (.inl (i64.wrap (x8.tdiv 3), (x9 ++ ([(x8.tmod 3)] : List Int)), i64.wrap (x10 + 1)))) else none) else (some (.inr x9))
noncomputable def rl_ref17_Digits_k2 (p0 : Int) (p1 : Int) (x3 : Bool) : Option ((List Int) × Int) := if x3 = true then (some (([] : List Int), 2)) else ((loop (fun v : Int × (List Int) × Int => rl_ref17_Digits_l3 p1 v.1 v.2.1 v.2.2) (p0, ([] : List Int), 0)).bind fun x14 => (some (x14, 0)))
noncomputable def rl_ref17_Digits_k1 (p0 : Int) (p1 : Int) (x1 : Bool) : Option ((List Int) × Int) := if x1 = true then (some (([] : List Int), 8)) else (if (decide (p0 < 0)) = true then (rl_ref17_Digits_k2 p0 p1 true) else ((rl_ref17_Size p1).bind fun y17 => (rl_ref17_Digits_k2 p0 p1 (decide (p0 ≥ y17)))))
noncomputable def rl_ref17_Digits (p0 : Int) (p1 : Int) : Option ((List Int) × Int) := if (decide (p1 < 1)) = true then (rl_ref17_Digits_k1 p0 p1 true) else (rl_ref17_Digits_k1 p0 p1 (decide (p1 > 5)))
set_option maxRecDepth 100000 in
theorem rl_ref17_Digits_con (p0 : Int) (p1 : Int) (r : (List Int) × Int) (h : rl_ref17_Digits p0 p1 = some r) : Con Try.prog 75 [vi64 p0, vi64 p1] [] (.tup [.c (.ref 0 1 0 r.1.length), vi64 r.2]) [(0, .row 3 false 1 r.1.length (Ri64 r.1))] := by
 refine con_of tt_ok1 0 Try.func75 (by kernel_rfl) rfl (by kernel_rfl) (fun base X _ => AW.post ?_)
 unfold rl_ref17_Digits at h
 refine AW.sg tt_ok1 [] [] [] 2 [] (by kernel_rfl) ?_
 refine AW.seq (AW.seq ?_)
 refine AW.join (ι := Bool) (fun v => ⟨[(0, vi64 p0), (1, vi64 p1), (13, vb v)], [], 0⟩) (fun v : Bool => rl_ref17_Digits_k1 p0 p1 v = some r) (fun x1 h => ?_) ?_
 ·
  unfold rl_ref17_Digits_k1 at h
  refine AW.tn ?_
  refine AW.co h (by kernel_rfl) (fun c2 h => ?_) (fun c2 h => ?_)
  ·
   refine AW.sg tt_ok1 [(5, vi64 8), (4, .c (.t (.v (.slice none 0 0))))] [] [] 2 [] (by kernel_rfl) ?_
   refine AW.ret (AW.tr ?_)
   obtain rfl := some_inj h
   exact fnR (.inr rfl) [(0, 2)] 1 (.tup [.c (.ref 2 1 0 (([] : List Int).length)), vi64 8]) (conv_adopt (t := 4) (ty := 3) (sz := 1) (n := ([] : List Int).length) (f := Ri64 ([] : List Int)) (by kernel_rfl) rfl) (by kernel_rfl)
  ·
   refine AW.skip (AW.tn ?_)
   refine AW.seq (AW.seq ?_)
   refine AW.join (ι := Bool) (fun v => ⟨[(0, vi64 p0), (1, vi64 p1), (21, vb v)], [], 0⟩) (fun v : Bool => rl_ref17_Digits_k2 p0 p1 v = some r) (fun x3 h => ?_) ?_
   ·
    unfold rl_ref17_Digits_k2 at h
    refine AW.tn ?_
    refine AW.co h (by kernel_rfl) (fun c4 h => ?_) (fun c4 h => ?_)
    ·
     refine AW.sg tt_ok1 [(5, vi64 2), (4, .c (.t (.v (.slice none 0 0))))] [] [] 2 [] (by kernel_rfl) ?_
     refine AW.ret (AW.tr ?_)
     obtain rfl := some_inj h
     exact fnR (.inr rfl) [(0, 2)] 1 (.tup [.c (.ref 2 1 0 (([] : List Int).length)), vi64 2]) (conv_adopt (t := 4) (ty := 3) (sz := 1) (n := ([] : List Int).length) (f := Ri64 ([] : List Int)) (by kernel_rfl) rfl) (by kernel_rfl)
    ·
     refine AW.skip (AW.tn ?_)
     refine AW.sg tt_ok1 [(6, .c (.t (.v (.slice none 0 0))))] [] [] 1 [] (by kernel_rfl) ?_
     refine AW.seq ?_
     refine AW.sg tt_ok1 [(7, vi64 0)] [] [] 2 [] (by kernel_rfl) ?_
     refine AW.block ?_
     obtain ⟨x14, l15, h⟩ := bnd_some h
     refine AW.lp l15 (fun v => ⟨[(0, vi64 v.1), (1, vi64 p1), (6, .c (.ref 0 1 0 v.2.1.length)), (7, vi64 v.2.2)], [(0, .row 3 false 1 v.2.1.length (Ri64 v.2.1))], 1⟩) (fun t : List Int => (.exit 0, ⟨[(6, .c (.ref 0 1 0 t.length))], [(0, .row 3 false 1 t.length (Ri64 t))], 1⟩)) (Conv.trans (conv_adopt (t := 6) (ty := 3) (sz := 1) (n := ([] : List Int).length) (f := Ri64 ([] : List Int)) (by kernel_rfl) rfl) (conv_re [(0, 2)] (by kernel_rfl))) (fun _ => tv) ?_ ?_
     ·
      clear l15 h
      intro v o h
      obtain ⟨x8, x9, x10⟩ := v
      replace h : rl_ref17_Digits_l3 p1 x8 x9 x10 = some o := h
      unfold rl_ref17_Digits_l3 at h
      refine AW.seq ?_
      refine AW.sg tt_ok1 [(24, vb (decide (x10 < p1)))] [] [] 4 [] (by kernel_rfl) ?_
      refine AW.co h (by kernel_rfl) (fun c12 h => ?_) (fun c12 h => ?_)
      ·
       refine AW.skip (AW.tn ?_)
       refine AW.seq (AW.block ?_)
       obtain ⟨g13, h⟩ := ifc h
       refine AW.sg tt_ok1 [(6, .c (.ref 8 1 0 ((x9 ++ ([(x8.tmod 3)] : List Int)).length)))] [0, 7, 8] [(8, .row 3 false 1 (x9 ++ ([(x8.tmod 3)] : List Int)).length (Ri64 (x9 ++ ([(x8.tmod 3)] : List Int))))] 10 [hn, hn, ho (p := (3 : Int) ≠ 0) (by decide), hlit 0 Ei64 1 (fun _ => rfl) ([(x8.tmod 3)] : List Int), happ 0 Ei64 1 8 x9 ([(x8.tmod 3)] : List Int) g13 (by decide)] (by kernel_rfl) ?_
       refine AW.rg tt_ok1 [(0, vi64 (i64.wrap (x8.tdiv 3)))] [] [] 13 [hn, ho (p := (3 : Int) ≠ 0) (by decide)] (by kernel_rfl) ?_
       refine AW.inBlock_normal (AW.tn ?_)
       refine AW.rg tt_ok1 [(7, vi64 (i64.wrap (x10 + 1)))] [] [] 16 [] (by kernel_rfl) ?_
       exact lpn h (conv_re [(0, 8)] (by kernel_rfl))
      ·
       refine AW.exit (AW.thenQ_exit ?_)
       exact lpo h rfl (conv_re [(0, 0)] (by kernel_rfl))
     ·
      show (_ : Exit → St → Prop) (.exit 0) _
      refine AW.inBlock_hit (AW.tn ?_)
      refine AW.sg tt_ok1 [(5, vi64 0), (4, .c (.ref 0 1 0 x14.length))] [] [] 4 [] (by kernel_rfl) ?_
      refine AW.ret ?_
      obtain rfl := some_inj h
      exact fn0 (.inr rfl) [(0, 0)] 1 (.tup [.c (.ref 0 1 0 x14.length), vi64 0]) (by kernel_rfl)
   ·
    rcases ifs h with ⟨c16, h⟩ | ⟨c16, h⟩
    ·
     refine AW.rg tt_ok1 [(21, vb true)] [] [] 8 [hn, ht c16] (by kernel_rfl) ?_
     exact jl true h (conv_re [] (by kernel_rfl))
    ·
     obtain ⟨y17, e18, h⟩ := bnd_some h
     refine AW.rg tt_ok1 [(21, vb (decide (p0 ≥ y17)))] [] [] 7 [hn, hf c16, hn, hn, hn, hk (rl_ref17_Size_con p1 y17 e18)] (by kernel_rfl) ?_
     exact jl (decide (p0 ≥ y17)) h (conv_re [] (by kernel_rfl))
 ·
  rcases ifs h with ⟨c19, h⟩ | ⟨c19, h⟩
  ·
   refine AW.rg tt_ok1 [(13, vb true)] [] [] 8 [hn, ht c19] (by kernel_rfl) ?_
   exact jl true h (conv_re [] (by kernel_rfl))
  ·
   refine AW.rg tt_ok1 [(13, vb (decide (p1 > 5)))] [] [] 8 [hn, hf c19] (by kernel_rfl) ?_
   exact jl (decide (p1 > 5)) h (conv_re [] (by kernel_rfl))
/-! recordlink/recordlinkref23.Marginal -/
noncomputable def rl_ref23_Marginal_l2 (p0 : List Int) (p1 : Int) (p2 : Int) (x8 : Int) (x9 : List Int) : Option ((Int × (List Int)) ⊕ (List Int)) := if (decide (x8 < (p0.length : Int))) = true then (bind2 (rl_ref17_Digits x8 p1) fun y12 y13 => (if 0 ≤ p2 then (if p2 < (y12.length : Int) then (if 0 ≤ (y12.getD (0 + p2.toNat) 0) then (if (y12.getD (0 + p2.toNat) 0) < ((3 : Nat) : Int) then (if 0 ≤ x8 then (if x8 < (p0.length : Int) then (if 3 = x9.length then (some (.inl (i64.wrap (x8 + 1), (x9.set (0 + (y12.getD (0 + p2.toNat) 0).toNat) (i64.wrap ((x9.getD (0 + (y12.getD (0 + p2.toNat) 0).toNat) 0) + (p0.getD x8.toNat 0))))))) else none) else none) else none) else none) else none) else none) else none)) else (some (.inr x9))
noncomputable def rl_ref23_Marginal_k1 (p0 : List Int) (p1 : Int) (p2 : Int) (x4 : Bool) : Option ((List Int) × Int) := if x4 = true then (some (([0, 0, 0] : List Int), 2)) else ((loop (fun v : Int × (List Int) => rl_ref23_Marginal_l2 p0 p1 p2 v.1 v.2) (0, ([0, 0, 0] : List Int))).bind fun x22 => (some (x22, 0)))
noncomputable def rl_ref23_Marginal (p0 : List Int) (p1 : Int) (p2 : Int) : Option ((List Int) × Int) := (rl_ref23_Check p0 p1).bind fun y1 => (if (y1 != 0) = true then (some (([0, 0, 0] : List Int), y1)) else (if (decide (p2 < 0)) = true then (rl_ref23_Marginal_k1 p0 p1 p2 true) else (rl_ref23_Marginal_k1 p0 p1 p2 (decide (p2 ≥ p1)))))
set_option maxRecDepth 100000 in
theorem rl_ref23_Marginal_con (p0 : List Int) (p1 : Int) (p2 : Int) (r : (List Int) × Int) (h : rl_ref23_Marginal p0 p1 p2 = some r) : Con Try.prog 46 [vl 1 Ri64 p0, vi64 p1, vi64 p2] [] (.tup [.agg [ci64 (r.1.getD 0 0), ci64 (r.1.getD 1 0), ci64 (r.1.getD 2 0)], vi64 r.2]) [] := by
 refine con_of tt_ok1 0 Try.func46 (by kernel_rfl) rfl (by kernel_rfl) (fun base X _ => AW.post ?_)
 unfold rl_ref23_Marginal at h
 refine AW.sg tt_ok1 [(6, .c (.ptr 0 1 0 0))] [0] [(0, .row 60 false 1 3 (Ri64 ([0, 0, 0] : List Int)))] 2 [hr 3 (Ri64 ([0, 0, 0] : List Int)) (p := 3 = 3 ∧ ∀ i, i < 3 → ∀ j, j < 1 → TLe (rowOf [.v (.int .i64 0), .v (.int .i64 0), .v (.int .i64 0)] 1 i j) (Ri64 ([0, 0, 0] : List Int) i j)) (⟨rfl, fun i hi j hj => match i, hi, j, hj with | 0, _, 0, _ => TLe.refl _ | 1, _, 0, _ => TLe.refl _ | 2, _, 0, _ => TLe.refl _ | _ + 3, h, _, _ => absurd h (by omega) | _, _, _ + 1, h => absurd h (by omega)⟩)] (by kernel_rfl) ?_
 refine AW.seq ?_
 obtain ⟨y1, e2, h⟩ := bnd_some h
 refine AW.sg tt_ok1 [(8, vi64 y1)] [] [] 5 [hn, hn, hk (rl_ref23_Check_con p0 p1 y1 e2)] (by kernel_rfl) ?_
 refine AW.sg tt_ok1 [(17, vb (y1 != 0))] [] [] 7 [] (by kernel_rfl) ?_
 refine AW.co h (by kernel_rfl) (fun c3 h => ?_) (fun c3 h => ?_)
 ·
  refine AW.sg tt_ok1 [(7, vi64 y1)] [0] [(0, .row 60 false 1 3 (Ri64 ([0, 0, 0] : List Int)))] 11 [hn, hn, hr 3 (Ri64 ([0, 0, 0] : List Int)) (p := 3 = 3 ∧ ∀ i, i < 3 → ∀ j, j < 1 → TLe (rowOf [.v (.int .i64 0), .v (.int .i64 0), .v (.int .i64 0)] 1 i j) (Ri64 ([0, 0, 0] : List Int) i j)) (⟨rfl, fun i hi j hj => match i, hi, j, hj with | 0, _, 0, _ => TLe.refl _ | 1, _, 0, _ => TLe.refl _ | 2, _, 0, _ => TLe.refl _ | _ + 3, h, _, _ => absurd h (by omega) | _, _, _ + 1, h => absurd h (by omega)⟩)] (by kernel_rfl) ?_
  refine AW.ret (AW.tr ?_)
  obtain rfl := some_inj h
  exact ⟨_, Conv.refl _ _, .inr rfl, OutOk.mk [] 0 (out0 := .tup [.agg [ci64 (([0, 0, 0] : List Int).getD 0 0), ci64 (([0, 0, 0] : List Int).getD 1 0), ci64 (([0, 0, 0] : List Int).getD 2 0)], vi64 y1]) (ps := [0 + 2 < 3, True]) (by kernel_rfl) ⟨(by decide), tv, tv⟩ (by kernel_rfl) (by kernel_rfl)⟩
 ·
  refine AW.skip (AW.tn ?_)
  refine AW.seq (AW.seq ?_)
  refine AW.join (ι := Bool) (fun v => ⟨[(0, vl 1 Ri64 p0), (1, vi64 p1), (2, vi64 p2), (6, .c (.ptr 0 1 0 0)), (26, vb v)], [(0, .row 60 false 1 3 (Ri64 ([0, 0, 0] : List Int)))], 1⟩) (fun v : Bool => rl_ref23_Marginal_k1 p0 p1 p2 v = some r) (fun x4 h => ?_) ?_
  ·
   unfold rl_ref23_Marginal_k1 at h
   refine AW.tn ?_
   refine AW.co h (by kernel_rfl) (fun c5 h => ?_) (fun c5 h => ?_)
   ·
    refine AW.sg tt_ok1 [(7, vi64 2)] [0] [(0, .row 60 false 1 3 (Ri64 ([0, 0, 0] : List Int)))] 4 [hn, hr 3 (Ri64 ([0, 0, 0] : List Int)) (p := 3 = 3 ∧ ∀ i, i < 3 → ∀ j, j < 1 → TLe (rowOf [.v (.int .i64 0), .v (.int .i64 0), .v (.int .i64 0)] 1 i j) (Ri64 ([0, 0, 0] : List Int) i j)) (⟨rfl, fun i hi j hj => match i, hi, j, hj with | 0, _, 0, _ => TLe.refl _ | 1, _, 0, _ => TLe.refl _ | 2, _, 0, _ => TLe.refl _ | _ + 3, h, _, _ => absurd h (by omega) | _, _, _ + 1, h => absurd h (by omega)⟩)] (by kernel_rfl) ?_
    refine AW.ret (AW.tr ?_)
    obtain rfl := some_inj h
    exact ⟨_, Conv.refl _ _, .inr rfl, OutOk.mk [] 0 (out0 := .tup [.agg [ci64 (([0, 0, 0] : List Int).getD 0 0), ci64 (([0, 0, 0] : List Int).getD 1 0), ci64 (([0, 0, 0] : List Int).getD 2 0)], vi64 2]) (ps := [0 + 2 < 3, True]) (by kernel_rfl) ⟨(by decide), tv, tv⟩ (by kernel_rfl) (by kernel_rfl)⟩
   ·
    refine AW.skip (AW.tn ?_)
    refine AW.sg tt_ok1 [(9, .c (.ptr 1 1 0 0))] [1] [(1, .row 60 false 1 3 (Ri64 ([0, 0, 0] : List Int)))] 2 [hr 3 (Ri64 ([0, 0, 0] : List Int)) (p := 3 = 3 ∧ ∀ i, i < 3 → ∀ j, j < 1 → TLe (rowOf [.v (.int .i64 0), .v (.int .i64 0), .v (.int .i64 0)] 1 i j) (Ri64 ([0, 0, 0] : List Int) i j)) (⟨rfl, fun i hi j hj => match i, hi, j, hj with | 0, _, 0, _ => TLe.refl _ | 1, _, 0, _ => TLe.refl _ | 2, _, 0, _ => TLe.refl _ | _ + 3, h, _, _ => absurd h (by omega) | _, _, _ + 1, h => absurd h (by omega)⟩)] (by kernel_rfl) ?_
    refine AW.seq ?_
    refine AW.sg tt_ok1 [(10, vi64 0)] [] [] 3 [] (by kernel_rfl) ?_
    refine AW.block ?_
    obtain ⟨x22, l23, h⟩ := bnd_some h
    refine AW.lp l23 (fun v => ⟨[(0, vl 1 Ri64 p0), (1, vi64 p1), (2, vi64 p2), (6, .c (.ptr 0 1 0 0)), (9, .c (.ptr 1 1 0 0)), (10, vi64 v.1)], [(0, .row 60 false 1 3 (Ri64 ([0, 0, 0] : List Int))), (1, .row 60 false 1 3 (Ri64 v.2))], 2⟩) (fun t : List Int => (.exit 0, ⟨[(6, .c (.ptr 0 1 0 0)), (9, .c (.ptr 1 1 0 0))], [(0, .row 60 false 1 3 (Ri64 ([0, 0, 0] : List Int))), (1, .row 60 false 1 3 (Ri64 t))], 2⟩)) (conv_re [(0, 0), (1, 1)] (by kernel_rfl)) (fun _ => tv) ?_ ?_
    ·
     clear l23 h
     intro v o h
     obtain ⟨x8, x9⟩ := v
     replace h : rl_ref23_Marginal_l2 p0 p1 p2 x8 x9 = some o := h
     unfold rl_ref23_Marginal_l2 at h
     refine AW.seq ?_
     refine AW.sg tt_ok1 [(31, vb (decide (x8 < (p0.length : Int))))] [] [] 6 [] (by kernel_rfl) ?_
     refine AW.co h (by kernel_rfl) (fun c11 h => ?_) (fun c11 h => ?_)
     ·
      refine AW.skip (AW.tn ?_)
      refine AW.seq (AW.block ?_)
      obtain ⟨y12, y13, e14, h⟩ := bind2_some h
      refine AW.sg tt_ok1 [(11, .c (.ref 8 1 0 y12.length))] [8] [(8, .row 3 false 1 y12.length (Ri64 y12))] 14 [hn, hn, hm [] [] 1 (rl_ref17_Digits_con x8 p1 (y12, y13) e14) ⟨rowL_flat Vi64 _ _ _, tv⟩] (by kernel_rfl) ?_
      obtain ⟨g15, g16, h⟩ := ifd h
      obtain ⟨g17, g18, h⟩ := ifd h
      obtain ⟨g19, g20, h⟩ := ifd h
      obtain ⟨g21, h⟩ := ifc h
      refine AW.rd tt_ok1 mo1 [[], [], [], [], [], [], [], [], [], [], [], [], [1]] [] [(1, .row 60 false 1 3 (Ri64 (x9.set (0 + (y12.getD (0 + p2.toNat) 0).toNat) (i64.wrap ((x9.getD (0 + (y12.getD (0 + p2.toNat) 0).toNat) 0) + (p0.getD x8.toNat 0))))))] 27 [hn, hn, hq g15 g16, ho (p := (0 + p2.toNat) < y12.length) (by have h1 : 0 ≤ p2 := g15; have h2 : p2 < (y12.length : Int) := g16; omega), hq g17 g18, ho (p := (0 + (y12.getD (0 + p2.toNat) 0).toNat) < 3) (by have h1 : 0 ≤ (y12.getD (0 + p2.toNat) 0) := g17; have h2 : (y12.getD (0 + p2.toNat) 0) < ((3 : Nat) : Int) := g18; omega), hn, hn, hq g19 g20, hn, hn, hq g17 g18, hset 0 Ei64 x9 (0 + (y12.getD (0 + p2.toNat) 0).toNat) (i64.wrap ((x9.getD (0 + (y12.getD (0 + p2.toNat) 0).toNat) 0) + (p0.getD x8.toNat 0))) (n := 3) (by have h1 : 0 ≤ (y12.getD (0 + p2.toNat) 0) := g17; have h2 : (y12.getD (0 + p2.toNat) 0) < ((3 : Nat) : Int) := g18; omega) g21] (by kernel_rfl) ?_
      refine AW.inBlock_normal (AW.tn ?_)
      refine AW.rg tt_ok1 [(10, vi64 (i64.wrap (x8 + 1)))] [] [] 30 [] (by kernel_rfl) ?_
      exact lpn h (conv_re [(0, 0), (1, 1)] (by kernel_rfl))
     ·
      refine AW.exit (AW.thenQ_exit ?_)
      exact lpo h rfl (conv_re [(0, 0), (1, 1)] (by kernel_rfl))
    ·
     show (_ : Exit → St → Prop) (.exit 0) _
     refine AW.inBlock_hit (AW.tn ?_)
     refine AW.sg tt_ok1 [(7, vi64 0)] [0] [(0, .row 60 false 1 3 (Ri64 x22))] 5 [ho (p := 0 + 2 < 3) (by decide), hr 3 (Ri64 x22) (p := 3 = 3 ∧ ∀ i, i < 3 → ∀ j, j < 1 → TLe (rowOf [.v (.int .i64 (x22.getD 0 0)), .v (.int .i64 (x22.getD 1 0)), .v (.int .i64 (x22.getD 2 0))] 1 i j) (Ri64 x22 i j)) (⟨rfl, fun i hi j hj => match i, hi, j, hj with | 0, _, 0, _ => TLe.refl _ | 1, _, 0, _ => TLe.refl _ | 2, _, 0, _ => TLe.refl _ | _ + 3, h, _, _ => absurd h (by omega) | _, _, _ + 1, h => absurd h (by omega)⟩)] (by kernel_rfl) ?_
     refine AW.ret ?_
     obtain rfl := some_inj h
     exact ⟨_, Conv.refl _ _, .inr rfl, OutOk.mk [] 0 (out0 := .tup [.agg [ci64 (x22.getD 0 0), ci64 (x22.getD 1 0), ci64 (x22.getD 2 0)], vi64 0]) (ps := [0 + 2 < 3, True]) (by kernel_rfl) ⟨(by decide), tv, tv⟩ (by kernel_rfl) (by kernel_rfl)⟩
  ·
   rcases ifs h with ⟨c24, h⟩ | ⟨c24, h⟩
   ·
    refine AW.rg tt_ok1 [(26, vb true)] [] [] 14 [hn, ht c24] (by kernel_rfl) ?_
    exact jl true h (conv_re [(0, 0)] (by kernel_rfl))
   ·
    refine AW.rg tt_ok1 [(26, vb (decide (p2 ≥ p1)))] [] [] 14 [hn, hf c24] (by kernel_rfl) ?_
    exact jl (decide (p2 ≥ p1)) h (conv_re [(0, 0)] (by kernel_rfl))
/-! recordlink/recordlinkref23.Total -/
noncomputable def rl_ref23_Total_k3 (p0 : List Int) (x5 : Int) (x6 : Int) (x9 : Bool) : Option ((Int × Int) ⊕ (Int ⊕ Unit)) := if x9 = true then (some (.inr (.inr ()))) else (if 0 ≤ x6 then (if x6 < (p0.length : Int) then (some (.inl (i64.wrap (x5 + (p0.getD x6.toNat 0)), i64.wrap (x6 + 1)))) else none) else none)
noncomputable def rl_ref23_Total_l2 (p0 : List Int) (x5 : Int) (x6 : Int) : Option ((Int × Int) ⊕ (Int ⊕ Unit)) := if (decide (x6 < (p0.length : Int))) = true then (if 0 ≤ x6 then (if x6 < (p0.length : Int) then (if (decide ((p0.getD x6.toNat 0) < 0)) = true then (rl_ref23_Total_k3 p0 x5 x6 true) else (rl_ref23_Total_k3 p0 x5 x6 (decide ((p0.getD x6.toNat 0) > 4096)))) else none) else none) else (some (.inr (.inl x5)))
noncomputable def rl_ref23_Total_a4 (x16 : Int) : Option Int := some x16
noncomputable def rl_ref23_Total_a5 : Option Int := some 0
noncomputable def rl_ref23_Total_k1 (p0 : List Int) (x1 : Bool) : Option Int := if x1 = true then (some 0) else (bindE (loop (fun v : Int × Int => rl_ref23_Total_l2 p0 v.1 v.2) (0, 0)) (fun t => rl_ref23_Total_a4 t) (fun t => rl_ref23_Total_a5))
noncomputable def rl_ref23_Total (p0 : List Int) : Option Int := if (decide ((p0.length : Int) < 1)) = true then (rl_ref23_Total_k1 p0 true) else (rl_ref23_Total_k1 p0 (decide ((p0.length : Int) > 243)))
set_option maxRecDepth 100000 in
theorem rl_ref23_Total_con (p0 : List Int) (r : Int) (h : rl_ref23_Total p0 = some r) : Con Try.prog 48 [vl 1 Ri64 p0] [] (vi64 r) [] := by
 refine con_of tt_ok1 0 Try.func48 (by kernel_rfl) rfl (by kernel_rfl) (fun base X _ => AW.post ?_)
 unfold rl_ref23_Total at h
 refine AW.sg tt_ok1 [] [] [] 1 [] (by kernel_rfl) ?_
 refine AW.seq (AW.seq ?_)
 refine AW.join (ι := Bool) (fun v => ⟨[(0, vl 1 Ri64 p0), (12, vb v)], [], 0⟩) (fun v : Bool => rl_ref23_Total_k1 p0 v = some r) (fun x1 h => ?_) ?_
 ·
  unfold rl_ref23_Total_k1 at h
  refine AW.tn ?_
  refine AW.co h (by kernel_rfl) (fun c2 h => ?_) (fun c2 h => ?_)
  ·
   refine AW.sg tt_ok1 [(2, vi64 0)] [] [] 1 [] (by kernel_rfl) ?_
   refine AW.ret (AW.tr ?_)
   obtain rfl := some_inj h
   exact fn0 (.inr rfl) [] 0 (vi64 0) (by kernel_rfl)
  ·
   refine AW.skip (AW.tn ?_)
   refine AW.sg tt_ok1 [(3, vi64 0)] [] [] 1 [] (by kernel_rfl) ?_
   refine AW.seq ?_
   refine AW.sg tt_ok1 [(4, vi64 0)] [] [] 2 [] (by kernel_rfl) ?_
   refine AW.block ?_
   refine AW.lpE h (fun v => ⟨[(0, vl 1 Ri64 p0), (3, vi64 v.1), (4, vi64 v.2)], [], 0⟩) (fun t => (.exit 0, ⟨[(3, vi64 t)], [], 0⟩)) (fun t => (.ret, ⟨[(2, vi64 0)], [], 0⟩)) (conv_re [] (by kernel_rfl)) (fun _ => tv) (fun _ => tv) ?_ (fun x16 h => ?_) (fun t h => ?_)
   ·
    clear h
    intro v o h
    obtain ⟨x5, x6⟩ := v
    replace h : rl_ref23_Total_l2 p0 x5 x6 = some o := h
    unfold rl_ref23_Total_l2 at h
    refine AW.seq ?_
    refine AW.sg tt_ok1 [(16, vb (decide (x6 < (p0.length : Int))))] [] [] 4 [] (by kernel_rfl) ?_
    refine AW.co h (by kernel_rfl) (fun c8 h => ?_) (fun c8 h => ?_)
    ·
     refine AW.skip (AW.tn ?_)
     refine AW.seq (AW.block ?_)
     refine AW.seq (AW.seq ?_)
     refine AW.join (ι := Bool) (fun v => ⟨[(0, vl 1 Ri64 p0), (3, vi64 x5), (4, vi64 x6), (30, vb v)], [], 0⟩) (fun v : Bool => rl_ref23_Total_k3 p0 x5 x6 v = some o) (fun x9 h => ?_) ?_
     ·
      unfold rl_ref23_Total_k3 at h
      refine AW.tn ?_
      refine AW.co h (by kernel_rfl) (fun c10 h => ?_) (fun c10 h => ?_)
      ·
       refine AW.sg tt_ok1 [(2, vi64 0)] [] [] 1 [] (by kernel_rfl) ?_
       refine AW.ret (AW.tr ?_)
       refine AW.inBlock_ret (AW.tr ?_)
       exact lpo h rfl (conv_re [] (by kernel_rfl))
      ·
       refine AW.skip (AW.tn ?_)
       obtain ⟨g11, g12, h⟩ := ifd h
       refine AW.rg tt_ok1 [(3, vi64 (i64.wrap (x5 + (p0.getD x6.toNat 0))))] [] [] 7 [hn, hn, hn, hq g11 g12] (by kernel_rfl) ?_
       refine AW.inBlock_normal (AW.tn ?_)
       refine AW.rg tt_ok1 [(4, vi64 (i64.wrap (x6 + 1)))] [] [] 10 [] (by kernel_rfl) ?_
       exact lpn h (conv_re [] (by kernel_rfl))
     ·
      obtain ⟨g13, g14, h⟩ := ifd h
      rcases ifs h with ⟨c15, h⟩ | ⟨c15, h⟩
      ·
       refine AW.rg tt_ok1 [(30, vb true)] [] [] 16 [hn, hn, hq g13 g14, hn, ht c15] (by kernel_rfl) ?_
       exact jl true h (conv_re [] (by kernel_rfl))
      ·
       refine AW.rg tt_ok1 [(30, vb (decide ((p0.getD x6.toNat 0) > 4096)))] [] [] 16 [hn, hn, hq g13 g14, hn, hf c15, hn, hn, hn, hq g13 g14] (by kernel_rfl) ?_
       exact jl (decide ((p0.getD x6.toNat 0) > 4096)) h (conv_re [] (by kernel_rfl))
    ·
     refine AW.exit (AW.thenQ_exit ?_)
     exact lpo h rfl (conv_re [] (by kernel_rfl))
   ·
    unfold rl_ref23_Total_a4 at h
    show (_ : Exit → St → Prop) (.exit 0) _
    refine AW.inBlock_hit (AW.tn ?_)
    refine AW.sg tt_ok1 [(2, vi64 x16)] [] [] 2 [] (by kernel_rfl) ?_
    refine AW.ret ?_
    obtain rfl := some_inj h
    exact fn0 (.inr rfl) [] 0 (vi64 x16) (by kernel_rfl)
   ·
    replace h : rl_ref23_Total_a5 = some r := h
    unfold rl_ref23_Total_a5 at h
    show (_ : Exit → St → Prop) (.ret) _
    refine AW.inBlock_ret (AW.tr ?_)
    obtain rfl := some_inj h
    exact fn0 (.inr rfl) [] 0 (vi64 0) (by kernel_rfl)
 ·
  rcases ifs h with ⟨c18, h⟩ | ⟨c18, h⟩
  ·
   refine AW.rg tt_ok1 [(12, vb true)] [] [] 9 [hn, hn, ht c18] (by kernel_rfl) ?_
   exact jl true h (conv_re [] (by kernel_rfl))
  ·
   refine AW.rg tt_ok1 [(12, vb (decide ((p0.length : Int) > 243)))] [] [] 9 [hn, hn, hf c18] (by kernel_rfl) ?_
   exact jl (decide ((p0.length : Int) > 243)) h (conv_re [] (by kernel_rfl))
/-! recordlink/recordlinkmake.Mod -/
noncomputable def rl_make_Mod (p0 : Int) (p1 : Int) : Option Int := if (decide (p1 < 1)) = true then (some 0) else (if p1 ≠ 0 then (some ((i64.wrap ((p0.tmod p1) + p1)).tmod p1)) else none)
set_option maxRecDepth 100000 in
theorem rl_make_Mod_con (p0 : Int) (p1 : Int) (r : Int) (h : rl_make_Mod p0 p1 = some r) : Con Try.prog 49 [vi64 p0, vi64 p1] [] (vi64 r) [] := by
 refine con_of tt_ok1 0 Try.func49 (by kernel_rfl) rfl (by kernel_rfl) (fun base X _ => AW.post ?_)
 unfold rl_make_Mod at h
 refine AW.sg tt_ok1 [] [] [] 1 [] (by kernel_rfl) ?_
 refine AW.seq ?_
 refine AW.sg tt_ok1 [(6, vb (decide (p1 < 1)))] [] [] 3 [] (by kernel_rfl) ?_
 refine AW.co h (by kernel_rfl) (fun c1 h => ?_) (fun c1 h => ?_)
 ·
  refine AW.sg tt_ok1 [(4, vi64 0)] [] [] 4 [] (by kernel_rfl) ?_
  refine AW.ret (AW.tr ?_)
  obtain rfl := some_inj h
  exact fn0 (.inr rfl) [] 0 (vi64 0) (by kernel_rfl)
 ·
  refine AW.skip (AW.tn ?_)
  obtain ⟨g2, h⟩ := ifc h
  refine AW.sg tt_ok1 [(4, vi64 ((i64.wrap ((p0.tmod p1) + p1)).tmod p1))] [] [] 11 [hn, hn, ho g2, hn, hn, hn, ho g2] (by kernel_rfl) ?_
  refine AW.ret ?_
  obtain rfl := some_inj h
  exact fn0 (.inr rfl) [] 0 (vi64 ((i64.wrap ((p0.tmod p1) + p1)).tmod p1)) (by kernel_rfl)
end Go.Proofs.Ytknlckjpgmjenaa
