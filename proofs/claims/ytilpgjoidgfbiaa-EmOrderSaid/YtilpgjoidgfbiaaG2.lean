/- Printed by a program of mine (vmgen.py): Go functions, and what they come to. -/
import Derived.Test.YtilpgjoidgfbiaaVr
import Derived.Test.YtilpgjoidgfbiaaRows
import Derived.Test.YtilpgjoidgfbiaaG1
namespace Go.Proofs.Ytilpgjoidgfbiaa
open Vm
open IntKind (i64 u64 u32 u8)
set_option maxHeartbeats 10000000
set_option linter.unusedVariables false
set_option linter.unusedSimpArgs false
set_option linter.constructorNameAsVariable false
def ttl2 : List (Nat × TI) := [(3, ⟨.int .i64, 1, 8, [.int .i64 0], false⟩), (4, ⟨.bool, 1, 1, [.bool false], false⟩), (5, ⟨.int .u8, 1, 1, [.int .u8 0], false⟩), (9, ⟨.str, 1, 16, [.string ⟨#[]⟩], false⟩), (22, ⟨.slice 3, 1, 24, [.slice none 0 0], false⟩), (23, ⟨.int .u16, 1, 2, [.int .u16 0], false⟩), (26, ⟨.ptr 72, 1, 8, [.pointer none], false⟩), (29, ⟨.slice 54, 1, 24, [.slice none 0 0], false⟩), (32, ⟨.struct [(3, 0), (22, 1), (22, 2)], 3, 56, [.int .i64 0, .slice none 0 0, .slice none 0 0], false⟩), (35, ⟨.struct [(3, 0), (3, 1), (3, 2)], 3, 24, [.int .i64 0, .int .i64 0, .int .i64 0], true⟩), (36, ⟨.int .i64, 1, 8, [.int .i64 0], false⟩), (42, ⟨.slice 69, 1, 24, [.slice none 0 0], false⟩), (44, ⟨.struct [(42, 0), (42, 1)], 2, 48, [.slice none 0 0, .slice none 0 0], false⟩), (52, ⟨.struct [(3, 0), (3, 1)], 2, 16, [.int .i64 0, .int .i64 0], true⟩), (54, ⟨.struct [(52, 0), (52, 2), (3, 4), (3, 5)], 6, 48, [.int .i64 0, .int .i64 0, .int .i64 0, .int .i64 0, .int .i64 0, .int .i64 0], true⟩), (64, ⟨.arr 3 44, 6, 144, [.slice none 0 0, .slice none 0 0, .slice none 0 0, .slice none 0 0, .slice none 0 0, .slice none 0 0], false⟩), (69, ⟨.int .u32, 1, 4, [.int .u32 0], false⟩), (70, ⟨.int .u64, 1, 8, [.int .u64 0], false⟩), (72, ⟨.struct [(22, 0), (3, 1), (70, 2)], 3, 40, [.slice none 0 0, .int .i64 0, .int .u64 0], false⟩), (75, ⟨.slice 78, 1, 24, [.slice none 0 0], false⟩), (78, ⟨.struct [(52, 0), (52, 2), (3, 4)], 5, 40, [.int .i64 0, .int .i64 0, .int .i64 0, .int .i64 0, .int .i64 0], true⟩), (106, ⟨.struct [(3, 0), (22, 1), (22, 2)], 3, 56, [.int .i64 0, .slice none 0 0, .slice none 0 0], false⟩), (110, ⟨.struct [(3, 0), (3, 1), (3, 2), (3, 3)], 4, 32, [.int .i64 0, .int .i64 0, .int .i64 0, .int .i64 0], true⟩), (111, ⟨.slice 110, 1, 24, [.slice none 0 0], false⟩), (115, ⟨.arr 6 3, 6, 48, [.int .i64 0, .int .i64 0, .int .i64 0, .int .i64 0, .int .i64 0, .int .i64 0], true⟩), (121, ⟨.struct [(42, 0), (36, 1)], 2, 32, [.slice none 0 0, .int .i64 0], false⟩), (132, ⟨.slice 121, 1, 24, [.slice none 0 0], false⟩)]
theorem tt_ok2 : TTok Try.prog (Vm.look ttl2) := ttok_of ⟨⟨by kernel_rfl, by kernel_rfl, by kernel_rfl⟩, ⟨by kernel_rfl, by kernel_rfl, by kernel_rfl⟩, ⟨by kernel_rfl, by kernel_rfl, by kernel_rfl⟩, ⟨by kernel_rfl, by kernel_rfl, by kernel_rfl⟩, ⟨by kernel_rfl, by kernel_rfl, by kernel_rfl⟩, ⟨by kernel_rfl, by kernel_rfl, by kernel_rfl⟩, ⟨by kernel_rfl, by kernel_rfl, by kernel_rfl⟩, ⟨by kernel_rfl, by kernel_rfl, by kernel_rfl⟩, ⟨by kernel_rfl, by kernel_rfl, by kernel_rfl⟩, ⟨by kernel_rfl, by kernel_rfl, by kernel_rfl⟩, ⟨by kernel_rfl, by kernel_rfl, by kernel_rfl⟩, ⟨by kernel_rfl, by kernel_rfl, by kernel_rfl⟩, ⟨by kernel_rfl, by kernel_rfl, by kernel_rfl⟩, ⟨by kernel_rfl, by kernel_rfl, by kernel_rfl⟩, ⟨by kernel_rfl, by kernel_rfl, by kernel_rfl⟩, ⟨by kernel_rfl, by kernel_rfl, by kernel_rfl⟩, ⟨by kernel_rfl, by kernel_rfl, by kernel_rfl⟩, ⟨by kernel_rfl, by kernel_rfl, by kernel_rfl⟩, ⟨by kernel_rfl, by kernel_rfl, by kernel_rfl⟩, ⟨by kernel_rfl, by kernel_rfl, by kernel_rfl⟩, ⟨by kernel_rfl, by kernel_rfl, by kernel_rfl⟩, ⟨by kernel_rfl, by kernel_rfl, by kernel_rfl⟩, ⟨by kernel_rfl, by kernel_rfl, by kernel_rfl⟩, ⟨by kernel_rfl, by kernel_rfl, by kernel_rfl⟩, ⟨by kernel_rfl, by kernel_rfl, by kernel_rfl⟩, ⟨by kernel_rfl, by kernel_rfl, by kernel_rfl⟩, ⟨by kernel_rfl, by kernel_rfl, by kernel_rfl⟩, trivial⟩
theorem mo2 : Try.prog.follows .mixedOrders = true := by kernel_rfl
/-! recordlink/recordlinkref17.Number -/
noncomputable def rl_ref17_Number_k3 (p0 : List Int) (x5 : Int) (x6 : Int) (x9 : Bool) : Option ((Int × Int) ⊕ (Int ⊕ Unit)) := if x9 = true then (some (.inr (.inr ()))) else (if 0 ≤ x6 then (if x6 < (p0.length : Int) then ((some (i64.wrap ((i64.wrap (3 * x5)) + (p0.getD x6.toNat 0)))).bind fun z13 => (some (.inl (z13, i64.wrap (x6 - 1))))) else none) else none)
noncomputable def rl_ref17_Number_l2 (p0 : List Int) (x5 : Int) (x6 : Int) : Option ((Int × Int) ⊕ (Int ⊕ Unit)) := if (decide (x6 ≥ 0)) = true then (if 0 ≤ x6 then (if x6 < (p0.length : Int) then (if (decide ((p0.getD x6.toNat 0) < 0)) = true then (rl_ref17_Number_k3 p0 x5 x6 true) else (rl_ref17_Number_k3 p0 x5 x6 (decide ((p0.getD x6.toNat 0) > 2)))) else none) else none) else (some (.inr (.inl x5)))
noncomputable def rl_ref17_Number_a4 (x18 : Int) : Option (Int × Int) := some (x18, 0)
noncomputable def rl_ref17_Number_a5 : Option (Int × Int) := some (0, 2)
noncomputable def rl_ref17_Number_k1 (p0 : List Int) (x1 : Bool) : Option (Int × Int) := if x1 = true then (some (0, 8)) else (bindE (loop (fun v : Int × Int => rl_ref17_Number_l2 p0 v.1 v.2) (0, i64.wrap ((p0.length : Int) - 1))) (fun t => rl_ref17_Number_a4 t) (fun t => rl_ref17_Number_a5))
noncomputable def rl_ref17_Number (p0 : List Int) : Option (Int × Int) := if (decide ((p0.length : Int) < 1)) = true then (rl_ref17_Number_k1 p0 true) else (rl_ref17_Number_k1 p0 (decide ((p0.length : Int) > 5)))
set_option maxRecDepth 100000 in
theorem rl_ref17_Number_con (p0 : List Int) (r : Int × Int) (h : rl_ref17_Number p0 = some r) : Con Try.prog 30 [vl 1 Ri64 p0] [] (.tup [vi64 r.1, vi64 r.2]) [] := by
 refine con_of tt_ok2 0 Try.func30 (by kernel_rfl) rfl (by kernel_rfl) (fun base X _ => AW.post ?_)
 unfold rl_ref17_Number at h
 refine AW.sg tt_ok2 [] [] [] 2 [] (by kernel_rfl) ?_
 refine AW.seq (AW.seq ?_)
 refine AW.join (ι := Bool) (fun v => ⟨[(0, vl 1 Ri64 p0), (13, vb v)], [], 0⟩) (fun v : Bool => rl_ref17_Number_k1 p0 v = some r) (fun x1 h => ?_) ?_
 ·
  unfold rl_ref17_Number_k1 at h
  refine AW.tn ?_
  refine AW.co h (by kernel_rfl) (fun c2 h => ?_) (fun c2 h => ?_)
  ·
   refine AW.sg tt_ok2 [(3, vi64 8), (2, vi64 0)] [] [] 2 [] (by kernel_rfl) ?_
   refine AW.ret (AW.tr ?_)
   obtain rfl := some_inj h
   exact fn0 (.inr rfl) [] 0 (.tup [vi64 0, vi64 8]) (by kernel_rfl)
  ·
   refine AW.skip (AW.tn ?_)
   refine AW.sg tt_ok2 [(4, vi64 0)] [] [] 1 [] (by kernel_rfl) ?_
   refine AW.seq ?_
   refine AW.sg tt_ok2 [(5, vi64 (i64.wrap ((p0.length : Int) - 1)))] [] [] 5 [] (by kernel_rfl) ?_
   refine AW.block ?_
   refine AW.lpE h (fun v => ⟨[(0, vl 1 Ri64 p0), (4, vi64 v.1), (5, vi64 v.2)], [], 0⟩) (fun t => (.exit 0, ⟨[(4, vi64 t)], [], 0⟩)) (fun t => (.ret, ⟨[(2, vi64 0), (3, vi64 2)], [], 0⟩)) (conv_re [] (by kernel_rfl)) (fun _ => tv) (fun _ => tv) ?_ (fun x18 h => ?_) (fun t h => ?_)
   ·
    clear h
    intro v o h
    obtain ⟨x5, x6⟩ := v
    replace h : rl_ref17_Number_l2 p0 x5 x6 = some o := h
    unfold rl_ref17_Number_l2 at h
    refine AW.seq ?_
    refine AW.sg tt_ok2 [(18, vb (decide (x6 ≥ 0)))] [] [] 2 [] (by kernel_rfl) ?_
    refine AW.co h (by kernel_rfl) (fun c8 h => ?_) (fun c8 h => ?_)
    ·
     refine AW.skip (AW.tn ?_)
     refine AW.seq (AW.block ?_)
     refine AW.seq (AW.seq ?_)
     refine AW.join (ι := Bool) (fun v => ⟨[(0, vl 1 Ri64 p0), (4, vi64 x5), (5, vi64 x6), (32, vb v)], [], 0⟩) (fun v : Bool => rl_ref17_Number_k3 p0 x5 x6 v = some o) (fun x9 h => ?_) ?_
     ·
      unfold rl_ref17_Number_k3 at h
      refine AW.tn ?_
      refine AW.co h (by kernel_rfl) (fun c10 h => ?_) (fun c10 h => ?_)
      ·
       refine AW.sg tt_ok2 [(3, vi64 2), (2, vi64 0)] [] [] 2 [] (by kernel_rfl) ?_
       refine AW.ret (AW.tr ?_)
       refine AW.inBlock_ret (AW.tr ?_)
       exact lpo h rfl (conv_re [] (by kernel_rfl))
      ·
       refine AW.skip (AW.tn ?_)
       obtain ⟨g11, g12, h⟩ := ifd h
       obtain ⟨z13, n14, h⟩ := bnd_some h
       replace n14 := some_inj n14
       refine AW.rg tt_ok2 [(4, vi64 z13)] [] [] 8 [hn, hn, hn, hn, hq g11 g12] (by subst n14; kernel_rfl) ?_
       refine AW.inBlock_normal (AW.tn ?_)
       refine AW.rg tt_ok2 [(5, vi64 (i64.wrap (x6 - 1)))] [] [] 11 [] (by kernel_rfl) ?_
       exact lpn h (conv_re [] (by kernel_rfl))
     ·
      obtain ⟨g15, g16, h⟩ := ifd h
      rcases ifs h with ⟨c17, h⟩ | ⟨c17, h⟩
      ·
       refine AW.rg tt_ok2 [(32, vb true)] [] [] 14 [hn, hn, hq g15 g16, hn, ht c17] (by kernel_rfl) ?_
       exact jl true h (conv_re [] (by kernel_rfl))
      ·
       refine AW.rg tt_ok2 [(32, vb (decide ((p0.getD x6.toNat 0) > 2)))] [] [] 14 [hn, hn, hq g15 g16, hn, hf c17, hn, hn, hn, hq g15 g16] (by kernel_rfl) ?_
       exact jl (decide ((p0.getD x6.toNat 0) > 2)) h (conv_re [] (by kernel_rfl))
    ·
     refine AW.exit (AW.thenQ_exit ?_)
     exact lpo h rfl (conv_re [] (by kernel_rfl))
   ·
    unfold rl_ref17_Number_a4 at h
    show (_ : Exit → St → Prop) (.exit 0) _
    refine AW.inBlock_hit (AW.tn ?_)
    refine AW.sg tt_ok2 [(3, vi64 0), (2, vi64 x18)] [] [] 3 [] (by kernel_rfl) ?_
    refine AW.ret ?_
    obtain rfl := some_inj h
    exact fn0 (.inr rfl) [] 0 (.tup [vi64 x18, vi64 0]) (by kernel_rfl)
   ·
    replace h : rl_ref17_Number_a5 = some r := h
    unfold rl_ref17_Number_a5 at h
    show (_ : Exit → St → Prop) (.ret) _
    refine AW.inBlock_ret (AW.tr ?_)
    obtain rfl := some_inj h
    exact fn0 (.inr rfl) [] 0 (.tup [vi64 0, vi64 2]) (by kernel_rfl)
 ·
  rcases ifs h with ⟨c20, h⟩ | ⟨c20, h⟩
  ·
   refine AW.rg tt_ok2 [(13, vb true)] [] [] 10 [hn, hn, ht c20] (by kernel_rfl) ?_
   exact jl true h (conv_re [] (by kernel_rfl))
  ·
   refine AW.rg tt_ok2 [(13, vb (decide ((p0.length : Int) > 5)))] [] [] 10 [hn, hn, hf c20] (by kernel_rfl) ?_
   exact jl (decide ((p0.length : Int) > 5)) h (conv_re [] (by kernel_rfl))
def ES_api_Rational (x : S_api_Rational) : List T := [.tree x.Num.length 1 (Ru32 x.Num), .tree x.Den.length 1 (Ru32 x.Den)]
def RS_api_Rational (xs : List S_api_Rational) : Nat → Nat → T := rowL dS_api_Rational ES_api_Rational xs
/-! slices.Clone[[]int,int] -/
noncomputable def slices_Clone_int (p0 : List Int) : Option (List Int) := orBoth (p0.length = 0) (some ([] : List Int)) (if ([] : List Int).length + p0.length ≤ 1099511627776 then (some (([] : List Int) ++ p0)) else none)
set_option maxRecDepth 100000 in
theorem slices_Clone_int_con (p0 : List Int) (r : List Int) (h : slices_Clone_int p0 = some r) : Con Try.prog 58 [vl 1 Ri64 p0] [] (.c (.ref 0 1 0 r.length)) [(0, .row 3 false 1 r.length (Ri64 r))] := by
 refine con_of tt_ok2 0 Try.func58 (by kernel_rfl) rfl (by kernel_rfl) (fun base X _ => AW.post ?_)
 unfold slices_Clone_int at h
 refine AW.sg tt_ok2 [] [] [] 1 [] (by kernel_rfl) ?_
 refine AW.seq ?_
 refine AW.sg tt_ok2 [(4, .c (.t (.tst (p0.length = 0))))] [] [] 3 [hn, ho (p := (1 : Nat) ≠ 0) (by decide)] (by kernel_rfl) ?_
 refine AW.cond_tst (p := p0.length = 0) (by kernel_rfl) (fun c1 => ?_) ?_
 ·replace h := (orBoth_some h).1 c1
  refine AW.sg tt_ok2 [(2, .c (.t (.v (.slice none 0 0))))] [] [] 4 [] (by kernel_rfl) ?_
  refine AW.ret (AW.tr ?_)
  obtain rfl := some_inj h
  exact fnR (.inr rfl) [(0, 4)] 1 (.c (.ref 4 1 0 (([] : List Int).length))) (conv_adopt (t := 2) (ty := 3) (sz := 1) (n := ([] : List Int).length) (f := Ri64 ([] : List Int)) (by kernel_rfl) rfl) (by kernel_rfl)
 ·replace h := (orBoth_some h).2
  refine AW.skip (AW.tn ?_)
  obtain ⟨g2, h⟩ := ifc h
  refine AW.sg tt_ok2 [(2, .c (.ref 5 1 0 ((([] : List Int) ++ p0).length)))] [3, 5] [(5, .row 3 false 1 (([] : List Int) ++ p0).length (Ri64 (([] : List Int) ++ p0)))] 7 [hlit 0 Ei64 1 (fun _ => rfl) ([] : List Int), hn, hr ((([] : List Int) ++ p0).length) (Ri64 (([] : List Int) ++ p0)) (p := (([] : List Int).length = ([] : List Int).length) ∧ (True) ∧ ((([] : List Int).length + p0.length ≤ 1099511627776) ∧ ((8 : Nat) ≤ 128)) ∧ (([] : List Int).length + p0.length = (([] : List Int) ++ p0).length ∧ ∀ i, i < (([] : List Int) ++ p0).length → ∀ j, j < 1 → TLe ((appRow (([] : List Int).length) (Ri64 ([] : List Int)) (Ri64 p0)) i j) (Ri64 (([] : List Int) ++ p0) i j))) (⟨rfl, tv, ⟨g2, (by decide)⟩, rowT (app_row rfl rfl row_rfl row_rfl)⟩)] (by kernel_rfl) ?_
  refine AW.ret ?_
  obtain rfl := some_inj h
  exact fn0 (.inr rfl) [(0, 5)] 1 (.c (.ref 5 1 0 ((([] : List Int) ++ p0).length))) (by kernel_rfl)
/-! recordlink/em.Run -/
noncomputable def em_Run_l2 (p1 : List Int) (p2 : Int) (x14 : Int) (x15 : Int) (x16 : List Int) (x17 : List Int) : Option ((Int × Int × (List Int) × (List Int)) ⊕ ((Int × (List Int) × (List Int)) ⊕ (Int × Int × (List Int) × (List Int)))) := if (decide (x14 < p2)) = true then ((em_step (⟨x15, x16, x17⟩ : S_em_model) p1).bind fun y26 => ((em_Same (⟨x15, x16, x17⟩ : S_em_model) y26).bind fun y28 => (if y28 = true then (some (.inr (.inr (x14, x15, x16, x17)))) else (some (.inl (i64.wrap (x14 + 1), y26.Prior, y26.Match, y26.Random)))))) else (some (.inr (.inl (x15, x16, x17))))
noncomputable def em_Run_a3 (p2 : Int) (x31 : Int) (x32 : List Int) (x33 : List Int) : Option (S_em_model × Int × Int) := some ((⟨x31, x32, x33⟩ : S_em_model), p2, 0)
noncomputable def em_Run_a4 (x34 : Int) (x35 : Int) (x36 : List Int) (x37 : List Int) : Option (S_em_model × Int × Int) := some ((⟨x35, x36, x37⟩ : S_em_model), x34, 0)
noncomputable def em_Run_k1 (p0 : S_em_model) (p1 : List Int) (p2 : Int) (x4 : Bool) : Option (S_em_model × Int × Int) := if x4 = true then (some ((⟨0, ([] : List Int), ([] : List Int)⟩ : S_em_model), 0, 2)) else ((slices_Clone_int p0.Match).bind fun y6 => ((slices_Clone_int p0.Random).bind fun y8 => (bindE (loop (fun v : Int × Int × (List Int) × (List Int) => em_Run_l2 p1 p2 v.1 v.2.1 v.2.2.1 v.2.2.2) (0, p0.Prior, y6, y8)) (fun t => em_Run_a3 p2 t.1 t.2.1 t.2.2) (fun t => em_Run_a4 t.1 t.2.1 t.2.2.1 t.2.2.2))))
noncomputable def em_Run (p0 : S_em_model) (p1 : List Int) (p2 : Int) : Option (S_em_model × Int × Int) := (em_check p0 p1).bind fun y1 => (if (y1 != 0) = true then (some ((⟨0, ([] : List Int), ([] : List Int)⟩ : S_em_model), 0, y1)) else (if (decide (p2 < 0)) = true then (em_Run_k1 p0 p1 p2 true) else (em_Run_k1 p0 p1 p2 (decide (p2 > 16)))))
set_option maxRecDepth 100000 in
theorem em_Run_con (p0 : S_em_model) (p1 : List Int) (p2 : Int) (r : S_em_model × Int × Int) (h : em_Run p0 p1 p2 = some r) : Con Try.prog 32 [.agg [ci64 p0.Prior, cl 1 Ri64 p0.Match, cl 1 Ri64 p0.Random], vl 1 Ri64 p1, vi64 p2] [] (.tup [.agg [ci64 r.1.Prior, .ref 0 1 0 r.1.Match.length, .ref 1 1 0 r.1.Random.length], vi64 r.2.1, vi64 r.2.2]) [(0, .row 3 false 1 r.1.Match.length (Ri64 r.1.Match)), (1, .row 3 false 1 r.1.Random.length (Ri64 r.1.Random))] := by
 refine con_of tt_ok2 0 Try.func32 (by kernel_rfl) rfl (by kernel_rfl) (fun base X _ => AW.post ?_)
 unfold em_Run at h
 refine AW.sg tt_ok2 [(6, .c (.ptr 1 3 0 0)), (3, .c (.ptr 0 3 0 0))] [0, 1] [(1, .box 32 [ci64 0, .t (.v (.slice none 0 0)), .t (.v (.slice none 0 0))]), (0, .box 32 [ci64 p0.Prior, cl 1 Ri64 p0.Match, cl 1 Ri64 p0.Random])] 4 [] (by kernel_rfl) ?_
 refine AW.seq ?_
 obtain ⟨y1, e2, h⟩ := bnd_some h
 refine AW.sg tt_ok2 [(9, vi64 y1)] [] [] 7 [hn, hn, hk (em_check_con p0 p1 y1 e2)] (by kernel_rfl) ?_
 refine AW.sg tt_ok2 [(16, vb (y1 != 0))] [] [] 9 [] (by kernel_rfl) ?_
 refine AW.co h (by kernel_rfl) (fun c3 h => ?_) (fun c3 h => ?_)
 ·
  refine AW.sg tt_ok2 [(8, vi64 y1), (7, vi64 0)] [1] [(1, .box 32 [ci64 0, .t (.v (.slice none 0 0)), .t (.v (.slice none 0 0))])] 14 [] (by kernel_rfl) ?_
  refine AW.ret (AW.tr ?_)
  obtain rfl := some_inj h
  exact fnR (.inr rfl) [(0, 14), (1, 15)] 2 (.tup [.agg [ci64 0, .ref 14 1 0 (([] : List Int).length), .ref 15 1 0 (([] : List Int).length)], vi64 0, vi64 y1]) (Conv.trans (conv_adoptB (id := 1) (ty0 := 32) (cs := [ci64 0, .t (.v (.slice none 0 0)), .t (.v (.slice none 0 0))]) 1 (ty := 3) (sz := 1) (n := ([] : List Int).length) (f := Ri64 ([] : List Int)) (by kernel_rfl) (by kernel_rfl) rfl) (conv_adoptB (id := 1) (ty0 := 32) (cs := [ci64 0, .ref 14 1 0 (([] : List Int).length), .t (.v (.slice none 0 0))]) 2 (ty := 3) (sz := 1) (n := ([] : List Int).length) (f := Ri64 ([] : List Int)) (by kernel_rfl) (by kernel_rfl) rfl)) (by kernel_rfl)
 ·
  refine AW.skip (AW.tn ?_)
  refine AW.seq (AW.seq ?_)
  refine AW.join (ι := Bool) (fun v => ⟨[(1, vl 1 Ri64 p1), (2, vi64 p2), (3, .c (.ptr 0 3 0 0)), (6, .c (.ptr 1 3 0 0)), (24, vb v)], [(0, .box 32 [ci64 p0.Prior, cl 1 Ri64 p0.Match, cl 1 Ri64 p0.Random]), (1, .box 32 [ci64 0, .t (.v (.slice none 0 0)), .t (.v (.slice none 0 0))])], 2⟩) (fun v : Bool => em_Run_k1 p0 p1 p2 v = some r) (fun x4 h => ?_) ?_
  ·
   unfold em_Run_k1 at h
   refine AW.tn ?_
   refine AW.co h (by kernel_rfl) (fun c5 h => ?_) (fun c5 h => ?_)
   ·
    refine AW.sg tt_ok2 [(8, vi64 2), (7, vi64 0)] [1] [(1, .box 32 [ci64 0, .t (.v (.slice none 0 0)), .t (.v (.slice none 0 0))])] 6 [] (by kernel_rfl) ?_
    refine AW.ret (AW.tr ?_)
    obtain rfl := some_inj h
    exact fnR (.inr rfl) [(0, 6), (1, 7)] 2 (.tup [.agg [ci64 0, .ref 6 1 0 (([] : List Int).length), .ref 7 1 0 (([] : List Int).length)], vi64 0, vi64 2]) (Conv.trans (conv_adoptB (id := 1) (ty0 := 32) (cs := [ci64 0, .t (.v (.slice none 0 0)), .t (.v (.slice none 0 0))]) 1 (ty := 3) (sz := 1) (n := ([] : List Int).length) (f := Ri64 ([] : List Int)) (by kernel_rfl) (by kernel_rfl) rfl) (conv_adoptB (id := 1) (ty0 := 32) (cs := [ci64 0, .ref 6 1 0 (([] : List Int).length), .t (.v (.slice none 0 0))]) 2 (ty := 3) (sz := 1) (n := ([] : List Int).length) (f := Ri64 ([] : List Int)) (by kernel_rfl) (by kernel_rfl) rfl)) (by kernel_rfl)
   ·
    refine AW.skip (AW.tn ?_)
    obtain ⟨y6, e7, h⟩ := bnd_some h
    obtain ⟨y8, e9, h⟩ := bnd_some h
    refine AW.sd tt_ok2 mo2 [[], [], [], [], [6], [], [], [9], [], [0]] [] [(0, .box 32 [ci64 p0.Prior, .ref 6 1 0 y6.length, .ref 9 1 0 y8.length]), (9, .row 3 false 1 y8.length (Ri64 y8)), (6, .row 3 false 1 y6.length (Ri64 y6))] 12 [hn, hn, hn, hn, hm [] [] 1 (slices_Clone_int_con p0.Match y6 e7) ⟨rowL_flat Vi64 _ _ _, tv⟩, hn, hn, hm [] [] 1 (slices_Clone_int_con p0.Random y8 e9) ⟨rowL_flat Vi64 _ _ _, tv⟩] (by kernel_rfl) ?_
    refine AW.seq ?_
    refine AW.sg tt_ok2 [(36, vi64 0), (35, vi64 p2)] [] [] 14 [] (by kernel_rfl) ?_
    refine AW.block ?_
    refine AW.lpE h (fun v => ⟨[(1, vl 1 Ri64 p1), (2, vi64 p2), (3, .c (.ptr 0 3 0 0)), (6, .c (.ptr 1 3 0 0)), (35, vi64 p2), (36, vi64 v.1)], [(0, .box 32 [ci64 v.2.1, .ref 2 1 0 v.2.2.1.length, .ref 3 1 0 v.2.2.2.length]), (1, .box 32 [ci64 0, .t (.v (.slice none 0 0)), .t (.v (.slice none 0 0))]), (2, .row 3 false 1 v.2.2.1.length (Ri64 v.2.2.1)), (3, .row 3 false 1 v.2.2.2.length (Ri64 v.2.2.2))], 4⟩) (fun t => (.exit 0, ⟨[(2, vi64 p2), (3, .c (.ptr 0 3 0 0)), (6, .c (.ptr 1 3 0 0))], [(0, .box 32 [ci64 t.1, .ref 2 1 0 t.2.1.length, .ref 3 1 0 t.2.2.length]), (1, .box 32 [ci64 0, .t (.v (.slice none 0 0)), .t (.v (.slice none 0 0))]), (2, .row 3 false 1 t.2.1.length (Ri64 t.2.1)), (3, .row 3 false 1 t.2.2.length (Ri64 t.2.2))], 4⟩)) (fun t => (.ret, ⟨[(6, .c (.ptr 0 3 0 0)), (7, vi64 t.1), (8, vi64 0)], [(0, .box 32 [ci64 t.2.1, .ref 1 1 0 t.2.2.1.length, .ref 2 1 0 t.2.2.2.length]), (1, .row 3 false 1 t.2.2.1.length (Ri64 t.2.2.1)), (2, .row 3 false 1 t.2.2.2.length (Ri64 t.2.2.2))], 3⟩)) (conv_re [(0, 0), (1, 1), (2, 6), (3, 9)] (by kernel_rfl)) (fun _ => tv) (fun _ => tv) ?_ (fun t h => ?_) (fun t h => ?_)
    ·
     clear h
     intro v o h
     obtain ⟨x14, x15, x16, x17⟩ := v
     replace h : em_Run_l2 p1 p2 x14 x15 x16 x17 = some o := h
     unfold em_Run_l2 at h
     refine AW.sg tt_ok2 [(37, vb (decide (x14 < p2)))] [] [] 5 [] (by kernel_rfl) ?_
     refine AW.seq ?_
     refine AW.co h (by kernel_rfl) (fun c25 h => ?_) (fun c25 h => ?_)
     ·
      refine AW.skip (AW.tn ?_)
      refine AW.seq (AW.block ?_)
      refine AW.sg tt_ok2 [(10, vi64 x14)] [] [] 7 [] (by kernel_rfl) ?_
      obtain ⟨y26, e27, h⟩ := bnd_some h
      refine AW.sg tt_ok2 [(11, .c (.ptr 11 3 0 0))] [9, 10, 11] [(11, .box 32 [ci64 y26.Prior, .ref 9 1 0 y26.Match.length, .ref 10 1 0 y26.Random.length]), (9, .row 3 false 1 y26.Match.length (Ri64 y26.Match)), (10, .row 3 false 1 y26.Random.length (Ri64 y26.Random))] 13 [hn, hn, hg [] [] true 2 (q := ((True) ∧ (0 + x16.length ≤ x16.length) ∧ (0 + x17.length ≤ x17.length) ∧ (True)) ∧ (True) ∧ (True)) ⟨⟨tv, le0, le0, tv⟩, tv, tv⟩ (a0 := [.agg [ci64 x15, cl 1 Ri64 x16, cl 1 Ri64 x17], vl 1 Ri64 p1]) (em_step_con (⟨x15, x16, x17⟩ : S_em_model) p1 y26 e27) ⟨ArgLe.refl _, ArgLe.refl _, tv⟩ (fun _ => ⟨rowL_flat Vi64 _ _ _, rowL_flat Vi64 _ _ _, tv⟩)] (by kernel_rfl) ?_
      refine AW.seq ?_
      obtain ⟨y28, e29, h⟩ := bnd_some h
      refine AW.sg tt_ok2 [(44, vb y28)] [] [] 15 [hn, hn, hg [] [] true 0 (q := ((True) ∧ (0 + x16.length ≤ x16.length) ∧ (0 + x17.length ≤ x17.length) ∧ (True)) ∧ ((True) ∧ (0 + y26.Match.length ≤ y26.Match.length) ∧ (0 + y26.Random.length ≤ y26.Random.length) ∧ (True)) ∧ (True)) ⟨⟨tv, le0, le0, tv⟩, ⟨tv, le0, le0, tv⟩, tv⟩ (a0 := [.agg [ci64 x15, cl 1 Ri64 x16, cl 1 Ri64 x17], .agg [ci64 y26.Prior, cl 1 Ri64 y26.Match, cl 1 Ri64 y26.Random]]) (em_Same_con (⟨x15, x16, x17⟩ : S_em_model) y26 y28 e29) ⟨ArgLe.refl _, ArgLe.refl _, tv⟩ (fun _ => tv)] (by kernel_rfl) ?_
      refine AW.co h (by kernel_rfl) (fun c30 h => ?_) (fun c30 h => ?_)
      ·
       refine AW.sg tt_ok2 [(8, vi64 0), (7, vi64 x14)] [1] [(1, .box 32 [ci64 x15, .ref 2 1 0 x16.length, .ref 3 1 0 x17.length])] 20 [] (by kernel_rfl) ?_
       refine AW.ret (AW.tr ?_)
       refine AW.inBlock_ret (AW.tr ?_)
       exact lpo h rfl (conv_re [(0, 1), (1, 2), (2, 3)] (by kernel_rfl))
      ·
       refine AW.skip (AW.tn ?_)
       refine AW.rg tt_ok2 [] [0] [(0, .box 32 [ci64 y26.Prior, .ref 9 1 0 y26.Match.length, .ref 10 1 0 y26.Random.length])] 17 [] (by kernel_rfl) ?_
       refine AW.inBlock_normal (AW.tn ?_)
       refine AW.rg tt_ok2 [(36, vi64 (i64.wrap (x14 + 1)))] [] [] 19 [] (by kernel_rfl) ?_
       exact lpn h (conv_re [(0, 0), (1, 1), (2, 9), (3, 10)] (by kernel_rfl))
     ·
      refine AW.exit (AW.thenQ_exit ?_)
      exact lpo h rfl (conv_re [(0, 0), (1, 1), (2, 2), (3, 3)] (by kernel_rfl))
    ·
     obtain ⟨x31, x32, x33⟩ := t
     replace h : em_Run_a3 p2 x31 x32 x33 = some r := h
     unfold em_Run_a3 at h
     show (_ : Exit → St → Prop) (.exit 0) _
     refine AW.inBlock_hit (AW.tn ?_)
     refine AW.sg tt_ok2 [(8, vi64 0), (7, vi64 p2)] [1] [(1, .box 32 [ci64 x31, .ref 2 1 0 x32.length, .ref 3 1 0 x33.length])] 9 [] (by kernel_rfl) ?_
     refine AW.ret ?_
     obtain rfl := some_inj h
     exact fn0 (.inr rfl) [(0, 2), (1, 3)] 2 (.tup [.agg [ci64 x31, .ref 2 1 0 x32.length, .ref 3 1 0 x33.length], vi64 p2, vi64 0]) (by kernel_rfl)
    ·
     obtain ⟨x34, x35, x36, x37⟩ := t
     replace h : em_Run_a4 x34 x35 x36 x37 = some r := h
     unfold em_Run_a4 at h
     show (_ : Exit → St → Prop) (.ret) _
     refine AW.inBlock_ret (AW.tr ?_)
     obtain rfl := some_inj h
     exact fn0 (.inr rfl) [(0, 1), (1, 2)] 2 (.tup [.agg [ci64 x35, .ref 1 1 0 x36.length, .ref 2 1 0 x37.length], vi64 x34, vi64 0]) (by kernel_rfl)
  ·
   rcases ifs h with ⟨c39, h⟩ | ⟨c39, h⟩
   ·
    refine AW.rg tt_ok2 [(24, vb true)] [] [] 15 [hn, ht c39] (by kernel_rfl) ?_
    exact jl true h (conv_re [(0, 0), (1, 1)] (by kernel_rfl))
   ·
    refine AW.rg tt_ok2 [(24, vb (decide (p2 > 16)))] [] [] 15 [hn, hf c39] (by kernel_rfl) ?_
    exact jl (decide (p2 > 16)) h (conv_re [(0, 0), (1, 1)] (by kernel_rfl))
end Go.Proofs.Ytilpgjoidgfbiaa
