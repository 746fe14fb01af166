/- Printed by a program of mine (vmgen.py): Go functions, and what they come to. -/
import Derived.Test.YtilpgjoidgfbiaaGreatVr
import Derived.Test.YtilpgjoidgfbiaaGreatRows
import Derived.Test.YtilpgjoidgfbiaaGreatG1
namespace Go.Proofs.YtilpgjoidgfbiaaGreat
open Vm
open IntKind (i64 u64 u32 u8)
set_option maxHeartbeats 10000000
set_option linter.unusedVariables false
set_option linter.unusedSimpArgs false
set_option linter.constructorNameAsVariable false
def ttl2 : List (Nat × TI) := [(3, ⟨.int .i64, 1, 8, [.int .i64 0], false⟩), (4, ⟨.bool, 1, 1, [.bool false], false⟩), (5, ⟨.int .u8, 1, 1, [.int .u8 0], false⟩), (9, ⟨.str, 1, 16, [.string ⟨#[]⟩], false⟩), (22, ⟨.slice 3, 1, 24, [.slice none 0 0], false⟩), (24, ⟨.struct [(3, 0), (22, 1), (22, 2)], 3, 56, [.int .i64 0, .slice none 0 0, .slice none 0 0], false⟩), (30, ⟨.ptr 75, 1, 8, [.pointer none], false⟩), (37, ⟨.int .i64, 1, 8, [.int .i64 0], false⟩), (42, ⟨.slice 72, 1, 24, [.slice none 0 0], false⟩), (44, ⟨.struct [(42, 0), (42, 1)], 2, 48, [.slice none 0 0, .slice none 0 0], false⟩), (55, ⟨.slice 24, 1, 24, [.slice none 0 0], false⟩), (60, ⟨.slice 22, 1, 24, [.slice none 0 0], false⟩), (72, ⟨.int .u32, 1, 4, [.int .u32 0], false⟩), (73, ⟨.int .u64, 1, 8, [.int .u64 0], false⟩), (75, ⟨.struct [(22, 0), (3, 1), (73, 2)], 3, 40, [.slice none 0 0, .int .i64 0, .int .u64 0], false⟩), (103, ⟨.struct [(3, 0), (22, 1), (22, 2)], 3, 56, [.int .i64 0, .slice none 0 0, .slice none 0 0], false⟩), (106, ⟨.arr 6 3, 6, 48, [.int .i64 0, .int .i64 0, .int .i64 0, .int .i64 0, .int .i64 0, .int .i64 0], true⟩), (114, ⟨.struct [(42, 0), (37, 1)], 2, 32, [.slice none 0 0, .int .i64 0], false⟩), (125, ⟨.struct [(3, 0), (3, 1), (3, 2), (3, 3)], 4, 32, [.int .i64 0, .int .i64 0, .int .i64 0, .int .i64 0], true⟩), (126, ⟨.slice 125, 1, 24, [.slice none 0 0], false⟩), (132, ⟨.slice 114, 1, 24, [.slice none 0 0], false⟩)]
theorem tt_ok2 : TTok Tryz.prog (Vm.look ttl2) := ttok_of ⟨⟨by kernel_rfl, by kernel_rfl, by kernel_rfl⟩, ⟨by kernel_rfl, by kernel_rfl, by kernel_rfl⟩, ⟨by kernel_rfl, by kernel_rfl, by kernel_rfl⟩, ⟨by kernel_rfl, by kernel_rfl, by kernel_rfl⟩, ⟨by kernel_rfl, by kernel_rfl, by kernel_rfl⟩, ⟨by kernel_rfl, by kernel_rfl, by kernel_rfl⟩, ⟨by kernel_rfl, by kernel_rfl, by kernel_rfl⟩, ⟨by kernel_rfl, by kernel_rfl, by kernel_rfl⟩, ⟨by kernel_rfl, by kernel_rfl, by kernel_rfl⟩, ⟨by kernel_rfl, by kernel_rfl, by kernel_rfl⟩, ⟨by kernel_rfl, by kernel_rfl, by kernel_rfl⟩, ⟨by kernel_rfl, by kernel_rfl, by kernel_rfl⟩, ⟨by kernel_rfl, by kernel_rfl, by kernel_rfl⟩, ⟨by kernel_rfl, by kernel_rfl, by kernel_rfl⟩, ⟨by kernel_rfl, by kernel_rfl, by kernel_rfl⟩, ⟨by kernel_rfl, by kernel_rfl, by kernel_rfl⟩, ⟨by kernel_rfl, by kernel_rfl, by kernel_rfl⟩, ⟨by kernel_rfl, by kernel_rfl, by kernel_rfl⟩, ⟨by kernel_rfl, by kernel_rfl, by kernel_rfl⟩, ⟨by kernel_rfl, by kernel_rfl, by kernel_rfl⟩, ⟨by kernel_rfl, by kernel_rfl, by kernel_rfl⟩, trivial⟩
theorem mo2 : Tryz.prog.follows .mixedOrders = true := by kernel_rfl
/-! recordlink/recordlinkref01.Ints -/
noncomputable def rl_ref01_Ints_l1 (p0 : List Int) (p1 : List Int) (x3 : Int) : Option (Int ⊕ (Unit ⊕ Unit)) := if (decide (x3 < (p0.length : Int))) = true then (if 0 ≤ x3 then (if x3 < (p0.length : Int) then (if x3 < (p1.length : Int) then (if ((p0.getD x3.toNat 0) != (p1.getD x3.toNat 0)) = true then (some (.inr (.inr ()))) else (some (.inl (i64.wrap (x3 + 1))))) else none) else none) else none) else (some (.inr (.inl ())))
noncomputable def rl_ref01_Ints_a2 : Option Bool := some true
noncomputable def rl_ref01_Ints_a3 : Option Bool := some false
noncomputable def rl_ref01_Ints (p0 : List Int) (p1 : List Int) : Option Bool := if ((p0.length : Int) != (p1.length : Int)) = true then (some false) else (bindE (loop (fun v : Int => rl_ref01_Ints_l1 p0 p1 v) 0) (fun t => rl_ref01_Ints_a2) (fun t => rl_ref01_Ints_a3))
set_option maxRecDepth 100000 in
theorem rl_ref01_Ints_con (p0 : List Int) (p1 : List Int) (r : Bool) (h : rl_ref01_Ints p0 p1 = some r) : Con Tryz.prog 62 [vl 1 Ri64 p0, vl 1 Ri64 p1] [] (vb r) [] := by
 refine con_of tt_ok2 0 Tryz.func62 (by kernel_rfl) rfl (by kernel_rfl) (fun base X _ => AW.post ?_)
 unfold rl_ref01_Ints at h
 refine AW.sg tt_ok2 [] [] [] 1 [] (by kernel_rfl) ?_
 refine AW.seq ?_
 refine AW.sg tt_ok2 [(10, vb ((p0.length : Int) != (p1.length : Int)))] [] [] 6 [] (by kernel_rfl) ?_
 refine AW.co h (by kernel_rfl) (fun c1 h => ?_) (fun c1 h => ?_)
 ·
  refine AW.sg tt_ok2 [(4, vb false)] [] [] 7 [] (by kernel_rfl) ?_
  refine AW.ret (AW.tr ?_)
  obtain rfl := some_inj h
  exact fn0 (.inr rfl) [] 0 (vb false) (by kernel_rfl)
 ·
  refine AW.skip (AW.tn (AW.seq ?_))
  refine AW.sg tt_ok2 [(5, vi64 0)] [] [] 7 [] (by kernel_rfl) ?_
  refine AW.block ?_
  refine AW.lpE h (fun v => ⟨[(0, vl 1 Ri64 p0), (1, vl 1 Ri64 p1), (5, vi64 v)], [], 0⟩) (fun t => (.exit 0, ⟨[], [], 0⟩)) (fun t => (.ret, ⟨[(4, vb false)], [], 0⟩)) (conv_re [] (by kernel_rfl)) (fun _ => tv) (fun _ => tv) ?_ (fun t h => ?_) (fun t h => ?_)
  ·
   clear h
   intro x3 o h
   unfold rl_ref01_Ints_l1 at h
   refine AW.seq ?_
   refine AW.sg tt_ok2 [(14, vb (decide (x3 < (p0.length : Int))))] [] [] 4 [] (by kernel_rfl) ?_
   refine AW.co h (by kernel_rfl) (fun c4 h => ?_) (fun c4 h => ?_)
   ·
    refine AW.skip (AW.tn ?_)
    refine AW.seq (AW.block ?_)
    obtain ⟨g5, g6, h⟩ := ifd h
    obtain ⟨g7, h⟩ := ifc h
    refine AW.sd tt_ok2 mo2 [] [(25, vb ((p0.getD x3.toNat 0) != (p1.getD x3.toNat 0)))] [] 13 [hn, hn, hq g5 g6, hn, hn, hn, hq g5 g7] (by kernel_rfl) ?_
    refine AW.co h (by kernel_rfl) (fun c8 h => ?_) (fun c8 h => ?_)
    ·
     refine AW.sg tt_ok2 [(4, vb false)] [] [] 14 [] (by kernel_rfl) ?_
     refine AW.ret (AW.inBlock_ret (AW.tr ?_))
     exact lpo h rfl (conv_re [] (by kernel_rfl))
    ·
     refine AW.skip (AW.inBlock_normal (AW.tn ?_))
     refine AW.rg tt_ok2 [(5, vi64 (i64.wrap (x3 + 1)))] [] [] 16 [] (by kernel_rfl) ?_
     exact lpn h (conv_re [] (by kernel_rfl))
   ·
    refine AW.exit (AW.thenQ_exit ?_)
    exact lpo h rfl (conv_re [] (by kernel_rfl))
  ·
   replace h : rl_ref01_Ints_a2 = some r := h
   unfold rl_ref01_Ints_a2 at h
   show (_ : Exit → St → Prop) (.exit 0) _
   refine AW.inBlock_hit (AW.tn ?_)
   refine AW.sg tt_ok2 [(4, vb true)] [] [] 1 [] (by kernel_rfl) ?_
   refine AW.ret ?_
   obtain rfl := some_inj h
   exact fn0 (.inr rfl) [] 0 (vb true) (by kernel_rfl)
  ·
   replace h : rl_ref01_Ints_a3 = some r := h
   unfold rl_ref01_Ints_a3 at h
   show (_ : Exit → St → Prop) (.ret) _
   refine AW.inBlock_ret (AW.tr ?_)
   obtain rfl := some_inj h
   exact fn0 (.inr rfl) [] 0 (vb false) (by kernel_rfl)
/-! recordlink/recordlinkref24.Same -/
noncomputable def rl_ref24_Same_k1 (x1 : Bool) : Option Bool := some x1
noncomputable def rl_ref24_Same (p0 : S_em_model) (p1 : S_em_model) : Option Bool := if (p0.Prior == p1.Prior) = true then ((rl_ref01_Ints p0.Match p1.Match).bind fun y3 => (if y3 = true then ((rl_ref01_Ints p0.Random p1.Random).bind fun y6 => (rl_ref24_Same_k1 y6)) else (rl_ref24_Same_k1 false))) else (rl_ref24_Same_k1 false)
set_option maxRecDepth 100000 in
theorem rl_ref24_Same_con (p0 : S_em_model) (p1 : S_em_model) (r : Bool) (h : rl_ref24_Same p0 p1 = some r) : Con Tryz.prog 32 [.agg [ci64 p0.Prior, cl 1 Ri64 p0.Match, cl 1 Ri64 p0.Random], .agg [ci64 p1.Prior, cl 1 Ri64 p1.Match, cl 1 Ri64 p1.Random]] [] (vb r) [] := by
 refine con_of tt_ok2 0 Tryz.func32 (by kernel_rfl) rfl (by kernel_rfl) (fun base X _ => AW.post ?_)
 unfold rl_ref24_Same at h
 refine AW.sg tt_ok2 [(3, .c (.ptr 1 3 0 0)), (2, .c (.ptr 0 3 0 0))] [0, 1] [(1, .box 24 [ci64 p1.Prior, cl 1 Ri64 p1.Match, cl 1 Ri64 p1.Random]), (0, .box 24 [ci64 p0.Prior, cl 1 Ri64 p0.Match, cl 1 Ri64 p0.Random])] 3 [] (by kernel_rfl) ?_
 refine AW.seq ?_
 refine AW.join (ι := Bool) (fun v => ⟨[(4, vb v)], [], 0⟩) (fun v : Bool => rl_ref24_Same_k1 v = some r) (fun x1 h => ?_) ?_
 ·
  unfold rl_ref24_Same_k1 at h
  refine AW.tn (AW.ret ?_)
  obtain rfl := some_inj h
  exact fn0 (.inr rfl) [] 0 (vb x1) (by kernel_rfl)
 ·
  rcases ifs h with ⟨c2, h⟩ | ⟨c2, h⟩
  ·
   obtain ⟨y3, e4, h⟩ := bnd_some h
   rcases ifs h with ⟨c5, hs⟩ | ⟨c5, hs⟩
   ·clear h; subst c5; have h := hs; clear hs
    obtain ⟨y6, e7, h⟩ := bnd_some h
    refine AW.rg tt_ok2 [(4, vb y6)] [] [] 21 [hn, hn, hn, hn, ht c2, hn, hn, hn, hn, hn, hk (rl_ref01_Ints_con p0.Match p1.Match true e4), hn, hn, hn, hn, hn, hn, hk (rl_ref01_Ints_con p0.Random p1.Random y6 e7)] (by kernel_rfl) ?_
    exact jl y6 h (conv_re [] (by kernel_rfl))
   ·clear h; subst c5; have h := hs; clear hs
    refine AW.rg tt_ok2 [(4, vb false)] [] [] 22 [hn, hn, hn, hn, ht c2, hn, hn, hn, hn, hn, hk (rl_ref01_Ints_con p0.Match p1.Match false e4)] (by kernel_rfl) ?_
    exact jl false h (conv_re [] (by kernel_rfl))
  ·
   refine AW.rg tt_ok2 [(4, vb false)] [] [] 23 [hn, hn, hn, hn, hf c2] (by kernel_rfl) ?_
   exact jl false h (conv_re [] (by kernel_rfl))
/-! slices.Clone[[]int,int] -/
noncomputable def slices_Clone_int (p0 : List Int) : Option (List Int) := orBoth (p0.length = 0) (some ([] : List Int)) (if ([] : List Int).length + p0.length ≤ 1099511627776 then (some (([] : List Int) ++ p0)) else none)
set_option maxRecDepth 100000 in
theorem slices_Clone_int_con (p0 : List Int) (r : List Int) (h : slices_Clone_int p0 = some r) : Con Tryz.prog 63 [vl 1 Ri64 p0] [] (.c (.ref 0 1 0 r.length)) [(0, .row 3 false 1 r.length (Ri64 r))] := by
 refine con_of tt_ok2 0 Tryz.func63 (by kernel_rfl) rfl (by kernel_rfl) (fun base X _ => AW.post ?_)
 unfold slices_Clone_int at h
 refine AW.sg tt_ok2 [] [] [] 1 [] (by kernel_rfl) ?_
 refine AW.seq ?_
 refine AW.sg tt_ok2 [(4, .c (.t (.tst (p0.length = 0))))] [] [] 3 [hn, ho (p := (1 : Nat) ≠ 0) (by decide)] (by kernel_rfl) ?_
 refine AW.cond_tst (p := p0.length = 0) (by kernel_rfl) (fun c1 => ?_) ?_
 ·replace h := (orBoth_some h).1 c1
  refine AW.sg tt_ok2 [(2, .c (.t (.v (.slice none 0 0))))] [] [] 4 [] (by kernel_rfl) ?_
  refine AW.ret (AW.tr ?_)
  obtain rfl := some_inj h
  exact fnR (.inr rfl) [(0, 4)] 1 (.c (.ref 4 1 0 (([] : List Int).length))) (conv_adopt (t := 2) (ty := 3) (sz := 1) (n := ([] : List Int).length) (f := Ri64 ([] : List Int)) (by kernel_rfl) rfl) (by kernel_rfl)
 ·replace h := (orBoth_some h).2
  refine AW.skip (AW.tn ?_)
  obtain ⟨g2, h⟩ := ifc h
  refine AW.sg tt_ok2 [(2, .c (.ref 5 1 0 ((([] : List Int) ++ p0).length)))] [3, 5] [(5, .row 3 false 1 (([] : List Int) ++ p0).length (Ri64 (([] : List Int) ++ p0)))] 7 [hlit 0 Ei64 1 (fun _ => rfl) ([] : List Int), hn, hr ((([] : List Int) ++ p0).length) (Ri64 (([] : List Int) ++ p0)) (p := (([] : List Int).length = ([] : List Int).length) ∧ (True) ∧ ((([] : List Int).length + p0.length ≤ 1099511627776) ∧ ((8 : Nat) ≤ 128)) ∧ (([] : List Int).length + p0.length = (([] : List Int) ++ p0).length ∧ ∀ i, i < (([] : List Int) ++ p0).length → ∀ j, j < 1 → TLe ((appRow (([] : List Int).length) (Ri64 ([] : List Int)) (Ri64 p0)) i j) (Ri64 (([] : List Int) ++ p0) i j))) (⟨rfl, tv, ⟨g2, (by decide)⟩, rowT (app_row rfl rfl row_rfl row_rfl)⟩)] (by kernel_rfl) ?_
  refine AW.ret ?_
  obtain rfl := some_inj h
  exact fn0 (.inr rfl) [(0, 5)] 1 (.c (.ref 5 1 0 ((([] : List Int) ++ p0).length))) (by kernel_rfl)
/-! recordlink/em.Run -/
noncomputable def em_Run_l2 (p1 : List Int) (p2 : Int) (x14 : Int) (x15 : Int) (x16 : List Int) (x17 : List Int) : Option ((Int × Int × (List Int) × (List Int)) ⊕ ((Int × (List Int) × (List Int)) ⊕ (Int × Int × (List Int) × (List Int)))) := if (decide (x14 < p2)) = true then ((em_step (⟨x15, x16, x17⟩ : S_em_model) p1).bind fun y26 => ((em_Same (⟨x15, x16, x17⟩ : S_em_model) y26).bind fun y28 => (if y28 = true then (some (.inr (.inr (x14, x15, x16, x17)))) else (some (.inl (i64.wrap (x14 + 1), y26.Prior, y26.Match, y26.Random)))))) else (some (.inr (.inl (x15, x16, x17))))
noncomputable def em_Run_a3 (p2 : Int) (x31 : Int) (x32 : List Int) (x33 : List Int) : Option (S_em_model × Int × Int) := some ((⟨x31, x32, x33⟩ : S_em_model), p2, 0)
noncomputable def em_Run_a4 (x34 : Int) (x35 : Int) (x36 : List Int) (x37 : List Int) : Option (S_em_model × Int × Int) := some ((⟨x35, x36, x37⟩ : S_em_model), x34, 0)
noncomputable def em_Run_k1 (p0 : S_em_model) (p1 : List Int) (p2 : Int) (x4 : Bool) : Option (S_em_model × Int × Int) := if x4 = true then (some ((⟨0, ([] : List Int), ([] : List Int)⟩ : S_em_model), 0, 2)) else ((slices_Clone_int p0.Match).bind fun y6 => ((slices_Clone_int p0.Random).bind fun y8 => (bindE (loop (fun v : Int × Int × (List Int) × (List Int) => em_Run_l2 p1 p2 v.1 v.2.1 v.2.2.1 v.2.2.2) (0, p0.Prior, y6, y8)) (fun t => em_Run_a3 p2 t.1 t.2.1 t.2.2) (fun t => em_Run_a4 t.1 t.2.1 t.2.2.1 t.2.2.2))))
noncomputable def em_Run (p0 : S_em_model) (p1 : List Int) (p2 : Int) : Option (S_em_model × Int × Int) := (em_check p0 p1).bind fun y1 => (if (y1 != 0) = true then (some ((⟨0, ([] : List Int), ([] : List Int)⟩ : S_em_model), 0, y1)) else (if (decide (p2 < 0)) = true then (em_Run_k1 p0 p1 p2 true) else (em_Run_k1 p0 p1 p2 (decide (p2 > 16)))))
set_option maxRecDepth 100000 in
theorem em_Run_con (p0 : S_em_model) (p1 : List Int) (p2 : Int) (r : S_em_model × Int × Int) (h : em_Run p0 p1 p2 = some r) : Con Tryz.prog 33 [.agg [ci64 p0.Prior, cl 1 Ri64 p0.Match, cl 1 Ri64 p0.Random], vl 1 Ri64 p1, vi64 p2] [] (.tup [.agg [ci64 r.1.Prior, .ref 0 1 0 r.1.Match.length, .ref 1 1 0 r.1.Random.length], vi64 r.2.1, vi64 r.2.2]) [(0, .row 3 false 1 r.1.Match.length (Ri64 r.1.Match)), (1, .row 3 false 1 r.1.Random.length (Ri64 r.1.Random))] := by
 refine con_of tt_ok2 0 Tryz.func33 (by kernel_rfl) rfl (by kernel_rfl) (fun base X _ => AW.post ?_)
 unfold em_Run at h
 refine AW.sg tt_ok2 [(6, .c (.ptr 1 3 0 0)), (3, .c (.ptr 0 3 0 0))] [0, 1] [(1, .box 24 [ci64 0, .t (.v (.slice none 0 0)), .t (.v (.slice none 0 0))]), (0, .box 24 [ci64 p0.Prior, cl 1 Ri64 p0.Match, cl 1 Ri64 p0.Random])] 4 [] (by kernel_rfl) ?_
 refine AW.seq ?_
 obtain ⟨y1, e2, h⟩ := bnd_some h
 refine AW.sg tt_ok2 [(9, vi64 y1)] [] [] 7 [hn, hn, hk (em_check_con p0 p1 y1 e2)] (by kernel_rfl) ?_
 refine AW.sg tt_ok2 [(16, vb (y1 != 0))] [] [] 9 [] (by kernel_rfl) ?_
 refine AW.co h (by kernel_rfl) (fun c3 h => ?_) (fun c3 h => ?_)
 ·
  refine AW.sg tt_ok2 [(8, vi64 y1), (7, vi64 0)] [1] [(1, .box 24 [ci64 0, .t (.v (.slice none 0 0)), .t (.v (.slice none 0 0))])] 14 [] (by kernel_rfl) ?_
  refine AW.ret (AW.tr ?_)
  obtain rfl := some_inj h
  exact fnR (.inr rfl) [(0, 14), (1, 15)] 2 (.tup [.agg [ci64 0, .ref 14 1 0 (([] : List Int).length), .ref 15 1 0 (([] : List Int).length)], vi64 0, vi64 y1]) (Conv.trans (conv_adoptB (id := 1) (ty0 := 24) (cs := [ci64 0, .t (.v (.slice none 0 0)), .t (.v (.slice none 0 0))]) 1 (ty := 3) (sz := 1) (n := ([] : List Int).length) (f := Ri64 ([] : List Int)) (by kernel_rfl) (by kernel_rfl) rfl) (conv_adoptB (id := 1) (ty0 := 24) (cs := [ci64 0, .ref 14 1 0 (([] : List Int).length), .t (.v (.slice none 0 0))]) 2 (ty := 3) (sz := 1) (n := ([] : List Int).length) (f := Ri64 ([] : List Int)) (by kernel_rfl) (by kernel_rfl) rfl)) (by kernel_rfl)
 ·
  refine AW.skip (AW.tn ?_)
  refine AW.seq (AW.seq ?_)
  refine AW.join (ι := Bool) (fun v => ⟨[(1, vl 1 Ri64 p1), (2, vi64 p2), (3, .c (.ptr 0 3 0 0)), (6, .c (.ptr 1 3 0 0)), (24, vb v)], [(0, .box 24 [ci64 p0.Prior, cl 1 Ri64 p0.Match, cl 1 Ri64 p0.Random]), (1, .box 24 [ci64 0, .t (.v (.slice none 0 0)), .t (.v (.slice none 0 0))])], 2⟩) (fun v : Bool => em_Run_k1 p0 p1 p2 v = some r) (fun x4 h => ?_) ?_
  ·
   unfold em_Run_k1 at h
   refine AW.tn ?_
   refine AW.co h (by kernel_rfl) (fun c5 h => ?_) (fun c5 h => ?_)
   ·
    refine AW.sg tt_ok2 [(8, vi64 2), (7, vi64 0)] [1] [(1, .box 24 [ci64 0, .t (.v (.slice none 0 0)), .t (.v (.slice none 0 0))])] 6 [] (by kernel_rfl) ?_
    refine AW.ret (AW.tr ?_)
    obtain rfl := some_inj h
    exact fnR (.inr rfl) [(0, 6), (1, 7)] 2 (.tup [.agg [ci64 0, .ref 6 1 0 (([] : List Int).length), .ref 7 1 0 (([] : List Int).length)], vi64 0, vi64 2]) (Conv.trans (conv_adoptB (id := 1) (ty0 := 24) (cs := [ci64 0, .t (.v (.slice none 0 0)), .t (.v (.slice none 0 0))]) 1 (ty := 3) (sz := 1) (n := ([] : List Int).length) (f := Ri64 ([] : List Int)) (by kernel_rfl) (by kernel_rfl) rfl) (conv_adoptB (id := 1) (ty0 := 24) (cs := [ci64 0, .ref 6 1 0 (([] : List Int).length), .t (.v (.slice none 0 0))]) 2 (ty := 3) (sz := 1) (n := ([] : List Int).length) (f := Ri64 ([] : List Int)) (by kernel_rfl) (by kernel_rfl) rfl)) (by kernel_rfl)
   ·
    refine AW.skip (AW.tn ?_)
    obtain ⟨y6, e7, h⟩ := bnd_some h
    obtain ⟨y8, e9, h⟩ := bnd_some h
    refine AW.sd tt_ok2 mo2 [[], [], [], [], [6], [], [], [9], [], [0]] [] [(0, .box 24 [ci64 p0.Prior, .ref 6 1 0 y6.length, .ref 9 1 0 y8.length]), (9, .row 3 false 1 y8.length (Ri64 y8)), (6, .row 3 false 1 y6.length (Ri64 y6))] 12 [hn, hn, hn, hn, hm [] [] 1 (slices_Clone_int_con p0.Match y6 e7) ⟨rowL_flat Vi64 _ _ _, tv⟩, hn, hn, hm [] [] 1 (slices_Clone_int_con p0.Random y8 e9) ⟨rowL_flat Vi64 _ _ _, tv⟩] (by kernel_rfl) ?_
    refine AW.seq ?_
    refine AW.sg tt_ok2 [(36, vi64 0), (35, vi64 p2)] [] [] 14 [] (by kernel_rfl) ?_
    refine AW.block ?_
    refine AW.lpE h (fun v => ⟨[(1, vl 1 Ri64 p1), (2, vi64 p2), (3, .c (.ptr 0 3 0 0)), (6, .c (.ptr 1 3 0 0)), (35, vi64 p2), (36, vi64 v.1)], [(0, .box 24 [ci64 v.2.1, .ref 2 1 0 v.2.2.1.length, .ref 3 1 0 v.2.2.2.length]), (1, .box 24 [ci64 0, .t (.v (.slice none 0 0)), .t (.v (.slice none 0 0))]), (2, .row 3 false 1 v.2.2.1.length (Ri64 v.2.2.1)), (3, .row 3 false 1 v.2.2.2.length (Ri64 v.2.2.2))], 4⟩) (fun t => (.exit 0, ⟨[(2, vi64 p2), (3, .c (.ptr 0 3 0 0)), (6, .c (.ptr 1 3 0 0))], [(0, .box 24 [ci64 t.1, .ref 2 1 0 t.2.1.length, .ref 3 1 0 t.2.2.length]), (1, .box 24 [ci64 0, .t (.v (.slice none 0 0)), .t (.v (.slice none 0 0))]), (2, .row 3 false 1 t.2.1.length (Ri64 t.2.1)), (3, .row 3 false 1 t.2.2.length (Ri64 t.2.2))], 4⟩)) (fun t => (.ret, ⟨[(6, .c (.ptr 0 3 0 0)), (7, vi64 t.1), (8, vi64 0)], [(0, .box 24 [ci64 t.2.1, .ref 1 1 0 t.2.2.1.length, .ref 2 1 0 t.2.2.2.length]), (1, .row 3 false 1 t.2.2.1.length (Ri64 t.2.2.1)), (2, .row 3 false 1 t.2.2.2.length (Ri64 t.2.2.2))], 3⟩)) (conv_re [(0, 0), (1, 1), (2, 6), (3, 9)] (by kernel_rfl)) (fun _ => tv) (fun _ => tv) ?_ (fun t h => ?_) (fun t h => ?_)
    ·
     clear h
     intro v o h
     obtain ⟨x14, x15, x16, x17⟩ := v
     replace h : em_Run_l2 p1 p2 x14 x15 x16 x17 = some o := h
     unfold em_Run_l2 at h
     refine AW.sg tt_ok2 [(37, vb (decide (x14 < p2)))] [] [] 5 [] (by kernel_rfl) ?_
     refine AW.seq ?_
     refine AW.co h (by kernel_rfl) (fun c25 h => ?_) (fun c25 h => ?_)
     ·
      refine AW.skip (AW.tn ?_)
      refine AW.seq (AW.block ?_)
      refine AW.sg tt_ok2 [(10, vi64 x14)] [] [] 7 [] (by kernel_rfl) ?_
      obtain ⟨y26, e27, h⟩ := bnd_some h
      refine AW.sg tt_ok2 [(11, .c (.ptr 11 3 0 0))] [9, 10, 11] [(11, .box 24 [ci64 y26.Prior, .ref 9 1 0 y26.Match.length, .ref 10 1 0 y26.Random.length]), (9, .row 3 false 1 y26.Match.length (Ri64 y26.Match)), (10, .row 3 false 1 y26.Random.length (Ri64 y26.Random))] 13 [hn, hn, hg [] [] true 2 (q := ((True) ∧ (0 + x16.length ≤ x16.length) ∧ (0 + x17.length ≤ x17.length) ∧ (True)) ∧ (True) ∧ (True)) ⟨⟨tv, le0, le0, tv⟩, tv, tv⟩ (a0 := [.agg [ci64 x15, cl 1 Ri64 x16, cl 1 Ri64 x17], vl 1 Ri64 p1]) (em_step_con (⟨x15, x16, x17⟩ : S_em_model) p1 y26 e27) ⟨ArgLe.refl _, ArgLe.refl _, tv⟩ (fun _ => ⟨rowL_flat Vi64 _ _ _, rowL_flat Vi64 _ _ _, tv⟩)] (by kernel_rfl) ?_
      refine AW.seq ?_
      obtain ⟨y28, e29, h⟩ := bnd_some h
      refine AW.sg tt_ok2 [(44, vb y28)] [] [] 15 [hn, hn, hg [] [] true 0 (q := ((True) ∧ (0 + x16.length ≤ x16.length) ∧ (0 + x17.length ≤ x17.length) ∧ (True)) ∧ ((True) ∧ (0 + y26.Match.length ≤ y26.Match.length) ∧ (0 + y26.Random.length ≤ y26.Random.length) ∧ (True)) ∧ (True)) ⟨⟨tv, le0, le0, tv⟩, ⟨tv, le0, le0, tv⟩, tv⟩ (a0 := [.agg [ci64 x15, cl 1 Ri64 x16, cl 1 Ri64 x17], .agg [ci64 y26.Prior, cl 1 Ri64 y26.Match, cl 1 Ri64 y26.Random]]) (em_Same_con (⟨x15, x16, x17⟩ : S_em_model) y26 y28 e29) ⟨ArgLe.refl _, ArgLe.refl _, tv⟩ (fun _ => tv)] (by kernel_rfl) ?_
      refine AW.co h (by kernel_rfl) (fun c30 h => ?_) (fun c30 h => ?_)
      ·
       refine AW.sg tt_ok2 [(8, vi64 0), (7, vi64 x14)] [1] [(1, .box 24 [ci64 x15, .ref 2 1 0 x16.length, .ref 3 1 0 x17.length])] 20 [] (by kernel_rfl) ?_
       refine AW.ret (AW.tr ?_)
       refine AW.inBlock_ret (AW.tr ?_)
       exact lpo h rfl (conv_re [(0, 1), (1, 2), (2, 3)] (by kernel_rfl))
      ·
       refine AW.skip (AW.tn ?_)
       refine AW.rg tt_ok2 [] [0] [(0, .box 24 [ci64 y26.Prior, .ref 9 1 0 y26.Match.length, .ref 10 1 0 y26.Random.length])] 17 [] (by kernel_rfl) ?_
       refine AW.inBlock_normal (AW.tn ?_)
       refine AW.rg tt_ok2 [(36, vi64 (i64.wrap (x14 + 1)))] [] [] 19 [] (by kernel_rfl) ?_
       exact lpn h (conv_re [(0, 0), (1, 1), (2, 9), (3, 10)] (by kernel_rfl))
     ·
      refine AW.exit (AW.thenQ_exit ?_)
      exact lpo h rfl (conv_re [(0, 0), (1, 1), (2, 2), (3, 3)] (by kernel_rfl))
    ·
     obtain ⟨x31, x32, x33⟩ := t
     replace h : em_Run_a3 p2 x31 x32 x33 = some r := h
     unfold em_Run_a3 at h
     show (_ : Exit → St → Prop) (.exit 0) _
     refine AW.inBlock_hit (AW.tn ?_)
     refine AW.sg tt_ok2 [(8, vi64 0), (7, vi64 p2)] [1] [(1, .box 24 [ci64 x31, .ref 2 1 0 x32.length, .ref 3 1 0 x33.length])] 9 [] (by kernel_rfl) ?_
     refine AW.ret ?_
     obtain rfl := some_inj h
     exact fn0 (.inr rfl) [(0, 2), (1, 3)] 2 (.tup [.agg [ci64 x31, .ref 2 1 0 x32.length, .ref 3 1 0 x33.length], vi64 p2, vi64 0]) (by kernel_rfl)
    ·
     obtain ⟨x34, x35, x36, x37⟩ := t
     replace h : em_Run_a4 x34 x35 x36 x37 = some r := h
     unfold em_Run_a4 at h
     show (_ : Exit → St → Prop) (.ret) _
     refine AW.inBlock_ret (AW.tr ?_)
     obtain rfl := some_inj h
     exact fn0 (.inr rfl) [(0, 1), (1, 2)] 2 (.tup [.agg [ci64 x35, .ref 1 1 0 x36.length, .ref 2 1 0 x37.length], vi64 x34, vi64 0]) (by kernel_rfl)
  ·
   rcases ifs h with ⟨c39, h⟩ | ⟨c39, h⟩
   ·
    refine AW.rg tt_ok2 [(24, vb true)] [] [] 15 [hn, ht c39] (by kernel_rfl) ?_
    exact jl true h (conv_re [(0, 0), (1, 1)] (by kernel_rfl))
   ·
    refine AW.rg tt_ok2 [(24, vb (decide (p2 > 16)))] [] [] 15 [hn, hf c39] (by kernel_rfl) ?_
    exact jl (decide (p2 > 16)) h (conv_re [(0, 0), (1, 1)] (by kernel_rfl))
/-! recordlink/recordlinkref24.Copy -/
noncomputable def rl_ref24_Copy (p0 : S_em_model) : Option S_em_model := if 0 + p0.Match.length ≤ 1099511627776 then (if 0 + p0.Random.length ≤ 1099511627776 then (some (⟨p0.Prior, (([] : List Int) ++ p0.Match), (([] : List Int) ++ p0.Random)⟩ : S_em_model)) else none) else none
set_option maxRecDepth 100000 in
theorem rl_ref24_Copy_con (p0 : S_em_model) (r : S_em_model) (h : rl_ref24_Copy p0 = some r) : Con Tryz.prog 64 [.agg [ci64 p0.Prior, cl 1 Ri64 p0.Match, cl 1 Ri64 p0.Random]] [] (.agg [ci64 r.Prior, .ref 0 1 0 r.Match.length, .ref 1 1 0 r.Random.length]) [(0, .row 3 false 1 r.Match.length (Ri64 r.Match)), (1, .row 3 false 1 r.Random.length (Ri64 r.Random))] := by
 refine con_of tt_ok2 0 Tryz.func64 (by kernel_rfl) rfl (by kernel_rfl) (fun base X _ => AW.post ?_)
 unfold rl_ref24_Copy at h
 refine AW.sg tt_ok2 [(2, .c (.ptr 1 3 0 0)), (1, .c (.ptr 0 3 0 0))] [0, 1] [(1, .box 24 [ci64 0, .t (.v (.slice none 0 0)), .t (.v (.slice none 0 0))]), (0, .box 24 [ci64 p0.Prior, cl 1 Ri64 p0.Match, cl 1 Ri64 p0.Random])] 2 [] (by kernel_rfl) ?_
 obtain ⟨g1, g2, h⟩ := ifd h
 refine AW.sd tt_ok2 mo2 [[], [], [], [], [6], [], [], [9], [], [1]] [] [(1, .box 24 [ci64 p0.Prior, .ref 6 1 0 ((([] : List Int) ++ p0.Match).length), .ref 9 1 0 ((([] : List Int) ++ p0.Random).length)]), (9, .row 3 false 1 (([] : List Int) ++ p0.Random).length (Ri64 (([] : List Int) ++ p0.Random))), (6, .row 3 false 1 (([] : List Int) ++ p0.Match).length (Ri64 (([] : List Int) ++ p0.Match)))] 12 [hn, hn, hn, hn, hr ((([] : List Int) ++ p0.Match).length) (Ri64 (([] : List Int) ++ p0.Match)) (p := (True) ∧ (True) ∧ ((0 + p0.Match.length ≤ 1099511627776) ∧ ((8 : Nat) ≤ 128)) ∧ (0 + p0.Match.length = (([] : List Int) ++ p0.Match).length ∧ ∀ i, i < (([] : List Int) ++ p0.Match).length → ∀ j, j < 1 → TLe ((appRow 0 (fun _ _ => .v undef) (Ri64 p0.Match)) i j) (Ri64 (([] : List Int) ++ p0.Match) i j))) (⟨tv, tv, ⟨g1, (by decide)⟩, rowT (app_row rfl rfl row_nil row_rfl)⟩), hn, hn, hr ((([] : List Int) ++ p0.Random).length) (Ri64 (([] : List Int) ++ p0.Random)) (p := (True) ∧ (True) ∧ ((0 + p0.Random.length ≤ 1099511627776) ∧ ((8 : Nat) ≤ 128)) ∧ (0 + p0.Random.length = (([] : List Int) ++ p0.Random).length ∧ ∀ i, i < (([] : List Int) ++ p0.Random).length → ∀ j, j < 1 → TLe ((appRow 0 (fun _ _ => .v undef) (Ri64 p0.Random)) i j) (Ri64 (([] : List Int) ++ p0.Random) i j))) (⟨tv, tv, ⟨g2, (by decide)⟩, rowT (app_row rfl rfl row_nil row_rfl)⟩)] (by kernel_rfl) ?_
 refine AW.ret ?_
 obtain rfl := some_inj h
 exact fn0 (.inr rfl) [(0, 6), (1, 9)] 2 (.agg [ci64 p0.Prior, .ref 6 1 0 ((([] : List Int) ++ p0.Match).length), .ref 9 1 0 ((([] : List Int) ++ p0.Random).length)]) (by kernel_rfl)
/-! recordlink/recordlinkref24.Run -/
noncomputable def rl_ref24_Run_l2 (p1 : List Int) (p2 : Int) (x15 : Int) (x16 : Int) (x17 : List Int) (x18 : List Int) : Option ((Int × Int × (List Int) × (List Int)) ⊕ ((Int × (List Int) × (List Int)) ⊕ (Int × Int × (List Int) × (List Int)))) := if (decide (x15 < p2)) = true then (bind2 (rl_ref24_Step (⟨x16, x17, x18⟩ : S_em_model) p1) fun y27 y28 => ((rl_ref24_Same y27 (⟨x16, x17, x18⟩ : S_em_model)).bind fun y30 => (if y30 = true then (some (.inr (.inr (x15, x16, x17, x18)))) else (some (.inl (i64.wrap (x15 + 1), y27.Prior, y27.Match, y27.Random)))))) else (some (.inr (.inl (x16, x17, x18))))
noncomputable def rl_ref24_Run_a3 (p2 : Int) (x33 : Int) (x34 : List Int) (x35 : List Int) : Option (S_em_model × Int × Int) := some ((⟨x33, x34, x35⟩ : S_em_model), p2, 0)
noncomputable def rl_ref24_Run_a4 (x36 : Int) (x37 : Int) (x38 : List Int) (x39 : List Int) : Option (S_em_model × Int × Int) := some ((⟨x37, x38, x39⟩ : S_em_model), x36, 0)
noncomputable def rl_ref24_Run_k1 (p0 : S_em_model) (p1 : List Int) (p2 : Int) (x7 : Bool) : Option (S_em_model × Int × Int) := if x7 = true then (some ((⟨0, ([] : List Int), ([] : List Int)⟩ : S_em_model), 0, 2)) else ((rl_ref24_Copy p0).bind fun y9 => (bindE (loop (fun v : Int × Int × (List Int) × (List Int) => rl_ref24_Run_l2 p1 p2 v.1 v.2.1 v.2.2.1 v.2.2.2) (0, y9.Prior, y9.Match, y9.Random)) (fun t => rl_ref24_Run_a3 p2 t.1 t.2.1 t.2.2) (fun t => rl_ref24_Run_a4 t.1 t.2.1 t.2.2.1 t.2.2.2)))
noncomputable def rl_ref24_Run (p0 : S_em_model) (p1 : List Int) (p2 : Int) : Option (S_em_model × Int × Int) := (rl_ref24_Check p0).bind fun y1 => (if (y1 != 0) = true then (some ((⟨0, ([] : List Int), ([] : List Int)⟩ : S_em_model), 0, y1)) else ((rl_ref23_Check p1 ((p0.Match.length : Nat) : Int)).bind fun y4 => (if (y4 != 0) = true then (some ((⟨0, ([] : List Int), ([] : List Int)⟩ : S_em_model), 0, y4)) else (if (decide (p2 < 0)) = true then (rl_ref24_Run_k1 p0 p1 p2 true) else (rl_ref24_Run_k1 p0 p1 p2 (decide (p2 > 16)))))))
set_option maxRecDepth 100000 in
theorem rl_ref24_Run_con (p0 : S_em_model) (p1 : List Int) (p2 : Int) (r : S_em_model × Int × Int) (h : rl_ref24_Run p0 p1 p2 = some r) : Con Tryz.prog 34 [.agg [ci64 p0.Prior, cl 1 Ri64 p0.Match, cl 1 Ri64 p0.Random], vl 1 Ri64 p1, vi64 p2] [] (.tup [.agg [ci64 r.1.Prior, .ref 0 1 0 r.1.Match.length, .ref 1 1 0 r.1.Random.length], vi64 r.2.1, vi64 r.2.2]) [(0, .row 3 false 1 r.1.Match.length (Ri64 r.1.Match)), (1, .row 3 false 1 r.1.Random.length (Ri64 r.1.Random))] := by
 refine con_of tt_ok2 0 Tryz.func34 (by kernel_rfl) rfl (by kernel_rfl) (fun base X _ => AW.post ?_)
 unfold rl_ref24_Run at h
 refine AW.sg tt_ok2 [(6, .c (.ptr 1 3 0 0)), (3, .c (.ptr 0 3 0 0))] [0, 1] [(1, .box 24 [ci64 0, .t (.v (.slice none 0 0)), .t (.v (.slice none 0 0))]), (0, .box 24 [ci64 p0.Prior, cl 1 Ri64 p0.Match, cl 1 Ri64 p0.Random])] 4 [] (by kernel_rfl) ?_
 refine AW.seq ?_
 obtain ⟨y1, e2, h⟩ := bnd_some h
 refine AW.sg tt_ok2 [(9, vi64 y1)] [] [] 6 [hn, hk (rl_ref24_Check_con p0 y1 e2)] (by kernel_rfl) ?_
 refine AW.sg tt_ok2 [(18, vb (y1 != 0))] [] [] 8 [] (by kernel_rfl) ?_
 refine AW.co h (by kernel_rfl) (fun c3 h => ?_) (fun c3 h => ?_)
 ·
  refine AW.sg tt_ok2 [(8, vi64 y1), (7, vi64 0)] [1] [(1, .box 24 [ci64 0, .t (.v (.slice none 0 0)), .t (.v (.slice none 0 0))])] 13 [] (by kernel_rfl) ?_
  refine AW.ret (AW.tr ?_)
  obtain rfl := some_inj h
  exact fnR (.inr rfl) [(0, 13), (1, 14)] 2 (.tup [.agg [ci64 0, .ref 13 1 0 (([] : List Int).length), .ref 14 1 0 (([] : List Int).length)], vi64 0, vi64 y1]) (Conv.trans (conv_adoptB (id := 1) (ty0 := 24) (cs := [ci64 0, .t (.v (.slice none 0 0)), .t (.v (.slice none 0 0))]) 1 (ty := 3) (sz := 1) (n := ([] : List Int).length) (f := Ri64 ([] : List Int)) (by kernel_rfl) (by kernel_rfl) rfl) (conv_adoptB (id := 1) (ty0 := 24) (cs := [ci64 0, .ref 13 1 0 (([] : List Int).length), .t (.v (.slice none 0 0))]) 2 (ty := 3) (sz := 1) (n := ([] : List Int).length) (f := Ri64 ([] : List Int)) (by kernel_rfl) (by kernel_rfl) rfl)) (by kernel_rfl)
 ·
  refine AW.skip (AW.tn (AW.seq ?_))
  obtain ⟨y4, e5, h⟩ := bnd_some h
  refine AW.sg tt_ok2 [(10, vi64 y4)] [] [] 13 [hn, hn, hn, hn, hk (rl_ref23_Check_con p1 ((p0.Match.length : Nat) : Int) y4 e5)] (by kernel_rfl) ?_
  refine AW.sg tt_ok2 [(27, vb (y4 != 0))] [] [] 15 [] (by kernel_rfl) ?_
  refine AW.co h (by kernel_rfl) (fun c6 h => ?_) (fun c6 h => ?_)
  ·
   refine AW.sg tt_ok2 [(8, vi64 y4), (7, vi64 0)] [1] [(1, .box 24 [ci64 0, .t (.v (.slice none 0 0)), .t (.v (.slice none 0 0))])] 20 [] (by kernel_rfl) ?_
   refine AW.ret (AW.tr ?_)
   obtain rfl := some_inj h
   exact fnR (.inr rfl) [(0, 20), (1, 21)] 2 (.tup [.agg [ci64 0, .ref 20 1 0 (([] : List Int).length), .ref 21 1 0 (([] : List Int).length)], vi64 0, vi64 y4]) (Conv.trans (conv_adoptB (id := 1) (ty0 := 24) (cs := [ci64 0, .t (.v (.slice none 0 0)), .t (.v (.slice none 0 0))]) 1 (ty := 3) (sz := 1) (n := ([] : List Int).length) (f := Ri64 ([] : List Int)) (by kernel_rfl) (by kernel_rfl) rfl) (conv_adoptB (id := 1) (ty0 := 24) (cs := [ci64 0, .ref 20 1 0 (([] : List Int).length), .t (.v (.slice none 0 0))]) 2 (ty := 3) (sz := 1) (n := ([] : List Int).length) (f := Ri64 ([] : List Int)) (by kernel_rfl) (by kernel_rfl) rfl)) (by kernel_rfl)
  ·
   refine AW.skip (AW.tn ?_)
   refine AW.seq (AW.seq ?_)
   refine AW.join (ι := Bool) (fun v => ⟨[(1, vl 1 Ri64 p1), (2, vi64 p2), (3, .c (.ptr 0 3 0 0)), (6, .c (.ptr 1 3 0 0)), (35, vb v)], [(0, .box 24 [ci64 p0.Prior, cl 1 Ri64 p0.Match, cl 1 Ri64 p0.Random]), (1, .box 24 [ci64 0, .t (.v (.slice none 0 0)), .t (.v (.slice none 0 0))])], 2⟩) (fun v : Bool => rl_ref24_Run_k1 p0 p1 p2 v = some r) (fun x7 h => ?_) ?_
   ·
    unfold rl_ref24_Run_k1 at h
    refine AW.tn ?_
    refine AW.co h (by kernel_rfl) (fun c8 h => ?_) (fun c8 h => ?_)
    ·
     refine AW.sg tt_ok2 [(8, vi64 2), (7, vi64 0)] [1] [(1, .box 24 [ci64 0, .t (.v (.slice none 0 0)), .t (.v (.slice none 0 0))])] 6 [] (by kernel_rfl) ?_
     refine AW.ret (AW.tr ?_)
     obtain rfl := some_inj h
     exact fnR (.inr rfl) [(0, 6), (1, 7)] 2 (.tup [.agg [ci64 0, .ref 6 1 0 (([] : List Int).length), .ref 7 1 0 (([] : List Int).length)], vi64 0, vi64 2]) (Conv.trans (conv_adoptB (id := 1) (ty0 := 24) (cs := [ci64 0, .t (.v (.slice none 0 0)), .t (.v (.slice none 0 0))]) 1 (ty := 3) (sz := 1) (n := ([] : List Int).length) (f := Ri64 ([] : List Int)) (by kernel_rfl) (by kernel_rfl) rfl) (conv_adoptB (id := 1) (ty0 := 24) (cs := [ci64 0, .ref 6 1 0 (([] : List Int).length), .t (.v (.slice none 0 0))]) 2 (ty := 3) (sz := 1) (n := ([] : List Int).length) (f := Ri64 ([] : List Int)) (by kernel_rfl) (by kernel_rfl) rfl)) (by kernel_rfl)
    ·
     refine AW.skip (AW.tn ?_)
     obtain ⟨y9, e10, h⟩ := bnd_some h
     refine AW.sg tt_ok2 [(11, .c (.ptr 5 3 0 0))] [3, 4, 5] [(5, .box 24 [ci64 y9.Prior, .ref 3 1 0 y9.Match.length, .ref 4 1 0 y9.Random.length]), (3, .row 3 false 1 y9.Match.length (Ri64 y9.Match)), (4, .row 3 false 1 y9.Random.length (Ri64 y9.Random))] 7 [hn, hm [] [] 2 (rl_ref24_Copy_con p0 y9 e10) ⟨rowL_flat Vi64 _ _ _, rowL_flat Vi64 _ _ _, tv⟩] (by kernel_rfl) ?_
     refine AW.seq ?_
     refine AW.sg tt_ok2 [(12, vi64 0)] [] [] 8 [] (by kernel_rfl) ?_
     refine AW.block ?_
     refine AW.lpE h (fun v => ⟨[(1, vl 1 Ri64 p1), (2, vi64 p2), (6, .c (.ptr 0 3 0 0)), (11, .c (.ptr 1 3 0 0)), (12, vi64 v.1)], [(0, .box 24 [ci64 0, .t (.v (.slice none 0 0)), .t (.v (.slice none 0 0))]), (1, .box 24 [ci64 v.2.1, .ref 2 1 0 v.2.2.1.length, .ref 3 1 0 v.2.2.2.length]), (2, .row 3 false 1 v.2.2.1.length (Ri64 v.2.2.1)), (3, .row 3 false 1 v.2.2.2.length (Ri64 v.2.2.2))], 4⟩) (fun t => (.exit 0, ⟨[(2, vi64 p2), (6, .c (.ptr 0 3 0 0)), (11, .c (.ptr 1 3 0 0))], [(0, .box 24 [ci64 0, .t (.v (.slice none 0 0)), .t (.v (.slice none 0 0))]), (1, .box 24 [ci64 t.1, .ref 2 1 0 t.2.1.length, .ref 3 1 0 t.2.2.length]), (2, .row 3 false 1 t.2.1.length (Ri64 t.2.1)), (3, .row 3 false 1 t.2.2.length (Ri64 t.2.2))], 4⟩)) (fun t => (.ret, ⟨[(6, .c (.ptr 0 3 0 0)), (7, vi64 t.1), (8, vi64 0)], [(0, .box 24 [ci64 t.2.1, .ref 1 1 0 t.2.2.1.length, .ref 2 1 0 t.2.2.2.length]), (1, .row 3 false 1 t.2.2.1.length (Ri64 t.2.2.1)), (2, .row 3 false 1 t.2.2.2.length (Ri64 t.2.2.2))], 3⟩)) (conv_re [(0, 1), (1, 5), (2, 3), (3, 4)] (by kernel_rfl)) (fun _ => tv) (fun _ => tv) ?_ (fun t h => ?_) (fun t h => ?_)
     ·
      clear h
      intro v o h
      obtain ⟨x15, x16, x17, x18⟩ := v
      replace h : rl_ref24_Run_l2 p1 p2 x15 x16 x17 x18 = some o := h
      unfold rl_ref24_Run_l2 at h
      refine AW.seq ?_
      refine AW.sg tt_ok2 [(41, vb (decide (x15 < p2)))] [] [] 7 [] (by kernel_rfl) ?_
      refine AW.co h (by kernel_rfl) (fun c26 h => ?_) (fun c26 h => ?_)
      ·
       refine AW.skip (AW.tn ?_)
       refine AW.seq (AW.block ?_)
       obtain ⟨y27, y28, e29, h⟩ := bind2_some h
       refine AW.sg tt_ok2 [(13, .c (.ptr 14 3 0 0))] [9, 10, 14] [(14, .box 24 [ci64 y27.Prior, .ref 9 1 0 y27.Match.length, .ref 10 1 0 y27.Random.length]), (9, .row 3 false 1 y27.Match.length (Ri64 y27.Match)), (10, .row 3 false 1 y27.Random.length (Ri64 y27.Random))] 17 [hn, hn, hg [] [] true 2 (q := ((True) ∧ (0 + x17.length ≤ x17.length) ∧ (0 + x18.length ≤ x18.length) ∧ (True)) ∧ (True) ∧ (True)) ⟨⟨tv, le0, le0, tv⟩, tv, tv⟩ (a0 := [.agg [ci64 x16, cl 1 Ri64 x17, cl 1 Ri64 x18], vl 1 Ri64 p1]) (rl_ref24_Step_con (⟨x16, x17, x18⟩ : S_em_model) p1 (y27, y28) e29) ⟨ArgLe.refl _, ArgLe.refl _, tv⟩ (fun _ => ⟨rowL_flat Vi64 _ _ _, rowL_flat Vi64 _ _ _, tv⟩)] (by kernel_rfl) ?_
       refine AW.seq ?_
       obtain ⟨y30, e31, h⟩ := bnd_some h
       refine AW.sg tt_ok2 [(52, vb y30)] [] [] 19 [hn, hn, hg [] [] true 0 (q := ((True) ∧ (0 + y27.Match.length ≤ y27.Match.length) ∧ (0 + y27.Random.length ≤ y27.Random.length) ∧ (True)) ∧ ((True) ∧ (0 + x17.length ≤ x17.length) ∧ (0 + x18.length ≤ x18.length) ∧ (True)) ∧ (True)) ⟨⟨tv, le0, le0, tv⟩, ⟨tv, le0, le0, tv⟩, tv⟩ (a0 := [.agg [ci64 y27.Prior, cl 1 Ri64 y27.Match, cl 1 Ri64 y27.Random], .agg [ci64 x16, cl 1 Ri64 x17, cl 1 Ri64 x18]]) (rl_ref24_Same_con y27 (⟨x16, x17, x18⟩ : S_em_model) y30 e31) ⟨ArgLe.refl _, ArgLe.refl _, tv⟩ (fun _ => tv)] (by kernel_rfl) ?_
       refine AW.co h (by kernel_rfl) (fun c32 h => ?_) (fun c32 h => ?_)
       ·
        refine AW.sg tt_ok2 [(8, vi64 0), (7, vi64 x15)] [0] [(0, .box 24 [ci64 x16, .ref 2 1 0 x17.length, .ref 3 1 0 x18.length])] 24 [] (by kernel_rfl) ?_
        refine AW.ret (AW.tr ?_)
        refine AW.inBlock_ret (AW.tr ?_)
        exact lpo h rfl (conv_re [(0, 0), (1, 2), (2, 3)] (by kernel_rfl))
       ·
        refine AW.skip (AW.tn ?_)
        refine AW.rg tt_ok2 [] [1] [(1, .box 24 [ci64 y27.Prior, .ref 9 1 0 y27.Match.length, .ref 10 1 0 y27.Random.length])] 21 [] (by kernel_rfl) ?_
        refine AW.inBlock_normal (AW.tn ?_)
        refine AW.rg tt_ok2 [(12, vi64 (i64.wrap (x15 + 1)))] [] [] 24 [] (by kernel_rfl) ?_
        exact lpn h (conv_re [(0, 0), (1, 1), (2, 9), (3, 10)] (by kernel_rfl))
      ·
       refine AW.exit (AW.thenQ_exit ?_)
       exact lpo h rfl (conv_re [(0, 0), (1, 1), (2, 2), (3, 3)] (by kernel_rfl))
     ·
      obtain ⟨x33, x34, x35⟩ := t
      replace h : rl_ref24_Run_a3 p2 x33 x34 x35 = some r := h
      unfold rl_ref24_Run_a3 at h
      show (_ : Exit → St → Prop) (.exit 0) _
      refine AW.inBlock_hit (AW.tn ?_)
      refine AW.sg tt_ok2 [(8, vi64 0), (7, vi64 p2)] [0] [(0, .box 24 [ci64 x33, .ref 2 1 0 x34.length, .ref 3 1 0 x35.length])] 9 [] (by kernel_rfl) ?_
      refine AW.ret ?_
      obtain rfl := some_inj h
      exact fn0 (.inr rfl) [(0, 2), (1, 3)] 2 (.tup [.agg [ci64 x33, .ref 2 1 0 x34.length, .ref 3 1 0 x35.length], vi64 p2, vi64 0]) (by kernel_rfl)
     ·
      obtain ⟨x36, x37, x38, x39⟩ := t
      replace h : rl_ref24_Run_a4 x36 x37 x38 x39 = some r := h
      unfold rl_ref24_Run_a4 at h
      show (_ : Exit → St → Prop) (.ret) _
      refine AW.inBlock_ret (AW.tr ?_)
      obtain rfl := some_inj h
      exact fn0 (.inr rfl) [(0, 1), (1, 2)] 2 (.tup [.agg [ci64 x37, .ref 1 1 0 x38.length, .ref 2 1 0 x39.length], vi64 x36, vi64 0]) (by kernel_rfl)
   ·
    rcases ifs h with ⟨c41, h⟩ | ⟨c41, h⟩
    ·
     refine AW.rg tt_ok2 [(35, vb true)] [] [] 21 [hn, ht c41] (by kernel_rfl) ?_
     exact jl true h (conv_re [(0, 0), (1, 1)] (by kernel_rfl))
    ·
     refine AW.rg tt_ok2 [(35, vb (decide (p2 > 16)))] [] [] 21 [hn, hf c41] (by kernel_rfl) ?_
     exact jl (decide (p2 > 16)) h (conv_re [(0, 0), (1, 1)] (by kernel_rfl))
end Go.Proofs.YtilpgjoidgfbiaaGreat
