/- Printed by a program of mine (vmgen.py): Go functions, and what they come to. -/
import Derived.Test.YtknlckjpgmjenaaVr
import Derived.Test.YtknlckjpgmjenaaRows
import Derived.Test.YtknlckjpgmjenaaG1
namespace Go.Proofs.Ytknlckjpgmjenaa
open Vm
open IntKind (i64 u64 u32 u8)
set_option maxHeartbeats 10000000
set_option linter.unusedVariables false
set_option linter.unusedSimpArgs false
set_option linter.constructorNameAsVariable false
def ttlL7 : List (Nat × TI) := [(3, ⟨.int .i64, 1, 8, [.int .i64 0], false⟩), (4, ⟨.bool, 1, 1, [.bool false], false⟩), (22, ⟨.slice 3, 1, 24, [.slice none 0 0], false⟩), (25, ⟨.ptr 86, 1, 8, [.pointer none], false⟩), (31, ⟨.int .i64, 1, 8, [.int .i64 0], false⟩), (38, ⟨.slice 84, 1, 24, [.slice none 0 0], false⟩), (40, ⟨.struct [(3, 0), (3, 1), (38, 2)], 3, 40, [.int .i64 0, .int .i64 0, .slice none 0 0], false⟩), (41, ⟨.slice 45, 1, 24, [.slice none 0 0], false⟩), (45, ⟨.int .u64, 1, 8, [.int .u64 0], false⟩), (60, ⟨.arr 3 3, 3, 24, [.int .i64 0, .int .i64 0, .int .i64 0], true⟩), (65, ⟨.slice 40, 1, 24, [.slice none 0 0], false⟩), (67, ⟨.slice 72, 1, 24, [.slice none 0 0], false⟩), (72, ⟨.struct [(3, 0), (3, 1)], 2, 16, [.int .i64 0, .int .i64 0], true⟩), (84, ⟨.struct [(3, 0), (41, 1)], 2, 32, [.int .i64 0, .slice none 0 0], false⟩), (86, ⟨.struct [(22, 0), (3, 1), (45, 2)], 3, 40, [.slice none 0 0, .int .i64 0, .int .u64 0], false⟩), (127, ⟨.slice 65, 1, 24, [.slice none 0 0], false⟩), (129, ⟨.arr 6 3, 6, 48, [.int .i64 0, .int .i64 0, .int .i64 0, .int .i64 0, .int .i64 0, .int .i64 0], true⟩)]
theorem tt_okL7 : TTok Try.prog (Vm.look ttlL7) := ttok_of ⟨⟨by kernel_rfl, by kernel_rfl, by kernel_rfl⟩, ⟨by kernel_rfl, by kernel_rfl, by kernel_rfl⟩, ⟨by kernel_rfl, by kernel_rfl, by kernel_rfl⟩, ⟨by kernel_rfl, by kernel_rfl, by kernel_rfl⟩, ⟨by kernel_rfl, by kernel_rfl, by kernel_rfl⟩, ⟨by kernel_rfl, by kernel_rfl, by kernel_rfl⟩, ⟨by kernel_rfl, by kernel_rfl, by kernel_rfl⟩, ⟨by kernel_rfl, by kernel_rfl, by kernel_rfl⟩, ⟨by kernel_rfl, by kernel_rfl, by kernel_rfl⟩, ⟨by kernel_rfl, by kernel_rfl, by kernel_rfl⟩, ⟨by kernel_rfl, by kernel_rfl, by kernel_rfl⟩, ⟨by kernel_rfl, by kernel_rfl, by kernel_rfl⟩, ⟨by kernel_rfl, by kernel_rfl, by kernel_rfl⟩, ⟨by kernel_rfl, by kernel_rfl, by kernel_rfl⟩, ⟨by kernel_rfl, by kernel_rfl, by kernel_rfl⟩, ⟨by kernel_rfl, by kernel_rfl, by kernel_rfl⟩, ⟨by kernel_rfl, by kernel_rfl, by kernel_rfl⟩, trivial⟩
theorem moL7 : Try.prog.follows .mixedOrders = true := by kernel_rfl
/-! recordlink/recordlinklaw23.PatternMarginals -/
noncomputable def rl_law23_PatternMarginals_k3 (x14 : Int) (x19 : Bool) : Option (Int ⊕ (Unit ⊕ Unit)) := if x19 = true then (some (.inr (.inr ()))) else (some (.inl (i64.wrap (x14 + 1))))
noncomputable def rl_law23_PatternMarginals_l2 (y7 : Int) (y10 : List Int) (x14 : Int) : Option (Int ⊕ (Unit ⊕ Unit)) := if (decide (x14 < (i64.wrap (1 + y7)))) = true then (bind2 (pattern_Marginal y10 (i64.wrap (1 + y7)) x14) fun y16 y17 => (if (y17 != 0) = true then (rl_law23_PatternMarginals_k3 x14 true) else (if (decide ((y16.getD 0 0) < 0)) = true then (rl_law23_PatternMarginals_k3 x14 true) else (if (decide ((y16.getD 1 0) < 0)) = true then (rl_law23_PatternMarginals_k3 x14 true) else (if (decide ((y16.getD 2 0) < 0)) = true then (rl_law23_PatternMarginals_k3 x14 true) else ((pattern_Total y10).bind fun y25 => (rl_law23_PatternMarginals_k3 x14 ((i64.wrap ((i64.wrap ((y16.getD 0 0) + (y16.getD 1 0))) + (y16.getD 2 0))) != y25)))))))) else (some (.inr (.inl ())))
noncomputable def rl_law23_PatternMarginals_a4 (y7 : Int) (y10 : List Int) : Option Bool := (pattern_Check y10 (i64.wrap (1 + y7))).bind fun y27 => (some (y27 == 0))
noncomputable def rl_law23_PatternMarginals_a5 : Option Bool := some false
noncomputable def rl_law23_PatternMarginals_k1 (p0 : List Int) (x1 : Bool) : Option Bool := if x1 = true then ((rl_law23_awake).bind fun y3 => (some y3)) else ((rl_make_New p0).bind fun y5 => (bind2 (rl_make_Deck_Next y5 4) fun y7 y8 => (bind2 (rl_make_Deck_Counts y8 (i64.wrap (1 + y7))) fun y10 y11 => (bindE (loop (fun v : Int => rl_law23_PatternMarginals_l2 y7 y10 v) 0) (fun t => rl_law23_PatternMarginals_a4 y7 y10) (fun t => rl_law23_PatternMarginals_a5)))))
noncomputable def rl_law23_PatternMarginals (p0 : List Int) : Option Bool := (rl_law23_awake).bind fun y30 => (if (!y30) = true then (rl_law23_PatternMarginals_k1 p0 true) else ((rl_make_Few p0).bind fun y33 => (rl_law23_PatternMarginals_k1 p0 (!y33))))
set_option maxRecDepth 100000 in
theorem rl_law23_PatternMarginals_con (p0 : List Int) (r : Bool) (h : rl_law23_PatternMarginals p0 = some r) : Con Try.prog 7 [vl 1 Ri64 p0] [] (vb r) [] := by
 refine con_of tt_okL7 0 Try.func7 (by kernel_rfl) rfl (by kernel_rfl) (fun base X _ => AW.post ?_)
 unfold rl_law23_PatternMarginals at h
 refine AW.sg tt_okL7 [] [] [] 1 [] (by kernel_rfl) ?_
 refine AW.seq (AW.seq ?_)
 refine AW.join (ι := Bool) (fun v => ⟨[(0, vl 1 Ri64 p0), (15, vb v)], [], 0⟩) (fun v : Bool => rl_law23_PatternMarginals_k1 p0 v = some r) (fun x1 h => ?_) ?_
 ·
  unfold rl_law23_PatternMarginals_k1 at h
  refine AW.tn ?_
  refine AW.co h (by kernel_rfl) (fun c2 h => ?_) (fun c2 h => ?_)
  ·
   obtain ⟨y3, e4, h⟩ := bnd_some h
   refine AW.sg tt_okL7 [(2, vb y3)] [] [] 1 [hk (rl_law23_awake_con y3 e4)] (by kernel_rfl) ?_
   refine AW.ret (AW.tr ?_)
   obtain rfl := some_inj h
   exact fn0 (.inr rfl) [] 0 (vb y3) (by kernel_rfl)
  ·
   refine AW.skip (AW.tn ?_)
   obtain ⟨y5, e6, h⟩ := bnd_some h
   refine AW.sg tt_okL7 [(3, .c (.ptr 1 3 0 0))] [1] [(1, .box 86 [cl 1 Ri64 y5.list, ci64 y5.at_, cu64 y5.state])] 3 [hn, hl [] [] 1 (rl_make_New_con p0 y5 e6)] (by kernel_rfl) ?_
   obtain ⟨y7, y8, e9, h⟩ := bind2_some h
   refine AW.sg tt_okL7 [(4, vi64 (i64.wrap (1 + y7)))] [1] [(1, .box 86 [cl 1 Ri64 y8.list, ci64 y8.at_, cu64 y8.state])] 6 [hn, hl [1] [] 0 (rl_make_Deck_Next_con y5 4 (y7, y8) e9)] (by kernel_rfl) ?_
   obtain ⟨y10, y11, e12, h⟩ := bind2_some h
   refine AW.sg tt_okL7 [(5, .c (.ref 8 1 0 y10.length))] [1, 8] [(8, .row 3 false 1 y10.length (Ri64 y10))] 10 [hn, hn, hl [1] [] 1 (rl_make_Deck_Counts_con y8 (i64.wrap (1 + y7)) (y10, y11) e12)] (by kernel_rfl) ?_
   refine AW.seq ?_
   refine AW.sg tt_okL7 [(6, vi64 0)] [] [] 11 [] (by kernel_rfl) ?_
   refine AW.block ?_
   refine AW.lpE h (fun v => ⟨[(4, vi64 (i64.wrap (1 + y7))), (5, .c (.ref 0 1 0 y10.length)), (6, vi64 v)], [(0, .row 3 false 1 y10.length (Ri64 y10))], 1⟩) (fun t => (.exit 0, ⟨[(4, vi64 (i64.wrap (1 + y7))), (5, .c (.ref 0 1 0 y10.length))], [(0, .row 3 false 1 y10.length (Ri64 y10))], 1⟩)) (fun t => (.ret, ⟨[(2, vb false)], [], 0⟩)) (conv_re [(0, 8)] (by kernel_rfl)) (fun _ => tv) (fun _ => tv) ?_ (fun t h => ?_) (fun t h => ?_)
   ·
    clear h
    intro x14 o h
    unfold rl_law23_PatternMarginals_l2 at h
    refine AW.seq ?_
    refine AW.sg tt_okL7 [(27, vb (decide (x14 < (i64.wrap (1 + y7)))))] [] [] 4 [] (by kernel_rfl) ?_
    refine AW.co h (by kernel_rfl) (fun c15 h => ?_) (fun c15 h => ?_)
    ·
     refine AW.skip (AW.tn ?_)
     refine AW.seq (AW.block ?_)
     obtain ⟨y16, y17, e18, h⟩ := bind2_some h
     refine AW.sg tt_okL7 [(8, vi64 y17), (7, .c (.ptr 10 1 0 0))] [10] [(10, .row 60 false 1 3 (Ri64 y16))] 13 [hn, hn, hn, hg [] [] true 0 (q := (0 + y10.length ≤ y10.length) ∧ (True) ∧ (True) ∧ (True)) ⟨le0, tv, tv, tv⟩ (a0 := [vl 1 Ri64 y10, vi64 (i64.wrap (1 + y7)), vi64 x14]) (pattern_Marginal_con y10 (i64.wrap (1 + y7)) x14 (y16, y17) e18) ⟨ArgLe.refl _, ArgLe.refl _, ArgLe.refl _, tv⟩ (fun _ => tv), hn, hn, hn, hr 3 (Ri64 ([0, 0, 0] : List Int)) (p := 3 = 3 ∧ ∀ i, i < 3 → ∀ j, j < 1 → TLe (rowOf [.v (.int .i64 0), .v (.int .i64 0), .v (.int .i64 0)] 1 i j) (Ri64 ([0, 0, 0] : List Int) i j)) (⟨rfl, fun i hi j hj => match i, hi, j, hj with | 0, _, 0, _ => TLe.refl _ | 1, _, 0, _ => TLe.refl _ | 2, _, 0, _ => TLe.refl _ | _ + 3, h, _, _ => absurd h (by omega) | _, _, _ + 1, h => absurd h (by omega)⟩), hr 3 (Ri64 y16) (p := 3 = 3 ∧ ∀ i, i < 3 → ∀ j, j < 1 → TLe (rowOf [.v (.int .i64 (y16.getD 0 0)), .v (.int .i64 (y16.getD 1 0)), .v (.int .i64 (y16.getD 2 0))] 1 i j) (Ri64 y16 i j)) (⟨rfl, fun i hi j hj => match i, hi, j, hj with | 0, _, 0, _ => TLe.refl _ | 1, _, 0, _ => TLe.refl _ | 2, _, 0, _ => TLe.refl _ | _ + 3, h, _, _ => absurd h (by omega) | _, _, _ + 1, h => absurd h (by omega)⟩)] (by kernel_rfl) ?_
     refine AW.seq ?_
     refine AW.join (ι := Bool) (fun v => ⟨[(4, vi64 (i64.wrap (1 + y7))), (5, .c (.ref 0 1 0 y10.length)), (6, vi64 x14), (66, vb v)], [(0, .row 3 false 1 y10.length (Ri64 y10))], 1⟩) (fun v : Bool => rl_law23_PatternMarginals_k3 x14 v = some o) (fun x19 h => ?_) ?_
     ·
      unfold rl_law23_PatternMarginals_k3 at h
      refine AW.tn ?_
      refine AW.co h (by kernel_rfl) (fun c20 h => ?_) (fun c20 h => ?_)
      ·
       refine AW.sg tt_okL7 [(2, vb false)] [] [] 2 [] (by kernel_rfl) ?_
       refine AW.ret (AW.inBlock_ret (AW.tr ?_))
       exact lpo h rfl (conv_re [] (by kernel_rfl))
      ·
       refine AW.skip (AW.inBlock_normal (AW.tn ?_))
       refine AW.rg tt_okL7 [(6, vi64 (i64.wrap (x14 + 1)))] [] [] 4 [] (by kernel_rfl) ?_
       exact lpn h (conv_re [(0, 0)] (by kernel_rfl))
     ·
      rcases ifs h with ⟨c21, h⟩ | ⟨c21, h⟩
      ·
       refine AW.rd tt_okL7 moL7 [] [(66, vb true)] [] 43 [hn, ht c21] (by kernel_rfl) ?_
       exact jl true h (conv_re [(0, 0)] (by kernel_rfl))
      ·
       rcases ifs h with ⟨c22, h⟩ | ⟨c22, h⟩
       ·
        refine AW.rd tt_okL7 moL7 [] [(66, vb true)] [] 43 [hn, hf c21, hn, ho (p := (0 ≤ (0 : Int)) ∧ ((0 : Int) < ((3 : Nat) : Int))) (⟨(by decide), (by decide)⟩), ho (p := 0 < 3) (by decide), ht c22] (by kernel_rfl) ?_
        exact jl true h (conv_re [(0, 0)] (by kernel_rfl))
       ·
        rcases ifs h with ⟨c23, h⟩ | ⟨c23, h⟩
        ·
         refine AW.rd tt_okL7 moL7 [] [(66, vb true)] [] 43 [hn, hf c21, hn, ho (p := (0 ≤ (0 : Int)) ∧ ((0 : Int) < ((3 : Nat) : Int))) (⟨(by decide), (by decide)⟩), ho (p := 0 < 3) (by decide), hf c22, hn, hn, ho (p := (0 ≤ (1 : Int)) ∧ ((1 : Int) < ((3 : Nat) : Int))) (⟨(by decide), (by decide)⟩), ho (p := 1 < 3) (by decide), ht c23] (by kernel_rfl) ?_
         exact jl true h (conv_re [(0, 0)] (by kernel_rfl))
        ·
         rcases ifs h with ⟨c24, h⟩ | ⟨c24, h⟩
         ·
          refine AW.rd tt_okL7 moL7 [] [(66, vb true)] [] 43 [hn, hf c21, hn, ho (p := (0 ≤ (0 : Int)) ∧ ((0 : Int) < ((3 : Nat) : Int))) (⟨(by decide), (by decide)⟩), ho (p := 0 < 3) (by decide), hf c22, hn, hn, ho (p := (0 ≤ (1 : Int)) ∧ ((1 : Int) < ((3 : Nat) : Int))) (⟨(by decide), (by decide)⟩), ho (p := 1 < 3) (by decide), hf c23, hn, hn, ho (p := (0 ≤ (2 : Int)) ∧ ((2 : Int) < ((3 : Nat) : Int))) (⟨(by decide), (by decide)⟩), ho (p := 2 < 3) (by decide), ht c24] (by kernel_rfl) ?_
          exact jl true h (conv_re [(0, 0)] (by kernel_rfl))
         ·
          obtain ⟨y25, e26, h⟩ := bnd_some h
          refine AW.rd tt_okL7 moL7 [] [(66, vb ((i64.wrap ((i64.wrap ((y16.getD 0 0) + (y16.getD 1 0))) + (y16.getD 2 0))) != y25))] [] 42 [hn, hf c21, hn, ho (p := (0 ≤ (0 : Int)) ∧ ((0 : Int) < ((3 : Nat) : Int))) (⟨(by decide), (by decide)⟩), ho (p := 0 < 3) (by decide), hf c22, hn, hn, ho (p := (0 ≤ (1 : Int)) ∧ ((1 : Int) < ((3 : Nat) : Int))) (⟨(by decide), (by decide)⟩), ho (p := 1 < 3) (by decide), hf c23, hn, hn, ho (p := (0 ≤ (2 : Int)) ∧ ((2 : Int) < ((3 : Nat) : Int))) (⟨(by decide), (by decide)⟩), ho (p := 2 < 3) (by decide), hf c24, hn, hn, ho (p := (0 ≤ (0 : Int)) ∧ ((0 : Int) < ((3 : Nat) : Int))) (⟨(by decide), (by decide)⟩), ho (p := 0 < 3) (by decide), ho (p := (0 ≤ (1 : Int)) ∧ ((1 : Int) < ((3 : Nat) : Int))) (⟨(by decide), (by decide)⟩), ho (p := 1 < 3) (by decide), hn, ho (p := (0 ≤ (2 : Int)) ∧ ((2 : Int) < ((3 : Nat) : Int))) (⟨(by decide), (by decide)⟩), ho (p := 2 < 3) (by decide), hn, hn, hg [] [] true 0 (q := (0 + y10.length ≤ y10.length) ∧ (True)) ⟨le0, tv⟩ (a0 := [vl 1 Ri64 y10]) (pattern_Total_con y10 y25 e26) ⟨ArgLe.refl _, tv⟩ (fun _ => tv)] (by kernel_rfl) ?_
          exact jl ((i64.wrap ((i64.wrap ((y16.getD 0 0) + (y16.getD 1 0))) + (y16.getD 2 0))) != y25) h (conv_re [(0, 0)] (by kernel_rfl))
    ·
     refine AW.exit (AW.thenQ_exit ?_)
     exact lpo h rfl (conv_re [(0, 0)] (by kernel_rfl))
   ·
    replace h : rl_law23_PatternMarginals_a4 y7 y10 = some r := h
    unfold rl_law23_PatternMarginals_a4 at h
    show (_ : Exit → St → Prop) (.exit 0) _
    refine AW.inBlock_hit (AW.tn ?_)
    obtain ⟨y27, e28, h⟩ := bnd_some h
    refine AW.sg tt_okL7 [(2, vb (y27 == 0))] [] [] 5 [hn, hn, hg [] [] true 0 (q := (0 + y10.length ≤ y10.length) ∧ (True) ∧ (True)) ⟨le0, tv, tv⟩ (a0 := [vl 1 Ri64 y10, vi64 (i64.wrap (1 + y7))]) (pattern_Check_con y10 (i64.wrap (1 + y7)) y27 e28) ⟨ArgLe.refl _, ArgLe.refl _, tv⟩ (fun _ => tv)] (by kernel_rfl) ?_
    refine AW.ret ?_
    obtain rfl := some_inj h
    exact fn0 (.inr rfl) [] 0 (vb (y27 == 0)) (by kernel_rfl)
   ·
    replace h : rl_law23_PatternMarginals_a5 = some r := h
    unfold rl_law23_PatternMarginals_a5 at h
    show (_ : Exit → St → Prop) (.ret) _
    refine AW.inBlock_ret (AW.tr ?_)
    obtain rfl := some_inj h
    exact fn0 (.inr rfl) [] 0 (vb false) (by kernel_rfl)
 ·
  obtain ⟨y30, e31, h⟩ := bnd_some h
  rcases ifs h with ⟨c32, h⟩ | ⟨c32, h⟩
  ·
   refine AW.rg tt_okL7 [(15, vb true)] [] [] 7 [hk (rl_law23_awake_con y30 e31), ht c32] (by kernel_rfl) ?_
   exact jl true h (conv_re [] (by kernel_rfl))
  ·
   obtain ⟨y33, e34, h⟩ := bnd_some h
   refine AW.rg tt_okL7 [(15, vb (!y33))] [] [] 6 [hk (rl_law23_awake_con y30 e31), hf c32, hn, hn, hk (rl_make_Few_con p0 y33 e34)] (by kernel_rfl) ?_
   exact jl (!y33) h (conv_re [] (by kernel_rfl))
end Go.Proofs.Ytknlckjpgmjenaa
