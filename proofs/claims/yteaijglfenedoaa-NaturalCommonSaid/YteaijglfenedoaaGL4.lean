/- Printed by a program of mine (vmgen.py): Go functions, and what they come to. -/
import Derived.Test.YteaijglfenedoaaVp
import Derived.Test.YteaijglfenedoaaRows
import Derived.Test.YteaijglfenedoaaG2
namespace Go.Proofs.Yteaijglfenedoaa
open Vm
set_option linter.unusedVariables false
set_option linter.unusedSimpArgs false
set_option linter.constructorNameAsVariable false
def ttlL4 : List (Nat × TI) := [(3, ⟨.int .i64, 1, 8, [.int .i64 0]⟩), (4, ⟨.bool, 1, 1, [.bool false]⟩), (5, ⟨.int .u8, 1, 1, [.int .u8 0]⟩), (9, ⟨.str, 1, 16, [.string ⟨#[]⟩]⟩), (22, ⟨.slice 3, 1, 24, [.slice none 0 0]⟩), (25, ⟨.ptr 52, 1, 8, [.pointer none]⟩), (27, ⟨.slice 37, 1, 24, [.slice none 0 0]⟩), (28, ⟨.slice 37, 1, 24, [.slice none 0 0]⟩), (30, ⟨.int .i64, 1, 8, [.int .i64 0]⟩), (37, ⟨.int .u32, 1, 4, [.int .u32 0]⟩), (41, ⟨.int .u64, 1, 8, [.int .u64 0]⟩), (52, ⟨.struct [(22, 0), (3, 1), (41, 2)], 3, 40, [.slice none 0 0, .int .i64 0, .int .u64 0]⟩), (64, ⟨.slice 5, 1, 24, [.slice none 0 0]⟩)]
theorem tt_okL4 : TTok Try.prog (Vm.look ttlL4) := ttok_of ⟨⟨by kernel_rfl, by kernel_rfl⟩, ⟨by kernel_rfl, by kernel_rfl⟩, ⟨by kernel_rfl, by kernel_rfl⟩, ⟨by kernel_rfl, by kernel_rfl⟩, ⟨by kernel_rfl, by kernel_rfl⟩, ⟨by kernel_rfl, by kernel_rfl⟩, ⟨by kernel_rfl, by kernel_rfl⟩, ⟨by kernel_rfl, by kernel_rfl⟩, ⟨by kernel_rfl, by kernel_rfl⟩, ⟨by kernel_rfl, by kernel_rfl⟩, ⟨by kernel_rfl, by kernel_rfl⟩, ⟨by kernel_rfl, by kernel_rfl⟩, ⟨by kernel_rfl, by kernel_rfl⟩, trivial⟩
theorem moL4 : Try.prog.follows .mixedOrders = true := by kernel_rfl
/-! recordlink/recordlinklaw10.NaturalCommon -/
noncomputable def rl_law10_NaturalCommon_k8 (x21 : Bool) : Option Bool := some x21
noncomputable def rl_law10_NaturalCommon_k10 (x43 : Bool) : Option Bool := some x43
noncomputable def rl_law10_NaturalCommon_k4 (p0 : List Int) (x1 : Bool) : Option Bool := if x1 = true then ((rl_law10_awake).bind fun y3 => (some y3)) else ((rl_make_New p0).bind fun y5 => (bind2 (rl_make_Deck_Natural y5 3) fun y7 y8 => (bind2 (rl_make_Deck_Natural y8 3) fun y10 y11 => (bind2 (rl_make_Deck_Natural y11 2) fun y13 y14 => (bind2 (natural_GCD y7 y10) fun y16 y17 => (if (y17 != 0) = true then (some false) else (if (((y16.length : Nat) : Int) == 0) = true then (if (((y7.length : Nat) : Int) == 0) = true then (rl_law10_NaturalCommon_k8 (((y10.length : Nat) : Int) == 0)) else (rl_law10_NaturalCommon_k8 false)) else (bind3 (natural_DivMod y7 y16) fun y23 y24 y25 => (bind3 (natural_DivMod y10 y16) fun y27 y28 y29 => (bind2 (natural_Mul y7 y13) fun y31 y32 => (bind2 (natural_Mul y10 y13) fun y34 y35 => (bind2 (natural_GCD y31 y34) fun y37 y38 => (bind2 (natural_Mul y16 y13) fun y40 y41 => (if (y25 == 0) = true then (if (y29 == 0) = true then (if (y32 == 0) = true then (if (y35 == 0) = true then (if (y38 == 0) = true then (if (y41 == 0) = true then (if (((y24.length : Nat) : Int) == 0) = true then (if (((y28.length : Nat) : Int) == 0) = true then ((rl_ref10_Same y37 y40).bind fun y52 => (rl_law10_NaturalCommon_k10 y52)) else (rl_law10_NaturalCommon_k10 false)) else (rl_law10_NaturalCommon_k10 false)) else (rl_law10_NaturalCommon_k10 false)) else (rl_law10_NaturalCommon_k10 false)) else (rl_law10_NaturalCommon_k10 false)) else (rl_law10_NaturalCommon_k10 false)) else (rl_law10_NaturalCommon_k10 false)) else (rl_law10_NaturalCommon_k10 false)))))))))))))))
noncomputable def rl_law10_NaturalCommon (p0 : List Int) : Option Bool := (rl_law10_awake).bind fun y54 => (if (!y54) = true then (rl_law10_NaturalCommon_k4 p0 true) else ((rl_make_Few p0).bind fun y57 => (rl_law10_NaturalCommon_k4 p0 (!y57))))
set_option maxRecDepth 100000 in
set_option maxHeartbeats 10000000 in
theorem rl_law10_NaturalCommon_con (p0 : List Int) (r0 : Bool) (h : rl_law10_NaturalCommon p0 = some r0) : Con Try.prog 4 [vl 1 Ri64 p0] [] (vb r0) [] := by
 revert h; generalize r0 = r; intro h
 refine con_of tt_okL4 0 Try.func4 (by kernel_rfl) rfl (by kernel_rfl) (fun base X hk => AW.post ?_)
 unfold rl_law10_NaturalCommon at h
 refine AW.seq ?_
 refine AW.reg tt_okL4 [0] [] [] ⟨[(0, vl 1 Ri64 p0)], [], 1⟩ [True] (by kernel_rfl) (by kernel_rfl) ⟨trivial, trivial⟩ ?_
 refine AW.thenQ_normal ?_
 refine AW.seq ?_
 refine AW.seq ?_
 refine AW.join (ι := Bool) (fun v => ⟨[(0, vl 1 Ri64 p0), (29, vb v)], [], 0⟩) (fun v : Bool => rl_law10_NaturalCommon_k4 p0 v = some r) (fun v h => ?_) ?_
 ·
  obtain ⟨x1, rfl⟩ : ∃ x, x = v := ⟨_, rfl⟩
  replace h : rl_law10_NaturalCommon_k4 p0 x1 = some r := h
  unfold rl_law10_NaturalCommon_k4 at h
  show (_ : Exit → St → Prop) .normal ⟨[(0, vl 1 Ri64 p0), (29, vb x1)], [], 0⟩
  refine AW.thenQ_normal ?_
  refine AW.cond (b := x1) (by kernel_rfl) (fun c2 => ?_) (fun c2 => ?_)
  ·rw [if_pos c2] at h
   refine AW.seq ?_
   obtain ⟨y3, e4, h⟩ := bnd_some h
   refine AW.reg tt_okL4 [2] [] [{ call := some { ids := [], frz := [], flat := true, cnt := 0, args := [], out := vb y3, outb := [] } }] ⟨[(2, vb y3)], [], 1⟩ [(True) ∧ (All2 ArgLe [] []) ∧ ((true = true → flatB [])) ∧ (Con Try.prog 10 [] [] (vb y3) []), True] (by kernel_rfl) (by kernel_rfl) ⟨⟨trivial, trivial, (fun _ => trivial), (rl_law10_awake_con y3 e4)⟩, trivial, trivial⟩ ?_
   refine AW.thenQ_normal ?_
   refine AW.ret ?_
   refine AW.thenQ_ret ?_
   obtain rfl := some_inj h
   exact ⟨_, Conv.refl _ _, .inr rfl, OutOk.mk [] 0 (out0 := vb y3) (ps := [True]) (by kernel_rfl) ⟨trivial, trivial⟩ (by kernel_rfl) (by kernel_rfl)⟩
  ·rw [if_neg (by rw [c2]; exact Bool.false_ne_true)] at h
   refine AW.skip ?_
   refine AW.thenQ_normal ?_
   refine AW.seq ?_
   obtain ⟨y5, e6, h⟩ := bnd_some h
   refine AW.reg tt_okL4 [3] [1] [{}, { call := some { ids := [], frz := [], flat := false, cnt := 1, args := [vl 1 Ri64 p0], out := .c (.ptr 0 3 0 0), outb := [(0, .box 52 [cl 1 Ri64 y5.list, ci64 y5.at_, cu64 y5.state])] } }] ⟨[(3, .c (.ptr 1 3 0 0))], [(1, .box 52 [cl 1 Ri64 y5.list, ci64 y5.at_, cu64 y5.state])], 3⟩ [True, ((True) ∧ (True)) ∧ (All2 ArgLe [vl 1 Ri64 p0] [vl 1 Ri64 p0]) ∧ ((false = true → flatB [(0, .box 52 [cl 1 Ri64 y5.list, ci64 y5.at_, cu64 y5.state])])) ∧ (Con Try.prog 12 [vl 1 Ri64 p0] [] (.c (.ptr 0 3 0 0)) [(0, .box 52 [cl 1 Ri64 y5.list, ci64 y5.at_, cu64 y5.state])]), True] (by kernel_rfl) (by kernel_rfl) ⟨trivial, ⟨⟨trivial, trivial⟩, ⟨ArgLe.refl _, trivial⟩, (fun h => by cases h), (rl_make_New_con p0 y5 e6)⟩, trivial, trivial⟩ ?_
   refine AW.thenQ_normal ?_
   refine AW.seq ?_
   obtain ⟨y7, y8, e9, h⟩ := bind2_some h
   obtain ⟨y10, y11, e12, h⟩ := bind2_some h
   obtain ⟨y13, y14, e15, h⟩ := bind2_some h
   refine AW.reg tt_okL4 [4, 5, 6] [4, 6, 8] [{}, { call := some { ids := [1], frz := [], flat := false, cnt := 1, args := [.c (.ptr 0 3 0 0), vi64 3], out := .c (.ref 1 1 0 y7.length), outb := [(0, .box 52 [cl 1 Ri64 y8.list, ci64 y8.at_, cu64 y8.state]), (1, .row 37 false 1 y7.length (Ru32 y7))] } }, {}, { call := some { ids := [1], frz := [], flat := false, cnt := 1, args := [.c (.ptr 0 3 0 0), vi64 3], out := .c (.ref 1 1 0 y10.length), outb := [(0, .box 52 [cl 1 Ri64 y11.list, ci64 y11.at_, cu64 y11.state]), (1, .row 37 false 1 y10.length (Ru32 y10))] } }, {}, { call := some { ids := [1], frz := [], flat := false, cnt := 1, args := [.c (.ptr 0 3 0 0), vi64 2], out := .c (.ref 1 1 0 y13.length), outb := [(0, .box 52 [cl 1 Ri64 y14.list, ci64 y14.at_, cu64 y14.state]), (1, .row 37 false 1 y13.length (Ru32 y13))] } }] ⟨[(6, .c (.ref 8 1 0 y13.length)), (5, .c (.ref 6 1 0 y10.length)), (4, .c (.ref 4 1 0 y7.length))], [(8, .row 37 false 1 y13.length (Ru32 y13)), (6, .row 37 false 1 y10.length (Ru32 y10)), (4, .row 37 false 1 y7.length (Ru32 y7))], 12⟩ [True, ((True) ∧ (True) ∧ (True)) ∧ (All2 ArgLe [.c (.ptr 0 3 0 0), vi64 3] [.c (.ptr 0 3 0 0), vi64 3]) ∧ ((false = true → flatB [(0, .box 52 [cl 1 Ri64 y8.list, ci64 y8.at_, cu64 y8.state]), (1, .row 37 false 1 y7.length (Ru32 y7))])) ∧ (Con Try.prog 13 [.c (.ptr 0 3 0 0), vi64 3] [(0, .box 52 [cl 1 Ri64 y5.list, ci64 y5.at_, cu64 y5.state])] (.c (.ref 1 1 0 y7.length)) [(0, .box 52 [cl 1 Ri64 y8.list, ci64 y8.at_, cu64 y8.state]), (1, .row 37 false 1 y7.length (Ru32 y7))]), True, ((True) ∧ (True) ∧ (True)) ∧ (All2 ArgLe [.c (.ptr 0 3 0 0), vi64 3] [.c (.ptr 0 3 0 0), vi64 3]) ∧ ((false = true → flatB [(0, .box 52 [cl 1 Ri64 y11.list, ci64 y11.at_, cu64 y11.state]), (1, .row 37 false 1 y10.length (Ru32 y10))])) ∧ (Con Try.prog 13 [.c (.ptr 0 3 0 0), vi64 3] [(0, .box 52 [cl 1 Ri64 y8.list, ci64 y8.at_, cu64 y8.state])] (.c (.ref 1 1 0 y10.length)) [(0, .box 52 [cl 1 Ri64 y11.list, ci64 y11.at_, cu64 y11.state]), (1, .row 37 false 1 y10.length (Ru32 y10))]), True, ((True) ∧ (True) ∧ (True)) ∧ (All2 ArgLe [.c (.ptr 0 3 0 0), vi64 2] [.c (.ptr 0 3 0 0), vi64 2]) ∧ ((false = true → flatB [(0, .box 52 [cl 1 Ri64 y14.list, ci64 y14.at_, cu64 y14.state]), (1, .row 37 false 1 y13.length (Ru32 y13))])) ∧ (Con Try.prog 13 [.c (.ptr 0 3 0 0), vi64 2] [(0, .box 52 [cl 1 Ri64 y11.list, ci64 y11.at_, cu64 y11.state])] (.c (.ref 1 1 0 y13.length)) [(0, .box 52 [cl 1 Ri64 y14.list, ci64 y14.at_, cu64 y14.state]), (1, .row 37 false 1 y13.length (Ru32 y13))]), True, True, True] (by kernel_rfl) (by kernel_rfl) ⟨trivial, ⟨⟨trivial, trivial, trivial⟩, ⟨ArgLe.refl _, ArgLe.refl _, trivial⟩, (fun h => by cases h), (rl_make_Deck_Natural_con y5 3 y7 y8 e9)⟩, trivial, ⟨⟨trivial, trivial, trivial⟩, ⟨ArgLe.refl _, ArgLe.refl _, trivial⟩, (fun h => by cases h), (rl_make_Deck_Natural_con y8 3 y10 y11 e12)⟩, trivial, ⟨⟨trivial, trivial, trivial⟩, ⟨ArgLe.refl _, ArgLe.refl _, trivial⟩, (fun h => by cases h), (rl_make_Deck_Natural_con y11 2 y13 y14 e15)⟩, trivial, trivial, trivial, trivial⟩ ?_
   refine AW.thenQ_normal ?_
   refine AW.seq ?_
   obtain ⟨y16, y17, e18, h⟩ := bind2_some h
   refine AW.reg tt_okL4 [4, 5, 6, 7, 8] [4, 6, 8, 14] [{}, {}, { call := some { ids := [], frz := [], flat := true, cnt := 1, args := [vl 1 Ru32 y7, vl 1 Ru32 y10], out := .tup [.c (.ref 0 1 0 y16.length), vi64 y17], outb := [(0, .row 37 false 1 y16.length (Ru32 y16))] } }] ⟨[(8, vi64 y17), (7, .c (.ref 14 1 0 y16.length)), (6, .c (.ref 8 1 0 y13.length)), (5, .c (.ref 6 1 0 y10.length)), (4, .c (.ref 4 1 0 y7.length))], [(14, .row 37 false 1 y16.length (Ru32 y16)), (8, .row 37 false 1 y13.length (Ru32 y13)), (6, .row 37 false 1 y10.length (Ru32 y10)), (4, .row 37 false 1 y7.length (Ru32 y7))], 20⟩ [True, True, ((0 + y7.length ≤ y7.length) ∧ (0 + y10.length ≤ y10.length) ∧ (True)) ∧ (All2 ArgLe [vl 1 Ru32 y7, vl 1 Ru32 y10] [vl 1 Ru32 y7, vl 1 Ru32 y10]) ∧ ((true = true → flatB [(0, .row 37 false 1 y16.length (Ru32 y16))])) ∧ (Con Try.prog 18 [vl 1 Ru32 y7, vl 1 Ru32 y10] [] (.tup [.c (.ref 0 1 0 y16.length), vi64 y17]) [(0, .row 37 false 1 y16.length (Ru32 y16))]), True, True, True, True, True] (by kernel_rfl) (by kernel_rfl) ⟨trivial, trivial, ⟨⟨le0, le0, trivial⟩, ⟨ArgLe.refl _, ArgLe.refl _, trivial⟩, (fun _ => ⟨rowL_flat Vu32 _ _ _, trivial⟩), (natural_GCD_con y7 y10 y16 y17 e18)⟩, trivial, trivial, trivial, trivial, trivial, trivial⟩ ?_
   refine AW.thenQ_normal ?_
   refine AW.seq ?_
   refine AW.seq ?_
   refine AW.reg tt_okL4 [4, 5, 6, 7, 46] [4, 6, 8, 14] [] ⟨[(46, vb (y17 != 0)), (7, .c (.ref 14 1 0 y16.length)), (6, .c (.ref 8 1 0 y13.length)), (5, .c (.ref 6 1 0 y10.length)), (4, .c (.ref 4 1 0 y7.length))], [(14, .row 37 false 1 y16.length (Ru32 y16)), (8, .row 37 false 1 y13.length (Ru32 y13)), (6, .row 37 false 1 y10.length (Ru32 y10)), (4, .row 37 false 1 y7.length (Ru32 y7))], 22⟩ [True, True] (by kernel_rfl) (by kernel_rfl) ⟨trivial, trivial, trivial⟩ ?_
   refine AW.thenQ_normal ?_
   refine AW.cond (b := (y17 != 0)) (by kernel_rfl) (fun c19 => ?_) (fun c19 => ?_)
   ·rw [if_pos c19] at h
    refine AW.seq ?_
    refine AW.reg tt_okL4 [2] [] [] ⟨[(2, vb false)], [], 23⟩ [True] (by kernel_rfl) (by kernel_rfl) ⟨trivial, trivial⟩ ?_
    refine AW.thenQ_normal ?_
    refine AW.ret ?_
    refine AW.thenQ_ret ?_
    obtain rfl := some_inj h
    exact ⟨_, Conv.refl _ _, .inr rfl, OutOk.mk [] 0 (out0 := vb false) (ps := [True]) (by kernel_rfl) ⟨trivial, trivial⟩ (by kernel_rfl) (by kernel_rfl)⟩
   ·rw [if_neg (by rw [c19]; exact Bool.false_ne_true)] at h
    refine AW.skip ?_
    refine AW.thenQ_normal ?_
    refine AW.seq ?_
    refine AW.seq ?_
    refine AW.reg tt_okL4 [4, 5, 6, 7, 49] [4, 6, 8, 14] [] ⟨[(49, vb (((y16.length : Nat) : Int) == 0)), (7, .c (.ref 14 1 0 y16.length)), (6, .c (.ref 8 1 0 y13.length)), (5, .c (.ref 6 1 0 y10.length)), (4, .c (.ref 4 1 0 y7.length))], [(14, .row 37 false 1 y16.length (Ru32 y16)), (8, .row 37 false 1 y13.length (Ru32 y13)), (6, .row 37 false 1 y10.length (Ru32 y10)), (4, .row 37 false 1 y7.length (Ru32 y7))], 25⟩ [True, True, True] (by kernel_rfl) (by kernel_rfl) ⟨trivial, trivial, trivial, trivial⟩ ?_
    refine AW.thenQ_normal ?_
    refine AW.cond (b := (((y16.length : Nat) : Int) == 0)) (by kernel_rfl) (fun c20 => ?_) (fun c20 => ?_)
    ·rw [if_pos c20] at h
     refine AW.seq ?_
     refine AW.join (ι := Bool) (fun v => ⟨[(2, vb v)], [], 0⟩) (fun v : Bool => rl_law10_NaturalCommon_k8 v = some r) (fun v h => ?_) ?_
     ·
      obtain ⟨x21, rfl⟩ : ∃ x, x = v := ⟨_, rfl⟩
      replace h : rl_law10_NaturalCommon_k8 x21 = some r := h
      unfold rl_law10_NaturalCommon_k8 at h
      show (_ : Exit → St → Prop) .normal ⟨[(2, vb x21)], [], 0⟩
      refine AW.thenQ_normal ?_
      refine AW.ret ?_
      refine AW.thenQ_ret ?_
      obtain rfl := some_inj h
      exact ⟨_, Conv.refl _ _, .inr rfl, OutOk.mk [] 0 (out0 := vb x21) (ps := [True]) (by kernel_rfl) ⟨trivial, trivial⟩ (by kernel_rfl) (by kernel_rfl)⟩
     ·
      by_cases c22 : (((y7.length : Nat) : Int) == 0) = true
      ·rw [if_pos c22] at h
       refine AW.reg tt_okL4 [2] [] [{}, {}, { h := { b := some true } }] ⟨[(2, vb (((y10.length : Nat) : Int) == 0))], [], 34⟩ [True, True, (((y7.length : Nat) : Int) == 0) = true, True, True, True, True, True, True] (by kernel_rfl) (by kernel_rfl) ⟨trivial, trivial, c22, trivial, trivial, trivial, trivial, trivial, trivial, trivial⟩ ?_
       exact joinQ_leaf ((((y10.length : Nat) : Int) == 0)) h (conv_ren [] [2] (n := 0) (by kernel_rfl) (by kernel_rfl))
      ·rw [if_neg c22] at h
       refine AW.reg tt_okL4 [2] [] [{}, {}, { h := { b := some false } }] ⟨[(2, vb false)], [], 34⟩ [True, True, (((y7.length : Nat) : Int) == 0) = false, True, True, True, True, True, True] (by kernel_rfl) (by kernel_rfl) ⟨trivial, trivial, (off_false c22), trivial, trivial, trivial, trivial, trivial, trivial, trivial⟩ ?_
       exact joinQ_leaf (false) h (conv_ren [] [2] (n := 0) (by kernel_rfl) (by kernel_rfl))
    ·rw [if_neg (by rw [c20]; exact Bool.false_ne_true)] at h
     refine AW.skip ?_
     refine AW.thenQ_normal ?_
     refine AW.seq ?_
     obtain ⟨y23, y24, y25, e26, h⟩ := bind3_some h
     refine AW.reg tt_okL4 [4, 5, 6, 7, 10, 11] [4, 6, 8, 14] [{}, {}, { call := some { ids := [], frz := [4, 14], flat := false, cnt := 0, args := [vl 1 Ru32 y7, vl 1 Ru32 y16], out := .tup [vl 1 Ru32 y23, vl 1 Ru32 y24, vi64 y25], outb := [] } }] ⟨[(11, vi64 y25), (10, vl 1 Ru32 y24), (7, .c (.ref 14 1 0 y16.length)), (6, .c (.ref 8 1 0 y13.length)), (5, .c (.ref 6 1 0 y10.length)), (4, .c (.ref 4 1 0 y7.length))], [(4, .row 37 true 1 y7.length (Ru32 y7)), (14, .row 37 true 1 y16.length (Ru32 y16)), (8, .row 37 false 1 y13.length (Ru32 y13)), (6, .row 37 false 1 y10.length (Ru32 y10))], 34⟩ [True, True, ((0 + y7.length ≤ y7.length) ∧ (0 + y16.length ≤ y16.length) ∧ (True)) ∧ (All2 ArgLe [vl 1 Ru32 y7, vl 1 Ru32 y16] [vl 1 Ru32 y7, vl 1 Ru32 y16]) ∧ ((false = true → flatB [])) ∧ (Con Try.prog 19 [vl 1 Ru32 y7, vl 1 Ru32 y16] [] (.tup [vl 1 Ru32 y23, vl 1 Ru32 y24, vi64 y25]) []), True, True, True, True, True, True, True] (by kernel_rfl) (by kernel_rfl) ⟨trivial, trivial, ⟨⟨le0, le0, trivial⟩, ⟨ArgLe.refl _, ArgLe.refl _, trivial⟩, (fun h => by cases h), (natural_DivMod_con y7 y16 y23 y24 y25 e26)⟩, trivial, trivial, trivial, trivial, trivial, trivial, trivial, trivial⟩ ?_
     refine AW.thenQ_normal ?_
     refine AW.seq ?_
     obtain ⟨y27, y28, y29, e30, h⟩ := bind3_some h
     refine AW.reg tt_okL4 [4, 5, 6, 7, 10, 11, 13, 14] [4, 6, 8, 14] [{}, {}, { call := some { ids := [], frz := [6], flat := false, cnt := 0, args := [vl 1 Ru32 y10, vl 1 Ru32 y16], out := .tup [vl 1 Ru32 y27, vl 1 Ru32 y28, vi64 y29], outb := [] } }] ⟨[(14, vi64 y29), (13, vl 1 Ru32 y28), (11, vi64 y25), (10, vl 1 Ru32 y24), (7, .c (.ref 14 1 0 y16.length)), (6, .c (.ref 8 1 0 y13.length)), (5, .c (.ref 6 1 0 y10.length)), (4, .c (.ref 4 1 0 y7.length))], [(6, .row 37 true 1 y10.length (Ru32 y10)), (4, .row 37 true 1 y7.length (Ru32 y7)), (14, .row 37 true 1 y16.length (Ru32 y16)), (8, .row 37 false 1 y13.length (Ru32 y13))], 43⟩ [True, True, ((0 + y10.length ≤ y10.length) ∧ (0 + y16.length ≤ y16.length) ∧ (True)) ∧ (All2 ArgLe [vl 1 Ru32 y10, vl 1 Ru32 y16] [vl 1 Ru32 y10, vl 1 Ru32 y16]) ∧ ((false = true → flatB [])) ∧ (Con Try.prog 19 [vl 1 Ru32 y10, vl 1 Ru32 y16] [] (.tup [vl 1 Ru32 y27, vl 1 Ru32 y28, vi64 y29]) []), True, True, True, True, True, True, True] (by kernel_rfl) (by kernel_rfl) ⟨trivial, trivial, ⟨⟨le0, le0, trivial⟩, ⟨ArgLe.refl _, ArgLe.refl _, trivial⟩, (fun h => by cases h), (natural_DivMod_con y10 y16 y27 y28 y29 e30)⟩, trivial, trivial, trivial, trivial, trivial, trivial, trivial, trivial⟩ ?_
     refine AW.thenQ_normal ?_
     refine AW.seq ?_
     obtain ⟨y31, y32, e33, h⟩ := bind2_some h
     refine AW.reg tt_okL4 [5, 6, 7, 10, 11, 13, 14, 15, 16] [6, 8, 14] [{}, {}, { call := some { ids := [], frz := [8], flat := false, cnt := 0, args := [vl 1 Ru32 y7, vl 1 Ru32 y13], out := .tup [vl 1 Ru32 y31, vi64 y32], outb := [] } }] ⟨[(16, vi64 y32), (15, vl 1 Ru32 y31), (14, vi64 y29), (13, vl 1 Ru32 y28), (11, vi64 y25), (10, vl 1 Ru32 y24), (7, .c (.ref 14 1 0 y16.length)), (6, .c (.ref 8 1 0 y13.length)), (5, .c (.ref 6 1 0 y10.length))], [(8, .row 37 true 1 y13.length (Ru32 y13)), (6, .row 37 true 1 y10.length (Ru32 y10)), (14, .row 37 true 1 y16.length (Ru32 y16))], 50⟩ [True, True, ((0 + y7.length ≤ y7.length) ∧ (0 + y13.length ≤ y13.length) ∧ (True)) ∧ (All2 ArgLe [vl 1 Ru32 y7, vl 1 Ru32 y13] [vl 1 Ru32 y7, vl 1 Ru32 y13]) ∧ ((false = true → flatB [])) ∧ (Con Try.prog 15 [vl 1 Ru32 y7, vl 1 Ru32 y13] [] (.tup [vl 1 Ru32 y31, vi64 y32]) []), True, True, True, True, True] (by kernel_rfl) (by kernel_rfl) ⟨trivial, trivial, ⟨⟨le0, le0, trivial⟩, ⟨ArgLe.refl _, ArgLe.refl _, trivial⟩, (fun h => by cases h), (natural_Mul_con y7 y13 y31 y32 e33)⟩, trivial, trivial, trivial, trivial, trivial, trivial⟩ ?_
     refine AW.thenQ_normal ?_
     refine AW.seq ?_
     obtain ⟨y34, y35, e36, h⟩ := bind2_some h
     refine AW.reg tt_okL4 [6, 7, 10, 11, 13, 14, 15, 16, 17, 18] [8, 14] [{}, {}, { call := some { ids := [], frz := [], flat := false, cnt := 0, args := [vl 1 Ru32 y10, vl 1 Ru32 y13], out := .tup [vl 1 Ru32 y34, vi64 y35], outb := [] } }] ⟨[(18, vi64 y35), (17, vl 1 Ru32 y34), (16, vi64 y32), (15, vl 1 Ru32 y31), (14, vi64 y29), (13, vl 1 Ru32 y28), (11, vi64 y25), (10, vl 1 Ru32 y24), (7, .c (.ref 14 1 0 y16.length)), (6, .c (.ref 8 1 0 y13.length))], [(8, .row 37 true 1 y13.length (Ru32 y13)), (14, .row 37 true 1 y16.length (Ru32 y16))], 57⟩ [True, True, ((0 + y10.length ≤ y10.length) ∧ (0 + y13.length ≤ y13.length) ∧ (True)) ∧ (All2 ArgLe [vl 1 Ru32 y10, vl 1 Ru32 y13] [vl 1 Ru32 y10, vl 1 Ru32 y13]) ∧ ((false = true → flatB [])) ∧ (Con Try.prog 15 [vl 1 Ru32 y10, vl 1 Ru32 y13] [] (.tup [vl 1 Ru32 y34, vi64 y35]) []), True, True, True, True, True] (by kernel_rfl) (by kernel_rfl) ⟨trivial, trivial, ⟨⟨le0, le0, trivial⟩, ⟨ArgLe.refl _, ArgLe.refl _, trivial⟩, (fun h => by cases h), (natural_Mul_con y10 y13 y34 y35 e36)⟩, trivial, trivial, trivial, trivial, trivial, trivial⟩ ?_
     refine AW.thenQ_normal ?_
     refine AW.seq ?_
     obtain ⟨y37, y38, e39, h⟩ := bind2_some h
     refine AW.reg tt_okL4 [6, 7, 10, 11, 13, 14, 16, 18, 19, 20] [8, 14, 59] [{}, {}, { call := some { ids := [], frz := [], flat := true, cnt := 1, args := [vl 1 Ru32 y31, vl 1 Ru32 y34], out := .tup [.c (.ref 0 1 0 y37.length), vi64 y38], outb := [(0, .row 37 false 1 y37.length (Ru32 y37))] } }] ⟨[(20, vi64 y38), (19, .c (.ref 59 1 0 y37.length)), (18, vi64 y35), (16, vi64 y32), (14, vi64 y29), (13, vl 1 Ru32 y28), (11, vi64 y25), (10, vl 1 Ru32 y24), (7, .c (.ref 14 1 0 y16.length)), (6, .c (.ref 8 1 0 y13.length))], [(59, .row 37 false 1 y37.length (Ru32 y37)), (8, .row 37 true 1 y13.length (Ru32 y13)), (14, .row 37 true 1 y16.length (Ru32 y16))], 65⟩ [True, True, ((True) ∧ (True) ∧ (True)) ∧ (All2 ArgLe [vl 1 Ru32 y31, vl 1 Ru32 y34] [vl 1 Ru32 y31, vl 1 Ru32 y34]) ∧ ((true = true → flatB [(0, .row 37 false 1 y37.length (Ru32 y37))])) ∧ (Con Try.prog 18 [vl 1 Ru32 y31, vl 1 Ru32 y34] [] (.tup [.c (.ref 0 1 0 y37.length), vi64 y38]) [(0, .row 37 false 1 y37.length (Ru32 y37))]), True, True, True, True, True] (by kernel_rfl) (by kernel_rfl) ⟨trivial, trivial, ⟨⟨trivial, trivial, trivial⟩, ⟨ArgLe.refl _, ArgLe.refl _, trivial⟩, (fun _ => ⟨rowL_flat Vu32 _ _ _, trivial⟩), (natural_GCD_con y31 y34 y37 y38 e39)⟩, trivial, trivial, trivial, trivial, trivial, trivial⟩ ?_
     refine AW.thenQ_normal ?_
     refine AW.seq ?_
     obtain ⟨y40, y41, e42, h⟩ := bind2_some h
     refine AW.reg tt_okL4 [10, 11, 13, 14, 16, 18, 19, 20, 21, 22] [59] [{}, {}, { call := some { ids := [], frz := [], flat := false, cnt := 0, args := [vl 1 Ru32 y16, vl 1 Ru32 y13], out := .tup [vl 1 Ru32 y40, vi64 y41], outb := [] } }] ⟨[(22, vi64 y41), (21, vl 1 Ru32 y40), (20, vi64 y38), (19, .c (.ref 59 1 0 y37.length)), (18, vi64 y35), (16, vi64 y32), (14, vi64 y29), (13, vl 1 Ru32 y28), (11, vi64 y25), (10, vl 1 Ru32 y24)], [(59, .row 37 false 1 y37.length (Ru32 y37))], 72⟩ [True, True, ((0 + y16.length ≤ y16.length) ∧ (0 + y13.length ≤ y13.length) ∧ (True)) ∧ (All2 ArgLe [vl 1 Ru32 y16, vl 1 Ru32 y13] [vl 1 Ru32 y16, vl 1 Ru32 y13]) ∧ ((false = true → flatB [])) ∧ (Con Try.prog 15 [vl 1 Ru32 y16, vl 1 Ru32 y13] [] (.tup [vl 1 Ru32 y40, vi64 y41]) []), True, True, True, True, True] (by kernel_rfl) (by kernel_rfl) ⟨trivial, trivial, ⟨⟨le0, le0, trivial⟩, ⟨ArgLe.refl _, ArgLe.refl _, trivial⟩, (fun h => by cases h), (natural_Mul_con y16 y13 y40 y41 e42)⟩, trivial, trivial, trivial, trivial, trivial, trivial⟩ ?_
     refine AW.thenQ_normal ?_
     refine AW.seq ?_
     refine AW.join (ι := Bool) (fun v => ⟨[(2, vb v)], [], 0⟩) (fun v : Bool => rl_law10_NaturalCommon_k10 v = some r) (fun v h => ?_) ?_
     ·
      obtain ⟨x43, rfl⟩ : ∃ x, x = v := ⟨_, rfl⟩
      replace h : rl_law10_NaturalCommon_k10 x43 = some r := h
      unfold rl_law10_NaturalCommon_k10 at h
      show (_ : Exit → St → Prop) .normal ⟨[(2, vb x43)], [], 0⟩
      refine AW.thenQ_normal ?_
      refine AW.ret ?_
      obtain rfl := some_inj h
      exact ⟨_, Conv.refl _ _, .inr rfl, OutOk.mk [] 0 (out0 := vb x43) (ps := [True]) (by kernel_rfl) ⟨trivial, trivial⟩ (by kernel_rfl) (by kernel_rfl)⟩
     ·
      by_cases c44 : (y25 == 0) = true
      ·rw [if_pos c44] at h
       by_cases c45 : (y29 == 0) = true
       ·rw [if_pos c45] at h
        by_cases c46 : (y32 == 0) = true
        ·rw [if_pos c46] at h
         by_cases c47 : (y35 == 0) = true
         ·rw [if_pos c47] at h
          by_cases c48 : (y38 == 0) = true
          ·rw [if_pos c48] at h
           by_cases c49 : (y41 == 0) = true
           ·rw [if_pos c49] at h
            by_cases c50 : (((y24.length : Nat) : Int) == 0) = true
            ·rw [if_pos c50] at h
             by_cases c51 : (((y28.length : Nat) : Int) == 0) = true
             ·rw [if_pos c51] at h
              obtain ⟨y52, e53, h⟩ := bnd_some h
              refine AW.reg tt_okL4 [2] [] [{}, { h := { b := some true } }, {}, {}, { h := { b := some true } }, {}, {}, {}, { h := { b := some true } }, {}, {}, {}, { h := { b := some true } }, {}, {}, {}, { h := { b := some true } }, {}, {}, {}, { h := { b := some true } }, {}, {}, {}, {}, { h := { b := some true } }, {}, {}, {}, {}, { h := { b := some true } }, {}, {}, {}, {}, { call := some { ids := [], frz := [], flat := true, cnt := 0, args := [vl 1 Ru32 y37, vl 1 Ru32 y40], out := vb y52, outb := [] } }] ⟨[(2, vb y52)], [], 109⟩ [True, (y25 == 0) = true, True, True, (y29 == 0) = true, True, True, True, (y32 == 0) = true, True, True, True, (y35 == 0) = true, True, True, True, (y38 == 0) = true, True, True, True, (y41 == 0) = true, True, True, True, True, (((y24.length : Nat) : Int) == 0) = true, True, True, True, True, (((y28.length : Nat) : Int) == 0) = true, True, True, True, True, ((0 + y37.length ≤ y37.length) ∧ (True) ∧ (True)) ∧ (All2 ArgLe [vl 1 Ru32 y37, vl 1 Ru32 y40] [vl 1 Ru32 y37, vl 1 Ru32 y40]) ∧ ((true = true → flatB [])) ∧ (Con Try.prog 16 [vl 1 Ru32 y37, vl 1 Ru32 y40] [] (vb y52) []), True, True] (by kernel_rfl) (by kernel_rfl) ⟨trivial, c44, trivial, trivial, c45, trivial, trivial, trivial, c46, trivial, trivial, trivial, c47, trivial, trivial, trivial, c48, trivial, trivial, trivial, c49, trivial, trivial, trivial, trivial, c50, trivial, trivial, trivial, trivial, c51, trivial, trivial, trivial, trivial, ⟨⟨le0, trivial, trivial⟩, ⟨ArgLe.refl _, ArgLe.refl _, trivial⟩, (fun _ => trivial), (rl_ref10_Same_con y37 y40 y52 e53)⟩, trivial, trivial, trivial⟩ ?_
              exact joinQ_leaf (y52) h (conv_ren [] [2] (n := 0) (by kernel_rfl) (by kernel_rfl))
             ·rw [if_neg c51] at h
              refine AW.reg tt_okL4 [2] [] [{}, { h := { b := some true } }, {}, {}, { h := { b := some true } }, {}, {}, {}, { h := { b := some true } }, {}, {}, {}, { h := { b := some true } }, {}, {}, {}, { h := { b := some true } }, {}, {}, {}, { h := { b := some true } }, {}, {}, {}, {}, { h := { b := some true } }, {}, {}, {}, {}, { h := { b := some false } }] ⟨[(2, vb false)], [], 110⟩ [True, (y25 == 0) = true, True, True, (y29 == 0) = true, True, True, True, (y32 == 0) = true, True, True, True, (y35 == 0) = true, True, True, True, (y38 == 0) = true, True, True, True, (y41 == 0) = true, True, True, True, True, (((y24.length : Nat) : Int) == 0) = true, True, True, True, True, (((y28.length : Nat) : Int) == 0) = false, True, True, True, True, True, True, True] (by kernel_rfl) (by kernel_rfl) ⟨trivial, c44, trivial, trivial, c45, trivial, trivial, trivial, c46, trivial, trivial, trivial, c47, trivial, trivial, trivial, c48, trivial, trivial, trivial, c49, trivial, trivial, trivial, trivial, c50, trivial, trivial, trivial, trivial, (off_false c51), trivial, trivial, trivial, trivial, trivial, trivial, trivial, trivial⟩ ?_
              exact joinQ_leaf (false) h (conv_ren [] [2] (n := 0) (by kernel_rfl) (by kernel_rfl))
            ·rw [if_neg c50] at h
             refine AW.reg tt_okL4 [2] [] [{}, { h := { b := some true } }, {}, {}, { h := { b := some true } }, {}, {}, {}, { h := { b := some true } }, {}, {}, {}, { h := { b := some true } }, {}, {}, {}, { h := { b := some true } }, {}, {}, {}, { h := { b := some true } }, {}, {}, {}, {}, { h := { b := some false } }] ⟨[(2, vb false)], [], 110⟩ [True, (y25 == 0) = true, True, True, (y29 == 0) = true, True, True, True, (y32 == 0) = true, True, True, True, (y35 == 0) = true, True, True, True, (y38 == 0) = true, True, True, True, (y41 == 0) = true, True, True, True, True, (((y24.length : Nat) : Int) == 0) = false, True, True, True, True, True, True, True, True, True, True, True, True] (by kernel_rfl) (by kernel_rfl) ⟨trivial, c44, trivial, trivial, c45, trivial, trivial, trivial, c46, trivial, trivial, trivial, c47, trivial, trivial, trivial, c48, trivial, trivial, trivial, c49, trivial, trivial, trivial, trivial, (off_false c50), trivial, trivial, trivial, trivial, trivial, trivial, trivial, trivial, trivial, trivial, trivial, trivial, trivial⟩ ?_
             exact joinQ_leaf (false) h (conv_ren [] [2] (n := 0) (by kernel_rfl) (by kernel_rfl))
           ·rw [if_neg c49] at h
            refine AW.reg tt_okL4 [2] [] [{}, { h := { b := some true } }, {}, {}, { h := { b := some true } }, {}, {}, {}, { h := { b := some true } }, {}, {}, {}, { h := { b := some true } }, {}, {}, {}, { h := { b := some true } }, {}, {}, {}, { h := { b := some false } }] ⟨[(2, vb false)], [], 110⟩ [True, (y25 == 0) = true, True, True, (y29 == 0) = true, True, True, True, (y32 == 0) = true, True, True, True, (y35 == 0) = true, True, True, True, (y38 == 0) = true, True, True, True, (y41 == 0) = false, True, True, True, True, True, True, True, True, True, True, True, True, True, True, True, True, True] (by kernel_rfl) (by kernel_rfl) ⟨trivial, c44, trivial, trivial, c45, trivial, trivial, trivial, c46, trivial, trivial, trivial, c47, trivial, trivial, trivial, c48, trivial, trivial, trivial, (off_false c49), trivial, trivial, trivial, trivial, trivial, trivial, trivial, trivial, trivial, trivial, trivial, trivial, trivial, trivial, trivial, trivial, trivial, trivial⟩ ?_
            exact joinQ_leaf (false) h (conv_ren [] [2] (n := 0) (by kernel_rfl) (by kernel_rfl))
          ·rw [if_neg c48] at h
           refine AW.reg tt_okL4 [2] [] [{}, { h := { b := some true } }, {}, {}, { h := { b := some true } }, {}, {}, {}, { h := { b := some true } }, {}, {}, {}, { h := { b := some true } }, {}, {}, {}, { h := { b := some false } }] ⟨[(2, vb false)], [], 110⟩ [True, (y25 == 0) = true, True, True, (y29 == 0) = true, True, True, True, (y32 == 0) = true, True, True, True, (y35 == 0) = true, True, True, True, (y38 == 0) = false, True, True, True, True, True, True, True, True, True, True, True, True, True, True, True, True, True, True, True, True, True] (by kernel_rfl) (by kernel_rfl) ⟨trivial, c44, trivial, trivial, c45, trivial, trivial, trivial, c46, trivial, trivial, trivial, c47, trivial, trivial, trivial, (off_false c48), trivial, trivial, trivial, trivial, trivial, trivial, trivial, trivial, trivial, trivial, trivial, trivial, trivial, trivial, trivial, trivial, trivial, trivial, trivial, trivial, trivial, trivial⟩ ?_
           exact joinQ_leaf (false) h (conv_ren [] [2] (n := 0) (by kernel_rfl) (by kernel_rfl))
         ·rw [if_neg c47] at h
          refine AW.reg tt_okL4 [2] [] [{}, { h := { b := some true } }, {}, {}, { h := { b := some true } }, {}, {}, {}, { h := { b := some true } }, {}, {}, {}, { h := { b := some false } }] ⟨[(2, vb false)], [], 110⟩ [True, (y25 == 0) = true, True, True, (y29 == 0) = true, True, True, True, (y32 == 0) = true, True, True, True, (y35 == 0) = false, True, True, True, True, True, True, True, True, True, True, True, True, True, True, True, True, True, True, True, True, True, True, True, True, True] (by kernel_rfl) (by kernel_rfl) ⟨trivial, c44, trivial, trivial, c45, trivial, trivial, trivial, c46, trivial, trivial, trivial, (off_false c47), trivial, trivial, trivial, trivial, trivial, trivial, trivial, trivial, trivial, trivial, trivial, trivial, trivial, trivial, trivial, trivial, trivial, trivial, trivial, trivial, trivial, trivial, trivial, trivial, trivial, trivial⟩ ?_
          exact joinQ_leaf (false) h (conv_ren [] [2] (n := 0) (by kernel_rfl) (by kernel_rfl))
        ·rw [if_neg c46] at h
         refine AW.reg tt_okL4 [2] [] [{}, { h := { b := some true } }, {}, {}, { h := { b := some true } }, {}, {}, {}, { h := { b := some false } }] ⟨[(2, vb false)], [], 110⟩ [True, (y25 == 0) = true, True, True, (y29 == 0) = true, True, True, True, (y32 == 0) = false, True, True, True, True, True, True, True, True, True, True, True, True, True, True, True, True, True, True, True, True, True, True, True, True, True, True, True, True, True] (by kernel_rfl) (by kernel_rfl) ⟨trivial, c44, trivial, trivial, c45, trivial, trivial, trivial, (off_false c46), trivial, trivial, trivial, trivial, trivial, trivial, trivial, trivial, trivial, trivial, trivial, trivial, trivial, trivial, trivial, trivial, trivial, trivial, trivial, trivial, trivial, trivial, trivial, trivial, trivial, trivial, trivial, trivial, trivial, trivial⟩ ?_
         exact joinQ_leaf (false) h (conv_ren [] [2] (n := 0) (by kernel_rfl) (by kernel_rfl))
       ·rw [if_neg c45] at h
        refine AW.reg tt_okL4 [2] [] [{}, { h := { b := some true } }, {}, {}, { h := { b := some false } }] ⟨[(2, vb false)], [], 110⟩ [True, (y25 == 0) = true, True, True, (y29 == 0) = false, True, True, True, True, True, True, True, True, True, True, True, True, True, True, True, True, True, True, True, True, True, True, True, True, True, True, True, True, True, True, True, True, True] (by kernel_rfl) (by kernel_rfl) ⟨trivial, c44, trivial, trivial, (off_false c45), trivial, trivial, trivial, trivial, trivial, trivial, trivial, trivial, trivial, trivial, trivial, trivial, trivial, trivial, trivial, trivial, trivial, trivial, trivial, trivial, trivial, trivial, trivial, trivial, trivial, trivial, trivial, trivial, trivial, trivial, trivial, trivial, trivial, trivial⟩ ?_
        exact joinQ_leaf (false) h (conv_ren [] [2] (n := 0) (by kernel_rfl) (by kernel_rfl))
      ·rw [if_neg c44] at h
       refine AW.reg tt_okL4 [2] [] [{}, { h := { b := some false } }] ⟨[(2, vb false)], [], 110⟩ [True, (y25 == 0) = false, True, True, True, True, True, True, True, True, True, True, True, True, True, True, True, True, True, True, True, True, True, True, True, True, True, True, True, True, True, True, True, True, True, True, True, True] (by kernel_rfl) (by kernel_rfl) ⟨trivial, (off_false c44), trivial, trivial, trivial, trivial, trivial, trivial, trivial, trivial, trivial, trivial, trivial, trivial, trivial, trivial, trivial, trivial, trivial, trivial, trivial, trivial, trivial, trivial, trivial, trivial, trivial, trivial, trivial, trivial, trivial, trivial, trivial, trivial, trivial, trivial, trivial, trivial, trivial⟩ ?_
       exact joinQ_leaf (false) h (conv_ren [] [2] (n := 0) (by kernel_rfl) (by kernel_rfl))
 ·
  obtain ⟨y54, e55, h⟩ := bnd_some h
  by_cases c56 : (!y54) = true
  ·rw [if_pos c56] at h
   refine AW.reg tt_okL4 [0, 29] [] [{ call := some { ids := [], frz := [], flat := true, cnt := 0, args := [], out := vb y54, outb := [] } }, { h := { b := some true } }] ⟨[(29, vb true), (0, vl 1 Ri64 p0)], [], 7⟩ [(True) ∧ (All2 ArgLe [] []) ∧ ((true = true → flatB [])) ∧ (Con Try.prog 10 [] [] (vb y54) []), (!y54) = true, True, True, True, True, True] (by kernel_rfl) (by kernel_rfl) ⟨⟨trivial, trivial, (fun _ => trivial), (rl_law10_awake_con y54 e55)⟩, c56, trivial, trivial, trivial, trivial, trivial, trivial⟩ ?_
   exact joinQ_leaf (true) h (conv_ren [] [0, 29] (n := 0) (by kernel_rfl) (by kernel_rfl))
  ·rw [if_neg c56] at h
   obtain ⟨y57, e58, h⟩ := bnd_some h
   refine AW.reg tt_okL4 [0, 29] [] [{ call := some { ids := [], frz := [], flat := true, cnt := 0, args := [], out := vb y54, outb := [] } }, { h := { b := some false } }, {}, {}, { call := some { ids := [], frz := [], flat := true, cnt := 0, args := [vl 1 Ri64 p0], out := vb y57, outb := [] } }] ⟨[(29, vb (!y57)), (0, vl 1 Ri64 p0)], [], 6⟩ [(True) ∧ (All2 ArgLe [] []) ∧ ((true = true → flatB [])) ∧ (Con Try.prog 10 [] [] (vb y54) []), (!y54) = false, True, True, ((True) ∧ (True)) ∧ (All2 ArgLe [vl 1 Ri64 p0] [vl 1 Ri64 p0]) ∧ ((true = true → flatB [])) ∧ (Con Try.prog 11 [vl 1 Ri64 p0] [] (vb y57) []), True, True] (by kernel_rfl) (by kernel_rfl) ⟨⟨trivial, trivial, (fun _ => trivial), (rl_law10_awake_con y54 e55)⟩, (off_false c56), trivial, trivial, ⟨⟨trivial, trivial⟩, ⟨ArgLe.refl _, trivial⟩, (fun _ => trivial), (rl_make_Few_con p0 y57 e58)⟩, trivial, trivial, trivial⟩ ?_
   exact joinQ_leaf (!y57) h (conv_ren [] [0, 29] (n := 0) (by kernel_rfl) (by kernel_rfl))
end Go.Proofs.Yteaijglfenedoaa
