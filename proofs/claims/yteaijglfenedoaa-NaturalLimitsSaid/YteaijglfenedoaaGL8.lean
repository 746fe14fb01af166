/- Printed by a program of mine (vmgen.py): Go functions, and what they come to. -/
import Derived.Test.YteaijglfenedoaaVp
import Derived.Test.YteaijglfenedoaaRows
import Derived.Test.YteaijglfenedoaaG2
namespace Go.Proofs.Yteaijglfenedoaa
open Vm
set_option linter.unusedVariables false
set_option linter.unusedSimpArgs false
set_option linter.constructorNameAsVariable false
def ttlL8 : List (Nat × TI) := [(3, ⟨.int .i64, 1, 8, [.int .i64 0]⟩), (4, ⟨.bool, 1, 1, [.bool false]⟩), (5, ⟨.int .u8, 1, 1, [.int .u8 0]⟩), (9, ⟨.str, 1, 16, [.string ⟨#[]⟩]⟩), (22, ⟨.slice 3, 1, 24, [.slice none 0 0]⟩), (25, ⟨.ptr 52, 1, 8, [.pointer none]⟩), (27, ⟨.slice 37, 1, 24, [.slice none 0 0]⟩), (28, ⟨.slice 37, 1, 24, [.slice none 0 0]⟩), (30, ⟨.int .i64, 1, 8, [.int .i64 0]⟩), (37, ⟨.int .u32, 1, 4, [.int .u32 0]⟩), (41, ⟨.int .u64, 1, 8, [.int .u64 0]⟩), (52, ⟨.struct [(22, 0), (3, 1), (41, 2)], 3, 40, [.slice none 0 0, .int .i64 0, .int .u64 0]⟩), (64, ⟨.slice 5, 1, 24, [.slice none 0 0]⟩)]
theorem tt_okL8 : TTok Try.prog (Vm.look ttlL8) := ttok_of ⟨⟨by kernel_rfl, by kernel_rfl⟩, ⟨by kernel_rfl, by kernel_rfl⟩, ⟨by kernel_rfl, by kernel_rfl⟩, ⟨by kernel_rfl, by kernel_rfl⟩, ⟨by kernel_rfl, by kernel_rfl⟩, ⟨by kernel_rfl, by kernel_rfl⟩, ⟨by kernel_rfl, by kernel_rfl⟩, ⟨by kernel_rfl, by kernel_rfl⟩, ⟨by kernel_rfl, by kernel_rfl⟩, ⟨by kernel_rfl, by kernel_rfl⟩, ⟨by kernel_rfl, by kernel_rfl⟩, ⟨by kernel_rfl, by kernel_rfl⟩, ⟨by kernel_rfl, by kernel_rfl⟩, trivial⟩
theorem moL8 : Try.prog.follows .mixedOrders = true := by kernel_rfl
/-! recordlink/recordlinklaw10.NaturalLimits -/
noncomputable def rl_law10_NaturalLimits_k9 (x20 : Bool) : Option Bool := some x20
noncomputable def rl_law10_NaturalLimits_k7 (y10 : List Int) (y11 : Int) (y13 : List Int) (y14 : Int) (y16 : List Int) (y17 : Int) (x19 : Int) : Option Bool := if (y11 == 1) = true then (if (((y10.length : Nat) : Int) == 0) = true then (if (y14 == x19) = true then (if ((y14 == 0) == (decide (((y13.length : Nat) : Int) > 0))) = true then (if (y17 == 0) = true then (rl_law10_NaturalLimits_k9 (((y16.length : Nat) : Int) == 0)) else (rl_law10_NaturalLimits_k9 false)) else (rl_law10_NaturalLimits_k9 false)) else (rl_law10_NaturalLimits_k9 false)) else (rl_law10_NaturalLimits_k9 false)) else (rl_law10_NaturalLimits_k9 false)
noncomputable def rl_law10_NaturalLimits_k11 (y10 : List Int) (y11 : Int) (y13 : List Int) (y14 : Int) (y16 : List Int) (y17 : Int) (x26 : Bool) : Option Bool := if x26 = true then (rl_law10_NaturalLimits_k7 y10 y11 y13 y14 y16 y17 1) else (rl_law10_NaturalLimits_k7 y10 y11 y13 y14 y16 y17 0)
noncomputable def rl_law10_NaturalLimits_k4 (p0 : List Int) (x1 : Bool) : Option Bool := if x1 = true then ((rl_law10_awake).bind fun y3 => (some y3)) else ((rl_make_New p0).bind fun y5 => (bind2 (rl_make_Deck_Larger y5) fun y7 y8 => (bind2 (natural_Mul y7 y7) fun y10 y11 => (bind2 (natural_Add y7 y7) fun y13 y14 => (bind2 (natural_Sub y7 y7) fun y16 y17 => (if (((y7.length : Nat) : Int) == 64) = true then (if 0 ≤ (IntKind.i64.wrap (((y7.length : Nat) : Int) - 1)) then (if (IntKind.i64.wrap (((y7.length : Nat) : Int) - 1)) < ((y7.length : Nat) : Int) then (rl_law10_NaturalLimits_k11 y10 y11 y13 y14 y16 y17 (decide ((y7.getD (0 + (IntKind.i64.wrap (((y7.length : Nat) : Int) - 1)).toNat) 0) ≥ 2147483648))) else none) else none) else (rl_law10_NaturalLimits_k11 y10 y11 y13 y14 y16 y17 false)))))))
noncomputable def rl_law10_NaturalLimits (p0 : List Int) : Option Bool := (rl_law10_awake).bind fun y31 => (if (!y31) = true then (rl_law10_NaturalLimits_k4 p0 true) else ((rl_make_Few p0).bind fun y34 => (rl_law10_NaturalLimits_k4 p0 (!y34))))
set_option maxRecDepth 100000 in
set_option maxHeartbeats 10000000 in
theorem rl_law10_NaturalLimits_con (p0 : List Int) (r0 : Bool) (h : rl_law10_NaturalLimits p0 = some r0) : Con Try.prog 8 [vl 1 Ri64 p0] [] (vb r0) [] := by
 revert h; generalize r0 = r; intro h
 refine con_of tt_okL8 0 Try.func8 (by kernel_rfl) rfl (by kernel_rfl) (fun base X hk => AW.post ?_)
 unfold rl_law10_NaturalLimits at h
 refine AW.seq ?_
 refine AW.reg tt_okL8 [0] [] [] ⟨[(0, vl 1 Ri64 p0)], [], 1⟩ [True] (by kernel_rfl) (by kernel_rfl) ⟨trivial, trivial⟩ ?_
 refine AW.thenQ_normal ?_
 refine AW.seq ?_
 refine AW.seq ?_
 refine AW.join (ι := Bool) (fun v => ⟨[(0, vl 1 Ri64 p0), (18, vb v)], [], 0⟩) (fun v : Bool => rl_law10_NaturalLimits_k4 p0 v = some r) (fun v h => ?_) ?_
 ·
  obtain ⟨x1, rfl⟩ : ∃ x, x = v := ⟨_, rfl⟩
  replace h : rl_law10_NaturalLimits_k4 p0 x1 = some r := h
  unfold rl_law10_NaturalLimits_k4 at h
  show (_ : Exit → St → Prop) .normal ⟨[(0, vl 1 Ri64 p0), (18, vb x1)], [], 0⟩
  refine AW.thenQ_normal ?_
  refine AW.cond (b := x1) (by kernel_rfl) (fun c2 => ?_) (fun c2 => ?_)
  ·rw [if_pos c2] at h
   refine AW.seq ?_
   obtain ⟨y3, e4, h⟩ := bnd_some h
   refine AW.reg tt_okL8 [2] [] [{ call := some { ids := [], frz := [], flat := true, cnt := 0, args := [], out := vb y3, outb := [] } }] ⟨[(2, vb y3)], [], 1⟩ [(True) ∧ (All2 ArgLe [] []) ∧ ((true = true → flatB [])) ∧ (Con Try.prog 10 [] [] (vb y3) []), True] (by kernel_rfl) (by kernel_rfl) ⟨⟨trivial, trivial, (fun _ => trivial), (rl_law10_awake_con y3 e4)⟩, trivial, trivial⟩ ?_
   refine AW.thenQ_normal ?_
   refine AW.ret ?_
   refine AW.thenQ_ret ?_
   obtain rfl := some_inj h
   exact ⟨_, Conv.refl _ _, .inr rfl, OutOk.mk [] 0 (out0 := vb y3) (ps := [True]) (by kernel_rfl) ⟨trivial, trivial⟩ (by kernel_rfl) (by kernel_rfl)⟩
  ·rw [if_neg (by rw [c2]; exact Bool.false_ne_true)] at h
   refine AW.skip ?_
   refine AW.thenQ_normal ?_
   refine AW.seq ?_
   obtain ⟨y5, e6, h⟩ := bnd_some h
   refine AW.reg tt_okL8 [3] [1] [{}, { call := some { ids := [], frz := [], flat := false, cnt := 1, args := [vl 1 Ri64 p0], out := .c (.ptr 0 3 0 0), outb := [(0, .box 52 [cl 1 Ri64 y5.list, ci64 y5.at_, cu64 y5.state])] } }] ⟨[(3, .c (.ptr 1 3 0 0))], [(1, .box 52 [cl 1 Ri64 y5.list, ci64 y5.at_, cu64 y5.state])], 3⟩ [True, ((True) ∧ (True)) ∧ (All2 ArgLe [vl 1 Ri64 p0] [vl 1 Ri64 p0]) ∧ ((false = true → flatB [(0, .box 52 [cl 1 Ri64 y5.list, ci64 y5.at_, cu64 y5.state])])) ∧ (Con Try.prog 12 [vl 1 Ri64 p0] [] (.c (.ptr 0 3 0 0)) [(0, .box 52 [cl 1 Ri64 y5.list, ci64 y5.at_, cu64 y5.state])]), True] (by kernel_rfl) (by kernel_rfl) ⟨trivial, ⟨⟨trivial, trivial⟩, ⟨ArgLe.refl _, trivial⟩, (fun h => by cases h), (rl_make_New_con p0 y5 e6)⟩, trivial, trivial⟩ ?_
   refine AW.thenQ_normal ?_
   refine AW.seq ?_
   obtain ⟨y7, y8, e9, h⟩ := bind2_some h
   refine AW.reg tt_okL8 [4] [4] [{}, { call := some { ids := [1], frz := [], flat := false, cnt := 1, args := [.c (.ptr 0 3 0 0)], out := .c (.ref 1 1 0 y7.length), outb := [(0, .box 52 [cl 1 Ri64 y8.list, ci64 y8.at_, cu64 y8.state]), (1, .row 37 false 1 y7.length (Ru32 y7))] } }] ⟨[(4, .c (.ref 4 1 0 y7.length))], [(4, .row 37 false 1 y7.length (Ru32 y7))], 6⟩ [True, ((True) ∧ (True)) ∧ (All2 ArgLe [.c (.ptr 0 3 0 0)] [.c (.ptr 0 3 0 0)]) ∧ ((false = true → flatB [(0, .box 52 [cl 1 Ri64 y8.list, ci64 y8.at_, cu64 y8.state]), (1, .row 37 false 1 y7.length (Ru32 y7))])) ∧ (Con Try.prog 24 [.c (.ptr 0 3 0 0)] [(0, .box 52 [cl 1 Ri64 y5.list, ci64 y5.at_, cu64 y5.state])] (.c (.ref 1 1 0 y7.length)) [(0, .box 52 [cl 1 Ri64 y8.list, ci64 y8.at_, cu64 y8.state]), (1, .row 37 false 1 y7.length (Ru32 y7))]), True] (by kernel_rfl) (by kernel_rfl) ⟨trivial, ⟨⟨trivial, trivial⟩, ⟨ArgLe.refl _, trivial⟩, (fun h => by cases h), (rl_make_Deck_Larger_con y5 y7 y8 e9)⟩, trivial, trivial⟩ ?_
   refine AW.thenQ_normal ?_
   refine AW.seq ?_
   obtain ⟨y10, y11, e12, h⟩ := bind2_some h
   refine AW.reg tt_okL8 [4, 5, 6] [4] [{}, {}, { call := some { ids := [], frz := [4], flat := false, cnt := 0, args := [vl 1 Ru32 y7, vl 1 Ru32 y7], out := .tup [vl 1 Ru32 y10, vi64 y11], outb := [] } }] ⟨[(6, vi64 y11), (5, vl 1 Ru32 y10), (4, .c (.ref 4 1 0 y7.length))], [(4, .row 37 true 1 y7.length (Ru32 y7))], 13⟩ [True, True, ((0 + y7.length ≤ y7.length) ∧ (0 + y7.length ≤ y7.length) ∧ (True)) ∧ (All2 ArgLe [vl 1 Ru32 y7, vl 1 Ru32 y7] [vl 1 Ru32 y7, vl 1 Ru32 y7]) ∧ ((false = true → flatB [])) ∧ (Con Try.prog 15 [vl 1 Ru32 y7, vl 1 Ru32 y7] [] (.tup [vl 1 Ru32 y10, vi64 y11]) []), True, True, True, True, True] (by kernel_rfl) (by kernel_rfl) ⟨trivial, trivial, ⟨⟨le0, le0, trivial⟩, ⟨ArgLe.refl _, ArgLe.refl _, trivial⟩, (fun h => by cases h), (natural_Mul_con y7 y7 y10 y11 e12)⟩, trivial, trivial, trivial, trivial, trivial, trivial⟩ ?_
   refine AW.thenQ_normal ?_
   refine AW.seq ?_
   obtain ⟨y13, y14, e15, h⟩ := bind2_some h
   refine AW.reg tt_okL8 [4, 5, 6, 7, 8] [4] [{}, {}, { call := some { ids := [], frz := [], flat := false, cnt := 0, args := [vl 1 Ru32 y7, vl 1 Ru32 y7], out := .tup [vl 1 Ru32 y13, vi64 y14], outb := [] } }] ⟨[(8, vi64 y14), (7, vl 1 Ru32 y13), (6, vi64 y11), (5, vl 1 Ru32 y10), (4, .c (.ref 4 1 0 y7.length))], [(4, .row 37 true 1 y7.length (Ru32 y7))], 20⟩ [True, True, ((0 + y7.length ≤ y7.length) ∧ (0 + y7.length ≤ y7.length) ∧ (True)) ∧ (All2 ArgLe [vl 1 Ru32 y7, vl 1 Ru32 y7] [vl 1 Ru32 y7, vl 1 Ru32 y7]) ∧ ((false = true → flatB [])) ∧ (Con Try.prog 14 [vl 1 Ru32 y7, vl 1 Ru32 y7] [] (.tup [vl 1 Ru32 y13, vi64 y14]) []), True, True, True, True, True] (by kernel_rfl) (by kernel_rfl) ⟨trivial, trivial, ⟨⟨le0, le0, trivial⟩, ⟨ArgLe.refl _, ArgLe.refl _, trivial⟩, (fun h => by cases h), (natural_Add_con y7 y7 y13 y14 e15)⟩, trivial, trivial, trivial, trivial, trivial, trivial⟩ ?_
   refine AW.thenQ_normal ?_
   refine AW.seq ?_
   obtain ⟨y16, y17, e18, h⟩ := bind2_some h
   refine AW.reg tt_okL8 [4, 5, 6, 7, 8, 9, 10] [4] [{}, {}, { call := some { ids := [], frz := [], flat := false, cnt := 0, args := [vl 1 Ru32 y7, vl 1 Ru32 y7], out := .tup [vl 1 Ru32 y16, vi64 y17], outb := [] } }] ⟨[(10, vi64 y17), (9, vl 1 Ru32 y16), (8, vi64 y14), (7, vl 1 Ru32 y13), (6, vi64 y11), (5, vl 1 Ru32 y10), (4, .c (.ref 4 1 0 y7.length))], [(4, .row 37 true 1 y7.length (Ru32 y7))], 27⟩ [True, True, ((0 + y7.length ≤ y7.length) ∧ (0 + y7.length ≤ y7.length) ∧ (True)) ∧ (All2 ArgLe [vl 1 Ru32 y7, vl 1 Ru32 y7] [vl 1 Ru32 y7, vl 1 Ru32 y7]) ∧ ((false = true → flatB [])) ∧ (Con Try.prog 25 [vl 1 Ru32 y7, vl 1 Ru32 y7] [] (.tup [vl 1 Ru32 y16, vi64 y17]) []), True, True, True, True, True] (by kernel_rfl) (by kernel_rfl) ⟨trivial, trivial, ⟨⟨le0, le0, trivial⟩, ⟨ArgLe.refl _, ArgLe.refl _, trivial⟩, (fun h => by cases h), (natural_Sub_con y7 y7 y16 y17 e18)⟩, trivial, trivial, trivial, trivial, trivial, trivial⟩ ?_
   refine AW.thenQ_normal ?_
   refine AW.seq ?_
   refine AW.reg tt_okL8 [4, 5, 6, 7, 8, 9, 10, 11] [4] [] ⟨[(11, vi64 0), (10, vi64 y17), (9, vl 1 Ru32 y16), (8, vi64 y14), (7, vl 1 Ru32 y13), (6, vi64 y11), (5, vl 1 Ru32 y10), (4, .c (.ref 4 1 0 y7.length))], [(4, .row 37 true 1 y7.length (Ru32 y7))], 28⟩ [True] (by kernel_rfl) (by kernel_rfl) ⟨trivial, trivial⟩ ?_
   refine AW.thenQ_normal ?_
   refine AW.seq ?_
   refine AW.join (ι := Int) (fun v => ⟨[(5, vl 1 Ru32 y10), (6, vi64 y11), (7, vl 1 Ru32 y13), (8, vi64 y14), (9, vl 1 Ru32 y16), (10, vi64 y17), (11, vi64 v)], [], 0⟩) (fun v : Int => rl_law10_NaturalLimits_k7 y10 y11 y13 y14 y16 y17 v = some r) (fun v h => ?_) ?_
   ·
    obtain ⟨x19, rfl⟩ : ∃ x, x = v := ⟨_, rfl⟩
    replace h : rl_law10_NaturalLimits_k7 y10 y11 y13 y14 y16 y17 x19 = some r := h
    unfold rl_law10_NaturalLimits_k7 at h
    show (_ : Exit → St → Prop) .normal ⟨[(5, vl 1 Ru32 y10), (6, vi64 y11), (7, vl 1 Ru32 y13), (8, vi64 y14), (9, vl 1 Ru32 y16), (10, vi64 y17), (11, vi64 x19)], [], 0⟩
    refine AW.thenQ_normal ?_
    refine AW.seq ?_
    refine AW.join (ι := Bool) (fun v => ⟨[(2, vb v)], [], 0⟩) (fun v : Bool => rl_law10_NaturalLimits_k9 v = some r) (fun v h => ?_) ?_
    ·
     obtain ⟨x20, rfl⟩ : ∃ x, x = v := ⟨_, rfl⟩
     replace h : rl_law10_NaturalLimits_k9 x20 = some r := h
     unfold rl_law10_NaturalLimits_k9 at h
     show (_ : Exit → St → Prop) .normal ⟨[(2, vb x20)], [], 0⟩
     refine AW.thenQ_normal ?_
     refine AW.ret ?_
     obtain rfl := some_inj h
     exact ⟨_, Conv.refl _ _, .inr rfl, OutOk.mk [] 0 (out0 := vb x20) (ps := [True]) (by kernel_rfl) ⟨trivial, trivial⟩ (by kernel_rfl) (by kernel_rfl)⟩
    ·
     by_cases c21 : (y11 == 1) = true
     ·rw [if_pos c21] at h
      by_cases c22 : (((y10.length : Nat) : Int) == 0) = true
      ·rw [if_pos c22] at h
       by_cases c23 : (y14 == x19) = true
       ·rw [if_pos c23] at h
        by_cases c24 : ((y14 == 0) == (decide (((y13.length : Nat) : Int) > 0))) = true
        ·rw [if_pos c24] at h
         by_cases c25 : (y17 == 0) = true
         ·rw [if_pos c25] at h
          refine AW.reg tt_okL8 [2] [] [{}, { h := { b := some true } }, {}, {}, {}, { h := { b := some true } }, {}, {}, {}, {}, { h := { b := some true } }, {}, {}, {}, {}, {}, {}, {}, { h := { b := some true } }, {}, {}, {}, { h := { b := some true } }] ⟨[(2, vb (((y16.length : Nat) : Int) == 0))], [], 30⟩ [True, (y11 == 1) = true, True, True, True, (((y10.length : Nat) : Int) == 0) = true, True, True, True, True, (y14 == x19) = true, True, True, True, True, True, True, True, ((y14 == 0) == (decide (((y13.length : Nat) : Int) > 0))) = true, True, True, True, (y17 == 0) = true, True, True, True, True, True, True, True] (by kernel_rfl) (by kernel_rfl) ⟨trivial, c21, trivial, trivial, trivial, c22, trivial, trivial, trivial, trivial, c23, trivial, trivial, trivial, trivial, trivial, trivial, trivial, c24, trivial, trivial, trivial, c25, trivial, trivial, trivial, trivial, trivial, trivial, trivial, trivial⟩ ?_
          exact joinQ_leaf ((((y16.length : Nat) : Int) == 0)) h (conv_ren [] [2] (n := 0) (by kernel_rfl) (by kernel_rfl))
         ·rw [if_neg c25] at h
          refine AW.reg tt_okL8 [2] [] [{}, { h := { b := some true } }, {}, {}, {}, { h := { b := some true } }, {}, {}, {}, {}, { h := { b := some true } }, {}, {}, {}, {}, {}, {}, {}, { h := { b := some true } }, {}, {}, {}, { h := { b := some false } }] ⟨[(2, vb false)], [], 30⟩ [True, (y11 == 1) = true, True, True, True, (((y10.length : Nat) : Int) == 0) = true, True, True, True, True, (y14 == x19) = true, True, True, True, True, True, True, True, ((y14 == 0) == (decide (((y13.length : Nat) : Int) > 0))) = true, True, True, True, (y17 == 0) = false, True, True, True, True, True, True, True] (by kernel_rfl) (by kernel_rfl) ⟨trivial, c21, trivial, trivial, trivial, c22, trivial, trivial, trivial, trivial, c23, trivial, trivial, trivial, trivial, trivial, trivial, trivial, c24, trivial, trivial, trivial, (off_false c25), trivial, trivial, trivial, trivial, trivial, trivial, trivial, trivial⟩ ?_
          exact joinQ_leaf (false) h (conv_ren [] [2] (n := 0) (by kernel_rfl) (by kernel_rfl))
        ·rw [if_neg c24] at h
         refine AW.reg tt_okL8 [2] [] [{}, { h := { b := some true } }, {}, {}, {}, { h := { b := some true } }, {}, {}, {}, {}, { h := { b := some true } }, {}, {}, {}, {}, {}, {}, {}, { h := { b := some false } }] ⟨[(2, vb false)], [], 30⟩ [True, (y11 == 1) = true, True, True, True, (((y10.length : Nat) : Int) == 0) = true, True, True, True, True, (y14 == x19) = true, True, True, True, True, True, True, True, ((y14 == 0) == (decide (((y13.length : Nat) : Int) > 0))) = false, True, True, True, True, True, True, True, True, True, True, True] (by kernel_rfl) (by kernel_rfl) ⟨trivial, c21, trivial, trivial, trivial, c22, trivial, trivial, trivial, trivial, c23, trivial, trivial, trivial, trivial, trivial, trivial, trivial, (off_false c24), trivial, trivial, trivial, trivial, trivial, trivial, trivial, trivial, trivial, trivial, trivial, trivial⟩ ?_
         exact joinQ_leaf (false) h (conv_ren [] [2] (n := 0) (by kernel_rfl) (by kernel_rfl))
       ·rw [if_neg c23] at h
        refine AW.reg tt_okL8 [2] [] [{}, { h := { b := some true } }, {}, {}, {}, { h := { b := some true } }, {}, {}, {}, {}, { h := { b := some false } }] ⟨[(2, vb false)], [], 30⟩ [True, (y11 == 1) = true, True, True, True, (((y10.length : Nat) : Int) == 0) = true, True, True, True, True, (y14 == x19) = false, True, True, True, True, True, True, True, True, True, True, True, True, True, True, True, True, True, True, True] (by kernel_rfl) (by kernel_rfl) ⟨trivial, c21, trivial, trivial, trivial, c22, trivial, trivial, trivial, trivial, (off_false c23), trivial, trivial, trivial, trivial, trivial, trivial, trivial, trivial, trivial, trivial, trivial, trivial, trivial, trivial, trivial, trivial, trivial, trivial, trivial, trivial⟩ ?_
        exact joinQ_leaf (false) h (conv_ren [] [2] (n := 0) (by kernel_rfl) (by kernel_rfl))
      ·rw [if_neg c22] at h
       refine AW.reg tt_okL8 [2] [] [{}, { h := { b := some true } }, {}, {}, {}, { h := { b := some false } }] ⟨[(2, vb false)], [], 30⟩ [True, (y11 == 1) = true, True, True, True, (((y10.length : Nat) : Int) == 0) = false, True, True, True, True, True, True, True, True, True, True, True, True, True, True, True, True, True, True, True, True, True, True, True, True] (by kernel_rfl) (by kernel_rfl) ⟨trivial, c21, trivial, trivial, trivial, (off_false c22), trivial, trivial, trivial, trivial, trivial, trivial, trivial, trivial, trivial, trivial, trivial, trivial, trivial, trivial, trivial, trivial, trivial, trivial, trivial, trivial, trivial, trivial, trivial, trivial, trivial⟩ ?_
       exact joinQ_leaf (false) h (conv_ren [] [2] (n := 0) (by kernel_rfl) (by kernel_rfl))
     ·rw [if_neg c21] at h
      refine AW.reg tt_okL8 [2] [] [{}, { h := { b := some false } }] ⟨[(2, vb false)], [], 30⟩ [True, (y11 == 1) = false, True, True, True, True, True, True, True, True, True, True, True, True, True, True, True, True, True, True, True, True, True, True, True, True, True, True, True, True] (by kernel_rfl) (by kernel_rfl) ⟨trivial, (off_false c21), trivial, trivial, trivial, trivial, trivial, trivial, trivial, trivial, trivial, trivial, trivial, trivial, trivial, trivial, trivial, trivial, trivial, trivial, trivial, trivial, trivial, trivial, trivial, trivial, trivial, trivial, trivial, trivial, trivial⟩ ?_
      exact joinQ_leaf (false) h (conv_ren [] [2] (n := 0) (by kernel_rfl) (by kernel_rfl))
   ·
    refine AW.seq ?_
    refine AW.join (ι := Bool) (fun v => ⟨[(5, vl 1 Ru32 y10), (6, vi64 y11), (7, vl 1 Ru32 y13), (8, vi64 y14), (9, vl 1 Ru32 y16), (10, vi64 y17), (11, vi64 0), (53, vb v)], [], 0⟩) (fun v : Bool => rl_law10_NaturalLimits_k11 y10 y11 y13 y14 y16 y17 v = some r) (fun v h => ?_) ?_
    ·
     obtain ⟨x26, rfl⟩ : ∃ x, x = v := ⟨_, rfl⟩
     replace h : rl_law10_NaturalLimits_k11 y10 y11 y13 y14 y16 y17 x26 = some r := h
     unfold rl_law10_NaturalLimits_k11 at h
     show (_ : Exit → St → Prop) .normal ⟨[(5, vl 1 Ru32 y10), (6, vi64 y11), (7, vl 1 Ru32 y13), (8, vi64 y14), (9, vl 1 Ru32 y16), (10, vi64 y17), (11, vi64 0), (53, vb x26)], [], 0⟩
     refine AW.thenQ_normal ?_
     refine AW.cond (b := x26) (by kernel_rfl) (fun c27 => ?_) (fun c27 => ?_)
     ·rw [if_pos c27] at h
      refine AW.reg tt_okL8 [5, 6, 7, 8, 9, 10, 11] [] [] ⟨[(11, vi64 1), (5, vl 1 Ru32 y10), (6, vi64 y11), (7, vl 1 Ru32 y13), (8, vi64 y14), (9, vl 1 Ru32 y16), (10, vi64 y17)], [], 1⟩ [True] (by kernel_rfl) (by kernel_rfl) ⟨trivial, trivial⟩ ?_
      exact joinQ_leaf (1) h (conv_ren [] [5, 6, 7, 8, 9, 10, 11] (n := 0) (by kernel_rfl) (by kernel_rfl))
     ·rw [if_neg (by rw [c27]; exact Bool.false_ne_true)] at h
      refine AW.skip ?_
      exact joinQ_leaf (0) h (conv_ren [] [5, 6, 7, 8, 9, 10, 11] (n := 0) (by kernel_rfl) (by kernel_rfl))
    ·
     by_cases c28 : (((y7.length : Nat) : Int) == 64) = true
     ·rw [if_pos c28] at h
      obtain ⟨g29, h⟩ := ifc h
      obtain ⟨g30, h⟩ := ifc h
      refine AW.reg tt_okL8 [5, 6, 7, 8, 9, 10, 11, 53] [] [{}, {}, { h := { b := some true } }] ⟨[(53, vb (decide ((y7.getD (0 + (IntKind.i64.wrap (((y7.length : Nat) : Int) - 1)).toNat) 0) ≥ 2147483648))), (11, vi64 0), (10, vi64 y17), (9, vl 1 Ru32 y16), (8, vi64 y14), (7, vl 1 Ru32 y13), (6, vi64 y11), (5, vl 1 Ru32 y10)], [], 40⟩ [True, True, (((y7.length : Nat) : Int) == 64) = true, True, True, True, True, True, (0 ≤ (IntKind.i64.wrap (((y7.length : Nat) : Int) - 1))) ∧ ((IntKind.i64.wrap (((y7.length : Nat) : Int) - 1)) < ((y7.length : Nat) : Int)), (0 + (IntKind.i64.wrap (((y7.length : Nat) : Int) - 1)).toNat) < y7.length, True, True] (by kernel_rfl) (by kernel_rfl) ⟨trivial, trivial, c28, trivial, trivial, trivial, trivial, trivial, ⟨g29, g30⟩, (by have h1 : 0 ≤ (IntKind.i64.wrap (((y7.length : Nat) : Int) - 1)) := g29; have h2 : (IntKind.i64.wrap (((y7.length : Nat) : Int) - 1)) < ((y7.length : Nat) : Int) := g30; omega), trivial, trivial, trivial⟩ ?_
      exact joinQ_leaf (decide ((y7.getD (0 + (IntKind.i64.wrap (((y7.length : Nat) : Int) - 1)).toNat) 0) ≥ 2147483648)) h (conv_ren [] [5, 6, 7, 8, 9, 10, 11, 53] (n := 0) (by kernel_rfl) (by kernel_rfl))
     ·rw [if_neg c28] at h
      refine AW.reg tt_okL8 [5, 6, 7, 8, 9, 10, 11, 53] [] [{}, {}, { h := { b := some false } }] ⟨[(53, vb false), (11, vi64 0), (10, vi64 y17), (9, vl 1 Ru32 y16), (8, vi64 y14), (7, vl 1 Ru32 y13), (6, vi64 y11), (5, vl 1 Ru32 y10)], [], 40⟩ [True, True, (((y7.length : Nat) : Int) == 64) = false, True, True, True, True, True, True, True, True, True] (by kernel_rfl) (by kernel_rfl) ⟨trivial, trivial, (off_false c28), trivial, trivial, trivial, trivial, trivial, trivial, trivial, trivial, trivial, trivial⟩ ?_
      exact joinQ_leaf (false) h (conv_ren [] [5, 6, 7, 8, 9, 10, 11, 53] (n := 0) (by kernel_rfl) (by kernel_rfl))
 ·
  obtain ⟨y31, e32, h⟩ := bnd_some h
  by_cases c33 : (!y31) = true
  ·rw [if_pos c33] at h
   refine AW.reg tt_okL8 [0, 18] [] [{ call := some { ids := [], frz := [], flat := true, cnt := 0, args := [], out := vb y31, outb := [] } }, { h := { b := some true } }] ⟨[(18, vb true), (0, vl 1 Ri64 p0)], [], 7⟩ [(True) ∧ (All2 ArgLe [] []) ∧ ((true = true → flatB [])) ∧ (Con Try.prog 10 [] [] (vb y31) []), (!y31) = true, True, True, True, True, True] (by kernel_rfl) (by kernel_rfl) ⟨⟨trivial, trivial, (fun _ => trivial), (rl_law10_awake_con y31 e32)⟩, c33, trivial, trivial, trivial, trivial, trivial, trivial⟩ ?_
   exact joinQ_leaf (true) h (conv_ren [] [0, 18] (n := 0) (by kernel_rfl) (by kernel_rfl))
  ·rw [if_neg c33] at h
   obtain ⟨y34, e35, h⟩ := bnd_some h
   refine AW.reg tt_okL8 [0, 18] [] [{ call := some { ids := [], frz := [], flat := true, cnt := 0, args := [], out := vb y31, outb := [] } }, { h := { b := some false } }, {}, {}, { call := some { ids := [], frz := [], flat := true, cnt := 0, args := [vl 1 Ri64 p0], out := vb y34, outb := [] } }] ⟨[(18, vb (!y34)), (0, vl 1 Ri64 p0)], [], 6⟩ [(True) ∧ (All2 ArgLe [] []) ∧ ((true = true → flatB [])) ∧ (Con Try.prog 10 [] [] (vb y31) []), (!y31) = false, True, True, ((True) ∧ (True)) ∧ (All2 ArgLe [vl 1 Ri64 p0] [vl 1 Ri64 p0]) ∧ ((true = true → flatB [])) ∧ (Con Try.prog 11 [vl 1 Ri64 p0] [] (vb y34) []), True, True] (by kernel_rfl) (by kernel_rfl) ⟨⟨trivial, trivial, (fun _ => trivial), (rl_law10_awake_con y31 e32)⟩, (off_false c33), trivial, trivial, ⟨⟨trivial, trivial⟩, ⟨ArgLe.refl _, trivial⟩, (fun _ => trivial), (rl_make_Few_con p0 y34 e35)⟩, trivial, trivial, trivial⟩ ?_
   exact joinQ_leaf (!y34) h (conv_ren [] [0, 18] (n := 0) (by kernel_rfl) (by kernel_rfl))
end Go.Proofs.Yteaijglfenedoaa
