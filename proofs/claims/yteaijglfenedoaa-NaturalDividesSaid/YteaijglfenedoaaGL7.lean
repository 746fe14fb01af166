/- Printed by a program of mine (vmgen.py): Go functions, and what they come to. -/
import Derived.Test.YteaijglfenedoaaVp
import Derived.Test.YteaijglfenedoaaRows
import Derived.Test.YteaijglfenedoaaG2
namespace Go.Proofs.Yteaijglfenedoaa
open Vm
set_option linter.unusedVariables false
set_option linter.unusedSimpArgs false
set_option linter.constructorNameAsVariable false
def ttlL7 : List (Nat × TI) := [(3, ⟨.int .i64, 1, 8, [.int .i64 0]⟩), (4, ⟨.bool, 1, 1, [.bool false]⟩), (5, ⟨.int .u8, 1, 1, [.int .u8 0]⟩), (9, ⟨.str, 1, 16, [.string ⟨#[]⟩]⟩), (22, ⟨.slice 3, 1, 24, [.slice none 0 0]⟩), (25, ⟨.ptr 52, 1, 8, [.pointer none]⟩), (27, ⟨.slice 37, 1, 24, [.slice none 0 0]⟩), (28, ⟨.slice 37, 1, 24, [.slice none 0 0]⟩), (30, ⟨.int .i64, 1, 8, [.int .i64 0]⟩), (37, ⟨.int .u32, 1, 4, [.int .u32 0]⟩), (41, ⟨.int .u64, 1, 8, [.int .u64 0]⟩), (52, ⟨.struct [(22, 0), (3, 1), (41, 2)], 3, 40, [.slice none 0 0, .int .i64 0, .int .u64 0]⟩), (64, ⟨.slice 5, 1, 24, [.slice none 0 0]⟩)]
theorem tt_okL7 : TTok Try.prog (Vm.look ttlL7) := ttok_of ⟨⟨by kernel_rfl, by kernel_rfl⟩, ⟨by kernel_rfl, by kernel_rfl⟩, ⟨by kernel_rfl, by kernel_rfl⟩, ⟨by kernel_rfl, by kernel_rfl⟩, ⟨by kernel_rfl, by kernel_rfl⟩, ⟨by kernel_rfl, by kernel_rfl⟩, ⟨by kernel_rfl, by kernel_rfl⟩, ⟨by kernel_rfl, by kernel_rfl⟩, ⟨by kernel_rfl, by kernel_rfl⟩, ⟨by kernel_rfl, by kernel_rfl⟩, ⟨by kernel_rfl, by kernel_rfl⟩, ⟨by kernel_rfl, by kernel_rfl⟩, ⟨by kernel_rfl, by kernel_rfl⟩, trivial⟩
theorem moL7 : Try.prog.follows .mixedOrders = true := by kernel_rfl
/-! recordlink/recordlinklaw10.NaturalDivides -/
noncomputable def rl_law10_NaturalDivides_k8 (x18 : Bool) : Option Bool := some x18
noncomputable def rl_law10_NaturalDivides_k10 (x27 : Bool) : Option Bool := some x27
noncomputable def rl_law10_NaturalDivides_k4 (p0 : List Int) (x1 : Bool) : Option Bool := if x1 = true then ((rl_law10_awake).bind fun y3 => (some y3)) else ((rl_make_New p0).bind fun y5 => (bind2 (rl_make_Deck_Natural y5 8) fun y7 y8 => (bind2 (rl_make_Deck_Natural y8 4) fun y10 y11 => (bind3 (natural_DivMod y7 y10) fun y13 y14 y15 => (if (((y10.length : Nat) : Int) == 0) = true then (if (y15 == 9) = true then (if (((y13.length : Nat) : Int) == 0) = true then (rl_law10_NaturalDivides_k8 (((y14.length : Nat) : Int) == 0)) else (rl_law10_NaturalDivides_k8 false)) else (rl_law10_NaturalDivides_k8 false)) else (bind2 (natural_Mul y13 y10) fun y21 y22 => (bind2 (natural_Add y21 y14) fun y24 y25 => (if (y15 == 0) = true then (if (y22 == 0) = true then (if (y25 == 0) = true then ((rl_ref10_Same y24 y7).bind fun y31 => (if y31 = true then ((natural_Compare y14 y10).bind fun y34 => (if (decide (y34 < 0)) = true then ((natural_Valid y13).bind fun y37 => (if y37 = true then ((natural_Valid y14).bind fun y40 => (rl_law10_NaturalDivides_k10 y40)) else (rl_law10_NaturalDivides_k10 false))) else (rl_law10_NaturalDivides_k10 false))) else (rl_law10_NaturalDivides_k10 false))) else (rl_law10_NaturalDivides_k10 false)) else (rl_law10_NaturalDivides_k10 false)) else (rl_law10_NaturalDivides_k10 false)))))))))
noncomputable def rl_law10_NaturalDivides (p0 : List Int) : Option Bool := (rl_law10_awake).bind fun y42 => (if (!y42) = true then (rl_law10_NaturalDivides_k4 p0 true) else ((rl_make_Few p0).bind fun y45 => (rl_law10_NaturalDivides_k4 p0 (!y45))))
set_option maxRecDepth 100000 in
set_option maxHeartbeats 10000000 in
theorem rl_law10_NaturalDivides_con (p0 : List Int) (r0 : Bool) (h : rl_law10_NaturalDivides p0 = some r0) : Con Try.prog 7 [vl 1 Ri64 p0] [] (vb r0) [] := by
 revert h; generalize r0 = r; intro h
 refine con_of tt_okL7 0 Try.func7 (by kernel_rfl) rfl (by kernel_rfl) (fun base X hk => AW.post ?_)
 unfold rl_law10_NaturalDivides at h
 refine AW.seq ?_
 refine AW.reg tt_okL7 [0] [] [] ⟨[(0, vl 1 Ri64 p0)], [], 1⟩ [True] (by kernel_rfl) (by kernel_rfl) ⟨trivial, trivial⟩ ?_
 refine AW.thenQ_normal ?_
 refine AW.seq ?_
 refine AW.seq ?_
 refine AW.join (ι := Bool) (fun v => ⟨[(0, vl 1 Ri64 p0), (19, vb v)], [], 0⟩) (fun v : Bool => rl_law10_NaturalDivides_k4 p0 v = some r) (fun v h => ?_) ?_
 ·
  obtain ⟨x1, rfl⟩ : ∃ x, x = v := ⟨_, rfl⟩
  replace h : rl_law10_NaturalDivides_k4 p0 x1 = some r := h
  unfold rl_law10_NaturalDivides_k4 at h
  show (_ : Exit → St → Prop) .normal ⟨[(0, vl 1 Ri64 p0), (19, vb x1)], [], 0⟩
  refine AW.thenQ_normal ?_
  refine AW.cond (b := x1) (by kernel_rfl) (fun c2 => ?_) (fun c2 => ?_)
  ·rw [if_pos c2] at h
   refine AW.seq ?_
   obtain ⟨y3, e4, h⟩ := bnd_some h
   refine AW.reg tt_okL7 [2] [] [{ call := some { ids := [], frz := [], flat := true, cnt := 0, args := [], out := vb y3, outb := [] } }] ⟨[(2, vb y3)], [], 1⟩ [(True) ∧ (All2 ArgLe [] []) ∧ ((true = true → flatB [])) ∧ (Con Try.prog 10 [] [] (vb y3) []), True] (by kernel_rfl) (by kernel_rfl) ⟨⟨trivial, trivial, (fun _ => trivial), (rl_law10_awake_con y3 e4)⟩, trivial, trivial⟩ ?_
   refine AW.thenQ_normal ?_
   refine AW.ret ?_
   refine AW.thenQ_ret ?_
   obtain rfl := some_inj h
   exact ⟨_, Conv.refl _ _, .inr rfl, OutOk.mk [] 0 (out0 := vb y3) (ps := [True]) (by kernel_rfl) ⟨trivial, trivial⟩ (by kernel_rfl) (by kernel_rfl)⟩
  ·rw [if_neg (by rw [c2]; exact Bool.false_ne_true)] at h
   refine AW.skip ?_
   refine AW.thenQ_normal ?_
   refine AW.seq ?_
   obtain ⟨y5, e6, h⟩ := bnd_some h
   refine AW.reg tt_okL7 [3] [1] [{}, { call := some { ids := [], frz := [], flat := false, cnt := 1, args := [vl 1 Ri64 p0], out := .c (.ptr 0 3 0 0), outb := [(0, .box 52 [cl 1 Ri64 y5.list, ci64 y5.at_, cu64 y5.state])] } }] ⟨[(3, .c (.ptr 1 3 0 0))], [(1, .box 52 [cl 1 Ri64 y5.list, ci64 y5.at_, cu64 y5.state])], 3⟩ [True, ((True) ∧ (True)) ∧ (All2 ArgLe [vl 1 Ri64 p0] [vl 1 Ri64 p0]) ∧ ((false = true → flatB [(0, .box 52 [cl 1 Ri64 y5.list, ci64 y5.at_, cu64 y5.state])])) ∧ (Con Try.prog 12 [vl 1 Ri64 p0] [] (.c (.ptr 0 3 0 0)) [(0, .box 52 [cl 1 Ri64 y5.list, ci64 y5.at_, cu64 y5.state])]), True] (by kernel_rfl) (by kernel_rfl) ⟨trivial, ⟨⟨trivial, trivial⟩, ⟨ArgLe.refl _, trivial⟩, (fun h => by cases h), (rl_make_New_con p0 y5 e6)⟩, trivial, trivial⟩ ?_
   refine AW.thenQ_normal ?_
   refine AW.seq ?_
   obtain ⟨y7, y8, e9, h⟩ := bind2_some h
   obtain ⟨y10, y11, e12, h⟩ := bind2_some h
   refine AW.reg tt_okL7 [4, 5] [4, 6] [{}, { call := some { ids := [1], frz := [], flat := false, cnt := 1, args := [.c (.ptr 0 3 0 0), vi64 8], out := .c (.ref 1 1 0 y7.length), outb := [(0, .box 52 [cl 1 Ri64 y8.list, ci64 y8.at_, cu64 y8.state]), (1, .row 37 false 1 y7.length (Ru32 y7))] } }, {}, { call := some { ids := [1], frz := [], flat := false, cnt := 1, args := [.c (.ptr 0 3 0 0), vi64 4], out := .c (.ref 1 1 0 y10.length), outb := [(0, .box 52 [cl 1 Ri64 y11.list, ci64 y11.at_, cu64 y11.state]), (1, .row 37 false 1 y10.length (Ru32 y10))] } }] ⟨[(5, .c (.ref 6 1 0 y10.length)), (4, .c (.ref 4 1 0 y7.length))], [(6, .row 37 false 1 y10.length (Ru32 y10)), (4, .row 37 false 1 y7.length (Ru32 y7))], 9⟩ [True, ((True) ∧ (True) ∧ (True)) ∧ (All2 ArgLe [.c (.ptr 0 3 0 0), vi64 8] [.c (.ptr 0 3 0 0), vi64 8]) ∧ ((false = true → flatB [(0, .box 52 [cl 1 Ri64 y8.list, ci64 y8.at_, cu64 y8.state]), (1, .row 37 false 1 y7.length (Ru32 y7))])) ∧ (Con Try.prog 13 [.c (.ptr 0 3 0 0), vi64 8] [(0, .box 52 [cl 1 Ri64 y5.list, ci64 y5.at_, cu64 y5.state])] (.c (.ref 1 1 0 y7.length)) [(0, .box 52 [cl 1 Ri64 y8.list, ci64 y8.at_, cu64 y8.state]), (1, .row 37 false 1 y7.length (Ru32 y7))]), True, ((True) ∧ (True) ∧ (True)) ∧ (All2 ArgLe [.c (.ptr 0 3 0 0), vi64 4] [.c (.ptr 0 3 0 0), vi64 4]) ∧ ((false = true → flatB [(0, .box 52 [cl 1 Ri64 y11.list, ci64 y11.at_, cu64 y11.state]), (1, .row 37 false 1 y10.length (Ru32 y10))])) ∧ (Con Try.prog 13 [.c (.ptr 0 3 0 0), vi64 4] [(0, .box 52 [cl 1 Ri64 y8.list, ci64 y8.at_, cu64 y8.state])] (.c (.ref 1 1 0 y10.length)) [(0, .box 52 [cl 1 Ri64 y11.list, ci64 y11.at_, cu64 y11.state]), (1, .row 37 false 1 y10.length (Ru32 y10))]), True, True] (by kernel_rfl) (by kernel_rfl) ⟨trivial, ⟨⟨trivial, trivial, trivial⟩, ⟨ArgLe.refl _, ArgLe.refl _, trivial⟩, (fun h => by cases h), (rl_make_Deck_Natural_con y5 8 y7 y8 e9)⟩, trivial, ⟨⟨trivial, trivial, trivial⟩, ⟨ArgLe.refl _, ArgLe.refl _, trivial⟩, (fun h => by cases h), (rl_make_Deck_Natural_con y8 4 y10 y11 e12)⟩, trivial, trivial, trivial⟩ ?_
   refine AW.thenQ_normal ?_
   refine AW.seq ?_
   obtain ⟨y13, y14, y15, e16, h⟩ := bind3_some h
   refine AW.reg tt_okL7 [4, 5, 6, 7, 8] [4, 6] [{}, {}, { call := some { ids := [], frz := [4, 6], flat := false, cnt := 0, args := [vl 1 Ru32 y7, vl 1 Ru32 y10], out := .tup [vl 1 Ru32 y13, vl 1 Ru32 y14, vi64 y15], outb := [] } }] ⟨[(8, vi64 y15), (7, vl 1 Ru32 y14), (6, vl 1 Ru32 y13), (5, .c (.ref 6 1 0 y10.length)), (4, .c (.ref 4 1 0 y7.length))], [(4, .row 37 true 1 y7.length (Ru32 y7)), (6, .row 37 true 1 y10.length (Ru32 y10))], 18⟩ [True, True, ((0 + y7.length ≤ y7.length) ∧ (0 + y10.length ≤ y10.length) ∧ (True)) ∧ (All2 ArgLe [vl 1 Ru32 y7, vl 1 Ru32 y10] [vl 1 Ru32 y7, vl 1 Ru32 y10]) ∧ ((false = true → flatB [])) ∧ (Con Try.prog 19 [vl 1 Ru32 y7, vl 1 Ru32 y10] [] (.tup [vl 1 Ru32 y13, vl 1 Ru32 y14, vi64 y15]) []), True, True, True, True, True, True, True] (by kernel_rfl) (by kernel_rfl) ⟨trivial, trivial, ⟨⟨le0, le0, trivial⟩, ⟨ArgLe.refl _, ArgLe.refl _, trivial⟩, (fun h => by cases h), (natural_DivMod_con y7 y10 y13 y14 y15 e16)⟩, trivial, trivial, trivial, trivial, trivial, trivial, trivial, trivial⟩ ?_
   refine AW.thenQ_normal ?_
   refine AW.seq ?_
   refine AW.seq ?_
   refine AW.reg tt_okL7 [4, 5, 6, 7, 8, 36] [4, 6] [] ⟨[(36, vb (((y10.length : Nat) : Int) == 0)), (8, vi64 y15), (7, vl 1 Ru32 y14), (6, vl 1 Ru32 y13), (5, .c (.ref 6 1 0 y10.length)), (4, .c (.ref 4 1 0 y7.length))], [(4, .row 37 true 1 y7.length (Ru32 y7)), (6, .row 37 true 1 y10.length (Ru32 y10))], 21⟩ [True, True, True] (by kernel_rfl) (by kernel_rfl) ⟨trivial, trivial, trivial, trivial⟩ ?_
   refine AW.thenQ_normal ?_
   refine AW.cond (b := (((y10.length : Nat) : Int) == 0)) (by kernel_rfl) (fun c17 => ?_) (fun c17 => ?_)
   ·rw [if_pos c17] at h
    refine AW.seq ?_
    refine AW.join (ι := Bool) (fun v => ⟨[(2, vb v)], [], 0⟩) (fun v : Bool => rl_law10_NaturalDivides_k8 v = some r) (fun v h => ?_) ?_
    ·
     obtain ⟨x18, rfl⟩ : ∃ x, x = v := ⟨_, rfl⟩
     replace h : rl_law10_NaturalDivides_k8 x18 = some r := h
     unfold rl_law10_NaturalDivides_k8 at h
     show (_ : Exit → St → Prop) .normal ⟨[(2, vb x18)], [], 0⟩
     refine AW.thenQ_normal ?_
     refine AW.ret ?_
     refine AW.thenQ_ret ?_
     obtain rfl := some_inj h
     exact ⟨_, Conv.refl _ _, .inr rfl, OutOk.mk [] 0 (out0 := vb x18) (ps := [True]) (by kernel_rfl) ⟨trivial, trivial⟩ (by kernel_rfl) (by kernel_rfl)⟩
    ·
     by_cases c19 : (y15 == 9) = true
     ·rw [if_pos c19] at h
      by_cases c20 : (((y13.length : Nat) : Int) == 0) = true
      ·rw [if_pos c20] at h
       refine AW.reg tt_okL7 [2] [] [{}, { h := { b := some true } }, {}, {}, {}, { h := { b := some true } }] ⟨[(2, vb (((y14.length : Nat) : Int) == 0))], [], 34⟩ [True, (y15 == 9) = true, True, True, True, (((y13.length : Nat) : Int) == 0) = true, True, True, True, True, True, True, True] (by kernel_rfl) (by kernel_rfl) ⟨trivial, c19, trivial, trivial, trivial, c20, trivial, trivial, trivial, trivial, trivial, trivial, trivial, trivial⟩ ?_
       exact joinQ_leaf ((((y14.length : Nat) : Int) == 0)) h (conv_ren [] [2] (n := 0) (by kernel_rfl) (by kernel_rfl))
      ·rw [if_neg c20] at h
       refine AW.reg tt_okL7 [2] [] [{}, { h := { b := some true } }, {}, {}, {}, { h := { b := some false } }] ⟨[(2, vb false)], [], 34⟩ [True, (y15 == 9) = true, True, True, True, (((y13.length : Nat) : Int) == 0) = false, True, True, True, True, True, True, True] (by kernel_rfl) (by kernel_rfl) ⟨trivial, c19, trivial, trivial, trivial, (off_false c20), trivial, trivial, trivial, trivial, trivial, trivial, trivial, trivial⟩ ?_
       exact joinQ_leaf (false) h (conv_ren [] [2] (n := 0) (by kernel_rfl) (by kernel_rfl))
     ·rw [if_neg c19] at h
      refine AW.reg tt_okL7 [2] [] [{}, { h := { b := some false } }] ⟨[(2, vb false)], [], 34⟩ [True, (y15 == 9) = false, True, True, True, True, True, True, True, True, True, True, True] (by kernel_rfl) (by kernel_rfl) ⟨trivial, (off_false c19), trivial, trivial, trivial, trivial, trivial, trivial, trivial, trivial, trivial, trivial, trivial, trivial⟩ ?_
      exact joinQ_leaf (false) h (conv_ren [] [2] (n := 0) (by kernel_rfl) (by kernel_rfl))
   ·rw [if_neg (by rw [c17]; exact Bool.false_ne_true)] at h
    refine AW.skip ?_
    refine AW.thenQ_normal ?_
    refine AW.seq ?_
    obtain ⟨y21, y22, e23, h⟩ := bind2_some h
    refine AW.reg tt_okL7 [4, 5, 6, 7, 8, 9, 10] [4, 6] [{}, {}, { call := some { ids := [], frz := [], flat := false, cnt := 0, args := [vl 1 Ru32 y13, vl 1 Ru32 y10], out := .tup [vl 1 Ru32 y21, vi64 y22], outb := [] } }] ⟨[(10, vi64 y22), (9, vl 1 Ru32 y21), (8, vi64 y15), (7, vl 1 Ru32 y14), (6, vl 1 Ru32 y13), (5, .c (.ref 6 1 0 y10.length)), (4, .c (.ref 4 1 0 y7.length))], [(4, .row 37 true 1 y7.length (Ru32 y7)), (6, .row 37 true 1 y10.length (Ru32 y10))], 28⟩ [True, True, ((True) ∧ (0 + y10.length ≤ y10.length) ∧ (True)) ∧ (All2 ArgLe [vl 1 Ru32 y13, vl 1 Ru32 y10] [vl 1 Ru32 y13, vl 1 Ru32 y10]) ∧ ((false = true → flatB [])) ∧ (Con Try.prog 15 [vl 1 Ru32 y13, vl 1 Ru32 y10] [] (.tup [vl 1 Ru32 y21, vi64 y22]) []), True, True, True, True, True] (by kernel_rfl) (by kernel_rfl) ⟨trivial, trivial, ⟨⟨trivial, le0, trivial⟩, ⟨ArgLe.refl _, ArgLe.refl _, trivial⟩, (fun h => by cases h), (natural_Mul_con y13 y10 y21 y22 e23)⟩, trivial, trivial, trivial, trivial, trivial, trivial⟩ ?_
    refine AW.thenQ_normal ?_
    refine AW.seq ?_
    obtain ⟨y24, y25, e26, h⟩ := bind2_some h
    refine AW.reg tt_okL7 [4, 5, 6, 7, 8, 10, 11, 12] [4, 6] [{}, {}, { call := some { ids := [], frz := [], flat := false, cnt := 0, args := [vl 1 Ru32 y21, vl 1 Ru32 y14], out := .tup [vl 1 Ru32 y24, vi64 y25], outb := [] } }] ⟨[(12, vi64 y25), (11, vl 1 Ru32 y24), (10, vi64 y22), (8, vi64 y15), (7, vl 1 Ru32 y14), (6, vl 1 Ru32 y13), (5, .c (.ref 6 1 0 y10.length)), (4, .c (.ref 4 1 0 y7.length))], [(4, .row 37 true 1 y7.length (Ru32 y7)), (6, .row 37 true 1 y10.length (Ru32 y10))], 35⟩ [True, True, ((True) ∧ (True) ∧ (True)) ∧ (All2 ArgLe [vl 1 Ru32 y21, vl 1 Ru32 y14] [vl 1 Ru32 y21, vl 1 Ru32 y14]) ∧ ((false = true → flatB [])) ∧ (Con Try.prog 14 [vl 1 Ru32 y21, vl 1 Ru32 y14] [] (.tup [vl 1 Ru32 y24, vi64 y25]) []), True, True, True, True, True] (by kernel_rfl) (by kernel_rfl) ⟨trivial, trivial, ⟨⟨trivial, trivial, trivial⟩, ⟨ArgLe.refl _, ArgLe.refl _, trivial⟩, (fun h => by cases h), (natural_Add_con y21 y14 y24 y25 e26)⟩, trivial, trivial, trivial, trivial, trivial, trivial⟩ ?_
    refine AW.thenQ_normal ?_
    refine AW.seq ?_
    refine AW.join (ι := Bool) (fun v => ⟨[(2, vb v)], [], 0⟩) (fun v : Bool => rl_law10_NaturalDivides_k10 v = some r) (fun v h => ?_) ?_
    ·
     obtain ⟨x27, rfl⟩ : ∃ x, x = v := ⟨_, rfl⟩
     replace h : rl_law10_NaturalDivides_k10 x27 = some r := h
     unfold rl_law10_NaturalDivides_k10 at h
     show (_ : Exit → St → Prop) .normal ⟨[(2, vb x27)], [], 0⟩
     refine AW.thenQ_normal ?_
     refine AW.ret ?_
     obtain rfl := some_inj h
     exact ⟨_, Conv.refl _ _, .inr rfl, OutOk.mk [] 0 (out0 := vb x27) (ps := [True]) (by kernel_rfl) ⟨trivial, trivial⟩ (by kernel_rfl) (by kernel_rfl)⟩
    ·
     by_cases c28 : (y15 == 0) = true
     ·rw [if_pos c28] at h
      by_cases c29 : (y22 == 0) = true
      ·rw [if_pos c29] at h
       by_cases c30 : (y25 == 0) = true
       ·rw [if_pos c30] at h
        obtain ⟨y31, e32, h⟩ := bnd_some h
        by_cases c33 : y31 = true
        ·rw [if_pos c33] at h; have hs := h; subst c33; have h := hs; clear hs
         obtain ⟨y34, e35, h⟩ := bnd_some h
         by_cases c36 : (decide (y34 < 0)) = true
         ·rw [if_pos c36] at h
          obtain ⟨y37, e38, h⟩ := bnd_some h
          by_cases c39 : y37 = true
          ·rw [if_pos c39] at h; have hs := h; subst c39; have h := hs; clear hs
           obtain ⟨y40, e41, h⟩ := bnd_some h
           refine AW.reg tt_okL7 [2] [] [{}, { h := { b := some true } }, {}, {}, { h := { b := some true } }, {}, {}, {}, { h := { b := some true } }, {}, {}, {}, {}, { call := some { ids := [], frz := [], flat := true, cnt := 0, args := [vl 1 Ru32 y24, vl 1 Ru32 y7], out := vb true, outb := [] } }, {}, {}, {}, {}, { call := some { ids := [], frz := [], flat := true, cnt := 0, args := [vl 1 Ru32 y14, vl 1 Ru32 y10], out := vi64 y34, outb := [] } }, { h := { b := some true } }, {}, {}, {}, { call := some { ids := [], frz := [], flat := true, cnt := 0, args := [vl 1 Ru32 y13], out := vb true, outb := [] } }, {}, {}, {}, { call := some { ids := [], frz := [], flat := true, cnt := 0, args := [vl 1 Ru32 y14], out := vb y40, outb := [] } }] ⟨[(2, vb y40)], [], 61⟩ [True, (y15 == 0) = true, True, True, (y22 == 0) = true, True, True, True, (y25 == 0) = true, True, True, True, True, ((True) ∧ (0 + y7.length ≤ y7.length) ∧ (True)) ∧ (All2 ArgLe [vl 1 Ru32 y24, vl 1 Ru32 y7] [vl 1 Ru32 y24, vl 1 Ru32 y7]) ∧ ((true = true → flatB [])) ∧ (Con Try.prog 16 [vl 1 Ru32 y24, vl 1 Ru32 y7] [] (vb true) []), True, True, True, True, ((True) ∧ (0 + y10.length ≤ y10.length) ∧ (True)) ∧ (All2 ArgLe [vl 1 Ru32 y14, vl 1 Ru32 y10] [vl 1 Ru32 y14, vl 1 Ru32 y10]) ∧ ((true = true → flatB [])) ∧ (Con Try.prog 22 [vl 1 Ru32 y14, vl 1 Ru32 y10] [] (vi64 y34) []), (decide (y34 < 0)) = true, True, True, True, ((True) ∧ (True)) ∧ (All2 ArgLe [vl 1 Ru32 y13] [vl 1 Ru32 y13]) ∧ ((true = true → flatB [])) ∧ (Con Try.prog 17 [vl 1 Ru32 y13] [] (vb true) []), True, True, True, ((True) ∧ (True)) ∧ (All2 ArgLe [vl 1 Ru32 y14] [vl 1 Ru32 y14]) ∧ ((true = true → flatB [])) ∧ (Con Try.prog 17 [vl 1 Ru32 y14] [] (vb y40) []), True, True] (by kernel_rfl) (by kernel_rfl) ⟨trivial, c28, trivial, trivial, c29, trivial, trivial, trivial, c30, trivial, trivial, trivial, trivial, ⟨⟨trivial, le0, trivial⟩, ⟨ArgLe.refl _, ArgLe.refl _, trivial⟩, (fun _ => trivial), (rl_ref10_Same_con y24 y7 true e32)⟩, trivial, trivial, trivial, trivial, ⟨⟨trivial, le0, trivial⟩, ⟨ArgLe.refl _, ArgLe.refl _, trivial⟩, (fun _ => trivial), (natural_Compare_con y14 y10 y34 e35)⟩, c36, trivial, trivial, trivial, ⟨⟨trivial, trivial⟩, ⟨ArgLe.refl _, trivial⟩, (fun _ => trivial), (natural_Valid_con y13 true e38)⟩, trivial, trivial, trivial, ⟨⟨trivial, trivial⟩, ⟨ArgLe.refl _, trivial⟩, (fun _ => trivial), (natural_Valid_con y14 y40 e41)⟩, trivial, trivial, trivial⟩ ?_
           exact joinQ_leaf (y40) h (conv_ren [] [2] (n := 0) (by kernel_rfl) (by kernel_rfl))
          ·rw [if_neg c39] at h; have hs := h; have c39 := off_false c39; subst c39; have h := hs; clear hs
           refine AW.reg tt_okL7 [2] [] [{}, { h := { b := some true } }, {}, {}, { h := { b := some true } }, {}, {}, {}, { h := { b := some true } }, {}, {}, {}, {}, { call := some { ids := [], frz := [], flat := true, cnt := 0, args := [vl 1 Ru32 y24, vl 1 Ru32 y7], out := vb true, outb := [] } }, {}, {}, {}, {}, { call := some { ids := [], frz := [], flat := true, cnt := 0, args := [vl 1 Ru32 y14, vl 1 Ru32 y10], out := vi64 y34, outb := [] } }, { h := { b := some true } }, {}, {}, {}, { call := some { ids := [], frz := [], flat := true, cnt := 0, args := [vl 1 Ru32 y13], out := vb false, outb := [] } }] ⟨[(2, vb false)], [], 62⟩ [True, (y15 == 0) = true, True, True, (y22 == 0) = true, True, True, True, (y25 == 0) = true, True, True, True, True, ((True) ∧ (0 + y7.length ≤ y7.length) ∧ (True)) ∧ (All2 ArgLe [vl 1 Ru32 y24, vl 1 Ru32 y7] [vl 1 Ru32 y24, vl 1 Ru32 y7]) ∧ ((true = true → flatB [])) ∧ (Con Try.prog 16 [vl 1 Ru32 y24, vl 1 Ru32 y7] [] (vb true) []), True, True, True, True, ((True) ∧ (0 + y10.length ≤ y10.length) ∧ (True)) ∧ (All2 ArgLe [vl 1 Ru32 y14, vl 1 Ru32 y10] [vl 1 Ru32 y14, vl 1 Ru32 y10]) ∧ ((true = true → flatB [])) ∧ (Con Try.prog 22 [vl 1 Ru32 y14, vl 1 Ru32 y10] [] (vi64 y34) []), (decide (y34 < 0)) = true, True, True, True, ((True) ∧ (True)) ∧ (All2 ArgLe [vl 1 Ru32 y13] [vl 1 Ru32 y13]) ∧ ((true = true → flatB [])) ∧ (Con Try.prog 17 [vl 1 Ru32 y13] [] (vb false) []), True, True, True, True, True, True] (by kernel_rfl) (by kernel_rfl) ⟨trivial, c28, trivial, trivial, c29, trivial, trivial, trivial, c30, trivial, trivial, trivial, trivial, ⟨⟨trivial, le0, trivial⟩, ⟨ArgLe.refl _, ArgLe.refl _, trivial⟩, (fun _ => trivial), (rl_ref10_Same_con y24 y7 true e32)⟩, trivial, trivial, trivial, trivial, ⟨⟨trivial, le0, trivial⟩, ⟨ArgLe.refl _, ArgLe.refl _, trivial⟩, (fun _ => trivial), (natural_Compare_con y14 y10 y34 e35)⟩, c36, trivial, trivial, trivial, ⟨⟨trivial, trivial⟩, ⟨ArgLe.refl _, trivial⟩, (fun _ => trivial), (natural_Valid_con y13 false e38)⟩, trivial, trivial, trivial, trivial, trivial, trivial, trivial⟩ ?_
           exact joinQ_leaf (false) h (conv_ren [] [2] (n := 0) (by kernel_rfl) (by kernel_rfl))
         ·rw [if_neg c36] at h
          refine AW.reg tt_okL7 [2] [] [{}, { h := { b := some true } }, {}, {}, { h := { b := some true } }, {}, {}, {}, { h := { b := some true } }, {}, {}, {}, {}, { call := some { ids := [], frz := [], flat := true, cnt := 0, args := [vl 1 Ru32 y24, vl 1 Ru32 y7], out := vb true, outb := [] } }, {}, {}, {}, {}, { call := some { ids := [], frz := [], flat := true, cnt := 0, args := [vl 1 Ru32 y14, vl 1 Ru32 y10], out := vi64 y34, outb := [] } }, { h := { b := some false } }] ⟨[(2, vb false)], [], 63⟩ [True, (y15 == 0) = true, True, True, (y22 == 0) = true, True, True, True, (y25 == 0) = true, True, True, True, True, ((True) ∧ (0 + y7.length ≤ y7.length) ∧ (True)) ∧ (All2 ArgLe [vl 1 Ru32 y24, vl 1 Ru32 y7] [vl 1 Ru32 y24, vl 1 Ru32 y7]) ∧ ((true = true → flatB [])) ∧ (Con Try.prog 16 [vl 1 Ru32 y24, vl 1 Ru32 y7] [] (vb true) []), True, True, True, True, ((True) ∧ (0 + y10.length ≤ y10.length) ∧ (True)) ∧ (All2 ArgLe [vl 1 Ru32 y14, vl 1 Ru32 y10] [vl 1 Ru32 y14, vl 1 Ru32 y10]) ∧ ((true = true → flatB [])) ∧ (Con Try.prog 22 [vl 1 Ru32 y14, vl 1 Ru32 y10] [] (vi64 y34) []), (decide (y34 < 0)) = false, True, True, True, True, True, True, True, True, True, True] (by kernel_rfl) (by kernel_rfl) ⟨trivial, c28, trivial, trivial, c29, trivial, trivial, trivial, c30, trivial, trivial, trivial, trivial, ⟨⟨trivial, le0, trivial⟩, ⟨ArgLe.refl _, ArgLe.refl _, trivial⟩, (fun _ => trivial), (rl_ref10_Same_con y24 y7 true e32)⟩, trivial, trivial, trivial, trivial, ⟨⟨trivial, le0, trivial⟩, ⟨ArgLe.refl _, ArgLe.refl _, trivial⟩, (fun _ => trivial), (natural_Compare_con y14 y10 y34 e35)⟩, (off_false c36), trivial, trivial, trivial, trivial, trivial, trivial, trivial, trivial, trivial, trivial, trivial⟩ ?_
          exact joinQ_leaf (false) h (conv_ren [] [2] (n := 0) (by kernel_rfl) (by kernel_rfl))
        ·rw [if_neg c33] at h; have hs := h; have c33 := off_false c33; subst c33; have h := hs; clear hs
         refine AW.reg tt_okL7 [2] [] [{}, { h := { b := some true } }, {}, {}, { h := { b := some true } }, {}, {}, {}, { h := { b := some true } }, {}, {}, {}, {}, { call := some { ids := [], frz := [], flat := true, cnt := 0, args := [vl 1 Ru32 y24, vl 1 Ru32 y7], out := vb false, outb := [] } }] ⟨[(2, vb false)], [], 64⟩ [True, (y15 == 0) = true, True, True, (y22 == 0) = true, True, True, True, (y25 == 0) = true, True, True, True, True, ((True) ∧ (0 + y7.length ≤ y7.length) ∧ (True)) ∧ (All2 ArgLe [vl 1 Ru32 y24, vl 1 Ru32 y7] [vl 1 Ru32 y24, vl 1 Ru32 y7]) ∧ ((true = true → flatB [])) ∧ (Con Try.prog 16 [vl 1 Ru32 y24, vl 1 Ru32 y7] [] (vb false) []), True, True, True, True, True, True, True, True, True, True, True, True, True, True, True, True] (by kernel_rfl) (by kernel_rfl) ⟨trivial, c28, trivial, trivial, c29, trivial, trivial, trivial, c30, trivial, trivial, trivial, trivial, ⟨⟨trivial, le0, trivial⟩, ⟨ArgLe.refl _, ArgLe.refl _, trivial⟩, (fun _ => trivial), (rl_ref10_Same_con y24 y7 false e32)⟩, trivial, trivial, trivial, trivial, trivial, trivial, trivial, trivial, trivial, trivial, trivial, trivial, trivial, trivial, trivial, trivial, trivial⟩ ?_
         exact joinQ_leaf (false) h (conv_ren [] [2] (n := 0) (by kernel_rfl) (by kernel_rfl))
       ·rw [if_neg c30] at h
        refine AW.reg tt_okL7 [2] [] [{}, { h := { b := some true } }, {}, {}, { h := { b := some true } }, {}, {}, {}, { h := { b := some false } }] ⟨[(2, vb false)], [], 65⟩ [True, (y15 == 0) = true, True, True, (y22 == 0) = true, True, True, True, (y25 == 0) = false, True, True, True, True, True, True, True, True, True, True, True, True, True, True, True, True, True, True, True, True, True] (by kernel_rfl) (by kernel_rfl) ⟨trivial, c28, trivial, trivial, c29, trivial, trivial, trivial, (off_false c30), trivial, trivial, trivial, trivial, trivial, trivial, trivial, trivial, trivial, trivial, trivial, trivial, trivial, trivial, trivial, trivial, trivial, trivial, trivial, trivial, trivial, trivial⟩ ?_
        exact joinQ_leaf (false) h (conv_ren [] [2] (n := 0) (by kernel_rfl) (by kernel_rfl))
      ·rw [if_neg c29] at h
       refine AW.reg tt_okL7 [2] [] [{}, { h := { b := some true } }, {}, {}, { h := { b := some false } }] ⟨[(2, vb false)], [], 65⟩ [True, (y15 == 0) = true, True, True, (y22 == 0) = false, True, True, True, True, True, True, True, True, True, True, True, True, True, True, True, True, True, True, True, True, True, True, True, True, True] (by kernel_rfl) (by kernel_rfl) ⟨trivial, c28, trivial, trivial, (off_false c29), trivial, trivial, trivial, trivial, trivial, trivial, trivial, trivial, trivial, trivial, trivial, trivial, trivial, trivial, trivial, trivial, trivial, trivial, trivial, trivial, trivial, trivial, trivial, trivial, trivial, trivial⟩ ?_
       exact joinQ_leaf (false) h (conv_ren [] [2] (n := 0) (by kernel_rfl) (by kernel_rfl))
     ·rw [if_neg c28] at h
      refine AW.reg tt_okL7 [2] [] [{}, { h := { b := some false } }] ⟨[(2, vb false)], [], 65⟩ [True, (y15 == 0) = false, True, True, True, True, True, True, True, True, True, True, True, True, True, True, True, True, True, True, True, True, True, True, True, True, True, True, True, True] (by kernel_rfl) (by kernel_rfl) ⟨trivial, (off_false c28), trivial, trivial, trivial, trivial, trivial, trivial, trivial, trivial, trivial, trivial, trivial, trivial, trivial, trivial, trivial, trivial, trivial, trivial, trivial, trivial, trivial, trivial, trivial, trivial, trivial, trivial, trivial, trivial, trivial⟩ ?_
      exact joinQ_leaf (false) h (conv_ren [] [2] (n := 0) (by kernel_rfl) (by kernel_rfl))
 ·
  obtain ⟨y42, e43, h⟩ := bnd_some h
  by_cases c44 : (!y42) = true
  ·rw [if_pos c44] at h
   refine AW.reg tt_okL7 [0, 19] [] [{ call := some { ids := [], frz := [], flat := true, cnt := 0, args := [], out := vb y42, outb := [] } }, { h := { b := some true } }] ⟨[(19, vb true), (0, vl 1 Ri64 p0)], [], 7⟩ [(True) ∧ (All2 ArgLe [] []) ∧ ((true = true → flatB [])) ∧ (Con Try.prog 10 [] [] (vb y42) []), (!y42) = true, True, True, True, True, True] (by kernel_rfl) (by kernel_rfl) ⟨⟨trivial, trivial, (fun _ => trivial), (rl_law10_awake_con y42 e43)⟩, c44, trivial, trivial, trivial, trivial, trivial, trivial⟩ ?_
   exact joinQ_leaf (true) h (conv_ren [] [0, 19] (n := 0) (by kernel_rfl) (by kernel_rfl))
  ·rw [if_neg c44] at h
   obtain ⟨y45, e46, h⟩ := bnd_some h
   refine AW.reg tt_okL7 [0, 19] [] [{ call := some { ids := [], frz := [], flat := true, cnt := 0, args := [], out := vb y42, outb := [] } }, { h := { b := some false } }, {}, {}, { call := some { ids := [], frz := [], flat := true, cnt := 0, args := [vl 1 Ri64 p0], out := vb y45, outb := [] } }] ⟨[(19, vb (!y45)), (0, vl 1 Ri64 p0)], [], 6⟩ [(True) ∧ (All2 ArgLe [] []) ∧ ((true = true → flatB [])) ∧ (Con Try.prog 10 [] [] (vb y42) []), (!y42) = false, True, True, ((True) ∧ (True)) ∧ (All2 ArgLe [vl 1 Ri64 p0] [vl 1 Ri64 p0]) ∧ ((true = true → flatB [])) ∧ (Con Try.prog 11 [vl 1 Ri64 p0] [] (vb y45) []), True, True] (by kernel_rfl) (by kernel_rfl) ⟨⟨trivial, trivial, (fun _ => trivial), (rl_law10_awake_con y42 e43)⟩, (off_false c44), trivial, trivial, ⟨⟨trivial, trivial⟩, ⟨ArgLe.refl _, trivial⟩, (fun _ => trivial), (rl_make_Few_con p0 y45 e46)⟩, trivial, trivial, trivial⟩ ?_
   exact joinQ_leaf (!y45) h (conv_ren [] [0, 19] (n := 0) (by kernel_rfl) (by kernel_rfl))
end Go.Proofs.Yteaijglfenedoaa
