/- Printed by a program of mine (vmgen.py): Go functions, and what they come to. -/
import Derived.Test.YteaijglfenedoaaVp
import Derived.Test.YteaijglfenedoaaRows
import Derived.Test.YteaijglfenedoaaG2
namespace Go.Proofs.Yteaijglfenedoaa
open Vm
set_option linter.unusedVariables false
set_option linter.unusedSimpArgs false
set_option linter.constructorNameAsVariable false
def ttlL5 : List (Nat × TI) := [(3, ⟨.int .i64, 1, 8, [.int .i64 0]⟩), (4, ⟨.bool, 1, 1, [.bool false]⟩), (5, ⟨.int .u8, 1, 1, [.int .u8 0]⟩), (9, ⟨.str, 1, 16, [.string ⟨#[]⟩]⟩), (22, ⟨.slice 3, 1, 24, [.slice none 0 0]⟩), (25, ⟨.ptr 52, 1, 8, [.pointer none]⟩), (27, ⟨.slice 37, 1, 24, [.slice none 0 0]⟩), (28, ⟨.slice 37, 1, 24, [.slice none 0 0]⟩), (30, ⟨.int .i64, 1, 8, [.int .i64 0]⟩), (37, ⟨.int .u32, 1, 4, [.int .u32 0]⟩), (41, ⟨.int .u64, 1, 8, [.int .u64 0]⟩), (52, ⟨.struct [(22, 0), (3, 1), (41, 2)], 3, 40, [.slice none 0 0, .int .i64 0, .int .u64 0]⟩), (64, ⟨.slice 5, 1, 24, [.slice none 0 0]⟩)]
theorem tt_okL5 : TTok Try.prog (Vm.look ttlL5) := ttok_of ⟨⟨by kernel_rfl, by kernel_rfl⟩, ⟨by kernel_rfl, by kernel_rfl⟩, ⟨by kernel_rfl, by kernel_rfl⟩, ⟨by kernel_rfl, by kernel_rfl⟩, ⟨by kernel_rfl, by kernel_rfl⟩, ⟨by kernel_rfl, by kernel_rfl⟩, ⟨by kernel_rfl, by kernel_rfl⟩, ⟨by kernel_rfl, by kernel_rfl⟩, ⟨by kernel_rfl, by kernel_rfl⟩, ⟨by kernel_rfl, by kernel_rfl⟩, ⟨by kernel_rfl, by kernel_rfl⟩, ⟨by kernel_rfl, by kernel_rfl⟩, ⟨by kernel_rfl, by kernel_rfl⟩, trivial⟩
theorem moL5 : Try.prog.follows .mixedOrders = true := by kernel_rfl
/-! recordlink/recordlinklaw10.NaturalInts -/
noncomputable def rl_law10_NaturalInts_k3 (x25 : Bool) : Option Bool := some x25
noncomputable def rl_law10_NaturalInts_k1 (p0 : Int) (p1 : Int) (y4 : List Int) (y5 : Int) (y7 : List Int) (y8 : Int) (y11 : Int) (y14 : Int) (y16 : Int) (y17 : Bool) (y19 : Int) (y20 : Bool) (x22 : Int) : Option Bool := (some (IntKind.u64.wrap ((IntKind.u64.wrap p0) * (IntKind.u64.wrap p1)))).bind fun z23 => (if (y5 == 0) = true then (if (y8 == 0) = true then (if (y11 == 0) = true then (if (y14 == 0) = true then (if y17 = true then (if (y16 == (IntKind.i64.wrap ((IntKind.i64.wrap p0) + (IntKind.i64.wrap p1)))) = true then (if (y20 == (decide (z23 < 9223372036854775808))) = true then (if (!y20) = true then ((natural_Compare y4 y7).bind fun y34 => (rl_law10_NaturalInts_k3 (y34 == x22))) else (if ((IntKind.u64.wrap y19) == z23) = true then ((natural_Compare y4 y7).bind fun y37 => (rl_law10_NaturalInts_k3 (y37 == x22))) else (rl_law10_NaturalInts_k3 false))) else (rl_law10_NaturalInts_k3 false)) else (rl_law10_NaturalInts_k3 false)) else (rl_law10_NaturalInts_k3 false)) else (rl_law10_NaturalInts_k3 false)) else (rl_law10_NaturalInts_k3 false)) else (rl_law10_NaturalInts_k3 false)) else (rl_law10_NaturalInts_k3 false))
noncomputable def rl_law10_NaturalInts (p0 : Int) (p1 : Int) : Option Bool := (rl_law10_awake).bind fun y1 => (if (!y1) = true then (some false) else (bind2 (natural_FromInt (IntKind.i64.wrap p0)) fun y4 y5 => (bind2 (natural_FromInt (IntKind.i64.wrap p1)) fun y7 y8 => (bind2 (natural_Add y4 y7) fun y10 y11 => (bind2 (natural_Mul y4 y7) fun y13 y14 => (bind2 (natural_Int y10) fun y16 y17 => (bind2 (natural_Int y13) fun y19 y20 => (if (decide (p0 < p1)) = true then (rl_law10_NaturalInts_k1 p0 p1 y4 y5 y7 y8 y11 y14 y16 y17 y19 y20 (-1)) else (if (decide (p0 > p1)) = true then (rl_law10_NaturalInts_k1 p0 p1 y4 y5 y7 y8 y11 y14 y16 y17 y19 y20 1) else (rl_law10_NaturalInts_k1 p0 p1 y4 y5 y7 y8 y11 y14 y16 y17 y19 y20 0))))))))))
set_option maxRecDepth 100000 in
set_option maxHeartbeats 10000000 in
theorem rl_law10_NaturalInts_con (p0 : Int) (p1 : Int) (r0 : Bool) (h : rl_law10_NaturalInts p0 p1 = some r0) : Con Try.prog 5 [vu32 p0, vu32 p1] [] (vb r0) [] := by
 revert h; generalize r0 = r; intro h
 refine con_of tt_okL5 0 Try.func5 (by kernel_rfl) rfl (by kernel_rfl) (fun base X hk => AW.post ?_)
 unfold rl_law10_NaturalInts at h
 refine AW.seq ?_
 refine AW.reg tt_okL5 [0, 1] [] [] ⟨[(0, vu32 p0), (1, vu32 p1)], [], 1⟩ [True] (by kernel_rfl) (by kernel_rfl) ⟨trivial, trivial⟩ ?_
 refine AW.thenQ_normal ?_
 refine AW.seq ?_
 refine AW.seq ?_
 obtain ⟨y1, e2, h⟩ := bnd_some h
 refine AW.reg tt_okL5 [0, 1, 20] [] [{ call := some { ids := [], frz := [], flat := true, cnt := 0, args := [], out := vb y1, outb := [] } }] ⟨[(20, vb (!y1)), (0, vu32 p0), (1, vu32 p1)], [], 2⟩ [(True) ∧ (All2 ArgLe [] []) ∧ ((true = true → flatB [])) ∧ (Con Try.prog 10 [] [] (vb y1) []), True] (by kernel_rfl) (by kernel_rfl) ⟨⟨trivial, trivial, (fun _ => trivial), (rl_law10_awake_con y1 e2)⟩, trivial, trivial⟩ ?_
 refine AW.thenQ_normal ?_
 refine AW.cond (b := !y1) (by kernel_rfl) (fun c3 => ?_) (fun c3 => ?_)
 ·rw [if_pos c3] at h
  refine AW.seq ?_
  refine AW.reg tt_okL5 [4] [] [] ⟨[(4, vb false)], [], 3⟩ [True] (by kernel_rfl) (by kernel_rfl) ⟨trivial, trivial⟩ ?_
  refine AW.thenQ_normal ?_
  refine AW.ret ?_
  refine AW.thenQ_ret ?_
  obtain rfl := some_inj h
  exact ⟨_, Conv.refl _ _, .inr rfl, OutOk.mk [] 0 (out0 := vb false) (ps := [True]) (by kernel_rfl) ⟨trivial, trivial⟩ (by kernel_rfl) (by kernel_rfl)⟩
 ·rw [if_neg (by rw [c3]; exact Bool.false_ne_true)] at h
  refine AW.skip ?_
  refine AW.thenQ_normal ?_
  refine AW.seq ?_
  obtain ⟨y4, y5, e6, h⟩ := bind2_some h
  refine AW.reg tt_okL5 [0, 1, 5, 6] [] [{}, {}, { call := some { ids := [], frz := [], flat := false, cnt := 0, args := [vi64 (IntKind.i64.wrap p0)], out := .tup [vl 1 Ru32 y4, vi64 y5], outb := [] } }] ⟨[(6, vi64 y5), (5, vl 1 Ru32 y4), (0, vu32 p0), (1, vu32 p1)], [], 9⟩ [True, True, ((True) ∧ (True)) ∧ (All2 ArgLe [vi64 (IntKind.i64.wrap p0)] [vi64 (IntKind.i64.wrap p0)]) ∧ ((false = true → flatB [])) ∧ (Con Try.prog 20 [vi64 (IntKind.i64.wrap p0)] [] (.tup [vl 1 Ru32 y4, vi64 y5]) []), True, True, True, True, True] (by kernel_rfl) (by kernel_rfl) ⟨trivial, trivial, ⟨⟨trivial, trivial⟩, ⟨ArgLe.refl _, trivial⟩, (fun h => by cases h), (natural_FromInt_con (IntKind.i64.wrap p0) y4 y5 e6)⟩, trivial, trivial, trivial, trivial, trivial, trivial⟩ ?_
  refine AW.thenQ_normal ?_
  refine AW.seq ?_
  obtain ⟨y7, y8, e9, h⟩ := bind2_some h
  refine AW.reg tt_okL5 [0, 1, 5, 6, 7, 8] [] [{}, {}, { call := some { ids := [], frz := [], flat := false, cnt := 0, args := [vi64 (IntKind.i64.wrap p1)], out := .tup [vl 1 Ru32 y7, vi64 y8], outb := [] } }] ⟨[(8, vi64 y8), (7, vl 1 Ru32 y7), (6, vi64 y5), (5, vl 1 Ru32 y4), (0, vu32 p0), (1, vu32 p1)], [], 16⟩ [True, True, ((True) ∧ (True)) ∧ (All2 ArgLe [vi64 (IntKind.i64.wrap p1)] [vi64 (IntKind.i64.wrap p1)]) ∧ ((false = true → flatB [])) ∧ (Con Try.prog 20 [vi64 (IntKind.i64.wrap p1)] [] (.tup [vl 1 Ru32 y7, vi64 y8]) []), True, True, True, True, True] (by kernel_rfl) (by kernel_rfl) ⟨trivial, trivial, ⟨⟨trivial, trivial⟩, ⟨ArgLe.refl _, trivial⟩, (fun h => by cases h), (natural_FromInt_con (IntKind.i64.wrap p1) y7 y8 e9)⟩, trivial, trivial, trivial, trivial, trivial, trivial⟩ ?_
  refine AW.thenQ_normal ?_
  refine AW.seq ?_
  obtain ⟨y10, y11, e12, h⟩ := bind2_some h
  refine AW.reg tt_okL5 [0, 1, 5, 6, 7, 8, 9, 10] [] [{}, {}, { call := some { ids := [], frz := [], flat := false, cnt := 0, args := [vl 1 Ru32 y4, vl 1 Ru32 y7], out := .tup [vl 1 Ru32 y10, vi64 y11], outb := [] } }] ⟨[(10, vi64 y11), (9, vl 1 Ru32 y10), (8, vi64 y8), (7, vl 1 Ru32 y7), (6, vi64 y5), (5, vl 1 Ru32 y4), (0, vu32 p0), (1, vu32 p1)], [], 23⟩ [True, True, ((True) ∧ (True) ∧ (True)) ∧ (All2 ArgLe [vl 1 Ru32 y4, vl 1 Ru32 y7] [vl 1 Ru32 y4, vl 1 Ru32 y7]) ∧ ((false = true → flatB [])) ∧ (Con Try.prog 14 [vl 1 Ru32 y4, vl 1 Ru32 y7] [] (.tup [vl 1 Ru32 y10, vi64 y11]) []), True, True, True, True, True] (by kernel_rfl) (by kernel_rfl) ⟨trivial, trivial, ⟨⟨trivial, trivial, trivial⟩, ⟨ArgLe.refl _, ArgLe.refl _, trivial⟩, (fun h => by cases h), (natural_Add_con y4 y7 y10 y11 e12)⟩, trivial, trivial, trivial, trivial, trivial, trivial⟩ ?_
  refine AW.thenQ_normal ?_
  refine AW.seq ?_
  obtain ⟨y13, y14, e15, h⟩ := bind2_some h
  refine AW.reg tt_okL5 [0, 1, 5, 6, 7, 8, 9, 10, 11, 12] [] [{}, {}, { call := some { ids := [], frz := [], flat := false, cnt := 0, args := [vl 1 Ru32 y4, vl 1 Ru32 y7], out := .tup [vl 1 Ru32 y13, vi64 y14], outb := [] } }] ⟨[(12, vi64 y14), (11, vl 1 Ru32 y13), (10, vi64 y11), (9, vl 1 Ru32 y10), (8, vi64 y8), (7, vl 1 Ru32 y7), (6, vi64 y5), (5, vl 1 Ru32 y4), (0, vu32 p0), (1, vu32 p1)], [], 30⟩ [True, True, ((True) ∧ (True) ∧ (True)) ∧ (All2 ArgLe [vl 1 Ru32 y4, vl 1 Ru32 y7] [vl 1 Ru32 y4, vl 1 Ru32 y7]) ∧ ((false = true → flatB [])) ∧ (Con Try.prog 15 [vl 1 Ru32 y4, vl 1 Ru32 y7] [] (.tup [vl 1 Ru32 y13, vi64 y14]) []), True, True, True, True, True] (by kernel_rfl) (by kernel_rfl) ⟨trivial, trivial, ⟨⟨trivial, trivial, trivial⟩, ⟨ArgLe.refl _, ArgLe.refl _, trivial⟩, (fun h => by cases h), (natural_Mul_con y4 y7 y13 y14 e15)⟩, trivial, trivial, trivial, trivial, trivial, trivial⟩ ?_
  refine AW.thenQ_normal ?_
  refine AW.seq ?_
  obtain ⟨y16, y17, e18, h⟩ := bind2_some h
  refine AW.reg tt_okL5 [0, 1, 5, 6, 7, 8, 10, 11, 12, 13, 14] [] [{}, { call := some { ids := [], frz := [], flat := true, cnt := 0, args := [vl 1 Ru32 y10], out := .tup [vi64 y16, vb y17], outb := [] } }] ⟨[(14, vb y17), (13, vi64 y16), (12, vi64 y14), (11, vl 1 Ru32 y13), (10, vi64 y11), (8, vi64 y8), (7, vl 1 Ru32 y7), (6, vi64 y5), (5, vl 1 Ru32 y4), (0, vu32 p0), (1, vu32 p1)], [], 36⟩ [True, ((True) ∧ (True)) ∧ (All2 ArgLe [vl 1 Ru32 y10] [vl 1 Ru32 y10]) ∧ ((true = true → flatB [])) ∧ (Con Try.prog 21 [vl 1 Ru32 y10] [] (.tup [vi64 y16, vb y17]) []), True, True, True, True, True] (by kernel_rfl) (by kernel_rfl) ⟨trivial, ⟨⟨trivial, trivial⟩, ⟨ArgLe.refl _, trivial⟩, (fun _ => trivial), (natural_Int_con y10 y16 y17 e18)⟩, trivial, trivial, trivial, trivial, trivial, trivial⟩ ?_
  refine AW.thenQ_normal ?_
  refine AW.seq ?_
  obtain ⟨y19, y20, e21, h⟩ := bind2_some h
  refine AW.reg tt_okL5 [0, 1, 5, 6, 7, 8, 10, 12, 13, 14, 15, 16] [] [{}, { call := some { ids := [], frz := [], flat := true, cnt := 0, args := [vl 1 Ru32 y13], out := .tup [vi64 y19, vb y20], outb := [] } }] ⟨[(16, vb y20), (15, vi64 y19), (14, vb y17), (13, vi64 y16), (12, vi64 y14), (10, vi64 y11), (8, vi64 y8), (7, vl 1 Ru32 y7), (6, vi64 y5), (5, vl 1 Ru32 y4), (0, vu32 p0), (1, vu32 p1)], [], 42⟩ [True, ((True) ∧ (True)) ∧ (All2 ArgLe [vl 1 Ru32 y13] [vl 1 Ru32 y13]) ∧ ((true = true → flatB [])) ∧ (Con Try.prog 21 [vl 1 Ru32 y13] [] (.tup [vi64 y19, vb y20]) []), True, True, True, True, True] (by kernel_rfl) (by kernel_rfl) ⟨trivial, ⟨⟨trivial, trivial⟩, ⟨ArgLe.refl _, trivial⟩, (fun _ => trivial), (natural_Int_con y13 y19 y20 e21)⟩, trivial, trivial, trivial, trivial, trivial, trivial⟩ ?_
  refine AW.thenQ_normal ?_
  refine AW.seq ?_
  refine AW.reg tt_okL5 [0, 1, 5, 6, 7, 8, 10, 12, 13, 14, 15, 16, 17] [] [] ⟨[(17, vi64 0), (16, vb y20), (15, vi64 y19), (14, vb y17), (13, vi64 y16), (12, vi64 y14), (10, vi64 y11), (8, vi64 y8), (7, vl 1 Ru32 y7), (6, vi64 y5), (5, vl 1 Ru32 y4), (0, vu32 p0), (1, vu32 p1)], [], 43⟩ [True] (by kernel_rfl) (by kernel_rfl) ⟨trivial, trivial⟩ ?_
  refine AW.thenQ_normal ?_
  refine AW.seq ?_
  refine AW.join (ι := Int) (fun v => ⟨[(0, vu32 p0), (1, vu32 p1), (5, vl 1 Ru32 y4), (6, vi64 y5), (7, vl 1 Ru32 y7), (8, vi64 y8), (10, vi64 y11), (12, vi64 y14), (13, vi64 y16), (14, vb y17), (15, vi64 y19), (16, vb y20), (17, vi64 v)], [], 0⟩) (fun v : Int => rl_law10_NaturalInts_k1 p0 p1 y4 y5 y7 y8 y11 y14 y16 y17 y19 y20 v = some r) (fun v h => ?_) ?_
  ·
   obtain ⟨x22, rfl⟩ : ∃ x, x = v := ⟨_, rfl⟩
   replace h : rl_law10_NaturalInts_k1 p0 p1 y4 y5 y7 y8 y11 y14 y16 y17 y19 y20 x22 = some r := h
   unfold rl_law10_NaturalInts_k1 at h
   show (_ : Exit → St → Prop) .normal ⟨[(0, vu32 p0), (1, vu32 p1), (5, vl 1 Ru32 y4), (6, vi64 y5), (7, vl 1 Ru32 y7), (8, vi64 y8), (10, vi64 y11), (12, vi64 y14), (13, vi64 y16), (14, vb y17), (15, vi64 y19), (16, vb y20), (17, vi64 x22)], [], 0⟩
   refine AW.thenQ_normal ?_
   refine AW.seq ?_
   obtain ⟨z23, n24, h⟩ := bnd_some h
   replace n24 := some_inj n24
   refine AW.reg tt_okL5 [0, 1, 5, 6, 7, 8, 10, 12, 13, 14, 15, 16, 17, 18] [] [] ⟨[(18, vu64 (IntKind.u64.wrap ((IntKind.u64.wrap p0) * (IntKind.u64.wrap p1)))), (0, vu32 p0), (1, vu32 p1), (5, vl 1 Ru32 y4), (6, vi64 y5), (7, vl 1 Ru32 y7), (8, vi64 y8), (10, vi64 y11), (12, vi64 y14), (13, vi64 y16), (14, vb y17), (15, vi64 y19), (16, vb y20), (17, vi64 x22)], [], 6⟩ [True, True, True, True, True, True] (by kernel_rfl) (by kernel_rfl) ⟨trivial, trivial, trivial, trivial, trivial, trivial, trivial⟩ ?_
   refine eq_Q (S' := ⟨[(18, vu64 z23), (0, vu32 p0), (1, vu32 p1), (5, vl 1 Ru32 y4), (6, vi64 y5), (7, vl 1 Ru32 y7), (8, vi64 y8), (10, vi64 y11), (12, vi64 y14), (13, vi64 y16), (14, vb y17), (15, vi64 y19), (16, vb y20), (17, vi64 x22)], [], 6⟩) (by rw [n24]) ?_
   refine AW.thenQ_normal ?_
   refine AW.seq ?_
   refine AW.join (ι := Bool) (fun v => ⟨[(4, vb v)], [], 0⟩) (fun v : Bool => rl_law10_NaturalInts_k3 v = some r) (fun v h => ?_) ?_
   ·
    obtain ⟨x25, rfl⟩ : ∃ x, x = v := ⟨_, rfl⟩
    replace h : rl_law10_NaturalInts_k3 x25 = some r := h
    unfold rl_law10_NaturalInts_k3 at h
    show (_ : Exit → St → Prop) .normal ⟨[(4, vb x25)], [], 0⟩
    refine AW.thenQ_normal ?_
    refine AW.ret ?_
    obtain rfl := some_inj h
    exact ⟨_, Conv.refl _ _, .inr rfl, OutOk.mk [] 0 (out0 := vb x25) (ps := [True]) (by kernel_rfl) ⟨trivial, trivial⟩ (by kernel_rfl) (by kernel_rfl)⟩
   ·
    by_cases c26 : (y5 == 0) = true
    ·rw [if_pos c26] at h
     by_cases c27 : (y8 == 0) = true
     ·rw [if_pos c27] at h
      by_cases c28 : (y11 == 0) = true
      ·rw [if_pos c28] at h
       by_cases c29 : (y14 == 0) = true
       ·rw [if_pos c29] at h
        by_cases c30 : y17 = true
        ·rw [if_pos c30] at h; have hs := h; subst c30; have h := hs; clear hs
         by_cases c31 : (y16 == (IntKind.i64.wrap ((IntKind.i64.wrap p0) + (IntKind.i64.wrap p1)))) = true
         ·rw [if_pos c31] at h
          by_cases c32 : (y20 == (decide (z23 < 9223372036854775808))) = true
          ·rw [if_pos c32] at h
           by_cases c33 : (!y20) = true
           ·rw [if_pos c33] at h
            obtain ⟨y34, e35, h⟩ := bnd_some h
            refine AW.reg tt_okL5 [4] [] [{}, { h := { b := some true } }, {}, {}, { h := { b := some true } }, {}, {}, {}, { h := { b := some true } }, {}, {}, {}, { h := { b := some true } }, {}, {}, {}, {}, {}, {}, {}, {}, {}, {}, {}, { h := { b := some true } }, {}, {}, {}, {}, {}, { h := { b := some true } }, {}, {}, {}, { h := { b := some true } }, {}, {}, {}, {}, {}, {}, {}, {}, {}, {}, { call := some { ids := [], frz := [], flat := true, cnt := 0, args := [vl 1 Ru32 y4, vl 1 Ru32 y7], out := vi64 y34, outb := [] } }] ⟨[(4, vb (y34 == x22))], [], 55⟩ [True, (y5 == 0) = true, True, True, (y8 == 0) = true, True, True, True, (y11 == 0) = true, True, True, True, (y14 == 0) = true, True, True, True, True, True, True, True, True, True, True, True, (y16 == (IntKind.i64.wrap ((IntKind.i64.wrap p0) + (IntKind.i64.wrap p1)))) = true, True, True, True, True, True, (y20 == (decide (z23 < 9223372036854775808))) = true, True, True, True, (!y20) = true, True, True, True, True, True, True, True, True, True, True, ((True) ∧ (True) ∧ (True)) ∧ (All2 ArgLe [vl 1 Ru32 y4, vl 1 Ru32 y7] [vl 1 Ru32 y4, vl 1 Ru32 y7]) ∧ ((true = true → flatB [])) ∧ (Con Try.prog 22 [vl 1 Ru32 y4, vl 1 Ru32 y7] [] (vi64 y34) []), True, True, True, True] (by kernel_rfl) (by kernel_rfl) ⟨trivial, c26, trivial, trivial, c27, trivial, trivial, trivial, c28, trivial, trivial, trivial, c29, trivial, trivial, trivial, trivial, trivial, trivial, trivial, trivial, trivial, trivial, trivial, c31, trivial, trivial, trivial, trivial, trivial, c32, trivial, trivial, trivial, c33, trivial, trivial, trivial, trivial, trivial, trivial, trivial, trivial, trivial, trivial, ⟨⟨trivial, trivial, trivial⟩, ⟨ArgLe.refl _, ArgLe.refl _, trivial⟩, (fun _ => trivial), (natural_Compare_con y4 y7 y34 e35)⟩, trivial, trivial, trivial, trivial, trivial⟩ ?_
            exact joinQ_leaf ((y34 == x22)) h (conv_ren [] [4] (n := 0) (by kernel_rfl) (by kernel_rfl))
           ·rw [if_neg c33] at h
            by_cases c36 : ((IntKind.u64.wrap y19) == z23) = true
            ·rw [if_pos c36] at h
             obtain ⟨y37, e38, h⟩ := bnd_some h
             refine AW.reg tt_okL5 [4] [] [{}, { h := { b := some true } }, {}, {}, { h := { b := some true } }, {}, {}, {}, { h := { b := some true } }, {}, {}, {}, { h := { b := some true } }, {}, {}, {}, {}, {}, {}, {}, {}, {}, {}, {}, { h := { b := some true } }, {}, {}, {}, {}, {}, { h := { b := some true } }, {}, {}, {}, { h := { b := some false } }, {}, {}, {}, {}, { h := { b := some true } }, {}, {}, {}, {}, {}, { call := some { ids := [], frz := [], flat := true, cnt := 0, args := [vl 1 Ru32 y4, vl 1 Ru32 y7], out := vi64 y37, outb := [] } }] ⟨[(4, vb (y37 == x22))], [], 55⟩ [True, (y5 == 0) = true, True, True, (y8 == 0) = true, True, True, True, (y11 == 0) = true, True, True, True, (y14 == 0) = true, True, True, True, True, True, True, True, True, True, True, True, (y16 == (IntKind.i64.wrap ((IntKind.i64.wrap p0) + (IntKind.i64.wrap p1)))) = true, True, True, True, True, True, (y20 == (decide (z23 < 9223372036854775808))) = true, True, True, True, (!y20) = false, True, True, True, True, ((IntKind.u64.wrap y19) == z23) = true, True, True, True, True, True, ((True) ∧ (True) ∧ (True)) ∧ (All2 ArgLe [vl 1 Ru32 y4, vl 1 Ru32 y7] [vl 1 Ru32 y4, vl 1 Ru32 y7]) ∧ ((true = true → flatB [])) ∧ (Con Try.prog 22 [vl 1 Ru32 y4, vl 1 Ru32 y7] [] (vi64 y37) []), True, True, True, True] (by kernel_rfl) (by kernel_rfl) ⟨trivial, c26, trivial, trivial, c27, trivial, trivial, trivial, c28, trivial, trivial, trivial, c29, trivial, trivial, trivial, trivial, trivial, trivial, trivial, trivial, trivial, trivial, trivial, c31, trivial, trivial, trivial, trivial, trivial, c32, trivial, trivial, trivial, (off_false c33), trivial, trivial, trivial, trivial, c36, trivial, trivial, trivial, trivial, trivial, ⟨⟨trivial, trivial, trivial⟩, ⟨ArgLe.refl _, ArgLe.refl _, trivial⟩, (fun _ => trivial), (natural_Compare_con y4 y7 y37 e38)⟩, trivial, trivial, trivial, trivial, trivial⟩ ?_
             exact joinQ_leaf ((y37 == x22)) h (conv_ren [] [4] (n := 0) (by kernel_rfl) (by kernel_rfl))
            ·rw [if_neg c36] at h
             refine AW.reg tt_okL5 [4] [] [{}, { h := { b := some true } }, {}, {}, { h := { b := some true } }, {}, {}, {}, { h := { b := some true } }, {}, {}, {}, { h := { b := some true } }, {}, {}, {}, {}, {}, {}, {}, {}, {}, {}, {}, { h := { b := some true } }, {}, {}, {}, {}, {}, { h := { b := some true } }, {}, {}, {}, { h := { b := some false } }, {}, {}, {}, {}, { h := { b := some false } }] ⟨[(4, vb false)], [], 56⟩ [True, (y5 == 0) = true, True, True, (y8 == 0) = true, True, True, True, (y11 == 0) = true, True, True, True, (y14 == 0) = true, True, True, True, True, True, True, True, True, True, True, True, (y16 == (IntKind.i64.wrap ((IntKind.i64.wrap p0) + (IntKind.i64.wrap p1)))) = true, True, True, True, True, True, (y20 == (decide (z23 < 9223372036854775808))) = true, True, True, True, (!y20) = false, True, True, True, True, ((IntKind.u64.wrap y19) == z23) = false, True, True, True, True, True, True, True, True, True, True] (by kernel_rfl) (by kernel_rfl) ⟨trivial, c26, trivial, trivial, c27, trivial, trivial, trivial, c28, trivial, trivial, trivial, c29, trivial, trivial, trivial, trivial, trivial, trivial, trivial, trivial, trivial, trivial, trivial, c31, trivial, trivial, trivial, trivial, trivial, c32, trivial, trivial, trivial, (off_false c33), trivial, trivial, trivial, trivial, (off_false c36), trivial, trivial, trivial, trivial, trivial, trivial, trivial, trivial, trivial, trivial, trivial⟩ ?_
             exact joinQ_leaf (false) h (conv_ren [] [4] (n := 0) (by kernel_rfl) (by kernel_rfl))
          ·rw [if_neg c32] at h
           refine AW.reg tt_okL5 [4] [] [{}, { h := { b := some true } }, {}, {}, { h := { b := some true } }, {}, {}, {}, { h := { b := some true } }, {}, {}, {}, { h := { b := some true } }, {}, {}, {}, {}, {}, {}, {}, {}, {}, {}, {}, { h := { b := some true } }, {}, {}, {}, {}, {}, { h := { b := some false } }] ⟨[(4, vb false)], [], 56⟩ [True, (y5 == 0) = true, True, True, (y8 == 0) = true, True, True, True, (y11 == 0) = true, True, True, True, (y14 == 0) = true, True, True, True, True, True, True, True, True, True, True, True, (y16 == (IntKind.i64.wrap ((IntKind.i64.wrap p0) + (IntKind.i64.wrap p1)))) = true, True, True, True, True, True, (y20 == (decide (z23 < 9223372036854775808))) = false, True, True, True, True, True, True, True, True, True, True, True, True, True, True, True, True, True, True, True] (by kernel_rfl) (by kernel_rfl) ⟨trivial, c26, trivial, trivial, c27, trivial, trivial, trivial, c28, trivial, trivial, trivial, c29, trivial, trivial, trivial, trivial, trivial, trivial, trivial, trivial, trivial, trivial, trivial, c31, trivial, trivial, trivial, trivial, trivial, (off_false c32), trivial, trivial, trivial, trivial, trivial, trivial, trivial, trivial, trivial, trivial, trivial, trivial, trivial, trivial, trivial, trivial, trivial, trivial, trivial, trivial⟩ ?_
           exact joinQ_leaf (false) h (conv_ren [] [4] (n := 0) (by kernel_rfl) (by kernel_rfl))
         ·rw [if_neg c31] at h
          refine AW.reg tt_okL5 [4] [] [{}, { h := { b := some true } }, {}, {}, { h := { b := some true } }, {}, {}, {}, { h := { b := some true } }, {}, {}, {}, { h := { b := some true } }, {}, {}, {}, {}, {}, {}, {}, {}, {}, {}, {}, { h := { b := some false } }] ⟨[(4, vb false)], [], 56⟩ [True, (y5 == 0) = true, True, True, (y8 == 0) = true, True, True, True, (y11 == 0) = true, True, True, True, (y14 == 0) = true, True, True, True, True, True, True, True, True, True, True, True, (y16 == (IntKind.i64.wrap ((IntKind.i64.wrap p0) + (IntKind.i64.wrap p1)))) = false, True, True, True, True, True, True, True, True, True, True, True, True, True, True, True, True, True, True, True, True, True, True, True, True, True] (by kernel_rfl) (by kernel_rfl) ⟨trivial, c26, trivial, trivial, c27, trivial, trivial, trivial, c28, trivial, trivial, trivial, c29, trivial, trivial, trivial, trivial, trivial, trivial, trivial, trivial, trivial, trivial, trivial, (off_false c31), trivial, trivial, trivial, trivial, trivial, trivial, trivial, trivial, trivial, trivial, trivial, trivial, trivial, trivial, trivial, trivial, trivial, trivial, trivial, trivial, trivial, trivial, trivial, trivial, trivial, trivial⟩ ?_
          exact joinQ_leaf (false) h (conv_ren [] [4] (n := 0) (by kernel_rfl) (by kernel_rfl))
        ·rw [if_neg c30] at h; have hs := h; have c30 := off_false c30; subst c30; have h := hs; clear hs
         refine AW.reg tt_okL5 [4] [] [{}, { h := { b := some true } }, {}, {}, { h := { b := some true } }, {}, {}, {}, { h := { b := some true } }, {}, {}, {}, { h := { b := some true } }] ⟨[(4, vb false)], [], 56⟩ [True, (y5 == 0) = true, True, True, (y8 == 0) = true, True, True, True, (y11 == 0) = true, True, True, True, (y14 == 0) = true, True, True, True, True, True, True, True, True, True, True, True, True, True, True, True, True, True, True, True, True, True, True, True, True, True, True, True, True, True, True, True, True, True, True, True, True, True] (by kernel_rfl) (by kernel_rfl) ⟨trivial, c26, trivial, trivial, c27, trivial, trivial, trivial, c28, trivial, trivial, trivial, c29, trivial, trivial, trivial, trivial, trivial, trivial, trivial, trivial, trivial, trivial, trivial, trivial, trivial, trivial, trivial, trivial, trivial, trivial, trivial, trivial, trivial, trivial, trivial, trivial, trivial, trivial, trivial, trivial, trivial, trivial, trivial, trivial, trivial, trivial, trivial, trivial, trivial, trivial⟩ ?_
         exact joinQ_leaf (false) h (conv_ren [] [4] (n := 0) (by kernel_rfl) (by kernel_rfl))
       ·rw [if_neg c29] at h
        refine AW.reg tt_okL5 [4] [] [{}, { h := { b := some true } }, {}, {}, { h := { b := some true } }, {}, {}, {}, { h := { b := some true } }, {}, {}, {}, { h := { b := some false } }] ⟨[(4, vb false)], [], 56⟩ [True, (y5 == 0) = true, True, True, (y8 == 0) = true, True, True, True, (y11 == 0) = true, True, True, True, (y14 == 0) = false, True, True, True, True, True, True, True, True, True, True, True, True, True, True, True, True, True, True, True, True, True, True, True, True, True, True, True, True, True, True, True, True, True, True, True, True, True] (by kernel_rfl) (by kernel_rfl) ⟨trivial, c26, trivial, trivial, c27, trivial, trivial, trivial, c28, trivial, trivial, trivial, (off_false c29), trivial, trivial, trivial, trivial, trivial, trivial, trivial, trivial, trivial, trivial, trivial, trivial, trivial, trivial, trivial, trivial, trivial, trivial, trivial, trivial, trivial, trivial, trivial, trivial, trivial, trivial, trivial, trivial, trivial, trivial, trivial, trivial, trivial, trivial, trivial, trivial, trivial, trivial⟩ ?_
        exact joinQ_leaf (false) h (conv_ren [] [4] (n := 0) (by kernel_rfl) (by kernel_rfl))
      ·rw [if_neg c28] at h
       refine AW.reg tt_okL5 [4] [] [{}, { h := { b := some true } }, {}, {}, { h := { b := some true } }, {}, {}, {}, { h := { b := some false } }] ⟨[(4, vb false)], [], 56⟩ [True, (y5 == 0) = true, True, True, (y8 == 0) = true, True, True, True, (y11 == 0) = false, True, True, True, True, True, True, True, True, True, True, True, True, True, True, True, True, True, True, True, True, True, True, True, True, True, True, True, True, True, True, True, True, True, True, True, True, True, True, True, True, True] (by kernel_rfl) (by kernel_rfl) ⟨trivial, c26, trivial, trivial, c27, trivial, trivial, trivial, (off_false c28), trivial, trivial, trivial, trivial, trivial, trivial, trivial, trivial, trivial, trivial, trivial, trivial, trivial, trivial, trivial, trivial, trivial, trivial, trivial, trivial, trivial, trivial, trivial, trivial, trivial, trivial, trivial, trivial, trivial, trivial, trivial, trivial, trivial, trivial, trivial, trivial, trivial, trivial, trivial, trivial, trivial, trivial⟩ ?_
       exact joinQ_leaf (false) h (conv_ren [] [4] (n := 0) (by kernel_rfl) (by kernel_rfl))
     ·rw [if_neg c27] at h
      refine AW.reg tt_okL5 [4] [] [{}, { h := { b := some true } }, {}, {}, { h := { b := some false } }] ⟨[(4, vb false)], [], 56⟩ [True, (y5 == 0) = true, True, True, (y8 == 0) = false, True, True, True, True, True, True, True, True, True, True, True, True, True, True, True, True, True, True, True, True, True, True, True, True, True, True, True, True, True, True, True, True, True, True, True, True, True, True, True, True, True, True, True, True, True] (by kernel_rfl) (by kernel_rfl) ⟨trivial, c26, trivial, trivial, (off_false c27), trivial, trivial, trivial, trivial, trivial, trivial, trivial, trivial, trivial, trivial, trivial, trivial, trivial, trivial, trivial, trivial, trivial, trivial, trivial, trivial, trivial, trivial, trivial, trivial, trivial, trivial, trivial, trivial, trivial, trivial, trivial, trivial, trivial, trivial, trivial, trivial, trivial, trivial, trivial, trivial, trivial, trivial, trivial, trivial, trivial, trivial⟩ ?_
      exact joinQ_leaf (false) h (conv_ren [] [4] (n := 0) (by kernel_rfl) (by kernel_rfl))
    ·rw [if_neg c26] at h
     refine AW.reg tt_okL5 [4] [] [{}, { h := { b := some false } }] ⟨[(4, vb false)], [], 56⟩ [True, (y5 == 0) = false, True, True, True, True, True, True, True, True, True, True, True, True, True, True, True, True, True, True, True, True, True, True, True, True, True, True, True, True, True, True, True, True, True, True, True, True, True, True, True, True, True, True, True, True, True, True, True, True] (by kernel_rfl) (by kernel_rfl) ⟨trivial, (off_false c26), trivial, trivial, trivial, trivial, trivial, trivial, trivial, trivial, trivial, trivial, trivial, trivial, trivial, trivial, trivial, trivial, trivial, trivial, trivial, trivial, trivial, trivial, trivial, trivial, trivial, trivial, trivial, trivial, trivial, trivial, trivial, trivial, trivial, trivial, trivial, trivial, trivial, trivial, trivial, trivial, trivial, trivial, trivial, trivial, trivial, trivial, trivial, trivial, trivial⟩ ?_
     exact joinQ_leaf (false) h (conv_ren [] [4] (n := 0) (by kernel_rfl) (by kernel_rfl))
  ·
   refine AW.seq ?_
   refine AW.reg tt_okL5 [0, 1, 5, 6, 7, 8, 10, 12, 13, 14, 15, 16, 17, 57] [] [] ⟨[(57, vb (decide (p0 < p1))), (17, vi64 0), (16, vb y20), (15, vi64 y19), (14, vb y17), (13, vi64 y16), (12, vi64 y14), (10, vi64 y11), (8, vi64 y8), (7, vl 1 Ru32 y7), (6, vi64 y5), (5, vl 1 Ru32 y4), (0, vu32 p0), (1, vu32 p1)], [], 46⟩ [True, True, True] (by kernel_rfl) (by kernel_rfl) ⟨trivial, trivial, trivial, trivial⟩ ?_
   refine AW.thenQ_normal ?_
   refine AW.cond (b := decide (p0 < p1)) (by kernel_rfl) (fun c39 => ?_) (fun c39 => ?_)
   ·rw [if_pos c39] at h
    refine AW.reg tt_okL5 [0, 1, 5, 6, 7, 8, 10, 12, 13, 14, 15, 16, 17] [] [] ⟨[(17, vi64 (-1)), (16, vb y20), (15, vi64 y19), (14, vb y17), (13, vi64 y16), (12, vi64 y14), (10, vi64 y11), (8, vi64 y8), (7, vl 1 Ru32 y7), (6, vi64 y5), (5, vl 1 Ru32 y4), (0, vu32 p0), (1, vu32 p1)], [], 47⟩ [True] (by kernel_rfl) (by kernel_rfl) ⟨trivial, trivial⟩ ?_
    exact joinQ_leaf ((-1)) h (conv_ren [] [0, 1, 5, 6, 7, 8, 10, 12, 13, 14, 15, 16, 17] (n := 0) (by kernel_rfl) (by kernel_rfl))
   ·rw [if_neg (by rw [c39]; exact Bool.false_ne_true)] at h
    refine AW.seq ?_
    refine AW.reg tt_okL5 [0, 1, 5, 6, 7, 8, 10, 12, 13, 14, 15, 16, 17, 60] [] [] ⟨[(60, vb (decide (p0 > p1))), (17, vi64 0), (16, vb y20), (15, vi64 y19), (14, vb y17), (13, vi64 y16), (12, vi64 y14), (10, vi64 y11), (8, vi64 y8), (7, vl 1 Ru32 y7), (6, vi64 y5), (5, vl 1 Ru32 y4), (0, vu32 p0), (1, vu32 p1)], [], 49⟩ [True, True, True] (by kernel_rfl) (by kernel_rfl) ⟨trivial, trivial, trivial, trivial⟩ ?_
    refine AW.thenQ_normal ?_
    refine AW.cond (b := decide (p0 > p1)) (by kernel_rfl) (fun c40 => ?_) (fun c40 => ?_)
    ·rw [if_pos c40] at h
     refine AW.reg tt_okL5 [0, 1, 5, 6, 7, 8, 10, 12, 13, 14, 15, 16, 17] [] [] ⟨[(17, vi64 1), (16, vb y20), (15, vi64 y19), (14, vb y17), (13, vi64 y16), (12, vi64 y14), (10, vi64 y11), (8, vi64 y8), (7, vl 1 Ru32 y7), (6, vi64 y5), (5, vl 1 Ru32 y4), (0, vu32 p0), (1, vu32 p1)], [], 50⟩ [True] (by kernel_rfl) (by kernel_rfl) ⟨trivial, trivial⟩ ?_
     exact joinQ_leaf (1) h (conv_ren [] [0, 1, 5, 6, 7, 8, 10, 12, 13, 14, 15, 16, 17] (n := 0) (by kernel_rfl) (by kernel_rfl))
    ·rw [if_neg (by rw [c40]; exact Bool.false_ne_true)] at h
     refine AW.skip ?_
     exact joinQ_leaf (0) h (conv_ren [] [0, 1, 5, 6, 7, 8, 10, 12, 13, 14, 15, 16, 17] (n := 0) (by kernel_rfl) (by kernel_rfl))
end Go.Proofs.Yteaijglfenedoaa
