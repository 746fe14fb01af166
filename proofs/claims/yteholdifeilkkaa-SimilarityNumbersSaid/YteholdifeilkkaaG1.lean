/- Printed by a program of mine (vmgen.py): Go functions, and what they come to. -/
import Derived.Test.YteholdifeilkkaaVp
import Derived.Test.YteholdifeilkkaaRows
import Derived.Test.YteholdifeilkkaaG0
namespace Go.Proofs.Yteholdifeilkkaa
open Vm
set_option linter.unusedVariables false
set_option linter.constructorNameAsVariable false
def ttl1 : List (Nat × TI) := [(3, ⟨.int .i64, 1, 8, [.int .i64 0]⟩), (4, ⟨.bool, 1, 1, [.bool false]⟩), (5, ⟨.int .u8, 1, 1, [.int .u8 0]⟩), (9, ⟨.str, 1, 16, [.string ⟨#[]⟩]⟩), (22, ⟨.slice 3, 1, 24, [.slice none 0 0]⟩), (25, ⟨.ptr 66, 1, 8, [.pointer none]⟩), (27, ⟨.slice 33, 1, 24, [.slice none 0 0]⟩), (29, ⟨.struct [(3, 0), (27, 1)], 2, 32, [.int .i64 0, .slice none 0 0]⟩), (31, ⟨.int .u64, 1, 8, [.int .u64 0]⟩), (33, ⟨.int .u64, 1, 8, [.int .u64 0]⟩), (35, ⟨.int .i64, 1, 8, [.int .i64 0]⟩), (41, ⟨.slice 29, 1, 24, [.slice none 0 0]⟩), (43, ⟨.struct [(3, 0), (3, 1), (41, 2)], 3, 40, [.int .i64 0, .int .i64 0, .slice none 0 0]⟩), (48, ⟨.int .u16, 1, 2, [.int .u16 0]⟩), (66, ⟨.struct [(22, 0), (3, 1), (33, 2)], 3, 40, [.slice none 0 0, .int .i64 0, .int .u64 0]⟩), (70, ⟨.arr 6 3, 6, 48, [.int .i64 0, .int .i64 0, .int .i64 0, .int .i64 0, .int .i64 0, .int .i64 0]⟩), (74, ⟨.slice 5, 1, 24, [.slice none 0 0]⟩)]
theorem tt_ok1 : TTok Try.prog (Vm.look ttl1) := ttok_of ⟨⟨by kernel_rfl, by kernel_rfl⟩, ⟨by kernel_rfl, by kernel_rfl⟩, ⟨by kernel_rfl, by kernel_rfl⟩, ⟨by kernel_rfl, by kernel_rfl⟩, ⟨by kernel_rfl, by kernel_rfl⟩, ⟨by kernel_rfl, by kernel_rfl⟩, ⟨by kernel_rfl, by kernel_rfl⟩, ⟨by kernel_rfl, by kernel_rfl⟩, ⟨by kernel_rfl, by kernel_rfl⟩, ⟨by kernel_rfl, by kernel_rfl⟩, ⟨by kernel_rfl, by kernel_rfl⟩, ⟨by kernel_rfl, by kernel_rfl⟩, ⟨by kernel_rfl, by kernel_rfl⟩, ⟨by kernel_rfl, by kernel_rfl⟩, ⟨by kernel_rfl, by kernel_rfl⟩, ⟨by kernel_rfl, by kernel_rfl⟩, ⟨by kernel_rfl, by kernel_rfl⟩, trivial⟩
theorem mo1 : Try.prog.follows .mixedOrders = true := by kernel_rfl
/-! recordlink/recordlinklaw09.awake -/
noncomputable def rl_law09_awake_k2 (x13 : Bool) : Option Bool := some x13
noncomputable def rl_law09_awake : Option Bool := bind2 (bitset_New 64) fun y1 y2 => (bind2 (bitset_Set y1 63) fun y4 y5 => (bind2 (bitset_Set y4 0) fun y7 y8 => (bind2 (bitset_Hex y7) fun y10 y11 => (if (y2 == 0) = true then (if (y5 == 0) = true then (if (y8 == 0) = true then (if (y11 == 0) = true then (if (y10.toList == (ByteArray.mk #[56, 48, 48, 48, 48, 48, 48, 48, 48, 48, 48, 48, 48, 48, 48, 49]).toList) = true then ((bitset_Count y7).bind fun y19 => (if (y19 == 2) = true then ((bitset_Has y7 63).bind fun y22 => (if y22 = true then ((bitset_Has y7 1).bind fun y25 => (rl_law09_awake_k2 (!y25))) else (rl_law09_awake_k2 false))) else (rl_law09_awake_k2 false))) else (rl_law09_awake_k2 false)) else (rl_law09_awake_k2 false)) else (rl_law09_awake_k2 false)) else (rl_law09_awake_k2 false)) else (rl_law09_awake_k2 false)))))
set_option maxRecDepth 100000 in
theorem rl_law09_awake_con (r0 : Bool) (h : rl_law09_awake = some r0) : Con Try.prog 18 [] [] (.c (.t (.v (.bool r0)))) [] := by
  revert h; generalize r0 = r; intro h
  refine con_of tt_ok1 0 Try.func18 (by kernel_rfl) rfl (by kernel_rfl) (fun base X hk => ?_)
  unfold rl_law09_awake at h
  refine AW.seq ?_
  refine AW.reg tt_ok1 [] [] [] ⟨[], [], 1⟩ [True] (by kernel_rfl) (by kernel_rfl) ⟨trivial, trivial⟩ ?_
  refine AW.thenQ_normal ?_
  refine AW.seq ?_
  obtain ⟨y1, y2, e3, h⟩ := bind2_some h
  refine AW.reg tt_ok1 [1, 2] [1, 5] [{ call := some { ids := [], frz := [], flat := true, cnt := 1, args := [.c (.t (.v (.int .i64 64)))], out := .tup [.agg [.t (.v (.int .i64 y1.Length)), .ref 0 1 0 y1.Words.length], .c (.t (.v (.int .i64 y2)))], outb := [(0, .row 33 false 1 y1.Words.length (Ru64 y1.Words))] } }] ⟨[(2, .c (.t (.v (.int .i64 y2)))), (1, .c (.ptr 5 2 0 0))], [(5, .box 29 [.t (.v (.int .i64 y1.Length)), .ref 1 1 0 y1.Words.length]), (1, .row 33 false 1 y1.Words.length (Ru64 y1.Words))], 8⟩ [((True) ∧ (True)) ∧ (All2 ArgLe [.c (.t (.v (.int .i64 64)))] [.c (.t (.v (.int .i64 64)))]) ∧ ((true = true → flatB [(0, .row 33 false 1 y1.Words.length (Ru64 y1.Words))])) ∧ (Con Try.prog 39 [.c (.t (.v (.int .i64 64)))] [] (.tup [.agg [.t (.v (.int .i64 y1.Length)), .ref 0 1 0 y1.Words.length], .c (.t (.v (.int .i64 y2)))]) [(0, .row 33 false 1 y1.Words.length (Ru64 y1.Words))]), True, True, True, True, True, True] (by kernel_rfl) (by kernel_rfl) ⟨⟨⟨trivial, trivial⟩, ⟨ArgLe.refl _, trivial⟩, (fun _ => ⟨rowL_flat Vu64 _ _ _, trivial⟩), (bitset_New_con 64 y1 y2 e3)⟩, trivial, trivial, trivial, trivial, trivial, trivial, trivial⟩ ?_
  refine AW.thenQ_normal ?_
  refine AW.seq ?_
  obtain ⟨y4, y5, e6, h⟩ := bind2_some h
  refine AW.reg tt_ok1 [1, 2, 3] [5, 9] [{}, { call := some { ids := [], frz := [], flat := true, cnt := 1, args := [.agg [.t (.v (.int .i64 y1.Length)), .t (.tree y1.Words.length 1 (Ru64 y1.Words))], .c (.t (.v (.int .i64 63)))], out := .tup [.agg [.t (.v (.int .i64 y4.Length)), .ref 0 1 0 y4.Words.length], .c (.t (.v (.int .i64 y5)))], outb := [(0, .row 33 false 1 y4.Words.length (Ru64 y4.Words))] } }] ⟨[(3, .c (.t (.v (.int .i64 y5)))), (2, .c (.t (.v (.int .i64 y2)))), (1, .c (.ptr 5 2 0 0))], [(5, .box 29 [.t (.v (.int .i64 y4.Length)), .ref 9 1 0 y4.Words.length]), (9, .row 33 false 1 y4.Words.length (Ru64 y4.Words))], 15⟩ [True, (((True) ∧ (0 + y1.Words.length ≤ y1.Words.length) ∧ (True)) ∧ (True) ∧ (True)) ∧ (All2 ArgLe [.agg [.t (.v (.int .i64 y1.Length)), .t (.tree y1.Words.length 1 (Ru64 y1.Words))], .c (.t (.v (.int .i64 63)))] [.agg [.t (.v (.int .i64 y1.Length)), .t (.tree y1.Words.length 1 (Ru64 y1.Words))], .c (.t (.v (.int .i64 63)))]) ∧ ((true = true → flatB [(0, .row 33 false 1 y4.Words.length (Ru64 y4.Words))])) ∧ (Con Try.prog 19 [.agg [.t (.v (.int .i64 y1.Length)), .t (.tree y1.Words.length 1 (Ru64 y1.Words))], .c (.t (.v (.int .i64 63)))] [] (.tup [.agg [.t (.v (.int .i64 y4.Length)), .ref 0 1 0 y4.Words.length], .c (.t (.v (.int .i64 y5)))]) [(0, .row 33 false 1 y4.Words.length (Ru64 y4.Words))]), True, True, True, True, True] (by kernel_rfl) (by kernel_rfl) ⟨trivial, ⟨⟨⟨trivial, le0, trivial⟩, trivial, trivial⟩, ⟨ArgLe.refl _, ArgLe.refl _, trivial⟩, (fun _ => ⟨rowL_flat Vu64 _ _ _, trivial⟩), (bitset_Set_con y1 63 y4 y5 e6)⟩, trivial, trivial, trivial, trivial, trivial, trivial⟩ ?_
  refine AW.thenQ_normal ?_
  refine AW.seq ?_
  obtain ⟨y7, y8, e9, h⟩ := bind2_some h
  refine AW.reg tt_ok1 [1, 2, 3, 4] [5, 16] [{}, { call := some { ids := [], frz := [], flat := true, cnt := 1, args := [.agg [.t (.v (.int .i64 y4.Length)), .t (.tree y4.Words.length 1 (Ru64 y4.Words))], .c (.t (.v (.int .i64 0)))], out := .tup [.agg [.t (.v (.int .i64 y7.Length)), .ref 0 1 0 y7.Words.length], .c (.t (.v (.int .i64 y8)))], outb := [(0, .row 33 false 1 y7.Words.length (Ru64 y7.Words))] } }] ⟨[(4, .c (.t (.v (.int .i64 y8)))), (3, .c (.t (.v (.int .i64 y5)))), (2, .c (.t (.v (.int .i64 y2)))), (1, .c (.ptr 5 2 0 0))], [(5, .box 29 [.t (.v (.int .i64 y7.Length)), .ref 16 1 0 y7.Words.length]), (16, .row 33 false 1 y7.Words.length (Ru64 y7.Words))], 22⟩ [True, (((True) ∧ (0 + y4.Words.length ≤ y4.Words.length) ∧ (True)) ∧ (True) ∧ (True)) ∧ (All2 ArgLe [.agg [.t (.v (.int .i64 y4.Length)), .t (.tree y4.Words.length 1 (Ru64 y4.Words))], .c (.t (.v (.int .i64 0)))] [.agg [.t (.v (.int .i64 y4.Length)), .t (.tree y4.Words.length 1 (Ru64 y4.Words))], .c (.t (.v (.int .i64 0)))]) ∧ ((true = true → flatB [(0, .row 33 false 1 y7.Words.length (Ru64 y7.Words))])) ∧ (Con Try.prog 19 [.agg [.t (.v (.int .i64 y4.Length)), .t (.tree y4.Words.length 1 (Ru64 y4.Words))], .c (.t (.v (.int .i64 0)))] [] (.tup [.agg [.t (.v (.int .i64 y7.Length)), .ref 0 1 0 y7.Words.length], .c (.t (.v (.int .i64 y8)))]) [(0, .row 33 false 1 y7.Words.length (Ru64 y7.Words))]), True, True, True, True, True] (by kernel_rfl) (by kernel_rfl) ⟨trivial, ⟨⟨⟨trivial, le0, trivial⟩, trivial, trivial⟩, ⟨ArgLe.refl _, ArgLe.refl _, trivial⟩, (fun _ => ⟨rowL_flat Vu64 _ _ _, trivial⟩), (bitset_Set_con y4 0 y7 y8 e9)⟩, trivial, trivial, trivial, trivial, trivial, trivial⟩ ?_
  refine AW.thenQ_normal ?_
  refine AW.seq ?_
  obtain ⟨y10, y11, e12, h⟩ := bind2_some h
  refine AW.reg tt_ok1 [1, 2, 3, 4, 5, 6] [5, 16] [{}, { call := some { ids := [], frz := [], flat := true, cnt := 0, args := [.agg [.t (.v (.int .i64 y7.Length)), .t (.tree y7.Words.length 1 (Ru64 y7.Words))]], out := .tup [.c (.t (.v (.string y10))), .c (.t (.v (.int .i64 y11)))], outb := [] } }] ⟨[(6, .c (.t (.v (.int .i64 y11)))), (5, .c (.t (.v (.string y10)))), (4, .c (.t (.v (.int .i64 y8)))), (3, .c (.t (.v (.int .i64 y5)))), (2, .c (.t (.v (.int .i64 y2)))), (1, .c (.ptr 5 2 0 0))], [(5, .box 29 [.t (.v (.int .i64 y7.Length)), .ref 16 1 0 y7.Words.length]), (16, .row 33 false 1 y7.Words.length (Ru64 y7.Words))], 28⟩ [True, (((True) ∧ (0 + y7.Words.length ≤ y7.Words.length) ∧ (True)) ∧ (True)) ∧ (All2 ArgLe [.agg [.t (.v (.int .i64 y7.Length)), .t (.tree y7.Words.length 1 (Ru64 y7.Words))]] [.agg [.t (.v (.int .i64 y7.Length)), .t (.tree y7.Words.length 1 (Ru64 y7.Words))]]) ∧ ((true = true → flatB [])) ∧ (Con Try.prog 36 [.agg [.t (.v (.int .i64 y7.Length)), .t (.tree y7.Words.length 1 (Ru64 y7.Words))]] [] (.tup [.c (.t (.v (.string y10))), .c (.t (.v (.int .i64 y11)))]) []), True, True, True, True, True] (by kernel_rfl) (by kernel_rfl) ⟨trivial, ⟨⟨⟨trivial, le0, trivial⟩, trivial⟩, ⟨ArgLe.refl _, trivial⟩, (fun _ => trivial), (bitset_Hex_con y7 y10 y11 e12)⟩, trivial, trivial, trivial, trivial, trivial, trivial⟩ ?_
  refine AW.thenQ_normal ?_
  refine AW.seq ?_
  refine AW.join (ι := Bool) (fun v => ⟨[(0, .c (.t (.v (.bool v))))], [], 0⟩) (fun v : Bool => rl_law09_awake_k2 v = some r) (fun v h => ?_) ?_
  ·
    obtain ⟨x13, rfl⟩ : ∃ x, x = v := ⟨_, rfl⟩
    replace h : rl_law09_awake_k2 x13 = some r := h
    unfold rl_law09_awake_k2 at h
    show (_ : Exit → St → Prop) .normal ⟨[(0, .c (.t (.v (.bool x13))))], [], 0⟩
    refine AW.thenQ_normal ?_
    refine AW.ret ?_
    obtain rfl := some_inj h
    exact ⟨.inr rfl, OutOk.mk [] 0 (out0 := .c (.t (.v (.bool x13)))) (ps := [True]) (by kernel_rfl) ⟨trivial, trivial⟩ (by kernel_rfl) (by kernel_rfl)⟩
  ·
    by_cases c14 : (y2 == 0) = true
    · rw [if_pos c14] at h
      by_cases c15 : (y5 == 0) = true
      · rw [if_pos c15] at h
        by_cases c16 : (y8 == 0) = true
        · rw [if_pos c16] at h
          by_cases c17 : (y11 == 0) = true
          · rw [if_pos c17] at h
            by_cases c18 : (y10.toList == (ByteArray.mk #[56, 48, 48, 48, 48, 48, 48, 48, 48, 48, 48, 48, 48, 48, 48, 49]).toList) = true
            · rw [if_pos c18] at h
              obtain ⟨y19, e20, h⟩ := bnd_some h
              by_cases c21 : (y19 == 2) = true
              · rw [if_pos c21] at h
                obtain ⟨y22, e23, h⟩ := bnd_some h
                by_cases c24 : y22 = true
                · rw [if_pos c24] at h; subst c24
                  obtain ⟨y25, e26, h⟩ := bnd_some h
                  refine AW.reg tt_ok1 [0] [] [{}, { h := { b := some true } }, {}, {}, { h := { b := some true } }, {}, {}, {}, { h := { b := some true } }, {}, {}, {}, { h := { b := some true } }, {}, {}, {}, { h := { b := some true } }, {}, {}, {}, { call := some { ids := [], frz := [], flat := true, cnt := 0, args := [.agg [.t (.v (.int .i64 y7.Length)), .t (.tree y7.Words.length 1 (Ru64 y7.Words))]], out := .c (.t (.v (.int .i64 y19))), outb := [] } }, { h := { b := some true } }, {}, {}, {}, { call := some { ids := [], frz := [], flat := true, cnt := 0, args := [.agg [.t (.v (.int .i64 y7.Length)), .t (.tree y7.Words.length 1 (Ru64 y7.Words))], .c (.t (.v (.int .i64 63)))], out := .c (.t (.v (.bool true))), outb := [] } }, {}, {}, {}, { call := some { ids := [], frz := [], flat := true, cnt := 0, args := [.agg [.t (.v (.int .i64 y7.Length)), .t (.tree y7.Words.length 1 (Ru64 y7.Words))], .c (.t (.v (.int .i64 1)))], out := .c (.t (.v (.bool y25))), outb := [] } }] ⟨[(0, .c (.t (.v (.bool (!y25)))))], [], 58⟩ [True, (y2 == 0) = true, True, True, (y5 == 0) = true, True, True, True, (y8 == 0) = true, True, True, True, (y11 == 0) = true, True, True, True, (y10.toList == (ByteArray.mk #[56, 48, 48, 48, 48, 48, 48, 48, 48, 48, 48, 48, 48, 48, 48, 49]).toList) = true, True, True, True, (((True) ∧ (0 + y7.Words.length ≤ y7.Words.length) ∧ (True)) ∧ (True)) ∧ (All2 ArgLe [.agg [.t (.v (.int .i64 y7.Length)), .t (.tree y7.Words.length 1 (Ru64 y7.Words))]] [.agg [.t (.v (.int .i64 y7.Length)), .t (.tree y7.Words.length 1 (Ru64 y7.Words))]]) ∧ ((true = true → flatB [])) ∧ (Con Try.prog 22 [.agg [.t (.v (.int .i64 y7.Length)), .t (.tree y7.Words.length 1 (Ru64 y7.Words))]] [] (.c (.t (.v (.int .i64 y19)))) []), (y19 == 2) = true, True, True, True, (((True) ∧ (0 + y7.Words.length ≤ y7.Words.length) ∧ (True)) ∧ (True) ∧ (True)) ∧ (All2 ArgLe [.agg [.t (.v (.int .i64 y7.Length)), .t (.tree y7.Words.length 1 (Ru64 y7.Words))], .c (.t (.v (.int .i64 63)))] [.agg [.t (.v (.int .i64 y7.Length)), .t (.tree y7.Words.length 1 (Ru64 y7.Words))], .c (.t (.v (.int .i64 63)))]) ∧ ((true = true → flatB [])) ∧ (Con Try.prog 21 [.agg [.t (.v (.int .i64 y7.Length)), .t (.tree y7.Words.length 1 (Ru64 y7.Words))], .c (.t (.v (.int .i64 63)))] [] (.c (.t (.v (.bool true)))) []), True, True, True, (((True) ∧ (0 + y7.Words.length ≤ y7.Words.length) ∧ (True)) ∧ (True) ∧ (True)) ∧ (All2 ArgLe [.agg [.t (.v (.int .i64 y7.Length)), .t (.tree y7.Words.length 1 (Ru64 y7.Words))], .c (.t (.v (.int .i64 1)))] [.agg [.t (.v (.int .i64 y7.Length)), .t (.tree y7.Words.length 1 (Ru64 y7.Words))], .c (.t (.v (.int .i64 1)))]) ∧ ((true = true → flatB [])) ∧ (Con Try.prog 21 [.agg [.t (.v (.int .i64 y7.Length)), .t (.tree y7.Words.length 1 (Ru64 y7.Words))], .c (.t (.v (.int .i64 1)))] [] (.c (.t (.v (.bool y25)))) []), True, True, True] (by kernel_rfl) (by kernel_rfl) ⟨trivial, c14, trivial, trivial, c15, trivial, trivial, trivial, c16, trivial, trivial, trivial, c17, trivial, trivial, trivial, c18, trivial, trivial, trivial, ⟨⟨⟨trivial, le0, trivial⟩, trivial⟩, ⟨ArgLe.refl _, trivial⟩, (fun _ => trivial), (bitset_Count_con y7 y19 e20)⟩, c21, trivial, trivial, trivial, ⟨⟨⟨trivial, le0, trivial⟩, trivial, trivial⟩, ⟨ArgLe.refl _, ArgLe.refl _, trivial⟩, (fun _ => trivial), (bitset_Has_con y7 63 true e23)⟩, trivial, trivial, trivial, ⟨⟨⟨trivial, le0, trivial⟩, trivial, trivial⟩, ⟨ArgLe.refl _, ArgLe.refl _, trivial⟩, (fun _ => trivial), (bitset_Has_con y7 1 y25 e26)⟩, trivial, trivial, trivial, trivial⟩ ?_
                  exact joinQ_leaf (!y25) h (conv_ren [] [0] (n := 0) (by kernel_rfl) (by kernel_rfl))
                · rw [if_neg c24] at h; have c24 := off_false c24; subst c24
                  refine AW.reg tt_ok1 [0] [] [{}, { h := { b := some true } }, {}, {}, { h := { b := some true } }, {}, {}, {}, { h := { b := some true } }, {}, {}, {}, { h := { b := some true } }, {}, {}, {}, { h := { b := some true } }, {}, {}, {}, { call := some { ids := [], frz := [], flat := true, cnt := 0, args := [.agg [.t (.v (.int .i64 y7.Length)), .t (.tree y7.Words.length 1 (Ru64 y7.Words))]], out := .c (.t (.v (.int .i64 y19))), outb := [] } }, { h := { b := some true } }, {}, {}, {}, { call := some { ids := [], frz := [], flat := true, cnt := 0, args := [.agg [.t (.v (.int .i64 y7.Length)), .t (.tree y7.Words.length 1 (Ru64 y7.Words))], .c (.t (.v (.int .i64 63)))], out := .c (.t (.v (.bool false))), outb := [] } }] ⟨[(0, .c (.t (.v (.bool false))))], [], 59⟩ [True, (y2 == 0) = true, True, True, (y5 == 0) = true, True, True, True, (y8 == 0) = true, True, True, True, (y11 == 0) = true, True, True, True, (y10.toList == (ByteArray.mk #[56, 48, 48, 48, 48, 48, 48, 48, 48, 48, 48, 48, 48, 48, 48, 49]).toList) = true, True, True, True, (((True) ∧ (0 + y7.Words.length ≤ y7.Words.length) ∧ (True)) ∧ (True)) ∧ (All2 ArgLe [.agg [.t (.v (.int .i64 y7.Length)), .t (.tree y7.Words.length 1 (Ru64 y7.Words))]] [.agg [.t (.v (.int .i64 y7.Length)), .t (.tree y7.Words.length 1 (Ru64 y7.Words))]]) ∧ ((true = true → flatB [])) ∧ (Con Try.prog 22 [.agg [.t (.v (.int .i64 y7.Length)), .t (.tree y7.Words.length 1 (Ru64 y7.Words))]] [] (.c (.t (.v (.int .i64 y19)))) []), (y19 == 2) = true, True, True, True, (((True) ∧ (0 + y7.Words.length ≤ y7.Words.length) ∧ (True)) ∧ (True) ∧ (True)) ∧ (All2 ArgLe [.agg [.t (.v (.int .i64 y7.Length)), .t (.tree y7.Words.length 1 (Ru64 y7.Words))], .c (.t (.v (.int .i64 63)))] [.agg [.t (.v (.int .i64 y7.Length)), .t (.tree y7.Words.length 1 (Ru64 y7.Words))], .c (.t (.v (.int .i64 63)))]) ∧ ((true = true → flatB [])) ∧ (Con Try.prog 21 [.agg [.t (.v (.int .i64 y7.Length)), .t (.tree y7.Words.length 1 (Ru64 y7.Words))], .c (.t (.v (.int .i64 63)))] [] (.c (.t (.v (.bool false)))) []), True, True, True, True, True, True, True] (by kernel_rfl) (by kernel_rfl) ⟨trivial, c14, trivial, trivial, c15, trivial, trivial, trivial, c16, trivial, trivial, trivial, c17, trivial, trivial, trivial, c18, trivial, trivial, trivial, ⟨⟨⟨trivial, le0, trivial⟩, trivial⟩, ⟨ArgLe.refl _, trivial⟩, (fun _ => trivial), (bitset_Count_con y7 y19 e20)⟩, c21, trivial, trivial, trivial, ⟨⟨⟨trivial, le0, trivial⟩, trivial, trivial⟩, ⟨ArgLe.refl _, ArgLe.refl _, trivial⟩, (fun _ => trivial), (bitset_Has_con y7 63 false e23)⟩, trivial, trivial, trivial, trivial, trivial, trivial, trivial, trivial⟩ ?_
                  exact joinQ_leaf (false) h (conv_ren [] [0] (n := 0) (by kernel_rfl) (by kernel_rfl))
              · rw [if_neg c21] at h
                refine AW.reg tt_ok1 [0] [] [{}, { h := { b := some true } }, {}, {}, { h := { b := some true } }, {}, {}, {}, { h := { b := some true } }, {}, {}, {}, { h := { b := some true } }, {}, {}, {}, { h := { b := some true } }, {}, {}, {}, { call := some { ids := [], frz := [], flat := true, cnt := 0, args := [.agg [.t (.v (.int .i64 y7.Length)), .t (.tree y7.Words.length 1 (Ru64 y7.Words))]], out := .c (.t (.v (.int .i64 y19))), outb := [] } }, { h := { b := some false } }] ⟨[(0, .c (.t (.v (.bool false))))], [], 60⟩ [True, (y2 == 0) = true, True, True, (y5 == 0) = true, True, True, True, (y8 == 0) = true, True, True, True, (y11 == 0) = true, True, True, True, (y10.toList == (ByteArray.mk #[56, 48, 48, 48, 48, 48, 48, 48, 48, 48, 48, 48, 48, 48, 48, 49]).toList) = true, True, True, True, (((True) ∧ (0 + y7.Words.length ≤ y7.Words.length) ∧ (True)) ∧ (True)) ∧ (All2 ArgLe [.agg [.t (.v (.int .i64 y7.Length)), .t (.tree y7.Words.length 1 (Ru64 y7.Words))]] [.agg [.t (.v (.int .i64 y7.Length)), .t (.tree y7.Words.length 1 (Ru64 y7.Words))]]) ∧ ((true = true → flatB [])) ∧ (Con Try.prog 22 [.agg [.t (.v (.int .i64 y7.Length)), .t (.tree y7.Words.length 1 (Ru64 y7.Words))]] [] (.c (.t (.v (.int .i64 y19)))) []), (y19 == 2) = false, True, True, True, True, True, True, True, True, True, True, True] (by kernel_rfl) (by kernel_rfl) ⟨trivial, c14, trivial, trivial, c15, trivial, trivial, trivial, c16, trivial, trivial, trivial, c17, trivial, trivial, trivial, c18, trivial, trivial, trivial, ⟨⟨⟨trivial, le0, trivial⟩, trivial⟩, ⟨ArgLe.refl _, trivial⟩, (fun _ => trivial), (bitset_Count_con y7 y19 e20)⟩, (off_false c21), trivial, trivial, trivial, trivial, trivial, trivial, trivial, trivial, trivial, trivial, trivial, trivial⟩ ?_
                exact joinQ_leaf (false) h (conv_ren [] [0] (n := 0) (by kernel_rfl) (by kernel_rfl))
            · rw [if_neg c18] at h
              refine AW.reg tt_ok1 [0] [] [{}, { h := { b := some true } }, {}, {}, { h := { b := some true } }, {}, {}, {}, { h := { b := some true } }, {}, {}, {}, { h := { b := some true } }, {}, {}, {}, { h := { b := some false } }] ⟨[(0, .c (.t (.v (.bool false))))], [], 61⟩ [True, (y2 == 0) = true, True, True, (y5 == 0) = true, True, True, True, (y8 == 0) = true, True, True, True, (y11 == 0) = true, True, True, True, (y10.toList == (ByteArray.mk #[56, 48, 48, 48, 48, 48, 48, 48, 48, 48, 48, 48, 48, 48, 48, 49]).toList) = false, True, True, True, True, True, True, True, True, True, True, True, True, True, True, True, True] (by kernel_rfl) (by kernel_rfl) ⟨trivial, c14, trivial, trivial, c15, trivial, trivial, trivial, c16, trivial, trivial, trivial, c17, trivial, trivial, trivial, (off_false c18), trivial, trivial, trivial, trivial, trivial, trivial, trivial, trivial, trivial, trivial, trivial, trivial, trivial, trivial, trivial, trivial, trivial⟩ ?_
              exact joinQ_leaf (false) h (conv_ren [] [0] (n := 0) (by kernel_rfl) (by kernel_rfl))
          · rw [if_neg c17] at h
            refine AW.reg tt_ok1 [0] [] [{}, { h := { b := some true } }, {}, {}, { h := { b := some true } }, {}, {}, {}, { h := { b := some true } }, {}, {}, {}, { h := { b := some false } }] ⟨[(0, .c (.t (.v (.bool false))))], [], 61⟩ [True, (y2 == 0) = true, True, True, (y5 == 0) = true, True, True, True, (y8 == 0) = true, True, True, True, (y11 == 0) = false, True, True, True, True, True, True, True, True, True, True, True, True, True, True, True, True, True, True, True, True] (by kernel_rfl) (by kernel_rfl) ⟨trivial, c14, trivial, trivial, c15, trivial, trivial, trivial, c16, trivial, trivial, trivial, (off_false c17), trivial, trivial, trivial, trivial, trivial, trivial, trivial, trivial, trivial, trivial, trivial, trivial, trivial, trivial, trivial, trivial, trivial, trivial, trivial, trivial, trivial⟩ ?_
            exact joinQ_leaf (false) h (conv_ren [] [0] (n := 0) (by kernel_rfl) (by kernel_rfl))
        · rw [if_neg c16] at h
          refine AW.reg tt_ok1 [0] [] [{}, { h := { b := some true } }, {}, {}, { h := { b := some true } }, {}, {}, {}, { h := { b := some false } }] ⟨[(0, .c (.t (.v (.bool false))))], [], 61⟩ [True, (y2 == 0) = true, True, True, (y5 == 0) = true, True, True, True, (y8 == 0) = false, True, True, True, True, True, True, True, True, True, True, True, True, True, True, True, True, True, True, True, True, True, True, True, True] (by kernel_rfl) (by kernel_rfl) ⟨trivial, c14, trivial, trivial, c15, trivial, trivial, trivial, (off_false c16), trivial, trivial, trivial, trivial, trivial, trivial, trivial, trivial, trivial, trivial, trivial, trivial, trivial, trivial, trivial, trivial, trivial, trivial, trivial, trivial, trivial, trivial, trivial, trivial, trivial⟩ ?_
          exact joinQ_leaf (false) h (conv_ren [] [0] (n := 0) (by kernel_rfl) (by kernel_rfl))
      · rw [if_neg c15] at h
        refine AW.reg tt_ok1 [0] [] [{}, { h := { b := some true } }, {}, {}, { h := { b := some false } }] ⟨[(0, .c (.t (.v (.bool false))))], [], 61⟩ [True, (y2 == 0) = true, True, True, (y5 == 0) = false, True, True, True, True, True, True, True, True, True, True, True, True, True, True, True, True, True, True, True, True, True, True, True, True, True, True, True, True] (by kernel_rfl) (by kernel_rfl) ⟨trivial, c14, trivial, trivial, (off_false c15), trivial, trivial, trivial, trivial, trivial, trivial, trivial, trivial, trivial, trivial, trivial, trivial, trivial, trivial, trivial, trivial, trivial, trivial, trivial, trivial, trivial, trivial, trivial, trivial, trivial, trivial, trivial, trivial, trivial⟩ ?_
        exact joinQ_leaf (false) h (conv_ren [] [0] (n := 0) (by kernel_rfl) (by kernel_rfl))
    · rw [if_neg c14] at h
      refine AW.reg tt_ok1 [0] [] [{}, { h := { b := some false } }] ⟨[(0, .c (.t (.v (.bool false))))], [], 61⟩ [True, (y2 == 0) = false, True, True, True, True, True, True, True, True, True, True, True, True, True, True, True, True, True, True, True, True, True, True, True, True, True, True, True, True, True, True, True] (by kernel_rfl) (by kernel_rfl) ⟨trivial, (off_false c14), trivial, trivial, trivial, trivial, trivial, trivial, trivial, trivial, trivial, trivial, trivial, trivial, trivial, trivial, trivial, trivial, trivial, trivial, trivial, trivial, trivial, trivial, trivial, trivial, trivial, trivial, trivial, trivial, trivial, trivial, trivial, trivial⟩ ?_
      exact joinQ_leaf (false) h (conv_ren [] [0] (n := 0) (by kernel_rfl) (by kernel_rfl))
/-! recordlink/recordlinkref09.order -/
noncomputable def rl_ref09_order (p0 : Int) (p1 : Int) : Option Int := if (decide (p0 < p1)) = true then (some (-1)) else (if (decide (p0 > p1)) = true then (some 1) else (some 0))
set_option maxRecDepth 100000 in
theorem rl_ref09_order_con (p0 : Int) (p1 : Int) (r0 : Int) (h : rl_ref09_order p0 p1 = some r0) : Con Try.prog 69 [.c (.t (.v (.int .i64 p0))), .c (.t (.v (.int .i64 p1)))] [] (.c (.t (.v (.int .i64 r0)))) [] := by
  revert h; generalize r0 = r; intro h
  refine con_of tt_ok1 0 Try.func69 (by kernel_rfl) rfl (by kernel_rfl) (fun base X hk => ?_)
  unfold rl_ref09_order at h
  refine AW.seq ?_
  refine AW.reg tt_ok1 [0, 1] [] [] ⟨[(0, .c (.t (.v (.int .i64 p0)))), (1, .c (.t (.v (.int .i64 p1))))], [], 1⟩ [True] (by kernel_rfl) (by kernel_rfl) ⟨trivial, trivial⟩ ?_
  refine AW.thenQ_normal ?_
  refine AW.seq ?_
  refine AW.seq ?_
  refine AW.reg tt_ok1 [0, 1, 7] [] [] ⟨[(7, .c (.t (.v (.bool (decide (p0 < p1)))))), (0, .c (.t (.v (.int .i64 p0)))), (1, .c (.t (.v (.int .i64 p1))))], [], 4⟩ [True, True, True] (by kernel_rfl) (by kernel_rfl) ⟨trivial, trivial, trivial, trivial⟩ ?_
  refine AW.thenQ_normal ?_
  refine AW.cond (b := decide (p0 < p1)) (by kernel_rfl) (fun c1 => ?_) (fun c1 => ?_)
  · rw [if_pos c1] at h
    refine AW.seq ?_
    refine AW.reg tt_ok1 [4] [] [] ⟨[(4, .c (.t (.v (.int .i64 (-1)))))], [], 5⟩ [True] (by kernel_rfl) (by kernel_rfl) ⟨trivial, trivial⟩ ?_
    refine AW.thenQ_normal ?_
    refine AW.ret ?_
    refine AW.thenQ_ret ?_
    obtain rfl := some_inj h
    exact ⟨.inr rfl, OutOk.mk [] 0 (out0 := .c (.t (.v (.int .i64 (-1))))) (ps := [True]) (by kernel_rfl) ⟨trivial, trivial⟩ (by kernel_rfl) (by kernel_rfl)⟩
  · rw [if_neg (by rw [c1]; exact Bool.false_ne_true)] at h
    refine AW.skip ?_
    refine AW.thenQ_normal ?_
    refine AW.seq ?_
    refine AW.seq ?_
    refine AW.reg tt_ok1 [10] [] [] ⟨[(10, .c (.t (.v (.bool (decide (p0 > p1))))))], [], 7⟩ [True, True, True] (by kernel_rfl) (by kernel_rfl) ⟨trivial, trivial, trivial, trivial⟩ ?_
    refine AW.thenQ_normal ?_
    refine AW.cond (b := decide (p0 > p1)) (by kernel_rfl) (fun c2 => ?_) (fun c2 => ?_)
    · rw [if_pos c2] at h
      refine AW.seq ?_
      refine AW.reg tt_ok1 [4] [] [] ⟨[(4, .c (.t (.v (.int .i64 1))))], [], 8⟩ [True] (by kernel_rfl) (by kernel_rfl) ⟨trivial, trivial⟩ ?_
      refine AW.thenQ_normal ?_
      refine AW.ret ?_
      refine AW.thenQ_ret ?_
      obtain rfl := some_inj h
      exact ⟨.inr rfl, OutOk.mk [] 0 (out0 := .c (.t (.v (.int .i64 1)))) (ps := [True]) (by kernel_rfl) ⟨trivial, trivial⟩ (by kernel_rfl) (by kernel_rfl)⟩
    · rw [if_neg (by rw [c2]; exact Bool.false_ne_true)] at h
      refine AW.skip ?_
      refine AW.thenQ_normal ?_
      refine AW.seq ?_
      refine AW.reg tt_ok1 [4] [] [] ⟨[(4, .c (.t (.v (.int .i64 0))))], [], 8⟩ [True] (by kernel_rfl) (by kernel_rfl) ⟨trivial, trivial⟩ ?_
      refine AW.thenQ_normal ?_
      refine AW.ret ?_
      obtain rfl := some_inj h
      exact ⟨.inr rfl, OutOk.mk [] 0 (out0 := .c (.t (.v (.int .i64 0)))) (ps := [True]) (by kernel_rfl) ⟨trivial, trivial⟩ (by kernel_rfl) (by kernel_rfl)⟩
/-! recordlink/recordlinkref09.Compare -/
noncomputable def rl_ref09_Compare_l4 (p0 : S_api_Bits) (p1 : S_api_Bits) (x8 : Int) : Option (Int ⊕ (Unit ⊕ Int)) := if (decide (x8 < ((p0.Words.length : Nat) : Int))) = true then (if 0 ≤ x8 then (if x8 < ((p0.Words.length : Nat) : Int) then (if x8 < ((p1.Words.length : Nat) : Int) then (if (decide ((p0.Words.getD x8.toNat 0) < (p1.Words.getD x8.toNat 0))) = true then (some (.inr (.inr (-1)))) else (if (decide ((p0.Words.getD x8.toNat 0) > (p1.Words.getD x8.toNat 0))) = true then (some (.inr (.inr 1))) else (some (.inl (IntKind.i64.wrap (x8 + 1)))))) else none) else none) else none) else (some (.inr (.inl ())))
noncomputable def rl_ref09_Compare_a5 : Option Int := some 0
noncomputable def rl_ref09_Compare_a6 (x16 : Int) : Option Int := some x16
noncomputable def rl_ref09_Compare (p0 : S_api_Bits) (p1 : S_api_Bits) : Option Int := (rl_ref09_order p0.Length p1.Length).bind fun y1 => (if (y1 != 0) = true then (some y1) else ((rl_ref09_order ((p0.Words.length : Nat) : Int) ((p1.Words.length : Nat) : Int)).bind fun y4 => (if (y4 != 0) = true then (some y4) else (bindE (loop (fun v : Int => rl_ref09_Compare_l4 p0 p1 v) 0) (fun t => rl_ref09_Compare_a5) (fun t => rl_ref09_Compare_a6 t)))))
set_option maxRecDepth 100000 in
theorem rl_ref09_Compare_con (p0 : S_api_Bits) (p1 : S_api_Bits) (r0 : Int) (h : rl_ref09_Compare p0 p1 = some r0) : Con Try.prog 44 [.agg [.t (.v (.int .i64 p0.Length)), .t (.tree p0.Words.length 1 (Ru64 p0.Words))], .agg [.t (.v (.int .i64 p1.Length)), .t (.tree p1.Words.length 1 (Ru64 p1.Words))]] [] (.c (.t (.v (.int .i64 r0)))) [] := by
  revert h; generalize r0 = r; intro h
  refine con_of tt_ok1 0 Try.func44 (by kernel_rfl) rfl (by kernel_rfl) (fun base X hk => ?_)
  unfold rl_ref09_Compare at h
  refine AW.seq ?_
  refine AW.reg tt_ok1 [2, 3] [0, 1] [] ⟨[(3, .c (.ptr 1 2 0 0)), (2, .c (.ptr 0 2 0 0))], [(1, .box 29 [.t (.v (.int .i64 p1.Length)), .t (.tree p1.Words.length 1 (Ru64 p1.Words))]), (0, .box 29 [.t (.v (.int .i64 p0.Length)), .t (.tree p0.Words.length 1 (Ru64 p0.Words))])], 3⟩ [True, True, True] (by kernel_rfl) (by kernel_rfl) ⟨trivial, trivial, trivial, trivial⟩ ?_
  refine AW.thenQ_normal ?_
  refine AW.seq ?_
  refine AW.seq ?_
  obtain ⟨y1, e2, h⟩ := bnd_some h
  refine AW.reg tt_ok1 [2, 3, 5] [0, 1] [{}, {}, {}, {}, { call := some { ids := [], frz := [], flat := true, cnt := 0, args := [.c (.t (.v (.int .i64 p0.Length))), .c (.t (.v (.int .i64 p1.Length)))], out := .c (.t (.v (.int .i64 y1))), outb := [] } }] ⟨[(5, .c (.t (.v (.int .i64 y1)))), (3, .c (.ptr 1 2 0 0)), (2, .c (.ptr 0 2 0 0))], [(1, .box 29 [.t (.v (.int .i64 p1.Length)), .t (.tree p1.Words.length 1 (Ru64 p1.Words))]), (0, .box 29 [.t (.v (.int .i64 p0.Length)), .t (.tree p0.Words.length 1 (Ru64 p0.Words))])], 8⟩ [True, True, True, True, ((True) ∧ (True) ∧ (True)) ∧ (All2 ArgLe [.c (.t (.v (.int .i64 p0.Length))), .c (.t (.v (.int .i64 p1.Length)))] [.c (.t (.v (.int .i64 p0.Length))), .c (.t (.v (.int .i64 p1.Length)))]) ∧ ((true = true → flatB [])) ∧ (Con Try.prog 69 [.c (.t (.v (.int .i64 p0.Length))), .c (.t (.v (.int .i64 p1.Length)))] [] (.c (.t (.v (.int .i64 y1)))) []), True] (by kernel_rfl) (by kernel_rfl) ⟨trivial, trivial, trivial, trivial, ⟨⟨trivial, trivial, trivial⟩, ⟨ArgLe.refl _, ArgLe.refl _, trivial⟩, (fun _ => trivial), (rl_ref09_order_con p0.Length p1.Length y1 e2)⟩, trivial, trivial⟩ ?_
  refine AW.thenQ_normal ?_
  refine AW.seq ?_
  refine AW.reg tt_ok1 [2, 3, 5, 14] [0, 1] [] ⟨[(14, .c (.t (.v (.bool (y1 != 0))))), (5, .c (.t (.v (.int .i64 y1)))), (3, .c (.ptr 1 2 0 0)), (2, .c (.ptr 0 2 0 0))], [(1, .box 29 [.t (.v (.int .i64 p1.Length)), .t (.tree p1.Words.length 1 (Ru64 p1.Words))]), (0, .box 29 [.t (.v (.int .i64 p0.Length)), .t (.tree p0.Words.length 1 (Ru64 p0.Words))])], 10⟩ [True, True] (by kernel_rfl) (by kernel_rfl) ⟨trivial, trivial, trivial⟩ ?_
  refine AW.thenQ_normal ?_
  refine AW.cond (b := (y1 != 0)) (by kernel_rfl) (fun c3 => ?_) (fun c3 => ?_)
  · rw [if_pos c3] at h
    refine AW.seq ?_
    refine AW.reg tt_ok1 [4] [] [] ⟨[(4, .c (.t (.v (.int .i64 y1))))], [], 12⟩ [True, True] (by kernel_rfl) (by kernel_rfl) ⟨trivial, trivial, trivial⟩ ?_
    refine AW.thenQ_normal ?_
    refine AW.ret ?_
    refine AW.thenQ_ret ?_
    obtain rfl := some_inj h
    exact ⟨.inr rfl, OutOk.mk [] 0 (out0 := .c (.t (.v (.int .i64 y1)))) (ps := [True]) (by kernel_rfl) ⟨trivial, trivial⟩ (by kernel_rfl) (by kernel_rfl)⟩
  · rw [if_neg (by rw [c3]; exact Bool.false_ne_true)] at h
    refine AW.skip ?_
    refine AW.thenQ_normal ?_
    refine AW.seq ?_
    refine AW.seq ?_
    obtain ⟨y4, e5, h⟩ := bnd_some h
    refine AW.reg tt_ok1 [2, 3, 6] [0, 1] [{}, {}, {}, {}, {}, {}, { call := some { ids := [], frz := [], flat := true, cnt := 0, args := [.c (.t (.v (.int .i64 ((p0.Words.length : Nat) : Int)))), .c (.t (.v (.int .i64 ((p1.Words.length : Nat) : Int))))], out := .c (.t (.v (.int .i64 y4))), outb := [] } }] ⟨[(6, .c (.t (.v (.int .i64 y4)))), (3, .c (.ptr 1 2 0 0)), (2, .c (.ptr 0 2 0 0))], [(1, .box 29 [.t (.v (.int .i64 p1.Length)), .t (.tree p1.Words.length 1 (Ru64 p1.Words))]), (0, .box 29 [.t (.v (.int .i64 p0.Length)), .t (.tree p0.Words.length 1 (Ru64 p0.Words))])], 17⟩ [True, True, True, True, True, True, ((True) ∧ (True) ∧ (True)) ∧ (All2 ArgLe [.c (.t (.v (.int .i64 ((p0.Words.length : Nat) : Int)))), .c (.t (.v (.int .i64 ((p1.Words.length : Nat) : Int))))] [.c (.t (.v (.int .i64 ((p0.Words.length : Nat) : Int)))), .c (.t (.v (.int .i64 ((p1.Words.length : Nat) : Int))))]) ∧ ((true = true → flatB [])) ∧ (Con Try.prog 69 [.c (.t (.v (.int .i64 ((p0.Words.length : Nat) : Int)))), .c (.t (.v (.int .i64 ((p1.Words.length : Nat) : Int))))] [] (.c (.t (.v (.int .i64 y4)))) []), True] (by kernel_rfl) (by kernel_rfl) ⟨trivial, trivial, trivial, trivial, trivial, trivial, ⟨⟨trivial, trivial, trivial⟩, ⟨ArgLe.refl _, ArgLe.refl _, trivial⟩, (fun _ => trivial), (rl_ref09_order_con ((p0.Words.length : Nat) : Int) ((p1.Words.length : Nat) : Int) y4 e5)⟩, trivial, trivial⟩ ?_
    refine AW.thenQ_normal ?_
    refine AW.seq ?_
    refine AW.reg tt_ok1 [2, 3, 6, 24] [0, 1] [] ⟨[(24, .c (.t (.v (.bool (y4 != 0))))), (6, .c (.t (.v (.int .i64 y4)))), (3, .c (.ptr 1 2 0 0)), (2, .c (.ptr 0 2 0 0))], [(1, .box 29 [.t (.v (.int .i64 p1.Length)), .t (.tree p1.Words.length 1 (Ru64 p1.Words))]), (0, .box 29 [.t (.v (.int .i64 p0.Length)), .t (.tree p0.Words.length 1 (Ru64 p0.Words))])], 19⟩ [True, True] (by kernel_rfl) (by kernel_rfl) ⟨trivial, trivial, trivial⟩ ?_
    refine AW.thenQ_normal ?_
    refine AW.cond (b := (y4 != 0)) (by kernel_rfl) (fun c6 => ?_) (fun c6 => ?_)
    · rw [if_pos c6] at h
      refine AW.seq ?_
      refine AW.reg tt_ok1 [4] [] [] ⟨[(4, .c (.t (.v (.int .i64 y4))))], [], 21⟩ [True, True] (by kernel_rfl) (by kernel_rfl) ⟨trivial, trivial, trivial⟩ ?_
      refine AW.thenQ_normal ?_
      refine AW.ret ?_
      refine AW.thenQ_ret ?_
      obtain rfl := some_inj h
      exact ⟨.inr rfl, OutOk.mk [] 0 (out0 := .c (.t (.v (.int .i64 y4)))) (ps := [True]) (by kernel_rfl) ⟨trivial, trivial⟩ (by kernel_rfl) (by kernel_rfl)⟩
    · rw [if_neg (by rw [c6]; exact Bool.false_ne_true)] at h
      refine AW.skip ?_
      refine AW.thenQ_normal ?_
      refine AW.seq ?_
      refine AW.seq ?_
      refine AW.reg tt_ok1 [2, 3, 7] [0, 1] [] ⟨[(7, .c (.t (.v (.int .i64 0)))), (3, .c (.ptr 1 2 0 0)), (2, .c (.ptr 0 2 0 0))], [(1, .box 29 [.t (.v (.int .i64 p1.Length)), .t (.tree p1.Words.length 1 (Ru64 p1.Words))]), (0, .box 29 [.t (.v (.int .i64 p0.Length)), .t (.tree p0.Words.length 1 (Ru64 p0.Words))])], 20⟩ [True] (by kernel_rfl) (by kernel_rfl) ⟨trivial, trivial⟩ ?_
      refine AW.thenQ_normal ?_
      refine AW.block ?_
      rcases bindE_some h with ⟨t, l17, h⟩ | ⟨t, l17, h⟩
      ·
        replace h : rl_ref09_Compare_a5 = some r := h
        unfold rl_ref09_Compare_a5 at h
        refine AW.pre (S' := ((fun v => ⟨[(2, .c (.ptr 0 2 0 0)), (3, .c (.ptr 1 2 0 0)), (7, .c (.t (.v (.int .i64 v))))], [(0, .box 29 [.t (.v (.int .i64 p0.Length)), .t (.tree p0.Words.length 1 (Ru64 p0.Words))]), (1, .box 29 [.t (.v (.int .i64 p1.Length)), .t (.tree p1.Words.length 1 (Ru64 p1.Words))])], 2⟩) : Int → St) 0) (conv_ren [(0, 0), (1, 1)] [2, 3, 7] (n := 2) (by kernel_rfl) (by kernel_rfl)) ?_
        refine AW.loop2 (step := (fun v : Int => rl_ref09_Compare_l4 p0 p1 v)) (s0 := 0) (t := .inl ()) (fun v => ⟨[(2, .c (.ptr 0 2 0 0)), (3, .c (.ptr 1 2 0 0)), (7, .c (.t (.v (.int .i64 v))))], [(0, .box 29 [.t (.v (.int .i64 p0.Length)), .t (.tree p0.Words.length 1 (Ru64 p0.Words))]), (1, .box 29 [.t (.v (.int .i64 p1.Length)), .t (.tree p1.Words.length 1 (Ru64 p1.Words))])], 2⟩) (fun t : (Unit ⊕ Int) => match t with | .inl t => (.exit 0, ⟨[], [], 0⟩) | .inr t => (.ret, ⟨[(4, .c (.t (.v (.int .i64 t))))], [], 0⟩)) l17 (fun t => by cases t <;> trivial) ?_ ?_
        ·
          clear l17 h
          intro v o h
          obtain ⟨x8, rfl⟩ : ∃ x, x = v := ⟨_, rfl⟩
          replace h : rl_ref09_Compare_l4 p0 p1 x8 = some o := h
          unfold rl_ref09_Compare_l4 at h
          show AW _ ⟨[(2, .c (.ptr 0 2 0 0)), (3, .c (.ptr 1 2 0 0)), (7, .c (.t (.v (.int .i64 x8))))], [(0, .box 29 [.t (.v (.int .i64 p0.Length)), .t (.tree p0.Words.length 1 (Ru64 p0.Words))]), (1, .box 29 [.t (.v (.int .i64 p1.Length)), .t (.tree p1.Words.length 1 (Ru64 p1.Words))])], 2⟩ _ _
          refine AW.seq ?_
          refine AW.seq ?_
          refine AW.reg tt_ok1 [2, 3, 7, 30] [0, 1] [] ⟨[(30, .c (.t (.v (.bool (decide (x8 < ((p0.Words.length : Nat) : Int))))))), (2, .c (.ptr 0 2 0 0)), (3, .c (.ptr 1 2 0 0)), (7, .c (.t (.v (.int .i64 x8))))], [(0, .box 29 [.t (.v (.int .i64 p0.Length)), .t (.tree p0.Words.length 1 (Ru64 p0.Words))]), (1, .box 29 [.t (.v (.int .i64 p1.Length)), .t (.tree p1.Words.length 1 (Ru64 p1.Words))])], 7⟩ [True, True, True, True, True] (by kernel_rfl) (by kernel_rfl) ⟨trivial, trivial, trivial, trivial, trivial, trivial⟩ ?_
          refine AW.thenQ_normal ?_
          refine AW.cond (b := decide (x8 < ((p0.Words.length : Nat) : Int))) (by kernel_rfl) (fun c10 => ?_) (fun c10 => ?_)
          · rw [if_pos c10] at h
            refine AW.skip ?_
            refine AW.thenQ_normal ?_
            refine AW.seq ?_
            refine AW.block ?_
            refine AW.seq ?_
            refine AW.seq ?_
            obtain ⟨g11, h⟩ := ifc h
            obtain ⟨g12, h⟩ := ifc h
            obtain ⟨g13, h⟩ := ifc h
            refine AW.regD tt_ok1 mo1 [0, 1, 0, 7, 15, 0, 32, 0, 224, 480, 1023] [[], [], [], [], [], [], [], [], [], [], []] [2, 3, 7, 43] [0, 1] [] ⟨[(43, .c (.t (.v (.bool (decide ((p0.Words.getD x8.toNat 0) < (p1.Words.getD x8.toNat 0))))))), (2, .c (.ptr 0 2 0 0)), (3, .c (.ptr 1 2 0 0)), (7, .c (.t (.v (.int .i64 x8))))], [(0, .box 29 [.t (.v (.int .i64 p0.Length)), .t (.tree p0.Words.length 1 (Ru64 p0.Words))]), (1, .box 29 [.t (.v (.int .i64 p1.Length)), .t (.tree p1.Words.length 1 (Ru64 p1.Words))])], 18⟩ [True, True, True, (0 ≤ x8) ∧ (x8 < ((p0.Words.length : Nat) : Int)), True, True, True, True, (0 ≤ x8) ∧ (x8 < ((p1.Words.length : Nat) : Int)), True, True] (by kernel_rfl) (by kernel_rfl) ⟨trivial, trivial, trivial, ⟨g11, g12⟩, trivial, trivial, trivial, trivial, ⟨g11, g13⟩, trivial, trivial, trivial⟩ ?_
            refine AW.thenQ_normal ?_
            refine AW.cond (b := decide ((p0.Words.getD x8.toNat 0) < (p1.Words.getD x8.toNat 0))) (by kernel_rfl) (fun c14 => ?_) (fun c14 => ?_)
            · rw [if_pos c14] at h
              refine AW.seq ?_
              refine AW.reg tt_ok1 [4] [] [] ⟨[(4, .c (.t (.v (.int .i64 (-1)))))], [], 19⟩ [True] (by kernel_rfl) (by kernel_rfl) ⟨trivial, trivial⟩ ?_
              refine AW.thenQ_normal ?_
              refine AW.ret ?_
              refine AW.thenQ_ret ?_
              refine AW.inBlock_ret ?_
              refine AW.thenQ_ret ?_
              obtain rfl := some_inj h
              refine loopQ_out rfl (conv_ren [] [4] (n := 0) (by kernel_rfl) (by kernel_rfl))
            · rw [if_neg (by rw [c14]; exact Bool.false_ne_true)] at h
              refine AW.skip ?_
              refine AW.thenQ_normal ?_
              refine AW.seq ?_
              refine AW.regD tt_ok1 mo1 [0, 1, 0, 7, 15, 0, 32, 0, 224, 480, 1023] [[], [], [], [], [], [], [], [], [], [], []] [2, 3, 7, 54] [0, 1] [] ⟨[(54, .c (.t (.v (.bool (decide ((p0.Words.getD x8.toNat 0) > (p1.Words.getD x8.toNat 0))))))), (2, .c (.ptr 0 2 0 0)), (3, .c (.ptr 1 2 0 0)), (7, .c (.t (.v (.int .i64 x8))))], [(0, .box 29 [.t (.v (.int .i64 p0.Length)), .t (.tree p0.Words.length 1 (Ru64 p0.Words))]), (1, .box 29 [.t (.v (.int .i64 p1.Length)), .t (.tree p1.Words.length 1 (Ru64 p1.Words))])], 29⟩ [True, True, True, (0 ≤ x8) ∧ (x8 < ((p0.Words.length : Nat) : Int)), True, True, True, True, (0 ≤ x8) ∧ (x8 < ((p1.Words.length : Nat) : Int)), True, True] (by kernel_rfl) (by kernel_rfl) ⟨trivial, trivial, trivial, ⟨g11, g12⟩, trivial, trivial, trivial, trivial, ⟨g11, g13⟩, trivial, trivial, trivial⟩ ?_
              refine AW.thenQ_normal ?_
              refine AW.cond (b := decide ((p0.Words.getD x8.toNat 0) > (p1.Words.getD x8.toNat 0))) (by kernel_rfl) (fun c15 => ?_) (fun c15 => ?_)
              · rw [if_pos c15] at h
                refine AW.seq ?_
                refine AW.reg tt_ok1 [4] [] [] ⟨[(4, .c (.t (.v (.int .i64 1))))], [], 30⟩ [True] (by kernel_rfl) (by kernel_rfl) ⟨trivial, trivial⟩ ?_
                refine AW.thenQ_normal ?_
                refine AW.ret ?_
                refine AW.inBlock_ret ?_
                refine AW.thenQ_ret ?_
                obtain rfl := some_inj h
                refine loopQ_out rfl (conv_ren [] [4] (n := 0) (by kernel_rfl) (by kernel_rfl))
              · rw [if_neg (by rw [c15]; exact Bool.false_ne_true)] at h
                refine AW.skip ?_
                refine AW.inBlock_normal ?_
                refine AW.thenQ_normal ?_
                refine AW.reg tt_ok1 [2, 3, 7] [0, 1] [] ⟨[(7, .c (.t (.v (.int .i64 (IntKind.i64.wrap (x8 + 1)))))), (2, .c (.ptr 0 2 0 0)), (3, .c (.ptr 1 2 0 0))], [(0, .box 29 [.t (.v (.int .i64 p0.Length)), .t (.tree p0.Words.length 1 (Ru64 p0.Words))]), (1, .box 29 [.t (.v (.int .i64 p1.Length)), .t (.tree p1.Words.length 1 (Ru64 p1.Words))])], 32⟩ [True, True, True] (by kernel_rfl) (by kernel_rfl) ⟨trivial, trivial, trivial, trivial⟩ ?_
                obtain rfl := some_inj h
                refine loopQ_next (conv_ren [(0, 0), (1, 1)] [2, 3, 7] (n := 2) (by kernel_rfl) (by kernel_rfl))
          · rw [if_neg (by rw [c10]; exact Bool.false_ne_true)] at h
            refine AW.exit ?_
            refine AW.thenQ_exit ?_
            obtain rfl := some_inj h
            refine loopQ_out rfl (conv_ren [] [] (n := 0) (by kernel_rfl) (by kernel_rfl))
        ·
          show (_ : Exit → St → Prop) (.exit 0) ⟨[], [], 0⟩
          refine AW.inBlock_hit ?_
          refine AW.thenQ_normal ?_
          refine AW.seq ?_
          refine AW.reg tt_ok1 [4] [] [] ⟨[(4, .c (.t (.v (.int .i64 0))))], [], 1⟩ [True] (by kernel_rfl) (by kernel_rfl) ⟨trivial, trivial⟩ ?_
          refine AW.thenQ_normal ?_
          refine AW.ret ?_
          obtain rfl := some_inj h
          exact ⟨.inr rfl, OutOk.mk [] 0 (out0 := .c (.t (.v (.int .i64 0)))) (ps := [True]) (by kernel_rfl) ⟨trivial, trivial⟩ (by kernel_rfl) (by kernel_rfl)⟩
      ·
        obtain ⟨x16, rfl⟩ : ∃ x, x = t := ⟨_, rfl⟩
        replace h : rl_ref09_Compare_a6 x16 = some r := h
        unfold rl_ref09_Compare_a6 at h
        refine AW.pre (S' := ((fun v => ⟨[(2, .c (.ptr 0 2 0 0)), (3, .c (.ptr 1 2 0 0)), (7, .c (.t (.v (.int .i64 v))))], [(0, .box 29 [.t (.v (.int .i64 p0.Length)), .t (.tree p0.Words.length 1 (Ru64 p0.Words))]), (1, .box 29 [.t (.v (.int .i64 p1.Length)), .t (.tree p1.Words.length 1 (Ru64 p1.Words))])], 2⟩) : Int → St) 0) (conv_ren [(0, 0), (1, 1)] [2, 3, 7] (n := 2) (by kernel_rfl) (by kernel_rfl)) ?_
        refine AW.loop2 (step := (fun v : Int => rl_ref09_Compare_l4 p0 p1 v)) (s0 := 0) (t := .inr x16) (fun v => ⟨[(2, .c (.ptr 0 2 0 0)), (3, .c (.ptr 1 2 0 0)), (7, .c (.t (.v (.int .i64 v))))], [(0, .box 29 [.t (.v (.int .i64 p0.Length)), .t (.tree p0.Words.length 1 (Ru64 p0.Words))]), (1, .box 29 [.t (.v (.int .i64 p1.Length)), .t (.tree p1.Words.length 1 (Ru64 p1.Words))])], 2⟩) (fun t : (Unit ⊕ Int) => match t with | .inl t => (.exit 0, ⟨[], [], 0⟩) | .inr t => (.ret, ⟨[(4, .c (.t (.v (.int .i64 t))))], [], 0⟩)) l17 (fun t => by cases t <;> trivial) ?_ ?_
        ·
          clear l17 h
          intro v o h
          obtain ⟨x8, rfl⟩ : ∃ x, x = v := ⟨_, rfl⟩
          replace h : rl_ref09_Compare_l4 p0 p1 x8 = some o := h
          unfold rl_ref09_Compare_l4 at h
          show AW _ ⟨[(2, .c (.ptr 0 2 0 0)), (3, .c (.ptr 1 2 0 0)), (7, .c (.t (.v (.int .i64 x8))))], [(0, .box 29 [.t (.v (.int .i64 p0.Length)), .t (.tree p0.Words.length 1 (Ru64 p0.Words))]), (1, .box 29 [.t (.v (.int .i64 p1.Length)), .t (.tree p1.Words.length 1 (Ru64 p1.Words))])], 2⟩ _ _
          refine AW.seq ?_
          refine AW.seq ?_
          refine AW.reg tt_ok1 [2, 3, 7, 30] [0, 1] [] ⟨[(30, .c (.t (.v (.bool (decide (x8 < ((p0.Words.length : Nat) : Int))))))), (2, .c (.ptr 0 2 0 0)), (3, .c (.ptr 1 2 0 0)), (7, .c (.t (.v (.int .i64 x8))))], [(0, .box 29 [.t (.v (.int .i64 p0.Length)), .t (.tree p0.Words.length 1 (Ru64 p0.Words))]), (1, .box 29 [.t (.v (.int .i64 p1.Length)), .t (.tree p1.Words.length 1 (Ru64 p1.Words))])], 7⟩ [True, True, True, True, True] (by kernel_rfl) (by kernel_rfl) ⟨trivial, trivial, trivial, trivial, trivial, trivial⟩ ?_
          refine AW.thenQ_normal ?_
          refine AW.cond (b := decide (x8 < ((p0.Words.length : Nat) : Int))) (by kernel_rfl) (fun c10 => ?_) (fun c10 => ?_)
          · rw [if_pos c10] at h
            refine AW.skip ?_
            refine AW.thenQ_normal ?_
            refine AW.seq ?_
            refine AW.block ?_
            refine AW.seq ?_
            refine AW.seq ?_
            obtain ⟨g11, h⟩ := ifc h
            obtain ⟨g12, h⟩ := ifc h
            obtain ⟨g13, h⟩ := ifc h
            refine AW.regD tt_ok1 mo1 [0, 1, 0, 7, 15, 0, 32, 0, 224, 480, 1023] [[], [], [], [], [], [], [], [], [], [], []] [2, 3, 7, 43] [0, 1] [] ⟨[(43, .c (.t (.v (.bool (decide ((p0.Words.getD x8.toNat 0) < (p1.Words.getD x8.toNat 0))))))), (2, .c (.ptr 0 2 0 0)), (3, .c (.ptr 1 2 0 0)), (7, .c (.t (.v (.int .i64 x8))))], [(0, .box 29 [.t (.v (.int .i64 p0.Length)), .t (.tree p0.Words.length 1 (Ru64 p0.Words))]), (1, .box 29 [.t (.v (.int .i64 p1.Length)), .t (.tree p1.Words.length 1 (Ru64 p1.Words))])], 18⟩ [True, True, True, (0 ≤ x8) ∧ (x8 < ((p0.Words.length : Nat) : Int)), True, True, True, True, (0 ≤ x8) ∧ (x8 < ((p1.Words.length : Nat) : Int)), True, True] (by kernel_rfl) (by kernel_rfl) ⟨trivial, trivial, trivial, ⟨g11, g12⟩, trivial, trivial, trivial, trivial, ⟨g11, g13⟩, trivial, trivial, trivial⟩ ?_
            refine AW.thenQ_normal ?_
            refine AW.cond (b := decide ((p0.Words.getD x8.toNat 0) < (p1.Words.getD x8.toNat 0))) (by kernel_rfl) (fun c14 => ?_) (fun c14 => ?_)
            · rw [if_pos c14] at h
              refine AW.seq ?_
              refine AW.reg tt_ok1 [4] [] [] ⟨[(4, .c (.t (.v (.int .i64 (-1)))))], [], 19⟩ [True] (by kernel_rfl) (by kernel_rfl) ⟨trivial, trivial⟩ ?_
              refine AW.thenQ_normal ?_
              refine AW.ret ?_
              refine AW.thenQ_ret ?_
              refine AW.inBlock_ret ?_
              refine AW.thenQ_ret ?_
              obtain rfl := some_inj h
              refine loopQ_out rfl (conv_ren [] [4] (n := 0) (by kernel_rfl) (by kernel_rfl))
            · rw [if_neg (by rw [c14]; exact Bool.false_ne_true)] at h
              refine AW.skip ?_
              refine AW.thenQ_normal ?_
              refine AW.seq ?_
              refine AW.regD tt_ok1 mo1 [0, 1, 0, 7, 15, 0, 32, 0, 224, 480, 1023] [[], [], [], [], [], [], [], [], [], [], []] [2, 3, 7, 54] [0, 1] [] ⟨[(54, .c (.t (.v (.bool (decide ((p0.Words.getD x8.toNat 0) > (p1.Words.getD x8.toNat 0))))))), (2, .c (.ptr 0 2 0 0)), (3, .c (.ptr 1 2 0 0)), (7, .c (.t (.v (.int .i64 x8))))], [(0, .box 29 [.t (.v (.int .i64 p0.Length)), .t (.tree p0.Words.length 1 (Ru64 p0.Words))]), (1, .box 29 [.t (.v (.int .i64 p1.Length)), .t (.tree p1.Words.length 1 (Ru64 p1.Words))])], 29⟩ [True, True, True, (0 ≤ x8) ∧ (x8 < ((p0.Words.length : Nat) : Int)), True, True, True, True, (0 ≤ x8) ∧ (x8 < ((p1.Words.length : Nat) : Int)), True, True] (by kernel_rfl) (by kernel_rfl) ⟨trivial, trivial, trivial, ⟨g11, g12⟩, trivial, trivial, trivial, trivial, ⟨g11, g13⟩, trivial, trivial, trivial⟩ ?_
              refine AW.thenQ_normal ?_
              refine AW.cond (b := decide ((p0.Words.getD x8.toNat 0) > (p1.Words.getD x8.toNat 0))) (by kernel_rfl) (fun c15 => ?_) (fun c15 => ?_)
              · rw [if_pos c15] at h
                refine AW.seq ?_
                refine AW.reg tt_ok1 [4] [] [] ⟨[(4, .c (.t (.v (.int .i64 1))))], [], 30⟩ [True] (by kernel_rfl) (by kernel_rfl) ⟨trivial, trivial⟩ ?_
                refine AW.thenQ_normal ?_
                refine AW.ret ?_
                refine AW.inBlock_ret ?_
                refine AW.thenQ_ret ?_
                obtain rfl := some_inj h
                refine loopQ_out rfl (conv_ren [] [4] (n := 0) (by kernel_rfl) (by kernel_rfl))
              · rw [if_neg (by rw [c15]; exact Bool.false_ne_true)] at h
                refine AW.skip ?_
                refine AW.inBlock_normal ?_
                refine AW.thenQ_normal ?_
                refine AW.reg tt_ok1 [2, 3, 7] [0, 1] [] ⟨[(7, .c (.t (.v (.int .i64 (IntKind.i64.wrap (x8 + 1)))))), (2, .c (.ptr 0 2 0 0)), (3, .c (.ptr 1 2 0 0))], [(0, .box 29 [.t (.v (.int .i64 p0.Length)), .t (.tree p0.Words.length 1 (Ru64 p0.Words))]), (1, .box 29 [.t (.v (.int .i64 p1.Length)), .t (.tree p1.Words.length 1 (Ru64 p1.Words))])], 32⟩ [True, True, True] (by kernel_rfl) (by kernel_rfl) ⟨trivial, trivial, trivial, trivial⟩ ?_
                obtain rfl := some_inj h
                refine loopQ_next (conv_ren [(0, 0), (1, 1)] [2, 3, 7] (n := 2) (by kernel_rfl) (by kernel_rfl))
          · rw [if_neg (by rw [c10]; exact Bool.false_ne_true)] at h
            refine AW.exit ?_
            refine AW.thenQ_exit ?_
            obtain rfl := some_inj h
            refine loopQ_out rfl (conv_ren [] [] (n := 0) (by kernel_rfl) (by kernel_rfl))
        ·
          show (_ : Exit → St → Prop) (.ret) ⟨[(4, .c (.t (.v (.int .i64 x16))))], [], 0⟩
          refine AW.inBlock_ret ?_
          refine AW.thenQ_ret ?_
          obtain rfl := some_inj h
          exact ⟨.inr rfl, OutOk.mk [] 0 (out0 := .c (.t (.v (.int .i64 x16)))) (ps := [True]) (by kernel_rfl) ⟨trivial, trivial⟩ (by kernel_rfl) (by kernel_rfl)⟩
/-! recordlink/recordlinklaw09.same -/
noncomputable def rl_law09_same (p0 : S_api_Bits) (p1 : S_api_Bits) : Option Bool := (rl_ref09_Compare p0 p1).bind fun y1 => (some (y1 == 0))
set_option maxRecDepth 100000 in
theorem rl_law09_same_con (p0 : S_api_Bits) (p1 : S_api_Bits) (r0 : Bool) (h : rl_law09_same p0 p1 = some r0) : Con Try.prog 20 [.agg [.t (.v (.int .i64 p0.Length)), .t (.tree p0.Words.length 1 (Ru64 p0.Words))], .agg [.t (.v (.int .i64 p1.Length)), .t (.tree p1.Words.length 1 (Ru64 p1.Words))]] [] (.c (.t (.v (.bool r0)))) [] := by
  revert h; generalize r0 = r; intro h
  refine con_of tt_ok1 0 Try.func20 (by kernel_rfl) rfl (by kernel_rfl) (fun base X hk => ?_)
  unfold rl_law09_same at h
  refine AW.seq ?_
  refine AW.reg tt_ok1 [2, 3] [0, 1] [] ⟨[(3, .c (.ptr 1 2 0 0)), (2, .c (.ptr 0 2 0 0))], [(1, .box 29 [.t (.v (.int .i64 p1.Length)), .t (.tree p1.Words.length 1 (Ru64 p1.Words))]), (0, .box 29 [.t (.v (.int .i64 p0.Length)), .t (.tree p0.Words.length 1 (Ru64 p0.Words))])], 3⟩ [True, True, True] (by kernel_rfl) (by kernel_rfl) ⟨trivial, trivial, trivial, trivial⟩ ?_
  refine AW.thenQ_normal ?_
  refine AW.seq ?_
  obtain ⟨y1, e2, h⟩ := bnd_some h
  refine AW.reg tt_ok1 [4] [] [{}, {}, { call := some { ids := [], frz := [], flat := true, cnt := 0, args := [.agg [.t (.v (.int .i64 p0.Length)), .t (.tree p0.Words.length 1 (Ru64 p0.Words))], .agg [.t (.v (.int .i64 p1.Length)), .t (.tree p1.Words.length 1 (Ru64 p1.Words))]], out := .c (.t (.v (.int .i64 y1))), outb := [] } }] ⟨[(4, .c (.t (.v (.bool (y1 == 0)))))], [], 7⟩ [True, True, (((True) ∧ (True) ∧ (True)) ∧ ((True) ∧ (True) ∧ (True)) ∧ (True)) ∧ (All2 ArgLe [.agg [.t (.v (.int .i64 p0.Length)), .t (.tree p0.Words.length 1 (Ru64 p0.Words))], .agg [.t (.v (.int .i64 p1.Length)), .t (.tree p1.Words.length 1 (Ru64 p1.Words))]] [.agg [.t (.v (.int .i64 p0.Length)), .t (.tree p0.Words.length 1 (Ru64 p0.Words))], .agg [.t (.v (.int .i64 p1.Length)), .t (.tree p1.Words.length 1 (Ru64 p1.Words))]]) ∧ ((true = true → flatB [])) ∧ (Con Try.prog 44 [.agg [.t (.v (.int .i64 p0.Length)), .t (.tree p0.Words.length 1 (Ru64 p0.Words))], .agg [.t (.v (.int .i64 p1.Length)), .t (.tree p1.Words.length 1 (Ru64 p1.Words))]] [] (.c (.t (.v (.int .i64 y1)))) []), True, True] (by kernel_rfl) (by kernel_rfl) ⟨trivial, trivial, ⟨⟨⟨trivial, trivial, trivial⟩, ⟨trivial, trivial, trivial⟩, trivial⟩, ⟨ArgLe.refl _, ArgLe.refl _, trivial⟩, (fun _ => trivial), (rl_ref09_Compare_con p0 p1 y1 e2)⟩, trivial, trivial, trivial⟩ ?_
  refine AW.thenQ_normal ?_
  refine AW.ret ?_
  obtain rfl := some_inj h
  exact ⟨.inr rfl, OutOk.mk [] 0 (out0 := .c (.t (.v (.bool (y1 == 0))))) (ps := [True]) (by kernel_rfl) ⟨trivial, trivial⟩ (by kernel_rfl) (by kernel_rfl)⟩
/-! recordlink/recordlinkref17.Size -/
noncomputable def rl_ref17_Size_l2 (p0 : Int) (x3 : Int) (x4 : Int) : Option ((Int × Int) ⊕ Int) := if (decide (x4 < p0)) = true then (some (.inl (IntKind.i64.wrap (x3 * 3), IntKind.i64.wrap (x4 + 1)))) else (some (.inr x3))
noncomputable def rl_ref17_Size (p0 : Int) : Option Int := (loop (fun v : Int × Int => rl_ref17_Size_l2 p0 v.1 v.2) (1, 0)).bind fun x7 => (some x7)
set_option maxRecDepth 100000 in
theorem rl_ref17_Size_con (p0 : Int) (r0 : Int) (h : rl_ref17_Size p0 = some r0) : Con Try.prog 26 [.c (.t (.v (.int .i64 p0)))] [] (.c (.t (.v (.int .i64 r0)))) [] := by
  revert h; generalize r0 = r; intro h
  refine con_of tt_ok1 0 Try.func26 (by kernel_rfl) rfl (by kernel_rfl) (fun base X hk => ?_)
  unfold rl_ref17_Size at h
  refine AW.seq ?_
  refine AW.reg tt_ok1 [0] [] [] ⟨[(0, .c (.t (.v (.int .i64 p0))))], [], 1⟩ [True] (by kernel_rfl) (by kernel_rfl) ⟨trivial, trivial⟩ ?_
  refine AW.thenQ_normal ?_
  refine AW.seq ?_
  refine AW.reg tt_ok1 [0, 3] [] [] ⟨[(3, .c (.t (.v (.int .i64 1)))), (0, .c (.t (.v (.int .i64 p0))))], [], 2⟩ [True] (by kernel_rfl) (by kernel_rfl) ⟨trivial, trivial⟩ ?_
  refine AW.thenQ_normal ?_
  refine AW.seq ?_
  refine AW.seq ?_
  refine AW.reg tt_ok1 [0, 3, 4] [] [] ⟨[(4, .c (.t (.v (.int .i64 0)))), (3, .c (.t (.v (.int .i64 1)))), (0, .c (.t (.v (.int .i64 p0))))], [], 3⟩ [True] (by kernel_rfl) (by kernel_rfl) ⟨trivial, trivial⟩ ?_
  refine AW.thenQ_normal ?_
  refine AW.block ?_
  obtain ⟨x7, l8, h⟩ := bnd_some h
  refine AW.pre (S' := ((fun v => ⟨[(0, .c (.t (.v (.int .i64 p0)))), (3, .c (.t (.v (.int .i64 v.1)))), (4, .c (.t (.v (.int .i64 v.2))))], [], 0⟩) : (Int × Int) → St) (1, 0)) (conv_ren [] [0, 3, 4] (n := 0) (by kernel_rfl) (by kernel_rfl)) ?_
  refine AW.loop2 (step := (fun v : Int × Int => rl_ref17_Size_l2 p0 v.1 v.2)) (s0 := (1, 0)) (t := x7) (fun v => ⟨[(0, .c (.t (.v (.int .i64 p0)))), (3, .c (.t (.v (.int .i64 v.1)))), (4, .c (.t (.v (.int .i64 v.2))))], [], 0⟩) (fun t : Int => (.exit 0, ⟨[(3, .c (.t (.v (.int .i64 t))))], [], 0⟩)) l8 (fun _ => trivial) ?_ ?_
  ·
    intro v o h
    obtain ⟨x3, x4⟩ := v
    replace h : rl_ref17_Size_l2 p0 x3 x4 = some o := h
    unfold rl_ref17_Size_l2 at h
    show AW _ ⟨[(0, .c (.t (.v (.int .i64 p0)))), (3, .c (.t (.v (.int .i64 x3)))), (4, .c (.t (.v (.int .i64 x4))))], [], 0⟩ _ _
    refine AW.seq ?_
    refine AW.seq ?_
    refine AW.reg tt_ok1 [0, 3, 4, 7] [] [] ⟨[(7, .c (.t (.v (.bool (decide (x4 < p0)))))), (0, .c (.t (.v (.int .i64 p0)))), (3, .c (.t (.v (.int .i64 x3)))), (4, .c (.t (.v (.int .i64 x4))))], [], 3⟩ [True, True, True] (by kernel_rfl) (by kernel_rfl) ⟨trivial, trivial, trivial, trivial⟩ ?_
    refine AW.thenQ_normal ?_
    refine AW.cond (b := decide (x4 < p0)) (by kernel_rfl) (fun c6 => ?_) (fun c6 => ?_)
    · rw [if_pos c6] at h
      refine AW.skip ?_
      refine AW.thenQ_normal ?_
      refine AW.seq ?_
      refine AW.block ?_
      refine AW.reg tt_ok1 [0, 3, 4] [] [] ⟨[(3, .c (.t (.v (.int .i64 (IntKind.i64.wrap (x3 * 3)))))), (0, .c (.t (.v (.int .i64 p0)))), (4, .c (.t (.v (.int .i64 x4))))], [], 6⟩ [True, True, True] (by kernel_rfl) (by kernel_rfl) ⟨trivial, trivial, trivial, trivial⟩ ?_
      refine AW.inBlock_normal ?_
      refine AW.thenQ_normal ?_
      refine AW.reg tt_ok1 [0, 3, 4] [] [] ⟨[(4, .c (.t (.v (.int .i64 (IntKind.i64.wrap (x4 + 1)))))), (3, .c (.t (.v (.int .i64 (IntKind.i64.wrap (x3 * 3)))))), (0, .c (.t (.v (.int .i64 p0))))], [], 9⟩ [True, True, True] (by kernel_rfl) (by kernel_rfl) ⟨trivial, trivial, trivial, trivial⟩ ?_
      obtain rfl := some_inj h
      refine loopQ_next (conv_ren [] [0, 3, 4] (n := 0) (by kernel_rfl) (by kernel_rfl))
    · rw [if_neg (by rw [c6]; exact Bool.false_ne_true)] at h
      refine AW.exit ?_
      refine AW.thenQ_exit ?_
      obtain rfl := some_inj h
      refine loopQ_out rfl (conv_ren [] [3] (n := 0) (by kernel_rfl) (by kernel_rfl))
  ·
    show (_ : Exit → St → Prop) (.exit 0) ⟨[(3, .c (.t (.v (.int .i64 x7))))], [], 0⟩
    refine AW.inBlock_hit ?_
    refine AW.thenQ_normal ?_
    refine AW.seq ?_
    refine AW.reg tt_ok1 [2] [] [] ⟨[(2, .c (.t (.v (.int .i64 x7))))], [], 2⟩ [True, True] (by kernel_rfl) (by kernel_rfl) ⟨trivial, trivial, trivial⟩ ?_
    refine AW.thenQ_normal ?_
    refine AW.ret ?_
    obtain rfl := some_inj h
    exact ⟨.inr rfl, OutOk.mk [] 0 (out0 := .c (.t (.v (.int .i64 x7)))) (ps := [True]) (by kernel_rfl) ⟨trivial, trivial⟩ (by kernel_rfl) (by kernel_rfl)⟩
/-! recordlink/similarity.Digits -/
noncomputable def similarity_Digits_l6 (p0 : Int) (p1 : Int) (x8 : List Int) (x9 : Int) : Option (((List Int) × Int) ⊕ (List Int)) := if (decide (x9 < p1)) = true then ((similarity_powers).bind fun y12 => (if 0 ≤ x9 then (if x9 < ((6 : Nat) : Int) then (if (y12.getD x9.toNat 0) ≠ 0 then (if x8.length + ([((IntKind.i64.wrap (p0.tdiv (y12.getD x9.toNat 0))).tmod 3)] : List Int).length ≤ 1099511627776 then (some (.inl ((x8 ++ ([((IntKind.i64.wrap (p0.tdiv (y12.getD x9.toNat 0))).tmod 3)] : List Int)), IntKind.i64.wrap (x9 + 1)))) else none) else none) else none) else none)) else (some (.inr x8))
noncomputable def similarity_Digits_k4 (p0 : Int) (p1 : Int) (x4 : Bool) : Option ((List Int) × Int) := if x4 = true then (some (([] : List Int), 2)) else ((loop (fun v : (List Int) × Int => similarity_Digits_l6 p0 p1 v.1 v.2) (([] : List Int), 0)).bind fun x18 => (some (x18, 0)))
noncomputable def similarity_Digits (p0 : Int) (p1 : Int) : Option ((List Int) × Int) := (similarity_fields p1).bind fun y1 => (if (!y1) = true then (some (([] : List Int), 8)) else (if (decide (p0 < 0)) = true then (similarity_Digits_k4 p0 p1 true) else ((similarity_powers).bind fun y21 => (if 0 ≤ p1 then (if p1 < ((6 : Nat) : Int) then (similarity_Digits_k4 p0 p1 (decide (p0 ≥ (y21.getD p1.toNat 0)))) else none) else none))))
set_option maxRecDepth 100000 in
theorem similarity_Digits_con (p0 : Int) (p1 : Int) (r0 : List Int) (r1 : Int) (h : similarity_Digits p0 p1 = some (r0, r1)) : Con Try.prog 27 [.c (.t (.v (.int .i64 p0))), .c (.t (.v (.int .i64 p1)))] [] (.tup [.c (.ref 0 1 0 r0.length), .c (.t (.v (.int .i64 r1)))]) [(0, .row 3 false 1 r0.length (Ri64 r0))] := by
  suffices H : ∀ r, similarity_Digits p0 p1 = some r → Con Try.prog 27 [.c (.t (.v (.int .i64 p0))), .c (.t (.v (.int .i64 p1)))] [] (.tup [.c (.ref 0 1 0 r.1.length), .c (.t (.v (.int .i64 r.2)))]) [(0, .row 3 false 1 r.1.length (Ri64 r.1))] from H (r0, r1) h
  clear h
  intro r h
  refine con_of tt_ok1 0 Try.func27 (by kernel_rfl) rfl (by kernel_rfl) (fun base X hk => ?_)
  unfold similarity_Digits at h
  refine AW.seq ?_
  refine AW.reg tt_ok1 [0, 1] [] [] ⟨[(0, .c (.t (.v (.int .i64 p0)))), (1, .c (.t (.v (.int .i64 p1))))], [], 2⟩ [True, True] (by kernel_rfl) (by kernel_rfl) ⟨trivial, trivial, trivial⟩ ?_
  refine AW.thenQ_normal ?_
  refine AW.seq ?_
  refine AW.seq ?_
  obtain ⟨y1, e2, h⟩ := bnd_some h
  refine AW.reg tt_ok1 [0, 1, 10] [] [{}, { call := some { ids := [], frz := [], flat := true, cnt := 0, args := [.c (.t (.v (.int .i64 p1)))], out := .c (.t (.v (.bool y1))), outb := [] } }] ⟨[(10, .c (.t (.v (.bool (!y1))))), (0, .c (.t (.v (.int .i64 p0)))), (1, .c (.t (.v (.int .i64 p1))))], [], 4⟩ [True, ((True) ∧ (True)) ∧ (All2 ArgLe [.c (.t (.v (.int .i64 p1)))] [.c (.t (.v (.int .i64 p1)))]) ∧ ((true = true → flatB [])) ∧ (Con Try.prog 56 [.c (.t (.v (.int .i64 p1)))] [] (.c (.t (.v (.bool y1)))) []), True] (by kernel_rfl) (by kernel_rfl) ⟨trivial, ⟨⟨trivial, trivial⟩, ⟨ArgLe.refl _, trivial⟩, (fun _ => trivial), (similarity_fields_con p1 y1 e2)⟩, trivial, trivial⟩ ?_
  refine AW.thenQ_normal ?_
  refine AW.cond (b := !y1) (by kernel_rfl) (fun c3 => ?_) (fun c3 => ?_)
  · rw [if_pos c3] at h
    refine AW.seq ?_
    refine AW.reg tt_ok1 [4, 5] [] [] ⟨[(5, .c (.t (.v (.int .i64 8)))), (4, .c (.t (.v (.slice none 0 0))))], [], 6⟩ [True, True] (by kernel_rfl) (by kernel_rfl) ⟨trivial, trivial, trivial⟩ ?_
    refine AW.thenQ_normal ?_
    refine AW.pre (conv_adopt (t := 4) (ty := 3) (sz := 1) (n := ([] : List Int).length) (f := Ri64 ([] : List Int)) (by kernel_rfl) rfl) ?_
    refine AW.ret ?_
    refine AW.thenQ_ret ?_
    obtain rfl := some_inj h
    exact ⟨.inr rfl, OutOk.mk [(0, 6)] 1 (out0 := .tup [.c (.ref 6 1 0 (([] : List Int).length)), .c (.t (.v (.int .i64 8)))]) (ps := [True, True]) (by kernel_rfl) ⟨trivial, trivial, trivial⟩ (by kernel_rfl) (by kernel_rfl)⟩
  · rw [if_neg (by rw [c3]; exact Bool.false_ne_true)] at h
    refine AW.skip ?_
    refine AW.thenQ_normal ?_
    refine AW.seq ?_
    refine AW.seq ?_
    refine AW.join (ι := Bool) (fun v => ⟨[(0, .c (.t (.v (.int .i64 p0)))), (1, .c (.t (.v (.int .i64 p1)))), (19, .c (.t (.v (.bool v))))], [], 0⟩) (fun v : Bool => similarity_Digits_k4 p0 p1 v = some r) (fun v h => ?_) ?_
    ·
      obtain ⟨x4, rfl⟩ : ∃ x, x = v := ⟨_, rfl⟩
      replace h : similarity_Digits_k4 p0 p1 x4 = some r := h
      unfold similarity_Digits_k4 at h
      show (_ : Exit → St → Prop) .normal ⟨[(0, .c (.t (.v (.int .i64 p0)))), (1, .c (.t (.v (.int .i64 p1)))), (19, .c (.t (.v (.bool x4))))], [], 0⟩
      refine AW.thenQ_normal ?_
      refine AW.cond (b := x4) (by kernel_rfl) (fun c5 => ?_) (fun c5 => ?_)
      · rw [if_pos c5] at h
        refine AW.seq ?_
        refine AW.reg tt_ok1 [4, 5] [] [] ⟨[(5, .c (.t (.v (.int .i64 2)))), (4, .c (.t (.v (.slice none 0 0))))], [], 2⟩ [True, True] (by kernel_rfl) (by kernel_rfl) ⟨trivial, trivial, trivial⟩ ?_
        refine AW.thenQ_normal ?_
        refine AW.pre (conv_adopt (t := 4) (ty := 3) (sz := 1) (n := ([] : List Int).length) (f := Ri64 ([] : List Int)) (by kernel_rfl) rfl) ?_
        refine AW.ret ?_
        refine AW.thenQ_ret ?_
        obtain rfl := some_inj h
        exact ⟨.inr rfl, OutOk.mk [(0, 2)] 1 (out0 := .tup [.c (.ref 2 1 0 (([] : List Int).length)), .c (.t (.v (.int .i64 2)))]) (ps := [True, True]) (by kernel_rfl) ⟨trivial, trivial, trivial⟩ (by kernel_rfl) (by kernel_rfl)⟩
      · rw [if_neg (by rw [c5]; exact Bool.false_ne_true)] at h
        refine AW.skip ?_
        refine AW.thenQ_normal ?_
        refine AW.seq ?_
        refine AW.reg tt_ok1 [0, 1, 6] [] [] ⟨[(6, .c (.t (.v (.slice none 0 0)))), (0, .c (.t (.v (.int .i64 p0)))), (1, .c (.t (.v (.int .i64 p1))))], [], 1⟩ [True] (by kernel_rfl) (by kernel_rfl) ⟨trivial, trivial⟩ ?_
        refine AW.thenQ_normal ?_
        refine AW.seq ?_
        refine AW.seq ?_
        refine AW.reg tt_ok1 [0, 6, 20, 21] [] [] ⟨[(21, .c (.t (.v (.int .i64 0)))), (20, .c (.t (.v (.int .i64 p1)))), (6, .c (.t (.v (.slice none 0 0)))), (0, .c (.t (.v (.int .i64 p0))))], [], 3⟩ [True, True] (by kernel_rfl) (by kernel_rfl) ⟨trivial, trivial, trivial⟩ ?_
        refine AW.thenQ_normal ?_
        refine AW.block ?_
        obtain ⟨x18, l19, h⟩ := bnd_some h
        refine AW.pre (S' := ((fun v => ⟨[(0, .c (.t (.v (.int .i64 p0)))), (6, .c (.ref 0 1 0 v.1.length)), (20, .c (.t (.v (.int .i64 p1)))), (21, .c (.t (.v (.int .i64 v.2))))], [(0, .row 3 false 1 v.1.length (Ri64 v.1))], 1⟩) : ((List Int) × Int) → St) (([] : List Int), 0)) (Conv.trans (conv_adopt (t := 6) (ty := 3) (sz := 1) (n := ([] : List Int).length) (f := Ri64 ([] : List Int)) (by kernel_rfl) rfl) (conv_ren [(0, 3)] [0, 6, 20, 21] (n := 1) (by kernel_rfl) (by kernel_rfl))) ?_
        refine AW.loop2 (step := (fun v : (List Int) × Int => similarity_Digits_l6 p0 p1 v.1 v.2)) (s0 := (([] : List Int), 0)) (t := x18) (fun v => ⟨[(0, .c (.t (.v (.int .i64 p0)))), (6, .c (.ref 0 1 0 v.1.length)), (20, .c (.t (.v (.int .i64 p1)))), (21, .c (.t (.v (.int .i64 v.2))))], [(0, .row 3 false 1 v.1.length (Ri64 v.1))], 1⟩) (fun t : List Int => (.exit 0, ⟨[(6, .c (.ref 0 1 0 t.length))], [(0, .row 3 false 1 t.length (Ri64 t))], 1⟩)) l19 (fun _ => trivial) ?_ ?_
        ·
          intro v o h
          obtain ⟨x8, x9⟩ := v
          replace h : similarity_Digits_l6 p0 p1 x8 x9 = some o := h
          unfold similarity_Digits_l6 at h
          show AW _ ⟨[(0, .c (.t (.v (.int .i64 p0)))), (6, .c (.ref 0 1 0 x8.length)), (20, .c (.t (.v (.int .i64 p1)))), (21, .c (.t (.v (.int .i64 x9))))], [(0, .row 3 false 1 x8.length (Ri64 x8))], 1⟩ _ _
          refine AW.seq ?_
          refine AW.reg tt_ok1 [0, 6, 20, 21, 22] [0] [] ⟨[(22, .c (.t (.v (.bool (decide (x9 < p1)))))), (0, .c (.t (.v (.int .i64 p0)))), (6, .c (.ref 0 1 0 x8.length)), (20, .c (.t (.v (.int .i64 p1)))), (21, .c (.t (.v (.int .i64 x9))))], [(0, .row 3 false 1 x8.length (Ri64 x8))], 2⟩ [True] (by kernel_rfl) (by kernel_rfl) ⟨trivial, trivial⟩ ?_
          refine AW.thenQ_normal ?_
          refine AW.seq ?_
          refine AW.cond (b := decide (x9 < p1)) (by kernel_rfl) (fun c11 => ?_) (fun c11 => ?_)
          · rw [if_pos c11] at h
            refine AW.skip ?_
            refine AW.thenQ_normal ?_
            refine AW.seq ?_
            refine AW.block ?_
            refine AW.seq ?_
            refine AW.reg tt_ok1 [0, 6, 7, 20, 21] [0] [] ⟨[(7, .c (.t (.v (.int .i64 x9)))), (0, .c (.t (.v (.int .i64 p0)))), (6, .c (.ref 0 1 0 x8.length)), (20, .c (.t (.v (.int .i64 p1)))), (21, .c (.t (.v (.int .i64 x9))))], [(0, .row 3 false 1 x8.length (Ri64 x8))], 4⟩ [True, True] (by kernel_rfl) (by kernel_rfl) ⟨trivial, trivial, trivial⟩ ?_
            refine AW.thenQ_normal ?_
            obtain ⟨y12, e13, h⟩ := bnd_some h
            obtain ⟨g14, h⟩ := ifc h
            obtain ⟨g15, h⟩ := ifc h
            obtain ⟨g16, h⟩ := ifc h
            obtain ⟨g17, h⟩ := ifc h
            refine AW.reg tt_ok1 [0, 6, 20, 21] [11] [{}, {}, { call := some { ids := [], frz := [], flat := true, cnt := 0, args := [], out := .agg [.t (.v (.int .i64 (y12.getD 0 0))), .t (.v (.int .i64 (y12.getD 1 0))), .t (.v (.int .i64 (y12.getD 2 0))), .t (.v (.int .i64 (y12.getD 3 0))), .t (.v (.int .i64 (y12.getD 4 0))), .t (.v (.int .i64 (y12.getD 5 0)))], outb := [] } }, {}, { h := { row := some (6, Ri64 y12) } }, {}, {}, { h := { row := some (([((IntKind.i64.wrap (p0.tdiv (y12.getD x9.toNat 0))).tmod 3)] : List Int).length, Ri64 ([((IntKind.i64.wrap (p0.tdiv (y12.getD x9.toNat 0))).tmod 3)] : List Int)) } }, { h := { row := some ((x8 ++ ([((IntKind.i64.wrap (p0.tdiv (y12.getD x9.toNat 0))).tmod 3)] : List Int)).length, Ri64 (x8 ++ ([((IntKind.i64.wrap (p0.tdiv (y12.getD x9.toNat 0))).tmod 3)] : List Int))) } }] ⟨[(6, .c (.ref 11 1 0 ((x8 ++ ([((IntKind.i64.wrap (p0.tdiv (y12.getD x9.toNat 0))).tmod 3)] : List Int)).length))), (0, .c (.t (.v (.int .i64 p0)))), (20, .c (.t (.v (.int .i64 p1)))), (21, .c (.t (.v (.int .i64 x9))))], [(11, .row 3 false 1 (x8 ++ ([((IntKind.i64.wrap (p0.tdiv (y12.getD x9.toNat 0))).tmod 3)] : List Int)).length (Ri64 (x8 ++ ([((IntKind.i64.wrap (p0.tdiv (y12.getD x9.toNat 0))).tmod 3)] : List Int))))], 13⟩ [True, True, (True) ∧ (All2 ArgLe [] []) ∧ ((true = true → flatB [])) ∧ (Con Try.prog 57 [] [] (.agg [.t (.v (.int .i64 (y12.getD 0 0))), .t (.v (.int .i64 (y12.getD 1 0))), .t (.v (.int .i64 (y12.getD 2 0))), .t (.v (.int .i64 (y12.getD 3 0))), .t (.v (.int .i64 (y12.getD 4 0))), .t (.v (.int .i64 (y12.getD 5 0)))]) []), True, ((0 ≤ x9) ∧ (x9 < ((6 : Nat) : Int))) ∧ (6 = 6 ∧ ∀ i, i < 6 → ∀ j, j < 1 → rowOf [.v (.int .i64 (y12.getD 0 0)), .v (.int .i64 (y12.getD 1 0)), .v (.int .i64 (y12.getD 2 0)), .v (.int .i64 (y12.getD 3 0)), .v (.int .i64 (y12.getD 4 0)), .v (.int .i64 (y12.getD 5 0))] 1 i j = Ri64 y12 i j), (y12.getD x9.toNat 0) ≠ 0, (3 : Int) ≠ 0, 1 = ([((IntKind.i64.wrap (p0.tdiv (y12.getD x9.toNat 0))).tmod 3)] : List Int).length ∧ ∀ i, i < ([((IntKind.i64.wrap (p0.tdiv (y12.getD x9.toNat 0))).tmod 3)] : List Int).length → ∀ j, j < 1 → (rowOf [.v (.int .i64 ((IntKind.i64.wrap (p0.tdiv (y12.getD x9.toNat 0))).tmod 3))] 1) i j = Ri64 ([((IntKind.i64.wrap (p0.tdiv (y12.getD x9.toNat 0))).tmod 3)] : List Int) i j, (x8.length = x8.length) ∧ (0 + ([((IntKind.i64.wrap (p0.tdiv (y12.getD x9.toNat 0))).tmod 3)] : List Int).length ≤ ([((IntKind.i64.wrap (p0.tdiv (y12.getD x9.toNat 0))).tmod 3)] : List Int).length) ∧ ((x8.length + ([((IntKind.i64.wrap (p0.tdiv (y12.getD x9.toNat 0))).tmod 3)] : List Int).length ≤ 1099511627776) ∧ ((8 : Nat) ≤ 128)) ∧ (x8.length + ([((IntKind.i64.wrap (p0.tdiv (y12.getD x9.toNat 0))).tmod 3)] : List Int).length = (x8 ++ ([((IntKind.i64.wrap (p0.tdiv (y12.getD x9.toNat 0))).tmod 3)] : List Int)).length ∧ ∀ i, i < (x8 ++ ([((IntKind.i64.wrap (p0.tdiv (y12.getD x9.toNat 0))).tmod 3)] : List Int)).length → ∀ j, j < 1 → (appRow x8.length (Ri64 x8) (fun i j => Ri64 ([((IntKind.i64.wrap (p0.tdiv (y12.getD x9.toNat 0))).tmod 3)] : List Int) (0 + i) j)) i j = Ri64 (x8 ++ ([((IntKind.i64.wrap (p0.tdiv (y12.getD x9.toNat 0))).tmod 3)] : List Int)) i j), True] (by kernel_rfl) (by kernel_rfl) ⟨trivial, trivial, ⟨trivial, trivial, (fun _ => trivial), (similarity_powers_con y12 e13)⟩, trivial, ⟨⟨g14, g15⟩, ⟨rfl, fun i hi j hj => match i, hi, j, hj with | 0, _, 0, _ => rfl | 1, _, 0, _ => rfl | 2, _, 0, _ => rfl | 3, _, 0, _ => rfl | 4, _, 0, _ => rfl | 5, _, 0, _ => rfl | _ + 6, h, _, _ => absurd h (by omega) | _, _, _ + 1, h => absurd h (by omega)⟩⟩, g16, (by decide), ⟨rfl, lit_row (n := 1) (sz := 1) ⟨trivial, ⟨trivial, rfl⟩⟩⟩, ⟨rfl, le0, ⟨g17, (by decide)⟩, app_row rfl rfl row_rfl (fun i _ j _ => congrArg (fun k => Ri64 ([((IntKind.i64.wrap (p0.tdiv (y12.getD x9.toNat 0))).tmod 3)] : List Int) k j) (Nat.zero_add i))⟩, trivial, trivial⟩ ?_
            refine AW.inBlock_normal ?_
            refine AW.thenQ_normal ?_
            refine AW.reg tt_ok1 [0, 6, 20, 21] [11] [] ⟨[(21, .c (.t (.v (.int .i64 (IntKind.i64.wrap (x9 + 1)))))), (6, .c (.ref 11 1 0 ((x8 ++ ([((IntKind.i64.wrap (p0.tdiv (y12.getD x9.toNat 0))).tmod 3)] : List Int)).length))), (0, .c (.t (.v (.int .i64 p0)))), (20, .c (.t (.v (.int .i64 p1))))], [(11, .row 3 false 1 (x8 ++ ([((IntKind.i64.wrap (p0.tdiv (y12.getD x9.toNat 0))).tmod 3)] : List Int)).length (Ri64 (x8 ++ ([((IntKind.i64.wrap (p0.tdiv (y12.getD x9.toNat 0))).tmod 3)] : List Int))))], 15⟩ [True, True] (by kernel_rfl) (by kernel_rfl) ⟨trivial, trivial, trivial⟩ ?_
            obtain rfl := some_inj h
            refine loopQ_next (conv_ren [(0, 11)] [0, 6, 20, 21] (n := 1) (by kernel_rfl) (by kernel_rfl))
          · rw [if_neg (by rw [c11]; exact Bool.false_ne_true)] at h
            refine AW.exit ?_
            refine AW.thenQ_exit ?_
            obtain rfl := some_inj h
            refine loopQ_out rfl (conv_ren [(0, 0)] [6] (n := 1) (by kernel_rfl) (by kernel_rfl))
        ·
          show (_ : Exit → St → Prop) (.exit 0) ⟨[(6, .c (.ref 0 1 0 x18.length))], [(0, .row 3 false 1 x18.length (Ri64 x18))], 1⟩
          refine AW.inBlock_hit ?_
          refine AW.thenQ_normal ?_
          refine AW.seq ?_
          refine AW.reg tt_ok1 [4, 5] [0] [] ⟨[(5, .c (.t (.v (.int .i64 0)))), (4, .c (.ref 0 1 0 x18.length))], [(0, .row 3 false 1 x18.length (Ri64 x18))], 4⟩ [True, True, True] (by kernel_rfl) (by kernel_rfl) ⟨trivial, trivial, trivial, trivial⟩ ?_
          refine AW.thenQ_normal ?_
          refine AW.ret ?_
          obtain rfl := some_inj h
          exact ⟨.inr rfl, OutOk.mk [(0, 0)] 1 (out0 := .tup [.c (.ref 0 1 0 x18.length), .c (.t (.v (.int .i64 0)))]) (ps := [True, True]) (by kernel_rfl) ⟨trivial, trivial, trivial⟩ (by kernel_rfl) (by kernel_rfl)⟩
    ·
      by_cases c20 : (decide (p0 < 0)) = true
      · rw [if_pos c20] at h
        refine AW.reg tt_ok1 [0, 1, 19] [] [{}, { h := { b := some true } }] ⟨[(19, .c (.t (.v (.bool true)))), (0, .c (.t (.v (.int .i64 p0)))), (1, .c (.t (.v (.int .i64 p1))))], [], 13⟩ [True, (decide (p0 < 0)) = true, True, True, True, True, True, True, True] (by kernel_rfl) (by kernel_rfl) ⟨trivial, c20, trivial, trivial, trivial, trivial, trivial, trivial, trivial, trivial⟩ ?_
        exact joinQ_leaf (true) h (conv_ren [] [0, 1, 19] (n := 0) (by kernel_rfl) (by kernel_rfl))
      · rw [if_neg c20] at h
        obtain ⟨y21, e22, h⟩ := bnd_some h
        obtain ⟨g23, h⟩ := ifc h
        obtain ⟨g24, h⟩ := ifc h
        refine AW.reg tt_ok1 [0, 1, 19] [] [{}, { h := { b := some false } }, {}, {}, { call := some { ids := [], frz := [], flat := true, cnt := 0, args := [], out := .agg [.t (.v (.int .i64 (y21.getD 0 0))), .t (.v (.int .i64 (y21.getD 1 0))), .t (.v (.int .i64 (y21.getD 2 0))), .t (.v (.int .i64 (y21.getD 3 0))), .t (.v (.int .i64 (y21.getD 4 0))), .t (.v (.int .i64 (y21.getD 5 0)))], outb := [] } }, {}, { h := { row := some (6, Ri64 y21) } }] ⟨[(19, .c (.t (.v (.bool (decide (p0 ≥ (y21.getD p1.toNat 0))))))), (0, .c (.t (.v (.int .i64 p0)))), (1, .c (.t (.v (.int .i64 p1))))], [], 12⟩ [True, (decide (p0 < 0)) = false, True, True, (True) ∧ (All2 ArgLe [] []) ∧ ((true = true → flatB [])) ∧ (Con Try.prog 57 [] [] (.agg [.t (.v (.int .i64 (y21.getD 0 0))), .t (.v (.int .i64 (y21.getD 1 0))), .t (.v (.int .i64 (y21.getD 2 0))), .t (.v (.int .i64 (y21.getD 3 0))), .t (.v (.int .i64 (y21.getD 4 0))), .t (.v (.int .i64 (y21.getD 5 0)))]) []), True, ((0 ≤ p1) ∧ (p1 < ((6 : Nat) : Int))) ∧ (6 = 6 ∧ ∀ i, i < 6 → ∀ j, j < 1 → rowOf [.v (.int .i64 (y21.getD 0 0)), .v (.int .i64 (y21.getD 1 0)), .v (.int .i64 (y21.getD 2 0)), .v (.int .i64 (y21.getD 3 0)), .v (.int .i64 (y21.getD 4 0)), .v (.int .i64 (y21.getD 5 0))] 1 i j = Ri64 y21 i j), True, True] (by kernel_rfl) (by kernel_rfl) ⟨trivial, (off_false c20), trivial, trivial, ⟨trivial, trivial, (fun _ => trivial), (similarity_powers_con y21 e22)⟩, trivial, ⟨⟨g23, g24⟩, ⟨rfl, fun i hi j hj => match i, hi, j, hj with | 0, _, 0, _ => rfl | 1, _, 0, _ => rfl | 2, _, 0, _ => rfl | 3, _, 0, _ => rfl | 4, _, 0, _ => rfl | 5, _, 0, _ => rfl | _ + 6, h, _, _ => absurd h (by omega) | _, _, _ + 1, h => absurd h (by omega)⟩⟩, trivial, trivial, trivial⟩ ?_
        exact joinQ_leaf (decide (p0 ≥ (y21.getD p1.toNat 0))) h (conv_ren [] [0, 1, 19] (n := 0) (by kernel_rfl) (by kernel_rfl))
/-! recordlink/bitset.Or$1 -/
noncomputable def bitset_Or_f1 (p0 : Int) (p1 : Int) : Option Int := some (ior .u64 p0 p1)
set_option maxRecDepth 100000 in
theorem bitset_Or_f1_con (p0 : Int) (p1 : Int) (r0 : Int) (h : bitset_Or_f1 p0 p1 = some r0) : Con Try.prog 60 [.c (.t (.v (.int .u64 p0))), .c (.t (.v (.int .u64 p1)))] [] (.c (.t (.v (.int .u64 r0)))) [] := by
  revert h; generalize r0 = r; intro h
  refine con_of tt_ok1 0 Try.func60 (by kernel_rfl) rfl (by kernel_rfl) (fun base X hk => ?_)
  unfold bitset_Or_f1 at h
  refine AW.seq ?_
  refine AW.reg tt_ok1 [0, 1] [] [] ⟨[(0, .c (.t (.v (.int .u64 p0)))), (1, .c (.t (.v (.int .u64 p1))))], [], 1⟩ [True] (by kernel_rfl) (by kernel_rfl) ⟨trivial, trivial⟩ ?_
  refine AW.thenQ_normal ?_
  refine AW.seq ?_
  refine AW.reg tt_ok1 [4] [] [] ⟨[(4, .c (.t (.v (.int .u64 (ior .u64 p0 p1)))))], [], 5⟩ [True, True, True, True] (by kernel_rfl) (by kernel_rfl) ⟨trivial, trivial, trivial, trivial, trivial⟩ ?_
  refine AW.thenQ_normal ?_
  refine AW.ret ?_
  obtain rfl := some_inj h
  exact ⟨.inr rfl, OutOk.mk [] 0 (out0 := .c (.t (.v (.int .u64 (ior .u64 p0 p1))))) (ps := [True]) (by kernel_rfl) ⟨trivial, trivial⟩ (by kernel_rfl) (by kernel_rfl)⟩
/-! recordlink/bitset.both -/
noncomputable def bitset_both_60_l6 (p0 : S_api_Bits) (p1 : S_api_Bits) (x7 : Int) (x8 : List Int) : Option ((Int × (List Int)) ⊕ (List Int)) := if (decide (x7 < ((p0.Words.length : Nat) : Int))) = true then (if 0 ≤ x7 then (if x7 < ((p0.Words.length : Nat) : Int) then (if x7 < ((p1.Words.length : Nat) : Int) then ((bitset_Or_f1 (p0.Words.getD x7.toNat 0) (p1.Words.getD x7.toNat 0)).bind fun y14 => (if x7 < ((x8.length : Nat) : Int) then (some (.inl (IntKind.i64.wrap (x7 + 1), (x8.set (0 + x7.toNat) y14)))) else none)) else none) else none) else none) else (some (.inr x8))
noncomputable def bitset_both_60_k4 (p0 : S_api_Bits) (p1 : S_api_Bits) (x1 : Bool) : Option (S_api_Bits × Int) := if x1 = true then (some ((⟨0, ([] : List Int)⟩ : S_api_Bits), 8)) else (if 0 ≤ ((p0.Words.length : Nat) : Int) then (if ((p0.Words.length : Nat) : Int) ≤ 1099511627776 then ((loop (fun v : Int × (List Int) => bitset_both_60_l6 p0 p1 v.1 v.2) (0, (List.replicate (((p0.Words.length : Nat) : Int).toNat) (0 : Int)))).bind fun x17 => (some ((⟨p0.Length, x17⟩ : S_api_Bits), 0))) else none) else none)
noncomputable def bitset_both_60 (p0 : S_api_Bits) (p1 : S_api_Bits) : Option (S_api_Bits × Int) := (bitset_Valid p0).bind fun y19 => (if (!y19) = true then (bitset_both_60_k4 p0 p1 true) else ((bitset_Valid p1).bind fun y22 => (if (!y22) = true then (bitset_both_60_k4 p0 p1 true) else (bitset_both_60_k4 p0 p1 (p0.Length != p1.Length)))))
set_option maxRecDepth 100000 in
theorem bitset_both_60_con (p0 : S_api_Bits) (p1 : S_api_Bits) (r0 : S_api_Bits) (r1 : Int) (h : bitset_both_60 p0 p1 = some (r0, r1)) : Con Try.prog 58 [.agg [.t (.v (.int .i64 p0.Length)), .t (.tree p0.Words.length 1 (Ru64 p0.Words))], .agg [.t (.v (.int .i64 p1.Length)), .t (.tree p1.Words.length 1 (Ru64 p1.Words))], .c (.t (.v (.func (.func 60) #[] #[])))] [] (.tup [.agg [.t (.v (.int .i64 r0.Length)), .ref 0 1 0 r0.Words.length], .c (.t (.v (.int .i64 r1)))]) [(0, .row 33 false 1 r0.Words.length (Ru64 r0.Words))] := by
  suffices H : ∀ r, bitset_both_60 p0 p1 = some r → Con Try.prog 58 [.agg [.t (.v (.int .i64 p0.Length)), .t (.tree p0.Words.length 1 (Ru64 p0.Words))], .agg [.t (.v (.int .i64 p1.Length)), .t (.tree p1.Words.length 1 (Ru64 p1.Words))], .c (.t (.v (.func (.func 60) #[] #[])))] [] (.tup [.agg [.t (.v (.int .i64 r.1.Length)), .ref 0 1 0 r.1.Words.length], .c (.t (.v (.int .i64 r.2)))]) [(0, .row 33 false 1 r.1.Words.length (Ru64 r.1.Words))] from H (r0, r1) h
  clear h
  intro r h
  refine con_of tt_ok1 0 Try.func58 (by kernel_rfl) rfl (by kernel_rfl) (fun base X hk => ?_)
  unfold bitset_both_60 at h
  refine AW.seq ?_
  refine AW.reg tt_ok1 [2, 3, 4, 6] [0, 1, 2] [] ⟨[(6, .c (.ptr 2 2 0 0)), (4, .c (.ptr 1 2 0 0)), (3, .c (.ptr 0 2 0 0)), (2, .c (.t (.v (.func (.func 60) #[] #[]))))], [(2, .box 29 [.t (.v (.int .i64 0)), .t (.v (.slice none 0 0))]), (1, .box 29 [.t (.v (.int .i64 p1.Length)), .t (.tree p1.Words.length 1 (Ru64 p1.Words))]), (0, .box 29 [.t (.v (.int .i64 p0.Length)), .t (.tree p0.Words.length 1 (Ru64 p0.Words))])], 4⟩ [True, True, True, True] (by kernel_rfl) (by kernel_rfl) ⟨trivial, trivial, trivial, trivial, trivial⟩ ?_
  refine AW.thenQ_normal ?_
  refine AW.seq ?_
  refine AW.seq ?_
  refine AW.join (ι := Bool) (fun v => ⟨[(2, .c (.t (.v (.func (.func 60) #[] #[])))), (3, .c (.ptr 0 2 0 0)), (4, .c (.ptr 1 2 0 0)), (6, .c (.ptr 2 2 0 0)), (25, .c (.t (.v (.bool v))))], [(0, .box 29 [.t (.v (.int .i64 p0.Length)), .t (.tree p0.Words.length 1 (Ru64 p0.Words))]), (1, .box 29 [.t (.v (.int .i64 p1.Length)), .t (.tree p1.Words.length 1 (Ru64 p1.Words))]), (2, .box 29 [.t (.v (.int .i64 0)), .t (.v (.slice none 0 0))])], 3⟩) (fun v : Bool => bitset_both_60_k4 p0 p1 v = some r) (fun v h => ?_) ?_
  ·
    obtain ⟨x1, rfl⟩ : ∃ x, x = v := ⟨_, rfl⟩
    replace h : bitset_both_60_k4 p0 p1 x1 = some r := h
    unfold bitset_both_60_k4 at h
    show (_ : Exit → St → Prop) .normal ⟨[(2, .c (.t (.v (.func (.func 60) #[] #[])))), (3, .c (.ptr 0 2 0 0)), (4, .c (.ptr 1 2 0 0)), (6, .c (.ptr 2 2 0 0)), (25, .c (.t (.v (.bool x1))))], [(0, .box 29 [.t (.v (.int .i64 p0.Length)), .t (.tree p0.Words.length 1 (Ru64 p0.Words))]), (1, .box 29 [.t (.v (.int .i64 p1.Length)), .t (.tree p1.Words.length 1 (Ru64 p1.Words))]), (2, .box 29 [.t (.v (.int .i64 0)), .t (.v (.slice none 0 0))])], 3⟩
    refine AW.thenQ_normal ?_
    refine AW.cond (b := x1) (by kernel_rfl) (fun c2 => ?_) (fun c2 => ?_)
    · rw [if_pos c2] at h
      refine AW.seq ?_
      refine AW.reg tt_ok1 [6, 7] [2] [] ⟨[(7, .c (.t (.v (.int .i64 8)))), (6, .c (.ptr 2 2 0 0))], [(2, .box 29 [.t (.v (.int .i64 0)), .t (.v (.slice none 0 0))])], 6⟩ [True, True, True] (by kernel_rfl) (by kernel_rfl) ⟨trivial, trivial, trivial, trivial⟩ ?_
      refine AW.thenQ_normal ?_
      refine AW.pre (conv_adoptB (id := 2) (ty0 := 29) (cs := [.t (.v (.int .i64 0)), .t (.v (.slice none 0 0))]) 1 (ty := 33) (sz := 1) (n := ([] : List Int).length) (f := Ru64 ([] : List Int)) (by kernel_rfl) (by kernel_rfl) rfl) ?_
      refine AW.ret ?_
      refine AW.thenQ_ret ?_
      obtain rfl := some_inj h
      exact ⟨.inr rfl, OutOk.mk [(0, 6)] 1 (out0 := .tup [.agg [.t (.v (.int .i64 0)), .ref 6 1 0 (([] : List Int).length)], .c (.t (.v (.int .i64 8)))]) (ps := [True, True]) (by kernel_rfl) ⟨trivial, trivial, trivial⟩ (by kernel_rfl) (by kernel_rfl)⟩
    · rw [if_neg (by rw [c2]; exact Bool.false_ne_true)] at h
      refine AW.skip ?_
      refine AW.thenQ_normal ?_
      refine AW.seq ?_
      obtain ⟨g3, h⟩ := ifc h
      obtain ⟨g4, h⟩ := ifc h
      refine AW.regD tt_ok1 mo1 [0, 1, 0, 4, 12, 28, 63, 0, 255] [[], [], [], [], [], [8], [], [10], [10]] [2, 3, 4, 6, 8] [0, 1, 2, 8, 10] [{}, {}, {}, {}, {}, { h := { row := some ((List.replicate (((p0.Words.length : Nat) : Int).toNat) (0 : Int)).length, Ru64 (List.replicate (((p0.Words.length : Nat) : Int).toNat) (0 : Int))) } }] ⟨[(8, .c (.ptr 10 2 0 0)), (2, .c (.t (.v (.func (.func 60) #[] #[])))), (3, .c (.ptr 0 2 0 0)), (4, .c (.ptr 1 2 0 0)), (6, .c (.ptr 2 2 0 0))], [(10, .box 29 [.t (.v (.int .i64 p0.Length)), .ref 8 1 0 ((List.replicate (((p0.Words.length : Nat) : Int).toNat) (0 : Int)).length)]), (8, .row 33 false 1 (List.replicate (((p0.Words.length : Nat) : Int).toNat) (0 : Int)).length (Ru64 (List.replicate (((p0.Words.length : Nat) : Int).toNat) (0 : Int)))), (0, .box 29 [.t (.v (.int .i64 p0.Length)), .t (.tree p0.Words.length 1 (Ru64 p0.Words))]), (1, .box 29 [.t (.v (.int .i64 p1.Length)), .t (.tree p1.Words.length 1 (Ru64 p1.Words))]), (2, .box 29 [.t (.v (.int .i64 0)), .t (.v (.slice none 0 0))])], 12⟩ [True, True, True, True, True, ((0 ≤ ((p0.Words.length : Nat) : Int)) ∧ (((p0.Words.length : Nat) : Int) ≤ ((p0.Words.length : Nat) : Int)) ∧ (((p0.Words.length : Nat) : Int) ≤ 1099511627776) ∧ ((8 : Nat) ≤ 128)) ∧ (((p0.Words.length : Nat) : Int).toNat = (List.replicate (((p0.Words.length : Nat) : Int).toNat) (0 : Int)).length ∧ ∀ i, i < (List.replicate (((p0.Words.length : Nat) : Int).toNat) (0 : Int)).length → ∀ j, j < 1 → (fun _ j => .v (([.int .u64 0] : List Value).getD j undef)) i j = Ru64 (List.replicate (((p0.Words.length : Nat) : Int).toNat) (0 : Int)) i j), True, True, True] (by kernel_rfl) (by kernel_rfl) ⟨trivial, trivial, trivial, trivial, trivial, ⟨⟨g3, Int.le_refl _, g4, (by decide)⟩, mk_row (fun j hj => match j, hj with | 0, _ => rfl | _ + 1, h => absurd h (by omega))⟩, trivial, trivial, trivial, trivial⟩ ?_
      refine AW.thenQ_normal ?_
      refine AW.seq ?_
      refine AW.seq ?_
      refine AW.reg tt_ok1 [2, 4, 6, 8, 35, 36, 37] [1, 2, 8, 10] [] ⟨[(37, .c (.t (.v (.int .i64 0)))), (36, .c (.t (.v (.int .i64 ((p0.Words.length : Nat) : Int))))), (35, .c (.t (.tree p0.Words.length 1 (Ru64 p0.Words)))), (8, .c (.ptr 10 2 0 0)), (2, .c (.t (.v (.func (.func 60) #[] #[])))), (4, .c (.ptr 1 2 0 0)), (6, .c (.ptr 2 2 0 0))], [(10, .box 29 [.t (.v (.int .i64 p0.Length)), .ref 8 1 0 ((List.replicate (((p0.Words.length : Nat) : Int).toNat) (0 : Int)).length)]), (8, .row 33 false 1 (List.replicate (((p0.Words.length : Nat) : Int).toNat) (0 : Int)).length (Ru64 (List.replicate (((p0.Words.length : Nat) : Int).toNat) (0 : Int)))), (1, .box 29 [.t (.v (.int .i64 p1.Length)), .t (.tree p1.Words.length 1 (Ru64 p1.Words))]), (2, .box 29 [.t (.v (.int .i64 0)), .t (.v (.slice none 0 0))])], 16⟩ [True, True, True, True] (by kernel_rfl) (by kernel_rfl) ⟨trivial, trivial, trivial, trivial, trivial⟩ ?_
      refine AW.thenQ_normal ?_
      refine AW.block ?_
      obtain ⟨x17, l18, h⟩ := bnd_some h
      refine AW.pre (S' := ((fun v => ⟨[(2, .c (.t (.v (.func (.func 60) #[] #[])))), (4, .c (.ptr 0 2 0 0)), (6, .c (.ptr 1 2 0 0)), (8, .c (.ptr 2 2 0 0)), (35, .c (.t (.tree p0.Words.length 1 (Ru64 p0.Words)))), (36, .c (.t (.v (.int .i64 ((p0.Words.length : Nat) : Int))))), (37, .c (.t (.v (.int .i64 v.1))))], [(0, .box 29 [.t (.v (.int .i64 p1.Length)), .t (.tree p1.Words.length 1 (Ru64 p1.Words))]), (1, .box 29 [.t (.v (.int .i64 0)), .t (.v (.slice none 0 0))]), (2, .box 29 [.t (.v (.int .i64 p0.Length)), .ref 3 1 0 v.2.length]), (3, .row 33 false 1 v.2.length (Ru64 v.2))], 4⟩) : (Int × (List Int)) → St) (0, (List.replicate (((p0.Words.length : Nat) : Int).toNat) (0 : Int)))) (conv_ren [(0, 1), (1, 2), (2, 10), (3, 8)] [2, 4, 6, 8, 35, 36, 37] (n := 4) (by kernel_rfl) (by kernel_rfl)) ?_
      refine AW.loop2 (step := (fun v : Int × (List Int) => bitset_both_60_l6 p0 p1 v.1 v.2)) (s0 := (0, (List.replicate (((p0.Words.length : Nat) : Int).toNat) (0 : Int)))) (t := x17) (fun v => ⟨[(2, .c (.t (.v (.func (.func 60) #[] #[])))), (4, .c (.ptr 0 2 0 0)), (6, .c (.ptr 1 2 0 0)), (8, .c (.ptr 2 2 0 0)), (35, .c (.t (.tree p0.Words.length 1 (Ru64 p0.Words)))), (36, .c (.t (.v (.int .i64 ((p0.Words.length : Nat) : Int))))), (37, .c (.t (.v (.int .i64 v.1))))], [(0, .box 29 [.t (.v (.int .i64 p1.Length)), .t (.tree p1.Words.length 1 (Ru64 p1.Words))]), (1, .box 29 [.t (.v (.int .i64 0)), .t (.v (.slice none 0 0))]), (2, .box 29 [.t (.v (.int .i64 p0.Length)), .ref 3 1 0 v.2.length]), (3, .row 33 false 1 v.2.length (Ru64 v.2))], 4⟩) (fun t : List Int => (.exit 0, ⟨[(6, .c (.ptr 0 2 0 0)), (8, .c (.ptr 1 2 0 0))], [(0, .box 29 [.t (.v (.int .i64 0)), .t (.v (.slice none 0 0))]), (1, .box 29 [.t (.v (.int .i64 p0.Length)), .ref 2 1 0 t.length]), (2, .row 33 false 1 t.length (Ru64 t))], 3⟩)) l18 (fun _ => trivial) ?_ ?_
      ·
        intro v o h
        obtain ⟨x7, x8⟩ := v
        replace h : bitset_both_60_l6 p0 p1 x7 x8 = some o := h
        unfold bitset_both_60_l6 at h
        show AW _ ⟨[(2, .c (.t (.v (.func (.func 60) #[] #[])))), (4, .c (.ptr 0 2 0 0)), (6, .c (.ptr 1 2 0 0)), (8, .c (.ptr 2 2 0 0)), (35, .c (.t (.tree p0.Words.length 1 (Ru64 p0.Words)))), (36, .c (.t (.v (.int .i64 ((p0.Words.length : Nat) : Int))))), (37, .c (.t (.v (.int .i64 x7))))], [(0, .box 29 [.t (.v (.int .i64 p1.Length)), .t (.tree p1.Words.length 1 (Ru64 p1.Words))]), (1, .box 29 [.t (.v (.int .i64 0)), .t (.v (.slice none 0 0))]), (2, .box 29 [.t (.v (.int .i64 p0.Length)), .ref 3 1 0 x8.length]), (3, .row 33 false 1 x8.length (Ru64 x8))], 4⟩ _ _
        refine AW.seq ?_
        refine AW.reg tt_ok1 [2, 4, 6, 8, 35, 36, 37, 38] [0, 1, 2, 3] [] ⟨[(38, .c (.t (.v (.bool (decide (x7 < ((p0.Words.length : Nat) : Int))))))), (2, .c (.t (.v (.func (.func 60) #[] #[])))), (4, .c (.ptr 0 2 0 0)), (6, .c (.ptr 1 2 0 0)), (8, .c (.ptr 2 2 0 0)), (35, .c (.t (.tree p0.Words.length 1 (Ru64 p0.Words)))), (36, .c (.t (.v (.int .i64 ((p0.Words.length : Nat) : Int))))), (37, .c (.t (.v (.int .i64 x7))))], [(0, .box 29 [.t (.v (.int .i64 p1.Length)), .t (.tree p1.Words.length 1 (Ru64 p1.Words))]), (1, .box 29 [.t (.v (.int .i64 0)), .t (.v (.slice none 0 0))]), (2, .box 29 [.t (.v (.int .i64 p0.Length)), .ref 3 1 0 x8.length]), (3, .row 33 false 1 x8.length (Ru64 x8))], 5⟩ [True] (by kernel_rfl) (by kernel_rfl) ⟨trivial, trivial⟩ ?_
        refine AW.thenQ_normal ?_
        refine AW.seq ?_
        refine AW.cond (b := decide (x7 < ((p0.Words.length : Nat) : Int))) (by kernel_rfl) (fun c10 => ?_) (fun c10 => ?_)
        · rw [if_pos c10] at h
          refine AW.skip ?_
          refine AW.thenQ_normal ?_
          refine AW.seq ?_
          refine AW.block ?_
          refine AW.seq ?_
          obtain ⟨g11, h⟩ := ifc h
          obtain ⟨g12, h⟩ := ifc h
          refine AW.reg tt_ok1 [2, 4, 6, 8, 9, 10, 35, 36, 37] [0, 1, 2, 3] [] ⟨[(10, .c (.t (.v (.int .u64 (p0.Words.getD x7.toNat 0))))), (9, .c (.t (.v (.int .i64 x7)))), (2, .c (.t (.v (.func (.func 60) #[] #[])))), (4, .c (.ptr 0 2 0 0)), (6, .c (.ptr 1 2 0 0)), (8, .c (.ptr 2 2 0 0)), (35, .c (.t (.tree p0.Words.length 1 (Ru64 p0.Words)))), (36, .c (.t (.v (.int .i64 ((p0.Words.length : Nat) : Int))))), (37, .c (.t (.v (.int .i64 x7))))], [(0, .box 29 [.t (.v (.int .i64 p1.Length)), .t (.tree p1.Words.length 1 (Ru64 p1.Words))]), (1, .box 29 [.t (.v (.int .i64 0)), .t (.v (.slice none 0 0))]), (2, .box 29 [.t (.v (.int .i64 p0.Length)), .ref 3 1 0 x8.length]), (3, .row 33 false 1 x8.length (Ru64 x8))], 10⟩ [True, (0 ≤ x7) ∧ (x7 < ((p0.Words.length : Nat) : Int)), True, True, True] (by kernel_rfl) (by kernel_rfl) ⟨trivial, ⟨g11, g12⟩, trivial, trivial, trivial, trivial⟩ ?_
          refine AW.thenQ_normal ?_
          obtain ⟨g13, h⟩ := ifc h
          obtain ⟨y14, e15, h⟩ := bnd_some h
          obtain ⟨g16, h⟩ := ifc h
          refine AW.regD tt_ok1 mo1 [0, 1, 0, 0, 0, 0, 32, 0, 224, 480, 1016, 2047, 4095] [[], [], [], [], [], [], [], [], [], [], [], [], [3]] [2, 4, 6, 8, 35, 36, 37] [0, 1, 2, 3] [{}, {}, {}, {}, {}, {}, {}, {}, {}, {}, { call := some { ids := [], frz := [], flat := true, cnt := 0, args := [.c (.t (.v (.int .u64 (p0.Words.getD x7.toNat 0)))), .c (.t (.v (.int .u64 (p1.Words.getD x7.toNat 0))))], out := .c (.t (.v (.int .u64 y14))), outb := [] } }, {}, { h := { row := some (x8.length, Ru64 (x8.set (0 + x7.toNat) y14)) } }] ⟨[(2, .c (.t (.v (.func (.func 60) #[] #[])))), (4, .c (.ptr 0 2 0 0)), (6, .c (.ptr 1 2 0 0)), (8, .c (.ptr 2 2 0 0)), (35, .c (.t (.tree p0.Words.length 1 (Ru64 p0.Words)))), (36, .c (.t (.v (.int .i64 ((p0.Words.length : Nat) : Int))))), (37, .c (.t (.v (.int .i64 x7))))], [(3, .row 33 false 1 x8.length (Ru64 (x8.set (0 + x7.toNat) y14))), (0, .box 29 [.t (.v (.int .i64 p1.Length)), .t (.tree p1.Words.length 1 (Ru64 p1.Words))]), (1, .box 29 [.t (.v (.int .i64 0)), .t (.v (.slice none 0 0))]), (2, .box 29 [.t (.v (.int .i64 p0.Length)), .ref 3 1 0 x8.length])], 22⟩ [True, True, True, True, True, True, True, True, (0 ≤ x7) ∧ (x7 < ((p1.Words.length : Nat) : Int)), True, ((True) ∧ (True) ∧ (True)) ∧ (All2 ArgLe [.c (.t (.v (.int .u64 (p0.Words.getD x7.toNat 0)))), .c (.t (.v (.int .u64 (p1.Words.getD x7.toNat 0))))] [.c (.t (.v (.int .u64 (p0.Words.getD x7.toNat 0)))), .c (.t (.v (.int .u64 (p1.Words.getD x7.toNat 0))))]) ∧ ((true = true → flatB [])) ∧ (Con Try.prog 60 [.c (.t (.v (.int .u64 (p0.Words.getD x7.toNat 0)))), .c (.t (.v (.int .u64 (p1.Words.getD x7.toNat 0))))] [] (.c (.t (.v (.int .u64 y14)))) []), (0 ≤ x7) ∧ (x7 < ((x8.length : Nat) : Int)), ((0 + x7.toNat) < x8.length) ∧ (x8.length = x8.length ∧ ∀ i, i < x8.length → ∀ j, j < 1 → updRow (Ru64 x8) (0 + x7.toNat) 0 [.v (.int .u64 y14)] i j = Ru64 (x8.set (0 + x7.toNat) y14) i j)] (by kernel_rfl) (by kernel_rfl) ⟨trivial, trivial, trivial, trivial, trivial, trivial, trivial, trivial, ⟨g11, g13⟩, trivial, ⟨⟨trivial, trivial, trivial⟩, ⟨ArgLe.refl _, ArgLe.refl _, trivial⟩, (fun _ => trivial), (bitset_Or_f1_con (p0.Words.getD x7.toNat 0) (p1.Words.getD x7.toNat 0) y14 e15)⟩, ⟨g11, g16⟩, ⟨(by have h1 : 0 ≤ x7 := g11; have h2 : x7 < ((x8.length : Nat) : Int) := g16; omega), set_rowN rfl (by have h1 : 0 ≤ x7 := g11; have h2 : x7 < ((x8.length : Nat) : Int) := g16; omega) (fun j hj => match j, hj with | 0, _ => rfl | _ + 1, h => absurd h (by omega))⟩, trivial⟩ ?_
          refine AW.inBlock_normal ?_
          refine AW.thenQ_normal ?_
          refine AW.reg tt_ok1 [2, 4, 6, 8, 35, 36, 37] [0, 1, 2, 3] [] ⟨[(37, .c (.t (.v (.int .i64 (IntKind.i64.wrap (x7 + 1)))))), (2, .c (.t (.v (.func (.func 60) #[] #[])))), (4, .c (.ptr 0 2 0 0)), (6, .c (.ptr 1 2 0 0)), (8, .c (.ptr 2 2 0 0)), (35, .c (.t (.tree p0.Words.length 1 (Ru64 p0.Words)))), (36, .c (.t (.v (.int .i64 ((p0.Words.length : Nat) : Int)))))], [(3, .row 33 false 1 x8.length (Ru64 (x8.set (0 + x7.toNat) y14))), (0, .box 29 [.t (.v (.int .i64 p1.Length)), .t (.tree p1.Words.length 1 (Ru64 p1.Words))]), (1, .box 29 [.t (.v (.int .i64 0)), .t (.v (.slice none 0 0))]), (2, .box 29 [.t (.v (.int .i64 p0.Length)), .ref 3 1 0 x8.length])], 24⟩ [True, True] (by kernel_rfl) (by kernel_rfl) ⟨trivial, trivial, trivial⟩ ?_
          obtain rfl := some_inj h
          refine loopQ_next (Conv.trans (conv_len (S' := ⟨[(37, .c (.t (.v (.int .i64 (IntKind.i64.wrap (x7 + 1)))))), (2, .c (.t (.v (.func (.func 60) #[] #[])))), (4, .c (.ptr 0 2 0 0)), (6, .c (.ptr 1 2 0 0)), (8, .c (.ptr 2 2 0 0)), (35, .c (.t (.tree p0.Words.length 1 (Ru64 p0.Words)))), (36, .c (.t (.v (.int .i64 ((p0.Words.length : Nat) : Int)))))], [(3, .row 33 false 1 (x8.set (0 + x7.toNat) y14).length (Ru64 (x8.set (0 + x7.toNat) y14))), (0, .box 29 [.t (.v (.int .i64 p1.Length)), .t (.tree p1.Words.length 1 (Ru64 p1.Words))]), (1, .box 29 [.t (.v (.int .i64 0)), .t (.v (.slice none 0 0))]), (2, .box 29 [.t (.v (.int .i64 p0.Length)), .ref 3 1 0 ((x8.set (0 + x7.toNat) y14).length)])], 24⟩) (by simp only [List.length_set])) (conv_ren [(0, 0), (1, 1), (2, 2), (3, 3)] [2, 4, 6, 8, 35, 36, 37] (n := 4) (by kernel_rfl) (by kernel_rfl)))
        · rw [if_neg (by rw [c10]; exact Bool.false_ne_true)] at h
          refine AW.exit ?_
          refine AW.thenQ_exit ?_
          obtain rfl := some_inj h
          refine loopQ_out rfl (conv_ren [(0, 1), (1, 2), (2, 3)] [6, 8] (n := 3) (by kernel_rfl) (by kernel_rfl))
      ·
        show (_ : Exit → St → Prop) (.exit 0) ⟨[(6, .c (.ptr 0 2 0 0)), (8, .c (.ptr 1 2 0 0))], [(0, .box 29 [.t (.v (.int .i64 0)), .t (.v (.slice none 0 0))]), (1, .box 29 [.t (.v (.int .i64 p0.Length)), .ref 2 1 0 x17.length]), (2, .row 33 false 1 x17.length (Ru64 x17))], 3⟩
        refine AW.inBlock_hit ?_
        refine AW.thenQ_normal ?_
        refine AW.seq ?_
        refine AW.reg tt_ok1 [6, 7] [0, 2] [] ⟨[(7, .c (.t (.v (.int .i64 0)))), (6, .c (.ptr 0 2 0 0))], [(0, .box 29 [.t (.v (.int .i64 p0.Length)), .ref 2 1 0 x17.length]), (2, .row 33 false 1 x17.length (Ru64 x17))], 6⟩ [True, True, True] (by kernel_rfl) (by kernel_rfl) ⟨trivial, trivial, trivial, trivial⟩ ?_
        refine AW.thenQ_normal ?_
        refine AW.ret ?_
        obtain rfl := some_inj h
        exact ⟨.inr rfl, OutOk.mk [(0, 2)] 1 (out0 := .tup [.agg [.t (.v (.int .i64 p0.Length)), .ref 2 1 0 x17.length], .c (.t (.v (.int .i64 0)))]) (ps := [True, True]) (by kernel_rfl) ⟨trivial, trivial, trivial⟩ (by kernel_rfl) (by kernel_rfl)⟩
  ·
    obtain ⟨y19, e20, h⟩ := bnd_some h
    by_cases c21 : (!y19) = true
    · rw [if_pos c21] at h
      refine AW.reg tt_ok1 [2, 3, 4, 6, 25] [0, 1, 2] [{}, { call := some { ids := [], frz := [], flat := true, cnt := 0, args := [.agg [.t (.v (.int .i64 p0.Length)), .t (.tree p0.Words.length 1 (Ru64 p0.Words))]], out := .c (.t (.v (.bool y19))), outb := [] } }, { h := { b := some true } }] ⟨[(25, .c (.t (.v (.bool true)))), (6, .c (.ptr 2 2 0 0)), (4, .c (.ptr 1 2 0 0)), (3, .c (.ptr 0 2 0 0)), (2, .c (.t (.v (.func (.func 60) #[] #[]))))], [(2, .box 29 [.t (.v (.int .i64 0)), .t (.v (.slice none 0 0))]), (1, .box 29 [.t (.v (.int .i64 p1.Length)), .t (.tree p1.Words.length 1 (Ru64 p1.Words))]), (0, .box 29 [.t (.v (.int .i64 p0.Length)), .t (.tree p0.Words.length 1 (Ru64 p0.Words))])], 18⟩ [True, (((True) ∧ (True) ∧ (True)) ∧ (True)) ∧ (All2 ArgLe [.agg [.t (.v (.int .i64 p0.Length)), .t (.tree p0.Words.length 1 (Ru64 p0.Words))]] [.agg [.t (.v (.int .i64 p0.Length)), .t (.tree p0.Words.length 1 (Ru64 p0.Words))]]) ∧ ((true = true → flatB [])) ∧ (Con Try.prog 49 [.agg [.t (.v (.int .i64 p0.Length)), .t (.tree p0.Words.length 1 (Ru64 p0.Words))]] [] (.c (.t (.v (.bool y19)))) []), (!y19) = true, True, True, True, True, True, True, True, True, True, True, True, True] (by kernel_rfl) (by kernel_rfl) ⟨trivial, ⟨⟨⟨trivial, trivial, trivial⟩, trivial⟩, ⟨ArgLe.refl _, trivial⟩, (fun _ => trivial), (bitset_Valid_con p0 y19 e20)⟩, c21, trivial, trivial, trivial, trivial, trivial, trivial, trivial, trivial, trivial, trivial, trivial, trivial, trivial⟩ ?_
      exact joinQ_leaf (true) h (conv_ren [(0, 0), (1, 1), (2, 2)] [2, 3, 4, 6, 25] (n := 3) (by kernel_rfl) (by kernel_rfl))
    · rw [if_neg c21] at h
      obtain ⟨y22, e23, h⟩ := bnd_some h
      by_cases c24 : (!y22) = true
      · rw [if_pos c24] at h
        refine AW.reg tt_ok1 [2, 3, 4, 6, 25] [0, 1, 2] [{}, { call := some { ids := [], frz := [], flat := true, cnt := 0, args := [.agg [.t (.v (.int .i64 p0.Length)), .t (.tree p0.Words.length 1 (Ru64 p0.Words))]], out := .c (.t (.v (.bool y19))), outb := [] } }, { h := { b := some false } }, {}, {}, { call := some { ids := [], frz := [], flat := true, cnt := 0, args := [.agg [.t (.v (.int .i64 p1.Length)), .t (.tree p1.Words.length 1 (Ru64 p1.Words))]], out := .c (.t (.v (.bool y22))), outb := [] } }, { h := { b := some true } }] ⟨[(25, .c (.t (.v (.bool true)))), (6, .c (.ptr 2 2 0 0)), (4, .c (.ptr 1 2 0 0)), (3, .c (.ptr 0 2 0 0)), (2, .c (.t (.v (.func (.func 60) #[] #[]))))], [(2, .box 29 [.t (.v (.int .i64 0)), .t (.v (.slice none 0 0))]), (1, .box 29 [.t (.v (.int .i64 p1.Length)), .t (.tree p1.Words.length 1 (Ru64 p1.Words))]), (0, .box 29 [.t (.v (.int .i64 p0.Length)), .t (.tree p0.Words.length 1 (Ru64 p0.Words))])], 17⟩ [True, (((True) ∧ (True) ∧ (True)) ∧ (True)) ∧ (All2 ArgLe [.agg [.t (.v (.int .i64 p0.Length)), .t (.tree p0.Words.length 1 (Ru64 p0.Words))]] [.agg [.t (.v (.int .i64 p0.Length)), .t (.tree p0.Words.length 1 (Ru64 p0.Words))]]) ∧ ((true = true → flatB [])) ∧ (Con Try.prog 49 [.agg [.t (.v (.int .i64 p0.Length)), .t (.tree p0.Words.length 1 (Ru64 p0.Words))]] [] (.c (.t (.v (.bool y19)))) []), (!y19) = false, True, True, (((True) ∧ (True) ∧ (True)) ∧ (True)) ∧ (All2 ArgLe [.agg [.t (.v (.int .i64 p1.Length)), .t (.tree p1.Words.length 1 (Ru64 p1.Words))]] [.agg [.t (.v (.int .i64 p1.Length)), .t (.tree p1.Words.length 1 (Ru64 p1.Words))]]) ∧ ((true = true → flatB [])) ∧ (Con Try.prog 49 [.agg [.t (.v (.int .i64 p1.Length)), .t (.tree p1.Words.length 1 (Ru64 p1.Words))]] [] (.c (.t (.v (.bool y22)))) []), (!y22) = true, True, True, True, True, True, True, True, True] (by kernel_rfl) (by kernel_rfl) ⟨trivial, ⟨⟨⟨trivial, trivial, trivial⟩, trivial⟩, ⟨ArgLe.refl _, trivial⟩, (fun _ => trivial), (bitset_Valid_con p0 y19 e20)⟩, (off_false c21), trivial, trivial, ⟨⟨⟨trivial, trivial, trivial⟩, trivial⟩, ⟨ArgLe.refl _, trivial⟩, (fun _ => trivial), (bitset_Valid_con p1 y22 e23)⟩, c24, trivial, trivial, trivial, trivial, trivial, trivial, trivial, trivial, trivial⟩ ?_
        exact joinQ_leaf (true) h (conv_ren [(0, 0), (1, 1), (2, 2)] [2, 3, 4, 6, 25] (n := 3) (by kernel_rfl) (by kernel_rfl))
      · rw [if_neg c24] at h
        refine AW.reg tt_ok1 [2, 3, 4, 6, 25] [0, 1, 2] [{}, { call := some { ids := [], frz := [], flat := true, cnt := 0, args := [.agg [.t (.v (.int .i64 p0.Length)), .t (.tree p0.Words.length 1 (Ru64 p0.Words))]], out := .c (.t (.v (.bool y19))), outb := [] } }, { h := { b := some false } }, {}, {}, { call := some { ids := [], frz := [], flat := true, cnt := 0, args := [.agg [.t (.v (.int .i64 p1.Length)), .t (.tree p1.Words.length 1 (Ru64 p1.Words))]], out := .c (.t (.v (.bool y22))), outb := [] } }, { h := { b := some false } }] ⟨[(25, .c (.t (.v (.bool (p0.Length != p1.Length))))), (6, .c (.ptr 2 2 0 0)), (4, .c (.ptr 1 2 0 0)), (3, .c (.ptr 0 2 0 0)), (2, .c (.t (.v (.func (.func 60) #[] #[]))))], [(2, .box 29 [.t (.v (.int .i64 0)), .t (.v (.slice none 0 0))]), (1, .box 29 [.t (.v (.int .i64 p1.Length)), .t (.tree p1.Words.length 1 (Ru64 p1.Words))]), (0, .box 29 [.t (.v (.int .i64 p0.Length)), .t (.tree p0.Words.length 1 (Ru64 p0.Words))])], 17⟩ [True, (((True) ∧ (True) ∧ (True)) ∧ (True)) ∧ (All2 ArgLe [.agg [.t (.v (.int .i64 p0.Length)), .t (.tree p0.Words.length 1 (Ru64 p0.Words))]] [.agg [.t (.v (.int .i64 p0.Length)), .t (.tree p0.Words.length 1 (Ru64 p0.Words))]]) ∧ ((true = true → flatB [])) ∧ (Con Try.prog 49 [.agg [.t (.v (.int .i64 p0.Length)), .t (.tree p0.Words.length 1 (Ru64 p0.Words))]] [] (.c (.t (.v (.bool y19)))) []), (!y19) = false, True, True, (((True) ∧ (True) ∧ (True)) ∧ (True)) ∧ (All2 ArgLe [.agg [.t (.v (.int .i64 p1.Length)), .t (.tree p1.Words.length 1 (Ru64 p1.Words))]] [.agg [.t (.v (.int .i64 p1.Length)), .t (.tree p1.Words.length 1 (Ru64 p1.Words))]]) ∧ ((true = true → flatB [])) ∧ (Con Try.prog 49 [.agg [.t (.v (.int .i64 p1.Length)), .t (.tree p1.Words.length 1 (Ru64 p1.Words))]] [] (.c (.t (.v (.bool y22)))) []), (!y22) = false, True, True, True, True, True, True, True, True] (by kernel_rfl) (by kernel_rfl) ⟨trivial, ⟨⟨⟨trivial, trivial, trivial⟩, trivial⟩, ⟨ArgLe.refl _, trivial⟩, (fun _ => trivial), (bitset_Valid_con p0 y19 e20)⟩, (off_false c21), trivial, trivial, ⟨⟨⟨trivial, trivial, trivial⟩, trivial⟩, ⟨ArgLe.refl _, trivial⟩, (fun _ => trivial), (bitset_Valid_con p1 y22 e23)⟩, (off_false c24), trivial, trivial, trivial, trivial, trivial, trivial, trivial, trivial, trivial⟩ ?_
        exact joinQ_leaf ((p0.Length != p1.Length)) h (conv_ren [(0, 0), (1, 1), (2, 2)] [2, 3, 4, 6, 25] (n := 3) (by kernel_rfl) (by kernel_rfl))
/-! recordlink/bitset.Or -/
noncomputable def bitset_Or (p0 : S_api_Bits) (p1 : S_api_Bits) : Option (S_api_Bits × Int) := bind2 (bitset_both_60 p0 p1) fun y1 y2 => (some (y1, y2))
set_option maxRecDepth 100000 in
theorem bitset_Or_con (p0 : S_api_Bits) (p1 : S_api_Bits) (r0 : S_api_Bits) (r1 : Int) (h : bitset_Or p0 p1 = some (r0, r1)) : Con Try.prog 30 [.agg [.t (.v (.int .i64 p0.Length)), .t (.tree p0.Words.length 1 (Ru64 p0.Words))], .agg [.t (.v (.int .i64 p1.Length)), .t (.tree p1.Words.length 1 (Ru64 p1.Words))]] [] (.tup [.agg [.t (.v (.int .i64 r0.Length)), .ref 0 1 0 r0.Words.length], .c (.t (.v (.int .i64 r1)))]) [(0, .row 33 false 1 r0.Words.length (Ru64 r0.Words))] := by
  suffices H : ∀ r, bitset_Or p0 p1 = some r → Con Try.prog 30 [.agg [.t (.v (.int .i64 p0.Length)), .t (.tree p0.Words.length 1 (Ru64 p0.Words))], .agg [.t (.v (.int .i64 p1.Length)), .t (.tree p1.Words.length 1 (Ru64 p1.Words))]] [] (.tup [.agg [.t (.v (.int .i64 r.1.Length)), .ref 0 1 0 r.1.Words.length], .c (.t (.v (.int .i64 r.2)))]) [(0, .row 33 false 1 r.1.Words.length (Ru64 r.1.Words))] from H (r0, r1) h
  clear h
  intro r h
  refine con_of tt_ok1 0 Try.func30 (by kernel_rfl) rfl (by kernel_rfl) (fun base X hk => ?_)
  unfold bitset_Or at h
  refine AW.seq ?_
  refine AW.reg tt_ok1 [2, 3, 4] [0, 1, 2] [] ⟨[(4, .c (.ptr 2 2 0 0)), (3, .c (.ptr 1 2 0 0)), (2, .c (.ptr 0 2 0 0))], [(2, .box 29 [.t (.v (.int .i64 0)), .t (.v (.slice none 0 0))]), (1, .box 29 [.t (.v (.int .i64 p1.Length)), .t (.tree p1.Words.length 1 (Ru64 p1.Words))]), (0, .box 29 [.t (.v (.int .i64 p0.Length)), .t (.tree p0.Words.length 1 (Ru64 p0.Words))])], 4⟩ [True, True, True, True] (by kernel_rfl) (by kernel_rfl) ⟨trivial, trivial, trivial, trivial, trivial⟩ ?_
  refine AW.thenQ_normal ?_
  refine AW.seq ?_
  obtain ⟨y1, y2, e3, h⟩ := bind2_some h
  refine AW.reg tt_ok1 [4, 5] [2, 6] [{}, {}, { call := some { ids := [], frz := [], flat := true, cnt := 1, args := [.agg [.t (.v (.int .i64 p0.Length)), .t (.tree p0.Words.length 1 (Ru64 p0.Words))], .agg [.t (.v (.int .i64 p1.Length)), .t (.tree p1.Words.length 1 (Ru64 p1.Words))], .c (.t (.v (.func (.func 60) #[] #[])))], out := .tup [.agg [.t (.v (.int .i64 y1.Length)), .ref 0 1 0 y1.Words.length], .c (.t (.v (.int .i64 y2)))], outb := [(0, .row 33 false 1 y1.Words.length (Ru64 y1.Words))] } }] ⟨[(5, .c (.t (.v (.int .i64 y2)))), (4, .c (.ptr 2 2 0 0))], [(2, .box 29 [.t (.v (.int .i64 y1.Length)), .ref 6 1 0 y1.Words.length]), (6, .row 33 false 1 y1.Words.length (Ru64 y1.Words))], 11⟩ [True, True, (((True) ∧ (True) ∧ (True)) ∧ ((True) ∧ (True) ∧ (True)) ∧ (True) ∧ (True)) ∧ (All2 ArgLe [.agg [.t (.v (.int .i64 p0.Length)), .t (.tree p0.Words.length 1 (Ru64 p0.Words))], .agg [.t (.v (.int .i64 p1.Length)), .t (.tree p1.Words.length 1 (Ru64 p1.Words))], .c (.t (.v (.func (.func 60) #[] #[])))] [.agg [.t (.v (.int .i64 p0.Length)), .t (.tree p0.Words.length 1 (Ru64 p0.Words))], .agg [.t (.v (.int .i64 p1.Length)), .t (.tree p1.Words.length 1 (Ru64 p1.Words))], .c (.t (.v (.func (.func 60) #[] #[])))]) ∧ ((true = true → flatB [(0, .row 33 false 1 y1.Words.length (Ru64 y1.Words))])) ∧ (Con Try.prog 58 [.agg [.t (.v (.int .i64 p0.Length)), .t (.tree p0.Words.length 1 (Ru64 p0.Words))], .agg [.t (.v (.int .i64 p1.Length)), .t (.tree p1.Words.length 1 (Ru64 p1.Words))], .c (.t (.v (.func (.func 60) #[] #[])))] [] (.tup [.agg [.t (.v (.int .i64 y1.Length)), .ref 0 1 0 y1.Words.length], .c (.t (.v (.int .i64 y2)))]) [(0, .row 33 false 1 y1.Words.length (Ru64 y1.Words))]), True, True, True, True] (by kernel_rfl) (by kernel_rfl) ⟨trivial, trivial, ⟨⟨⟨trivial, trivial, trivial⟩, ⟨trivial, trivial, trivial⟩, trivial, trivial⟩, ⟨ArgLe.refl _, ArgLe.refl _, ArgLe.refl _, trivial⟩, (fun _ => ⟨rowL_flat Vu64 _ _ _, trivial⟩), (bitset_both_60_con p0 p1 y1 y2 e3)⟩, trivial, trivial, trivial, trivial, trivial⟩ ?_
  refine AW.thenQ_normal ?_
  refine AW.ret ?_
  obtain rfl := some_inj h
  exact ⟨.inr rfl, OutOk.mk [(0, 6)] 1 (out0 := .tup [.agg [.t (.v (.int .i64 y1.Length)), .ref 6 1 0 y1.Words.length], .c (.t (.v (.int .i64 y2)))]) (ps := [True, True]) (by kernel_rfl) ⟨trivial, trivial, trivial⟩ (by kernel_rfl) (by kernel_rfl)⟩
/-! recordlink/bitset.Xor$1 -/
noncomputable def bitset_Xor_f1 (p0 : Int) (p1 : Int) : Option Int := some (ixor .u64 p0 p1)
set_option maxRecDepth 100000 in
theorem bitset_Xor_f1_con (p0 : Int) (p1 : Int) (r0 : Int) (h : bitset_Xor_f1 p0 p1 = some r0) : Con Try.prog 61 [.c (.t (.v (.int .u64 p0))), .c (.t (.v (.int .u64 p1)))] [] (.c (.t (.v (.int .u64 r0)))) [] := by
  revert h; generalize r0 = r; intro h
  refine con_of tt_ok1 0 Try.func61 (by kernel_rfl) rfl (by kernel_rfl) (fun base X hk => ?_)
  unfold bitset_Xor_f1 at h
  refine AW.seq ?_
  refine AW.reg tt_ok1 [0, 1] [] [] ⟨[(0, .c (.t (.v (.int .u64 p0)))), (1, .c (.t (.v (.int .u64 p1))))], [], 1⟩ [True] (by kernel_rfl) (by kernel_rfl) ⟨trivial, trivial⟩ ?_
  refine AW.thenQ_normal ?_
  refine AW.seq ?_
  refine AW.reg tt_ok1 [4] [] [] ⟨[(4, .c (.t (.v (.int .u64 (ixor .u64 p0 p1)))))], [], 5⟩ [True, True, True, True] (by kernel_rfl) (by kernel_rfl) ⟨trivial, trivial, trivial, trivial, trivial⟩ ?_
  refine AW.thenQ_normal ?_
  refine AW.ret ?_
  obtain rfl := some_inj h
  exact ⟨.inr rfl, OutOk.mk [] 0 (out0 := .c (.t (.v (.int .u64 (ixor .u64 p0 p1))))) (ps := [True]) (by kernel_rfl) ⟨trivial, trivial⟩ (by kernel_rfl) (by kernel_rfl)⟩
/-! recordlink/bitset.both -/
noncomputable def bitset_both_61_l6 (p0 : S_api_Bits) (p1 : S_api_Bits) (x7 : Int) (x8 : List Int) : Option ((Int × (List Int)) ⊕ (List Int)) := if (decide (x7 < ((p0.Words.length : Nat) : Int))) = true then (if 0 ≤ x7 then (if x7 < ((p0.Words.length : Nat) : Int) then (if x7 < ((p1.Words.length : Nat) : Int) then ((bitset_Xor_f1 (p0.Words.getD x7.toNat 0) (p1.Words.getD x7.toNat 0)).bind fun y14 => (if x7 < ((x8.length : Nat) : Int) then (some (.inl (IntKind.i64.wrap (x7 + 1), (x8.set (0 + x7.toNat) y14)))) else none)) else none) else none) else none) else (some (.inr x8))
noncomputable def bitset_both_61_k4 (p0 : S_api_Bits) (p1 : S_api_Bits) (x1 : Bool) : Option (S_api_Bits × Int) := if x1 = true then (some ((⟨0, ([] : List Int)⟩ : S_api_Bits), 8)) else (if 0 ≤ ((p0.Words.length : Nat) : Int) then (if ((p0.Words.length : Nat) : Int) ≤ 1099511627776 then ((loop (fun v : Int × (List Int) => bitset_both_61_l6 p0 p1 v.1 v.2) (0, (List.replicate (((p0.Words.length : Nat) : Int).toNat) (0 : Int)))).bind fun x17 => (some ((⟨p0.Length, x17⟩ : S_api_Bits), 0))) else none) else none)
noncomputable def bitset_both_61 (p0 : S_api_Bits) (p1 : S_api_Bits) : Option (S_api_Bits × Int) := (bitset_Valid p0).bind fun y19 => (if (!y19) = true then (bitset_both_61_k4 p0 p1 true) else ((bitset_Valid p1).bind fun y22 => (if (!y22) = true then (bitset_both_61_k4 p0 p1 true) else (bitset_both_61_k4 p0 p1 (p0.Length != p1.Length)))))
set_option maxRecDepth 100000 in
theorem bitset_both_61_con (p0 : S_api_Bits) (p1 : S_api_Bits) (r0 : S_api_Bits) (r1 : Int) (h : bitset_both_61 p0 p1 = some (r0, r1)) : Con Try.prog 58 [.agg [.t (.v (.int .i64 p0.Length)), .t (.tree p0.Words.length 1 (Ru64 p0.Words))], .agg [.t (.v (.int .i64 p1.Length)), .t (.tree p1.Words.length 1 (Ru64 p1.Words))], .c (.t (.v (.func (.func 61) #[] #[])))] [] (.tup [.agg [.t (.v (.int .i64 r0.Length)), .ref 0 1 0 r0.Words.length], .c (.t (.v (.int .i64 r1)))]) [(0, .row 33 false 1 r0.Words.length (Ru64 r0.Words))] := by
  suffices H : ∀ r, bitset_both_61 p0 p1 = some r → Con Try.prog 58 [.agg [.t (.v (.int .i64 p0.Length)), .t (.tree p0.Words.length 1 (Ru64 p0.Words))], .agg [.t (.v (.int .i64 p1.Length)), .t (.tree p1.Words.length 1 (Ru64 p1.Words))], .c (.t (.v (.func (.func 61) #[] #[])))] [] (.tup [.agg [.t (.v (.int .i64 r.1.Length)), .ref 0 1 0 r.1.Words.length], .c (.t (.v (.int .i64 r.2)))]) [(0, .row 33 false 1 r.1.Words.length (Ru64 r.1.Words))] from H (r0, r1) h
  clear h
  intro r h
  refine con_of tt_ok1 0 Try.func58 (by kernel_rfl) rfl (by kernel_rfl) (fun base X hk => ?_)
  unfold bitset_both_61 at h
  refine AW.seq ?_
  refine AW.reg tt_ok1 [2, 3, 4, 6] [0, 1, 2] [] ⟨[(6, .c (.ptr 2 2 0 0)), (4, .c (.ptr 1 2 0 0)), (3, .c (.ptr 0 2 0 0)), (2, .c (.t (.v (.func (.func 61) #[] #[]))))], [(2, .box 29 [.t (.v (.int .i64 0)), .t (.v (.slice none 0 0))]), (1, .box 29 [.t (.v (.int .i64 p1.Length)), .t (.tree p1.Words.length 1 (Ru64 p1.Words))]), (0, .box 29 [.t (.v (.int .i64 p0.Length)), .t (.tree p0.Words.length 1 (Ru64 p0.Words))])], 4⟩ [True, True, True, True] (by kernel_rfl) (by kernel_rfl) ⟨trivial, trivial, trivial, trivial, trivial⟩ ?_
  refine AW.thenQ_normal ?_
  refine AW.seq ?_
  refine AW.seq ?_
  refine AW.join (ι := Bool) (fun v => ⟨[(2, .c (.t (.v (.func (.func 61) #[] #[])))), (3, .c (.ptr 0 2 0 0)), (4, .c (.ptr 1 2 0 0)), (6, .c (.ptr 2 2 0 0)), (25, .c (.t (.v (.bool v))))], [(0, .box 29 [.t (.v (.int .i64 p0.Length)), .t (.tree p0.Words.length 1 (Ru64 p0.Words))]), (1, .box 29 [.t (.v (.int .i64 p1.Length)), .t (.tree p1.Words.length 1 (Ru64 p1.Words))]), (2, .box 29 [.t (.v (.int .i64 0)), .t (.v (.slice none 0 0))])], 3⟩) (fun v : Bool => bitset_both_61_k4 p0 p1 v = some r) (fun v h => ?_) ?_
  ·
    obtain ⟨x1, rfl⟩ : ∃ x, x = v := ⟨_, rfl⟩
    replace h : bitset_both_61_k4 p0 p1 x1 = some r := h
    unfold bitset_both_61_k4 at h
    show (_ : Exit → St → Prop) .normal ⟨[(2, .c (.t (.v (.func (.func 61) #[] #[])))), (3, .c (.ptr 0 2 0 0)), (4, .c (.ptr 1 2 0 0)), (6, .c (.ptr 2 2 0 0)), (25, .c (.t (.v (.bool x1))))], [(0, .box 29 [.t (.v (.int .i64 p0.Length)), .t (.tree p0.Words.length 1 (Ru64 p0.Words))]), (1, .box 29 [.t (.v (.int .i64 p1.Length)), .t (.tree p1.Words.length 1 (Ru64 p1.Words))]), (2, .box 29 [.t (.v (.int .i64 0)), .t (.v (.slice none 0 0))])], 3⟩
    refine AW.thenQ_normal ?_
    refine AW.cond (b := x1) (by kernel_rfl) (fun c2 => ?_) (fun c2 => ?_)
    · rw [if_pos c2] at h
      refine AW.seq ?_
      refine AW.reg tt_ok1 [6, 7] [2] [] ⟨[(7, .c (.t (.v (.int .i64 8)))), (6, .c (.ptr 2 2 0 0))], [(2, .box 29 [.t (.v (.int .i64 0)), .t (.v (.slice none 0 0))])], 6⟩ [True, True, True] (by kernel_rfl) (by kernel_rfl) ⟨trivial, trivial, trivial, trivial⟩ ?_
      refine AW.thenQ_normal ?_
      refine AW.pre (conv_adoptB (id := 2) (ty0 := 29) (cs := [.t (.v (.int .i64 0)), .t (.v (.slice none 0 0))]) 1 (ty := 33) (sz := 1) (n := ([] : List Int).length) (f := Ru64 ([] : List Int)) (by kernel_rfl) (by kernel_rfl) rfl) ?_
      refine AW.ret ?_
      refine AW.thenQ_ret ?_
      obtain rfl := some_inj h
      exact ⟨.inr rfl, OutOk.mk [(0, 6)] 1 (out0 := .tup [.agg [.t (.v (.int .i64 0)), .ref 6 1 0 (([] : List Int).length)], .c (.t (.v (.int .i64 8)))]) (ps := [True, True]) (by kernel_rfl) ⟨trivial, trivial, trivial⟩ (by kernel_rfl) (by kernel_rfl)⟩
    · rw [if_neg (by rw [c2]; exact Bool.false_ne_true)] at h
      refine AW.skip ?_
      refine AW.thenQ_normal ?_
      refine AW.seq ?_
      obtain ⟨g3, h⟩ := ifc h
      obtain ⟨g4, h⟩ := ifc h
      refine AW.regD tt_ok1 mo1 [0, 1, 0, 4, 12, 28, 63, 0, 255] [[], [], [], [], [], [8], [], [10], [10]] [2, 3, 4, 6, 8] [0, 1, 2, 8, 10] [{}, {}, {}, {}, {}, { h := { row := some ((List.replicate (((p0.Words.length : Nat) : Int).toNat) (0 : Int)).length, Ru64 (List.replicate (((p0.Words.length : Nat) : Int).toNat) (0 : Int))) } }] ⟨[(8, .c (.ptr 10 2 0 0)), (2, .c (.t (.v (.func (.func 61) #[] #[])))), (3, .c (.ptr 0 2 0 0)), (4, .c (.ptr 1 2 0 0)), (6, .c (.ptr 2 2 0 0))], [(10, .box 29 [.t (.v (.int .i64 p0.Length)), .ref 8 1 0 ((List.replicate (((p0.Words.length : Nat) : Int).toNat) (0 : Int)).length)]), (8, .row 33 false 1 (List.replicate (((p0.Words.length : Nat) : Int).toNat) (0 : Int)).length (Ru64 (List.replicate (((p0.Words.length : Nat) : Int).toNat) (0 : Int)))), (0, .box 29 [.t (.v (.int .i64 p0.Length)), .t (.tree p0.Words.length 1 (Ru64 p0.Words))]), (1, .box 29 [.t (.v (.int .i64 p1.Length)), .t (.tree p1.Words.length 1 (Ru64 p1.Words))]), (2, .box 29 [.t (.v (.int .i64 0)), .t (.v (.slice none 0 0))])], 12⟩ [True, True, True, True, True, ((0 ≤ ((p0.Words.length : Nat) : Int)) ∧ (((p0.Words.length : Nat) : Int) ≤ ((p0.Words.length : Nat) : Int)) ∧ (((p0.Words.length : Nat) : Int) ≤ 1099511627776) ∧ ((8 : Nat) ≤ 128)) ∧ (((p0.Words.length : Nat) : Int).toNat = (List.replicate (((p0.Words.length : Nat) : Int).toNat) (0 : Int)).length ∧ ∀ i, i < (List.replicate (((p0.Words.length : Nat) : Int).toNat) (0 : Int)).length → ∀ j, j < 1 → (fun _ j => .v (([.int .u64 0] : List Value).getD j undef)) i j = Ru64 (List.replicate (((p0.Words.length : Nat) : Int).toNat) (0 : Int)) i j), True, True, True] (by kernel_rfl) (by kernel_rfl) ⟨trivial, trivial, trivial, trivial, trivial, ⟨⟨g3, Int.le_refl _, g4, (by decide)⟩, mk_row (fun j hj => match j, hj with | 0, _ => rfl | _ + 1, h => absurd h (by omega))⟩, trivial, trivial, trivial, trivial⟩ ?_
      refine AW.thenQ_normal ?_
      refine AW.seq ?_
      refine AW.seq ?_
      refine AW.reg tt_ok1 [2, 4, 6, 8, 35, 36, 37] [1, 2, 8, 10] [] ⟨[(37, .c (.t (.v (.int .i64 0)))), (36, .c (.t (.v (.int .i64 ((p0.Words.length : Nat) : Int))))), (35, .c (.t (.tree p0.Words.length 1 (Ru64 p0.Words)))), (8, .c (.ptr 10 2 0 0)), (2, .c (.t (.v (.func (.func 61) #[] #[])))), (4, .c (.ptr 1 2 0 0)), (6, .c (.ptr 2 2 0 0))], [(10, .box 29 [.t (.v (.int .i64 p0.Length)), .ref 8 1 0 ((List.replicate (((p0.Words.length : Nat) : Int).toNat) (0 : Int)).length)]), (8, .row 33 false 1 (List.replicate (((p0.Words.length : Nat) : Int).toNat) (0 : Int)).length (Ru64 (List.replicate (((p0.Words.length : Nat) : Int).toNat) (0 : Int)))), (1, .box 29 [.t (.v (.int .i64 p1.Length)), .t (.tree p1.Words.length 1 (Ru64 p1.Words))]), (2, .box 29 [.t (.v (.int .i64 0)), .t (.v (.slice none 0 0))])], 16⟩ [True, True, True, True] (by kernel_rfl) (by kernel_rfl) ⟨trivial, trivial, trivial, trivial, trivial⟩ ?_
      refine AW.thenQ_normal ?_
      refine AW.block ?_
      obtain ⟨x17, l18, h⟩ := bnd_some h
      refine AW.pre (S' := ((fun v => ⟨[(2, .c (.t (.v (.func (.func 61) #[] #[])))), (4, .c (.ptr 0 2 0 0)), (6, .c (.ptr 1 2 0 0)), (8, .c (.ptr 2 2 0 0)), (35, .c (.t (.tree p0.Words.length 1 (Ru64 p0.Words)))), (36, .c (.t (.v (.int .i64 ((p0.Words.length : Nat) : Int))))), (37, .c (.t (.v (.int .i64 v.1))))], [(0, .box 29 [.t (.v (.int .i64 p1.Length)), .t (.tree p1.Words.length 1 (Ru64 p1.Words))]), (1, .box 29 [.t (.v (.int .i64 0)), .t (.v (.slice none 0 0))]), (2, .box 29 [.t (.v (.int .i64 p0.Length)), .ref 3 1 0 v.2.length]), (3, .row 33 false 1 v.2.length (Ru64 v.2))], 4⟩) : (Int × (List Int)) → St) (0, (List.replicate (((p0.Words.length : Nat) : Int).toNat) (0 : Int)))) (conv_ren [(0, 1), (1, 2), (2, 10), (3, 8)] [2, 4, 6, 8, 35, 36, 37] (n := 4) (by kernel_rfl) (by kernel_rfl)) ?_
      refine AW.loop2 (step := (fun v : Int × (List Int) => bitset_both_61_l6 p0 p1 v.1 v.2)) (s0 := (0, (List.replicate (((p0.Words.length : Nat) : Int).toNat) (0 : Int)))) (t := x17) (fun v => ⟨[(2, .c (.t (.v (.func (.func 61) #[] #[])))), (4, .c (.ptr 0 2 0 0)), (6, .c (.ptr 1 2 0 0)), (8, .c (.ptr 2 2 0 0)), (35, .c (.t (.tree p0.Words.length 1 (Ru64 p0.Words)))), (36, .c (.t (.v (.int .i64 ((p0.Words.length : Nat) : Int))))), (37, .c (.t (.v (.int .i64 v.1))))], [(0, .box 29 [.t (.v (.int .i64 p1.Length)), .t (.tree p1.Words.length 1 (Ru64 p1.Words))]), (1, .box 29 [.t (.v (.int .i64 0)), .t (.v (.slice none 0 0))]), (2, .box 29 [.t (.v (.int .i64 p0.Length)), .ref 3 1 0 v.2.length]), (3, .row 33 false 1 v.2.length (Ru64 v.2))], 4⟩) (fun t : List Int => (.exit 0, ⟨[(6, .c (.ptr 0 2 0 0)), (8, .c (.ptr 1 2 0 0))], [(0, .box 29 [.t (.v (.int .i64 0)), .t (.v (.slice none 0 0))]), (1, .box 29 [.t (.v (.int .i64 p0.Length)), .ref 2 1 0 t.length]), (2, .row 33 false 1 t.length (Ru64 t))], 3⟩)) l18 (fun _ => trivial) ?_ ?_
      ·
        intro v o h
        obtain ⟨x7, x8⟩ := v
        replace h : bitset_both_61_l6 p0 p1 x7 x8 = some o := h
        unfold bitset_both_61_l6 at h
        show AW _ ⟨[(2, .c (.t (.v (.func (.func 61) #[] #[])))), (4, .c (.ptr 0 2 0 0)), (6, .c (.ptr 1 2 0 0)), (8, .c (.ptr 2 2 0 0)), (35, .c (.t (.tree p0.Words.length 1 (Ru64 p0.Words)))), (36, .c (.t (.v (.int .i64 ((p0.Words.length : Nat) : Int))))), (37, .c (.t (.v (.int .i64 x7))))], [(0, .box 29 [.t (.v (.int .i64 p1.Length)), .t (.tree p1.Words.length 1 (Ru64 p1.Words))]), (1, .box 29 [.t (.v (.int .i64 0)), .t (.v (.slice none 0 0))]), (2, .box 29 [.t (.v (.int .i64 p0.Length)), .ref 3 1 0 x8.length]), (3, .row 33 false 1 x8.length (Ru64 x8))], 4⟩ _ _
        refine AW.seq ?_
        refine AW.reg tt_ok1 [2, 4, 6, 8, 35, 36, 37, 38] [0, 1, 2, 3] [] ⟨[(38, .c (.t (.v (.bool (decide (x7 < ((p0.Words.length : Nat) : Int))))))), (2, .c (.t (.v (.func (.func 61) #[] #[])))), (4, .c (.ptr 0 2 0 0)), (6, .c (.ptr 1 2 0 0)), (8, .c (.ptr 2 2 0 0)), (35, .c (.t (.tree p0.Words.length 1 (Ru64 p0.Words)))), (36, .c (.t (.v (.int .i64 ((p0.Words.length : Nat) : Int))))), (37, .c (.t (.v (.int .i64 x7))))], [(0, .box 29 [.t (.v (.int .i64 p1.Length)), .t (.tree p1.Words.length 1 (Ru64 p1.Words))]), (1, .box 29 [.t (.v (.int .i64 0)), .t (.v (.slice none 0 0))]), (2, .box 29 [.t (.v (.int .i64 p0.Length)), .ref 3 1 0 x8.length]), (3, .row 33 false 1 x8.length (Ru64 x8))], 5⟩ [True] (by kernel_rfl) (by kernel_rfl) ⟨trivial, trivial⟩ ?_
        refine AW.thenQ_normal ?_
        refine AW.seq ?_
        refine AW.cond (b := decide (x7 < ((p0.Words.length : Nat) : Int))) (by kernel_rfl) (fun c10 => ?_) (fun c10 => ?_)
        · rw [if_pos c10] at h
          refine AW.skip ?_
          refine AW.thenQ_normal ?_
          refine AW.seq ?_
          refine AW.block ?_
          refine AW.seq ?_
          obtain ⟨g11, h⟩ := ifc h
          obtain ⟨g12, h⟩ := ifc h
          refine AW.reg tt_ok1 [2, 4, 6, 8, 9, 10, 35, 36, 37] [0, 1, 2, 3] [] ⟨[(10, .c (.t (.v (.int .u64 (p0.Words.getD x7.toNat 0))))), (9, .c (.t (.v (.int .i64 x7)))), (2, .c (.t (.v (.func (.func 61) #[] #[])))), (4, .c (.ptr 0 2 0 0)), (6, .c (.ptr 1 2 0 0)), (8, .c (.ptr 2 2 0 0)), (35, .c (.t (.tree p0.Words.length 1 (Ru64 p0.Words)))), (36, .c (.t (.v (.int .i64 ((p0.Words.length : Nat) : Int))))), (37, .c (.t (.v (.int .i64 x7))))], [(0, .box 29 [.t (.v (.int .i64 p1.Length)), .t (.tree p1.Words.length 1 (Ru64 p1.Words))]), (1, .box 29 [.t (.v (.int .i64 0)), .t (.v (.slice none 0 0))]), (2, .box 29 [.t (.v (.int .i64 p0.Length)), .ref 3 1 0 x8.length]), (3, .row 33 false 1 x8.length (Ru64 x8))], 10⟩ [True, (0 ≤ x7) ∧ (x7 < ((p0.Words.length : Nat) : Int)), True, True, True] (by kernel_rfl) (by kernel_rfl) ⟨trivial, ⟨g11, g12⟩, trivial, trivial, trivial, trivial⟩ ?_
          refine AW.thenQ_normal ?_
          obtain ⟨g13, h⟩ := ifc h
          obtain ⟨y14, e15, h⟩ := bnd_some h
          obtain ⟨g16, h⟩ := ifc h
          refine AW.regD tt_ok1 mo1 [0, 1, 0, 0, 0, 0, 32, 0, 224, 480, 1016, 2047, 4095] [[], [], [], [], [], [], [], [], [], [], [], [], [3]] [2, 4, 6, 8, 35, 36, 37] [0, 1, 2, 3] [{}, {}, {}, {}, {}, {}, {}, {}, {}, {}, { call := some { ids := [], frz := [], flat := true, cnt := 0, args := [.c (.t (.v (.int .u64 (p0.Words.getD x7.toNat 0)))), .c (.t (.v (.int .u64 (p1.Words.getD x7.toNat 0))))], out := .c (.t (.v (.int .u64 y14))), outb := [] } }, {}, { h := { row := some (x8.length, Ru64 (x8.set (0 + x7.toNat) y14)) } }] ⟨[(2, .c (.t (.v (.func (.func 61) #[] #[])))), (4, .c (.ptr 0 2 0 0)), (6, .c (.ptr 1 2 0 0)), (8, .c (.ptr 2 2 0 0)), (35, .c (.t (.tree p0.Words.length 1 (Ru64 p0.Words)))), (36, .c (.t (.v (.int .i64 ((p0.Words.length : Nat) : Int))))), (37, .c (.t (.v (.int .i64 x7))))], [(3, .row 33 false 1 x8.length (Ru64 (x8.set (0 + x7.toNat) y14))), (0, .box 29 [.t (.v (.int .i64 p1.Length)), .t (.tree p1.Words.length 1 (Ru64 p1.Words))]), (1, .box 29 [.t (.v (.int .i64 0)), .t (.v (.slice none 0 0))]), (2, .box 29 [.t (.v (.int .i64 p0.Length)), .ref 3 1 0 x8.length])], 22⟩ [True, True, True, True, True, True, True, True, (0 ≤ x7) ∧ (x7 < ((p1.Words.length : Nat) : Int)), True, ((True) ∧ (True) ∧ (True)) ∧ (All2 ArgLe [.c (.t (.v (.int .u64 (p0.Words.getD x7.toNat 0)))), .c (.t (.v (.int .u64 (p1.Words.getD x7.toNat 0))))] [.c (.t (.v (.int .u64 (p0.Words.getD x7.toNat 0)))), .c (.t (.v (.int .u64 (p1.Words.getD x7.toNat 0))))]) ∧ ((true = true → flatB [])) ∧ (Con Try.prog 61 [.c (.t (.v (.int .u64 (p0.Words.getD x7.toNat 0)))), .c (.t (.v (.int .u64 (p1.Words.getD x7.toNat 0))))] [] (.c (.t (.v (.int .u64 y14)))) []), (0 ≤ x7) ∧ (x7 < ((x8.length : Nat) : Int)), ((0 + x7.toNat) < x8.length) ∧ (x8.length = x8.length ∧ ∀ i, i < x8.length → ∀ j, j < 1 → updRow (Ru64 x8) (0 + x7.toNat) 0 [.v (.int .u64 y14)] i j = Ru64 (x8.set (0 + x7.toNat) y14) i j)] (by kernel_rfl) (by kernel_rfl) ⟨trivial, trivial, trivial, trivial, trivial, trivial, trivial, trivial, ⟨g11, g13⟩, trivial, ⟨⟨trivial, trivial, trivial⟩, ⟨ArgLe.refl _, ArgLe.refl _, trivial⟩, (fun _ => trivial), (bitset_Xor_f1_con (p0.Words.getD x7.toNat 0) (p1.Words.getD x7.toNat 0) y14 e15)⟩, ⟨g11, g16⟩, ⟨(by have h1 : 0 ≤ x7 := g11; have h2 : x7 < ((x8.length : Nat) : Int) := g16; omega), set_rowN rfl (by have h1 : 0 ≤ x7 := g11; have h2 : x7 < ((x8.length : Nat) : Int) := g16; omega) (fun j hj => match j, hj with | 0, _ => rfl | _ + 1, h => absurd h (by omega))⟩, trivial⟩ ?_
          refine AW.inBlock_normal ?_
          refine AW.thenQ_normal ?_
          refine AW.reg tt_ok1 [2, 4, 6, 8, 35, 36, 37] [0, 1, 2, 3] [] ⟨[(37, .c (.t (.v (.int .i64 (IntKind.i64.wrap (x7 + 1)))))), (2, .c (.t (.v (.func (.func 61) #[] #[])))), (4, .c (.ptr 0 2 0 0)), (6, .c (.ptr 1 2 0 0)), (8, .c (.ptr 2 2 0 0)), (35, .c (.t (.tree p0.Words.length 1 (Ru64 p0.Words)))), (36, .c (.t (.v (.int .i64 ((p0.Words.length : Nat) : Int)))))], [(3, .row 33 false 1 x8.length (Ru64 (x8.set (0 + x7.toNat) y14))), (0, .box 29 [.t (.v (.int .i64 p1.Length)), .t (.tree p1.Words.length 1 (Ru64 p1.Words))]), (1, .box 29 [.t (.v (.int .i64 0)), .t (.v (.slice none 0 0))]), (2, .box 29 [.t (.v (.int .i64 p0.Length)), .ref 3 1 0 x8.length])], 24⟩ [True, True] (by kernel_rfl) (by kernel_rfl) ⟨trivial, trivial, trivial⟩ ?_
          obtain rfl := some_inj h
          refine loopQ_next (Conv.trans (conv_len (S' := ⟨[(37, .c (.t (.v (.int .i64 (IntKind.i64.wrap (x7 + 1)))))), (2, .c (.t (.v (.func (.func 61) #[] #[])))), (4, .c (.ptr 0 2 0 0)), (6, .c (.ptr 1 2 0 0)), (8, .c (.ptr 2 2 0 0)), (35, .c (.t (.tree p0.Words.length 1 (Ru64 p0.Words)))), (36, .c (.t (.v (.int .i64 ((p0.Words.length : Nat) : Int)))))], [(3, .row 33 false 1 (x8.set (0 + x7.toNat) y14).length (Ru64 (x8.set (0 + x7.toNat) y14))), (0, .box 29 [.t (.v (.int .i64 p1.Length)), .t (.tree p1.Words.length 1 (Ru64 p1.Words))]), (1, .box 29 [.t (.v (.int .i64 0)), .t (.v (.slice none 0 0))]), (2, .box 29 [.t (.v (.int .i64 p0.Length)), .ref 3 1 0 ((x8.set (0 + x7.toNat) y14).length)])], 24⟩) (by simp only [List.length_set])) (conv_ren [(0, 0), (1, 1), (2, 2), (3, 3)] [2, 4, 6, 8, 35, 36, 37] (n := 4) (by kernel_rfl) (by kernel_rfl)))
        · rw [if_neg (by rw [c10]; exact Bool.false_ne_true)] at h
          refine AW.exit ?_
          refine AW.thenQ_exit ?_
          obtain rfl := some_inj h
          refine loopQ_out rfl (conv_ren [(0, 1), (1, 2), (2, 3)] [6, 8] (n := 3) (by kernel_rfl) (by kernel_rfl))
      ·
        show (_ : Exit → St → Prop) (.exit 0) ⟨[(6, .c (.ptr 0 2 0 0)), (8, .c (.ptr 1 2 0 0))], [(0, .box 29 [.t (.v (.int .i64 0)), .t (.v (.slice none 0 0))]), (1, .box 29 [.t (.v (.int .i64 p0.Length)), .ref 2 1 0 x17.length]), (2, .row 33 false 1 x17.length (Ru64 x17))], 3⟩
        refine AW.inBlock_hit ?_
        refine AW.thenQ_normal ?_
        refine AW.seq ?_
        refine AW.reg tt_ok1 [6, 7] [0, 2] [] ⟨[(7, .c (.t (.v (.int .i64 0)))), (6, .c (.ptr 0 2 0 0))], [(0, .box 29 [.t (.v (.int .i64 p0.Length)), .ref 2 1 0 x17.length]), (2, .row 33 false 1 x17.length (Ru64 x17))], 6⟩ [True, True, True] (by kernel_rfl) (by kernel_rfl) ⟨trivial, trivial, trivial, trivial⟩ ?_
        refine AW.thenQ_normal ?_
        refine AW.ret ?_
        obtain rfl := some_inj h
        exact ⟨.inr rfl, OutOk.mk [(0, 2)] 1 (out0 := .tup [.agg [.t (.v (.int .i64 p0.Length)), .ref 2 1 0 x17.length], .c (.t (.v (.int .i64 0)))]) (ps := [True, True]) (by kernel_rfl) ⟨trivial, trivial, trivial⟩ (by kernel_rfl) (by kernel_rfl)⟩
  ·
    obtain ⟨y19, e20, h⟩ := bnd_some h
    by_cases c21 : (!y19) = true
    · rw [if_pos c21] at h
      refine AW.reg tt_ok1 [2, 3, 4, 6, 25] [0, 1, 2] [{}, { call := some { ids := [], frz := [], flat := true, cnt := 0, args := [.agg [.t (.v (.int .i64 p0.Length)), .t (.tree p0.Words.length 1 (Ru64 p0.Words))]], out := .c (.t (.v (.bool y19))), outb := [] } }, { h := { b := some true } }] ⟨[(25, .c (.t (.v (.bool true)))), (6, .c (.ptr 2 2 0 0)), (4, .c (.ptr 1 2 0 0)), (3, .c (.ptr 0 2 0 0)), (2, .c (.t (.v (.func (.func 61) #[] #[]))))], [(2, .box 29 [.t (.v (.int .i64 0)), .t (.v (.slice none 0 0))]), (1, .box 29 [.t (.v (.int .i64 p1.Length)), .t (.tree p1.Words.length 1 (Ru64 p1.Words))]), (0, .box 29 [.t (.v (.int .i64 p0.Length)), .t (.tree p0.Words.length 1 (Ru64 p0.Words))])], 18⟩ [True, (((True) ∧ (True) ∧ (True)) ∧ (True)) ∧ (All2 ArgLe [.agg [.t (.v (.int .i64 p0.Length)), .t (.tree p0.Words.length 1 (Ru64 p0.Words))]] [.agg [.t (.v (.int .i64 p0.Length)), .t (.tree p0.Words.length 1 (Ru64 p0.Words))]]) ∧ ((true = true → flatB [])) ∧ (Con Try.prog 49 [.agg [.t (.v (.int .i64 p0.Length)), .t (.tree p0.Words.length 1 (Ru64 p0.Words))]] [] (.c (.t (.v (.bool y19)))) []), (!y19) = true, True, True, True, True, True, True, True, True, True, True, True, True] (by kernel_rfl) (by kernel_rfl) ⟨trivial, ⟨⟨⟨trivial, trivial, trivial⟩, trivial⟩, ⟨ArgLe.refl _, trivial⟩, (fun _ => trivial), (bitset_Valid_con p0 y19 e20)⟩, c21, trivial, trivial, trivial, trivial, trivial, trivial, trivial, trivial, trivial, trivial, trivial, trivial, trivial⟩ ?_
      exact joinQ_leaf (true) h (conv_ren [(0, 0), (1, 1), (2, 2)] [2, 3, 4, 6, 25] (n := 3) (by kernel_rfl) (by kernel_rfl))
    · rw [if_neg c21] at h
      obtain ⟨y22, e23, h⟩ := bnd_some h
      by_cases c24 : (!y22) = true
      · rw [if_pos c24] at h
        refine AW.reg tt_ok1 [2, 3, 4, 6, 25] [0, 1, 2] [{}, { call := some { ids := [], frz := [], flat := true, cnt := 0, args := [.agg [.t (.v (.int .i64 p0.Length)), .t (.tree p0.Words.length 1 (Ru64 p0.Words))]], out := .c (.t (.v (.bool y19))), outb := [] } }, { h := { b := some false } }, {}, {}, { call := some { ids := [], frz := [], flat := true, cnt := 0, args := [.agg [.t (.v (.int .i64 p1.Length)), .t (.tree p1.Words.length 1 (Ru64 p1.Words))]], out := .c (.t (.v (.bool y22))), outb := [] } }, { h := { b := some true } }] ⟨[(25, .c (.t (.v (.bool true)))), (6, .c (.ptr 2 2 0 0)), (4, .c (.ptr 1 2 0 0)), (3, .c (.ptr 0 2 0 0)), (2, .c (.t (.v (.func (.func 61) #[] #[]))))], [(2, .box 29 [.t (.v (.int .i64 0)), .t (.v (.slice none 0 0))]), (1, .box 29 [.t (.v (.int .i64 p1.Length)), .t (.tree p1.Words.length 1 (Ru64 p1.Words))]), (0, .box 29 [.t (.v (.int .i64 p0.Length)), .t (.tree p0.Words.length 1 (Ru64 p0.Words))])], 17⟩ [True, (((True) ∧ (True) ∧ (True)) ∧ (True)) ∧ (All2 ArgLe [.agg [.t (.v (.int .i64 p0.Length)), .t (.tree p0.Words.length 1 (Ru64 p0.Words))]] [.agg [.t (.v (.int .i64 p0.Length)), .t (.tree p0.Words.length 1 (Ru64 p0.Words))]]) ∧ ((true = true → flatB [])) ∧ (Con Try.prog 49 [.agg [.t (.v (.int .i64 p0.Length)), .t (.tree p0.Words.length 1 (Ru64 p0.Words))]] [] (.c (.t (.v (.bool y19)))) []), (!y19) = false, True, True, (((True) ∧ (True) ∧ (True)) ∧ (True)) ∧ (All2 ArgLe [.agg [.t (.v (.int .i64 p1.Length)), .t (.tree p1.Words.length 1 (Ru64 p1.Words))]] [.agg [.t (.v (.int .i64 p1.Length)), .t (.tree p1.Words.length 1 (Ru64 p1.Words))]]) ∧ ((true = true → flatB [])) ∧ (Con Try.prog 49 [.agg [.t (.v (.int .i64 p1.Length)), .t (.tree p1.Words.length 1 (Ru64 p1.Words))]] [] (.c (.t (.v (.bool y22)))) []), (!y22) = true, True, True, True, True, True, True, True, True] (by kernel_rfl) (by kernel_rfl) ⟨trivial, ⟨⟨⟨trivial, trivial, trivial⟩, trivial⟩, ⟨ArgLe.refl _, trivial⟩, (fun _ => trivial), (bitset_Valid_con p0 y19 e20)⟩, (off_false c21), trivial, trivial, ⟨⟨⟨trivial, trivial, trivial⟩, trivial⟩, ⟨ArgLe.refl _, trivial⟩, (fun _ => trivial), (bitset_Valid_con p1 y22 e23)⟩, c24, trivial, trivial, trivial, trivial, trivial, trivial, trivial, trivial, trivial⟩ ?_
        exact joinQ_leaf (true) h (conv_ren [(0, 0), (1, 1), (2, 2)] [2, 3, 4, 6, 25] (n := 3) (by kernel_rfl) (by kernel_rfl))
      · rw [if_neg c24] at h
        refine AW.reg tt_ok1 [2, 3, 4, 6, 25] [0, 1, 2] [{}, { call := some { ids := [], frz := [], flat := true, cnt := 0, args := [.agg [.t (.v (.int .i64 p0.Length)), .t (.tree p0.Words.length 1 (Ru64 p0.Words))]], out := .c (.t (.v (.bool y19))), outb := [] } }, { h := { b := some false } }, {}, {}, { call := some { ids := [], frz := [], flat := true, cnt := 0, args := [.agg [.t (.v (.int .i64 p1.Length)), .t (.tree p1.Words.length 1 (Ru64 p1.Words))]], out := .c (.t (.v (.bool y22))), outb := [] } }, { h := { b := some false } }] ⟨[(25, .c (.t (.v (.bool (p0.Length != p1.Length))))), (6, .c (.ptr 2 2 0 0)), (4, .c (.ptr 1 2 0 0)), (3, .c (.ptr 0 2 0 0)), (2, .c (.t (.v (.func (.func 61) #[] #[]))))], [(2, .box 29 [.t (.v (.int .i64 0)), .t (.v (.slice none 0 0))]), (1, .box 29 [.t (.v (.int .i64 p1.Length)), .t (.tree p1.Words.length 1 (Ru64 p1.Words))]), (0, .box 29 [.t (.v (.int .i64 p0.Length)), .t (.tree p0.Words.length 1 (Ru64 p0.Words))])], 17⟩ [True, (((True) ∧ (True) ∧ (True)) ∧ (True)) ∧ (All2 ArgLe [.agg [.t (.v (.int .i64 p0.Length)), .t (.tree p0.Words.length 1 (Ru64 p0.Words))]] [.agg [.t (.v (.int .i64 p0.Length)), .t (.tree p0.Words.length 1 (Ru64 p0.Words))]]) ∧ ((true = true → flatB [])) ∧ (Con Try.prog 49 [.agg [.t (.v (.int .i64 p0.Length)), .t (.tree p0.Words.length 1 (Ru64 p0.Words))]] [] (.c (.t (.v (.bool y19)))) []), (!y19) = false, True, True, (((True) ∧ (True) ∧ (True)) ∧ (True)) ∧ (All2 ArgLe [.agg [.t (.v (.int .i64 p1.Length)), .t (.tree p1.Words.length 1 (Ru64 p1.Words))]] [.agg [.t (.v (.int .i64 p1.Length)), .t (.tree p1.Words.length 1 (Ru64 p1.Words))]]) ∧ ((true = true → flatB [])) ∧ (Con Try.prog 49 [.agg [.t (.v (.int .i64 p1.Length)), .t (.tree p1.Words.length 1 (Ru64 p1.Words))]] [] (.c (.t (.v (.bool y22)))) []), (!y22) = false, True, True, True, True, True, True, True, True] (by kernel_rfl) (by kernel_rfl) ⟨trivial, ⟨⟨⟨trivial, trivial, trivial⟩, trivial⟩, ⟨ArgLe.refl _, trivial⟩, (fun _ => trivial), (bitset_Valid_con p0 y19 e20)⟩, (off_false c21), trivial, trivial, ⟨⟨⟨trivial, trivial, trivial⟩, trivial⟩, ⟨ArgLe.refl _, trivial⟩, (fun _ => trivial), (bitset_Valid_con p1 y22 e23)⟩, (off_false c24), trivial, trivial, trivial, trivial, trivial, trivial, trivial, trivial, trivial⟩ ?_
        exact joinQ_leaf ((p0.Length != p1.Length)) h (conv_ren [(0, 0), (1, 1), (2, 2)] [2, 3, 4, 6, 25] (n := 3) (by kernel_rfl) (by kernel_rfl))
/-! recordlink/bitset.Xor -/
noncomputable def bitset_Xor (p0 : S_api_Bits) (p1 : S_api_Bits) : Option (S_api_Bits × Int) := bind2 (bitset_both_61 p0 p1) fun y1 y2 => (some (y1, y2))
set_option maxRecDepth 100000 in
theorem bitset_Xor_con (p0 : S_api_Bits) (p1 : S_api_Bits) (r0 : S_api_Bits) (r1 : Int) (h : bitset_Xor p0 p1 = some (r0, r1)) : Con Try.prog 31 [.agg [.t (.v (.int .i64 p0.Length)), .t (.tree p0.Words.length 1 (Ru64 p0.Words))], .agg [.t (.v (.int .i64 p1.Length)), .t (.tree p1.Words.length 1 (Ru64 p1.Words))]] [] (.tup [.agg [.t (.v (.int .i64 r0.Length)), .ref 0 1 0 r0.Words.length], .c (.t (.v (.int .i64 r1)))]) [(0, .row 33 false 1 r0.Words.length (Ru64 r0.Words))] := by
  suffices H : ∀ r, bitset_Xor p0 p1 = some r → Con Try.prog 31 [.agg [.t (.v (.int .i64 p0.Length)), .t (.tree p0.Words.length 1 (Ru64 p0.Words))], .agg [.t (.v (.int .i64 p1.Length)), .t (.tree p1.Words.length 1 (Ru64 p1.Words))]] [] (.tup [.agg [.t (.v (.int .i64 r.1.Length)), .ref 0 1 0 r.1.Words.length], .c (.t (.v (.int .i64 r.2)))]) [(0, .row 33 false 1 r.1.Words.length (Ru64 r.1.Words))] from H (r0, r1) h
  clear h
  intro r h
  refine con_of tt_ok1 0 Try.func31 (by kernel_rfl) rfl (by kernel_rfl) (fun base X hk => ?_)
  unfold bitset_Xor at h
  refine AW.seq ?_
  refine AW.reg tt_ok1 [2, 3, 4] [0, 1, 2] [] ⟨[(4, .c (.ptr 2 2 0 0)), (3, .c (.ptr 1 2 0 0)), (2, .c (.ptr 0 2 0 0))], [(2, .box 29 [.t (.v (.int .i64 0)), .t (.v (.slice none 0 0))]), (1, .box 29 [.t (.v (.int .i64 p1.Length)), .t (.tree p1.Words.length 1 (Ru64 p1.Words))]), (0, .box 29 [.t (.v (.int .i64 p0.Length)), .t (.tree p0.Words.length 1 (Ru64 p0.Words))])], 4⟩ [True, True, True, True] (by kernel_rfl) (by kernel_rfl) ⟨trivial, trivial, trivial, trivial, trivial⟩ ?_
  refine AW.thenQ_normal ?_
  refine AW.seq ?_
  obtain ⟨y1, y2, e3, h⟩ := bind2_some h
  refine AW.reg tt_ok1 [4, 5] [2, 6] [{}, {}, { call := some { ids := [], frz := [], flat := true, cnt := 1, args := [.agg [.t (.v (.int .i64 p0.Length)), .t (.tree p0.Words.length 1 (Ru64 p0.Words))], .agg [.t (.v (.int .i64 p1.Length)), .t (.tree p1.Words.length 1 (Ru64 p1.Words))], .c (.t (.v (.func (.func 61) #[] #[])))], out := .tup [.agg [.t (.v (.int .i64 y1.Length)), .ref 0 1 0 y1.Words.length], .c (.t (.v (.int .i64 y2)))], outb := [(0, .row 33 false 1 y1.Words.length (Ru64 y1.Words))] } }] ⟨[(5, .c (.t (.v (.int .i64 y2)))), (4, .c (.ptr 2 2 0 0))], [(2, .box 29 [.t (.v (.int .i64 y1.Length)), .ref 6 1 0 y1.Words.length]), (6, .row 33 false 1 y1.Words.length (Ru64 y1.Words))], 11⟩ [True, True, (((True) ∧ (True) ∧ (True)) ∧ ((True) ∧ (True) ∧ (True)) ∧ (True) ∧ (True)) ∧ (All2 ArgLe [.agg [.t (.v (.int .i64 p0.Length)), .t (.tree p0.Words.length 1 (Ru64 p0.Words))], .agg [.t (.v (.int .i64 p1.Length)), .t (.tree p1.Words.length 1 (Ru64 p1.Words))], .c (.t (.v (.func (.func 61) #[] #[])))] [.agg [.t (.v (.int .i64 p0.Length)), .t (.tree p0.Words.length 1 (Ru64 p0.Words))], .agg [.t (.v (.int .i64 p1.Length)), .t (.tree p1.Words.length 1 (Ru64 p1.Words))], .c (.t (.v (.func (.func 61) #[] #[])))]) ∧ ((true = true → flatB [(0, .row 33 false 1 y1.Words.length (Ru64 y1.Words))])) ∧ (Con Try.prog 58 [.agg [.t (.v (.int .i64 p0.Length)), .t (.tree p0.Words.length 1 (Ru64 p0.Words))], .agg [.t (.v (.int .i64 p1.Length)), .t (.tree p1.Words.length 1 (Ru64 p1.Words))], .c (.t (.v (.func (.func 61) #[] #[])))] [] (.tup [.agg [.t (.v (.int .i64 y1.Length)), .ref 0 1 0 y1.Words.length], .c (.t (.v (.int .i64 y2)))]) [(0, .row 33 false 1 y1.Words.length (Ru64 y1.Words))]), True, True, True, True] (by kernel_rfl) (by kernel_rfl) ⟨trivial, trivial, ⟨⟨⟨trivial, trivial, trivial⟩, ⟨trivial, trivial, trivial⟩, trivial, trivial⟩, ⟨ArgLe.refl _, ArgLe.refl _, ArgLe.refl _, trivial⟩, (fun _ => ⟨rowL_flat Vu64 _ _ _, trivial⟩), (bitset_both_61_con p0 p1 y1 y2 e3)⟩, trivial, trivial, trivial, trivial, trivial⟩ ?_
  refine AW.thenQ_normal ?_
  refine AW.ret ?_
  obtain rfl := some_inj h
  exact ⟨.inr rfl, OutOk.mk [(0, 6)] 1 (out0 := .tup [.agg [.t (.v (.int .i64 y1.Length)), .ref 6 1 0 y1.Words.length], .c (.t (.v (.int .i64 y2)))]) (ps := [True, True]) (by kernel_rfl) ⟨trivial, trivial, trivial⟩ (by kernel_rfl) (by kernel_rfl)⟩
/-! recordlink/similarity.Pattern -/
noncomputable def similarity_Pattern_k76 (x8 : Int) (x11 : List Int) : Option (((List Int) × Int) ⊕ ((List Int) ⊕ Unit)) := some (.inl (x11, IntKind.i64.wrap (x8 + 1)))
noncomputable def similarity_Pattern_k80 (p0 : List Int) (p1 : List Int) (x7 : List Int) (x8 : Int) (x15 : Bool) : Option (((List Int) × Int) ⊕ ((List Int) ⊕ Unit)) := if x15 = true then (some (.inr (.inr ()))) else (if (decide ((p1.getD x8.toNat 0) < 0)) = true then (if x8 < ((x7.length : Nat) : Int) then (similarity_Pattern_k76 x8 (x7.set (0 + x8.toNat) 0)) else none) else (if (decide ((p1.getD x8.toNat 0) < (p0.getD x8.toNat 0))) = true then (if x8 < ((x7.length : Nat) : Int) then (similarity_Pattern_k76 x8 (x7.set (0 + x8.toNat) 1)) else none) else (if x8 < ((x7.length : Nat) : Int) then (similarity_Pattern_k76 x8 (x7.set (0 + x8.toNat) 2)) else none)))
noncomputable def similarity_Pattern_l71 (p0 : List Int) (p1 : List Int) (x7 : List Int) (x8 : Int) : Option (((List Int) × Int) ⊕ ((List Int) ⊕ Unit)) := if (decide (x8 < ((p0.length : Nat) : Int))) = true then (if 0 ≤ x8 then (if x8 < ((p0.length : Nat) : Int) then (if x8 < ((p1.length : Nat) : Int) then (if (decide ((p0.getD x8.toNat 0) < 0)) = true then (similarity_Pattern_k80 p0 p1 x7 x8 true) else (if (decide ((p0.getD x8.toNat 0) > 1000)) = true then (similarity_Pattern_k80 p0 p1 x7 x8 true) else (if (decide ((p1.getD x8.toNat 0) < (-1))) = true then (similarity_Pattern_k80 p0 p1 x7 x8 true) else (similarity_Pattern_k80 p0 p1 x7 x8 (decide ((p1.getD x8.toNat 0) > 1000)))))) else none) else none) else none) else (some (.inr (.inl x7)))
noncomputable def similarity_Pattern_a81 (x25 : List Int) : Option (Int × Int) := bind2 (similarity_Number x25) fun y26 y27 => (some (y26, y27))
noncomputable def similarity_Pattern_a82 : Option (Int × Int) := some (0, 2)
noncomputable def similarity_Pattern_k4 (p0 : List Int) (p1 : List Int) (x1 : Bool) : Option (Int × Int) := if x1 = true then (some (0, 8)) else (if 0 ≤ ((p0.length : Nat) : Int) then (if ((p0.length : Nat) : Int) ≤ 1099511627776 then (bindE (loop (fun v : (List Int) × Int => similarity_Pattern_l71 p0 p1 v.1 v.2) ((List.replicate (((p0.length : Nat) : Int).toNat) (0 : Int)), 0)) (fun t => similarity_Pattern_a81 t) (fun t => similarity_Pattern_a82)) else none) else none)
noncomputable def similarity_Pattern (p0 : List Int) (p1 : List Int) : Option (Int × Int) := if (((p0.length : Nat) : Int) != ((p1.length : Nat) : Int)) = true then (similarity_Pattern_k4 p0 p1 true) else ((similarity_fields ((p0.length : Nat) : Int)).bind fun y31 => (similarity_Pattern_k4 p0 p1 (!y31)))
set_option maxRecDepth 100000 in
theorem similarity_Pattern_con (p0 : List Int) (p1 : List Int) (r0 : Int) (r1 : Int) (h : similarity_Pattern p0 p1 = some (r0, r1)) : Con Try.prog 33 [.c (.t (.tree p0.length 1 (Ri64 p0))), .c (.t (.tree p1.length 1 (Ri64 p1)))] [] (.tup [.c (.t (.v (.int .i64 r0))), .c (.t (.v (.int .i64 r1)))]) [] := by
  suffices H : ∀ r, similarity_Pattern p0 p1 = some r → Con Try.prog 33 [.c (.t (.tree p0.length 1 (Ri64 p0))), .c (.t (.tree p1.length 1 (Ri64 p1)))] [] (.tup [.c (.t (.v (.int .i64 r.1))), .c (.t (.v (.int .i64 r.2)))]) [] from H (r0, r1) h
  clear h
  intro r h
  refine con_of tt_ok1 0 Try.func33 (by kernel_rfl) rfl (by kernel_rfl) (fun base X hk => ?_)
  unfold similarity_Pattern at h
  refine AW.seq ?_
  refine AW.reg tt_ok1 [0, 1] [] [] ⟨[(0, .c (.t (.tree p0.length 1 (Ri64 p0)))), (1, .c (.t (.tree p1.length 1 (Ri64 p1))))], [], 2⟩ [True, True] (by kernel_rfl) (by kernel_rfl) ⟨trivial, trivial, trivial⟩ ?_
  refine AW.thenQ_normal ?_
  refine AW.seq ?_
  refine AW.seq ?_
  refine AW.join (ι := Bool) (fun v => ⟨[(0, .c (.t (.tree p0.length 1 (Ri64 p0)))), (1, .c (.t (.tree p1.length 1 (Ri64 p1)))), (20, .c (.t (.v (.bool v))))], [], 0⟩) (fun v : Bool => similarity_Pattern_k4 p0 p1 v = some r) (fun v h => ?_) ?_
  ·
    obtain ⟨x1, rfl⟩ : ∃ x, x = v := ⟨_, rfl⟩
    replace h : similarity_Pattern_k4 p0 p1 x1 = some r := h
    unfold similarity_Pattern_k4 at h
    show (_ : Exit → St → Prop) .normal ⟨[(0, .c (.t (.tree p0.length 1 (Ri64 p0)))), (1, .c (.t (.tree p1.length 1 (Ri64 p1)))), (20, .c (.t (.v (.bool x1))))], [], 0⟩
    refine AW.thenQ_normal ?_
    refine AW.cond (b := x1) (by kernel_rfl) (fun c2 => ?_) (fun c2 => ?_)
    · rw [if_pos c2] at h
      refine AW.seq ?_
      refine AW.reg tt_ok1 [4, 5] [] [] ⟨[(5, .c (.t (.v (.int .i64 8)))), (4, .c (.t (.v (.int .i64 0))))], [], 2⟩ [True, True] (by kernel_rfl) (by kernel_rfl) ⟨trivial, trivial, trivial⟩ ?_
      refine AW.thenQ_normal ?_
      refine AW.ret ?_
      refine AW.thenQ_ret ?_
      obtain rfl := some_inj h
      exact ⟨.inr rfl, OutOk.mk [] 0 (out0 := .tup [.c (.t (.v (.int .i64 0))), .c (.t (.v (.int .i64 8)))]) (ps := [True, True]) (by kernel_rfl) ⟨trivial, trivial, trivial⟩ (by kernel_rfl) (by kernel_rfl)⟩
    · rw [if_neg (by rw [c2]; exact Bool.false_ne_true)] at h
      refine AW.skip ?_
      refine AW.thenQ_normal ?_
      refine AW.seq ?_
      obtain ⟨g3, h⟩ := ifc h
      obtain ⟨g4, h⟩ := ifc h
      refine AW.reg tt_ok1 [0, 1, 6] [2] [{}, {}, { h := { row := some ((List.replicate (((p0.length : Nat) : Int).toNat) (0 : Int)).length, Ri64 (List.replicate (((p0.length : Nat) : Int).toNat) (0 : Int))) } }] ⟨[(6, .c (.ref 2 1 0 ((List.replicate (((p0.length : Nat) : Int).toNat) (0 : Int)).length))), (0, .c (.t (.tree p0.length 1 (Ri64 p0)))), (1, .c (.t (.tree p1.length 1 (Ri64 p1))))], [(2, .row 3 false 1 (List.replicate (((p0.length : Nat) : Int).toNat) (0 : Int)).length (Ri64 (List.replicate (((p0.length : Nat) : Int).toNat) (0 : Int))))], 4⟩ [True, True, ((0 ≤ ((p0.length : Nat) : Int)) ∧ (((p0.length : Nat) : Int) ≤ ((p0.length : Nat) : Int)) ∧ (((p0.length : Nat) : Int) ≤ 1099511627776) ∧ ((8 : Nat) ≤ 128)) ∧ (((p0.length : Nat) : Int).toNat = (List.replicate (((p0.length : Nat) : Int).toNat) (0 : Int)).length ∧ ∀ i, i < (List.replicate (((p0.length : Nat) : Int).toNat) (0 : Int)).length → ∀ j, j < 1 → (fun _ j => .v (([.int .i64 0] : List Value).getD j undef)) i j = Ri64 (List.replicate (((p0.length : Nat) : Int).toNat) (0 : Int)) i j), True] (by kernel_rfl) (by kernel_rfl) ⟨trivial, trivial, ⟨⟨g3, Int.le_refl _, g4, (by decide)⟩, mk_row (fun j hj => match j, hj with | 0, _ => rfl | _ + 1, h => absurd h (by omega))⟩, trivial, trivial⟩ ?_
      refine AW.thenQ_normal ?_
      refine AW.seq ?_
      refine AW.seq ?_
      refine AW.reg tt_ok1 [1, 6, 24, 25, 26] [2] [] ⟨[(26, .c (.t (.v (.int .i64 0)))), (25, .c (.t (.v (.int .i64 ((p0.length : Nat) : Int))))), (24, .c (.t (.tree p0.length 1 (Ri64 p0)))), (6, .c (.ref 2 1 0 ((List.replicate (((p0.length : Nat) : Int).toNat) (0 : Int)).length))), (1, .c (.t (.tree p1.length 1 (Ri64 p1))))], [(2, .row 3 false 1 (List.replicate (((p0.length : Nat) : Int).toNat) (0 : Int)).length (Ri64 (List.replicate (((p0.length : Nat) : Int).toNat) (0 : Int))))], 7⟩ [True, True, True] (by kernel_rfl) (by kernel_rfl) ⟨trivial, trivial, trivial, trivial⟩ ?_
      refine AW.thenQ_normal ?_
      refine AW.block ?_
      rcases bindE_some h with ⟨t, l29, h⟩ | ⟨t, l29, h⟩
      ·
        obtain ⟨x25, rfl⟩ : ∃ x, x = t := ⟨_, rfl⟩
        replace h : similarity_Pattern_a81 x25 = some r := h
        unfold similarity_Pattern_a81 at h
        refine AW.pre (S' := ((fun v => ⟨[(1, .c (.t (.tree p1.length 1 (Ri64 p1)))), (6, .c (.ref 0 1 0 v.1.length)), (24, .c (.t (.tree p0.length 1 (Ri64 p0)))), (25, .c (.t (.v (.int .i64 ((p0.length : Nat) : Int))))), (26, .c (.t (.v (.int .i64 v.2))))], [(0, .row 3 false 1 v.1.length (Ri64 v.1))], 1⟩) : ((List Int) × Int) → St) ((List.replicate (((p0.length : Nat) : Int).toNat) (0 : Int)), 0)) (conv_ren [(0, 2)] [1, 6, 24, 25, 26] (n := 1) (by kernel_rfl) (by kernel_rfl)) ?_
        refine AW.loop2 (step := (fun v : (List Int) × Int => similarity_Pattern_l71 p0 p1 v.1 v.2)) (s0 := ((List.replicate (((p0.length : Nat) : Int).toNat) (0 : Int)), 0)) (t := .inl x25) (fun v => ⟨[(1, .c (.t (.tree p1.length 1 (Ri64 p1)))), (6, .c (.ref 0 1 0 v.1.length)), (24, .c (.t (.tree p0.length 1 (Ri64 p0)))), (25, .c (.t (.v (.int .i64 ((p0.length : Nat) : Int))))), (26, .c (.t (.v (.int .i64 v.2))))], [(0, .row 3 false 1 v.1.length (Ri64 v.1))], 1⟩) (fun t : ((List Int) ⊕ Unit) => match t with | .inl t => (.exit 0, ⟨[(6, .c (.ref 0 1 0 t.length))], [(0, .row 3 false 1 t.length (Ri64 t))], 1⟩) | .inr t => (.ret, ⟨[(4, .c (.t (.v (.int .i64 0)))), (5, .c (.t (.v (.int .i64 2))))], [], 0⟩)) l29 (fun t => by cases t <;> trivial) ?_ ?_
        ·
          clear l29 h
          intro v o h
          obtain ⟨x7, x8⟩ := v
          replace h : similarity_Pattern_l71 p0 p1 x7 x8 = some o := h
          unfold similarity_Pattern_l71 at h
          show AW _ ⟨[(1, .c (.t (.tree p1.length 1 (Ri64 p1)))), (6, .c (.ref 0 1 0 x7.length)), (24, .c (.t (.tree p0.length 1 (Ri64 p0)))), (25, .c (.t (.v (.int .i64 ((p0.length : Nat) : Int))))), (26, .c (.t (.v (.int .i64 x8))))], [(0, .row 3 false 1 x7.length (Ri64 x7))], 1⟩ _ _
          refine AW.seq ?_
          refine AW.reg tt_ok1 [1, 6, 24, 25, 26, 27] [0] [] ⟨[(27, .c (.t (.v (.bool (decide (x8 < ((p0.length : Nat) : Int))))))), (1, .c (.t (.tree p1.length 1 (Ri64 p1)))), (6, .c (.ref 0 1 0 x7.length)), (24, .c (.t (.tree p0.length 1 (Ri64 p0)))), (25, .c (.t (.v (.int .i64 ((p0.length : Nat) : Int))))), (26, .c (.t (.v (.int .i64 x8))))], [(0, .row 3 false 1 x7.length (Ri64 x7))], 2⟩ [True] (by kernel_rfl) (by kernel_rfl) ⟨trivial, trivial⟩ ?_
          refine AW.thenQ_normal ?_
          refine AW.seq ?_
          refine AW.cond (b := decide (x8 < ((p0.length : Nat) : Int))) (by kernel_rfl) (fun c10 => ?_) (fun c10 => ?_)
          · rw [if_pos c10] at h
            refine AW.skip ?_
            refine AW.thenQ_normal ?_
            refine AW.seq ?_
            refine AW.join (ι := List Int) (fun v => ⟨[(1, .c (.t (.tree p1.length 1 (Ri64 p1)))), (6, .c (.ref 0 1 0 v.length)), (24, .c (.t (.tree p0.length 1 (Ri64 p0)))), (25, .c (.t (.v (.int .i64 ((p0.length : Nat) : Int))))), (26, .c (.t (.v (.int .i64 x8))))], [(0, .row 3 false 1 v.length (Ri64 v))], 1⟩) (fun v : List Int => similarity_Pattern_k76 x8 v = some o) (fun v h => ?_) ?_
            ·
              obtain ⟨x11, rfl⟩ : ∃ x, x = v := ⟨_, rfl⟩
              replace h : similarity_Pattern_k76 x8 x11 = some o := h
              unfold similarity_Pattern_k76 at h
              show (_ : Exit → St → Prop) .normal ⟨[(1, .c (.t (.tree p1.length 1 (Ri64 p1)))), (6, .c (.ref 0 1 0 x11.length)), (24, .c (.t (.tree p0.length 1 (Ri64 p0)))), (25, .c (.t (.v (.int .i64 ((p0.length : Nat) : Int))))), (26, .c (.t (.v (.int .i64 x8))))], [(0, .row 3 false 1 x11.length (Ri64 x11))], 1⟩
              refine AW.thenQ_normal ?_
              refine AW.reg tt_ok1 [1, 6, 24, 25, 26] [0] [] ⟨[(26, .c (.t (.v (.int .i64 (IntKind.i64.wrap (x8 + 1)))))), (1, .c (.t (.tree p1.length 1 (Ri64 p1)))), (6, .c (.ref 0 1 0 x11.length)), (24, .c (.t (.tree p0.length 1 (Ri64 p0)))), (25, .c (.t (.v (.int .i64 ((p0.length : Nat) : Int)))))], [(0, .row 3 false 1 x11.length (Ri64 x11))], 3⟩ [True, True] (by kernel_rfl) (by kernel_rfl) ⟨trivial, trivial, trivial⟩ ?_
              obtain rfl := some_inj h
              refine loopQ_next (conv_ren [(0, 0)] [1, 6, 24, 25, 26] (n := 1) (by kernel_rfl) (by kernel_rfl))
            ·
              refine AW.block ?_
              refine AW.seq ?_
              obtain ⟨g12, h⟩ := ifc h
              obtain ⟨g13, h⟩ := ifc h
              refine AW.reg tt_ok1 [1, 6, 7, 8, 24, 25, 26] [0] [] ⟨[(8, .c (.t (.v (.int .i64 (p0.getD x8.toNat 0))))), (7, .c (.t (.v (.int .i64 x8)))), (1, .c (.t (.tree p1.length 1 (Ri64 p1)))), (6, .c (.ref 0 1 0 x7.length)), (24, .c (.t (.tree p0.length 1 (Ri64 p0)))), (25, .c (.t (.v (.int .i64 ((p0.length : Nat) : Int))))), (26, .c (.t (.v (.int .i64 x8))))], [(0, .row 3 false 1 x7.length (Ri64 x7))], 7⟩ [True, (0 ≤ x8) ∧ (x8 < ((p0.length : Nat) : Int)), True, True, True] (by kernel_rfl) (by kernel_rfl) ⟨trivial, ⟨g12, g13⟩, trivial, trivial, trivial, trivial⟩ ?_
              refine AW.thenQ_normal ?_
              refine AW.seq ?_
              obtain ⟨g14, h⟩ := ifc h
              refine AW.reg tt_ok1 [1, 6, 7, 8, 9, 24, 25, 26] [0] [] ⟨[(9, .c (.t (.v (.int .i64 (p1.getD x8.toNat 0))))), (8, .c (.t (.v (.int .i64 (p0.getD x8.toNat 0))))), (7, .c (.t (.v (.int .i64 x8)))), (1, .c (.t (.tree p1.length 1 (Ri64 p1)))), (6, .c (.ref 0 1 0 x7.length)), (24, .c (.t (.tree p0.length 1 (Ri64 p0)))), (25, .c (.t (.v (.int .i64 ((p0.length : Nat) : Int))))), (26, .c (.t (.v (.int .i64 x8))))], [(0, .row 3 false 1 x7.length (Ri64 x7))], 12⟩ [True, True, (0 ≤ x8) ∧ (x8 < ((p1.length : Nat) : Int)), True, True] (by kernel_rfl) (by kernel_rfl) ⟨trivial, trivial, ⟨g12, g14⟩, trivial, trivial, trivial⟩ ?_
              refine AW.thenQ_normal ?_
              refine AW.seq ?_
              refine AW.seq ?_
              refine AW.join (ι := Bool) (fun v => ⟨[(1, .c (.t (.tree p1.length 1 (Ri64 p1)))), (6, .c (.ref 0 1 0 x7.length)), (7, .c (.t (.v (.int .i64 x8)))), (8, .c (.t (.v (.int .i64 (p0.getD x8.toNat 0))))), (9, .c (.t (.v (.int .i64 (p1.getD x8.toNat 0))))), (24, .c (.t (.tree p0.length 1 (Ri64 p0)))), (25, .c (.t (.v (.int .i64 ((p0.length : Nat) : Int))))), (26, .c (.t (.v (.int .i64 x8)))), (48, .c (.t (.v (.bool v))))], [(0, .row 3 false 1 x7.length (Ri64 x7))], 1⟩) (fun v : Bool => similarity_Pattern_k80 p0 p1 x7 x8 v = some o) (fun v h => ?_) ?_
              ·
                obtain ⟨x15, rfl⟩ : ∃ x, x = v := ⟨_, rfl⟩
                replace h : similarity_Pattern_k80 p0 p1 x7 x8 x15 = some o := h
                unfold similarity_Pattern_k80 at h
                show (_ : Exit → St → Prop) .normal ⟨[(1, .c (.t (.tree p1.length 1 (Ri64 p1)))), (6, .c (.ref 0 1 0 x7.length)), (7, .c (.t (.v (.int .i64 x8)))), (8, .c (.t (.v (.int .i64 (p0.getD x8.toNat 0))))), (9, .c (.t (.v (.int .i64 (p1.getD x8.toNat 0))))), (24, .c (.t (.tree p0.length 1 (Ri64 p0)))), (25, .c (.t (.v (.int .i64 ((p0.length : Nat) : Int))))), (26, .c (.t (.v (.int .i64 x8)))), (48, .c (.t (.v (.bool x15))))], [(0, .row 3 false 1 x7.length (Ri64 x7))], 1⟩
                refine AW.thenQ_normal ?_
                refine AW.cond (b := x15) (by kernel_rfl) (fun c16 => ?_) (fun c16 => ?_)
                · rw [if_pos c16] at h
                  refine AW.seq ?_
                  refine AW.reg tt_ok1 [4, 5] [] [] ⟨[(5, .c (.t (.v (.int .i64 2)))), (4, .c (.t (.v (.int .i64 0))))], [], 3⟩ [True, True] (by kernel_rfl) (by kernel_rfl) ⟨trivial, trivial, trivial⟩ ?_
                  refine AW.thenQ_normal ?_
                  refine AW.ret ?_
                  refine AW.thenQ_ret ?_
                  refine AW.inBlock_ret ?_
                  refine joinQ_ret ?_
                  refine AW.thenQ_ret ?_
                  obtain rfl := some_inj h
                  refine loopQ_out rfl (conv_ren [] [4, 5] (n := 0) (by kernel_rfl) (by kernel_rfl))
                · rw [if_neg (by rw [c16]; exact Bool.false_ne_true)] at h
                  refine AW.skip ?_
                  refine AW.thenQ_normal ?_
                  refine AW.block ?_
                  refine AW.seq ?_
                  refine AW.reg tt_ok1 [1, 6, 7, 8, 9, 24, 25, 26, 52] [0] [] ⟨[(52, .c (.t (.v (.bool (decide ((p1.getD x8.toNat 0) < 0)))))), (1, .c (.t (.tree p1.length 1 (Ri64 p1)))), (6, .c (.ref 0 1 0 x7.length)), (7, .c (.t (.v (.int .i64 x8)))), (8, .c (.t (.v (.int .i64 (p0.getD x8.toNat 0))))), (9, .c (.t (.v (.int .i64 (p1.getD x8.toNat 0))))), (24, .c (.t (.tree p0.length 1 (Ri64 p0)))), (25, .c (.t (.v (.int .i64 ((p0.length : Nat) : Int))))), (26, .c (.t (.v (.int .i64 x8))))], [(0, .row 3 false 1 x7.length (Ri64 x7))], 4⟩ [True, True, True] (by kernel_rfl) (by kernel_rfl) ⟨trivial, trivial, trivial, trivial⟩ ?_
                  refine AW.thenQ_normal ?_
                  refine AW.cond (b := decide ((p1.getD x8.toNat 0) < 0)) (by kernel_rfl) (fun c17 => ?_) (fun c17 => ?_)
                  · rw [if_pos c17] at h
                    obtain ⟨g18, h⟩ := ifc h
                    refine AW.reg tt_ok1 [1, 6, 24, 25, 26] [0] [{}, {}, {}, { h := { row := some (x7.length, Ri64 (x7.set (0 + x8.toNat) 0)) } }] ⟨[(1, .c (.t (.tree p1.length 1 (Ri64 p1)))), (6, .c (.ref 0 1 0 x7.length)), (24, .c (.t (.tree p0.length 1 (Ri64 p0)))), (25, .c (.t (.v (.int .i64 ((p0.length : Nat) : Int))))), (26, .c (.t (.v (.int .i64 x8))))], [(0, .row 3 false 1 x7.length (Ri64 (x7.set (0 + x8.toNat) 0)))], 8⟩ [True, True, (0 ≤ x8) ∧ (x8 < ((x7.length : Nat) : Int)), ((0 + x8.toNat) < x7.length) ∧ (x7.length = x7.length ∧ ∀ i, i < x7.length → ∀ j, j < 1 → updRow (Ri64 x7) (0 + x8.toNat) 0 [.v (.int .i64 0)] i j = Ri64 (x7.set (0 + x8.toNat) 0) i j)] (by kernel_rfl) (by kernel_rfl) ⟨trivial, trivial, ⟨g12, g18⟩, ⟨(by have h1 : 0 ≤ x8 := g12; have h2 : x8 < ((x7.length : Nat) : Int) := g18; omega), set_rowN rfl (by have h1 : 0 ≤ x8 := g12; have h2 : x8 < ((x7.length : Nat) : Int) := g18; omega) (fun j hj => match j, hj with | 0, _ => rfl | _ + 1, h => absurd h (by omega))⟩, trivial⟩ ?_
                    refine AW.inBlock_normal ?_
                    refine AW.inBlock_normal ?_
                    exact joinQ_leaf ((x7.set (0 + x8.toNat) 0)) h (Conv.trans (conv_len (S' := ⟨[(1, .c (.t (.tree p1.length 1 (Ri64 p1)))), (6, .c (.ref 0 1 0 ((x7.set (0 + x8.toNat) 0).length))), (24, .c (.t (.tree p0.length 1 (Ri64 p0)))), (25, .c (.t (.v (.int .i64 ((p0.length : Nat) : Int))))), (26, .c (.t (.v (.int .i64 x8))))], [(0, .row 3 false 1 (x7.set (0 + x8.toNat) 0).length (Ri64 (x7.set (0 + x8.toNat) 0)))], 8⟩) (by simp only [List.length_set])) (conv_ren [(0, 0)] [1, 6, 24, 25, 26] (n := 1) (by kernel_rfl) (by kernel_rfl)))
                  · rw [if_neg (by rw [c17]; exact Bool.false_ne_true)] at h
                    refine AW.seq ?_
                    refine AW.reg tt_ok1 [1, 6, 7, 24, 25, 26, 58] [0] [] ⟨[(58, .c (.t (.v (.bool (decide ((p1.getD x8.toNat 0) < (p0.getD x8.toNat 0))))))), (1, .c (.t (.tree p1.length 1 (Ri64 p1)))), (6, .c (.ref 0 1 0 x7.length)), (7, .c (.t (.v (.int .i64 x8)))), (24, .c (.t (.tree p0.length 1 (Ri64 p0)))), (25, .c (.t (.v (.int .i64 ((p0.length : Nat) : Int))))), (26, .c (.t (.v (.int .i64 x8))))], [(0, .row 3 false 1 x7.length (Ri64 x7))], 8⟩ [True, True, True, True] (by kernel_rfl) (by kernel_rfl) ⟨trivial, trivial, trivial, trivial, trivial⟩ ?_
                    refine AW.thenQ_normal ?_
                    refine AW.cond (b := decide ((p1.getD x8.toNat 0) < (p0.getD x8.toNat 0))) (by kernel_rfl) (fun c19 => ?_) (fun c19 => ?_)
                    · rw [if_pos c19] at h
                      obtain ⟨g20, h⟩ := ifc h
                      refine AW.reg tt_ok1 [1, 6, 24, 25, 26] [0] [{}, {}, {}, { h := { row := some (x7.length, Ri64 (x7.set (0 + x8.toNat) 1)) } }] ⟨[(1, .c (.t (.tree p1.length 1 (Ri64 p1)))), (6, .c (.ref 0 1 0 x7.length)), (24, .c (.t (.tree p0.length 1 (Ri64 p0)))), (25, .c (.t (.v (.int .i64 ((p0.length : Nat) : Int))))), (26, .c (.t (.v (.int .i64 x8))))], [(0, .row 3 false 1 x7.length (Ri64 (x7.set (0 + x8.toNat) 1)))], 12⟩ [True, True, (0 ≤ x8) ∧ (x8 < ((x7.length : Nat) : Int)), ((0 + x8.toNat) < x7.length) ∧ (x7.length = x7.length ∧ ∀ i, i < x7.length → ∀ j, j < 1 → updRow (Ri64 x7) (0 + x8.toNat) 0 [.v (.int .i64 1)] i j = Ri64 (x7.set (0 + x8.toNat) 1) i j)] (by kernel_rfl) (by kernel_rfl) ⟨trivial, trivial, ⟨g12, g20⟩, ⟨(by have h1 : 0 ≤ x8 := g12; have h2 : x8 < ((x7.length : Nat) : Int) := g20; omega), set_rowN rfl (by have h1 : 0 ≤ x8 := g12; have h2 : x8 < ((x7.length : Nat) : Int) := g20; omega) (fun j hj => match j, hj with | 0, _ => rfl | _ + 1, h => absurd h (by omega))⟩, trivial⟩ ?_
                      refine AW.inBlock_normal ?_
                      refine AW.inBlock_normal ?_
                      exact joinQ_leaf ((x7.set (0 + x8.toNat) 1)) h (Conv.trans (conv_len (S' := ⟨[(1, .c (.t (.tree p1.length 1 (Ri64 p1)))), (6, .c (.ref 0 1 0 ((x7.set (0 + x8.toNat) 1).length))), (24, .c (.t (.tree p0.length 1 (Ri64 p0)))), (25, .c (.t (.v (.int .i64 ((p0.length : Nat) : Int))))), (26, .c (.t (.v (.int .i64 x8))))], [(0, .row 3 false 1 (x7.set (0 + x8.toNat) 1).length (Ri64 (x7.set (0 + x8.toNat) 1)))], 12⟩) (by simp only [List.length_set])) (conv_ren [(0, 0)] [1, 6, 24, 25, 26] (n := 1) (by kernel_rfl) (by kernel_rfl)))
                    · rw [if_neg (by rw [c19]; exact Bool.false_ne_true)] at h
                      obtain ⟨g21, h⟩ := ifc h
                      refine AW.reg tt_ok1 [1, 6, 24, 25, 26] [0] [{}, {}, {}, { h := { row := some (x7.length, Ri64 (x7.set (0 + x8.toNat) 2)) } }] ⟨[(1, .c (.t (.tree p1.length 1 (Ri64 p1)))), (6, .c (.ref 0 1 0 x7.length)), (24, .c (.t (.tree p0.length 1 (Ri64 p0)))), (25, .c (.t (.v (.int .i64 ((p0.length : Nat) : Int))))), (26, .c (.t (.v (.int .i64 x8))))], [(0, .row 3 false 1 x7.length (Ri64 (x7.set (0 + x8.toNat) 2)))], 12⟩ [True, True, (0 ≤ x8) ∧ (x8 < ((x7.length : Nat) : Int)), ((0 + x8.toNat) < x7.length) ∧ (x7.length = x7.length ∧ ∀ i, i < x7.length → ∀ j, j < 1 → updRow (Ri64 x7) (0 + x8.toNat) 0 [.v (.int .i64 2)] i j = Ri64 (x7.set (0 + x8.toNat) 2) i j)] (by kernel_rfl) (by kernel_rfl) ⟨trivial, trivial, ⟨g12, g21⟩, ⟨(by have h1 : 0 ≤ x8 := g12; have h2 : x8 < ((x7.length : Nat) : Int) := g21; omega), set_rowN rfl (by have h1 : 0 ≤ x8 := g12; have h2 : x8 < ((x7.length : Nat) : Int) := g21; omega) (fun j hj => match j, hj with | 0, _ => rfl | _ + 1, h => absurd h (by omega))⟩, trivial⟩ ?_
                      refine AW.inBlock_normal ?_
                      refine AW.inBlock_normal ?_
                      exact joinQ_leaf ((x7.set (0 + x8.toNat) 2)) h (Conv.trans (conv_len (S' := ⟨[(1, .c (.t (.tree p1.length 1 (Ri64 p1)))), (6, .c (.ref 0 1 0 ((x7.set (0 + x8.toNat) 2).length))), (24, .c (.t (.tree p0.length 1 (Ri64 p0)))), (25, .c (.t (.v (.int .i64 ((p0.length : Nat) : Int))))), (26, .c (.t (.v (.int .i64 x8))))], [(0, .row 3 false 1 (x7.set (0 + x8.toNat) 2).length (Ri64 (x7.set (0 + x8.toNat) 2)))], 12⟩) (by simp only [List.length_set])) (conv_ren [(0, 0)] [1, 6, 24, 25, 26] (n := 1) (by kernel_rfl) (by kernel_rfl)))
              ·
                by_cases c22 : (decide ((p0.getD x8.toNat 0) < 0)) = true
                · rw [if_pos c22] at h
                  refine AW.reg tt_ok1 [1, 6, 7, 8, 9, 24, 25, 26, 48] [0] [{}, { h := { b := some true } }] ⟨[(48, .c (.t (.v (.bool true)))), (9, .c (.t (.v (.int .i64 (p1.getD x8.toNat 0))))), (8, .c (.t (.v (.int .i64 (p0.getD x8.toNat 0))))), (7, .c (.t (.v (.int .i64 x8)))), (1, .c (.t (.tree p1.length 1 (Ri64 p1)))), (6, .c (.ref 0 1 0 x7.length)), (24, .c (.t (.tree p0.length 1 (Ri64 p0)))), (25, .c (.t (.v (.int .i64 ((p0.length : Nat) : Int))))), (26, .c (.t (.v (.int .i64 x8))))], [(0, .row 3 false 1 x7.length (Ri64 x7))], 26⟩ [True, (decide ((p0.getD x8.toNat 0) < 0)) = true, True, True, True, True, True, True, True, True, True, True, True, True] (by kernel_rfl) (by kernel_rfl) ⟨trivial, c22, trivial, trivial, trivial, trivial, trivial, trivial, trivial, trivial, trivial, trivial, trivial, trivial, trivial⟩ ?_
                  exact joinQ_leaf (true) h (conv_ren [(0, 0)] [1, 6, 7, 8, 9, 24, 25, 26, 48] (n := 1) (by kernel_rfl) (by kernel_rfl))
                · rw [if_neg c22] at h
                  by_cases c23 : (decide ((p0.getD x8.toNat 0) > 1000)) = true
                  · rw [if_pos c23] at h
                    refine AW.reg tt_ok1 [1, 6, 7, 8, 9, 24, 25, 26, 38, 39, 48] [0] [{}, { h := { b := some false } }, {}, {}, { h := { b := some true } }] ⟨[(48, .c (.t (.v (.bool true)))), (39, .c (.t (.v (.bool true)))), (38, .c (.t (.v (.int .i64 (p0.getD x8.toNat 0))))), (9, .c (.t (.v (.int .i64 (p1.getD x8.toNat 0))))), (8, .c (.t (.v (.int .i64 (p0.getD x8.toNat 0))))), (7, .c (.t (.v (.int .i64 x8)))), (1, .c (.t (.tree p1.length 1 (Ri64 p1)))), (6, .c (.ref 0 1 0 x7.length)), (24, .c (.t (.tree p0.length 1 (Ri64 p0)))), (25, .c (.t (.v (.int .i64 ((p0.length : Nat) : Int))))), (26, .c (.t (.v (.int .i64 x8))))], [(0, .row 3 false 1 x7.length (Ri64 x7))], 26⟩ [True, (decide ((p0.getD x8.toNat 0) < 0)) = false, True, True, (decide ((p0.getD x8.toNat 0) > 1000)) = true, True, True, True, True, True, True, True, True, True] (by kernel_rfl) (by kernel_rfl) ⟨trivial, (off_false c22), trivial, trivial, c23, trivial, trivial, trivial, trivial, trivial, trivial, trivial, trivial, trivial, trivial⟩ ?_
                    exact joinQ_leaf (true) h (conv_ren [(0, 0)] [1, 6, 7, 8, 9, 24, 25, 26, 48] (n := 1) (by kernel_rfl) (by kernel_rfl))
                  · rw [if_neg c23] at h
                    by_cases c24 : (decide ((p1.getD x8.toNat 0) < (-1))) = true
                    · rw [if_pos c24] at h
                      refine AW.reg tt_ok1 [1, 6, 7, 8, 9, 24, 25, 26, 38, 39, 42, 43, 48] [0] [{}, { h := { b := some false } }, {}, {}, { h := { b := some false } }, {}, {}, {}, { h := { b := some true } }] ⟨[(48, .c (.t (.v (.bool true)))), (43, .c (.t (.v (.bool true)))), (42, .c (.t (.v (.int .i64 (p1.getD x8.toNat 0))))), (39, .c (.t (.v (.bool false)))), (38, .c (.t (.v (.int .i64 (p0.getD x8.toNat 0))))), (9, .c (.t (.v (.int .i64 (p1.getD x8.toNat 0))))), (8, .c (.t (.v (.int .i64 (p0.getD x8.toNat 0))))), (7, .c (.t (.v (.int .i64 x8)))), (1, .c (.t (.tree p1.length 1 (Ri64 p1)))), (6, .c (.ref 0 1 0 x7.length)), (24, .c (.t (.tree p0.length 1 (Ri64 p0)))), (25, .c (.t (.v (.int .i64 ((p0.length : Nat) : Int))))), (26, .c (.t (.v (.int .i64 x8))))], [(0, .row 3 false 1 x7.length (Ri64 x7))], 26⟩ [True, (decide ((p0.getD x8.toNat 0) < 0)) = false, True, True, (decide ((p0.getD x8.toNat 0) > 1000)) = false, True, True, True, (decide ((p1.getD x8.toNat 0) < (-1))) = true, True, True, True, True, True] (by kernel_rfl) (by kernel_rfl) ⟨trivial, (off_false c22), trivial, trivial, (off_false c23), trivial, trivial, trivial, c24, trivial, trivial, trivial, trivial, trivial, trivial⟩ ?_
                      exact joinQ_leaf (true) h (conv_ren [(0, 0)] [1, 6, 7, 8, 9, 24, 25, 26, 48] (n := 1) (by kernel_rfl) (by kernel_rfl))
                    · rw [if_neg c24] at h
                      refine AW.reg tt_ok1 [1, 6, 7, 8, 9, 24, 25, 26, 38, 39, 42, 43, 46, 47, 48] [0] [{}, { h := { b := some false } }, {}, {}, { h := { b := some false } }, {}, {}, {}, { h := { b := some false } }] ⟨[(48, .c (.t (.v (.bool (decide ((p1.getD x8.toNat 0) > 1000)))))), (47, .c (.t (.v (.bool (decide ((p1.getD x8.toNat 0) > 1000)))))), (46, .c (.t (.v (.int .i64 (p1.getD x8.toNat 0))))), (43, .c (.t (.v (.bool false)))), (42, .c (.t (.v (.int .i64 (p1.getD x8.toNat 0))))), (39, .c (.t (.v (.bool false)))), (38, .c (.t (.v (.int .i64 (p0.getD x8.toNat 0))))), (9, .c (.t (.v (.int .i64 (p1.getD x8.toNat 0))))), (8, .c (.t (.v (.int .i64 (p0.getD x8.toNat 0))))), (7, .c (.t (.v (.int .i64 x8)))), (1, .c (.t (.tree p1.length 1 (Ri64 p1)))), (6, .c (.ref 0 1 0 x7.length)), (24, .c (.t (.tree p0.length 1 (Ri64 p0)))), (25, .c (.t (.v (.int .i64 ((p0.length : Nat) : Int))))), (26, .c (.t (.v (.int .i64 x8))))], [(0, .row 3 false 1 x7.length (Ri64 x7))], 26⟩ [True, (decide ((p0.getD x8.toNat 0) < 0)) = false, True, True, (decide ((p0.getD x8.toNat 0) > 1000)) = false, True, True, True, (decide ((p1.getD x8.toNat 0) < (-1))) = false, True, True, True, True, True] (by kernel_rfl) (by kernel_rfl) ⟨trivial, (off_false c22), trivial, trivial, (off_false c23), trivial, trivial, trivial, (off_false c24), trivial, trivial, trivial, trivial, trivial, trivial⟩ ?_
                      exact joinQ_leaf (decide ((p1.getD x8.toNat 0) > 1000)) h (conv_ren [(0, 0)] [1, 6, 7, 8, 9, 24, 25, 26, 48] (n := 1) (by kernel_rfl) (by kernel_rfl))
          · rw [if_neg (by rw [c10]; exact Bool.false_ne_true)] at h
            refine AW.exit ?_
            refine AW.thenQ_exit ?_
            obtain rfl := some_inj h
            refine loopQ_out rfl (conv_ren [(0, 0)] [6] (n := 1) (by kernel_rfl) (by kernel_rfl))
        ·
          show (_ : Exit → St → Prop) (.exit 0) ⟨[(6, .c (.ref 0 1 0 x25.length))], [(0, .row 3 false 1 x25.length (Ri64 x25))], 1⟩
          refine AW.inBlock_hit ?_
          refine AW.thenQ_normal ?_
          refine AW.seq ?_
          obtain ⟨y26, y27, e28, h⟩ := bind2_some h
          refine AW.reg tt_ok1 [4, 5] [] [{}, { call := some { ids := [], frz := [], flat := true, cnt := 0, args := [.c (.t (.tree x25.length 1 (Ri64 x25)))], out := .tup [.c (.t (.v (.int .i64 y26))), .c (.t (.v (.int .i64 y27)))], outb := [] } }] ⟨[(5, .c (.t (.v (.int .i64 y27)))), (4, .c (.t (.v (.int .i64 y26))))], [], 6⟩ [True, ((0 + x25.length ≤ x25.length) ∧ (True)) ∧ (All2 ArgLe [.c (.t (.tree x25.length 1 (Ri64 x25)))] [.c (.t (.tree x25.length 1 (Ri64 x25)))]) ∧ ((true = true → flatB [])) ∧ (Con Try.prog 28 [.c (.t (.tree x25.length 1 (Ri64 x25)))] [] (.tup [.c (.t (.v (.int .i64 y26))), .c (.t (.v (.int .i64 y27)))]) []), True, True, True, True] (by kernel_rfl) (by kernel_rfl) ⟨trivial, ⟨⟨le0, trivial⟩, ⟨ArgLe.refl _, trivial⟩, (fun _ => trivial), (similarity_Number_con x25 y26 y27 e28)⟩, trivial, trivial, trivial, trivial, trivial⟩ ?_
          refine AW.thenQ_normal ?_
          refine AW.ret ?_
          obtain rfl := some_inj h
          exact ⟨.inr rfl, OutOk.mk [] 0 (out0 := .tup [.c (.t (.v (.int .i64 y26))), .c (.t (.v (.int .i64 y27)))]) (ps := [True, True]) (by kernel_rfl) ⟨trivial, trivial, trivial⟩ (by kernel_rfl) (by kernel_rfl)⟩
      ·
        replace h : similarity_Pattern_a82 = some r := h
        unfold similarity_Pattern_a82 at h
        refine AW.pre (S' := ((fun v => ⟨[(1, .c (.t (.tree p1.length 1 (Ri64 p1)))), (6, .c (.ref 0 1 0 v.1.length)), (24, .c (.t (.tree p0.length 1 (Ri64 p0)))), (25, .c (.t (.v (.int .i64 ((p0.length : Nat) : Int))))), (26, .c (.t (.v (.int .i64 v.2))))], [(0, .row 3 false 1 v.1.length (Ri64 v.1))], 1⟩) : ((List Int) × Int) → St) ((List.replicate (((p0.length : Nat) : Int).toNat) (0 : Int)), 0)) (conv_ren [(0, 2)] [1, 6, 24, 25, 26] (n := 1) (by kernel_rfl) (by kernel_rfl)) ?_
        refine AW.loop2 (step := (fun v : (List Int) × Int => similarity_Pattern_l71 p0 p1 v.1 v.2)) (s0 := ((List.replicate (((p0.length : Nat) : Int).toNat) (0 : Int)), 0)) (t := .inr ()) (fun v => ⟨[(1, .c (.t (.tree p1.length 1 (Ri64 p1)))), (6, .c (.ref 0 1 0 v.1.length)), (24, .c (.t (.tree p0.length 1 (Ri64 p0)))), (25, .c (.t (.v (.int .i64 ((p0.length : Nat) : Int))))), (26, .c (.t (.v (.int .i64 v.2))))], [(0, .row 3 false 1 v.1.length (Ri64 v.1))], 1⟩) (fun t : ((List Int) ⊕ Unit) => match t with | .inl t => (.exit 0, ⟨[(6, .c (.ref 0 1 0 t.length))], [(0, .row 3 false 1 t.length (Ri64 t))], 1⟩) | .inr t => (.ret, ⟨[(4, .c (.t (.v (.int .i64 0)))), (5, .c (.t (.v (.int .i64 2))))], [], 0⟩)) l29 (fun t => by cases t <;> trivial) ?_ ?_
        ·
          clear l29 h
          intro v o h
          obtain ⟨x7, x8⟩ := v
          replace h : similarity_Pattern_l71 p0 p1 x7 x8 = some o := h
          unfold similarity_Pattern_l71 at h
          show AW _ ⟨[(1, .c (.t (.tree p1.length 1 (Ri64 p1)))), (6, .c (.ref 0 1 0 x7.length)), (24, .c (.t (.tree p0.length 1 (Ri64 p0)))), (25, .c (.t (.v (.int .i64 ((p0.length : Nat) : Int))))), (26, .c (.t (.v (.int .i64 x8))))], [(0, .row 3 false 1 x7.length (Ri64 x7))], 1⟩ _ _
          refine AW.seq ?_
          refine AW.reg tt_ok1 [1, 6, 24, 25, 26, 27] [0] [] ⟨[(27, .c (.t (.v (.bool (decide (x8 < ((p0.length : Nat) : Int))))))), (1, .c (.t (.tree p1.length 1 (Ri64 p1)))), (6, .c (.ref 0 1 0 x7.length)), (24, .c (.t (.tree p0.length 1 (Ri64 p0)))), (25, .c (.t (.v (.int .i64 ((p0.length : Nat) : Int))))), (26, .c (.t (.v (.int .i64 x8))))], [(0, .row 3 false 1 x7.length (Ri64 x7))], 2⟩ [True] (by kernel_rfl) (by kernel_rfl) ⟨trivial, trivial⟩ ?_
          refine AW.thenQ_normal ?_
          refine AW.seq ?_
          refine AW.cond (b := decide (x8 < ((p0.length : Nat) : Int))) (by kernel_rfl) (fun c10 => ?_) (fun c10 => ?_)
          · rw [if_pos c10] at h
            refine AW.skip ?_
            refine AW.thenQ_normal ?_
            refine AW.seq ?_
            refine AW.join (ι := List Int) (fun v => ⟨[(1, .c (.t (.tree p1.length 1 (Ri64 p1)))), (6, .c (.ref 0 1 0 v.length)), (24, .c (.t (.tree p0.length 1 (Ri64 p0)))), (25, .c (.t (.v (.int .i64 ((p0.length : Nat) : Int))))), (26, .c (.t (.v (.int .i64 x8))))], [(0, .row 3 false 1 v.length (Ri64 v))], 1⟩) (fun v : List Int => similarity_Pattern_k76 x8 v = some o) (fun v h => ?_) ?_
            ·
              obtain ⟨x11, rfl⟩ : ∃ x, x = v := ⟨_, rfl⟩
              replace h : similarity_Pattern_k76 x8 x11 = some o := h
              unfold similarity_Pattern_k76 at h
              show (_ : Exit → St → Prop) .normal ⟨[(1, .c (.t (.tree p1.length 1 (Ri64 p1)))), (6, .c (.ref 0 1 0 x11.length)), (24, .c (.t (.tree p0.length 1 (Ri64 p0)))), (25, .c (.t (.v (.int .i64 ((p0.length : Nat) : Int))))), (26, .c (.t (.v (.int .i64 x8))))], [(0, .row 3 false 1 x11.length (Ri64 x11))], 1⟩
              refine AW.thenQ_normal ?_
              refine AW.reg tt_ok1 [1, 6, 24, 25, 26] [0] [] ⟨[(26, .c (.t (.v (.int .i64 (IntKind.i64.wrap (x8 + 1)))))), (1, .c (.t (.tree p1.length 1 (Ri64 p1)))), (6, .c (.ref 0 1 0 x11.length)), (24, .c (.t (.tree p0.length 1 (Ri64 p0)))), (25, .c (.t (.v (.int .i64 ((p0.length : Nat) : Int)))))], [(0, .row 3 false 1 x11.length (Ri64 x11))], 3⟩ [True, True] (by kernel_rfl) (by kernel_rfl) ⟨trivial, trivial, trivial⟩ ?_
              obtain rfl := some_inj h
              refine loopQ_next (conv_ren [(0, 0)] [1, 6, 24, 25, 26] (n := 1) (by kernel_rfl) (by kernel_rfl))
            ·
              refine AW.block ?_
              refine AW.seq ?_
              obtain ⟨g12, h⟩ := ifc h
              obtain ⟨g13, h⟩ := ifc h
              refine AW.reg tt_ok1 [1, 6, 7, 8, 24, 25, 26] [0] [] ⟨[(8, .c (.t (.v (.int .i64 (p0.getD x8.toNat 0))))), (7, .c (.t (.v (.int .i64 x8)))), (1, .c (.t (.tree p1.length 1 (Ri64 p1)))), (6, .c (.ref 0 1 0 x7.length)), (24, .c (.t (.tree p0.length 1 (Ri64 p0)))), (25, .c (.t (.v (.int .i64 ((p0.length : Nat) : Int))))), (26, .c (.t (.v (.int .i64 x8))))], [(0, .row 3 false 1 x7.length (Ri64 x7))], 7⟩ [True, (0 ≤ x8) ∧ (x8 < ((p0.length : Nat) : Int)), True, True, True] (by kernel_rfl) (by kernel_rfl) ⟨trivial, ⟨g12, g13⟩, trivial, trivial, trivial, trivial⟩ ?_
              refine AW.thenQ_normal ?_
              refine AW.seq ?_
              obtain ⟨g14, h⟩ := ifc h
              refine AW.reg tt_ok1 [1, 6, 7, 8, 9, 24, 25, 26] [0] [] ⟨[(9, .c (.t (.v (.int .i64 (p1.getD x8.toNat 0))))), (8, .c (.t (.v (.int .i64 (p0.getD x8.toNat 0))))), (7, .c (.t (.v (.int .i64 x8)))), (1, .c (.t (.tree p1.length 1 (Ri64 p1)))), (6, .c (.ref 0 1 0 x7.length)), (24, .c (.t (.tree p0.length 1 (Ri64 p0)))), (25, .c (.t (.v (.int .i64 ((p0.length : Nat) : Int))))), (26, .c (.t (.v (.int .i64 x8))))], [(0, .row 3 false 1 x7.length (Ri64 x7))], 12⟩ [True, True, (0 ≤ x8) ∧ (x8 < ((p1.length : Nat) : Int)), True, True] (by kernel_rfl) (by kernel_rfl) ⟨trivial, trivial, ⟨g12, g14⟩, trivial, trivial, trivial⟩ ?_
              refine AW.thenQ_normal ?_
              refine AW.seq ?_
              refine AW.seq ?_
              refine AW.join (ι := Bool) (fun v => ⟨[(1, .c (.t (.tree p1.length 1 (Ri64 p1)))), (6, .c (.ref 0 1 0 x7.length)), (7, .c (.t (.v (.int .i64 x8)))), (8, .c (.t (.v (.int .i64 (p0.getD x8.toNat 0))))), (9, .c (.t (.v (.int .i64 (p1.getD x8.toNat 0))))), (24, .c (.t (.tree p0.length 1 (Ri64 p0)))), (25, .c (.t (.v (.int .i64 ((p0.length : Nat) : Int))))), (26, .c (.t (.v (.int .i64 x8)))), (48, .c (.t (.v (.bool v))))], [(0, .row 3 false 1 x7.length (Ri64 x7))], 1⟩) (fun v : Bool => similarity_Pattern_k80 p0 p1 x7 x8 v = some o) (fun v h => ?_) ?_
              ·
                obtain ⟨x15, rfl⟩ : ∃ x, x = v := ⟨_, rfl⟩
                replace h : similarity_Pattern_k80 p0 p1 x7 x8 x15 = some o := h
                unfold similarity_Pattern_k80 at h
                show (_ : Exit → St → Prop) .normal ⟨[(1, .c (.t (.tree p1.length 1 (Ri64 p1)))), (6, .c (.ref 0 1 0 x7.length)), (7, .c (.t (.v (.int .i64 x8)))), (8, .c (.t (.v (.int .i64 (p0.getD x8.toNat 0))))), (9, .c (.t (.v (.int .i64 (p1.getD x8.toNat 0))))), (24, .c (.t (.tree p0.length 1 (Ri64 p0)))), (25, .c (.t (.v (.int .i64 ((p0.length : Nat) : Int))))), (26, .c (.t (.v (.int .i64 x8)))), (48, .c (.t (.v (.bool x15))))], [(0, .row 3 false 1 x7.length (Ri64 x7))], 1⟩
                refine AW.thenQ_normal ?_
                refine AW.cond (b := x15) (by kernel_rfl) (fun c16 => ?_) (fun c16 => ?_)
                · rw [if_pos c16] at h
                  refine AW.seq ?_
                  refine AW.reg tt_ok1 [4, 5] [] [] ⟨[(5, .c (.t (.v (.int .i64 2)))), (4, .c (.t (.v (.int .i64 0))))], [], 3⟩ [True, True] (by kernel_rfl) (by kernel_rfl) ⟨trivial, trivial, trivial⟩ ?_
                  refine AW.thenQ_normal ?_
                  refine AW.ret ?_
                  refine AW.thenQ_ret ?_
                  refine AW.inBlock_ret ?_
                  refine joinQ_ret ?_
                  refine AW.thenQ_ret ?_
                  obtain rfl := some_inj h
                  refine loopQ_out rfl (conv_ren [] [4, 5] (n := 0) (by kernel_rfl) (by kernel_rfl))
                · rw [if_neg (by rw [c16]; exact Bool.false_ne_true)] at h
                  refine AW.skip ?_
                  refine AW.thenQ_normal ?_
                  refine AW.block ?_
                  refine AW.seq ?_
                  refine AW.reg tt_ok1 [1, 6, 7, 8, 9, 24, 25, 26, 52] [0] [] ⟨[(52, .c (.t (.v (.bool (decide ((p1.getD x8.toNat 0) < 0)))))), (1, .c (.t (.tree p1.length 1 (Ri64 p1)))), (6, .c (.ref 0 1 0 x7.length)), (7, .c (.t (.v (.int .i64 x8)))), (8, .c (.t (.v (.int .i64 (p0.getD x8.toNat 0))))), (9, .c (.t (.v (.int .i64 (p1.getD x8.toNat 0))))), (24, .c (.t (.tree p0.length 1 (Ri64 p0)))), (25, .c (.t (.v (.int .i64 ((p0.length : Nat) : Int))))), (26, .c (.t (.v (.int .i64 x8))))], [(0, .row 3 false 1 x7.length (Ri64 x7))], 4⟩ [True, True, True] (by kernel_rfl) (by kernel_rfl) ⟨trivial, trivial, trivial, trivial⟩ ?_
                  refine AW.thenQ_normal ?_
                  refine AW.cond (b := decide ((p1.getD x8.toNat 0) < 0)) (by kernel_rfl) (fun c17 => ?_) (fun c17 => ?_)
                  · rw [if_pos c17] at h
                    obtain ⟨g18, h⟩ := ifc h
                    refine AW.reg tt_ok1 [1, 6, 24, 25, 26] [0] [{}, {}, {}, { h := { row := some (x7.length, Ri64 (x7.set (0 + x8.toNat) 0)) } }] ⟨[(1, .c (.t (.tree p1.length 1 (Ri64 p1)))), (6, .c (.ref 0 1 0 x7.length)), (24, .c (.t (.tree p0.length 1 (Ri64 p0)))), (25, .c (.t (.v (.int .i64 ((p0.length : Nat) : Int))))), (26, .c (.t (.v (.int .i64 x8))))], [(0, .row 3 false 1 x7.length (Ri64 (x7.set (0 + x8.toNat) 0)))], 8⟩ [True, True, (0 ≤ x8) ∧ (x8 < ((x7.length : Nat) : Int)), ((0 + x8.toNat) < x7.length) ∧ (x7.length = x7.length ∧ ∀ i, i < x7.length → ∀ j, j < 1 → updRow (Ri64 x7) (0 + x8.toNat) 0 [.v (.int .i64 0)] i j = Ri64 (x7.set (0 + x8.toNat) 0) i j)] (by kernel_rfl) (by kernel_rfl) ⟨trivial, trivial, ⟨g12, g18⟩, ⟨(by have h1 : 0 ≤ x8 := g12; have h2 : x8 < ((x7.length : Nat) : Int) := g18; omega), set_rowN rfl (by have h1 : 0 ≤ x8 := g12; have h2 : x8 < ((x7.length : Nat) : Int) := g18; omega) (fun j hj => match j, hj with | 0, _ => rfl | _ + 1, h => absurd h (by omega))⟩, trivial⟩ ?_
                    refine AW.inBlock_normal ?_
                    refine AW.inBlock_normal ?_
                    exact joinQ_leaf ((x7.set (0 + x8.toNat) 0)) h (Conv.trans (conv_len (S' := ⟨[(1, .c (.t (.tree p1.length 1 (Ri64 p1)))), (6, .c (.ref 0 1 0 ((x7.set (0 + x8.toNat) 0).length))), (24, .c (.t (.tree p0.length 1 (Ri64 p0)))), (25, .c (.t (.v (.int .i64 ((p0.length : Nat) : Int))))), (26, .c (.t (.v (.int .i64 x8))))], [(0, .row 3 false 1 (x7.set (0 + x8.toNat) 0).length (Ri64 (x7.set (0 + x8.toNat) 0)))], 8⟩) (by simp only [List.length_set])) (conv_ren [(0, 0)] [1, 6, 24, 25, 26] (n := 1) (by kernel_rfl) (by kernel_rfl)))
                  · rw [if_neg (by rw [c17]; exact Bool.false_ne_true)] at h
                    refine AW.seq ?_
                    refine AW.reg tt_ok1 [1, 6, 7, 24, 25, 26, 58] [0] [] ⟨[(58, .c (.t (.v (.bool (decide ((p1.getD x8.toNat 0) < (p0.getD x8.toNat 0))))))), (1, .c (.t (.tree p1.length 1 (Ri64 p1)))), (6, .c (.ref 0 1 0 x7.length)), (7, .c (.t (.v (.int .i64 x8)))), (24, .c (.t (.tree p0.length 1 (Ri64 p0)))), (25, .c (.t (.v (.int .i64 ((p0.length : Nat) : Int))))), (26, .c (.t (.v (.int .i64 x8))))], [(0, .row 3 false 1 x7.length (Ri64 x7))], 8⟩ [True, True, True, True] (by kernel_rfl) (by kernel_rfl) ⟨trivial, trivial, trivial, trivial, trivial⟩ ?_
                    refine AW.thenQ_normal ?_
                    refine AW.cond (b := decide ((p1.getD x8.toNat 0) < (p0.getD x8.toNat 0))) (by kernel_rfl) (fun c19 => ?_) (fun c19 => ?_)
                    · rw [if_pos c19] at h
                      obtain ⟨g20, h⟩ := ifc h
                      refine AW.reg tt_ok1 [1, 6, 24, 25, 26] [0] [{}, {}, {}, { h := { row := some (x7.length, Ri64 (x7.set (0 + x8.toNat) 1)) } }] ⟨[(1, .c (.t (.tree p1.length 1 (Ri64 p1)))), (6, .c (.ref 0 1 0 x7.length)), (24, .c (.t (.tree p0.length 1 (Ri64 p0)))), (25, .c (.t (.v (.int .i64 ((p0.length : Nat) : Int))))), (26, .c (.t (.v (.int .i64 x8))))], [(0, .row 3 false 1 x7.length (Ri64 (x7.set (0 + x8.toNat) 1)))], 12⟩ [True, True, (0 ≤ x8) ∧ (x8 < ((x7.length : Nat) : Int)), ((0 + x8.toNat) < x7.length) ∧ (x7.length = x7.length ∧ ∀ i, i < x7.length → ∀ j, j < 1 → updRow (Ri64 x7) (0 + x8.toNat) 0 [.v (.int .i64 1)] i j = Ri64 (x7.set (0 + x8.toNat) 1) i j)] (by kernel_rfl) (by kernel_rfl) ⟨trivial, trivial, ⟨g12, g20⟩, ⟨(by have h1 : 0 ≤ x8 := g12; have h2 : x8 < ((x7.length : Nat) : Int) := g20; omega), set_rowN rfl (by have h1 : 0 ≤ x8 := g12; have h2 : x8 < ((x7.length : Nat) : Int) := g20; omega) (fun j hj => match j, hj with | 0, _ => rfl | _ + 1, h => absurd h (by omega))⟩, trivial⟩ ?_
                      refine AW.inBlock_normal ?_
                      refine AW.inBlock_normal ?_
                      exact joinQ_leaf ((x7.set (0 + x8.toNat) 1)) h (Conv.trans (conv_len (S' := ⟨[(1, .c (.t (.tree p1.length 1 (Ri64 p1)))), (6, .c (.ref 0 1 0 ((x7.set (0 + x8.toNat) 1).length))), (24, .c (.t (.tree p0.length 1 (Ri64 p0)))), (25, .c (.t (.v (.int .i64 ((p0.length : Nat) : Int))))), (26, .c (.t (.v (.int .i64 x8))))], [(0, .row 3 false 1 (x7.set (0 + x8.toNat) 1).length (Ri64 (x7.set (0 + x8.toNat) 1)))], 12⟩) (by simp only [List.length_set])) (conv_ren [(0, 0)] [1, 6, 24, 25, 26] (n := 1) (by kernel_rfl) (by kernel_rfl)))
                    · rw [if_neg (by rw [c19]; exact Bool.false_ne_true)] at h
                      obtain ⟨g21, h⟩ := ifc h
                      refine AW.reg tt_ok1 [1, 6, 24, 25, 26] [0] [{}, {}, {}, { h := { row := some (x7.length, Ri64 (x7.set (0 + x8.toNat) 2)) } }] ⟨[(1, .c (.t (.tree p1.length 1 (Ri64 p1)))), (6, .c (.ref 0 1 0 x7.length)), (24, .c (.t (.tree p0.length 1 (Ri64 p0)))), (25, .c (.t (.v (.int .i64 ((p0.length : Nat) : Int))))), (26, .c (.t (.v (.int .i64 x8))))], [(0, .row 3 false 1 x7.length (Ri64 (x7.set (0 + x8.toNat) 2)))], 12⟩ [True, True, (0 ≤ x8) ∧ (x8 < ((x7.length : Nat) : Int)), ((0 + x8.toNat) < x7.length) ∧ (x7.length = x7.length ∧ ∀ i, i < x7.length → ∀ j, j < 1 → updRow (Ri64 x7) (0 + x8.toNat) 0 [.v (.int .i64 2)] i j = Ri64 (x7.set (0 + x8.toNat) 2) i j)] (by kernel_rfl) (by kernel_rfl) ⟨trivial, trivial, ⟨g12, g21⟩, ⟨(by have h1 : 0 ≤ x8 := g12; have h2 : x8 < ((x7.length : Nat) : Int) := g21; omega), set_rowN rfl (by have h1 : 0 ≤ x8 := g12; have h2 : x8 < ((x7.length : Nat) : Int) := g21; omega) (fun j hj => match j, hj with | 0, _ => rfl | _ + 1, h => absurd h (by omega))⟩, trivial⟩ ?_
                      refine AW.inBlock_normal ?_
                      refine AW.inBlock_normal ?_
                      exact joinQ_leaf ((x7.set (0 + x8.toNat) 2)) h (Conv.trans (conv_len (S' := ⟨[(1, .c (.t (.tree p1.length 1 (Ri64 p1)))), (6, .c (.ref 0 1 0 ((x7.set (0 + x8.toNat) 2).length))), (24, .c (.t (.tree p0.length 1 (Ri64 p0)))), (25, .c (.t (.v (.int .i64 ((p0.length : Nat) : Int))))), (26, .c (.t (.v (.int .i64 x8))))], [(0, .row 3 false 1 (x7.set (0 + x8.toNat) 2).length (Ri64 (x7.set (0 + x8.toNat) 2)))], 12⟩) (by simp only [List.length_set])) (conv_ren [(0, 0)] [1, 6, 24, 25, 26] (n := 1) (by kernel_rfl) (by kernel_rfl)))
              ·
                by_cases c22 : (decide ((p0.getD x8.toNat 0) < 0)) = true
                · rw [if_pos c22] at h
                  refine AW.reg tt_ok1 [1, 6, 7, 8, 9, 24, 25, 26, 48] [0] [{}, { h := { b := some true } }] ⟨[(48, .c (.t (.v (.bool true)))), (9, .c (.t (.v (.int .i64 (p1.getD x8.toNat 0))))), (8, .c (.t (.v (.int .i64 (p0.getD x8.toNat 0))))), (7, .c (.t (.v (.int .i64 x8)))), (1, .c (.t (.tree p1.length 1 (Ri64 p1)))), (6, .c (.ref 0 1 0 x7.length)), (24, .c (.t (.tree p0.length 1 (Ri64 p0)))), (25, .c (.t (.v (.int .i64 ((p0.length : Nat) : Int))))), (26, .c (.t (.v (.int .i64 x8))))], [(0, .row 3 false 1 x7.length (Ri64 x7))], 26⟩ [True, (decide ((p0.getD x8.toNat 0) < 0)) = true, True, True, True, True, True, True, True, True, True, True, True, True] (by kernel_rfl) (by kernel_rfl) ⟨trivial, c22, trivial, trivial, trivial, trivial, trivial, trivial, trivial, trivial, trivial, trivial, trivial, trivial, trivial⟩ ?_
                  exact joinQ_leaf (true) h (conv_ren [(0, 0)] [1, 6, 7, 8, 9, 24, 25, 26, 48] (n := 1) (by kernel_rfl) (by kernel_rfl))
                · rw [if_neg c22] at h
                  by_cases c23 : (decide ((p0.getD x8.toNat 0) > 1000)) = true
                  · rw [if_pos c23] at h
                    refine AW.reg tt_ok1 [1, 6, 7, 8, 9, 24, 25, 26, 38, 39, 48] [0] [{}, { h := { b := some false } }, {}, {}, { h := { b := some true } }] ⟨[(48, .c (.t (.v (.bool true)))), (39, .c (.t (.v (.bool true)))), (38, .c (.t (.v (.int .i64 (p0.getD x8.toNat 0))))), (9, .c (.t (.v (.int .i64 (p1.getD x8.toNat 0))))), (8, .c (.t (.v (.int .i64 (p0.getD x8.toNat 0))))), (7, .c (.t (.v (.int .i64 x8)))), (1, .c (.t (.tree p1.length 1 (Ri64 p1)))), (6, .c (.ref 0 1 0 x7.length)), (24, .c (.t (.tree p0.length 1 (Ri64 p0)))), (25, .c (.t (.v (.int .i64 ((p0.length : Nat) : Int))))), (26, .c (.t (.v (.int .i64 x8))))], [(0, .row 3 false 1 x7.length (Ri64 x7))], 26⟩ [True, (decide ((p0.getD x8.toNat 0) < 0)) = false, True, True, (decide ((p0.getD x8.toNat 0) > 1000)) = true, True, True, True, True, True, True, True, True, True] (by kernel_rfl) (by kernel_rfl) ⟨trivial, (off_false c22), trivial, trivial, c23, trivial, trivial, trivial, trivial, trivial, trivial, trivial, trivial, trivial, trivial⟩ ?_
                    exact joinQ_leaf (true) h (conv_ren [(0, 0)] [1, 6, 7, 8, 9, 24, 25, 26, 48] (n := 1) (by kernel_rfl) (by kernel_rfl))
                  · rw [if_neg c23] at h
                    by_cases c24 : (decide ((p1.getD x8.toNat 0) < (-1))) = true
                    · rw [if_pos c24] at h
                      refine AW.reg tt_ok1 [1, 6, 7, 8, 9, 24, 25, 26, 38, 39, 42, 43, 48] [0] [{}, { h := { b := some false } }, {}, {}, { h := { b := some false } }, {}, {}, {}, { h := { b := some true } }] ⟨[(48, .c (.t (.v (.bool true)))), (43, .c (.t (.v (.bool true)))), (42, .c (.t (.v (.int .i64 (p1.getD x8.toNat 0))))), (39, .c (.t (.v (.bool false)))), (38, .c (.t (.v (.int .i64 (p0.getD x8.toNat 0))))), (9, .c (.t (.v (.int .i64 (p1.getD x8.toNat 0))))), (8, .c (.t (.v (.int .i64 (p0.getD x8.toNat 0))))), (7, .c (.t (.v (.int .i64 x8)))), (1, .c (.t (.tree p1.length 1 (Ri64 p1)))), (6, .c (.ref 0 1 0 x7.length)), (24, .c (.t (.tree p0.length 1 (Ri64 p0)))), (25, .c (.t (.v (.int .i64 ((p0.length : Nat) : Int))))), (26, .c (.t (.v (.int .i64 x8))))], [(0, .row 3 false 1 x7.length (Ri64 x7))], 26⟩ [True, (decide ((p0.getD x8.toNat 0) < 0)) = false, True, True, (decide ((p0.getD x8.toNat 0) > 1000)) = false, True, True, True, (decide ((p1.getD x8.toNat 0) < (-1))) = true, True, True, True, True, True] (by kernel_rfl) (by kernel_rfl) ⟨trivial, (off_false c22), trivial, trivial, (off_false c23), trivial, trivial, trivial, c24, trivial, trivial, trivial, trivial, trivial, trivial⟩ ?_
                      exact joinQ_leaf (true) h (conv_ren [(0, 0)] [1, 6, 7, 8, 9, 24, 25, 26, 48] (n := 1) (by kernel_rfl) (by kernel_rfl))
                    · rw [if_neg c24] at h
                      refine AW.reg tt_ok1 [1, 6, 7, 8, 9, 24, 25, 26, 38, 39, 42, 43, 46, 47, 48] [0] [{}, { h := { b := some false } }, {}, {}, { h := { b := some false } }, {}, {}, {}, { h := { b := some false } }] ⟨[(48, .c (.t (.v (.bool (decide ((p1.getD x8.toNat 0) > 1000)))))), (47, .c (.t (.v (.bool (decide ((p1.getD x8.toNat 0) > 1000)))))), (46, .c (.t (.v (.int .i64 (p1.getD x8.toNat 0))))), (43, .c (.t (.v (.bool false)))), (42, .c (.t (.v (.int .i64 (p1.getD x8.toNat 0))))), (39, .c (.t (.v (.bool false)))), (38, .c (.t (.v (.int .i64 (p0.getD x8.toNat 0))))), (9, .c (.t (.v (.int .i64 (p1.getD x8.toNat 0))))), (8, .c (.t (.v (.int .i64 (p0.getD x8.toNat 0))))), (7, .c (.t (.v (.int .i64 x8)))), (1, .c (.t (.tree p1.length 1 (Ri64 p1)))), (6, .c (.ref 0 1 0 x7.length)), (24, .c (.t (.tree p0.length 1 (Ri64 p0)))), (25, .c (.t (.v (.int .i64 ((p0.length : Nat) : Int))))), (26, .c (.t (.v (.int .i64 x8))))], [(0, .row 3 false 1 x7.length (Ri64 x7))], 26⟩ [True, (decide ((p0.getD x8.toNat 0) < 0)) = false, True, True, (decide ((p0.getD x8.toNat 0) > 1000)) = false, True, True, True, (decide ((p1.getD x8.toNat 0) < (-1))) = false, True, True, True, True, True] (by kernel_rfl) (by kernel_rfl) ⟨trivial, (off_false c22), trivial, trivial, (off_false c23), trivial, trivial, trivial, (off_false c24), trivial, trivial, trivial, trivial, trivial, trivial⟩ ?_
                      exact joinQ_leaf (decide ((p1.getD x8.toNat 0) > 1000)) h (conv_ren [(0, 0)] [1, 6, 7, 8, 9, 24, 25, 26, 48] (n := 1) (by kernel_rfl) (by kernel_rfl))
          · rw [if_neg (by rw [c10]; exact Bool.false_ne_true)] at h
            refine AW.exit ?_
            refine AW.thenQ_exit ?_
            obtain rfl := some_inj h
            refine loopQ_out rfl (conv_ren [(0, 0)] [6] (n := 1) (by kernel_rfl) (by kernel_rfl))
        ·
          show (_ : Exit → St → Prop) (.ret) ⟨[(4, .c (.t (.v (.int .i64 0)))), (5, .c (.t (.v (.int .i64 2))))], [], 0⟩
          refine AW.inBlock_ret ?_
          refine AW.thenQ_ret ?_
          obtain rfl := some_inj h
          exact ⟨.inr rfl, OutOk.mk [] 0 (out0 := .tup [.c (.t (.v (.int .i64 0))), .c (.t (.v (.int .i64 2)))]) (ps := [True, True]) (by kernel_rfl) ⟨trivial, trivial, trivial⟩ (by kernel_rfl) (by kernel_rfl)⟩
  ·
    by_cases c30 : (((p0.length : Nat) : Int) != ((p1.length : Nat) : Int)) = true
    · rw [if_pos c30] at h
      refine AW.reg tt_ok1 [0, 1, 20] [] [{}, {}, {}, {}, { h := { b := some true } }] ⟨[(20, .c (.t (.v (.bool true)))), (0, .c (.t (.tree p0.length 1 (Ri64 p0)))), (1, .c (.t (.tree p1.length 1 (Ri64 p1))))], [], 13⟩ [True, True, True, True, (((p0.length : Nat) : Int) != ((p1.length : Nat) : Int)) = true, True, True, True, True, True, True] (by kernel_rfl) (by kernel_rfl) ⟨trivial, trivial, trivial, trivial, c30, trivial, trivial, trivial, trivial, trivial, trivial, trivial⟩ ?_
      exact joinQ_leaf (true) h (conv_ren [] [0, 1, 20] (n := 0) (by kernel_rfl) (by kernel_rfl))
    · rw [if_neg c30] at h
      obtain ⟨y31, e32, h⟩ := bnd_some h
      refine AW.reg tt_ok1 [0, 1, 20] [] [{}, {}, {}, {}, { h := { b := some false } }, {}, {}, {}, { call := some { ids := [], frz := [], flat := true, cnt := 0, args := [.c (.t (.v (.int .i64 ((p0.length : Nat) : Int))))], out := .c (.t (.v (.bool y31))), outb := [] } }] ⟨[(20, .c (.t (.v (.bool (!y31))))), (0, .c (.t (.tree p0.length 1 (Ri64 p0)))), (1, .c (.t (.tree p1.length 1 (Ri64 p1))))], [], 12⟩ [True, True, True, True, (((p0.length : Nat) : Int) != ((p1.length : Nat) : Int)) = false, True, True, True, ((True) ∧ (True)) ∧ (All2 ArgLe [.c (.t (.v (.int .i64 ((p0.length : Nat) : Int))))] [.c (.t (.v (.int .i64 ((p0.length : Nat) : Int))))]) ∧ ((true = true → flatB [])) ∧ (Con Try.prog 56 [.c (.t (.v (.int .i64 ((p0.length : Nat) : Int))))] [] (.c (.t (.v (.bool y31)))) []), True, True] (by kernel_rfl) (by kernel_rfl) ⟨trivial, trivial, trivial, trivial, (off_false c30), trivial, trivial, trivial, ⟨⟨trivial, trivial⟩, ⟨ArgLe.refl _, trivial⟩, (fun _ => trivial), (similarity_fields_con ((p0.length : Nat) : Int) y31 e32)⟩, trivial, trivial, trivial⟩ ?_
      exact joinQ_leaf (!y31) h (conv_ren [] [0, 1, 20] (n := 0) (by kernel_rfl) (by kernel_rfl))
/-! (*recordlink/recordlinkmake.Deck).One -/
noncomputable def rl_make_Deck_One (p0 : S_recordlinkmake_Deck) (p1 : Int) : Option (Bool × S_recordlinkmake_Deck) := bind2 (rl_make_Deck_Next p0 p1) fun y1 y2 => (some ((y1 == 0), y2))
set_option maxRecDepth 100000 in
theorem rl_make_Deck_One_con (p0 : S_recordlinkmake_Deck) (p1 : Int) (r0 : Bool) (r1 : S_recordlinkmake_Deck) (h : rl_make_Deck_One p0 p1 = some (r0, r1)) : Con Try.prog 34 [.c (.ptr 0 3 0 0), .c (.t (.v (.int .i64 p1)))] [(0, .box 66 [.t (.tree p0.list.length 1 (Ri64 p0.list)), .t (.v (.int .i64 p0.at_)), .t (.v (.int .u64 p0.state))])] (.c (.t (.v (.bool r0)))) [(0, .box 66 [.t (.tree r1.list.length 1 (Ri64 r1.list)), .t (.v (.int .i64 r1.at_)), .t (.v (.int .u64 r1.state))])] := by
  suffices H : ∀ r, rl_make_Deck_One p0 p1 = some r → Con Try.prog 34 [.c (.ptr 0 3 0 0), .c (.t (.v (.int .i64 p1)))] [(0, .box 66 [.t (.tree p0.list.length 1 (Ri64 p0.list)), .t (.v (.int .i64 p0.at_)), .t (.v (.int .u64 p0.state))])] (.c (.t (.v (.bool r.1)))) [(0, .box 66 [.t (.tree r.2.list.length 1 (Ri64 r.2.list)), .t (.v (.int .i64 r.2.at_)), .t (.v (.int .u64 r.2.state))])] from H (r0, r1) h
  clear h
  intro r h
  refine con_of tt_ok1 1 Try.func34 (by kernel_rfl) rfl (by kernel_rfl) (fun base X hk => ?_)
  unfold rl_make_Deck_One at h
  refine AW.seq ?_
  refine AW.reg tt_ok1 [0, 1] [0] [] ⟨[(0, .c (.ptr 0 3 0 0)), (1, .c (.t (.v (.int .i64 p1))))], [(0, .box 66 [.t (.tree p0.list.length 1 (Ri64 p0.list)), .t (.v (.int .i64 p0.at_)), .t (.v (.int .u64 p0.state))])], 2⟩ [True] (by kernel_rfl) (by kernel_rfl) ⟨trivial, trivial⟩ ?_
  refine AW.thenQ_normal ?_
  refine AW.seq ?_
  obtain ⟨y1, y2, e3, h⟩ := bind2_some h
  refine AW.reg tt_ok1 [4] [0] [{}, {}, { call := some { ids := [0], frz := [], flat := false, cnt := 0, args := [.c (.ptr 0 3 0 0), .c (.t (.v (.int .i64 p1)))], out := .c (.t (.v (.int .i64 y1))), outb := [(0, .box 66 [.t (.tree y2.list.length 1 (Ri64 y2.list)), .t (.v (.int .i64 y2.at_)), .t (.v (.int .u64 y2.state))])] } }] ⟨[(4, .c (.t (.v (.bool (y1 == 0)))))], [(0, .box 66 [.t (.tree y2.list.length 1 (Ri64 y2.list)), .t (.v (.int .i64 y2.at_)), .t (.v (.int .u64 y2.state))])], 6⟩ [True, True, ((True) ∧ (True) ∧ (True)) ∧ (All2 ArgLe [.c (.ptr 0 3 0 0), .c (.t (.v (.int .i64 p1)))] [.c (.ptr 0 3 0 0), .c (.t (.v (.int .i64 p1)))]) ∧ ((false = true → flatB [(0, .box 66 [.t (.tree y2.list.length 1 (Ri64 y2.list)), .t (.v (.int .i64 y2.at_)), .t (.v (.int .u64 y2.state))])])) ∧ (Con Try.prog 16 [.c (.ptr 0 3 0 0), .c (.t (.v (.int .i64 p1)))] [(0, .box 66 [.t (.tree p0.list.length 1 (Ri64 p0.list)), .t (.v (.int .i64 p0.at_)), .t (.v (.int .u64 p0.state))])] (.c (.t (.v (.int .i64 y1)))) [(0, .box 66 [.t (.tree y2.list.length 1 (Ri64 y2.list)), .t (.v (.int .i64 y2.at_)), .t (.v (.int .u64 y2.state))])]), True, True] (by kernel_rfl) (by kernel_rfl) ⟨trivial, trivial, ⟨⟨trivial, trivial, trivial⟩, ⟨ArgLe.refl _, ArgLe.refl _, trivial⟩, (fun h => by cases h), (rl_make_Deck_Next_con p0 p1 y1 y2 e3)⟩, trivial, trivial, trivial⟩ ?_
  refine AW.thenQ_normal ?_
  refine AW.ret ?_
  obtain rfl := some_inj h
  exact ⟨.inr rfl, OutOk.mk [(0, 0)] 1 (out0 := .c (.t (.v (.bool (y1 == 0))))) (ps := [True]) (by kernel_rfl) ⟨trivial, trivial⟩ (by kernel_rfl) (by kernel_rfl)⟩
/-! recordlink/recordlinkref09.Copy -/
noncomputable def rl_ref09_Copy (p0 : S_api_Bits) : Option S_api_Bits := if 0 + p0.Words.length ≤ 1099511627776 then (some (⟨p0.Length, (([] : List Int) ++ p0.Words)⟩ : S_api_Bits)) else none
set_option maxRecDepth 100000 in
theorem rl_ref09_Copy_con (p0 : S_api_Bits) (r0 : S_api_Bits) (h : rl_ref09_Copy p0 = some r0) : Con Try.prog 35 [.agg [.t (.v (.int .i64 p0.Length)), .t (.tree p0.Words.length 1 (Ru64 p0.Words))]] [] (.agg [.t (.v (.int .i64 r0.Length)), .ref 0 1 0 r0.Words.length]) [(0, .row 33 false 1 r0.Words.length (Ru64 r0.Words))] := by
  revert h; generalize r0 = r; intro h
  refine con_of tt_ok1 0 Try.func35 (by kernel_rfl) rfl (by kernel_rfl) (fun base X hk => ?_)
  unfold rl_ref09_Copy at h
  refine AW.seq ?_
  refine AW.reg tt_ok1 [1, 2] [0, 1] [] ⟨[(2, .c (.ptr 1 2 0 0)), (1, .c (.ptr 0 2 0 0))], [(1, .box 29 [.t (.v (.int .i64 0)), .t (.v (.slice none 0 0))]), (0, .box 29 [.t (.v (.int .i64 p0.Length)), .t (.tree p0.Words.length 1 (Ru64 p0.Words))])], 2⟩ [True, True] (by kernel_rfl) (by kernel_rfl) ⟨trivial, trivial, trivial⟩ ?_
  refine AW.thenQ_normal ?_
  refine AW.seq ?_
  obtain ⟨g1, h⟩ := ifc h
  refine AW.regD tt_ok1 mo1 [0, 1, 0, 4, 12, 31, 63] [[], [], [], [], [6], [], [1]] [2] [1, 6] [{}, {}, {}, {}, { h := { row := some ((([] : List Int) ++ p0.Words).length, Ru64 (([] : List Int) ++ p0.Words)) } }] ⟨[(2, .c (.ptr 1 2 0 0))], [(1, .box 29 [.t (.v (.int .i64 p0.Length)), .ref 6 1 0 ((([] : List Int) ++ p0.Words).length)]), (6, .row 33 false 1 (([] : List Int) ++ p0.Words).length (Ru64 (([] : List Int) ++ p0.Words)))], 9⟩ [True, True, True, True, (True) ∧ (True) ∧ ((0 + p0.Words.length ≤ 1099511627776) ∧ ((8 : Nat) ≤ 128)) ∧ (0 + p0.Words.length = (([] : List Int) ++ p0.Words).length ∧ ∀ i, i < (([] : List Int) ++ p0.Words).length → ∀ j, j < 1 → (appRow 0 (fun _ _ => .v undef) (Ru64 p0.Words)) i j = Ru64 (([] : List Int) ++ p0.Words) i j), True, True] (by kernel_rfl) (by kernel_rfl) ⟨trivial, trivial, trivial, trivial, ⟨trivial, trivial, ⟨g1, (by decide)⟩, app_row rfl rfl row_nil row_rfl⟩, trivial, trivial, trivial⟩ ?_
  refine AW.thenQ_normal ?_
  refine AW.ret ?_
  obtain rfl := some_inj h
  exact ⟨.inr rfl, OutOk.mk [(0, 6)] 1 (out0 := .agg [.t (.v (.int .i64 p0.Length)), .ref 6 1 0 ((([] : List Int) ++ p0.Words).length)]) (ps := [True]) (by kernel_rfl) ⟨trivial, trivial⟩ (by kernel_rfl) (by kernel_rfl)⟩
/-! recordlink/bitset.value -/
noncomputable def bitset_value_k8 (p0 : Int) (x3 : Bool) : Option (Int × Bool) := if x3 = true then (some (IntKind.u64.wrap ((IntKind.u64.wrap (IntKind.u8.wrap (p0 - 97))) + 10), true)) else (some (0, false))
noncomputable def bitset_value_k6 (p0 : Int) (x1 : Bool) : Option (Int × Bool) := if x1 = true then (some (IntKind.u64.wrap (IntKind.u8.wrap (p0 - 48)), true)) else (if (decide (p0 ≥ 97)) = true then (bitset_value_k8 p0 (decide (p0 ≤ 102))) else (bitset_value_k8 p0 false))
noncomputable def bitset_value (p0 : Int) : Option (Int × Bool) := if (decide (p0 ≥ 48)) = true then (bitset_value_k6 p0 (decide (p0 ≤ 57))) else (bitset_value_k6 p0 false)
set_option maxRecDepth 100000 in
theorem bitset_value_con (p0 : Int) (r0 : Int) (r1 : Bool) (h : bitset_value p0 = some (r0, r1)) : Con Try.prog 62 [.c (.t (.v (.int .u8 p0)))] [] (.tup [.c (.t (.v (.int .u64 r0))), .c (.t (.v (.bool r1)))]) [] := by
  suffices H : ∀ r, bitset_value p0 = some r → Con Try.prog 62 [.c (.t (.v (.int .u8 p0)))] [] (.tup [.c (.t (.v (.int .u64 r.1))), .c (.t (.v (.bool r.2)))]) [] from H (r0, r1) h
  clear h
  intro r h
  refine con_of tt_ok1 0 Try.func62 (by kernel_rfl) rfl (by kernel_rfl) (fun base X hk => ?_)
  unfold bitset_value at h
  refine AW.seq ?_
  refine AW.reg tt_ok1 [0] [] [] ⟨[(0, .c (.t (.v (.int .u8 p0))))], [], 2⟩ [True, True] (by kernel_rfl) (by kernel_rfl) ⟨trivial, trivial, trivial⟩ ?_
  refine AW.thenQ_normal ?_
  refine AW.seq ?_
  refine AW.block ?_
  refine AW.seq ?_
  refine AW.join (ι := Bool) (fun v => ⟨[(0, .c (.t (.v (.int .u8 p0)))), (4, .c (.t (.v (.bool v))))], [], 0⟩) (fun v : Bool => bitset_value_k6 p0 v = some r) (fun v h => ?_) ?_
  ·
    obtain ⟨x1, rfl⟩ : ∃ x, x = v := ⟨_, rfl⟩
    replace h : bitset_value_k6 p0 x1 = some r := h
    unfold bitset_value_k6 at h
    show (_ : Exit → St → Prop) .normal ⟨[(0, .c (.t (.v (.int .u8 p0)))), (4, .c (.t (.v (.bool x1))))], [], 0⟩
    refine AW.thenQ_normal ?_
    refine AW.cond (b := x1) (by kernel_rfl) (fun c2 => ?_) (fun c2 => ?_)
    · rw [if_pos c2] at h
      refine AW.seq ?_
      refine AW.reg tt_ok1 [2, 3] [] [] ⟨[(3, .c (.t (.v (.bool true)))), (2, .c (.t (.v (.int .u64 (IntKind.u64.wrap (IntKind.u8.wrap (p0 - 48)))))))], [], 5⟩ [True, True, True, True, True] (by kernel_rfl) (by kernel_rfl) ⟨trivial, trivial, trivial, trivial, trivial, trivial⟩ ?_
      refine AW.thenQ_normal ?_
      refine AW.ret ?_
      refine AW.inBlock_ret ?_
      refine AW.thenQ_ret ?_
      obtain rfl := some_inj h
      exact ⟨.inr rfl, OutOk.mk [] 0 (out0 := .tup [.c (.t (.v (.int .u64 (IntKind.u64.wrap (IntKind.u8.wrap (p0 - 48)))))), .c (.t (.v (.bool true)))]) (ps := [True, True]) (by kernel_rfl) ⟨trivial, trivial, trivial⟩ (by kernel_rfl) (by kernel_rfl)⟩
    · rw [if_neg (by rw [c2]; exact Bool.false_ne_true)] at h
      refine AW.seq ?_
      refine AW.join (ι := Bool) (fun v => ⟨[(0, .c (.t (.v (.int .u8 p0)))), (14, .c (.t (.v (.bool v))))], [], 0⟩) (fun v : Bool => bitset_value_k8 p0 v = some r) (fun v h => ?_) ?_
      ·
        obtain ⟨x3, rfl⟩ : ∃ x, x = v := ⟨_, rfl⟩
        replace h : bitset_value_k8 p0 x3 = some r := h
        unfold bitset_value_k8 at h
        show (_ : Exit → St → Prop) .normal ⟨[(0, .c (.t (.v (.int .u8 p0)))), (14, .c (.t (.v (.bool x3))))], [], 0⟩
        refine AW.thenQ_normal ?_
        refine AW.cond (b := x3) (by kernel_rfl) (fun c4 => ?_) (fun c4 => ?_)
        · rw [if_pos c4] at h
          refine AW.seq ?_
          refine AW.reg tt_ok1 [2, 3] [] [] ⟨[(3, .c (.t (.v (.bool true)))), (2, .c (.t (.v (.int .u64 (IntKind.u64.wrap ((IntKind.u64.wrap (IntKind.u8.wrap (p0 - 97))) + 10))))))], [], 6⟩ [True, True, True, True, True, True] (by kernel_rfl) (by kernel_rfl) ⟨trivial, trivial, trivial, trivial, trivial, trivial, trivial⟩ ?_
          refine AW.thenQ_normal ?_
          refine AW.ret ?_
          refine AW.inBlock_ret ?_
          refine AW.thenQ_ret ?_
          obtain rfl := some_inj h
          exact ⟨.inr rfl, OutOk.mk [] 0 (out0 := .tup [.c (.t (.v (.int .u64 (IntKind.u64.wrap ((IntKind.u64.wrap (IntKind.u8.wrap (p0 - 97))) + 10))))), .c (.t (.v (.bool true)))]) (ps := [True, True]) (by kernel_rfl) ⟨trivial, trivial, trivial⟩ (by kernel_rfl) (by kernel_rfl)⟩
        · rw [if_neg (by rw [c4]; exact Bool.false_ne_true)] at h
          refine AW.skip ?_
          refine AW.inBlock_normal ?_
          refine AW.thenQ_normal ?_
          refine AW.seq ?_
          refine AW.reg tt_ok1 [2, 3] [] [] ⟨[(3, .c (.t (.v (.bool false)))), (2, .c (.t (.v (.int .u64 0))))], [], 2⟩ [True, True] (by kernel_rfl) (by kernel_rfl) ⟨trivial, trivial, trivial⟩ ?_
          refine AW.thenQ_normal ?_
          refine AW.ret ?_
          obtain rfl := some_inj h
          exact ⟨.inr rfl, OutOk.mk [] 0 (out0 := .tup [.c (.t (.v (.int .u64 0))), .c (.t (.v (.bool false)))]) (ps := [True, True]) (by kernel_rfl) ⟨trivial, trivial, trivial⟩ (by kernel_rfl) (by kernel_rfl)⟩
      ·
        by_cases c5 : (decide (p0 ≥ 97)) = true
        · rw [if_pos c5] at h
          refine AW.reg tt_ok1 [0, 14] [] [{}, { h := { b := some true } }] ⟨[(14, .c (.t (.v (.bool (decide (p0 ≤ 102)))))), (0, .c (.t (.v (.int .u8 p0))))], [], 7⟩ [True, (decide (p0 ≥ 97)) = true, True, True, True, True, True] (by kernel_rfl) (by kernel_rfl) ⟨trivial, c5, trivial, trivial, trivial, trivial, trivial, trivial⟩ ?_
          exact joinQ_leaf (decide (p0 ≤ 102)) h (conv_ren [] [0, 14] (n := 0) (by kernel_rfl) (by kernel_rfl))
        · rw [if_neg c5] at h
          refine AW.reg tt_ok1 [0, 14] [] [{}, { h := { b := some false } }] ⟨[(14, .c (.t (.v (.bool false)))), (0, .c (.t (.v (.int .u8 p0))))], [], 7⟩ [True, (decide (p0 ≥ 97)) = false, True, True, True, True, True] (by kernel_rfl) (by kernel_rfl) ⟨trivial, (off_false c5), trivial, trivial, trivial, trivial, trivial, trivial⟩ ?_
          exact joinQ_leaf (false) h (conv_ren [] [0, 14] (n := 0) (by kernel_rfl) (by kernel_rfl))
  ·
    by_cases c6 : (decide (p0 ≥ 48)) = true
    · rw [if_pos c6] at h
      refine AW.reg tt_ok1 [0, 4] [] [{}, { h := { b := some true } }] ⟨[(4, .c (.t (.v (.bool (decide (p0 ≤ 57)))))), (0, .c (.t (.v (.int .u8 p0))))], [], 9⟩ [True, (decide (p0 ≥ 48)) = true, True, True, True, True, True] (by kernel_rfl) (by kernel_rfl) ⟨trivial, c6, trivial, trivial, trivial, trivial, trivial, trivial⟩ ?_
      exact joinQ_leaf (decide (p0 ≤ 57)) h (conv_ren [] [0, 4] (n := 0) (by kernel_rfl) (by kernel_rfl))
    · rw [if_neg c6] at h
      refine AW.reg tt_ok1 [0, 4] [] [{}, { h := { b := some false } }] ⟨[(4, .c (.t (.v (.bool false)))), (0, .c (.t (.v (.int .u8 p0))))], [], 9⟩ [True, (decide (p0 ≥ 48)) = false, True, True, True, True, True] (by kernel_rfl) (by kernel_rfl) ⟨trivial, (off_false c6), trivial, trivial, trivial, trivial, trivial, trivial⟩ ?_
      exact joinQ_leaf (false) h (conv_ren [] [0, 4] (n := 0) (by kernel_rfl) (by kernel_rfl))
/-! recordlink/recordlinkref09.length -/
noncomputable def rl_ref09_length_k2 (x1 : Bool) : Option Bool := some x1
noncomputable def rl_ref09_length (p0 : Int) : Option Bool := if (decide (p0 ≥ 64)) = true then (if (decide (p0 ≤ 512)) = true then (rl_ref09_length_k2 ((p0.tmod 64) == 0)) else (rl_ref09_length_k2 false)) else (rl_ref09_length_k2 false)
set_option maxRecDepth 100000 in
theorem rl_ref09_length_con (p0 : Int) (r0 : Bool) (h : rl_ref09_length p0 = some r0) : Con Try.prog 67 [.c (.t (.v (.int .i64 p0)))] [] (.c (.t (.v (.bool r0)))) [] := by
  revert h; generalize r0 = r; intro h
  refine con_of tt_ok1 0 Try.func67 (by kernel_rfl) rfl (by kernel_rfl) (fun base X hk => ?_)
  unfold rl_ref09_length at h
  refine AW.seq ?_
  refine AW.reg tt_ok1 [0] [] [] ⟨[(0, .c (.t (.v (.int .i64 p0))))], [], 1⟩ [True] (by kernel_rfl) (by kernel_rfl) ⟨trivial, trivial⟩ ?_
  refine AW.thenQ_normal ?_
  refine AW.seq ?_
  refine AW.join (ι := Bool) (fun v => ⟨[(2, .c (.t (.v (.bool v))))], [], 0⟩) (fun v : Bool => rl_ref09_length_k2 v = some r) (fun v h => ?_) ?_
  ·
    obtain ⟨x1, rfl⟩ : ∃ x, x = v := ⟨_, rfl⟩
    replace h : rl_ref09_length_k2 x1 = some r := h
    unfold rl_ref09_length_k2 at h
    show (_ : Exit → St → Prop) .normal ⟨[(2, .c (.t (.v (.bool x1))))], [], 0⟩
    refine AW.thenQ_normal ?_
    refine AW.ret ?_
    obtain rfl := some_inj h
    exact ⟨.inr rfl, OutOk.mk [] 0 (out0 := .c (.t (.v (.bool x1)))) (ps := [True]) (by kernel_rfl) ⟨trivial, trivial⟩ (by kernel_rfl) (by kernel_rfl)⟩
  ·
    by_cases c2 : (decide (p0 ≥ 64)) = true
    · rw [if_pos c2] at h
      by_cases c3 : (decide (p0 ≤ 512)) = true
      · rw [if_pos c3] at h
        refine AW.reg tt_ok1 [2] [] [{}, { h := { b := some true } }, {}, {}, { h := { b := some true } }] ⟨[(2, .c (.t (.v (.bool ((p0.tmod 64) == 0)))))], [], 13⟩ [True, (decide (p0 ≥ 64)) = true, True, True, (decide (p0 ≤ 512)) = true, True, True, True, (64 : Int) ≠ 0, True, True, True] (by kernel_rfl) (by kernel_rfl) ⟨trivial, c2, trivial, trivial, c3, trivial, trivial, trivial, (by decide), trivial, trivial, trivial, trivial⟩ ?_
        exact joinQ_leaf (((p0.tmod 64) == 0)) h (conv_ren [] [2] (n := 0) (by kernel_rfl) (by kernel_rfl))
      · rw [if_neg c3] at h
        refine AW.reg tt_ok1 [2] [] [{}, { h := { b := some true } }, {}, {}, { h := { b := some false } }] ⟨[(2, .c (.t (.v (.bool false))))], [], 13⟩ [True, (decide (p0 ≥ 64)) = true, True, True, (decide (p0 ≤ 512)) = false, True, True, True, True, True, True, True] (by kernel_rfl) (by kernel_rfl) ⟨trivial, c2, trivial, trivial, (off_false c3), trivial, trivial, trivial, trivial, trivial, trivial, trivial, trivial⟩ ?_
        exact joinQ_leaf (false) h (conv_ren [] [2] (n := 0) (by kernel_rfl) (by kernel_rfl))
    · rw [if_neg c2] at h
      refine AW.reg tt_ok1 [2] [] [{}, { h := { b := some false } }] ⟨[(2, .c (.t (.v (.bool false))))], [], 13⟩ [True, (decide (p0 ≥ 64)) = false, True, True, True, True, True, True, True, True, True, True] (by kernel_rfl) (by kernel_rfl) ⟨trivial, (off_false c2), trivial, trivial, trivial, trivial, trivial, trivial, trivial, trivial, trivial, trivial, trivial⟩ ?_
      exact joinQ_leaf (false) h (conv_ren [] [2] (n := 0) (by kernel_rfl) (by kernel_rfl))
/-! recordlink/recordlinkref09.New -/
noncomputable def rl_ref09_New (p0 : Int) : Option (S_api_Bits × Int) := (rl_ref09_length p0).bind fun y1 => (if (!y1) = true then (some ((⟨0, ([] : List Int)⟩ : S_api_Bits), 2)) else (if 0 ≤ (IntKind.i64.wrap (p0.tdiv 64)) then (if (IntKind.i64.wrap (p0.tdiv 64)) ≤ 1099511627776 then (some ((⟨p0, (List.replicate ((IntKind.i64.wrap (p0.tdiv 64)).toNat) (0 : Int))⟩ : S_api_Bits), 0)) else none) else none))
set_option maxRecDepth 100000 in
theorem rl_ref09_New_con (p0 : Int) (r0 : S_api_Bits) (r1 : Int) (h : rl_ref09_New p0 = some (r0, r1)) : Con Try.prog 40 [.c (.t (.v (.int .i64 p0)))] [] (.tup [.agg [.t (.v (.int .i64 r0.Length)), .ref 0 1 0 r0.Words.length], .c (.t (.v (.int .i64 r1)))]) [(0, .row 33 false 1 r0.Words.length (Ru64 r0.Words))] := by
  suffices H : ∀ r, rl_ref09_New p0 = some r → Con Try.prog 40 [.c (.t (.v (.int .i64 p0)))] [] (.tup [.agg [.t (.v (.int .i64 r.1.Length)), .ref 0 1 0 r.1.Words.length], .c (.t (.v (.int .i64 r.2)))]) [(0, .row 33 false 1 r.1.Words.length (Ru64 r.1.Words))] from H (r0, r1) h
  clear h
  intro r h
  refine con_of tt_ok1 0 Try.func40 (by kernel_rfl) rfl (by kernel_rfl) (fun base X hk => ?_)
  unfold rl_ref09_New at h
  refine AW.seq ?_
  refine AW.reg tt_ok1 [0, 2] [0] [] ⟨[(2, .c (.ptr 0 2 0 0)), (0, .c (.t (.v (.int .i64 p0))))], [(0, .box 29 [.t (.v (.int .i64 0)), .t (.v (.slice none 0 0))])], 2⟩ [True, True] (by kernel_rfl) (by kernel_rfl) ⟨trivial, trivial, trivial⟩ ?_
  refine AW.thenQ_normal ?_
  refine AW.seq ?_
  refine AW.seq ?_
  obtain ⟨y1, e2, h⟩ := bnd_some h
  refine AW.reg tt_ok1 [0, 2, 6] [0] [{}, { call := some { ids := [], frz := [], flat := true, cnt := 0, args := [.c (.t (.v (.int .i64 p0)))], out := .c (.t (.v (.bool y1))), outb := [] } }] ⟨[(6, .c (.t (.v (.bool (!y1))))), (2, .c (.ptr 0 2 0 0)), (0, .c (.t (.v (.int .i64 p0))))], [(0, .box 29 [.t (.v (.int .i64 0)), .t (.v (.slice none 0 0))])], 4⟩ [True, ((True) ∧ (True)) ∧ (All2 ArgLe [.c (.t (.v (.int .i64 p0)))] [.c (.t (.v (.int .i64 p0)))]) ∧ ((true = true → flatB [])) ∧ (Con Try.prog 67 [.c (.t (.v (.int .i64 p0)))] [] (.c (.t (.v (.bool y1)))) []), True] (by kernel_rfl) (by kernel_rfl) ⟨trivial, ⟨⟨trivial, trivial⟩, ⟨ArgLe.refl _, trivial⟩, (fun _ => trivial), (rl_ref09_length_con p0 y1 e2)⟩, trivial, trivial⟩ ?_
  refine AW.thenQ_normal ?_
  refine AW.cond (b := !y1) (by kernel_rfl) (fun c3 => ?_) (fun c3 => ?_)
  · rw [if_pos c3] at h
    refine AW.seq ?_
    refine AW.reg tt_ok1 [2, 3] [0] [] ⟨[(3, .c (.t (.v (.int .i64 2)))), (2, .c (.ptr 0 2 0 0))], [(0, .box 29 [.t (.v (.int .i64 0)), .t (.v (.slice none 0 0))])], 7⟩ [True, True, True] (by kernel_rfl) (by kernel_rfl) ⟨trivial, trivial, trivial, trivial⟩ ?_
    refine AW.thenQ_normal ?_
    refine AW.pre (conv_adoptB (id := 0) (ty0 := 29) (cs := [.t (.v (.int .i64 0)), .t (.v (.slice none 0 0))]) 1 (ty := 33) (sz := 1) (n := ([] : List Int).length) (f := Ru64 ([] : List Int)) (by kernel_rfl) (by kernel_rfl) rfl) ?_
    refine AW.ret ?_
    refine AW.thenQ_ret ?_
    obtain rfl := some_inj h
    exact ⟨.inr rfl, OutOk.mk [(0, 7)] 1 (out0 := .tup [.agg [.t (.v (.int .i64 0)), .ref 7 1 0 (([] : List Int).length)], .c (.t (.v (.int .i64 2)))]) (ps := [True, True]) (by kernel_rfl) ⟨trivial, trivial, trivial⟩ (by kernel_rfl) (by kernel_rfl)⟩
  · rw [if_neg (by rw [c3]; exact Bool.false_ne_true)] at h
    refine AW.skip ?_
    refine AW.thenQ_normal ?_
    refine AW.seq ?_
    obtain ⟨g4, h⟩ := ifc h
    obtain ⟨g5, h⟩ := ifc h
    refine AW.reg tt_ok1 [2, 3] [0, 7] [{}, {}, {}, { h := { row := some ((List.replicate ((IntKind.i64.wrap (p0.tdiv 64)).toNat) (0 : Int)).length, Ru64 (List.replicate ((IntKind.i64.wrap (p0.tdiv 64)).toNat) (0 : Int))) } }] ⟨[(3, .c (.t (.v (.int .i64 0)))), (2, .c (.ptr 0 2 0 0))], [(0, .box 29 [.t (.v (.int .i64 p0)), .ref 7 1 0 ((List.replicate ((IntKind.i64.wrap (p0.tdiv 64)).toNat) (0 : Int)).length)]), (7, .row 33 false 1 (List.replicate ((IntKind.i64.wrap (p0.tdiv 64)).toNat) (0 : Int)).length (Ru64 (List.replicate ((IntKind.i64.wrap (p0.tdiv 64)).toNat) (0 : Int))))], 11⟩ [True, True, (64 : Int) ≠ 0, ((0 ≤ (IntKind.i64.wrap (p0.tdiv 64))) ∧ ((IntKind.i64.wrap (p0.tdiv 64)) ≤ (IntKind.i64.wrap (p0.tdiv 64))) ∧ ((IntKind.i64.wrap (p0.tdiv 64)) ≤ 1099511627776) ∧ ((8 : Nat) ≤ 128)) ∧ ((IntKind.i64.wrap (p0.tdiv 64)).toNat = (List.replicate ((IntKind.i64.wrap (p0.tdiv 64)).toNat) (0 : Int)).length ∧ ∀ i, i < (List.replicate ((IntKind.i64.wrap (p0.tdiv 64)).toNat) (0 : Int)).length → ∀ j, j < 1 → (fun _ j => .v (([.int .u64 0] : List Value).getD j undef)) i j = Ru64 (List.replicate ((IntKind.i64.wrap (p0.tdiv 64)).toNat) (0 : Int)) i j), True, True, True] (by kernel_rfl) (by kernel_rfl) ⟨trivial, trivial, (by decide), ⟨⟨g4, Int.le_refl _, g5, (by decide)⟩, mk_row (fun j hj => match j, hj with | 0, _ => rfl | _ + 1, h => absurd h (by omega))⟩, trivial, trivial, trivial, trivial⟩ ?_
    refine AW.thenQ_normal ?_
    refine AW.ret ?_
    obtain rfl := some_inj h
    exact ⟨.inr rfl, OutOk.mk [(0, 7)] 1 (out0 := .tup [.agg [.t (.v (.int .i64 p0)), .ref 7 1 0 ((List.replicate ((IntKind.i64.wrap (p0.tdiv 64)).toNat) (0 : Int)).length)], .c (.t (.v (.int .i64 0)))]) (ps := [True, True]) (by kernel_rfl) ⟨trivial, trivial, trivial⟩ (by kernel_rfl) (by kernel_rfl)⟩
end Go.Proofs.Yteholdifeilkkaa
