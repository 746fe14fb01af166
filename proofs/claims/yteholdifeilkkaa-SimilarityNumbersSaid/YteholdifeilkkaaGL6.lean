/- Printed by a program of mine (vmgen.py): Go functions, and what they come to. -/
import Derived.Test.YteholdifeilkkaaVp
import Derived.Test.YteholdifeilkkaaRows
import Derived.Test.YteholdifeilkkaaG1
namespace Go.Proofs.Yteholdifeilkkaa
open Vm
set_option linter.unusedVariables false
set_option linter.constructorNameAsVariable false
def ttlL6 : List (Nat × TI) := [(3, ⟨.int .i64, 1, 8, [.int .i64 0]⟩), (4, ⟨.bool, 1, 1, [.bool false]⟩), (5, ⟨.int .u8, 1, 1, [.int .u8 0]⟩), (9, ⟨.str, 1, 16, [.string ⟨#[]⟩]⟩), (22, ⟨.slice 3, 1, 24, [.slice none 0 0]⟩), (25, ⟨.ptr 66, 1, 8, [.pointer none]⟩), (27, ⟨.slice 33, 1, 24, [.slice none 0 0]⟩), (29, ⟨.struct [(3, 0), (27, 1)], 2, 32, [.int .i64 0, .slice none 0 0]⟩), (31, ⟨.int .u64, 1, 8, [.int .u64 0]⟩), (33, ⟨.int .u64, 1, 8, [.int .u64 0]⟩), (35, ⟨.int .i64, 1, 8, [.int .i64 0]⟩), (41, ⟨.slice 29, 1, 24, [.slice none 0 0]⟩), (43, ⟨.struct [(3, 0), (3, 1), (41, 2)], 3, 40, [.int .i64 0, .int .i64 0, .slice none 0 0]⟩), (48, ⟨.int .u16, 1, 2, [.int .u16 0]⟩), (66, ⟨.struct [(22, 0), (3, 1), (33, 2)], 3, 40, [.slice none 0 0, .int .i64 0, .int .u64 0]⟩), (70, ⟨.arr 6 3, 6, 48, [.int .i64 0, .int .i64 0, .int .i64 0, .int .i64 0, .int .i64 0, .int .i64 0]⟩), (74, ⟨.slice 5, 1, 24, [.slice none 0 0]⟩)]
theorem tt_okL6 : TTok Try.prog (Vm.look ttlL6) := ttok_of ⟨⟨by kernel_rfl, by kernel_rfl⟩, ⟨by kernel_rfl, by kernel_rfl⟩, ⟨by kernel_rfl, by kernel_rfl⟩, ⟨by kernel_rfl, by kernel_rfl⟩, ⟨by kernel_rfl, by kernel_rfl⟩, ⟨by kernel_rfl, by kernel_rfl⟩, ⟨by kernel_rfl, by kernel_rfl⟩, ⟨by kernel_rfl, by kernel_rfl⟩, ⟨by kernel_rfl, by kernel_rfl⟩, ⟨by kernel_rfl, by kernel_rfl⟩, ⟨by kernel_rfl, by kernel_rfl⟩, ⟨by kernel_rfl, by kernel_rfl⟩, ⟨by kernel_rfl, by kernel_rfl⟩, ⟨by kernel_rfl, by kernel_rfl⟩, ⟨by kernel_rfl, by kernel_rfl⟩, ⟨by kernel_rfl, by kernel_rfl⟩, ⟨by kernel_rfl, by kernel_rfl⟩, trivial⟩
theorem moL6 : Try.prog.follows .mixedOrders = true := by kernel_rfl
/-! recordlink/recordlinklaw17.SimilarityNumbers -/
noncomputable def rl_law17_SimilarityNumbers_k2 (x19 : Bool) : Option Bool := some x19
noncomputable def rl_law17_SimilarityNumbers (p0 : Int) (p1 : Int) : Option Bool := (rl_law17_awake).bind fun y1 => (if (!y1) = true then (some false) else ((rl_ref17_Size (IntKind.i64.wrap (1 + ((IntKind.i64.wrap p1).tmod 5)))).bind fun y4 => (if y4 ≠ 0 then (bind2 (similarity_Digits ((IntKind.i64.wrap p0).tmod y4) (IntKind.i64.wrap (1 + ((IntKind.i64.wrap p1).tmod 5)))) fun y7 y8 => (bind2 (similarity_Number y7) fun y10 y11 => (bind2 (similarity_Digits y4 (IntKind.i64.wrap (1 + ((IntKind.i64.wrap p1).tmod 5)))) fun y13 y14 => (bind2 (similarity_Digits (-1) (IntKind.i64.wrap (1 + ((IntKind.i64.wrap p1).tmod 5)))) fun y16 y17 => (if (y8 == 0) = true then (if (y11 == 0) = true then (if (y10 == ((IntKind.i64.wrap p0).tmod y4)) = true then (if (((y7.length : Nat) : Int) == (IntKind.i64.wrap (1 + ((IntKind.i64.wrap p1).tmod 5)))) = true then (if (y14 == 2) = true then (rl_law17_SimilarityNumbers_k2 (y17 == 2)) else (rl_law17_SimilarityNumbers_k2 false)) else (rl_law17_SimilarityNumbers_k2 false)) else (rl_law17_SimilarityNumbers_k2 false)) else (rl_law17_SimilarityNumbers_k2 false)) else (rl_law17_SimilarityNumbers_k2 false)))))) else none)))
set_option maxRecDepth 100000 in
theorem rl_law17_SimilarityNumbers_con (p0 : Int) (p1 : Int) (r0 : Bool) (h : rl_law17_SimilarityNumbers p0 p1 = some r0) : Con Try.prog 6 [.c (.t (.v (.int .u16 p0))), .c (.t (.v (.int .u8 p1)))] [] (.c (.t (.v (.bool r0)))) [] := by
  revert h; generalize r0 = r; intro h
  refine con_of tt_okL6 0 Try.func6 (by kernel_rfl) rfl (by kernel_rfl) (fun base X hk => ?_)
  unfold rl_law17_SimilarityNumbers at h
  refine AW.seq ?_
  refine AW.reg tt_okL6 [0, 1] [] [] ⟨[(0, .c (.t (.v (.int .u16 p0)))), (1, .c (.t (.v (.int .u8 p1))))], [], 1⟩ [True] (by kernel_rfl) (by kernel_rfl) ⟨trivial, trivial⟩ ?_
  refine AW.thenQ_normal ?_
  refine AW.seq ?_
  refine AW.seq ?_
  obtain ⟨y1, e2, h⟩ := bnd_some h
  refine AW.reg tt_okL6 [0, 1, 17] [] [{ call := some { ids := [], frz := [], flat := true, cnt := 0, args := [], out := .c (.t (.v (.bool y1))), outb := [] } }] ⟨[(17, .c (.t (.v (.bool (!y1))))), (0, .c (.t (.v (.int .u16 p0)))), (1, .c (.t (.v (.int .u8 p1))))], [], 2⟩ [(True) ∧ (All2 ArgLe [] []) ∧ ((true = true → flatB [])) ∧ (Con Try.prog 12 [] [] (.c (.t (.v (.bool y1)))) []), True] (by kernel_rfl) (by kernel_rfl) ⟨⟨trivial, trivial, (fun _ => trivial), (rl_law17_awake_con y1 e2)⟩, trivial, trivial⟩ ?_
  refine AW.thenQ_normal ?_
  refine AW.cond (b := !y1) (by kernel_rfl) (fun c3 => ?_) (fun c3 => ?_)
  · rw [if_pos c3] at h
    refine AW.seq ?_
    refine AW.reg tt_okL6 [4] [] [] ⟨[(4, .c (.t (.v (.bool false))))], [], 3⟩ [True] (by kernel_rfl) (by kernel_rfl) ⟨trivial, trivial⟩ ?_
    refine AW.thenQ_normal ?_
    refine AW.ret ?_
    refine AW.thenQ_ret ?_
    obtain rfl := some_inj h
    exact ⟨.inr rfl, OutOk.mk [] 0 (out0 := .c (.t (.v (.bool false)))) (ps := [True]) (by kernel_rfl) ⟨trivial, trivial⟩ (by kernel_rfl) (by kernel_rfl)⟩
  · rw [if_neg (by rw [c3]; exact Bool.false_ne_true)] at h
    refine AW.skip ?_
    refine AW.thenQ_normal ?_
    refine AW.seq ?_
    refine AW.reg tt_okL6 [0, 5] [] [] ⟨[(5, .c (.t (.v (.int .i64 (IntKind.i64.wrap (1 + ((IntKind.i64.wrap p1).tmod 5))))))), (0, .c (.t (.v (.int .u16 p0))))], [], 7⟩ [True, True, (5 : Int) ≠ 0, True, True] (by kernel_rfl) (by kernel_rfl) ⟨trivial, trivial, (by decide), trivial, trivial, trivial⟩ ?_
    refine AW.thenQ_normal ?_
    refine AW.seq ?_
    obtain ⟨y4, e5, h⟩ := bnd_some h
    refine AW.reg tt_okL6 [0, 5, 6] [] [{}, { call := some { ids := [], frz := [], flat := true, cnt := 0, args := [.c (.t (.v (.int .i64 (IntKind.i64.wrap (1 + ((IntKind.i64.wrap p1).tmod 5))))))], out := .c (.t (.v (.int .i64 y4))), outb := [] } }] ⟨[(6, .c (.t (.v (.int .i64 y4)))), (5, .c (.t (.v (.int .i64 (IntKind.i64.wrap (1 + ((IntKind.i64.wrap p1).tmod 5))))))), (0, .c (.t (.v (.int .u16 p0))))], [], 9⟩ [True, ((True) ∧ (True)) ∧ (All2 ArgLe [.c (.t (.v (.int .i64 (IntKind.i64.wrap (1 + ((IntKind.i64.wrap p1).tmod 5))))))] [.c (.t (.v (.int .i64 (IntKind.i64.wrap (1 + ((IntKind.i64.wrap p1).tmod 5))))))]) ∧ ((true = true → flatB [])) ∧ (Con Try.prog 26 [.c (.t (.v (.int .i64 (IntKind.i64.wrap (1 + ((IntKind.i64.wrap p1).tmod 5))))))] [] (.c (.t (.v (.int .i64 y4)))) []), True] (by kernel_rfl) (by kernel_rfl) ⟨trivial, ⟨⟨trivial, trivial⟩, ⟨ArgLe.refl _, trivial⟩, (fun _ => trivial), (rl_ref17_Size_con (IntKind.i64.wrap (1 + ((IntKind.i64.wrap p1).tmod 5))) y4 e5)⟩, trivial, trivial⟩ ?_
    refine AW.thenQ_normal ?_
    refine AW.seq ?_
    obtain ⟨g6, h⟩ := ifc h
    refine AW.reg tt_okL6 [5, 6, 7] [] [] ⟨[(7, .c (.t (.v (.int .i64 ((IntKind.i64.wrap p0).tmod y4))))), (6, .c (.t (.v (.int .i64 y4)))), (5, .c (.t (.v (.int .i64 (IntKind.i64.wrap (1 + ((IntKind.i64.wrap p1).tmod 5)))))))], [], 14⟩ [True, True, True, y4 ≠ 0, True] (by kernel_rfl) (by kernel_rfl) ⟨trivial, trivial, trivial, g6, trivial, trivial⟩ ?_
    refine AW.thenQ_normal ?_
    refine AW.seq ?_
    obtain ⟨y7, y8, e9, h⟩ := bind2_some h
    refine AW.reg tt_okL6 [5, 6, 7, 8, 9] [16] [{}, {}, { call := some { ids := [], frz := [], flat := true, cnt := 1, args := [.c (.t (.v (.int .i64 ((IntKind.i64.wrap p0).tmod y4)))), .c (.t (.v (.int .i64 (IntKind.i64.wrap (1 + ((IntKind.i64.wrap p1).tmod 5))))))], out := .tup [.c (.ref 0 1 0 y7.length), .c (.t (.v (.int .i64 y8)))], outb := [(0, .row 3 false 1 y7.length (Ri64 y7))] } }] ⟨[(9, .c (.t (.v (.int .i64 y8)))), (8, .c (.ref 16 1 0 y7.length)), (7, .c (.t (.v (.int .i64 ((IntKind.i64.wrap p0).tmod y4))))), (6, .c (.t (.v (.int .i64 y4)))), (5, .c (.t (.v (.int .i64 (IntKind.i64.wrap (1 + ((IntKind.i64.wrap p1).tmod 5)))))))], [(16, .row 3 false 1 y7.length (Ri64 y7))], 22⟩ [True, True, ((True) ∧ (True) ∧ (True)) ∧ (All2 ArgLe [.c (.t (.v (.int .i64 ((IntKind.i64.wrap p0).tmod y4)))), .c (.t (.v (.int .i64 (IntKind.i64.wrap (1 + ((IntKind.i64.wrap p1).tmod 5))))))] [.c (.t (.v (.int .i64 ((IntKind.i64.wrap p0).tmod y4)))), .c (.t (.v (.int .i64 (IntKind.i64.wrap (1 + ((IntKind.i64.wrap p1).tmod 5))))))]) ∧ ((true = true → flatB [(0, .row 3 false 1 y7.length (Ri64 y7))])) ∧ (Con Try.prog 27 [.c (.t (.v (.int .i64 ((IntKind.i64.wrap p0).tmod y4)))), .c (.t (.v (.int .i64 (IntKind.i64.wrap (1 + ((IntKind.i64.wrap p1).tmod 5))))))] [] (.tup [.c (.ref 0 1 0 y7.length), .c (.t (.v (.int .i64 y8)))]) [(0, .row 3 false 1 y7.length (Ri64 y7))]), True, True, True, True, True] (by kernel_rfl) (by kernel_rfl) ⟨trivial, trivial, ⟨⟨trivial, trivial, trivial⟩, ⟨ArgLe.refl _, ArgLe.refl _, trivial⟩, (fun _ => ⟨rowL_flat Vi64 _ _ _, trivial⟩), (similarity_Digits_con ((IntKind.i64.wrap p0).tmod y4) (IntKind.i64.wrap (1 + ((IntKind.i64.wrap p1).tmod 5))) y7 y8 e9)⟩, trivial, trivial, trivial, trivial, trivial, trivial⟩ ?_
    refine AW.thenQ_normal ?_
    refine AW.seq ?_
    obtain ⟨y10, y11, e12, h⟩ := bind2_some h
    refine AW.reg tt_okL6 [5, 6, 7, 8, 9, 10, 11] [16] [{}, { call := some { ids := [], frz := [], flat := true, cnt := 0, args := [.c (.t (.tree y7.length 1 (Ri64 y7)))], out := .tup [.c (.t (.v (.int .i64 y10))), .c (.t (.v (.int .i64 y11)))], outb := [] } }] ⟨[(11, .c (.t (.v (.int .i64 y11)))), (10, .c (.t (.v (.int .i64 y10)))), (9, .c (.t (.v (.int .i64 y8)))), (8, .c (.ref 16 1 0 y7.length)), (7, .c (.t (.v (.int .i64 ((IntKind.i64.wrap p0).tmod y4))))), (6, .c (.t (.v (.int .i64 y4)))), (5, .c (.t (.v (.int .i64 (IntKind.i64.wrap (1 + ((IntKind.i64.wrap p1).tmod 5)))))))], [(16, .row 3 false 1 y7.length (Ri64 y7))], 28⟩ [True, ((0 + y7.length ≤ y7.length) ∧ (True)) ∧ (All2 ArgLe [.c (.t (.tree y7.length 1 (Ri64 y7)))] [.c (.t (.tree y7.length 1 (Ri64 y7)))]) ∧ ((true = true → flatB [])) ∧ (Con Try.prog 28 [.c (.t (.tree y7.length 1 (Ri64 y7)))] [] (.tup [.c (.t (.v (.int .i64 y10))), .c (.t (.v (.int .i64 y11)))]) []), True, True, True, True, True] (by kernel_rfl) (by kernel_rfl) ⟨trivial, ⟨⟨le0, trivial⟩, ⟨ArgLe.refl _, trivial⟩, (fun _ => trivial), (similarity_Number_con y7 y10 y11 e12)⟩, trivial, trivial, trivial, trivial, trivial, trivial⟩ ?_
    refine AW.thenQ_normal ?_
    refine AW.seq ?_
    obtain ⟨y13, y14, e15, h⟩ := bind2_some h
    refine AW.reg tt_okL6 [5, 7, 8, 9, 10, 11, 13] [16] [{}, {}, { call := some { ids := [], frz := [], flat := true, cnt := 1, args := [.c (.t (.v (.int .i64 y4))), .c (.t (.v (.int .i64 (IntKind.i64.wrap (1 + ((IntKind.i64.wrap p1).tmod 5))))))], out := .tup [.c (.ref 0 1 0 y13.length), .c (.t (.v (.int .i64 y14)))], outb := [(0, .row 3 false 1 y13.length (Ri64 y13))] } }] ⟨[(13, .c (.t (.v (.int .i64 y14)))), (11, .c (.t (.v (.int .i64 y11)))), (10, .c (.t (.v (.int .i64 y10)))), (9, .c (.t (.v (.int .i64 y8)))), (8, .c (.ref 16 1 0 y7.length)), (7, .c (.t (.v (.int .i64 ((IntKind.i64.wrap p0).tmod y4))))), (5, .c (.t (.v (.int .i64 (IntKind.i64.wrap (1 + ((IntKind.i64.wrap p1).tmod 5)))))))], [(16, .row 3 false 1 y7.length (Ri64 y7))], 36⟩ [True, True, ((True) ∧ (True) ∧ (True)) ∧ (All2 ArgLe [.c (.t (.v (.int .i64 y4))), .c (.t (.v (.int .i64 (IntKind.i64.wrap (1 + ((IntKind.i64.wrap p1).tmod 5))))))] [.c (.t (.v (.int .i64 y4))), .c (.t (.v (.int .i64 (IntKind.i64.wrap (1 + ((IntKind.i64.wrap p1).tmod 5))))))]) ∧ ((true = true → flatB [(0, .row 3 false 1 y13.length (Ri64 y13))])) ∧ (Con Try.prog 27 [.c (.t (.v (.int .i64 y4))), .c (.t (.v (.int .i64 (IntKind.i64.wrap (1 + ((IntKind.i64.wrap p1).tmod 5))))))] [] (.tup [.c (.ref 0 1 0 y13.length), .c (.t (.v (.int .i64 y14)))]) [(0, .row 3 false 1 y13.length (Ri64 y13))]), True, True, True, True, True] (by kernel_rfl) (by kernel_rfl) ⟨trivial, trivial, ⟨⟨trivial, trivial, trivial⟩, ⟨ArgLe.refl _, ArgLe.refl _, trivial⟩, (fun _ => ⟨rowL_flat Vi64 _ _ _, trivial⟩), (similarity_Digits_con y4 (IntKind.i64.wrap (1 + ((IntKind.i64.wrap p1).tmod 5))) y13 y14 e15)⟩, trivial, trivial, trivial, trivial, trivial, trivial⟩ ?_
    refine AW.thenQ_normal ?_
    refine AW.seq ?_
    obtain ⟨y16, y17, e18, h⟩ := bind2_some h
    refine AW.reg tt_okL6 [5, 7, 8, 9, 10, 11, 13, 15] [16] [{}, { call := some { ids := [], frz := [], flat := true, cnt := 1, args := [.c (.t (.v (.int .i64 (-1)))), .c (.t (.v (.int .i64 (IntKind.i64.wrap (1 + ((IntKind.i64.wrap p1).tmod 5))))))], out := .tup [.c (.ref 0 1 0 y16.length), .c (.t (.v (.int .i64 y17)))], outb := [(0, .row 3 false 1 y16.length (Ri64 y16))] } }] ⟨[(15, .c (.t (.v (.int .i64 y17)))), (13, .c (.t (.v (.int .i64 y14)))), (11, .c (.t (.v (.int .i64 y11)))), (10, .c (.t (.v (.int .i64 y10)))), (9, .c (.t (.v (.int .i64 y8)))), (8, .c (.ref 16 1 0 y7.length)), (7, .c (.t (.v (.int .i64 ((IntKind.i64.wrap p0).tmod y4))))), (5, .c (.t (.v (.int .i64 (IntKind.i64.wrap (1 + ((IntKind.i64.wrap p1).tmod 5)))))))], [(16, .row 3 false 1 y7.length (Ri64 y7))], 43⟩ [True, ((True) ∧ (True) ∧ (True)) ∧ (All2 ArgLe [.c (.t (.v (.int .i64 (-1)))), .c (.t (.v (.int .i64 (IntKind.i64.wrap (1 + ((IntKind.i64.wrap p1).tmod 5))))))] [.c (.t (.v (.int .i64 (-1)))), .c (.t (.v (.int .i64 (IntKind.i64.wrap (1 + ((IntKind.i64.wrap p1).tmod 5))))))]) ∧ ((true = true → flatB [(0, .row 3 false 1 y16.length (Ri64 y16))])) ∧ (Con Try.prog 27 [.c (.t (.v (.int .i64 (-1)))), .c (.t (.v (.int .i64 (IntKind.i64.wrap (1 + ((IntKind.i64.wrap p1).tmod 5))))))] [] (.tup [.c (.ref 0 1 0 y16.length), .c (.t (.v (.int .i64 y17)))]) [(0, .row 3 false 1 y16.length (Ri64 y16))]), True, True, True, True, True] (by kernel_rfl) (by kernel_rfl) ⟨trivial, ⟨⟨trivial, trivial, trivial⟩, ⟨ArgLe.refl _, ArgLe.refl _, trivial⟩, (fun _ => ⟨rowL_flat Vi64 _ _ _, trivial⟩), (similarity_Digits_con (-1) (IntKind.i64.wrap (1 + ((IntKind.i64.wrap p1).tmod 5))) y16 y17 e18)⟩, trivial, trivial, trivial, trivial, trivial, trivial⟩ ?_
    refine AW.thenQ_normal ?_
    refine AW.seq ?_
    refine AW.join (ι := Bool) (fun v => ⟨[(4, .c (.t (.v (.bool v))))], [], 0⟩) (fun v : Bool => rl_law17_SimilarityNumbers_k2 v = some r) (fun v h => ?_) ?_
    ·
      obtain ⟨x19, rfl⟩ : ∃ x, x = v := ⟨_, rfl⟩
      replace h : rl_law17_SimilarityNumbers_k2 x19 = some r := h
      unfold rl_law17_SimilarityNumbers_k2 at h
      show (_ : Exit → St → Prop) .normal ⟨[(4, .c (.t (.v (.bool x19))))], [], 0⟩
      refine AW.thenQ_normal ?_
      refine AW.ret ?_
      obtain rfl := some_inj h
      exact ⟨.inr rfl, OutOk.mk [] 0 (out0 := .c (.t (.v (.bool x19)))) (ps := [True]) (by kernel_rfl) ⟨trivial, trivial⟩ (by kernel_rfl) (by kernel_rfl)⟩
    ·
      by_cases c20 : (y8 == 0) = true
      · rw [if_pos c20] at h
        by_cases c21 : (y11 == 0) = true
        · rw [if_pos c21] at h
          by_cases c22 : (y10 == ((IntKind.i64.wrap p0).tmod y4)) = true
          · rw [if_pos c22] at h
            by_cases c23 : (((y7.length : Nat) : Int) == (IntKind.i64.wrap (1 + ((IntKind.i64.wrap p1).tmod 5)))) = true
            · rw [if_pos c23] at h
              by_cases c24 : (y14 == 2) = true
              · rw [if_pos c24] at h
                refine AW.reg tt_okL6 [4] [] [{}, { h := { b := some true } }, {}, {}, { h := { b := some true } }, {}, {}, {}, {}, { h := { b := some true } }, {}, {}, {}, {}, {}, { h := { b := some true } }, {}, {}, {}, { h := { b := some true } }] ⟨[(4, .c (.t (.v (.bool (y17 == 2)))))], [], 69⟩ [True, (y8 == 0) = true, True, True, (y11 == 0) = true, True, True, True, True, (y10 == ((IntKind.i64.wrap p0).tmod y4)) = true, True, True, True, True, True, (((y7.length : Nat) : Int) == (IntKind.i64.wrap (1 + ((IntKind.i64.wrap p1).tmod 5)))) = true, True, True, True, (y14 == 2) = true, True, True, True, True, True, True] (by kernel_rfl) (by kernel_rfl) ⟨trivial, c20, trivial, trivial, c21, trivial, trivial, trivial, trivial, c22, trivial, trivial, trivial, trivial, trivial, c23, trivial, trivial, trivial, c24, trivial, trivial, trivial, trivial, trivial, trivial, trivial⟩ ?_
                exact joinQ_leaf ((y17 == 2)) h (conv_ren [] [4] (n := 0) (by kernel_rfl) (by kernel_rfl))
              · rw [if_neg c24] at h
                refine AW.reg tt_okL6 [4] [] [{}, { h := { b := some true } }, {}, {}, { h := { b := some true } }, {}, {}, {}, {}, { h := { b := some true } }, {}, {}, {}, {}, {}, { h := { b := some true } }, {}, {}, {}, { h := { b := some false } }] ⟨[(4, .c (.t (.v (.bool false))))], [], 69⟩ [True, (y8 == 0) = true, True, True, (y11 == 0) = true, True, True, True, True, (y10 == ((IntKind.i64.wrap p0).tmod y4)) = true, True, True, True, True, True, (((y7.length : Nat) : Int) == (IntKind.i64.wrap (1 + ((IntKind.i64.wrap p1).tmod 5)))) = true, True, True, True, (y14 == 2) = false, True, True, True, True, True, True] (by kernel_rfl) (by kernel_rfl) ⟨trivial, c20, trivial, trivial, c21, trivial, trivial, trivial, trivial, c22, trivial, trivial, trivial, trivial, trivial, c23, trivial, trivial, trivial, (off_false c24), trivial, trivial, trivial, trivial, trivial, trivial, trivial⟩ ?_
                exact joinQ_leaf (false) h (conv_ren [] [4] (n := 0) (by kernel_rfl) (by kernel_rfl))
            · rw [if_neg c23] at h
              refine AW.reg tt_okL6 [4] [] [{}, { h := { b := some true } }, {}, {}, { h := { b := some true } }, {}, {}, {}, {}, { h := { b := some true } }, {}, {}, {}, {}, {}, { h := { b := some false } }] ⟨[(4, .c (.t (.v (.bool false))))], [], 69⟩ [True, (y8 == 0) = true, True, True, (y11 == 0) = true, True, True, True, True, (y10 == ((IntKind.i64.wrap p0).tmod y4)) = true, True, True, True, True, True, (((y7.length : Nat) : Int) == (IntKind.i64.wrap (1 + ((IntKind.i64.wrap p1).tmod 5)))) = false, True, True, True, True, True, True, True, True, True, True] (by kernel_rfl) (by kernel_rfl) ⟨trivial, c20, trivial, trivial, c21, trivial, trivial, trivial, trivial, c22, trivial, trivial, trivial, trivial, trivial, (off_false c23), trivial, trivial, trivial, trivial, trivial, trivial, trivial, trivial, trivial, trivial, trivial⟩ ?_
              exact joinQ_leaf (false) h (conv_ren [] [4] (n := 0) (by kernel_rfl) (by kernel_rfl))
          · rw [if_neg c22] at h
            refine AW.reg tt_okL6 [4] [] [{}, { h := { b := some true } }, {}, {}, { h := { b := some true } }, {}, {}, {}, {}, { h := { b := some false } }] ⟨[(4, .c (.t (.v (.bool false))))], [], 69⟩ [True, (y8 == 0) = true, True, True, (y11 == 0) = true, True, True, True, True, (y10 == ((IntKind.i64.wrap p0).tmod y4)) = false, True, True, True, True, True, True, True, True, True, True, True, True, True, True, True, True] (by kernel_rfl) (by kernel_rfl) ⟨trivial, c20, trivial, trivial, c21, trivial, trivial, trivial, trivial, (off_false c22), trivial, trivial, trivial, trivial, trivial, trivial, trivial, trivial, trivial, trivial, trivial, trivial, trivial, trivial, trivial, trivial, trivial⟩ ?_
            exact joinQ_leaf (false) h (conv_ren [] [4] (n := 0) (by kernel_rfl) (by kernel_rfl))
        · rw [if_neg c21] at h
          refine AW.reg tt_okL6 [4] [] [{}, { h := { b := some true } }, {}, {}, { h := { b := some false } }] ⟨[(4, .c (.t (.v (.bool false))))], [], 69⟩ [True, (y8 == 0) = true, True, True, (y11 == 0) = false, True, True, True, True, True, True, True, True, True, True, True, True, True, True, True, True, True, True, True, True, True] (by kernel_rfl) (by kernel_rfl) ⟨trivial, c20, trivial, trivial, (off_false c21), trivial, trivial, trivial, trivial, trivial, trivial, trivial, trivial, trivial, trivial, trivial, trivial, trivial, trivial, trivial, trivial, trivial, trivial, trivial, trivial, trivial, trivial⟩ ?_
          exact joinQ_leaf (false) h (conv_ren [] [4] (n := 0) (by kernel_rfl) (by kernel_rfl))
      · rw [if_neg c20] at h
        refine AW.reg tt_okL6 [4] [] [{}, { h := { b := some false } }] ⟨[(4, .c (.t (.v (.bool false))))], [], 69⟩ [True, (y8 == 0) = false, True, True, True, True, True, True, True, True, True, True, True, True, True, True, True, True, True, True, True, True, True, True, True, True] (by kernel_rfl) (by kernel_rfl) ⟨trivial, (off_false c20), trivial, trivial, trivial, trivial, trivial, trivial, trivial, trivial, trivial, trivial, trivial, trivial, trivial, trivial, trivial, trivial, trivial, trivial, trivial, trivial, trivial, trivial, trivial, trivial, trivial⟩ ?_
        exact joinQ_leaf (false) h (conv_ren [] [4] (n := 0) (by kernel_rfl) (by kernel_rfl))
end Go.Proofs.Yteholdifeilkkaa
