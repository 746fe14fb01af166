/- Printed by a program of mine (vmgen.py): Go functions, and what they come to. -/
import Derived.Test.YteholdifeilkkaaVp
import Derived.Test.YteholdifeilkkaaRows
import Derived.Test.YteholdifeilkkaaG0
namespace Go.Proofs.Yteholdifeilkkaa
open Vm
set_option linter.unusedVariables false
set_option linter.constructorNameAsVariable false
def ttl1 : List (Nat × TI) := [(3, ⟨.int .i64, 1, 8, [.int .i64 0]⟩), (4, ⟨.bool, 1, 1, [.bool false]⟩), (5, ⟨.int .u8, 1, 1, [.int .u8 0]⟩), (9, ⟨.str, 1, 16, [.string ⟨#[]⟩]⟩), (22, ⟨.slice 3, 1, 24, [.slice none 0 0]⟩), (25, ⟨.ptr 66, 1, 8, [.pointer none]⟩), (27, ⟨.slice 33, 1, 24, [.slice none 0 0]⟩), (29, ⟨.struct [(3, 0), (27, 1)], 2, 32, [.int .i64 0, .slice none 0 0]⟩), (31, ⟨.int .u64, 1, 8, [.int .u64 0]⟩), (33, ⟨.int .u64, 1, 8, [.int .u64 0]⟩), (35, ⟨.int .i64, 1, 8, [.int .i64 0]⟩), (41, ⟨.slice 29, 1, 24, [.slice none 0 0]⟩), (43, ⟨.struct [(3, 0), (3, 1), (41, 2)], 3, 40, [.int .i64 0, .int .i64 0, .slice none 0 0]⟩), (48, ⟨.int .u16, 1, 2, [.int .u16 0]⟩), (66, ⟨.struct [(22, 0), (3, 1), (33, 2)], 3, 40, [.slice none 0 0, .int .i64 0, .int .u64 0]⟩), (70, ⟨.arr 6 3, 6, 48, [.int .i64 0, .int .i64 0, .int .i64 0, .int .i64 0, .int .i64 0, .int .i64 0]⟩), (74, ⟨.slice 5, 1, 24, [.slice none 0 0]⟩)]
theorem tt_ok1 : TTok Try.prog (Vm.look ttl1) := ttok_of ⟨⟨by kernel_rfl, by kernel_rfl⟩, ⟨by kernel_rfl, by kernel_rfl⟩, ⟨by kernel_rfl, by kernel_rfl⟩, ⟨by kernel_rfl, by kernel_rfl⟩, ⟨by kernel_rfl, by kernel_rfl⟩, ⟨by kernel_rfl, by kernel_rfl⟩, ⟨by kernel_rfl, by kernel_rfl⟩, ⟨by kernel_rfl, by kernel_rfl⟩, ⟨by kernel_rfl, by kernel_rfl⟩, ⟨by kernel_rfl, by kernel_rfl⟩, ⟨by kernel_rfl, by kernel_rfl⟩, ⟨by kernel_rfl, by kernel_rfl⟩, ⟨by kernel_rfl, by kernel_rfl⟩, ⟨by kernel_rfl, by kernel_rfl⟩, ⟨by kernel_rfl, by kernel_rfl⟩, ⟨by kernel_rfl, by kernel_rfl⟩, ⟨by kernel_rfl, by kernel_rfl⟩, trivial⟩
theorem mo1 : Try.prog.follows .mixedOrders = true := by kernel_rfl
/-! recordlink/recordlinkref09.Compare -/
noncomputable def rl_ref09_Compare_l4 (p0 : S_api_Bits) (p1 : S_api_Bits) (x8 : Int) : Option (Int ⊕ (Unit ⊕ Int)) := if (decide (x8 < ((p0.Words.length : Nat) : Int))) = true then (if 0 ≤ x8 then (if x8 < ((p0.Words.length : Nat) : Int) then (if x8 < ((p1.Words.length : Nat) : Int) then (if (decide ((p0.Words.getD x8.toNat 0) < (p1.Words.getD x8.toNat 0))) = true then (some (.inr (.inr (-1)))) else (if (decide ((p0.Words.getD x8.toNat 0) > (p1.Words.getD x8.toNat 0))) = true then (some (.inr (.inr 1))) else (some (.inl (IntKind.i64.wrap (x8 + 1)))))) else none) else none) else none) else (some (.inr (.inl ())))
noncomputable def rl_ref09_Compare_a5 : Option Int := some 0
noncomputable def rl_ref09_Compare_a6 (x16 : Int) : Option Int := some x16
noncomputable def rl_ref09_Compare (p0 : S_api_Bits) (p1 : S_api_Bits) : Option Int := (rl_ref09_order p0.Length p1.Length).bind fun y1 => (if (y1 != 0) = true then (some y1) else ((rl_ref09_order ((p0.Words.length : Nat) : Int) ((p1.Words.length : Nat) : Int)).bind fun y4 => (if (y4 != 0) = true then (some y4) else (bindE (loop (fun v : Int => rl_ref09_Compare_l4 p0 p1 v) 0) (fun t => rl_ref09_Compare_a5) (fun t => rl_ref09_Compare_a6 t)))))
set_option maxRecDepth 100000 in
set_option maxHeartbeats 10000000 in
theorem rl_ref09_Compare_con (p0 : S_api_Bits) (p1 : S_api_Bits) (r0 : Int) (h : rl_ref09_Compare p0 p1 = some r0) : Con Try.prog 44 [.agg [.t (.v (.int .i64 p0.Length)), .t (.tree p0.Words.length 1 (Ru64 p0.Words))], .agg [.t (.v (.int .i64 p1.Length)), .t (.tree p1.Words.length 1 (Ru64 p1.Words))]] [] (.c (.t (.v (.int .i64 r0)))) [] := by
  revert h; generalize r0 = r; intro h
  refine con_of tt_ok1 0 Try.func44 (by kernel_rfl) rfl (by kernel_rfl) (fun base X hk => AW.post ?_)
  unfold rl_ref09_Compare at h
  refine AW.seq ?_
  refine AW.reg tt_ok1 [2, 3] [0, 1] [] ⟨[(3, .c (.ptr 1 2 0 0)), (2, .c (.ptr 0 2 0 0))], [(1, .box 29 [.t (.v (.int .i64 p1.Length)), .t (.tree p1.Words.length 1 (Ru64 p1.Words))]), (0, .box 29 [.t (.v (.int .i64 p0.Length)), .t (.tree p0.Words.length 1 (Ru64 p0.Words))])], 3⟩ [True, True, True] (by kernel_rfl) (by kernel_rfl) ⟨trivial, trivial, trivial, trivial⟩ ?_
  refine AW.thenQ_normal ?_
  refine AW.seq ?_
  refine AW.seq ?_
  obtain ⟨y1, e2, h⟩ := bnd_some h
  refine AW.reg tt_ok1 [2, 3, 5] [0, 1] [{}, {}, {}, {}, { call := some { ids := [], frz := [], flat := true, cnt := 0, args := [.c (.t (.v (.int .i64 p0.Length))), .c (.t (.v (.int .i64 p1.Length)))], out := .c (.t (.v (.int .i64 y1))), outb := [] } }] ⟨[(5, .c (.t (.v (.int .i64 y1)))), (3, .c (.ptr 1 2 0 0)), (2, .c (.ptr 0 2 0 0))], [(1, .box 29 [.t (.v (.int .i64 p1.Length)), .t (.tree p1.Words.length 1 (Ru64 p1.Words))]), (0, .box 29 [.t (.v (.int .i64 p0.Length)), .t (.tree p0.Words.length 1 (Ru64 p0.Words))])], 8⟩ [True, True, True, True, ((True) ∧ (True) ∧ (True)) ∧ (All2 ArgLe [.c (.t (.v (.int .i64 p0.Length))), .c (.t (.v (.int .i64 p1.Length)))] [.c (.t (.v (.int .i64 p0.Length))), .c (.t (.v (.int .i64 p1.Length)))]) ∧ ((true = true → flatB [])) ∧ (Con Try.prog 69 [.c (.t (.v (.int .i64 p0.Length))), .c (.t (.v (.int .i64 p1.Length)))] [] (.c (.t (.v (.int .i64 y1)))) []), True] (by kernel_rfl) (by kernel_rfl) ⟨trivial, trivial, trivial, trivial, ⟨⟨trivial, trivial, trivial⟩, ⟨ArgLe.refl _, ArgLe.refl _, trivial⟩, (fun _ => trivial), (rl_ref09_order_con p0.Length p1.Length y1 e2)⟩, trivial, trivial⟩ ?_
  refine AW.thenQ_normal ?_
  refine AW.seq ?_
  refine AW.reg tt_ok1 [2, 3, 5, 14] [0, 1] [] ⟨[(14, .c (.t (.v (.bool (y1 != 0))))), (5, .c (.t (.v (.int .i64 y1)))), (3, .c (.ptr 1 2 0 0)), (2, .c (.ptr 0 2 0 0))], [(1, .box 29 [.t (.v (.int .i64 p1.Length)), .t (.tree p1.Words.length 1 (Ru64 p1.Words))]), (0, .box 29 [.t (.v (.int .i64 p0.Length)), .t (.tree p0.Words.length 1 (Ru64 p0.Words))])], 10⟩ [True, True] (by kernel_rfl) (by kernel_rfl) ⟨trivial, trivial, trivial⟩ ?_
  refine AW.thenQ_normal ?_
  refine AW.cond (b := (y1 != 0)) (by kernel_rfl) (fun c3 => ?_) (fun c3 => ?_)
  · rw [if_pos c3] at h
    refine AW.seq ?_
    refine AW.reg tt_ok1 [4] [] [] ⟨[(4, .c (.t (.v (.int .i64 y1))))], [], 12⟩ [True, True] (by kernel_rfl) (by kernel_rfl) ⟨trivial, trivial, trivial⟩ ?_
    refine AW.thenQ_normal ?_
    refine AW.ret ?_
    refine AW.thenQ_ret ?_
    obtain rfl := some_inj h
    exact ⟨_, Conv.refl _ _, .inr rfl, OutOk.mk [] 0 (out0 := .c (.t (.v (.int .i64 y1)))) (ps := [True]) (by kernel_rfl) ⟨trivial, trivial⟩ (by kernel_rfl) (by kernel_rfl)⟩
  · rw [if_neg (by rw [c3]; exact Bool.false_ne_true)] at h
    refine AW.skip ?_
    refine AW.thenQ_normal ?_
    refine AW.seq ?_
    refine AW.seq ?_
    obtain ⟨y4, e5, h⟩ := bnd_some h
    refine AW.reg tt_ok1 [2, 3, 6] [0, 1] [{}, {}, {}, {}, {}, {}, { call := some { ids := [], frz := [], flat := true, cnt := 0, args := [.c (.t (.v (.int .i64 ((p0.Words.length : Nat) : Int)))), .c (.t (.v (.int .i64 ((p1.Words.length : Nat) : Int))))], out := .c (.t (.v (.int .i64 y4))), outb := [] } }] ⟨[(6, .c (.t (.v (.int .i64 y4)))), (3, .c (.ptr 1 2 0 0)), (2, .c (.ptr 0 2 0 0))], [(1, .box 29 [.t (.v (.int .i64 p1.Length)), .t (.tree p1.Words.length 1 (Ru64 p1.Words))]), (0, .box 29 [.t (.v (.int .i64 p0.Length)), .t (.tree p0.Words.length 1 (Ru64 p0.Words))])], 17⟩ [True, True, True, True, True, True, ((True) ∧ (True) ∧ (True)) ∧ (All2 ArgLe [.c (.t (.v (.int .i64 ((p0.Words.length : Nat) : Int)))), .c (.t (.v (.int .i64 ((p1.Words.length : Nat) : Int))))] [.c (.t (.v (.int .i64 ((p0.Words.length : Nat) : Int)))), .c (.t (.v (.int .i64 ((p1.Words.length : Nat) : Int))))]) ∧ ((true = true → flatB [])) ∧ (Con Try.prog 69 [.c (.t (.v (.int .i64 ((p0.Words.length : Nat) : Int)))), .c (.t (.v (.int .i64 ((p1.Words.length : Nat) : Int))))] [] (.c (.t (.v (.int .i64 y4)))) []), True] (by kernel_rfl) (by kernel_rfl) ⟨trivial, trivial, trivial, trivial, trivial, trivial, ⟨⟨trivial, trivial, trivial⟩, ⟨ArgLe.refl _, ArgLe.refl _, trivial⟩, (fun _ => trivial), (rl_ref09_order_con ((p0.Words.length : Nat) : Int) ((p1.Words.length : Nat) : Int) y4 e5)⟩, trivial, trivial⟩ ?_
    refine AW.thenQ_normal ?_
    refine AW.seq ?_
    refine AW.reg tt_ok1 [2, 3, 6, 24] [0, 1] [] ⟨[(24, .c (.t (.v (.bool (y4 != 0))))), (6, .c (.t (.v (.int .i64 y4)))), (3, .c (.ptr 1 2 0 0)), (2, .c (.ptr 0 2 0 0))], [(1, .box 29 [.t (.v (.int .i64 p1.Length)), .t (.tree p1.Words.length 1 (Ru64 p1.Words))]), (0, .box 29 [.t (.v (.int .i64 p0.Length)), .t (.tree p0.Words.length 1 (Ru64 p0.Words))])], 19⟩ [True, True] (by kernel_rfl) (by kernel_rfl) ⟨trivial, trivial, trivial⟩ ?_
    refine AW.thenQ_normal ?_
    refine AW.cond (b := (y4 != 0)) (by kernel_rfl) (fun c6 => ?_) (fun c6 => ?_)
    · rw [if_pos c6] at h
      refine AW.seq ?_
      refine AW.reg tt_ok1 [4] [] [] ⟨[(4, .c (.t (.v (.int .i64 y4))))], [], 21⟩ [True, True] (by kernel_rfl) (by kernel_rfl) ⟨trivial, trivial, trivial⟩ ?_
      refine AW.thenQ_normal ?_
      refine AW.ret ?_
      refine AW.thenQ_ret ?_
      obtain rfl := some_inj h
      exact ⟨_, Conv.refl _ _, .inr rfl, OutOk.mk [] 0 (out0 := .c (.t (.v (.int .i64 y4)))) (ps := [True]) (by kernel_rfl) ⟨trivial, trivial⟩ (by kernel_rfl) (by kernel_rfl)⟩
    · rw [if_neg (by rw [c6]; exact Bool.false_ne_true)] at h
      refine AW.skip ?_
      refine AW.thenQ_normal ?_
      refine AW.seq ?_
      refine AW.seq ?_
      refine AW.reg tt_ok1 [2, 3, 7] [0, 1] [] ⟨[(7, .c (.t (.v (.int .i64 0)))), (3, .c (.ptr 1 2 0 0)), (2, .c (.ptr 0 2 0 0))], [(1, .box 29 [.t (.v (.int .i64 p1.Length)), .t (.tree p1.Words.length 1 (Ru64 p1.Words))]), (0, .box 29 [.t (.v (.int .i64 p0.Length)), .t (.tree p0.Words.length 1 (Ru64 p0.Words))])], 20⟩ [True] (by kernel_rfl) (by kernel_rfl) ⟨trivial, trivial⟩ ?_
      refine AW.thenQ_normal ?_
      refine AW.block ?_
      rcases bindE_some h with ⟨t, l17, h⟩ | ⟨t, l17, h⟩
      ·
        replace h : rl_ref09_Compare_a5 = some r := h
        unfold rl_ref09_Compare_a5 at h
        refine AW.pre (S' := ((fun v => ⟨[(2, .c (.ptr 0 2 0 0)), (3, .c (.ptr 1 2 0 0)), (7, .c (.t (.v (.int .i64 v))))], [(0, .box 29 [.t (.v (.int .i64 p0.Length)), .t (.tree p0.Words.length 1 (Ru64 p0.Words))]), (1, .box 29 [.t (.v (.int .i64 p1.Length)), .t (.tree p1.Words.length 1 (Ru64 p1.Words))])], 2⟩) : Int → St) 0) (conv_ren [(0, 0), (1, 1)] [2, 3, 7] (n := 2) (by kernel_rfl) (by kernel_rfl)) ?_
        refine AW.loop2 (step := (fun v : Int => rl_ref09_Compare_l4 p0 p1 v)) (s0 := 0) (t := .inl ()) (fun v => ⟨[(2, .c (.ptr 0 2 0 0)), (3, .c (.ptr 1 2 0 0)), (7, .c (.t (.v (.int .i64 v))))], [(0, .box 29 [.t (.v (.int .i64 p0.Length)), .t (.tree p0.Words.length 1 (Ru64 p0.Words))]), (1, .box 29 [.t (.v (.int .i64 p1.Length)), .t (.tree p1.Words.length 1 (Ru64 p1.Words))])], 2⟩) (fun t : (Unit ⊕ Int) => match t with | .inl t => (.exit 0, ⟨[], [], 0⟩) | .inr t => (.ret, ⟨[(4, .c (.t (.v (.int .i64 t))))], [], 0⟩)) l17 (fun t => by cases t <;> trivial) ?_ ?_
        ·
          clear l17 h
          intro v o h
          obtain ⟨x8, rfl⟩ : ∃ x, x = v := ⟨_, rfl⟩
          replace h : rl_ref09_Compare_l4 p0 p1 x8 = some o := h
          unfold rl_ref09_Compare_l4 at h
          show AW _ ⟨[(2, .c (.ptr 0 2 0 0)), (3, .c (.ptr 1 2 0 0)), (7, .c (.t (.v (.int .i64 x8))))], [(0, .box 29 [.t (.v (.int .i64 p0.Length)), .t (.tree p0.Words.length 1 (Ru64 p0.Words))]), (1, .box 29 [.t (.v (.int .i64 p1.Length)), .t (.tree p1.Words.length 1 (Ru64 p1.Words))])], 2⟩ _ _
          refine AW.seq ?_
          refine AW.seq ?_
          refine AW.reg tt_ok1 [2, 3, 7, 30] [0, 1] [] ⟨[(30, .c (.t (.v (.bool (decide (x8 < ((p0.Words.length : Nat) : Int))))))), (2, .c (.ptr 0 2 0 0)), (3, .c (.ptr 1 2 0 0)), (7, .c (.t (.v (.int .i64 x8))))], [(0, .box 29 [.t (.v (.int .i64 p0.Length)), .t (.tree p0.Words.length 1 (Ru64 p0.Words))]), (1, .box 29 [.t (.v (.int .i64 p1.Length)), .t (.tree p1.Words.length 1 (Ru64 p1.Words))])], 7⟩ [True, True, True, True, True] (by kernel_rfl) (by kernel_rfl) ⟨trivial, trivial, trivial, trivial, trivial, trivial⟩ ?_
          refine AW.thenQ_normal ?_
          refine AW.cond (b := decide (x8 < ((p0.Words.length : Nat) : Int))) (by kernel_rfl) (fun c10 => ?_) (fun c10 => ?_)
          · rw [if_pos c10] at h
            refine AW.skip ?_
            refine AW.thenQ_normal ?_
            refine AW.seq ?_
            refine AW.block ?_
            refine AW.seq ?_
            refine AW.seq ?_
            obtain ⟨g11, h⟩ := ifc h
            obtain ⟨g12, h⟩ := ifc h
            obtain ⟨g13, h⟩ := ifc h
            refine AW.regD tt_ok1 mo1 [0, 1, 0, 7, 15, 0, 32, 0, 224, 480, 1023] [[], [], [], [], [], [], [], [], [], [], []] [2, 3, 7, 43] [0, 1] [] ⟨[(43, .c (.t (.v (.bool (decide ((p0.Words.getD x8.toNat 0) < (p1.Words.getD x8.toNat 0))))))), (2, .c (.ptr 0 2 0 0)), (3, .c (.ptr 1 2 0 0)), (7, .c (.t (.v (.int .i64 x8))))], [(0, .box 29 [.t (.v (.int .i64 p0.Length)), .t (.tree p0.Words.length 1 (Ru64 p0.Words))]), (1, .box 29 [.t (.v (.int .i64 p1.Length)), .t (.tree p1.Words.length 1 (Ru64 p1.Words))])], 18⟩ [True, True, True, (0 ≤ x8) ∧ (x8 < ((p0.Words.length : Nat) : Int)), True, True, True, True, (0 ≤ x8) ∧ (x8 < ((p1.Words.length : Nat) : Int)), True, True] (by kernel_rfl) (by kernel_rfl) ⟨trivial, trivial, trivial, ⟨g11, g12⟩, trivial, trivial, trivial, trivial, ⟨g11, g13⟩, trivial, trivial, trivial⟩ ?_
            refine AW.thenQ_normal ?_
            refine AW.cond (b := decide ((p0.Words.getD x8.toNat 0) < (p1.Words.getD x8.toNat 0))) (by kernel_rfl) (fun c14 => ?_) (fun c14 => ?_)
            · rw [if_pos c14] at h
              refine AW.seq ?_
              refine AW.reg tt_ok1 [4] [] [] ⟨[(4, .c (.t (.v (.int .i64 (-1)))))], [], 19⟩ [True] (by kernel_rfl) (by kernel_rfl) ⟨trivial, trivial⟩ ?_
              refine AW.thenQ_normal ?_
              refine AW.ret ?_
              refine AW.thenQ_ret ?_
              refine AW.inBlock_ret ?_
              refine AW.thenQ_ret ?_
              obtain rfl := some_inj h
              refine loopQ_out rfl (conv_ren [] [4] (n := 0) (by kernel_rfl) (by kernel_rfl))
            · rw [if_neg (by rw [c14]; exact Bool.false_ne_true)] at h
              refine AW.skip ?_
              refine AW.thenQ_normal ?_
              refine AW.seq ?_
              refine AW.regD tt_ok1 mo1 [0, 1, 0, 7, 15, 0, 32, 0, 224, 480, 1023] [[], [], [], [], [], [], [], [], [], [], []] [2, 3, 7, 54] [0, 1] [] ⟨[(54, .c (.t (.v (.bool (decide ((p0.Words.getD x8.toNat 0) > (p1.Words.getD x8.toNat 0))))))), (2, .c (.ptr 0 2 0 0)), (3, .c (.ptr 1 2 0 0)), (7, .c (.t (.v (.int .i64 x8))))], [(0, .box 29 [.t (.v (.int .i64 p0.Length)), .t (.tree p0.Words.length 1 (Ru64 p0.Words))]), (1, .box 29 [.t (.v (.int .i64 p1.Length)), .t (.tree p1.Words.length 1 (Ru64 p1.Words))])], 29⟩ [True, True, True, (0 ≤ x8) ∧ (x8 < ((p0.Words.length : Nat) : Int)), True, True, True, True, (0 ≤ x8) ∧ (x8 < ((p1.Words.length : Nat) : Int)), True, True] (by kernel_rfl) (by kernel_rfl) ⟨trivial, trivial, trivial, ⟨g11, g12⟩, trivial, trivial, trivial, trivial, ⟨g11, g13⟩, trivial, trivial, trivial⟩ ?_
              refine AW.thenQ_normal ?_
              refine AW.cond (b := decide ((p0.Words.getD x8.toNat 0) > (p1.Words.getD x8.toNat 0))) (by kernel_rfl) (fun c15 => ?_) (fun c15 => ?_)
              · rw [if_pos c15] at h
                refine AW.seq ?_
                refine AW.reg tt_ok1 [4] [] [] ⟨[(4, .c (.t (.v (.int .i64 1))))], [], 30⟩ [True] (by kernel_rfl) (by kernel_rfl) ⟨trivial, trivial⟩ ?_
                refine AW.thenQ_normal ?_
                refine AW.ret ?_
                refine AW.inBlock_ret ?_
                refine AW.thenQ_ret ?_
                obtain rfl := some_inj h
                refine loopQ_out rfl (conv_ren [] [4] (n := 0) (by kernel_rfl) (by kernel_rfl))
              · rw [if_neg (by rw [c15]; exact Bool.false_ne_true)] at h
                refine AW.skip ?_
                refine AW.inBlock_normal ?_
                refine AW.thenQ_normal ?_
                refine AW.reg tt_ok1 [2, 3, 7] [0, 1] [] ⟨[(7, .c (.t (.v (.int .i64 (IntKind.i64.wrap (x8 + 1)))))), (2, .c (.ptr 0 2 0 0)), (3, .c (.ptr 1 2 0 0))], [(0, .box 29 [.t (.v (.int .i64 p0.Length)), .t (.tree p0.Words.length 1 (Ru64 p0.Words))]), (1, .box 29 [.t (.v (.int .i64 p1.Length)), .t (.tree p1.Words.length 1 (Ru64 p1.Words))])], 32⟩ [True, True, True] (by kernel_rfl) (by kernel_rfl) ⟨trivial, trivial, trivial, trivial⟩ ?_
                obtain rfl := some_inj h
                refine loopQ_next (conv_ren [(0, 0), (1, 1)] [2, 3, 7] (n := 2) (by kernel_rfl) (by kernel_rfl))
          · rw [if_neg (by rw [c10]; exact Bool.false_ne_true)] at h
            refine AW.exit ?_
            refine AW.thenQ_exit ?_
            obtain rfl := some_inj h
            refine loopQ_out rfl (conv_ren [] [] (n := 0) (by kernel_rfl) (by kernel_rfl))
        ·
          show (_ : Exit → St → Prop) (.exit 0) ⟨[], [], 0⟩
          refine AW.inBlock_hit ?_
          refine AW.thenQ_normal ?_
          refine AW.seq ?_
          refine AW.reg tt_ok1 [4] [] [] ⟨[(4, .c (.t (.v (.int .i64 0))))], [], 1⟩ [True] (by kernel_rfl) (by kernel_rfl) ⟨trivial, trivial⟩ ?_
          refine AW.thenQ_normal ?_
          refine AW.ret ?_
          obtain rfl := some_inj h
          exact ⟨_, Conv.refl _ _, .inr rfl, OutOk.mk [] 0 (out0 := .c (.t (.v (.int .i64 0)))) (ps := [True]) (by kernel_rfl) ⟨trivial, trivial⟩ (by kernel_rfl) (by kernel_rfl)⟩
      ·
        obtain ⟨x16, rfl⟩ : ∃ x, x = t := ⟨_, rfl⟩
        replace h : rl_ref09_Compare_a6 x16 = some r := h
        unfold rl_ref09_Compare_a6 at h
        refine AW.pre (S' := ((fun v => ⟨[(2, .c (.ptr 0 2 0 0)), (3, .c (.ptr 1 2 0 0)), (7, .c (.t (.v (.int .i64 v))))], [(0, .box 29 [.t (.v (.int .i64 p0.Length)), .t (.tree p0.Words.length 1 (Ru64 p0.Words))]), (1, .box 29 [.t (.v (.int .i64 p1.Length)), .t (.tree p1.Words.length 1 (Ru64 p1.Words))])], 2⟩) : Int → St) 0) (conv_ren [(0, 0), (1, 1)] [2, 3, 7] (n := 2) (by kernel_rfl) (by kernel_rfl)) ?_
        refine AW.loop2 (step := (fun v : Int => rl_ref09_Compare_l4 p0 p1 v)) (s0 := 0) (t := .inr x16) (fun v => ⟨[(2, .c (.ptr 0 2 0 0)), (3, .c (.ptr 1 2 0 0)), (7, .c (.t (.v (.int .i64 v))))], [(0, .box 29 [.t (.v (.int .i64 p0.Length)), .t (.tree p0.Words.length 1 (Ru64 p0.Words))]), (1, .box 29 [.t (.v (.int .i64 p1.Length)), .t (.tree p1.Words.length 1 (Ru64 p1.Words))])], 2⟩) (fun t : (Unit ⊕ Int) => match t with | .inl t => (.exit 0, ⟨[], [], 0⟩) | .inr t => (.ret, ⟨[(4, .c (.t (.v (.int .i64 t))))], [], 0⟩)) l17 (fun t => by cases t <;> trivial) ?_ ?_
        ·
          clear l17 h
          intro v o h
          obtain ⟨x8, rfl⟩ : ∃ x, x = v := ⟨_, rfl⟩
          replace h : rl_ref09_Compare_l4 p0 p1 x8 = some o := h
          unfold rl_ref09_Compare_l4 at h
          show AW _ ⟨[(2, .c (.ptr 0 2 0 0)), (3, .c (.ptr 1 2 0 0)), (7, .c (.t (.v (.int .i64 x8))))], [(0, .box 29 [.t (.v (.int .i64 p0.Length)), .t (.tree p0.Words.length 1 (Ru64 p0.Words))]), (1, .box 29 [.t (.v (.int .i64 p1.Length)), .t (.tree p1.Words.length 1 (Ru64 p1.Words))])], 2⟩ _ _
          refine AW.seq ?_
          refine AW.seq ?_
          refine AW.reg tt_ok1 [2, 3, 7, 30] [0, 1] [] ⟨[(30, .c (.t (.v (.bool (decide (x8 < ((p0.Words.length : Nat) : Int))))))), (2, .c (.ptr 0 2 0 0)), (3, .c (.ptr 1 2 0 0)), (7, .c (.t (.v (.int .i64 x8))))], [(0, .box 29 [.t (.v (.int .i64 p0.Length)), .t (.tree p0.Words.length 1 (Ru64 p0.Words))]), (1, .box 29 [.t (.v (.int .i64 p1.Length)), .t (.tree p1.Words.length 1 (Ru64 p1.Words))])], 7⟩ [True, True, True, True, True] (by kernel_rfl) (by kernel_rfl) ⟨trivial, trivial, trivial, trivial, trivial, trivial⟩ ?_
          refine AW.thenQ_normal ?_
          refine AW.cond (b := decide (x8 < ((p0.Words.length : Nat) : Int))) (by kernel_rfl) (fun c10 => ?_) (fun c10 => ?_)
          · rw [if_pos c10] at h
            refine AW.skip ?_
            refine AW.thenQ_normal ?_
            refine AW.seq ?_
            refine AW.block ?_
            refine AW.seq ?_
            refine AW.seq ?_
            obtain ⟨g11, h⟩ := ifc h
            obtain ⟨g12, h⟩ := ifc h
            obtain ⟨g13, h⟩ := ifc h
            refine AW.regD tt_ok1 mo1 [0, 1, 0, 7, 15, 0, 32, 0, 224, 480, 1023] [[], [], [], [], [], [], [], [], [], [], []] [2, 3, 7, 43] [0, 1] [] ⟨[(43, .c (.t (.v (.bool (decide ((p0.Words.getD x8.toNat 0) < (p1.Words.getD x8.toNat 0))))))), (2, .c (.ptr 0 2 0 0)), (3, .c (.ptr 1 2 0 0)), (7, .c (.t (.v (.int .i64 x8))))], [(0, .box 29 [.t (.v (.int .i64 p0.Length)), .t (.tree p0.Words.length 1 (Ru64 p0.Words))]), (1, .box 29 [.t (.v (.int .i64 p1.Length)), .t (.tree p1.Words.length 1 (Ru64 p1.Words))])], 18⟩ [True, True, True, (0 ≤ x8) ∧ (x8 < ((p0.Words.length : Nat) : Int)), True, True, True, True, (0 ≤ x8) ∧ (x8 < ((p1.Words.length : Nat) : Int)), True, True] (by kernel_rfl) (by kernel_rfl) ⟨trivial, trivial, trivial, ⟨g11, g12⟩, trivial, trivial, trivial, trivial, ⟨g11, g13⟩, trivial, trivial, trivial⟩ ?_
            refine AW.thenQ_normal ?_
            refine AW.cond (b := decide ((p0.Words.getD x8.toNat 0) < (p1.Words.getD x8.toNat 0))) (by kernel_rfl) (fun c14 => ?_) (fun c14 => ?_)
            · rw [if_pos c14] at h
              refine AW.seq ?_
              refine AW.reg tt_ok1 [4] [] [] ⟨[(4, .c (.t (.v (.int .i64 (-1)))))], [], 19⟩ [True] (by kernel_rfl) (by kernel_rfl) ⟨trivial, trivial⟩ ?_
              refine AW.thenQ_normal ?_
              refine AW.ret ?_
              refine AW.thenQ_ret ?_
              refine AW.inBlock_ret ?_
              refine AW.thenQ_ret ?_
              obtain rfl := some_inj h
              refine loopQ_out rfl (conv_ren [] [4] (n := 0) (by kernel_rfl) (by kernel_rfl))
            · rw [if_neg (by rw [c14]; exact Bool.false_ne_true)] at h
              refine AW.skip ?_
              refine AW.thenQ_normal ?_
              refine AW.seq ?_
              refine AW.regD tt_ok1 mo1 [0, 1, 0, 7, 15, 0, 32, 0, 224, 480, 1023] [[], [], [], [], [], [], [], [], [], [], []] [2, 3, 7, 54] [0, 1] [] ⟨[(54, .c (.t (.v (.bool (decide ((p0.Words.getD x8.toNat 0) > (p1.Words.getD x8.toNat 0))))))), (2, .c (.ptr 0 2 0 0)), (3, .c (.ptr 1 2 0 0)), (7, .c (.t (.v (.int .i64 x8))))], [(0, .box 29 [.t (.v (.int .i64 p0.Length)), .t (.tree p0.Words.length 1 (Ru64 p0.Words))]), (1, .box 29 [.t (.v (.int .i64 p1.Length)), .t (.tree p1.Words.length 1 (Ru64 p1.Words))])], 29⟩ [True, True, True, (0 ≤ x8) ∧ (x8 < ((p0.Words.length : Nat) : Int)), True, True, True, True, (0 ≤ x8) ∧ (x8 < ((p1.Words.length : Nat) : Int)), True, True] (by kernel_rfl) (by kernel_rfl) ⟨trivial, trivial, trivial, ⟨g11, g12⟩, trivial, trivial, trivial, trivial, ⟨g11, g13⟩, trivial, trivial, trivial⟩ ?_
              refine AW.thenQ_normal ?_
              refine AW.cond (b := decide ((p0.Words.getD x8.toNat 0) > (p1.Words.getD x8.toNat 0))) (by kernel_rfl) (fun c15 => ?_) (fun c15 => ?_)
              · rw [if_pos c15] at h
                refine AW.seq ?_
                refine AW.reg tt_ok1 [4] [] [] ⟨[(4, .c (.t (.v (.int .i64 1))))], [], 30⟩ [True] (by kernel_rfl) (by kernel_rfl) ⟨trivial, trivial⟩ ?_
                refine AW.thenQ_normal ?_
                refine AW.ret ?_
                refine AW.inBlock_ret ?_
                refine AW.thenQ_ret ?_
                obtain rfl := some_inj h
                refine loopQ_out rfl (conv_ren [] [4] (n := 0) (by kernel_rfl) (by kernel_rfl))
              · rw [if_neg (by rw [c15]; exact Bool.false_ne_true)] at h
                refine AW.skip ?_
                refine AW.inBlock_normal ?_
                refine AW.thenQ_normal ?_
                refine AW.reg tt_ok1 [2, 3, 7] [0, 1] [] ⟨[(7, .c (.t (.v (.int .i64 (IntKind.i64.wrap (x8 + 1)))))), (2, .c (.ptr 0 2 0 0)), (3, .c (.ptr 1 2 0 0))], [(0, .box 29 [.t (.v (.int .i64 p0.Length)), .t (.tree p0.Words.length 1 (Ru64 p0.Words))]), (1, .box 29 [.t (.v (.int .i64 p1.Length)), .t (.tree p1.Words.length 1 (Ru64 p1.Words))])], 32⟩ [True, True, True] (by kernel_rfl) (by kernel_rfl) ⟨trivial, trivial, trivial, trivial⟩ ?_
                obtain rfl := some_inj h
                refine loopQ_next (conv_ren [(0, 0), (1, 1)] [2, 3, 7] (n := 2) (by kernel_rfl) (by kernel_rfl))
          · rw [if_neg (by rw [c10]; exact Bool.false_ne_true)] at h
            refine AW.exit ?_
            refine AW.thenQ_exit ?_
            obtain rfl := some_inj h
            refine loopQ_out rfl (conv_ren [] [] (n := 0) (by kernel_rfl) (by kernel_rfl))
        ·
          show (_ : Exit → St → Prop) (.ret) ⟨[(4, .c (.t (.v (.int .i64 x16))))], [], 0⟩
          refine AW.inBlock_ret ?_
          refine AW.thenQ_ret ?_
          obtain rfl := some_inj h
          exact ⟨_, Conv.refl _ _, .inr rfl, OutOk.mk [] 0 (out0 := .c (.t (.v (.int .i64 x16)))) (ps := [True]) (by kernel_rfl) ⟨trivial, trivial⟩ (by kernel_rfl) (by kernel_rfl)⟩
/-! recordlink/recordlinklaw09.same -/
noncomputable def rl_law09_same (p0 : S_api_Bits) (p1 : S_api_Bits) : Option Bool := (rl_ref09_Compare p0 p1).bind fun y1 => (some (y1 == 0))
set_option maxRecDepth 100000 in
set_option maxHeartbeats 10000000 in
theorem rl_law09_same_con (p0 : S_api_Bits) (p1 : S_api_Bits) (r0 : Bool) (h : rl_law09_same p0 p1 = some r0) : Con Try.prog 20 [.agg [.t (.v (.int .i64 p0.Length)), .t (.tree p0.Words.length 1 (Ru64 p0.Words))], .agg [.t (.v (.int .i64 p1.Length)), .t (.tree p1.Words.length 1 (Ru64 p1.Words))]] [] (.c (.t (.v (.bool r0)))) [] := by
  revert h; generalize r0 = r; intro h
  refine con_of tt_ok1 0 Try.func20 (by kernel_rfl) rfl (by kernel_rfl) (fun base X hk => AW.post ?_)
  unfold rl_law09_same at h
  refine AW.seq ?_
  refine AW.reg tt_ok1 [2, 3] [0, 1] [] ⟨[(3, .c (.ptr 1 2 0 0)), (2, .c (.ptr 0 2 0 0))], [(1, .box 29 [.t (.v (.int .i64 p1.Length)), .t (.tree p1.Words.length 1 (Ru64 p1.Words))]), (0, .box 29 [.t (.v (.int .i64 p0.Length)), .t (.tree p0.Words.length 1 (Ru64 p0.Words))])], 3⟩ [True, True, True] (by kernel_rfl) (by kernel_rfl) ⟨trivial, trivial, trivial, trivial⟩ ?_
  refine AW.thenQ_normal ?_
  refine AW.seq ?_
  obtain ⟨y1, e2, h⟩ := bnd_some h
  refine AW.reg tt_ok1 [4] [] [{}, {}, { call := some { ids := [], frz := [], flat := true, cnt := 0, args := [.agg [.t (.v (.int .i64 p0.Length)), .t (.tree p0.Words.length 1 (Ru64 p0.Words))], .agg [.t (.v (.int .i64 p1.Length)), .t (.tree p1.Words.length 1 (Ru64 p1.Words))]], out := .c (.t (.v (.int .i64 y1))), outb := [] } }] ⟨[(4, .c (.t (.v (.bool (y1 == 0)))))], [], 7⟩ [True, True, (((True) ∧ (True) ∧ (True)) ∧ ((True) ∧ (True) ∧ (True)) ∧ (True)) ∧ (All2 ArgLe [.agg [.t (.v (.int .i64 p0.Length)), .t (.tree p0.Words.length 1 (Ru64 p0.Words))], .agg [.t (.v (.int .i64 p1.Length)), .t (.tree p1.Words.length 1 (Ru64 p1.Words))]] [.agg [.t (.v (.int .i64 p0.Length)), .t (.tree p0.Words.length 1 (Ru64 p0.Words))], .agg [.t (.v (.int .i64 p1.Length)), .t (.tree p1.Words.length 1 (Ru64 p1.Words))]]) ∧ ((true = true → flatB [])) ∧ (Con Try.prog 44 [.agg [.t (.v (.int .i64 p0.Length)), .t (.tree p0.Words.length 1 (Ru64 p0.Words))], .agg [.t (.v (.int .i64 p1.Length)), .t (.tree p1.Words.length 1 (Ru64 p1.Words))]] [] (.c (.t (.v (.int .i64 y1)))) []), True, True] (by kernel_rfl) (by kernel_rfl) ⟨trivial, trivial, ⟨⟨⟨trivial, trivial, trivial⟩, ⟨trivial, trivial, trivial⟩, trivial⟩, ⟨ArgLe.refl _, ArgLe.refl _, trivial⟩, (fun _ => trivial), (rl_ref09_Compare_con p0 p1 y1 e2)⟩, trivial, trivial, trivial⟩ ?_
  refine AW.thenQ_normal ?_
  refine AW.ret ?_
  obtain rfl := some_inj h
  exact ⟨_, Conv.refl _ _, .inr rfl, OutOk.mk [] 0 (out0 := .c (.t (.v (.bool (y1 == 0))))) (ps := [True]) (by kernel_rfl) ⟨trivial, trivial⟩ (by kernel_rfl) (by kernel_rfl)⟩
def ES_api_Bits (x : S_api_Bits) : List T := [.v (.int .i64 x.Length), .tree x.Words.length 1 (Ru64 x.Words)]
def RS_api_Bits (xs : List S_api_Bits) : Nat → Nat → T := rowL dS_api_Bits ES_api_Bits xs
/-! (*recordlink/recordlinkmake.Deck).Bits -/
set_option maxRecDepth 100000 in
set_option maxHeartbeats 10000000 in
theorem rl_make_Deck_Bits_conT (p0 : S_recordlinkmake_Deck) (p1 : Int) (r0 : S_api_Bits) (r1 : S_recordlinkmake_Deck) (h : rl_make_Deck_Bits p0 p1 = some (r0, r1)) : Con Try.prog 15 [.c (.ptr 0 3 0 0), .c (.t (.v (.int .i64 p1)))] [(0, .box 66 [.t (.tree p0.list.length 1 (Ri64 p0.list)), .t (.v (.int .i64 p0.at_)), .t (.v (.int .u64 p0.state))])] (.agg [.t (.v (.int .i64 r0.Length)), .t (.tree r0.Words.length 1 (Ru64 r0.Words))]) [(0, .box 66 [.t (.tree r1.list.length 1 (Ri64 r1.list)), .t (.v (.int .i64 r1.at_)), .t (.v (.int .u64 r1.state))])] := by
  suffices H : ∀ r, rl_make_Deck_Bits p0 p1 = some r → Con Try.prog 15 [.c (.ptr 0 3 0 0), .c (.t (.v (.int .i64 p1)))] [(0, .box 66 [.t (.tree p0.list.length 1 (Ri64 p0.list)), .t (.v (.int .i64 p0.at_)), .t (.v (.int .u64 p0.state))])] (.agg [.t (.v (.int .i64 r.1.Length)), .t (.tree r.1.Words.length 1 (Ru64 r.1.Words))]) [(0, .box 66 [.t (.tree r.2.list.length 1 (Ri64 r.2.list)), .t (.v (.int .i64 r.2.at_)), .t (.v (.int .u64 r.2.state))])] from H (r0, r1) h
  clear h
  intro r h
  refine con_of tt_ok1 1 Try.func15 (by kernel_rfl) rfl (by kernel_rfl) (fun base X hk => AW.post ?_)
  unfold rl_make_Deck_Bits at h
  refine AW.seq ?_
  refine AW.reg tt_ok1 [0, 1, 4] [0, 1] [] ⟨[(4, .c (.ptr 1 2 0 0)), (0, .c (.ptr 0 3 0 0)), (1, .c (.t (.v (.int .i64 p1))))], [(1, .box 29 [.t (.v (.int .i64 0)), .t (.v (.slice none 0 0))]), (0, .box 66 [.t (.tree p0.list.length 1 (Ri64 p0.list)), .t (.v (.int .i64 p0.at_)), .t (.v (.int .u64 p0.state))])], 2⟩ [True] (by kernel_rfl) (by kernel_rfl) ⟨trivial, trivial⟩ ?_
  refine AW.thenQ_normal ?_
  refine AW.seq ?_
  refine AW.reg tt_ok1 [0, 1, 4, 5] [0, 1, 4] [] ⟨[(5, .c (.ptr 4 2 0 0)), (4, .c (.ptr 1 2 0 0)), (0, .c (.ptr 0 3 0 0)), (1, .c (.t (.v (.int .i64 p1))))], [(4, .box 29 [.t (.v (.int .i64 p1)), .t (.v (.slice none 0 0))]), (1, .box 29 [.t (.v (.int .i64 0)), .t (.v (.slice none 0 0))]), (0, .box 66 [.t (.tree p0.list.length 1 (Ri64 p0.list)), .t (.v (.int .i64 p0.at_)), .t (.v (.int .u64 p0.state))])], 6⟩ [True, True, True, True] (by kernel_rfl) (by kernel_rfl) ⟨trivial, trivial, trivial, trivial, trivial⟩ ?_
  refine AW.thenQ_normal ?_
  refine AW.seq ?_
  refine AW.seq ?_
  refine AW.reg tt_ok1 [0, 1, 4, 5, 6] [0, 1, 4] [] ⟨[(6, .c (.t (.v (.int .i64 0)))), (5, .c (.ptr 4 2 0 0)), (4, .c (.ptr 1 2 0 0)), (0, .c (.ptr 0 3 0 0)), (1, .c (.t (.v (.int .i64 p1))))], [(4, .box 29 [.t (.v (.int .i64 p1)), .t (.v (.slice none 0 0))]), (1, .box 29 [.t (.v (.int .i64 0)), .t (.v (.slice none 0 0))]), (0, .box 66 [.t (.tree p0.list.length 1 (Ri64 p0.list)), .t (.v (.int .i64 p0.at_)), .t (.v (.int .u64 p0.state))])], 7⟩ [True] (by kernel_rfl) (by kernel_rfl) ⟨trivial, trivial⟩ ?_
  refine AW.thenQ_normal ?_
  refine AW.block ?_
  obtain ⟨x35, x36, x37, x38, l39, h⟩ := bind4_some h
  refine AW.pre (S' := ((fun v => ⟨[(0, .c (.ptr 0 3 0 0)), (1, .c (.t (.v (.int .i64 p1)))), (4, .c (.ptr 1 2 0 0)), (5, .c (.ptr 2 2 0 0)), (6, .c (.t (.v (.int .i64 v.1))))], [(0, .box 66 [.t (.tree v.2.1.length 1 (Ri64 v.2.1)), .t (.v (.int .i64 v.2.2.1)), .t (.v (.int .u64 v.2.2.2.1))]), (1, .box 29 [.t (.v (.int .i64 0)), .t (.v (.slice none 0 0))]), (2, .box 29 [.t (.v (.int .i64 p1)), .ref 3 1 0 v.2.2.2.2.length]), (3, .row 33 false 1 v.2.2.2.2.length (Ru64 v.2.2.2.2))], 4⟩) : (Int × (List Int) × Int × Int × (List Int)) → St) (0, p0.list, p0.at_, p0.state, ([] : List Int))) (Conv.trans (conv_adoptB (id := 4) (ty0 := 29) (cs := [.t (.v (.int .i64 p1)), .t (.v (.slice none 0 0))]) 1 (ty := 33) (sz := 1) (n := ([] : List Int).length) (f := Ru64 ([] : List Int)) (by kernel_rfl) (by kernel_rfl) rfl) (conv_ren [(0, 0), (1, 1), (2, 4), (3, 7)] [0, 1, 4, 5, 6] (n := 4) (by kernel_rfl) (by kernel_rfl))) ?_
  refine AW.loop2 (step := (fun v : Int × (List Int) × Int × Int × (List Int) => rl_make_Deck_Bits_l16 p1 v.1 v.2.1 v.2.2.1 v.2.2.2.1 v.2.2.2.2)) (s0 := (0, p0.list, p0.at_, p0.state, ([] : List Int))) (t := (x35, x36, x37, x38)) (fun v => ⟨[(0, .c (.ptr 0 3 0 0)), (1, .c (.t (.v (.int .i64 p1)))), (4, .c (.ptr 1 2 0 0)), (5, .c (.ptr 2 2 0 0)), (6, .c (.t (.v (.int .i64 v.1))))], [(0, .box 66 [.t (.tree v.2.1.length 1 (Ri64 v.2.1)), .t (.v (.int .i64 v.2.2.1)), .t (.v (.int .u64 v.2.2.2.1))]), (1, .box 29 [.t (.v (.int .i64 0)), .t (.v (.slice none 0 0))]), (2, .box 29 [.t (.v (.int .i64 p1)), .ref 3 1 0 v.2.2.2.2.length]), (3, .row 33 false 1 v.2.2.2.2.length (Ru64 v.2.2.2.2))], 4⟩) (fun t : (List Int) × Int × Int × (List Int) => (.exit 0, ⟨[(4, .c (.ptr 1 2 0 0)), (5, .c (.ptr 2 2 0 0))], [(0, .box 66 [.t (.tree t.1.length 1 (Ri64 t.1)), .t (.v (.int .i64 t.2.1)), .t (.v (.int .u64 t.2.2.1))]), (1, .box 29 [.t (.v (.int .i64 0)), .t (.v (.slice none 0 0))]), (2, .box 29 [.t (.v (.int .i64 p1)), .ref 3 1 0 t.2.2.2.length]), (3, .row 33 false 1 t.2.2.2.length (Ru64 t.2.2.2))], 4⟩)) l39 (fun _ => trivial) ?_ ?_
  ·
    intro v o h
    obtain ⟨x6, x7, x8, x9, x10⟩ := v
    replace h : rl_make_Deck_Bits_l16 p1 x6 x7 x8 x9 x10 = some o := h
    unfold rl_make_Deck_Bits_l16 at h
    show AW _ ⟨[(0, .c (.ptr 0 3 0 0)), (1, .c (.t (.v (.int .i64 p1)))), (4, .c (.ptr 1 2 0 0)), (5, .c (.ptr 2 2 0 0)), (6, .c (.t (.v (.int .i64 x6))))], [(0, .box 66 [.t (.tree x7.length 1 (Ri64 x7)), .t (.v (.int .i64 x8)), .t (.v (.int .u64 x9))]), (1, .box 29 [.t (.v (.int .i64 0)), .t (.v (.slice none 0 0))]), (2, .box 29 [.t (.v (.int .i64 p1)), .ref 3 1 0 x10.length]), (3, .row 33 false 1 x10.length (Ru64 x10))], 4⟩ _ _
    refine AW.seq ?_
    refine AW.seq ?_
    refine AW.reg tt_ok1 [0, 1, 4, 5, 6, 13] [0, 1, 2, 3] [] ⟨[(13, .c (.t (.v (.bool (decide (x6 < (IntKind.i64.wrap (p1.tdiv 64)))))))), (0, .c (.ptr 0 3 0 0)), (1, .c (.t (.v (.int .i64 p1)))), (4, .c (.ptr 1 2 0 0)), (5, .c (.ptr 2 2 0 0)), (6, .c (.t (.v (.int .i64 x6))))], [(0, .box 66 [.t (.tree x7.length 1 (Ri64 x7)), .t (.v (.int .i64 x8)), .t (.v (.int .u64 x9))]), (1, .box 29 [.t (.v (.int .i64 0)), .t (.v (.slice none 0 0))]), (2, .box 29 [.t (.v (.int .i64 p1)), .ref 3 1 0 x10.length]), (3, .row 33 false 1 x10.length (Ru64 x10))], 8⟩ [True, True, (64 : Int) ≠ 0, True] (by kernel_rfl) (by kernel_rfl) ⟨trivial, trivial, (by decide), trivial, trivial⟩ ?_
    refine AW.thenQ_normal ?_
    refine AW.cond (b := decide (x6 < (IntKind.i64.wrap (p1.tdiv 64)))) (by kernel_rfl) (fun c15 => ?_) (fun c15 => ?_)
    · rw [if_pos c15] at h
      refine AW.skip ?_
      refine AW.thenQ_normal ?_
      refine AW.seq ?_
      refine AW.block ?_
      refine AW.seq ?_
      obtain ⟨y16, y17, e18, h⟩ := bind2_some h
      refine AW.reg tt_ok1 [0, 1, 4, 5, 6, 7] [0, 1, 2, 3] [{}, { call := some { ids := [0], frz := [], flat := false, cnt := 0, args := [.c (.ptr 0 3 0 0)], out := .c (.t (.v (.int .u64 y16))), outb := [(0, .box 66 [.t (.tree y17.list.length 1 (Ri64 y17.list)), .t (.v (.int .i64 y17.at_)), .t (.v (.int .u64 y17.state))])] } }] ⟨[(7, .c (.t (.v (.int .u64 y16)))), (0, .c (.ptr 0 3 0 0)), (1, .c (.t (.v (.int .i64 p1)))), (4, .c (.ptr 1 2 0 0)), (5, .c (.ptr 2 2 0 0)), (6, .c (.t (.v (.int .i64 x6))))], [(0, .box 66 [.t (.tree y17.list.length 1 (Ri64 y17.list)), .t (.v (.int .i64 y17.at_)), .t (.v (.int .u64 y17.state))]), (1, .box 29 [.t (.v (.int .i64 0)), .t (.v (.slice none 0 0))]), (2, .box 29 [.t (.v (.int .i64 p1)), .ref 3 1 0 x10.length]), (3, .row 33 false 1 x10.length (Ru64 x10))], 10⟩ [True, ((True) ∧ (True)) ∧ (All2 ArgLe [.c (.ptr 0 3 0 0)] [.c (.ptr 0 3 0 0)]) ∧ ((false = true → flatB [(0, .box 66 [.t (.tree y17.list.length 1 (Ri64 y17.list)), .t (.v (.int .i64 y17.at_)), .t (.v (.int .u64 y17.state))])])) ∧ (Con Try.prog 53 [.c (.ptr 0 3 0 0)] [(0, .box 66 [.t (.tree x7.length 1 (Ri64 x7)), .t (.v (.int .i64 x8)), .t (.v (.int .u64 x9))])] (.c (.t (.v (.int .u64 y16)))) [(0, .box 66 [.t (.tree y17.list.length 1 (Ri64 y17.list)), .t (.v (.int .i64 y17.at_)), .t (.v (.int .u64 y17.state))])]), True] (by kernel_rfl) (by kernel_rfl) ⟨trivial, ⟨⟨trivial, trivial⟩, ⟨ArgLe.refl _, trivial⟩, (fun h => by cases h), (rl_make_Deck_Word_con (⟨x7, x8, x9⟩ : S_recordlinkmake_Deck) y16 y17 e18)⟩, trivial, trivial⟩ ?_
      refine AW.thenQ_normal ?_
      refine AW.seq ?_
      refine AW.join (ι := Int × (List Int) × Int × Int) (fun v => ⟨[(0, .c (.ptr 0 3 0 0)), (1, .c (.t (.v (.int .i64 p1)))), (4, .c (.ptr 1 2 0 0)), (5, .c (.ptr 2 2 0 0)), (6, .c (.t (.v (.int .i64 x6)))), (7, .c (.t (.v (.int .u64 v.1))))], [(0, .box 66 [.t (.tree v.2.1.length 1 (Ri64 v.2.1)), .t (.v (.int .i64 v.2.2.1)), .t (.v (.int .u64 v.2.2.2))]), (1, .box 29 [.t (.v (.int .i64 0)), .t (.v (.slice none 0 0))]), (2, .box 29 [.t (.v (.int .i64 p1)), .ref 3 1 0 x10.length]), (3, .row 33 false 1 x10.length (Ru64 x10))], 4⟩) (fun v : Int × (List Int) × Int × Int => rl_make_Deck_Bits_k18 x6 x10 v.1 v.2.1 v.2.2.1 v.2.2.2 = some o) (fun v h => ?_) ?_
      ·
        obtain ⟨x19, x20, x21, x22⟩ := v
        replace h : rl_make_Deck_Bits_k18 x6 x10 x19 x20 x21 x22 = some o := h
        unfold rl_make_Deck_Bits_k18 at h
        show (_ : Exit → St → Prop) .normal ⟨[(0, .c (.ptr 0 3 0 0)), (1, .c (.t (.v (.int .i64 p1)))), (4, .c (.ptr 1 2 0 0)), (5, .c (.ptr 2 2 0 0)), (6, .c (.t (.v (.int .i64 x6)))), (7, .c (.t (.v (.int .u64 x19))))], [(0, .box 66 [.t (.tree x20.length 1 (Ri64 x20)), .t (.v (.int .i64 x21)), .t (.v (.int .u64 x22))]), (1, .box 29 [.t (.v (.int .i64 0)), .t (.v (.slice none 0 0))]), (2, .box 29 [.t (.v (.int .i64 p1)), .ref 3 1 0 x10.length]), (3, .row 33 false 1 x10.length (Ru64 x10))], 4⟩
        refine AW.thenQ_normal ?_
        obtain ⟨g23, h⟩ := ifc h
        refine AW.reg tt_ok1 [0, 1, 4, 5, 6] [0, 1, 2, 8] [{}, {}, {}, { h := { row := some (([x19] : List Int).length, Ru64 ([x19] : List Int)) } }, { h := { row := some ((x10 ++ ([x19] : List Int)).length, Ru64 (x10 ++ ([x19] : List Int))) } }] ⟨[(0, .c (.ptr 0 3 0 0)), (1, .c (.t (.v (.int .i64 p1)))), (4, .c (.ptr 1 2 0 0)), (5, .c (.ptr 2 2 0 0)), (6, .c (.t (.v (.int .i64 x6))))], [(2, .box 29 [.t (.v (.int .i64 p1)), .ref 8 1 0 ((x10 ++ ([x19] : List Int)).length)]), (8, .row 33 false 1 (x10 ++ ([x19] : List Int)).length (Ru64 (x10 ++ ([x19] : List Int)))), (0, .box 66 [.t (.tree x20.length 1 (Ri64 x20)), .t (.v (.int .i64 x21)), .t (.v (.int .u64 x22))]), (1, .box 29 [.t (.v (.int .i64 0)), .t (.v (.slice none 0 0))])], 11⟩ [True, True, True, 1 = ([x19] : List Int).length ∧ ∀ i, i < ([x19] : List Int).length → ∀ j, j < 1 → TLe ((rowOf [.v (.int .u64 x19)] 1) i j) (Ru64 ([x19] : List Int) i j), (x10.length = x10.length) ∧ (0 + ([x19] : List Int).length ≤ ([x19] : List Int).length) ∧ ((x10.length + ([x19] : List Int).length ≤ 1099511627776) ∧ ((8 : Nat) ≤ 128)) ∧ (x10.length + ([x19] : List Int).length = (x10 ++ ([x19] : List Int)).length ∧ ∀ i, i < (x10 ++ ([x19] : List Int)).length → ∀ j, j < 1 → TLe ((appRow x10.length (Ru64 x10) (fun i j => Ru64 ([x19] : List Int) (0 + i) j)) i j) (Ru64 (x10 ++ ([x19] : List Int)) i j)), True, True] (by kernel_rfl) (by kernel_rfl) ⟨trivial, trivial, trivial, ⟨rfl, lit_row (n := 1) (sz := 1) ⟨trivial, ⟨trivial, TLe.refl _⟩⟩⟩, ⟨rfl, le0, ⟨g23, (by decide)⟩, rowT (app_row rfl rfl row_rfl (fun i _ j _ => congrArg (fun k => Ru64 ([x19] : List Int) k j) (Nat.zero_add i)))⟩, trivial, trivial, trivial⟩ ?_
        refine AW.inBlock_normal ?_
        refine AW.thenQ_normal ?_
        refine AW.reg tt_ok1 [0, 1, 4, 5, 6] [0, 1, 2, 8] [] ⟨[(6, .c (.t (.v (.int .i64 (IntKind.i64.wrap (x6 + 1)))))), (0, .c (.ptr 0 3 0 0)), (1, .c (.t (.v (.int .i64 p1)))), (4, .c (.ptr 1 2 0 0)), (5, .c (.ptr 2 2 0 0))], [(2, .box 29 [.t (.v (.int .i64 p1)), .ref 8 1 0 ((x10 ++ ([x19] : List Int)).length)]), (8, .row 33 false 1 (x10 ++ ([x19] : List Int)).length (Ru64 (x10 ++ ([x19] : List Int)))), (0, .box 66 [.t (.tree x20.length 1 (Ri64 x20)), .t (.v (.int .i64 x21)), .t (.v (.int .u64 x22))]), (1, .box 29 [.t (.v (.int .i64 0)), .t (.v (.slice none 0 0))])], 14⟩ [True, True, True] (by kernel_rfl) (by kernel_rfl) ⟨trivial, trivial, trivial, trivial⟩ ?_
        obtain rfl := some_inj h
        refine loopQ_next (conv_ren [(0, 0), (1, 1), (2, 2), (3, 8)] [0, 1, 4, 5, 6] (n := 4) (by kernel_rfl) (by kernel_rfl))
      ·
        refine AW.seq ?_
        obtain ⟨y24, y25, e26, h⟩ := bind2_some h
        refine AW.reg tt_ok1 [0, 1, 4, 5, 6, 7, 19] [0, 1, 2, 3] [{}, { call := some { ids := [0], frz := [], flat := false, cnt := 0, args := [.c (.ptr 0 3 0 0), .c (.t (.v (.int .i64 4)))], out := .c (.t (.v (.int .i64 y24))), outb := [(0, .box 66 [.t (.tree y25.list.length 1 (Ri64 y25.list)), .t (.v (.int .i64 y25.at_)), .t (.v (.int .u64 y25.state))])] } }] ⟨[(19, .c (.t (.v (.int .i64 y24)))), (7, .c (.t (.v (.int .u64 y16)))), (0, .c (.ptr 0 3 0 0)), (1, .c (.t (.v (.int .i64 p1)))), (4, .c (.ptr 1 2 0 0)), (5, .c (.ptr 2 2 0 0)), (6, .c (.t (.v (.int .i64 x6))))], [(0, .box 66 [.t (.tree y25.list.length 1 (Ri64 y25.list)), .t (.v (.int .i64 y25.at_)), .t (.v (.int .u64 y25.state))]), (1, .box 29 [.t (.v (.int .i64 0)), .t (.v (.slice none 0 0))]), (2, .box 29 [.t (.v (.int .i64 p1)), .ref 3 1 0 x10.length]), (3, .row 33 false 1 x10.length (Ru64 x10))], 11⟩ [True, ((True) ∧ (True) ∧ (True)) ∧ (All2 ArgLe [.c (.ptr 0 3 0 0), .c (.t (.v (.int .i64 4)))] [.c (.ptr 0 3 0 0), .c (.t (.v (.int .i64 4)))]) ∧ ((false = true → flatB [(0, .box 66 [.t (.tree y25.list.length 1 (Ri64 y25.list)), .t (.v (.int .i64 y25.at_)), .t (.v (.int .u64 y25.state))])])) ∧ (Con Try.prog 16 [.c (.ptr 0 3 0 0), .c (.t (.v (.int .i64 4)))] [(0, .box 66 [.t (.tree y17.list.length 1 (Ri64 y17.list)), .t (.v (.int .i64 y17.at_)), .t (.v (.int .u64 y17.state))])] (.c (.t (.v (.int .i64 y24)))) [(0, .box 66 [.t (.tree y25.list.length 1 (Ri64 y25.list)), .t (.v (.int .i64 y25.at_)), .t (.v (.int .u64 y25.state))])])] (by kernel_rfl) (by kernel_rfl) ⟨trivial, ⟨⟨trivial, trivial, trivial⟩, ⟨ArgLe.refl _, ArgLe.refl _, trivial⟩, (fun h => by cases h), (rl_make_Deck_Next_con y17 4 y24 y25 e26)⟩, trivial⟩ ?_
        refine AW.thenQ_normal ?_
        refine AW.block ?_
        refine AW.seq ?_
        refine AW.reg tt_ok1 [0, 1, 4, 5, 6, 7, 19, 20] [0, 1, 2, 3] [] ⟨[(20, .c (.t (.v (.bool (y24 == 0))))), (19, .c (.t (.v (.int .i64 y24)))), (7, .c (.t (.v (.int .u64 y16)))), (0, .c (.ptr 0 3 0 0)), (1, .c (.t (.v (.int .i64 p1)))), (4, .c (.ptr 1 2 0 0)), (5, .c (.ptr 2 2 0 0)), (6, .c (.t (.v (.int .i64 x6))))], [(0, .box 66 [.t (.tree y25.list.length 1 (Ri64 y25.list)), .t (.v (.int .i64 y25.at_)), .t (.v (.int .u64 y25.state))]), (1, .box 29 [.t (.v (.int .i64 0)), .t (.v (.slice none 0 0))]), (2, .box 29 [.t (.v (.int .i64 p1)), .ref 3 1 0 x10.length]), (3, .row 33 false 1 x10.length (Ru64 x10))], 13⟩ [True, True] (by kernel_rfl) (by kernel_rfl) ⟨trivial, trivial, trivial⟩ ?_
        refine AW.thenQ_normal ?_
        refine AW.cond (b := (y24 == 0)) (by kernel_rfl) (fun c27 => ?_) (fun c27 => ?_)
        · rw [if_pos c27] at h
          obtain ⟨y28, y29, e30, h⟩ := bind2_some h
          obtain ⟨y31, y32, e33, h⟩ := bind2_some h
          refine AW.reg tt_ok1 [0, 1, 4, 5, 6, 7] [0, 1, 2, 3] [{}, {}, { call := some { ids := [0], frz := [], flat := false, cnt := 0, args := [.c (.ptr 0 3 0 0)], out := .c (.t (.v (.int .u64 y28))), outb := [(0, .box 66 [.t (.tree y29.list.length 1 (Ri64 y29.list)), .t (.v (.int .i64 y29.at_)), .t (.v (.int .u64 y29.state))])] } }, {}, { call := some { ids := [0], frz := [], flat := false, cnt := 0, args := [.c (.ptr 0 3 0 0)], out := .c (.t (.v (.int .u64 y31))), outb := [(0, .box 66 [.t (.tree y32.list.length 1 (Ri64 y32.list)), .t (.v (.int .i64 y32.at_)), .t (.v (.int .u64 y32.state))])] } }] ⟨[(7, .c (.t (.v (.int .u64 (iand .u64 y16 (iand .u64 y28 y31)))))), (0, .c (.ptr 0 3 0 0)), (1, .c (.t (.v (.int .i64 p1)))), (4, .c (.ptr 1 2 0 0)), (5, .c (.ptr 2 2 0 0)), (6, .c (.t (.v (.int .i64 x6))))], [(0, .box 66 [.t (.tree y32.list.length 1 (Ri64 y32.list)), .t (.v (.int .i64 y32.at_)), .t (.v (.int .u64 y32.state))]), (1, .box 29 [.t (.v (.int .i64 0)), .t (.v (.slice none 0 0))]), (2, .box 29 [.t (.v (.int .i64 p1)), .ref 3 1 0 x10.length]), (3, .row 33 false 1 x10.length (Ru64 x10))], 19⟩ [True, True, ((True) ∧ (True)) ∧ (All2 ArgLe [.c (.ptr 0 3 0 0)] [.c (.ptr 0 3 0 0)]) ∧ ((false = true → flatB [(0, .box 66 [.t (.tree y29.list.length 1 (Ri64 y29.list)), .t (.v (.int .i64 y29.at_)), .t (.v (.int .u64 y29.state))])])) ∧ (Con Try.prog 53 [.c (.ptr 0 3 0 0)] [(0, .box 66 [.t (.tree y25.list.length 1 (Ri64 y25.list)), .t (.v (.int .i64 y25.at_)), .t (.v (.int .u64 y25.state))])] (.c (.t (.v (.int .u64 y28)))) [(0, .box 66 [.t (.tree y29.list.length 1 (Ri64 y29.list)), .t (.v (.int .i64 y29.at_)), .t (.v (.int .u64 y29.state))])]), True, ((True) ∧ (True)) ∧ (All2 ArgLe [.c (.ptr 0 3 0 0)] [.c (.ptr 0 3 0 0)]) ∧ ((false = true → flatB [(0, .box 66 [.t (.tree y32.list.length 1 (Ri64 y32.list)), .t (.v (.int .i64 y32.at_)), .t (.v (.int .u64 y32.state))])])) ∧ (Con Try.prog 53 [.c (.ptr 0 3 0 0)] [(0, .box 66 [.t (.tree y29.list.length 1 (Ri64 y29.list)), .t (.v (.int .i64 y29.at_)), .t (.v (.int .u64 y29.state))])] (.c (.t (.v (.int .u64 y31)))) [(0, .box 66 [.t (.tree y32.list.length 1 (Ri64 y32.list)), .t (.v (.int .i64 y32.at_)), .t (.v (.int .u64 y32.state))])]), True, True, True] (by kernel_rfl) (by kernel_rfl) ⟨trivial, trivial, ⟨⟨trivial, trivial⟩, ⟨ArgLe.refl _, trivial⟩, (fun h => by cases h), (rl_make_Deck_Word_con y25 y28 y29 e30)⟩, trivial, ⟨⟨trivial, trivial⟩, ⟨ArgLe.refl _, trivial⟩, (fun h => by cases h), (rl_make_Deck_Word_con y29 y31 y32 e33)⟩, trivial, trivial, trivial, trivial⟩ ?_
          refine AW.inBlock_normal ?_
          exact joinQ_leaf ((iand .u64 y16 (iand .u64 y28 y31), y32.list, y32.at_, y32.state)) h (conv_ren [(0, 0), (1, 1), (2, 2), (3, 3)] [0, 1, 4, 5, 6, 7] (n := 4) (by kernel_rfl) (by kernel_rfl))
        · rw [if_neg (by rw [c27]; exact Bool.false_ne_true)] at h
          refine AW.seq ?_
          refine AW.reg tt_ok1 [0, 1, 4, 5, 6, 7, 29] [0, 1, 2, 3] [] ⟨[(29, .c (.t (.v (.bool (y24 == 1))))), (7, .c (.t (.v (.int .u64 y16)))), (0, .c (.ptr 0 3 0 0)), (1, .c (.t (.v (.int .i64 p1)))), (4, .c (.ptr 1 2 0 0)), (5, .c (.ptr 2 2 0 0)), (6, .c (.t (.v (.int .i64 x6))))], [(0, .box 66 [.t (.tree y25.list.length 1 (Ri64 y25.list)), .t (.v (.int .i64 y25.at_)), .t (.v (.int .u64 y25.state))]), (1, .box 29 [.t (.v (.int .i64 0)), .t (.v (.slice none 0 0))]), (2, .box 29 [.t (.v (.int .i64 p1)), .ref 3 1 0 x10.length]), (3, .row 33 false 1 x10.length (Ru64 x10))], 15⟩ [True, True] (by kernel_rfl) (by kernel_rfl) ⟨trivial, trivial, trivial⟩ ?_
          refine AW.thenQ_normal ?_
          refine AW.cond (b := (y24 == 1)) (by kernel_rfl) (fun c34 => ?_) (fun c34 => ?_)
          · rw [if_pos c34] at h
            refine AW.reg tt_ok1 [0, 1, 4, 5, 6, 7] [0, 1, 2, 3] [] ⟨[(7, .c (.t (.v (.int .u64 0)))), (0, .c (.ptr 0 3 0 0)), (1, .c (.t (.v (.int .i64 p1)))), (4, .c (.ptr 1 2 0 0)), (5, .c (.ptr 2 2 0 0)), (6, .c (.t (.v (.int .i64 x6))))], [(0, .box 66 [.t (.tree y25.list.length 1 (Ri64 y25.list)), .t (.v (.int .i64 y25.at_)), .t (.v (.int .u64 y25.state))]), (1, .box 29 [.t (.v (.int .i64 0)), .t (.v (.slice none 0 0))]), (2, .box 29 [.t (.v (.int .i64 p1)), .ref 3 1 0 x10.length]), (3, .row 33 false 1 x10.length (Ru64 x10))], 16⟩ [True] (by kernel_rfl) (by kernel_rfl) ⟨trivial, trivial⟩ ?_
            refine AW.inBlock_normal ?_
            exact joinQ_leaf ((0, y25.list, y25.at_, y25.state)) h (conv_ren [(0, 0), (1, 1), (2, 2), (3, 3)] [0, 1, 4, 5, 6, 7] (n := 4) (by kernel_rfl) (by kernel_rfl))
          · rw [if_neg (by rw [c34]; exact Bool.false_ne_true)] at h
            refine AW.skip ?_
            refine AW.inBlock_normal ?_
            exact joinQ_leaf ((y16, y25.list, y25.at_, y25.state)) h (conv_ren [(0, 0), (1, 1), (2, 2), (3, 3)] [0, 1, 4, 5, 6, 7] (n := 4) (by kernel_rfl) (by kernel_rfl))
    · rw [if_neg (by rw [c15]; exact Bool.false_ne_true)] at h
      refine AW.exit ?_
      refine AW.thenQ_exit ?_
      obtain rfl := some_inj h
      refine loopQ_out rfl (conv_ren [(0, 0), (1, 1), (2, 2), (3, 3)] [4, 5] (n := 4) (by kernel_rfl) (by kernel_rfl))
  ·
    show (_ : Exit → St → Prop) (.exit 0) ⟨[(4, .c (.ptr 1 2 0 0)), (5, .c (.ptr 2 2 0 0))], [(0, .box 66 [.t (.tree x35.length 1 (Ri64 x35)), .t (.v (.int .i64 x36)), .t (.v (.int .u64 x37))]), (1, .box 29 [.t (.v (.int .i64 0)), .t (.v (.slice none 0 0))]), (2, .box 29 [.t (.v (.int .i64 p1)), .ref 3 1 0 x38.length]), (3, .row 33 false 1 x38.length (Ru64 x38))], 4⟩
    refine AW.inBlock_hit ?_
    refine AW.thenQ_normal ?_
    refine AW.seq ?_
    refine AW.reg tt_ok1 [4] [0, 1, 3] [] ⟨[(4, .c (.ptr 1 2 0 0))], [(1, .box 29 [.t (.v (.int .i64 p1)), .ref 3 1 0 x38.length]), (0, .box 66 [.t (.tree x35.length 1 (Ri64 x35)), .t (.v (.int .i64 x36)), .t (.v (.int .u64 x37))]), (3, .row 33 false 1 x38.length (Ru64 x38))], 6⟩ [True, True] (by kernel_rfl) (by kernel_rfl) ⟨trivial, trivial, trivial⟩ ?_
    refine AW.thenQ_normal ?_
    refine AW.ret ?_
    obtain rfl := some_inj h
    exact ⟨_, Conv.trans (conv_row (id := 3) (ty := 33) (fro := false) (fro' := true) (sz := 1) (n := x38.length) (m := x38.length) (f := Ru64 x38) (g := Ru64 x38) (by kernel_rfl) (.inr rfl) rfl row_rfl) (conv_box (id := 1) (ty := 29) (cs := [.t (.v (.int .i64 p1)), .ref 3 1 0 x38.length]) (ds := [.t (.v (.int .i64 p1)), .t (.tree x38.length 1 (Ru64 x38))]) (by kernel_rfl) ⟨CLe.refl _ _, CLe.ref (ty := 33) (f := Ru64 x38) (by kernel_rfl) le0, trivial⟩), .inr rfl, OutOk.mk [(0, 0)] 1 (out0 := .agg [.t (.v (.int .i64 p1)), .t (.tree x38.length 1 (Ru64 x38))]) (ps := [True]) (by kernel_rfl) ⟨trivial, trivial⟩ (by kernel_rfl) (by kernel_rfl)⟩
structure S_api_Encoded where
  ID : Int
  Version : Int
  Fields : List S_api_Bits
def dS_api_Encoded : S_api_Encoded := ⟨0, 0, ([] : List S_api_Bits)⟩
instance : Inhabited S_api_Encoded := ⟨dS_api_Encoded⟩
/-! recordlink/recordlinklaw17.encoded -/
noncomputable def rl_law17_encoded_k10 (x6 : Int) (x16 : List Int) (x17 : Int) (x18 : Int) (x19 : List S_api_Bits) : Option ((Int × (List Int) × Int × Int × (List S_api_Bits)) ⊕ ((List Int) × Int × Int × (List S_api_Bits))) := some (.inl (IntKind.i64.wrap (x6 + 1), x16, x17, x18, x19))
noncomputable def rl_law17_encoded_l9 (p1 : Int) (x6 : Int) (x7 : List Int) (x8 : Int) (x9 : Int) (x10 : List S_api_Bits) : Option ((Int × (List Int) × Int × Int × (List S_api_Bits)) ⊕ ((List Int) × Int × Int × (List S_api_Bits))) := if (decide (x6 < p1)) = true then (bind2 (rl_make_Deck_Next (⟨x7, x8, x9⟩ : S_recordlinkmake_Deck) 6) fun y20 y21 => (if (y20 == 0) = true then (if x10.length + ([(⟨0, ([] : List Int)⟩ : S_api_Bits)] : List S_api_Bits).length ≤ 1099511627776 then (rl_law17_encoded_k10 x6 y21.list y21.at_ y21.state (x10 ++ ([(⟨0, ([] : List Int)⟩ : S_api_Bits)] : List S_api_Bits))) else none) else (bind2 (rl_make_Deck_Bits y21 64) fun y25 y26 => (if x10.length + ([y25] : List S_api_Bits).length ≤ 1099511627776 then (rl_law17_encoded_k10 x6 y26.list y26.at_ y26.state (x10 ++ ([y25] : List S_api_Bits))) else none)))) else (some (.inr (x7, x8, x9, x10)))
noncomputable def rl_law17_encoded (p0 : S_recordlinkmake_Deck) (p1 : Int) : Option (S_api_Encoded × S_recordlinkmake_Deck) := bind4 (loop (fun v : Int × (List Int) × Int × Int × (List S_api_Bits) => rl_law17_encoded_l9 p1 v.1 v.2.1 v.2.2.1 v.2.2.2.1 v.2.2.2.2) (0, p0.list, p0.at_, p0.state, ([] : List S_api_Bits))) fun x29 x30 x31 x32 => (some ((⟨1, 1, x32⟩ : S_api_Encoded), (⟨x29, x30, x31⟩ : S_recordlinkmake_Deck)))
set_option maxRecDepth 100000 in
set_option maxHeartbeats 10000000 in
theorem rl_law17_encoded_con (p0 : S_recordlinkmake_Deck) (p1 : Int) (r0 : S_api_Encoded) (r1 : S_recordlinkmake_Deck) (h : rl_law17_encoded p0 p1 = some (r0, r1)) : Con Try.prog 23 [.c (.ptr 0 3 0 0), .c (.t (.v (.int .i64 p1)))] [(0, .box 66 [.t (.tree p0.list.length 1 (Ri64 p0.list)), .t (.v (.int .i64 p0.at_)), .t (.v (.int .u64 p0.state))])] (.agg [.t (.v (.int .i64 r0.ID)), .t (.v (.int .i64 r0.Version)), .ref 1 2 0 r0.Fields.length]) [(0, .box 66 [.t (.tree r1.list.length 1 (Ri64 r1.list)), .t (.v (.int .i64 r1.at_)), .t (.v (.int .u64 r1.state))]), (1, .row 29 false 2 r0.Fields.length (RS_api_Bits r0.Fields))] := by
  suffices H : ∀ r, rl_law17_encoded p0 p1 = some r → Con Try.prog 23 [.c (.ptr 0 3 0 0), .c (.t (.v (.int .i64 p1)))] [(0, .box 66 [.t (.tree p0.list.length 1 (Ri64 p0.list)), .t (.v (.int .i64 p0.at_)), .t (.v (.int .u64 p0.state))])] (.agg [.t (.v (.int .i64 r.1.ID)), .t (.v (.int .i64 r.1.Version)), .ref 1 2 0 r.1.Fields.length]) [(0, .box 66 [.t (.tree r.2.list.length 1 (Ri64 r.2.list)), .t (.v (.int .i64 r.2.at_)), .t (.v (.int .u64 r.2.state))]), (1, .row 29 false 2 r.1.Fields.length (RS_api_Bits r.1.Fields))] from H (r0, r1) h
  clear h
  intro r h
  refine con_of tt_ok1 1 Try.func23 (by kernel_rfl) rfl (by kernel_rfl) (fun base X hk => AW.post ?_)
  unfold rl_law17_encoded at h
  refine AW.seq ?_
  refine AW.reg tt_ok1 [0, 1, 4] [0, 1] [] ⟨[(4, .c (.ptr 1 3 0 0)), (0, .c (.ptr 0 3 0 0)), (1, .c (.t (.v (.int .i64 p1))))], [(1, .box 43 [.t (.v (.int .i64 0)), .t (.v (.int .i64 0)), .t (.v (.slice none 0 0))]), (0, .box 66 [.t (.tree p0.list.length 1 (Ri64 p0.list)), .t (.v (.int .i64 p0.at_)), .t (.v (.int .u64 p0.state))])], 2⟩ [True] (by kernel_rfl) (by kernel_rfl) ⟨trivial, trivial⟩ ?_
  refine AW.thenQ_normal ?_
  refine AW.seq ?_
  refine AW.reg tt_ok1 [0, 1, 4, 5] [0, 1, 3] [] ⟨[(5, .c (.ptr 3 3 0 0)), (4, .c (.ptr 1 3 0 0)), (0, .c (.ptr 0 3 0 0)), (1, .c (.t (.v (.int .i64 p1))))], [(3, .box 43 [.t (.v (.int .i64 1)), .t (.v (.int .i64 1)), .t (.v (.slice none 0 0))]), (1, .box 43 [.t (.v (.int .i64 0)), .t (.v (.int .i64 0)), .t (.v (.slice none 0 0))]), (0, .box 66 [.t (.tree p0.list.length 1 (Ri64 p0.list)), .t (.v (.int .i64 p0.at_)), .t (.v (.int .u64 p0.state))])], 5⟩ [True, True, True] (by kernel_rfl) (by kernel_rfl) ⟨trivial, trivial, trivial, trivial⟩ ?_
  refine AW.thenQ_normal ?_
  refine AW.seq ?_
  refine AW.seq ?_
  refine AW.reg tt_ok1 [0, 1, 4, 5, 6] [0, 1, 3] [] ⟨[(6, .c (.t (.v (.int .i64 0)))), (5, .c (.ptr 3 3 0 0)), (4, .c (.ptr 1 3 0 0)), (0, .c (.ptr 0 3 0 0)), (1, .c (.t (.v (.int .i64 p1))))], [(3, .box 43 [.t (.v (.int .i64 1)), .t (.v (.int .i64 1)), .t (.v (.slice none 0 0))]), (1, .box 43 [.t (.v (.int .i64 0)), .t (.v (.int .i64 0)), .t (.v (.slice none 0 0))]), (0, .box 66 [.t (.tree p0.list.length 1 (Ri64 p0.list)), .t (.v (.int .i64 p0.at_)), .t (.v (.int .u64 p0.state))])], 6⟩ [True] (by kernel_rfl) (by kernel_rfl) ⟨trivial, trivial⟩ ?_
  refine AW.thenQ_normal ?_
  refine AW.block ?_
  obtain ⟨x29, x30, x31, x32, l33, h⟩ := bind4_some h
  refine AW.pre (S' := ((fun v => ⟨[(0, .c (.ptr 0 3 0 0)), (1, .c (.t (.v (.int .i64 p1)))), (4, .c (.ptr 1 3 0 0)), (5, .c (.ptr 2 3 0 0)), (6, .c (.t (.v (.int .i64 v.1))))], [(0, .box 66 [.t (.tree v.2.1.length 1 (Ri64 v.2.1)), .t (.v (.int .i64 v.2.2.1)), .t (.v (.int .u64 v.2.2.2.1))]), (1, .box 43 [.t (.v (.int .i64 0)), .t (.v (.int .i64 0)), .t (.v (.slice none 0 0))]), (2, .box 43 [.t (.v (.int .i64 1)), .t (.v (.int .i64 1)), .ref 3 2 0 v.2.2.2.2.length]), (3, .row 29 false 2 v.2.2.2.2.length (RS_api_Bits v.2.2.2.2))], 4⟩) : (Int × (List Int) × Int × Int × (List S_api_Bits)) → St) (0, p0.list, p0.at_, p0.state, ([] : List S_api_Bits))) (Conv.trans (conv_adoptB (id := 3) (ty0 := 43) (cs := [.t (.v (.int .i64 1)), .t (.v (.int .i64 1)), .t (.v (.slice none 0 0))]) 2 (ty := 29) (sz := 2) (n := ([] : List S_api_Bits).length) (f := RS_api_Bits ([] : List S_api_Bits)) (by kernel_rfl) (by kernel_rfl) rfl) (conv_ren [(0, 0), (1, 1), (2, 3), (3, 6)] [0, 1, 4, 5, 6] (n := 4) (by kernel_rfl) (by kernel_rfl))) ?_
  refine AW.loop2 (step := (fun v : Int × (List Int) × Int × Int × (List S_api_Bits) => rl_law17_encoded_l9 p1 v.1 v.2.1 v.2.2.1 v.2.2.2.1 v.2.2.2.2)) (s0 := (0, p0.list, p0.at_, p0.state, ([] : List S_api_Bits))) (t := (x29, x30, x31, x32)) (fun v => ⟨[(0, .c (.ptr 0 3 0 0)), (1, .c (.t (.v (.int .i64 p1)))), (4, .c (.ptr 1 3 0 0)), (5, .c (.ptr 2 3 0 0)), (6, .c (.t (.v (.int .i64 v.1))))], [(0, .box 66 [.t (.tree v.2.1.length 1 (Ri64 v.2.1)), .t (.v (.int .i64 v.2.2.1)), .t (.v (.int .u64 v.2.2.2.1))]), (1, .box 43 [.t (.v (.int .i64 0)), .t (.v (.int .i64 0)), .t (.v (.slice none 0 0))]), (2, .box 43 [.t (.v (.int .i64 1)), .t (.v (.int .i64 1)), .ref 3 2 0 v.2.2.2.2.length]), (3, .row 29 false 2 v.2.2.2.2.length (RS_api_Bits v.2.2.2.2))], 4⟩) (fun t : (List Int) × Int × Int × (List S_api_Bits) => (.exit 0, ⟨[(4, .c (.ptr 1 3 0 0)), (5, .c (.ptr 2 3 0 0))], [(0, .box 66 [.t (.tree t.1.length 1 (Ri64 t.1)), .t (.v (.int .i64 t.2.1)), .t (.v (.int .u64 t.2.2.1))]), (1, .box 43 [.t (.v (.int .i64 0)), .t (.v (.int .i64 0)), .t (.v (.slice none 0 0))]), (2, .box 43 [.t (.v (.int .i64 1)), .t (.v (.int .i64 1)), .ref 3 2 0 t.2.2.2.length]), (3, .row 29 false 2 t.2.2.2.length (RS_api_Bits t.2.2.2))], 4⟩)) l33 (fun _ => trivial) ?_ ?_
  ·
    intro v o h
    obtain ⟨x6, x7, x8, x9, x10⟩ := v
    replace h : rl_law17_encoded_l9 p1 x6 x7 x8 x9 x10 = some o := h
    unfold rl_law17_encoded_l9 at h
    show AW _ ⟨[(0, .c (.ptr 0 3 0 0)), (1, .c (.t (.v (.int .i64 p1)))), (4, .c (.ptr 1 3 0 0)), (5, .c (.ptr 2 3 0 0)), (6, .c (.t (.v (.int .i64 x6))))], [(0, .box 66 [.t (.tree x7.length 1 (Ri64 x7)), .t (.v (.int .i64 x8)), .t (.v (.int .u64 x9))]), (1, .box 43 [.t (.v (.int .i64 0)), .t (.v (.int .i64 0)), .t (.v (.slice none 0 0))]), (2, .box 43 [.t (.v (.int .i64 1)), .t (.v (.int .i64 1)), .ref 3 2 0 x10.length]), (3, .row 29 false 2 x10.length (RS_api_Bits x10))], 4⟩ _ _
    refine AW.seq ?_
    refine AW.seq ?_
    refine AW.reg tt_ok1 [0, 1, 4, 5, 6, 10] [0, 1, 2, 3] [] ⟨[(10, .c (.t (.v (.bool (decide (x6 < p1)))))), (0, .c (.ptr 0 3 0 0)), (1, .c (.t (.v (.int .i64 p1)))), (4, .c (.ptr 1 3 0 0)), (5, .c (.ptr 2 3 0 0)), (6, .c (.t (.v (.int .i64 x6))))], [(0, .box 66 [.t (.tree x7.length 1 (Ri64 x7)), .t (.v (.int .i64 x8)), .t (.v (.int .u64 x9))]), (1, .box 43 [.t (.v (.int .i64 0)), .t (.v (.int .i64 0)), .t (.v (.slice none 0 0))]), (2, .box 43 [.t (.v (.int .i64 1)), .t (.v (.int .i64 1)), .ref 3 2 0 x10.length]), (3, .row 29 false 2 x10.length (RS_api_Bits x10))], 7⟩ [True, True, True] (by kernel_rfl) (by kernel_rfl) ⟨trivial, trivial, trivial, trivial⟩ ?_
    refine AW.thenQ_normal ?_
    refine AW.cond (b := decide (x6 < p1)) (by kernel_rfl) (fun c15 => ?_) (fun c15 => ?_)
    · rw [if_pos c15] at h
      refine AW.skip ?_
      refine AW.thenQ_normal ?_
      refine AW.seq ?_
      refine AW.join (ι := (List Int) × Int × Int × (List S_api_Bits)) (fun v => ⟨[(0, .c (.ptr 0 3 0 0)), (1, .c (.t (.v (.int .i64 p1)))), (4, .c (.ptr 1 3 0 0)), (5, .c (.ptr 2 3 0 0)), (6, .c (.t (.v (.int .i64 x6))))], [(0, .box 66 [.t (.tree v.1.length 1 (Ri64 v.1)), .t (.v (.int .i64 v.2.1)), .t (.v (.int .u64 v.2.2.1))]), (1, .box 43 [.t (.v (.int .i64 0)), .t (.v (.int .i64 0)), .t (.v (.slice none 0 0))]), (2, .box 43 [.t (.v (.int .i64 1)), .t (.v (.int .i64 1)), .ref 3 2 0 v.2.2.2.length]), (3, .row 29 false 2 v.2.2.2.length (RS_api_Bits v.2.2.2))], 4⟩) (fun v : (List Int) × Int × Int × (List S_api_Bits) => rl_law17_encoded_k10 x6 v.1 v.2.1 v.2.2.1 v.2.2.2 = some o) (fun v h => ?_) ?_
      ·
        obtain ⟨x16, x17, x18, x19⟩ := v
        replace h : rl_law17_encoded_k10 x6 x16 x17 x18 x19 = some o := h
        unfold rl_law17_encoded_k10 at h
        show (_ : Exit → St → Prop) .normal ⟨[(0, .c (.ptr 0 3 0 0)), (1, .c (.t (.v (.int .i64 p1)))), (4, .c (.ptr 1 3 0 0)), (5, .c (.ptr 2 3 0 0)), (6, .c (.t (.v (.int .i64 x6))))], [(0, .box 66 [.t (.tree x16.length 1 (Ri64 x16)), .t (.v (.int .i64 x17)), .t (.v (.int .u64 x18))]), (1, .box 43 [.t (.v (.int .i64 0)), .t (.v (.int .i64 0)), .t (.v (.slice none 0 0))]), (2, .box 43 [.t (.v (.int .i64 1)), .t (.v (.int .i64 1)), .ref 3 2 0 x19.length]), (3, .row 29 false 2 x19.length (RS_api_Bits x19))], 4⟩
        refine AW.thenQ_normal ?_
        refine AW.reg tt_ok1 [0, 1, 4, 5, 6] [0, 1, 2, 3] [] ⟨[(6, .c (.t (.v (.int .i64 (IntKind.i64.wrap (x6 + 1)))))), (0, .c (.ptr 0 3 0 0)), (1, .c (.t (.v (.int .i64 p1)))), (4, .c (.ptr 1 3 0 0)), (5, .c (.ptr 2 3 0 0))], [(0, .box 66 [.t (.tree x16.length 1 (Ri64 x16)), .t (.v (.int .i64 x17)), .t (.v (.int .u64 x18))]), (1, .box 43 [.t (.v (.int .i64 0)), .t (.v (.int .i64 0)), .t (.v (.slice none 0 0))]), (2, .box 43 [.t (.v (.int .i64 1)), .t (.v (.int .i64 1)), .ref 3 2 0 x19.length]), (3, .row 29 false 2 x19.length (RS_api_Bits x19))], 7⟩ [True, True, True] (by kernel_rfl) (by kernel_rfl) ⟨trivial, trivial, trivial, trivial⟩ ?_
        obtain rfl := some_inj h
        refine loopQ_next (conv_ren [(0, 0), (1, 1), (2, 2), (3, 3)] [0, 1, 4, 5, 6] (n := 4) (by kernel_rfl) (by kernel_rfl))
      ·
        refine AW.block ?_
        refine AW.seq ?_
        obtain ⟨y20, y21, e22, h⟩ := bind2_some h
        refine AW.reg tt_ok1 [0, 1, 4, 5, 6, 14] [0, 1, 2, 3] [{}, { call := some { ids := [0], frz := [], flat := false, cnt := 0, args := [.c (.ptr 0 3 0 0), .c (.t (.v (.int .i64 6)))], out := .c (.t (.v (.int .i64 y20))), outb := [(0, .box 66 [.t (.tree y21.list.length 1 (Ri64 y21.list)), .t (.v (.int .i64 y21.at_)), .t (.v (.int .u64 y21.state))])] } }] ⟨[(14, .c (.t (.v (.int .i64 y20)))), (0, .c (.ptr 0 3 0 0)), (1, .c (.t (.v (.int .i64 p1)))), (4, .c (.ptr 1 3 0 0)), (5, .c (.ptr 2 3 0 0)), (6, .c (.t (.v (.int .i64 x6))))], [(0, .box 66 [.t (.tree y21.list.length 1 (Ri64 y21.list)), .t (.v (.int .i64 y21.at_)), .t (.v (.int .u64 y21.state))]), (1, .box 43 [.t (.v (.int .i64 0)), .t (.v (.int .i64 0)), .t (.v (.slice none 0 0))]), (2, .box 43 [.t (.v (.int .i64 1)), .t (.v (.int .i64 1)), .ref 3 2 0 x10.length]), (3, .row 29 false 2 x10.length (RS_api_Bits x10))], 8⟩ [True, ((True) ∧ (True) ∧ (True)) ∧ (All2 ArgLe [.c (.ptr 0 3 0 0), .c (.t (.v (.int .i64 6)))] [.c (.ptr 0 3 0 0), .c (.t (.v (.int .i64 6)))]) ∧ ((false = true → flatB [(0, .box 66 [.t (.tree y21.list.length 1 (Ri64 y21.list)), .t (.v (.int .i64 y21.at_)), .t (.v (.int .u64 y21.state))])])) ∧ (Con Try.prog 16 [.c (.ptr 0 3 0 0), .c (.t (.v (.int .i64 6)))] [(0, .box 66 [.t (.tree x7.length 1 (Ri64 x7)), .t (.v (.int .i64 x8)), .t (.v (.int .u64 x9))])] (.c (.t (.v (.int .i64 y20)))) [(0, .box 66 [.t (.tree y21.list.length 1 (Ri64 y21.list)), .t (.v (.int .i64 y21.at_)), .t (.v (.int .u64 y21.state))])])] (by kernel_rfl) (by kernel_rfl) ⟨trivial, ⟨⟨trivial, trivial, trivial⟩, ⟨ArgLe.refl _, ArgLe.refl _, trivial⟩, (fun h => by cases h), (rl_make_Deck_Next_con (⟨x7, x8, x9⟩ : S_recordlinkmake_Deck) 6 y20 y21 e22)⟩, trivial⟩ ?_
        refine AW.thenQ_normal ?_
        refine AW.block ?_
        refine AW.seq ?_
        refine AW.reg tt_ok1 [0, 1, 4, 5, 6, 22] [0, 1, 2, 3] [] ⟨[(22, .c (.t (.v (.bool (y20 == 0))))), (0, .c (.ptr 0 3 0 0)), (1, .c (.t (.v (.int .i64 p1)))), (4, .c (.ptr 1 3 0 0)), (5, .c (.ptr 2 3 0 0)), (6, .c (.t (.v (.int .i64 x6))))], [(0, .box 66 [.t (.tree y21.list.length 1 (Ri64 y21.list)), .t (.v (.int .i64 y21.at_)), .t (.v (.int .u64 y21.state))]), (1, .box 43 [.t (.v (.int .i64 0)), .t (.v (.int .i64 0)), .t (.v (.slice none 0 0))]), (2, .box 43 [.t (.v (.int .i64 1)), .t (.v (.int .i64 1)), .ref 3 2 0 x10.length]), (3, .row 29 false 2 x10.length (RS_api_Bits x10))], 10⟩ [True, True] (by kernel_rfl) (by kernel_rfl) ⟨trivial, trivial, trivial⟩ ?_
        refine AW.thenQ_normal ?_
        refine AW.cond (b := (y20 == 0)) (by kernel_rfl) (fun c23 => ?_) (fun c23 => ?_)
        · rw [if_pos c23] at h
          obtain ⟨g24, h⟩ := ifc h
          refine AW.reg tt_ok1 [0, 1, 4, 5, 6] [0, 1, 2, 14] [{}, {}, {}, { h := { row := some (([(⟨0, ([] : List Int)⟩ : S_api_Bits)] : List S_api_Bits).length, RS_api_Bits ([(⟨0, ([] : List Int)⟩ : S_api_Bits)] : List S_api_Bits)) } }, { h := { row := some ((x10 ++ ([(⟨0, ([] : List Int)⟩ : S_api_Bits)] : List S_api_Bits)).length, RS_api_Bits (x10 ++ ([(⟨0, ([] : List Int)⟩ : S_api_Bits)] : List S_api_Bits))) } }] ⟨[(0, .c (.ptr 0 3 0 0)), (1, .c (.t (.v (.int .i64 p1)))), (4, .c (.ptr 1 3 0 0)), (5, .c (.ptr 2 3 0 0)), (6, .c (.t (.v (.int .i64 x6))))], [(2, .box 43 [.t (.v (.int .i64 1)), .t (.v (.int .i64 1)), .ref 14 2 0 ((x10 ++ ([(⟨0, ([] : List Int)⟩ : S_api_Bits)] : List S_api_Bits)).length)]), (14, .row 29 false 2 (x10 ++ ([(⟨0, ([] : List Int)⟩ : S_api_Bits)] : List S_api_Bits)).length (RS_api_Bits (x10 ++ ([(⟨0, ([] : List Int)⟩ : S_api_Bits)] : List S_api_Bits)))), (0, .box 66 [.t (.tree y21.list.length 1 (Ri64 y21.list)), .t (.v (.int .i64 y21.at_)), .t (.v (.int .u64 y21.state))]), (1, .box 43 [.t (.v (.int .i64 0)), .t (.v (.int .i64 0)), .t (.v (.slice none 0 0))])], 17⟩ [True, True, True, 1 = ([(⟨0, ([] : List Int)⟩ : S_api_Bits)] : List S_api_Bits).length ∧ ∀ i, i < ([(⟨0, ([] : List Int)⟩ : S_api_Bits)] : List S_api_Bits).length → ∀ j, j < 2 → TLe ((rowOf [.v (.int .i64 0), .v (.slice none 0 0)] 2) i j) (RS_api_Bits ([(⟨0, ([] : List Int)⟩ : S_api_Bits)] : List S_api_Bits) i j), (x10.length = x10.length) ∧ (0 + ([(⟨0, ([] : List Int)⟩ : S_api_Bits)] : List S_api_Bits).length ≤ ([(⟨0, ([] : List Int)⟩ : S_api_Bits)] : List S_api_Bits).length) ∧ ((x10.length + ([(⟨0, ([] : List Int)⟩ : S_api_Bits)] : List S_api_Bits).length ≤ 1099511627776) ∧ ((32 : Nat) ≤ 128)) ∧ (x10.length + ([(⟨0, ([] : List Int)⟩ : S_api_Bits)] : List S_api_Bits).length = (x10 ++ ([(⟨0, ([] : List Int)⟩ : S_api_Bits)] : List S_api_Bits)).length ∧ ∀ i, i < (x10 ++ ([(⟨0, ([] : List Int)⟩ : S_api_Bits)] : List S_api_Bits)).length → ∀ j, j < 2 → TLe ((appRow x10.length (RS_api_Bits x10) (fun i j => RS_api_Bits ([(⟨0, ([] : List Int)⟩ : S_api_Bits)] : List S_api_Bits) (0 + i) j)) i j) (RS_api_Bits (x10 ++ ([(⟨0, ([] : List Int)⟩ : S_api_Bits)] : List S_api_Bits)) i j)), True, True] (by kernel_rfl) (by kernel_rfl) ⟨trivial, trivial, trivial, ⟨rfl, lit_row (n := 1) (sz := 2) ⟨trivial, ⟨⟨trivial, TLe.refl _⟩, TLe.nil rfl⟩⟩⟩, ⟨rfl, le0, ⟨g24, (by decide)⟩, rowT (app_row rfl rfl row_rfl (fun i _ j _ => congrArg (fun k => RS_api_Bits ([(⟨0, ([] : List Int)⟩ : S_api_Bits)] : List S_api_Bits) k j) (Nat.zero_add i)))⟩, trivial, trivial, trivial⟩ ?_
          refine AW.inBlock_normal ?_
          refine AW.inBlock_normal ?_
          exact joinQ_leaf ((y21.list, y21.at_, y21.state, (x10 ++ ([(⟨0, ([] : List Int)⟩ : S_api_Bits)] : List S_api_Bits)))) h (conv_ren [(0, 0), (1, 1), (2, 2), (3, 14)] [0, 1, 4, 5, 6] (n := 4) (by kernel_rfl) (by kernel_rfl))
        · rw [if_neg (by rw [c23]; exact Bool.false_ne_true)] at h
          obtain ⟨y25, y26, e27, h⟩ := bind2_some h
          obtain ⟨g28, h⟩ := ifc h
          refine AW.regD tt_ok1 mo1 [0, 1, 0, 4, 12, 31, 63, 127] [[], [], [], [0], [13], [14, 3], [], [2]] [0, 1, 4, 5, 6] [0, 1, 2, 14] [{}, {}, {}, { call := some { ids := [0], frz := [], flat := false, cnt := 0, args := [.c (.ptr 0 3 0 0), .c (.t (.v (.int .i64 64)))], out := .agg [.t (.v (.int .i64 y25.Length)), .t (.tree y25.Words.length 1 (Ru64 y25.Words))], outb := [(0, .box 66 [.t (.tree y26.list.length 1 (Ri64 y26.list)), .t (.v (.int .i64 y26.at_)), .t (.v (.int .u64 y26.state))])] } }, { h := { row := some (([y25] : List S_api_Bits).length, RS_api_Bits ([y25] : List S_api_Bits)) } }, { h := { row := some ((x10 ++ ([y25] : List S_api_Bits)).length, RS_api_Bits (x10 ++ ([y25] : List S_api_Bits))) } }] ⟨[(0, .c (.ptr 0 3 0 0)), (1, .c (.t (.v (.int .i64 p1)))), (4, .c (.ptr 1 3 0 0)), (5, .c (.ptr 2 3 0 0)), (6, .c (.t (.v (.int .i64 x6))))], [(2, .box 43 [.t (.v (.int .i64 1)), .t (.v (.int .i64 1)), .ref 14 2 0 ((x10 ++ ([y25] : List S_api_Bits)).length)]), (14, .row 29 false 2 (x10 ++ ([y25] : List S_api_Bits)).length (RS_api_Bits (x10 ++ ([y25] : List S_api_Bits)))), (0, .box 66 [.t (.tree y26.list.length 1 (Ri64 y26.list)), .t (.v (.int .i64 y26.at_)), .t (.v (.int .u64 y26.state))]), (1, .box 43 [.t (.v (.int .i64 0)), .t (.v (.int .i64 0)), .t (.v (.slice none 0 0))])], 17⟩ [True, True, True, ((True) ∧ (True) ∧ (True)) ∧ (All2 ArgLe [.c (.ptr 0 3 0 0), .c (.t (.v (.int .i64 64)))] [.c (.ptr 0 3 0 0), .c (.t (.v (.int .i64 64)))]) ∧ ((false = true → flatB [(0, .box 66 [.t (.tree y26.list.length 1 (Ri64 y26.list)), .t (.v (.int .i64 y26.at_)), .t (.v (.int .u64 y26.state))])])) ∧ (Con Try.prog 15 [.c (.ptr 0 3 0 0), .c (.t (.v (.int .i64 64)))] [(0, .box 66 [.t (.tree y21.list.length 1 (Ri64 y21.list)), .t (.v (.int .i64 y21.at_)), .t (.v (.int .u64 y21.state))])] (.agg [.t (.v (.int .i64 y25.Length)), .t (.tree y25.Words.length 1 (Ru64 y25.Words))]) [(0, .box 66 [.t (.tree y26.list.length 1 (Ri64 y26.list)), .t (.v (.int .i64 y26.at_)), .t (.v (.int .u64 y26.state))])]), 1 = ([y25] : List S_api_Bits).length ∧ ∀ i, i < ([y25] : List S_api_Bits).length → ∀ j, j < 2 → TLe ((rowOf [.v (.int .i64 y25.Length), .tree y25.Words.length 1 (Ru64 y25.Words)] 2) i j) (RS_api_Bits ([y25] : List S_api_Bits) i j), (x10.length = x10.length) ∧ (0 + ([y25] : List S_api_Bits).length ≤ ([y25] : List S_api_Bits).length) ∧ ((x10.length + ([y25] : List S_api_Bits).length ≤ 1099511627776) ∧ ((32 : Nat) ≤ 128)) ∧ (x10.length + ([y25] : List S_api_Bits).length = (x10 ++ ([y25] : List S_api_Bits)).length ∧ ∀ i, i < (x10 ++ ([y25] : List S_api_Bits)).length → ∀ j, j < 2 → TLe ((appRow x10.length (RS_api_Bits x10) (fun i j => RS_api_Bits ([y25] : List S_api_Bits) (0 + i) j)) i j) (RS_api_Bits (x10 ++ ([y25] : List S_api_Bits)) i j)), True, True] (by kernel_rfl) (by kernel_rfl) ⟨trivial, trivial, trivial, ⟨⟨trivial, trivial, trivial⟩, ⟨ArgLe.refl _, ArgLe.refl _, trivial⟩, (fun h => by cases h), (rl_make_Deck_Bits_conT y21 64 y25 y26 e27)⟩, ⟨rfl, lit_row (n := 1) (sz := 2) ⟨trivial, ⟨⟨trivial, TLe.refl _⟩, TLe.refl _⟩⟩⟩, ⟨rfl, le0, ⟨g28, (by decide)⟩, rowT (app_row rfl rfl row_rfl (fun i _ j _ => congrArg (fun k => RS_api_Bits ([y25] : List S_api_Bits) k j) (Nat.zero_add i)))⟩, trivial, trivial, trivial⟩ ?_
          refine AW.inBlock_normal ?_
          refine AW.inBlock_normal ?_
          exact joinQ_leaf ((y26.list, y26.at_, y26.state, (x10 ++ ([y25] : List S_api_Bits)))) h (conv_ren [(0, 0), (1, 1), (2, 2), (3, 14)] [0, 1, 4, 5, 6] (n := 4) (by kernel_rfl) (by kernel_rfl))
    · rw [if_neg (by rw [c15]; exact Bool.false_ne_true)] at h
      refine AW.exit ?_
      refine AW.thenQ_exit ?_
      obtain rfl := some_inj h
      refine loopQ_out rfl (conv_ren [(0, 0), (1, 1), (2, 2), (3, 3)] [4, 5] (n := 4) (by kernel_rfl) (by kernel_rfl))
  ·
    show (_ : Exit → St → Prop) (.exit 0) ⟨[(4, .c (.ptr 1 3 0 0)), (5, .c (.ptr 2 3 0 0))], [(0, .box 66 [.t (.tree x29.length 1 (Ri64 x29)), .t (.v (.int .i64 x30)), .t (.v (.int .u64 x31))]), (1, .box 43 [.t (.v (.int .i64 0)), .t (.v (.int .i64 0)), .t (.v (.slice none 0 0))]), (2, .box 43 [.t (.v (.int .i64 1)), .t (.v (.int .i64 1)), .ref 3 2 0 x32.length]), (3, .row 29 false 2 x32.length (RS_api_Bits x32))], 4⟩
    refine AW.inBlock_hit ?_
    refine AW.thenQ_normal ?_
    refine AW.seq ?_
    refine AW.reg tt_ok1 [4] [0, 1, 3] [] ⟨[(4, .c (.ptr 1 3 0 0))], [(1, .box 43 [.t (.v (.int .i64 1)), .t (.v (.int .i64 1)), .ref 3 2 0 x32.length]), (0, .box 66 [.t (.tree x29.length 1 (Ri64 x29)), .t (.v (.int .i64 x30)), .t (.v (.int .u64 x31))]), (3, .row 29 false 2 x32.length (RS_api_Bits x32))], 6⟩ [True, True] (by kernel_rfl) (by kernel_rfl) ⟨trivial, trivial, trivial⟩ ?_
    refine AW.thenQ_normal ?_
    refine AW.ret ?_
    obtain rfl := some_inj h
    exact ⟨_, Conv.refl _ _, .inr rfl, OutOk.mk [(0, 0), (1, 3)] 2 (out0 := .agg [.t (.v (.int .i64 1)), .t (.v (.int .i64 1)), .ref 3 2 0 x32.length]) (ps := [True]) (by kernel_rfl) ⟨trivial, trivial⟩ (by kernel_rfl) (by kernel_rfl)⟩
/-! recordlink/similarity.Compare -/
noncomputable def similarity_Compare_l6 (p0 : S_api_Encoded) (p1 : S_api_Encoded) (x5 : List Int) (x6 : Int) : Option (((List Int) × Int) ⊕ (List Int)) := if (decide (x6 < ((p0.Fields.length : Nat) : Int))) = true then (if 0 ≤ x6 then (if x6 < ((p0.Fields.length : Nat) : Int) then (if x6 < ((p1.Fields.length : Nat) : Int) then ((similarity_Dice (p0.Fields.getD x6.toNat dS_api_Bits) (p1.Fields.getD x6.toNat dS_api_Bits)).bind fun y12 => (if x5.length + ([y12] : List Int).length ≤ 1099511627776 then (some (.inl ((x5 ++ ([y12] : List Int)), IntKind.i64.wrap (x6 + 1)))) else none)) else none) else none) else none) else (some (.inr x5))
noncomputable def similarity_Compare_k4 (p0 : S_api_Encoded) (p1 : S_api_Encoded) (x1 : Bool) : Option ((List Int) × Int) := if x1 = true then (some (([] : List Int), 8)) else ((loop (fun v : (List Int) × Int => similarity_Compare_l6 p0 p1 v.1 v.2) (([] : List Int), 0)).bind fun x15 => (some (x15, 0)))
noncomputable def similarity_Compare (p0 : S_api_Encoded) (p1 : S_api_Encoded) : Option ((List Int) × Int) := if (((p0.Fields.length : Nat) : Int) != ((p1.Fields.length : Nat) : Int)) = true then (similarity_Compare_k4 p0 p1 true) else ((similarity_fields ((p0.Fields.length : Nat) : Int)).bind fun y18 => (similarity_Compare_k4 p0 p1 (!y18)))
set_option maxRecDepth 100000 in
set_option maxHeartbeats 10000000 in
theorem similarity_Compare_con (p0 : S_api_Encoded) (p1 : S_api_Encoded) (r0 : List Int) (r1 : Int) (h : similarity_Compare p0 p1 = some (r0, r1)) : Con Try.prog 24 [.agg [.t (.v (.int .i64 p0.ID)), .t (.v (.int .i64 p0.Version)), .t (.tree p0.Fields.length 2 (RS_api_Bits p0.Fields))], .agg [.t (.v (.int .i64 p1.ID)), .t (.v (.int .i64 p1.Version)), .t (.tree p1.Fields.length 2 (RS_api_Bits p1.Fields))]] [] (.tup [.c (.ref 0 1 0 r0.length), .c (.t (.v (.int .i64 r1)))]) [(0, .row 3 false 1 r0.length (Ri64 r0))] := by
  suffices H : ∀ r, similarity_Compare p0 p1 = some r → Con Try.prog 24 [.agg [.t (.v (.int .i64 p0.ID)), .t (.v (.int .i64 p0.Version)), .t (.tree p0.Fields.length 2 (RS_api_Bits p0.Fields))], .agg [.t (.v (.int .i64 p1.ID)), .t (.v (.int .i64 p1.Version)), .t (.tree p1.Fields.length 2 (RS_api_Bits p1.Fields))]] [] (.tup [.c (.ref 0 1 0 r.1.length), .c (.t (.v (.int .i64 r.2)))]) [(0, .row 3 false 1 r.1.length (Ri64 r.1))] from H (r0, r1) h
  clear h
  intro r h
  refine con_of tt_ok1 0 Try.func24 (by kernel_rfl) rfl (by kernel_rfl) (fun base X hk => AW.post ?_)
  unfold similarity_Compare at h
  refine AW.seq ?_
  refine AW.reg tt_ok1 [2, 3] [0, 1] [] ⟨[(3, .c (.ptr 1 3 0 0)), (2, .c (.ptr 0 3 0 0))], [(1, .box 43 [.t (.v (.int .i64 p1.ID)), .t (.v (.int .i64 p1.Version)), .t (.tree p1.Fields.length 2 (RS_api_Bits p1.Fields))]), (0, .box 43 [.t (.v (.int .i64 p0.ID)), .t (.v (.int .i64 p0.Version)), .t (.tree p0.Fields.length 2 (RS_api_Bits p0.Fields))])], 4⟩ [True, True, True, True] (by kernel_rfl) (by kernel_rfl) ⟨trivial, trivial, trivial, trivial, trivial⟩ ?_
  refine AW.thenQ_normal ?_
  refine AW.seq ?_
  refine AW.seq ?_
  refine AW.join (ι := Bool) (fun v => ⟨[(2, .c (.ptr 0 3 0 0)), (3, .c (.ptr 1 3 0 0)), (22, .c (.t (.v (.bool v))))], [(0, .box 43 [.t (.v (.int .i64 p0.ID)), .t (.v (.int .i64 p0.Version)), .t (.tree p0.Fields.length 2 (RS_api_Bits p0.Fields))]), (1, .box 43 [.t (.v (.int .i64 p1.ID)), .t (.v (.int .i64 p1.Version)), .t (.tree p1.Fields.length 2 (RS_api_Bits p1.Fields))])], 2⟩) (fun v : Bool => similarity_Compare_k4 p0 p1 v = some r) (fun v h => ?_) ?_
  ·
    obtain ⟨x1, rfl⟩ : ∃ x, x = v := ⟨_, rfl⟩
    replace h : similarity_Compare_k4 p0 p1 x1 = some r := h
    unfold similarity_Compare_k4 at h
    show (_ : Exit → St → Prop) .normal ⟨[(2, .c (.ptr 0 3 0 0)), (3, .c (.ptr 1 3 0 0)), (22, .c (.t (.v (.bool x1))))], [(0, .box 43 [.t (.v (.int .i64 p0.ID)), .t (.v (.int .i64 p0.Version)), .t (.tree p0.Fields.length 2 (RS_api_Bits p0.Fields))]), (1, .box 43 [.t (.v (.int .i64 p1.ID)), .t (.v (.int .i64 p1.Version)), .t (.tree p1.Fields.length 2 (RS_api_Bits p1.Fields))])], 2⟩
    refine AW.thenQ_normal ?_
    refine AW.cond (b := x1) (by kernel_rfl) (fun c2 => ?_) (fun c2 => ?_)
    · rw [if_pos c2] at h
      refine AW.seq ?_
      refine AW.reg tt_ok1 [4, 5] [] [] ⟨[(5, .c (.t (.v (.int .i64 8)))), (4, .c (.t (.v (.slice none 0 0))))], [], 4⟩ [True, True] (by kernel_rfl) (by kernel_rfl) ⟨trivial, trivial, trivial⟩ ?_
      refine AW.thenQ_normal ?_
      refine AW.ret ?_
      refine AW.thenQ_ret ?_
      obtain rfl := some_inj h
      exact ⟨_, conv_adopt (t := 4) (ty := 3) (sz := 1) (n := ([] : List Int).length) (f := Ri64 ([] : List Int)) (by kernel_rfl) rfl, .inr rfl, OutOk.mk [(0, 4)] 1 (out0 := .tup [.c (.ref 4 1 0 (([] : List Int).length)), .c (.t (.v (.int .i64 8)))]) (ps := [True, True]) (by kernel_rfl) ⟨trivial, trivial, trivial⟩ (by kernel_rfl) (by kernel_rfl)⟩
    · rw [if_neg (by rw [c2]; exact Bool.false_ne_true)] at h
      refine AW.skip ?_
      refine AW.thenQ_normal ?_
      refine AW.seq ?_
      refine AW.reg tt_ok1 [2, 3, 6] [0, 1] [] ⟨[(6, .c (.t (.v (.slice none 0 0)))), (2, .c (.ptr 0 3 0 0)), (3, .c (.ptr 1 3 0 0))], [(0, .box 43 [.t (.v (.int .i64 p0.ID)), .t (.v (.int .i64 p0.Version)), .t (.tree p0.Fields.length 2 (RS_api_Bits p0.Fields))]), (1, .box 43 [.t (.v (.int .i64 p1.ID)), .t (.v (.int .i64 p1.Version)), .t (.tree p1.Fields.length 2 (RS_api_Bits p1.Fields))])], 3⟩ [True] (by kernel_rfl) (by kernel_rfl) ⟨trivial, trivial⟩ ?_
      refine AW.thenQ_normal ?_
      refine AW.seq ?_
      refine AW.seq ?_
      refine AW.reg tt_ok1 [3, 6, 24, 25, 26] [1] [] ⟨[(26, .c (.t (.v (.int .i64 0)))), (25, .c (.t (.v (.int .i64 ((p0.Fields.length : Nat) : Int))))), (24, .c (.t (.tree p0.Fields.length 2 (RS_api_Bits p0.Fields)))), (6, .c (.t (.v (.slice none 0 0)))), (3, .c (.ptr 1 3 0 0))], [(1, .box 43 [.t (.v (.int .i64 p1.ID)), .t (.v (.int .i64 p1.Version)), .t (.tree p1.Fields.length 2 (RS_api_Bits p1.Fields))])], 7⟩ [True, True, True, True] (by kernel_rfl) (by kernel_rfl) ⟨trivial, trivial, trivial, trivial, trivial⟩ ?_
      refine AW.thenQ_normal ?_
      refine AW.block ?_
      obtain ⟨x15, l16, h⟩ := bnd_some h
      refine AW.pre (S' := ((fun v => ⟨[(3, .c (.ptr 0 3 0 0)), (6, .c (.ref 1 1 0 v.1.length)), (24, .c (.t (.tree p0.Fields.length 2 (RS_api_Bits p0.Fields)))), (25, .c (.t (.v (.int .i64 ((p0.Fields.length : Nat) : Int))))), (26, .c (.t (.v (.int .i64 v.2))))], [(0, .box 43 [.t (.v (.int .i64 p1.ID)), .t (.v (.int .i64 p1.Version)), .t (.tree p1.Fields.length 2 (RS_api_Bits p1.Fields))]), (1, .row 3 false 1 v.1.length (Ri64 v.1))], 2⟩) : ((List Int) × Int) → St) (([] : List Int), 0)) (Conv.trans (conv_adopt (t := 6) (ty := 3) (sz := 1) (n := ([] : List Int).length) (f := Ri64 ([] : List Int)) (by kernel_rfl) rfl) (conv_ren [(0, 1), (1, 7)] [3, 6, 24, 25, 26] (n := 2) (by kernel_rfl) (by kernel_rfl))) ?_
      refine AW.loop2 (step := (fun v : (List Int) × Int => similarity_Compare_l6 p0 p1 v.1 v.2)) (s0 := (([] : List Int), 0)) (t := x15) (fun v => ⟨[(3, .c (.ptr 0 3 0 0)), (6, .c (.ref 1 1 0 v.1.length)), (24, .c (.t (.tree p0.Fields.length 2 (RS_api_Bits p0.Fields)))), (25, .c (.t (.v (.int .i64 ((p0.Fields.length : Nat) : Int))))), (26, .c (.t (.v (.int .i64 v.2))))], [(0, .box 43 [.t (.v (.int .i64 p1.ID)), .t (.v (.int .i64 p1.Version)), .t (.tree p1.Fields.length 2 (RS_api_Bits p1.Fields))]), (1, .row 3 false 1 v.1.length (Ri64 v.1))], 2⟩) (fun t : List Int => (.exit 0, ⟨[(6, .c (.ref 0 1 0 t.length))], [(0, .row 3 false 1 t.length (Ri64 t))], 1⟩)) l16 (fun _ => trivial) ?_ ?_
      ·
        intro v o h
        obtain ⟨x5, x6⟩ := v
        replace h : similarity_Compare_l6 p0 p1 x5 x6 = some o := h
        unfold similarity_Compare_l6 at h
        show AW _ ⟨[(3, .c (.ptr 0 3 0 0)), (6, .c (.ref 1 1 0 x5.length)), (24, .c (.t (.tree p0.Fields.length 2 (RS_api_Bits p0.Fields)))), (25, .c (.t (.v (.int .i64 ((p0.Fields.length : Nat) : Int))))), (26, .c (.t (.v (.int .i64 x6))))], [(0, .box 43 [.t (.v (.int .i64 p1.ID)), .t (.v (.int .i64 p1.Version)), .t (.tree p1.Fields.length 2 (RS_api_Bits p1.Fields))]), (1, .row 3 false 1 x5.length (Ri64 x5))], 2⟩ _ _
        refine AW.seq ?_
        refine AW.reg tt_ok1 [3, 6, 24, 25, 26, 27] [0, 1] [] ⟨[(27, .c (.t (.v (.bool (decide (x6 < ((p0.Fields.length : Nat) : Int))))))), (3, .c (.ptr 0 3 0 0)), (6, .c (.ref 1 1 0 x5.length)), (24, .c (.t (.tree p0.Fields.length 2 (RS_api_Bits p0.Fields)))), (25, .c (.t (.v (.int .i64 ((p0.Fields.length : Nat) : Int))))), (26, .c (.t (.v (.int .i64 x6))))], [(0, .box 43 [.t (.v (.int .i64 p1.ID)), .t (.v (.int .i64 p1.Version)), .t (.tree p1.Fields.length 2 (RS_api_Bits p1.Fields))]), (1, .row 3 false 1 x5.length (Ri64 x5))], 3⟩ [True] (by kernel_rfl) (by kernel_rfl) ⟨trivial, trivial⟩ ?_
        refine AW.thenQ_normal ?_
        refine AW.seq ?_
        refine AW.cond (b := decide (x6 < ((p0.Fields.length : Nat) : Int))) (by kernel_rfl) (fun c8 => ?_) (fun c8 => ?_)
        · rw [if_pos c8] at h
          refine AW.skip ?_
          refine AW.thenQ_normal ?_
          refine AW.seq ?_
          refine AW.block ?_
          refine AW.seq ?_
          obtain ⟨g9, h⟩ := ifc h
          obtain ⟨g10, h⟩ := ifc h
          refine AW.reg tt_ok1 [3, 6, 7, 8, 24, 25, 26] [0, 1, 6] [] ⟨[(7, .c (.t (.v (.int .i64 x6)))), (8, .c (.ptr 6 2 0 0)), (3, .c (.ptr 0 3 0 0)), (6, .c (.ref 1 1 0 x5.length)), (24, .c (.t (.tree p0.Fields.length 2 (RS_api_Bits p0.Fields)))), (25, .c (.t (.v (.int .i64 ((p0.Fields.length : Nat) : Int))))), (26, .c (.t (.v (.int .i64 x6))))], [(6, .box 29 [.t (.v (.int .i64 ((p0.Fields.getD x6.toNat dS_api_Bits).Length))), .t (.tree (((p0.Fields.getD x6.toNat dS_api_Bits).Words).length) 1 (Ru64 ((p0.Fields.getD x6.toNat dS_api_Bits).Words)))]), (0, .box 43 [.t (.v (.int .i64 p1.ID)), .t (.v (.int .i64 p1.Version)), .t (.tree p1.Fields.length 2 (RS_api_Bits p1.Fields))]), (1, .row 3 false 1 x5.length (Ri64 x5))], 9⟩ [True, (0 ≤ x6) ∧ (x6 < ((p0.Fields.length : Nat) : Int)), True, True, True, True] (by kernel_rfl) (by kernel_rfl) ⟨trivial, ⟨g9, g10⟩, trivial, trivial, trivial, trivial, trivial⟩ ?_
          refine AW.thenQ_normal ?_
          obtain ⟨g11, h⟩ := ifc h
          obtain ⟨y12, e13, h⟩ := bnd_some h
          obtain ⟨g14, h⟩ := ifc h
          refine AW.regD tt_ok1 mo1 [0, 0, 0, 4, 0, 28, 60, 126, 254, 511, 1023] [[], [], [], [], [], [], [], [], [16], [17, 1], []] [3, 6, 24, 25, 26] [0, 17] [{}, {}, {}, {}, {}, {}, {}, { call := some { ids := [], frz := [], flat := true, cnt := 0, args := [.agg [.t (.v (.int .i64 ((p0.Fields.getD x6.toNat dS_api_Bits).Length))), .t (.tree (((p0.Fields.getD x6.toNat dS_api_Bits).Words).length) 1 (Ru64 ((p0.Fields.getD x6.toNat dS_api_Bits).Words)))], .agg [.t (.v (.int .i64 ((p1.Fields.getD x6.toNat dS_api_Bits).Length))), .t (.tree (((p1.Fields.getD x6.toNat dS_api_Bits).Words).length) 1 (Ru64 ((p1.Fields.getD x6.toNat dS_api_Bits).Words)))]], out := .c (.t (.v (.int .i64 y12))), outb := [] } }, { h := { row := some (([y12] : List Int).length, Ri64 ([y12] : List Int)) } }, { h := { row := some ((x5 ++ ([y12] : List Int)).length, Ri64 (x5 ++ ([y12] : List Int))) } }] ⟨[(6, .c (.ref 17 1 0 ((x5 ++ ([y12] : List Int)).length))), (3, .c (.ptr 0 3 0 0)), (24, .c (.t (.tree p0.Fields.length 2 (RS_api_Bits p0.Fields)))), (25, .c (.t (.v (.int .i64 ((p0.Fields.length : Nat) : Int))))), (26, .c (.t (.v (.int .i64 x6))))], [(17, .row 3 false 1 (x5 ++ ([y12] : List Int)).length (Ri64 (x5 ++ ([y12] : List Int)))), (0, .box 43 [.t (.v (.int .i64 p1.ID)), .t (.v (.int .i64 p1.Version)), .t (.tree p1.Fields.length 2 (RS_api_Bits p1.Fields))])], 19⟩ [True, True, True, True, True, (0 ≤ x6) ∧ (x6 < ((p1.Fields.length : Nat) : Int)), True, (((True) ∧ (True) ∧ (True)) ∧ ((True) ∧ (True) ∧ (True)) ∧ (True)) ∧ (All2 ArgLe [.agg [.t (.v (.int .i64 ((p0.Fields.getD x6.toNat dS_api_Bits).Length))), .t (.tree (((p0.Fields.getD x6.toNat dS_api_Bits).Words).length) 1 (Ru64 ((p0.Fields.getD x6.toNat dS_api_Bits).Words)))], .agg [.t (.v (.int .i64 ((p1.Fields.getD x6.toNat dS_api_Bits).Length))), .t (.tree (((p1.Fields.getD x6.toNat dS_api_Bits).Words).length) 1 (Ru64 ((p1.Fields.getD x6.toNat dS_api_Bits).Words)))]] [.agg [.t (.v (.int .i64 ((p0.Fields.getD x6.toNat dS_api_Bits).Length))), .t (.tree (((p0.Fields.getD x6.toNat dS_api_Bits).Words).length) 1 (Ru64 ((p0.Fields.getD x6.toNat dS_api_Bits).Words)))], .agg [.t (.v (.int .i64 ((p1.Fields.getD x6.toNat dS_api_Bits).Length))), .t (.tree (((p1.Fields.getD x6.toNat dS_api_Bits).Words).length) 1 (Ru64 ((p1.Fields.getD x6.toNat dS_api_Bits).Words)))]]) ∧ ((true = true → flatB [])) ∧ (Con Try.prog 17 [.agg [.t (.v (.int .i64 ((p0.Fields.getD x6.toNat dS_api_Bits).Length))), .t (.tree (((p0.Fields.getD x6.toNat dS_api_Bits).Words).length) 1 (Ru64 ((p0.Fields.getD x6.toNat dS_api_Bits).Words)))], .agg [.t (.v (.int .i64 ((p1.Fields.getD x6.toNat dS_api_Bits).Length))), .t (.tree (((p1.Fields.getD x6.toNat dS_api_Bits).Words).length) 1 (Ru64 ((p1.Fields.getD x6.toNat dS_api_Bits).Words)))]] [] (.c (.t (.v (.int .i64 y12)))) []), 1 = ([y12] : List Int).length ∧ ∀ i, i < ([y12] : List Int).length → ∀ j, j < 1 → TLe ((rowOf [.v (.int .i64 y12)] 1) i j) (Ri64 ([y12] : List Int) i j), (x5.length = x5.length) ∧ (0 + ([y12] : List Int).length ≤ ([y12] : List Int).length) ∧ ((x5.length + ([y12] : List Int).length ≤ 1099511627776) ∧ ((8 : Nat) ≤ 128)) ∧ (x5.length + ([y12] : List Int).length = (x5 ++ ([y12] : List Int)).length ∧ ∀ i, i < (x5 ++ ([y12] : List Int)).length → ∀ j, j < 1 → TLe ((appRow x5.length (Ri64 x5) (fun i j => Ri64 ([y12] : List Int) (0 + i) j)) i j) (Ri64 (x5 ++ ([y12] : List Int)) i j)), True] (by kernel_rfl) (by kernel_rfl) ⟨trivial, trivial, trivial, trivial, trivial, ⟨g9, g11⟩, trivial, ⟨⟨⟨trivial, trivial, trivial⟩, ⟨trivial, trivial, trivial⟩, trivial⟩, ⟨ArgLe.refl _, ArgLe.refl _, trivial⟩, (fun _ => trivial), (similarity_Dice_con (p0.Fields.getD x6.toNat dS_api_Bits) (p1.Fields.getD x6.toNat dS_api_Bits) y12 e13)⟩, ⟨rfl, lit_row (n := 1) (sz := 1) ⟨trivial, ⟨trivial, TLe.refl _⟩⟩⟩, ⟨rfl, le0, ⟨g14, (by decide)⟩, rowT (app_row rfl rfl row_rfl (fun i _ j _ => congrArg (fun k => Ri64 ([y12] : List Int) k j) (Nat.zero_add i)))⟩, trivial, trivial⟩ ?_
          refine AW.inBlock_normal ?_
          refine AW.thenQ_normal ?_
          refine AW.reg tt_ok1 [3, 6, 24, 25, 26] [0, 17] [] ⟨[(26, .c (.t (.v (.int .i64 (IntKind.i64.wrap (x6 + 1)))))), (6, .c (.ref 17 1 0 ((x5 ++ ([y12] : List Int)).length))), (3, .c (.ptr 0 3 0 0)), (24, .c (.t (.tree p0.Fields.length 2 (RS_api_Bits p0.Fields)))), (25, .c (.t (.v (.int .i64 ((p0.Fields.length : Nat) : Int)))))], [(17, .row 3 false 1 (x5 ++ ([y12] : List Int)).length (Ri64 (x5 ++ ([y12] : List Int)))), (0, .box 43 [.t (.v (.int .i64 p1.ID)), .t (.v (.int .i64 p1.Version)), .t (.tree p1.Fields.length 2 (RS_api_Bits p1.Fields))])], 21⟩ [True, True] (by kernel_rfl) (by kernel_rfl) ⟨trivial, trivial, trivial⟩ ?_
          obtain rfl := some_inj h
          refine loopQ_next (conv_ren [(0, 0), (1, 17)] [3, 6, 24, 25, 26] (n := 2) (by kernel_rfl) (by kernel_rfl))
        · rw [if_neg (by rw [c8]; exact Bool.false_ne_true)] at h
          refine AW.exit ?_
          refine AW.thenQ_exit ?_
          obtain rfl := some_inj h
          refine loopQ_out rfl (conv_ren [(0, 1)] [6] (n := 1) (by kernel_rfl) (by kernel_rfl))
      ·
        show (_ : Exit → St → Prop) (.exit 0) ⟨[(6, .c (.ref 0 1 0 x15.length))], [(0, .row 3 false 1 x15.length (Ri64 x15))], 1⟩
        refine AW.inBlock_hit ?_
        refine AW.thenQ_normal ?_
        refine AW.seq ?_
        refine AW.reg tt_ok1 [4, 5] [0] [] ⟨[(5, .c (.t (.v (.int .i64 0)))), (4, .c (.ref 0 1 0 x15.length))], [(0, .row 3 false 1 x15.length (Ri64 x15))], 4⟩ [True, True, True] (by kernel_rfl) (by kernel_rfl) ⟨trivial, trivial, trivial, trivial⟩ ?_
        refine AW.thenQ_normal ?_
        refine AW.ret ?_
        obtain rfl := some_inj h
        exact ⟨_, Conv.refl _ _, .inr rfl, OutOk.mk [(0, 0)] 1 (out0 := .tup [.c (.ref 0 1 0 x15.length), .c (.t (.v (.int .i64 0)))]) (ps := [True, True]) (by kernel_rfl) ⟨trivial, trivial, trivial⟩ (by kernel_rfl) (by kernel_rfl)⟩
  ·
    by_cases c17 : (((p0.Fields.length : Nat) : Int) != ((p1.Fields.length : Nat) : Int)) = true
    · rw [if_pos c17] at h
      refine AW.reg tt_ok1 [2, 3, 22] [0, 1] [{}, {}, {}, {}, {}, {}, { h := { b := some true } }] ⟨[(22, .c (.t (.v (.bool true)))), (3, .c (.ptr 1 3 0 0)), (2, .c (.ptr 0 3 0 0))], [(1, .box 43 [.t (.v (.int .i64 p1.ID)), .t (.v (.int .i64 p1.Version)), .t (.tree p1.Fields.length 2 (RS_api_Bits p1.Fields))]), (0, .box 43 [.t (.v (.int .i64 p0.ID)), .t (.v (.int .i64 p0.Version)), .t (.tree p0.Fields.length 2 (RS_api_Bits p0.Fields))])], 18⟩ [True, True, True, True, True, True, (((p0.Fields.length : Nat) : Int) != ((p1.Fields.length : Nat) : Int)) = true, True, True, True, True, True, True, True] (by kernel_rfl) (by kernel_rfl) ⟨trivial, trivial, trivial, trivial, trivial, trivial, c17, trivial, trivial, trivial, trivial, trivial, trivial, trivial, trivial⟩ ?_
      exact joinQ_leaf (true) h (conv_ren [(0, 0), (1, 1)] [2, 3, 22] (n := 2) (by kernel_rfl) (by kernel_rfl))
    · rw [if_neg c17] at h
      obtain ⟨y18, e19, h⟩ := bnd_some h
      refine AW.reg tt_ok1 [2, 3, 22] [0, 1] [{}, {}, {}, {}, {}, {}, { h := { b := some false } }, {}, {}, {}, {}, { call := some { ids := [], frz := [], flat := true, cnt := 0, args := [.c (.t (.v (.int .i64 ((p0.Fields.length : Nat) : Int))))], out := .c (.t (.v (.bool y18))), outb := [] } }] ⟨[(22, .c (.t (.v (.bool (!y18))))), (3, .c (.ptr 1 3 0 0)), (2, .c (.ptr 0 3 0 0))], [(1, .box 43 [.t (.v (.int .i64 p1.ID)), .t (.v (.int .i64 p1.Version)), .t (.tree p1.Fields.length 2 (RS_api_Bits p1.Fields))]), (0, .box 43 [.t (.v (.int .i64 p0.ID)), .t (.v (.int .i64 p0.Version)), .t (.tree p0.Fields.length 2 (RS_api_Bits p0.Fields))])], 17⟩ [True, True, True, True, True, True, (((p0.Fields.length : Nat) : Int) != ((p1.Fields.length : Nat) : Int)) = false, True, True, True, True, ((True) ∧ (True)) ∧ (All2 ArgLe [.c (.t (.v (.int .i64 ((p0.Fields.length : Nat) : Int))))] [.c (.t (.v (.int .i64 ((p0.Fields.length : Nat) : Int))))]) ∧ ((true = true → flatB [])) ∧ (Con Try.prog 56 [.c (.t (.v (.int .i64 ((p0.Fields.length : Nat) : Int))))] [] (.c (.t (.v (.bool y18)))) []), True, True] (by kernel_rfl) (by kernel_rfl) ⟨trivial, trivial, trivial, trivial, trivial, trivial, (off_false c17), trivial, trivial, trivial, trivial, ⟨⟨trivial, trivial⟩, ⟨ArgLe.refl _, trivial⟩, (fun _ => trivial), (similarity_fields_con ((p0.Fields.length : Nat) : Int) y18 e19)⟩, trivial, trivial, trivial⟩ ?_
      exact joinQ_leaf (!y18) h (conv_ren [(0, 0), (1, 1)] [2, 3, 22] (n := 2) (by kernel_rfl) (by kernel_rfl))
/-! recordlink/recordlinkref01.Ints -/
noncomputable def rl_ref01_Ints_l4 (p0 : List Int) (p1 : List Int) (x3 : Int) : Option (Int ⊕ (Unit ⊕ Unit)) := if (decide (x3 < ((p0.length : Nat) : Int))) = true then (if 0 ≤ x3 then (if x3 < ((p0.length : Nat) : Int) then (if x3 < ((p1.length : Nat) : Int) then (if ((p0.getD x3.toNat 0) != (p1.getD x3.toNat 0)) = true then (some (.inr (.inr ()))) else (some (.inl (IntKind.i64.wrap (x3 + 1))))) else none) else none) else none) else (some (.inr (.inl ())))
noncomputable def rl_ref01_Ints_a5 : Option Bool := some true
noncomputable def rl_ref01_Ints_a6 : Option Bool := some false
noncomputable def rl_ref01_Ints (p0 : List Int) (p1 : List Int) : Option Bool := if (((p0.length : Nat) : Int) != ((p1.length : Nat) : Int)) = true then (some false) else (bindE (loop (fun v : Int => rl_ref01_Ints_l4 p0 p1 v) 0) (fun t => rl_ref01_Ints_a5) (fun t => rl_ref01_Ints_a6))
set_option maxRecDepth 100000 in
set_option maxHeartbeats 10000000 in
theorem rl_ref01_Ints_con (p0 : List Int) (p1 : List Int) (r0 : Bool) (h : rl_ref01_Ints p0 p1 = some r0) : Con Try.prog 25 [.c (.t (.tree p0.length 1 (Ri64 p0))), .c (.t (.tree p1.length 1 (Ri64 p1)))] [] (.c (.t (.v (.bool r0)))) [] := by
  revert h; generalize r0 = r; intro h
  refine con_of tt_ok1 0 Try.func25 (by kernel_rfl) rfl (by kernel_rfl) (fun base X hk => AW.post ?_)
  unfold rl_ref01_Ints at h
  refine AW.seq ?_
  refine AW.reg tt_ok1 [0, 1] [] [] ⟨[(0, .c (.t (.tree p0.length 1 (Ri64 p0)))), (1, .c (.t (.tree p1.length 1 (Ri64 p1))))], [], 1⟩ [True] (by kernel_rfl) (by kernel_rfl) ⟨trivial, trivial⟩ ?_
  refine AW.thenQ_normal ?_
  refine AW.seq ?_
  refine AW.seq ?_
  refine AW.reg tt_ok1 [0, 1, 10] [] [] ⟨[(10, .c (.t (.v (.bool (((p0.length : Nat) : Int) != ((p1.length : Nat) : Int)))))), (0, .c (.t (.tree p0.length 1 (Ri64 p0)))), (1, .c (.t (.tree p1.length 1 (Ri64 p1))))], [], 6⟩ [True, True, True, True, True] (by kernel_rfl) (by kernel_rfl) ⟨trivial, trivial, trivial, trivial, trivial, trivial⟩ ?_
  refine AW.thenQ_normal ?_
  refine AW.cond (b := (((p0.length : Nat) : Int) != ((p1.length : Nat) : Int))) (by kernel_rfl) (fun c1 => ?_) (fun c1 => ?_)
  · rw [if_pos c1] at h
    refine AW.seq ?_
    refine AW.reg tt_ok1 [4] [] [] ⟨[(4, .c (.t (.v (.bool false))))], [], 7⟩ [True] (by kernel_rfl) (by kernel_rfl) ⟨trivial, trivial⟩ ?_
    refine AW.thenQ_normal ?_
    refine AW.ret ?_
    refine AW.thenQ_ret ?_
    obtain rfl := some_inj h
    exact ⟨_, Conv.refl _ _, .inr rfl, OutOk.mk [] 0 (out0 := .c (.t (.v (.bool false)))) (ps := [True]) (by kernel_rfl) ⟨trivial, trivial⟩ (by kernel_rfl) (by kernel_rfl)⟩
  · rw [if_neg (by rw [c1]; exact Bool.false_ne_true)] at h
    refine AW.skip ?_
    refine AW.thenQ_normal ?_
    refine AW.seq ?_
    refine AW.seq ?_
    refine AW.reg tt_ok1 [0, 1, 5] [] [] ⟨[(5, .c (.t (.v (.int .i64 0)))), (0, .c (.t (.tree p0.length 1 (Ri64 p0)))), (1, .c (.t (.tree p1.length 1 (Ri64 p1))))], [], 7⟩ [True] (by kernel_rfl) (by kernel_rfl) ⟨trivial, trivial⟩ ?_
    refine AW.thenQ_normal ?_
    refine AW.block ?_
    rcases bindE_some h with ⟨t, l9, h⟩ | ⟨t, l9, h⟩
    ·
      replace h : rl_ref01_Ints_a5 = some r := h
      unfold rl_ref01_Ints_a5 at h
      refine AW.pre (S' := ((fun v => ⟨[(0, .c (.t (.tree p0.length 1 (Ri64 p0)))), (1, .c (.t (.tree p1.length 1 (Ri64 p1)))), (5, .c (.t (.v (.int .i64 v))))], [], 0⟩) : Int → St) 0) (conv_ren [] [0, 1, 5] (n := 0) (by kernel_rfl) (by kernel_rfl)) ?_
      refine AW.loop2 (step := (fun v : Int => rl_ref01_Ints_l4 p0 p1 v)) (s0 := 0) (t := .inl ()) (fun v => ⟨[(0, .c (.t (.tree p0.length 1 (Ri64 p0)))), (1, .c (.t (.tree p1.length 1 (Ri64 p1)))), (5, .c (.t (.v (.int .i64 v))))], [], 0⟩) (fun t : (Unit ⊕ Unit) => match t with | .inl t => (.exit 0, ⟨[], [], 0⟩) | .inr t => (.ret, ⟨[(4, .c (.t (.v (.bool false))))], [], 0⟩)) l9 (fun t => by cases t <;> trivial) ?_ ?_
      ·
        clear l9 h
        intro v o h
        obtain ⟨x3, rfl⟩ : ∃ x, x = v := ⟨_, rfl⟩
        replace h : rl_ref01_Ints_l4 p0 p1 x3 = some o := h
        unfold rl_ref01_Ints_l4 at h
        show AW _ ⟨[(0, .c (.t (.tree p0.length 1 (Ri64 p0)))), (1, .c (.t (.tree p1.length 1 (Ri64 p1)))), (5, .c (.t (.v (.int .i64 x3))))], [], 0⟩ _ _
        refine AW.seq ?_
        refine AW.seq ?_
        refine AW.reg tt_ok1 [0, 1, 5, 14] [] [] ⟨[(14, .c (.t (.v (.bool (decide (x3 < ((p0.length : Nat) : Int))))))), (0, .c (.t (.tree p0.length 1 (Ri64 p0)))), (1, .c (.t (.tree p1.length 1 (Ri64 p1)))), (5, .c (.t (.v (.int .i64 x3))))], [], 4⟩ [True, True, True, True] (by kernel_rfl) (by kernel_rfl) ⟨trivial, trivial, trivial, trivial, trivial⟩ ?_
        refine AW.thenQ_normal ?_
        refine AW.cond (b := decide (x3 < ((p0.length : Nat) : Int))) (by kernel_rfl) (fun c4 => ?_) (fun c4 => ?_)
        · rw [if_pos c4] at h
          refine AW.skip ?_
          refine AW.thenQ_normal ?_
          refine AW.seq ?_
          refine AW.block ?_
          refine AW.seq ?_
          obtain ⟨g5, h⟩ := ifc h
          obtain ⟨g6, h⟩ := ifc h
          obtain ⟨g7, h⟩ := ifc h
          refine AW.regD tt_ok1 mo1 [0, 0, 3, 7, 0, 0, 48, 112, 255] [[], [], [], [], [], [], [], [], []] [0, 1, 5, 25] [] [] ⟨[(25, .c (.t (.v (.bool ((p0.getD x3.toNat 0) != (p1.getD x3.toNat 0)))))), (0, .c (.t (.tree p0.length 1 (Ri64 p0)))), (1, .c (.t (.tree p1.length 1 (Ri64 p1)))), (5, .c (.t (.v (.int .i64 x3))))], [], 13⟩ [True, True, (0 ≤ x3) ∧ (x3 < ((p0.length : Nat) : Int)), True, True, True, (0 ≤ x3) ∧ (x3 < ((p1.length : Nat) : Int)), True, True] (by kernel_rfl) (by kernel_rfl) ⟨trivial, trivial, ⟨g5, g6⟩, trivial, trivial, trivial, ⟨g5, g7⟩, trivial, trivial, trivial⟩ ?_
          refine AW.thenQ_normal ?_
          refine AW.cond (b := ((p0.getD x3.toNat 0) != (p1.getD x3.toNat 0))) (by kernel_rfl) (fun c8 => ?_) (fun c8 => ?_)
          · rw [if_pos c8] at h
            refine AW.seq ?_
            refine AW.reg tt_ok1 [4] [] [] ⟨[(4, .c (.t (.v (.bool false))))], [], 14⟩ [True] (by kernel_rfl) (by kernel_rfl) ⟨trivial, trivial⟩ ?_
            refine AW.thenQ_normal ?_
            refine AW.ret ?_
            refine AW.inBlock_ret ?_
            refine AW.thenQ_ret ?_
            obtain rfl := some_inj h
            refine loopQ_out rfl (conv_ren [] [4] (n := 0) (by kernel_rfl) (by kernel_rfl))
          · rw [if_neg (by rw [c8]; exact Bool.false_ne_true)] at h
            refine AW.skip ?_
            refine AW.inBlock_normal ?_
            refine AW.thenQ_normal ?_
            refine AW.reg tt_ok1 [0, 1, 5] [] [] ⟨[(5, .c (.t (.v (.int .i64 (IntKind.i64.wrap (x3 + 1)))))), (0, .c (.t (.tree p0.length 1 (Ri64 p0)))), (1, .c (.t (.tree p1.length 1 (Ri64 p1))))], [], 16⟩ [True, True, True] (by kernel_rfl) (by kernel_rfl) ⟨trivial, trivial, trivial, trivial⟩ ?_
            obtain rfl := some_inj h
            refine loopQ_next (conv_ren [] [0, 1, 5] (n := 0) (by kernel_rfl) (by kernel_rfl))
        · rw [if_neg (by rw [c4]; exact Bool.false_ne_true)] at h
          refine AW.exit ?_
          refine AW.thenQ_exit ?_
          obtain rfl := some_inj h
          refine loopQ_out rfl (conv_ren [] [] (n := 0) (by kernel_rfl) (by kernel_rfl))
      ·
        show (_ : Exit → St → Prop) (.exit 0) ⟨[], [], 0⟩
        refine AW.inBlock_hit ?_
        refine AW.thenQ_normal ?_
        refine AW.seq ?_
        refine AW.reg tt_ok1 [4] [] [] ⟨[(4, .c (.t (.v (.bool true))))], [], 1⟩ [True] (by kernel_rfl) (by kernel_rfl) ⟨trivial, trivial⟩ ?_
        refine AW.thenQ_normal ?_
        refine AW.ret ?_
        obtain rfl := some_inj h
        exact ⟨_, Conv.refl _ _, .inr rfl, OutOk.mk [] 0 (out0 := .c (.t (.v (.bool true)))) (ps := [True]) (by kernel_rfl) ⟨trivial, trivial⟩ (by kernel_rfl) (by kernel_rfl)⟩
    ·
      replace h : rl_ref01_Ints_a6 = some r := h
      unfold rl_ref01_Ints_a6 at h
      refine AW.pre (S' := ((fun v => ⟨[(0, .c (.t (.tree p0.length 1 (Ri64 p0)))), (1, .c (.t (.tree p1.length 1 (Ri64 p1)))), (5, .c (.t (.v (.int .i64 v))))], [], 0⟩) : Int → St) 0) (conv_ren [] [0, 1, 5] (n := 0) (by kernel_rfl) (by kernel_rfl)) ?_
      refine AW.loop2 (step := (fun v : Int => rl_ref01_Ints_l4 p0 p1 v)) (s0 := 0) (t := .inr ()) (fun v => ⟨[(0, .c (.t (.tree p0.length 1 (Ri64 p0)))), (1, .c (.t (.tree p1.length 1 (Ri64 p1)))), (5, .c (.t (.v (.int .i64 v))))], [], 0⟩) (fun t : (Unit ⊕ Unit) => match t with | .inl t => (.exit 0, ⟨[], [], 0⟩) | .inr t => (.ret, ⟨[(4, .c (.t (.v (.bool false))))], [], 0⟩)) l9 (fun t => by cases t <;> trivial) ?_ ?_
      ·
        clear l9 h
        intro v o h
        obtain ⟨x3, rfl⟩ : ∃ x, x = v := ⟨_, rfl⟩
        replace h : rl_ref01_Ints_l4 p0 p1 x3 = some o := h
        unfold rl_ref01_Ints_l4 at h
        show AW _ ⟨[(0, .c (.t (.tree p0.length 1 (Ri64 p0)))), (1, .c (.t (.tree p1.length 1 (Ri64 p1)))), (5, .c (.t (.v (.int .i64 x3))))], [], 0⟩ _ _
        refine AW.seq ?_
        refine AW.seq ?_
        refine AW.reg tt_ok1 [0, 1, 5, 14] [] [] ⟨[(14, .c (.t (.v (.bool (decide (x3 < ((p0.length : Nat) : Int))))))), (0, .c (.t (.tree p0.length 1 (Ri64 p0)))), (1, .c (.t (.tree p1.length 1 (Ri64 p1)))), (5, .c (.t (.v (.int .i64 x3))))], [], 4⟩ [True, True, True, True] (by kernel_rfl) (by kernel_rfl) ⟨trivial, trivial, trivial, trivial, trivial⟩ ?_
        refine AW.thenQ_normal ?_
        refine AW.cond (b := decide (x3 < ((p0.length : Nat) : Int))) (by kernel_rfl) (fun c4 => ?_) (fun c4 => ?_)
        · rw [if_pos c4] at h
          refine AW.skip ?_
          refine AW.thenQ_normal ?_
          refine AW.seq ?_
          refine AW.block ?_
          refine AW.seq ?_
          obtain ⟨g5, h⟩ := ifc h
          obtain ⟨g6, h⟩ := ifc h
          obtain ⟨g7, h⟩ := ifc h
          refine AW.regD tt_ok1 mo1 [0, 0, 3, 7, 0, 0, 48, 112, 255] [[], [], [], [], [], [], [], [], []] [0, 1, 5, 25] [] [] ⟨[(25, .c (.t (.v (.bool ((p0.getD x3.toNat 0) != (p1.getD x3.toNat 0)))))), (0, .c (.t (.tree p0.length 1 (Ri64 p0)))), (1, .c (.t (.tree p1.length 1 (Ri64 p1)))), (5, .c (.t (.v (.int .i64 x3))))], [], 13⟩ [True, True, (0 ≤ x3) ∧ (x3 < ((p0.length : Nat) : Int)), True, True, True, (0 ≤ x3) ∧ (x3 < ((p1.length : Nat) : Int)), True, True] (by kernel_rfl) (by kernel_rfl) ⟨trivial, trivial, ⟨g5, g6⟩, trivial, trivial, trivial, ⟨g5, g7⟩, trivial, trivial, trivial⟩ ?_
          refine AW.thenQ_normal ?_
          refine AW.cond (b := ((p0.getD x3.toNat 0) != (p1.getD x3.toNat 0))) (by kernel_rfl) (fun c8 => ?_) (fun c8 => ?_)
          · rw [if_pos c8] at h
            refine AW.seq ?_
            refine AW.reg tt_ok1 [4] [] [] ⟨[(4, .c (.t (.v (.bool false))))], [], 14⟩ [True] (by kernel_rfl) (by kernel_rfl) ⟨trivial, trivial⟩ ?_
            refine AW.thenQ_normal ?_
            refine AW.ret ?_
            refine AW.inBlock_ret ?_
            refine AW.thenQ_ret ?_
            obtain rfl := some_inj h
            refine loopQ_out rfl (conv_ren [] [4] (n := 0) (by kernel_rfl) (by kernel_rfl))
          · rw [if_neg (by rw [c8]; exact Bool.false_ne_true)] at h
            refine AW.skip ?_
            refine AW.inBlock_normal ?_
            refine AW.thenQ_normal ?_
            refine AW.reg tt_ok1 [0, 1, 5] [] [] ⟨[(5, .c (.t (.v (.int .i64 (IntKind.i64.wrap (x3 + 1)))))), (0, .c (.t (.tree p0.length 1 (Ri64 p0)))), (1, .c (.t (.tree p1.length 1 (Ri64 p1))))], [], 16⟩ [True, True, True] (by kernel_rfl) (by kernel_rfl) ⟨trivial, trivial, trivial, trivial⟩ ?_
            obtain rfl := some_inj h
            refine loopQ_next (conv_ren [] [0, 1, 5] (n := 0) (by kernel_rfl) (by kernel_rfl))
        · rw [if_neg (by rw [c4]; exact Bool.false_ne_true)] at h
          refine AW.exit ?_
          refine AW.thenQ_exit ?_
          obtain rfl := some_inj h
          refine loopQ_out rfl (conv_ren [] [] (n := 0) (by kernel_rfl) (by kernel_rfl))
      ·
        show (_ : Exit → St → Prop) (.ret) ⟨[(4, .c (.t (.v (.bool false))))], [], 0⟩
        refine AW.inBlock_ret ?_
        refine AW.thenQ_ret ?_
        obtain rfl := some_inj h
        exact ⟨_, Conv.refl _ _, .inr rfl, OutOk.mk [] 0 (out0 := .c (.t (.v (.bool false)))) (ps := [True]) (by kernel_rfl) ⟨trivial, trivial⟩ (by kernel_rfl) (by kernel_rfl)⟩
/-! recordlink/recordlinkref17.Size -/
noncomputable def rl_ref17_Size_l2 (p0 : Int) (x3 : Int) (x4 : Int) : Option ((Int × Int) ⊕ Int) := if (decide (x4 < p0)) = true then (some (.inl (IntKind.i64.wrap (x3 * 3), IntKind.i64.wrap (x4 + 1)))) else (some (.inr x3))
noncomputable def rl_ref17_Size (p0 : Int) : Option Int := (loop (fun v : Int × Int => rl_ref17_Size_l2 p0 v.1 v.2) (1, 0)).bind fun x7 => (some x7)
set_option maxRecDepth 100000 in
set_option maxHeartbeats 10000000 in
theorem rl_ref17_Size_con (p0 : Int) (r0 : Int) (h : rl_ref17_Size p0 = some r0) : Con Try.prog 26 [.c (.t (.v (.int .i64 p0)))] [] (.c (.t (.v (.int .i64 r0)))) [] := by
  revert h; generalize r0 = r; intro h
  refine con_of tt_ok1 0 Try.func26 (by kernel_rfl) rfl (by kernel_rfl) (fun base X hk => AW.post ?_)
  unfold rl_ref17_Size at h
  refine AW.seq ?_
  refine AW.reg tt_ok1 [0] [] [] ⟨[(0, .c (.t (.v (.int .i64 p0))))], [], 1⟩ [True] (by kernel_rfl) (by kernel_rfl) ⟨trivial, trivial⟩ ?_
  refine AW.thenQ_normal ?_
  refine AW.seq ?_
  refine AW.reg tt_ok1 [0, 3] [] [] ⟨[(3, .c (.t (.v (.int .i64 1)))), (0, .c (.t (.v (.int .i64 p0))))], [], 2⟩ [True] (by kernel_rfl) (by kernel_rfl) ⟨trivial, trivial⟩ ?_
  refine AW.thenQ_normal ?_
  refine AW.seq ?_
  refine AW.seq ?_
  refine AW.reg tt_ok1 [0, 3, 4] [] [] ⟨[(4, .c (.t (.v (.int .i64 0)))), (3, .c (.t (.v (.int .i64 1)))), (0, .c (.t (.v (.int .i64 p0))))], [], 3⟩ [True] (by kernel_rfl) (by kernel_rfl) ⟨trivial, trivial⟩ ?_
  refine AW.thenQ_normal ?_
  refine AW.block ?_
  obtain ⟨x7, l8, h⟩ := bnd_some h
  refine AW.pre (S' := ((fun v => ⟨[(0, .c (.t (.v (.int .i64 p0)))), (3, .c (.t (.v (.int .i64 v.1)))), (4, .c (.t (.v (.int .i64 v.2))))], [], 0⟩) : (Int × Int) → St) (1, 0)) (conv_ren [] [0, 3, 4] (n := 0) (by kernel_rfl) (by kernel_rfl)) ?_
  refine AW.loop2 (step := (fun v : Int × Int => rl_ref17_Size_l2 p0 v.1 v.2)) (s0 := (1, 0)) (t := x7) (fun v => ⟨[(0, .c (.t (.v (.int .i64 p0)))), (3, .c (.t (.v (.int .i64 v.1)))), (4, .c (.t (.v (.int .i64 v.2))))], [], 0⟩) (fun t : Int => (.exit 0, ⟨[(3, .c (.t (.v (.int .i64 t))))], [], 0⟩)) l8 (fun _ => trivial) ?_ ?_
  ·
    intro v o h
    obtain ⟨x3, x4⟩ := v
    replace h : rl_ref17_Size_l2 p0 x3 x4 = some o := h
    unfold rl_ref17_Size_l2 at h
    show AW _ ⟨[(0, .c (.t (.v (.int .i64 p0)))), (3, .c (.t (.v (.int .i64 x3)))), (4, .c (.t (.v (.int .i64 x4))))], [], 0⟩ _ _
    refine AW.seq ?_
    refine AW.seq ?_
    refine AW.reg tt_ok1 [0, 3, 4, 7] [] [] ⟨[(7, .c (.t (.v (.bool (decide (x4 < p0)))))), (0, .c (.t (.v (.int .i64 p0)))), (3, .c (.t (.v (.int .i64 x3)))), (4, .c (.t (.v (.int .i64 x4))))], [], 3⟩ [True, True, True] (by kernel_rfl) (by kernel_rfl) ⟨trivial, trivial, trivial, trivial⟩ ?_
    refine AW.thenQ_normal ?_
    refine AW.cond (b := decide (x4 < p0)) (by kernel_rfl) (fun c6 => ?_) (fun c6 => ?_)
    · rw [if_pos c6] at h
      refine AW.skip ?_
      refine AW.thenQ_normal ?_
      refine AW.seq ?_
      refine AW.block ?_
      refine AW.reg tt_ok1 [0, 3, 4] [] [] ⟨[(3, .c (.t (.v (.int .i64 (IntKind.i64.wrap (x3 * 3)))))), (0, .c (.t (.v (.int .i64 p0)))), (4, .c (.t (.v (.int .i64 x4))))], [], 6⟩ [True, True, True] (by kernel_rfl) (by kernel_rfl) ⟨trivial, trivial, trivial, trivial⟩ ?_
      refine AW.inBlock_normal ?_
      refine AW.thenQ_normal ?_
      refine AW.reg tt_ok1 [0, 3, 4] [] [] ⟨[(4, .c (.t (.v (.int .i64 (IntKind.i64.wrap (x4 + 1)))))), (3, .c (.t (.v (.int .i64 (IntKind.i64.wrap (x3 * 3)))))), (0, .c (.t (.v (.int .i64 p0))))], [], 9⟩ [True, True, True] (by kernel_rfl) (by kernel_rfl) ⟨trivial, trivial, trivial, trivial⟩ ?_
      obtain rfl := some_inj h
      refine loopQ_next (conv_ren [] [0, 3, 4] (n := 0) (by kernel_rfl) (by kernel_rfl))
    · rw [if_neg (by rw [c6]; exact Bool.false_ne_true)] at h
      refine AW.exit ?_
      refine AW.thenQ_exit ?_
      obtain rfl := some_inj h
      refine loopQ_out rfl (conv_ren [] [3] (n := 0) (by kernel_rfl) (by kernel_rfl))
  ·
    show (_ : Exit → St → Prop) (.exit 0) ⟨[(3, .c (.t (.v (.int .i64 x7))))], [], 0⟩
    refine AW.inBlock_hit ?_
    refine AW.thenQ_normal ?_
    refine AW.seq ?_
    refine AW.reg tt_ok1 [2] [] [] ⟨[(2, .c (.t (.v (.int .i64 x7))))], [], 2⟩ [True, True] (by kernel_rfl) (by kernel_rfl) ⟨trivial, trivial, trivial⟩ ?_
    refine AW.thenQ_normal ?_
    refine AW.ret ?_
    obtain rfl := some_inj h
    exact ⟨_, Conv.refl _ _, .inr rfl, OutOk.mk [] 0 (out0 := .c (.t (.v (.int .i64 x7)))) (ps := [True]) (by kernel_rfl) ⟨trivial, trivial⟩ (by kernel_rfl) (by kernel_rfl)⟩
/-! recordlink/similarity.Digits -/
noncomputable def similarity_Digits_l6 (p0 : Int) (p1 : Int) (x8 : List Int) (x9 : Int) : Option (((List Int) × Int) ⊕ (List Int)) := if (decide (x9 < p1)) = true then ((similarity_powers).bind fun y12 => (if 0 ≤ x9 then (if x9 < ((6 : Nat) : Int) then (if (y12.getD x9.toNat 0) ≠ 0 then (if x8.length + ([((IntKind.i64.wrap (p0.tdiv (y12.getD x9.toNat 0))).tmod 3)] : List Int).length ≤ 1099511627776 then (some (.inl ((x8 ++ ([((IntKind.i64.wrap (p0.tdiv (y12.getD x9.toNat 0))).tmod 3)] : List Int)), IntKind.i64.wrap (x9 + 1)))) else none) else none) else none) else none)) else (some (.inr x8))
noncomputable def similarity_Digits_k4 (p0 : Int) (p1 : Int) (x4 : Bool) : Option ((List Int) × Int) := if x4 = true then (some (([] : List Int), 2)) else ((loop (fun v : (List Int) × Int => similarity_Digits_l6 p0 p1 v.1 v.2) (([] : List Int), 0)).bind fun x18 => (some (x18, 0)))
noncomputable def similarity_Digits (p0 : Int) (p1 : Int) : Option ((List Int) × Int) := (similarity_fields p1).bind fun y1 => (if (!y1) = true then (some (([] : List Int), 8)) else (if (decide (p0 < 0)) = true then (similarity_Digits_k4 p0 p1 true) else ((similarity_powers).bind fun y21 => (if 0 ≤ p1 then (if p1 < ((6 : Nat) : Int) then (similarity_Digits_k4 p0 p1 (decide (p0 ≥ (y21.getD p1.toNat 0)))) else none) else none))))
set_option maxRecDepth 100000 in
set_option maxHeartbeats 10000000 in
theorem similarity_Digits_con (p0 : Int) (p1 : Int) (r0 : List Int) (r1 : Int) (h : similarity_Digits p0 p1 = some (r0, r1)) : Con Try.prog 27 [.c (.t (.v (.int .i64 p0))), .c (.t (.v (.int .i64 p1)))] [] (.tup [.c (.ref 0 1 0 r0.length), .c (.t (.v (.int .i64 r1)))]) [(0, .row 3 false 1 r0.length (Ri64 r0))] := by
  suffices H : ∀ r, similarity_Digits p0 p1 = some r → Con Try.prog 27 [.c (.t (.v (.int .i64 p0))), .c (.t (.v (.int .i64 p1)))] [] (.tup [.c (.ref 0 1 0 r.1.length), .c (.t (.v (.int .i64 r.2)))]) [(0, .row 3 false 1 r.1.length (Ri64 r.1))] from H (r0, r1) h
  clear h
  intro r h
  refine con_of tt_ok1 0 Try.func27 (by kernel_rfl) rfl (by kernel_rfl) (fun base X hk => AW.post ?_)
  unfold similarity_Digits at h
  refine AW.seq ?_
  refine AW.reg tt_ok1 [0, 1] [] [] ⟨[(0, .c (.t (.v (.int .i64 p0)))), (1, .c (.t (.v (.int .i64 p1))))], [], 2⟩ [True, True] (by kernel_rfl) (by kernel_rfl) ⟨trivial, trivial, trivial⟩ ?_
  refine AW.thenQ_normal ?_
  refine AW.seq ?_
  refine AW.seq ?_
  obtain ⟨y1, e2, h⟩ := bnd_some h
  refine AW.reg tt_ok1 [0, 1, 10] [] [{}, { call := some { ids := [], frz := [], flat := true, cnt := 0, args := [.c (.t (.v (.int .i64 p1)))], out := .c (.t (.v (.bool y1))), outb := [] } }] ⟨[(10, .c (.t (.v (.bool (!y1))))), (0, .c (.t (.v (.int .i64 p0)))), (1, .c (.t (.v (.int .i64 p1))))], [], 4⟩ [True, ((True) ∧ (True)) ∧ (All2 ArgLe [.c (.t (.v (.int .i64 p1)))] [.c (.t (.v (.int .i64 p1)))]) ∧ ((true = true → flatB [])) ∧ (Con Try.prog 56 [.c (.t (.v (.int .i64 p1)))] [] (.c (.t (.v (.bool y1)))) []), True] (by kernel_rfl) (by kernel_rfl) ⟨trivial, ⟨⟨trivial, trivial⟩, ⟨ArgLe.refl _, trivial⟩, (fun _ => trivial), (similarity_fields_con p1 y1 e2)⟩, trivial, trivial⟩ ?_
  refine AW.thenQ_normal ?_
  refine AW.cond (b := !y1) (by kernel_rfl) (fun c3 => ?_) (fun c3 => ?_)
  · rw [if_pos c3] at h
    refine AW.seq ?_
    refine AW.reg tt_ok1 [4, 5] [] [] ⟨[(5, .c (.t (.v (.int .i64 8)))), (4, .c (.t (.v (.slice none 0 0))))], [], 6⟩ [True, True] (by kernel_rfl) (by kernel_rfl) ⟨trivial, trivial, trivial⟩ ?_
    refine AW.thenQ_normal ?_
    refine AW.ret ?_
    refine AW.thenQ_ret ?_
    obtain rfl := some_inj h
    exact ⟨_, conv_adopt (t := 4) (ty := 3) (sz := 1) (n := ([] : List Int).length) (f := Ri64 ([] : List Int)) (by kernel_rfl) rfl, .inr rfl, OutOk.mk [(0, 6)] 1 (out0 := .tup [.c (.ref 6 1 0 (([] : List Int).length)), .c (.t (.v (.int .i64 8)))]) (ps := [True, True]) (by kernel_rfl) ⟨trivial, trivial, trivial⟩ (by kernel_rfl) (by kernel_rfl)⟩
  · rw [if_neg (by rw [c3]; exact Bool.false_ne_true)] at h
    refine AW.skip ?_
    refine AW.thenQ_normal ?_
    refine AW.seq ?_
    refine AW.seq ?_
    refine AW.join (ι := Bool) (fun v => ⟨[(0, .c (.t (.v (.int .i64 p0)))), (1, .c (.t (.v (.int .i64 p1)))), (19, .c (.t (.v (.bool v))))], [], 0⟩) (fun v : Bool => similarity_Digits_k4 p0 p1 v = some r) (fun v h => ?_) ?_
    ·
      obtain ⟨x4, rfl⟩ : ∃ x, x = v := ⟨_, rfl⟩
      replace h : similarity_Digits_k4 p0 p1 x4 = some r := h
      unfold similarity_Digits_k4 at h
      show (_ : Exit → St → Prop) .normal ⟨[(0, .c (.t (.v (.int .i64 p0)))), (1, .c (.t (.v (.int .i64 p1)))), (19, .c (.t (.v (.bool x4))))], [], 0⟩
      refine AW.thenQ_normal ?_
      refine AW.cond (b := x4) (by kernel_rfl) (fun c5 => ?_) (fun c5 => ?_)
      · rw [if_pos c5] at h
        refine AW.seq ?_
        refine AW.reg tt_ok1 [4, 5] [] [] ⟨[(5, .c (.t (.v (.int .i64 2)))), (4, .c (.t (.v (.slice none 0 0))))], [], 2⟩ [True, True] (by kernel_rfl) (by kernel_rfl) ⟨trivial, trivial, trivial⟩ ?_
        refine AW.thenQ_normal ?_
        refine AW.ret ?_
        refine AW.thenQ_ret ?_
        obtain rfl := some_inj h
        exact ⟨_, conv_adopt (t := 4) (ty := 3) (sz := 1) (n := ([] : List Int).length) (f := Ri64 ([] : List Int)) (by kernel_rfl) rfl, .inr rfl, OutOk.mk [(0, 2)] 1 (out0 := .tup [.c (.ref 2 1 0 (([] : List Int).length)), .c (.t (.v (.int .i64 2)))]) (ps := [True, True]) (by kernel_rfl) ⟨trivial, trivial, trivial⟩ (by kernel_rfl) (by kernel_rfl)⟩
      · rw [if_neg (by rw [c5]; exact Bool.false_ne_true)] at h
        refine AW.skip ?_
        refine AW.thenQ_normal ?_
        refine AW.seq ?_
        refine AW.reg tt_ok1 [0, 1, 6] [] [] ⟨[(6, .c (.t (.v (.slice none 0 0)))), (0, .c (.t (.v (.int .i64 p0)))), (1, .c (.t (.v (.int .i64 p1))))], [], 1⟩ [True] (by kernel_rfl) (by kernel_rfl) ⟨trivial, trivial⟩ ?_
        refine AW.thenQ_normal ?_
        refine AW.seq ?_
        refine AW.seq ?_
        refine AW.reg tt_ok1 [0, 6, 20, 21] [] [] ⟨[(21, .c (.t (.v (.int .i64 0)))), (20, .c (.t (.v (.int .i64 p1)))), (6, .c (.t (.v (.slice none 0 0)))), (0, .c (.t (.v (.int .i64 p0))))], [], 3⟩ [True, True] (by kernel_rfl) (by kernel_rfl) ⟨trivial, trivial, trivial⟩ ?_
        refine AW.thenQ_normal ?_
        refine AW.block ?_
        obtain ⟨x18, l19, h⟩ := bnd_some h
        refine AW.pre (S' := ((fun v => ⟨[(0, .c (.t (.v (.int .i64 p0)))), (6, .c (.ref 0 1 0 v.1.length)), (20, .c (.t (.v (.int .i64 p1)))), (21, .c (.t (.v (.int .i64 v.2))))], [(0, .row 3 false 1 v.1.length (Ri64 v.1))], 1⟩) : ((List Int) × Int) → St) (([] : List Int), 0)) (Conv.trans (conv_adopt (t := 6) (ty := 3) (sz := 1) (n := ([] : List Int).length) (f := Ri64 ([] : List Int)) (by kernel_rfl) rfl) (conv_ren [(0, 3)] [0, 6, 20, 21] (n := 1) (by kernel_rfl) (by kernel_rfl))) ?_
        refine AW.loop2 (step := (fun v : (List Int) × Int => similarity_Digits_l6 p0 p1 v.1 v.2)) (s0 := (([] : List Int), 0)) (t := x18) (fun v => ⟨[(0, .c (.t (.v (.int .i64 p0)))), (6, .c (.ref 0 1 0 v.1.length)), (20, .c (.t (.v (.int .i64 p1)))), (21, .c (.t (.v (.int .i64 v.2))))], [(0, .row 3 false 1 v.1.length (Ri64 v.1))], 1⟩) (fun t : List Int => (.exit 0, ⟨[(6, .c (.ref 0 1 0 t.length))], [(0, .row 3 false 1 t.length (Ri64 t))], 1⟩)) l19 (fun _ => trivial) ?_ ?_
        ·
          intro v o h
          obtain ⟨x8, x9⟩ := v
          replace h : similarity_Digits_l6 p0 p1 x8 x9 = some o := h
          unfold similarity_Digits_l6 at h
          show AW _ ⟨[(0, .c (.t (.v (.int .i64 p0)))), (6, .c (.ref 0 1 0 x8.length)), (20, .c (.t (.v (.int .i64 p1)))), (21, .c (.t (.v (.int .i64 x9))))], [(0, .row 3 false 1 x8.length (Ri64 x8))], 1⟩ _ _
          refine AW.seq ?_
          refine AW.reg tt_ok1 [0, 6, 20, 21, 22] [0] [] ⟨[(22, .c (.t (.v (.bool (decide (x9 < p1)))))), (0, .c (.t (.v (.int .i64 p0)))), (6, .c (.ref 0 1 0 x8.length)), (20, .c (.t (.v (.int .i64 p1)))), (21, .c (.t (.v (.int .i64 x9))))], [(0, .row 3 false 1 x8.length (Ri64 x8))], 2⟩ [True] (by kernel_rfl) (by kernel_rfl) ⟨trivial, trivial⟩ ?_
          refine AW.thenQ_normal ?_
          refine AW.seq ?_
          refine AW.cond (b := decide (x9 < p1)) (by kernel_rfl) (fun c11 => ?_) (fun c11 => ?_)
          · rw [if_pos c11] at h
            refine AW.skip ?_
            refine AW.thenQ_normal ?_
            refine AW.seq ?_
            refine AW.block ?_
            refine AW.seq ?_
            refine AW.reg tt_ok1 [0, 6, 7, 20, 21] [0] [] ⟨[(7, .c (.t (.v (.int .i64 x9)))), (0, .c (.t (.v (.int .i64 p0)))), (6, .c (.ref 0 1 0 x8.length)), (20, .c (.t (.v (.int .i64 p1)))), (21, .c (.t (.v (.int .i64 x9))))], [(0, .row 3 false 1 x8.length (Ri64 x8))], 4⟩ [True, True] (by kernel_rfl) (by kernel_rfl) ⟨trivial, trivial, trivial⟩ ?_
            refine AW.thenQ_normal ?_
            obtain ⟨y12, e13, h⟩ := bnd_some h
            obtain ⟨g14, h⟩ := ifc h
            obtain ⟨g15, h⟩ := ifc h
            obtain ⟨g16, h⟩ := ifc h
            obtain ⟨g17, h⟩ := ifc h
            refine AW.reg tt_ok1 [0, 6, 20, 21] [11] [{}, {}, { call := some { ids := [], frz := [], flat := true, cnt := 0, args := [], out := .agg [.t (.v (.int .i64 (y12.getD 0 0))), .t (.v (.int .i64 (y12.getD 1 0))), .t (.v (.int .i64 (y12.getD 2 0))), .t (.v (.int .i64 (y12.getD 3 0))), .t (.v (.int .i64 (y12.getD 4 0))), .t (.v (.int .i64 (y12.getD 5 0)))], outb := [] } }, {}, { h := { row := some (6, Ri64 y12) } }, {}, {}, { h := { row := some (([((IntKind.i64.wrap (p0.tdiv (y12.getD x9.toNat 0))).tmod 3)] : List Int).length, Ri64 ([((IntKind.i64.wrap (p0.tdiv (y12.getD x9.toNat 0))).tmod 3)] : List Int)) } }, { h := { row := some ((x8 ++ ([((IntKind.i64.wrap (p0.tdiv (y12.getD x9.toNat 0))).tmod 3)] : List Int)).length, Ri64 (x8 ++ ([((IntKind.i64.wrap (p0.tdiv (y12.getD x9.toNat 0))).tmod 3)] : List Int))) } }] ⟨[(6, .c (.ref 11 1 0 ((x8 ++ ([((IntKind.i64.wrap (p0.tdiv (y12.getD x9.toNat 0))).tmod 3)] : List Int)).length))), (0, .c (.t (.v (.int .i64 p0)))), (20, .c (.t (.v (.int .i64 p1)))), (21, .c (.t (.v (.int .i64 x9))))], [(11, .row 3 false 1 (x8 ++ ([((IntKind.i64.wrap (p0.tdiv (y12.getD x9.toNat 0))).tmod 3)] : List Int)).length (Ri64 (x8 ++ ([((IntKind.i64.wrap (p0.tdiv (y12.getD x9.toNat 0))).tmod 3)] : List Int))))], 13⟩ [True, True, (True) ∧ (All2 ArgLe [] []) ∧ ((true = true → flatB [])) ∧ (Con Try.prog 57 [] [] (.agg [.t (.v (.int .i64 (y12.getD 0 0))), .t (.v (.int .i64 (y12.getD 1 0))), .t (.v (.int .i64 (y12.getD 2 0))), .t (.v (.int .i64 (y12.getD 3 0))), .t (.v (.int .i64 (y12.getD 4 0))), .t (.v (.int .i64 (y12.getD 5 0)))]) []), True, ((0 ≤ x9) ∧ (x9 < ((6 : Nat) : Int))) ∧ (6 = 6 ∧ ∀ i, i < 6 → ∀ j, j < 1 → rowOf [.v (.int .i64 (y12.getD 0 0)), .v (.int .i64 (y12.getD 1 0)), .v (.int .i64 (y12.getD 2 0)), .v (.int .i64 (y12.getD 3 0)), .v (.int .i64 (y12.getD 4 0)), .v (.int .i64 (y12.getD 5 0))] 1 i j = Ri64 y12 i j), (y12.getD x9.toNat 0) ≠ 0, (3 : Int) ≠ 0, 1 = ([((IntKind.i64.wrap (p0.tdiv (y12.getD x9.toNat 0))).tmod 3)] : List Int).length ∧ ∀ i, i < ([((IntKind.i64.wrap (p0.tdiv (y12.getD x9.toNat 0))).tmod 3)] : List Int).length → ∀ j, j < 1 → TLe ((rowOf [.v (.int .i64 ((IntKind.i64.wrap (p0.tdiv (y12.getD x9.toNat 0))).tmod 3))] 1) i j) (Ri64 ([((IntKind.i64.wrap (p0.tdiv (y12.getD x9.toNat 0))).tmod 3)] : List Int) i j), (x8.length = x8.length) ∧ (0 + ([((IntKind.i64.wrap (p0.tdiv (y12.getD x9.toNat 0))).tmod 3)] : List Int).length ≤ ([((IntKind.i64.wrap (p0.tdiv (y12.getD x9.toNat 0))).tmod 3)] : List Int).length) ∧ ((x8.length + ([((IntKind.i64.wrap (p0.tdiv (y12.getD x9.toNat 0))).tmod 3)] : List Int).length ≤ 1099511627776) ∧ ((8 : Nat) ≤ 128)) ∧ (x8.length + ([((IntKind.i64.wrap (p0.tdiv (y12.getD x9.toNat 0))).tmod 3)] : List Int).length = (x8 ++ ([((IntKind.i64.wrap (p0.tdiv (y12.getD x9.toNat 0))).tmod 3)] : List Int)).length ∧ ∀ i, i < (x8 ++ ([((IntKind.i64.wrap (p0.tdiv (y12.getD x9.toNat 0))).tmod 3)] : List Int)).length → ∀ j, j < 1 → TLe ((appRow x8.length (Ri64 x8) (fun i j => Ri64 ([((IntKind.i64.wrap (p0.tdiv (y12.getD x9.toNat 0))).tmod 3)] : List Int) (0 + i) j)) i j) (Ri64 (x8 ++ ([((IntKind.i64.wrap (p0.tdiv (y12.getD x9.toNat 0))).tmod 3)] : List Int)) i j)), True] (by kernel_rfl) (by kernel_rfl) ⟨trivial, trivial, ⟨trivial, trivial, (fun _ => trivial), (similarity_powers_con y12 e13)⟩, trivial, ⟨⟨g14, g15⟩, ⟨rfl, fun i hi j hj => match i, hi, j, hj with | 0, _, 0, _ => rfl | 1, _, 0, _ => rfl | 2, _, 0, _ => rfl | 3, _, 0, _ => rfl | 4, _, 0, _ => rfl | 5, _, 0, _ => rfl | _ + 6, h, _, _ => absurd h (by omega) | _, _, _ + 1, h => absurd h (by omega)⟩⟩, g16, (by decide), ⟨rfl, lit_row (n := 1) (sz := 1) ⟨trivial, ⟨trivial, TLe.refl _⟩⟩⟩, ⟨rfl, le0, ⟨g17, (by decide)⟩, rowT (app_row rfl rfl row_rfl (fun i _ j _ => congrArg (fun k => Ri64 ([((IntKind.i64.wrap (p0.tdiv (y12.getD x9.toNat 0))).tmod 3)] : List Int) k j) (Nat.zero_add i)))⟩, trivial, trivial⟩ ?_
            refine AW.inBlock_normal ?_
            refine AW.thenQ_normal ?_
            refine AW.reg tt_ok1 [0, 6, 20, 21] [11] [] ⟨[(21, .c (.t (.v (.int .i64 (IntKind.i64.wrap (x9 + 1)))))), (6, .c (.ref 11 1 0 ((x8 ++ ([((IntKind.i64.wrap (p0.tdiv (y12.getD x9.toNat 0))).tmod 3)] : List Int)).length))), (0, .c (.t (.v (.int .i64 p0)))), (20, .c (.t (.v (.int .i64 p1))))], [(11, .row 3 false 1 (x8 ++ ([((IntKind.i64.wrap (p0.tdiv (y12.getD x9.toNat 0))).tmod 3)] : List Int)).length (Ri64 (x8 ++ ([((IntKind.i64.wrap (p0.tdiv (y12.getD x9.toNat 0))).tmod 3)] : List Int))))], 15⟩ [True, True] (by kernel_rfl) (by kernel_rfl) ⟨trivial, trivial, trivial⟩ ?_
            obtain rfl := some_inj h
            refine loopQ_next (conv_ren [(0, 11)] [0, 6, 20, 21] (n := 1) (by kernel_rfl) (by kernel_rfl))
          · rw [if_neg (by rw [c11]; exact Bool.false_ne_true)] at h
            refine AW.exit ?_
            refine AW.thenQ_exit ?_
            obtain rfl := some_inj h
            refine loopQ_out rfl (conv_ren [(0, 0)] [6] (n := 1) (by kernel_rfl) (by kernel_rfl))
        ·
          show (_ : Exit → St → Prop) (.exit 0) ⟨[(6, .c (.ref 0 1 0 x18.length))], [(0, .row 3 false 1 x18.length (Ri64 x18))], 1⟩
          refine AW.inBlock_hit ?_
          refine AW.thenQ_normal ?_
          refine AW.seq ?_
          refine AW.reg tt_ok1 [4, 5] [0] [] ⟨[(5, .c (.t (.v (.int .i64 0)))), (4, .c (.ref 0 1 0 x18.length))], [(0, .row 3 false 1 x18.length (Ri64 x18))], 4⟩ [True, True, True] (by kernel_rfl) (by kernel_rfl) ⟨trivial, trivial, trivial, trivial⟩ ?_
          refine AW.thenQ_normal ?_
          refine AW.ret ?_
          obtain rfl := some_inj h
          exact ⟨_, Conv.refl _ _, .inr rfl, OutOk.mk [(0, 0)] 1 (out0 := .tup [.c (.ref 0 1 0 x18.length), .c (.t (.v (.int .i64 0)))]) (ps := [True, True]) (by kernel_rfl) ⟨trivial, trivial, trivial⟩ (by kernel_rfl) (by kernel_rfl)⟩
    ·
      by_cases c20 : (decide (p0 < 0)) = true
      · rw [if_pos c20] at h
        refine AW.reg tt_ok1 [0, 1, 19] [] [{}, { h := { b := some true } }] ⟨[(19, .c (.t (.v (.bool true)))), (0, .c (.t (.v (.int .i64 p0)))), (1, .c (.t (.v (.int .i64 p1))))], [], 13⟩ [True, (decide (p0 < 0)) = true, True, True, True, True, True, True, True] (by kernel_rfl) (by kernel_rfl) ⟨trivial, c20, trivial, trivial, trivial, trivial, trivial, trivial, trivial, trivial⟩ ?_
        exact joinQ_leaf (true) h (conv_ren [] [0, 1, 19] (n := 0) (by kernel_rfl) (by kernel_rfl))
      · rw [if_neg c20] at h
        obtain ⟨y21, e22, h⟩ := bnd_some h
        obtain ⟨g23, h⟩ := ifc h
        obtain ⟨g24, h⟩ := ifc h
        refine AW.reg tt_ok1 [0, 1, 19] [] [{}, { h := { b := some false } }, {}, {}, { call := some { ids := [], frz := [], flat := true, cnt := 0, args := [], out := .agg [.t (.v (.int .i64 (y21.getD 0 0))), .t (.v (.int .i64 (y21.getD 1 0))), .t (.v (.int .i64 (y21.getD 2 0))), .t (.v (.int .i64 (y21.getD 3 0))), .t (.v (.int .i64 (y21.getD 4 0))), .t (.v (.int .i64 (y21.getD 5 0)))], outb := [] } }, {}, { h := { row := some (6, Ri64 y21) } }] ⟨[(19, .c (.t (.v (.bool (decide (p0 ≥ (y21.getD p1.toNat 0))))))), (0, .c (.t (.v (.int .i64 p0)))), (1, .c (.t (.v (.int .i64 p1))))], [], 12⟩ [True, (decide (p0 < 0)) = false, True, True, (True) ∧ (All2 ArgLe [] []) ∧ ((true = true → flatB [])) ∧ (Con Try.prog 57 [] [] (.agg [.t (.v (.int .i64 (y21.getD 0 0))), .t (.v (.int .i64 (y21.getD 1 0))), .t (.v (.int .i64 (y21.getD 2 0))), .t (.v (.int .i64 (y21.getD 3 0))), .t (.v (.int .i64 (y21.getD 4 0))), .t (.v (.int .i64 (y21.getD 5 0)))]) []), True, ((0 ≤ p1) ∧ (p1 < ((6 : Nat) : Int))) ∧ (6 = 6 ∧ ∀ i, i < 6 → ∀ j, j < 1 → rowOf [.v (.int .i64 (y21.getD 0 0)), .v (.int .i64 (y21.getD 1 0)), .v (.int .i64 (y21.getD 2 0)), .v (.int .i64 (y21.getD 3 0)), .v (.int .i64 (y21.getD 4 0)), .v (.int .i64 (y21.getD 5 0))] 1 i j = Ri64 y21 i j), True, True] (by kernel_rfl) (by kernel_rfl) ⟨trivial, (off_false c20), trivial, trivial, ⟨trivial, trivial, (fun _ => trivial), (similarity_powers_con y21 e22)⟩, trivial, ⟨⟨g23, g24⟩, ⟨rfl, fun i hi j hj => match i, hi, j, hj with | 0, _, 0, _ => rfl | 1, _, 0, _ => rfl | 2, _, 0, _ => rfl | 3, _, 0, _ => rfl | 4, _, 0, _ => rfl | 5, _, 0, _ => rfl | _ + 6, h, _, _ => absurd h (by omega) | _, _, _ + 1, h => absurd h (by omega)⟩⟩, trivial, trivial, trivial⟩ ?_
        exact joinQ_leaf (decide (p0 ≥ (y21.getD p1.toNat 0))) h (conv_ren [] [0, 1, 19] (n := 0) (by kernel_rfl) (by kernel_rfl))
/-! recordlink/bitset.Or$1 -/
noncomputable def bitset_Or_f1 (p0 : Int) (p1 : Int) : Option Int := some (ior .u64 p0 p1)
set_option maxRecDepth 100000 in
set_option maxHeartbeats 10000000 in
theorem bitset_Or_f1_con (p0 : Int) (p1 : Int) (r0 : Int) (h : bitset_Or_f1 p0 p1 = some r0) : Con Try.prog 60 [.c (.t (.v (.int .u64 p0))), .c (.t (.v (.int .u64 p1)))] [] (.c (.t (.v (.int .u64 r0)))) [] := by
  revert h; generalize r0 = r; intro h
  refine con_of tt_ok1 0 Try.func60 (by kernel_rfl) rfl (by kernel_rfl) (fun base X hk => AW.post ?_)
  unfold bitset_Or_f1 at h
  refine AW.seq ?_
  refine AW.reg tt_ok1 [0, 1] [] [] ⟨[(0, .c (.t (.v (.int .u64 p0)))), (1, .c (.t (.v (.int .u64 p1))))], [], 1⟩ [True] (by kernel_rfl) (by kernel_rfl) ⟨trivial, trivial⟩ ?_
  refine AW.thenQ_normal ?_
  refine AW.seq ?_
  refine AW.reg tt_ok1 [4] [] [] ⟨[(4, .c (.t (.v (.int .u64 (ior .u64 p0 p1)))))], [], 5⟩ [True, True, True, True] (by kernel_rfl) (by kernel_rfl) ⟨trivial, trivial, trivial, trivial, trivial⟩ ?_
  refine AW.thenQ_normal ?_
  refine AW.ret ?_
  obtain rfl := some_inj h
  exact ⟨_, Conv.refl _ _, .inr rfl, OutOk.mk [] 0 (out0 := .c (.t (.v (.int .u64 (ior .u64 p0 p1))))) (ps := [True]) (by kernel_rfl) ⟨trivial, trivial⟩ (by kernel_rfl) (by kernel_rfl)⟩
/-! recordlink/bitset.both -/
noncomputable def bitset_both_60_l6 (p0 : S_api_Bits) (p1 : S_api_Bits) (x7 : Int) (x8 : List Int) : Option ((Int × (List Int)) ⊕ (List Int)) := if (decide (x7 < ((p0.Words.length : Nat) : Int))) = true then (if 0 ≤ x7 then (if x7 < ((p0.Words.length : Nat) : Int) then (if x7 < ((p1.Words.length : Nat) : Int) then ((bitset_Or_f1 (p0.Words.getD x7.toNat 0) (p1.Words.getD x7.toNat 0)).bind fun y14 => (if x7 < ((x8.length : Nat) : Int) then (some (.inl (IntKind.i64.wrap (x7 + 1), (x8.set (0 + x7.toNat) y14)))) else none)) else none) else none) else none) else (some (.inr x8))
noncomputable def bitset_both_60_k4 (p0 : S_api_Bits) (p1 : S_api_Bits) (x1 : Bool) : Option (S_api_Bits × Int) := if x1 = true then (some ((⟨0, ([] : List Int)⟩ : S_api_Bits), 8)) else (if 0 ≤ ((p0.Words.length : Nat) : Int) then (if ((p0.Words.length : Nat) : Int) ≤ 1099511627776 then ((loop (fun v : Int × (List Int) => bitset_both_60_l6 p0 p1 v.1 v.2) (0, (List.replicate (((p0.Words.length : Nat) : Int).toNat) (0 : Int)))).bind fun x17 => (some ((⟨p0.Length, x17⟩ : S_api_Bits), 0))) else none) else none)
noncomputable def bitset_both_60 (p0 : S_api_Bits) (p1 : S_api_Bits) : Option (S_api_Bits × Int) := (bitset_Valid p0).bind fun y19 => (if (!y19) = true then (bitset_both_60_k4 p0 p1 true) else ((bitset_Valid p1).bind fun y22 => (if (!y22) = true then (bitset_both_60_k4 p0 p1 true) else (bitset_both_60_k4 p0 p1 (p0.Length != p1.Length)))))
set_option maxRecDepth 100000 in
set_option maxHeartbeats 10000000 in
theorem bitset_both_60_con (p0 : S_api_Bits) (p1 : S_api_Bits) (r0 : S_api_Bits) (r1 : Int) (h : bitset_both_60 p0 p1 = some (r0, r1)) : Con Try.prog 58 [.agg [.t (.v (.int .i64 p0.Length)), .t (.tree p0.Words.length 1 (Ru64 p0.Words))], .agg [.t (.v (.int .i64 p1.Length)), .t (.tree p1.Words.length 1 (Ru64 p1.Words))], .c (.t (.v (.func (.func 60) #[] #[])))] [] (.tup [.agg [.t (.v (.int .i64 r0.Length)), .ref 0 1 0 r0.Words.length], .c (.t (.v (.int .i64 r1)))]) [(0, .row 33 false 1 r0.Words.length (Ru64 r0.Words))] := by
  suffices H : ∀ r, bitset_both_60 p0 p1 = some r → Con Try.prog 58 [.agg [.t (.v (.int .i64 p0.Length)), .t (.tree p0.Words.length 1 (Ru64 p0.Words))], .agg [.t (.v (.int .i64 p1.Length)), .t (.tree p1.Words.length 1 (Ru64 p1.Words))], .c (.t (.v (.func (.func 60) #[] #[])))] [] (.tup [.agg [.t (.v (.int .i64 r.1.Length)), .ref 0 1 0 r.1.Words.length], .c (.t (.v (.int .i64 r.2)))]) [(0, .row 33 false 1 r.1.Words.length (Ru64 r.1.Words))] from H (r0, r1) h
  clear h
  intro r h
  refine con_of tt_ok1 0 Try.func58 (by kernel_rfl) rfl (by kernel_rfl) (fun base X hk => AW.post ?_)
  unfold bitset_both_60 at h
  refine AW.seq ?_
  refine AW.reg tt_ok1 [2, 3, 4, 6] [0, 1, 2] [] ⟨[(6, .c (.ptr 2 2 0 0)), (4, .c (.ptr 1 2 0 0)), (3, .c (.ptr 0 2 0 0)), (2, .c (.t (.v (.func (.func 60) #[] #[]))))], [(2, .box 29 [.t (.v (.int .i64 0)), .t (.v (.slice none 0 0))]), (1, .box 29 [.t (.v (.int .i64 p1.Length)), .t (.tree p1.Words.length 1 (Ru64 p1.Words))]), (0, .box 29 [.t (.v (.int .i64 p0.Length)), .t (.tree p0.Words.length 1 (Ru64 p0.Words))])], 4⟩ [True, True, True, True] (by kernel_rfl) (by kernel_rfl) ⟨trivial, trivial, trivial, trivial, trivial⟩ ?_
  refine AW.thenQ_normal ?_
  refine AW.seq ?_
  refine AW.seq ?_
  refine AW.join (ι := Bool) (fun v => ⟨[(2, .c (.t (.v (.func (.func 60) #[] #[])))), (3, .c (.ptr 0 2 0 0)), (4, .c (.ptr 1 2 0 0)), (6, .c (.ptr 2 2 0 0)), (25, .c (.t (.v (.bool v))))], [(0, .box 29 [.t (.v (.int .i64 p0.Length)), .t (.tree p0.Words.length 1 (Ru64 p0.Words))]), (1, .box 29 [.t (.v (.int .i64 p1.Length)), .t (.tree p1.Words.length 1 (Ru64 p1.Words))]), (2, .box 29 [.t (.v (.int .i64 0)), .t (.v (.slice none 0 0))])], 3⟩) (fun v : Bool => bitset_both_60_k4 p0 p1 v = some r) (fun v h => ?_) ?_
  ·
    obtain ⟨x1, rfl⟩ : ∃ x, x = v := ⟨_, rfl⟩
    replace h : bitset_both_60_k4 p0 p1 x1 = some r := h
    unfold bitset_both_60_k4 at h
    show (_ : Exit → St → Prop) .normal ⟨[(2, .c (.t (.v (.func (.func 60) #[] #[])))), (3, .c (.ptr 0 2 0 0)), (4, .c (.ptr 1 2 0 0)), (6, .c (.ptr 2 2 0 0)), (25, .c (.t (.v (.bool x1))))], [(0, .box 29 [.t (.v (.int .i64 p0.Length)), .t (.tree p0.Words.length 1 (Ru64 p0.Words))]), (1, .box 29 [.t (.v (.int .i64 p1.Length)), .t (.tree p1.Words.length 1 (Ru64 p1.Words))]), (2, .box 29 [.t (.v (.int .i64 0)), .t (.v (.slice none 0 0))])], 3⟩
    refine AW.thenQ_normal ?_
    refine AW.cond (b := x1) (by kernel_rfl) (fun c2 => ?_) (fun c2 => ?_)
    · rw [if_pos c2] at h
      refine AW.seq ?_
      refine AW.reg tt_ok1 [6, 7] [2] [] ⟨[(7, .c (.t (.v (.int .i64 8)))), (6, .c (.ptr 2 2 0 0))], [(2, .box 29 [.t (.v (.int .i64 0)), .t (.v (.slice none 0 0))])], 6⟩ [True, True, True] (by kernel_rfl) (by kernel_rfl) ⟨trivial, trivial, trivial, trivial⟩ ?_
      refine AW.thenQ_normal ?_
      refine AW.ret ?_
      refine AW.thenQ_ret ?_
      obtain rfl := some_inj h
      exact ⟨_, conv_adoptB (id := 2) (ty0 := 29) (cs := [.t (.v (.int .i64 0)), .t (.v (.slice none 0 0))]) 1 (ty := 33) (sz := 1) (n := ([] : List Int).length) (f := Ru64 ([] : List Int)) (by kernel_rfl) (by kernel_rfl) rfl, .inr rfl, OutOk.mk [(0, 6)] 1 (out0 := .tup [.agg [.t (.v (.int .i64 0)), .ref 6 1 0 (([] : List Int).length)], .c (.t (.v (.int .i64 8)))]) (ps := [True, True]) (by kernel_rfl) ⟨trivial, trivial, trivial⟩ (by kernel_rfl) (by kernel_rfl)⟩
    · rw [if_neg (by rw [c2]; exact Bool.false_ne_true)] at h
      refine AW.skip ?_
      refine AW.thenQ_normal ?_
      refine AW.seq ?_
      obtain ⟨g3, h⟩ := ifc h
      obtain ⟨g4, h⟩ := ifc h
      refine AW.regD tt_ok1 mo1 [0, 1, 0, 4, 12, 28, 63, 0, 255] [[], [], [], [], [], [8], [], [10], [10]] [2, 3, 4, 6, 8] [0, 1, 2, 8, 10] [{}, {}, {}, {}, {}, { h := { row := some ((List.replicate (((p0.Words.length : Nat) : Int).toNat) (0 : Int)).length, Ru64 (List.replicate (((p0.Words.length : Nat) : Int).toNat) (0 : Int))) } }] ⟨[(8, .c (.ptr 10 2 0 0)), (2, .c (.t (.v (.func (.func 60) #[] #[])))), (3, .c (.ptr 0 2 0 0)), (4, .c (.ptr 1 2 0 0)), (6, .c (.ptr 2 2 0 0))], [(10, .box 29 [.t (.v (.int .i64 p0.Length)), .ref 8 1 0 ((List.replicate (((p0.Words.length : Nat) : Int).toNat) (0 : Int)).length)]), (8, .row 33 false 1 (List.replicate (((p0.Words.length : Nat) : Int).toNat) (0 : Int)).length (Ru64 (List.replicate (((p0.Words.length : Nat) : Int).toNat) (0 : Int)))), (0, .box 29 [.t (.v (.int .i64 p0.Length)), .t (.tree p0.Words.length 1 (Ru64 p0.Words))]), (1, .box 29 [.t (.v (.int .i64 p1.Length)), .t (.tree p1.Words.length 1 (Ru64 p1.Words))]), (2, .box 29 [.t (.v (.int .i64 0)), .t (.v (.slice none 0 0))])], 12⟩ [True, True, True, True, True, ((0 ≤ ((p0.Words.length : Nat) : Int)) ∧ (((p0.Words.length : Nat) : Int) ≤ ((p0.Words.length : Nat) : Int)) ∧ (((p0.Words.length : Nat) : Int) ≤ 1099511627776) ∧ ((8 : Nat) ≤ 128)) ∧ (((p0.Words.length : Nat) : Int).toNat = (List.replicate (((p0.Words.length : Nat) : Int).toNat) (0 : Int)).length ∧ ∀ i, i < (List.replicate (((p0.Words.length : Nat) : Int).toNat) (0 : Int)).length → ∀ j, j < 1 → TLe ((fun _ j => .v (([.int .u64 0] : List Value).getD j undef)) i j) (Ru64 (List.replicate (((p0.Words.length : Nat) : Int).toNat) (0 : Int)) i j)), True, True, True] (by kernel_rfl) (by kernel_rfl) ⟨trivial, trivial, trivial, trivial, trivial, ⟨⟨g3, Int.le_refl _, g4, (by decide)⟩, mk_row (fun j hj => match j, hj with | 0, _ => TLe.refl _ | _ + 1, h => absurd h (by omega))⟩, trivial, trivial, trivial, trivial⟩ ?_
      refine AW.thenQ_normal ?_
      refine AW.seq ?_
      refine AW.seq ?_
      refine AW.reg tt_ok1 [2, 4, 6, 8, 35, 36, 37] [1, 2, 8, 10] [] ⟨[(37, .c (.t (.v (.int .i64 0)))), (36, .c (.t (.v (.int .i64 ((p0.Words.length : Nat) : Int))))), (35, .c (.t (.tree p0.Words.length 1 (Ru64 p0.Words)))), (8, .c (.ptr 10 2 0 0)), (2, .c (.t (.v (.func (.func 60) #[] #[])))), (4, .c (.ptr 1 2 0 0)), (6, .c (.ptr 2 2 0 0))], [(10, .box 29 [.t (.v (.int .i64 p0.Length)), .ref 8 1 0 ((List.replicate (((p0.Words.length : Nat) : Int).toNat) (0 : Int)).length)]), (8, .row 33 false 1 (List.replicate (((p0.Words.length : Nat) : Int).toNat) (0 : Int)).length (Ru64 (List.replicate (((p0.Words.length : Nat) : Int).toNat) (0 : Int)))), (1, .box 29 [.t (.v (.int .i64 p1.Length)), .t (.tree p1.Words.length 1 (Ru64 p1.Words))]), (2, .box 29 [.t (.v (.int .i64 0)), .t (.v (.slice none 0 0))])], 16⟩ [True, True, True, True] (by kernel_rfl) (by kernel_rfl) ⟨trivial, trivial, trivial, trivial, trivial⟩ ?_
      refine AW.thenQ_normal ?_
      refine AW.block ?_
      obtain ⟨x17, l18, h⟩ := bnd_some h
      refine AW.pre (S' := ((fun v => ⟨[(2, .c (.t (.v (.func (.func 60) #[] #[])))), (4, .c (.ptr 0 2 0 0)), (6, .c (.ptr 1 2 0 0)), (8, .c (.ptr 2 2 0 0)), (35, .c (.t (.tree p0.Words.length 1 (Ru64 p0.Words)))), (36, .c (.t (.v (.int .i64 ((p0.Words.length : Nat) : Int))))), (37, .c (.t (.v (.int .i64 v.1))))], [(0, .box 29 [.t (.v (.int .i64 p1.Length)), .t (.tree p1.Words.length 1 (Ru64 p1.Words))]), (1, .box 29 [.t (.v (.int .i64 0)), .t (.v (.slice none 0 0))]), (2, .box 29 [.t (.v (.int .i64 p0.Length)), .ref 3 1 0 v.2.length]), (3, .row 33 false 1 v.2.length (Ru64 v.2))], 4⟩) : (Int × (List Int)) → St) (0, (List.replicate (((p0.Words.length : Nat) : Int).toNat) (0 : Int)))) (conv_ren [(0, 1), (1, 2), (2, 10), (3, 8)] [2, 4, 6, 8, 35, 36, 37] (n := 4) (by kernel_rfl) (by kernel_rfl)) ?_
      refine AW.loop2 (step := (fun v : Int × (List Int) => bitset_both_60_l6 p0 p1 v.1 v.2)) (s0 := (0, (List.replicate (((p0.Words.length : Nat) : Int).toNat) (0 : Int)))) (t := x17) (fun v => ⟨[(2, .c (.t (.v (.func (.func 60) #[] #[])))), (4, .c (.ptr 0 2 0 0)), (6, .c (.ptr 1 2 0 0)), (8, .c (.ptr 2 2 0 0)), (35, .c (.t (.tree p0.Words.length 1 (Ru64 p0.Words)))), (36, .c (.t (.v (.int .i64 ((p0.Words.length : Nat) : Int))))), (37, .c (.t (.v (.int .i64 v.1))))], [(0, .box 29 [.t (.v (.int .i64 p1.Length)), .t (.tree p1.Words.length 1 (Ru64 p1.Words))]), (1, .box 29 [.t (.v (.int .i64 0)), .t (.v (.slice none 0 0))]), (2, .box 29 [.t (.v (.int .i64 p0.Length)), .ref 3 1 0 v.2.length]), (3, .row 33 false 1 v.2.length (Ru64 v.2))], 4⟩) (fun t : List Int => (.exit 0, ⟨[(6, .c (.ptr 0 2 0 0)), (8, .c (.ptr 1 2 0 0))], [(0, .box 29 [.t (.v (.int .i64 0)), .t (.v (.slice none 0 0))]), (1, .box 29 [.t (.v (.int .i64 p0.Length)), .ref 2 1 0 t.length]), (2, .row 33 false 1 t.length (Ru64 t))], 3⟩)) l18 (fun _ => trivial) ?_ ?_
      ·
        intro v o h
        obtain ⟨x7, x8⟩ := v
        replace h : bitset_both_60_l6 p0 p1 x7 x8 = some o := h
        unfold bitset_both_60_l6 at h
        show AW _ ⟨[(2, .c (.t (.v (.func (.func 60) #[] #[])))), (4, .c (.ptr 0 2 0 0)), (6, .c (.ptr 1 2 0 0)), (8, .c (.ptr 2 2 0 0)), (35, .c (.t (.tree p0.Words.length 1 (Ru64 p0.Words)))), (36, .c (.t (.v (.int .i64 ((p0.Words.length : Nat) : Int))))), (37, .c (.t (.v (.int .i64 x7))))], [(0, .box 29 [.t (.v (.int .i64 p1.Length)), .t (.tree p1.Words.length 1 (Ru64 p1.Words))]), (1, .box 29 [.t (.v (.int .i64 0)), .t (.v (.slice none 0 0))]), (2, .box 29 [.t (.v (.int .i64 p0.Length)), .ref 3 1 0 x8.length]), (3, .row 33 false 1 x8.length (Ru64 x8))], 4⟩ _ _
        refine AW.seq ?_
        refine AW.reg tt_ok1 [2, 4, 6, 8, 35, 36, 37, 38] [0, 1, 2, 3] [] ⟨[(38, .c (.t (.v (.bool (decide (x7 < ((p0.Words.length : Nat) : Int))))))), (2, .c (.t (.v (.func (.func 60) #[] #[])))), (4, .c (.ptr 0 2 0 0)), (6, .c (.ptr 1 2 0 0)), (8, .c (.ptr 2 2 0 0)), (35, .c (.t (.tree p0.Words.length 1 (Ru64 p0.Words)))), (36, .c (.t (.v (.int .i64 ((p0.Words.length : Nat) : Int))))), (37, .c (.t (.v (.int .i64 x7))))], [(0, .box 29 [.t (.v (.int .i64 p1.Length)), .t (.tree p1.Words.length 1 (Ru64 p1.Words))]), (1, .box 29 [.t (.v (.int .i64 0)), .t (.v (.slice none 0 0))]), (2, .box 29 [.t (.v (.int .i64 p0.Length)), .ref 3 1 0 x8.length]), (3, .row 33 false 1 x8.length (Ru64 x8))], 5⟩ [True] (by kernel_rfl) (by kernel_rfl) ⟨trivial, trivial⟩ ?_
        refine AW.thenQ_normal ?_
        refine AW.seq ?_
        refine AW.cond (b := decide (x7 < ((p0.Words.length : Nat) : Int))) (by kernel_rfl) (fun c10 => ?_) (fun c10 => ?_)
        · rw [if_pos c10] at h
          refine AW.skip ?_
          refine AW.thenQ_normal ?_
          refine AW.seq ?_
          refine AW.block ?_
          refine AW.seq ?_
          obtain ⟨g11, h⟩ := ifc h
          obtain ⟨g12, h⟩ := ifc h
          refine AW.reg tt_ok1 [2, 4, 6, 8, 9, 10, 35, 36, 37] [0, 1, 2, 3] [] ⟨[(10, .c (.t (.v (.int .u64 (p0.Words.getD x7.toNat 0))))), (9, .c (.t (.v (.int .i64 x7)))), (2, .c (.t (.v (.func (.func 60) #[] #[])))), (4, .c (.ptr 0 2 0 0)), (6, .c (.ptr 1 2 0 0)), (8, .c (.ptr 2 2 0 0)), (35, .c (.t (.tree p0.Words.length 1 (Ru64 p0.Words)))), (36, .c (.t (.v (.int .i64 ((p0.Words.length : Nat) : Int))))), (37, .c (.t (.v (.int .i64 x7))))], [(0, .box 29 [.t (.v (.int .i64 p1.Length)), .t (.tree p1.Words.length 1 (Ru64 p1.Words))]), (1, .box 29 [.t (.v (.int .i64 0)), .t (.v (.slice none 0 0))]), (2, .box 29 [.t (.v (.int .i64 p0.Length)), .ref 3 1 0 x8.length]), (3, .row 33 false 1 x8.length (Ru64 x8))], 10⟩ [True, (0 ≤ x7) ∧ (x7 < ((p0.Words.length : Nat) : Int)), True, True, True] (by kernel_rfl) (by kernel_rfl) ⟨trivial, ⟨g11, g12⟩, trivial, trivial, trivial, trivial⟩ ?_
          refine AW.thenQ_normal ?_
          obtain ⟨g13, h⟩ := ifc h
          obtain ⟨y14, e15, h⟩ := bnd_some h
          obtain ⟨g16, h⟩ := ifc h
          refine AW.regD tt_ok1 mo1 [0, 1, 0, 0, 0, 0, 32, 0, 224, 480, 1016, 2047, 4095] [[], [], [], [], [], [], [], [], [], [], [], [], [3]] [2, 4, 6, 8, 35, 36, 37] [0, 1, 2, 3] [{}, {}, {}, {}, {}, {}, {}, {}, {}, {}, { call := some { ids := [], frz := [], flat := true, cnt := 0, args := [.c (.t (.v (.int .u64 (p0.Words.getD x7.toNat 0)))), .c (.t (.v (.int .u64 (p1.Words.getD x7.toNat 0))))], out := .c (.t (.v (.int .u64 y14))), outb := [] } }, {}, { h := { row := some (x8.length, Ru64 (x8.set (0 + x7.toNat) y14)) } }] ⟨[(2, .c (.t (.v (.func (.func 60) #[] #[])))), (4, .c (.ptr 0 2 0 0)), (6, .c (.ptr 1 2 0 0)), (8, .c (.ptr 2 2 0 0)), (35, .c (.t (.tree p0.Words.length 1 (Ru64 p0.Words)))), (36, .c (.t (.v (.int .i64 ((p0.Words.length : Nat) : Int))))), (37, .c (.t (.v (.int .i64 x7))))], [(3, .row 33 false 1 x8.length (Ru64 (x8.set (0 + x7.toNat) y14))), (0, .box 29 [.t (.v (.int .i64 p1.Length)), .t (.tree p1.Words.length 1 (Ru64 p1.Words))]), (1, .box 29 [.t (.v (.int .i64 0)), .t (.v (.slice none 0 0))]), (2, .box 29 [.t (.v (.int .i64 p0.Length)), .ref 3 1 0 x8.length])], 22⟩ [True, True, True, True, True, True, True, True, (0 ≤ x7) ∧ (x7 < ((p1.Words.length : Nat) : Int)), True, ((True) ∧ (True) ∧ (True)) ∧ (All2 ArgLe [.c (.t (.v (.int .u64 (p0.Words.getD x7.toNat 0)))), .c (.t (.v (.int .u64 (p1.Words.getD x7.toNat 0))))] [.c (.t (.v (.int .u64 (p0.Words.getD x7.toNat 0)))), .c (.t (.v (.int .u64 (p1.Words.getD x7.toNat 0))))]) ∧ ((true = true → flatB [])) ∧ (Con Try.prog 60 [.c (.t (.v (.int .u64 (p0.Words.getD x7.toNat 0)))), .c (.t (.v (.int .u64 (p1.Words.getD x7.toNat 0))))] [] (.c (.t (.v (.int .u64 y14)))) []), (0 ≤ x7) ∧ (x7 < ((x8.length : Nat) : Int)), ((0 + x7.toNat) < x8.length) ∧ (x8.length = x8.length ∧ ∀ i, i < x8.length → ∀ j, j < 1 → TLe (updRow (Ru64 x8) (0 + x7.toNat) 0 [.v (.int .u64 y14)] i j) (Ru64 (x8.set (0 + x7.toNat) y14) i j))] (by kernel_rfl) (by kernel_rfl) ⟨trivial, trivial, trivial, trivial, trivial, trivial, trivial, trivial, ⟨g11, g13⟩, trivial, ⟨⟨trivial, trivial, trivial⟩, ⟨ArgLe.refl _, ArgLe.refl _, trivial⟩, (fun _ => trivial), (bitset_Or_f1_con (p0.Words.getD x7.toNat 0) (p1.Words.getD x7.toNat 0) y14 e15)⟩, ⟨g11, g16⟩, ⟨(by have h1 : 0 ≤ x7 := g11; have h2 : x7 < ((x8.length : Nat) : Int) := g16; omega), set_rowN rfl (by have h1 : 0 ≤ x7 := g11; have h2 : x7 < ((x8.length : Nat) : Int) := g16; omega) (fun j hj => match j, hj with | 0, _ => TLe.refl _ | _ + 1, h => absurd h (by omega))⟩, trivial⟩ ?_
          refine AW.inBlock_normal ?_
          refine AW.thenQ_normal ?_
          refine AW.reg tt_ok1 [2, 4, 6, 8, 35, 36, 37] [0, 1, 2, 3] [] ⟨[(37, .c (.t (.v (.int .i64 (IntKind.i64.wrap (x7 + 1)))))), (2, .c (.t (.v (.func (.func 60) #[] #[])))), (4, .c (.ptr 0 2 0 0)), (6, .c (.ptr 1 2 0 0)), (8, .c (.ptr 2 2 0 0)), (35, .c (.t (.tree p0.Words.length 1 (Ru64 p0.Words)))), (36, .c (.t (.v (.int .i64 ((p0.Words.length : Nat) : Int)))))], [(3, .row 33 false 1 x8.length (Ru64 (x8.set (0 + x7.toNat) y14))), (0, .box 29 [.t (.v (.int .i64 p1.Length)), .t (.tree p1.Words.length 1 (Ru64 p1.Words))]), (1, .box 29 [.t (.v (.int .i64 0)), .t (.v (.slice none 0 0))]), (2, .box 29 [.t (.v (.int .i64 p0.Length)), .ref 3 1 0 x8.length])], 24⟩ [True, True] (by kernel_rfl) (by kernel_rfl) ⟨trivial, trivial, trivial⟩ ?_
          obtain rfl := some_inj h
          refine loopQ_next (Conv.trans (conv_len (S' := ⟨[(37, .c (.t (.v (.int .i64 (IntKind.i64.wrap (x7 + 1)))))), (2, .c (.t (.v (.func (.func 60) #[] #[])))), (4, .c (.ptr 0 2 0 0)), (6, .c (.ptr 1 2 0 0)), (8, .c (.ptr 2 2 0 0)), (35, .c (.t (.tree p0.Words.length 1 (Ru64 p0.Words)))), (36, .c (.t (.v (.int .i64 ((p0.Words.length : Nat) : Int)))))], [(3, .row 33 false 1 (x8.set (0 + x7.toNat) y14).length (Ru64 (x8.set (0 + x7.toNat) y14))), (0, .box 29 [.t (.v (.int .i64 p1.Length)), .t (.tree p1.Words.length 1 (Ru64 p1.Words))]), (1, .box 29 [.t (.v (.int .i64 0)), .t (.v (.slice none 0 0))]), (2, .box 29 [.t (.v (.int .i64 p0.Length)), .ref 3 1 0 ((x8.set (0 + x7.toNat) y14).length)])], 24⟩) (by simp only [List.length_set])) (conv_ren [(0, 0), (1, 1), (2, 2), (3, 3)] [2, 4, 6, 8, 35, 36, 37] (n := 4) (by kernel_rfl) (by kernel_rfl)))
        · rw [if_neg (by rw [c10]; exact Bool.false_ne_true)] at h
          refine AW.exit ?_
          refine AW.thenQ_exit ?_
          obtain rfl := some_inj h
          refine loopQ_out rfl (conv_ren [(0, 1), (1, 2), (2, 3)] [6, 8] (n := 3) (by kernel_rfl) (by kernel_rfl))
      ·
        show (_ : Exit → St → Prop) (.exit 0) ⟨[(6, .c (.ptr 0 2 0 0)), (8, .c (.ptr 1 2 0 0))], [(0, .box 29 [.t (.v (.int .i64 0)), .t (.v (.slice none 0 0))]), (1, .box 29 [.t (.v (.int .i64 p0.Length)), .ref 2 1 0 x17.length]), (2, .row 33 false 1 x17.length (Ru64 x17))], 3⟩
        refine AW.inBlock_hit ?_
        refine AW.thenQ_normal ?_
        refine AW.seq ?_
        refine AW.reg tt_ok1 [6, 7] [0, 2] [] ⟨[(7, .c (.t (.v (.int .i64 0)))), (6, .c (.ptr 0 2 0 0))], [(0, .box 29 [.t (.v (.int .i64 p0.Length)), .ref 2 1 0 x17.length]), (2, .row 33 false 1 x17.length (Ru64 x17))], 6⟩ [True, True, True] (by kernel_rfl) (by kernel_rfl) ⟨trivial, trivial, trivial, trivial⟩ ?_
        refine AW.thenQ_normal ?_
        refine AW.ret ?_
        obtain rfl := some_inj h
        exact ⟨_, Conv.refl _ _, .inr rfl, OutOk.mk [(0, 2)] 1 (out0 := .tup [.agg [.t (.v (.int .i64 p0.Length)), .ref 2 1 0 x17.length], .c (.t (.v (.int .i64 0)))]) (ps := [True, True]) (by kernel_rfl) ⟨trivial, trivial, trivial⟩ (by kernel_rfl) (by kernel_rfl)⟩
  ·
    obtain ⟨y19, e20, h⟩ := bnd_some h
    by_cases c21 : (!y19) = true
    · rw [if_pos c21] at h
      refine AW.reg tt_ok1 [2, 3, 4, 6, 25] [0, 1, 2] [{}, { call := some { ids := [], frz := [], flat := true, cnt := 0, args := [.agg [.t (.v (.int .i64 p0.Length)), .t (.tree p0.Words.length 1 (Ru64 p0.Words))]], out := .c (.t (.v (.bool y19))), outb := [] } }, { h := { b := some true } }] ⟨[(25, .c (.t (.v (.bool true)))), (6, .c (.ptr 2 2 0 0)), (4, .c (.ptr 1 2 0 0)), (3, .c (.ptr 0 2 0 0)), (2, .c (.t (.v (.func (.func 60) #[] #[]))))], [(2, .box 29 [.t (.v (.int .i64 0)), .t (.v (.slice none 0 0))]), (1, .box 29 [.t (.v (.int .i64 p1.Length)), .t (.tree p1.Words.length 1 (Ru64 p1.Words))]), (0, .box 29 [.t (.v (.int .i64 p0.Length)), .t (.tree p0.Words.length 1 (Ru64 p0.Words))])], 18⟩ [True, (((True) ∧ (True) ∧ (True)) ∧ (True)) ∧ (All2 ArgLe [.agg [.t (.v (.int .i64 p0.Length)), .t (.tree p0.Words.length 1 (Ru64 p0.Words))]] [.agg [.t (.v (.int .i64 p0.Length)), .t (.tree p0.Words.length 1 (Ru64 p0.Words))]]) ∧ ((true = true → flatB [])) ∧ (Con Try.prog 49 [.agg [.t (.v (.int .i64 p0.Length)), .t (.tree p0.Words.length 1 (Ru64 p0.Words))]] [] (.c (.t (.v (.bool y19)))) []), (!y19) = true, True, True, True, True, True, True, True, True, True, True, True, True] (by kernel_rfl) (by kernel_rfl) ⟨trivial, ⟨⟨⟨trivial, trivial, trivial⟩, trivial⟩, ⟨ArgLe.refl _, trivial⟩, (fun _ => trivial), (bitset_Valid_con p0 y19 e20)⟩, c21, trivial, trivial, trivial, trivial, trivial, trivial, trivial, trivial, trivial, trivial, trivial, trivial, trivial⟩ ?_
      exact joinQ_leaf (true) h (conv_ren [(0, 0), (1, 1), (2, 2)] [2, 3, 4, 6, 25] (n := 3) (by kernel_rfl) (by kernel_rfl))
    · rw [if_neg c21] at h
      obtain ⟨y22, e23, h⟩ := bnd_some h
      by_cases c24 : (!y22) = true
      · rw [if_pos c24] at h
        refine AW.reg tt_ok1 [2, 3, 4, 6, 25] [0, 1, 2] [{}, { call := some { ids := [], frz := [], flat := true, cnt := 0, args := [.agg [.t (.v (.int .i64 p0.Length)), .t (.tree p0.Words.length 1 (Ru64 p0.Words))]], out := .c (.t (.v (.bool y19))), outb := [] } }, { h := { b := some false } }, {}, {}, { call := some { ids := [], frz := [], flat := true, cnt := 0, args := [.agg [.t (.v (.int .i64 p1.Length)), .t (.tree p1.Words.length 1 (Ru64 p1.Words))]], out := .c (.t (.v (.bool y22))), outb := [] } }, { h := { b := some true } }] ⟨[(25, .c (.t (.v (.bool true)))), (6, .c (.ptr 2 2 0 0)), (4, .c (.ptr 1 2 0 0)), (3, .c (.ptr 0 2 0 0)), (2, .c (.t (.v (.func (.func 60) #[] #[]))))], [(2, .box 29 [.t (.v (.int .i64 0)), .t (.v (.slice none 0 0))]), (1, .box 29 [.t (.v (.int .i64 p1.Length)), .t (.tree p1.Words.length 1 (Ru64 p1.Words))]), (0, .box 29 [.t (.v (.int .i64 p0.Length)), .t (.tree p0.Words.length 1 (Ru64 p0.Words))])], 17⟩ [True, (((True) ∧ (True) ∧ (True)) ∧ (True)) ∧ (All2 ArgLe [.agg [.t (.v (.int .i64 p0.Length)), .t (.tree p0.Words.length 1 (Ru64 p0.Words))]] [.agg [.t (.v (.int .i64 p0.Length)), .t (.tree p0.Words.length 1 (Ru64 p0.Words))]]) ∧ ((true = true → flatB [])) ∧ (Con Try.prog 49 [.agg [.t (.v (.int .i64 p0.Length)), .t (.tree p0.Words.length 1 (Ru64 p0.Words))]] [] (.c (.t (.v (.bool y19)))) []), (!y19) = false, True, True, (((True) ∧ (True) ∧ (True)) ∧ (True)) ∧ (All2 ArgLe [.agg [.t (.v (.int .i64 p1.Length)), .t (.tree p1.Words.length 1 (Ru64 p1.Words))]] [.agg [.t (.v (.int .i64 p1.Length)), .t (.tree p1.Words.length 1 (Ru64 p1.Words))]]) ∧ ((true = true → flatB [])) ∧ (Con Try.prog 49 [.agg [.t (.v (.int .i64 p1.Length)), .t (.tree p1.Words.length 1 (Ru64 p1.Words))]] [] (.c (.t (.v (.bool y22)))) []), (!y22) = true, True, True, True, True, True, True, True, True] (by kernel_rfl) (by kernel_rfl) ⟨trivial, ⟨⟨⟨trivial, trivial, trivial⟩, trivial⟩, ⟨ArgLe.refl _, trivial⟩, (fun _ => trivial), (bitset_Valid_con p0 y19 e20)⟩, (off_false c21), trivial, trivial, ⟨⟨⟨trivial, trivial, trivial⟩, trivial⟩, ⟨ArgLe.refl _, trivial⟩, (fun _ => trivial), (bitset_Valid_con p1 y22 e23)⟩, c24, trivial, trivial, trivial, trivial, trivial, trivial, trivial, trivial, trivial⟩ ?_
        exact joinQ_leaf (true) h (conv_ren [(0, 0), (1, 1), (2, 2)] [2, 3, 4, 6, 25] (n := 3) (by kernel_rfl) (by kernel_rfl))
      · rw [if_neg c24] at h
        refine AW.reg tt_ok1 [2, 3, 4, 6, 25] [0, 1, 2] [{}, { call := some { ids := [], frz := [], flat := true, cnt := 0, args := [.agg [.t (.v (.int .i64 p0.Length)), .t (.tree p0.Words.length 1 (Ru64 p0.Words))]], out := .c (.t (.v (.bool y19))), outb := [] } }, { h := { b := some false } }, {}, {}, { call := some { ids := [], frz := [], flat := true, cnt := 0, args := [.agg [.t (.v (.int .i64 p1.Length)), .t (.tree p1.Words.length 1 (Ru64 p1.Words))]], out := .c (.t (.v (.bool y22))), outb := [] } }, { h := { b := some false } }] ⟨[(25, .c (.t (.v (.bool (p0.Length != p1.Length))))), (6, .c (.ptr 2 2 0 0)), (4, .c (.ptr 1 2 0 0)), (3, .c (.ptr 0 2 0 0)), (2, .c (.t (.v (.func (.func 60) #[] #[]))))], [(2, .box 29 [.t (.v (.int .i64 0)), .t (.v (.slice none 0 0))]), (1, .box 29 [.t (.v (.int .i64 p1.Length)), .t (.tree p1.Words.length 1 (Ru64 p1.Words))]), (0, .box 29 [.t (.v (.int .i64 p0.Length)), .t (.tree p0.Words.length 1 (Ru64 p0.Words))])], 17⟩ [True, (((True) ∧ (True) ∧ (True)) ∧ (True)) ∧ (All2 ArgLe [.agg [.t (.v (.int .i64 p0.Length)), .t (.tree p0.Words.length 1 (Ru64 p0.Words))]] [.agg [.t (.v (.int .i64 p0.Length)), .t (.tree p0.Words.length 1 (Ru64 p0.Words))]]) ∧ ((true = true → flatB [])) ∧ (Con Try.prog 49 [.agg [.t (.v (.int .i64 p0.Length)), .t (.tree p0.Words.length 1 (Ru64 p0.Words))]] [] (.c (.t (.v (.bool y19)))) []), (!y19) = false, True, True, (((True) ∧ (True) ∧ (True)) ∧ (True)) ∧ (All2 ArgLe [.agg [.t (.v (.int .i64 p1.Length)), .t (.tree p1.Words.length 1 (Ru64 p1.Words))]] [.agg [.t (.v (.int .i64 p1.Length)), .t (.tree p1.Words.length 1 (Ru64 p1.Words))]]) ∧ ((true = true → flatB [])) ∧ (Con Try.prog 49 [.agg [.t (.v (.int .i64 p1.Length)), .t (.tree p1.Words.length 1 (Ru64 p1.Words))]] [] (.c (.t (.v (.bool y22)))) []), (!y22) = false, True, True, True, True, True, True, True, True] (by kernel_rfl) (by kernel_rfl) ⟨trivial, ⟨⟨⟨trivial, trivial, trivial⟩, trivial⟩, ⟨ArgLe.refl _, trivial⟩, (fun _ => trivial), (bitset_Valid_con p0 y19 e20)⟩, (off_false c21), trivial, trivial, ⟨⟨⟨trivial, trivial, trivial⟩, trivial⟩, ⟨ArgLe.refl _, trivial⟩, (fun _ => trivial), (bitset_Valid_con p1 y22 e23)⟩, (off_false c24), trivial, trivial, trivial, trivial, trivial, trivial, trivial, trivial, trivial⟩ ?_
        exact joinQ_leaf ((p0.Length != p1.Length)) h (conv_ren [(0, 0), (1, 1), (2, 2)] [2, 3, 4, 6, 25] (n := 3) (by kernel_rfl) (by kernel_rfl))
/-! recordlink/bitset.Or -/
noncomputable def bitset_Or (p0 : S_api_Bits) (p1 : S_api_Bits) : Option (S_api_Bits × Int) := bind2 (bitset_both_60 p0 p1) fun y1 y2 => (some (y1, y2))
set_option maxRecDepth 100000 in
set_option maxHeartbeats 10000000 in
theorem bitset_Or_con (p0 : S_api_Bits) (p1 : S_api_Bits) (r0 : S_api_Bits) (r1 : Int) (h : bitset_Or p0 p1 = some (r0, r1)) : Con Try.prog 30 [.agg [.t (.v (.int .i64 p0.Length)), .t (.tree p0.Words.length 1 (Ru64 p0.Words))], .agg [.t (.v (.int .i64 p1.Length)), .t (.tree p1.Words.length 1 (Ru64 p1.Words))]] [] (.tup [.agg [.t (.v (.int .i64 r0.Length)), .ref 0 1 0 r0.Words.length], .c (.t (.v (.int .i64 r1)))]) [(0, .row 33 false 1 r0.Words.length (Ru64 r0.Words))] := by
  suffices H : ∀ r, bitset_Or p0 p1 = some r → Con Try.prog 30 [.agg [.t (.v (.int .i64 p0.Length)), .t (.tree p0.Words.length 1 (Ru64 p0.Words))], .agg [.t (.v (.int .i64 p1.Length)), .t (.tree p1.Words.length 1 (Ru64 p1.Words))]] [] (.tup [.agg [.t (.v (.int .i64 r.1.Length)), .ref 0 1 0 r.1.Words.length], .c (.t (.v (.int .i64 r.2)))]) [(0, .row 33 false 1 r.1.Words.length (Ru64 r.1.Words))] from H (r0, r1) h
  clear h
  intro r h
  refine con_of tt_ok1 0 Try.func30 (by kernel_rfl) rfl (by kernel_rfl) (fun base X hk => AW.post ?_)
  unfold bitset_Or at h
  refine AW.seq ?_
  refine AW.reg tt_ok1 [2, 3, 4] [0, 1, 2] [] ⟨[(4, .c (.ptr 2 2 0 0)), (3, .c (.ptr 1 2 0 0)), (2, .c (.ptr 0 2 0 0))], [(2, .box 29 [.t (.v (.int .i64 0)), .t (.v (.slice none 0 0))]), (1, .box 29 [.t (.v (.int .i64 p1.Length)), .t (.tree p1.Words.length 1 (Ru64 p1.Words))]), (0, .box 29 [.t (.v (.int .i64 p0.Length)), .t (.tree p0.Words.length 1 (Ru64 p0.Words))])], 4⟩ [True, True, True, True] (by kernel_rfl) (by kernel_rfl) ⟨trivial, trivial, trivial, trivial, trivial⟩ ?_
  refine AW.thenQ_normal ?_
  refine AW.seq ?_
  obtain ⟨y1, y2, e3, h⟩ := bind2_some h
  refine AW.reg tt_ok1 [4, 5] [2, 6] [{}, {}, { call := some { ids := [], frz := [], flat := true, cnt := 1, args := [.agg [.t (.v (.int .i64 p0.Length)), .t (.tree p0.Words.length 1 (Ru64 p0.Words))], .agg [.t (.v (.int .i64 p1.Length)), .t (.tree p1.Words.length 1 (Ru64 p1.Words))], .c (.t (.v (.func (.func 60) #[] #[])))], out := .tup [.agg [.t (.v (.int .i64 y1.Length)), .ref 0 1 0 y1.Words.length], .c (.t (.v (.int .i64 y2)))], outb := [(0, .row 33 false 1 y1.Words.length (Ru64 y1.Words))] } }] ⟨[(5, .c (.t (.v (.int .i64 y2)))), (4, .c (.ptr 2 2 0 0))], [(2, .box 29 [.t (.v (.int .i64 y1.Length)), .ref 6 1 0 y1.Words.length]), (6, .row 33 false 1 y1.Words.length (Ru64 y1.Words))], 11⟩ [True, True, (((True) ∧ (True) ∧ (True)) ∧ ((True) ∧ (True) ∧ (True)) ∧ (True) ∧ (True)) ∧ (All2 ArgLe [.agg [.t (.v (.int .i64 p0.Length)), .t (.tree p0.Words.length 1 (Ru64 p0.Words))], .agg [.t (.v (.int .i64 p1.Length)), .t (.tree p1.Words.length 1 (Ru64 p1.Words))], .c (.t (.v (.func (.func 60) #[] #[])))] [.agg [.t (.v (.int .i64 p0.Length)), .t (.tree p0.Words.length 1 (Ru64 p0.Words))], .agg [.t (.v (.int .i64 p1.Length)), .t (.tree p1.Words.length 1 (Ru64 p1.Words))], .c (.t (.v (.func (.func 60) #[] #[])))]) ∧ ((true = true → flatB [(0, .row 33 false 1 y1.Words.length (Ru64 y1.Words))])) ∧ (Con Try.prog 58 [.agg [.t (.v (.int .i64 p0.Length)), .t (.tree p0.Words.length 1 (Ru64 p0.Words))], .agg [.t (.v (.int .i64 p1.Length)), .t (.tree p1.Words.length 1 (Ru64 p1.Words))], .c (.t (.v (.func (.func 60) #[] #[])))] [] (.tup [.agg [.t (.v (.int .i64 y1.Length)), .ref 0 1 0 y1.Words.length], .c (.t (.v (.int .i64 y2)))]) [(0, .row 33 false 1 y1.Words.length (Ru64 y1.Words))]), True, True, True, True] (by kernel_rfl) (by kernel_rfl) ⟨trivial, trivial, ⟨⟨⟨trivial, trivial, trivial⟩, ⟨trivial, trivial, trivial⟩, trivial, trivial⟩, ⟨ArgLe.refl _, ArgLe.refl _, ArgLe.refl _, trivial⟩, (fun _ => ⟨rowL_flat Vu64 _ _ _, trivial⟩), (bitset_both_60_con p0 p1 y1 y2 e3)⟩, trivial, trivial, trivial, trivial, trivial⟩ ?_
  refine AW.thenQ_normal ?_
  refine AW.ret ?_
  obtain rfl := some_inj h
  exact ⟨_, Conv.refl _ _, .inr rfl, OutOk.mk [(0, 6)] 1 (out0 := .tup [.agg [.t (.v (.int .i64 y1.Length)), .ref 6 1 0 y1.Words.length], .c (.t (.v (.int .i64 y2)))]) (ps := [True, True]) (by kernel_rfl) ⟨trivial, trivial, trivial⟩ (by kernel_rfl) (by kernel_rfl)⟩
/-! recordlink/bitset.Xor$1 -/
noncomputable def bitset_Xor_f1 (p0 : Int) (p1 : Int) : Option Int := some (ixor .u64 p0 p1)
set_option maxRecDepth 100000 in
set_option maxHeartbeats 10000000 in
theorem bitset_Xor_f1_con (p0 : Int) (p1 : Int) (r0 : Int) (h : bitset_Xor_f1 p0 p1 = some r0) : Con Try.prog 61 [.c (.t (.v (.int .u64 p0))), .c (.t (.v (.int .u64 p1)))] [] (.c (.t (.v (.int .u64 r0)))) [] := by
  revert h; generalize r0 = r; intro h
  refine con_of tt_ok1 0 Try.func61 (by kernel_rfl) rfl (by kernel_rfl) (fun base X hk => AW.post ?_)
  unfold bitset_Xor_f1 at h
  refine AW.seq ?_
  refine AW.reg tt_ok1 [0, 1] [] [] ⟨[(0, .c (.t (.v (.int .u64 p0)))), (1, .c (.t (.v (.int .u64 p1))))], [], 1⟩ [True] (by kernel_rfl) (by kernel_rfl) ⟨trivial, trivial⟩ ?_
  refine AW.thenQ_normal ?_
  refine AW.seq ?_
  refine AW.reg tt_ok1 [4] [] [] ⟨[(4, .c (.t (.v (.int .u64 (ixor .u64 p0 p1)))))], [], 5⟩ [True, True, True, True] (by kernel_rfl) (by kernel_rfl) ⟨trivial, trivial, trivial, trivial, trivial⟩ ?_
  refine AW.thenQ_normal ?_
  refine AW.ret ?_
  obtain rfl := some_inj h
  exact ⟨_, Conv.refl _ _, .inr rfl, OutOk.mk [] 0 (out0 := .c (.t (.v (.int .u64 (ixor .u64 p0 p1))))) (ps := [True]) (by kernel_rfl) ⟨trivial, trivial⟩ (by kernel_rfl) (by kernel_rfl)⟩
/-! recordlink/bitset.both -/
noncomputable def bitset_both_61_l6 (p0 : S_api_Bits) (p1 : S_api_Bits) (x7 : Int) (x8 : List Int) : Option ((Int × (List Int)) ⊕ (List Int)) := if (decide (x7 < ((p0.Words.length : Nat) : Int))) = true then (if 0 ≤ x7 then (if x7 < ((p0.Words.length : Nat) : Int) then (if x7 < ((p1.Words.length : Nat) : Int) then ((bitset_Xor_f1 (p0.Words.getD x7.toNat 0) (p1.Words.getD x7.toNat 0)).bind fun y14 => (if x7 < ((x8.length : Nat) : Int) then (some (.inl (IntKind.i64.wrap (x7 + 1), (x8.set (0 + x7.toNat) y14)))) else none)) else none) else none) else none) else (some (.inr x8))
noncomputable def bitset_both_61_k4 (p0 : S_api_Bits) (p1 : S_api_Bits) (x1 : Bool) : Option (S_api_Bits × Int) := if x1 = true then (some ((⟨0, ([] : List Int)⟩ : S_api_Bits), 8)) else (if 0 ≤ ((p0.Words.length : Nat) : Int) then (if ((p0.Words.length : Nat) : Int) ≤ 1099511627776 then ((loop (fun v : Int × (List Int) => bitset_both_61_l6 p0 p1 v.1 v.2) (0, (List.replicate (((p0.Words.length : Nat) : Int).toNat) (0 : Int)))).bind fun x17 => (some ((⟨p0.Length, x17⟩ : S_api_Bits), 0))) else none) else none)
noncomputable def bitset_both_61 (p0 : S_api_Bits) (p1 : S_api_Bits) : Option (S_api_Bits × Int) := (bitset_Valid p0).bind fun y19 => (if (!y19) = true then (bitset_both_61_k4 p0 p1 true) else ((bitset_Valid p1).bind fun y22 => (if (!y22) = true then (bitset_both_61_k4 p0 p1 true) else (bitset_both_61_k4 p0 p1 (p0.Length != p1.Length)))))
set_option maxRecDepth 100000 in
set_option maxHeartbeats 10000000 in
theorem bitset_both_61_con (p0 : S_api_Bits) (p1 : S_api_Bits) (r0 : S_api_Bits) (r1 : Int) (h : bitset_both_61 p0 p1 = some (r0, r1)) : Con Try.prog 58 [.agg [.t (.v (.int .i64 p0.Length)), .t (.tree p0.Words.length 1 (Ru64 p0.Words))], .agg [.t (.v (.int .i64 p1.Length)), .t (.tree p1.Words.length 1 (Ru64 p1.Words))], .c (.t (.v (.func (.func 61) #[] #[])))] [] (.tup [.agg [.t (.v (.int .i64 r0.Length)), .ref 0 1 0 r0.Words.length], .c (.t (.v (.int .i64 r1)))]) [(0, .row 33 false 1 r0.Words.length (Ru64 r0.Words))] := by
  suffices H : ∀ r, bitset_both_61 p0 p1 = some r → Con Try.prog 58 [.agg [.t (.v (.int .i64 p0.Length)), .t (.tree p0.Words.length 1 (Ru64 p0.Words))], .agg [.t (.v (.int .i64 p1.Length)), .t (.tree p1.Words.length 1 (Ru64 p1.Words))], .c (.t (.v (.func (.func 61) #[] #[])))] [] (.tup [.agg [.t (.v (.int .i64 r.1.Length)), .ref 0 1 0 r.1.Words.length], .c (.t (.v (.int .i64 r.2)))]) [(0, .row 33 false 1 r.1.Words.length (Ru64 r.1.Words))] from H (r0, r1) h
  clear h
  intro r h
  refine con_of tt_ok1 0 Try.func58 (by kernel_rfl) rfl (by kernel_rfl) (fun base X hk => AW.post ?_)
  unfold bitset_both_61 at h
  refine AW.seq ?_
  refine AW.reg tt_ok1 [2, 3, 4, 6] [0, 1, 2] [] ⟨[(6, .c (.ptr 2 2 0 0)), (4, .c (.ptr 1 2 0 0)), (3, .c (.ptr 0 2 0 0)), (2, .c (.t (.v (.func (.func 61) #[] #[]))))], [(2, .box 29 [.t (.v (.int .i64 0)), .t (.v (.slice none 0 0))]), (1, .box 29 [.t (.v (.int .i64 p1.Length)), .t (.tree p1.Words.length 1 (Ru64 p1.Words))]), (0, .box 29 [.t (.v (.int .i64 p0.Length)), .t (.tree p0.Words.length 1 (Ru64 p0.Words))])], 4⟩ [True, True, True, True] (by kernel_rfl) (by kernel_rfl) ⟨trivial, trivial, trivial, trivial, trivial⟩ ?_
  refine AW.thenQ_normal ?_
  refine AW.seq ?_
  refine AW.seq ?_
  refine AW.join (ι := Bool) (fun v => ⟨[(2, .c (.t (.v (.func (.func 61) #[] #[])))), (3, .c (.ptr 0 2 0 0)), (4, .c (.ptr 1 2 0 0)), (6, .c (.ptr 2 2 0 0)), (25, .c (.t (.v (.bool v))))], [(0, .box 29 [.t (.v (.int .i64 p0.Length)), .t (.tree p0.Words.length 1 (Ru64 p0.Words))]), (1, .box 29 [.t (.v (.int .i64 p1.Length)), .t (.tree p1.Words.length 1 (Ru64 p1.Words))]), (2, .box 29 [.t (.v (.int .i64 0)), .t (.v (.slice none 0 0))])], 3⟩) (fun v : Bool => bitset_both_61_k4 p0 p1 v = some r) (fun v h => ?_) ?_
  ·
    obtain ⟨x1, rfl⟩ : ∃ x, x = v := ⟨_, rfl⟩
    replace h : bitset_both_61_k4 p0 p1 x1 = some r := h
    unfold bitset_both_61_k4 at h
    show (_ : Exit → St → Prop) .normal ⟨[(2, .c (.t (.v (.func (.func 61) #[] #[])))), (3, .c (.ptr 0 2 0 0)), (4, .c (.ptr 1 2 0 0)), (6, .c (.ptr 2 2 0 0)), (25, .c (.t (.v (.bool x1))))], [(0, .box 29 [.t (.v (.int .i64 p0.Length)), .t (.tree p0.Words.length 1 (Ru64 p0.Words))]), (1, .box 29 [.t (.v (.int .i64 p1.Length)), .t (.tree p1.Words.length 1 (Ru64 p1.Words))]), (2, .box 29 [.t (.v (.int .i64 0)), .t (.v (.slice none 0 0))])], 3⟩
    refine AW.thenQ_normal ?_
    refine AW.cond (b := x1) (by kernel_rfl) (fun c2 => ?_) (fun c2 => ?_)
    · rw [if_pos c2] at h
      refine AW.seq ?_
      refine AW.reg tt_ok1 [6, 7] [2] [] ⟨[(7, .c (.t (.v (.int .i64 8)))), (6, .c (.ptr 2 2 0 0))], [(2, .box 29 [.t (.v (.int .i64 0)), .t (.v (.slice none 0 0))])], 6⟩ [True, True, True] (by kernel_rfl) (by kernel_rfl) ⟨trivial, trivial, trivial, trivial⟩ ?_
      refine AW.thenQ_normal ?_
      refine AW.ret ?_
      refine AW.thenQ_ret ?_
      obtain rfl := some_inj h
      exact ⟨_, conv_adoptB (id := 2) (ty0 := 29) (cs := [.t (.v (.int .i64 0)), .t (.v (.slice none 0 0))]) 1 (ty := 33) (sz := 1) (n := ([] : List Int).length) (f := Ru64 ([] : List Int)) (by kernel_rfl) (by kernel_rfl) rfl, .inr rfl, OutOk.mk [(0, 6)] 1 (out0 := .tup [.agg [.t (.v (.int .i64 0)), .ref 6 1 0 (([] : List Int).length)], .c (.t (.v (.int .i64 8)))]) (ps := [True, True]) (by kernel_rfl) ⟨trivial, trivial, trivial⟩ (by kernel_rfl) (by kernel_rfl)⟩
    · rw [if_neg (by rw [c2]; exact Bool.false_ne_true)] at h
      refine AW.skip ?_
      refine AW.thenQ_normal ?_
      refine AW.seq ?_
      obtain ⟨g3, h⟩ := ifc h
      obtain ⟨g4, h⟩ := ifc h
      refine AW.regD tt_ok1 mo1 [0, 1, 0, 4, 12, 28, 63, 0, 255] [[], [], [], [], [], [8], [], [10], [10]] [2, 3, 4, 6, 8] [0, 1, 2, 8, 10] [{}, {}, {}, {}, {}, { h := { row := some ((List.replicate (((p0.Words.length : Nat) : Int).toNat) (0 : Int)).length, Ru64 (List.replicate (((p0.Words.length : Nat) : Int).toNat) (0 : Int))) } }] ⟨[(8, .c (.ptr 10 2 0 0)), (2, .c (.t (.v (.func (.func 61) #[] #[])))), (3, .c (.ptr 0 2 0 0)), (4, .c (.ptr 1 2 0 0)), (6, .c (.ptr 2 2 0 0))], [(10, .box 29 [.t (.v (.int .i64 p0.Length)), .ref 8 1 0 ((List.replicate (((p0.Words.length : Nat) : Int).toNat) (0 : Int)).length)]), (8, .row 33 false 1 (List.replicate (((p0.Words.length : Nat) : Int).toNat) (0 : Int)).length (Ru64 (List.replicate (((p0.Words.length : Nat) : Int).toNat) (0 : Int)))), (0, .box 29 [.t (.v (.int .i64 p0.Length)), .t (.tree p0.Words.length 1 (Ru64 p0.Words))]), (1, .box 29 [.t (.v (.int .i64 p1.Length)), .t (.tree p1.Words.length 1 (Ru64 p1.Words))]), (2, .box 29 [.t (.v (.int .i64 0)), .t (.v (.slice none 0 0))])], 12⟩ [True, True, True, True, True, ((0 ≤ ((p0.Words.length : Nat) : Int)) ∧ (((p0.Words.length : Nat) : Int) ≤ ((p0.Words.length : Nat) : Int)) ∧ (((p0.Words.length : Nat) : Int) ≤ 1099511627776) ∧ ((8 : Nat) ≤ 128)) ∧ (((p0.Words.length : Nat) : Int).toNat = (List.replicate (((p0.Words.length : Nat) : Int).toNat) (0 : Int)).length ∧ ∀ i, i < (List.replicate (((p0.Words.length : Nat) : Int).toNat) (0 : Int)).length → ∀ j, j < 1 → TLe ((fun _ j => .v (([.int .u64 0] : List Value).getD j undef)) i j) (Ru64 (List.replicate (((p0.Words.length : Nat) : Int).toNat) (0 : Int)) i j)), True, True, True] (by kernel_rfl) (by kernel_rfl) ⟨trivial, trivial, trivial, trivial, trivial, ⟨⟨g3, Int.le_refl _, g4, (by decide)⟩, mk_row (fun j hj => match j, hj with | 0, _ => TLe.refl _ | _ + 1, h => absurd h (by omega))⟩, trivial, trivial, trivial, trivial⟩ ?_
      refine AW.thenQ_normal ?_
      refine AW.seq ?_
      refine AW.seq ?_
      refine AW.reg tt_ok1 [2, 4, 6, 8, 35, 36, 37] [1, 2, 8, 10] [] ⟨[(37, .c (.t (.v (.int .i64 0)))), (36, .c (.t (.v (.int .i64 ((p0.Words.length : Nat) : Int))))), (35, .c (.t (.tree p0.Words.length 1 (Ru64 p0.Words)))), (8, .c (.ptr 10 2 0 0)), (2, .c (.t (.v (.func (.func 61) #[] #[])))), (4, .c (.ptr 1 2 0 0)), (6, .c (.ptr 2 2 0 0))], [(10, .box 29 [.t (.v (.int .i64 p0.Length)), .ref 8 1 0 ((List.replicate (((p0.Words.length : Nat) : Int).toNat) (0 : Int)).length)]), (8, .row 33 false 1 (List.replicate (((p0.Words.length : Nat) : Int).toNat) (0 : Int)).length (Ru64 (List.replicate (((p0.Words.length : Nat) : Int).toNat) (0 : Int)))), (1, .box 29 [.t (.v (.int .i64 p1.Length)), .t (.tree p1.Words.length 1 (Ru64 p1.Words))]), (2, .box 29 [.t (.v (.int .i64 0)), .t (.v (.slice none 0 0))])], 16⟩ [True, True, True, True] (by kernel_rfl) (by kernel_rfl) ⟨trivial, trivial, trivial, trivial, trivial⟩ ?_
      refine AW.thenQ_normal ?_
      refine AW.block ?_
      obtain ⟨x17, l18, h⟩ := bnd_some h
      refine AW.pre (S' := ((fun v => ⟨[(2, .c (.t (.v (.func (.func 61) #[] #[])))), (4, .c (.ptr 0 2 0 0)), (6, .c (.ptr 1 2 0 0)), (8, .c (.ptr 2 2 0 0)), (35, .c (.t (.tree p0.Words.length 1 (Ru64 p0.Words)))), (36, .c (.t (.v (.int .i64 ((p0.Words.length : Nat) : Int))))), (37, .c (.t (.v (.int .i64 v.1))))], [(0, .box 29 [.t (.v (.int .i64 p1.Length)), .t (.tree p1.Words.length 1 (Ru64 p1.Words))]), (1, .box 29 [.t (.v (.int .i64 0)), .t (.v (.slice none 0 0))]), (2, .box 29 [.t (.v (.int .i64 p0.Length)), .ref 3 1 0 v.2.length]), (3, .row 33 false 1 v.2.length (Ru64 v.2))], 4⟩) : (Int × (List Int)) → St) (0, (List.replicate (((p0.Words.length : Nat) : Int).toNat) (0 : Int)))) (conv_ren [(0, 1), (1, 2), (2, 10), (3, 8)] [2, 4, 6, 8, 35, 36, 37] (n := 4) (by kernel_rfl) (by kernel_rfl)) ?_
      refine AW.loop2 (step := (fun v : Int × (List Int) => bitset_both_61_l6 p0 p1 v.1 v.2)) (s0 := (0, (List.replicate (((p0.Words.length : Nat) : Int).toNat) (0 : Int)))) (t := x17) (fun v => ⟨[(2, .c (.t (.v (.func (.func 61) #[] #[])))), (4, .c (.ptr 0 2 0 0)), (6, .c (.ptr 1 2 0 0)), (8, .c (.ptr 2 2 0 0)), (35, .c (.t (.tree p0.Words.length 1 (Ru64 p0.Words)))), (36, .c (.t (.v (.int .i64 ((p0.Words.length : Nat) : Int))))), (37, .c (.t (.v (.int .i64 v.1))))], [(0, .box 29 [.t (.v (.int .i64 p1.Length)), .t (.tree p1.Words.length 1 (Ru64 p1.Words))]), (1, .box 29 [.t (.v (.int .i64 0)), .t (.v (.slice none 0 0))]), (2, .box 29 [.t (.v (.int .i64 p0.Length)), .ref 3 1 0 v.2.length]), (3, .row 33 false 1 v.2.length (Ru64 v.2))], 4⟩) (fun t : List Int => (.exit 0, ⟨[(6, .c (.ptr 0 2 0 0)), (8, .c (.ptr 1 2 0 0))], [(0, .box 29 [.t (.v (.int .i64 0)), .t (.v (.slice none 0 0))]), (1, .box 29 [.t (.v (.int .i64 p0.Length)), .ref 2 1 0 t.length]), (2, .row 33 false 1 t.length (Ru64 t))], 3⟩)) l18 (fun _ => trivial) ?_ ?_
      ·
        intro v o h
        obtain ⟨x7, x8⟩ := v
        replace h : bitset_both_61_l6 p0 p1 x7 x8 = some o := h
        unfold bitset_both_61_l6 at h
        show AW _ ⟨[(2, .c (.t (.v (.func (.func 61) #[] #[])))), (4, .c (.ptr 0 2 0 0)), (6, .c (.ptr 1 2 0 0)), (8, .c (.ptr 2 2 0 0)), (35, .c (.t (.tree p0.Words.length 1 (Ru64 p0.Words)))), (36, .c (.t (.v (.int .i64 ((p0.Words.length : Nat) : Int))))), (37, .c (.t (.v (.int .i64 x7))))], [(0, .box 29 [.t (.v (.int .i64 p1.Length)), .t (.tree p1.Words.length 1 (Ru64 p1.Words))]), (1, .box 29 [.t (.v (.int .i64 0)), .t (.v (.slice none 0 0))]), (2, .box 29 [.t (.v (.int .i64 p0.Length)), .ref 3 1 0 x8.length]), (3, .row 33 false 1 x8.length (Ru64 x8))], 4⟩ _ _
        refine AW.seq ?_
        refine AW.reg tt_ok1 [2, 4, 6, 8, 35, 36, 37, 38] [0, 1, 2, 3] [] ⟨[(38, .c (.t (.v (.bool (decide (x7 < ((p0.Words.length : Nat) : Int))))))), (2, .c (.t (.v (.func (.func 61) #[] #[])))), (4, .c (.ptr 0 2 0 0)), (6, .c (.ptr 1 2 0 0)), (8, .c (.ptr 2 2 0 0)), (35, .c (.t (.tree p0.Words.length 1 (Ru64 p0.Words)))), (36, .c (.t (.v (.int .i64 ((p0.Words.length : Nat) : Int))))), (37, .c (.t (.v (.int .i64 x7))))], [(0, .box 29 [.t (.v (.int .i64 p1.Length)), .t (.tree p1.Words.length 1 (Ru64 p1.Words))]), (1, .box 29 [.t (.v (.int .i64 0)), .t (.v (.slice none 0 0))]), (2, .box 29 [.t (.v (.int .i64 p0.Length)), .ref 3 1 0 x8.length]), (3, .row 33 false 1 x8.length (Ru64 x8))], 5⟩ [True] (by kernel_rfl) (by kernel_rfl) ⟨trivial, trivial⟩ ?_
        refine AW.thenQ_normal ?_
        refine AW.seq ?_
        refine AW.cond (b := decide (x7 < ((p0.Words.length : Nat) : Int))) (by kernel_rfl) (fun c10 => ?_) (fun c10 => ?_)
        · rw [if_pos c10] at h
          refine AW.skip ?_
          refine AW.thenQ_normal ?_
          refine AW.seq ?_
          refine AW.block ?_
          refine AW.seq ?_
          obtain ⟨g11, h⟩ := ifc h
          obtain ⟨g12, h⟩ := ifc h
          refine AW.reg tt_ok1 [2, 4, 6, 8, 9, 10, 35, 36, 37] [0, 1, 2, 3] [] ⟨[(10, .c (.t (.v (.int .u64 (p0.Words.getD x7.toNat 0))))), (9, .c (.t (.v (.int .i64 x7)))), (2, .c (.t (.v (.func (.func 61) #[] #[])))), (4, .c (.ptr 0 2 0 0)), (6, .c (.ptr 1 2 0 0)), (8, .c (.ptr 2 2 0 0)), (35, .c (.t (.tree p0.Words.length 1 (Ru64 p0.Words)))), (36, .c (.t (.v (.int .i64 ((p0.Words.length : Nat) : Int))))), (37, .c (.t (.v (.int .i64 x7))))], [(0, .box 29 [.t (.v (.int .i64 p1.Length)), .t (.tree p1.Words.length 1 (Ru64 p1.Words))]), (1, .box 29 [.t (.v (.int .i64 0)), .t (.v (.slice none 0 0))]), (2, .box 29 [.t (.v (.int .i64 p0.Length)), .ref 3 1 0 x8.length]), (3, .row 33 false 1 x8.length (Ru64 x8))], 10⟩ [True, (0 ≤ x7) ∧ (x7 < ((p0.Words.length : Nat) : Int)), True, True, True] (by kernel_rfl) (by kernel_rfl) ⟨trivial, ⟨g11, g12⟩, trivial, trivial, trivial, trivial⟩ ?_
          refine AW.thenQ_normal ?_
          obtain ⟨g13, h⟩ := ifc h
          obtain ⟨y14, e15, h⟩ := bnd_some h
          obtain ⟨g16, h⟩ := ifc h
          refine AW.regD tt_ok1 mo1 [0, 1, 0, 0, 0, 0, 32, 0, 224, 480, 1016, 2047, 4095] [[], [], [], [], [], [], [], [], [], [], [], [], [3]] [2, 4, 6, 8, 35, 36, 37] [0, 1, 2, 3] [{}, {}, {}, {}, {}, {}, {}, {}, {}, {}, { call := some { ids := [], frz := [], flat := true, cnt := 0, args := [.c (.t (.v (.int .u64 (p0.Words.getD x7.toNat 0)))), .c (.t (.v (.int .u64 (p1.Words.getD x7.toNat 0))))], out := .c (.t (.v (.int .u64 y14))), outb := [] } }, {}, { h := { row := some (x8.length, Ru64 (x8.set (0 + x7.toNat) y14)) } }] ⟨[(2, .c (.t (.v (.func (.func 61) #[] #[])))), (4, .c (.ptr 0 2 0 0)), (6, .c (.ptr 1 2 0 0)), (8, .c (.ptr 2 2 0 0)), (35, .c (.t (.tree p0.Words.length 1 (Ru64 p0.Words)))), (36, .c (.t (.v (.int .i64 ((p0.Words.length : Nat) : Int))))), (37, .c (.t (.v (.int .i64 x7))))], [(3, .row 33 false 1 x8.length (Ru64 (x8.set (0 + x7.toNat) y14))), (0, .box 29 [.t (.v (.int .i64 p1.Length)), .t (.tree p1.Words.length 1 (Ru64 p1.Words))]), (1, .box 29 [.t (.v (.int .i64 0)), .t (.v (.slice none 0 0))]), (2, .box 29 [.t (.v (.int .i64 p0.Length)), .ref 3 1 0 x8.length])], 22⟩ [True, True, True, True, True, True, True, True, (0 ≤ x7) ∧ (x7 < ((p1.Words.length : Nat) : Int)), True, ((True) ∧ (True) ∧ (True)) ∧ (All2 ArgLe [.c (.t (.v (.int .u64 (p0.Words.getD x7.toNat 0)))), .c (.t (.v (.int .u64 (p1.Words.getD x7.toNat 0))))] [.c (.t (.v (.int .u64 (p0.Words.getD x7.toNat 0)))), .c (.t (.v (.int .u64 (p1.Words.getD x7.toNat 0))))]) ∧ ((true = true → flatB [])) ∧ (Con Try.prog 61 [.c (.t (.v (.int .u64 (p0.Words.getD x7.toNat 0)))), .c (.t (.v (.int .u64 (p1.Words.getD x7.toNat 0))))] [] (.c (.t (.v (.int .u64 y14)))) []), (0 ≤ x7) ∧ (x7 < ((x8.length : Nat) : Int)), ((0 + x7.toNat) < x8.length) ∧ (x8.length = x8.length ∧ ∀ i, i < x8.length → ∀ j, j < 1 → TLe (updRow (Ru64 x8) (0 + x7.toNat) 0 [.v (.int .u64 y14)] i j) (Ru64 (x8.set (0 + x7.toNat) y14) i j))] (by kernel_rfl) (by kernel_rfl) ⟨trivial, trivial, trivial, trivial, trivial, trivial, trivial, trivial, ⟨g11, g13⟩, trivial, ⟨⟨trivial, trivial, trivial⟩, ⟨ArgLe.refl _, ArgLe.refl _, trivial⟩, (fun _ => trivial), (bitset_Xor_f1_con (p0.Words.getD x7.toNat 0) (p1.Words.getD x7.toNat 0) y14 e15)⟩, ⟨g11, g16⟩, ⟨(by have h1 : 0 ≤ x7 := g11; have h2 : x7 < ((x8.length : Nat) : Int) := g16; omega), set_rowN rfl (by have h1 : 0 ≤ x7 := g11; have h2 : x7 < ((x8.length : Nat) : Int) := g16; omega) (fun j hj => match j, hj with | 0, _ => TLe.refl _ | _ + 1, h => absurd h (by omega))⟩, trivial⟩ ?_
          refine AW.inBlock_normal ?_
          refine AW.thenQ_normal ?_
          refine AW.reg tt_ok1 [2, 4, 6, 8, 35, 36, 37] [0, 1, 2, 3] [] ⟨[(37, .c (.t (.v (.int .i64 (IntKind.i64.wrap (x7 + 1)))))), (2, .c (.t (.v (.func (.func 61) #[] #[])))), (4, .c (.ptr 0 2 0 0)), (6, .c (.ptr 1 2 0 0)), (8, .c (.ptr 2 2 0 0)), (35, .c (.t (.tree p0.Words.length 1 (Ru64 p0.Words)))), (36, .c (.t (.v (.int .i64 ((p0.Words.length : Nat) : Int)))))], [(3, .row 33 false 1 x8.length (Ru64 (x8.set (0 + x7.toNat) y14))), (0, .box 29 [.t (.v (.int .i64 p1.Length)), .t (.tree p1.Words.length 1 (Ru64 p1.Words))]), (1, .box 29 [.t (.v (.int .i64 0)), .t (.v (.slice none 0 0))]), (2, .box 29 [.t (.v (.int .i64 p0.Length)), .ref 3 1 0 x8.length])], 24⟩ [True, True] (by kernel_rfl) (by kernel_rfl) ⟨trivial, trivial, trivial⟩ ?_
          obtain rfl := some_inj h
          refine loopQ_next (Conv.trans (conv_len (S' := ⟨[(37, .c (.t (.v (.int .i64 (IntKind.i64.wrap (x7 + 1)))))), (2, .c (.t (.v (.func (.func 61) #[] #[])))), (4, .c (.ptr 0 2 0 0)), (6, .c (.ptr 1 2 0 0)), (8, .c (.ptr 2 2 0 0)), (35, .c (.t (.tree p0.Words.length 1 (Ru64 p0.Words)))), (36, .c (.t (.v (.int .i64 ((p0.Words.length : Nat) : Int)))))], [(3, .row 33 false 1 (x8.set (0 + x7.toNat) y14).length (Ru64 (x8.set (0 + x7.toNat) y14))), (0, .box 29 [.t (.v (.int .i64 p1.Length)), .t (.tree p1.Words.length 1 (Ru64 p1.Words))]), (1, .box 29 [.t (.v (.int .i64 0)), .t (.v (.slice none 0 0))]), (2, .box 29 [.t (.v (.int .i64 p0.Length)), .ref 3 1 0 ((x8.set (0 + x7.toNat) y14).length)])], 24⟩) (by simp only [List.length_set])) (conv_ren [(0, 0), (1, 1), (2, 2), (3, 3)] [2, 4, 6, 8, 35, 36, 37] (n := 4) (by kernel_rfl) (by kernel_rfl)))
        · rw [if_neg (by rw [c10]; exact Bool.false_ne_true)] at h
          refine AW.exit ?_
          refine AW.thenQ_exit ?_
          obtain rfl := some_inj h
          refine loopQ_out rfl (conv_ren [(0, 1), (1, 2), (2, 3)] [6, 8] (n := 3) (by kernel_rfl) (by kernel_rfl))
      ·
        show (_ : Exit → St → Prop) (.exit 0) ⟨[(6, .c (.ptr 0 2 0 0)), (8, .c (.ptr 1 2 0 0))], [(0, .box 29 [.t (.v (.int .i64 0)), .t (.v (.slice none 0 0))]), (1, .box 29 [.t (.v (.int .i64 p0.Length)), .ref 2 1 0 x17.length]), (2, .row 33 false 1 x17.length (Ru64 x17))], 3⟩
        refine AW.inBlock_hit ?_
        refine AW.thenQ_normal ?_
        refine AW.seq ?_
        refine AW.reg tt_ok1 [6, 7] [0, 2] [] ⟨[(7, .c (.t (.v (.int .i64 0)))), (6, .c (.ptr 0 2 0 0))], [(0, .box 29 [.t (.v (.int .i64 p0.Length)), .ref 2 1 0 x17.length]), (2, .row 33 false 1 x17.length (Ru64 x17))], 6⟩ [True, True, True] (by kernel_rfl) (by kernel_rfl) ⟨trivial, trivial, trivial, trivial⟩ ?_
        refine AW.thenQ_normal ?_
        refine AW.ret ?_
        obtain rfl := some_inj h
        exact ⟨_, Conv.refl _ _, .inr rfl, OutOk.mk [(0, 2)] 1 (out0 := .tup [.agg [.t (.v (.int .i64 p0.Length)), .ref 2 1 0 x17.length], .c (.t (.v (.int .i64 0)))]) (ps := [True, True]) (by kernel_rfl) ⟨trivial, trivial, trivial⟩ (by kernel_rfl) (by kernel_rfl)⟩
  ·
    obtain ⟨y19, e20, h⟩ := bnd_some h
    by_cases c21 : (!y19) = true
    · rw [if_pos c21] at h
      refine AW.reg tt_ok1 [2, 3, 4, 6, 25] [0, 1, 2] [{}, { call := some { ids := [], frz := [], flat := true, cnt := 0, args := [.agg [.t (.v (.int .i64 p0.Length)), .t (.tree p0.Words.length 1 (Ru64 p0.Words))]], out := .c (.t (.v (.bool y19))), outb := [] } }, { h := { b := some true } }] ⟨[(25, .c (.t (.v (.bool true)))), (6, .c (.ptr 2 2 0 0)), (4, .c (.ptr 1 2 0 0)), (3, .c (.ptr 0 2 0 0)), (2, .c (.t (.v (.func (.func 61) #[] #[]))))], [(2, .box 29 [.t (.v (.int .i64 0)), .t (.v (.slice none 0 0))]), (1, .box 29 [.t (.v (.int .i64 p1.Length)), .t (.tree p1.Words.length 1 (Ru64 p1.Words))]), (0, .box 29 [.t (.v (.int .i64 p0.Length)), .t (.tree p0.Words.length 1 (Ru64 p0.Words))])], 18⟩ [True, (((True) ∧ (True) ∧ (True)) ∧ (True)) ∧ (All2 ArgLe [.agg [.t (.v (.int .i64 p0.Length)), .t (.tree p0.Words.length 1 (Ru64 p0.Words))]] [.agg [.t (.v (.int .i64 p0.Length)), .t (.tree p0.Words.length 1 (Ru64 p0.Words))]]) ∧ ((true = true → flatB [])) ∧ (Con Try.prog 49 [.agg [.t (.v (.int .i64 p0.Length)), .t (.tree p0.Words.length 1 (Ru64 p0.Words))]] [] (.c (.t (.v (.bool y19)))) []), (!y19) = true, True, True, True, True, True, True, True, True, True, True, True, True] (by kernel_rfl) (by kernel_rfl) ⟨trivial, ⟨⟨⟨trivial, trivial, trivial⟩, trivial⟩, ⟨ArgLe.refl _, trivial⟩, (fun _ => trivial), (bitset_Valid_con p0 y19 e20)⟩, c21, trivial, trivial, trivial, trivial, trivial, trivial, trivial, trivial, trivial, trivial, trivial, trivial, trivial⟩ ?_
      exact joinQ_leaf (true) h (conv_ren [(0, 0), (1, 1), (2, 2)] [2, 3, 4, 6, 25] (n := 3) (by kernel_rfl) (by kernel_rfl))
    · rw [if_neg c21] at h
      obtain ⟨y22, e23, h⟩ := bnd_some h
      by_cases c24 : (!y22) = true
      · rw [if_pos c24] at h
        refine AW.reg tt_ok1 [2, 3, 4, 6, 25] [0, 1, 2] [{}, { call := some { ids := [], frz := [], flat := true, cnt := 0, args := [.agg [.t (.v (.int .i64 p0.Length)), .t (.tree p0.Words.length 1 (Ru64 p0.Words))]], out := .c (.t (.v (.bool y19))), outb := [] } }, { h := { b := some false } }, {}, {}, { call := some { ids := [], frz := [], flat := true, cnt := 0, args := [.agg [.t (.v (.int .i64 p1.Length)), .t (.tree p1.Words.length 1 (Ru64 p1.Words))]], out := .c (.t (.v (.bool y22))), outb := [] } }, { h := { b := some true } }] ⟨[(25, .c (.t (.v (.bool true)))), (6, .c (.ptr 2 2 0 0)), (4, .c (.ptr 1 2 0 0)), (3, .c (.ptr 0 2 0 0)), (2, .c (.t (.v (.func (.func 61) #[] #[]))))], [(2, .box 29 [.t (.v (.int .i64 0)), .t (.v (.slice none 0 0))]), (1, .box 29 [.t (.v (.int .i64 p1.Length)), .t (.tree p1.Words.length 1 (Ru64 p1.Words))]), (0, .box 29 [.t (.v (.int .i64 p0.Length)), .t (.tree p0.Words.length 1 (Ru64 p0.Words))])], 17⟩ [True, (((True) ∧ (True) ∧ (True)) ∧ (True)) ∧ (All2 ArgLe [.agg [.t (.v (.int .i64 p0.Length)), .t (.tree p0.Words.length 1 (Ru64 p0.Words))]] [.agg [.t (.v (.int .i64 p0.Length)), .t (.tree p0.Words.length 1 (Ru64 p0.Words))]]) ∧ ((true = true → flatB [])) ∧ (Con Try.prog 49 [.agg [.t (.v (.int .i64 p0.Length)), .t (.tree p0.Words.length 1 (Ru64 p0.Words))]] [] (.c (.t (.v (.bool y19)))) []), (!y19) = false, True, True, (((True) ∧ (True) ∧ (True)) ∧ (True)) ∧ (All2 ArgLe [.agg [.t (.v (.int .i64 p1.Length)), .t (.tree p1.Words.length 1 (Ru64 p1.Words))]] [.agg [.t (.v (.int .i64 p1.Length)), .t (.tree p1.Words.length 1 (Ru64 p1.Words))]]) ∧ ((true = true → flatB [])) ∧ (Con Try.prog 49 [.agg [.t (.v (.int .i64 p1.Length)), .t (.tree p1.Words.length 1 (Ru64 p1.Words))]] [] (.c (.t (.v (.bool y22)))) []), (!y22) = true, True, True, True, True, True, True, True, True] (by kernel_rfl) (by kernel_rfl) ⟨trivial, ⟨⟨⟨trivial, trivial, trivial⟩, trivial⟩, ⟨ArgLe.refl _, trivial⟩, (fun _ => trivial), (bitset_Valid_con p0 y19 e20)⟩, (off_false c21), trivial, trivial, ⟨⟨⟨trivial, trivial, trivial⟩, trivial⟩, ⟨ArgLe.refl _, trivial⟩, (fun _ => trivial), (bitset_Valid_con p1 y22 e23)⟩, c24, trivial, trivial, trivial, trivial, trivial, trivial, trivial, trivial, trivial⟩ ?_
        exact joinQ_leaf (true) h (conv_ren [(0, 0), (1, 1), (2, 2)] [2, 3, 4, 6, 25] (n := 3) (by kernel_rfl) (by kernel_rfl))
      · rw [if_neg c24] at h
        refine AW.reg tt_ok1 [2, 3, 4, 6, 25] [0, 1, 2] [{}, { call := some { ids := [], frz := [], flat := true, cnt := 0, args := [.agg [.t (.v (.int .i64 p0.Length)), .t (.tree p0.Words.length 1 (Ru64 p0.Words))]], out := .c (.t (.v (.bool y19))), outb := [] } }, { h := { b := some false } }, {}, {}, { call := some { ids := [], frz := [], flat := true, cnt := 0, args := [.agg [.t (.v (.int .i64 p1.Length)), .t (.tree p1.Words.length 1 (Ru64 p1.Words))]], out := .c (.t (.v (.bool y22))), outb := [] } }, { h := { b := some false } }] ⟨[(25, .c (.t (.v (.bool (p0.Length != p1.Length))))), (6, .c (.ptr 2 2 0 0)), (4, .c (.ptr 1 2 0 0)), (3, .c (.ptr 0 2 0 0)), (2, .c (.t (.v (.func (.func 61) #[] #[]))))], [(2, .box 29 [.t (.v (.int .i64 0)), .t (.v (.slice none 0 0))]), (1, .box 29 [.t (.v (.int .i64 p1.Length)), .t (.tree p1.Words.length 1 (Ru64 p1.Words))]), (0, .box 29 [.t (.v (.int .i64 p0.Length)), .t (.tree p0.Words.length 1 (Ru64 p0.Words))])], 17⟩ [True, (((True) ∧ (True) ∧ (True)) ∧ (True)) ∧ (All2 ArgLe [.agg [.t (.v (.int .i64 p0.Length)), .t (.tree p0.Words.length 1 (Ru64 p0.Words))]] [.agg [.t (.v (.int .i64 p0.Length)), .t (.tree p0.Words.length 1 (Ru64 p0.Words))]]) ∧ ((true = true → flatB [])) ∧ (Con Try.prog 49 [.agg [.t (.v (.int .i64 p0.Length)), .t (.tree p0.Words.length 1 (Ru64 p0.Words))]] [] (.c (.t (.v (.bool y19)))) []), (!y19) = false, True, True, (((True) ∧ (True) ∧ (True)) ∧ (True)) ∧ (All2 ArgLe [.agg [.t (.v (.int .i64 p1.Length)), .t (.tree p1.Words.length 1 (Ru64 p1.Words))]] [.agg [.t (.v (.int .i64 p1.Length)), .t (.tree p1.Words.length 1 (Ru64 p1.Words))]]) ∧ ((true = true → flatB [])) ∧ (Con Try.prog 49 [.agg [.t (.v (.int .i64 p1.Length)), .t (.tree p1.Words.length 1 (Ru64 p1.Words))]] [] (.c (.t (.v (.bool y22)))) []), (!y22) = false, True, True, True, True, True, True, True, True] (by kernel_rfl) (by kernel_rfl) ⟨trivial, ⟨⟨⟨trivial, trivial, trivial⟩, trivial⟩, ⟨ArgLe.refl _, trivial⟩, (fun _ => trivial), (bitset_Valid_con p0 y19 e20)⟩, (off_false c21), trivial, trivial, ⟨⟨⟨trivial, trivial, trivial⟩, trivial⟩, ⟨ArgLe.refl _, trivial⟩, (fun _ => trivial), (bitset_Valid_con p1 y22 e23)⟩, (off_false c24), trivial, trivial, trivial, trivial, trivial, trivial, trivial, trivial, trivial⟩ ?_
        exact joinQ_leaf ((p0.Length != p1.Length)) h (conv_ren [(0, 0), (1, 1), (2, 2)] [2, 3, 4, 6, 25] (n := 3) (by kernel_rfl) (by kernel_rfl))
/-! recordlink/bitset.Xor -/
noncomputable def bitset_Xor (p0 : S_api_Bits) (p1 : S_api_Bits) : Option (S_api_Bits × Int) := bind2 (bitset_both_61 p0 p1) fun y1 y2 => (some (y1, y2))
set_option maxRecDepth 100000 in
set_option maxHeartbeats 10000000 in
theorem bitset_Xor_con (p0 : S_api_Bits) (p1 : S_api_Bits) (r0 : S_api_Bits) (r1 : Int) (h : bitset_Xor p0 p1 = some (r0, r1)) : Con Try.prog 31 [.agg [.t (.v (.int .i64 p0.Length)), .t (.tree p0.Words.length 1 (Ru64 p0.Words))], .agg [.t (.v (.int .i64 p1.Length)), .t (.tree p1.Words.length 1 (Ru64 p1.Words))]] [] (.tup [.agg [.t (.v (.int .i64 r0.Length)), .ref 0 1 0 r0.Words.length], .c (.t (.v (.int .i64 r1)))]) [(0, .row 33 false 1 r0.Words.length (Ru64 r0.Words))] := by
  suffices H : ∀ r, bitset_Xor p0 p1 = some r → Con Try.prog 31 [.agg [.t (.v (.int .i64 p0.Length)), .t (.tree p0.Words.length 1 (Ru64 p0.Words))], .agg [.t (.v (.int .i64 p1.Length)), .t (.tree p1.Words.length 1 (Ru64 p1.Words))]] [] (.tup [.agg [.t (.v (.int .i64 r.1.Length)), .ref 0 1 0 r.1.Words.length], .c (.t (.v (.int .i64 r.2)))]) [(0, .row 33 false 1 r.1.Words.length (Ru64 r.1.Words))] from H (r0, r1) h
  clear h
  intro r h
  refine con_of tt_ok1 0 Try.func31 (by kernel_rfl) rfl (by kernel_rfl) (fun base X hk => AW.post ?_)
  unfold bitset_Xor at h
  refine AW.seq ?_
  refine AW.reg tt_ok1 [2, 3, 4] [0, 1, 2] [] ⟨[(4, .c (.ptr 2 2 0 0)), (3, .c (.ptr 1 2 0 0)), (2, .c (.ptr 0 2 0 0))], [(2, .box 29 [.t (.v (.int .i64 0)), .t (.v (.slice none 0 0))]), (1, .box 29 [.t (.v (.int .i64 p1.Length)), .t (.tree p1.Words.length 1 (Ru64 p1.Words))]), (0, .box 29 [.t (.v (.int .i64 p0.Length)), .t (.tree p0.Words.length 1 (Ru64 p0.Words))])], 4⟩ [True, True, True, True] (by kernel_rfl) (by kernel_rfl) ⟨trivial, trivial, trivial, trivial, trivial⟩ ?_
  refine AW.thenQ_normal ?_
  refine AW.seq ?_
  obtain ⟨y1, y2, e3, h⟩ := bind2_some h
  refine AW.reg tt_ok1 [4, 5] [2, 6] [{}, {}, { call := some { ids := [], frz := [], flat := true, cnt := 1, args := [.agg [.t (.v (.int .i64 p0.Length)), .t (.tree p0.Words.length 1 (Ru64 p0.Words))], .agg [.t (.v (.int .i64 p1.Length)), .t (.tree p1.Words.length 1 (Ru64 p1.Words))], .c (.t (.v (.func (.func 61) #[] #[])))], out := .tup [.agg [.t (.v (.int .i64 y1.Length)), .ref 0 1 0 y1.Words.length], .c (.t (.v (.int .i64 y2)))], outb := [(0, .row 33 false 1 y1.Words.length (Ru64 y1.Words))] } }] ⟨[(5, .c (.t (.v (.int .i64 y2)))), (4, .c (.ptr 2 2 0 0))], [(2, .box 29 [.t (.v (.int .i64 y1.Length)), .ref 6 1 0 y1.Words.length]), (6, .row 33 false 1 y1.Words.length (Ru64 y1.Words))], 11⟩ [True, True, (((True) ∧ (True) ∧ (True)) ∧ ((True) ∧ (True) ∧ (True)) ∧ (True) ∧ (True)) ∧ (All2 ArgLe [.agg [.t (.v (.int .i64 p0.Length)), .t (.tree p0.Words.length 1 (Ru64 p0.Words))], .agg [.t (.v (.int .i64 p1.Length)), .t (.tree p1.Words.length 1 (Ru64 p1.Words))], .c (.t (.v (.func (.func 61) #[] #[])))] [.agg [.t (.v (.int .i64 p0.Length)), .t (.tree p0.Words.length 1 (Ru64 p0.Words))], .agg [.t (.v (.int .i64 p1.Length)), .t (.tree p1.Words.length 1 (Ru64 p1.Words))], .c (.t (.v (.func (.func 61) #[] #[])))]) ∧ ((true = true → flatB [(0, .row 33 false 1 y1.Words.length (Ru64 y1.Words))])) ∧ (Con Try.prog 58 [.agg [.t (.v (.int .i64 p0.Length)), .t (.tree p0.Words.length 1 (Ru64 p0.Words))], .agg [.t (.v (.int .i64 p1.Length)), .t (.tree p1.Words.length 1 (Ru64 p1.Words))], .c (.t (.v (.func (.func 61) #[] #[])))] [] (.tup [.agg [.t (.v (.int .i64 y1.Length)), .ref 0 1 0 y1.Words.length], .c (.t (.v (.int .i64 y2)))]) [(0, .row 33 false 1 y1.Words.length (Ru64 y1.Words))]), True, True, True, True] (by kernel_rfl) (by kernel_rfl) ⟨trivial, trivial, ⟨⟨⟨trivial, trivial, trivial⟩, ⟨trivial, trivial, trivial⟩, trivial, trivial⟩, ⟨ArgLe.refl _, ArgLe.refl _, ArgLe.refl _, trivial⟩, (fun _ => ⟨rowL_flat Vu64 _ _ _, trivial⟩), (bitset_both_61_con p0 p1 y1 y2 e3)⟩, trivial, trivial, trivial, trivial, trivial⟩ ?_
  refine AW.thenQ_normal ?_
  refine AW.ret ?_
  obtain rfl := some_inj h
  exact ⟨_, Conv.refl _ _, .inr rfl, OutOk.mk [(0, 6)] 1 (out0 := .tup [.agg [.t (.v (.int .i64 y1.Length)), .ref 6 1 0 y1.Words.length], .c (.t (.v (.int .i64 y2)))]) (ps := [True, True]) (by kernel_rfl) ⟨trivial, trivial, trivial⟩ (by kernel_rfl) (by kernel_rfl)⟩
/-! recordlink/bitset.Fold -/
noncomputable def bitset_Fold (p0 : S_api_Bits) : Option (S_api_Bits × Int) := (bitset_Valid p0).bind fun y1 => (if (!y1) = true then (some ((⟨0, ([] : List Int)⟩ : S_api_Bits), 8)) else (if ((p0.Length.tmod 128) != 0) = true then (some ((⟨0, ([] : List Int)⟩ : S_api_Bits), 2)) else (if 0 ≤ (IntKind.i64.wrap (((p0.Words.length : Nat) : Int).tdiv 2)) then (if ((IntKind.i64.wrap (((p0.Words.length : Nat) : Int).tdiv 2)).toNat) ≤ p0.Words.length then (bind2 (bitset_Xor (⟨IntKind.i64.wrap ((IntKind.i64.wrap (((p0.Words.length : Nat) : Int).tdiv 2)) * 64), (p0.Words.take ((IntKind.i64.wrap (((p0.Words.length : Nat) : Int).tdiv 2)).toNat))⟩ : S_api_Bits) (⟨IntKind.i64.wrap ((IntKind.i64.wrap (((p0.Words.length : Nat) : Int).tdiv 2)) * 64), ((p0.Words.drop ((IntKind.i64.wrap (((p0.Words.length : Nat) : Int).tdiv 2)).toNat)).take (p0.Words.length - (IntKind.i64.wrap (((p0.Words.length : Nat) : Int).tdiv 2)).toNat))⟩ : S_api_Bits)) fun y7 y8 => (some (y7, y8))) else none) else none)))
set_option maxRecDepth 100000 in
set_option maxHeartbeats 10000000 in
theorem bitset_Fold_con (p0 : S_api_Bits) (r0 : S_api_Bits) (r1 : Int) (h : bitset_Fold p0 = some (r0, r1)) : Con Try.prog 32 [.agg [.t (.v (.int .i64 p0.Length)), .t (.tree p0.Words.length 1 (Ru64 p0.Words))]] [] (.tup [.agg [.t (.v (.int .i64 r0.Length)), .ref 0 1 0 r0.Words.length], .c (.t (.v (.int .i64 r1)))]) [(0, .row 33 false 1 r0.Words.length (Ru64 r0.Words))] := by
  suffices H : ∀ r, bitset_Fold p0 = some r → Con Try.prog 32 [.agg [.t (.v (.int .i64 p0.Length)), .t (.tree p0.Words.length 1 (Ru64 p0.Words))]] [] (.tup [.agg [.t (.v (.int .i64 r.1.Length)), .ref 0 1 0 r.1.Words.length], .c (.t (.v (.int .i64 r.2)))]) [(0, .row 33 false 1 r.1.Words.length (Ru64 r.1.Words))] from H (r0, r1) h
  clear h
  intro r h
  refine con_of tt_ok1 0 Try.func32 (by kernel_rfl) rfl (by kernel_rfl) (fun base X hk => AW.post ?_)
  unfold bitset_Fold at h
  refine AW.seq ?_
  refine AW.reg tt_ok1 [1, 2] [0, 1] [] ⟨[(2, .c (.ptr 1 2 0 0)), (1, .c (.ptr 0 2 0 0))], [(1, .box 29 [.t (.v (.int .i64 0)), .t (.v (.slice none 0 0))]), (0, .box 29 [.t (.v (.int .i64 p0.Length)), .t (.tree p0.Words.length 1 (Ru64 p0.Words))])], 3⟩ [True, True, True] (by kernel_rfl) (by kernel_rfl) ⟨trivial, trivial, trivial, trivial⟩ ?_
  refine AW.thenQ_normal ?_
  refine AW.seq ?_
  refine AW.block ?_
  refine AW.seq ?_
  obtain ⟨y1, e2, h⟩ := bnd_some h
  refine AW.reg tt_ok1 [1, 2, 5] [0, 1] [{}, { call := some { ids := [], frz := [], flat := true, cnt := 0, args := [.agg [.t (.v (.int .i64 p0.Length)), .t (.tree p0.Words.length 1 (Ru64 p0.Words))]], out := .c (.t (.v (.bool y1))), outb := [] } }] ⟨[(5, .c (.t (.v (.bool (!y1))))), (2, .c (.ptr 1 2 0 0)), (1, .c (.ptr 0 2 0 0))], [(1, .box 29 [.t (.v (.int .i64 0)), .t (.v (.slice none 0 0))]), (0, .box 29 [.t (.v (.int .i64 p0.Length)), .t (.tree p0.Words.length 1 (Ru64 p0.Words))])], 6⟩ [True, (((True) ∧ (True) ∧ (True)) ∧ (True)) ∧ (All2 ArgLe [.agg [.t (.v (.int .i64 p0.Length)), .t (.tree p0.Words.length 1 (Ru64 p0.Words))]] [.agg [.t (.v (.int .i64 p0.Length)), .t (.tree p0.Words.length 1 (Ru64 p0.Words))]]) ∧ ((true = true → flatB [])) ∧ (Con Try.prog 49 [.agg [.t (.v (.int .i64 p0.Length)), .t (.tree p0.Words.length 1 (Ru64 p0.Words))]] [] (.c (.t (.v (.bool y1)))) []), True, True] (by kernel_rfl) (by kernel_rfl) ⟨trivial, ⟨⟨⟨trivial, trivial, trivial⟩, trivial⟩, ⟨ArgLe.refl _, trivial⟩, (fun _ => trivial), (bitset_Valid_con p0 y1 e2)⟩, trivial, trivial, trivial⟩ ?_
  refine AW.thenQ_normal ?_
  refine AW.cond (b := !y1) (by kernel_rfl) (fun c3 => ?_) (fun c3 => ?_)
  · rw [if_pos c3] at h
    refine AW.seq ?_
    refine AW.reg tt_ok1 [2, 3] [1] [] ⟨[(3, .c (.t (.v (.int .i64 8)))), (2, .c (.ptr 1 2 0 0))], [(1, .box 29 [.t (.v (.int .i64 0)), .t (.v (.slice none 0 0))])], 9⟩ [True, True, True] (by kernel_rfl) (by kernel_rfl) ⟨trivial, trivial, trivial, trivial⟩ ?_
    refine AW.thenQ_normal ?_
    refine AW.ret ?_
    refine AW.inBlock_ret ?_
    refine AW.thenQ_ret ?_
    obtain rfl := some_inj h
    exact ⟨_, conv_adoptB (id := 1) (ty0 := 29) (cs := [.t (.v (.int .i64 0)), .t (.v (.slice none 0 0))]) 1 (ty := 33) (sz := 1) (n := ([] : List Int).length) (f := Ru64 ([] : List Int)) (by kernel_rfl) (by kernel_rfl) rfl, .inr rfl, OutOk.mk [(0, 9)] 1 (out0 := .tup [.agg [.t (.v (.int .i64 0)), .ref 9 1 0 (([] : List Int).length)], .c (.t (.v (.int .i64 8)))]) (ps := [True, True]) (by kernel_rfl) ⟨trivial, trivial, trivial⟩ (by kernel_rfl) (by kernel_rfl)⟩
  · rw [if_neg (by rw [c3]; exact Bool.false_ne_true)] at h
    refine AW.seq ?_
    refine AW.reg tt_ok1 [1, 2, 10] [0, 1] [] ⟨[(10, .c (.t (.v (.bool ((p0.Length.tmod 128) != 0))))), (2, .c (.ptr 1 2 0 0)), (1, .c (.ptr 0 2 0 0))], [(1, .box 29 [.t (.v (.int .i64 0)), .t (.v (.slice none 0 0))]), (0, .box 29 [.t (.v (.int .i64 p0.Length)), .t (.tree p0.Words.length 1 (Ru64 p0.Words))])], 11⟩ [True, True, (128 : Int) ≠ 0, True, True] (by kernel_rfl) (by kernel_rfl) ⟨trivial, trivial, (by decide), trivial, trivial, trivial⟩ ?_
    refine AW.thenQ_normal ?_
    refine AW.cond (b := ((p0.Length.tmod 128) != 0)) (by kernel_rfl) (fun c4 => ?_) (fun c4 => ?_)
    · rw [if_pos c4] at h
      refine AW.seq ?_
      refine AW.reg tt_ok1 [2, 3] [1] [] ⟨[(3, .c (.t (.v (.int .i64 2)))), (2, .c (.ptr 1 2 0 0))], [(1, .box 29 [.t (.v (.int .i64 0)), .t (.v (.slice none 0 0))])], 14⟩ [True, True, True] (by kernel_rfl) (by kernel_rfl) ⟨trivial, trivial, trivial, trivial⟩ ?_
      refine AW.thenQ_normal ?_
      refine AW.ret ?_
      refine AW.inBlock_ret ?_
      refine AW.thenQ_ret ?_
      obtain rfl := some_inj h
      exact ⟨_, conv_adoptB (id := 1) (ty0 := 29) (cs := [.t (.v (.int .i64 0)), .t (.v (.slice none 0 0))]) 1 (ty := 33) (sz := 1) (n := ([] : List Int).length) (f := Ru64 ([] : List Int)) (by kernel_rfl) (by kernel_rfl) rfl, .inr rfl, OutOk.mk [(0, 14)] 1 (out0 := .tup [.agg [.t (.v (.int .i64 0)), .ref 14 1 0 (([] : List Int).length)], .c (.t (.v (.int .i64 2)))]) (ps := [True, True]) (by kernel_rfl) ⟨trivial, trivial, trivial⟩ (by kernel_rfl) (by kernel_rfl)⟩
    · rw [if_neg (by rw [c4]; exact Bool.false_ne_true)] at h
      refine AW.skip ?_
      refine AW.inBlock_normal ?_
      refine AW.thenQ_normal ?_
      refine AW.seq ?_
      refine AW.reg tt_ok1 [1, 2, 4] [0, 1] [] ⟨[(4, .c (.t (.v (.int .i64 (IntKind.i64.wrap (((p0.Words.length : Nat) : Int).tdiv 2)))))), (2, .c (.ptr 1 2 0 0)), (1, .c (.ptr 0 2 0 0))], [(1, .box 29 [.t (.v (.int .i64 0)), .t (.v (.slice none 0 0))]), (0, .box 29 [.t (.v (.int .i64 p0.Length)), .t (.tree p0.Words.length 1 (Ru64 p0.Words))])], 16⟩ [True, True, True, (2 : Int) ≠ 0, True] (by kernel_rfl) (by kernel_rfl) ⟨trivial, trivial, trivial, (by decide), trivial, trivial⟩ ?_
      refine AW.thenQ_normal ?_
      refine AW.seq ?_
      obtain ⟨g5, h⟩ := ifc h
      obtain ⟨g6, h⟩ := ifc h
      obtain ⟨y7, y8, e9, h⟩ := bind2_some h
      refine AW.regD tt_ok1 mo1 [0, 1, 0, 4, 0, 28, 63, 0, 128, 0, 512, 0, 3584, 8064, 16383, 32767, 32767, 131071, 262143] [[], [], [], [], [], [], [], [], [], [], [], [], [], [], [30], [], [], [1], []] [2, 3] [1, 30] [{}, {}, {}, {}, {}, {}, {}, {}, {}, {}, {}, {}, {}, {}, { call := some { ids := [], frz := [], flat := true, cnt := 1, args := [.agg [.t (.v (.int .i64 (IntKind.i64.wrap ((IntKind.i64.wrap (((p0.Words.length : Nat) : Int).tdiv 2)) * 64)))), .t (.tree ((p0.Words.take ((IntKind.i64.wrap (((p0.Words.length : Nat) : Int).tdiv 2)).toNat)).length) 1 (Ru64 (p0.Words.take ((IntKind.i64.wrap (((p0.Words.length : Nat) : Int).tdiv 2)).toNat))))], .agg [.t (.v (.int .i64 (IntKind.i64.wrap ((IntKind.i64.wrap (((p0.Words.length : Nat) : Int).tdiv 2)) * 64)))), .t (.tree (((p0.Words.drop ((IntKind.i64.wrap (((p0.Words.length : Nat) : Int).tdiv 2)).toNat)).take (p0.Words.length - (IntKind.i64.wrap (((p0.Words.length : Nat) : Int).tdiv 2)).toNat)).length) 1 (Ru64 ((p0.Words.drop ((IntKind.i64.wrap (((p0.Words.length : Nat) : Int).tdiv 2)).toNat)).take (p0.Words.length - (IntKind.i64.wrap (((p0.Words.length : Nat) : Int).tdiv 2)).toNat))))]], out := .tup [.agg [.t (.v (.int .i64 y7.Length)), .ref 0 1 0 y7.Words.length], .c (.t (.v (.int .i64 y8)))], outb := [(0, .row 33 false 1 y7.Words.length (Ru64 y7.Words))] } }] ⟨[(3, .c (.t (.v (.int .i64 y8)))), (2, .c (.ptr 1 2 0 0))], [(1, .box 29 [.t (.v (.int .i64 y7.Length)), .ref 30 1 0 y7.Words.length]), (30, .row 33 false 1 y7.Words.length (Ru64 y7.Words))], 35⟩ [True, True, True, True, True, (True) ∧ (0 ≤ (IntKind.i64.wrap (((p0.Words.length : Nat) : Int).tdiv 2))) ∧ (0 ≤ ((IntKind.i64.wrap (((p0.Words.length : Nat) : Int).tdiv 2)).toNat)) ∧ (((IntKind.i64.wrap (((p0.Words.length : Nat) : Int).tdiv 2)).toNat) ≤ p0.Words.length), True, True, True, True, True, True, (0 ≤ (IntKind.i64.wrap (((p0.Words.length : Nat) : Int).tdiv 2))) ∧ (True) ∧ (((IntKind.i64.wrap (((p0.Words.length : Nat) : Int).tdiv 2)).toNat) ≤ p0.Words.length) ∧ (p0.Words.length ≤ p0.Words.length), True, (((True) ∧ (True) ∧ (True)) ∧ ((True) ∧ (True) ∧ (True)) ∧ (True)) ∧ (All2 ArgLe [.agg [.t (.v (.int .i64 (IntKind.i64.wrap ((IntKind.i64.wrap (((p0.Words.length : Nat) : Int).tdiv 2)) * 64)))), .t (.tree ((IntKind.i64.wrap (((p0.Words.length : Nat) : Int).tdiv 2)).toNat) 1 (Ru64 p0.Words))], .agg [.t (.v (.int .i64 (IntKind.i64.wrap ((IntKind.i64.wrap (((p0.Words.length : Nat) : Int).tdiv 2)) * 64)))), .t (.tree (p0.Words.length - (IntKind.i64.wrap (((p0.Words.length : Nat) : Int).tdiv 2)).toNat) 1 (fun i j => Ru64 p0.Words ((IntKind.i64.wrap (((p0.Words.length : Nat) : Int).tdiv 2)).toNat + i) j))]] [.agg [.t (.v (.int .i64 (IntKind.i64.wrap ((IntKind.i64.wrap (((p0.Words.length : Nat) : Int).tdiv 2)) * 64)))), .t (.tree ((p0.Words.take ((IntKind.i64.wrap (((p0.Words.length : Nat) : Int).tdiv 2)).toNat)).length) 1 (Ru64 (p0.Words.take ((IntKind.i64.wrap (((p0.Words.length : Nat) : Int).tdiv 2)).toNat))))], .agg [.t (.v (.int .i64 (IntKind.i64.wrap ((IntKind.i64.wrap (((p0.Words.length : Nat) : Int).tdiv 2)) * 64)))), .t (.tree (((p0.Words.drop ((IntKind.i64.wrap (((p0.Words.length : Nat) : Int).tdiv 2)).toNat)).take (p0.Words.length - (IntKind.i64.wrap (((p0.Words.length : Nat) : Int).tdiv 2)).toNat)).length) 1 (Ru64 ((p0.Words.drop ((IntKind.i64.wrap (((p0.Words.length : Nat) : Int).tdiv 2)).toNat)).take (p0.Words.length - (IntKind.i64.wrap (((p0.Words.length : Nat) : Int).tdiv 2)).toNat))))]]) ∧ ((true = true → flatB [(0, .row 33 false 1 y7.Words.length (Ru64 y7.Words))])) ∧ (Con Try.prog 31 [.agg [.t (.v (.int .i64 (IntKind.i64.wrap ((IntKind.i64.wrap (((p0.Words.length : Nat) : Int).tdiv 2)) * 64)))), .t (.tree ((p0.Words.take ((IntKind.i64.wrap (((p0.Words.length : Nat) : Int).tdiv 2)).toNat)).length) 1 (Ru64 (p0.Words.take ((IntKind.i64.wrap (((p0.Words.length : Nat) : Int).tdiv 2)).toNat))))], .agg [.t (.v (.int .i64 (IntKind.i64.wrap ((IntKind.i64.wrap (((p0.Words.length : Nat) : Int).tdiv 2)) * 64)))), .t (.tree (((p0.Words.drop ((IntKind.i64.wrap (((p0.Words.length : Nat) : Int).tdiv 2)).toNat)).take (p0.Words.length - (IntKind.i64.wrap (((p0.Words.length : Nat) : Int).tdiv 2)).toNat)).length) 1 (Ru64 ((p0.Words.drop ((IntKind.i64.wrap (((p0.Words.length : Nat) : Int).tdiv 2)).toNat)).take (p0.Words.length - (IntKind.i64.wrap (((p0.Words.length : Nat) : Int).tdiv 2)).toNat))))]] [] (.tup [.agg [.t (.v (.int .i64 y7.Length)), .ref 0 1 0 y7.Words.length], .c (.t (.v (.int .i64 y8)))]) [(0, .row 33 false 1 y7.Words.length (Ru64 y7.Words))]), True, True, True, True] (by kernel_rfl) (by kernel_rfl) ⟨trivial, trivial, trivial, trivial, trivial, ⟨trivial, g5, (Nat.zero_le _), g6⟩, trivial, trivial, trivial, trivial, trivial, trivial, ⟨g5, trivial, g6, (Nat.le_refl _)⟩, trivial, ⟨⟨⟨trivial, trivial, trivial⟩, ⟨trivial, trivial, trivial⟩, trivial⟩, ⟨ArgLe.agg ⟨CAle.refl _, CAle.tree (take_row (by omega)), trivial⟩, ArgLe.agg ⟨CAle.refl _, CAle.tree (part_row (by omega)), trivial⟩, trivial⟩, (fun _ => ⟨rowL_flat Vu64 _ _ _, trivial⟩), (bitset_Xor_con (⟨IntKind.i64.wrap ((IntKind.i64.wrap (((p0.Words.length : Nat) : Int).tdiv 2)) * 64), (p0.Words.take ((IntKind.i64.wrap (((p0.Words.length : Nat) : Int).tdiv 2)).toNat))⟩ : S_api_Bits) (⟨IntKind.i64.wrap ((IntKind.i64.wrap (((p0.Words.length : Nat) : Int).tdiv 2)) * 64), ((p0.Words.drop ((IntKind.i64.wrap (((p0.Words.length : Nat) : Int).tdiv 2)).toNat)).take (p0.Words.length - (IntKind.i64.wrap (((p0.Words.length : Nat) : Int).tdiv 2)).toNat))⟩ : S_api_Bits) y7 y8 e9)⟩, trivial, trivial, trivial, trivial, trivial⟩ ?_
      refine AW.thenQ_normal ?_
      refine AW.ret ?_
      obtain rfl := some_inj h
      exact ⟨_, Conv.refl _ _, .inr rfl, OutOk.mk [(0, 30)] 1 (out0 := .tup [.agg [.t (.v (.int .i64 y7.Length)), .ref 30 1 0 y7.Words.length], .c (.t (.v (.int .i64 y8)))]) (ps := [True, True]) (by kernel_rfl) ⟨trivial, trivial, trivial⟩ (by kernel_rfl) (by kernel_rfl)⟩
end Go.Proofs.Yteholdifeilkkaa
