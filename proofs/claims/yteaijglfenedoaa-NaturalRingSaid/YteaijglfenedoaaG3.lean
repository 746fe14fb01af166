/- Printed by a program of mine (vmgen.py): Go functions, and what they come to. -/
import Derived.Test.YteaijglfenedoaaVp
import Derived.Test.YteaijglfenedoaaRows
import Derived.Test.YteaijglfenedoaaG2
namespace Go.Proofs.Yteaijglfenedoaa
open Vm
set_option linter.unusedVariables false
set_option linter.constructorNameAsVariable false
def ttl3 : List (Nat × TI) := [(3, ⟨.int .i64, 1, 8, [.int .i64 0]⟩), (4, ⟨.bool, 1, 1, [.bool false]⟩), (5, ⟨.int .u8, 1, 1, [.int .u8 0]⟩), (9, ⟨.str, 1, 16, [.string ⟨#[]⟩]⟩), (22, ⟨.slice 3, 1, 24, [.slice none 0 0]⟩), (25, ⟨.ptr 52, 1, 8, [.pointer none]⟩), (27, ⟨.slice 37, 1, 24, [.slice none 0 0]⟩), (28, ⟨.slice 37, 1, 24, [.slice none 0 0]⟩), (30, ⟨.int .i64, 1, 8, [.int .i64 0]⟩), (37, ⟨.int .u32, 1, 4, [.int .u32 0]⟩), (41, ⟨.int .u64, 1, 8, [.int .u64 0]⟩), (48, ⟨.slice 28, 1, 24, [.slice none 0 0]⟩), (52, ⟨.struct [(22, 0), (3, 1), (41, 2)], 3, 40, [.slice none 0 0, .int .i64 0, .int .u64 0]⟩), (64, ⟨.slice 5, 1, 24, [.slice none 0 0]⟩)]
theorem tt_ok3 : TTok Try.prog (Vm.look ttl3) := ttok_of ⟨⟨by kernel_rfl, by kernel_rfl⟩, ⟨by kernel_rfl, by kernel_rfl⟩, ⟨by kernel_rfl, by kernel_rfl⟩, ⟨by kernel_rfl, by kernel_rfl⟩, ⟨by kernel_rfl, by kernel_rfl⟩, ⟨by kernel_rfl, by kernel_rfl⟩, ⟨by kernel_rfl, by kernel_rfl⟩, ⟨by kernel_rfl, by kernel_rfl⟩, ⟨by kernel_rfl, by kernel_rfl⟩, ⟨by kernel_rfl, by kernel_rfl⟩, ⟨by kernel_rfl, by kernel_rfl⟩, ⟨by kernel_rfl, by kernel_rfl⟩, ⟨by kernel_rfl, by kernel_rfl⟩, ⟨by kernel_rfl, by kernel_rfl⟩, trivial⟩
theorem mo3 : Try.prog.follows .mixedOrders = true := by kernel_rfl
/-! recordlink/natural.Power -/
noncomputable def natural_Power_l12 (p0 : List Int) (p1 : Int) (x13 : List Int) (x14 : Int) : Option (((List Int) × Int) ⊕ ((List Int) ⊕ Unit)) := if (decide (x14 < p1)) = true then ((natural_times x13 p0).bind fun y17 => ((natural_Valid y17).bind fun y19 => (if (!y19) = true then (some (.inr (.inr ()))) else (some (.inl (y17, IntKind.i64.wrap (x14 + 1))))))) else (some (.inr (.inl x13)))
noncomputable def natural_Power_a13 (x22 : List Int) : Option ((List Int) × Int) := some (x22, 0)
noncomputable def natural_Power_a14 : Option ((List Int) × Int) := some (([] : List Int), 1)
noncomputable def natural_Power_k8 (p0 : List Int) (p1 : Int) (x6 : Bool) : Option ((List Int) × Int) := if x6 = true then (some (([] : List Int), 0)) else ((natural_Compare p0 ([1] : List Int)).bind fun y8 => (if (y8 == 0) = true then (some (([1] : List Int), 0)) else (bindE (loop (fun v : (List Int) × Int => natural_Power_l12 p0 p1 v.1 v.2) (([1] : List Int), 0)) (fun t => natural_Power_a13 t) (fun t => natural_Power_a14))))
noncomputable def natural_Power_k6 (p0 : List Int) (p1 : Int) (x4 : Bool) : Option ((List Int) × Int) := if x4 = true then (some (([] : List Int), 2)) else (if (((p0.length : Nat) : Int) == 0) = true then (natural_Power_k8 p0 p1 (decide (p1 > 0))) else (natural_Power_k8 p0 p1 false))
noncomputable def natural_Power (p0 : List Int) (p1 : Int) : Option ((List Int) × Int) := (natural_Valid p0).bind fun y1 => (if (!y1) = true then (some (([] : List Int), 20)) else (if (decide (p1 < 0)) = true then (natural_Power_k6 p0 p1 true) else (natural_Power_k6 p0 p1 (decide (p1 > 4096)))))
set_option maxRecDepth 100000 in
set_option maxHeartbeats 10000000 in
theorem natural_Power_con (p0 : List Int) (p1 : Int) (r0 : List Int) (r1 : Int) (h : natural_Power p0 p1 = some (r0, r1)) : Con Try.prog 32 [.c (.t (.tree p0.length 1 (Ru32 p0))), .c (.t (.v (.int .i64 p1)))] [] (.tup [.c (.t (.tree r0.length 1 (Ru32 r0))), .c (.t (.v (.int .i64 r1)))]) [] := by
  suffices H : ∀ r, natural_Power p0 p1 = some r → Con Try.prog 32 [.c (.t (.tree p0.length 1 (Ru32 p0))), .c (.t (.v (.int .i64 p1)))] [] (.tup [.c (.t (.tree r.1.length 1 (Ru32 r.1))), .c (.t (.v (.int .i64 r.2)))]) [] from H (r0, r1) h
  clear h
  intro r h
  refine con_of tt_ok3 0 Try.func32 (by kernel_rfl) rfl (by kernel_rfl) (fun base X hk => AW.post ?_)
  unfold natural_Power at h
  refine AW.seq ?_
  refine AW.reg tt_ok3 [0, 1] [] [] ⟨[(0, .c (.t (.tree p0.length 1 (Ru32 p0)))), (1, .c (.t (.v (.int .i64 p1))))], [], 2⟩ [True, True] (by kernel_rfl) (by kernel_rfl) ⟨trivial, trivial, trivial⟩ ?_
  refine AW.thenQ_normal ?_
  refine AW.seq ?_
  refine AW.block ?_
  refine AW.seq ?_
  obtain ⟨y1, e2, h⟩ := bnd_some h
  refine AW.reg tt_ok3 [0, 1, 7] [] [{}, { call := some { ids := [], frz := [], flat := true, cnt := 0, args := [.c (.t (.tree p0.length 1 (Ru32 p0)))], out := .c (.t (.v (.bool y1))), outb := [] } }] ⟨[(7, .c (.t (.v (.bool (!y1))))), (0, .c (.t (.tree p0.length 1 (Ru32 p0)))), (1, .c (.t (.v (.int .i64 p1))))], [], 5⟩ [True, ((True) ∧ (True)) ∧ (All2 ArgLe [.c (.t (.tree p0.length 1 (Ru32 p0)))] [.c (.t (.tree p0.length 1 (Ru32 p0)))]) ∧ ((true = true → flatB [])) ∧ (Con Try.prog 17 [.c (.t (.tree p0.length 1 (Ru32 p0)))] [] (.c (.t (.v (.bool y1)))) []), True, True] (by kernel_rfl) (by kernel_rfl) ⟨trivial, ⟨⟨trivial, trivial⟩, ⟨ArgLe.refl _, trivial⟩, (fun _ => trivial), (natural_Valid_con p0 y1 e2)⟩, trivial, trivial, trivial⟩ ?_
  refine AW.thenQ_normal ?_
  refine AW.cond (b := !y1) (by kernel_rfl) (fun c3 => ?_) (fun c3 => ?_)
  · rw [if_pos c3] at h
    refine AW.seq ?_
    refine AW.reg tt_ok3 [4, 5] [] [] ⟨[(5, .c (.t (.v (.int .i64 20)))), (4, .c (.t (.v (.slice none 0 0))))], [], 7⟩ [True, True] (by kernel_rfl) (by kernel_rfl) ⟨trivial, trivial, trivial⟩ ?_
    refine AW.thenQ_normal ?_
    refine AW.ret ?_
    refine AW.inBlock_ret ?_
    refine AW.thenQ_ret ?_
    obtain rfl := some_inj h
    exact ⟨_, conv_tm (tm' := [(5, .c (.t (.v (.int .i64 20)))), (4, .c (.t (.tree (([] : List Int).length) 1 (Ru32 ([] : List Int)))))]) ⟨⟨.c (.t (.v (.int .i64 20))), by kernel_rfl, ALe.refl _ _⟩, ⟨.c (.t (.v (.slice none 0 0))), by kernel_rfl, ALe.c (CLe.nil rfl)⟩, trivial⟩, .inr rfl, OutOk.mk [] 0 (out0 := .tup [.c (.t (.tree (([] : List Int).length) 1 (Ru32 ([] : List Int)))), .c (.t (.v (.int .i64 20)))]) (ps := [True, True]) (by kernel_rfl) ⟨trivial, trivial, trivial⟩ (by kernel_rfl) (by kernel_rfl)⟩
  · rw [if_neg (by rw [c3]; exact Bool.false_ne_true)] at h
    refine AW.seq ?_
    refine AW.join (ι := Bool) (fun v => ⟨[(0, .c (.t (.tree p0.length 1 (Ru32 p0)))), (1, .c (.t (.v (.int .i64 p1)))), (11, .c (.t (.v (.bool v))))], [], 0⟩) (fun v : Bool => natural_Power_k6 p0 p1 v = some r) (fun v h => ?_) ?_
    ·
      obtain ⟨x4, rfl⟩ : ∃ x, x = v := ⟨_, rfl⟩
      replace h : natural_Power_k6 p0 p1 x4 = some r := h
      unfold natural_Power_k6 at h
      show (_ : Exit → St → Prop) .normal ⟨[(0, .c (.t (.tree p0.length 1 (Ru32 p0)))), (1, .c (.t (.v (.int .i64 p1)))), (11, .c (.t (.v (.bool x4))))], [], 0⟩
      refine AW.thenQ_normal ?_
      refine AW.cond (b := x4) (by kernel_rfl) (fun c5 => ?_) (fun c5 => ?_)
      · rw [if_pos c5] at h
        refine AW.seq ?_
        refine AW.reg tt_ok3 [4, 5] [] [] ⟨[(5, .c (.t (.v (.int .i64 2)))), (4, .c (.t (.v (.slice none 0 0))))], [], 2⟩ [True, True] (by kernel_rfl) (by kernel_rfl) ⟨trivial, trivial, trivial⟩ ?_
        refine AW.thenQ_normal ?_
        refine AW.ret ?_
        refine AW.inBlock_ret ?_
        refine AW.thenQ_ret ?_
        obtain rfl := some_inj h
        exact ⟨_, conv_tm (tm' := [(5, .c (.t (.v (.int .i64 2)))), (4, .c (.t (.tree (([] : List Int).length) 1 (Ru32 ([] : List Int)))))]) ⟨⟨.c (.t (.v (.int .i64 2))), by kernel_rfl, ALe.refl _ _⟩, ⟨.c (.t (.v (.slice none 0 0))), by kernel_rfl, ALe.c (CLe.nil rfl)⟩, trivial⟩, .inr rfl, OutOk.mk [] 0 (out0 := .tup [.c (.t (.tree (([] : List Int).length) 1 (Ru32 ([] : List Int)))), .c (.t (.v (.int .i64 2)))]) (ps := [True, True]) (by kernel_rfl) ⟨trivial, trivial, trivial⟩ (by kernel_rfl) (by kernel_rfl)⟩
      · rw [if_neg (by rw [c5]; exact Bool.false_ne_true)] at h
        refine AW.seq ?_
        refine AW.join (ι := Bool) (fun v => ⟨[(0, .c (.t (.tree p0.length 1 (Ru32 p0)))), (1, .c (.t (.v (.int .i64 p1)))), (18, .c (.t (.v (.bool v))))], [], 0⟩) (fun v : Bool => natural_Power_k8 p0 p1 v = some r) (fun v h => ?_) ?_
        ·
          obtain ⟨x6, rfl⟩ : ∃ x, x = v := ⟨_, rfl⟩
          replace h : natural_Power_k8 p0 p1 x6 = some r := h
          unfold natural_Power_k8 at h
          show (_ : Exit → St → Prop) .normal ⟨[(0, .c (.t (.tree p0.length 1 (Ru32 p0)))), (1, .c (.t (.v (.int .i64 p1)))), (18, .c (.t (.v (.bool x6))))], [], 0⟩
          refine AW.thenQ_normal ?_
          refine AW.cond (b := x6) (by kernel_rfl) (fun c7 => ?_) (fun c7 => ?_)
          · rw [if_pos c7] at h
            refine AW.seq ?_
            refine AW.reg tt_ok3 [4, 5] [] [] ⟨[(5, .c (.t (.v (.int .i64 0)))), (4, .c (.t (.v (.slice none 0 0))))], [], 2⟩ [True, True] (by kernel_rfl) (by kernel_rfl) ⟨trivial, trivial, trivial⟩ ?_
            refine AW.thenQ_normal ?_
            refine AW.ret ?_
            refine AW.inBlock_ret ?_
            refine AW.thenQ_ret ?_
            obtain rfl := some_inj h
            exact ⟨_, conv_tm (tm' := [(5, .c (.t (.v (.int .i64 0)))), (4, .c (.t (.tree (([] : List Int).length) 1 (Ru32 ([] : List Int)))))]) ⟨⟨.c (.t (.v (.int .i64 0))), by kernel_rfl, ALe.refl _ _⟩, ⟨.c (.t (.v (.slice none 0 0))), by kernel_rfl, ALe.c (CLe.nil rfl)⟩, trivial⟩, .inr rfl, OutOk.mk [] 0 (out0 := .tup [.c (.t (.tree (([] : List Int).length) 1 (Ru32 ([] : List Int)))), .c (.t (.v (.int .i64 0)))]) (ps := [True, True]) (by kernel_rfl) ⟨trivial, trivial, trivial⟩ (by kernel_rfl) (by kernel_rfl)⟩
          · rw [if_neg (by rw [c7]; exact Bool.false_ne_true)] at h
            refine AW.skip ?_
            refine AW.inBlock_normal ?_
            refine AW.thenQ_normal ?_
            refine AW.seq ?_
            refine AW.reg tt_ok3 [0, 1, 6] [0] [{ h := { row := some (([1] : List Int).length, Ru32 ([1] : List Int)) } }] ⟨[(6, .c (.ref 0 1 0 (([1] : List Int).length))), (0, .c (.t (.tree p0.length 1 (Ru32 p0)))), (1, .c (.t (.v (.int .i64 p1))))], [(0, .row 37 false 1 ([1] : List Int).length (Ru32 ([1] : List Int)))], 2⟩ [1 = ([1] : List Int).length ∧ ∀ i, i < ([1] : List Int).length → ∀ j, j < 1 → TLe ((rowOf [.v (.int .u32 1)] 1) i j) (Ru32 ([1] : List Int) i j), True] (by kernel_rfl) (by kernel_rfl) ⟨⟨rfl, lit_row (n := 1) (sz := 1) ⟨trivial, ⟨trivial, TLe.refl _⟩⟩⟩, trivial, trivial⟩ ?_
            refine AW.thenQ_normal ?_
            refine AW.seq ?_
            refine AW.seq ?_
            obtain ⟨y8, e9, h⟩ := bnd_some h
            refine AW.reg tt_ok3 [0, 1, 6, 30] [0] [{}, {}, { call := some { ids := [], frz := [], flat := true, cnt := 0, args := [.c (.t (.tree p0.length 1 (Ru32 p0))), .c (.t (.tree (([1] : List Int).length) 1 (Ru32 ([1] : List Int))))], out := .c (.t (.v (.int .i64 y8))), outb := [] } }] ⟨[(30, .c (.t (.v (.bool (y8 == 0))))), (6, .c (.ref 0 1 0 (([1] : List Int).length))), (0, .c (.t (.tree p0.length 1 (Ru32 p0)))), (1, .c (.t (.v (.int .i64 p1))))], [(0, .row 37 false 1 ([1] : List Int).length (Ru32 ([1] : List Int)))], 5⟩ [True, True, ((True) ∧ (0 + ([1] : List Int).length ≤ ([1] : List Int).length) ∧ (True)) ∧ (All2 ArgLe [.c (.t (.tree p0.length 1 (Ru32 p0))), .c (.t (.tree (([1] : List Int).length) 1 (Ru32 ([1] : List Int))))] [.c (.t (.tree p0.length 1 (Ru32 p0))), .c (.t (.tree (([1] : List Int).length) 1 (Ru32 ([1] : List Int))))]) ∧ ((true = true → flatB [])) ∧ (Con Try.prog 22 [.c (.t (.tree p0.length 1 (Ru32 p0))), .c (.t (.tree (([1] : List Int).length) 1 (Ru32 ([1] : List Int))))] [] (.c (.t (.v (.int .i64 y8)))) []), True] (by kernel_rfl) (by kernel_rfl) ⟨trivial, trivial, ⟨⟨trivial, le0, trivial⟩, ⟨ArgLe.refl _, ArgLe.refl _, trivial⟩, (fun _ => trivial), (natural_Compare_con p0 ([1] : List Int) y8 e9)⟩, trivial, trivial⟩ ?_
            refine AW.thenQ_normal ?_
            refine AW.cond (b := (y8 == 0)) (by kernel_rfl) (fun c10 => ?_) (fun c10 => ?_)
            · rw [if_pos c10] at h
              refine AW.seq ?_
              refine AW.reg tt_ok3 [4, 5] [0] [] ⟨[(5, .c (.t (.v (.int .i64 0)))), (4, .c (.ref 0 1 0 (([1] : List Int).length)))], [(0, .row 37 false 1 ([1] : List Int).length (Ru32 ([1] : List Int)))], 8⟩ [True, True, True] (by kernel_rfl) (by kernel_rfl) ⟨trivial, trivial, trivial, trivial⟩ ?_
              refine AW.thenQ_normal ?_
              refine AW.ret ?_
              refine AW.thenQ_ret ?_
              obtain rfl := some_inj h
              exact ⟨_, Conv.trans (conv_row (id := 0) (ty := 37) (fro := false) (fro' := true) (sz := 1) (n := ([1] : List Int).length) (m := ([1] : List Int).length) (f := Ru32 ([1] : List Int)) (g := Ru32 ([1] : List Int)) (by kernel_rfl) (.inr rfl) rfl row_rfl) (conv_tm (tm' := [(5, .c (.t (.v (.int .i64 0)))), (4, .c (.t (.tree (([1] : List Int).length) 1 (Ru32 ([1] : List Int)))))]) ⟨⟨.c (.t (.v (.int .i64 0))), by kernel_rfl, ALe.refl _ _⟩, ⟨.c (.ref 0 1 0 (([1] : List Int).length)), by kernel_rfl, ALe.c (CLe.ref (ty := 37) (f := Ru32 ([1] : List Int)) (by kernel_rfl) le0)⟩, trivial⟩), .inr rfl, OutOk.mk [] 0 (out0 := .tup [.c (.t (.tree (([1] : List Int).length) 1 (Ru32 ([1] : List Int)))), .c (.t (.v (.int .i64 0)))]) (ps := [True, True]) (by kernel_rfl) ⟨trivial, trivial, trivial⟩ (by kernel_rfl) (by kernel_rfl)⟩
            · rw [if_neg (by rw [c10]; exact Bool.false_ne_true)] at h
              refine AW.skip ?_
              refine AW.thenQ_normal ?_
              refine AW.seq ?_
              refine AW.seq ?_
              refine AW.reg tt_ok3 [0, 6, 32, 33] [0] [] ⟨[(33, .c (.t (.v (.int .i64 0)))), (32, .c (.t (.v (.int .i64 p1)))), (6, .c (.ref 0 1 0 (([1] : List Int).length))), (0, .c (.t (.tree p0.length 1 (Ru32 p0))))], [(0, .row 37 false 1 ([1] : List Int).length (Ru32 ([1] : List Int)))], 7⟩ [True, True] (by kernel_rfl) (by kernel_rfl) ⟨trivial, trivial, trivial⟩ ?_
              refine AW.thenQ_normal ?_
              refine AW.block ?_
              rcases bindE_some h with ⟨t, l23, h⟩ | ⟨t, l23, h⟩
              ·
                obtain ⟨x22, rfl⟩ : ∃ x, x = t := ⟨_, rfl⟩
                replace h : natural_Power_a13 x22 = some r := h
                unfold natural_Power_a13 at h
                refine AW.pre (S' := ((fun v => ⟨[(0, .c (.t (.tree p0.length 1 (Ru32 p0)))), (6, .c (.t (.tree v.1.length 1 (Ru32 v.1)))), (32, .c (.t (.v (.int .i64 p1)))), (33, .c (.t (.v (.int .i64 v.2))))], [], 0⟩) : ((List Int) × Int) → St) (([1] : List Int), 0)) (Conv.trans (conv_row (id := 0) (ty := 37) (fro := false) (fro' := true) (sz := 1) (n := ([1] : List Int).length) (m := ([1] : List Int).length) (f := Ru32 ([1] : List Int)) (g := Ru32 ([1] : List Int)) (by kernel_rfl) (.inr rfl) rfl row_rfl) (Conv.trans (conv_tm (tm' := [(0, .c (.t (.tree p0.length 1 (Ru32 p0)))), (6, .c (.t (.tree (([1] : List Int).length) 1 (Ru32 ([1] : List Int))))), (32, .c (.t (.v (.int .i64 p1)))), (33, .c (.t (.v (.int .i64 0))))]) ⟨⟨.c (.t (.tree p0.length 1 (Ru32 p0))), by kernel_rfl, ALe.refl _ _⟩, ⟨.c (.ref 0 1 0 (([1] : List Int).length)), by kernel_rfl, ALe.c (CLe.ref (ty := 37) (f := Ru32 ([1] : List Int)) (by kernel_rfl) le0)⟩, ⟨.c (.t (.v (.int .i64 p1))), by kernel_rfl, ALe.refl _ _⟩, ⟨.c (.t (.v (.int .i64 0))), by kernel_rfl, ALe.refl _ _⟩, trivial⟩) (conv_ren [] [0, 6, 32, 33] (n := 0) (by kernel_rfl) (by kernel_rfl)))) ?_
                refine AW.loop2 (step := (fun v : (List Int) × Int => natural_Power_l12 p0 p1 v.1 v.2)) (s0 := (([1] : List Int), 0)) (t := .inl x22) (fun v => ⟨[(0, .c (.t (.tree p0.length 1 (Ru32 p0)))), (6, .c (.t (.tree v.1.length 1 (Ru32 v.1)))), (32, .c (.t (.v (.int .i64 p1)))), (33, .c (.t (.v (.int .i64 v.2))))], [], 0⟩) (fun t : ((List Int) ⊕ Unit) => match t with | .inl t => (.exit 1, ⟨[(6, .c (.t (.tree t.length 1 (Ru32 t))))], [], 0⟩) | .inr t => (.ret, ⟨[(4, .c (.t (.v (.slice none 0 0)))), (5, .c (.t (.v (.int .i64 1))))], [], 0⟩)) l23 (fun t => by cases t <;> trivial) ?_ ?_
                ·
                  clear l23 h
                  intro v o h
                  obtain ⟨x13, x14⟩ := v
                  replace h : natural_Power_l12 p0 p1 x13 x14 = some o := h
                  unfold natural_Power_l12 at h
                  show AW _ ⟨[(0, .c (.t (.tree p0.length 1 (Ru32 p0)))), (6, .c (.t (.tree x13.length 1 (Ru32 x13)))), (32, .c (.t (.v (.int .i64 p1)))), (33, .c (.t (.v (.int .i64 x14))))], [], 0⟩ _ _
                  refine AW.seq ?_
                  refine AW.reg tt_ok3 [0, 6, 32, 33, 34] [] [] ⟨[(34, .c (.t (.v (.bool (decide (x14 < p1)))))), (0, .c (.t (.tree p0.length 1 (Ru32 p0)))), (6, .c (.t (.tree x13.length 1 (Ru32 x13)))), (32, .c (.t (.v (.int .i64 p1)))), (33, .c (.t (.v (.int .i64 x14))))], [], 1⟩ [True] (by kernel_rfl) (by kernel_rfl) ⟨trivial, trivial⟩ ?_
                  refine AW.thenQ_normal ?_
                  refine AW.seq ?_
                  refine AW.cond (b := decide (x14 < p1)) (by kernel_rfl) (fun c16 => ?_) (fun c16 => ?_)
                  · rw [if_pos c16] at h
                    refine AW.skip ?_
                    refine AW.thenQ_normal ?_
                    refine AW.seq ?_
                    refine AW.block ?_
                    refine AW.seq ?_
                    obtain ⟨y17, e18, h⟩ := bnd_some h
                    refine AW.reg tt_ok3 [0, 6, 32, 33] [] [{}, {}, { call := some { ids := [], frz := [], flat := false, cnt := 0, args := [.c (.t (.tree x13.length 1 (Ru32 x13))), .c (.t (.tree p0.length 1 (Ru32 p0)))], out := .c (.t (.tree y17.length 1 (Ru32 y17))), outb := [] } }] ⟨[(6, .c (.t (.tree y17.length 1 (Ru32 y17)))), (0, .c (.t (.tree p0.length 1 (Ru32 p0)))), (32, .c (.t (.v (.int .i64 p1)))), (33, .c (.t (.v (.int .i64 x14))))], [], 4⟩ [True, True, ((True) ∧ (True) ∧ (True)) ∧ (All2 ArgLe [.c (.t (.tree x13.length 1 (Ru32 x13))), .c (.t (.tree p0.length 1 (Ru32 p0)))] [.c (.t (.tree x13.length 1 (Ru32 x13))), .c (.t (.tree p0.length 1 (Ru32 p0)))]) ∧ ((false = true → flatB [])) ∧ (Con Try.prog 38 [.c (.t (.tree x13.length 1 (Ru32 x13))), .c (.t (.tree p0.length 1 (Ru32 p0)))] [] (.c (.t (.tree y17.length 1 (Ru32 y17)))) []), True] (by kernel_rfl) (by kernel_rfl) ⟨trivial, trivial, ⟨⟨trivial, trivial, trivial⟩, ⟨ArgLe.refl _, ArgLe.refl _, trivial⟩, (fun h => by cases h), (natural_times_con x13 p0 y17 e18)⟩, trivial, trivial⟩ ?_
                    refine AW.thenQ_normal ?_
                    refine AW.seq ?_
                    obtain ⟨y19, e20, h⟩ := bnd_some h
                    refine AW.reg tt_ok3 [0, 6, 32, 33, 40] [] [{}, { call := some { ids := [], frz := [], flat := true, cnt := 0, args := [.c (.t (.tree y17.length 1 (Ru32 y17)))], out := .c (.t (.v (.bool y19))), outb := [] } }] ⟨[(40, .c (.t (.v (.bool (!y19))))), (6, .c (.t (.tree y17.length 1 (Ru32 y17)))), (0, .c (.t (.tree p0.length 1 (Ru32 p0)))), (32, .c (.t (.v (.int .i64 p1)))), (33, .c (.t (.v (.int .i64 x14))))], [], 6⟩ [True, ((True) ∧ (True)) ∧ (All2 ArgLe [.c (.t (.tree y17.length 1 (Ru32 y17)))] [.c (.t (.tree y17.length 1 (Ru32 y17)))]) ∧ ((true = true → flatB [])) ∧ (Con Try.prog 17 [.c (.t (.tree y17.length 1 (Ru32 y17)))] [] (.c (.t (.v (.bool y19)))) []), True] (by kernel_rfl) (by kernel_rfl) ⟨trivial, ⟨⟨trivial, trivial⟩, ⟨ArgLe.refl _, trivial⟩, (fun _ => trivial), (natural_Valid_con y17 y19 e20)⟩, trivial, trivial⟩ ?_
                    refine AW.thenQ_normal ?_
                    refine AW.cond (b := !y19) (by kernel_rfl) (fun c21 => ?_) (fun c21 => ?_)
                    · rw [if_pos c21] at h
                      refine AW.seq ?_
                      refine AW.reg tt_ok3 [4, 5] [] [] ⟨[(5, .c (.t (.v (.int .i64 1)))), (4, .c (.t (.v (.slice none 0 0))))], [], 8⟩ [True, True] (by kernel_rfl) (by kernel_rfl) ⟨trivial, trivial, trivial⟩ ?_
                      refine AW.thenQ_normal ?_
                      refine AW.ret ?_
                      refine AW.inBlock_ret ?_
                      refine AW.thenQ_ret ?_
                      obtain rfl := some_inj h
                      refine loopQ_out rfl (conv_ren [] [4, 5] (n := 0) (by kernel_rfl) (by kernel_rfl))
                    · rw [if_neg (by rw [c21]; exact Bool.false_ne_true)] at h
                      refine AW.skip ?_
                      refine AW.inBlock_normal ?_
                      refine AW.thenQ_normal ?_
                      refine AW.reg tt_ok3 [0, 6, 32, 33] [] [] ⟨[(33, .c (.t (.v (.int .i64 (IntKind.i64.wrap (x14 + 1)))))), (6, .c (.t (.tree y17.length 1 (Ru32 y17)))), (0, .c (.t (.tree p0.length 1 (Ru32 p0)))), (32, .c (.t (.v (.int .i64 p1))))], [], 8⟩ [True, True] (by kernel_rfl) (by kernel_rfl) ⟨trivial, trivial, trivial⟩ ?_
                      obtain rfl := some_inj h
                      refine loopQ_next (conv_ren [] [0, 6, 32, 33] (n := 0) (by kernel_rfl) (by kernel_rfl))
                  · rw [if_neg (by rw [c16]; exact Bool.false_ne_true)] at h
                    refine AW.exit ?_
                    refine AW.thenQ_exit ?_
                    obtain rfl := some_inj h
                    refine loopQ_out rfl (conv_ren [] [6] (n := 0) (by kernel_rfl) (by kernel_rfl))
                ·
                  show (_ : Exit → St → Prop) (.exit 1) ⟨[(6, .c (.t (.tree x22.length 1 (Ru32 x22))))], [], 0⟩
                  refine AW.inBlock_hit ?_
                  refine AW.thenQ_normal ?_
                  refine AW.seq ?_
                  refine AW.reg tt_ok3 [4, 5] [] [] ⟨[(5, .c (.t (.v (.int .i64 0)))), (4, .c (.t (.tree x22.length 1 (Ru32 x22))))], [], 3⟩ [True, True, True] (by kernel_rfl) (by kernel_rfl) ⟨trivial, trivial, trivial, trivial⟩ ?_
                  refine AW.thenQ_normal ?_
                  refine AW.ret ?_
                  obtain rfl := some_inj h
                  exact ⟨_, Conv.refl _ _, .inr rfl, OutOk.mk [] 0 (out0 := .tup [.c (.t (.tree x22.length 1 (Ru32 x22))), .c (.t (.v (.int .i64 0)))]) (ps := [True, True]) (by kernel_rfl) ⟨trivial, trivial, trivial⟩ (by kernel_rfl) (by kernel_rfl)⟩
              ·
                replace h : natural_Power_a14 = some r := h
                unfold natural_Power_a14 at h
                refine AW.pre (S' := ((fun v => ⟨[(0, .c (.t (.tree p0.length 1 (Ru32 p0)))), (6, .c (.t (.tree v.1.length 1 (Ru32 v.1)))), (32, .c (.t (.v (.int .i64 p1)))), (33, .c (.t (.v (.int .i64 v.2))))], [], 0⟩) : ((List Int) × Int) → St) (([1] : List Int), 0)) (Conv.trans (conv_row (id := 0) (ty := 37) (fro := false) (fro' := true) (sz := 1) (n := ([1] : List Int).length) (m := ([1] : List Int).length) (f := Ru32 ([1] : List Int)) (g := Ru32 ([1] : List Int)) (by kernel_rfl) (.inr rfl) rfl row_rfl) (Conv.trans (conv_tm (tm' := [(0, .c (.t (.tree p0.length 1 (Ru32 p0)))), (6, .c (.t (.tree (([1] : List Int).length) 1 (Ru32 ([1] : List Int))))), (32, .c (.t (.v (.int .i64 p1)))), (33, .c (.t (.v (.int .i64 0))))]) ⟨⟨.c (.t (.tree p0.length 1 (Ru32 p0))), by kernel_rfl, ALe.refl _ _⟩, ⟨.c (.ref 0 1 0 (([1] : List Int).length)), by kernel_rfl, ALe.c (CLe.ref (ty := 37) (f := Ru32 ([1] : List Int)) (by kernel_rfl) le0)⟩, ⟨.c (.t (.v (.int .i64 p1))), by kernel_rfl, ALe.refl _ _⟩, ⟨.c (.t (.v (.int .i64 0))), by kernel_rfl, ALe.refl _ _⟩, trivial⟩) (conv_ren [] [0, 6, 32, 33] (n := 0) (by kernel_rfl) (by kernel_rfl)))) ?_
                refine AW.loop2 (step := (fun v : (List Int) × Int => natural_Power_l12 p0 p1 v.1 v.2)) (s0 := (([1] : List Int), 0)) (t := .inr ()) (fun v => ⟨[(0, .c (.t (.tree p0.length 1 (Ru32 p0)))), (6, .c (.t (.tree v.1.length 1 (Ru32 v.1)))), (32, .c (.t (.v (.int .i64 p1)))), (33, .c (.t (.v (.int .i64 v.2))))], [], 0⟩) (fun t : ((List Int) ⊕ Unit) => match t with | .inl t => (.exit 1, ⟨[(6, .c (.t (.tree t.length 1 (Ru32 t))))], [], 0⟩) | .inr t => (.ret, ⟨[(4, .c (.t (.v (.slice none 0 0)))), (5, .c (.t (.v (.int .i64 1))))], [], 0⟩)) l23 (fun t => by cases t <;> trivial) ?_ ?_
                ·
                  clear l23 h
                  intro v o h
                  obtain ⟨x13, x14⟩ := v
                  replace h : natural_Power_l12 p0 p1 x13 x14 = some o := h
                  unfold natural_Power_l12 at h
                  show AW _ ⟨[(0, .c (.t (.tree p0.length 1 (Ru32 p0)))), (6, .c (.t (.tree x13.length 1 (Ru32 x13)))), (32, .c (.t (.v (.int .i64 p1)))), (33, .c (.t (.v (.int .i64 x14))))], [], 0⟩ _ _
                  refine AW.seq ?_
                  refine AW.reg tt_ok3 [0, 6, 32, 33, 34] [] [] ⟨[(34, .c (.t (.v (.bool (decide (x14 < p1)))))), (0, .c (.t (.tree p0.length 1 (Ru32 p0)))), (6, .c (.t (.tree x13.length 1 (Ru32 x13)))), (32, .c (.t (.v (.int .i64 p1)))), (33, .c (.t (.v (.int .i64 x14))))], [], 1⟩ [True] (by kernel_rfl) (by kernel_rfl) ⟨trivial, trivial⟩ ?_
                  refine AW.thenQ_normal ?_
                  refine AW.seq ?_
                  refine AW.cond (b := decide (x14 < p1)) (by kernel_rfl) (fun c16 => ?_) (fun c16 => ?_)
                  · rw [if_pos c16] at h
                    refine AW.skip ?_
                    refine AW.thenQ_normal ?_
                    refine AW.seq ?_
                    refine AW.block ?_
                    refine AW.seq ?_
                    obtain ⟨y17, e18, h⟩ := bnd_some h
                    refine AW.reg tt_ok3 [0, 6, 32, 33] [] [{}, {}, { call := some { ids := [], frz := [], flat := false, cnt := 0, args := [.c (.t (.tree x13.length 1 (Ru32 x13))), .c (.t (.tree p0.length 1 (Ru32 p0)))], out := .c (.t (.tree y17.length 1 (Ru32 y17))), outb := [] } }] ⟨[(6, .c (.t (.tree y17.length 1 (Ru32 y17)))), (0, .c (.t (.tree p0.length 1 (Ru32 p0)))), (32, .c (.t (.v (.int .i64 p1)))), (33, .c (.t (.v (.int .i64 x14))))], [], 4⟩ [True, True, ((True) ∧ (True) ∧ (True)) ∧ (All2 ArgLe [.c (.t (.tree x13.length 1 (Ru32 x13))), .c (.t (.tree p0.length 1 (Ru32 p0)))] [.c (.t (.tree x13.length 1 (Ru32 x13))), .c (.t (.tree p0.length 1 (Ru32 p0)))]) ∧ ((false = true → flatB [])) ∧ (Con Try.prog 38 [.c (.t (.tree x13.length 1 (Ru32 x13))), .c (.t (.tree p0.length 1 (Ru32 p0)))] [] (.c (.t (.tree y17.length 1 (Ru32 y17)))) []), True] (by kernel_rfl) (by kernel_rfl) ⟨trivial, trivial, ⟨⟨trivial, trivial, trivial⟩, ⟨ArgLe.refl _, ArgLe.refl _, trivial⟩, (fun h => by cases h), (natural_times_con x13 p0 y17 e18)⟩, trivial, trivial⟩ ?_
                    refine AW.thenQ_normal ?_
                    refine AW.seq ?_
                    obtain ⟨y19, e20, h⟩ := bnd_some h
                    refine AW.reg tt_ok3 [0, 6, 32, 33, 40] [] [{}, { call := some { ids := [], frz := [], flat := true, cnt := 0, args := [.c (.t (.tree y17.length 1 (Ru32 y17)))], out := .c (.t (.v (.bool y19))), outb := [] } }] ⟨[(40, .c (.t (.v (.bool (!y19))))), (6, .c (.t (.tree y17.length 1 (Ru32 y17)))), (0, .c (.t (.tree p0.length 1 (Ru32 p0)))), (32, .c (.t (.v (.int .i64 p1)))), (33, .c (.t (.v (.int .i64 x14))))], [], 6⟩ [True, ((True) ∧ (True)) ∧ (All2 ArgLe [.c (.t (.tree y17.length 1 (Ru32 y17)))] [.c (.t (.tree y17.length 1 (Ru32 y17)))]) ∧ ((true = true → flatB [])) ∧ (Con Try.prog 17 [.c (.t (.tree y17.length 1 (Ru32 y17)))] [] (.c (.t (.v (.bool y19)))) []), True] (by kernel_rfl) (by kernel_rfl) ⟨trivial, ⟨⟨trivial, trivial⟩, ⟨ArgLe.refl _, trivial⟩, (fun _ => trivial), (natural_Valid_con y17 y19 e20)⟩, trivial, trivial⟩ ?_
                    refine AW.thenQ_normal ?_
                    refine AW.cond (b := !y19) (by kernel_rfl) (fun c21 => ?_) (fun c21 => ?_)
                    · rw [if_pos c21] at h
                      refine AW.seq ?_
                      refine AW.reg tt_ok3 [4, 5] [] [] ⟨[(5, .c (.t (.v (.int .i64 1)))), (4, .c (.t (.v (.slice none 0 0))))], [], 8⟩ [True, True] (by kernel_rfl) (by kernel_rfl) ⟨trivial, trivial, trivial⟩ ?_
                      refine AW.thenQ_normal ?_
                      refine AW.ret ?_
                      refine AW.inBlock_ret ?_
                      refine AW.thenQ_ret ?_
                      obtain rfl := some_inj h
                      refine loopQ_out rfl (conv_ren [] [4, 5] (n := 0) (by kernel_rfl) (by kernel_rfl))
                    · rw [if_neg (by rw [c21]; exact Bool.false_ne_true)] at h
                      refine AW.skip ?_
                      refine AW.inBlock_normal ?_
                      refine AW.thenQ_normal ?_
                      refine AW.reg tt_ok3 [0, 6, 32, 33] [] [] ⟨[(33, .c (.t (.v (.int .i64 (IntKind.i64.wrap (x14 + 1)))))), (6, .c (.t (.tree y17.length 1 (Ru32 y17)))), (0, .c (.t (.tree p0.length 1 (Ru32 p0)))), (32, .c (.t (.v (.int .i64 p1))))], [], 8⟩ [True, True] (by kernel_rfl) (by kernel_rfl) ⟨trivial, trivial, trivial⟩ ?_
                      obtain rfl := some_inj h
                      refine loopQ_next (conv_ren [] [0, 6, 32, 33] (n := 0) (by kernel_rfl) (by kernel_rfl))
                  · rw [if_neg (by rw [c16]; exact Bool.false_ne_true)] at h
                    refine AW.exit ?_
                    refine AW.thenQ_exit ?_
                    obtain rfl := some_inj h
                    refine loopQ_out rfl (conv_ren [] [6] (n := 0) (by kernel_rfl) (by kernel_rfl))
                ·
                  show (_ : Exit → St → Prop) (.ret) ⟨[(4, .c (.t (.v (.slice none 0 0)))), (5, .c (.t (.v (.int .i64 1))))], [], 0⟩
                  refine AW.inBlock_ret ?_
                  refine AW.thenQ_ret ?_
                  obtain rfl := some_inj h
                  exact ⟨_, conv_tm (tm' := [(4, .c (.t (.tree (([] : List Int).length) 1 (Ru32 ([] : List Int))))), (5, .c (.t (.v (.int .i64 1))))]) ⟨⟨.c (.t (.v (.slice none 0 0))), by kernel_rfl, ALe.c (CLe.nil rfl)⟩, ⟨.c (.t (.v (.int .i64 1))), by kernel_rfl, ALe.refl _ _⟩, trivial⟩, .inr rfl, OutOk.mk [] 0 (out0 := .tup [.c (.t (.tree (([] : List Int).length) 1 (Ru32 ([] : List Int)))), .c (.t (.v (.int .i64 1)))]) (ps := [True, True]) (by kernel_rfl) ⟨trivial, trivial, trivial⟩ (by kernel_rfl) (by kernel_rfl)⟩
        ·
          by_cases c24 : (((p0.length : Nat) : Int) == 0) = true
          · rw [if_pos c24] at h
            refine AW.reg tt_ok3 [0, 1, 18] [] [{}, {}, { h := { b := some true } }] ⟨[(18, .c (.t (.v (.bool (decide (p1 > 0)))))), (0, .c (.t (.tree p0.length 1 (Ru32 p0)))), (1, .c (.t (.v (.int .i64 p1))))], [], 8⟩ [True, True, (((p0.length : Nat) : Int) == 0) = true, True, True, True, True, True] (by kernel_rfl) (by kernel_rfl) ⟨trivial, trivial, c24, trivial, trivial, trivial, trivial, trivial, trivial⟩ ?_
            exact joinQ_leaf (decide (p1 > 0)) h (conv_ren [] [0, 1, 18] (n := 0) (by kernel_rfl) (by kernel_rfl))
          · rw [if_neg c24] at h
            refine AW.reg tt_ok3 [0, 1, 18] [] [{}, {}, { h := { b := some false } }] ⟨[(18, .c (.t (.v (.bool false)))), (0, .c (.t (.tree p0.length 1 (Ru32 p0)))), (1, .c (.t (.v (.int .i64 p1))))], [], 8⟩ [True, True, (((p0.length : Nat) : Int) == 0) = false, True, True, True, True, True] (by kernel_rfl) (by kernel_rfl) ⟨trivial, trivial, (off_false c24), trivial, trivial, trivial, trivial, trivial, trivial⟩ ?_
            exact joinQ_leaf (false) h (conv_ren [] [0, 1, 18] (n := 0) (by kernel_rfl) (by kernel_rfl))
    ·
      by_cases c25 : (decide (p1 < 0)) = true
      · rw [if_pos c25] at h
        refine AW.reg tt_ok3 [0, 1, 11] [] [{}, { h := { b := some true } }] ⟨[(11, .c (.t (.v (.bool true)))), (0, .c (.t (.tree p0.length 1 (Ru32 p0)))), (1, .c (.t (.v (.int .i64 p1))))], [], 12⟩ [True, (decide (p1 < 0)) = true, True, True, True, True, True] (by kernel_rfl) (by kernel_rfl) ⟨trivial, c25, trivial, trivial, trivial, trivial, trivial, trivial⟩ ?_
        exact joinQ_leaf (true) h (conv_ren [] [0, 1, 11] (n := 0) (by kernel_rfl) (by kernel_rfl))
      · rw [if_neg c25] at h
        refine AW.reg tt_ok3 [0, 1, 11] [] [{}, { h := { b := some false } }] ⟨[(11, .c (.t (.v (.bool (decide (p1 > 4096)))))), (0, .c (.t (.tree p0.length 1 (Ru32 p0)))), (1, .c (.t (.v (.int .i64 p1))))], [], 12⟩ [True, (decide (p1 < 0)) = false, True, True, True, True, True] (by kernel_rfl) (by kernel_rfl) ⟨trivial, (off_false c25), trivial, trivial, trivial, trivial, trivial, trivial⟩ ?_
        exact joinQ_leaf (decide (p1 > 4096)) h (conv_ren [] [0, 1, 11] (n := 0) (by kernel_rfl) (by kernel_rfl))
/-! recordlink/recordlinkref10.Power -/
noncomputable def rl_ref10_Power_l8 (p0 : List Int) (p1 : Int) (x8 : List Int) (x9 : Int) : Option (((List Int) × Int) ⊕ ((List Int) ⊕ Unit)) := if (decide (x9 < p1)) = true then ((rl_ref10_product x8 p0).bind fun y12 => (if (decide (((y12.length : Nat) : Int) > 64)) = true then (some (.inr (.inr ()))) else (some (.inl (y12, IntKind.i64.wrap (x9 + 1)))))) else (some (.inr (.inl x8)))
noncomputable def rl_ref10_Power_a9 (x15 : List Int) : Option ((List Int) × Int) := some (x15, 0)
noncomputable def rl_ref10_Power_a10 : Option ((List Int) × Int) := some (([] : List Int), 1)
noncomputable def rl_ref10_Power_k4 (p0 : List Int) (p1 : Int) (x4 : Bool) : Option ((List Int) × Int) := if x4 = true then (some (([] : List Int), 2)) else (bindE (loop (fun v : (List Int) × Int => rl_ref10_Power_l8 p0 p1 v.1 v.2) (([1] : List Int), 0)) (fun t => rl_ref10_Power_a9 t) (fun t => rl_ref10_Power_a10))
noncomputable def rl_ref10_Power (p0 : List Int) (p1 : Int) : Option ((List Int) × Int) := (rl_ref10_Valid p0).bind fun y1 => (if (!y1) = true then (some (([] : List Int), 20)) else (if (decide (p1 < 0)) = true then (rl_ref10_Power_k4 p0 p1 true) else (rl_ref10_Power_k4 p0 p1 (decide (p1 > 4096)))))
set_option maxRecDepth 100000 in
set_option maxHeartbeats 10000000 in
theorem rl_ref10_Power_con (p0 : List Int) (p1 : Int) (r0 : List Int) (r1 : Int) (h : rl_ref10_Power p0 p1 = some (r0, r1)) : Con Try.prog 33 [.c (.t (.tree p0.length 1 (Ru32 p0))), .c (.t (.v (.int .i64 p1)))] [] (.tup [.c (.t (.tree r0.length 1 (Ru32 r0))), .c (.t (.v (.int .i64 r1)))]) [] := by
  suffices H : ∀ r, rl_ref10_Power p0 p1 = some r → Con Try.prog 33 [.c (.t (.tree p0.length 1 (Ru32 p0))), .c (.t (.v (.int .i64 p1)))] [] (.tup [.c (.t (.tree r.1.length 1 (Ru32 r.1))), .c (.t (.v (.int .i64 r.2)))]) [] from H (r0, r1) h
  clear h
  intro r h
  refine con_of tt_ok3 0 Try.func33 (by kernel_rfl) rfl (by kernel_rfl) (fun base X hk => AW.post ?_)
  unfold rl_ref10_Power at h
  refine AW.seq ?_
  refine AW.reg tt_ok3 [0, 1] [] [] ⟨[(0, .c (.t (.tree p0.length 1 (Ru32 p0)))), (1, .c (.t (.v (.int .i64 p1))))], [], 2⟩ [True, True] (by kernel_rfl) (by kernel_rfl) ⟨trivial, trivial, trivial⟩ ?_
  refine AW.thenQ_normal ?_
  refine AW.seq ?_
  refine AW.seq ?_
  obtain ⟨y1, e2, h⟩ := bnd_some h
  refine AW.reg tt_ok3 [0, 1, 10] [] [{}, { call := some { ids := [], frz := [], flat := true, cnt := 0, args := [.c (.t (.tree p0.length 1 (Ru32 p0)))], out := .c (.t (.v (.bool y1))), outb := [] } }] ⟨[(10, .c (.t (.v (.bool (!y1))))), (0, .c (.t (.tree p0.length 1 (Ru32 p0)))), (1, .c (.t (.v (.int .i64 p1))))], [], 4⟩ [True, ((True) ∧ (True)) ∧ (All2 ArgLe [.c (.t (.tree p0.length 1 (Ru32 p0)))] [.c (.t (.tree p0.length 1 (Ru32 p0)))]) ∧ ((true = true → flatB [])) ∧ (Con Try.prog 31 [.c (.t (.tree p0.length 1 (Ru32 p0)))] [] (.c (.t (.v (.bool y1)))) []), True] (by kernel_rfl) (by kernel_rfl) ⟨trivial, ⟨⟨trivial, trivial⟩, ⟨ArgLe.refl _, trivial⟩, (fun _ => trivial), (rl_ref10_Valid_con p0 y1 e2)⟩, trivial, trivial⟩ ?_
  refine AW.thenQ_normal ?_
  refine AW.cond (b := !y1) (by kernel_rfl) (fun c3 => ?_) (fun c3 => ?_)
  · rw [if_pos c3] at h
    refine AW.seq ?_
    refine AW.reg tt_ok3 [4, 5] [] [] ⟨[(5, .c (.t (.v (.int .i64 20)))), (4, .c (.t (.v (.slice none 0 0))))], [], 6⟩ [True, True] (by kernel_rfl) (by kernel_rfl) ⟨trivial, trivial, trivial⟩ ?_
    refine AW.thenQ_normal ?_
    refine AW.ret ?_
    refine AW.thenQ_ret ?_
    obtain rfl := some_inj h
    exact ⟨_, conv_tm (tm' := [(5, .c (.t (.v (.int .i64 20)))), (4, .c (.t (.tree (([] : List Int).length) 1 (Ru32 ([] : List Int)))))]) ⟨⟨.c (.t (.v (.int .i64 20))), by kernel_rfl, ALe.refl _ _⟩, ⟨.c (.t (.v (.slice none 0 0))), by kernel_rfl, ALe.c (CLe.nil rfl)⟩, trivial⟩, .inr rfl, OutOk.mk [] 0 (out0 := .tup [.c (.t (.tree (([] : List Int).length) 1 (Ru32 ([] : List Int)))), .c (.t (.v (.int .i64 20)))]) (ps := [True, True]) (by kernel_rfl) ⟨trivial, trivial, trivial⟩ (by kernel_rfl) (by kernel_rfl)⟩
  · rw [if_neg (by rw [c3]; exact Bool.false_ne_true)] at h
    refine AW.skip ?_
    refine AW.thenQ_normal ?_
    refine AW.seq ?_
    refine AW.seq ?_
    refine AW.join (ι := Bool) (fun v => ⟨[(0, .c (.t (.tree p0.length 1 (Ru32 p0)))), (1, .c (.t (.v (.int .i64 p1)))), (16, .c (.t (.v (.bool v))))], [], 0⟩) (fun v : Bool => rl_ref10_Power_k4 p0 p1 v = some r) (fun v h => ?_) ?_
    ·
      obtain ⟨x4, rfl⟩ : ∃ x, x = v := ⟨_, rfl⟩
      replace h : rl_ref10_Power_k4 p0 p1 x4 = some r := h
      unfold rl_ref10_Power_k4 at h
      show (_ : Exit → St → Prop) .normal ⟨[(0, .c (.t (.tree p0.length 1 (Ru32 p0)))), (1, .c (.t (.v (.int .i64 p1)))), (16, .c (.t (.v (.bool x4))))], [], 0⟩
      refine AW.thenQ_normal ?_
      refine AW.cond (b := x4) (by kernel_rfl) (fun c5 => ?_) (fun c5 => ?_)
      · rw [if_pos c5] at h
        refine AW.seq ?_
        refine AW.reg tt_ok3 [4, 5] [] [] ⟨[(5, .c (.t (.v (.int .i64 2)))), (4, .c (.t (.v (.slice none 0 0))))], [], 2⟩ [True, True] (by kernel_rfl) (by kernel_rfl) ⟨trivial, trivial, trivial⟩ ?_
        refine AW.thenQ_normal ?_
        refine AW.ret ?_
        refine AW.thenQ_ret ?_
        obtain rfl := some_inj h
        exact ⟨_, conv_tm (tm' := [(5, .c (.t (.v (.int .i64 2)))), (4, .c (.t (.tree (([] : List Int).length) 1 (Ru32 ([] : List Int)))))]) ⟨⟨.c (.t (.v (.int .i64 2))), by kernel_rfl, ALe.refl _ _⟩, ⟨.c (.t (.v (.slice none 0 0))), by kernel_rfl, ALe.c (CLe.nil rfl)⟩, trivial⟩, .inr rfl, OutOk.mk [] 0 (out0 := .tup [.c (.t (.tree (([] : List Int).length) 1 (Ru32 ([] : List Int)))), .c (.t (.v (.int .i64 2)))]) (ps := [True, True]) (by kernel_rfl) ⟨trivial, trivial, trivial⟩ (by kernel_rfl) (by kernel_rfl)⟩
      · rw [if_neg (by rw [c5]; exact Bool.false_ne_true)] at h
        refine AW.skip ?_
        refine AW.thenQ_normal ?_
        refine AW.seq ?_
        refine AW.reg tt_ok3 [0, 1, 6] [0] [{ h := { row := some (([1] : List Int).length, Ru32 ([1] : List Int)) } }] ⟨[(6, .c (.ref 0 1 0 (([1] : List Int).length))), (0, .c (.t (.tree p0.length 1 (Ru32 p0)))), (1, .c (.t (.v (.int .i64 p1))))], [(0, .row 37 false 1 ([1] : List Int).length (Ru32 ([1] : List Int)))], 2⟩ [1 = ([1] : List Int).length ∧ ∀ i, i < ([1] : List Int).length → ∀ j, j < 1 → TLe ((rowOf [.v (.int .u32 1)] 1) i j) (Ru32 ([1] : List Int) i j), True] (by kernel_rfl) (by kernel_rfl) ⟨⟨rfl, lit_row (n := 1) (sz := 1) ⟨trivial, ⟨trivial, TLe.refl _⟩⟩⟩, trivial, trivial⟩ ?_
        refine AW.thenQ_normal ?_
        refine AW.seq ?_
        refine AW.seq ?_
        refine AW.reg tt_ok3 [0, 1, 6, 7] [0] [] ⟨[(7, .c (.t (.v (.int .i64 0)))), (6, .c (.ref 0 1 0 (([1] : List Int).length))), (0, .c (.t (.tree p0.length 1 (Ru32 p0)))), (1, .c (.t (.v (.int .i64 p1))))], [(0, .row 37 false 1 ([1] : List Int).length (Ru32 ([1] : List Int)))], 3⟩ [True] (by kernel_rfl) (by kernel_rfl) ⟨trivial, trivial⟩ ?_
        refine AW.thenQ_normal ?_
        refine AW.block ?_
        rcases bindE_some h with ⟨t, l16, h⟩ | ⟨t, l16, h⟩
        ·
          obtain ⟨x15, rfl⟩ : ∃ x, x = t := ⟨_, rfl⟩
          replace h : rl_ref10_Power_a9 x15 = some r := h
          unfold rl_ref10_Power_a9 at h
          refine AW.pre (S' := ((fun v => ⟨[(0, .c (.t (.tree p0.length 1 (Ru32 p0)))), (1, .c (.t (.v (.int .i64 p1)))), (6, .c (.t (.tree v.1.length 1 (Ru32 v.1)))), (7, .c (.t (.v (.int .i64 v.2))))], [], 0⟩) : ((List Int) × Int) → St) (([1] : List Int), 0)) (Conv.trans (conv_row (id := 0) (ty := 37) (fro := false) (fro' := true) (sz := 1) (n := ([1] : List Int).length) (m := ([1] : List Int).length) (f := Ru32 ([1] : List Int)) (g := Ru32 ([1] : List Int)) (by kernel_rfl) (.inr rfl) rfl row_rfl) (Conv.trans (conv_tm (tm' := [(0, .c (.t (.tree p0.length 1 (Ru32 p0)))), (1, .c (.t (.v (.int .i64 p1)))), (6, .c (.t (.tree (([1] : List Int).length) 1 (Ru32 ([1] : List Int))))), (7, .c (.t (.v (.int .i64 0))))]) ⟨⟨.c (.t (.tree p0.length 1 (Ru32 p0))), by kernel_rfl, ALe.refl _ _⟩, ⟨.c (.t (.v (.int .i64 p1))), by kernel_rfl, ALe.refl _ _⟩, ⟨.c (.ref 0 1 0 (([1] : List Int).length)), by kernel_rfl, ALe.c (CLe.ref (ty := 37) (f := Ru32 ([1] : List Int)) (by kernel_rfl) le0)⟩, ⟨.c (.t (.v (.int .i64 0))), by kernel_rfl, ALe.refl _ _⟩, trivial⟩) (conv_ren [] [0, 1, 6, 7] (n := 0) (by kernel_rfl) (by kernel_rfl)))) ?_
          refine AW.loop2 (step := (fun v : (List Int) × Int => rl_ref10_Power_l8 p0 p1 v.1 v.2)) (s0 := (([1] : List Int), 0)) (t := .inl x15) (fun v => ⟨[(0, .c (.t (.tree p0.length 1 (Ru32 p0)))), (1, .c (.t (.v (.int .i64 p1)))), (6, .c (.t (.tree v.1.length 1 (Ru32 v.1)))), (7, .c (.t (.v (.int .i64 v.2))))], [], 0⟩) (fun t : ((List Int) ⊕ Unit) => match t with | .inl t => (.exit 0, ⟨[(6, .c (.t (.tree t.length 1 (Ru32 t))))], [], 0⟩) | .inr t => (.ret, ⟨[(4, .c (.t (.v (.slice none 0 0)))), (5, .c (.t (.v (.int .i64 1))))], [], 0⟩)) l16 (fun t => by cases t <;> trivial) ?_ ?_
          ·
            clear l16 h
            intro v o h
            obtain ⟨x8, x9⟩ := v
            replace h : rl_ref10_Power_l8 p0 p1 x8 x9 = some o := h
            unfold rl_ref10_Power_l8 at h
            show AW _ ⟨[(0, .c (.t (.tree p0.length 1 (Ru32 p0)))), (1, .c (.t (.v (.int .i64 p1)))), (6, .c (.t (.tree x8.length 1 (Ru32 x8)))), (7, .c (.t (.v (.int .i64 x9))))], [], 0⟩ _ _
            refine AW.seq ?_
            refine AW.seq ?_
            refine AW.reg tt_ok3 [0, 1, 6, 7, 20] [] [] ⟨[(20, .c (.t (.v (.bool (decide (x9 < p1)))))), (0, .c (.t (.tree p0.length 1 (Ru32 p0)))), (1, .c (.t (.v (.int .i64 p1)))), (6, .c (.t (.tree x8.length 1 (Ru32 x8)))), (7, .c (.t (.v (.int .i64 x9))))], [], 3⟩ [True, True, True] (by kernel_rfl) (by kernel_rfl) ⟨trivial, trivial, trivial, trivial⟩ ?_
            refine AW.thenQ_normal ?_
            refine AW.cond (b := decide (x9 < p1)) (by kernel_rfl) (fun c11 => ?_) (fun c11 => ?_)
            · rw [if_pos c11] at h
              refine AW.skip ?_
              refine AW.thenQ_normal ?_
              refine AW.seq ?_
              refine AW.block ?_
              refine AW.seq ?_
              obtain ⟨y12, e13, h⟩ := bnd_some h
              refine AW.reg tt_ok3 [0, 1, 6, 7] [] [{}, {}, { call := some { ids := [], frz := [], flat := false, cnt := 0, args := [.c (.t (.tree x8.length 1 (Ru32 x8))), .c (.t (.tree p0.length 1 (Ru32 p0)))], out := .c (.t (.tree y12.length 1 (Ru32 y12))), outb := [] } }] ⟨[(6, .c (.t (.tree y12.length 1 (Ru32 y12)))), (0, .c (.t (.tree p0.length 1 (Ru32 p0)))), (1, .c (.t (.v (.int .i64 p1)))), (7, .c (.t (.v (.int .i64 x9))))], [], 6⟩ [True, True, ((True) ∧ (True) ∧ (True)) ∧ (All2 ArgLe [.c (.t (.tree x8.length 1 (Ru32 x8))), .c (.t (.tree p0.length 1 (Ru32 p0)))] [.c (.t (.tree x8.length 1 (Ru32 x8))), .c (.t (.tree p0.length 1 (Ru32 p0)))]) ∧ ((false = true → flatB [])) ∧ (Con Try.prog 52 [.c (.t (.tree x8.length 1 (Ru32 x8))), .c (.t (.tree p0.length 1 (Ru32 p0)))] [] (.c (.t (.tree y12.length 1 (Ru32 y12)))) []), True] (by kernel_rfl) (by kernel_rfl) ⟨trivial, trivial, ⟨⟨trivial, trivial, trivial⟩, ⟨ArgLe.refl _, ArgLe.refl _, trivial⟩, (fun h => by cases h), (rl_ref10_product_con x8 p0 y12 e13)⟩, trivial, trivial⟩ ?_
              refine AW.thenQ_normal ?_
              refine AW.seq ?_
              refine AW.reg tt_ok3 [0, 1, 6, 7, 28] [] [] ⟨[(28, .c (.t (.v (.bool (decide (((y12.length : Nat) : Int) > 64)))))), (6, .c (.t (.tree y12.length 1 (Ru32 y12)))), (0, .c (.t (.tree p0.length 1 (Ru32 p0)))), (1, .c (.t (.v (.int .i64 p1)))), (7, .c (.t (.v (.int .i64 x9))))], [], 9⟩ [True, True, True] (by kernel_rfl) (by kernel_rfl) ⟨trivial, trivial, trivial, trivial⟩ ?_
              refine AW.thenQ_normal ?_
              refine AW.cond (b := decide (((y12.length : Nat) : Int) > 64)) (by kernel_rfl) (fun c14 => ?_) (fun c14 => ?_)
              · rw [if_pos c14] at h
                refine AW.seq ?_
                refine AW.reg tt_ok3 [4, 5] [] [] ⟨[(5, .c (.t (.v (.int .i64 1)))), (4, .c (.t (.v (.slice none 0 0))))], [], 11⟩ [True, True] (by kernel_rfl) (by kernel_rfl) ⟨trivial, trivial, trivial⟩ ?_
                refine AW.thenQ_normal ?_
                refine AW.ret ?_
                refine AW.inBlock_ret ?_
                refine AW.thenQ_ret ?_
                obtain rfl := some_inj h
                refine loopQ_out rfl (conv_ren [] [4, 5] (n := 0) (by kernel_rfl) (by kernel_rfl))
              · rw [if_neg (by rw [c14]; exact Bool.false_ne_true)] at h
                refine AW.skip ?_
                refine AW.inBlock_normal ?_
                refine AW.thenQ_normal ?_
                refine AW.reg tt_ok3 [0, 1, 6, 7] [] [] ⟨[(7, .c (.t (.v (.int .i64 (IntKind.i64.wrap (x9 + 1)))))), (6, .c (.t (.tree y12.length 1 (Ru32 y12)))), (0, .c (.t (.tree p0.length 1 (Ru32 p0)))), (1, .c (.t (.v (.int .i64 p1))))], [], 12⟩ [True, True, True] (by kernel_rfl) (by kernel_rfl) ⟨trivial, trivial, trivial, trivial⟩ ?_
                obtain rfl := some_inj h
                refine loopQ_next (conv_ren [] [0, 1, 6, 7] (n := 0) (by kernel_rfl) (by kernel_rfl))
            · rw [if_neg (by rw [c11]; exact Bool.false_ne_true)] at h
              refine AW.exit ?_
              refine AW.thenQ_exit ?_
              obtain rfl := some_inj h
              refine loopQ_out rfl (conv_ren [] [6] (n := 0) (by kernel_rfl) (by kernel_rfl))
          ·
            show (_ : Exit → St → Prop) (.exit 0) ⟨[(6, .c (.t (.tree x15.length 1 (Ru32 x15))))], [], 0⟩
            refine AW.inBlock_hit ?_
            refine AW.thenQ_normal ?_
            refine AW.seq ?_
            refine AW.reg tt_ok3 [4, 5] [] [] ⟨[(5, .c (.t (.v (.int .i64 0)))), (4, .c (.t (.tree x15.length 1 (Ru32 x15))))], [], 3⟩ [True, True, True] (by kernel_rfl) (by kernel_rfl) ⟨trivial, trivial, trivial, trivial⟩ ?_
            refine AW.thenQ_normal ?_
            refine AW.ret ?_
            obtain rfl := some_inj h
            exact ⟨_, Conv.refl _ _, .inr rfl, OutOk.mk [] 0 (out0 := .tup [.c (.t (.tree x15.length 1 (Ru32 x15))), .c (.t (.v (.int .i64 0)))]) (ps := [True, True]) (by kernel_rfl) ⟨trivial, trivial, trivial⟩ (by kernel_rfl) (by kernel_rfl)⟩
        ·
          replace h : rl_ref10_Power_a10 = some r := h
          unfold rl_ref10_Power_a10 at h
          refine AW.pre (S' := ((fun v => ⟨[(0, .c (.t (.tree p0.length 1 (Ru32 p0)))), (1, .c (.t (.v (.int .i64 p1)))), (6, .c (.t (.tree v.1.length 1 (Ru32 v.1)))), (7, .c (.t (.v (.int .i64 v.2))))], [], 0⟩) : ((List Int) × Int) → St) (([1] : List Int), 0)) (Conv.trans (conv_row (id := 0) (ty := 37) (fro := false) (fro' := true) (sz := 1) (n := ([1] : List Int).length) (m := ([1] : List Int).length) (f := Ru32 ([1] : List Int)) (g := Ru32 ([1] : List Int)) (by kernel_rfl) (.inr rfl) rfl row_rfl) (Conv.trans (conv_tm (tm' := [(0, .c (.t (.tree p0.length 1 (Ru32 p0)))), (1, .c (.t (.v (.int .i64 p1)))), (6, .c (.t (.tree (([1] : List Int).length) 1 (Ru32 ([1] : List Int))))), (7, .c (.t (.v (.int .i64 0))))]) ⟨⟨.c (.t (.tree p0.length 1 (Ru32 p0))), by kernel_rfl, ALe.refl _ _⟩, ⟨.c (.t (.v (.int .i64 p1))), by kernel_rfl, ALe.refl _ _⟩, ⟨.c (.ref 0 1 0 (([1] : List Int).length)), by kernel_rfl, ALe.c (CLe.ref (ty := 37) (f := Ru32 ([1] : List Int)) (by kernel_rfl) le0)⟩, ⟨.c (.t (.v (.int .i64 0))), by kernel_rfl, ALe.refl _ _⟩, trivial⟩) (conv_ren [] [0, 1, 6, 7] (n := 0) (by kernel_rfl) (by kernel_rfl)))) ?_
          refine AW.loop2 (step := (fun v : (List Int) × Int => rl_ref10_Power_l8 p0 p1 v.1 v.2)) (s0 := (([1] : List Int), 0)) (t := .inr ()) (fun v => ⟨[(0, .c (.t (.tree p0.length 1 (Ru32 p0)))), (1, .c (.t (.v (.int .i64 p1)))), (6, .c (.t (.tree v.1.length 1 (Ru32 v.1)))), (7, .c (.t (.v (.int .i64 v.2))))], [], 0⟩) (fun t : ((List Int) ⊕ Unit) => match t with | .inl t => (.exit 0, ⟨[(6, .c (.t (.tree t.length 1 (Ru32 t))))], [], 0⟩) | .inr t => (.ret, ⟨[(4, .c (.t (.v (.slice none 0 0)))), (5, .c (.t (.v (.int .i64 1))))], [], 0⟩)) l16 (fun t => by cases t <;> trivial) ?_ ?_
          ·
            clear l16 h
            intro v o h
            obtain ⟨x8, x9⟩ := v
            replace h : rl_ref10_Power_l8 p0 p1 x8 x9 = some o := h
            unfold rl_ref10_Power_l8 at h
            show AW _ ⟨[(0, .c (.t (.tree p0.length 1 (Ru32 p0)))), (1, .c (.t (.v (.int .i64 p1)))), (6, .c (.t (.tree x8.length 1 (Ru32 x8)))), (7, .c (.t (.v (.int .i64 x9))))], [], 0⟩ _ _
            refine AW.seq ?_
            refine AW.seq ?_
            refine AW.reg tt_ok3 [0, 1, 6, 7, 20] [] [] ⟨[(20, .c (.t (.v (.bool (decide (x9 < p1)))))), (0, .c (.t (.tree p0.length 1 (Ru32 p0)))), (1, .c (.t (.v (.int .i64 p1)))), (6, .c (.t (.tree x8.length 1 (Ru32 x8)))), (7, .c (.t (.v (.int .i64 x9))))], [], 3⟩ [True, True, True] (by kernel_rfl) (by kernel_rfl) ⟨trivial, trivial, trivial, trivial⟩ ?_
            refine AW.thenQ_normal ?_
            refine AW.cond (b := decide (x9 < p1)) (by kernel_rfl) (fun c11 => ?_) (fun c11 => ?_)
            · rw [if_pos c11] at h
              refine AW.skip ?_
              refine AW.thenQ_normal ?_
              refine AW.seq ?_
              refine AW.block ?_
              refine AW.seq ?_
              obtain ⟨y12, e13, h⟩ := bnd_some h
              refine AW.reg tt_ok3 [0, 1, 6, 7] [] [{}, {}, { call := some { ids := [], frz := [], flat := false, cnt := 0, args := [.c (.t (.tree x8.length 1 (Ru32 x8))), .c (.t (.tree p0.length 1 (Ru32 p0)))], out := .c (.t (.tree y12.length 1 (Ru32 y12))), outb := [] } }] ⟨[(6, .c (.t (.tree y12.length 1 (Ru32 y12)))), (0, .c (.t (.tree p0.length 1 (Ru32 p0)))), (1, .c (.t (.v (.int .i64 p1)))), (7, .c (.t (.v (.int .i64 x9))))], [], 6⟩ [True, True, ((True) ∧ (True) ∧ (True)) ∧ (All2 ArgLe [.c (.t (.tree x8.length 1 (Ru32 x8))), .c (.t (.tree p0.length 1 (Ru32 p0)))] [.c (.t (.tree x8.length 1 (Ru32 x8))), .c (.t (.tree p0.length 1 (Ru32 p0)))]) ∧ ((false = true → flatB [])) ∧ (Con Try.prog 52 [.c (.t (.tree x8.length 1 (Ru32 x8))), .c (.t (.tree p0.length 1 (Ru32 p0)))] [] (.c (.t (.tree y12.length 1 (Ru32 y12)))) []), True] (by kernel_rfl) (by kernel_rfl) ⟨trivial, trivial, ⟨⟨trivial, trivial, trivial⟩, ⟨ArgLe.refl _, ArgLe.refl _, trivial⟩, (fun h => by cases h), (rl_ref10_product_con x8 p0 y12 e13)⟩, trivial, trivial⟩ ?_
              refine AW.thenQ_normal ?_
              refine AW.seq ?_
              refine AW.reg tt_ok3 [0, 1, 6, 7, 28] [] [] ⟨[(28, .c (.t (.v (.bool (decide (((y12.length : Nat) : Int) > 64)))))), (6, .c (.t (.tree y12.length 1 (Ru32 y12)))), (0, .c (.t (.tree p0.length 1 (Ru32 p0)))), (1, .c (.t (.v (.int .i64 p1)))), (7, .c (.t (.v (.int .i64 x9))))], [], 9⟩ [True, True, True] (by kernel_rfl) (by kernel_rfl) ⟨trivial, trivial, trivial, trivial⟩ ?_
              refine AW.thenQ_normal ?_
              refine AW.cond (b := decide (((y12.length : Nat) : Int) > 64)) (by kernel_rfl) (fun c14 => ?_) (fun c14 => ?_)
              · rw [if_pos c14] at h
                refine AW.seq ?_
                refine AW.reg tt_ok3 [4, 5] [] [] ⟨[(5, .c (.t (.v (.int .i64 1)))), (4, .c (.t (.v (.slice none 0 0))))], [], 11⟩ [True, True] (by kernel_rfl) (by kernel_rfl) ⟨trivial, trivial, trivial⟩ ?_
                refine AW.thenQ_normal ?_
                refine AW.ret ?_
                refine AW.inBlock_ret ?_
                refine AW.thenQ_ret ?_
                obtain rfl := some_inj h
                refine loopQ_out rfl (conv_ren [] [4, 5] (n := 0) (by kernel_rfl) (by kernel_rfl))
              · rw [if_neg (by rw [c14]; exact Bool.false_ne_true)] at h
                refine AW.skip ?_
                refine AW.inBlock_normal ?_
                refine AW.thenQ_normal ?_
                refine AW.reg tt_ok3 [0, 1, 6, 7] [] [] ⟨[(7, .c (.t (.v (.int .i64 (IntKind.i64.wrap (x9 + 1)))))), (6, .c (.t (.tree y12.length 1 (Ru32 y12)))), (0, .c (.t (.tree p0.length 1 (Ru32 p0)))), (1, .c (.t (.v (.int .i64 p1))))], [], 12⟩ [True, True, True] (by kernel_rfl) (by kernel_rfl) ⟨trivial, trivial, trivial, trivial⟩ ?_
                obtain rfl := some_inj h
                refine loopQ_next (conv_ren [] [0, 1, 6, 7] (n := 0) (by kernel_rfl) (by kernel_rfl))
            · rw [if_neg (by rw [c11]; exact Bool.false_ne_true)] at h
              refine AW.exit ?_
              refine AW.thenQ_exit ?_
              obtain rfl := some_inj h
              refine loopQ_out rfl (conv_ren [] [6] (n := 0) (by kernel_rfl) (by kernel_rfl))
          ·
            show (_ : Exit → St → Prop) (.ret) ⟨[(4, .c (.t (.v (.slice none 0 0)))), (5, .c (.t (.v (.int .i64 1))))], [], 0⟩
            refine AW.inBlock_ret ?_
            refine AW.thenQ_ret ?_
            obtain rfl := some_inj h
            exact ⟨_, conv_tm (tm' := [(4, .c (.t (.tree (([] : List Int).length) 1 (Ru32 ([] : List Int))))), (5, .c (.t (.v (.int .i64 1))))]) ⟨⟨.c (.t (.v (.slice none 0 0))), by kernel_rfl, ALe.c (CLe.nil rfl)⟩, ⟨.c (.t (.v (.int .i64 1))), by kernel_rfl, ALe.refl _ _⟩, trivial⟩, .inr rfl, OutOk.mk [] 0 (out0 := .tup [.c (.t (.tree (([] : List Int).length) 1 (Ru32 ([] : List Int)))), .c (.t (.v (.int .i64 1)))]) (ps := [True, True]) (by kernel_rfl) ⟨trivial, trivial, trivial⟩ (by kernel_rfl) (by kernel_rfl)⟩
    ·
      by_cases c17 : (decide (p1 < 0)) = true
      · rw [if_pos c17] at h
        refine AW.reg tt_ok3 [0, 1, 16] [] [{}, { h := { b := some true } }] ⟨[(16, .c (.t (.v (.bool true)))), (0, .c (.t (.tree p0.length 1 (Ru32 p0)))), (1, .c (.t (.v (.int .i64 p1))))], [], 10⟩ [True, (decide (p1 < 0)) = true, True, True, True, True] (by kernel_rfl) (by kernel_rfl) ⟨trivial, c17, trivial, trivial, trivial, trivial, trivial⟩ ?_
        exact joinQ_leaf (true) h (conv_ren [] [0, 1, 16] (n := 0) (by kernel_rfl) (by kernel_rfl))
      · rw [if_neg c17] at h
        refine AW.reg tt_ok3 [0, 1, 16] [] [{}, { h := { b := some false } }] ⟨[(16, .c (.t (.v (.bool (decide (p1 > 4096)))))), (0, .c (.t (.tree p0.length 1 (Ru32 p0)))), (1, .c (.t (.v (.int .i64 p1))))], [], 10⟩ [True, (decide (p1 < 0)) = false, True, True, True, True] (by kernel_rfl) (by kernel_rfl) ⟨trivial, (off_false c17), trivial, trivial, trivial, trivial, trivial⟩ ?_
        exact joinQ_leaf (decide (p1 > 4096)) h (conv_ren [] [0, 1, 16] (n := 0) (by kernel_rfl) (by kernel_rfl))
end Go.Proofs.Yteaijglfenedoaa
