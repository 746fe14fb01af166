/- Printed by a program of mine (vmgen.py): Go functions, and what they come to. -/
import Derived.Test.YteaijglfenedoaaVp
import Derived.Test.YteaijglfenedoaaRows
import Derived.Test.YteaijglfenedoaaG2
namespace Go.Proofs.Yteaijglfenedoaa
open Vm
set_option linter.unusedVariables false
set_option linter.unusedSimpArgs false
set_option linter.constructorNameAsVariable false
def ttlL6 : List (Nat × TI) := [(3, ⟨.int .i64, 1, 8, [.int .i64 0]⟩), (4, ⟨.bool, 1, 1, [.bool false]⟩), (5, ⟨.int .u8, 1, 1, [.int .u8 0]⟩), (9, ⟨.str, 1, 16, [.string ⟨#[]⟩]⟩), (22, ⟨.slice 3, 1, 24, [.slice none 0 0]⟩), (25, ⟨.ptr 52, 1, 8, [.pointer none]⟩), (27, ⟨.slice 37, 1, 24, [.slice none 0 0]⟩), (28, ⟨.slice 37, 1, 24, [.slice none 0 0]⟩), (30, ⟨.int .i64, 1, 8, [.int .i64 0]⟩), (37, ⟨.int .u32, 1, 4, [.int .u32 0]⟩), (41, ⟨.int .u64, 1, 8, [.int .u64 0]⟩), (52, ⟨.struct [(22, 0), (3, 1), (41, 2)], 3, 40, [.slice none 0 0, .int .i64 0, .int .u64 0]⟩), (64, ⟨.slice 5, 1, 24, [.slice none 0 0]⟩)]
theorem tt_okL6 : TTok Try.prog (Vm.look ttlL6) := ttok_of ⟨⟨by kernel_rfl, by kernel_rfl⟩, ⟨by kernel_rfl, by kernel_rfl⟩, ⟨by kernel_rfl, by kernel_rfl⟩, ⟨by kernel_rfl, by kernel_rfl⟩, ⟨by kernel_rfl, by kernel_rfl⟩, ⟨by kernel_rfl, by kernel_rfl⟩, ⟨by kernel_rfl, by kernel_rfl⟩, ⟨by kernel_rfl, by kernel_rfl⟩, ⟨by kernel_rfl, by kernel_rfl⟩, ⟨by kernel_rfl, by kernel_rfl⟩, ⟨by kernel_rfl, by kernel_rfl⟩, ⟨by kernel_rfl, by kernel_rfl⟩, ⟨by kernel_rfl, by kernel_rfl⟩, trivial⟩
theorem moL6 : Try.prog.follows .mixedOrders = true := by kernel_rfl
/-! recordlink/recordlinklaw10.NaturalTexts -/
noncomputable def rl_law10_NaturalTexts_k140 (x18 : Int) (y31 : List Int) (x34 : Bool) : Option (((List Int) × Int) ⊕ ((List Int) ⊕ Unit)) := if x34 = true then (some (.inr (.inr ()))) else (some (.inl (y31, IntKind.i64.wrap (x18 + 1))))
noncomputable def rl_law10_NaturalTexts_k136 (y10 : ByteArray) (x17 : List Int) (x18 : Int) (x21 : Bool) : Option (((List Int) × Int) ⊕ ((List Int) ⊕ Unit)) := if x21 = true then (some (.inr (.inr ()))) else (bind2 (natural_Mul x17 ([10] : List Int)) fun y23 y24 => (if 0 ≤ x18 then (if x18 < ((y10.size : Nat) : Int) then (bind2 (natural_FromInt (IntKind.i64.wrap (IntKind.u8.wrap (((y10.data.toList.getD x18.toNat 0).toNat : Int) - 48)))) fun y28 y29 => (bind2 (natural_Add y23 y28) fun y31 y32 => (if (y24 != 0) = true then (rl_law10_NaturalTexts_k140 x18 y31 true) else (if (y29 != 0) = true then (rl_law10_NaturalTexts_k140 x18 y31 true) else (rl_law10_NaturalTexts_k140 x18 y31 (y32 != 0)))))) else none) else none))
noncomputable def rl_law10_NaturalTexts_l124 (y10 : ByteArray) (x17 : List Int) (x18 : Int) : Option (((List Int) × Int) ⊕ ((List Int) ⊕ Unit)) := if (decide (x18 < ((y10.size : Nat) : Int))) = true then (if 0 ≤ x18 then (if x18 < ((y10.size : Nat) : Int) then (if (decide (((y10.data.toList.getD x18.toNat 0).toNat : Int) < 48)) = true then (rl_law10_NaturalTexts_k136 y10 x17 x18 true) else (rl_law10_NaturalTexts_k136 y10 x17 x18 (decide (((y10.data.toList.getD x18.toNat 0).toNat : Int) > 57)))) else none) else none) else (some (.inr (.inl x17)))
noncomputable def rl_law10_NaturalTexts_a141 (y7 : List Int) (x41 : List Int) : Option Bool := (rl_ref10_Same x41 y7).bind fun y42 => (some y42)
noncomputable def rl_law10_NaturalTexts_a142 : Option Bool := some false
noncomputable def rl_law10_NaturalTexts_k8 (y7 : List Int) (y10 : ByteArray) (x13 : Bool) : Option Bool := if x13 = true then (some false) else (bindE (loop (fun v : (List Int) × Int => rl_law10_NaturalTexts_l124 y10 v.1 v.2) ([], 0)) (fun t => rl_law10_NaturalTexts_a141 y7 t) (fun t => rl_law10_NaturalTexts_a142))
noncomputable def rl_law10_NaturalTexts_k4 (p0 : List Int) (x1 : Bool) : Option Bool := if x1 = true then ((rl_law10_awake).bind fun y3 => (some y3)) else ((rl_make_New p0).bind fun y5 => (bind2 (rl_make_Deck_Natural y5 8) fun y7 y8 => (bind2 (natural_Text y7) fun y10 y11 => (if (y11 != 0) = true then (rl_law10_NaturalTexts_k8 y7 y10 true) else (if (y10.toList == (ByteArray.mk #[]).toList) = true then (rl_law10_NaturalTexts_k8 y7 y10 true) else (if (decide (((y10.size : Nat) : Int) > 1)) = true then (if (0 : Int) < ((y10.size : Nat) : Int) then (if (((y10.data.toList.getD 0 0).toNat : Int) == 48) = true then (rl_law10_NaturalTexts_k8 y7 y10 true) else (rl_law10_NaturalTexts_k8 y7 y10 (decide (((y10.size : Nat) : Int) > 100)))) else none) else (rl_law10_NaturalTexts_k8 y7 y10 (decide (((y10.size : Nat) : Int) > 100)))))))))
noncomputable def rl_law10_NaturalTexts (p0 : List Int) : Option Bool := (rl_law10_awake).bind fun y50 => (if (!y50) = true then (rl_law10_NaturalTexts_k4 p0 true) else ((rl_make_Few p0).bind fun y53 => (rl_law10_NaturalTexts_k4 p0 (!y53))))
set_option maxRecDepth 100000 in
set_option maxHeartbeats 10000000 in
theorem rl_law10_NaturalTexts_con (p0 : List Int) (r0 : Bool) (h : rl_law10_NaturalTexts p0 = some r0) : Con Try.prog 6 [vl 1 Ri64 p0] [] (vb r0) [] := by
 revert h; generalize r0 = r; intro h
 refine con_of tt_okL6 0 Try.func6 (by kernel_rfl) rfl (by kernel_rfl) (fun base X hk => AW.post ?_)
 unfold rl_law10_NaturalTexts at h
 refine AW.seq ?_
 refine AW.reg tt_okL6 [0] [] [] ⟨[(0, vl 1 Ri64 p0)], [], 1⟩ [True] (by kernel_rfl) (by kernel_rfl) ⟨trivial, trivial⟩ ?_
 refine AW.thenQ_normal ?_
 refine AW.seq ?_
 refine AW.seq ?_
 refine AW.join (ι := Bool) (fun v => ⟨[(0, vl 1 Ri64 p0), (21, vb v)], [], 0⟩) (fun v : Bool => rl_law10_NaturalTexts_k4 p0 v = some r) (fun v h => ?_) ?_
 ·
  obtain ⟨x1, rfl⟩ : ∃ x, x = v := ⟨_, rfl⟩
  replace h : rl_law10_NaturalTexts_k4 p0 x1 = some r := h
  unfold rl_law10_NaturalTexts_k4 at h
  show (_ : Exit → St → Prop) .normal ⟨[(0, vl 1 Ri64 p0), (21, vb x1)], [], 0⟩
  refine AW.thenQ_normal ?_
  refine AW.cond (b := x1) (by kernel_rfl) (fun c2 => ?_) (fun c2 => ?_)
  ·rw [if_pos c2] at h
   refine AW.seq ?_
   obtain ⟨y3, e4, h⟩ := bnd_some h
   refine AW.reg tt_okL6 [2] [] [{ call := some { ids := [], frz := [], flat := true, cnt := 0, args := [], out := vb y3, outb := [] } }] ⟨[(2, vb y3)], [], 1⟩ [(True) ∧ (All2 ArgLe [] []) ∧ ((true = true → flatB [])) ∧ (Con Try.prog 10 [] [] (vb y3) []), True] (by kernel_rfl) (by kernel_rfl) ⟨⟨trivial, trivial, (fun _ => trivial), (rl_law10_awake_con y3 e4)⟩, trivial, trivial⟩ ?_
   refine AW.thenQ_normal ?_
   refine AW.ret ?_
   refine AW.thenQ_ret ?_
   obtain rfl := some_inj h
   exact ⟨_, Conv.refl _ _, .inr rfl, OutOk.mk [] 0 (out0 := vb y3) (ps := [True]) (by kernel_rfl) ⟨trivial, trivial⟩ (by kernel_rfl) (by kernel_rfl)⟩
  ·rw [if_neg (by rw [c2]; exact Bool.false_ne_true)] at h
   refine AW.skip ?_
   refine AW.thenQ_normal ?_
   refine AW.seq ?_
   obtain ⟨y5, e6, h⟩ := bnd_some h
   refine AW.reg tt_okL6 [3] [1] [{}, { call := some { ids := [], frz := [], flat := false, cnt := 1, args := [vl 1 Ri64 p0], out := .c (.ptr 0 3 0 0), outb := [(0, .box 52 [cl 1 Ri64 y5.list, ci64 y5.at_, cu64 y5.state])] } }] ⟨[(3, .c (.ptr 1 3 0 0))], [(1, .box 52 [cl 1 Ri64 y5.list, ci64 y5.at_, cu64 y5.state])], 3⟩ [True, ((True) ∧ (True)) ∧ (All2 ArgLe [vl 1 Ri64 p0] [vl 1 Ri64 p0]) ∧ ((false = true → flatB [(0, .box 52 [cl 1 Ri64 y5.list, ci64 y5.at_, cu64 y5.state])])) ∧ (Con Try.prog 12 [vl 1 Ri64 p0] [] (.c (.ptr 0 3 0 0)) [(0, .box 52 [cl 1 Ri64 y5.list, ci64 y5.at_, cu64 y5.state])]), True] (by kernel_rfl) (by kernel_rfl) ⟨trivial, ⟨⟨trivial, trivial⟩, ⟨ArgLe.refl _, trivial⟩, (fun h => by cases h), (rl_make_New_con p0 y5 e6)⟩, trivial, trivial⟩ ?_
   refine AW.thenQ_normal ?_
   refine AW.seq ?_
   obtain ⟨y7, y8, e9, h⟩ := bind2_some h
   refine AW.reg tt_okL6 [4] [4] [{}, { call := some { ids := [1], frz := [], flat := false, cnt := 1, args := [.c (.ptr 0 3 0 0), vi64 8], out := .c (.ref 1 1 0 y7.length), outb := [(0, .box 52 [cl 1 Ri64 y8.list, ci64 y8.at_, cu64 y8.state]), (1, .row 37 false 1 y7.length (Ru32 y7))] } }] ⟨[(4, .c (.ref 4 1 0 y7.length))], [(4, .row 37 false 1 y7.length (Ru32 y7))], 6⟩ [True, ((True) ∧ (True) ∧ (True)) ∧ (All2 ArgLe [.c (.ptr 0 3 0 0), vi64 8] [.c (.ptr 0 3 0 0), vi64 8]) ∧ ((false = true → flatB [(0, .box 52 [cl 1 Ri64 y8.list, ci64 y8.at_, cu64 y8.state]), (1, .row 37 false 1 y7.length (Ru32 y7))])) ∧ (Con Try.prog 13 [.c (.ptr 0 3 0 0), vi64 8] [(0, .box 52 [cl 1 Ri64 y5.list, ci64 y5.at_, cu64 y5.state])] (.c (.ref 1 1 0 y7.length)) [(0, .box 52 [cl 1 Ri64 y8.list, ci64 y8.at_, cu64 y8.state]), (1, .row 37 false 1 y7.length (Ru32 y7))]), True] (by kernel_rfl) (by kernel_rfl) ⟨trivial, ⟨⟨trivial, trivial, trivial⟩, ⟨ArgLe.refl _, ArgLe.refl _, trivial⟩, (fun h => by cases h), (rl_make_Deck_Natural_con y5 8 y7 y8 e9)⟩, trivial, trivial⟩ ?_
   refine AW.thenQ_normal ?_
   refine AW.seq ?_
   obtain ⟨y10, y11, e12, h⟩ := bind2_some h
   refine AW.reg tt_okL6 [4, 5, 6] [4] [{}, { call := some { ids := [], frz := [], flat := true, cnt := 0, args := [vl 1 Ru32 y7], out := .tup [vs y10, vi64 y11], outb := [] } }] ⟨[(6, vi64 y11), (5, vs y10), (4, .c (.ref 4 1 0 y7.length))], [(4, .row 37 false 1 y7.length (Ru32 y7))], 12⟩ [True, ((0 + y7.length ≤ y7.length) ∧ (True)) ∧ (All2 ArgLe [vl 1 Ru32 y7] [vl 1 Ru32 y7]) ∧ ((true = true → flatB [])) ∧ (Con Try.prog 23 [vl 1 Ru32 y7] [] (.tup [vs y10, vi64 y11]) []), True, True, True, True, True] (by kernel_rfl) (by kernel_rfl) ⟨trivial, ⟨⟨le0, trivial⟩, ⟨ArgLe.refl _, trivial⟩, (fun _ => trivial), (natural_Text_con y7 y10 y11 e12)⟩, trivial, trivial, trivial, trivial, trivial, trivial⟩ ?_
   refine AW.thenQ_normal ?_
   refine AW.seq ?_
   refine AW.seq ?_
   refine AW.join (ι := Bool) (fun v => ⟨[(4, .c (.ref 0 1 0 y7.length)), (5, vs y10), (52, vb v)], [(0, .row 37 false 1 y7.length (Ru32 y7))], 1⟩) (fun v : Bool => rl_law10_NaturalTexts_k8 y7 y10 v = some r) (fun v h => ?_) ?_
   ·
    obtain ⟨x13, rfl⟩ : ∃ x, x = v := ⟨_, rfl⟩
    replace h : rl_law10_NaturalTexts_k8 y7 y10 x13 = some r := h
    unfold rl_law10_NaturalTexts_k8 at h
    show (_ : Exit → St → Prop) .normal ⟨[(4, .c (.ref 0 1 0 y7.length)), (5, vs y10), (52, vb x13)], [(0, .row 37 false 1 y7.length (Ru32 y7))], 1⟩
    refine AW.thenQ_normal ?_
    refine AW.cond (b := x13) (by kernel_rfl) (fun c14 => ?_) (fun c14 => ?_)
    ·rw [if_pos c14] at h
     refine AW.seq ?_
     refine AW.reg tt_okL6 [2] [] [] ⟨[(2, vb false)], [], 2⟩ [True] (by kernel_rfl) (by kernel_rfl) ⟨trivial, trivial⟩ ?_
     refine AW.thenQ_normal ?_
     refine AW.ret ?_
     refine AW.thenQ_ret ?_
     obtain rfl := some_inj h
     exact ⟨_, Conv.refl _ _, .inr rfl, OutOk.mk [] 0 (out0 := vb false) (ps := [True]) (by kernel_rfl) ⟨trivial, trivial⟩ (by kernel_rfl) (by kernel_rfl)⟩
    ·rw [if_neg (by rw [c14]; exact Bool.false_ne_true)] at h
     refine AW.skip ?_
     refine AW.thenQ_normal ?_
     refine AW.seq ?_
     refine AW.reg tt_okL6 [4, 5, 7] [0] [] ⟨[(7, .c (.t (.v (.slice none 0 0)))), (4, .c (.ref 0 1 0 y7.length)), (5, vs y10)], [(0, .row 37 false 1 y7.length (Ru32 y7))], 2⟩ [True] (by kernel_rfl) (by kernel_rfl) ⟨trivial, trivial⟩ ?_
     refine AW.thenQ_normal ?_
     refine AW.seq ?_
     refine AW.seq ?_
     refine AW.reg tt_okL6 [4, 5, 7, 8] [0] [] ⟨[(8, vi64 0), (7, .c (.t (.v (.slice none 0 0)))), (4, .c (.ref 0 1 0 y7.length)), (5, vs y10)], [(0, .row 37 false 1 y7.length (Ru32 y7))], 3⟩ [True] (by kernel_rfl) (by kernel_rfl) ⟨trivial, trivial⟩ ?_
     refine AW.thenQ_normal ?_
     refine AW.block ?_
     rcases bindE_some h with ⟨t, l44, h⟩ | ⟨t, l44, h⟩
     ·
      obtain ⟨x41, rfl⟩ : ∃ x, x = t := ⟨_, rfl⟩
      replace h : rl_law10_NaturalTexts_a141 y7 x41 = some r := h
      unfold rl_law10_NaturalTexts_a141 at h
      refine AW.pre (S' := ((fun v => ⟨[(4, .c (.ref 0 1 0 y7.length)), (5, vs y10), (7, vl 1 Ru32 v.1), (8, vi64 v.2)], [(0, .row 37 false 1 y7.length (Ru32 y7))], 1⟩) : ((List Int) × Int) → St) ([], 0)) (Conv.trans (conv_tm (tm' := [(4, .c (.ref 0 1 0 y7.length)), (5, vs y10), (7, vl 1 Ru32 ([] : List Int)), (8, vi64 0)]) ⟨⟨.c (.ref 0 1 0 y7.length), by kernel_rfl, ALe.refl _ _⟩, ⟨vs y10, by kernel_rfl, ALe.refl _ _⟩, ⟨.c (.t (.v (.slice none 0 0))), by kernel_rfl, ALe.c (CLe.nil rfl)⟩, ⟨vi64 0, by kernel_rfl, ALe.refl _ _⟩, trivial⟩) (conv_ren [(0, 0)] [4, 5, 7, 8] (n := 1) (by kernel_rfl) (by kernel_rfl))) ?_
      refine AW.loop2 (step := (fun v : (List Int) × Int => rl_law10_NaturalTexts_l124 y10 v.1 v.2)) (s0 := ([], 0)) (t := .inl x41) (fun v => ⟨[(4, .c (.ref 0 1 0 y7.length)), (5, vs y10), (7, vl 1 Ru32 v.1), (8, vi64 v.2)], [(0, .row 37 false 1 y7.length (Ru32 y7))], 1⟩) (fun t : ((List Int) ⊕ Unit) => match t with | .inl t => (.exit 0, ⟨[(4, .c (.ref 0 1 0 y7.length)), (7, vl 1 Ru32 t)], [(0, .row 37 false 1 y7.length (Ru32 y7))], 1⟩) | .inr t => (.ret, ⟨[(2, vb false)], [], 0⟩)) l44 (fun t => by cases t <;> trivial) ?_ ?_
      ·
       clear l44 h
       intro v o h
       obtain ⟨x17, x18⟩ := v
       replace h : rl_law10_NaturalTexts_l124 y10 x17 x18 = some o := h
       unfold rl_law10_NaturalTexts_l124 at h
       show AW _ ⟨[(4, .c (.ref 0 1 0 y7.length)), (5, vs y10), (7, vl 1 Ru32 x17), (8, vi64 x18)], [(0, .row 37 false 1 y7.length (Ru32 y7))], 1⟩ _ _
       refine AW.seq ?_
       refine AW.seq ?_
       refine AW.reg tt_okL6 [4, 5, 7, 8, 56] [0] [] ⟨[(56, vb (decide (x18 < ((y10.size : Nat) : Int)))), (4, .c (.ref 0 1 0 y7.length)), (5, vs y10), (7, vl 1 Ru32 x17), (8, vi64 x18)], [(0, .row 37 false 1 y7.length (Ru32 y7))], 5⟩ [True, True, True, True] (by kernel_rfl) (by kernel_rfl) ⟨trivial, trivial, trivial, trivial, trivial⟩ ?_
       refine AW.thenQ_normal ?_
       refine AW.cond (b := decide (x18 < ((y10.size : Nat) : Int))) (by kernel_rfl) (fun c20 => ?_) (fun c20 => ?_)
       ·rw [if_pos c20] at h
        refine AW.skip ?_
        refine AW.thenQ_normal ?_
        refine AW.seq ?_
        refine AW.block ?_
        refine AW.seq ?_
        refine AW.seq ?_
        refine AW.join (ι := Bool) (fun v => ⟨[(4, .c (.ref 0 1 0 y7.length)), (5, vs y10), (7, vl 1 Ru32 x17), (8, vi64 x18), (68, vb v)], [(0, .row 37 false 1 y7.length (Ru32 y7))], 1⟩) (fun v : Bool => rl_law10_NaturalTexts_k136 y10 x17 x18 v = some o) (fun v h => ?_) ?_
        ·
         obtain ⟨x21, rfl⟩ : ∃ x, x = v := ⟨_, rfl⟩
         replace h : rl_law10_NaturalTexts_k136 y10 x17 x18 x21 = some o := h
         unfold rl_law10_NaturalTexts_k136 at h
         show (_ : Exit → St → Prop) .normal ⟨[(4, .c (.ref 0 1 0 y7.length)), (5, vs y10), (7, vl 1 Ru32 x17), (8, vi64 x18), (68, vb x21)], [(0, .row 37 false 1 y7.length (Ru32 y7))], 1⟩
         refine AW.thenQ_normal ?_
         refine AW.cond (b := x21) (by kernel_rfl) (fun c22 => ?_) (fun c22 => ?_)
         ·rw [if_pos c22] at h
          refine AW.seq ?_
          refine AW.reg tt_okL6 [2] [] [] ⟨[(2, vb false)], [], 2⟩ [True] (by kernel_rfl) (by kernel_rfl) ⟨trivial, trivial⟩ ?_
          refine AW.thenQ_normal ?_
          refine AW.ret ?_
          refine AW.thenQ_ret ?_
          refine AW.inBlock_ret ?_
          refine AW.thenQ_ret ?_
          obtain rfl := some_inj h
          refine loopQ_out rfl (conv_ren [] [2] (n := 0) (by kernel_rfl) (by kernel_rfl))
         ·rw [if_neg (by rw [c22]; exact Bool.false_ne_true)] at h
          refine AW.skip ?_
          refine AW.thenQ_normal ?_
          refine AW.seq ?_
          obtain ⟨y23, y24, e25, h⟩ := bind2_some h
          refine AW.reg tt_okL6 [4, 5, 8, 9, 10] [0] [{}, { h := { row := some (([10] : List Int).length, Ru32 ([10] : List Int)) } }, { call := some { ids := [], frz := [2], flat := false, cnt := 0, args := [vl 1 Ru32 x17, vl 1 Ru32 ([10] : List Int)], out := .tup [vl 1 Ru32 y23, vi64 y24], outb := [] } }] ⟨[(10, vi64 y24), (9, vl 1 Ru32 y23), (4, .c (.ref 0 1 0 y7.length)), (5, vs y10), (8, vi64 x18)], [(0, .row 37 false 1 y7.length (Ru32 y7))], 8⟩ [True, 1 = ([10] : List Int).length ∧ ∀ i, i < ([10] : List Int).length → ∀ j, j < 1 → TLe ((rowOf [.v (.int .u32 10)] 1) i j) (Ru32 ([10] : List Int) i j), ((True) ∧ (0 + ([10] : List Int).length ≤ ([10] : List Int).length) ∧ (True)) ∧ (All2 ArgLe [vl 1 Ru32 x17, vl 1 Ru32 ([10] : List Int)] [vl 1 Ru32 x17, vl 1 Ru32 ([10] : List Int)]) ∧ ((false = true → flatB [])) ∧ (Con Try.prog 15 [vl 1 Ru32 x17, vl 1 Ru32 ([10] : List Int)] [] (.tup [vl 1 Ru32 y23, vi64 y24]) []), True, True, True, True, True] (by kernel_rfl) (by kernel_rfl) ⟨trivial, ⟨rfl, lit_row (n := 1) (sz := 1) ⟨trivial, ⟨trivial, TLe.refl _⟩⟩⟩, ⟨⟨trivial, le0, trivial⟩, ⟨ArgLe.refl _, ArgLe.refl _, trivial⟩, (fun h => by cases h), (natural_Mul_con x17 ([10] : List Int) y23 y24 e25)⟩, trivial, trivial, trivial, trivial, trivial, trivial⟩ ?_
          refine AW.thenQ_normal ?_
          refine AW.seq ?_
          obtain ⟨g26, h⟩ := ifc h
          obtain ⟨g27, h⟩ := ifc h
          obtain ⟨y28, y29, e30, h⟩ := bind2_some h
          refine AW.reg tt_okL6 [4, 5, 8, 9, 10, 11, 12] [0] [{}, {}, {}, {}, {}, { call := some { ids := [], frz := [], flat := false, cnt := 0, args := [vi64 (IntKind.i64.wrap (IntKind.u8.wrap (((y10.data.toList.getD x18.toNat 0).toNat : Int) - 48)))], out := .tup [vl 1 Ru32 y28, vi64 y29], outb := [] } }] ⟨[(12, vi64 y29), (11, vl 1 Ru32 y28), (10, vi64 y24), (9, vl 1 Ru32 y23), (4, .c (.ref 0 1 0 y7.length)), (5, vs y10), (8, vi64 x18)], [(0, .row 37 false 1 y7.length (Ru32 y7))], 18⟩ [True, True, (0 ≤ x18) ∧ (x18 < ((y10.size : Nat) : Int)), True, True, ((True) ∧ (True)) ∧ (All2 ArgLe [vi64 (IntKind.i64.wrap (IntKind.u8.wrap (((y10.data.toList.getD x18.toNat 0).toNat : Int) - 48)))] [vi64 (IntKind.i64.wrap (IntKind.u8.wrap (((y10.data.toList.getD x18.toNat 0).toNat : Int) - 48)))]) ∧ ((false = true → flatB [])) ∧ (Con Try.prog 20 [vi64 (IntKind.i64.wrap (IntKind.u8.wrap (((y10.data.toList.getD x18.toNat 0).toNat : Int) - 48)))] [] (.tup [vl 1 Ru32 y28, vi64 y29]) []), True, True, True, True, True] (by kernel_rfl) (by kernel_rfl) ⟨trivial, trivial, ⟨g26, g27⟩, trivial, trivial, ⟨⟨trivial, trivial⟩, ⟨ArgLe.refl _, trivial⟩, (fun h => by cases h), (natural_FromInt_con (IntKind.i64.wrap (IntKind.u8.wrap (((y10.data.toList.getD x18.toNat 0).toNat : Int) - 48))) y28 y29 e30)⟩, trivial, trivial, trivial, trivial, trivial, trivial⟩ ?_
          refine AW.thenQ_normal ?_
          refine AW.seq ?_
          obtain ⟨y31, y32, e33, h⟩ := bind2_some h
          refine AW.reg tt_okL6 [4, 5, 8, 10, 12, 13, 14] [0] [{}, {}, { call := some { ids := [], frz := [], flat := false, cnt := 0, args := [vl 1 Ru32 y23, vl 1 Ru32 y28], out := .tup [vl 1 Ru32 y31, vi64 y32], outb := [] } }] ⟨[(14, vi64 y32), (13, vl 1 Ru32 y31), (12, vi64 y29), (10, vi64 y24), (4, .c (.ref 0 1 0 y7.length)), (5, vs y10), (8, vi64 x18)], [(0, .row 37 false 1 y7.length (Ru32 y7))], 25⟩ [True, True, ((True) ∧ (True) ∧ (True)) ∧ (All2 ArgLe [vl 1 Ru32 y23, vl 1 Ru32 y28] [vl 1 Ru32 y23, vl 1 Ru32 y28]) ∧ ((false = true → flatB [])) ∧ (Con Try.prog 14 [vl 1 Ru32 y23, vl 1 Ru32 y28] [] (.tup [vl 1 Ru32 y31, vi64 y32]) []), True, True, True, True, True] (by kernel_rfl) (by kernel_rfl) ⟨trivial, trivial, ⟨⟨trivial, trivial, trivial⟩, ⟨ArgLe.refl _, ArgLe.refl _, trivial⟩, (fun h => by cases h), (natural_Add_con y23 y28 y31 y32 e33)⟩, trivial, trivial, trivial, trivial, trivial, trivial⟩ ?_
          refine AW.thenQ_normal ?_
          refine AW.seq ?_
          refine AW.seq ?_
          refine AW.join (ι := Bool) (fun v => ⟨[(4, .c (.ref 0 1 0 y7.length)), (5, vs y10), (8, vi64 x18), (13, vl 1 Ru32 y31), (99, vb v)], [(0, .row 37 false 1 y7.length (Ru32 y7))], 1⟩) (fun v : Bool => rl_law10_NaturalTexts_k140 x18 y31 v = some o) (fun v h => ?_) ?_
          ·
           obtain ⟨x34, rfl⟩ : ∃ x, x = v := ⟨_, rfl⟩
           replace h : rl_law10_NaturalTexts_k140 x18 y31 x34 = some o := h
           unfold rl_law10_NaturalTexts_k140 at h
           show (_ : Exit → St → Prop) .normal ⟨[(4, .c (.ref 0 1 0 y7.length)), (5, vs y10), (8, vi64 x18), (13, vl 1 Ru32 y31), (99, vb x34)], [(0, .row 37 false 1 y7.length (Ru32 y7))], 1⟩
           refine AW.thenQ_normal ?_
           refine AW.cond (b := x34) (by kernel_rfl) (fun c35 => ?_) (fun c35 => ?_)
           ·rw [if_pos c35] at h
            refine AW.seq ?_
            refine AW.reg tt_okL6 [2] [] [] ⟨[(2, vb false)], [], 2⟩ [True] (by kernel_rfl) (by kernel_rfl) ⟨trivial, trivial⟩ ?_
            refine AW.thenQ_normal ?_
            refine AW.ret ?_
            refine AW.thenQ_ret ?_
            refine AW.inBlock_ret ?_
            refine AW.thenQ_ret ?_
            obtain rfl := some_inj h
            refine loopQ_out rfl (conv_ren [] [2] (n := 0) (by kernel_rfl) (by kernel_rfl))
           ·rw [if_neg (by rw [c35]; exact Bool.false_ne_true)] at h
            refine AW.skip ?_
            refine AW.thenQ_normal ?_
            refine AW.reg tt_okL6 [4, 5, 7, 8] [0] [] ⟨[(7, vl 1 Ru32 y31), (4, .c (.ref 0 1 0 y7.length)), (5, vs y10), (8, vi64 x18)], [(0, .row 37 false 1 y7.length (Ru32 y7))], 3⟩ [True, True] (by kernel_rfl) (by kernel_rfl) ⟨trivial, trivial, trivial⟩ ?_
            refine AW.inBlock_normal ?_
            refine AW.thenQ_normal ?_
            refine AW.reg tt_okL6 [4, 5, 7, 8] [0] [] ⟨[(8, vi64 (IntKind.i64.wrap (x18 + 1))), (7, vl 1 Ru32 y31), (4, .c (.ref 0 1 0 y7.length)), (5, vs y10)], [(0, .row 37 false 1 y7.length (Ru32 y7))], 6⟩ [True, True, True] (by kernel_rfl) (by kernel_rfl) ⟨trivial, trivial, trivial, trivial⟩ ?_
            obtain rfl := some_inj h
            refine loopQ_next (conv_ren [(0, 0)] [4, 5, 7, 8] (n := 1) (by kernel_rfl) (by kernel_rfl))
          ·
           by_cases c36 : (y24 != 0) = true
           ·rw [if_pos c36] at h
            refine AW.reg tt_okL6 [4, 5, 8, 13, 93, 94, 97, 98, 99] [0] [{}, { h := { b := some true } }] ⟨[(99, vb true), (98, .tup []), (97, .tup []), (94, .tup []), (93, .tup []), (13, vl 1 Ru32 y31), (4, .c (.ref 0 1 0 y7.length)), (5, vs y10), (8, vi64 x18)], [(0, .row 37 false 1 y7.length (Ru32 y7))], 35⟩ [True, (y24 != 0) = true, True, True, True, True, True, True, True, True] (by kernel_rfl) (by kernel_rfl) ⟨trivial, c36, trivial, trivial, trivial, trivial, trivial, trivial, trivial, trivial, trivial⟩ ?_
            exact joinQ_leaf (true) h (conv_ren [(0, 0)] [4, 5, 8, 13, 99] (n := 1) (by kernel_rfl) (by kernel_rfl))
           ·rw [if_neg c36] at h
            by_cases c37 : (y29 != 0) = true
            ·rw [if_pos c37] at h
             refine AW.reg tt_okL6 [4, 5, 8, 13, 93, 94, 97, 98, 99] [0] [{}, { h := { b := some false } }, {}, {}, { h := { b := some true } }] ⟨[(99, vb true), (98, .tup []), (97, .tup []), (94, vb true), (93, vi64 y29), (13, vl 1 Ru32 y31), (4, .c (.ref 0 1 0 y7.length)), (5, vs y10), (8, vi64 x18)], [(0, .row 37 false 1 y7.length (Ru32 y7))], 35⟩ [True, (y24 != 0) = false, True, True, (y29 != 0) = true, True, True, True, True, True] (by kernel_rfl) (by kernel_rfl) ⟨trivial, (off_false c36), trivial, trivial, c37, trivial, trivial, trivial, trivial, trivial, trivial⟩ ?_
             exact joinQ_leaf (true) h (conv_ren [(0, 0)] [4, 5, 8, 13, 99] (n := 1) (by kernel_rfl) (by kernel_rfl))
            ·rw [if_neg c37] at h
             refine AW.reg tt_okL6 [4, 5, 8, 13, 93, 94, 97, 98, 99] [0] [{}, { h := { b := some false } }, {}, {}, { h := { b := some false } }] ⟨[(99, vb (y32 != 0)), (98, vb (y32 != 0)), (97, vi64 y32), (94, vb false), (93, vi64 y29), (13, vl 1 Ru32 y31), (4, .c (.ref 0 1 0 y7.length)), (5, vs y10), (8, vi64 x18)], [(0, .row 37 false 1 y7.length (Ru32 y7))], 35⟩ [True, (y24 != 0) = false, True, True, (y29 != 0) = false, True, True, True, True, True] (by kernel_rfl) (by kernel_rfl) ⟨trivial, (off_false c36), trivial, trivial, (off_false c37), trivial, trivial, trivial, trivial, trivial, trivial⟩ ?_
             exact joinQ_leaf ((y32 != 0)) h (conv_ren [(0, 0)] [4, 5, 8, 13, 99] (n := 1) (by kernel_rfl) (by kernel_rfl))
        ·
         obtain ⟨g38, h⟩ := ifc h
         obtain ⟨g39, h⟩ := ifc h
         by_cases c40 : (decide (((y10.data.toList.getD x18.toNat 0).toNat : Int) < 48)) = true
         ·rw [if_pos c40] at h
          refine AW.reg tt_okL6 [4, 5, 7, 8, 64, 65, 66, 67, 68] [0] [{}, {}, {}, { h := { b := some true } }] ⟨[(68, vb true), (67, .tup []), (66, .tup []), (65, .tup []), (64, .tup []), (4, .c (.ref 0 1 0 y7.length)), (5, vs y10), (7, vl 1 Ru32 x17), (8, vi64 x18)], [(0, .row 37 false 1 y7.length (Ru32 y7))], 15⟩ [True, True, (0 ≤ x18) ∧ (x18 < ((y10.size : Nat) : Int)), (decide (((y10.data.toList.getD x18.toNat 0).toNat : Int) < 48)) = true, True, True, True, True, True, True] (by kernel_rfl) (by kernel_rfl) ⟨trivial, trivial, ⟨g38, g39⟩, c40, trivial, trivial, trivial, trivial, trivial, trivial, trivial⟩ ?_
          exact joinQ_leaf (true) h (conv_ren [(0, 0)] [4, 5, 7, 8, 68] (n := 1) (by kernel_rfl) (by kernel_rfl))
         ·rw [if_neg c40] at h
          refine AW.reg tt_okL6 [4, 5, 7, 8, 64, 65, 66, 67, 68] [0] [{}, {}, {}, { h := { b := some false } }] ⟨[(68, vb (decide (((y10.data.toList.getD x18.toNat 0).toNat : Int) > 57))), (67, vb (decide (((y10.data.toList.getD x18.toNat 0).toNat : Int) > 57))), (66, vu8 ((y10.data.toList.getD x18.toNat 0).toNat : Int)), (65, vi64 x18), (64, vs y10), (4, .c (.ref 0 1 0 y7.length)), (5, vs y10), (7, vl 1 Ru32 x17), (8, vi64 x18)], [(0, .row 37 false 1 y7.length (Ru32 y7))], 15⟩ [True, True, (0 ≤ x18) ∧ (x18 < ((y10.size : Nat) : Int)), (decide (((y10.data.toList.getD x18.toNat 0).toNat : Int) < 48)) = false, True, True, True, (0 ≤ x18) ∧ (x18 < ((y10.size : Nat) : Int)), True, True] (by kernel_rfl) (by kernel_rfl) ⟨trivial, trivial, ⟨g38, g39⟩, (off_false c40), trivial, trivial, trivial, ⟨g38, g39⟩, trivial, trivial, trivial⟩ ?_
          exact joinQ_leaf (decide (((y10.data.toList.getD x18.toNat 0).toNat : Int) > 57)) h (conv_ren [(0, 0)] [4, 5, 7, 8, 68] (n := 1) (by kernel_rfl) (by kernel_rfl))
       ·rw [if_neg (by rw [c20]; exact Bool.false_ne_true)] at h
        refine AW.exit ?_
        refine AW.thenQ_exit ?_
        obtain rfl := some_inj h
        refine loopQ_out rfl (conv_ren [(0, 0)] [4, 7] (n := 1) (by kernel_rfl) (by kernel_rfl))
      ·
       show (_ : Exit → St → Prop) (.exit 0) ⟨[(4, .c (.ref 0 1 0 y7.length)), (7, vl 1 Ru32 x41)], [(0, .row 37 false 1 y7.length (Ru32 y7))], 1⟩
       refine AW.inBlock_hit ?_
       refine AW.thenQ_normal ?_
       refine AW.seq ?_
       obtain ⟨y42, e43, h⟩ := bnd_some h
       refine AW.reg tt_okL6 [2] [] [{}, {}, { call := some { ids := [], frz := [], flat := true, cnt := 0, args := [vl 1 Ru32 x41, vl 1 Ru32 y7], out := vb y42, outb := [] } }] ⟨[(2, vb y42)], [], 4⟩ [True, True, ((True) ∧ (0 + y7.length ≤ y7.length) ∧ (True)) ∧ (All2 ArgLe [vl 1 Ru32 x41, vl 1 Ru32 y7] [vl 1 Ru32 x41, vl 1 Ru32 y7]) ∧ ((true = true → flatB [])) ∧ (Con Try.prog 16 [vl 1 Ru32 x41, vl 1 Ru32 y7] [] (vb y42) []), True] (by kernel_rfl) (by kernel_rfl) ⟨trivial, trivial, ⟨⟨trivial, le0, trivial⟩, ⟨ArgLe.refl _, ArgLe.refl _, trivial⟩, (fun _ => trivial), (rl_ref10_Same_con x41 y7 y42 e43)⟩, trivial, trivial⟩ ?_
       refine AW.thenQ_normal ?_
       refine AW.ret ?_
       obtain rfl := some_inj h
       exact ⟨_, Conv.refl _ _, .inr rfl, OutOk.mk [] 0 (out0 := vb y42) (ps := [True]) (by kernel_rfl) ⟨trivial, trivial⟩ (by kernel_rfl) (by kernel_rfl)⟩
     ·
      replace h : rl_law10_NaturalTexts_a142 = some r := h
      unfold rl_law10_NaturalTexts_a142 at h
      refine AW.pre (S' := ((fun v => ⟨[(4, .c (.ref 0 1 0 y7.length)), (5, vs y10), (7, vl 1 Ru32 v.1), (8, vi64 v.2)], [(0, .row 37 false 1 y7.length (Ru32 y7))], 1⟩) : ((List Int) × Int) → St) ([], 0)) (Conv.trans (conv_tm (tm' := [(4, .c (.ref 0 1 0 y7.length)), (5, vs y10), (7, vl 1 Ru32 ([] : List Int)), (8, vi64 0)]) ⟨⟨.c (.ref 0 1 0 y7.length), by kernel_rfl, ALe.refl _ _⟩, ⟨vs y10, by kernel_rfl, ALe.refl _ _⟩, ⟨.c (.t (.v (.slice none 0 0))), by kernel_rfl, ALe.c (CLe.nil rfl)⟩, ⟨vi64 0, by kernel_rfl, ALe.refl _ _⟩, trivial⟩) (conv_ren [(0, 0)] [4, 5, 7, 8] (n := 1) (by kernel_rfl) (by kernel_rfl))) ?_
      refine AW.loop2 (step := (fun v : (List Int) × Int => rl_law10_NaturalTexts_l124 y10 v.1 v.2)) (s0 := ([], 0)) (t := .inr ()) (fun v => ⟨[(4, .c (.ref 0 1 0 y7.length)), (5, vs y10), (7, vl 1 Ru32 v.1), (8, vi64 v.2)], [(0, .row 37 false 1 y7.length (Ru32 y7))], 1⟩) (fun t : ((List Int) ⊕ Unit) => match t with | .inl t => (.exit 0, ⟨[(4, .c (.ref 0 1 0 y7.length)), (7, vl 1 Ru32 t)], [(0, .row 37 false 1 y7.length (Ru32 y7))], 1⟩) | .inr t => (.ret, ⟨[(2, vb false)], [], 0⟩)) l44 (fun t => by cases t <;> trivial) ?_ ?_
      ·
       clear l44 h
       intro v o h
       obtain ⟨x17, x18⟩ := v
       replace h : rl_law10_NaturalTexts_l124 y10 x17 x18 = some o := h
       unfold rl_law10_NaturalTexts_l124 at h
       show AW _ ⟨[(4, .c (.ref 0 1 0 y7.length)), (5, vs y10), (7, vl 1 Ru32 x17), (8, vi64 x18)], [(0, .row 37 false 1 y7.length (Ru32 y7))], 1⟩ _ _
       refine AW.seq ?_
       refine AW.seq ?_
       refine AW.reg tt_okL6 [4, 5, 7, 8, 56] [0] [] ⟨[(56, vb (decide (x18 < ((y10.size : Nat) : Int)))), (4, .c (.ref 0 1 0 y7.length)), (5, vs y10), (7, vl 1 Ru32 x17), (8, vi64 x18)], [(0, .row 37 false 1 y7.length (Ru32 y7))], 5⟩ [True, True, True, True] (by kernel_rfl) (by kernel_rfl) ⟨trivial, trivial, trivial, trivial, trivial⟩ ?_
       refine AW.thenQ_normal ?_
       refine AW.cond (b := decide (x18 < ((y10.size : Nat) : Int))) (by kernel_rfl) (fun c20 => ?_) (fun c20 => ?_)
       ·rw [if_pos c20] at h
        refine AW.skip ?_
        refine AW.thenQ_normal ?_
        refine AW.seq ?_
        refine AW.block ?_
        refine AW.seq ?_
        refine AW.seq ?_
        refine AW.join (ι := Bool) (fun v => ⟨[(4, .c (.ref 0 1 0 y7.length)), (5, vs y10), (7, vl 1 Ru32 x17), (8, vi64 x18), (68, vb v)], [(0, .row 37 false 1 y7.length (Ru32 y7))], 1⟩) (fun v : Bool => rl_law10_NaturalTexts_k136 y10 x17 x18 v = some o) (fun v h => ?_) ?_
        ·
         obtain ⟨x21, rfl⟩ : ∃ x, x = v := ⟨_, rfl⟩
         replace h : rl_law10_NaturalTexts_k136 y10 x17 x18 x21 = some o := h
         unfold rl_law10_NaturalTexts_k136 at h
         show (_ : Exit → St → Prop) .normal ⟨[(4, .c (.ref 0 1 0 y7.length)), (5, vs y10), (7, vl 1 Ru32 x17), (8, vi64 x18), (68, vb x21)], [(0, .row 37 false 1 y7.length (Ru32 y7))], 1⟩
         refine AW.thenQ_normal ?_
         refine AW.cond (b := x21) (by kernel_rfl) (fun c22 => ?_) (fun c22 => ?_)
         ·rw [if_pos c22] at h
          refine AW.seq ?_
          refine AW.reg tt_okL6 [2] [] [] ⟨[(2, vb false)], [], 2⟩ [True] (by kernel_rfl) (by kernel_rfl) ⟨trivial, trivial⟩ ?_
          refine AW.thenQ_normal ?_
          refine AW.ret ?_
          refine AW.thenQ_ret ?_
          refine AW.inBlock_ret ?_
          refine AW.thenQ_ret ?_
          obtain rfl := some_inj h
          refine loopQ_out rfl (conv_ren [] [2] (n := 0) (by kernel_rfl) (by kernel_rfl))
         ·rw [if_neg (by rw [c22]; exact Bool.false_ne_true)] at h
          refine AW.skip ?_
          refine AW.thenQ_normal ?_
          refine AW.seq ?_
          obtain ⟨y23, y24, e25, h⟩ := bind2_some h
          refine AW.reg tt_okL6 [4, 5, 8, 9, 10] [0] [{}, { h := { row := some (([10] : List Int).length, Ru32 ([10] : List Int)) } }, { call := some { ids := [], frz := [2], flat := false, cnt := 0, args := [vl 1 Ru32 x17, vl 1 Ru32 ([10] : List Int)], out := .tup [vl 1 Ru32 y23, vi64 y24], outb := [] } }] ⟨[(10, vi64 y24), (9, vl 1 Ru32 y23), (4, .c (.ref 0 1 0 y7.length)), (5, vs y10), (8, vi64 x18)], [(0, .row 37 false 1 y7.length (Ru32 y7))], 8⟩ [True, 1 = ([10] : List Int).length ∧ ∀ i, i < ([10] : List Int).length → ∀ j, j < 1 → TLe ((rowOf [.v (.int .u32 10)] 1) i j) (Ru32 ([10] : List Int) i j), ((True) ∧ (0 + ([10] : List Int).length ≤ ([10] : List Int).length) ∧ (True)) ∧ (All2 ArgLe [vl 1 Ru32 x17, vl 1 Ru32 ([10] : List Int)] [vl 1 Ru32 x17, vl 1 Ru32 ([10] : List Int)]) ∧ ((false = true → flatB [])) ∧ (Con Try.prog 15 [vl 1 Ru32 x17, vl 1 Ru32 ([10] : List Int)] [] (.tup [vl 1 Ru32 y23, vi64 y24]) []), True, True, True, True, True] (by kernel_rfl) (by kernel_rfl) ⟨trivial, ⟨rfl, lit_row (n := 1) (sz := 1) ⟨trivial, ⟨trivial, TLe.refl _⟩⟩⟩, ⟨⟨trivial, le0, trivial⟩, ⟨ArgLe.refl _, ArgLe.refl _, trivial⟩, (fun h => by cases h), (natural_Mul_con x17 ([10] : List Int) y23 y24 e25)⟩, trivial, trivial, trivial, trivial, trivial, trivial⟩ ?_
          refine AW.thenQ_normal ?_
          refine AW.seq ?_
          obtain ⟨g26, h⟩ := ifc h
          obtain ⟨g27, h⟩ := ifc h
          obtain ⟨y28, y29, e30, h⟩ := bind2_some h
          refine AW.reg tt_okL6 [4, 5, 8, 9, 10, 11, 12] [0] [{}, {}, {}, {}, {}, { call := some { ids := [], frz := [], flat := false, cnt := 0, args := [vi64 (IntKind.i64.wrap (IntKind.u8.wrap (((y10.data.toList.getD x18.toNat 0).toNat : Int) - 48)))], out := .tup [vl 1 Ru32 y28, vi64 y29], outb := [] } }] ⟨[(12, vi64 y29), (11, vl 1 Ru32 y28), (10, vi64 y24), (9, vl 1 Ru32 y23), (4, .c (.ref 0 1 0 y7.length)), (5, vs y10), (8, vi64 x18)], [(0, .row 37 false 1 y7.length (Ru32 y7))], 18⟩ [True, True, (0 ≤ x18) ∧ (x18 < ((y10.size : Nat) : Int)), True, True, ((True) ∧ (True)) ∧ (All2 ArgLe [vi64 (IntKind.i64.wrap (IntKind.u8.wrap (((y10.data.toList.getD x18.toNat 0).toNat : Int) - 48)))] [vi64 (IntKind.i64.wrap (IntKind.u8.wrap (((y10.data.toList.getD x18.toNat 0).toNat : Int) - 48)))]) ∧ ((false = true → flatB [])) ∧ (Con Try.prog 20 [vi64 (IntKind.i64.wrap (IntKind.u8.wrap (((y10.data.toList.getD x18.toNat 0).toNat : Int) - 48)))] [] (.tup [vl 1 Ru32 y28, vi64 y29]) []), True, True, True, True, True] (by kernel_rfl) (by kernel_rfl) ⟨trivial, trivial, ⟨g26, g27⟩, trivial, trivial, ⟨⟨trivial, trivial⟩, ⟨ArgLe.refl _, trivial⟩, (fun h => by cases h), (natural_FromInt_con (IntKind.i64.wrap (IntKind.u8.wrap (((y10.data.toList.getD x18.toNat 0).toNat : Int) - 48))) y28 y29 e30)⟩, trivial, trivial, trivial, trivial, trivial, trivial⟩ ?_
          refine AW.thenQ_normal ?_
          refine AW.seq ?_
          obtain ⟨y31, y32, e33, h⟩ := bind2_some h
          refine AW.reg tt_okL6 [4, 5, 8, 10, 12, 13, 14] [0] [{}, {}, { call := some { ids := [], frz := [], flat := false, cnt := 0, args := [vl 1 Ru32 y23, vl 1 Ru32 y28], out := .tup [vl 1 Ru32 y31, vi64 y32], outb := [] } }] ⟨[(14, vi64 y32), (13, vl 1 Ru32 y31), (12, vi64 y29), (10, vi64 y24), (4, .c (.ref 0 1 0 y7.length)), (5, vs y10), (8, vi64 x18)], [(0, .row 37 false 1 y7.length (Ru32 y7))], 25⟩ [True, True, ((True) ∧ (True) ∧ (True)) ∧ (All2 ArgLe [vl 1 Ru32 y23, vl 1 Ru32 y28] [vl 1 Ru32 y23, vl 1 Ru32 y28]) ∧ ((false = true → flatB [])) ∧ (Con Try.prog 14 [vl 1 Ru32 y23, vl 1 Ru32 y28] [] (.tup [vl 1 Ru32 y31, vi64 y32]) []), True, True, True, True, True] (by kernel_rfl) (by kernel_rfl) ⟨trivial, trivial, ⟨⟨trivial, trivial, trivial⟩, ⟨ArgLe.refl _, ArgLe.refl _, trivial⟩, (fun h => by cases h), (natural_Add_con y23 y28 y31 y32 e33)⟩, trivial, trivial, trivial, trivial, trivial, trivial⟩ ?_
          refine AW.thenQ_normal ?_
          refine AW.seq ?_
          refine AW.seq ?_
          refine AW.join (ι := Bool) (fun v => ⟨[(4, .c (.ref 0 1 0 y7.length)), (5, vs y10), (8, vi64 x18), (13, vl 1 Ru32 y31), (99, vb v)], [(0, .row 37 false 1 y7.length (Ru32 y7))], 1⟩) (fun v : Bool => rl_law10_NaturalTexts_k140 x18 y31 v = some o) (fun v h => ?_) ?_
          ·
           obtain ⟨x34, rfl⟩ : ∃ x, x = v := ⟨_, rfl⟩
           replace h : rl_law10_NaturalTexts_k140 x18 y31 x34 = some o := h
           unfold rl_law10_NaturalTexts_k140 at h
           show (_ : Exit → St → Prop) .normal ⟨[(4, .c (.ref 0 1 0 y7.length)), (5, vs y10), (8, vi64 x18), (13, vl 1 Ru32 y31), (99, vb x34)], [(0, .row 37 false 1 y7.length (Ru32 y7))], 1⟩
           refine AW.thenQ_normal ?_
           refine AW.cond (b := x34) (by kernel_rfl) (fun c35 => ?_) (fun c35 => ?_)
           ·rw [if_pos c35] at h
            refine AW.seq ?_
            refine AW.reg tt_okL6 [2] [] [] ⟨[(2, vb false)], [], 2⟩ [True] (by kernel_rfl) (by kernel_rfl) ⟨trivial, trivial⟩ ?_
            refine AW.thenQ_normal ?_
            refine AW.ret ?_
            refine AW.thenQ_ret ?_
            refine AW.inBlock_ret ?_
            refine AW.thenQ_ret ?_
            obtain rfl := some_inj h
            refine loopQ_out rfl (conv_ren [] [2] (n := 0) (by kernel_rfl) (by kernel_rfl))
           ·rw [if_neg (by rw [c35]; exact Bool.false_ne_true)] at h
            refine AW.skip ?_
            refine AW.thenQ_normal ?_
            refine AW.reg tt_okL6 [4, 5, 7, 8] [0] [] ⟨[(7, vl 1 Ru32 y31), (4, .c (.ref 0 1 0 y7.length)), (5, vs y10), (8, vi64 x18)], [(0, .row 37 false 1 y7.length (Ru32 y7))], 3⟩ [True, True] (by kernel_rfl) (by kernel_rfl) ⟨trivial, trivial, trivial⟩ ?_
            refine AW.inBlock_normal ?_
            refine AW.thenQ_normal ?_
            refine AW.reg tt_okL6 [4, 5, 7, 8] [0] [] ⟨[(8, vi64 (IntKind.i64.wrap (x18 + 1))), (7, vl 1 Ru32 y31), (4, .c (.ref 0 1 0 y7.length)), (5, vs y10)], [(0, .row 37 false 1 y7.length (Ru32 y7))], 6⟩ [True, True, True] (by kernel_rfl) (by kernel_rfl) ⟨trivial, trivial, trivial, trivial⟩ ?_
            obtain rfl := some_inj h
            refine loopQ_next (conv_ren [(0, 0)] [4, 5, 7, 8] (n := 1) (by kernel_rfl) (by kernel_rfl))
          ·
           by_cases c36 : (y24 != 0) = true
           ·rw [if_pos c36] at h
            refine AW.reg tt_okL6 [4, 5, 8, 13, 93, 94, 97, 98, 99] [0] [{}, { h := { b := some true } }] ⟨[(99, vb true), (98, .tup []), (97, .tup []), (94, .tup []), (93, .tup []), (13, vl 1 Ru32 y31), (4, .c (.ref 0 1 0 y7.length)), (5, vs y10), (8, vi64 x18)], [(0, .row 37 false 1 y7.length (Ru32 y7))], 35⟩ [True, (y24 != 0) = true, True, True, True, True, True, True, True, True] (by kernel_rfl) (by kernel_rfl) ⟨trivial, c36, trivial, trivial, trivial, trivial, trivial, trivial, trivial, trivial, trivial⟩ ?_
            exact joinQ_leaf (true) h (conv_ren [(0, 0)] [4, 5, 8, 13, 99] (n := 1) (by kernel_rfl) (by kernel_rfl))
           ·rw [if_neg c36] at h
            by_cases c37 : (y29 != 0) = true
            ·rw [if_pos c37] at h
             refine AW.reg tt_okL6 [4, 5, 8, 13, 93, 94, 97, 98, 99] [0] [{}, { h := { b := some false } }, {}, {}, { h := { b := some true } }] ⟨[(99, vb true), (98, .tup []), (97, .tup []), (94, vb true), (93, vi64 y29), (13, vl 1 Ru32 y31), (4, .c (.ref 0 1 0 y7.length)), (5, vs y10), (8, vi64 x18)], [(0, .row 37 false 1 y7.length (Ru32 y7))], 35⟩ [True, (y24 != 0) = false, True, True, (y29 != 0) = true, True, True, True, True, True] (by kernel_rfl) (by kernel_rfl) ⟨trivial, (off_false c36), trivial, trivial, c37, trivial, trivial, trivial, trivial, trivial, trivial⟩ ?_
             exact joinQ_leaf (true) h (conv_ren [(0, 0)] [4, 5, 8, 13, 99] (n := 1) (by kernel_rfl) (by kernel_rfl))
            ·rw [if_neg c37] at h
             refine AW.reg tt_okL6 [4, 5, 8, 13, 93, 94, 97, 98, 99] [0] [{}, { h := { b := some false } }, {}, {}, { h := { b := some false } }] ⟨[(99, vb (y32 != 0)), (98, vb (y32 != 0)), (97, vi64 y32), (94, vb false), (93, vi64 y29), (13, vl 1 Ru32 y31), (4, .c (.ref 0 1 0 y7.length)), (5, vs y10), (8, vi64 x18)], [(0, .row 37 false 1 y7.length (Ru32 y7))], 35⟩ [True, (y24 != 0) = false, True, True, (y29 != 0) = false, True, True, True, True, True] (by kernel_rfl) (by kernel_rfl) ⟨trivial, (off_false c36), trivial, trivial, (off_false c37), trivial, trivial, trivial, trivial, trivial, trivial⟩ ?_
             exact joinQ_leaf ((y32 != 0)) h (conv_ren [(0, 0)] [4, 5, 8, 13, 99] (n := 1) (by kernel_rfl) (by kernel_rfl))
        ·
         obtain ⟨g38, h⟩ := ifc h
         obtain ⟨g39, h⟩ := ifc h
         by_cases c40 : (decide (((y10.data.toList.getD x18.toNat 0).toNat : Int) < 48)) = true
         ·rw [if_pos c40] at h
          refine AW.reg tt_okL6 [4, 5, 7, 8, 64, 65, 66, 67, 68] [0] [{}, {}, {}, { h := { b := some true } }] ⟨[(68, vb true), (67, .tup []), (66, .tup []), (65, .tup []), (64, .tup []), (4, .c (.ref 0 1 0 y7.length)), (5, vs y10), (7, vl 1 Ru32 x17), (8, vi64 x18)], [(0, .row 37 false 1 y7.length (Ru32 y7))], 15⟩ [True, True, (0 ≤ x18) ∧ (x18 < ((y10.size : Nat) : Int)), (decide (((y10.data.toList.getD x18.toNat 0).toNat : Int) < 48)) = true, True, True, True, True, True, True] (by kernel_rfl) (by kernel_rfl) ⟨trivial, trivial, ⟨g38, g39⟩, c40, trivial, trivial, trivial, trivial, trivial, trivial, trivial⟩ ?_
          exact joinQ_leaf (true) h (conv_ren [(0, 0)] [4, 5, 7, 8, 68] (n := 1) (by kernel_rfl) (by kernel_rfl))
         ·rw [if_neg c40] at h
          refine AW.reg tt_okL6 [4, 5, 7, 8, 64, 65, 66, 67, 68] [0] [{}, {}, {}, { h := { b := some false } }] ⟨[(68, vb (decide (((y10.data.toList.getD x18.toNat 0).toNat : Int) > 57))), (67, vb (decide (((y10.data.toList.getD x18.toNat 0).toNat : Int) > 57))), (66, vu8 ((y10.data.toList.getD x18.toNat 0).toNat : Int)), (65, vi64 x18), (64, vs y10), (4, .c (.ref 0 1 0 y7.length)), (5, vs y10), (7, vl 1 Ru32 x17), (8, vi64 x18)], [(0, .row 37 false 1 y7.length (Ru32 y7))], 15⟩ [True, True, (0 ≤ x18) ∧ (x18 < ((y10.size : Nat) : Int)), (decide (((y10.data.toList.getD x18.toNat 0).toNat : Int) < 48)) = false, True, True, True, (0 ≤ x18) ∧ (x18 < ((y10.size : Nat) : Int)), True, True] (by kernel_rfl) (by kernel_rfl) ⟨trivial, trivial, ⟨g38, g39⟩, (off_false c40), trivial, trivial, trivial, ⟨g38, g39⟩, trivial, trivial, trivial⟩ ?_
          exact joinQ_leaf (decide (((y10.data.toList.getD x18.toNat 0).toNat : Int) > 57)) h (conv_ren [(0, 0)] [4, 5, 7, 8, 68] (n := 1) (by kernel_rfl) (by kernel_rfl))
       ·rw [if_neg (by rw [c20]; exact Bool.false_ne_true)] at h
        refine AW.exit ?_
        refine AW.thenQ_exit ?_
        obtain rfl := some_inj h
        refine loopQ_out rfl (conv_ren [(0, 0)] [4, 7] (n := 1) (by kernel_rfl) (by kernel_rfl))
      ·
       show (_ : Exit → St → Prop) (.ret) ⟨[(2, vb false)], [], 0⟩
       refine AW.inBlock_ret ?_
       refine AW.thenQ_ret ?_
       obtain rfl := some_inj h
       exact ⟨_, Conv.refl _ _, .inr rfl, OutOk.mk [] 0 (out0 := vb false) (ps := [True]) (by kernel_rfl) ⟨trivial, trivial⟩ (by kernel_rfl) (by kernel_rfl)⟩
   ·
    by_cases c45 : (y11 != 0) = true
    ·rw [if_pos c45] at h
     refine AW.reg tt_okL6 [4, 5, 52] [4] [{}, { h := { b := some true } }] ⟨[(52, vb true), (5, vs y10), (4, .c (.ref 4 1 0 y7.length))], [(4, .row 37 false 1 y7.length (Ru32 y7))], 33⟩ [True, (y11 != 0) = true, True, True, True, True, True, True, True, True, True, True, True, True, True, True, True, True, True, True, True] (by kernel_rfl) (by kernel_rfl) ⟨trivial, c45, trivial, trivial, trivial, trivial, trivial, trivial, trivial, trivial, trivial, trivial, trivial, trivial, trivial, trivial, trivial, trivial, trivial, trivial, trivial, trivial⟩ ?_
     exact joinQ_leaf (true) h (conv_ren [(0, 4)] [4, 5, 52] (n := 1) (by kernel_rfl) (by kernel_rfl))
    ·rw [if_neg c45] at h
     by_cases c46 : (y10.toList == (ByteArray.mk #[]).toList) = true
     ·rw [if_pos c46] at h
      refine AW.reg tt_okL6 [4, 5, 52] [4] [{}, { h := { b := some false } }, {}, {}, { h := { b := some true } }] ⟨[(52, vb true), (5, vs y10), (4, .c (.ref 4 1 0 y7.length))], [(4, .row 37 false 1 y7.length (Ru32 y7))], 33⟩ [True, (y11 != 0) = false, True, True, (y10.toList == (ByteArray.mk #[]).toList) = true, True, True, True, True, True, True, True, True, True, True, True, True, True, True, True, True] (by kernel_rfl) (by kernel_rfl) ⟨trivial, (off_false c45), trivial, trivial, c46, trivial, trivial, trivial, trivial, trivial, trivial, trivial, trivial, trivial, trivial, trivial, trivial, trivial, trivial, trivial, trivial, trivial⟩ ?_
      exact joinQ_leaf (true) h (conv_ren [(0, 4)] [4, 5, 52] (n := 1) (by kernel_rfl) (by kernel_rfl))
     ·rw [if_neg c46] at h
      by_cases c47 : (decide (((y10.size : Nat) : Int) > 1)) = true
      ·rw [if_pos c47] at h
       obtain ⟨g48, h⟩ := ifc h
       by_cases c49 : (((y10.data.toList.getD 0 0).toNat : Int) == 48) = true
       ·rw [if_pos c49] at h
        refine AW.reg tt_okL6 [4, 5, 52] [4] [{}, { h := { b := some false } }, {}, {}, { h := { b := some false } }, {}, {}, {}, {}, { h := { b := some true } }, {}, {}, {}, { h := { b := some true } }] ⟨[(52, vb true), (5, vs y10), (4, .c (.ref 4 1 0 y7.length))], [(4, .row 37 false 1 y7.length (Ru32 y7))], 33⟩ [True, (y11 != 0) = false, True, True, (y10.toList == (ByteArray.mk #[]).toList) = false, True, True, True, True, (decide (((y10.size : Nat) : Int) > 1)) = true, True, True, (0 ≤ (0 : Int)) ∧ ((0 : Int) < ((y10.size : Nat) : Int)), (((y10.data.toList.getD 0 0).toNat : Int) == 48) = true, True, True, True, True, True, True, True] (by kernel_rfl) (by kernel_rfl) ⟨trivial, (off_false c45), trivial, trivial, (off_false c46), trivial, trivial, trivial, trivial, c47, trivial, trivial, ⟨(by decide), g48⟩, c49, trivial, trivial, trivial, trivial, trivial, trivial, trivial, trivial⟩ ?_
        exact joinQ_leaf (true) h (conv_ren [(0, 4)] [4, 5, 52] (n := 1) (by kernel_rfl) (by kernel_rfl))
       ·rw [if_neg c49] at h
        refine AW.reg tt_okL6 [4, 5, 52] [4] [{}, { h := { b := some false } }, {}, {}, { h := { b := some false } }, {}, {}, {}, {}, { h := { b := some true } }, {}, {}, {}, { h := { b := some false } }] ⟨[(52, vb (decide (((y10.size : Nat) : Int) > 100))), (5, vs y10), (4, .c (.ref 4 1 0 y7.length))], [(4, .row 37 false 1 y7.length (Ru32 y7))], 33⟩ [True, (y11 != 0) = false, True, True, (y10.toList == (ByteArray.mk #[]).toList) = false, True, True, True, True, (decide (((y10.size : Nat) : Int) > 1)) = true, True, True, (0 ≤ (0 : Int)) ∧ ((0 : Int) < ((y10.size : Nat) : Int)), (((y10.data.toList.getD 0 0).toNat : Int) == 48) = false, True, True, True, True, True, True, True] (by kernel_rfl) (by kernel_rfl) ⟨trivial, (off_false c45), trivial, trivial, (off_false c46), trivial, trivial, trivial, trivial, c47, trivial, trivial, ⟨(by decide), g48⟩, (off_false c49), trivial, trivial, trivial, trivial, trivial, trivial, trivial, trivial⟩ ?_
        exact joinQ_leaf (decide (((y10.size : Nat) : Int) > 100)) h (conv_ren [(0, 4)] [4, 5, 52] (n := 1) (by kernel_rfl) (by kernel_rfl))
      ·rw [if_neg c47] at h
       refine AW.reg tt_okL6 [4, 5, 52] [4] [{}, { h := { b := some false } }, {}, {}, { h := { b := some false } }, {}, {}, {}, {}, { h := { b := some false } }] ⟨[(52, vb (decide (((y10.size : Nat) : Int) > 100))), (5, vs y10), (4, .c (.ref 4 1 0 y7.length))], [(4, .row 37 false 1 y7.length (Ru32 y7))], 33⟩ [True, (y11 != 0) = false, True, True, (y10.toList == (ByteArray.mk #[]).toList) = false, True, True, True, True, (decide (((y10.size : Nat) : Int) > 1)) = false, True, True, True, True, True, True, True, True, True, True, True] (by kernel_rfl) (by kernel_rfl) ⟨trivial, (off_false c45), trivial, trivial, (off_false c46), trivial, trivial, trivial, trivial, (off_false c47), trivial, trivial, trivial, trivial, trivial, trivial, trivial, trivial, trivial, trivial, trivial, trivial⟩ ?_
       exact joinQ_leaf (decide (((y10.size : Nat) : Int) > 100)) h (conv_ren [(0, 4)] [4, 5, 52] (n := 1) (by kernel_rfl) (by kernel_rfl))
 ·
  obtain ⟨y50, e51, h⟩ := bnd_some h
  by_cases c52 : (!y50) = true
  ·rw [if_pos c52] at h
   refine AW.reg tt_okL6 [0, 21] [] [{ call := some { ids := [], frz := [], flat := true, cnt := 0, args := [], out := vb y50, outb := [] } }, { h := { b := some true } }] ⟨[(21, vb true), (0, vl 1 Ri64 p0)], [], 7⟩ [(True) ∧ (All2 ArgLe [] []) ∧ ((true = true → flatB [])) ∧ (Con Try.prog 10 [] [] (vb y50) []), (!y50) = true, True, True, True, True, True] (by kernel_rfl) (by kernel_rfl) ⟨⟨trivial, trivial, (fun _ => trivial), (rl_law10_awake_con y50 e51)⟩, c52, trivial, trivial, trivial, trivial, trivial, trivial⟩ ?_
   exact joinQ_leaf (true) h (conv_ren [] [0, 21] (n := 0) (by kernel_rfl) (by kernel_rfl))
  ·rw [if_neg c52] at h
   obtain ⟨y53, e54, h⟩ := bnd_some h
   refine AW.reg tt_okL6 [0, 21] [] [{ call := some { ids := [], frz := [], flat := true, cnt := 0, args := [], out := vb y50, outb := [] } }, { h := { b := some false } }, {}, {}, { call := some { ids := [], frz := [], flat := true, cnt := 0, args := [vl 1 Ri64 p0], out := vb y53, outb := [] } }] ⟨[(21, vb (!y53)), (0, vl 1 Ri64 p0)], [], 6⟩ [(True) ∧ (All2 ArgLe [] []) ∧ ((true = true → flatB [])) ∧ (Con Try.prog 10 [] [] (vb y50) []), (!y50) = false, True, True, ((True) ∧ (True)) ∧ (All2 ArgLe [vl 1 Ri64 p0] [vl 1 Ri64 p0]) ∧ ((true = true → flatB [])) ∧ (Con Try.prog 11 [vl 1 Ri64 p0] [] (vb y53) []), True, True] (by kernel_rfl) (by kernel_rfl) ⟨⟨trivial, trivial, (fun _ => trivial), (rl_law10_awake_con y50 e51)⟩, (off_false c52), trivial, trivial, ⟨⟨trivial, trivial⟩, ⟨ArgLe.refl _, trivial⟩, (fun _ => trivial), (rl_make_Few_con p0 y53 e54)⟩, trivial, trivial, trivial⟩ ?_
   exact joinQ_leaf (!y53) h (conv_ren [] [0, 21] (n := 0) (by kernel_rfl) (by kernel_rfl))
end Go.Proofs.Yteaijglfenedoaa
