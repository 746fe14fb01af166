/- Printed by a program of mine (vmgen.py): Go functions, and what they come to. -/
import Derived.Test.YteholdifeilkkaaVp
import Derived.Test.YteholdifeilkkaaRows
import Derived.Test.YteholdifeilkkaaG1
namespace Go.Proofs.Yteholdifeilkkaa
open Vm
set_option linter.unusedVariables false
set_option linter.constructorNameAsVariable false
def ttl2 : List (Nat × TI) := [(3, ⟨.int .i64, 1, 8, [.int .i64 0]⟩), (4, ⟨.bool, 1, 1, [.bool false]⟩), (5, ⟨.int .u8, 1, 1, [.int .u8 0]⟩), (9, ⟨.str, 1, 16, [.string ⟨#[]⟩]⟩), (22, ⟨.slice 3, 1, 24, [.slice none 0 0]⟩), (25, ⟨.ptr 66, 1, 8, [.pointer none]⟩), (27, ⟨.slice 33, 1, 24, [.slice none 0 0]⟩), (29, ⟨.struct [(3, 0), (27, 1)], 2, 32, [.int .i64 0, .slice none 0 0]⟩), (31, ⟨.int .u64, 1, 8, [.int .u64 0]⟩), (33, ⟨.int .u64, 1, 8, [.int .u64 0]⟩), (35, ⟨.int .i64, 1, 8, [.int .i64 0]⟩), (41, ⟨.slice 29, 1, 24, [.slice none 0 0]⟩), (43, ⟨.struct [(3, 0), (3, 1), (41, 2)], 3, 40, [.int .i64 0, .int .i64 0, .slice none 0 0]⟩), (48, ⟨.int .u16, 1, 2, [.int .u16 0]⟩), (66, ⟨.struct [(22, 0), (3, 1), (33, 2)], 3, 40, [.slice none 0 0, .int .i64 0, .int .u64 0]⟩), (70, ⟨.arr 6 3, 6, 48, [.int .i64 0, .int .i64 0, .int .i64 0, .int .i64 0, .int .i64 0, .int .i64 0]⟩), (74, ⟨.slice 5, 1, 24, [.slice none 0 0]⟩)]
theorem tt_ok2 : TTok Try.prog (Vm.look ttl2) := ttok_of ⟨⟨by kernel_rfl, by kernel_rfl⟩, ⟨by kernel_rfl, by kernel_rfl⟩, ⟨by kernel_rfl, by kernel_rfl⟩, ⟨by kernel_rfl, by kernel_rfl⟩, ⟨by kernel_rfl, by kernel_rfl⟩, ⟨by kernel_rfl, by kernel_rfl⟩, ⟨by kernel_rfl, by kernel_rfl⟩, ⟨by kernel_rfl, by kernel_rfl⟩, ⟨by kernel_rfl, by kernel_rfl⟩, ⟨by kernel_rfl, by kernel_rfl⟩, ⟨by kernel_rfl, by kernel_rfl⟩, ⟨by kernel_rfl, by kernel_rfl⟩, ⟨by kernel_rfl, by kernel_rfl⟩, ⟨by kernel_rfl, by kernel_rfl⟩, ⟨by kernel_rfl, by kernel_rfl⟩, ⟨by kernel_rfl, by kernel_rfl⟩, ⟨by kernel_rfl, by kernel_rfl⟩, trivial⟩
theorem mo2 : Try.prog.follows .mixedOrders = true := by kernel_rfl
/-! recordlink/similarity.Pattern -/
noncomputable def similarity_Pattern_k76 (x8 : Int) (x11 : List Int) : Option (((List Int) × Int) ⊕ ((List Int) ⊕ Unit)) := some (.inl (x11, IntKind.i64.wrap (x8 + 1)))
noncomputable def similarity_Pattern_k80 (p0 : List Int) (p1 : List Int) (x7 : List Int) (x8 : Int) (x15 : Bool) : Option (((List Int) × Int) ⊕ ((List Int) ⊕ Unit)) := if x15 = true then (some (.inr (.inr ()))) else (if (decide ((p1.getD x8.toNat 0) < 0)) = true then (if x8 < ((x7.length : Nat) : Int) then (similarity_Pattern_k76 x8 (x7.set (0 + x8.toNat) 0)) else none) else (if (decide ((p1.getD x8.toNat 0) < (p0.getD x8.toNat 0))) = true then (if x8 < ((x7.length : Nat) : Int) then (similarity_Pattern_k76 x8 (x7.set (0 + x8.toNat) 1)) else none) else (if x8 < ((x7.length : Nat) : Int) then (similarity_Pattern_k76 x8 (x7.set (0 + x8.toNat) 2)) else none)))
noncomputable def similarity_Pattern_l71 (p0 : List Int) (p1 : List Int) (x7 : List Int) (x8 : Int) : Option (((List Int) × Int) ⊕ ((List Int) ⊕ Unit)) := if (decide (x8 < ((p0.length : Nat) : Int))) = true then (if 0 ≤ x8 then (if x8 < ((p0.length : Nat) : Int) then (if x8 < ((p1.length : Nat) : Int) then (if (decide ((p0.getD x8.toNat 0) < 0)) = true then (similarity_Pattern_k80 p0 p1 x7 x8 true) else (if (decide ((p0.getD x8.toNat 0) > 1000)) = true then (similarity_Pattern_k80 p0 p1 x7 x8 true) else (if (decide ((p1.getD x8.toNat 0) < (-1))) = true then (similarity_Pattern_k80 p0 p1 x7 x8 true) else (similarity_Pattern_k80 p0 p1 x7 x8 (decide ((p1.getD x8.toNat 0) > 1000)))))) else none) else none) else none) else (some (.inr (.inl x7)))
noncomputable def similarity_Pattern_a81 (x25 : List Int) : Option (Int × Int) := bind2 (similarity_Number x25) fun y26 y27 => (some (y26, y27))
noncomputable def similarity_Pattern_a82 : Option (Int × Int) := some (0, 2)
noncomputable def similarity_Pattern_k4 (p0 : List Int) (p1 : List Int) (x1 : Bool) : Option (Int × Int) := if x1 = true then (some (0, 8)) else (if 0 ≤ ((p0.length : Nat) : Int) then (if ((p0.length : Nat) : Int) ≤ 1099511627776 then (bindE (loop (fun v : (List Int) × Int => similarity_Pattern_l71 p0 p1 v.1 v.2) ((List.replicate (((p0.length : Nat) : Int).toNat) (0 : Int)), 0)) (fun t => similarity_Pattern_a81 t) (fun t => similarity_Pattern_a82)) else none) else none)
noncomputable def similarity_Pattern (p0 : List Int) (p1 : List Int) : Option (Int × Int) := if (((p0.length : Nat) : Int) != ((p1.length : Nat) : Int)) = true then (similarity_Pattern_k4 p0 p1 true) else ((similarity_fields ((p0.length : Nat) : Int)).bind fun y31 => (similarity_Pattern_k4 p0 p1 (!y31)))
set_option maxRecDepth 100000 in
set_option maxHeartbeats 10000000 in
theorem similarity_Pattern_con (p0 : List Int) (p1 : List Int) (r0 : Int) (r1 : Int) (h : similarity_Pattern p0 p1 = some (r0, r1)) : Con Try.prog 33 [.c (.t (.tree p0.length 1 (Ri64 p0))), .c (.t (.tree p1.length 1 (Ri64 p1)))] [] (.tup [.c (.t (.v (.int .i64 r0))), .c (.t (.v (.int .i64 r1)))]) [] := by
  suffices H : ∀ r, similarity_Pattern p0 p1 = some r → Con Try.prog 33 [.c (.t (.tree p0.length 1 (Ri64 p0))), .c (.t (.tree p1.length 1 (Ri64 p1)))] [] (.tup [.c (.t (.v (.int .i64 r.1))), .c (.t (.v (.int .i64 r.2)))]) [] from H (r0, r1) h
  clear h
  intro r h
  refine con_of tt_ok2 0 Try.func33 (by kernel_rfl) rfl (by kernel_rfl) (fun base X hk => AW.post ?_)
  unfold similarity_Pattern at h
  refine AW.seq ?_
  refine AW.reg tt_ok2 [0, 1] [] [] ⟨[(0, .c (.t (.tree p0.length 1 (Ri64 p0)))), (1, .c (.t (.tree p1.length 1 (Ri64 p1))))], [], 2⟩ [True, True] (by kernel_rfl) (by kernel_rfl) ⟨trivial, trivial, trivial⟩ ?_
  refine AW.thenQ_normal ?_
  refine AW.seq ?_
  refine AW.seq ?_
  refine AW.join (ι := Bool) (fun v => ⟨[(0, .c (.t (.tree p0.length 1 (Ri64 p0)))), (1, .c (.t (.tree p1.length 1 (Ri64 p1)))), (20, .c (.t (.v (.bool v))))], [], 0⟩) (fun v : Bool => similarity_Pattern_k4 p0 p1 v = some r) (fun v h => ?_) ?_
  ·
    obtain ⟨x1, rfl⟩ : ∃ x, x = v := ⟨_, rfl⟩
    replace h : similarity_Pattern_k4 p0 p1 x1 = some r := h
    unfold similarity_Pattern_k4 at h
    show (_ : Exit → St → Prop) .normal ⟨[(0, .c (.t (.tree p0.length 1 (Ri64 p0)))), (1, .c (.t (.tree p1.length 1 (Ri64 p1)))), (20, .c (.t (.v (.bool x1))))], [], 0⟩
    refine AW.thenQ_normal ?_
    refine AW.cond (b := x1) (by kernel_rfl) (fun c2 => ?_) (fun c2 => ?_)
    · rw [if_pos c2] at h
      refine AW.seq ?_
      refine AW.reg tt_ok2 [4, 5] [] [] ⟨[(5, .c (.t (.v (.int .i64 8)))), (4, .c (.t (.v (.int .i64 0))))], [], 2⟩ [True, True] (by kernel_rfl) (by kernel_rfl) ⟨trivial, trivial, trivial⟩ ?_
      refine AW.thenQ_normal ?_
      refine AW.ret ?_
      refine AW.thenQ_ret ?_
      obtain rfl := some_inj h
      exact ⟨_, Conv.refl _ _, .inr rfl, OutOk.mk [] 0 (out0 := .tup [.c (.t (.v (.int .i64 0))), .c (.t (.v (.int .i64 8)))]) (ps := [True, True]) (by kernel_rfl) ⟨trivial, trivial, trivial⟩ (by kernel_rfl) (by kernel_rfl)⟩
    · rw [if_neg (by rw [c2]; exact Bool.false_ne_true)] at h
      refine AW.skip ?_
      refine AW.thenQ_normal ?_
      refine AW.seq ?_
      obtain ⟨g3, h⟩ := ifc h
      obtain ⟨g4, h⟩ := ifc h
      refine AW.reg tt_ok2 [0, 1, 6] [2] [{}, {}, { h := { row := some ((List.replicate (((p0.length : Nat) : Int).toNat) (0 : Int)).length, Ri64 (List.replicate (((p0.length : Nat) : Int).toNat) (0 : Int))) } }] ⟨[(6, .c (.ref 2 1 0 ((List.replicate (((p0.length : Nat) : Int).toNat) (0 : Int)).length))), (0, .c (.t (.tree p0.length 1 (Ri64 p0)))), (1, .c (.t (.tree p1.length 1 (Ri64 p1))))], [(2, .row 3 false 1 (List.replicate (((p0.length : Nat) : Int).toNat) (0 : Int)).length (Ri64 (List.replicate (((p0.length : Nat) : Int).toNat) (0 : Int))))], 4⟩ [True, True, ((0 ≤ ((p0.length : Nat) : Int)) ∧ (((p0.length : Nat) : Int) ≤ ((p0.length : Nat) : Int)) ∧ (((p0.length : Nat) : Int) ≤ 1099511627776) ∧ ((8 : Nat) ≤ 128)) ∧ (((p0.length : Nat) : Int).toNat = (List.replicate (((p0.length : Nat) : Int).toNat) (0 : Int)).length ∧ ∀ i, i < (List.replicate (((p0.length : Nat) : Int).toNat) (0 : Int)).length → ∀ j, j < 1 → TLe ((fun _ j => .v (([.int .i64 0] : List Value).getD j undef)) i j) (Ri64 (List.replicate (((p0.length : Nat) : Int).toNat) (0 : Int)) i j)), True] (by kernel_rfl) (by kernel_rfl) ⟨trivial, trivial, ⟨⟨g3, Int.le_refl _, g4, (by decide)⟩, mk_row (fun j hj => match j, hj with | 0, _ => TLe.refl _ | _ + 1, h => absurd h (by omega))⟩, trivial, trivial⟩ ?_
      refine AW.thenQ_normal ?_
      refine AW.seq ?_
      refine AW.seq ?_
      refine AW.reg tt_ok2 [1, 6, 24, 25, 26] [2] [] ⟨[(26, .c (.t (.v (.int .i64 0)))), (25, .c (.t (.v (.int .i64 ((p0.length : Nat) : Int))))), (24, .c (.t (.tree p0.length 1 (Ri64 p0)))), (6, .c (.ref 2 1 0 ((List.replicate (((p0.length : Nat) : Int).toNat) (0 : Int)).length))), (1, .c (.t (.tree p1.length 1 (Ri64 p1))))], [(2, .row 3 false 1 (List.replicate (((p0.length : Nat) : Int).toNat) (0 : Int)).length (Ri64 (List.replicate (((p0.length : Nat) : Int).toNat) (0 : Int))))], 7⟩ [True, True, True] (by kernel_rfl) (by kernel_rfl) ⟨trivial, trivial, trivial, trivial⟩ ?_
      refine AW.thenQ_normal ?_
      refine AW.block ?_
      rcases bindE_some h with ⟨t, l29, h⟩ | ⟨t, l29, h⟩
      ·
        obtain ⟨x25, rfl⟩ : ∃ x, x = t := ⟨_, rfl⟩
        replace h : similarity_Pattern_a81 x25 = some r := h
        unfold similarity_Pattern_a81 at h
        refine AW.pre (S' := ((fun v => ⟨[(1, .c (.t (.tree p1.length 1 (Ri64 p1)))), (6, .c (.ref 0 1 0 v.1.length)), (24, .c (.t (.tree p0.length 1 (Ri64 p0)))), (25, .c (.t (.v (.int .i64 ((p0.length : Nat) : Int))))), (26, .c (.t (.v (.int .i64 v.2))))], [(0, .row 3 false 1 v.1.length (Ri64 v.1))], 1⟩) : ((List Int) × Int) → St) ((List.replicate (((p0.length : Nat) : Int).toNat) (0 : Int)), 0)) (conv_ren [(0, 2)] [1, 6, 24, 25, 26] (n := 1) (by kernel_rfl) (by kernel_rfl)) ?_
        refine AW.loop2 (step := (fun v : (List Int) × Int => similarity_Pattern_l71 p0 p1 v.1 v.2)) (s0 := ((List.replicate (((p0.length : Nat) : Int).toNat) (0 : Int)), 0)) (t := .inl x25) (fun v => ⟨[(1, .c (.t (.tree p1.length 1 (Ri64 p1)))), (6, .c (.ref 0 1 0 v.1.length)), (24, .c (.t (.tree p0.length 1 (Ri64 p0)))), (25, .c (.t (.v (.int .i64 ((p0.length : Nat) : Int))))), (26, .c (.t (.v (.int .i64 v.2))))], [(0, .row 3 false 1 v.1.length (Ri64 v.1))], 1⟩) (fun t : ((List Int) ⊕ Unit) => match t with | .inl t => (.exit 0, ⟨[(6, .c (.ref 0 1 0 t.length))], [(0, .row 3 false 1 t.length (Ri64 t))], 1⟩) | .inr t => (.ret, ⟨[(4, .c (.t (.v (.int .i64 0)))), (5, .c (.t (.v (.int .i64 2))))], [], 0⟩)) l29 (fun t => by cases t <;> trivial) ?_ ?_
        ·
          clear l29 h
          intro v o h
          obtain ⟨x7, x8⟩ := v
          replace h : similarity_Pattern_l71 p0 p1 x7 x8 = some o := h
          unfold similarity_Pattern_l71 at h
          show AW _ ⟨[(1, .c (.t (.tree p1.length 1 (Ri64 p1)))), (6, .c (.ref 0 1 0 x7.length)), (24, .c (.t (.tree p0.length 1 (Ri64 p0)))), (25, .c (.t (.v (.int .i64 ((p0.length : Nat) : Int))))), (26, .c (.t (.v (.int .i64 x8))))], [(0, .row 3 false 1 x7.length (Ri64 x7))], 1⟩ _ _
          refine AW.seq ?_
          refine AW.reg tt_ok2 [1, 6, 24, 25, 26, 27] [0] [] ⟨[(27, .c (.t (.v (.bool (decide (x8 < ((p0.length : Nat) : Int))))))), (1, .c (.t (.tree p1.length 1 (Ri64 p1)))), (6, .c (.ref 0 1 0 x7.length)), (24, .c (.t (.tree p0.length 1 (Ri64 p0)))), (25, .c (.t (.v (.int .i64 ((p0.length : Nat) : Int))))), (26, .c (.t (.v (.int .i64 x8))))], [(0, .row 3 false 1 x7.length (Ri64 x7))], 2⟩ [True] (by kernel_rfl) (by kernel_rfl) ⟨trivial, trivial⟩ ?_
          refine AW.thenQ_normal ?_
          refine AW.seq ?_
          refine AW.cond (b := decide (x8 < ((p0.length : Nat) : Int))) (by kernel_rfl) (fun c10 => ?_) (fun c10 => ?_)
          · rw [if_pos c10] at h
            refine AW.skip ?_
            refine AW.thenQ_normal ?_
            refine AW.seq ?_
            refine AW.join (ι := List Int) (fun v => ⟨[(1, .c (.t (.tree p1.length 1 (Ri64 p1)))), (6, .c (.ref 0 1 0 v.length)), (24, .c (.t (.tree p0.length 1 (Ri64 p0)))), (25, .c (.t (.v (.int .i64 ((p0.length : Nat) : Int))))), (26, .c (.t (.v (.int .i64 x8))))], [(0, .row 3 false 1 v.length (Ri64 v))], 1⟩) (fun v : List Int => similarity_Pattern_k76 x8 v = some o) (fun v h => ?_) ?_
            ·
              obtain ⟨x11, rfl⟩ : ∃ x, x = v := ⟨_, rfl⟩
              replace h : similarity_Pattern_k76 x8 x11 = some o := h
              unfold similarity_Pattern_k76 at h
              show (_ : Exit → St → Prop) .normal ⟨[(1, .c (.t (.tree p1.length 1 (Ri64 p1)))), (6, .c (.ref 0 1 0 x11.length)), (24, .c (.t (.tree p0.length 1 (Ri64 p0)))), (25, .c (.t (.v (.int .i64 ((p0.length : Nat) : Int))))), (26, .c (.t (.v (.int .i64 x8))))], [(0, .row 3 false 1 x11.length (Ri64 x11))], 1⟩
              refine AW.thenQ_normal ?_
              refine AW.reg tt_ok2 [1, 6, 24, 25, 26] [0] [] ⟨[(26, .c (.t (.v (.int .i64 (IntKind.i64.wrap (x8 + 1)))))), (1, .c (.t (.tree p1.length 1 (Ri64 p1)))), (6, .c (.ref 0 1 0 x11.length)), (24, .c (.t (.tree p0.length 1 (Ri64 p0)))), (25, .c (.t (.v (.int .i64 ((p0.length : Nat) : Int)))))], [(0, .row 3 false 1 x11.length (Ri64 x11))], 3⟩ [True, True] (by kernel_rfl) (by kernel_rfl) ⟨trivial, trivial, trivial⟩ ?_
              obtain rfl := some_inj h
              refine loopQ_next (conv_ren [(0, 0)] [1, 6, 24, 25, 26] (n := 1) (by kernel_rfl) (by kernel_rfl))
            ·
              refine AW.block ?_
              refine AW.seq ?_
              obtain ⟨g12, h⟩ := ifc h
              obtain ⟨g13, h⟩ := ifc h
              refine AW.reg tt_ok2 [1, 6, 7, 8, 24, 25, 26] [0] [] ⟨[(8, .c (.t (.v (.int .i64 (p0.getD x8.toNat 0))))), (7, .c (.t (.v (.int .i64 x8)))), (1, .c (.t (.tree p1.length 1 (Ri64 p1)))), (6, .c (.ref 0 1 0 x7.length)), (24, .c (.t (.tree p0.length 1 (Ri64 p0)))), (25, .c (.t (.v (.int .i64 ((p0.length : Nat) : Int))))), (26, .c (.t (.v (.int .i64 x8))))], [(0, .row 3 false 1 x7.length (Ri64 x7))], 7⟩ [True, (0 ≤ x8) ∧ (x8 < ((p0.length : Nat) : Int)), True, True, True] (by kernel_rfl) (by kernel_rfl) ⟨trivial, ⟨g12, g13⟩, trivial, trivial, trivial, trivial⟩ ?_
              refine AW.thenQ_normal ?_
              refine AW.seq ?_
              obtain ⟨g14, h⟩ := ifc h
              refine AW.reg tt_ok2 [1, 6, 7, 8, 9, 24, 25, 26] [0] [] ⟨[(9, .c (.t (.v (.int .i64 (p1.getD x8.toNat 0))))), (8, .c (.t (.v (.int .i64 (p0.getD x8.toNat 0))))), (7, .c (.t (.v (.int .i64 x8)))), (1, .c (.t (.tree p1.length 1 (Ri64 p1)))), (6, .c (.ref 0 1 0 x7.length)), (24, .c (.t (.tree p0.length 1 (Ri64 p0)))), (25, .c (.t (.v (.int .i64 ((p0.length : Nat) : Int))))), (26, .c (.t (.v (.int .i64 x8))))], [(0, .row 3 false 1 x7.length (Ri64 x7))], 12⟩ [True, True, (0 ≤ x8) ∧ (x8 < ((p1.length : Nat) : Int)), True, True] (by kernel_rfl) (by kernel_rfl) ⟨trivial, trivial, ⟨g12, g14⟩, trivial, trivial, trivial⟩ ?_
              refine AW.thenQ_normal ?_
              refine AW.seq ?_
              refine AW.seq ?_
              refine AW.join (ι := Bool) (fun v => ⟨[(1, .c (.t (.tree p1.length 1 (Ri64 p1)))), (6, .c (.ref 0 1 0 x7.length)), (7, .c (.t (.v (.int .i64 x8)))), (8, .c (.t (.v (.int .i64 (p0.getD x8.toNat 0))))), (9, .c (.t (.v (.int .i64 (p1.getD x8.toNat 0))))), (24, .c (.t (.tree p0.length 1 (Ri64 p0)))), (25, .c (.t (.v (.int .i64 ((p0.length : Nat) : Int))))), (26, .c (.t (.v (.int .i64 x8)))), (48, .c (.t (.v (.bool v))))], [(0, .row 3 false 1 x7.length (Ri64 x7))], 1⟩) (fun v : Bool => similarity_Pattern_k80 p0 p1 x7 x8 v = some o) (fun v h => ?_) ?_
              ·
                obtain ⟨x15, rfl⟩ : ∃ x, x = v := ⟨_, rfl⟩
                replace h : similarity_Pattern_k80 p0 p1 x7 x8 x15 = some o := h
                unfold similarity_Pattern_k80 at h
                show (_ : Exit → St → Prop) .normal ⟨[(1, .c (.t (.tree p1.length 1 (Ri64 p1)))), (6, .c (.ref 0 1 0 x7.length)), (7, .c (.t (.v (.int .i64 x8)))), (8, .c (.t (.v (.int .i64 (p0.getD x8.toNat 0))))), (9, .c (.t (.v (.int .i64 (p1.getD x8.toNat 0))))), (24, .c (.t (.tree p0.length 1 (Ri64 p0)))), (25, .c (.t (.v (.int .i64 ((p0.length : Nat) : Int))))), (26, .c (.t (.v (.int .i64 x8)))), (48, .c (.t (.v (.bool x15))))], [(0, .row 3 false 1 x7.length (Ri64 x7))], 1⟩
                refine AW.thenQ_normal ?_
                refine AW.cond (b := x15) (by kernel_rfl) (fun c16 => ?_) (fun c16 => ?_)
                · rw [if_pos c16] at h
                  refine AW.seq ?_
                  refine AW.reg tt_ok2 [4, 5] [] [] ⟨[(5, .c (.t (.v (.int .i64 2)))), (4, .c (.t (.v (.int .i64 0))))], [], 3⟩ [True, True] (by kernel_rfl) (by kernel_rfl) ⟨trivial, trivial, trivial⟩ ?_
                  refine AW.thenQ_normal ?_
                  refine AW.ret ?_
                  refine AW.thenQ_ret ?_
                  refine AW.inBlock_ret ?_
                  refine joinQ_ret ?_
                  refine AW.thenQ_ret ?_
                  obtain rfl := some_inj h
                  refine loopQ_out rfl (conv_ren [] [4, 5] (n := 0) (by kernel_rfl) (by kernel_rfl))
                · rw [if_neg (by rw [c16]; exact Bool.false_ne_true)] at h
                  refine AW.skip ?_
                  refine AW.thenQ_normal ?_
                  refine AW.block ?_
                  refine AW.seq ?_
                  refine AW.reg tt_ok2 [1, 6, 7, 8, 9, 24, 25, 26, 52] [0] [] ⟨[(52, .c (.t (.v (.bool (decide ((p1.getD x8.toNat 0) < 0)))))), (1, .c (.t (.tree p1.length 1 (Ri64 p1)))), (6, .c (.ref 0 1 0 x7.length)), (7, .c (.t (.v (.int .i64 x8)))), (8, .c (.t (.v (.int .i64 (p0.getD x8.toNat 0))))), (9, .c (.t (.v (.int .i64 (p1.getD x8.toNat 0))))), (24, .c (.t (.tree p0.length 1 (Ri64 p0)))), (25, .c (.t (.v (.int .i64 ((p0.length : Nat) : Int))))), (26, .c (.t (.v (.int .i64 x8))))], [(0, .row 3 false 1 x7.length (Ri64 x7))], 4⟩ [True, True, True] (by kernel_rfl) (by kernel_rfl) ⟨trivial, trivial, trivial, trivial⟩ ?_
                  refine AW.thenQ_normal ?_
                  refine AW.cond (b := decide ((p1.getD x8.toNat 0) < 0)) (by kernel_rfl) (fun c17 => ?_) (fun c17 => ?_)
                  · rw [if_pos c17] at h
                    obtain ⟨g18, h⟩ := ifc h
                    refine AW.reg tt_ok2 [1, 6, 24, 25, 26] [0] [{}, {}, {}, { h := { row := some (x7.length, Ri64 (x7.set (0 + x8.toNat) 0)) } }] ⟨[(1, .c (.t (.tree p1.length 1 (Ri64 p1)))), (6, .c (.ref 0 1 0 x7.length)), (24, .c (.t (.tree p0.length 1 (Ri64 p0)))), (25, .c (.t (.v (.int .i64 ((p0.length : Nat) : Int))))), (26, .c (.t (.v (.int .i64 x8))))], [(0, .row 3 false 1 x7.length (Ri64 (x7.set (0 + x8.toNat) 0)))], 8⟩ [True, True, (0 ≤ x8) ∧ (x8 < ((x7.length : Nat) : Int)), ((0 + x8.toNat) < x7.length) ∧ (x7.length = x7.length ∧ ∀ i, i < x7.length → ∀ j, j < 1 → TLe (updRow (Ri64 x7) (0 + x8.toNat) 0 [.v (.int .i64 0)] i j) (Ri64 (x7.set (0 + x8.toNat) 0) i j))] (by kernel_rfl) (by kernel_rfl) ⟨trivial, trivial, ⟨g12, g18⟩, ⟨(by have h1 : 0 ≤ x8 := g12; have h2 : x8 < ((x7.length : Nat) : Int) := g18; omega), set_rowN rfl (by have h1 : 0 ≤ x8 := g12; have h2 : x8 < ((x7.length : Nat) : Int) := g18; omega) (fun j hj => match j, hj with | 0, _ => TLe.refl _ | _ + 1, h => absurd h (by omega))⟩, trivial⟩ ?_
                    refine AW.inBlock_normal ?_
                    refine AW.inBlock_normal ?_
                    exact joinQ_leaf ((x7.set (0 + x8.toNat) 0)) h (Conv.trans (conv_len (S' := ⟨[(1, .c (.t (.tree p1.length 1 (Ri64 p1)))), (6, .c (.ref 0 1 0 ((x7.set (0 + x8.toNat) 0).length))), (24, .c (.t (.tree p0.length 1 (Ri64 p0)))), (25, .c (.t (.v (.int .i64 ((p0.length : Nat) : Int))))), (26, .c (.t (.v (.int .i64 x8))))], [(0, .row 3 false 1 (x7.set (0 + x8.toNat) 0).length (Ri64 (x7.set (0 + x8.toNat) 0)))], 8⟩) (by simp only [List.length_set])) (conv_ren [(0, 0)] [1, 6, 24, 25, 26] (n := 1) (by kernel_rfl) (by kernel_rfl)))
                  · rw [if_neg (by rw [c17]; exact Bool.false_ne_true)] at h
                    refine AW.seq ?_
                    refine AW.reg tt_ok2 [1, 6, 7, 24, 25, 26, 58] [0] [] ⟨[(58, .c (.t (.v (.bool (decide ((p1.getD x8.toNat 0) < (p0.getD x8.toNat 0))))))), (1, .c (.t (.tree p1.length 1 (Ri64 p1)))), (6, .c (.ref 0 1 0 x7.length)), (7, .c (.t (.v (.int .i64 x8)))), (24, .c (.t (.tree p0.length 1 (Ri64 p0)))), (25, .c (.t (.v (.int .i64 ((p0.length : Nat) : Int))))), (26, .c (.t (.v (.int .i64 x8))))], [(0, .row 3 false 1 x7.length (Ri64 x7))], 8⟩ [True, True, True, True] (by kernel_rfl) (by kernel_rfl) ⟨trivial, trivial, trivial, trivial, trivial⟩ ?_
                    refine AW.thenQ_normal ?_
                    refine AW.cond (b := decide ((p1.getD x8.toNat 0) < (p0.getD x8.toNat 0))) (by kernel_rfl) (fun c19 => ?_) (fun c19 => ?_)
                    · rw [if_pos c19] at h
                      obtain ⟨g20, h⟩ := ifc h
                      refine AW.reg tt_ok2 [1, 6, 24, 25, 26] [0] [{}, {}, {}, { h := { row := some (x7.length, Ri64 (x7.set (0 + x8.toNat) 1)) } }] ⟨[(1, .c (.t (.tree p1.length 1 (Ri64 p1)))), (6, .c (.ref 0 1 0 x7.length)), (24, .c (.t (.tree p0.length 1 (Ri64 p0)))), (25, .c (.t (.v (.int .i64 ((p0.length : Nat) : Int))))), (26, .c (.t (.v (.int .i64 x8))))], [(0, .row 3 false 1 x7.length (Ri64 (x7.set (0 + x8.toNat) 1)))], 12⟩ [True, True, (0 ≤ x8) ∧ (x8 < ((x7.length : Nat) : Int)), ((0 + x8.toNat) < x7.length) ∧ (x7.length = x7.length ∧ ∀ i, i < x7.length → ∀ j, j < 1 → TLe (updRow (Ri64 x7) (0 + x8.toNat) 0 [.v (.int .i64 1)] i j) (Ri64 (x7.set (0 + x8.toNat) 1) i j))] (by kernel_rfl) (by kernel_rfl) ⟨trivial, trivial, ⟨g12, g20⟩, ⟨(by have h1 : 0 ≤ x8 := g12; have h2 : x8 < ((x7.length : Nat) : Int) := g20; omega), set_rowN rfl (by have h1 : 0 ≤ x8 := g12; have h2 : x8 < ((x7.length : Nat) : Int) := g20; omega) (fun j hj => match j, hj with | 0, _ => TLe.refl _ | _ + 1, h => absurd h (by omega))⟩, trivial⟩ ?_
                      refine AW.inBlock_normal ?_
                      refine AW.inBlock_normal ?_
                      exact joinQ_leaf ((x7.set (0 + x8.toNat) 1)) h (Conv.trans (conv_len (S' := ⟨[(1, .c (.t (.tree p1.length 1 (Ri64 p1)))), (6, .c (.ref 0 1 0 ((x7.set (0 + x8.toNat) 1).length))), (24, .c (.t (.tree p0.length 1 (Ri64 p0)))), (25, .c (.t (.v (.int .i64 ((p0.length : Nat) : Int))))), (26, .c (.t (.v (.int .i64 x8))))], [(0, .row 3 false 1 (x7.set (0 + x8.toNat) 1).length (Ri64 (x7.set (0 + x8.toNat) 1)))], 12⟩) (by simp only [List.length_set])) (conv_ren [(0, 0)] [1, 6, 24, 25, 26] (n := 1) (by kernel_rfl) (by kernel_rfl)))
                    · rw [if_neg (by rw [c19]; exact Bool.false_ne_true)] at h
                      obtain ⟨g21, h⟩ := ifc h
                      refine AW.reg tt_ok2 [1, 6, 24, 25, 26] [0] [{}, {}, {}, { h := { row := some (x7.length, Ri64 (x7.set (0 + x8.toNat) 2)) } }] ⟨[(1, .c (.t (.tree p1.length 1 (Ri64 p1)))), (6, .c (.ref 0 1 0 x7.length)), (24, .c (.t (.tree p0.length 1 (Ri64 p0)))), (25, .c (.t (.v (.int .i64 ((p0.length : Nat) : Int))))), (26, .c (.t (.v (.int .i64 x8))))], [(0, .row 3 false 1 x7.length (Ri64 (x7.set (0 + x8.toNat) 2)))], 12⟩ [True, True, (0 ≤ x8) ∧ (x8 < ((x7.length : Nat) : Int)), ((0 + x8.toNat) < x7.length) ∧ (x7.length = x7.length ∧ ∀ i, i < x7.length → ∀ j, j < 1 → TLe (updRow (Ri64 x7) (0 + x8.toNat) 0 [.v (.int .i64 2)] i j) (Ri64 (x7.set (0 + x8.toNat) 2) i j))] (by kernel_rfl) (by kernel_rfl) ⟨trivial, trivial, ⟨g12, g21⟩, ⟨(by have h1 : 0 ≤ x8 := g12; have h2 : x8 < ((x7.length : Nat) : Int) := g21; omega), set_rowN rfl (by have h1 : 0 ≤ x8 := g12; have h2 : x8 < ((x7.length : Nat) : Int) := g21; omega) (fun j hj => match j, hj with | 0, _ => TLe.refl _ | _ + 1, h => absurd h (by omega))⟩, trivial⟩ ?_
                      refine AW.inBlock_normal ?_
                      refine AW.inBlock_normal ?_
                      exact joinQ_leaf ((x7.set (0 + x8.toNat) 2)) h (Conv.trans (conv_len (S' := ⟨[(1, .c (.t (.tree p1.length 1 (Ri64 p1)))), (6, .c (.ref 0 1 0 ((x7.set (0 + x8.toNat) 2).length))), (24, .c (.t (.tree p0.length 1 (Ri64 p0)))), (25, .c (.t (.v (.int .i64 ((p0.length : Nat) : Int))))), (26, .c (.t (.v (.int .i64 x8))))], [(0, .row 3 false 1 (x7.set (0 + x8.toNat) 2).length (Ri64 (x7.set (0 + x8.toNat) 2)))], 12⟩) (by simp only [List.length_set])) (conv_ren [(0, 0)] [1, 6, 24, 25, 26] (n := 1) (by kernel_rfl) (by kernel_rfl)))
              ·
                by_cases c22 : (decide ((p0.getD x8.toNat 0) < 0)) = true
                · rw [if_pos c22] at h
                  refine AW.reg tt_ok2 [1, 6, 7, 8, 9, 24, 25, 26, 38, 39, 42, 43, 46, 47, 48] [0] [{}, { h := { b := some true } }] ⟨[(48, .c (.t (.v (.bool true)))), (47, .tup []), (46, .tup []), (43, .tup []), (42, .tup []), (39, .tup []), (38, .tup []), (9, .c (.t (.v (.int .i64 (p1.getD x8.toNat 0))))), (8, .c (.t (.v (.int .i64 (p0.getD x8.toNat 0))))), (7, .c (.t (.v (.int .i64 x8)))), (1, .c (.t (.tree p1.length 1 (Ri64 p1)))), (6, .c (.ref 0 1 0 x7.length)), (24, .c (.t (.tree p0.length 1 (Ri64 p0)))), (25, .c (.t (.v (.int .i64 ((p0.length : Nat) : Int))))), (26, .c (.t (.v (.int .i64 x8))))], [(0, .row 3 false 1 x7.length (Ri64 x7))], 26⟩ [True, (decide ((p0.getD x8.toNat 0) < 0)) = true, True, True, True, True, True, True, True, True, True, True, True, True] (by kernel_rfl) (by kernel_rfl) ⟨trivial, c22, trivial, trivial, trivial, trivial, trivial, trivial, trivial, trivial, trivial, trivial, trivial, trivial, trivial⟩ ?_
                  exact joinQ_leaf (true) h (conv_ren [(0, 0)] [1, 6, 7, 8, 9, 24, 25, 26, 48] (n := 1) (by kernel_rfl) (by kernel_rfl))
                · rw [if_neg c22] at h
                  by_cases c23 : (decide ((p0.getD x8.toNat 0) > 1000)) = true
                  · rw [if_pos c23] at h
                    refine AW.reg tt_ok2 [1, 6, 7, 8, 9, 24, 25, 26, 38, 39, 42, 43, 46, 47, 48] [0] [{}, { h := { b := some false } }, {}, {}, { h := { b := some true } }] ⟨[(48, .c (.t (.v (.bool true)))), (47, .tup []), (46, .tup []), (43, .tup []), (42, .tup []), (39, .c (.t (.v (.bool true)))), (38, .c (.t (.v (.int .i64 (p0.getD x8.toNat 0))))), (9, .c (.t (.v (.int .i64 (p1.getD x8.toNat 0))))), (8, .c (.t (.v (.int .i64 (p0.getD x8.toNat 0))))), (7, .c (.t (.v (.int .i64 x8)))), (1, .c (.t (.tree p1.length 1 (Ri64 p1)))), (6, .c (.ref 0 1 0 x7.length)), (24, .c (.t (.tree p0.length 1 (Ri64 p0)))), (25, .c (.t (.v (.int .i64 ((p0.length : Nat) : Int))))), (26, .c (.t (.v (.int .i64 x8))))], [(0, .row 3 false 1 x7.length (Ri64 x7))], 26⟩ [True, (decide ((p0.getD x8.toNat 0) < 0)) = false, True, True, (decide ((p0.getD x8.toNat 0) > 1000)) = true, True, True, True, True, True, True, True, True, True] (by kernel_rfl) (by kernel_rfl) ⟨trivial, (off_false c22), trivial, trivial, c23, trivial, trivial, trivial, trivial, trivial, trivial, trivial, trivial, trivial, trivial⟩ ?_
                    exact joinQ_leaf (true) h (conv_ren [(0, 0)] [1, 6, 7, 8, 9, 24, 25, 26, 48] (n := 1) (by kernel_rfl) (by kernel_rfl))
                  · rw [if_neg c23] at h
                    by_cases c24 : (decide ((p1.getD x8.toNat 0) < (-1))) = true
                    · rw [if_pos c24] at h
                      refine AW.reg tt_ok2 [1, 6, 7, 8, 9, 24, 25, 26, 38, 39, 42, 43, 46, 47, 48] [0] [{}, { h := { b := some false } }, {}, {}, { h := { b := some false } }, {}, {}, {}, { h := { b := some true } }] ⟨[(48, .c (.t (.v (.bool true)))), (47, .tup []), (46, .tup []), (43, .c (.t (.v (.bool true)))), (42, .c (.t (.v (.int .i64 (p1.getD x8.toNat 0))))), (39, .c (.t (.v (.bool false)))), (38, .c (.t (.v (.int .i64 (p0.getD x8.toNat 0))))), (9, .c (.t (.v (.int .i64 (p1.getD x8.toNat 0))))), (8, .c (.t (.v (.int .i64 (p0.getD x8.toNat 0))))), (7, .c (.t (.v (.int .i64 x8)))), (1, .c (.t (.tree p1.length 1 (Ri64 p1)))), (6, .c (.ref 0 1 0 x7.length)), (24, .c (.t (.tree p0.length 1 (Ri64 p0)))), (25, .c (.t (.v (.int .i64 ((p0.length : Nat) : Int))))), (26, .c (.t (.v (.int .i64 x8))))], [(0, .row 3 false 1 x7.length (Ri64 x7))], 26⟩ [True, (decide ((p0.getD x8.toNat 0) < 0)) = false, True, True, (decide ((p0.getD x8.toNat 0) > 1000)) = false, True, True, True, (decide ((p1.getD x8.toNat 0) < (-1))) = true, True, True, True, True, True] (by kernel_rfl) (by kernel_rfl) ⟨trivial, (off_false c22), trivial, trivial, (off_false c23), trivial, trivial, trivial, c24, trivial, trivial, trivial, trivial, trivial, trivial⟩ ?_
                      exact joinQ_leaf (true) h (conv_ren [(0, 0)] [1, 6, 7, 8, 9, 24, 25, 26, 48] (n := 1) (by kernel_rfl) (by kernel_rfl))
                    · rw [if_neg c24] at h
                      refine AW.reg tt_ok2 [1, 6, 7, 8, 9, 24, 25, 26, 38, 39, 42, 43, 46, 47, 48] [0] [{}, { h := { b := some false } }, {}, {}, { h := { b := some false } }, {}, {}, {}, { h := { b := some false } }] ⟨[(48, .c (.t (.v (.bool (decide ((p1.getD x8.toNat 0) > 1000)))))), (47, .c (.t (.v (.bool (decide ((p1.getD x8.toNat 0) > 1000)))))), (46, .c (.t (.v (.int .i64 (p1.getD x8.toNat 0))))), (43, .c (.t (.v (.bool false)))), (42, .c (.t (.v (.int .i64 (p1.getD x8.toNat 0))))), (39, .c (.t (.v (.bool false)))), (38, .c (.t (.v (.int .i64 (p0.getD x8.toNat 0))))), (9, .c (.t (.v (.int .i64 (p1.getD x8.toNat 0))))), (8, .c (.t (.v (.int .i64 (p0.getD x8.toNat 0))))), (7, .c (.t (.v (.int .i64 x8)))), (1, .c (.t (.tree p1.length 1 (Ri64 p1)))), (6, .c (.ref 0 1 0 x7.length)), (24, .c (.t (.tree p0.length 1 (Ri64 p0)))), (25, .c (.t (.v (.int .i64 ((p0.length : Nat) : Int))))), (26, .c (.t (.v (.int .i64 x8))))], [(0, .row 3 false 1 x7.length (Ri64 x7))], 26⟩ [True, (decide ((p0.getD x8.toNat 0) < 0)) = false, True, True, (decide ((p0.getD x8.toNat 0) > 1000)) = false, True, True, True, (decide ((p1.getD x8.toNat 0) < (-1))) = false, True, True, True, True, True] (by kernel_rfl) (by kernel_rfl) ⟨trivial, (off_false c22), trivial, trivial, (off_false c23), trivial, trivial, trivial, (off_false c24), trivial, trivial, trivial, trivial, trivial, trivial⟩ ?_
                      exact joinQ_leaf (decide ((p1.getD x8.toNat 0) > 1000)) h (conv_ren [(0, 0)] [1, 6, 7, 8, 9, 24, 25, 26, 48] (n := 1) (by kernel_rfl) (by kernel_rfl))
          · rw [if_neg (by rw [c10]; exact Bool.false_ne_true)] at h
            refine AW.exit ?_
            refine AW.thenQ_exit ?_
            obtain rfl := some_inj h
            refine loopQ_out rfl (conv_ren [(0, 0)] [6] (n := 1) (by kernel_rfl) (by kernel_rfl))
        ·
          show (_ : Exit → St → Prop) (.exit 0) ⟨[(6, .c (.ref 0 1 0 x25.length))], [(0, .row 3 false 1 x25.length (Ri64 x25))], 1⟩
          refine AW.inBlock_hit ?_
          refine AW.thenQ_normal ?_
          refine AW.seq ?_
          obtain ⟨y26, y27, e28, h⟩ := bind2_some h
          refine AW.reg tt_ok2 [4, 5] [] [{}, { call := some { ids := [], frz := [], flat := true, cnt := 0, args := [.c (.t (.tree x25.length 1 (Ri64 x25)))], out := .tup [.c (.t (.v (.int .i64 y26))), .c (.t (.v (.int .i64 y27)))], outb := [] } }] ⟨[(5, .c (.t (.v (.int .i64 y27)))), (4, .c (.t (.v (.int .i64 y26))))], [], 6⟩ [True, ((0 + x25.length ≤ x25.length) ∧ (True)) ∧ (All2 ArgLe [.c (.t (.tree x25.length 1 (Ri64 x25)))] [.c (.t (.tree x25.length 1 (Ri64 x25)))]) ∧ ((true = true → flatB [])) ∧ (Con Try.prog 28 [.c (.t (.tree x25.length 1 (Ri64 x25)))] [] (.tup [.c (.t (.v (.int .i64 y26))), .c (.t (.v (.int .i64 y27)))]) []), True, True, True, True] (by kernel_rfl) (by kernel_rfl) ⟨trivial, ⟨⟨le0, trivial⟩, ⟨ArgLe.refl _, trivial⟩, (fun _ => trivial), (similarity_Number_con x25 y26 y27 e28)⟩, trivial, trivial, trivial, trivial, trivial⟩ ?_
          refine AW.thenQ_normal ?_
          refine AW.ret ?_
          obtain rfl := some_inj h
          exact ⟨_, Conv.refl _ _, .inr rfl, OutOk.mk [] 0 (out0 := .tup [.c (.t (.v (.int .i64 y26))), .c (.t (.v (.int .i64 y27)))]) (ps := [True, True]) (by kernel_rfl) ⟨trivial, trivial, trivial⟩ (by kernel_rfl) (by kernel_rfl)⟩
      ·
        replace h : similarity_Pattern_a82 = some r := h
        unfold similarity_Pattern_a82 at h
        refine AW.pre (S' := ((fun v => ⟨[(1, .c (.t (.tree p1.length 1 (Ri64 p1)))), (6, .c (.ref 0 1 0 v.1.length)), (24, .c (.t (.tree p0.length 1 (Ri64 p0)))), (25, .c (.t (.v (.int .i64 ((p0.length : Nat) : Int))))), (26, .c (.t (.v (.int .i64 v.2))))], [(0, .row 3 false 1 v.1.length (Ri64 v.1))], 1⟩) : ((List Int) × Int) → St) ((List.replicate (((p0.length : Nat) : Int).toNat) (0 : Int)), 0)) (conv_ren [(0, 2)] [1, 6, 24, 25, 26] (n := 1) (by kernel_rfl) (by kernel_rfl)) ?_
        refine AW.loop2 (step := (fun v : (List Int) × Int => similarity_Pattern_l71 p0 p1 v.1 v.2)) (s0 := ((List.replicate (((p0.length : Nat) : Int).toNat) (0 : Int)), 0)) (t := .inr ()) (fun v => ⟨[(1, .c (.t (.tree p1.length 1 (Ri64 p1)))), (6, .c (.ref 0 1 0 v.1.length)), (24, .c (.t (.tree p0.length 1 (Ri64 p0)))), (25, .c (.t (.v (.int .i64 ((p0.length : Nat) : Int))))), (26, .c (.t (.v (.int .i64 v.2))))], [(0, .row 3 false 1 v.1.length (Ri64 v.1))], 1⟩) (fun t : ((List Int) ⊕ Unit) => match t with | .inl t => (.exit 0, ⟨[(6, .c (.ref 0 1 0 t.length))], [(0, .row 3 false 1 t.length (Ri64 t))], 1⟩) | .inr t => (.ret, ⟨[(4, .c (.t (.v (.int .i64 0)))), (5, .c (.t (.v (.int .i64 2))))], [], 0⟩)) l29 (fun t => by cases t <;> trivial) ?_ ?_
        ·
          clear l29 h
          intro v o h
          obtain ⟨x7, x8⟩ := v
          replace h : similarity_Pattern_l71 p0 p1 x7 x8 = some o := h
          unfold similarity_Pattern_l71 at h
          show AW _ ⟨[(1, .c (.t (.tree p1.length 1 (Ri64 p1)))), (6, .c (.ref 0 1 0 x7.length)), (24, .c (.t (.tree p0.length 1 (Ri64 p0)))), (25, .c (.t (.v (.int .i64 ((p0.length : Nat) : Int))))), (26, .c (.t (.v (.int .i64 x8))))], [(0, .row 3 false 1 x7.length (Ri64 x7))], 1⟩ _ _
          refine AW.seq ?_
          refine AW.reg tt_ok2 [1, 6, 24, 25, 26, 27] [0] [] ⟨[(27, .c (.t (.v (.bool (decide (x8 < ((p0.length : Nat) : Int))))))), (1, .c (.t (.tree p1.length 1 (Ri64 p1)))), (6, .c (.ref 0 1 0 x7.length)), (24, .c (.t (.tree p0.length 1 (Ri64 p0)))), (25, .c (.t (.v (.int .i64 ((p0.length : Nat) : Int))))), (26, .c (.t (.v (.int .i64 x8))))], [(0, .row 3 false 1 x7.length (Ri64 x7))], 2⟩ [True] (by kernel_rfl) (by kernel_rfl) ⟨trivial, trivial⟩ ?_
          refine AW.thenQ_normal ?_
          refine AW.seq ?_
          refine AW.cond (b := decide (x8 < ((p0.length : Nat) : Int))) (by kernel_rfl) (fun c10 => ?_) (fun c10 => ?_)
          · rw [if_pos c10] at h
            refine AW.skip ?_
            refine AW.thenQ_normal ?_
            refine AW.seq ?_
            refine AW.join (ι := List Int) (fun v => ⟨[(1, .c (.t (.tree p1.length 1 (Ri64 p1)))), (6, .c (.ref 0 1 0 v.length)), (24, .c (.t (.tree p0.length 1 (Ri64 p0)))), (25, .c (.t (.v (.int .i64 ((p0.length : Nat) : Int))))), (26, .c (.t (.v (.int .i64 x8))))], [(0, .row 3 false 1 v.length (Ri64 v))], 1⟩) (fun v : List Int => similarity_Pattern_k76 x8 v = some o) (fun v h => ?_) ?_
            ·
              obtain ⟨x11, rfl⟩ : ∃ x, x = v := ⟨_, rfl⟩
              replace h : similarity_Pattern_k76 x8 x11 = some o := h
              unfold similarity_Pattern_k76 at h
              show (_ : Exit → St → Prop) .normal ⟨[(1, .c (.t (.tree p1.length 1 (Ri64 p1)))), (6, .c (.ref 0 1 0 x11.length)), (24, .c (.t (.tree p0.length 1 (Ri64 p0)))), (25, .c (.t (.v (.int .i64 ((p0.length : Nat) : Int))))), (26, .c (.t (.v (.int .i64 x8))))], [(0, .row 3 false 1 x11.length (Ri64 x11))], 1⟩
              refine AW.thenQ_normal ?_
              refine AW.reg tt_ok2 [1, 6, 24, 25, 26] [0] [] ⟨[(26, .c (.t (.v (.int .i64 (IntKind.i64.wrap (x8 + 1)))))), (1, .c (.t (.tree p1.length 1 (Ri64 p1)))), (6, .c (.ref 0 1 0 x11.length)), (24, .c (.t (.tree p0.length 1 (Ri64 p0)))), (25, .c (.t (.v (.int .i64 ((p0.length : Nat) : Int)))))], [(0, .row 3 false 1 x11.length (Ri64 x11))], 3⟩ [True, True] (by kernel_rfl) (by kernel_rfl) ⟨trivial, trivial, trivial⟩ ?_
              obtain rfl := some_inj h
              refine loopQ_next (conv_ren [(0, 0)] [1, 6, 24, 25, 26] (n := 1) (by kernel_rfl) (by kernel_rfl))
            ·
              refine AW.block ?_
              refine AW.seq ?_
              obtain ⟨g12, h⟩ := ifc h
              obtain ⟨g13, h⟩ := ifc h
              refine AW.reg tt_ok2 [1, 6, 7, 8, 24, 25, 26] [0] [] ⟨[(8, .c (.t (.v (.int .i64 (p0.getD x8.toNat 0))))), (7, .c (.t (.v (.int .i64 x8)))), (1, .c (.t (.tree p1.length 1 (Ri64 p1)))), (6, .c (.ref 0 1 0 x7.length)), (24, .c (.t (.tree p0.length 1 (Ri64 p0)))), (25, .c (.t (.v (.int .i64 ((p0.length : Nat) : Int))))), (26, .c (.t (.v (.int .i64 x8))))], [(0, .row 3 false 1 x7.length (Ri64 x7))], 7⟩ [True, (0 ≤ x8) ∧ (x8 < ((p0.length : Nat) : Int)), True, True, True] (by kernel_rfl) (by kernel_rfl) ⟨trivial, ⟨g12, g13⟩, trivial, trivial, trivial, trivial⟩ ?_
              refine AW.thenQ_normal ?_
              refine AW.seq ?_
              obtain ⟨g14, h⟩ := ifc h
              refine AW.reg tt_ok2 [1, 6, 7, 8, 9, 24, 25, 26] [0] [] ⟨[(9, .c (.t (.v (.int .i64 (p1.getD x8.toNat 0))))), (8, .c (.t (.v (.int .i64 (p0.getD x8.toNat 0))))), (7, .c (.t (.v (.int .i64 x8)))), (1, .c (.t (.tree p1.length 1 (Ri64 p1)))), (6, .c (.ref 0 1 0 x7.length)), (24, .c (.t (.tree p0.length 1 (Ri64 p0)))), (25, .c (.t (.v (.int .i64 ((p0.length : Nat) : Int))))), (26, .c (.t (.v (.int .i64 x8))))], [(0, .row 3 false 1 x7.length (Ri64 x7))], 12⟩ [True, True, (0 ≤ x8) ∧ (x8 < ((p1.length : Nat) : Int)), True, True] (by kernel_rfl) (by kernel_rfl) ⟨trivial, trivial, ⟨g12, g14⟩, trivial, trivial, trivial⟩ ?_
              refine AW.thenQ_normal ?_
              refine AW.seq ?_
              refine AW.seq ?_
              refine AW.join (ι := Bool) (fun v => ⟨[(1, .c (.t (.tree p1.length 1 (Ri64 p1)))), (6, .c (.ref 0 1 0 x7.length)), (7, .c (.t (.v (.int .i64 x8)))), (8, .c (.t (.v (.int .i64 (p0.getD x8.toNat 0))))), (9, .c (.t (.v (.int .i64 (p1.getD x8.toNat 0))))), (24, .c (.t (.tree p0.length 1 (Ri64 p0)))), (25, .c (.t (.v (.int .i64 ((p0.length : Nat) : Int))))), (26, .c (.t (.v (.int .i64 x8)))), (48, .c (.t (.v (.bool v))))], [(0, .row 3 false 1 x7.length (Ri64 x7))], 1⟩) (fun v : Bool => similarity_Pattern_k80 p0 p1 x7 x8 v = some o) (fun v h => ?_) ?_
              ·
                obtain ⟨x15, rfl⟩ : ∃ x, x = v := ⟨_, rfl⟩
                replace h : similarity_Pattern_k80 p0 p1 x7 x8 x15 = some o := h
                unfold similarity_Pattern_k80 at h
                show (_ : Exit → St → Prop) .normal ⟨[(1, .c (.t (.tree p1.length 1 (Ri64 p1)))), (6, .c (.ref 0 1 0 x7.length)), (7, .c (.t (.v (.int .i64 x8)))), (8, .c (.t (.v (.int .i64 (p0.getD x8.toNat 0))))), (9, .c (.t (.v (.int .i64 (p1.getD x8.toNat 0))))), (24, .c (.t (.tree p0.length 1 (Ri64 p0)))), (25, .c (.t (.v (.int .i64 ((p0.length : Nat) : Int))))), (26, .c (.t (.v (.int .i64 x8)))), (48, .c (.t (.v (.bool x15))))], [(0, .row 3 false 1 x7.length (Ri64 x7))], 1⟩
                refine AW.thenQ_normal ?_
                refine AW.cond (b := x15) (by kernel_rfl) (fun c16 => ?_) (fun c16 => ?_)
                · rw [if_pos c16] at h
                  refine AW.seq ?_
                  refine AW.reg tt_ok2 [4, 5] [] [] ⟨[(5, .c (.t (.v (.int .i64 2)))), (4, .c (.t (.v (.int .i64 0))))], [], 3⟩ [True, True] (by kernel_rfl) (by kernel_rfl) ⟨trivial, trivial, trivial⟩ ?_
                  refine AW.thenQ_normal ?_
                  refine AW.ret ?_
                  refine AW.thenQ_ret ?_
                  refine AW.inBlock_ret ?_
                  refine joinQ_ret ?_
                  refine AW.thenQ_ret ?_
                  obtain rfl := some_inj h
                  refine loopQ_out rfl (conv_ren [] [4, 5] (n := 0) (by kernel_rfl) (by kernel_rfl))
                · rw [if_neg (by rw [c16]; exact Bool.false_ne_true)] at h
                  refine AW.skip ?_
                  refine AW.thenQ_normal ?_
                  refine AW.block ?_
                  refine AW.seq ?_
                  refine AW.reg tt_ok2 [1, 6, 7, 8, 9, 24, 25, 26, 52] [0] [] ⟨[(52, .c (.t (.v (.bool (decide ((p1.getD x8.toNat 0) < 0)))))), (1, .c (.t (.tree p1.length 1 (Ri64 p1)))), (6, .c (.ref 0 1 0 x7.length)), (7, .c (.t (.v (.int .i64 x8)))), (8, .c (.t (.v (.int .i64 (p0.getD x8.toNat 0))))), (9, .c (.t (.v (.int .i64 (p1.getD x8.toNat 0))))), (24, .c (.t (.tree p0.length 1 (Ri64 p0)))), (25, .c (.t (.v (.int .i64 ((p0.length : Nat) : Int))))), (26, .c (.t (.v (.int .i64 x8))))], [(0, .row 3 false 1 x7.length (Ri64 x7))], 4⟩ [True, True, True] (by kernel_rfl) (by kernel_rfl) ⟨trivial, trivial, trivial, trivial⟩ ?_
                  refine AW.thenQ_normal ?_
                  refine AW.cond (b := decide ((p1.getD x8.toNat 0) < 0)) (by kernel_rfl) (fun c17 => ?_) (fun c17 => ?_)
                  · rw [if_pos c17] at h
                    obtain ⟨g18, h⟩ := ifc h
                    refine AW.reg tt_ok2 [1, 6, 24, 25, 26] [0] [{}, {}, {}, { h := { row := some (x7.length, Ri64 (x7.set (0 + x8.toNat) 0)) } }] ⟨[(1, .c (.t (.tree p1.length 1 (Ri64 p1)))), (6, .c (.ref 0 1 0 x7.length)), (24, .c (.t (.tree p0.length 1 (Ri64 p0)))), (25, .c (.t (.v (.int .i64 ((p0.length : Nat) : Int))))), (26, .c (.t (.v (.int .i64 x8))))], [(0, .row 3 false 1 x7.length (Ri64 (x7.set (0 + x8.toNat) 0)))], 8⟩ [True, True, (0 ≤ x8) ∧ (x8 < ((x7.length : Nat) : Int)), ((0 + x8.toNat) < x7.length) ∧ (x7.length = x7.length ∧ ∀ i, i < x7.length → ∀ j, j < 1 → TLe (updRow (Ri64 x7) (0 + x8.toNat) 0 [.v (.int .i64 0)] i j) (Ri64 (x7.set (0 + x8.toNat) 0) i j))] (by kernel_rfl) (by kernel_rfl) ⟨trivial, trivial, ⟨g12, g18⟩, ⟨(by have h1 : 0 ≤ x8 := g12; have h2 : x8 < ((x7.length : Nat) : Int) := g18; omega), set_rowN rfl (by have h1 : 0 ≤ x8 := g12; have h2 : x8 < ((x7.length : Nat) : Int) := g18; omega) (fun j hj => match j, hj with | 0, _ => TLe.refl _ | _ + 1, h => absurd h (by omega))⟩, trivial⟩ ?_
                    refine AW.inBlock_normal ?_
                    refine AW.inBlock_normal ?_
                    exact joinQ_leaf ((x7.set (0 + x8.toNat) 0)) h (Conv.trans (conv_len (S' := ⟨[(1, .c (.t (.tree p1.length 1 (Ri64 p1)))), (6, .c (.ref 0 1 0 ((x7.set (0 + x8.toNat) 0).length))), (24, .c (.t (.tree p0.length 1 (Ri64 p0)))), (25, .c (.t (.v (.int .i64 ((p0.length : Nat) : Int))))), (26, .c (.t (.v (.int .i64 x8))))], [(0, .row 3 false 1 (x7.set (0 + x8.toNat) 0).length (Ri64 (x7.set (0 + x8.toNat) 0)))], 8⟩) (by simp only [List.length_set])) (conv_ren [(0, 0)] [1, 6, 24, 25, 26] (n := 1) (by kernel_rfl) (by kernel_rfl)))
                  · rw [if_neg (by rw [c17]; exact Bool.false_ne_true)] at h
                    refine AW.seq ?_
                    refine AW.reg tt_ok2 [1, 6, 7, 24, 25, 26, 58] [0] [] ⟨[(58, .c (.t (.v (.bool (decide ((p1.getD x8.toNat 0) < (p0.getD x8.toNat 0))))))), (1, .c (.t (.tree p1.length 1 (Ri64 p1)))), (6, .c (.ref 0 1 0 x7.length)), (7, .c (.t (.v (.int .i64 x8)))), (24, .c (.t (.tree p0.length 1 (Ri64 p0)))), (25, .c (.t (.v (.int .i64 ((p0.length : Nat) : Int))))), (26, .c (.t (.v (.int .i64 x8))))], [(0, .row 3 false 1 x7.length (Ri64 x7))], 8⟩ [True, True, True, True] (by kernel_rfl) (by kernel_rfl) ⟨trivial, trivial, trivial, trivial, trivial⟩ ?_
                    refine AW.thenQ_normal ?_
                    refine AW.cond (b := decide ((p1.getD x8.toNat 0) < (p0.getD x8.toNat 0))) (by kernel_rfl) (fun c19 => ?_) (fun c19 => ?_)
                    · rw [if_pos c19] at h
                      obtain ⟨g20, h⟩ := ifc h
                      refine AW.reg tt_ok2 [1, 6, 24, 25, 26] [0] [{}, {}, {}, { h := { row := some (x7.length, Ri64 (x7.set (0 + x8.toNat) 1)) } }] ⟨[(1, .c (.t (.tree p1.length 1 (Ri64 p1)))), (6, .c (.ref 0 1 0 x7.length)), (24, .c (.t (.tree p0.length 1 (Ri64 p0)))), (25, .c (.t (.v (.int .i64 ((p0.length : Nat) : Int))))), (26, .c (.t (.v (.int .i64 x8))))], [(0, .row 3 false 1 x7.length (Ri64 (x7.set (0 + x8.toNat) 1)))], 12⟩ [True, True, (0 ≤ x8) ∧ (x8 < ((x7.length : Nat) : Int)), ((0 + x8.toNat) < x7.length) ∧ (x7.length = x7.length ∧ ∀ i, i < x7.length → ∀ j, j < 1 → TLe (updRow (Ri64 x7) (0 + x8.toNat) 0 [.v (.int .i64 1)] i j) (Ri64 (x7.set (0 + x8.toNat) 1) i j))] (by kernel_rfl) (by kernel_rfl) ⟨trivial, trivial, ⟨g12, g20⟩, ⟨(by have h1 : 0 ≤ x8 := g12; have h2 : x8 < ((x7.length : Nat) : Int) := g20; omega), set_rowN rfl (by have h1 : 0 ≤ x8 := g12; have h2 : x8 < ((x7.length : Nat) : Int) := g20; omega) (fun j hj => match j, hj with | 0, _ => TLe.refl _ | _ + 1, h => absurd h (by omega))⟩, trivial⟩ ?_
                      refine AW.inBlock_normal ?_
                      refine AW.inBlock_normal ?_
                      exact joinQ_leaf ((x7.set (0 + x8.toNat) 1)) h (Conv.trans (conv_len (S' := ⟨[(1, .c (.t (.tree p1.length 1 (Ri64 p1)))), (6, .c (.ref 0 1 0 ((x7.set (0 + x8.toNat) 1).length))), (24, .c (.t (.tree p0.length 1 (Ri64 p0)))), (25, .c (.t (.v (.int .i64 ((p0.length : Nat) : Int))))), (26, .c (.t (.v (.int .i64 x8))))], [(0, .row 3 false 1 (x7.set (0 + x8.toNat) 1).length (Ri64 (x7.set (0 + x8.toNat) 1)))], 12⟩) (by simp only [List.length_set])) (conv_ren [(0, 0)] [1, 6, 24, 25, 26] (n := 1) (by kernel_rfl) (by kernel_rfl)))
                    · rw [if_neg (by rw [c19]; exact Bool.false_ne_true)] at h
                      obtain ⟨g21, h⟩ := ifc h
                      refine AW.reg tt_ok2 [1, 6, 24, 25, 26] [0] [{}, {}, {}, { h := { row := some (x7.length, Ri64 (x7.set (0 + x8.toNat) 2)) } }] ⟨[(1, .c (.t (.tree p1.length 1 (Ri64 p1)))), (6, .c (.ref 0 1 0 x7.length)), (24, .c (.t (.tree p0.length 1 (Ri64 p0)))), (25, .c (.t (.v (.int .i64 ((p0.length : Nat) : Int))))), (26, .c (.t (.v (.int .i64 x8))))], [(0, .row 3 false 1 x7.length (Ri64 (x7.set (0 + x8.toNat) 2)))], 12⟩ [True, True, (0 ≤ x8) ∧ (x8 < ((x7.length : Nat) : Int)), ((0 + x8.toNat) < x7.length) ∧ (x7.length = x7.length ∧ ∀ i, i < x7.length → ∀ j, j < 1 → TLe (updRow (Ri64 x7) (0 + x8.toNat) 0 [.v (.int .i64 2)] i j) (Ri64 (x7.set (0 + x8.toNat) 2) i j))] (by kernel_rfl) (by kernel_rfl) ⟨trivial, trivial, ⟨g12, g21⟩, ⟨(by have h1 : 0 ≤ x8 := g12; have h2 : x8 < ((x7.length : Nat) : Int) := g21; omega), set_rowN rfl (by have h1 : 0 ≤ x8 := g12; have h2 : x8 < ((x7.length : Nat) : Int) := g21; omega) (fun j hj => match j, hj with | 0, _ => TLe.refl _ | _ + 1, h => absurd h (by omega))⟩, trivial⟩ ?_
                      refine AW.inBlock_normal ?_
                      refine AW.inBlock_normal ?_
                      exact joinQ_leaf ((x7.set (0 + x8.toNat) 2)) h (Conv.trans (conv_len (S' := ⟨[(1, .c (.t (.tree p1.length 1 (Ri64 p1)))), (6, .c (.ref 0 1 0 ((x7.set (0 + x8.toNat) 2).length))), (24, .c (.t (.tree p0.length 1 (Ri64 p0)))), (25, .c (.t (.v (.int .i64 ((p0.length : Nat) : Int))))), (26, .c (.t (.v (.int .i64 x8))))], [(0, .row 3 false 1 (x7.set (0 + x8.toNat) 2).length (Ri64 (x7.set (0 + x8.toNat) 2)))], 12⟩) (by simp only [List.length_set])) (conv_ren [(0, 0)] [1, 6, 24, 25, 26] (n := 1) (by kernel_rfl) (by kernel_rfl)))
              ·
                by_cases c22 : (decide ((p0.getD x8.toNat 0) < 0)) = true
                · rw [if_pos c22] at h
                  refine AW.reg tt_ok2 [1, 6, 7, 8, 9, 24, 25, 26, 38, 39, 42, 43, 46, 47, 48] [0] [{}, { h := { b := some true } }] ⟨[(48, .c (.t (.v (.bool true)))), (47, .tup []), (46, .tup []), (43, .tup []), (42, .tup []), (39, .tup []), (38, .tup []), (9, .c (.t (.v (.int .i64 (p1.getD x8.toNat 0))))), (8, .c (.t (.v (.int .i64 (p0.getD x8.toNat 0))))), (7, .c (.t (.v (.int .i64 x8)))), (1, .c (.t (.tree p1.length 1 (Ri64 p1)))), (6, .c (.ref 0 1 0 x7.length)), (24, .c (.t (.tree p0.length 1 (Ri64 p0)))), (25, .c (.t (.v (.int .i64 ((p0.length : Nat) : Int))))), (26, .c (.t (.v (.int .i64 x8))))], [(0, .row 3 false 1 x7.length (Ri64 x7))], 26⟩ [True, (decide ((p0.getD x8.toNat 0) < 0)) = true, True, True, True, True, True, True, True, True, True, True, True, True] (by kernel_rfl) (by kernel_rfl) ⟨trivial, c22, trivial, trivial, trivial, trivial, trivial, trivial, trivial, trivial, trivial, trivial, trivial, trivial, trivial⟩ ?_
                  exact joinQ_leaf (true) h (conv_ren [(0, 0)] [1, 6, 7, 8, 9, 24, 25, 26, 48] (n := 1) (by kernel_rfl) (by kernel_rfl))
                · rw [if_neg c22] at h
                  by_cases c23 : (decide ((p0.getD x8.toNat 0) > 1000)) = true
                  · rw [if_pos c23] at h
                    refine AW.reg tt_ok2 [1, 6, 7, 8, 9, 24, 25, 26, 38, 39, 42, 43, 46, 47, 48] [0] [{}, { h := { b := some false } }, {}, {}, { h := { b := some true } }] ⟨[(48, .c (.t (.v (.bool true)))), (47, .tup []), (46, .tup []), (43, .tup []), (42, .tup []), (39, .c (.t (.v (.bool true)))), (38, .c (.t (.v (.int .i64 (p0.getD x8.toNat 0))))), (9, .c (.t (.v (.int .i64 (p1.getD x8.toNat 0))))), (8, .c (.t (.v (.int .i64 (p0.getD x8.toNat 0))))), (7, .c (.t (.v (.int .i64 x8)))), (1, .c (.t (.tree p1.length 1 (Ri64 p1)))), (6, .c (.ref 0 1 0 x7.length)), (24, .c (.t (.tree p0.length 1 (Ri64 p0)))), (25, .c (.t (.v (.int .i64 ((p0.length : Nat) : Int))))), (26, .c (.t (.v (.int .i64 x8))))], [(0, .row 3 false 1 x7.length (Ri64 x7))], 26⟩ [True, (decide ((p0.getD x8.toNat 0) < 0)) = false, True, True, (decide ((p0.getD x8.toNat 0) > 1000)) = true, True, True, True, True, True, True, True, True, True] (by kernel_rfl) (by kernel_rfl) ⟨trivial, (off_false c22), trivial, trivial, c23, trivial, trivial, trivial, trivial, trivial, trivial, trivial, trivial, trivial, trivial⟩ ?_
                    exact joinQ_leaf (true) h (conv_ren [(0, 0)] [1, 6, 7, 8, 9, 24, 25, 26, 48] (n := 1) (by kernel_rfl) (by kernel_rfl))
                  · rw [if_neg c23] at h
                    by_cases c24 : (decide ((p1.getD x8.toNat 0) < (-1))) = true
                    · rw [if_pos c24] at h
                      refine AW.reg tt_ok2 [1, 6, 7, 8, 9, 24, 25, 26, 38, 39, 42, 43, 46, 47, 48] [0] [{}, { h := { b := some false } }, {}, {}, { h := { b := some false } }, {}, {}, {}, { h := { b := some true } }] ⟨[(48, .c (.t (.v (.bool true)))), (47, .tup []), (46, .tup []), (43, .c (.t (.v (.bool true)))), (42, .c (.t (.v (.int .i64 (p1.getD x8.toNat 0))))), (39, .c (.t (.v (.bool false)))), (38, .c (.t (.v (.int .i64 (p0.getD x8.toNat 0))))), (9, .c (.t (.v (.int .i64 (p1.getD x8.toNat 0))))), (8, .c (.t (.v (.int .i64 (p0.getD x8.toNat 0))))), (7, .c (.t (.v (.int .i64 x8)))), (1, .c (.t (.tree p1.length 1 (Ri64 p1)))), (6, .c (.ref 0 1 0 x7.length)), (24, .c (.t (.tree p0.length 1 (Ri64 p0)))), (25, .c (.t (.v (.int .i64 ((p0.length : Nat) : Int))))), (26, .c (.t (.v (.int .i64 x8))))], [(0, .row 3 false 1 x7.length (Ri64 x7))], 26⟩ [True, (decide ((p0.getD x8.toNat 0) < 0)) = false, True, True, (decide ((p0.getD x8.toNat 0) > 1000)) = false, True, True, True, (decide ((p1.getD x8.toNat 0) < (-1))) = true, True, True, True, True, True] (by kernel_rfl) (by kernel_rfl) ⟨trivial, (off_false c22), trivial, trivial, (off_false c23), trivial, trivial, trivial, c24, trivial, trivial, trivial, trivial, trivial, trivial⟩ ?_
                      exact joinQ_leaf (true) h (conv_ren [(0, 0)] [1, 6, 7, 8, 9, 24, 25, 26, 48] (n := 1) (by kernel_rfl) (by kernel_rfl))
                    · rw [if_neg c24] at h
                      refine AW.reg tt_ok2 [1, 6, 7, 8, 9, 24, 25, 26, 38, 39, 42, 43, 46, 47, 48] [0] [{}, { h := { b := some false } }, {}, {}, { h := { b := some false } }, {}, {}, {}, { h := { b := some false } }] ⟨[(48, .c (.t (.v (.bool (decide ((p1.getD x8.toNat 0) > 1000)))))), (47, .c (.t (.v (.bool (decide ((p1.getD x8.toNat 0) > 1000)))))), (46, .c (.t (.v (.int .i64 (p1.getD x8.toNat 0))))), (43, .c (.t (.v (.bool false)))), (42, .c (.t (.v (.int .i64 (p1.getD x8.toNat 0))))), (39, .c (.t (.v (.bool false)))), (38, .c (.t (.v (.int .i64 (p0.getD x8.toNat 0))))), (9, .c (.t (.v (.int .i64 (p1.getD x8.toNat 0))))), (8, .c (.t (.v (.int .i64 (p0.getD x8.toNat 0))))), (7, .c (.t (.v (.int .i64 x8)))), (1, .c (.t (.tree p1.length 1 (Ri64 p1)))), (6, .c (.ref 0 1 0 x7.length)), (24, .c (.t (.tree p0.length 1 (Ri64 p0)))), (25, .c (.t (.v (.int .i64 ((p0.length : Nat) : Int))))), (26, .c (.t (.v (.int .i64 x8))))], [(0, .row 3 false 1 x7.length (Ri64 x7))], 26⟩ [True, (decide ((p0.getD x8.toNat 0) < 0)) = false, True, True, (decide ((p0.getD x8.toNat 0) > 1000)) = false, True, True, True, (decide ((p1.getD x8.toNat 0) < (-1))) = false, True, True, True, True, True] (by kernel_rfl) (by kernel_rfl) ⟨trivial, (off_false c22), trivial, trivial, (off_false c23), trivial, trivial, trivial, (off_false c24), trivial, trivial, trivial, trivial, trivial, trivial⟩ ?_
                      exact joinQ_leaf (decide ((p1.getD x8.toNat 0) > 1000)) h (conv_ren [(0, 0)] [1, 6, 7, 8, 9, 24, 25, 26, 48] (n := 1) (by kernel_rfl) (by kernel_rfl))
          · rw [if_neg (by rw [c10]; exact Bool.false_ne_true)] at h
            refine AW.exit ?_
            refine AW.thenQ_exit ?_
            obtain rfl := some_inj h
            refine loopQ_out rfl (conv_ren [(0, 0)] [6] (n := 1) (by kernel_rfl) (by kernel_rfl))
        ·
          show (_ : Exit → St → Prop) (.ret) ⟨[(4, .c (.t (.v (.int .i64 0)))), (5, .c (.t (.v (.int .i64 2))))], [], 0⟩
          refine AW.inBlock_ret ?_
          refine AW.thenQ_ret ?_
          obtain rfl := some_inj h
          exact ⟨_, Conv.refl _ _, .inr rfl, OutOk.mk [] 0 (out0 := .tup [.c (.t (.v (.int .i64 0))), .c (.t (.v (.int .i64 2)))]) (ps := [True, True]) (by kernel_rfl) ⟨trivial, trivial, trivial⟩ (by kernel_rfl) (by kernel_rfl)⟩
  ·
    by_cases c30 : (((p0.length : Nat) : Int) != ((p1.length : Nat) : Int)) = true
    · rw [if_pos c30] at h
      refine AW.reg tt_ok2 [0, 1, 20] [] [{}, {}, {}, {}, { h := { b := some true } }] ⟨[(20, .c (.t (.v (.bool true)))), (0, .c (.t (.tree p0.length 1 (Ri64 p0)))), (1, .c (.t (.tree p1.length 1 (Ri64 p1))))], [], 13⟩ [True, True, True, True, (((p0.length : Nat) : Int) != ((p1.length : Nat) : Int)) = true, True, True, True, True, True, True] (by kernel_rfl) (by kernel_rfl) ⟨trivial, trivial, trivial, trivial, c30, trivial, trivial, trivial, trivial, trivial, trivial, trivial⟩ ?_
      exact joinQ_leaf (true) h (conv_ren [] [0, 1, 20] (n := 0) (by kernel_rfl) (by kernel_rfl))
    · rw [if_neg c30] at h
      obtain ⟨y31, e32, h⟩ := bnd_some h
      refine AW.reg tt_ok2 [0, 1, 20] [] [{}, {}, {}, {}, { h := { b := some false } }, {}, {}, {}, { call := some { ids := [], frz := [], flat := true, cnt := 0, args := [.c (.t (.v (.int .i64 ((p0.length : Nat) : Int))))], out := .c (.t (.v (.bool y31))), outb := [] } }] ⟨[(20, .c (.t (.v (.bool (!y31))))), (0, .c (.t (.tree p0.length 1 (Ri64 p0)))), (1, .c (.t (.tree p1.length 1 (Ri64 p1))))], [], 12⟩ [True, True, True, True, (((p0.length : Nat) : Int) != ((p1.length : Nat) : Int)) = false, True, True, True, ((True) ∧ (True)) ∧ (All2 ArgLe [.c (.t (.v (.int .i64 ((p0.length : Nat) : Int))))] [.c (.t (.v (.int .i64 ((p0.length : Nat) : Int))))]) ∧ ((true = true → flatB [])) ∧ (Con Try.prog 56 [.c (.t (.v (.int .i64 ((p0.length : Nat) : Int))))] [] (.c (.t (.v (.bool y31)))) []), True, True] (by kernel_rfl) (by kernel_rfl) ⟨trivial, trivial, trivial, trivial, (off_false c30), trivial, trivial, trivial, ⟨⟨trivial, trivial⟩, ⟨ArgLe.refl _, trivial⟩, (fun _ => trivial), (similarity_fields_con ((p0.length : Nat) : Int) y31 e32)⟩, trivial, trivial, trivial⟩ ?_
      exact joinQ_leaf (!y31) h (conv_ren [] [0, 1, 20] (n := 0) (by kernel_rfl) (by kernel_rfl))
/-! (*recordlink/recordlinkmake.Deck).One -/
noncomputable def rl_make_Deck_One (p0 : S_recordlinkmake_Deck) (p1 : Int) : Option (Bool × S_recordlinkmake_Deck) := bind2 (rl_make_Deck_Next p0 p1) fun y1 y2 => (some ((y1 == 0), y2))
set_option maxRecDepth 100000 in
set_option maxHeartbeats 10000000 in
theorem rl_make_Deck_One_con (p0 : S_recordlinkmake_Deck) (p1 : Int) (r0 : Bool) (r1 : S_recordlinkmake_Deck) (h : rl_make_Deck_One p0 p1 = some (r0, r1)) : Con Try.prog 34 [.c (.ptr 0 3 0 0), .c (.t (.v (.int .i64 p1)))] [(0, .box 66 [.t (.tree p0.list.length 1 (Ri64 p0.list)), .t (.v (.int .i64 p0.at_)), .t (.v (.int .u64 p0.state))])] (.c (.t (.v (.bool r0)))) [(0, .box 66 [.t (.tree r1.list.length 1 (Ri64 r1.list)), .t (.v (.int .i64 r1.at_)), .t (.v (.int .u64 r1.state))])] := by
  suffices H : ∀ r, rl_make_Deck_One p0 p1 = some r → Con Try.prog 34 [.c (.ptr 0 3 0 0), .c (.t (.v (.int .i64 p1)))] [(0, .box 66 [.t (.tree p0.list.length 1 (Ri64 p0.list)), .t (.v (.int .i64 p0.at_)), .t (.v (.int .u64 p0.state))])] (.c (.t (.v (.bool r.1)))) [(0, .box 66 [.t (.tree r.2.list.length 1 (Ri64 r.2.list)), .t (.v (.int .i64 r.2.at_)), .t (.v (.int .u64 r.2.state))])] from H (r0, r1) h
  clear h
  intro r h
  refine con_of tt_ok2 1 Try.func34 (by kernel_rfl) rfl (by kernel_rfl) (fun base X hk => AW.post ?_)
  unfold rl_make_Deck_One at h
  refine AW.seq ?_
  refine AW.reg tt_ok2 [0, 1] [0] [] ⟨[(0, .c (.ptr 0 3 0 0)), (1, .c (.t (.v (.int .i64 p1))))], [(0, .box 66 [.t (.tree p0.list.length 1 (Ri64 p0.list)), .t (.v (.int .i64 p0.at_)), .t (.v (.int .u64 p0.state))])], 2⟩ [True] (by kernel_rfl) (by kernel_rfl) ⟨trivial, trivial⟩ ?_
  refine AW.thenQ_normal ?_
  refine AW.seq ?_
  obtain ⟨y1, y2, e3, h⟩ := bind2_some h
  refine AW.reg tt_ok2 [4] [0] [{}, {}, { call := some { ids := [0], frz := [], flat := false, cnt := 0, args := [.c (.ptr 0 3 0 0), .c (.t (.v (.int .i64 p1)))], out := .c (.t (.v (.int .i64 y1))), outb := [(0, .box 66 [.t (.tree y2.list.length 1 (Ri64 y2.list)), .t (.v (.int .i64 y2.at_)), .t (.v (.int .u64 y2.state))])] } }] ⟨[(4, .c (.t (.v (.bool (y1 == 0)))))], [(0, .box 66 [.t (.tree y2.list.length 1 (Ri64 y2.list)), .t (.v (.int .i64 y2.at_)), .t (.v (.int .u64 y2.state))])], 6⟩ [True, True, ((True) ∧ (True) ∧ (True)) ∧ (All2 ArgLe [.c (.ptr 0 3 0 0), .c (.t (.v (.int .i64 p1)))] [.c (.ptr 0 3 0 0), .c (.t (.v (.int .i64 p1)))]) ∧ ((false = true → flatB [(0, .box 66 [.t (.tree y2.list.length 1 (Ri64 y2.list)), .t (.v (.int .i64 y2.at_)), .t (.v (.int .u64 y2.state))])])) ∧ (Con Try.prog 16 [.c (.ptr 0 3 0 0), .c (.t (.v (.int .i64 p1)))] [(0, .box 66 [.t (.tree p0.list.length 1 (Ri64 p0.list)), .t (.v (.int .i64 p0.at_)), .t (.v (.int .u64 p0.state))])] (.c (.t (.v (.int .i64 y1)))) [(0, .box 66 [.t (.tree y2.list.length 1 (Ri64 y2.list)), .t (.v (.int .i64 y2.at_)), .t (.v (.int .u64 y2.state))])]), True, True] (by kernel_rfl) (by kernel_rfl) ⟨trivial, trivial, ⟨⟨trivial, trivial, trivial⟩, ⟨ArgLe.refl _, ArgLe.refl _, trivial⟩, (fun h => by cases h), (rl_make_Deck_Next_con p0 p1 y1 y2 e3)⟩, trivial, trivial, trivial⟩ ?_
  refine AW.thenQ_normal ?_
  refine AW.ret ?_
  obtain rfl := some_inj h
  exact ⟨_, Conv.refl _ _, .inr rfl, OutOk.mk [(0, 0)] 1 (out0 := .c (.t (.v (.bool (y1 == 0))))) (ps := [True]) (by kernel_rfl) ⟨trivial, trivial⟩ (by kernel_rfl) (by kernel_rfl)⟩
/-! recordlink/recordlinkref09.Copy -/
noncomputable def rl_ref09_Copy (p0 : S_api_Bits) : Option S_api_Bits := if 0 + p0.Words.length ≤ 1099511627776 then (some (⟨p0.Length, (([] : List Int) ++ p0.Words)⟩ : S_api_Bits)) else none
set_option maxRecDepth 100000 in
set_option maxHeartbeats 10000000 in
theorem rl_ref09_Copy_con (p0 : S_api_Bits) (r0 : S_api_Bits) (h : rl_ref09_Copy p0 = some r0) : Con Try.prog 35 [.agg [.t (.v (.int .i64 p0.Length)), .t (.tree p0.Words.length 1 (Ru64 p0.Words))]] [] (.agg [.t (.v (.int .i64 r0.Length)), .ref 0 1 0 r0.Words.length]) [(0, .row 33 false 1 r0.Words.length (Ru64 r0.Words))] := by
  revert h; generalize r0 = r; intro h
  refine con_of tt_ok2 0 Try.func35 (by kernel_rfl) rfl (by kernel_rfl) (fun base X hk => AW.post ?_)
  unfold rl_ref09_Copy at h
  refine AW.seq ?_
  refine AW.reg tt_ok2 [1, 2] [0, 1] [] ⟨[(2, .c (.ptr 1 2 0 0)), (1, .c (.ptr 0 2 0 0))], [(1, .box 29 [.t (.v (.int .i64 0)), .t (.v (.slice none 0 0))]), (0, .box 29 [.t (.v (.int .i64 p0.Length)), .t (.tree p0.Words.length 1 (Ru64 p0.Words))])], 2⟩ [True, True] (by kernel_rfl) (by kernel_rfl) ⟨trivial, trivial, trivial⟩ ?_
  refine AW.thenQ_normal ?_
  refine AW.seq ?_
  obtain ⟨g1, h⟩ := ifc h
  refine AW.regD tt_ok2 mo2 [0, 1, 0, 4, 12, 31, 63] [[], [], [], [], [6], [], [1]] [2] [1, 6] [{}, {}, {}, {}, { h := { row := some ((([] : List Int) ++ p0.Words).length, Ru64 (([] : List Int) ++ p0.Words)) } }] ⟨[(2, .c (.ptr 1 2 0 0))], [(1, .box 29 [.t (.v (.int .i64 p0.Length)), .ref 6 1 0 ((([] : List Int) ++ p0.Words).length)]), (6, .row 33 false 1 (([] : List Int) ++ p0.Words).length (Ru64 (([] : List Int) ++ p0.Words)))], 9⟩ [True, True, True, True, (True) ∧ (True) ∧ ((0 + p0.Words.length ≤ 1099511627776) ∧ ((8 : Nat) ≤ 128)) ∧ (0 + p0.Words.length = (([] : List Int) ++ p0.Words).length ∧ ∀ i, i < (([] : List Int) ++ p0.Words).length → ∀ j, j < 1 → TLe ((appRow 0 (fun _ _ => .v undef) (Ru64 p0.Words)) i j) (Ru64 (([] : List Int) ++ p0.Words) i j)), True, True] (by kernel_rfl) (by kernel_rfl) ⟨trivial, trivial, trivial, trivial, ⟨trivial, trivial, ⟨g1, (by decide)⟩, rowT (app_row rfl rfl row_nil row_rfl)⟩, trivial, trivial, trivial⟩ ?_
  refine AW.thenQ_normal ?_
  refine AW.ret ?_
  obtain rfl := some_inj h
  exact ⟨_, Conv.refl _ _, .inr rfl, OutOk.mk [(0, 6)] 1 (out0 := .agg [.t (.v (.int .i64 p0.Length)), .ref 6 1 0 ((([] : List Int) ++ p0.Words).length)]) (ps := [True]) (by kernel_rfl) ⟨trivial, trivial⟩ (by kernel_rfl) (by kernel_rfl)⟩
/-! recordlink/bitset.value -/
noncomputable def bitset_value_k8 (p0 : Int) (x3 : Bool) : Option (Int × Bool) := if x3 = true then ((some (IntKind.u64.wrap ((IntKind.u64.wrap (IntKind.u8.wrap (p0 - 97))) + 10))).bind fun z5 => (some (z5, true))) else (some (0, false))
noncomputable def bitset_value_k6 (p0 : Int) (x1 : Bool) : Option (Int × Bool) := if x1 = true then (some (IntKind.u64.wrap (IntKind.u8.wrap (p0 - 48)), true)) else (if (decide (p0 ≥ 97)) = true then (bitset_value_k8 p0 (decide (p0 ≤ 102))) else (bitset_value_k8 p0 false))
noncomputable def bitset_value (p0 : Int) : Option (Int × Bool) := if (decide (p0 ≥ 48)) = true then (bitset_value_k6 p0 (decide (p0 ≤ 57))) else (bitset_value_k6 p0 false)
set_option maxRecDepth 100000 in
set_option maxHeartbeats 10000000 in
theorem bitset_value_con (p0 : Int) (r0 : Int) (r1 : Bool) (h : bitset_value p0 = some (r0, r1)) : Con Try.prog 62 [.c (.t (.v (.int .u8 p0)))] [] (.tup [.c (.t (.v (.int .u64 r0))), .c (.t (.v (.bool r1)))]) [] := by
  suffices H : ∀ r, bitset_value p0 = some r → Con Try.prog 62 [.c (.t (.v (.int .u8 p0)))] [] (.tup [.c (.t (.v (.int .u64 r.1))), .c (.t (.v (.bool r.2)))]) [] from H (r0, r1) h
  clear h
  intro r h
  refine con_of tt_ok2 0 Try.func62 (by kernel_rfl) rfl (by kernel_rfl) (fun base X hk => AW.post ?_)
  unfold bitset_value at h
  refine AW.seq ?_
  refine AW.reg tt_ok2 [0] [] [] ⟨[(0, .c (.t (.v (.int .u8 p0))))], [], 2⟩ [True, True] (by kernel_rfl) (by kernel_rfl) ⟨trivial, trivial, trivial⟩ ?_
  refine AW.thenQ_normal ?_
  refine AW.seq ?_
  refine AW.block ?_
  refine AW.seq ?_
  refine AW.join (ι := Bool) (fun v => ⟨[(0, .c (.t (.v (.int .u8 p0)))), (4, .c (.t (.v (.bool v))))], [], 0⟩) (fun v : Bool => bitset_value_k6 p0 v = some r) (fun v h => ?_) ?_
  ·
    obtain ⟨x1, rfl⟩ : ∃ x, x = v := ⟨_, rfl⟩
    replace h : bitset_value_k6 p0 x1 = some r := h
    unfold bitset_value_k6 at h
    show (_ : Exit → St → Prop) .normal ⟨[(0, .c (.t (.v (.int .u8 p0)))), (4, .c (.t (.v (.bool x1))))], [], 0⟩
    refine AW.thenQ_normal ?_
    refine AW.cond (b := x1) (by kernel_rfl) (fun c2 => ?_) (fun c2 => ?_)
    · rw [if_pos c2] at h
      refine AW.seq ?_
      refine AW.reg tt_ok2 [2, 3] [] [] ⟨[(3, .c (.t (.v (.bool true)))), (2, .c (.t (.v (.int .u64 (IntKind.u64.wrap (IntKind.u8.wrap (p0 - 48)))))))], [], 5⟩ [True, True, True, True, True] (by kernel_rfl) (by kernel_rfl) ⟨trivial, trivial, trivial, trivial, trivial, trivial⟩ ?_
      refine AW.thenQ_normal ?_
      refine AW.ret ?_
      refine AW.inBlock_ret ?_
      refine AW.thenQ_ret ?_
      obtain rfl := some_inj h
      exact ⟨_, Conv.refl _ _, .inr rfl, OutOk.mk [] 0 (out0 := .tup [.c (.t (.v (.int .u64 (IntKind.u64.wrap (IntKind.u8.wrap (p0 - 48)))))), .c (.t (.v (.bool true)))]) (ps := [True, True]) (by kernel_rfl) ⟨trivial, trivial, trivial⟩ (by kernel_rfl) (by kernel_rfl)⟩
    · rw [if_neg (by rw [c2]; exact Bool.false_ne_true)] at h
      refine AW.seq ?_
      refine AW.join (ι := Bool) (fun v => ⟨[(0, .c (.t (.v (.int .u8 p0)))), (14, .c (.t (.v (.bool v))))], [], 0⟩) (fun v : Bool => bitset_value_k8 p0 v = some r) (fun v h => ?_) ?_
      ·
        obtain ⟨x3, rfl⟩ : ∃ x, x = v := ⟨_, rfl⟩
        replace h : bitset_value_k8 p0 x3 = some r := h
        unfold bitset_value_k8 at h
        show (_ : Exit → St → Prop) .normal ⟨[(0, .c (.t (.v (.int .u8 p0)))), (14, .c (.t (.v (.bool x3))))], [], 0⟩
        refine AW.thenQ_normal ?_
        refine AW.cond (b := x3) (by kernel_rfl) (fun c4 => ?_) (fun c4 => ?_)
        · rw [if_pos c4] at h
          refine AW.seq ?_
          obtain ⟨z5, n6, h⟩ := bnd_some h
          replace n6 := some_inj n6
          refine AW.reg tt_ok2 [2, 3] [] [] ⟨[(3, .c (.t (.v (.bool true)))), (2, .c (.t (.v (.int .u64 (IntKind.u64.wrap ((IntKind.u64.wrap (IntKind.u8.wrap (p0 - 97))) + 10))))))], [], 6⟩ [True, True, True, True, True, True] (by kernel_rfl) (by kernel_rfl) ⟨trivial, trivial, trivial, trivial, trivial, trivial, trivial⟩ ?_
          refine eq_Q (S' := ⟨[(3, .c (.t (.v (.bool true)))), (2, .c (.t (.v (.int .u64 z5))))], [], 6⟩) (by rw [n6]) ?_
          refine AW.thenQ_normal ?_
          refine AW.ret ?_
          refine AW.inBlock_ret ?_
          refine AW.thenQ_ret ?_
          obtain rfl := some_inj h
          exact ⟨_, Conv.refl _ _, .inr rfl, OutOk.mk [] 0 (out0 := .tup [.c (.t (.v (.int .u64 z5))), .c (.t (.v (.bool true)))]) (ps := [True, True]) (by kernel_rfl) ⟨trivial, trivial, trivial⟩ (by kernel_rfl) (by kernel_rfl)⟩
        · rw [if_neg (by rw [c4]; exact Bool.false_ne_true)] at h
          refine AW.skip ?_
          refine AW.inBlock_normal ?_
          refine AW.thenQ_normal ?_
          refine AW.seq ?_
          refine AW.reg tt_ok2 [2, 3] [] [] ⟨[(3, .c (.t (.v (.bool false)))), (2, .c (.t (.v (.int .u64 0))))], [], 2⟩ [True, True] (by kernel_rfl) (by kernel_rfl) ⟨trivial, trivial, trivial⟩ ?_
          refine AW.thenQ_normal ?_
          refine AW.ret ?_
          obtain rfl := some_inj h
          exact ⟨_, Conv.refl _ _, .inr rfl, OutOk.mk [] 0 (out0 := .tup [.c (.t (.v (.int .u64 0))), .c (.t (.v (.bool false)))]) (ps := [True, True]) (by kernel_rfl) ⟨trivial, trivial, trivial⟩ (by kernel_rfl) (by kernel_rfl)⟩
      ·
        by_cases c7 : (decide (p0 ≥ 97)) = true
        · rw [if_pos c7] at h
          refine AW.reg tt_ok2 [0, 14] [] [{}, { h := { b := some true } }] ⟨[(14, .c (.t (.v (.bool (decide (p0 ≤ 102)))))), (0, .c (.t (.v (.int .u8 p0))))], [], 7⟩ [True, (decide (p0 ≥ 97)) = true, True, True, True, True, True] (by kernel_rfl) (by kernel_rfl) ⟨trivial, c7, trivial, trivial, trivial, trivial, trivial, trivial⟩ ?_
          exact joinQ_leaf (decide (p0 ≤ 102)) h (conv_ren [] [0, 14] (n := 0) (by kernel_rfl) (by kernel_rfl))
        · rw [if_neg c7] at h
          refine AW.reg tt_ok2 [0, 14] [] [{}, { h := { b := some false } }] ⟨[(14, .c (.t (.v (.bool false)))), (0, .c (.t (.v (.int .u8 p0))))], [], 7⟩ [True, (decide (p0 ≥ 97)) = false, True, True, True, True, True] (by kernel_rfl) (by kernel_rfl) ⟨trivial, (off_false c7), trivial, trivial, trivial, trivial, trivial, trivial⟩ ?_
          exact joinQ_leaf (false) h (conv_ren [] [0, 14] (n := 0) (by kernel_rfl) (by kernel_rfl))
  ·
    by_cases c8 : (decide (p0 ≥ 48)) = true
    · rw [if_pos c8] at h
      refine AW.reg tt_ok2 [0, 4] [] [{}, { h := { b := some true } }] ⟨[(4, .c (.t (.v (.bool (decide (p0 ≤ 57)))))), (0, .c (.t (.v (.int .u8 p0))))], [], 9⟩ [True, (decide (p0 ≥ 48)) = true, True, True, True, True, True] (by kernel_rfl) (by kernel_rfl) ⟨trivial, c8, trivial, trivial, trivial, trivial, trivial, trivial⟩ ?_
      exact joinQ_leaf (decide (p0 ≤ 57)) h (conv_ren [] [0, 4] (n := 0) (by kernel_rfl) (by kernel_rfl))
    · rw [if_neg c8] at h
      refine AW.reg tt_ok2 [0, 4] [] [{}, { h := { b := some false } }] ⟨[(4, .c (.t (.v (.bool false)))), (0, .c (.t (.v (.int .u8 p0))))], [], 9⟩ [True, (decide (p0 ≥ 48)) = false, True, True, True, True, True] (by kernel_rfl) (by kernel_rfl) ⟨trivial, (off_false c8), trivial, trivial, trivial, trivial, trivial, trivial⟩ ?_
      exact joinQ_leaf (false) h (conv_ren [] [0, 4] (n := 0) (by kernel_rfl) (by kernel_rfl))
/-! recordlink/bitset.Parse -/
noncomputable def bitset_Parse_l4 (p0 : ByteArray) (x7 : Int) (x8 : List Int) : Option ((Int × (List Int)) ⊕ ((List Int) ⊕ Unit)) := if (decide (x7 < ((p0.size : Nat) : Int))) = true then (if 0 ≤ x7 then (if x7 < ((p0.size : Nat) : Int) then (bind2 (bitset_value ((p0.data.toList.getD x7.toNat 0).toNat : Int)) fun y13 y14 => (if (!y14) = true then (some (.inr (.inr ()))) else (if 0 ≤ (IntKind.i64.wrap (x7.tdiv 16)) then (if (IntKind.i64.wrap (x7.tdiv 16)) < ((x8.length : Nat) : Int) then (some (.inl (IntKind.i64.wrap (x7 + 1), (x8.set (0 + (IntKind.i64.wrap (x7.tdiv 16)).toNat) (ior .u64 (ishl .u64 (x8.getD (0 + (IntKind.i64.wrap (x7.tdiv 16)).toNat) 0) 4) y13))))) else none) else none))) else none) else none) else (some (.inr (.inl x8)))
noncomputable def bitset_Parse_a5 (y1 : S_api_Bits) (x19 : List Int) : Option (S_api_Bits × Int) := some ((⟨y1.Length, x19⟩ : S_api_Bits), 0)
noncomputable def bitset_Parse_a6 : Option (S_api_Bits × Int) := some ((⟨0, ([] : List Int)⟩ : S_api_Bits), 14)
noncomputable def bitset_Parse (p0 : ByteArray) : Option (S_api_Bits × Int) := bind2 (bitset_New (IntKind.i64.wrap (4 * ((p0.size : Nat) : Int)))) fun y1 y2 => (if (y2 != 0) = true then (some ((⟨0, ([] : List Int)⟩ : S_api_Bits), 14)) else (bindE (loop (fun v : Int × (List Int) => bitset_Parse_l4 p0 v.1 v.2) (0, y1.Words)) (fun t => bitset_Parse_a5 y1 t) (fun t => bitset_Parse_a6)))
set_option maxRecDepth 100000 in
set_option maxHeartbeats 10000000 in
theorem bitset_Parse_con (p0 : ByteArray) (r0 : S_api_Bits) (r1 : Int) (h : bitset_Parse p0 = some (r0, r1)) : Con Try.prog 37 [.c (.t (.v (.string p0)))] [] (.tup [.agg [.t (.v (.int .i64 r0.Length)), .ref 0 1 0 r0.Words.length], .c (.t (.v (.int .i64 r1)))]) [(0, .row 33 false 1 r0.Words.length (Ru64 r0.Words))] := by
  suffices H : ∀ r, bitset_Parse p0 = some r → Con Try.prog 37 [.c (.t (.v (.string p0)))] [] (.tup [.agg [.t (.v (.int .i64 r.1.Length)), .ref 0 1 0 r.1.Words.length], .c (.t (.v (.int .i64 r.2)))]) [(0, .row 33 false 1 r.1.Words.length (Ru64 r.1.Words))] from H (r0, r1) h
  clear h
  intro r h
  refine con_of tt_ok2 0 Try.func37 (by kernel_rfl) rfl (by kernel_rfl) (fun base X hk => AW.post ?_)
  unfold bitset_Parse at h
  refine AW.seq ?_
  refine AW.reg tt_ok2 [0, 2] [0] [] ⟨[(2, .c (.ptr 0 2 0 0)), (0, .c (.t (.v (.string p0))))], [(0, .box 29 [.t (.v (.int .i64 0)), .t (.v (.slice none 0 0))])], 2⟩ [True, True] (by kernel_rfl) (by kernel_rfl) ⟨trivial, trivial, trivial⟩ ?_
  refine AW.thenQ_normal ?_
  refine AW.seq ?_
  obtain ⟨y1, y2, e3, h⟩ := bind2_some h
  refine AW.reg tt_ok2 [0, 2, 4, 5] [0, 5, 9] [{}, {}, {}, { call := some { ids := [], frz := [], flat := true, cnt := 1, args := [.c (.t (.v (.int .i64 (IntKind.i64.wrap (4 * ((p0.size : Nat) : Int))))))], out := .tup [.agg [.t (.v (.int .i64 y1.Length)), .ref 0 1 0 y1.Words.length], .c (.t (.v (.int .i64 y2)))], outb := [(0, .row 33 false 1 y1.Words.length (Ru64 y1.Words))] } }] ⟨[(5, .c (.t (.v (.int .i64 y2)))), (4, .c (.ptr 9 2 0 0)), (2, .c (.ptr 0 2 0 0)), (0, .c (.t (.v (.string p0))))], [(9, .box 29 [.t (.v (.int .i64 y1.Length)), .ref 5 1 0 y1.Words.length]), (5, .row 33 false 1 y1.Words.length (Ru64 y1.Words)), (0, .box 29 [.t (.v (.int .i64 0)), .t (.v (.slice none 0 0))])], 12⟩ [True, True, True, ((True) ∧ (True)) ∧ (All2 ArgLe [.c (.t (.v (.int .i64 (IntKind.i64.wrap (4 * ((p0.size : Nat) : Int))))))] [.c (.t (.v (.int .i64 (IntKind.i64.wrap (4 * ((p0.size : Nat) : Int))))))]) ∧ ((true = true → flatB [(0, .row 33 false 1 y1.Words.length (Ru64 y1.Words))])) ∧ (Con Try.prog 39 [.c (.t (.v (.int .i64 (IntKind.i64.wrap (4 * ((p0.size : Nat) : Int))))))] [] (.tup [.agg [.t (.v (.int .i64 y1.Length)), .ref 0 1 0 y1.Words.length], .c (.t (.v (.int .i64 y2)))]) [(0, .row 33 false 1 y1.Words.length (Ru64 y1.Words))]), True, True, True, True, True, True] (by kernel_rfl) (by kernel_rfl) ⟨trivial, trivial, trivial, ⟨⟨trivial, trivial⟩, ⟨ArgLe.refl _, trivial⟩, (fun _ => ⟨rowL_flat Vu64 _ _ _, trivial⟩), (bitset_New_con (IntKind.i64.wrap (4 * ((p0.size : Nat) : Int))) y1 y2 e3)⟩, trivial, trivial, trivial, trivial, trivial, trivial, trivial⟩ ?_
  refine AW.thenQ_normal ?_
  refine AW.seq ?_
  refine AW.seq ?_
  refine AW.reg tt_ok2 [0, 2, 4, 17] [0, 5, 9] [] ⟨[(17, .c (.t (.v (.bool (y2 != 0))))), (4, .c (.ptr 9 2 0 0)), (2, .c (.ptr 0 2 0 0)), (0, .c (.t (.v (.string p0))))], [(9, .box 29 [.t (.v (.int .i64 y1.Length)), .ref 5 1 0 y1.Words.length]), (5, .row 33 false 1 y1.Words.length (Ru64 y1.Words)), (0, .box 29 [.t (.v (.int .i64 0)), .t (.v (.slice none 0 0))])], 14⟩ [True, True] (by kernel_rfl) (by kernel_rfl) ⟨trivial, trivial, trivial⟩ ?_
  refine AW.thenQ_normal ?_
  refine AW.cond (b := (y2 != 0)) (by kernel_rfl) (fun c4 => ?_) (fun c4 => ?_)
  · rw [if_pos c4] at h
    refine AW.seq ?_
    refine AW.reg tt_ok2 [2, 3] [0] [] ⟨[(3, .c (.t (.v (.int .i64 14)))), (2, .c (.ptr 0 2 0 0))], [(0, .box 29 [.t (.v (.int .i64 0)), .t (.v (.slice none 0 0))])], 17⟩ [True, True, True] (by kernel_rfl) (by kernel_rfl) ⟨trivial, trivial, trivial, trivial⟩ ?_
    refine AW.thenQ_normal ?_
    refine AW.ret ?_
    refine AW.thenQ_ret ?_
    obtain rfl := some_inj h
    exact ⟨_, conv_adoptB (id := 0) (ty0 := 29) (cs := [.t (.v (.int .i64 0)), .t (.v (.slice none 0 0))]) 1 (ty := 33) (sz := 1) (n := ([] : List Int).length) (f := Ru64 ([] : List Int)) (by kernel_rfl) (by kernel_rfl) rfl, .inr rfl, OutOk.mk [(0, 17)] 1 (out0 := .tup [.agg [.t (.v (.int .i64 0)), .ref 17 1 0 (([] : List Int).length)], .c (.t (.v (.int .i64 14)))]) (ps := [True, True]) (by kernel_rfl) ⟨trivial, trivial, trivial⟩ (by kernel_rfl) (by kernel_rfl)⟩
  · rw [if_neg (by rw [c4]; exact Bool.false_ne_true)] at h
    refine AW.skip ?_
    refine AW.thenQ_normal ?_
    refine AW.seq ?_
    refine AW.seq ?_
    refine AW.reg tt_ok2 [0, 2, 4, 20, 21] [0, 5, 9] [] ⟨[(21, .c (.t (.v (.int .i64 0)))), (20, .c (.t (.v (.int .i64 ((p0.size : Nat) : Int))))), (4, .c (.ptr 9 2 0 0)), (2, .c (.ptr 0 2 0 0)), (0, .c (.t (.v (.string p0))))], [(9, .box 29 [.t (.v (.int .i64 y1.Length)), .ref 5 1 0 y1.Words.length]), (5, .row 33 false 1 y1.Words.length (Ru64 y1.Words)), (0, .box 29 [.t (.v (.int .i64 0)), .t (.v (.slice none 0 0))])], 17⟩ [True, True, True] (by kernel_rfl) (by kernel_rfl) ⟨trivial, trivial, trivial, trivial⟩ ?_
    refine AW.thenQ_normal ?_
    refine AW.block ?_
    rcases bindE_some h with ⟨t, l20, h⟩ | ⟨t, l20, h⟩
    ·
      obtain ⟨x19, rfl⟩ : ∃ x, x = t := ⟨_, rfl⟩
      replace h : bitset_Parse_a5 y1 x19 = some r := h
      unfold bitset_Parse_a5 at h
      refine AW.pre (S' := ((fun v => ⟨[(0, .c (.t (.v (.string p0)))), (2, .c (.ptr 0 2 0 0)), (4, .c (.ptr 1 2 0 0)), (20, .c (.t (.v (.int .i64 ((p0.size : Nat) : Int))))), (21, .c (.t (.v (.int .i64 v.1))))], [(0, .box 29 [.t (.v (.int .i64 0)), .t (.v (.slice none 0 0))]), (1, .box 29 [.t (.v (.int .i64 y1.Length)), .ref 2 1 0 v.2.length]), (2, .row 33 false 1 v.2.length (Ru64 v.2))], 3⟩) : (Int × (List Int)) → St) (0, y1.Words)) (conv_ren [(0, 0), (1, 9), (2, 5)] [0, 2, 4, 20, 21] (n := 3) (by kernel_rfl) (by kernel_rfl)) ?_
      refine AW.loop2 (step := (fun v : Int × (List Int) => bitset_Parse_l4 p0 v.1 v.2)) (s0 := (0, y1.Words)) (t := .inl x19) (fun v => ⟨[(0, .c (.t (.v (.string p0)))), (2, .c (.ptr 0 2 0 0)), (4, .c (.ptr 1 2 0 0)), (20, .c (.t (.v (.int .i64 ((p0.size : Nat) : Int))))), (21, .c (.t (.v (.int .i64 v.1))))], [(0, .box 29 [.t (.v (.int .i64 0)), .t (.v (.slice none 0 0))]), (1, .box 29 [.t (.v (.int .i64 y1.Length)), .ref 2 1 0 v.2.length]), (2, .row 33 false 1 v.2.length (Ru64 v.2))], 3⟩) (fun t : ((List Int) ⊕ Unit) => match t with | .inl t => (.exit 0, ⟨[(2, .c (.ptr 0 2 0 0)), (4, .c (.ptr 1 2 0 0))], [(0, .box 29 [.t (.v (.int .i64 0)), .t (.v (.slice none 0 0))]), (1, .box 29 [.t (.v (.int .i64 y1.Length)), .ref 2 1 0 t.length]), (2, .row 33 false 1 t.length (Ru64 t))], 3⟩) | .inr t => (.ret, ⟨[(2, .c (.ptr 0 2 0 0)), (3, .c (.t (.v (.int .i64 14))))], [(0, .box 29 [.t (.v (.int .i64 0)), .t (.v (.slice none 0 0))])], 1⟩)) l20 (fun t => by cases t <;> trivial) ?_ ?_
      ·
        clear l20 h
        intro v o h
        obtain ⟨x7, x8⟩ := v
        replace h : bitset_Parse_l4 p0 x7 x8 = some o := h
        unfold bitset_Parse_l4 at h
        show AW _ ⟨[(0, .c (.t (.v (.string p0)))), (2, .c (.ptr 0 2 0 0)), (4, .c (.ptr 1 2 0 0)), (20, .c (.t (.v (.int .i64 ((p0.size : Nat) : Int))))), (21, .c (.t (.v (.int .i64 x7))))], [(0, .box 29 [.t (.v (.int .i64 0)), .t (.v (.slice none 0 0))]), (1, .box 29 [.t (.v (.int .i64 y1.Length)), .ref 2 1 0 x8.length]), (2, .row 33 false 1 x8.length (Ru64 x8))], 3⟩ _ _
        refine AW.seq ?_
        refine AW.reg tt_ok2 [0, 2, 4, 20, 21, 22] [0, 1, 2] [] ⟨[(22, .c (.t (.v (.bool (decide (x7 < ((p0.size : Nat) : Int))))))), (0, .c (.t (.v (.string p0)))), (2, .c (.ptr 0 2 0 0)), (4, .c (.ptr 1 2 0 0)), (20, .c (.t (.v (.int .i64 ((p0.size : Nat) : Int))))), (21, .c (.t (.v (.int .i64 x7))))], [(0, .box 29 [.t (.v (.int .i64 0)), .t (.v (.slice none 0 0))]), (1, .box 29 [.t (.v (.int .i64 y1.Length)), .ref 2 1 0 x8.length]), (2, .row 33 false 1 x8.length (Ru64 x8))], 4⟩ [True] (by kernel_rfl) (by kernel_rfl) ⟨trivial, trivial⟩ ?_
        refine AW.thenQ_normal ?_
        refine AW.seq ?_
        refine AW.cond (b := decide (x7 < ((p0.size : Nat) : Int))) (by kernel_rfl) (fun c10 => ?_) (fun c10 => ?_)
        · rw [if_pos c10] at h
          refine AW.skip ?_
          refine AW.thenQ_normal ?_
          refine AW.seq ?_
          refine AW.block ?_
          refine AW.seq ?_
          refine AW.reg tt_ok2 [0, 2, 4, 6, 20, 21] [0, 1, 2] [] ⟨[(6, .c (.t (.v (.int .i64 x7)))), (0, .c (.t (.v (.string p0)))), (2, .c (.ptr 0 2 0 0)), (4, .c (.ptr 1 2 0 0)), (20, .c (.t (.v (.int .i64 ((p0.size : Nat) : Int))))), (21, .c (.t (.v (.int .i64 x7))))], [(0, .box 29 [.t (.v (.int .i64 0)), .t (.v (.slice none 0 0))]), (1, .box 29 [.t (.v (.int .i64 y1.Length)), .ref 2 1 0 x8.length]), (2, .row 33 false 1 x8.length (Ru64 x8))], 6⟩ [True, True] (by kernel_rfl) (by kernel_rfl) ⟨trivial, trivial, trivial⟩ ?_
          refine AW.thenQ_normal ?_
          refine AW.seq ?_
          obtain ⟨g11, h⟩ := ifc h
          obtain ⟨g12, h⟩ := ifc h
          obtain ⟨y13, y14, e15, h⟩ := bind2_some h
          refine AW.reg tt_ok2 [0, 2, 4, 6, 7, 8, 20, 21] [0, 1, 2] [{}, {}, {}, { call := some { ids := [], frz := [], flat := true, cnt := 0, args := [.c (.t (.v (.int .u8 ((p0.data.toList.getD x7.toNat 0).toNat : Int))))], out := .tup [.c (.t (.v (.int .u64 y13))), .c (.t (.v (.bool y14)))], outb := [] } }] ⟨[(8, .c (.t (.v (.bool y14)))), (7, .c (.t (.v (.int .u64 y13)))), (6, .c (.t (.v (.int .i64 x7)))), (0, .c (.t (.v (.string p0)))), (2, .c (.ptr 0 2 0 0)), (4, .c (.ptr 1 2 0 0)), (20, .c (.t (.v (.int .i64 ((p0.size : Nat) : Int))))), (21, .c (.t (.v (.int .i64 x7))))], [(0, .box 29 [.t (.v (.int .i64 0)), .t (.v (.slice none 0 0))]), (1, .box 29 [.t (.v (.int .i64 y1.Length)), .ref 2 1 0 x8.length]), (2, .row 33 false 1 x8.length (Ru64 x8))], 14⟩ [True, True, (0 ≤ x7) ∧ (x7 < ((p0.size : Nat) : Int)), ((True) ∧ (True)) ∧ (All2 ArgLe [.c (.t (.v (.int .u8 ((p0.data.toList.getD x7.toNat 0).toNat : Int))))] [.c (.t (.v (.int .u8 ((p0.data.toList.getD x7.toNat 0).toNat : Int))))]) ∧ ((true = true → flatB [])) ∧ (Con Try.prog 62 [.c (.t (.v (.int .u8 ((p0.data.toList.getD x7.toNat 0).toNat : Int))))] [] (.tup [.c (.t (.v (.int .u64 y13))), .c (.t (.v (.bool y14)))]) []), True, True, True, True, True] (by kernel_rfl) (by kernel_rfl) ⟨trivial, trivial, ⟨g11, g12⟩, ⟨⟨trivial, trivial⟩, ⟨ArgLe.refl _, trivial⟩, (fun _ => trivial), (bitset_value_con ((p0.data.toList.getD x7.toNat 0).toNat : Int) y13 y14 e15)⟩, trivial, trivial, trivial, trivial, trivial, trivial⟩ ?_
          refine AW.thenQ_normal ?_
          refine AW.seq ?_
          refine AW.seq ?_
          refine AW.reg tt_ok2 [0, 2, 4, 6, 7, 20, 21, 32] [0, 1, 2] [] ⟨[(32, .c (.t (.v (.bool (!y14))))), (7, .c (.t (.v (.int .u64 y13)))), (6, .c (.t (.v (.int .i64 x7)))), (0, .c (.t (.v (.string p0)))), (2, .c (.ptr 0 2 0 0)), (4, .c (.ptr 1 2 0 0)), (20, .c (.t (.v (.int .i64 ((p0.size : Nat) : Int))))), (21, .c (.t (.v (.int .i64 x7))))], [(0, .box 29 [.t (.v (.int .i64 0)), .t (.v (.slice none 0 0))]), (1, .box 29 [.t (.v (.int .i64 y1.Length)), .ref 2 1 0 x8.length]), (2, .row 33 false 1 x8.length (Ru64 x8))], 16⟩ [True, True] (by kernel_rfl) (by kernel_rfl) ⟨trivial, trivial, trivial⟩ ?_
          refine AW.thenQ_normal ?_
          refine AW.cond (b := !y14) (by kernel_rfl) (fun c16 => ?_) (fun c16 => ?_)
          · rw [if_pos c16] at h
            refine AW.seq ?_
            refine AW.reg tt_ok2 [2, 3] [0] [] ⟨[(3, .c (.t (.v (.int .i64 14)))), (2, .c (.ptr 0 2 0 0))], [(0, .box 29 [.t (.v (.int .i64 0)), .t (.v (.slice none 0 0))])], 19⟩ [True, True, True] (by kernel_rfl) (by kernel_rfl) ⟨trivial, trivial, trivial, trivial⟩ ?_
            refine AW.thenQ_normal ?_
            refine AW.ret ?_
            refine AW.thenQ_ret ?_
            refine AW.inBlock_ret ?_
            refine AW.thenQ_ret ?_
            obtain rfl := some_inj h
            refine loopQ_out rfl (conv_ren [(0, 0)] [2, 3] (n := 1) (by kernel_rfl) (by kernel_rfl))
          · rw [if_neg (by rw [c16]; exact Bool.false_ne_true)] at h
            refine AW.skip ?_
            refine AW.thenQ_normal ?_
            obtain ⟨g17, h⟩ := ifc h
            obtain ⟨g18, h⟩ := ifc h
            refine AW.regD tt_ok2 mo2 [0, 1, 0, 4, 0, 16, 0, 64, 240, 496, 1008, 0, 4080, 8191, 16383] [[], [], [], [], [], [], [], [], [], [], [], [], [], [], [2]] [0, 2, 4, 20, 21] [0, 1, 2] [{}, {}, {}, {}, {}, {}, {}, {}, {}, {}, {}, {}, {}, {}, { h := { row := some (x8.length, Ru64 (x8.set (0 + (IntKind.i64.wrap (x7.tdiv 16)).toNat) (ior .u64 (ishl .u64 (x8.getD (0 + (IntKind.i64.wrap (x7.tdiv 16)).toNat) 0) 4) y13))) } }] ⟨[(0, .c (.t (.v (.string p0)))), (2, .c (.ptr 0 2 0 0)), (4, .c (.ptr 1 2 0 0)), (20, .c (.t (.v (.int .i64 ((p0.size : Nat) : Int))))), (21, .c (.t (.v (.int .i64 x7))))], [(2, .row 33 false 1 x8.length (Ru64 (x8.set (0 + (IntKind.i64.wrap (x7.tdiv 16)).toNat) (ior .u64 (ishl .u64 (x8.getD (0 + (IntKind.i64.wrap (x7.tdiv 16)).toNat) 0) 4) y13)))), (0, .box 29 [.t (.v (.int .i64 0)), .t (.v (.slice none 0 0))]), (1, .box 29 [.t (.v (.int .i64 y1.Length)), .ref 2 1 0 x8.length])], 31⟩ [True, True, True, (16 : Int) ≠ 0, True, True, True, (16 : Int) ≠ 0, (0 ≤ (IntKind.i64.wrap (x7.tdiv 16))) ∧ ((IntKind.i64.wrap (x7.tdiv 16)) < ((x8.length : Nat) : Int)), (0 + (IntKind.i64.wrap (x7.tdiv 16)).toNat) < x8.length, 0 ≤ (4 : Int), True, True, (0 ≤ (IntKind.i64.wrap (x7.tdiv 16))) ∧ ((IntKind.i64.wrap (x7.tdiv 16)) < ((x8.length : Nat) : Int)), ((0 + (IntKind.i64.wrap (x7.tdiv 16)).toNat) < x8.length) ∧ (x8.length = x8.length ∧ ∀ i, i < x8.length → ∀ j, j < 1 → TLe (updRow (Ru64 x8) (0 + (IntKind.i64.wrap (x7.tdiv 16)).toNat) 0 [.v (.int .u64 (ior .u64 (ishl .u64 (x8.getD (0 + (IntKind.i64.wrap (x7.tdiv 16)).toNat) 0) 4) y13))] i j) (Ru64 (x8.set (0 + (IntKind.i64.wrap (x7.tdiv 16)).toNat) (ior .u64 (ishl .u64 (x8.getD (0 + (IntKind.i64.wrap (x7.tdiv 16)).toNat) 0) 4) y13)) i j))] (by kernel_rfl) (by kernel_rfl) ⟨trivial, trivial, trivial, (by decide), trivial, trivial, trivial, (by decide), ⟨g17, g18⟩, (by have h1 : 0 ≤ (IntKind.i64.wrap (x7.tdiv 16)) := g17; have h2 : (IntKind.i64.wrap (x7.tdiv 16)) < ((x8.length : Nat) : Int) := g18; omega), (by decide), trivial, trivial, ⟨g17, g18⟩, ⟨(by have h1 : 0 ≤ (IntKind.i64.wrap (x7.tdiv 16)) := g17; have h2 : (IntKind.i64.wrap (x7.tdiv 16)) < ((x8.length : Nat) : Int) := g18; omega), set_rowN rfl (by have h1 : 0 ≤ (IntKind.i64.wrap (x7.tdiv 16)) := g17; have h2 : (IntKind.i64.wrap (x7.tdiv 16)) < ((x8.length : Nat) : Int) := g18; omega) (fun j hj => match j, hj with | 0, _ => TLe.refl _ | _ + 1, h => absurd h (by omega))⟩, trivial⟩ ?_
            refine AW.inBlock_normal ?_
            refine AW.thenQ_normal ?_
            refine AW.reg tt_ok2 [0, 2, 4, 20, 21] [0, 1, 2] [] ⟨[(21, .c (.t (.v (.int .i64 (IntKind.i64.wrap (x7 + 1)))))), (0, .c (.t (.v (.string p0)))), (2, .c (.ptr 0 2 0 0)), (4, .c (.ptr 1 2 0 0)), (20, .c (.t (.v (.int .i64 ((p0.size : Nat) : Int)))))], [(2, .row 33 false 1 x8.length (Ru64 (x8.set (0 + (IntKind.i64.wrap (x7.tdiv 16)).toNat) (ior .u64 (ishl .u64 (x8.getD (0 + (IntKind.i64.wrap (x7.tdiv 16)).toNat) 0) 4) y13)))), (0, .box 29 [.t (.v (.int .i64 0)), .t (.v (.slice none 0 0))]), (1, .box 29 [.t (.v (.int .i64 y1.Length)), .ref 2 1 0 x8.length])], 33⟩ [True, True] (by kernel_rfl) (by kernel_rfl) ⟨trivial, trivial, trivial⟩ ?_
            obtain rfl := some_inj h
            refine loopQ_next (Conv.trans (conv_len (S' := ⟨[(21, .c (.t (.v (.int .i64 (IntKind.i64.wrap (x7 + 1)))))), (0, .c (.t (.v (.string p0)))), (2, .c (.ptr 0 2 0 0)), (4, .c (.ptr 1 2 0 0)), (20, .c (.t (.v (.int .i64 ((p0.size : Nat) : Int)))))], [(2, .row 33 false 1 (x8.set (0 + (IntKind.i64.wrap (x7.tdiv 16)).toNat) (ior .u64 (ishl .u64 (x8.getD (0 + (IntKind.i64.wrap (x7.tdiv 16)).toNat) 0) 4) y13)).length (Ru64 (x8.set (0 + (IntKind.i64.wrap (x7.tdiv 16)).toNat) (ior .u64 (ishl .u64 (x8.getD (0 + (IntKind.i64.wrap (x7.tdiv 16)).toNat) 0) 4) y13)))), (0, .box 29 [.t (.v (.int .i64 0)), .t (.v (.slice none 0 0))]), (1, .box 29 [.t (.v (.int .i64 y1.Length)), .ref 2 1 0 ((x8.set (0 + (IntKind.i64.wrap (x7.tdiv 16)).toNat) (ior .u64 (ishl .u64 (x8.getD (0 + (IntKind.i64.wrap (x7.tdiv 16)).toNat) 0) 4) y13)).length)])], 33⟩) (by simp only [List.length_set])) (conv_ren [(0, 0), (1, 1), (2, 2)] [0, 2, 4, 20, 21] (n := 3) (by kernel_rfl) (by kernel_rfl)))
        · rw [if_neg (by rw [c10]; exact Bool.false_ne_true)] at h
          refine AW.exit ?_
          refine AW.thenQ_exit ?_
          obtain rfl := some_inj h
          refine loopQ_out rfl (conv_ren [(0, 0), (1, 1), (2, 2)] [2, 4] (n := 3) (by kernel_rfl) (by kernel_rfl))
      ·
        show (_ : Exit → St → Prop) (.exit 0) ⟨[(2, .c (.ptr 0 2 0 0)), (4, .c (.ptr 1 2 0 0))], [(0, .box 29 [.t (.v (.int .i64 0)), .t (.v (.slice none 0 0))]), (1, .box 29 [.t (.v (.int .i64 y1.Length)), .ref 2 1 0 x19.length]), (2, .row 33 false 1 x19.length (Ru64 x19))], 3⟩
        refine AW.inBlock_hit ?_
        refine AW.thenQ_normal ?_
        refine AW.seq ?_
        refine AW.reg tt_ok2 [2, 3] [0, 2] [] ⟨[(3, .c (.t (.v (.int .i64 0)))), (2, .c (.ptr 0 2 0 0))], [(0, .box 29 [.t (.v (.int .i64 y1.Length)), .ref 2 1 0 x19.length]), (2, .row 33 false 1 x19.length (Ru64 x19))], 6⟩ [True, True, True] (by kernel_rfl) (by kernel_rfl) ⟨trivial, trivial, trivial, trivial⟩ ?_
        refine AW.thenQ_normal ?_
        refine AW.ret ?_
        obtain rfl := some_inj h
        exact ⟨_, Conv.refl _ _, .inr rfl, OutOk.mk [(0, 2)] 1 (out0 := .tup [.agg [.t (.v (.int .i64 y1.Length)), .ref 2 1 0 x19.length], .c (.t (.v (.int .i64 0)))]) (ps := [True, True]) (by kernel_rfl) ⟨trivial, trivial, trivial⟩ (by kernel_rfl) (by kernel_rfl)⟩
    ·
      replace h : bitset_Parse_a6 = some r := h
      unfold bitset_Parse_a6 at h
      refine AW.pre (S' := ((fun v => ⟨[(0, .c (.t (.v (.string p0)))), (2, .c (.ptr 0 2 0 0)), (4, .c (.ptr 1 2 0 0)), (20, .c (.t (.v (.int .i64 ((p0.size : Nat) : Int))))), (21, .c (.t (.v (.int .i64 v.1))))], [(0, .box 29 [.t (.v (.int .i64 0)), .t (.v (.slice none 0 0))]), (1, .box 29 [.t (.v (.int .i64 y1.Length)), .ref 2 1 0 v.2.length]), (2, .row 33 false 1 v.2.length (Ru64 v.2))], 3⟩) : (Int × (List Int)) → St) (0, y1.Words)) (conv_ren [(0, 0), (1, 9), (2, 5)] [0, 2, 4, 20, 21] (n := 3) (by kernel_rfl) (by kernel_rfl)) ?_
      refine AW.loop2 (step := (fun v : Int × (List Int) => bitset_Parse_l4 p0 v.1 v.2)) (s0 := (0, y1.Words)) (t := .inr ()) (fun v => ⟨[(0, .c (.t (.v (.string p0)))), (2, .c (.ptr 0 2 0 0)), (4, .c (.ptr 1 2 0 0)), (20, .c (.t (.v (.int .i64 ((p0.size : Nat) : Int))))), (21, .c (.t (.v (.int .i64 v.1))))], [(0, .box 29 [.t (.v (.int .i64 0)), .t (.v (.slice none 0 0))]), (1, .box 29 [.t (.v (.int .i64 y1.Length)), .ref 2 1 0 v.2.length]), (2, .row 33 false 1 v.2.length (Ru64 v.2))], 3⟩) (fun t : ((List Int) ⊕ Unit) => match t with | .inl t => (.exit 0, ⟨[(2, .c (.ptr 0 2 0 0)), (4, .c (.ptr 1 2 0 0))], [(0, .box 29 [.t (.v (.int .i64 0)), .t (.v (.slice none 0 0))]), (1, .box 29 [.t (.v (.int .i64 y1.Length)), .ref 2 1 0 t.length]), (2, .row 33 false 1 t.length (Ru64 t))], 3⟩) | .inr t => (.ret, ⟨[(2, .c (.ptr 0 2 0 0)), (3, .c (.t (.v (.int .i64 14))))], [(0, .box 29 [.t (.v (.int .i64 0)), .t (.v (.slice none 0 0))])], 1⟩)) l20 (fun t => by cases t <;> trivial) ?_ ?_
      ·
        clear l20 h
        intro v o h
        obtain ⟨x7, x8⟩ := v
        replace h : bitset_Parse_l4 p0 x7 x8 = some o := h
        unfold bitset_Parse_l4 at h
        show AW _ ⟨[(0, .c (.t (.v (.string p0)))), (2, .c (.ptr 0 2 0 0)), (4, .c (.ptr 1 2 0 0)), (20, .c (.t (.v (.int .i64 ((p0.size : Nat) : Int))))), (21, .c (.t (.v (.int .i64 x7))))], [(0, .box 29 [.t (.v (.int .i64 0)), .t (.v (.slice none 0 0))]), (1, .box 29 [.t (.v (.int .i64 y1.Length)), .ref 2 1 0 x8.length]), (2, .row 33 false 1 x8.length (Ru64 x8))], 3⟩ _ _
        refine AW.seq ?_
        refine AW.reg tt_ok2 [0, 2, 4, 20, 21, 22] [0, 1, 2] [] ⟨[(22, .c (.t (.v (.bool (decide (x7 < ((p0.size : Nat) : Int))))))), (0, .c (.t (.v (.string p0)))), (2, .c (.ptr 0 2 0 0)), (4, .c (.ptr 1 2 0 0)), (20, .c (.t (.v (.int .i64 ((p0.size : Nat) : Int))))), (21, .c (.t (.v (.int .i64 x7))))], [(0, .box 29 [.t (.v (.int .i64 0)), .t (.v (.slice none 0 0))]), (1, .box 29 [.t (.v (.int .i64 y1.Length)), .ref 2 1 0 x8.length]), (2, .row 33 false 1 x8.length (Ru64 x8))], 4⟩ [True] (by kernel_rfl) (by kernel_rfl) ⟨trivial, trivial⟩ ?_
        refine AW.thenQ_normal ?_
        refine AW.seq ?_
        refine AW.cond (b := decide (x7 < ((p0.size : Nat) : Int))) (by kernel_rfl) (fun c10 => ?_) (fun c10 => ?_)
        · rw [if_pos c10] at h
          refine AW.skip ?_
          refine AW.thenQ_normal ?_
          refine AW.seq ?_
          refine AW.block ?_
          refine AW.seq ?_
          refine AW.reg tt_ok2 [0, 2, 4, 6, 20, 21] [0, 1, 2] [] ⟨[(6, .c (.t (.v (.int .i64 x7)))), (0, .c (.t (.v (.string p0)))), (2, .c (.ptr 0 2 0 0)), (4, .c (.ptr 1 2 0 0)), (20, .c (.t (.v (.int .i64 ((p0.size : Nat) : Int))))), (21, .c (.t (.v (.int .i64 x7))))], [(0, .box 29 [.t (.v (.int .i64 0)), .t (.v (.slice none 0 0))]), (1, .box 29 [.t (.v (.int .i64 y1.Length)), .ref 2 1 0 x8.length]), (2, .row 33 false 1 x8.length (Ru64 x8))], 6⟩ [True, True] (by kernel_rfl) (by kernel_rfl) ⟨trivial, trivial, trivial⟩ ?_
          refine AW.thenQ_normal ?_
          refine AW.seq ?_
          obtain ⟨g11, h⟩ := ifc h
          obtain ⟨g12, h⟩ := ifc h
          obtain ⟨y13, y14, e15, h⟩ := bind2_some h
          refine AW.reg tt_ok2 [0, 2, 4, 6, 7, 8, 20, 21] [0, 1, 2] [{}, {}, {}, { call := some { ids := [], frz := [], flat := true, cnt := 0, args := [.c (.t (.v (.int .u8 ((p0.data.toList.getD x7.toNat 0).toNat : Int))))], out := .tup [.c (.t (.v (.int .u64 y13))), .c (.t (.v (.bool y14)))], outb := [] } }] ⟨[(8, .c (.t (.v (.bool y14)))), (7, .c (.t (.v (.int .u64 y13)))), (6, .c (.t (.v (.int .i64 x7)))), (0, .c (.t (.v (.string p0)))), (2, .c (.ptr 0 2 0 0)), (4, .c (.ptr 1 2 0 0)), (20, .c (.t (.v (.int .i64 ((p0.size : Nat) : Int))))), (21, .c (.t (.v (.int .i64 x7))))], [(0, .box 29 [.t (.v (.int .i64 0)), .t (.v (.slice none 0 0))]), (1, .box 29 [.t (.v (.int .i64 y1.Length)), .ref 2 1 0 x8.length]), (2, .row 33 false 1 x8.length (Ru64 x8))], 14⟩ [True, True, (0 ≤ x7) ∧ (x7 < ((p0.size : Nat) : Int)), ((True) ∧ (True)) ∧ (All2 ArgLe [.c (.t (.v (.int .u8 ((p0.data.toList.getD x7.toNat 0).toNat : Int))))] [.c (.t (.v (.int .u8 ((p0.data.toList.getD x7.toNat 0).toNat : Int))))]) ∧ ((true = true → flatB [])) ∧ (Con Try.prog 62 [.c (.t (.v (.int .u8 ((p0.data.toList.getD x7.toNat 0).toNat : Int))))] [] (.tup [.c (.t (.v (.int .u64 y13))), .c (.t (.v (.bool y14)))]) []), True, True, True, True, True] (by kernel_rfl) (by kernel_rfl) ⟨trivial, trivial, ⟨g11, g12⟩, ⟨⟨trivial, trivial⟩, ⟨ArgLe.refl _, trivial⟩, (fun _ => trivial), (bitset_value_con ((p0.data.toList.getD x7.toNat 0).toNat : Int) y13 y14 e15)⟩, trivial, trivial, trivial, trivial, trivial, trivial⟩ ?_
          refine AW.thenQ_normal ?_
          refine AW.seq ?_
          refine AW.seq ?_
          refine AW.reg tt_ok2 [0, 2, 4, 6, 7, 20, 21, 32] [0, 1, 2] [] ⟨[(32, .c (.t (.v (.bool (!y14))))), (7, .c (.t (.v (.int .u64 y13)))), (6, .c (.t (.v (.int .i64 x7)))), (0, .c (.t (.v (.string p0)))), (2, .c (.ptr 0 2 0 0)), (4, .c (.ptr 1 2 0 0)), (20, .c (.t (.v (.int .i64 ((p0.size : Nat) : Int))))), (21, .c (.t (.v (.int .i64 x7))))], [(0, .box 29 [.t (.v (.int .i64 0)), .t (.v (.slice none 0 0))]), (1, .box 29 [.t (.v (.int .i64 y1.Length)), .ref 2 1 0 x8.length]), (2, .row 33 false 1 x8.length (Ru64 x8))], 16⟩ [True, True] (by kernel_rfl) (by kernel_rfl) ⟨trivial, trivial, trivial⟩ ?_
          refine AW.thenQ_normal ?_
          refine AW.cond (b := !y14) (by kernel_rfl) (fun c16 => ?_) (fun c16 => ?_)
          · rw [if_pos c16] at h
            refine AW.seq ?_
            refine AW.reg tt_ok2 [2, 3] [0] [] ⟨[(3, .c (.t (.v (.int .i64 14)))), (2, .c (.ptr 0 2 0 0))], [(0, .box 29 [.t (.v (.int .i64 0)), .t (.v (.slice none 0 0))])], 19⟩ [True, True, True] (by kernel_rfl) (by kernel_rfl) ⟨trivial, trivial, trivial, trivial⟩ ?_
            refine AW.thenQ_normal ?_
            refine AW.ret ?_
            refine AW.thenQ_ret ?_
            refine AW.inBlock_ret ?_
            refine AW.thenQ_ret ?_
            obtain rfl := some_inj h
            refine loopQ_out rfl (conv_ren [(0, 0)] [2, 3] (n := 1) (by kernel_rfl) (by kernel_rfl))
          · rw [if_neg (by rw [c16]; exact Bool.false_ne_true)] at h
            refine AW.skip ?_
            refine AW.thenQ_normal ?_
            obtain ⟨g17, h⟩ := ifc h
            obtain ⟨g18, h⟩ := ifc h
            refine AW.regD tt_ok2 mo2 [0, 1, 0, 4, 0, 16, 0, 64, 240, 496, 1008, 0, 4080, 8191, 16383] [[], [], [], [], [], [], [], [], [], [], [], [], [], [], [2]] [0, 2, 4, 20, 21] [0, 1, 2] [{}, {}, {}, {}, {}, {}, {}, {}, {}, {}, {}, {}, {}, {}, { h := { row := some (x8.length, Ru64 (x8.set (0 + (IntKind.i64.wrap (x7.tdiv 16)).toNat) (ior .u64 (ishl .u64 (x8.getD (0 + (IntKind.i64.wrap (x7.tdiv 16)).toNat) 0) 4) y13))) } }] ⟨[(0, .c (.t (.v (.string p0)))), (2, .c (.ptr 0 2 0 0)), (4, .c (.ptr 1 2 0 0)), (20, .c (.t (.v (.int .i64 ((p0.size : Nat) : Int))))), (21, .c (.t (.v (.int .i64 x7))))], [(2, .row 33 false 1 x8.length (Ru64 (x8.set (0 + (IntKind.i64.wrap (x7.tdiv 16)).toNat) (ior .u64 (ishl .u64 (x8.getD (0 + (IntKind.i64.wrap (x7.tdiv 16)).toNat) 0) 4) y13)))), (0, .box 29 [.t (.v (.int .i64 0)), .t (.v (.slice none 0 0))]), (1, .box 29 [.t (.v (.int .i64 y1.Length)), .ref 2 1 0 x8.length])], 31⟩ [True, True, True, (16 : Int) ≠ 0, True, True, True, (16 : Int) ≠ 0, (0 ≤ (IntKind.i64.wrap (x7.tdiv 16))) ∧ ((IntKind.i64.wrap (x7.tdiv 16)) < ((x8.length : Nat) : Int)), (0 + (IntKind.i64.wrap (x7.tdiv 16)).toNat) < x8.length, 0 ≤ (4 : Int), True, True, (0 ≤ (IntKind.i64.wrap (x7.tdiv 16))) ∧ ((IntKind.i64.wrap (x7.tdiv 16)) < ((x8.length : Nat) : Int)), ((0 + (IntKind.i64.wrap (x7.tdiv 16)).toNat) < x8.length) ∧ (x8.length = x8.length ∧ ∀ i, i < x8.length → ∀ j, j < 1 → TLe (updRow (Ru64 x8) (0 + (IntKind.i64.wrap (x7.tdiv 16)).toNat) 0 [.v (.int .u64 (ior .u64 (ishl .u64 (x8.getD (0 + (IntKind.i64.wrap (x7.tdiv 16)).toNat) 0) 4) y13))] i j) (Ru64 (x8.set (0 + (IntKind.i64.wrap (x7.tdiv 16)).toNat) (ior .u64 (ishl .u64 (x8.getD (0 + (IntKind.i64.wrap (x7.tdiv 16)).toNat) 0) 4) y13)) i j))] (by kernel_rfl) (by kernel_rfl) ⟨trivial, trivial, trivial, (by decide), trivial, trivial, trivial, (by decide), ⟨g17, g18⟩, (by have h1 : 0 ≤ (IntKind.i64.wrap (x7.tdiv 16)) := g17; have h2 : (IntKind.i64.wrap (x7.tdiv 16)) < ((x8.length : Nat) : Int) := g18; omega), (by decide), trivial, trivial, ⟨g17, g18⟩, ⟨(by have h1 : 0 ≤ (IntKind.i64.wrap (x7.tdiv 16)) := g17; have h2 : (IntKind.i64.wrap (x7.tdiv 16)) < ((x8.length : Nat) : Int) := g18; omega), set_rowN rfl (by have h1 : 0 ≤ (IntKind.i64.wrap (x7.tdiv 16)) := g17; have h2 : (IntKind.i64.wrap (x7.tdiv 16)) < ((x8.length : Nat) : Int) := g18; omega) (fun j hj => match j, hj with | 0, _ => TLe.refl _ | _ + 1, h => absurd h (by omega))⟩, trivial⟩ ?_
            refine AW.inBlock_normal ?_
            refine AW.thenQ_normal ?_
            refine AW.reg tt_ok2 [0, 2, 4, 20, 21] [0, 1, 2] [] ⟨[(21, .c (.t (.v (.int .i64 (IntKind.i64.wrap (x7 + 1)))))), (0, .c (.t (.v (.string p0)))), (2, .c (.ptr 0 2 0 0)), (4, .c (.ptr 1 2 0 0)), (20, .c (.t (.v (.int .i64 ((p0.size : Nat) : Int)))))], [(2, .row 33 false 1 x8.length (Ru64 (x8.set (0 + (IntKind.i64.wrap (x7.tdiv 16)).toNat) (ior .u64 (ishl .u64 (x8.getD (0 + (IntKind.i64.wrap (x7.tdiv 16)).toNat) 0) 4) y13)))), (0, .box 29 [.t (.v (.int .i64 0)), .t (.v (.slice none 0 0))]), (1, .box 29 [.t (.v (.int .i64 y1.Length)), .ref 2 1 0 x8.length])], 33⟩ [True, True] (by kernel_rfl) (by kernel_rfl) ⟨trivial, trivial, trivial⟩ ?_
            obtain rfl := some_inj h
            refine loopQ_next (Conv.trans (conv_len (S' := ⟨[(21, .c (.t (.v (.int .i64 (IntKind.i64.wrap (x7 + 1)))))), (0, .c (.t (.v (.string p0)))), (2, .c (.ptr 0 2 0 0)), (4, .c (.ptr 1 2 0 0)), (20, .c (.t (.v (.int .i64 ((p0.size : Nat) : Int)))))], [(2, .row 33 false 1 (x8.set (0 + (IntKind.i64.wrap (x7.tdiv 16)).toNat) (ior .u64 (ishl .u64 (x8.getD (0 + (IntKind.i64.wrap (x7.tdiv 16)).toNat) 0) 4) y13)).length (Ru64 (x8.set (0 + (IntKind.i64.wrap (x7.tdiv 16)).toNat) (ior .u64 (ishl .u64 (x8.getD (0 + (IntKind.i64.wrap (x7.tdiv 16)).toNat) 0) 4) y13)))), (0, .box 29 [.t (.v (.int .i64 0)), .t (.v (.slice none 0 0))]), (1, .box 29 [.t (.v (.int .i64 y1.Length)), .ref 2 1 0 ((x8.set (0 + (IntKind.i64.wrap (x7.tdiv 16)).toNat) (ior .u64 (ishl .u64 (x8.getD (0 + (IntKind.i64.wrap (x7.tdiv 16)).toNat) 0) 4) y13)).length)])], 33⟩) (by simp only [List.length_set])) (conv_ren [(0, 0), (1, 1), (2, 2)] [0, 2, 4, 20, 21] (n := 3) (by kernel_rfl) (by kernel_rfl)))
        · rw [if_neg (by rw [c10]; exact Bool.false_ne_true)] at h
          refine AW.exit ?_
          refine AW.thenQ_exit ?_
          obtain rfl := some_inj h
          refine loopQ_out rfl (conv_ren [(0, 0), (1, 1), (2, 2)] [2, 4] (n := 3) (by kernel_rfl) (by kernel_rfl))
      ·
        show (_ : Exit → St → Prop) (.ret) ⟨[(2, .c (.ptr 0 2 0 0)), (3, .c (.t (.v (.int .i64 14))))], [(0, .box 29 [.t (.v (.int .i64 0)), .t (.v (.slice none 0 0))])], 1⟩
        refine AW.inBlock_ret ?_
        refine AW.thenQ_ret ?_
        obtain rfl := some_inj h
        exact ⟨_, conv_adoptB (id := 0) (ty0 := 29) (cs := [.t (.v (.int .i64 0)), .t (.v (.slice none 0 0))]) 1 (ty := 33) (sz := 1) (n := ([] : List Int).length) (f := Ru64 ([] : List Int)) (by kernel_rfl) (by kernel_rfl) rfl, .inr rfl, OutOk.mk [(0, 1)] 1 (out0 := .tup [.agg [.t (.v (.int .i64 0)), .ref 1 1 0 (([] : List Int).length)], .c (.t (.v (.int .i64 14)))]) (ps := [True, True]) (by kernel_rfl) ⟨trivial, trivial, trivial⟩ (by kernel_rfl) (by kernel_rfl)⟩
/-! cmp.isNaN[int] -/
noncomputable def cmp_isNaN_int (p0 : Int) : Option Bool := some (p0 != p0)
set_option maxRecDepth 100000 in
set_option maxHeartbeats 10000000 in
theorem cmp_isNaN_int_con (p0 : Int) (r0 : Bool) (h : cmp_isNaN_int p0 = some r0) : Con Try.prog 72 [.c (.t (.v (.int .i64 p0)))] [] (.c (.t (.v (.bool r0)))) [] := by
  revert h; generalize r0 = r; intro h
  refine con_of tt_ok2 0 Try.func72 (by kernel_rfl) rfl (by kernel_rfl) (fun base X hk => AW.post ?_)
  unfold cmp_isNaN_int at h
  refine AW.seq ?_
  refine AW.reg tt_ok2 [0] [] [] ⟨[(0, .c (.t (.v (.int .i64 p0))))], [], 1⟩ [True] (by kernel_rfl) (by kernel_rfl) ⟨trivial, trivial⟩ ?_
  refine AW.thenQ_normal ?_
  refine AW.seq ?_
  refine AW.reg tt_ok2 [2] [] [] ⟨[(2, .c (.t (.v (.bool (p0 != p0)))))], [], 5⟩ [True, True, True, True] (by kernel_rfl) (by kernel_rfl) ⟨trivial, trivial, trivial, trivial, trivial⟩ ?_
  refine AW.thenQ_normal ?_
  refine AW.ret ?_
  obtain rfl := some_inj h
  exact ⟨_, Conv.refl _ _, .inr rfl, OutOk.mk [] 0 (out0 := .c (.t (.v (.bool (p0 != p0))))) (ps := [True]) (by kernel_rfl) ⟨trivial, trivial⟩ (by kernel_rfl) (by kernel_rfl)⟩
/-! cmp.Compare[int] -/
noncomputable def cmp_Compare_int (p0 : Int) (p1 : Int) : Option Int := (cmp_isNaN_int p0).bind fun y1 => ((cmp_isNaN_int p1).bind fun y3 => (if y1 = true then (if y3 = true then (some 0) else (some (-1))) else (if y3 = true then (some 1) else (if (decide (p0 < p1)) = true then (some (-1)) else (if (decide (p0 > p1)) = true then (some 1) else (some 0))))))
set_option maxRecDepth 100000 in
set_option maxHeartbeats 10000000 in
theorem cmp_Compare_int_con (p0 : Int) (p1 : Int) (r0 : Int) (h : cmp_Compare_int p0 p1 = some r0) : Con Try.prog 64 [.c (.t (.v (.int .i64 p0))), .c (.t (.v (.int .i64 p1)))] [] (.c (.t (.v (.int .i64 r0)))) [] := by
  revert h; generalize r0 = r; intro h
  refine con_of tt_ok2 0 Try.func64 (by kernel_rfl) rfl (by kernel_rfl) (fun base X hk => AW.post ?_)
  unfold cmp_Compare_int at h
  refine AW.seq ?_
  refine AW.reg tt_ok2 [0, 1] [] [] ⟨[(0, .c (.t (.v (.int .i64 p0)))), (1, .c (.t (.v (.int .i64 p1))))], [], 1⟩ [True] (by kernel_rfl) (by kernel_rfl) ⟨trivial, trivial⟩ ?_
  refine AW.thenQ_normal ?_
  refine AW.seq ?_
  obtain ⟨y1, e2, h⟩ := bnd_some h
  refine AW.reg tt_ok2 [0, 1, 5] [] [{}, { call := some { ids := [], frz := [], flat := true, cnt := 0, args := [.c (.t (.v (.int .i64 p0)))], out := .c (.t (.v (.bool y1))), outb := [] } }] ⟨[(5, .c (.t (.v (.bool y1)))), (0, .c (.t (.v (.int .i64 p0)))), (1, .c (.t (.v (.int .i64 p1))))], [], 3⟩ [True, ((True) ∧ (True)) ∧ (All2 ArgLe [.c (.t (.v (.int .i64 p0)))] [.c (.t (.v (.int .i64 p0)))]) ∧ ((true = true → flatB [])) ∧ (Con Try.prog 72 [.c (.t (.v (.int .i64 p0)))] [] (.c (.t (.v (.bool y1)))) []), True] (by kernel_rfl) (by kernel_rfl) ⟨trivial, ⟨⟨trivial, trivial⟩, ⟨ArgLe.refl _, trivial⟩, (fun _ => trivial), (cmp_isNaN_int_con p0 y1 e2)⟩, trivial, trivial⟩ ?_
  refine AW.thenQ_normal ?_
  refine AW.seq ?_
  obtain ⟨y3, e4, h⟩ := bnd_some h
  refine AW.reg tt_ok2 [0, 1, 5, 6] [] [{}, { call := some { ids := [], frz := [], flat := true, cnt := 0, args := [.c (.t (.v (.int .i64 p1)))], out := .c (.t (.v (.bool y3))), outb := [] } }] ⟨[(6, .c (.t (.v (.bool y3)))), (5, .c (.t (.v (.bool y1)))), (0, .c (.t (.v (.int .i64 p0)))), (1, .c (.t (.v (.int .i64 p1))))], [], 5⟩ [True, ((True) ∧ (True)) ∧ (All2 ArgLe [.c (.t (.v (.int .i64 p1)))] [.c (.t (.v (.int .i64 p1)))]) ∧ ((true = true → flatB [])) ∧ (Con Try.prog 72 [.c (.t (.v (.int .i64 p1)))] [] (.c (.t (.v (.bool y3)))) []), True] (by kernel_rfl) (by kernel_rfl) ⟨trivial, ⟨⟨trivial, trivial⟩, ⟨ArgLe.refl _, trivial⟩, (fun _ => trivial), (cmp_isNaN_int_con p1 y3 e4)⟩, trivial, trivial⟩ ?_
  refine AW.thenQ_normal ?_
  refine AW.seq ?_
  refine AW.seq ?_
  refine AW.reg tt_ok2 [0, 1, 6, 11] [] [] ⟨[(11, .c (.t (.v (.bool y1)))), (6, .c (.t (.v (.bool y3)))), (0, .c (.t (.v (.int .i64 p0)))), (1, .c (.t (.v (.int .i64 p1))))], [], 6⟩ [True] (by kernel_rfl) (by kernel_rfl) ⟨trivial, trivial⟩ ?_
  refine AW.thenQ_normal ?_
  refine AW.cond (b := y1) (by kernel_rfl) (fun c5 => ?_) (fun c5 => ?_)
  · rw [if_pos c5] at h
    refine AW.seq ?_
    refine AW.seq ?_
    refine AW.reg tt_ok2 [12] [] [] ⟨[(12, .c (.t (.v (.bool y3))))], [], 7⟩ [True] (by kernel_rfl) (by kernel_rfl) ⟨trivial, trivial⟩ ?_
    refine AW.thenQ_normal ?_
    refine AW.cond (b := y3) (by kernel_rfl) (fun c6 => ?_) (fun c6 => ?_)
    · rw [if_pos c6] at h
      refine AW.seq ?_
      refine AW.reg tt_ok2 [4] [] [] ⟨[(4, .c (.t (.v (.int .i64 0))))], [], 8⟩ [True] (by kernel_rfl) (by kernel_rfl) ⟨trivial, trivial⟩ ?_
      refine AW.thenQ_normal ?_
      refine AW.ret ?_
      refine AW.thenQ_ret ?_
      refine AW.thenQ_ret ?_
      obtain rfl := some_inj h
      exact ⟨_, Conv.refl _ _, .inr rfl, OutOk.mk [] 0 (out0 := .c (.t (.v (.int .i64 0)))) (ps := [True]) (by kernel_rfl) ⟨trivial, trivial⟩ (by kernel_rfl) (by kernel_rfl)⟩
    · rw [if_neg (by rw [c6]; exact Bool.false_ne_true)] at h
      refine AW.skip ?_
      refine AW.thenQ_normal ?_
      refine AW.seq ?_
      refine AW.reg tt_ok2 [4] [] [] ⟨[(4, .c (.t (.v (.int .i64 (-1)))))], [], 8⟩ [True] (by kernel_rfl) (by kernel_rfl) ⟨trivial, trivial⟩ ?_
      refine AW.thenQ_normal ?_
      refine AW.ret ?_
      refine AW.thenQ_ret ?_
      obtain rfl := some_inj h
      exact ⟨_, Conv.refl _ _, .inr rfl, OutOk.mk [] 0 (out0 := .c (.t (.v (.int .i64 (-1))))) (ps := [True]) (by kernel_rfl) ⟨trivial, trivial⟩ (by kernel_rfl) (by kernel_rfl)⟩
  · rw [if_neg (by rw [c5]; exact Bool.false_ne_true)] at h
    refine AW.skip ?_
    refine AW.thenQ_normal ?_
    refine AW.seq ?_
    refine AW.seq ?_
    refine AW.reg tt_ok2 [0, 1, 13] [] [] ⟨[(13, .c (.t (.v (.bool y3)))), (0, .c (.t (.v (.int .i64 p0)))), (1, .c (.t (.v (.int .i64 p1))))], [], 7⟩ [True] (by kernel_rfl) (by kernel_rfl) ⟨trivial, trivial⟩ ?_
    refine AW.thenQ_normal ?_
    refine AW.cond (b := y3) (by kernel_rfl) (fun c7 => ?_) (fun c7 => ?_)
    · rw [if_pos c7] at h
      refine AW.seq ?_
      refine AW.reg tt_ok2 [4] [] [] ⟨[(4, .c (.t (.v (.int .i64 1))))], [], 8⟩ [True] (by kernel_rfl) (by kernel_rfl) ⟨trivial, trivial⟩ ?_
      refine AW.thenQ_normal ?_
      refine AW.ret ?_
      refine AW.thenQ_ret ?_
      obtain rfl := some_inj h
      exact ⟨_, Conv.refl _ _, .inr rfl, OutOk.mk [] 0 (out0 := .c (.t (.v (.int .i64 1)))) (ps := [True]) (by kernel_rfl) ⟨trivial, trivial⟩ (by kernel_rfl) (by kernel_rfl)⟩
    · rw [if_neg (by rw [c7]; exact Bool.false_ne_true)] at h
      refine AW.skip ?_
      refine AW.thenQ_normal ?_
      refine AW.seq ?_
      refine AW.seq ?_
      refine AW.reg tt_ok2 [0, 1, 16] [] [] ⟨[(16, .c (.t (.v (.bool (decide (p0 < p1)))))), (0, .c (.t (.v (.int .i64 p0)))), (1, .c (.t (.v (.int .i64 p1))))], [], 10⟩ [True, True, True] (by kernel_rfl) (by kernel_rfl) ⟨trivial, trivial, trivial, trivial⟩ ?_
      refine AW.thenQ_normal ?_
      refine AW.cond (b := decide (p0 < p1)) (by kernel_rfl) (fun c8 => ?_) (fun c8 => ?_)
      · rw [if_pos c8] at h
        refine AW.seq ?_
        refine AW.reg tt_ok2 [4] [] [] ⟨[(4, .c (.t (.v (.int .i64 (-1)))))], [], 11⟩ [True] (by kernel_rfl) (by kernel_rfl) ⟨trivial, trivial⟩ ?_
        refine AW.thenQ_normal ?_
        refine AW.ret ?_
        refine AW.thenQ_ret ?_
        obtain rfl := some_inj h
        exact ⟨_, Conv.refl _ _, .inr rfl, OutOk.mk [] 0 (out0 := .c (.t (.v (.int .i64 (-1))))) (ps := [True]) (by kernel_rfl) ⟨trivial, trivial⟩ (by kernel_rfl) (by kernel_rfl)⟩
      · rw [if_neg (by rw [c8]; exact Bool.false_ne_true)] at h
        refine AW.skip ?_
        refine AW.thenQ_normal ?_
        refine AW.seq ?_
        refine AW.seq ?_
        refine AW.reg tt_ok2 [19] [] [] ⟨[(19, .c (.t (.v (.bool (decide (p0 > p1))))))], [], 13⟩ [True, True, True] (by kernel_rfl) (by kernel_rfl) ⟨trivial, trivial, trivial, trivial⟩ ?_
        refine AW.thenQ_normal ?_
        refine AW.cond (b := decide (p0 > p1)) (by kernel_rfl) (fun c9 => ?_) (fun c9 => ?_)
        · rw [if_pos c9] at h
          refine AW.seq ?_
          refine AW.reg tt_ok2 [4] [] [] ⟨[(4, .c (.t (.v (.int .i64 1))))], [], 14⟩ [True] (by kernel_rfl) (by kernel_rfl) ⟨trivial, trivial⟩ ?_
          refine AW.thenQ_normal ?_
          refine AW.ret ?_
          refine AW.thenQ_ret ?_
          obtain rfl := some_inj h
          exact ⟨_, Conv.refl _ _, .inr rfl, OutOk.mk [] 0 (out0 := .c (.t (.v (.int .i64 1)))) (ps := [True]) (by kernel_rfl) ⟨trivial, trivial⟩ (by kernel_rfl) (by kernel_rfl)⟩
        · rw [if_neg (by rw [c9]; exact Bool.false_ne_true)] at h
          refine AW.skip ?_
          refine AW.thenQ_normal ?_
          refine AW.seq ?_
          refine AW.reg tt_ok2 [4] [] [] ⟨[(4, .c (.t (.v (.int .i64 0))))], [], 14⟩ [True] (by kernel_rfl) (by kernel_rfl) ⟨trivial, trivial⟩ ?_
          refine AW.thenQ_normal ?_
          refine AW.ret ?_
          obtain rfl := some_inj h
          exact ⟨_, Conv.refl _ _, .inr rfl, OutOk.mk [] 0 (out0 := .c (.t (.v (.int .i64 0)))) (ps := [True]) (by kernel_rfl) ⟨trivial, trivial⟩ (by kernel_rfl) (by kernel_rfl)⟩
/-! cmp.isNaN[uint64] -/
noncomputable def cmp_isNaN_uint64 (p0 : Int) : Option Bool := some (p0 != p0)
set_option maxRecDepth 100000 in
set_option maxHeartbeats 10000000 in
theorem cmp_isNaN_uint64_con (p0 : Int) (r0 : Bool) (h : cmp_isNaN_uint64 p0 = some r0) : Con Try.prog 74 [.c (.t (.v (.int .u64 p0)))] [] (.c (.t (.v (.bool r0)))) [] := by
  revert h; generalize r0 = r; intro h
  refine con_of tt_ok2 0 Try.func74 (by kernel_rfl) rfl (by kernel_rfl) (fun base X hk => AW.post ?_)
  unfold cmp_isNaN_uint64 at h
  refine AW.seq ?_
  refine AW.reg tt_ok2 [0] [] [] ⟨[(0, .c (.t (.v (.int .u64 p0))))], [], 1⟩ [True] (by kernel_rfl) (by kernel_rfl) ⟨trivial, trivial⟩ ?_
  refine AW.thenQ_normal ?_
  refine AW.seq ?_
  refine AW.reg tt_ok2 [2] [] [] ⟨[(2, .c (.t (.v (.bool (p0 != p0)))))], [], 5⟩ [True, True, True, True] (by kernel_rfl) (by kernel_rfl) ⟨trivial, trivial, trivial, trivial, trivial⟩ ?_
  refine AW.thenQ_normal ?_
  refine AW.ret ?_
  obtain rfl := some_inj h
  exact ⟨_, Conv.refl _ _, .inr rfl, OutOk.mk [] 0 (out0 := .c (.t (.v (.bool (p0 != p0))))) (ps := [True]) (by kernel_rfl) ⟨trivial, trivial⟩ (by kernel_rfl) (by kernel_rfl)⟩
/-! cmp.Compare[uint64] -/
noncomputable def cmp_Compare_uint64 (p0 : Int) (p1 : Int) : Option Int := (cmp_isNaN_uint64 p0).bind fun y1 => ((cmp_isNaN_uint64 p1).bind fun y3 => (if y1 = true then (if y3 = true then (some 0) else (some (-1))) else (if y3 = true then (some 1) else (if (decide (p0 < p1)) = true then (some (-1)) else (if (decide (p0 > p1)) = true then (some 1) else (some 0))))))
set_option maxRecDepth 100000 in
set_option maxHeartbeats 10000000 in
theorem cmp_Compare_uint64_con (p0 : Int) (p1 : Int) (r0 : Int) (h : cmp_Compare_uint64 p0 p1 = some r0) : Con Try.prog 73 [.c (.t (.v (.int .u64 p0))), .c (.t (.v (.int .u64 p1)))] [] (.c (.t (.v (.int .i64 r0)))) [] := by
  revert h; generalize r0 = r; intro h
  refine con_of tt_ok2 0 Try.func73 (by kernel_rfl) rfl (by kernel_rfl) (fun base X hk => AW.post ?_)
  unfold cmp_Compare_uint64 at h
  refine AW.seq ?_
  refine AW.reg tt_ok2 [0, 1] [] [] ⟨[(0, .c (.t (.v (.int .u64 p0)))), (1, .c (.t (.v (.int .u64 p1))))], [], 1⟩ [True] (by kernel_rfl) (by kernel_rfl) ⟨trivial, trivial⟩ ?_
  refine AW.thenQ_normal ?_
  refine AW.seq ?_
  obtain ⟨y1, e2, h⟩ := bnd_some h
  refine AW.reg tt_ok2 [0, 1, 5] [] [{}, { call := some { ids := [], frz := [], flat := true, cnt := 0, args := [.c (.t (.v (.int .u64 p0)))], out := .c (.t (.v (.bool y1))), outb := [] } }] ⟨[(5, .c (.t (.v (.bool y1)))), (0, .c (.t (.v (.int .u64 p0)))), (1, .c (.t (.v (.int .u64 p1))))], [], 3⟩ [True, ((True) ∧ (True)) ∧ (All2 ArgLe [.c (.t (.v (.int .u64 p0)))] [.c (.t (.v (.int .u64 p0)))]) ∧ ((true = true → flatB [])) ∧ (Con Try.prog 74 [.c (.t (.v (.int .u64 p0)))] [] (.c (.t (.v (.bool y1)))) []), True] (by kernel_rfl) (by kernel_rfl) ⟨trivial, ⟨⟨trivial, trivial⟩, ⟨ArgLe.refl _, trivial⟩, (fun _ => trivial), (cmp_isNaN_uint64_con p0 y1 e2)⟩, trivial, trivial⟩ ?_
  refine AW.thenQ_normal ?_
  refine AW.seq ?_
  obtain ⟨y3, e4, h⟩ := bnd_some h
  refine AW.reg tt_ok2 [0, 1, 5, 6] [] [{}, { call := some { ids := [], frz := [], flat := true, cnt := 0, args := [.c (.t (.v (.int .u64 p1)))], out := .c (.t (.v (.bool y3))), outb := [] } }] ⟨[(6, .c (.t (.v (.bool y3)))), (5, .c (.t (.v (.bool y1)))), (0, .c (.t (.v (.int .u64 p0)))), (1, .c (.t (.v (.int .u64 p1))))], [], 5⟩ [True, ((True) ∧ (True)) ∧ (All2 ArgLe [.c (.t (.v (.int .u64 p1)))] [.c (.t (.v (.int .u64 p1)))]) ∧ ((true = true → flatB [])) ∧ (Con Try.prog 74 [.c (.t (.v (.int .u64 p1)))] [] (.c (.t (.v (.bool y3)))) []), True] (by kernel_rfl) (by kernel_rfl) ⟨trivial, ⟨⟨trivial, trivial⟩, ⟨ArgLe.refl _, trivial⟩, (fun _ => trivial), (cmp_isNaN_uint64_con p1 y3 e4)⟩, trivial, trivial⟩ ?_
  refine AW.thenQ_normal ?_
  refine AW.seq ?_
  refine AW.seq ?_
  refine AW.reg tt_ok2 [0, 1, 6, 11] [] [] ⟨[(11, .c (.t (.v (.bool y1)))), (6, .c (.t (.v (.bool y3)))), (0, .c (.t (.v (.int .u64 p0)))), (1, .c (.t (.v (.int .u64 p1))))], [], 6⟩ [True] (by kernel_rfl) (by kernel_rfl) ⟨trivial, trivial⟩ ?_
  refine AW.thenQ_normal ?_
  refine AW.cond (b := y1) (by kernel_rfl) (fun c5 => ?_) (fun c5 => ?_)
  · rw [if_pos c5] at h
    refine AW.seq ?_
    refine AW.seq ?_
    refine AW.reg tt_ok2 [12] [] [] ⟨[(12, .c (.t (.v (.bool y3))))], [], 7⟩ [True] (by kernel_rfl) (by kernel_rfl) ⟨trivial, trivial⟩ ?_
    refine AW.thenQ_normal ?_
    refine AW.cond (b := y3) (by kernel_rfl) (fun c6 => ?_) (fun c6 => ?_)
    · rw [if_pos c6] at h
      refine AW.seq ?_
      refine AW.reg tt_ok2 [4] [] [] ⟨[(4, .c (.t (.v (.int .i64 0))))], [], 8⟩ [True] (by kernel_rfl) (by kernel_rfl) ⟨trivial, trivial⟩ ?_
      refine AW.thenQ_normal ?_
      refine AW.ret ?_
      refine AW.thenQ_ret ?_
      refine AW.thenQ_ret ?_
      obtain rfl := some_inj h
      exact ⟨_, Conv.refl _ _, .inr rfl, OutOk.mk [] 0 (out0 := .c (.t (.v (.int .i64 0)))) (ps := [True]) (by kernel_rfl) ⟨trivial, trivial⟩ (by kernel_rfl) (by kernel_rfl)⟩
    · rw [if_neg (by rw [c6]; exact Bool.false_ne_true)] at h
      refine AW.skip ?_
      refine AW.thenQ_normal ?_
      refine AW.seq ?_
      refine AW.reg tt_ok2 [4] [] [] ⟨[(4, .c (.t (.v (.int .i64 (-1)))))], [], 8⟩ [True] (by kernel_rfl) (by kernel_rfl) ⟨trivial, trivial⟩ ?_
      refine AW.thenQ_normal ?_
      refine AW.ret ?_
      refine AW.thenQ_ret ?_
      obtain rfl := some_inj h
      exact ⟨_, Conv.refl _ _, .inr rfl, OutOk.mk [] 0 (out0 := .c (.t (.v (.int .i64 (-1))))) (ps := [True]) (by kernel_rfl) ⟨trivial, trivial⟩ (by kernel_rfl) (by kernel_rfl)⟩
  · rw [if_neg (by rw [c5]; exact Bool.false_ne_true)] at h
    refine AW.skip ?_
    refine AW.thenQ_normal ?_
    refine AW.seq ?_
    refine AW.seq ?_
    refine AW.reg tt_ok2 [0, 1, 13] [] [] ⟨[(13, .c (.t (.v (.bool y3)))), (0, .c (.t (.v (.int .u64 p0)))), (1, .c (.t (.v (.int .u64 p1))))], [], 7⟩ [True] (by kernel_rfl) (by kernel_rfl) ⟨trivial, trivial⟩ ?_
    refine AW.thenQ_normal ?_
    refine AW.cond (b := y3) (by kernel_rfl) (fun c7 => ?_) (fun c7 => ?_)
    · rw [if_pos c7] at h
      refine AW.seq ?_
      refine AW.reg tt_ok2 [4] [] [] ⟨[(4, .c (.t (.v (.int .i64 1))))], [], 8⟩ [True] (by kernel_rfl) (by kernel_rfl) ⟨trivial, trivial⟩ ?_
      refine AW.thenQ_normal ?_
      refine AW.ret ?_
      refine AW.thenQ_ret ?_
      obtain rfl := some_inj h
      exact ⟨_, Conv.refl _ _, .inr rfl, OutOk.mk [] 0 (out0 := .c (.t (.v (.int .i64 1)))) (ps := [True]) (by kernel_rfl) ⟨trivial, trivial⟩ (by kernel_rfl) (by kernel_rfl)⟩
    · rw [if_neg (by rw [c7]; exact Bool.false_ne_true)] at h
      refine AW.skip ?_
      refine AW.thenQ_normal ?_
      refine AW.seq ?_
      refine AW.seq ?_
      refine AW.reg tt_ok2 [0, 1, 16] [] [] ⟨[(16, .c (.t (.v (.bool (decide (p0 < p1)))))), (0, .c (.t (.v (.int .u64 p0)))), (1, .c (.t (.v (.int .u64 p1))))], [], 10⟩ [True, True, True] (by kernel_rfl) (by kernel_rfl) ⟨trivial, trivial, trivial, trivial⟩ ?_
      refine AW.thenQ_normal ?_
      refine AW.cond (b := decide (p0 < p1)) (by kernel_rfl) (fun c8 => ?_) (fun c8 => ?_)
      · rw [if_pos c8] at h
        refine AW.seq ?_
        refine AW.reg tt_ok2 [4] [] [] ⟨[(4, .c (.t (.v (.int .i64 (-1)))))], [], 11⟩ [True] (by kernel_rfl) (by kernel_rfl) ⟨trivial, trivial⟩ ?_
        refine AW.thenQ_normal ?_
        refine AW.ret ?_
        refine AW.thenQ_ret ?_
        obtain rfl := some_inj h
        exact ⟨_, Conv.refl _ _, .inr rfl, OutOk.mk [] 0 (out0 := .c (.t (.v (.int .i64 (-1))))) (ps := [True]) (by kernel_rfl) ⟨trivial, trivial⟩ (by kernel_rfl) (by kernel_rfl)⟩
      · rw [if_neg (by rw [c8]; exact Bool.false_ne_true)] at h
        refine AW.skip ?_
        refine AW.thenQ_normal ?_
        refine AW.seq ?_
        refine AW.seq ?_
        refine AW.reg tt_ok2 [19] [] [] ⟨[(19, .c (.t (.v (.bool (decide (p0 > p1))))))], [], 13⟩ [True, True, True] (by kernel_rfl) (by kernel_rfl) ⟨trivial, trivial, trivial, trivial⟩ ?_
        refine AW.thenQ_normal ?_
        refine AW.cond (b := decide (p0 > p1)) (by kernel_rfl) (fun c9 => ?_) (fun c9 => ?_)
        · rw [if_pos c9] at h
          refine AW.seq ?_
          refine AW.reg tt_ok2 [4] [] [] ⟨[(4, .c (.t (.v (.int .i64 1))))], [], 14⟩ [True] (by kernel_rfl) (by kernel_rfl) ⟨trivial, trivial⟩ ?_
          refine AW.thenQ_normal ?_
          refine AW.ret ?_
          refine AW.thenQ_ret ?_
          obtain rfl := some_inj h
          exact ⟨_, Conv.refl _ _, .inr rfl, OutOk.mk [] 0 (out0 := .c (.t (.v (.int .i64 1)))) (ps := [True]) (by kernel_rfl) ⟨trivial, trivial⟩ (by kernel_rfl) (by kernel_rfl)⟩
        · rw [if_neg (by rw [c9]; exact Bool.false_ne_true)] at h
          refine AW.skip ?_
          refine AW.thenQ_normal ?_
          refine AW.seq ?_
          refine AW.reg tt_ok2 [4] [] [] ⟨[(4, .c (.t (.v (.int .i64 0))))], [], 14⟩ [True] (by kernel_rfl) (by kernel_rfl) ⟨trivial, trivial⟩ ?_
          refine AW.thenQ_normal ?_
          refine AW.ret ?_
          obtain rfl := some_inj h
          exact ⟨_, Conv.refl _ _, .inr rfl, OutOk.mk [] 0 (out0 := .c (.t (.v (.int .i64 0)))) (ps := [True]) (by kernel_rfl) ⟨trivial, trivial⟩ (by kernel_rfl) (by kernel_rfl)⟩
/-! slices.Compare[[]uint64,uint64] -/
noncomputable def slices_Compare_uint64_l4 (p0 : List Int) (p1 : List Int) (x2 : Int) : Option (Int ⊕ (Unit ⊕ Int)) := if (decide (x2 < ((p0.length : Nat) : Int))) = true then (if 0 ≤ x2 then (if x2 < ((p0.length : Nat) : Int) then (if (decide (x2 ≥ ((p1.length : Nat) : Int))) = true then (some (.inr (.inr 1))) else (if x2 < ((p1.length : Nat) : Int) then ((cmp_Compare_uint64 (p0.getD x2.toNat 0) (p1.getD x2.toNat 0)).bind fun y9 => (if (y9 != 0) = true then (some (.inr (.inr y9))) else (some (.inl (IntKind.i64.wrap (x2 + 1)))))) else none)) else none) else none) else (some (.inr (.inl ())))
noncomputable def slices_Compare_uint64_a5 (p0 : List Int) (p1 : List Int) : Option Int := if (decide (((p0.length : Nat) : Int) < ((p1.length : Nat) : Int))) = true then (some (-1)) else (some 0)
noncomputable def slices_Compare_uint64_a6 (x13 : Int) : Option Int := some x13
noncomputable def slices_Compare_uint64 (p0 : List Int) (p1 : List Int) : Option Int := bindE (loop (fun v : Int => slices_Compare_uint64_l4 p0 p1 v) 0) (fun t => slices_Compare_uint64_a5 p0 p1) (fun t => slices_Compare_uint64_a6 t)
set_option maxRecDepth 100000 in
set_option maxHeartbeats 10000000 in
theorem slices_Compare_uint64_con (p0 : List Int) (p1 : List Int) (r0 : Int) (h : slices_Compare_uint64 p0 p1 = some r0) : Con Try.prog 65 [.c (.t (.tree p0.length 1 (Ru64 p0))), .c (.t (.tree p1.length 1 (Ru64 p1)))] [] (.c (.t (.v (.int .i64 r0)))) [] := by
  revert h; generalize r0 = r; intro h
  refine con_of tt_ok2 0 Try.func65 (by kernel_rfl) rfl (by kernel_rfl) (fun base X hk => AW.post ?_)
  unfold slices_Compare_uint64 at h
  refine AW.seq ?_
  refine AW.reg tt_ok2 [0, 1] [] [] ⟨[(0, .c (.t (.tree p0.length 1 (Ru64 p0)))), (1, .c (.t (.tree p1.length 1 (Ru64 p1))))], [], 1⟩ [True] (by kernel_rfl) (by kernel_rfl) ⟨trivial, trivial⟩ ?_
  refine AW.thenQ_normal ?_
  refine AW.seq ?_
  refine AW.seq ?_
  refine AW.reg tt_ok2 [0, 1, 9, 10, 11] [] [] ⟨[(11, .c (.t (.v (.int .i64 0)))), (10, .c (.t (.v (.int .i64 ((p0.length : Nat) : Int))))), (9, .c (.t (.tree p0.length 1 (Ru64 p0)))), (0, .c (.t (.tree p0.length 1 (Ru64 p0)))), (1, .c (.t (.tree p1.length 1 (Ru64 p1))))], [], 4⟩ [True, True, True] (by kernel_rfl) (by kernel_rfl) ⟨trivial, trivial, trivial, trivial⟩ ?_
  refine AW.thenQ_normal ?_
  refine AW.block ?_
  rcases bindE_some h with ⟨t, l14, h⟩ | ⟨t, l14, h⟩
  ·
    replace h : slices_Compare_uint64_a5 p0 p1 = some r := h
    unfold slices_Compare_uint64_a5 at h
    refine AW.pre (S' := ((fun v => ⟨[(0, .c (.t (.tree p0.length 1 (Ru64 p0)))), (1, .c (.t (.tree p1.length 1 (Ru64 p1)))), (9, .c (.t (.tree p0.length 1 (Ru64 p0)))), (10, .c (.t (.v (.int .i64 ((p0.length : Nat) : Int))))), (11, .c (.t (.v (.int .i64 v))))], [], 0⟩) : Int → St) 0) (conv_ren [] [0, 1, 9, 10, 11] (n := 0) (by kernel_rfl) (by kernel_rfl)) ?_
    refine AW.loop2 (step := (fun v : Int => slices_Compare_uint64_l4 p0 p1 v)) (s0 := 0) (t := .inl ()) (fun v => ⟨[(0, .c (.t (.tree p0.length 1 (Ru64 p0)))), (1, .c (.t (.tree p1.length 1 (Ru64 p1)))), (9, .c (.t (.tree p0.length 1 (Ru64 p0)))), (10, .c (.t (.v (.int .i64 ((p0.length : Nat) : Int))))), (11, .c (.t (.v (.int .i64 v))))], [], 0⟩) (fun t : (Unit ⊕ Int) => match t with | .inl t => (.exit 0, ⟨[(0, .c (.t (.tree p0.length 1 (Ru64 p0)))), (1, .c (.t (.tree p1.length 1 (Ru64 p1))))], [], 0⟩) | .inr t => (.ret, ⟨[(4, .c (.t (.v (.int .i64 t))))], [], 0⟩)) l14 (fun t => by cases t <;> trivial) ?_ ?_
    ·
      clear l14 h
      intro v o h
      obtain ⟨x2, rfl⟩ : ∃ x, x = v := ⟨_, rfl⟩
      replace h : slices_Compare_uint64_l4 p0 p1 x2 = some o := h
      unfold slices_Compare_uint64_l4 at h
      show AW _ ⟨[(0, .c (.t (.tree p0.length 1 (Ru64 p0)))), (1, .c (.t (.tree p1.length 1 (Ru64 p1)))), (9, .c (.t (.tree p0.length 1 (Ru64 p0)))), (10, .c (.t (.v (.int .i64 ((p0.length : Nat) : Int))))), (11, .c (.t (.v (.int .i64 x2))))], [], 0⟩ _ _
      refine AW.seq ?_
      refine AW.reg tt_ok2 [0, 1, 9, 10, 11, 12] [] [] ⟨[(12, .c (.t (.v (.bool (decide (x2 < ((p0.length : Nat) : Int))))))), (0, .c (.t (.tree p0.length 1 (Ru64 p0)))), (1, .c (.t (.tree p1.length 1 (Ru64 p1)))), (9, .c (.t (.tree p0.length 1 (Ru64 p0)))), (10, .c (.t (.v (.int .i64 ((p0.length : Nat) : Int))))), (11, .c (.t (.v (.int .i64 x2))))], [], 1⟩ [True] (by kernel_rfl) (by kernel_rfl) ⟨trivial, trivial⟩ ?_
      refine AW.thenQ_normal ?_
      refine AW.seq ?_
      refine AW.cond (b := decide (x2 < ((p0.length : Nat) : Int))) (by kernel_rfl) (fun c4 => ?_) (fun c4 => ?_)
      · rw [if_pos c4] at h
        refine AW.skip ?_
        refine AW.thenQ_normal ?_
        refine AW.seq ?_
        refine AW.block ?_
        refine AW.seq ?_
        obtain ⟨g5, h⟩ := ifc h
        obtain ⟨g6, h⟩ := ifc h
        refine AW.reg tt_ok2 [0, 1, 5, 6, 9, 10, 11] [] [] ⟨[(6, .c (.t (.v (.int .u64 (p0.getD x2.toNat 0))))), (5, .c (.t (.v (.int .i64 x2)))), (0, .c (.t (.tree p0.length 1 (Ru64 p0)))), (1, .c (.t (.tree p1.length 1 (Ru64 p1)))), (9, .c (.t (.tree p0.length 1 (Ru64 p0)))), (10, .c (.t (.v (.int .i64 ((p0.length : Nat) : Int))))), (11, .c (.t (.v (.int .i64 x2))))], [], 6⟩ [True, (0 ≤ x2) ∧ (x2 < ((p0.length : Nat) : Int)), True, True, True] (by kernel_rfl) (by kernel_rfl) ⟨trivial, ⟨g5, g6⟩, trivial, trivial, trivial, trivial⟩ ?_
        refine AW.thenQ_normal ?_
        refine AW.seq ?_
        refine AW.seq ?_
        refine AW.reg tt_ok2 [0, 1, 5, 6, 9, 10, 11, 19] [] [] ⟨[(19, .c (.t (.v (.bool (decide (x2 ≥ ((p1.length : Nat) : Int))))))), (6, .c (.t (.v (.int .u64 (p0.getD x2.toNat 0))))), (5, .c (.t (.v (.int .i64 x2)))), (0, .c (.t (.tree p0.length 1 (Ru64 p0)))), (1, .c (.t (.tree p1.length 1 (Ru64 p1)))), (9, .c (.t (.tree p0.length 1 (Ru64 p0)))), (10, .c (.t (.v (.int .i64 ((p0.length : Nat) : Int))))), (11, .c (.t (.v (.int .i64 x2))))], [], 10⟩ [True, True, True, True] (by kernel_rfl) (by kernel_rfl) ⟨trivial, trivial, trivial, trivial, trivial⟩ ?_
        refine AW.thenQ_normal ?_
        refine AW.cond (b := decide (x2 ≥ ((p1.length : Nat) : Int))) (by kernel_rfl) (fun c7 => ?_) (fun c7 => ?_)
        · rw [if_pos c7] at h
          refine AW.seq ?_
          refine AW.reg tt_ok2 [4] [] [] ⟨[(4, .c (.t (.v (.int .i64 1))))], [], 11⟩ [True] (by kernel_rfl) (by kernel_rfl) ⟨trivial, trivial⟩ ?_
          refine AW.thenQ_normal ?_
          refine AW.ret ?_
          refine AW.thenQ_ret ?_
          refine AW.inBlock_ret ?_
          refine AW.thenQ_ret ?_
          obtain rfl := some_inj h
          refine loopQ_out rfl (conv_ren [] [4] (n := 0) (by kernel_rfl) (by kernel_rfl))
        · rw [if_neg (by rw [c7]; exact Bool.false_ne_true)] at h
          refine AW.skip ?_
          refine AW.thenQ_normal ?_
          refine AW.seq ?_
          obtain ⟨g8, h⟩ := ifc h
          refine AW.reg tt_ok2 [0, 1, 6, 7, 9, 10, 11] [] [] ⟨[(7, .c (.t (.v (.int .u64 (p1.getD x2.toNat 0))))), (6, .c (.t (.v (.int .u64 (p0.getD x2.toNat 0))))), (0, .c (.t (.tree p0.length 1 (Ru64 p0)))), (1, .c (.t (.tree p1.length 1 (Ru64 p1)))), (9, .c (.t (.tree p0.length 1 (Ru64 p0)))), (10, .c (.t (.v (.int .i64 ((p0.length : Nat) : Int))))), (11, .c (.t (.v (.int .i64 x2))))], [], 15⟩ [True, True, (0 ≤ x2) ∧ (x2 < ((p1.length : Nat) : Int)), True, True] (by kernel_rfl) (by kernel_rfl) ⟨trivial, trivial, ⟨g5, g8⟩, trivial, trivial, trivial⟩ ?_
          refine AW.thenQ_normal ?_
          refine AW.seq ?_
          obtain ⟨y9, e10, h⟩ := bnd_some h
          refine AW.reg tt_ok2 [0, 1, 8, 9, 10, 11] [] [{}, {}, { call := some { ids := [], frz := [], flat := true, cnt := 0, args := [.c (.t (.v (.int .u64 (p0.getD x2.toNat 0)))), .c (.t (.v (.int .u64 (p1.getD x2.toNat 0))))], out := .c (.t (.v (.int .i64 y9))), outb := [] } }] ⟨[(8, .c (.t (.v (.int .i64 y9)))), (0, .c (.t (.tree p0.length 1 (Ru64 p0)))), (1, .c (.t (.tree p1.length 1 (Ru64 p1)))), (9, .c (.t (.tree p0.length 1 (Ru64 p0)))), (10, .c (.t (.v (.int .i64 ((p0.length : Nat) : Int))))), (11, .c (.t (.v (.int .i64 x2))))], [], 18⟩ [True, True, ((True) ∧ (True) ∧ (True)) ∧ (All2 ArgLe [.c (.t (.v (.int .u64 (p0.getD x2.toNat 0)))), .c (.t (.v (.int .u64 (p1.getD x2.toNat 0))))] [.c (.t (.v (.int .u64 (p0.getD x2.toNat 0)))), .c (.t (.v (.int .u64 (p1.getD x2.toNat 0))))]) ∧ ((true = true → flatB [])) ∧ (Con Try.prog 73 [.c (.t (.v (.int .u64 (p0.getD x2.toNat 0)))), .c (.t (.v (.int .u64 (p1.getD x2.toNat 0))))] [] (.c (.t (.v (.int .i64 y9)))) []), True] (by kernel_rfl) (by kernel_rfl) ⟨trivial, trivial, ⟨⟨trivial, trivial, trivial⟩, ⟨ArgLe.refl _, ArgLe.refl _, trivial⟩, (fun _ => trivial), (cmp_Compare_uint64_con (p0.getD x2.toNat 0) (p1.getD x2.toNat 0) y9 e10)⟩, trivial, trivial⟩ ?_
          refine AW.thenQ_normal ?_
          refine AW.seq ?_
          refine AW.reg tt_ok2 [0, 1, 8, 9, 10, 11, 28] [] [] ⟨[(28, .c (.t (.v (.bool (y9 != 0))))), (8, .c (.t (.v (.int .i64 y9)))), (0, .c (.t (.tree p0.length 1 (Ru64 p0)))), (1, .c (.t (.tree p1.length 1 (Ru64 p1)))), (9, .c (.t (.tree p0.length 1 (Ru64 p0)))), (10, .c (.t (.v (.int .i64 ((p0.length : Nat) : Int))))), (11, .c (.t (.v (.int .i64 x2))))], [], 20⟩ [True, True] (by kernel_rfl) (by kernel_rfl) ⟨trivial, trivial, trivial⟩ ?_
          refine AW.thenQ_normal ?_
          refine AW.cond (b := (y9 != 0)) (by kernel_rfl) (fun c11 => ?_) (fun c11 => ?_)
          · rw [if_pos c11] at h
            refine AW.seq ?_
            refine AW.reg tt_ok2 [4] [] [] ⟨[(4, .c (.t (.v (.int .i64 y9))))], [], 22⟩ [True, True] (by kernel_rfl) (by kernel_rfl) ⟨trivial, trivial, trivial⟩ ?_
            refine AW.thenQ_normal ?_
            refine AW.ret ?_
            refine AW.inBlock_ret ?_
            refine AW.thenQ_ret ?_
            obtain rfl := some_inj h
            refine loopQ_out rfl (conv_ren [] [4] (n := 0) (by kernel_rfl) (by kernel_rfl))
          · rw [if_neg (by rw [c11]; exact Bool.false_ne_true)] at h
            refine AW.skip ?_
            refine AW.inBlock_normal ?_
            refine AW.thenQ_normal ?_
            refine AW.reg tt_ok2 [0, 1, 9, 10, 11] [] [] ⟨[(11, .c (.t (.v (.int .i64 (IntKind.i64.wrap (x2 + 1)))))), (0, .c (.t (.tree p0.length 1 (Ru64 p0)))), (1, .c (.t (.tree p1.length 1 (Ru64 p1)))), (9, .c (.t (.tree p0.length 1 (Ru64 p0)))), (10, .c (.t (.v (.int .i64 ((p0.length : Nat) : Int)))))], [], 22⟩ [True, True] (by kernel_rfl) (by kernel_rfl) ⟨trivial, trivial, trivial⟩ ?_
            obtain rfl := some_inj h
            refine loopQ_next (conv_ren [] [0, 1, 9, 10, 11] (n := 0) (by kernel_rfl) (by kernel_rfl))
      · rw [if_neg (by rw [c4]; exact Bool.false_ne_true)] at h
        refine AW.exit ?_
        refine AW.thenQ_exit ?_
        obtain rfl := some_inj h
        refine loopQ_out rfl (conv_ren [] [0, 1] (n := 0) (by kernel_rfl) (by kernel_rfl))
    ·
      show (_ : Exit → St → Prop) (.exit 0) ⟨[(0, .c (.t (.tree p0.length 1 (Ru64 p0)))), (1, .c (.t (.tree p1.length 1 (Ru64 p1))))], [], 0⟩
      refine AW.inBlock_hit ?_
      refine AW.thenQ_normal ?_
      refine AW.seq ?_
      refine AW.seq ?_
      refine AW.reg tt_ok2 [35] [] [] ⟨[(35, .c (.t (.v (.bool (decide (((p0.length : Nat) : Int) < ((p1.length : Nat) : Int)))))))], [], 5⟩ [True, True, True, True, True] (by kernel_rfl) (by kernel_rfl) ⟨trivial, trivial, trivial, trivial, trivial, trivial⟩ ?_
      refine AW.thenQ_normal ?_
      refine AW.cond (b := decide (((p0.length : Nat) : Int) < ((p1.length : Nat) : Int))) (by kernel_rfl) (fun c12 => ?_) (fun c12 => ?_)
      · rw [if_pos c12] at h
        refine AW.seq ?_
        refine AW.reg tt_ok2 [4] [] [] ⟨[(4, .c (.t (.v (.int .i64 (-1)))))], [], 6⟩ [True] (by kernel_rfl) (by kernel_rfl) ⟨trivial, trivial⟩ ?_
        refine AW.thenQ_normal ?_
        refine AW.ret ?_
        refine AW.thenQ_ret ?_
        obtain rfl := some_inj h
        exact ⟨_, Conv.refl _ _, .inr rfl, OutOk.mk [] 0 (out0 := .c (.t (.v (.int .i64 (-1))))) (ps := [True]) (by kernel_rfl) ⟨trivial, trivial⟩ (by kernel_rfl) (by kernel_rfl)⟩
      · rw [if_neg (by rw [c12]; exact Bool.false_ne_true)] at h
        refine AW.skip ?_
        refine AW.thenQ_normal ?_
        refine AW.seq ?_
        refine AW.reg tt_ok2 [4] [] [] ⟨[(4, .c (.t (.v (.int .i64 0))))], [], 6⟩ [True] (by kernel_rfl) (by kernel_rfl) ⟨trivial, trivial⟩ ?_
        refine AW.thenQ_normal ?_
        refine AW.ret ?_
        obtain rfl := some_inj h
        exact ⟨_, Conv.refl _ _, .inr rfl, OutOk.mk [] 0 (out0 := .c (.t (.v (.int .i64 0)))) (ps := [True]) (by kernel_rfl) ⟨trivial, trivial⟩ (by kernel_rfl) (by kernel_rfl)⟩
  ·
    obtain ⟨x13, rfl⟩ : ∃ x, x = t := ⟨_, rfl⟩
    replace h : slices_Compare_uint64_a6 x13 = some r := h
    unfold slices_Compare_uint64_a6 at h
    refine AW.pre (S' := ((fun v => ⟨[(0, .c (.t (.tree p0.length 1 (Ru64 p0)))), (1, .c (.t (.tree p1.length 1 (Ru64 p1)))), (9, .c (.t (.tree p0.length 1 (Ru64 p0)))), (10, .c (.t (.v (.int .i64 ((p0.length : Nat) : Int))))), (11, .c (.t (.v (.int .i64 v))))], [], 0⟩) : Int → St) 0) (conv_ren [] [0, 1, 9, 10, 11] (n := 0) (by kernel_rfl) (by kernel_rfl)) ?_
    refine AW.loop2 (step := (fun v : Int => slices_Compare_uint64_l4 p0 p1 v)) (s0 := 0) (t := .inr x13) (fun v => ⟨[(0, .c (.t (.tree p0.length 1 (Ru64 p0)))), (1, .c (.t (.tree p1.length 1 (Ru64 p1)))), (9, .c (.t (.tree p0.length 1 (Ru64 p0)))), (10, .c (.t (.v (.int .i64 ((p0.length : Nat) : Int))))), (11, .c (.t (.v (.int .i64 v))))], [], 0⟩) (fun t : (Unit ⊕ Int) => match t with | .inl t => (.exit 0, ⟨[(0, .c (.t (.tree p0.length 1 (Ru64 p0)))), (1, .c (.t (.tree p1.length 1 (Ru64 p1))))], [], 0⟩) | .inr t => (.ret, ⟨[(4, .c (.t (.v (.int .i64 t))))], [], 0⟩)) l14 (fun t => by cases t <;> trivial) ?_ ?_
    ·
      clear l14 h
      intro v o h
      obtain ⟨x2, rfl⟩ : ∃ x, x = v := ⟨_, rfl⟩
      replace h : slices_Compare_uint64_l4 p0 p1 x2 = some o := h
      unfold slices_Compare_uint64_l4 at h
      show AW _ ⟨[(0, .c (.t (.tree p0.length 1 (Ru64 p0)))), (1, .c (.t (.tree p1.length 1 (Ru64 p1)))), (9, .c (.t (.tree p0.length 1 (Ru64 p0)))), (10, .c (.t (.v (.int .i64 ((p0.length : Nat) : Int))))), (11, .c (.t (.v (.int .i64 x2))))], [], 0⟩ _ _
      refine AW.seq ?_
      refine AW.reg tt_ok2 [0, 1, 9, 10, 11, 12] [] [] ⟨[(12, .c (.t (.v (.bool (decide (x2 < ((p0.length : Nat) : Int))))))), (0, .c (.t (.tree p0.length 1 (Ru64 p0)))), (1, .c (.t (.tree p1.length 1 (Ru64 p1)))), (9, .c (.t (.tree p0.length 1 (Ru64 p0)))), (10, .c (.t (.v (.int .i64 ((p0.length : Nat) : Int))))), (11, .c (.t (.v (.int .i64 x2))))], [], 1⟩ [True] (by kernel_rfl) (by kernel_rfl) ⟨trivial, trivial⟩ ?_
      refine AW.thenQ_normal ?_
      refine AW.seq ?_
      refine AW.cond (b := decide (x2 < ((p0.length : Nat) : Int))) (by kernel_rfl) (fun c4 => ?_) (fun c4 => ?_)
      · rw [if_pos c4] at h
        refine AW.skip ?_
        refine AW.thenQ_normal ?_
        refine AW.seq ?_
        refine AW.block ?_
        refine AW.seq ?_
        obtain ⟨g5, h⟩ := ifc h
        obtain ⟨g6, h⟩ := ifc h
        refine AW.reg tt_ok2 [0, 1, 5, 6, 9, 10, 11] [] [] ⟨[(6, .c (.t (.v (.int .u64 (p0.getD x2.toNat 0))))), (5, .c (.t (.v (.int .i64 x2)))), (0, .c (.t (.tree p0.length 1 (Ru64 p0)))), (1, .c (.t (.tree p1.length 1 (Ru64 p1)))), (9, .c (.t (.tree p0.length 1 (Ru64 p0)))), (10, .c (.t (.v (.int .i64 ((p0.length : Nat) : Int))))), (11, .c (.t (.v (.int .i64 x2))))], [], 6⟩ [True, (0 ≤ x2) ∧ (x2 < ((p0.length : Nat) : Int)), True, True, True] (by kernel_rfl) (by kernel_rfl) ⟨trivial, ⟨g5, g6⟩, trivial, trivial, trivial, trivial⟩ ?_
        refine AW.thenQ_normal ?_
        refine AW.seq ?_
        refine AW.seq ?_
        refine AW.reg tt_ok2 [0, 1, 5, 6, 9, 10, 11, 19] [] [] ⟨[(19, .c (.t (.v (.bool (decide (x2 ≥ ((p1.length : Nat) : Int))))))), (6, .c (.t (.v (.int .u64 (p0.getD x2.toNat 0))))), (5, .c (.t (.v (.int .i64 x2)))), (0, .c (.t (.tree p0.length 1 (Ru64 p0)))), (1, .c (.t (.tree p1.length 1 (Ru64 p1)))), (9, .c (.t (.tree p0.length 1 (Ru64 p0)))), (10, .c (.t (.v (.int .i64 ((p0.length : Nat) : Int))))), (11, .c (.t (.v (.int .i64 x2))))], [], 10⟩ [True, True, True, True] (by kernel_rfl) (by kernel_rfl) ⟨trivial, trivial, trivial, trivial, trivial⟩ ?_
        refine AW.thenQ_normal ?_
        refine AW.cond (b := decide (x2 ≥ ((p1.length : Nat) : Int))) (by kernel_rfl) (fun c7 => ?_) (fun c7 => ?_)
        · rw [if_pos c7] at h
          refine AW.seq ?_
          refine AW.reg tt_ok2 [4] [] [] ⟨[(4, .c (.t (.v (.int .i64 1))))], [], 11⟩ [True] (by kernel_rfl) (by kernel_rfl) ⟨trivial, trivial⟩ ?_
          refine AW.thenQ_normal ?_
          refine AW.ret ?_
          refine AW.thenQ_ret ?_
          refine AW.inBlock_ret ?_
          refine AW.thenQ_ret ?_
          obtain rfl := some_inj h
          refine loopQ_out rfl (conv_ren [] [4] (n := 0) (by kernel_rfl) (by kernel_rfl))
        · rw [if_neg (by rw [c7]; exact Bool.false_ne_true)] at h
          refine AW.skip ?_
          refine AW.thenQ_normal ?_
          refine AW.seq ?_
          obtain ⟨g8, h⟩ := ifc h
          refine AW.reg tt_ok2 [0, 1, 6, 7, 9, 10, 11] [] [] ⟨[(7, .c (.t (.v (.int .u64 (p1.getD x2.toNat 0))))), (6, .c (.t (.v (.int .u64 (p0.getD x2.toNat 0))))), (0, .c (.t (.tree p0.length 1 (Ru64 p0)))), (1, .c (.t (.tree p1.length 1 (Ru64 p1)))), (9, .c (.t (.tree p0.length 1 (Ru64 p0)))), (10, .c (.t (.v (.int .i64 ((p0.length : Nat) : Int))))), (11, .c (.t (.v (.int .i64 x2))))], [], 15⟩ [True, True, (0 ≤ x2) ∧ (x2 < ((p1.length : Nat) : Int)), True, True] (by kernel_rfl) (by kernel_rfl) ⟨trivial, trivial, ⟨g5, g8⟩, trivial, trivial, trivial⟩ ?_
          refine AW.thenQ_normal ?_
          refine AW.seq ?_
          obtain ⟨y9, e10, h⟩ := bnd_some h
          refine AW.reg tt_ok2 [0, 1, 8, 9, 10, 11] [] [{}, {}, { call := some { ids := [], frz := [], flat := true, cnt := 0, args := [.c (.t (.v (.int .u64 (p0.getD x2.toNat 0)))), .c (.t (.v (.int .u64 (p1.getD x2.toNat 0))))], out := .c (.t (.v (.int .i64 y9))), outb := [] } }] ⟨[(8, .c (.t (.v (.int .i64 y9)))), (0, .c (.t (.tree p0.length 1 (Ru64 p0)))), (1, .c (.t (.tree p1.length 1 (Ru64 p1)))), (9, .c (.t (.tree p0.length 1 (Ru64 p0)))), (10, .c (.t (.v (.int .i64 ((p0.length : Nat) : Int))))), (11, .c (.t (.v (.int .i64 x2))))], [], 18⟩ [True, True, ((True) ∧ (True) ∧ (True)) ∧ (All2 ArgLe [.c (.t (.v (.int .u64 (p0.getD x2.toNat 0)))), .c (.t (.v (.int .u64 (p1.getD x2.toNat 0))))] [.c (.t (.v (.int .u64 (p0.getD x2.toNat 0)))), .c (.t (.v (.int .u64 (p1.getD x2.toNat 0))))]) ∧ ((true = true → flatB [])) ∧ (Con Try.prog 73 [.c (.t (.v (.int .u64 (p0.getD x2.toNat 0)))), .c (.t (.v (.int .u64 (p1.getD x2.toNat 0))))] [] (.c (.t (.v (.int .i64 y9)))) []), True] (by kernel_rfl) (by kernel_rfl) ⟨trivial, trivial, ⟨⟨trivial, trivial, trivial⟩, ⟨ArgLe.refl _, ArgLe.refl _, trivial⟩, (fun _ => trivial), (cmp_Compare_uint64_con (p0.getD x2.toNat 0) (p1.getD x2.toNat 0) y9 e10)⟩, trivial, trivial⟩ ?_
          refine AW.thenQ_normal ?_
          refine AW.seq ?_
          refine AW.reg tt_ok2 [0, 1, 8, 9, 10, 11, 28] [] [] ⟨[(28, .c (.t (.v (.bool (y9 != 0))))), (8, .c (.t (.v (.int .i64 y9)))), (0, .c (.t (.tree p0.length 1 (Ru64 p0)))), (1, .c (.t (.tree p1.length 1 (Ru64 p1)))), (9, .c (.t (.tree p0.length 1 (Ru64 p0)))), (10, .c (.t (.v (.int .i64 ((p0.length : Nat) : Int))))), (11, .c (.t (.v (.int .i64 x2))))], [], 20⟩ [True, True] (by kernel_rfl) (by kernel_rfl) ⟨trivial, trivial, trivial⟩ ?_
          refine AW.thenQ_normal ?_
          refine AW.cond (b := (y9 != 0)) (by kernel_rfl) (fun c11 => ?_) (fun c11 => ?_)
          · rw [if_pos c11] at h
            refine AW.seq ?_
            refine AW.reg tt_ok2 [4] [] [] ⟨[(4, .c (.t (.v (.int .i64 y9))))], [], 22⟩ [True, True] (by kernel_rfl) (by kernel_rfl) ⟨trivial, trivial, trivial⟩ ?_
            refine AW.thenQ_normal ?_
            refine AW.ret ?_
            refine AW.inBlock_ret ?_
            refine AW.thenQ_ret ?_
            obtain rfl := some_inj h
            refine loopQ_out rfl (conv_ren [] [4] (n := 0) (by kernel_rfl) (by kernel_rfl))
          · rw [if_neg (by rw [c11]; exact Bool.false_ne_true)] at h
            refine AW.skip ?_
            refine AW.inBlock_normal ?_
            refine AW.thenQ_normal ?_
            refine AW.reg tt_ok2 [0, 1, 9, 10, 11] [] [] ⟨[(11, .c (.t (.v (.int .i64 (IntKind.i64.wrap (x2 + 1)))))), (0, .c (.t (.tree p0.length 1 (Ru64 p0)))), (1, .c (.t (.tree p1.length 1 (Ru64 p1)))), (9, .c (.t (.tree p0.length 1 (Ru64 p0)))), (10, .c (.t (.v (.int .i64 ((p0.length : Nat) : Int)))))], [], 22⟩ [True, True] (by kernel_rfl) (by kernel_rfl) ⟨trivial, trivial, trivial⟩ ?_
            obtain rfl := some_inj h
            refine loopQ_next (conv_ren [] [0, 1, 9, 10, 11] (n := 0) (by kernel_rfl) (by kernel_rfl))
      · rw [if_neg (by rw [c4]; exact Bool.false_ne_true)] at h
        refine AW.exit ?_
        refine AW.thenQ_exit ?_
        obtain rfl := some_inj h
        refine loopQ_out rfl (conv_ren [] [0, 1] (n := 0) (by kernel_rfl) (by kernel_rfl))
    ·
      show (_ : Exit → St → Prop) (.ret) ⟨[(4, .c (.t (.v (.int .i64 x13))))], [], 0⟩
      refine AW.inBlock_ret ?_
      refine AW.thenQ_ret ?_
      obtain rfl := some_inj h
      exact ⟨_, Conv.refl _ _, .inr rfl, OutOk.mk [] 0 (out0 := .c (.t (.v (.int .i64 x13)))) (ps := [True]) (by kernel_rfl) ⟨trivial, trivial⟩ (by kernel_rfl) (by kernel_rfl)⟩
/-! cmp.Or[int] -/
noncomputable def cmp_Or_int_l4 (p0 : List Int) (x2 : Int) : Option (Int ⊕ (Unit ⊕ Int)) := if (decide (x2 < ((p0.length : Nat) : Int))) = true then (if 0 ≤ x2 then (if x2 < ((p0.length : Nat) : Int) then (if ((p0.getD x2.toNat 0) != 0) = true then (some (.inr (.inr (p0.getD x2.toNat 0)))) else (some (.inl (IntKind.i64.wrap (x2 + 1))))) else none) else none) else (some (.inr (.inl ())))
noncomputable def cmp_Or_int_a5 : Option Int := some 0
noncomputable def cmp_Or_int_a6 (x8 : Int) : Option Int := some x8
noncomputable def cmp_Or_int (p0 : List Int) : Option Int := bindE (loop (fun v : Int => cmp_Or_int_l4 p0 v) 0) (fun t => cmp_Or_int_a5) (fun t => cmp_Or_int_a6 t)
set_option maxRecDepth 100000 in
set_option maxHeartbeats 10000000 in
theorem cmp_Or_int_con (p0 : List Int) (r0 : Int) (h : cmp_Or_int p0 = some r0) : Con Try.prog 63 [.c (.t (.tree p0.length 1 (Ri64 p0)))] [] (.c (.t (.v (.int .i64 r0)))) [] := by
  revert h; generalize r0 = r; intro h
  refine con_of tt_ok2 0 Try.func63 (by kernel_rfl) rfl (by kernel_rfl) (fun base X hk => AW.post ?_)
  unfold cmp_Or_int at h
  refine AW.seq ?_
  refine AW.reg tt_ok2 [0] [] [] ⟨[(0, .c (.t (.tree p0.length 1 (Ri64 p0))))], [], 1⟩ [True] (by kernel_rfl) (by kernel_rfl) ⟨trivial, trivial⟩ ?_
  refine AW.thenQ_normal ?_
  refine AW.seq ?_
  refine AW.reg tt_ok2 [0, 3] [] [] ⟨[(3, .c (.t (.v (.int .i64 0)))), (0, .c (.t (.tree p0.length 1 (Ri64 p0))))], [], 2⟩ [True] (by kernel_rfl) (by kernel_rfl) ⟨trivial, trivial⟩ ?_
  refine AW.thenQ_normal ?_
  refine AW.seq ?_
  refine AW.seq ?_
  refine AW.reg tt_ok2 [3, 6, 7, 8] [] [] ⟨[(8, .c (.t (.v (.int .i64 0)))), (7, .c (.t (.v (.int .i64 ((p0.length : Nat) : Int))))), (6, .c (.t (.tree p0.length 1 (Ri64 p0)))), (3, .c (.t (.v (.int .i64 0))))], [], 5⟩ [True, True, True] (by kernel_rfl) (by kernel_rfl) ⟨trivial, trivial, trivial, trivial⟩ ?_
  refine AW.thenQ_normal ?_
  refine AW.block ?_
  rcases bindE_some h with ⟨t, l9, h⟩ | ⟨t, l9, h⟩
  ·
    replace h : cmp_Or_int_a5 = some r := h
    unfold cmp_Or_int_a5 at h
    refine AW.pre (S' := ((fun v => ⟨[(3, .c (.t (.v (.int .i64 0)))), (6, .c (.t (.tree p0.length 1 (Ri64 p0)))), (7, .c (.t (.v (.int .i64 ((p0.length : Nat) : Int))))), (8, .c (.t (.v (.int .i64 v))))], [], 0⟩) : Int → St) 0) (conv_ren [] [3, 6, 7, 8] (n := 0) (by kernel_rfl) (by kernel_rfl)) ?_
    refine AW.loop2 (step := (fun v : Int => cmp_Or_int_l4 p0 v)) (s0 := 0) (t := .inl ()) (fun v => ⟨[(3, .c (.t (.v (.int .i64 0)))), (6, .c (.t (.tree p0.length 1 (Ri64 p0)))), (7, .c (.t (.v (.int .i64 ((p0.length : Nat) : Int))))), (8, .c (.t (.v (.int .i64 v))))], [], 0⟩) (fun t : (Unit ⊕ Int) => match t with | .inl t => (.exit 0, ⟨[(3, .c (.t (.v (.int .i64 0))))], [], 0⟩) | .inr t => (.ret, ⟨[(2, .c (.t (.v (.int .i64 t))))], [], 0⟩)) l9 (fun t => by cases t <;> trivial) ?_ ?_
    ·
      clear l9 h
      intro v o h
      obtain ⟨x2, rfl⟩ : ∃ x, x = v := ⟨_, rfl⟩
      replace h : cmp_Or_int_l4 p0 x2 = some o := h
      unfold cmp_Or_int_l4 at h
      show AW _ ⟨[(3, .c (.t (.v (.int .i64 0)))), (6, .c (.t (.tree p0.length 1 (Ri64 p0)))), (7, .c (.t (.v (.int .i64 ((p0.length : Nat) : Int))))), (8, .c (.t (.v (.int .i64 x2))))], [], 0⟩ _ _
      refine AW.seq ?_
      refine AW.reg tt_ok2 [3, 6, 7, 8, 9] [] [] ⟨[(9, .c (.t (.v (.bool (decide (x2 < ((p0.length : Nat) : Int))))))), (3, .c (.t (.v (.int .i64 0)))), (6, .c (.t (.tree p0.length 1 (Ri64 p0)))), (7, .c (.t (.v (.int .i64 ((p0.length : Nat) : Int))))), (8, .c (.t (.v (.int .i64 x2))))], [], 1⟩ [True] (by kernel_rfl) (by kernel_rfl) ⟨trivial, trivial⟩ ?_
      refine AW.thenQ_normal ?_
      refine AW.seq ?_
      refine AW.cond (b := decide (x2 < ((p0.length : Nat) : Int))) (by kernel_rfl) (fun c4 => ?_) (fun c4 => ?_)
      · rw [if_pos c4] at h
        refine AW.skip ?_
        refine AW.thenQ_normal ?_
        refine AW.seq ?_
        refine AW.block ?_
        refine AW.seq ?_
        obtain ⟨g5, h⟩ := ifc h
        obtain ⟨g6, h⟩ := ifc h
        refine AW.reg tt_ok2 [3, 5, 6, 7, 8] [] [] ⟨[(5, .c (.t (.v (.int .i64 (p0.getD x2.toNat 0))))), (3, .c (.t (.v (.int .i64 0)))), (6, .c (.t (.tree p0.length 1 (Ri64 p0)))), (7, .c (.t (.v (.int .i64 ((p0.length : Nat) : Int))))), (8, .c (.t (.v (.int .i64 x2))))], [], 4⟩ [(0 ≤ x2) ∧ (x2 < ((p0.length : Nat) : Int)), True, True] (by kernel_rfl) (by kernel_rfl) ⟨⟨g5, g6⟩, trivial, trivial, trivial⟩ ?_
        refine AW.thenQ_normal ?_
        refine AW.seq ?_
        refine AW.reg tt_ok2 [3, 5, 6, 7, 8, 14] [] [] ⟨[(14, .c (.t (.v (.bool ((p0.getD x2.toNat 0) != 0))))), (5, .c (.t (.v (.int .i64 (p0.getD x2.toNat 0))))), (3, .c (.t (.v (.int .i64 0)))), (6, .c (.t (.tree p0.length 1 (Ri64 p0)))), (7, .c (.t (.v (.int .i64 ((p0.length : Nat) : Int))))), (8, .c (.t (.v (.int .i64 x2))))], [], 7⟩ [True, True, True] (by kernel_rfl) (by kernel_rfl) ⟨trivial, trivial, trivial, trivial⟩ ?_
        refine AW.thenQ_normal ?_
        refine AW.cond (b := ((p0.getD x2.toNat 0) != 0)) (by kernel_rfl) (fun c7 => ?_) (fun c7 => ?_)
        · rw [if_pos c7] at h
          refine AW.seq ?_
          refine AW.reg tt_ok2 [2] [] [] ⟨[(2, .c (.t (.v (.int .i64 (p0.getD x2.toNat 0)))))], [], 9⟩ [True, True] (by kernel_rfl) (by kernel_rfl) ⟨trivial, trivial, trivial⟩ ?_
          refine AW.thenQ_normal ?_
          refine AW.ret ?_
          refine AW.inBlock_ret ?_
          refine AW.thenQ_ret ?_
          obtain rfl := some_inj h
          refine loopQ_out rfl (conv_ren [] [2] (n := 0) (by kernel_rfl) (by kernel_rfl))
        · rw [if_neg (by rw [c7]; exact Bool.false_ne_true)] at h
          refine AW.skip ?_
          refine AW.inBlock_normal ?_
          refine AW.thenQ_normal ?_
          refine AW.reg tt_ok2 [3, 6, 7, 8] [] [] ⟨[(8, .c (.t (.v (.int .i64 (IntKind.i64.wrap (x2 + 1)))))), (3, .c (.t (.v (.int .i64 0)))), (6, .c (.t (.tree p0.length 1 (Ri64 p0)))), (7, .c (.t (.v (.int .i64 ((p0.length : Nat) : Int)))))], [], 9⟩ [True, True] (by kernel_rfl) (by kernel_rfl) ⟨trivial, trivial, trivial⟩ ?_
          obtain rfl := some_inj h
          refine loopQ_next (conv_ren [] [3, 6, 7, 8] (n := 0) (by kernel_rfl) (by kernel_rfl))
      · rw [if_neg (by rw [c4]; exact Bool.false_ne_true)] at h
        refine AW.exit ?_
        refine AW.thenQ_exit ?_
        obtain rfl := some_inj h
        refine loopQ_out rfl (conv_ren [] [3] (n := 0) (by kernel_rfl) (by kernel_rfl))
    ·
      show (_ : Exit → St → Prop) (.exit 0) ⟨[(3, .c (.t (.v (.int .i64 0))))], [], 0⟩
      refine AW.inBlock_hit ?_
      refine AW.thenQ_normal ?_
      refine AW.seq ?_
      refine AW.reg tt_ok2 [2] [] [] ⟨[(2, .c (.t (.v (.int .i64 0))))], [], 2⟩ [True, True] (by kernel_rfl) (by kernel_rfl) ⟨trivial, trivial, trivial⟩ ?_
      refine AW.thenQ_normal ?_
      refine AW.ret ?_
      obtain rfl := some_inj h
      exact ⟨_, Conv.refl _ _, .inr rfl, OutOk.mk [] 0 (out0 := .c (.t (.v (.int .i64 0)))) (ps := [True]) (by kernel_rfl) ⟨trivial, trivial⟩ (by kernel_rfl) (by kernel_rfl)⟩
  ·
    obtain ⟨x8, rfl⟩ : ∃ x, x = t := ⟨_, rfl⟩
    replace h : cmp_Or_int_a6 x8 = some r := h
    unfold cmp_Or_int_a6 at h
    refine AW.pre (S' := ((fun v => ⟨[(3, .c (.t (.v (.int .i64 0)))), (6, .c (.t (.tree p0.length 1 (Ri64 p0)))), (7, .c (.t (.v (.int .i64 ((p0.length : Nat) : Int))))), (8, .c (.t (.v (.int .i64 v))))], [], 0⟩) : Int → St) 0) (conv_ren [] [3, 6, 7, 8] (n := 0) (by kernel_rfl) (by kernel_rfl)) ?_
    refine AW.loop2 (step := (fun v : Int => cmp_Or_int_l4 p0 v)) (s0 := 0) (t := .inr x8) (fun v => ⟨[(3, .c (.t (.v (.int .i64 0)))), (6, .c (.t (.tree p0.length 1 (Ri64 p0)))), (7, .c (.t (.v (.int .i64 ((p0.length : Nat) : Int))))), (8, .c (.t (.v (.int .i64 v))))], [], 0⟩) (fun t : (Unit ⊕ Int) => match t with | .inl t => (.exit 0, ⟨[(3, .c (.t (.v (.int .i64 0))))], [], 0⟩) | .inr t => (.ret, ⟨[(2, .c (.t (.v (.int .i64 t))))], [], 0⟩)) l9 (fun t => by cases t <;> trivial) ?_ ?_
    ·
      clear l9 h
      intro v o h
      obtain ⟨x2, rfl⟩ : ∃ x, x = v := ⟨_, rfl⟩
      replace h : cmp_Or_int_l4 p0 x2 = some o := h
      unfold cmp_Or_int_l4 at h
      show AW _ ⟨[(3, .c (.t (.v (.int .i64 0)))), (6, .c (.t (.tree p0.length 1 (Ri64 p0)))), (7, .c (.t (.v (.int .i64 ((p0.length : Nat) : Int))))), (8, .c (.t (.v (.int .i64 x2))))], [], 0⟩ _ _
      refine AW.seq ?_
      refine AW.reg tt_ok2 [3, 6, 7, 8, 9] [] [] ⟨[(9, .c (.t (.v (.bool (decide (x2 < ((p0.length : Nat) : Int))))))), (3, .c (.t (.v (.int .i64 0)))), (6, .c (.t (.tree p0.length 1 (Ri64 p0)))), (7, .c (.t (.v (.int .i64 ((p0.length : Nat) : Int))))), (8, .c (.t (.v (.int .i64 x2))))], [], 1⟩ [True] (by kernel_rfl) (by kernel_rfl) ⟨trivial, trivial⟩ ?_
      refine AW.thenQ_normal ?_
      refine AW.seq ?_
      refine AW.cond (b := decide (x2 < ((p0.length : Nat) : Int))) (by kernel_rfl) (fun c4 => ?_) (fun c4 => ?_)
      · rw [if_pos c4] at h
        refine AW.skip ?_
        refine AW.thenQ_normal ?_
        refine AW.seq ?_
        refine AW.block ?_
        refine AW.seq ?_
        obtain ⟨g5, h⟩ := ifc h
        obtain ⟨g6, h⟩ := ifc h
        refine AW.reg tt_ok2 [3, 5, 6, 7, 8] [] [] ⟨[(5, .c (.t (.v (.int .i64 (p0.getD x2.toNat 0))))), (3, .c (.t (.v (.int .i64 0)))), (6, .c (.t (.tree p0.length 1 (Ri64 p0)))), (7, .c (.t (.v (.int .i64 ((p0.length : Nat) : Int))))), (8, .c (.t (.v (.int .i64 x2))))], [], 4⟩ [(0 ≤ x2) ∧ (x2 < ((p0.length : Nat) : Int)), True, True] (by kernel_rfl) (by kernel_rfl) ⟨⟨g5, g6⟩, trivial, trivial, trivial⟩ ?_
        refine AW.thenQ_normal ?_
        refine AW.seq ?_
        refine AW.reg tt_ok2 [3, 5, 6, 7, 8, 14] [] [] ⟨[(14, .c (.t (.v (.bool ((p0.getD x2.toNat 0) != 0))))), (5, .c (.t (.v (.int .i64 (p0.getD x2.toNat 0))))), (3, .c (.t (.v (.int .i64 0)))), (6, .c (.t (.tree p0.length 1 (Ri64 p0)))), (7, .c (.t (.v (.int .i64 ((p0.length : Nat) : Int))))), (8, .c (.t (.v (.int .i64 x2))))], [], 7⟩ [True, True, True] (by kernel_rfl) (by kernel_rfl) ⟨trivial, trivial, trivial, trivial⟩ ?_
        refine AW.thenQ_normal ?_
        refine AW.cond (b := ((p0.getD x2.toNat 0) != 0)) (by kernel_rfl) (fun c7 => ?_) (fun c7 => ?_)
        · rw [if_pos c7] at h
          refine AW.seq ?_
          refine AW.reg tt_ok2 [2] [] [] ⟨[(2, .c (.t (.v (.int .i64 (p0.getD x2.toNat 0)))))], [], 9⟩ [True, True] (by kernel_rfl) (by kernel_rfl) ⟨trivial, trivial, trivial⟩ ?_
          refine AW.thenQ_normal ?_
          refine AW.ret ?_
          refine AW.inBlock_ret ?_
          refine AW.thenQ_ret ?_
          obtain rfl := some_inj h
          refine loopQ_out rfl (conv_ren [] [2] (n := 0) (by kernel_rfl) (by kernel_rfl))
        · rw [if_neg (by rw [c7]; exact Bool.false_ne_true)] at h
          refine AW.skip ?_
          refine AW.inBlock_normal ?_
          refine AW.thenQ_normal ?_
          refine AW.reg tt_ok2 [3, 6, 7, 8] [] [] ⟨[(8, .c (.t (.v (.int .i64 (IntKind.i64.wrap (x2 + 1)))))), (3, .c (.t (.v (.int .i64 0)))), (6, .c (.t (.tree p0.length 1 (Ri64 p0)))), (7, .c (.t (.v (.int .i64 ((p0.length : Nat) : Int)))))], [], 9⟩ [True, True] (by kernel_rfl) (by kernel_rfl) ⟨trivial, trivial, trivial⟩ ?_
          obtain rfl := some_inj h
          refine loopQ_next (conv_ren [] [3, 6, 7, 8] (n := 0) (by kernel_rfl) (by kernel_rfl))
      · rw [if_neg (by rw [c4]; exact Bool.false_ne_true)] at h
        refine AW.exit ?_
        refine AW.thenQ_exit ?_
        obtain rfl := some_inj h
        refine loopQ_out rfl (conv_ren [] [3] (n := 0) (by kernel_rfl) (by kernel_rfl))
    ·
      show (_ : Exit → St → Prop) (.ret) ⟨[(2, .c (.t (.v (.int .i64 x8))))], [], 0⟩
      refine AW.inBlock_ret ?_
      refine AW.thenQ_ret ?_
      obtain rfl := some_inj h
      exact ⟨_, Conv.refl _ _, .inr rfl, OutOk.mk [] 0 (out0 := .c (.t (.v (.int .i64 x8)))) (ps := [True]) (by kernel_rfl) ⟨trivial, trivial⟩ (by kernel_rfl) (by kernel_rfl)⟩
/-! recordlink/bitset.Compare -/
noncomputable def bitset_Compare (p0 : S_api_Bits) (p1 : S_api_Bits) : Option Int := (cmp_Compare_int p0.Length p1.Length).bind fun y1 => ((cmp_Compare_int ((p0.Words.length : Nat) : Int) ((p1.Words.length : Nat) : Int)).bind fun y3 => ((slices_Compare_uint64 p0.Words p1.Words).bind fun y5 => ((cmp_Or_int ([y1, y3, y5] : List Int)).bind fun y7 => (some y7))))
set_option maxRecDepth 100000 in
set_option maxHeartbeats 10000000 in
theorem bitset_Compare_con (p0 : S_api_Bits) (p1 : S_api_Bits) (r0 : Int) (h : bitset_Compare p0 p1 = some r0) : Con Try.prog 38 [.agg [.t (.v (.int .i64 p0.Length)), .t (.tree p0.Words.length 1 (Ru64 p0.Words))], .agg [.t (.v (.int .i64 p1.Length)), .t (.tree p1.Words.length 1 (Ru64 p1.Words))]] [] (.c (.t (.v (.int .i64 r0)))) [] := by
  revert h; generalize r0 = r; intro h
  refine con_of tt_ok2 0 Try.func38 (by kernel_rfl) rfl (by kernel_rfl) (fun base X hk => AW.post ?_)
  unfold bitset_Compare at h
  refine AW.seq ?_
  refine AW.reg tt_ok2 [2, 3] [0, 1] [] ⟨[(3, .c (.ptr 1 2 0 0)), (2, .c (.ptr 0 2 0 0))], [(1, .box 29 [.t (.v (.int .i64 p1.Length)), .t (.tree p1.Words.length 1 (Ru64 p1.Words))]), (0, .box 29 [.t (.v (.int .i64 p0.Length)), .t (.tree p0.Words.length 1 (Ru64 p0.Words))])], 3⟩ [True, True, True] (by kernel_rfl) (by kernel_rfl) ⟨trivial, trivial, trivial, trivial⟩ ?_
  refine AW.thenQ_normal ?_
  refine AW.seq ?_
  obtain ⟨y1, e2, h⟩ := bnd_some h
  obtain ⟨y3, e4, h⟩ := bnd_some h
  obtain ⟨y5, e6, h⟩ := bnd_some h
  obtain ⟨y7, e8, h⟩ := bnd_some h
  refine AW.regD tt_ok2 mo2 [0, 1, 0, 4, 15, 0, 32, 96, 0, 256, 768, 2047, 0, 4096, 0, 16384, 65535, 131071, 262143, 524287] [[], [], [], [], [], [], [], [], [], [], [], [], [], [], [], [], [], [17], [], []] [4] [] [{}, {}, {}, {}, { call := some { ids := [], frz := [], flat := true, cnt := 0, args := [.c (.t (.v (.int .i64 p0.Length))), .c (.t (.v (.int .i64 p1.Length)))], out := .c (.t (.v (.int .i64 y1))), outb := [] } }, {}, {}, {}, {}, {}, {}, { call := some { ids := [], frz := [], flat := true, cnt := 0, args := [.c (.t (.v (.int .i64 ((p0.Words.length : Nat) : Int)))), .c (.t (.v (.int .i64 ((p1.Words.length : Nat) : Int))))], out := .c (.t (.v (.int .i64 y3))), outb := [] } }, {}, {}, {}, {}, { call := some { ids := [], frz := [], flat := true, cnt := 0, args := [.c (.t (.tree p0.Words.length 1 (Ru64 p0.Words))), .c (.t (.tree p1.Words.length 1 (Ru64 p1.Words)))], out := .c (.t (.v (.int .i64 y5))), outb := [] } }, { h := { row := some (([y1, y3, y5] : List Int).length, Ri64 ([y1, y3, y5] : List Int)) } }, { call := some { ids := [], frz := [], flat := true, cnt := 0, args := [.c (.t (.tree (([y1, y3, y5] : List Int).length) 1 (Ri64 ([y1, y3, y5] : List Int))))], out := .c (.t (.v (.int .i64 y7))), outb := [] } }] ⟨[(4, .c (.t (.v (.int .i64 y7))))], [], 19⟩ [True, True, True, True, ((True) ∧ (True) ∧ (True)) ∧ (All2 ArgLe [.c (.t (.v (.int .i64 p0.Length))), .c (.t (.v (.int .i64 p1.Length)))] [.c (.t (.v (.int .i64 p0.Length))), .c (.t (.v (.int .i64 p1.Length)))]) ∧ ((true = true → flatB [])) ∧ (Con Try.prog 64 [.c (.t (.v (.int .i64 p0.Length))), .c (.t (.v (.int .i64 p1.Length)))] [] (.c (.t (.v (.int .i64 y1)))) []), True, True, True, True, True, True, ((True) ∧ (True) ∧ (True)) ∧ (All2 ArgLe [.c (.t (.v (.int .i64 ((p0.Words.length : Nat) : Int)))), .c (.t (.v (.int .i64 ((p1.Words.length : Nat) : Int))))] [.c (.t (.v (.int .i64 ((p0.Words.length : Nat) : Int)))), .c (.t (.v (.int .i64 ((p1.Words.length : Nat) : Int))))]) ∧ ((true = true → flatB [])) ∧ (Con Try.prog 64 [.c (.t (.v (.int .i64 ((p0.Words.length : Nat) : Int)))), .c (.t (.v (.int .i64 ((p1.Words.length : Nat) : Int))))] [] (.c (.t (.v (.int .i64 y3)))) []), True, True, True, True, ((True) ∧ (True) ∧ (True)) ∧ (All2 ArgLe [.c (.t (.tree p0.Words.length 1 (Ru64 p0.Words))), .c (.t (.tree p1.Words.length 1 (Ru64 p1.Words)))] [.c (.t (.tree p0.Words.length 1 (Ru64 p0.Words))), .c (.t (.tree p1.Words.length 1 (Ru64 p1.Words)))]) ∧ ((true = true → flatB [])) ∧ (Con Try.prog 65 [.c (.t (.tree p0.Words.length 1 (Ru64 p0.Words))), .c (.t (.tree p1.Words.length 1 (Ru64 p1.Words)))] [] (.c (.t (.v (.int .i64 y5)))) []), 3 = ([y1, y3, y5] : List Int).length ∧ ∀ i, i < ([y1, y3, y5] : List Int).length → ∀ j, j < 1 → TLe ((rowOf [.v (.int .i64 y1), .v (.int .i64 y3), .v (.int .i64 y5)] 1) i j) (Ri64 ([y1, y3, y5] : List Int) i j), ((0 + ([y1, y3, y5] : List Int).length ≤ ([y1, y3, y5] : List Int).length) ∧ (True)) ∧ (All2 ArgLe [.c (.t (.tree (([y1, y3, y5] : List Int).length) 1 (Ri64 ([y1, y3, y5] : List Int))))] [.c (.t (.tree (([y1, y3, y5] : List Int).length) 1 (Ri64 ([y1, y3, y5] : List Int))))]) ∧ ((true = true → flatB [])) ∧ (Con Try.prog 63 [.c (.t (.tree (([y1, y3, y5] : List Int).length) 1 (Ri64 ([y1, y3, y5] : List Int))))] [] (.c (.t (.v (.int .i64 y7)))) []), True] (by kernel_rfl) (by kernel_rfl) ⟨trivial, trivial, trivial, trivial, ⟨⟨trivial, trivial, trivial⟩, ⟨ArgLe.refl _, ArgLe.refl _, trivial⟩, (fun _ => trivial), (cmp_Compare_int_con p0.Length p1.Length y1 e2)⟩, trivial, trivial, trivial, trivial, trivial, trivial, ⟨⟨trivial, trivial, trivial⟩, ⟨ArgLe.refl _, ArgLe.refl _, trivial⟩, (fun _ => trivial), (cmp_Compare_int_con ((p0.Words.length : Nat) : Int) ((p1.Words.length : Nat) : Int) y3 e4)⟩, trivial, trivial, trivial, trivial, ⟨⟨trivial, trivial, trivial⟩, ⟨ArgLe.refl _, ArgLe.refl _, trivial⟩, (fun _ => trivial), (slices_Compare_uint64_con p0.Words p1.Words y5 e6)⟩, ⟨rfl, lit_row (n := 3) (sz := 1) ⟨⟨⟨trivial, ⟨trivial, TLe.refl _⟩⟩, ⟨trivial, TLe.refl _⟩⟩, ⟨trivial, TLe.refl _⟩⟩⟩, ⟨⟨le0, trivial⟩, ⟨ArgLe.refl _, trivial⟩, (fun _ => trivial), (cmp_Or_int_con ([y1, y3, y5] : List Int) y7 e8)⟩, trivial, trivial⟩ ?_
  refine AW.thenQ_normal ?_
  refine AW.ret ?_
  obtain rfl := some_inj h
  exact ⟨_, Conv.refl _ _, .inr rfl, OutOk.mk [] 0 (out0 := .c (.t (.v (.int .i64 y7)))) (ps := [True]) (by kernel_rfl) ⟨trivial, trivial⟩ (by kernel_rfl) (by kernel_rfl)⟩
end Go.Proofs.Yteholdifeilkkaa
