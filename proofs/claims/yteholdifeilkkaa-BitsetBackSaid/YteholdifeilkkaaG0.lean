/- Printed by a program of mine (vmgen.py): Go functions, and what they come to. -/
import Derived.Test.YteholdifeilkkaaVp
import Derived.Test.YteholdifeilkkaaRows
namespace Go.Proofs.Yteholdifeilkkaa
open Vm
set_option linter.unusedVariables false
set_option linter.constructorNameAsVariable false
def ttl0 : List (Nat × TI) := [(3, ⟨.int .i64, 1, 8, [.int .i64 0]⟩), (4, ⟨.bool, 1, 1, [.bool false]⟩), (5, ⟨.int .u8, 1, 1, [.int .u8 0]⟩), (9, ⟨.str, 1, 16, [.string ⟨#[]⟩]⟩), (22, ⟨.slice 3, 1, 24, [.slice none 0 0]⟩), (25, ⟨.ptr 66, 1, 8, [.pointer none]⟩), (27, ⟨.slice 33, 1, 24, [.slice none 0 0]⟩), (29, ⟨.struct [(3, 0), (27, 1)], 2, 32, [.int .i64 0, .slice none 0 0]⟩), (31, ⟨.int .u64, 1, 8, [.int .u64 0]⟩), (33, ⟨.int .u64, 1, 8, [.int .u64 0]⟩), (35, ⟨.int .i64, 1, 8, [.int .i64 0]⟩), (66, ⟨.struct [(22, 0), (3, 1), (33, 2)], 3, 40, [.slice none 0 0, .int .i64 0, .int .u64 0]⟩), (70, ⟨.arr 6 3, 6, 48, [.int .i64 0, .int .i64 0, .int .i64 0, .int .i64 0, .int .i64 0, .int .i64 0]⟩), (74, ⟨.slice 5, 1, 24, [.slice none 0 0]⟩)]
theorem tt_ok0 : TTok Try.prog (Vm.look ttl0) := ttok_of ⟨⟨by kernel_rfl, by kernel_rfl⟩, ⟨by kernel_rfl, by kernel_rfl⟩, ⟨by kernel_rfl, by kernel_rfl⟩, ⟨by kernel_rfl, by kernel_rfl⟩, ⟨by kernel_rfl, by kernel_rfl⟩, ⟨by kernel_rfl, by kernel_rfl⟩, ⟨by kernel_rfl, by kernel_rfl⟩, ⟨by kernel_rfl, by kernel_rfl⟩, ⟨by kernel_rfl, by kernel_rfl⟩, ⟨by kernel_rfl, by kernel_rfl⟩, ⟨by kernel_rfl, by kernel_rfl⟩, ⟨by kernel_rfl, by kernel_rfl⟩, ⟨by kernel_rfl, by kernel_rfl⟩, ⟨by kernel_rfl, by kernel_rfl⟩, trivial⟩
theorem mo0 : Try.prog.follows .mixedOrders = true := by kernel_rfl
def Ei64 (x : Int) : List T := [.v (.int .i64 x)]
def Ri64 (xs : List Int) : Nat → Nat → T := rowL 0 Ei64 xs
theorem Vi64 : ∀ x, allV (Ei64 x) := fun _ => ⟨trivial, trivial⟩
/-! recordlink/similarity.fields -/
noncomputable def similarity_fields_k2 (x1 : Bool) : Option Bool := some x1
noncomputable def similarity_fields (p0 : Int) : Option Bool := if (decide (p0 ≥ 1)) = true then (similarity_fields_k2 (decide (p0 ≤ 5))) else (similarity_fields_k2 false)
set_option maxRecDepth 100000 in
set_option maxHeartbeats 10000000 in
theorem similarity_fields_con (p0 : Int) (r0 : Bool) (h : similarity_fields p0 = some r0) : Con Try.prog 56 [.c (.t (.v (.int .i64 p0)))] [] (.c (.t (.v (.bool r0)))) [] := by
  revert h; generalize r0 = r; intro h
  refine con_of tt_ok0 0 Try.func56 (by kernel_rfl) rfl (by kernel_rfl) (fun base X hk => AW.post ?_)
  unfold similarity_fields at h
  refine AW.seq ?_
  refine AW.reg tt_ok0 [0] [] [] ⟨[(0, .c (.t (.v (.int .i64 p0))))], [], 1⟩ [True] (by kernel_rfl) (by kernel_rfl) ⟨trivial, trivial⟩ ?_
  refine AW.thenQ_normal ?_
  refine AW.seq ?_
  refine AW.join (ι := Bool) (fun v => ⟨[(2, .c (.t (.v (.bool v))))], [], 0⟩) (fun v : Bool => similarity_fields_k2 v = some r) (fun v h => ?_) ?_
  ·
    obtain ⟨x1, rfl⟩ : ∃ x, x = v := ⟨_, rfl⟩
    replace h : similarity_fields_k2 x1 = some r := h
    unfold similarity_fields_k2 at h
    show (_ : Exit → St → Prop) .normal ⟨[(2, .c (.t (.v (.bool x1))))], [], 0⟩
    refine AW.thenQ_normal ?_
    refine AW.ret ?_
    obtain rfl := some_inj h
    exact ⟨_, Conv.refl _ _, .inr rfl, OutOk.mk [] 0 (out0 := .c (.t (.v (.bool x1)))) (ps := [True]) (by kernel_rfl) ⟨trivial, trivial⟩ (by kernel_rfl) (by kernel_rfl)⟩
  ·
    by_cases c2 : (decide (p0 ≥ 1)) = true
    · rw [if_pos c2] at h
      refine AW.reg tt_ok0 [2] [] [{}, { h := { b := some true } }] ⟨[(2, .c (.t (.v (.bool (decide (p0 ≤ 5))))))], [], 8⟩ [True, (decide (p0 ≥ 1)) = true, True, True, True, True, True] (by kernel_rfl) (by kernel_rfl) ⟨trivial, c2, trivial, trivial, trivial, trivial, trivial, trivial⟩ ?_
      exact joinQ_leaf (decide (p0 ≤ 5)) h (conv_ren [] [2] (n := 0) (by kernel_rfl) (by kernel_rfl))
    · rw [if_neg c2] at h
      refine AW.reg tt_ok0 [2] [] [{}, { h := { b := some false } }] ⟨[(2, .c (.t (.v (.bool false))))], [], 8⟩ [True, (decide (p0 ≥ 1)) = false, True, True, True, True, True] (by kernel_rfl) (by kernel_rfl) ⟨trivial, (off_false c2), trivial, trivial, trivial, trivial, trivial, trivial⟩ ?_
      exact joinQ_leaf (false) h (conv_ren [] [2] (n := 0) (by kernel_rfl) (by kernel_rfl))
/-! recordlink/similarity.powers -/
noncomputable def similarity_powers : Option (List Int) := some ([1, 3, 9, 27, 81, 243] : List Int)
set_option maxRecDepth 100000 in
set_option maxHeartbeats 10000000 in
theorem similarity_powers_con (r0 : List Int) (h : similarity_powers = some r0) : Con Try.prog 57 [] [] (.agg [.t (.v (.int .i64 (r0.getD 0 0))), .t (.v (.int .i64 (r0.getD 1 0))), .t (.v (.int .i64 (r0.getD 2 0))), .t (.v (.int .i64 (r0.getD 3 0))), .t (.v (.int .i64 (r0.getD 4 0))), .t (.v (.int .i64 (r0.getD 5 0)))]) [] := by
  revert h; generalize r0 = r; intro h
  refine con_of tt_ok0 0 Try.func57 (by kernel_rfl) rfl (by kernel_rfl) (fun base X hk => AW.post ?_)
  unfold similarity_powers at h
  refine AW.seq ?_
  refine AW.reg tt_ok0 [0] [0] [{ h := { row := some (6, Ri64 ([0, 0, 0, 0, 0, 0] : List Int)) } }] ⟨[(0, .c (.ptr 0 1 0 0))], [(0, .row 70 false 1 6 (Ri64 ([0, 0, 0, 0, 0, 0] : List Int)))], 1⟩ [6 = 6 ∧ ∀ i, i < 6 → ∀ j, j < 1 → TLe (rowOf [.v (.int .i64 0), .v (.int .i64 0), .v (.int .i64 0), .v (.int .i64 0), .v (.int .i64 0), .v (.int .i64 0)] 1 i j) (Ri64 ([0, 0, 0, 0, 0, 0] : List Int) i j)] (by kernel_rfl) (by kernel_rfl) ⟨⟨rfl, fun i hi j hj => match i, hi, j, hj with | 0, _, 0, _ => TLe.refl _ | 1, _, 0, _ => TLe.refl _ | 2, _, 0, _ => TLe.refl _ | 3, _, 0, _ => TLe.refl _ | 4, _, 0, _ => TLe.refl _ | 5, _, 0, _ => TLe.refl _ | _ + 6, h, _, _ => absurd h (by omega) | _, _, _ + 1, h => absurd h (by omega)⟩, trivial⟩ ?_
  refine AW.thenQ_normal ?_
  refine AW.seq ?_
  refine AW.reg tt_ok0 [0] [0] [{}, { h := { row := some (6, Ri64 ([1, 3, 9, 27, 81, 243] : List Int)) } }] ⟨[(0, .c (.ptr 0 1 0 0))], [(0, .row 70 false 1 6 (Ri64 ([1, 3, 9, 27, 81, 243] : List Int)))], 3⟩ [True, 6 = 6 ∧ ∀ i, i < 6 → ∀ j, j < 1 → TLe (rowOf [.v (.int .i64 1), .v (.int .i64 3), .v (.int .i64 9), .v (.int .i64 27), .v (.int .i64 81), .v (.int .i64 243)] 1 i j) (Ri64 ([1, 3, 9, 27, 81, 243] : List Int) i j)] (by kernel_rfl) (by kernel_rfl) ⟨trivial, ⟨rfl, fun i hi j hj => match i, hi, j, hj with | 0, _, 0, _ => TLe.refl _ | 1, _, 0, _ => TLe.refl _ | 2, _, 0, _ => TLe.refl _ | 3, _, 0, _ => TLe.refl _ | 4, _, 0, _ => TLe.refl _ | 5, _, 0, _ => TLe.refl _ | _ + 6, h, _, _ => absurd h (by omega) | _, _, _ + 1, h => absurd h (by omega)⟩, trivial⟩ ?_
  refine AW.thenQ_normal ?_
  refine AW.ret ?_
  obtain rfl := some_inj h
  exact ⟨_, Conv.refl _ _, .inr rfl, OutOk.mk [] 0 (out0 := .agg [.t (.v (.int .i64 (([1, 3, 9, 27, 81, 243] : List Int).getD 0 0))), .t (.v (.int .i64 (([1, 3, 9, 27, 81, 243] : List Int).getD 1 0))), .t (.v (.int .i64 (([1, 3, 9, 27, 81, 243] : List Int).getD 2 0))), .t (.v (.int .i64 (([1, 3, 9, 27, 81, 243] : List Int).getD 3 0))), .t (.v (.int .i64 (([1, 3, 9, 27, 81, 243] : List Int).getD 4 0))), .t (.v (.int .i64 (([1, 3, 9, 27, 81, 243] : List Int).getD 5 0)))]) (ps := [0 + 5 < 6]) (by kernel_rfl) ⟨(by decide), trivial⟩ (by kernel_rfl) (by kernel_rfl)⟩
/-! recordlink/similarity.Number -/
noncomputable def similarity_Number_k68 (p0 : List Int) (x6 : Int) (x7 : Int) (x12 : Bool) : Option ((Int × Int) ⊕ (Int ⊕ Unit)) := if x12 = true then (some (.inr (.inr ()))) else ((similarity_powers).bind fun y14 => (if x7 < ((6 : Nat) : Int) then ((some (IntKind.i64.wrap (x6 + (IntKind.i64.wrap ((p0.getD x7.toNat 0) * (y14.getD x7.toNat 0)))))).bind fun z17 => (some (.inl (z17, IntKind.i64.wrap (x7 + 1))))) else none))
noncomputable def similarity_Number_l60 (p0 : List Int) (x6 : Int) (x7 : Int) : Option ((Int × Int) ⊕ (Int ⊕ Unit)) := if (decide (x7 < ((p0.length : Nat) : Int))) = true then (if 0 ≤ x7 then (if x7 < ((p0.length : Nat) : Int) then (if (decide ((p0.getD x7.toNat 0) < 0)) = true then (similarity_Number_k68 p0 x6 x7 true) else (similarity_Number_k68 p0 x6 x7 (decide ((p0.getD x7.toNat 0) ≥ 3)))) else none) else none) else (some (.inr (.inl x6)))
noncomputable def similarity_Number_a69 (x20 : Int) : Option (Int × Int) := some (x20, 0)
noncomputable def similarity_Number_a70 : Option (Int × Int) := some (0, 2)
noncomputable def similarity_Number (p0 : List Int) : Option (Int × Int) := (similarity_fields ((p0.length : Nat) : Int)).bind fun y1 => (if (!y1) = true then (some (0, 8)) else (bindE (loop (fun v : Int × Int => similarity_Number_l60 p0 v.1 v.2) (0, 0)) (fun t => similarity_Number_a69 t) (fun t => similarity_Number_a70)))
set_option maxRecDepth 100000 in
set_option maxHeartbeats 10000000 in
theorem similarity_Number_con (p0 : List Int) (r0 : Int) (r1 : Int) (h : similarity_Number p0 = some (r0, r1)) : Con Try.prog 28 [.c (.t (.tree p0.length 1 (Ri64 p0)))] [] (.tup [.c (.t (.v (.int .i64 r0))), .c (.t (.v (.int .i64 r1)))]) [] := by
  suffices H : ∀ r, similarity_Number p0 = some r → Con Try.prog 28 [.c (.t (.tree p0.length 1 (Ri64 p0)))] [] (.tup [.c (.t (.v (.int .i64 r.1))), .c (.t (.v (.int .i64 r.2)))]) [] from H (r0, r1) h
  clear h
  intro r h
  refine con_of tt_ok0 0 Try.func28 (by kernel_rfl) rfl (by kernel_rfl) (fun base X hk => AW.post ?_)
  unfold similarity_Number at h
  refine AW.seq ?_
  refine AW.reg tt_ok0 [0] [] [] ⟨[(0, .c (.t (.tree p0.length 1 (Ri64 p0))))], [], 2⟩ [True, True] (by kernel_rfl) (by kernel_rfl) ⟨trivial, trivial, trivial⟩ ?_
  refine AW.thenQ_normal ?_
  refine AW.seq ?_
  refine AW.seq ?_
  obtain ⟨y1, e2, h⟩ := bnd_some h
  refine AW.reg tt_ok0 [0, 10] [] [{}, {}, { call := some { ids := [], frz := [], flat := true, cnt := 0, args := [.c (.t (.v (.int .i64 ((p0.length : Nat) : Int))))], out := .c (.t (.v (.bool y1))), outb := [] } }] ⟨[(10, .c (.t (.v (.bool (!y1))))), (0, .c (.t (.tree p0.length 1 (Ri64 p0))))], [], 5⟩ [True, True, ((True) ∧ (True)) ∧ (All2 ArgLe [.c (.t (.v (.int .i64 ((p0.length : Nat) : Int))))] [.c (.t (.v (.int .i64 ((p0.length : Nat) : Int))))]) ∧ ((true = true → flatB [])) ∧ (Con Try.prog 56 [.c (.t (.v (.int .i64 ((p0.length : Nat) : Int))))] [] (.c (.t (.v (.bool y1)))) []), True] (by kernel_rfl) (by kernel_rfl) ⟨trivial, trivial, ⟨⟨trivial, trivial⟩, ⟨ArgLe.refl _, trivial⟩, (fun _ => trivial), (similarity_fields_con ((p0.length : Nat) : Int) y1 e2)⟩, trivial, trivial⟩ ?_
  refine AW.thenQ_normal ?_
  refine AW.cond (b := !y1) (by kernel_rfl) (fun c3 => ?_) (fun c3 => ?_)
  · rw [if_pos c3] at h
    refine AW.seq ?_
    refine AW.reg tt_ok0 [2, 3] [] [] ⟨[(3, .c (.t (.v (.int .i64 8)))), (2, .c (.t (.v (.int .i64 0))))], [], 7⟩ [True, True] (by kernel_rfl) (by kernel_rfl) ⟨trivial, trivial, trivial⟩ ?_
    refine AW.thenQ_normal ?_
    refine AW.ret ?_
    refine AW.thenQ_ret ?_
    obtain rfl := some_inj h
    exact ⟨_, Conv.refl _ _, .inr rfl, OutOk.mk [] 0 (out0 := .tup [.c (.t (.v (.int .i64 0))), .c (.t (.v (.int .i64 8)))]) (ps := [True, True]) (by kernel_rfl) ⟨trivial, trivial, trivial⟩ (by kernel_rfl) (by kernel_rfl)⟩
  · rw [if_neg (by rw [c3]; exact Bool.false_ne_true)] at h
    refine AW.skip ?_
    refine AW.thenQ_normal ?_
    refine AW.seq ?_
    refine AW.reg tt_ok0 [0, 4] [] [] ⟨[(4, .c (.t (.v (.int .i64 0)))), (0, .c (.t (.tree p0.length 1 (Ri64 p0))))], [], 6⟩ [True] (by kernel_rfl) (by kernel_rfl) ⟨trivial, trivial⟩ ?_
    refine AW.thenQ_normal ?_
    refine AW.seq ?_
    refine AW.seq ?_
    refine AW.reg tt_ok0 [4, 11, 12, 13] [] [] ⟨[(13, .c (.t (.v (.int .i64 0)))), (12, .c (.t (.v (.int .i64 ((p0.length : Nat) : Int))))), (11, .c (.t (.tree p0.length 1 (Ri64 p0)))), (4, .c (.t (.v (.int .i64 0))))], [], 9⟩ [True, True, True] (by kernel_rfl) (by kernel_rfl) ⟨trivial, trivial, trivial, trivial⟩ ?_
    refine AW.thenQ_normal ?_
    refine AW.block ?_
    rcases bindE_some h with ⟨t, l21, h⟩ | ⟨t, l21, h⟩
    ·
      obtain ⟨x20, rfl⟩ : ∃ x, x = t := ⟨_, rfl⟩
      replace h : similarity_Number_a69 x20 = some r := h
      unfold similarity_Number_a69 at h
      refine AW.pre (S' := ((fun v => ⟨[(4, .c (.t (.v (.int .i64 v.1)))), (11, .c (.t (.tree p0.length 1 (Ri64 p0)))), (12, .c (.t (.v (.int .i64 ((p0.length : Nat) : Int))))), (13, .c (.t (.v (.int .i64 v.2))))], [], 0⟩) : (Int × Int) → St) (0, 0)) (conv_ren [] [4, 11, 12, 13] (n := 0) (by kernel_rfl) (by kernel_rfl)) ?_
      refine AW.loop2 (step := (fun v : Int × Int => similarity_Number_l60 p0 v.1 v.2)) (s0 := (0, 0)) (t := .inl x20) (fun v => ⟨[(4, .c (.t (.v (.int .i64 v.1)))), (11, .c (.t (.tree p0.length 1 (Ri64 p0)))), (12, .c (.t (.v (.int .i64 ((p0.length : Nat) : Int))))), (13, .c (.t (.v (.int .i64 v.2))))], [], 0⟩) (fun t : (Int ⊕ Unit) => match t with | .inl t => (.exit 0, ⟨[(4, .c (.t (.v (.int .i64 t))))], [], 0⟩) | .inr t => (.ret, ⟨[(2, .c (.t (.v (.int .i64 0)))), (3, .c (.t (.v (.int .i64 2))))], [], 0⟩)) l21 (fun t => by cases t <;> trivial) ?_ ?_
      ·
        clear l21 h
        intro v o h
        obtain ⟨x6, x7⟩ := v
        replace h : similarity_Number_l60 p0 x6 x7 = some o := h
        unfold similarity_Number_l60 at h
        show AW _ ⟨[(4, .c (.t (.v (.int .i64 x6)))), (11, .c (.t (.tree p0.length 1 (Ri64 p0)))), (12, .c (.t (.v (.int .i64 ((p0.length : Nat) : Int))))), (13, .c (.t (.v (.int .i64 x7))))], [], 0⟩ _ _
        refine AW.seq ?_
        refine AW.reg tt_ok0 [4, 11, 12, 13, 14] [] [] ⟨[(14, .c (.t (.v (.bool (decide (x7 < ((p0.length : Nat) : Int))))))), (4, .c (.t (.v (.int .i64 x6)))), (11, .c (.t (.tree p0.length 1 (Ri64 p0)))), (12, .c (.t (.v (.int .i64 ((p0.length : Nat) : Int))))), (13, .c (.t (.v (.int .i64 x7))))], [], 1⟩ [True] (by kernel_rfl) (by kernel_rfl) ⟨trivial, trivial⟩ ?_
        refine AW.thenQ_normal ?_
        refine AW.seq ?_
        refine AW.cond (b := decide (x7 < ((p0.length : Nat) : Int))) (by kernel_rfl) (fun c9 => ?_) (fun c9 => ?_)
        · rw [if_pos c9] at h
          refine AW.skip ?_
          refine AW.thenQ_normal ?_
          refine AW.seq ?_
          refine AW.block ?_
          refine AW.seq ?_
          obtain ⟨g10, h⟩ := ifc h
          obtain ⟨g11, h⟩ := ifc h
          refine AW.reg tt_ok0 [4, 5, 6, 11, 12, 13] [] [] ⟨[(6, .c (.t (.v (.int .i64 (p0.getD x7.toNat 0))))), (5, .c (.t (.v (.int .i64 x7)))), (4, .c (.t (.v (.int .i64 x6)))), (11, .c (.t (.tree p0.length 1 (Ri64 p0)))), (12, .c (.t (.v (.int .i64 ((p0.length : Nat) : Int))))), (13, .c (.t (.v (.int .i64 x7))))], [], 6⟩ [True, (0 ≤ x7) ∧ (x7 < ((p0.length : Nat) : Int)), True, True, True] (by kernel_rfl) (by kernel_rfl) ⟨trivial, ⟨g10, g11⟩, trivial, trivial, trivial, trivial⟩ ?_
          refine AW.thenQ_normal ?_
          refine AW.seq ?_
          refine AW.seq ?_
          refine AW.join (ι := Bool) (fun v => ⟨[(4, .c (.t (.v (.int .i64 x6)))), (5, .c (.t (.v (.int .i64 x7)))), (6, .c (.t (.v (.int .i64 (p0.getD x7.toNat 0))))), (11, .c (.t (.tree p0.length 1 (Ri64 p0)))), (12, .c (.t (.v (.int .i64 ((p0.length : Nat) : Int))))), (13, .c (.t (.v (.int .i64 x7)))), (23, .c (.t (.v (.bool v))))], [], 0⟩) (fun v : Bool => similarity_Number_k68 p0 x6 x7 v = some o) (fun v h => ?_) ?_
          ·
            obtain ⟨x12, rfl⟩ : ∃ x, x = v := ⟨_, rfl⟩
            replace h : similarity_Number_k68 p0 x6 x7 x12 = some o := h
            unfold similarity_Number_k68 at h
            show (_ : Exit → St → Prop) .normal ⟨[(4, .c (.t (.v (.int .i64 x6)))), (5, .c (.t (.v (.int .i64 x7)))), (6, .c (.t (.v (.int .i64 (p0.getD x7.toNat 0))))), (11, .c (.t (.tree p0.length 1 (Ri64 p0)))), (12, .c (.t (.v (.int .i64 ((p0.length : Nat) : Int))))), (13, .c (.t (.v (.int .i64 x7)))), (23, .c (.t (.v (.bool x12))))], [], 0⟩
            refine AW.thenQ_normal ?_
            refine AW.cond (b := x12) (by kernel_rfl) (fun c13 => ?_) (fun c13 => ?_)
            · rw [if_pos c13] at h
              refine AW.seq ?_
              refine AW.reg tt_ok0 [2, 3] [] [] ⟨[(3, .c (.t (.v (.int .i64 2)))), (2, .c (.t (.v (.int .i64 0))))], [], 2⟩ [True, True] (by kernel_rfl) (by kernel_rfl) ⟨trivial, trivial, trivial⟩ ?_
              refine AW.thenQ_normal ?_
              refine AW.ret ?_
              refine AW.thenQ_ret ?_
              refine AW.inBlock_ret ?_
              refine AW.thenQ_ret ?_
              obtain rfl := some_inj h
              refine loopQ_out rfl (conv_ren [] [2, 3] (n := 0) (by kernel_rfl) (by kernel_rfl))
            · rw [if_neg (by rw [c13]; exact Bool.false_ne_true)] at h
              refine AW.skip ?_
              refine AW.thenQ_normal ?_
              obtain ⟨y14, e15, h⟩ := bnd_some h
              obtain ⟨g16, h⟩ := ifc h
              obtain ⟨z17, n18, h⟩ := bnd_some h
              replace n18 := some_inj n18
              refine AW.reg tt_ok0 [4, 11, 12, 13] [] [{}, {}, { call := some { ids := [], frz := [], flat := true, cnt := 0, args := [], out := .agg [.t (.v (.int .i64 (y14.getD 0 0))), .t (.v (.int .i64 (y14.getD 1 0))), .t (.v (.int .i64 (y14.getD 2 0))), .t (.v (.int .i64 (y14.getD 3 0))), .t (.v (.int .i64 (y14.getD 4 0))), .t (.v (.int .i64 (y14.getD 5 0)))], outb := [] } }, {}, { h := { row := some (6, Ri64 y14) } }] ⟨[(4, .c (.t (.v (.int .i64 (IntKind.i64.wrap (x6 + (IntKind.i64.wrap ((p0.getD x7.toNat 0) * (y14.getD x7.toNat 0))))))))), (11, .c (.t (.tree p0.length 1 (Ri64 p0)))), (12, .c (.t (.v (.int .i64 ((p0.length : Nat) : Int))))), (13, .c (.t (.v (.int .i64 x7))))], [], 7⟩ [True, True, (True) ∧ (All2 ArgLe [] []) ∧ ((true = true → flatB [])) ∧ (Con Try.prog 57 [] [] (.agg [.t (.v (.int .i64 (y14.getD 0 0))), .t (.v (.int .i64 (y14.getD 1 0))), .t (.v (.int .i64 (y14.getD 2 0))), .t (.v (.int .i64 (y14.getD 3 0))), .t (.v (.int .i64 (y14.getD 4 0))), .t (.v (.int .i64 (y14.getD 5 0)))]) []), True, ((0 ≤ x7) ∧ (x7 < ((6 : Nat) : Int))) ∧ (6 = 6 ∧ ∀ i, i < 6 → ∀ j, j < 1 → rowOf [.v (.int .i64 (y14.getD 0 0)), .v (.int .i64 (y14.getD 1 0)), .v (.int .i64 (y14.getD 2 0)), .v (.int .i64 (y14.getD 3 0)), .v (.int .i64 (y14.getD 4 0)), .v (.int .i64 (y14.getD 5 0))] 1 i j = Ri64 y14 i j), True, True, True] (by kernel_rfl) (by kernel_rfl) ⟨trivial, trivial, ⟨trivial, trivial, (fun _ => trivial), (similarity_powers_con y14 e15)⟩, trivial, ⟨⟨g10, g16⟩, ⟨rfl, fun i hi j hj => match i, hi, j, hj with | 0, _, 0, _ => rfl | 1, _, 0, _ => rfl | 2, _, 0, _ => rfl | 3, _, 0, _ => rfl | 4, _, 0, _ => rfl | 5, _, 0, _ => rfl | _ + 6, h, _, _ => absurd h (by omega) | _, _, _ + 1, h => absurd h (by omega)⟩⟩, trivial, trivial, trivial, trivial⟩ ?_
              refine eq_Q (S' := ⟨[(4, .c (.t (.v (.int .i64 z17)))), (11, .c (.t (.tree p0.length 1 (Ri64 p0)))), (12, .c (.t (.v (.int .i64 ((p0.length : Nat) : Int))))), (13, .c (.t (.v (.int .i64 x7))))], [], 7⟩) (by rw [n18]) ?_
              refine AW.inBlock_normal ?_
              refine AW.thenQ_normal ?_
              refine AW.reg tt_ok0 [4, 11, 12, 13] [] [] ⟨[(13, .c (.t (.v (.int .i64 (IntKind.i64.wrap (x7 + 1)))))), (4, .c (.t (.v (.int .i64 z17)))), (11, .c (.t (.tree p0.length 1 (Ri64 p0)))), (12, .c (.t (.v (.int .i64 ((p0.length : Nat) : Int)))))], [], 9⟩ [True, True] (by kernel_rfl) (by kernel_rfl) ⟨trivial, trivial, trivial⟩ ?_
              obtain rfl := some_inj h
              refine loopQ_next (conv_ren [] [4, 11, 12, 13] (n := 0) (by kernel_rfl) (by kernel_rfl))
          ·
            by_cases c19 : (decide ((p0.getD x7.toNat 0) < 0)) = true
            · rw [if_pos c19] at h
              refine AW.reg tt_ok0 [4, 5, 6, 11, 12, 13, 21, 22, 23] [] [{}, { h := { b := some true } }] ⟨[(23, .c (.t (.v (.bool true)))), (22, .tup []), (21, .tup []), (6, .c (.t (.v (.int .i64 (p0.getD x7.toNat 0))))), (5, .c (.t (.v (.int .i64 x7)))), (4, .c (.t (.v (.int .i64 x6)))), (11, .c (.t (.tree p0.length 1 (Ri64 p0)))), (12, .c (.t (.v (.int .i64 ((p0.length : Nat) : Int))))), (13, .c (.t (.v (.int .i64 x7))))], [], 12⟩ [True, (decide ((p0.getD x7.toNat 0) < 0)) = true, True, True, True, True] (by kernel_rfl) (by kernel_rfl) ⟨trivial, c19, trivial, trivial, trivial, trivial, trivial⟩ ?_
              exact joinQ_leaf (true) h (conv_ren [] [4, 5, 6, 11, 12, 13, 23] (n := 0) (by kernel_rfl) (by kernel_rfl))
            · rw [if_neg c19] at h
              refine AW.reg tt_ok0 [4, 5, 6, 11, 12, 13, 21, 22, 23] [] [{}, { h := { b := some false } }] ⟨[(23, .c (.t (.v (.bool (decide ((p0.getD x7.toNat 0) ≥ 3)))))), (22, .c (.t (.v (.bool (decide ((p0.getD x7.toNat 0) ≥ 3)))))), (21, .c (.t (.v (.int .i64 (p0.getD x7.toNat 0))))), (6, .c (.t (.v (.int .i64 (p0.getD x7.toNat 0))))), (5, .c (.t (.v (.int .i64 x7)))), (4, .c (.t (.v (.int .i64 x6)))), (11, .c (.t (.tree p0.length 1 (Ri64 p0)))), (12, .c (.t (.v (.int .i64 ((p0.length : Nat) : Int))))), (13, .c (.t (.v (.int .i64 x7))))], [], 12⟩ [True, (decide ((p0.getD x7.toNat 0) < 0)) = false, True, True, True, True] (by kernel_rfl) (by kernel_rfl) ⟨trivial, (off_false c19), trivial, trivial, trivial, trivial, trivial⟩ ?_
              exact joinQ_leaf (decide ((p0.getD x7.toNat 0) ≥ 3)) h (conv_ren [] [4, 5, 6, 11, 12, 13, 23] (n := 0) (by kernel_rfl) (by kernel_rfl))
        · rw [if_neg (by rw [c9]; exact Bool.false_ne_true)] at h
          refine AW.exit ?_
          refine AW.thenQ_exit ?_
          obtain rfl := some_inj h
          refine loopQ_out rfl (conv_ren [] [4] (n := 0) (by kernel_rfl) (by kernel_rfl))
      ·
        show (_ : Exit → St → Prop) (.exit 0) ⟨[(4, .c (.t (.v (.int .i64 x20))))], [], 0⟩
        refine AW.inBlock_hit ?_
        refine AW.thenQ_normal ?_
        refine AW.seq ?_
        refine AW.reg tt_ok0 [2, 3] [] [] ⟨[(3, .c (.t (.v (.int .i64 0)))), (2, .c (.t (.v (.int .i64 x20))))], [], 3⟩ [True, True, True] (by kernel_rfl) (by kernel_rfl) ⟨trivial, trivial, trivial, trivial⟩ ?_
        refine AW.thenQ_normal ?_
        refine AW.ret ?_
        obtain rfl := some_inj h
        exact ⟨_, Conv.refl _ _, .inr rfl, OutOk.mk [] 0 (out0 := .tup [.c (.t (.v (.int .i64 x20))), .c (.t (.v (.int .i64 0)))]) (ps := [True, True]) (by kernel_rfl) ⟨trivial, trivial, trivial⟩ (by kernel_rfl) (by kernel_rfl)⟩
    ·
      replace h : similarity_Number_a70 = some r := h
      unfold similarity_Number_a70 at h
      refine AW.pre (S' := ((fun v => ⟨[(4, .c (.t (.v (.int .i64 v.1)))), (11, .c (.t (.tree p0.length 1 (Ri64 p0)))), (12, .c (.t (.v (.int .i64 ((p0.length : Nat) : Int))))), (13, .c (.t (.v (.int .i64 v.2))))], [], 0⟩) : (Int × Int) → St) (0, 0)) (conv_ren [] [4, 11, 12, 13] (n := 0) (by kernel_rfl) (by kernel_rfl)) ?_
      refine AW.loop2 (step := (fun v : Int × Int => similarity_Number_l60 p0 v.1 v.2)) (s0 := (0, 0)) (t := .inr ()) (fun v => ⟨[(4, .c (.t (.v (.int .i64 v.1)))), (11, .c (.t (.tree p0.length 1 (Ri64 p0)))), (12, .c (.t (.v (.int .i64 ((p0.length : Nat) : Int))))), (13, .c (.t (.v (.int .i64 v.2))))], [], 0⟩) (fun t : (Int ⊕ Unit) => match t with | .inl t => (.exit 0, ⟨[(4, .c (.t (.v (.int .i64 t))))], [], 0⟩) | .inr t => (.ret, ⟨[(2, .c (.t (.v (.int .i64 0)))), (3, .c (.t (.v (.int .i64 2))))], [], 0⟩)) l21 (fun t => by cases t <;> trivial) ?_ ?_
      ·
        clear l21 h
        intro v o h
        obtain ⟨x6, x7⟩ := v
        replace h : similarity_Number_l60 p0 x6 x7 = some o := h
        unfold similarity_Number_l60 at h
        show AW _ ⟨[(4, .c (.t (.v (.int .i64 x6)))), (11, .c (.t (.tree p0.length 1 (Ri64 p0)))), (12, .c (.t (.v (.int .i64 ((p0.length : Nat) : Int))))), (13, .c (.t (.v (.int .i64 x7))))], [], 0⟩ _ _
        refine AW.seq ?_
        refine AW.reg tt_ok0 [4, 11, 12, 13, 14] [] [] ⟨[(14, .c (.t (.v (.bool (decide (x7 < ((p0.length : Nat) : Int))))))), (4, .c (.t (.v (.int .i64 x6)))), (11, .c (.t (.tree p0.length 1 (Ri64 p0)))), (12, .c (.t (.v (.int .i64 ((p0.length : Nat) : Int))))), (13, .c (.t (.v (.int .i64 x7))))], [], 1⟩ [True] (by kernel_rfl) (by kernel_rfl) ⟨trivial, trivial⟩ ?_
        refine AW.thenQ_normal ?_
        refine AW.seq ?_
        refine AW.cond (b := decide (x7 < ((p0.length : Nat) : Int))) (by kernel_rfl) (fun c9 => ?_) (fun c9 => ?_)
        · rw [if_pos c9] at h
          refine AW.skip ?_
          refine AW.thenQ_normal ?_
          refine AW.seq ?_
          refine AW.block ?_
          refine AW.seq ?_
          obtain ⟨g10, h⟩ := ifc h
          obtain ⟨g11, h⟩ := ifc h
          refine AW.reg tt_ok0 [4, 5, 6, 11, 12, 13] [] [] ⟨[(6, .c (.t (.v (.int .i64 (p0.getD x7.toNat 0))))), (5, .c (.t (.v (.int .i64 x7)))), (4, .c (.t (.v (.int .i64 x6)))), (11, .c (.t (.tree p0.length 1 (Ri64 p0)))), (12, .c (.t (.v (.int .i64 ((p0.length : Nat) : Int))))), (13, .c (.t (.v (.int .i64 x7))))], [], 6⟩ [True, (0 ≤ x7) ∧ (x7 < ((p0.length : Nat) : Int)), True, True, True] (by kernel_rfl) (by kernel_rfl) ⟨trivial, ⟨g10, g11⟩, trivial, trivial, trivial, trivial⟩ ?_
          refine AW.thenQ_normal ?_
          refine AW.seq ?_
          refine AW.seq ?_
          refine AW.join (ι := Bool) (fun v => ⟨[(4, .c (.t (.v (.int .i64 x6)))), (5, .c (.t (.v (.int .i64 x7)))), (6, .c (.t (.v (.int .i64 (p0.getD x7.toNat 0))))), (11, .c (.t (.tree p0.length 1 (Ri64 p0)))), (12, .c (.t (.v (.int .i64 ((p0.length : Nat) : Int))))), (13, .c (.t (.v (.int .i64 x7)))), (23, .c (.t (.v (.bool v))))], [], 0⟩) (fun v : Bool => similarity_Number_k68 p0 x6 x7 v = some o) (fun v h => ?_) ?_
          ·
            obtain ⟨x12, rfl⟩ : ∃ x, x = v := ⟨_, rfl⟩
            replace h : similarity_Number_k68 p0 x6 x7 x12 = some o := h
            unfold similarity_Number_k68 at h
            show (_ : Exit → St → Prop) .normal ⟨[(4, .c (.t (.v (.int .i64 x6)))), (5, .c (.t (.v (.int .i64 x7)))), (6, .c (.t (.v (.int .i64 (p0.getD x7.toNat 0))))), (11, .c (.t (.tree p0.length 1 (Ri64 p0)))), (12, .c (.t (.v (.int .i64 ((p0.length : Nat) : Int))))), (13, .c (.t (.v (.int .i64 x7)))), (23, .c (.t (.v (.bool x12))))], [], 0⟩
            refine AW.thenQ_normal ?_
            refine AW.cond (b := x12) (by kernel_rfl) (fun c13 => ?_) (fun c13 => ?_)
            · rw [if_pos c13] at h
              refine AW.seq ?_
              refine AW.reg tt_ok0 [2, 3] [] [] ⟨[(3, .c (.t (.v (.int .i64 2)))), (2, .c (.t (.v (.int .i64 0))))], [], 2⟩ [True, True] (by kernel_rfl) (by kernel_rfl) ⟨trivial, trivial, trivial⟩ ?_
              refine AW.thenQ_normal ?_
              refine AW.ret ?_
              refine AW.thenQ_ret ?_
              refine AW.inBlock_ret ?_
              refine AW.thenQ_ret ?_
              obtain rfl := some_inj h
              refine loopQ_out rfl (conv_ren [] [2, 3] (n := 0) (by kernel_rfl) (by kernel_rfl))
            · rw [if_neg (by rw [c13]; exact Bool.false_ne_true)] at h
              refine AW.skip ?_
              refine AW.thenQ_normal ?_
              obtain ⟨y14, e15, h⟩ := bnd_some h
              obtain ⟨g16, h⟩ := ifc h
              obtain ⟨z17, n18, h⟩ := bnd_some h
              replace n18 := some_inj n18
              refine AW.reg tt_ok0 [4, 11, 12, 13] [] [{}, {}, { call := some { ids := [], frz := [], flat := true, cnt := 0, args := [], out := .agg [.t (.v (.int .i64 (y14.getD 0 0))), .t (.v (.int .i64 (y14.getD 1 0))), .t (.v (.int .i64 (y14.getD 2 0))), .t (.v (.int .i64 (y14.getD 3 0))), .t (.v (.int .i64 (y14.getD 4 0))), .t (.v (.int .i64 (y14.getD 5 0)))], outb := [] } }, {}, { h := { row := some (6, Ri64 y14) } }] ⟨[(4, .c (.t (.v (.int .i64 (IntKind.i64.wrap (x6 + (IntKind.i64.wrap ((p0.getD x7.toNat 0) * (y14.getD x7.toNat 0))))))))), (11, .c (.t (.tree p0.length 1 (Ri64 p0)))), (12, .c (.t (.v (.int .i64 ((p0.length : Nat) : Int))))), (13, .c (.t (.v (.int .i64 x7))))], [], 7⟩ [True, True, (True) ∧ (All2 ArgLe [] []) ∧ ((true = true → flatB [])) ∧ (Con Try.prog 57 [] [] (.agg [.t (.v (.int .i64 (y14.getD 0 0))), .t (.v (.int .i64 (y14.getD 1 0))), .t (.v (.int .i64 (y14.getD 2 0))), .t (.v (.int .i64 (y14.getD 3 0))), .t (.v (.int .i64 (y14.getD 4 0))), .t (.v (.int .i64 (y14.getD 5 0)))]) []), True, ((0 ≤ x7) ∧ (x7 < ((6 : Nat) : Int))) ∧ (6 = 6 ∧ ∀ i, i < 6 → ∀ j, j < 1 → rowOf [.v (.int .i64 (y14.getD 0 0)), .v (.int .i64 (y14.getD 1 0)), .v (.int .i64 (y14.getD 2 0)), .v (.int .i64 (y14.getD 3 0)), .v (.int .i64 (y14.getD 4 0)), .v (.int .i64 (y14.getD 5 0))] 1 i j = Ri64 y14 i j), True, True, True] (by kernel_rfl) (by kernel_rfl) ⟨trivial, trivial, ⟨trivial, trivial, (fun _ => trivial), (similarity_powers_con y14 e15)⟩, trivial, ⟨⟨g10, g16⟩, ⟨rfl, fun i hi j hj => match i, hi, j, hj with | 0, _, 0, _ => rfl | 1, _, 0, _ => rfl | 2, _, 0, _ => rfl | 3, _, 0, _ => rfl | 4, _, 0, _ => rfl | 5, _, 0, _ => rfl | _ + 6, h, _, _ => absurd h (by omega) | _, _, _ + 1, h => absurd h (by omega)⟩⟩, trivial, trivial, trivial, trivial⟩ ?_
              refine eq_Q (S' := ⟨[(4, .c (.t (.v (.int .i64 z17)))), (11, .c (.t (.tree p0.length 1 (Ri64 p0)))), (12, .c (.t (.v (.int .i64 ((p0.length : Nat) : Int))))), (13, .c (.t (.v (.int .i64 x7))))], [], 7⟩) (by rw [n18]) ?_
              refine AW.inBlock_normal ?_
              refine AW.thenQ_normal ?_
              refine AW.reg tt_ok0 [4, 11, 12, 13] [] [] ⟨[(13, .c (.t (.v (.int .i64 (IntKind.i64.wrap (x7 + 1)))))), (4, .c (.t (.v (.int .i64 z17)))), (11, .c (.t (.tree p0.length 1 (Ri64 p0)))), (12, .c (.t (.v (.int .i64 ((p0.length : Nat) : Int)))))], [], 9⟩ [True, True] (by kernel_rfl) (by kernel_rfl) ⟨trivial, trivial, trivial⟩ ?_
              obtain rfl := some_inj h
              refine loopQ_next (conv_ren [] [4, 11, 12, 13] (n := 0) (by kernel_rfl) (by kernel_rfl))
          ·
            by_cases c19 : (decide ((p0.getD x7.toNat 0) < 0)) = true
            · rw [if_pos c19] at h
              refine AW.reg tt_ok0 [4, 5, 6, 11, 12, 13, 21, 22, 23] [] [{}, { h := { b := some true } }] ⟨[(23, .c (.t (.v (.bool true)))), (22, .tup []), (21, .tup []), (6, .c (.t (.v (.int .i64 (p0.getD x7.toNat 0))))), (5, .c (.t (.v (.int .i64 x7)))), (4, .c (.t (.v (.int .i64 x6)))), (11, .c (.t (.tree p0.length 1 (Ri64 p0)))), (12, .c (.t (.v (.int .i64 ((p0.length : Nat) : Int))))), (13, .c (.t (.v (.int .i64 x7))))], [], 12⟩ [True, (decide ((p0.getD x7.toNat 0) < 0)) = true, True, True, True, True] (by kernel_rfl) (by kernel_rfl) ⟨trivial, c19, trivial, trivial, trivial, trivial, trivial⟩ ?_
              exact joinQ_leaf (true) h (conv_ren [] [4, 5, 6, 11, 12, 13, 23] (n := 0) (by kernel_rfl) (by kernel_rfl))
            · rw [if_neg c19] at h
              refine AW.reg tt_ok0 [4, 5, 6, 11, 12, 13, 21, 22, 23] [] [{}, { h := { b := some false } }] ⟨[(23, .c (.t (.v (.bool (decide ((p0.getD x7.toNat 0) ≥ 3)))))), (22, .c (.t (.v (.bool (decide ((p0.getD x7.toNat 0) ≥ 3)))))), (21, .c (.t (.v (.int .i64 (p0.getD x7.toNat 0))))), (6, .c (.t (.v (.int .i64 (p0.getD x7.toNat 0))))), (5, .c (.t (.v (.int .i64 x7)))), (4, .c (.t (.v (.int .i64 x6)))), (11, .c (.t (.tree p0.length 1 (Ri64 p0)))), (12, .c (.t (.v (.int .i64 ((p0.length : Nat) : Int))))), (13, .c (.t (.v (.int .i64 x7))))], [], 12⟩ [True, (decide ((p0.getD x7.toNat 0) < 0)) = false, True, True, True, True] (by kernel_rfl) (by kernel_rfl) ⟨trivial, (off_false c19), trivial, trivial, trivial, trivial, trivial⟩ ?_
              exact joinQ_leaf (decide ((p0.getD x7.toNat 0) ≥ 3)) h (conv_ren [] [4, 5, 6, 11, 12, 13, 23] (n := 0) (by kernel_rfl) (by kernel_rfl))
        · rw [if_neg (by rw [c9]; exact Bool.false_ne_true)] at h
          refine AW.exit ?_
          refine AW.thenQ_exit ?_
          obtain rfl := some_inj h
          refine loopQ_out rfl (conv_ren [] [4] (n := 0) (by kernel_rfl) (by kernel_rfl))
      ·
        show (_ : Exit → St → Prop) (.ret) ⟨[(2, .c (.t (.v (.int .i64 0)))), (3, .c (.t (.v (.int .i64 2))))], [], 0⟩
        refine AW.inBlock_ret ?_
        refine AW.thenQ_ret ?_
        obtain rfl := some_inj h
        exact ⟨_, Conv.refl _ _, .inr rfl, OutOk.mk [] 0 (out0 := .tup [.c (.t (.v (.int .i64 0))), .c (.t (.v (.int .i64 2)))]) (ps := [True, True]) (by kernel_rfl) ⟨trivial, trivial, trivial⟩ (by kernel_rfl) (by kernel_rfl)⟩
def Eu64 (x : Int) : List T := [.v (.int .u64 x)]
def Ru64 (xs : List Int) : Nat → Nat → T := rowL 0 Eu64 xs
theorem Vu64 : ∀ x, allV (Eu64 x) := fun _ => ⟨trivial, trivial⟩
structure S_api_Bits where
  Length : Int
  Words : List Int
def dS_api_Bits : S_api_Bits := ⟨0, ([] : List Int)⟩
instance : Inhabited S_api_Bits := ⟨dS_api_Bits⟩
/-! recordlink/bitset.right -/
noncomputable def bitset_right_k2 (x1 : Bool) : Option Bool := some x1
noncomputable def bitset_right (p0 : Int) : Option Bool := if (decide (p0 ≥ 64)) = true then (if (decide (p0 ≤ 512)) = true then (bitset_right_k2 ((p0.tmod 64) == 0)) else (bitset_right_k2 false)) else (bitset_right_k2 false)
set_option maxRecDepth 100000 in
set_option maxHeartbeats 10000000 in
theorem bitset_right_con (p0 : Int) (r0 : Bool) (h : bitset_right p0 = some r0) : Con Try.prog 66 [.c (.t (.v (.int .i64 p0)))] [] (.c (.t (.v (.bool r0)))) [] := by
  revert h; generalize r0 = r; intro h
  refine con_of tt_ok0 0 Try.func66 (by kernel_rfl) rfl (by kernel_rfl) (fun base X hk => AW.post ?_)
  unfold bitset_right at h
  refine AW.seq ?_
  refine AW.reg tt_ok0 [0] [] [] ⟨[(0, .c (.t (.v (.int .i64 p0))))], [], 1⟩ [True] (by kernel_rfl) (by kernel_rfl) ⟨trivial, trivial⟩ ?_
  refine AW.thenQ_normal ?_
  refine AW.seq ?_
  refine AW.join (ι := Bool) (fun v => ⟨[(2, .c (.t (.v (.bool v))))], [], 0⟩) (fun v : Bool => bitset_right_k2 v = some r) (fun v h => ?_) ?_
  ·
    obtain ⟨x1, rfl⟩ : ∃ x, x = v := ⟨_, rfl⟩
    replace h : bitset_right_k2 x1 = some r := h
    unfold bitset_right_k2 at h
    show (_ : Exit → St → Prop) .normal ⟨[(2, .c (.t (.v (.bool x1))))], [], 0⟩
    refine AW.thenQ_normal ?_
    refine AW.ret ?_
    obtain rfl := some_inj h
    exact ⟨_, Conv.refl _ _, .inr rfl, OutOk.mk [] 0 (out0 := .c (.t (.v (.bool x1)))) (ps := [True]) (by kernel_rfl) ⟨trivial, trivial⟩ (by kernel_rfl) (by kernel_rfl)⟩
  ·
    by_cases c2 : (decide (p0 ≥ 64)) = true
    · rw [if_pos c2] at h
      by_cases c3 : (decide (p0 ≤ 512)) = true
      · rw [if_pos c3] at h
        refine AW.reg tt_ok0 [2] [] [{}, { h := { b := some true } }, {}, {}, { h := { b := some true } }] ⟨[(2, .c (.t (.v (.bool ((p0.tmod 64) == 0)))))], [], 13⟩ [True, (decide (p0 ≥ 64)) = true, True, True, (decide (p0 ≤ 512)) = true, True, True, True, (64 : Int) ≠ 0, True, True, True] (by kernel_rfl) (by kernel_rfl) ⟨trivial, c2, trivial, trivial, c3, trivial, trivial, trivial, (by decide), trivial, trivial, trivial, trivial⟩ ?_
        exact joinQ_leaf (((p0.tmod 64) == 0)) h (conv_ren [] [2] (n := 0) (by kernel_rfl) (by kernel_rfl))
      · rw [if_neg c3] at h
        refine AW.reg tt_ok0 [2] [] [{}, { h := { b := some true } }, {}, {}, { h := { b := some false } }] ⟨[(2, .c (.t (.v (.bool false))))], [], 13⟩ [True, (decide (p0 ≥ 64)) = true, True, True, (decide (p0 ≤ 512)) = false, True, True, True, True, True, True, True] (by kernel_rfl) (by kernel_rfl) ⟨trivial, c2, trivial, trivial, (off_false c3), trivial, trivial, trivial, trivial, trivial, trivial, trivial, trivial⟩ ?_
        exact joinQ_leaf (false) h (conv_ren [] [2] (n := 0) (by kernel_rfl) (by kernel_rfl))
    · rw [if_neg c2] at h
      refine AW.reg tt_ok0 [2] [] [{}, { h := { b := some false } }] ⟨[(2, .c (.t (.v (.bool false))))], [], 13⟩ [True, (decide (p0 ≥ 64)) = false, True, True, True, True, True, True, True, True, True, True] (by kernel_rfl) (by kernel_rfl) ⟨trivial, (off_false c2), trivial, trivial, trivial, trivial, trivial, trivial, trivial, trivial, trivial, trivial, trivial⟩ ?_
      exact joinQ_leaf (false) h (conv_ren [] [2] (n := 0) (by kernel_rfl) (by kernel_rfl))
/-! recordlink/bitset.Valid -/
noncomputable def bitset_Valid_k2 (x1 : Bool) : Option Bool := some x1
noncomputable def bitset_Valid (p0 : S_api_Bits) : Option Bool := (bitset_right p0.Length).bind fun y2 => (if y2 = true then (bitset_Valid_k2 (((p0.Words.length : Nat) : Int) == (IntKind.i64.wrap (p0.Length.tdiv 64)))) else (bitset_Valid_k2 false))
set_option maxRecDepth 100000 in
set_option maxHeartbeats 10000000 in
theorem bitset_Valid_con (p0 : S_api_Bits) (r0 : Bool) (h : bitset_Valid p0 = some r0) : Con Try.prog 49 [.agg [.t (.v (.int .i64 p0.Length)), .t (.tree p0.Words.length 1 (Ru64 p0.Words))]] [] (.c (.t (.v (.bool r0)))) [] := by
  revert h; generalize r0 = r; intro h
  refine con_of tt_ok0 0 Try.func49 (by kernel_rfl) rfl (by kernel_rfl) (fun base X hk => AW.post ?_)
  unfold bitset_Valid at h
  refine AW.seq ?_
  refine AW.reg tt_ok0 [1] [0] [] ⟨[(1, .c (.ptr 0 2 0 0))], [(0, .box 29 [.t (.v (.int .i64 p0.Length)), .t (.tree p0.Words.length 1 (Ru64 p0.Words))])], 2⟩ [True, True] (by kernel_rfl) (by kernel_rfl) ⟨trivial, trivial, trivial⟩ ?_
  refine AW.thenQ_normal ?_
  refine AW.seq ?_
  refine AW.join (ι := Bool) (fun v => ⟨[(2, .c (.t (.v (.bool v))))], [], 0⟩) (fun v : Bool => bitset_Valid_k2 v = some r) (fun v h => ?_) ?_
  ·
    obtain ⟨x1, rfl⟩ : ∃ x, x = v := ⟨_, rfl⟩
    replace h : bitset_Valid_k2 x1 = some r := h
    unfold bitset_Valid_k2 at h
    show (_ : Exit → St → Prop) .normal ⟨[(2, .c (.t (.v (.bool x1))))], [], 0⟩
    refine AW.thenQ_normal ?_
    refine AW.ret ?_
    obtain rfl := some_inj h
    exact ⟨_, Conv.refl _ _, .inr rfl, OutOk.mk [] 0 (out0 := .c (.t (.v (.bool x1)))) (ps := [True]) (by kernel_rfl) ⟨trivial, trivial⟩ (by kernel_rfl) (by kernel_rfl)⟩
  ·
    obtain ⟨y2, e3, h⟩ := bnd_some h
    by_cases c4 : y2 = true
    · rw [if_pos c4] at h; subst c4
      refine AW.reg tt_ok0 [2] [] [{}, {}, { call := some { ids := [], frz := [], flat := true, cnt := 0, args := [.c (.t (.v (.int .i64 p0.Length)))], out := .c (.t (.v (.bool true))), outb := [] } }] ⟨[(2, .c (.t (.v (.bool (((p0.Words.length : Nat) : Int) == (IntKind.i64.wrap (p0.Length.tdiv 64)))))))], [], 14⟩ [True, True, ((True) ∧ (True)) ∧ (All2 ArgLe [.c (.t (.v (.int .i64 p0.Length)))] [.c (.t (.v (.int .i64 p0.Length)))]) ∧ ((true = true → flatB [])) ∧ (Con Try.prog 66 [.c (.t (.v (.int .i64 p0.Length)))] [] (.c (.t (.v (.bool true)))) []), True, True, True, True, True, True, (64 : Int) ≠ 0, True, True, True] (by kernel_rfl) (by kernel_rfl) ⟨trivial, trivial, ⟨⟨trivial, trivial⟩, ⟨ArgLe.refl _, trivial⟩, (fun _ => trivial), (bitset_right_con p0.Length true e3)⟩, trivial, trivial, trivial, trivial, trivial, trivial, (by decide), trivial, trivial, trivial, trivial⟩ ?_
      exact joinQ_leaf ((((p0.Words.length : Nat) : Int) == (IntKind.i64.wrap (p0.Length.tdiv 64)))) h (conv_ren [] [2] (n := 0) (by kernel_rfl) (by kernel_rfl))
    · rw [if_neg c4] at h; have c4 := off_false c4; subst c4
      refine AW.reg tt_ok0 [2] [] [{}, {}, { call := some { ids := [], frz := [], flat := true, cnt := 0, args := [.c (.t (.v (.int .i64 p0.Length)))], out := .c (.t (.v (.bool false))), outb := [] } }] ⟨[(2, .c (.t (.v (.bool false))))], [], 14⟩ [True, True, ((True) ∧ (True)) ∧ (All2 ArgLe [.c (.t (.v (.int .i64 p0.Length)))] [.c (.t (.v (.int .i64 p0.Length)))]) ∧ ((true = true → flatB [])) ∧ (Con Try.prog 66 [.c (.t (.v (.int .i64 p0.Length)))] [] (.c (.t (.v (.bool false)))) []), True, True, True, True, True, True, True, True, True, True] (by kernel_rfl) (by kernel_rfl) ⟨trivial, trivial, ⟨⟨trivial, trivial⟩, ⟨ArgLe.refl _, trivial⟩, (fun _ => trivial), (bitset_right_con p0.Length false e3)⟩, trivial, trivial, trivial, trivial, trivial, trivial, trivial, trivial, trivial, trivial, trivial⟩ ?_
      exact joinQ_leaf (false) h (conv_ren [] [2] (n := 0) (by kernel_rfl) (by kernel_rfl))
/-! recordlink/bitset.And$1 -/
noncomputable def bitset_And_f1 (p0 : Int) (p1 : Int) : Option Int := some (iand .u64 p0 p1)
set_option maxRecDepth 100000 in
set_option maxHeartbeats 10000000 in
theorem bitset_And_f1_con (p0 : Int) (p1 : Int) (r0 : Int) (h : bitset_And_f1 p0 p1 = some r0) : Con Try.prog 59 [.c (.t (.v (.int .u64 p0))), .c (.t (.v (.int .u64 p1)))] [] (.c (.t (.v (.int .u64 r0)))) [] := by
  revert h; generalize r0 = r; intro h
  refine con_of tt_ok0 0 Try.func59 (by kernel_rfl) rfl (by kernel_rfl) (fun base X hk => AW.post ?_)
  unfold bitset_And_f1 at h
  refine AW.seq ?_
  refine AW.reg tt_ok0 [0, 1] [] [] ⟨[(0, .c (.t (.v (.int .u64 p0)))), (1, .c (.t (.v (.int .u64 p1))))], [], 1⟩ [True] (by kernel_rfl) (by kernel_rfl) ⟨trivial, trivial⟩ ?_
  refine AW.thenQ_normal ?_
  refine AW.seq ?_
  refine AW.reg tt_ok0 [4] [] [] ⟨[(4, .c (.t (.v (.int .u64 (iand .u64 p0 p1)))))], [], 5⟩ [True, True, True, True] (by kernel_rfl) (by kernel_rfl) ⟨trivial, trivial, trivial, trivial, trivial⟩ ?_
  refine AW.thenQ_normal ?_
  refine AW.ret ?_
  obtain rfl := some_inj h
  exact ⟨_, Conv.refl _ _, .inr rfl, OutOk.mk [] 0 (out0 := .c (.t (.v (.int .u64 (iand .u64 p0 p1))))) (ps := [True]) (by kernel_rfl) ⟨trivial, trivial⟩ (by kernel_rfl) (by kernel_rfl)⟩
/-! recordlink/bitset.both -/
noncomputable def bitset_both_59_l6 (p0 : S_api_Bits) (p1 : S_api_Bits) (x7 : Int) (x8 : List Int) : Option ((Int × (List Int)) ⊕ (List Int)) := if (decide (x7 < ((p0.Words.length : Nat) : Int))) = true then (if 0 ≤ x7 then (if x7 < ((p0.Words.length : Nat) : Int) then (if x7 < ((p1.Words.length : Nat) : Int) then ((bitset_And_f1 (p0.Words.getD x7.toNat 0) (p1.Words.getD x7.toNat 0)).bind fun y14 => (if x7 < ((x8.length : Nat) : Int) then (some (.inl (IntKind.i64.wrap (x7 + 1), (x8.set (0 + x7.toNat) y14)))) else none)) else none) else none) else none) else (some (.inr x8))
noncomputable def bitset_both_59_k4 (p0 : S_api_Bits) (p1 : S_api_Bits) (x1 : Bool) : Option (S_api_Bits × Int) := if x1 = true then (some ((⟨0, ([] : List Int)⟩ : S_api_Bits), 8)) else (if 0 ≤ ((p0.Words.length : Nat) : Int) then (if ((p0.Words.length : Nat) : Int) ≤ 1099511627776 then ((loop (fun v : Int × (List Int) => bitset_both_59_l6 p0 p1 v.1 v.2) (0, (List.replicate (((p0.Words.length : Nat) : Int).toNat) (0 : Int)))).bind fun x17 => (some ((⟨p0.Length, x17⟩ : S_api_Bits), 0))) else none) else none)
noncomputable def bitset_both_59 (p0 : S_api_Bits) (p1 : S_api_Bits) : Option (S_api_Bits × Int) := (bitset_Valid p0).bind fun y19 => (if (!y19) = true then (bitset_both_59_k4 p0 p1 true) else ((bitset_Valid p1).bind fun y22 => (if (!y22) = true then (bitset_both_59_k4 p0 p1 true) else (bitset_both_59_k4 p0 p1 (p0.Length != p1.Length)))))
set_option maxRecDepth 100000 in
set_option maxHeartbeats 10000000 in
theorem bitset_both_59_con (p0 : S_api_Bits) (p1 : S_api_Bits) (r0 : S_api_Bits) (r1 : Int) (h : bitset_both_59 p0 p1 = some (r0, r1)) : Con Try.prog 58 [.agg [.t (.v (.int .i64 p0.Length)), .t (.tree p0.Words.length 1 (Ru64 p0.Words))], .agg [.t (.v (.int .i64 p1.Length)), .t (.tree p1.Words.length 1 (Ru64 p1.Words))], .c (.t (.v (.func (.func 59) #[] #[])))] [] (.tup [.agg [.t (.v (.int .i64 r0.Length)), .ref 0 1 0 r0.Words.length], .c (.t (.v (.int .i64 r1)))]) [(0, .row 33 false 1 r0.Words.length (Ru64 r0.Words))] := by
  suffices H : ∀ r, bitset_both_59 p0 p1 = some r → Con Try.prog 58 [.agg [.t (.v (.int .i64 p0.Length)), .t (.tree p0.Words.length 1 (Ru64 p0.Words))], .agg [.t (.v (.int .i64 p1.Length)), .t (.tree p1.Words.length 1 (Ru64 p1.Words))], .c (.t (.v (.func (.func 59) #[] #[])))] [] (.tup [.agg [.t (.v (.int .i64 r.1.Length)), .ref 0 1 0 r.1.Words.length], .c (.t (.v (.int .i64 r.2)))]) [(0, .row 33 false 1 r.1.Words.length (Ru64 r.1.Words))] from H (r0, r1) h
  clear h
  intro r h
  refine con_of tt_ok0 0 Try.func58 (by kernel_rfl) rfl (by kernel_rfl) (fun base X hk => AW.post ?_)
  unfold bitset_both_59 at h
  refine AW.seq ?_
  refine AW.reg tt_ok0 [2, 3, 4, 6] [0, 1, 2] [] ⟨[(6, .c (.ptr 2 2 0 0)), (4, .c (.ptr 1 2 0 0)), (3, .c (.ptr 0 2 0 0)), (2, .c (.t (.v (.func (.func 59) #[] #[]))))], [(2, .box 29 [.t (.v (.int .i64 0)), .t (.v (.slice none 0 0))]), (1, .box 29 [.t (.v (.int .i64 p1.Length)), .t (.tree p1.Words.length 1 (Ru64 p1.Words))]), (0, .box 29 [.t (.v (.int .i64 p0.Length)), .t (.tree p0.Words.length 1 (Ru64 p0.Words))])], 4⟩ [True, True, True, True] (by kernel_rfl) (by kernel_rfl) ⟨trivial, trivial, trivial, trivial, trivial⟩ ?_
  refine AW.thenQ_normal ?_
  refine AW.seq ?_
  refine AW.seq ?_
  refine AW.join (ι := Bool) (fun v => ⟨[(2, .c (.t (.v (.func (.func 59) #[] #[])))), (3, .c (.ptr 0 2 0 0)), (4, .c (.ptr 1 2 0 0)), (6, .c (.ptr 2 2 0 0)), (25, .c (.t (.v (.bool v))))], [(0, .box 29 [.t (.v (.int .i64 p0.Length)), .t (.tree p0.Words.length 1 (Ru64 p0.Words))]), (1, .box 29 [.t (.v (.int .i64 p1.Length)), .t (.tree p1.Words.length 1 (Ru64 p1.Words))]), (2, .box 29 [.t (.v (.int .i64 0)), .t (.v (.slice none 0 0))])], 3⟩) (fun v : Bool => bitset_both_59_k4 p0 p1 v = some r) (fun v h => ?_) ?_
  ·
    obtain ⟨x1, rfl⟩ : ∃ x, x = v := ⟨_, rfl⟩
    replace h : bitset_both_59_k4 p0 p1 x1 = some r := h
    unfold bitset_both_59_k4 at h
    show (_ : Exit → St → Prop) .normal ⟨[(2, .c (.t (.v (.func (.func 59) #[] #[])))), (3, .c (.ptr 0 2 0 0)), (4, .c (.ptr 1 2 0 0)), (6, .c (.ptr 2 2 0 0)), (25, .c (.t (.v (.bool x1))))], [(0, .box 29 [.t (.v (.int .i64 p0.Length)), .t (.tree p0.Words.length 1 (Ru64 p0.Words))]), (1, .box 29 [.t (.v (.int .i64 p1.Length)), .t (.tree p1.Words.length 1 (Ru64 p1.Words))]), (2, .box 29 [.t (.v (.int .i64 0)), .t (.v (.slice none 0 0))])], 3⟩
    refine AW.thenQ_normal ?_
    refine AW.cond (b := x1) (by kernel_rfl) (fun c2 => ?_) (fun c2 => ?_)
    · rw [if_pos c2] at h
      refine AW.seq ?_
      refine AW.reg tt_ok0 [6, 7] [2] [] ⟨[(7, .c (.t (.v (.int .i64 8)))), (6, .c (.ptr 2 2 0 0))], [(2, .box 29 [.t (.v (.int .i64 0)), .t (.v (.slice none 0 0))])], 6⟩ [True, True, True] (by kernel_rfl) (by kernel_rfl) ⟨trivial, trivial, trivial, trivial⟩ ?_
      refine AW.thenQ_normal ?_
      refine AW.ret ?_
      refine AW.thenQ_ret ?_
      obtain rfl := some_inj h
      exact ⟨_, conv_adoptB (id := 2) (ty0 := 29) (cs := [.t (.v (.int .i64 0)), .t (.v (.slice none 0 0))]) 1 (ty := 33) (sz := 1) (n := ([] : List Int).length) (f := Ru64 ([] : List Int)) (by kernel_rfl) (by kernel_rfl) rfl, .inr rfl, OutOk.mk [(0, 6)] 1 (out0 := .tup [.agg [.t (.v (.int .i64 0)), .ref 6 1 0 (([] : List Int).length)], .c (.t (.v (.int .i64 8)))]) (ps := [True, True]) (by kernel_rfl) ⟨trivial, trivial, trivial⟩ (by kernel_rfl) (by kernel_rfl)⟩
    · rw [if_neg (by rw [c2]; exact Bool.false_ne_true)] at h
      refine AW.skip ?_
      refine AW.thenQ_normal ?_
      refine AW.seq ?_
      obtain ⟨g3, h⟩ := ifc h
      obtain ⟨g4, h⟩ := ifc h
      refine AW.regD tt_ok0 mo0 [0, 1, 0, 4, 12, 28, 63, 0, 255] [[], [], [], [], [], [8], [], [10], [10]] [2, 3, 4, 6, 8] [0, 1, 2, 8, 10] [{}, {}, {}, {}, {}, { h := { row := some ((List.replicate (((p0.Words.length : Nat) : Int).toNat) (0 : Int)).length, Ru64 (List.replicate (((p0.Words.length : Nat) : Int).toNat) (0 : Int))) } }] ⟨[(8, .c (.ptr 10 2 0 0)), (2, .c (.t (.v (.func (.func 59) #[] #[])))), (3, .c (.ptr 0 2 0 0)), (4, .c (.ptr 1 2 0 0)), (6, .c (.ptr 2 2 0 0))], [(10, .box 29 [.t (.v (.int .i64 p0.Length)), .ref 8 1 0 ((List.replicate (((p0.Words.length : Nat) : Int).toNat) (0 : Int)).length)]), (8, .row 33 false 1 (List.replicate (((p0.Words.length : Nat) : Int).toNat) (0 : Int)).length (Ru64 (List.replicate (((p0.Words.length : Nat) : Int).toNat) (0 : Int)))), (0, .box 29 [.t (.v (.int .i64 p0.Length)), .t (.tree p0.Words.length 1 (Ru64 p0.Words))]), (1, .box 29 [.t (.v (.int .i64 p1.Length)), .t (.tree p1.Words.length 1 (Ru64 p1.Words))]), (2, .box 29 [.t (.v (.int .i64 0)), .t (.v (.slice none 0 0))])], 12⟩ [True, True, True, True, True, ((0 ≤ ((p0.Words.length : Nat) : Int)) ∧ (((p0.Words.length : Nat) : Int) ≤ ((p0.Words.length : Nat) : Int)) ∧ (((p0.Words.length : Nat) : Int) ≤ 1099511627776) ∧ ((8 : Nat) ≤ 128)) ∧ (((p0.Words.length : Nat) : Int).toNat = (List.replicate (((p0.Words.length : Nat) : Int).toNat) (0 : Int)).length ∧ ∀ i, i < (List.replicate (((p0.Words.length : Nat) : Int).toNat) (0 : Int)).length → ∀ j, j < 1 → TLe ((fun _ j => .v (([.int .u64 0] : List Value).getD j undef)) i j) (Ru64 (List.replicate (((p0.Words.length : Nat) : Int).toNat) (0 : Int)) i j)), True, True, True] (by kernel_rfl) (by kernel_rfl) ⟨trivial, trivial, trivial, trivial, trivial, ⟨⟨g3, Int.le_refl _, g4, (by decide)⟩, mk_row (fun j hj => match j, hj with | 0, _ => TLe.refl _ | _ + 1, h => absurd h (by omega))⟩, trivial, trivial, trivial, trivial⟩ ?_
      refine AW.thenQ_normal ?_
      refine AW.seq ?_
      refine AW.seq ?_
      refine AW.reg tt_ok0 [2, 4, 6, 8, 35, 36, 37] [1, 2, 8, 10] [] ⟨[(37, .c (.t (.v (.int .i64 0)))), (36, .c (.t (.v (.int .i64 ((p0.Words.length : Nat) : Int))))), (35, .c (.t (.tree p0.Words.length 1 (Ru64 p0.Words)))), (8, .c (.ptr 10 2 0 0)), (2, .c (.t (.v (.func (.func 59) #[] #[])))), (4, .c (.ptr 1 2 0 0)), (6, .c (.ptr 2 2 0 0))], [(10, .box 29 [.t (.v (.int .i64 p0.Length)), .ref 8 1 0 ((List.replicate (((p0.Words.length : Nat) : Int).toNat) (0 : Int)).length)]), (8, .row 33 false 1 (List.replicate (((p0.Words.length : Nat) : Int).toNat) (0 : Int)).length (Ru64 (List.replicate (((p0.Words.length : Nat) : Int).toNat) (0 : Int)))), (1, .box 29 [.t (.v (.int .i64 p1.Length)), .t (.tree p1.Words.length 1 (Ru64 p1.Words))]), (2, .box 29 [.t (.v (.int .i64 0)), .t (.v (.slice none 0 0))])], 16⟩ [True, True, True, True] (by kernel_rfl) (by kernel_rfl) ⟨trivial, trivial, trivial, trivial, trivial⟩ ?_
      refine AW.thenQ_normal ?_
      refine AW.block ?_
      obtain ⟨x17, l18, h⟩ := bnd_some h
      refine AW.pre (S' := ((fun v => ⟨[(2, .c (.t (.v (.func (.func 59) #[] #[])))), (4, .c (.ptr 0 2 0 0)), (6, .c (.ptr 1 2 0 0)), (8, .c (.ptr 2 2 0 0)), (35, .c (.t (.tree p0.Words.length 1 (Ru64 p0.Words)))), (36, .c (.t (.v (.int .i64 ((p0.Words.length : Nat) : Int))))), (37, .c (.t (.v (.int .i64 v.1))))], [(0, .box 29 [.t (.v (.int .i64 p1.Length)), .t (.tree p1.Words.length 1 (Ru64 p1.Words))]), (1, .box 29 [.t (.v (.int .i64 0)), .t (.v (.slice none 0 0))]), (2, .box 29 [.t (.v (.int .i64 p0.Length)), .ref 3 1 0 v.2.length]), (3, .row 33 false 1 v.2.length (Ru64 v.2))], 4⟩) : (Int × (List Int)) → St) (0, (List.replicate (((p0.Words.length : Nat) : Int).toNat) (0 : Int)))) (conv_ren [(0, 1), (1, 2), (2, 10), (3, 8)] [2, 4, 6, 8, 35, 36, 37] (n := 4) (by kernel_rfl) (by kernel_rfl)) ?_
      refine AW.loop2 (step := (fun v : Int × (List Int) => bitset_both_59_l6 p0 p1 v.1 v.2)) (s0 := (0, (List.replicate (((p0.Words.length : Nat) : Int).toNat) (0 : Int)))) (t := x17) (fun v => ⟨[(2, .c (.t (.v (.func (.func 59) #[] #[])))), (4, .c (.ptr 0 2 0 0)), (6, .c (.ptr 1 2 0 0)), (8, .c (.ptr 2 2 0 0)), (35, .c (.t (.tree p0.Words.length 1 (Ru64 p0.Words)))), (36, .c (.t (.v (.int .i64 ((p0.Words.length : Nat) : Int))))), (37, .c (.t (.v (.int .i64 v.1))))], [(0, .box 29 [.t (.v (.int .i64 p1.Length)), .t (.tree p1.Words.length 1 (Ru64 p1.Words))]), (1, .box 29 [.t (.v (.int .i64 0)), .t (.v (.slice none 0 0))]), (2, .box 29 [.t (.v (.int .i64 p0.Length)), .ref 3 1 0 v.2.length]), (3, .row 33 false 1 v.2.length (Ru64 v.2))], 4⟩) (fun t : List Int => (.exit 0, ⟨[(6, .c (.ptr 0 2 0 0)), (8, .c (.ptr 1 2 0 0))], [(0, .box 29 [.t (.v (.int .i64 0)), .t (.v (.slice none 0 0))]), (1, .box 29 [.t (.v (.int .i64 p0.Length)), .ref 2 1 0 t.length]), (2, .row 33 false 1 t.length (Ru64 t))], 3⟩)) l18 (fun _ => trivial) ?_ ?_
      ·
        intro v o h
        obtain ⟨x7, x8⟩ := v
        replace h : bitset_both_59_l6 p0 p1 x7 x8 = some o := h
        unfold bitset_both_59_l6 at h
        show AW _ ⟨[(2, .c (.t (.v (.func (.func 59) #[] #[])))), (4, .c (.ptr 0 2 0 0)), (6, .c (.ptr 1 2 0 0)), (8, .c (.ptr 2 2 0 0)), (35, .c (.t (.tree p0.Words.length 1 (Ru64 p0.Words)))), (36, .c (.t (.v (.int .i64 ((p0.Words.length : Nat) : Int))))), (37, .c (.t (.v (.int .i64 x7))))], [(0, .box 29 [.t (.v (.int .i64 p1.Length)), .t (.tree p1.Words.length 1 (Ru64 p1.Words))]), (1, .box 29 [.t (.v (.int .i64 0)), .t (.v (.slice none 0 0))]), (2, .box 29 [.t (.v (.int .i64 p0.Length)), .ref 3 1 0 x8.length]), (3, .row 33 false 1 x8.length (Ru64 x8))], 4⟩ _ _
        refine AW.seq ?_
        refine AW.reg tt_ok0 [2, 4, 6, 8, 35, 36, 37, 38] [0, 1, 2, 3] [] ⟨[(38, .c (.t (.v (.bool (decide (x7 < ((p0.Words.length : Nat) : Int))))))), (2, .c (.t (.v (.func (.func 59) #[] #[])))), (4, .c (.ptr 0 2 0 0)), (6, .c (.ptr 1 2 0 0)), (8, .c (.ptr 2 2 0 0)), (35, .c (.t (.tree p0.Words.length 1 (Ru64 p0.Words)))), (36, .c (.t (.v (.int .i64 ((p0.Words.length : Nat) : Int))))), (37, .c (.t (.v (.int .i64 x7))))], [(0, .box 29 [.t (.v (.int .i64 p1.Length)), .t (.tree p1.Words.length 1 (Ru64 p1.Words))]), (1, .box 29 [.t (.v (.int .i64 0)), .t (.v (.slice none 0 0))]), (2, .box 29 [.t (.v (.int .i64 p0.Length)), .ref 3 1 0 x8.length]), (3, .row 33 false 1 x8.length (Ru64 x8))], 5⟩ [True] (by kernel_rfl) (by kernel_rfl) ⟨trivial, trivial⟩ ?_
        refine AW.thenQ_normal ?_
        refine AW.seq ?_
        refine AW.cond (b := decide (x7 < ((p0.Words.length : Nat) : Int))) (by kernel_rfl) (fun c10 => ?_) (fun c10 => ?_)
        · rw [if_pos c10] at h
          refine AW.skip ?_
          refine AW.thenQ_normal ?_
          refine AW.seq ?_
          refine AW.block ?_
          refine AW.seq ?_
          obtain ⟨g11, h⟩ := ifc h
          obtain ⟨g12, h⟩ := ifc h
          refine AW.reg tt_ok0 [2, 4, 6, 8, 9, 10, 35, 36, 37] [0, 1, 2, 3] [] ⟨[(10, .c (.t (.v (.int .u64 (p0.Words.getD x7.toNat 0))))), (9, .c (.t (.v (.int .i64 x7)))), (2, .c (.t (.v (.func (.func 59) #[] #[])))), (4, .c (.ptr 0 2 0 0)), (6, .c (.ptr 1 2 0 0)), (8, .c (.ptr 2 2 0 0)), (35, .c (.t (.tree p0.Words.length 1 (Ru64 p0.Words)))), (36, .c (.t (.v (.int .i64 ((p0.Words.length : Nat) : Int))))), (37, .c (.t (.v (.int .i64 x7))))], [(0, .box 29 [.t (.v (.int .i64 p1.Length)), .t (.tree p1.Words.length 1 (Ru64 p1.Words))]), (1, .box 29 [.t (.v (.int .i64 0)), .t (.v (.slice none 0 0))]), (2, .box 29 [.t (.v (.int .i64 p0.Length)), .ref 3 1 0 x8.length]), (3, .row 33 false 1 x8.length (Ru64 x8))], 10⟩ [True, (0 ≤ x7) ∧ (x7 < ((p0.Words.length : Nat) : Int)), True, True, True] (by kernel_rfl) (by kernel_rfl) ⟨trivial, ⟨g11, g12⟩, trivial, trivial, trivial, trivial⟩ ?_
          refine AW.thenQ_normal ?_
          obtain ⟨g13, h⟩ := ifc h
          obtain ⟨y14, e15, h⟩ := bnd_some h
          obtain ⟨g16, h⟩ := ifc h
          refine AW.regD tt_ok0 mo0 [0, 1, 0, 0, 0, 0, 32, 0, 224, 480, 1016, 2047, 4095] [[], [], [], [], [], [], [], [], [], [], [], [], [3]] [2, 4, 6, 8, 35, 36, 37] [0, 1, 2, 3] [{}, {}, {}, {}, {}, {}, {}, {}, {}, {}, { call := some { ids := [], frz := [], flat := true, cnt := 0, args := [.c (.t (.v (.int .u64 (p0.Words.getD x7.toNat 0)))), .c (.t (.v (.int .u64 (p1.Words.getD x7.toNat 0))))], out := .c (.t (.v (.int .u64 y14))), outb := [] } }, {}, { h := { row := some (x8.length, Ru64 (x8.set (0 + x7.toNat) y14)) } }] ⟨[(2, .c (.t (.v (.func (.func 59) #[] #[])))), (4, .c (.ptr 0 2 0 0)), (6, .c (.ptr 1 2 0 0)), (8, .c (.ptr 2 2 0 0)), (35, .c (.t (.tree p0.Words.length 1 (Ru64 p0.Words)))), (36, .c (.t (.v (.int .i64 ((p0.Words.length : Nat) : Int))))), (37, .c (.t (.v (.int .i64 x7))))], [(3, .row 33 false 1 x8.length (Ru64 (x8.set (0 + x7.toNat) y14))), (0, .box 29 [.t (.v (.int .i64 p1.Length)), .t (.tree p1.Words.length 1 (Ru64 p1.Words))]), (1, .box 29 [.t (.v (.int .i64 0)), .t (.v (.slice none 0 0))]), (2, .box 29 [.t (.v (.int .i64 p0.Length)), .ref 3 1 0 x8.length])], 22⟩ [True, True, True, True, True, True, True, True, (0 ≤ x7) ∧ (x7 < ((p1.Words.length : Nat) : Int)), True, ((True) ∧ (True) ∧ (True)) ∧ (All2 ArgLe [.c (.t (.v (.int .u64 (p0.Words.getD x7.toNat 0)))), .c (.t (.v (.int .u64 (p1.Words.getD x7.toNat 0))))] [.c (.t (.v (.int .u64 (p0.Words.getD x7.toNat 0)))), .c (.t (.v (.int .u64 (p1.Words.getD x7.toNat 0))))]) ∧ ((true = true → flatB [])) ∧ (Con Try.prog 59 [.c (.t (.v (.int .u64 (p0.Words.getD x7.toNat 0)))), .c (.t (.v (.int .u64 (p1.Words.getD x7.toNat 0))))] [] (.c (.t (.v (.int .u64 y14)))) []), (0 ≤ x7) ∧ (x7 < ((x8.length : Nat) : Int)), ((0 + x7.toNat) < x8.length) ∧ (x8.length = x8.length ∧ ∀ i, i < x8.length → ∀ j, j < 1 → TLe (updRow (Ru64 x8) (0 + x7.toNat) 0 [.v (.int .u64 y14)] i j) (Ru64 (x8.set (0 + x7.toNat) y14) i j))] (by kernel_rfl) (by kernel_rfl) ⟨trivial, trivial, trivial, trivial, trivial, trivial, trivial, trivial, ⟨g11, g13⟩, trivial, ⟨⟨trivial, trivial, trivial⟩, ⟨ArgLe.refl _, ArgLe.refl _, trivial⟩, (fun _ => trivial), (bitset_And_f1_con (p0.Words.getD x7.toNat 0) (p1.Words.getD x7.toNat 0) y14 e15)⟩, ⟨g11, g16⟩, ⟨(by have h1 : 0 ≤ x7 := g11; have h2 : x7 < ((x8.length : Nat) : Int) := g16; omega), set_rowN rfl (by have h1 : 0 ≤ x7 := g11; have h2 : x7 < ((x8.length : Nat) : Int) := g16; omega) (fun j hj => match j, hj with | 0, _ => TLe.refl _ | _ + 1, h => absurd h (by omega))⟩, trivial⟩ ?_
          refine AW.inBlock_normal ?_
          refine AW.thenQ_normal ?_
          refine AW.reg tt_ok0 [2, 4, 6, 8, 35, 36, 37] [0, 1, 2, 3] [] ⟨[(37, .c (.t (.v (.int .i64 (IntKind.i64.wrap (x7 + 1)))))), (2, .c (.t (.v (.func (.func 59) #[] #[])))), (4, .c (.ptr 0 2 0 0)), (6, .c (.ptr 1 2 0 0)), (8, .c (.ptr 2 2 0 0)), (35, .c (.t (.tree p0.Words.length 1 (Ru64 p0.Words)))), (36, .c (.t (.v (.int .i64 ((p0.Words.length : Nat) : Int)))))], [(3, .row 33 false 1 x8.length (Ru64 (x8.set (0 + x7.toNat) y14))), (0, .box 29 [.t (.v (.int .i64 p1.Length)), .t (.tree p1.Words.length 1 (Ru64 p1.Words))]), (1, .box 29 [.t (.v (.int .i64 0)), .t (.v (.slice none 0 0))]), (2, .box 29 [.t (.v (.int .i64 p0.Length)), .ref 3 1 0 x8.length])], 24⟩ [True, True] (by kernel_rfl) (by kernel_rfl) ⟨trivial, trivial, trivial⟩ ?_
          obtain rfl := some_inj h
          refine loopQ_next (Conv.trans (conv_len (S' := ⟨[(37, .c (.t (.v (.int .i64 (IntKind.i64.wrap (x7 + 1)))))), (2, .c (.t (.v (.func (.func 59) #[] #[])))), (4, .c (.ptr 0 2 0 0)), (6, .c (.ptr 1 2 0 0)), (8, .c (.ptr 2 2 0 0)), (35, .c (.t (.tree p0.Words.length 1 (Ru64 p0.Words)))), (36, .c (.t (.v (.int .i64 ((p0.Words.length : Nat) : Int)))))], [(3, .row 33 false 1 (x8.set (0 + x7.toNat) y14).length (Ru64 (x8.set (0 + x7.toNat) y14))), (0, .box 29 [.t (.v (.int .i64 p1.Length)), .t (.tree p1.Words.length 1 (Ru64 p1.Words))]), (1, .box 29 [.t (.v (.int .i64 0)), .t (.v (.slice none 0 0))]), (2, .box 29 [.t (.v (.int .i64 p0.Length)), .ref 3 1 0 ((x8.set (0 + x7.toNat) y14).length)])], 24⟩) (by simp only [List.length_set])) (conv_ren [(0, 0), (1, 1), (2, 2), (3, 3)] [2, 4, 6, 8, 35, 36, 37] (n := 4) (by kernel_rfl) (by kernel_rfl)))
        · rw [if_neg (by rw [c10]; exact Bool.false_ne_true)] at h
          refine AW.exit ?_
          refine AW.thenQ_exit ?_
          obtain rfl := some_inj h
          refine loopQ_out rfl (conv_ren [(0, 1), (1, 2), (2, 3)] [6, 8] (n := 3) (by kernel_rfl) (by kernel_rfl))
      ·
        show (_ : Exit → St → Prop) (.exit 0) ⟨[(6, .c (.ptr 0 2 0 0)), (8, .c (.ptr 1 2 0 0))], [(0, .box 29 [.t (.v (.int .i64 0)), .t (.v (.slice none 0 0))]), (1, .box 29 [.t (.v (.int .i64 p0.Length)), .ref 2 1 0 x17.length]), (2, .row 33 false 1 x17.length (Ru64 x17))], 3⟩
        refine AW.inBlock_hit ?_
        refine AW.thenQ_normal ?_
        refine AW.seq ?_
        refine AW.reg tt_ok0 [6, 7] [0, 2] [] ⟨[(7, .c (.t (.v (.int .i64 0)))), (6, .c (.ptr 0 2 0 0))], [(0, .box 29 [.t (.v (.int .i64 p0.Length)), .ref 2 1 0 x17.length]), (2, .row 33 false 1 x17.length (Ru64 x17))], 6⟩ [True, True, True] (by kernel_rfl) (by kernel_rfl) ⟨trivial, trivial, trivial, trivial⟩ ?_
        refine AW.thenQ_normal ?_
        refine AW.ret ?_
        obtain rfl := some_inj h
        exact ⟨_, Conv.refl _ _, .inr rfl, OutOk.mk [(0, 2)] 1 (out0 := .tup [.agg [.t (.v (.int .i64 p0.Length)), .ref 2 1 0 x17.length], .c (.t (.v (.int .i64 0)))]) (ps := [True, True]) (by kernel_rfl) ⟨trivial, trivial, trivial⟩ (by kernel_rfl) (by kernel_rfl)⟩
  ·
    obtain ⟨y19, e20, h⟩ := bnd_some h
    by_cases c21 : (!y19) = true
    · rw [if_pos c21] at h
      refine AW.reg tt_ok0 [2, 3, 4, 6, 25] [0, 1, 2] [{}, { call := some { ids := [], frz := [], flat := true, cnt := 0, args := [.agg [.t (.v (.int .i64 p0.Length)), .t (.tree p0.Words.length 1 (Ru64 p0.Words))]], out := .c (.t (.v (.bool y19))), outb := [] } }, { h := { b := some true } }] ⟨[(25, .c (.t (.v (.bool true)))), (6, .c (.ptr 2 2 0 0)), (4, .c (.ptr 1 2 0 0)), (3, .c (.ptr 0 2 0 0)), (2, .c (.t (.v (.func (.func 59) #[] #[]))))], [(2, .box 29 [.t (.v (.int .i64 0)), .t (.v (.slice none 0 0))]), (1, .box 29 [.t (.v (.int .i64 p1.Length)), .t (.tree p1.Words.length 1 (Ru64 p1.Words))]), (0, .box 29 [.t (.v (.int .i64 p0.Length)), .t (.tree p0.Words.length 1 (Ru64 p0.Words))])], 18⟩ [True, (((True) ∧ (True) ∧ (True)) ∧ (True)) ∧ (All2 ArgLe [.agg [.t (.v (.int .i64 p0.Length)), .t (.tree p0.Words.length 1 (Ru64 p0.Words))]] [.agg [.t (.v (.int .i64 p0.Length)), .t (.tree p0.Words.length 1 (Ru64 p0.Words))]]) ∧ ((true = true → flatB [])) ∧ (Con Try.prog 49 [.agg [.t (.v (.int .i64 p0.Length)), .t (.tree p0.Words.length 1 (Ru64 p0.Words))]] [] (.c (.t (.v (.bool y19)))) []), (!y19) = true, True, True, True, True, True, True, True, True, True, True, True, True] (by kernel_rfl) (by kernel_rfl) ⟨trivial, ⟨⟨⟨trivial, trivial, trivial⟩, trivial⟩, ⟨ArgLe.refl _, trivial⟩, (fun _ => trivial), (bitset_Valid_con p0 y19 e20)⟩, c21, trivial, trivial, trivial, trivial, trivial, trivial, trivial, trivial, trivial, trivial, trivial, trivial, trivial⟩ ?_
      exact joinQ_leaf (true) h (conv_ren [(0, 0), (1, 1), (2, 2)] [2, 3, 4, 6, 25] (n := 3) (by kernel_rfl) (by kernel_rfl))
    · rw [if_neg c21] at h
      obtain ⟨y22, e23, h⟩ := bnd_some h
      by_cases c24 : (!y22) = true
      · rw [if_pos c24] at h
        refine AW.reg tt_ok0 [2, 3, 4, 6, 25] [0, 1, 2] [{}, { call := some { ids := [], frz := [], flat := true, cnt := 0, args := [.agg [.t (.v (.int .i64 p0.Length)), .t (.tree p0.Words.length 1 (Ru64 p0.Words))]], out := .c (.t (.v (.bool y19))), outb := [] } }, { h := { b := some false } }, {}, {}, { call := some { ids := [], frz := [], flat := true, cnt := 0, args := [.agg [.t (.v (.int .i64 p1.Length)), .t (.tree p1.Words.length 1 (Ru64 p1.Words))]], out := .c (.t (.v (.bool y22))), outb := [] } }, { h := { b := some true } }] ⟨[(25, .c (.t (.v (.bool true)))), (6, .c (.ptr 2 2 0 0)), (4, .c (.ptr 1 2 0 0)), (3, .c (.ptr 0 2 0 0)), (2, .c (.t (.v (.func (.func 59) #[] #[]))))], [(2, .box 29 [.t (.v (.int .i64 0)), .t (.v (.slice none 0 0))]), (1, .box 29 [.t (.v (.int .i64 p1.Length)), .t (.tree p1.Words.length 1 (Ru64 p1.Words))]), (0, .box 29 [.t (.v (.int .i64 p0.Length)), .t (.tree p0.Words.length 1 (Ru64 p0.Words))])], 17⟩ [True, (((True) ∧ (True) ∧ (True)) ∧ (True)) ∧ (All2 ArgLe [.agg [.t (.v (.int .i64 p0.Length)), .t (.tree p0.Words.length 1 (Ru64 p0.Words))]] [.agg [.t (.v (.int .i64 p0.Length)), .t (.tree p0.Words.length 1 (Ru64 p0.Words))]]) ∧ ((true = true → flatB [])) ∧ (Con Try.prog 49 [.agg [.t (.v (.int .i64 p0.Length)), .t (.tree p0.Words.length 1 (Ru64 p0.Words))]] [] (.c (.t (.v (.bool y19)))) []), (!y19) = false, True, True, (((True) ∧ (True) ∧ (True)) ∧ (True)) ∧ (All2 ArgLe [.agg [.t (.v (.int .i64 p1.Length)), .t (.tree p1.Words.length 1 (Ru64 p1.Words))]] [.agg [.t (.v (.int .i64 p1.Length)), .t (.tree p1.Words.length 1 (Ru64 p1.Words))]]) ∧ ((true = true → flatB [])) ∧ (Con Try.prog 49 [.agg [.t (.v (.int .i64 p1.Length)), .t (.tree p1.Words.length 1 (Ru64 p1.Words))]] [] (.c (.t (.v (.bool y22)))) []), (!y22) = true, True, True, True, True, True, True, True, True] (by kernel_rfl) (by kernel_rfl) ⟨trivial, ⟨⟨⟨trivial, trivial, trivial⟩, trivial⟩, ⟨ArgLe.refl _, trivial⟩, (fun _ => trivial), (bitset_Valid_con p0 y19 e20)⟩, (off_false c21), trivial, trivial, ⟨⟨⟨trivial, trivial, trivial⟩, trivial⟩, ⟨ArgLe.refl _, trivial⟩, (fun _ => trivial), (bitset_Valid_con p1 y22 e23)⟩, c24, trivial, trivial, trivial, trivial, trivial, trivial, trivial, trivial, trivial⟩ ?_
        exact joinQ_leaf (true) h (conv_ren [(0, 0), (1, 1), (2, 2)] [2, 3, 4, 6, 25] (n := 3) (by kernel_rfl) (by kernel_rfl))
      · rw [if_neg c24] at h
        refine AW.reg tt_ok0 [2, 3, 4, 6, 25] [0, 1, 2] [{}, { call := some { ids := [], frz := [], flat := true, cnt := 0, args := [.agg [.t (.v (.int .i64 p0.Length)), .t (.tree p0.Words.length 1 (Ru64 p0.Words))]], out := .c (.t (.v (.bool y19))), outb := [] } }, { h := { b := some false } }, {}, {}, { call := some { ids := [], frz := [], flat := true, cnt := 0, args := [.agg [.t (.v (.int .i64 p1.Length)), .t (.tree p1.Words.length 1 (Ru64 p1.Words))]], out := .c (.t (.v (.bool y22))), outb := [] } }, { h := { b := some false } }] ⟨[(25, .c (.t (.v (.bool (p0.Length != p1.Length))))), (6, .c (.ptr 2 2 0 0)), (4, .c (.ptr 1 2 0 0)), (3, .c (.ptr 0 2 0 0)), (2, .c (.t (.v (.func (.func 59) #[] #[]))))], [(2, .box 29 [.t (.v (.int .i64 0)), .t (.v (.slice none 0 0))]), (1, .box 29 [.t (.v (.int .i64 p1.Length)), .t (.tree p1.Words.length 1 (Ru64 p1.Words))]), (0, .box 29 [.t (.v (.int .i64 p0.Length)), .t (.tree p0.Words.length 1 (Ru64 p0.Words))])], 17⟩ [True, (((True) ∧ (True) ∧ (True)) ∧ (True)) ∧ (All2 ArgLe [.agg [.t (.v (.int .i64 p0.Length)), .t (.tree p0.Words.length 1 (Ru64 p0.Words))]] [.agg [.t (.v (.int .i64 p0.Length)), .t (.tree p0.Words.length 1 (Ru64 p0.Words))]]) ∧ ((true = true → flatB [])) ∧ (Con Try.prog 49 [.agg [.t (.v (.int .i64 p0.Length)), .t (.tree p0.Words.length 1 (Ru64 p0.Words))]] [] (.c (.t (.v (.bool y19)))) []), (!y19) = false, True, True, (((True) ∧ (True) ∧ (True)) ∧ (True)) ∧ (All2 ArgLe [.agg [.t (.v (.int .i64 p1.Length)), .t (.tree p1.Words.length 1 (Ru64 p1.Words))]] [.agg [.t (.v (.int .i64 p1.Length)), .t (.tree p1.Words.length 1 (Ru64 p1.Words))]]) ∧ ((true = true → flatB [])) ∧ (Con Try.prog 49 [.agg [.t (.v (.int .i64 p1.Length)), .t (.tree p1.Words.length 1 (Ru64 p1.Words))]] [] (.c (.t (.v (.bool y22)))) []), (!y22) = false, True, True, True, True, True, True, True, True] (by kernel_rfl) (by kernel_rfl) ⟨trivial, ⟨⟨⟨trivial, trivial, trivial⟩, trivial⟩, ⟨ArgLe.refl _, trivial⟩, (fun _ => trivial), (bitset_Valid_con p0 y19 e20)⟩, (off_false c21), trivial, trivial, ⟨⟨⟨trivial, trivial, trivial⟩, trivial⟩, ⟨ArgLe.refl _, trivial⟩, (fun _ => trivial), (bitset_Valid_con p1 y22 e23)⟩, (off_false c24), trivial, trivial, trivial, trivial, trivial, trivial, trivial, trivial, trivial⟩ ?_
        exact joinQ_leaf ((p0.Length != p1.Length)) h (conv_ren [(0, 0), (1, 1), (2, 2)] [2, 3, 4, 6, 25] (n := 3) (by kernel_rfl) (by kernel_rfl))
/-! recordlink/bitset.And -/
noncomputable def bitset_And (p0 : S_api_Bits) (p1 : S_api_Bits) : Option (S_api_Bits × Int) := bind2 (bitset_both_59 p0 p1) fun y1 y2 => (some (y1, y2))
set_option maxRecDepth 100000 in
set_option maxHeartbeats 10000000 in
theorem bitset_And_con (p0 : S_api_Bits) (p1 : S_api_Bits) (r0 : S_api_Bits) (r1 : Int) (h : bitset_And p0 p1 = some (r0, r1)) : Con Try.prog 29 [.agg [.t (.v (.int .i64 p0.Length)), .t (.tree p0.Words.length 1 (Ru64 p0.Words))], .agg [.t (.v (.int .i64 p1.Length)), .t (.tree p1.Words.length 1 (Ru64 p1.Words))]] [] (.tup [.agg [.t (.v (.int .i64 r0.Length)), .ref 0 1 0 r0.Words.length], .c (.t (.v (.int .i64 r1)))]) [(0, .row 33 false 1 r0.Words.length (Ru64 r0.Words))] := by
  suffices H : ∀ r, bitset_And p0 p1 = some r → Con Try.prog 29 [.agg [.t (.v (.int .i64 p0.Length)), .t (.tree p0.Words.length 1 (Ru64 p0.Words))], .agg [.t (.v (.int .i64 p1.Length)), .t (.tree p1.Words.length 1 (Ru64 p1.Words))]] [] (.tup [.agg [.t (.v (.int .i64 r.1.Length)), .ref 0 1 0 r.1.Words.length], .c (.t (.v (.int .i64 r.2)))]) [(0, .row 33 false 1 r.1.Words.length (Ru64 r.1.Words))] from H (r0, r1) h
  clear h
  intro r h
  refine con_of tt_ok0 0 Try.func29 (by kernel_rfl) rfl (by kernel_rfl) (fun base X hk => AW.post ?_)
  unfold bitset_And at h
  refine AW.seq ?_
  refine AW.reg tt_ok0 [2, 3, 4] [0, 1, 2] [] ⟨[(4, .c (.ptr 2 2 0 0)), (3, .c (.ptr 1 2 0 0)), (2, .c (.ptr 0 2 0 0))], [(2, .box 29 [.t (.v (.int .i64 0)), .t (.v (.slice none 0 0))]), (1, .box 29 [.t (.v (.int .i64 p1.Length)), .t (.tree p1.Words.length 1 (Ru64 p1.Words))]), (0, .box 29 [.t (.v (.int .i64 p0.Length)), .t (.tree p0.Words.length 1 (Ru64 p0.Words))])], 4⟩ [True, True, True, True] (by kernel_rfl) (by kernel_rfl) ⟨trivial, trivial, trivial, trivial, trivial⟩ ?_
  refine AW.thenQ_normal ?_
  refine AW.seq ?_
  obtain ⟨y1, y2, e3, h⟩ := bind2_some h
  refine AW.reg tt_ok0 [4, 5] [2, 6] [{}, {}, { call := some { ids := [], frz := [], flat := true, cnt := 1, args := [.agg [.t (.v (.int .i64 p0.Length)), .t (.tree p0.Words.length 1 (Ru64 p0.Words))], .agg [.t (.v (.int .i64 p1.Length)), .t (.tree p1.Words.length 1 (Ru64 p1.Words))], .c (.t (.v (.func (.func 59) #[] #[])))], out := .tup [.agg [.t (.v (.int .i64 y1.Length)), .ref 0 1 0 y1.Words.length], .c (.t (.v (.int .i64 y2)))], outb := [(0, .row 33 false 1 y1.Words.length (Ru64 y1.Words))] } }] ⟨[(5, .c (.t (.v (.int .i64 y2)))), (4, .c (.ptr 2 2 0 0))], [(2, .box 29 [.t (.v (.int .i64 y1.Length)), .ref 6 1 0 y1.Words.length]), (6, .row 33 false 1 y1.Words.length (Ru64 y1.Words))], 11⟩ [True, True, (((True) ∧ (True) ∧ (True)) ∧ ((True) ∧ (True) ∧ (True)) ∧ (True) ∧ (True)) ∧ (All2 ArgLe [.agg [.t (.v (.int .i64 p0.Length)), .t (.tree p0.Words.length 1 (Ru64 p0.Words))], .agg [.t (.v (.int .i64 p1.Length)), .t (.tree p1.Words.length 1 (Ru64 p1.Words))], .c (.t (.v (.func (.func 59) #[] #[])))] [.agg [.t (.v (.int .i64 p0.Length)), .t (.tree p0.Words.length 1 (Ru64 p0.Words))], .agg [.t (.v (.int .i64 p1.Length)), .t (.tree p1.Words.length 1 (Ru64 p1.Words))], .c (.t (.v (.func (.func 59) #[] #[])))]) ∧ ((true = true → flatB [(0, .row 33 false 1 y1.Words.length (Ru64 y1.Words))])) ∧ (Con Try.prog 58 [.agg [.t (.v (.int .i64 p0.Length)), .t (.tree p0.Words.length 1 (Ru64 p0.Words))], .agg [.t (.v (.int .i64 p1.Length)), .t (.tree p1.Words.length 1 (Ru64 p1.Words))], .c (.t (.v (.func (.func 59) #[] #[])))] [] (.tup [.agg [.t (.v (.int .i64 y1.Length)), .ref 0 1 0 y1.Words.length], .c (.t (.v (.int .i64 y2)))]) [(0, .row 33 false 1 y1.Words.length (Ru64 y1.Words))]), True, True, True, True] (by kernel_rfl) (by kernel_rfl) ⟨trivial, trivial, ⟨⟨⟨trivial, trivial, trivial⟩, ⟨trivial, trivial, trivial⟩, trivial, trivial⟩, ⟨ArgLe.refl _, ArgLe.refl _, ArgLe.refl _, trivial⟩, (fun _ => ⟨rowL_flat Vu64 _ _ _, trivial⟩), (bitset_both_59_con p0 p1 y1 y2 e3)⟩, trivial, trivial, trivial, trivial, trivial⟩ ?_
  refine AW.thenQ_normal ?_
  refine AW.ret ?_
  obtain rfl := some_inj h
  exact ⟨_, Conv.refl _ _, .inr rfl, OutOk.mk [(0, 6)] 1 (out0 := .tup [.agg [.t (.v (.int .i64 y1.Length)), .ref 6 1 0 y1.Words.length], .c (.t (.v (.int .i64 y2)))]) (ps := [True, True]) (by kernel_rfl) ⟨trivial, trivial, trivial⟩ (by kernel_rfl) (by kernel_rfl)⟩
/-! math/bits.OnesCount64 -/
noncomputable def bits_OnesCount64 (p0 : Int) : Option Int := (some (IntKind.u64.wrap ((iand .u64 (ishr .u64 p0 1) 6148914691236517205) + (iand .u64 p0 6148914691236517205)))).bind fun z1 => ((some (IntKind.u64.wrap ((iand .u64 (ishr .u64 z1 2) 3689348814741910323) + (iand .u64 z1 3689348814741910323)))).bind fun z3 => ((some (iand .u64 (IntKind.u64.wrap ((ishr .u64 z3 4) + z3)) 1085102592571150095)).bind fun z5 => ((some (IntKind.u64.wrap ((IntKind.u64.wrap (z5 + (ishr .u64 z5 8))) + (ishr .u64 (IntKind.u64.wrap (z5 + (ishr .u64 z5 8))) 16)))).bind fun z7 => ((some (iand .i64 (IntKind.i64.wrap (IntKind.u64.wrap (z7 + (ishr .u64 z7 32)))) 127)).bind fun z9 => (some z9)))))
set_option maxRecDepth 100000 in
set_option maxHeartbeats 10000000 in
theorem bits_OnesCount64_con (p0 : Int) (r0 : Int) (h : bits_OnesCount64 p0 = some r0) : Con Try.prog 55 [.c (.t (.v (.int .u64 p0)))] [] (.c (.t (.v (.int .i64 r0)))) [] := by
  revert h; generalize r0 = r; intro h
  refine con_of tt_ok0 0 Try.func55 (by kernel_rfl) rfl (by kernel_rfl) (fun base X hk => AW.post ?_)
  unfold bits_OnesCount64 at h
  refine AW.seq ?_
  refine AW.reg tt_ok0 [0] [] [] ⟨[(0, .c (.t (.v (.int .u64 p0))))], [], 1⟩ [True] (by kernel_rfl) (by kernel_rfl) ⟨trivial, trivial⟩ ?_
  refine AW.thenQ_normal ?_
  refine AW.seq ?_
  obtain ⟨z1, n2, h⟩ := bnd_some h
  replace n2 := some_inj n2
  refine AW.reg tt_ok0 [0] [] [] ⟨[(0, .c (.t (.v (.int .u64 (IntKind.u64.wrap ((iand .u64 (ishr .u64 p0 1) 6148914691236517205) + (iand .u64 p0 6148914691236517205)))))))], [], 8⟩ [True, 0 ≤ (1 : Int), True, True, True, True, True] (by kernel_rfl) (by kernel_rfl) ⟨trivial, (by decide), trivial, trivial, trivial, trivial, trivial, trivial⟩ ?_
  refine eq_Q (S' := ⟨[(0, .c (.t (.v (.int .u64 z1))))], [], 8⟩) (by rw [n2]) ?_
  refine AW.thenQ_normal ?_
  refine AW.seq ?_
  obtain ⟨z3, n4, h⟩ := bnd_some h
  replace n4 := some_inj n4
  refine AW.reg tt_ok0 [0] [] [] ⟨[(0, .c (.t (.v (.int .u64 (IntKind.u64.wrap ((iand .u64 (ishr .u64 z1 2) 3689348814741910323) + (iand .u64 z1 3689348814741910323)))))))], [], 15⟩ [True, 0 ≤ (2 : Int), True, True, True, True, True] (by kernel_rfl) (by kernel_rfl) ⟨trivial, (by decide), trivial, trivial, trivial, trivial, trivial, trivial⟩ ?_
  refine eq_Q (S' := ⟨[(0, .c (.t (.v (.int .u64 z3))))], [], 15⟩) (by rw [n4]) ?_
  refine AW.thenQ_normal ?_
  refine AW.seq ?_
  obtain ⟨z5, n6, h⟩ := bnd_some h
  replace n6 := some_inj n6
  refine AW.reg tt_ok0 [0] [] [] ⟨[(0, .c (.t (.v (.int .u64 (iand .u64 (IntKind.u64.wrap ((ishr .u64 z3 4) + z3)) 1085102592571150095)))))], [], 21⟩ [True, 0 ≤ (4 : Int), True, True, True, True] (by kernel_rfl) (by kernel_rfl) ⟨trivial, (by decide), trivial, trivial, trivial, trivial, trivial⟩ ?_
  refine eq_Q (S' := ⟨[(0, .c (.t (.v (.int .u64 z5))))], [], 21⟩) (by rw [n6]) ?_
  refine AW.thenQ_normal ?_
  refine AW.seq ?_
  refine AW.reg tt_ok0 [0] [] [] ⟨[(0, .c (.t (.v (.int .u64 (IntKind.u64.wrap (z5 + (ishr .u64 z5 8)))))))], [], 26⟩ [True, True, 0 ≤ (8 : Int), True, True] (by kernel_rfl) (by kernel_rfl) ⟨trivial, trivial, (by decide), trivial, trivial, trivial⟩ ?_
  refine AW.thenQ_normal ?_
  refine AW.seq ?_
  obtain ⟨z7, n8, h⟩ := bnd_some h
  replace n8 := some_inj n8
  refine AW.reg tt_ok0 [0] [] [] ⟨[(0, .c (.t (.v (.int .u64 (IntKind.u64.wrap ((IntKind.u64.wrap (z5 + (ishr .u64 z5 8))) + (ishr .u64 (IntKind.u64.wrap (z5 + (ishr .u64 z5 8))) 16)))))))], [], 31⟩ [True, True, 0 ≤ (16 : Int), True, True] (by kernel_rfl) (by kernel_rfl) ⟨trivial, trivial, (by decide), trivial, trivial, trivial⟩ ?_
  refine eq_Q (S' := ⟨[(0, .c (.t (.v (.int .u64 z7))))], [], 31⟩) (by rw [n8]) ?_
  refine AW.thenQ_normal ?_
  refine AW.seq ?_
  refine AW.reg tt_ok0 [0] [] [] ⟨[(0, .c (.t (.v (.int .u64 (IntKind.u64.wrap (z7 + (ishr .u64 z7 32)))))))], [], 36⟩ [True, True, 0 ≤ (32 : Int), True, True] (by kernel_rfl) (by kernel_rfl) ⟨trivial, trivial, (by decide), trivial, trivial, trivial⟩ ?_
  refine AW.thenQ_normal ?_
  refine AW.seq ?_
  obtain ⟨z9, n10, h⟩ := bnd_some h
  replace n10 := some_inj n10
  refine AW.reg tt_ok0 [2] [] [] ⟨[(2, .c (.t (.v (.int .i64 (iand .i64 (IntKind.i64.wrap (IntKind.u64.wrap (z7 + (ishr .u64 z7 32)))) 127)))))], [], 40⟩ [True, True, True, True] (by kernel_rfl) (by kernel_rfl) ⟨trivial, trivial, trivial, trivial, trivial⟩ ?_
  refine eq_Q (S' := ⟨[(2, .c (.t (.v (.int .i64 z9))))], [], 40⟩) (by rw [n10]) ?_
  refine AW.thenQ_normal ?_
  refine AW.ret ?_
  obtain rfl := some_inj h
  exact ⟨_, Conv.refl _ _, .inr rfl, OutOk.mk [] 0 (out0 := .c (.t (.v (.int .i64 z9)))) (ps := [True]) (by kernel_rfl) ⟨trivial, trivial⟩ (by kernel_rfl) (by kernel_rfl)⟩
/-! recordlink/bitset.Count -/
noncomputable def bitset_Count_l2 (p0 : S_api_Bits) (x6 : Int) (x7 : Int) : Option ((Int × Int) ⊕ Int) := if (decide (x7 < ((p0.Words.length : Nat) : Int))) = true then (if 0 ≤ x7 then (if x7 < ((p0.Words.length : Nat) : Int) then ((bits_OnesCount64 (p0.Words.getD x7.toNat 0)).bind fun y12 => (some (.inl (IntKind.i64.wrap (x6 + y12), IntKind.i64.wrap (x7 + 1))))) else none) else none) else (some (.inr x6))
noncomputable def bitset_Count (p0 : S_api_Bits) : Option Int := (bitset_Valid p0).bind fun y1 => (if (!y1) = true then (some 0) else ((loop (fun v : Int × Int => bitset_Count_l2 p0 v.1 v.2) (0, 0)).bind fun x14 => (some x14)))
set_option maxRecDepth 100000 in
set_option maxHeartbeats 10000000 in
theorem bitset_Count_con (p0 : S_api_Bits) (r0 : Int) (h : bitset_Count p0 = some r0) : Con Try.prog 22 [.agg [.t (.v (.int .i64 p0.Length)), .t (.tree p0.Words.length 1 (Ru64 p0.Words))]] [] (.c (.t (.v (.int .i64 r0)))) [] := by
  revert h; generalize r0 = r; intro h
  refine con_of tt_ok0 0 Try.func22 (by kernel_rfl) rfl (by kernel_rfl) (fun base X hk => AW.post ?_)
  unfold bitset_Count at h
  refine AW.seq ?_
  refine AW.reg tt_ok0 [1] [0] [] ⟨[(1, .c (.ptr 0 2 0 0))], [(0, .box 29 [.t (.v (.int .i64 p0.Length)), .t (.tree p0.Words.length 1 (Ru64 p0.Words))])], 2⟩ [True, True] (by kernel_rfl) (by kernel_rfl) ⟨trivial, trivial, trivial⟩ ?_
  refine AW.thenQ_normal ?_
  refine AW.seq ?_
  refine AW.seq ?_
  obtain ⟨y1, e2, h⟩ := bnd_some h
  refine AW.reg tt_ok0 [1, 8] [0] [{}, { call := some { ids := [], frz := [], flat := true, cnt := 0, args := [.agg [.t (.v (.int .i64 p0.Length)), .t (.tree p0.Words.length 1 (Ru64 p0.Words))]], out := .c (.t (.v (.bool y1))), outb := [] } }] ⟨[(8, .c (.t (.v (.bool (!y1))))), (1, .c (.ptr 0 2 0 0))], [(0, .box 29 [.t (.v (.int .i64 p0.Length)), .t (.tree p0.Words.length 1 (Ru64 p0.Words))])], 4⟩ [True, (((True) ∧ (True) ∧ (True)) ∧ (True)) ∧ (All2 ArgLe [.agg [.t (.v (.int .i64 p0.Length)), .t (.tree p0.Words.length 1 (Ru64 p0.Words))]] [.agg [.t (.v (.int .i64 p0.Length)), .t (.tree p0.Words.length 1 (Ru64 p0.Words))]]) ∧ ((true = true → flatB [])) ∧ (Con Try.prog 49 [.agg [.t (.v (.int .i64 p0.Length)), .t (.tree p0.Words.length 1 (Ru64 p0.Words))]] [] (.c (.t (.v (.bool y1)))) []), True] (by kernel_rfl) (by kernel_rfl) ⟨trivial, ⟨⟨⟨trivial, trivial, trivial⟩, trivial⟩, ⟨ArgLe.refl _, trivial⟩, (fun _ => trivial), (bitset_Valid_con p0 y1 e2)⟩, trivial, trivial⟩ ?_
  refine AW.thenQ_normal ?_
  refine AW.cond (b := !y1) (by kernel_rfl) (fun c3 => ?_) (fun c3 => ?_)
  · rw [if_pos c3] at h
    refine AW.seq ?_
    refine AW.reg tt_ok0 [2] [] [] ⟨[(2, .c (.t (.v (.int .i64 0))))], [], 5⟩ [True] (by kernel_rfl) (by kernel_rfl) ⟨trivial, trivial⟩ ?_
    refine AW.thenQ_normal ?_
    refine AW.ret ?_
    refine AW.thenQ_ret ?_
    obtain rfl := some_inj h
    exact ⟨_, Conv.refl _ _, .inr rfl, OutOk.mk [] 0 (out0 := .c (.t (.v (.int .i64 0)))) (ps := [True]) (by kernel_rfl) ⟨trivial, trivial⟩ (by kernel_rfl) (by kernel_rfl)⟩
  · rw [if_neg (by rw [c3]; exact Bool.false_ne_true)] at h
    refine AW.skip ?_
    refine AW.thenQ_normal ?_
    refine AW.seq ?_
    refine AW.reg tt_ok0 [1, 3] [0] [] ⟨[(3, .c (.t (.v (.int .i64 0)))), (1, .c (.ptr 0 2 0 0))], [(0, .box 29 [.t (.v (.int .i64 p0.Length)), .t (.tree p0.Words.length 1 (Ru64 p0.Words))])], 5⟩ [True] (by kernel_rfl) (by kernel_rfl) ⟨trivial, trivial⟩ ?_
    refine AW.thenQ_normal ?_
    refine AW.seq ?_
    refine AW.seq ?_
    refine AW.reg tt_ok0 [3, 10, 11, 12] [] [] ⟨[(12, .c (.t (.v (.int .i64 0)))), (11, .c (.t (.v (.int .i64 ((p0.Words.length : Nat) : Int))))), (10, .c (.t (.tree p0.Words.length 1 (Ru64 p0.Words)))), (3, .c (.t (.v (.int .i64 0))))], [], 9⟩ [True, True, True, True] (by kernel_rfl) (by kernel_rfl) ⟨trivial, trivial, trivial, trivial, trivial⟩ ?_
    refine AW.thenQ_normal ?_
    refine AW.block ?_
    obtain ⟨x14, l15, h⟩ := bnd_some h
    refine AW.pre (S' := ((fun v => ⟨[(3, .c (.t (.v (.int .i64 v.1)))), (10, .c (.t (.tree p0.Words.length 1 (Ru64 p0.Words)))), (11, .c (.t (.v (.int .i64 ((p0.Words.length : Nat) : Int))))), (12, .c (.t (.v (.int .i64 v.2))))], [], 0⟩) : (Int × Int) → St) (0, 0)) (conv_ren [] [3, 10, 11, 12] (n := 0) (by kernel_rfl) (by kernel_rfl)) ?_
    refine AW.loop2 (step := (fun v : Int × Int => bitset_Count_l2 p0 v.1 v.2)) (s0 := (0, 0)) (t := x14) (fun v => ⟨[(3, .c (.t (.v (.int .i64 v.1)))), (10, .c (.t (.tree p0.Words.length 1 (Ru64 p0.Words)))), (11, .c (.t (.v (.int .i64 ((p0.Words.length : Nat) : Int))))), (12, .c (.t (.v (.int .i64 v.2))))], [], 0⟩) (fun t : Int => (.exit 0, ⟨[(3, .c (.t (.v (.int .i64 t))))], [], 0⟩)) l15 (fun _ => trivial) ?_ ?_
    ·
      intro v o h
      obtain ⟨x6, x7⟩ := v
      replace h : bitset_Count_l2 p0 x6 x7 = some o := h
      unfold bitset_Count_l2 at h
      show AW _ ⟨[(3, .c (.t (.v (.int .i64 x6)))), (10, .c (.t (.tree p0.Words.length 1 (Ru64 p0.Words)))), (11, .c (.t (.v (.int .i64 ((p0.Words.length : Nat) : Int))))), (12, .c (.t (.v (.int .i64 x7))))], [], 0⟩ _ _
      refine AW.seq ?_
      refine AW.reg tt_ok0 [3, 10, 11, 12, 13] [] [] ⟨[(13, .c (.t (.v (.bool (decide (x7 < ((p0.Words.length : Nat) : Int))))))), (3, .c (.t (.v (.int .i64 x6)))), (10, .c (.t (.tree p0.Words.length 1 (Ru64 p0.Words)))), (11, .c (.t (.v (.int .i64 ((p0.Words.length : Nat) : Int))))), (12, .c (.t (.v (.int .i64 x7))))], [], 1⟩ [True] (by kernel_rfl) (by kernel_rfl) ⟨trivial, trivial⟩ ?_
      refine AW.thenQ_normal ?_
      refine AW.seq ?_
      refine AW.cond (b := decide (x7 < ((p0.Words.length : Nat) : Int))) (by kernel_rfl) (fun c9 => ?_) (fun c9 => ?_)
      · rw [if_pos c9] at h
        refine AW.skip ?_
        refine AW.thenQ_normal ?_
        refine AW.seq ?_
        refine AW.block ?_
        refine AW.seq ?_
        obtain ⟨g10, h⟩ := ifc h
        obtain ⟨g11, h⟩ := ifc h
        refine AW.reg tt_ok0 [3, 5, 10, 11, 12] [] [] ⟨[(5, .c (.t (.v (.int .u64 (p0.Words.getD x7.toNat 0))))), (3, .c (.t (.v (.int .i64 x6)))), (10, .c (.t (.tree p0.Words.length 1 (Ru64 p0.Words)))), (11, .c (.t (.v (.int .i64 ((p0.Words.length : Nat) : Int))))), (12, .c (.t (.v (.int .i64 x7))))], [], 4⟩ [(0 ≤ x7) ∧ (x7 < ((p0.Words.length : Nat) : Int)), True, True] (by kernel_rfl) (by kernel_rfl) ⟨⟨g10, g11⟩, trivial, trivial, trivial⟩ ?_
        refine AW.thenQ_normal ?_
        obtain ⟨y12, e13, h⟩ := bnd_some h
        refine AW.reg tt_ok0 [3, 10, 11, 12] [] [{}, {}, { call := some { ids := [], frz := [], flat := true, cnt := 0, args := [.c (.t (.v (.int .u64 (p0.Words.getD x7.toNat 0))))], out := .c (.t (.v (.int .i64 y12))), outb := [] } }] ⟨[(3, .c (.t (.v (.int .i64 (IntKind.i64.wrap (x6 + y12)))))), (10, .c (.t (.tree p0.Words.length 1 (Ru64 p0.Words)))), (11, .c (.t (.v (.int .i64 ((p0.Words.length : Nat) : Int))))), (12, .c (.t (.v (.int .i64 x7))))], [], 8⟩ [True, True, ((True) ∧ (True)) ∧ (All2 ArgLe [.c (.t (.v (.int .u64 (p0.Words.getD x7.toNat 0))))] [.c (.t (.v (.int .u64 (p0.Words.getD x7.toNat 0))))]) ∧ ((true = true → flatB [])) ∧ (Con Try.prog 55 [.c (.t (.v (.int .u64 (p0.Words.getD x7.toNat 0))))] [] (.c (.t (.v (.int .i64 y12)))) []), True, True] (by kernel_rfl) (by kernel_rfl) ⟨trivial, trivial, ⟨⟨trivial, trivial⟩, ⟨ArgLe.refl _, trivial⟩, (fun _ => trivial), (bits_OnesCount64_con (p0.Words.getD x7.toNat 0) y12 e13)⟩, trivial, trivial, trivial⟩ ?_
        refine AW.inBlock_normal ?_
        refine AW.thenQ_normal ?_
        refine AW.reg tt_ok0 [3, 10, 11, 12] [] [] ⟨[(12, .c (.t (.v (.int .i64 (IntKind.i64.wrap (x7 + 1)))))), (3, .c (.t (.v (.int .i64 (IntKind.i64.wrap (x6 + y12)))))), (10, .c (.t (.tree p0.Words.length 1 (Ru64 p0.Words)))), (11, .c (.t (.v (.int .i64 ((p0.Words.length : Nat) : Int)))))], [], 10⟩ [True, True] (by kernel_rfl) (by kernel_rfl) ⟨trivial, trivial, trivial⟩ ?_
        obtain rfl := some_inj h
        refine loopQ_next (conv_ren [] [3, 10, 11, 12] (n := 0) (by kernel_rfl) (by kernel_rfl))
      · rw [if_neg (by rw [c9]; exact Bool.false_ne_true)] at h
        refine AW.exit ?_
        refine AW.thenQ_exit ?_
        obtain rfl := some_inj h
        refine loopQ_out rfl (conv_ren [] [3] (n := 0) (by kernel_rfl) (by kernel_rfl))
    ·
      show (_ : Exit → St → Prop) (.exit 0) ⟨[(3, .c (.t (.v (.int .i64 x14))))], [], 0⟩
      refine AW.inBlock_hit ?_
      refine AW.thenQ_normal ?_
      refine AW.seq ?_
      refine AW.reg tt_ok0 [2] [] [] ⟨[(2, .c (.t (.v (.int .i64 x14))))], [], 2⟩ [True, True] (by kernel_rfl) (by kernel_rfl) ⟨trivial, trivial, trivial⟩ ?_
      refine AW.thenQ_normal ?_
      refine AW.ret ?_
      obtain rfl := some_inj h
      exact ⟨_, Conv.refl _ _, .inr rfl, OutOk.mk [] 0 (out0 := .c (.t (.v (.int .i64 x14)))) (ps := [True]) (by kernel_rfl) ⟨trivial, trivial⟩ (by kernel_rfl) (by kernel_rfl)⟩
/-! recordlink/similarity.Dice -/
noncomputable def similarity_Dice (p0 : S_api_Bits) (p1 : S_api_Bits) : Option Int := bind2 (bitset_And p0 p1) fun y1 y2 => (if (y2 != 0) = true then (some (-1)) else ((bitset_Count p0).bind fun y5 => ((bitset_Count p1).bind fun y7 => (if ((IntKind.i64.wrap (y5 + y7)) == 0) = true then (some 0) else ((bitset_Count y1).bind fun y10 => (if (IntKind.i64.wrap (2 * (IntKind.i64.wrap (y5 + y7)))) ≠ 0 then ((some (IntKind.i64.wrap ((IntKind.i64.wrap ((IntKind.i64.wrap (4000 * y10)) + (IntKind.i64.wrap (y5 + y7)))).tdiv (IntKind.i64.wrap (2 * (IntKind.i64.wrap (y5 + y7))))))).bind fun z13 => (some z13)) else none))))))
set_option maxRecDepth 100000 in
set_option maxHeartbeats 10000000 in
theorem similarity_Dice_con (p0 : S_api_Bits) (p1 : S_api_Bits) (r0 : Int) (h : similarity_Dice p0 p1 = some r0) : Con Try.prog 17 [.agg [.t (.v (.int .i64 p0.Length)), .t (.tree p0.Words.length 1 (Ru64 p0.Words))], .agg [.t (.v (.int .i64 p1.Length)), .t (.tree p1.Words.length 1 (Ru64 p1.Words))]] [] (.c (.t (.v (.int .i64 r0)))) [] := by
  revert h; generalize r0 = r; intro h
  refine con_of tt_ok0 0 Try.func17 (by kernel_rfl) rfl (by kernel_rfl) (fun base X hk => AW.post ?_)
  unfold similarity_Dice at h
  refine AW.seq ?_
  refine AW.reg tt_ok0 [2, 3] [0, 1] [] ⟨[(3, .c (.ptr 1 2 0 0)), (2, .c (.ptr 0 2 0 0))], [(1, .box 29 [.t (.v (.int .i64 p1.Length)), .t (.tree p1.Words.length 1 (Ru64 p1.Words))]), (0, .box 29 [.t (.v (.int .i64 p0.Length)), .t (.tree p0.Words.length 1 (Ru64 p0.Words))])], 3⟩ [True, True, True] (by kernel_rfl) (by kernel_rfl) ⟨trivial, trivial, trivial, trivial⟩ ?_
  refine AW.thenQ_normal ?_
  refine AW.seq ?_
  obtain ⟨y1, y2, e3, h⟩ := bind2_some h
  refine AW.reg tt_ok0 [2, 3, 5, 6] [0, 1, 5, 9] [{}, {}, { call := some { ids := [], frz := [], flat := true, cnt := 1, args := [.agg [.t (.v (.int .i64 p0.Length)), .t (.tree p0.Words.length 1 (Ru64 p0.Words))], .agg [.t (.v (.int .i64 p1.Length)), .t (.tree p1.Words.length 1 (Ru64 p1.Words))]], out := .tup [.agg [.t (.v (.int .i64 y1.Length)), .ref 0 1 0 y1.Words.length], .c (.t (.v (.int .i64 y2)))], outb := [(0, .row 33 false 1 y1.Words.length (Ru64 y1.Words))] } }] ⟨[(6, .c (.t (.v (.int .i64 y2)))), (5, .c (.ptr 9 2 0 0)), (3, .c (.ptr 1 2 0 0)), (2, .c (.ptr 0 2 0 0))], [(9, .box 29 [.t (.v (.int .i64 y1.Length)), .ref 5 1 0 y1.Words.length]), (5, .row 33 false 1 y1.Words.length (Ru64 y1.Words)), (1, .box 29 [.t (.v (.int .i64 p1.Length)), .t (.tree p1.Words.length 1 (Ru64 p1.Words))]), (0, .box 29 [.t (.v (.int .i64 p0.Length)), .t (.tree p0.Words.length 1 (Ru64 p0.Words))])], 12⟩ [True, True, (((True) ∧ (True) ∧ (True)) ∧ ((True) ∧ (True) ∧ (True)) ∧ (True)) ∧ (All2 ArgLe [.agg [.t (.v (.int .i64 p0.Length)), .t (.tree p0.Words.length 1 (Ru64 p0.Words))], .agg [.t (.v (.int .i64 p1.Length)), .t (.tree p1.Words.length 1 (Ru64 p1.Words))]] [.agg [.t (.v (.int .i64 p0.Length)), .t (.tree p0.Words.length 1 (Ru64 p0.Words))], .agg [.t (.v (.int .i64 p1.Length)), .t (.tree p1.Words.length 1 (Ru64 p1.Words))]]) ∧ ((true = true → flatB [(0, .row 33 false 1 y1.Words.length (Ru64 y1.Words))])) ∧ (Con Try.prog 29 [.agg [.t (.v (.int .i64 p0.Length)), .t (.tree p0.Words.length 1 (Ru64 p0.Words))], .agg [.t (.v (.int .i64 p1.Length)), .t (.tree p1.Words.length 1 (Ru64 p1.Words))]] [] (.tup [.agg [.t (.v (.int .i64 y1.Length)), .ref 0 1 0 y1.Words.length], .c (.t (.v (.int .i64 y2)))]) [(0, .row 33 false 1 y1.Words.length (Ru64 y1.Words))]), True, True, True, True, True, True] (by kernel_rfl) (by kernel_rfl) ⟨trivial, trivial, ⟨⟨⟨trivial, trivial, trivial⟩, ⟨trivial, trivial, trivial⟩, trivial⟩, ⟨ArgLe.refl _, ArgLe.refl _, trivial⟩, (fun _ => ⟨rowL_flat Vu64 _ _ _, trivial⟩), (bitset_And_con p0 p1 y1 y2 e3)⟩, trivial, trivial, trivial, trivial, trivial, trivial, trivial⟩ ?_
  refine AW.thenQ_normal ?_
  refine AW.seq ?_
  refine AW.seq ?_
  refine AW.reg tt_ok0 [2, 3, 5, 15] [0, 1, 5, 9] [] ⟨[(15, .c (.t (.v (.bool (y2 != 0))))), (5, .c (.ptr 9 2 0 0)), (3, .c (.ptr 1 2 0 0)), (2, .c (.ptr 0 2 0 0))], [(9, .box 29 [.t (.v (.int .i64 y1.Length)), .ref 5 1 0 y1.Words.length]), (5, .row 33 false 1 y1.Words.length (Ru64 y1.Words)), (1, .box 29 [.t (.v (.int .i64 p1.Length)), .t (.tree p1.Words.length 1 (Ru64 p1.Words))]), (0, .box 29 [.t (.v (.int .i64 p0.Length)), .t (.tree p0.Words.length 1 (Ru64 p0.Words))])], 14⟩ [True, True] (by kernel_rfl) (by kernel_rfl) ⟨trivial, trivial, trivial⟩ ?_
  refine AW.thenQ_normal ?_
  refine AW.cond (b := (y2 != 0)) (by kernel_rfl) (fun c4 => ?_) (fun c4 => ?_)
  · rw [if_pos c4] at h
    refine AW.seq ?_
    refine AW.reg tt_ok0 [4] [] [] ⟨[(4, .c (.t (.v (.int .i64 (-1)))))], [], 15⟩ [True] (by kernel_rfl) (by kernel_rfl) ⟨trivial, trivial⟩ ?_
    refine AW.thenQ_normal ?_
    refine AW.ret ?_
    refine AW.thenQ_ret ?_
    obtain rfl := some_inj h
    exact ⟨_, Conv.refl _ _, .inr rfl, OutOk.mk [] 0 (out0 := .c (.t (.v (.int .i64 (-1))))) (ps := [True]) (by kernel_rfl) ⟨trivial, trivial⟩ (by kernel_rfl) (by kernel_rfl)⟩
  · rw [if_neg (by rw [c4]; exact Bool.false_ne_true)] at h
    refine AW.skip ?_
    refine AW.thenQ_normal ?_
    refine AW.seq ?_
    obtain ⟨y5, e6, h⟩ := bnd_some h
    obtain ⟨y7, e8, h⟩ := bnd_some h
    refine AW.regD tt_ok0 mo0 [0, 1, 0, 7, 15, 31] [[], [], [], [], [], []] [5, 7] [5, 9] [{}, { call := some { ids := [], frz := [], flat := true, cnt := 0, args := [.agg [.t (.v (.int .i64 p0.Length)), .t (.tree p0.Words.length 1 (Ru64 p0.Words))]], out := .c (.t (.v (.int .i64 y5))), outb := [] } }, {}, { call := some { ids := [], frz := [], flat := true, cnt := 0, args := [.agg [.t (.v (.int .i64 p1.Length)), .t (.tree p1.Words.length 1 (Ru64 p1.Words))]], out := .c (.t (.v (.int .i64 y7))), outb := [] } }] ⟨[(7, .c (.t (.v (.int .i64 (IntKind.i64.wrap (y5 + y7)))))), (5, .c (.ptr 9 2 0 0))], [(9, .box 29 [.t (.v (.int .i64 y1.Length)), .ref 5 1 0 y1.Words.length]), (5, .row 33 false 1 y1.Words.length (Ru64 y1.Words))], 18⟩ [True, (((True) ∧ (True) ∧ (True)) ∧ (True)) ∧ (All2 ArgLe [.agg [.t (.v (.int .i64 p0.Length)), .t (.tree p0.Words.length 1 (Ru64 p0.Words))]] [.agg [.t (.v (.int .i64 p0.Length)), .t (.tree p0.Words.length 1 (Ru64 p0.Words))]]) ∧ ((true = true → flatB [])) ∧ (Con Try.prog 22 [.agg [.t (.v (.int .i64 p0.Length)), .t (.tree p0.Words.length 1 (Ru64 p0.Words))]] [] (.c (.t (.v (.int .i64 y5)))) []), True, (((True) ∧ (True) ∧ (True)) ∧ (True)) ∧ (All2 ArgLe [.agg [.t (.v (.int .i64 p1.Length)), .t (.tree p1.Words.length 1 (Ru64 p1.Words))]] [.agg [.t (.v (.int .i64 p1.Length)), .t (.tree p1.Words.length 1 (Ru64 p1.Words))]]) ∧ ((true = true → flatB [])) ∧ (Con Try.prog 22 [.agg [.t (.v (.int .i64 p1.Length)), .t (.tree p1.Words.length 1 (Ru64 p1.Words))]] [] (.c (.t (.v (.int .i64 y7)))) []), True, True] (by kernel_rfl) (by kernel_rfl) ⟨trivial, ⟨⟨⟨trivial, trivial, trivial⟩, trivial⟩, ⟨ArgLe.refl _, trivial⟩, (fun _ => trivial), (bitset_Count_con p0 y5 e6)⟩, trivial, ⟨⟨⟨trivial, trivial, trivial⟩, trivial⟩, ⟨ArgLe.refl _, trivial⟩, (fun _ => trivial), (bitset_Count_con p1 y7 e8)⟩, trivial, trivial, trivial⟩ ?_
    refine AW.thenQ_normal ?_
    refine AW.seq ?_
    refine AW.seq ?_
    refine AW.reg tt_ok0 [5, 7, 22] [5, 9] [] ⟨[(22, .c (.t (.v (.bool ((IntKind.i64.wrap (y5 + y7)) == 0))))), (7, .c (.t (.v (.int .i64 (IntKind.i64.wrap (y5 + y7)))))), (5, .c (.ptr 9 2 0 0))], [(9, .box 29 [.t (.v (.int .i64 y1.Length)), .ref 5 1 0 y1.Words.length]), (5, .row 33 false 1 y1.Words.length (Ru64 y1.Words))], 20⟩ [True, True] (by kernel_rfl) (by kernel_rfl) ⟨trivial, trivial, trivial⟩ ?_
    refine AW.thenQ_normal ?_
    refine AW.cond (b := ((IntKind.i64.wrap (y5 + y7)) == 0)) (by kernel_rfl) (fun c9 => ?_) (fun c9 => ?_)
    · rw [if_pos c9] at h
      refine AW.seq ?_
      refine AW.reg tt_ok0 [4] [] [] ⟨[(4, .c (.t (.v (.int .i64 0))))], [], 21⟩ [True] (by kernel_rfl) (by kernel_rfl) ⟨trivial, trivial⟩ ?_
      refine AW.thenQ_normal ?_
      refine AW.ret ?_
      refine AW.thenQ_ret ?_
      obtain rfl := some_inj h
      exact ⟨_, Conv.refl _ _, .inr rfl, OutOk.mk [] 0 (out0 := .c (.t (.v (.int .i64 0)))) (ps := [True]) (by kernel_rfl) ⟨trivial, trivial⟩ (by kernel_rfl) (by kernel_rfl)⟩
    · rw [if_neg (by rw [c9]; exact Bool.false_ne_true)] at h
      refine AW.skip ?_
      refine AW.thenQ_normal ?_
      refine AW.seq ?_
      obtain ⟨y10, e11, h⟩ := bnd_some h
      obtain ⟨g12, h⟩ := ifc h
      obtain ⟨z13, n14, h⟩ := bnd_some h
      replace n14 := some_inj n14
      refine AW.reg tt_ok0 [4] [] [{}, { call := some { ids := [], frz := [], flat := true, cnt := 0, args := [.agg [.t (.v (.int .i64 y1.Length)), .t (.tree y1.Words.length 1 (Ru64 y1.Words))]], out := .c (.t (.v (.int .i64 y10))), outb := [] } }] ⟨[(4, .c (.t (.v (.int .i64 (IntKind.i64.wrap ((IntKind.i64.wrap ((IntKind.i64.wrap (4000 * y10)) + (IntKind.i64.wrap (y5 + y7)))).tdiv (IntKind.i64.wrap (2 * (IntKind.i64.wrap (y5 + y7))))))))))], [], 28⟩ [True, (((True) ∧ (0 + y1.Words.length ≤ y1.Words.length) ∧ (True)) ∧ (True)) ∧ (All2 ArgLe [.agg [.t (.v (.int .i64 y1.Length)), .t (.tree y1.Words.length 1 (Ru64 y1.Words))]] [.agg [.t (.v (.int .i64 y1.Length)), .t (.tree y1.Words.length 1 (Ru64 y1.Words))]]) ∧ ((true = true → flatB [])) ∧ (Con Try.prog 22 [.agg [.t (.v (.int .i64 y1.Length)), .t (.tree y1.Words.length 1 (Ru64 y1.Words))]] [] (.c (.t (.v (.int .i64 y10)))) []), True, True, True, True, True, (IntKind.i64.wrap (2 * (IntKind.i64.wrap (y5 + y7)))) ≠ 0, True] (by kernel_rfl) (by kernel_rfl) ⟨trivial, ⟨⟨⟨trivial, le0, trivial⟩, trivial⟩, ⟨ArgLe.refl _, trivial⟩, (fun _ => trivial), (bitset_Count_con y1 y10 e11)⟩, trivial, trivial, trivial, trivial, trivial, g12, trivial, trivial⟩ ?_
      refine eq_Q (S' := ⟨[(4, .c (.t (.v (.int .i64 z13))))], [], 28⟩) (by rw [n14]) ?_
      refine AW.thenQ_normal ?_
      refine AW.ret ?_
      obtain rfl := some_inj h
      exact ⟨_, Conv.refl _ _, .inr rfl, OutOk.mk [] 0 (out0 := .c (.t (.v (.int .i64 z13)))) (ps := [True]) (by kernel_rfl) ⟨trivial, trivial⟩ (by kernel_rfl) (by kernel_rfl)⟩
/-! recordlink/recordlinklaw17.awake -/
noncomputable def rl_law17_awake_k2 (x4 : Bool) : Option Bool := some x4
noncomputable def rl_law17_awake : Option Bool := bind2 (similarity_Number ([2, 0, 1] : List Int)) fun y1 y2 => (if (y2 == 0) = true then (if (y1 == 11) = true then ((similarity_Dice (⟨64, ([7] : List Int)⟩ : S_api_Bits) (⟨64, ([3] : List Int)⟩ : S_api_Bits)).bind fun y7 => (if (y7 == 800) = true then ((similarity_Dice (⟨64, ([7] : List Int)⟩ : S_api_Bits) (⟨0, ([] : List Int)⟩ : S_api_Bits)).bind fun y10 => (rl_law17_awake_k2 (y10 == (-1)))) else (rl_law17_awake_k2 false))) else (rl_law17_awake_k2 false)) else (rl_law17_awake_k2 false))
set_option maxRecDepth 100000 in
set_option maxHeartbeats 10000000 in
theorem rl_law17_awake_con (r0 : Bool) (h : rl_law17_awake = some r0) : Con Try.prog 12 [] [] (.c (.t (.v (.bool r0)))) [] := by
  revert h; generalize r0 = r; intro h
  refine con_of tt_ok0 0 Try.func12 (by kernel_rfl) rfl (by kernel_rfl) (fun base X hk => AW.post ?_)
  unfold rl_law17_awake at h
  refine AW.seq ?_
  refine AW.reg tt_ok0 [] [] [] ⟨[], [], 1⟩ [True] (by kernel_rfl) (by kernel_rfl) ⟨trivial, trivial⟩ ?_
  refine AW.thenQ_normal ?_
  refine AW.seq ?_
  obtain ⟨y1, y2, e3, h⟩ := bind2_some h
  refine AW.reg tt_ok0 [1, 2] [] [{ h := { row := some (([2, 0, 1] : List Int).length, Ri64 ([2, 0, 1] : List Int)) } }, { call := some { ids := [], frz := [], flat := true, cnt := 0, args := [.c (.t (.tree (([2, 0, 1] : List Int).length) 1 (Ri64 ([2, 0, 1] : List Int))))], out := .tup [.c (.t (.v (.int .i64 y1))), .c (.t (.v (.int .i64 y2)))], outb := [] } }] ⟨[(2, .c (.t (.v (.int .i64 y2)))), (1, .c (.t (.v (.int .i64 y1))))], [], 7⟩ [3 = ([2, 0, 1] : List Int).length ∧ ∀ i, i < ([2, 0, 1] : List Int).length → ∀ j, j < 1 → TLe ((rowOf [.v (.int .i64 2), .v (.int .i64 0), .v (.int .i64 1)] 1) i j) (Ri64 ([2, 0, 1] : List Int) i j), ((0 + ([2, 0, 1] : List Int).length ≤ ([2, 0, 1] : List Int).length) ∧ (True)) ∧ (All2 ArgLe [.c (.t (.tree (([2, 0, 1] : List Int).length) 1 (Ri64 ([2, 0, 1] : List Int))))] [.c (.t (.tree (([2, 0, 1] : List Int).length) 1 (Ri64 ([2, 0, 1] : List Int))))]) ∧ ((true = true → flatB [])) ∧ (Con Try.prog 28 [.c (.t (.tree (([2, 0, 1] : List Int).length) 1 (Ri64 ([2, 0, 1] : List Int))))] [] (.tup [.c (.t (.v (.int .i64 y1))), .c (.t (.v (.int .i64 y2)))]) []), True, True, True, True, True] (by kernel_rfl) (by kernel_rfl) ⟨⟨rfl, lit_row (n := 3) (sz := 1) ⟨⟨⟨trivial, ⟨trivial, TLe.refl _⟩⟩, ⟨trivial, TLe.refl _⟩⟩, ⟨trivial, TLe.refl _⟩⟩⟩, ⟨⟨le0, trivial⟩, ⟨ArgLe.refl _, trivial⟩, (fun _ => trivial), (similarity_Number_con ([2, 0, 1] : List Int) y1 y2 e3)⟩, trivial, trivial, trivial, trivial, trivial, trivial⟩ ?_
  refine AW.thenQ_normal ?_
  refine AW.seq ?_
  refine AW.reg tt_ok0 [1, 2, 3] [7, 9] [{ h := { row := some (([7] : List Int).length, Ru64 ([7] : List Int)) } }] ⟨[(3, .c (.ptr 9 2 0 0)), (2, .c (.t (.v (.int .i64 y2)))), (1, .c (.t (.v (.int .i64 y1))))], [(9, .box 29 [.t (.v (.int .i64 64)), .ref 7 1 0 (([7] : List Int).length)]), (7, .row 33 false 1 ([7] : List Int).length (Ru64 ([7] : List Int)))], 11⟩ [1 = ([7] : List Int).length ∧ ∀ i, i < ([7] : List Int).length → ∀ j, j < 1 → TLe ((rowOf [.v (.int .u64 7)] 1) i j) (Ru64 ([7] : List Int) i j), True, True, True] (by kernel_rfl) (by kernel_rfl) ⟨⟨rfl, lit_row (n := 1) (sz := 1) ⟨trivial, ⟨trivial, TLe.refl _⟩⟩⟩, trivial, trivial, trivial, trivial⟩ ?_
  refine AW.thenQ_normal ?_
  refine AW.seq ?_
  refine AW.reg tt_ok0 [1, 2, 3, 4] [7, 9, 11, 13] [{ h := { row := some (([3] : List Int).length, Ru64 ([3] : List Int)) } }] ⟨[(4, .c (.ptr 13 2 0 0)), (3, .c (.ptr 9 2 0 0)), (2, .c (.t (.v (.int .i64 y2)))), (1, .c (.t (.v (.int .i64 y1))))], [(13, .box 29 [.t (.v (.int .i64 64)), .ref 11 1 0 (([3] : List Int).length)]), (11, .row 33 false 1 ([3] : List Int).length (Ru64 ([3] : List Int))), (9, .box 29 [.t (.v (.int .i64 64)), .ref 7 1 0 (([7] : List Int).length)]), (7, .row 33 false 1 ([7] : List Int).length (Ru64 ([7] : List Int)))], 15⟩ [1 = ([3] : List Int).length ∧ ∀ i, i < ([3] : List Int).length → ∀ j, j < 1 → TLe ((rowOf [.v (.int .u64 3)] 1) i j) (Ru64 ([3] : List Int) i j), True, True, True] (by kernel_rfl) (by kernel_rfl) ⟨⟨rfl, lit_row (n := 1) (sz := 1) ⟨trivial, ⟨trivial, TLe.refl _⟩⟩⟩, trivial, trivial, trivial, trivial⟩ ?_
  refine AW.thenQ_normal ?_
  refine AW.seq ?_
  refine AW.join (ι := Bool) (fun v => ⟨[(0, .c (.t (.v (.bool v))))], [], 0⟩) (fun v : Bool => rl_law17_awake_k2 v = some r) (fun v h => ?_) ?_
  ·
    obtain ⟨x4, rfl⟩ : ∃ x, x = v := ⟨_, rfl⟩
    replace h : rl_law17_awake_k2 x4 = some r := h
    unfold rl_law17_awake_k2 at h
    show (_ : Exit → St → Prop) .normal ⟨[(0, .c (.t (.v (.bool x4))))], [], 0⟩
    refine AW.thenQ_normal ?_
    refine AW.ret ?_
    obtain rfl := some_inj h
    exact ⟨_, Conv.refl _ _, .inr rfl, OutOk.mk [] 0 (out0 := .c (.t (.v (.bool x4)))) (ps := [True]) (by kernel_rfl) ⟨trivial, trivial⟩ (by kernel_rfl) (by kernel_rfl)⟩
  ·
    by_cases c5 : (y2 == 0) = true
    · rw [if_pos c5] at h
      by_cases c6 : (y1 == 11) = true
      · rw [if_pos c6] at h
        obtain ⟨y7, e8, h⟩ := bnd_some h
        by_cases c9 : (y7 == 800) = true
        · rw [if_pos c9] at h
          obtain ⟨y10, e11, h⟩ := bnd_some h
          refine AW.reg tt_ok0 [0] [] [{}, { h := { b := some true } }, {}, {}, { h := { b := some true } }, {}, {}, {}, {}, { call := some { ids := [], frz := [], flat := true, cnt := 0, args := [.agg [.t (.v (.int .i64 64)), .t (.tree (([7] : List Int).length) 1 (Ru64 ([7] : List Int)))], .agg [.t (.v (.int .i64 64)), .t (.tree (([3] : List Int).length) 1 (Ru64 ([3] : List Int)))]], out := .c (.t (.v (.int .i64 y7))), outb := [] } }, { h := { b := some true } }, {}, {}, {}, {}, { call := some { ids := [], frz := [], flat := true, cnt := 0, args := [.agg [.t (.v (.int .i64 64)), .t (.tree (([7] : List Int).length) 1 (Ru64 ([7] : List Int)))], .agg [.t (.v (.int .i64 0)), .t (.tree (([] : List Int).length) 1 (Ru64 ([] : List Int)))]], out := .c (.t (.v (.int .i64 y10))), outb := [] } }] ⟨[(0, .c (.t (.v (.bool (y10 == (-1))))))], [], 32⟩ [True, (y2 == 0) = true, True, True, (y1 == 11) = true, True, True, True, True, (((True) ∧ (0 + ([7] : List Int).length ≤ ([7] : List Int).length) ∧ (True)) ∧ ((True) ∧ (0 + ([3] : List Int).length ≤ ([3] : List Int).length) ∧ (True)) ∧ (True)) ∧ (All2 ArgLe [.agg [.t (.v (.int .i64 64)), .t (.tree (([7] : List Int).length) 1 (Ru64 ([7] : List Int)))], .agg [.t (.v (.int .i64 64)), .t (.tree (([3] : List Int).length) 1 (Ru64 ([3] : List Int)))]] [.agg [.t (.v (.int .i64 64)), .t (.tree (([7] : List Int).length) 1 (Ru64 ([7] : List Int)))], .agg [.t (.v (.int .i64 64)), .t (.tree (([3] : List Int).length) 1 (Ru64 ([3] : List Int)))]]) ∧ ((true = true → flatB [])) ∧ (Con Try.prog 17 [.agg [.t (.v (.int .i64 64)), .t (.tree (([7] : List Int).length) 1 (Ru64 ([7] : List Int)))], .agg [.t (.v (.int .i64 64)), .t (.tree (([3] : List Int).length) 1 (Ru64 ([3] : List Int)))]] [] (.c (.t (.v (.int .i64 y7)))) []), (y7 == 800) = true, True, True, True, True, (((True) ∧ (0 + ([7] : List Int).length ≤ ([7] : List Int).length) ∧ (True)) ∧ ((True) ∧ (True) ∧ (True)) ∧ (True)) ∧ (All2 ArgLe [.agg [.t (.v (.int .i64 64)), .t (.tree (([7] : List Int).length) 1 (Ru64 ([7] : List Int)))], .agg [.t (.v (.int .i64 0)), .t (.v (.slice none 0 0))]] [.agg [.t (.v (.int .i64 64)), .t (.tree (([7] : List Int).length) 1 (Ru64 ([7] : List Int)))], .agg [.t (.v (.int .i64 0)), .t (.tree (([] : List Int).length) 1 (Ru64 ([] : List Int)))]]) ∧ ((true = true → flatB [])) ∧ (Con Try.prog 17 [.agg [.t (.v (.int .i64 64)), .t (.tree (([7] : List Int).length) 1 (Ru64 ([7] : List Int)))], .agg [.t (.v (.int .i64 0)), .t (.tree (([] : List Int).length) 1 (Ru64 ([] : List Int)))]] [] (.c (.t (.v (.int .i64 y10)))) []), True, True, True] (by kernel_rfl) (by kernel_rfl) ⟨trivial, c5, trivial, trivial, c6, trivial, trivial, trivial, trivial, ⟨⟨⟨trivial, le0, trivial⟩, ⟨trivial, le0, trivial⟩, trivial⟩, ⟨ArgLe.refl _, ArgLe.refl _, trivial⟩, (fun _ => trivial), (similarity_Dice_con (⟨64, ([7] : List Int)⟩ : S_api_Bits) (⟨64, ([3] : List Int)⟩ : S_api_Bits) y7 e8)⟩, c9, trivial, trivial, trivial, trivial, ⟨⟨⟨trivial, le0, trivial⟩, ⟨trivial, trivial, trivial⟩, trivial⟩, ⟨ArgLe.refl _, ArgLe.agg ⟨CAle.refl _, CAle.nil rfl, trivial⟩, trivial⟩, (fun _ => trivial), (similarity_Dice_con (⟨64, ([7] : List Int)⟩ : S_api_Bits) (⟨0, ([] : List Int)⟩ : S_api_Bits) y10 e11)⟩, trivial, trivial, trivial, trivial⟩ ?_
          exact joinQ_leaf ((y10 == (-1))) h (conv_ren [] [0] (n := 0) (by kernel_rfl) (by kernel_rfl))
        · rw [if_neg c9] at h
          refine AW.reg tt_ok0 [0] [] [{}, { h := { b := some true } }, {}, {}, { h := { b := some true } }, {}, {}, {}, {}, { call := some { ids := [], frz := [], flat := true, cnt := 0, args := [.agg [.t (.v (.int .i64 64)), .t (.tree (([7] : List Int).length) 1 (Ru64 ([7] : List Int)))], .agg [.t (.v (.int .i64 64)), .t (.tree (([3] : List Int).length) 1 (Ru64 ([3] : List Int)))]], out := .c (.t (.v (.int .i64 y7))), outb := [] } }, { h := { b := some false } }] ⟨[(0, .c (.t (.v (.bool false))))], [], 33⟩ [True, (y2 == 0) = true, True, True, (y1 == 11) = true, True, True, True, True, (((True) ∧ (0 + ([7] : List Int).length ≤ ([7] : List Int).length) ∧ (True)) ∧ ((True) ∧ (0 + ([3] : List Int).length ≤ ([3] : List Int).length) ∧ (True)) ∧ (True)) ∧ (All2 ArgLe [.agg [.t (.v (.int .i64 64)), .t (.tree (([7] : List Int).length) 1 (Ru64 ([7] : List Int)))], .agg [.t (.v (.int .i64 64)), .t (.tree (([3] : List Int).length) 1 (Ru64 ([3] : List Int)))]] [.agg [.t (.v (.int .i64 64)), .t (.tree (([7] : List Int).length) 1 (Ru64 ([7] : List Int)))], .agg [.t (.v (.int .i64 64)), .t (.tree (([3] : List Int).length) 1 (Ru64 ([3] : List Int)))]]) ∧ ((true = true → flatB [])) ∧ (Con Try.prog 17 [.agg [.t (.v (.int .i64 64)), .t (.tree (([7] : List Int).length) 1 (Ru64 ([7] : List Int)))], .agg [.t (.v (.int .i64 64)), .t (.tree (([3] : List Int).length) 1 (Ru64 ([3] : List Int)))]] [] (.c (.t (.v (.int .i64 y7)))) []), (y7 == 800) = false, True, True, True, True, True, True, True, True] (by kernel_rfl) (by kernel_rfl) ⟨trivial, c5, trivial, trivial, c6, trivial, trivial, trivial, trivial, ⟨⟨⟨trivial, le0, trivial⟩, ⟨trivial, le0, trivial⟩, trivial⟩, ⟨ArgLe.refl _, ArgLe.refl _, trivial⟩, (fun _ => trivial), (similarity_Dice_con (⟨64, ([7] : List Int)⟩ : S_api_Bits) (⟨64, ([3] : List Int)⟩ : S_api_Bits) y7 e8)⟩, (off_false c9), trivial, trivial, trivial, trivial, trivial, trivial, trivial, trivial, trivial⟩ ?_
          exact joinQ_leaf (false) h (conv_ren [] [0] (n := 0) (by kernel_rfl) (by kernel_rfl))
      · rw [if_neg c6] at h
        refine AW.reg tt_ok0 [0] [] [{}, { h := { b := some true } }, {}, {}, { h := { b := some false } }] ⟨[(0, .c (.t (.v (.bool false))))], [], 34⟩ [True, (y2 == 0) = true, True, True, (y1 == 11) = false, True, True, True, True, True, True, True, True, True, True, True, True, True, True] (by kernel_rfl) (by kernel_rfl) ⟨trivial, c5, trivial, trivial, (off_false c6), trivial, trivial, trivial, trivial, trivial, trivial, trivial, trivial, trivial, trivial, trivial, trivial, trivial, trivial, trivial⟩ ?_
        exact joinQ_leaf (false) h (conv_ren [] [0] (n := 0) (by kernel_rfl) (by kernel_rfl))
    · rw [if_neg c5] at h
      refine AW.reg tt_ok0 [0] [] [{}, { h := { b := some false } }] ⟨[(0, .c (.t (.v (.bool false))))], [], 34⟩ [True, (y2 == 0) = false, True, True, True, True, True, True, True, True, True, True, True, True, True, True, True, True, True] (by kernel_rfl) (by kernel_rfl) ⟨trivial, (off_false c5), trivial, trivial, trivial, trivial, trivial, trivial, trivial, trivial, trivial, trivial, trivial, trivial, trivial, trivial, trivial, trivial, trivial, trivial⟩ ?_
      exact joinQ_leaf (false) h (conv_ren [] [0] (n := 0) (by kernel_rfl) (by kernel_rfl))
/-! recordlink/recordlinkmake.Few -/
noncomputable def rl_make_Few (p0 : List Int) : Option Bool := some (decide (((p0.length : Nat) : Int) ≤ 400))
set_option maxRecDepth 100000 in
set_option maxHeartbeats 10000000 in
theorem rl_make_Few_con (p0 : List Int) (r0 : Bool) (h : rl_make_Few p0 = some r0) : Con Try.prog 13 [.c (.t (.tree p0.length 1 (Ri64 p0)))] [] (.c (.t (.v (.bool r0)))) [] := by
  revert h; generalize r0 = r; intro h
  refine con_of tt_ok0 0 Try.func13 (by kernel_rfl) rfl (by kernel_rfl) (fun base X hk => AW.post ?_)
  unfold rl_make_Few at h
  refine AW.seq ?_
  refine AW.reg tt_ok0 [0] [] [] ⟨[(0, .c (.t (.tree p0.length 1 (Ri64 p0))))], [], 1⟩ [True] (by kernel_rfl) (by kernel_rfl) ⟨trivial, trivial⟩ ?_
  refine AW.thenQ_normal ?_
  refine AW.seq ?_
  refine AW.reg tt_ok0 [2] [] [] ⟨[(2, .c (.t (.v (.bool (decide (((p0.length : Nat) : Int) ≤ 400))))))], [], 5⟩ [True, True, True, True] (by kernel_rfl) (by kernel_rfl) ⟨trivial, trivial, trivial, trivial, trivial⟩ ?_
  refine AW.thenQ_normal ?_
  refine AW.ret ?_
  obtain rfl := some_inj h
  exact ⟨_, Conv.refl _ _, .inr rfl, OutOk.mk [] 0 (out0 := .c (.t (.v (.bool (decide (((p0.length : Nat) : Int) ≤ 400)))))) (ps := [True]) (by kernel_rfl) ⟨trivial, trivial⟩ (by kernel_rfl) (by kernel_rfl)⟩
structure S_recordlinkmake_Deck where
  list : List Int
  at_ : Int
  state : Int
def dS_recordlinkmake_Deck : S_recordlinkmake_Deck := ⟨([] : List Int), 0, 0⟩
instance : Inhabited S_recordlinkmake_Deck := ⟨dS_recordlinkmake_Deck⟩
/-! recordlink/recordlinkmake.New -/
noncomputable def rl_make_New (p0 : List Int) : Option S_recordlinkmake_Deck := some (⟨p0, 0, 11400714819323198485⟩ : S_recordlinkmake_Deck)
set_option maxRecDepth 100000 in
set_option maxHeartbeats 10000000 in
theorem rl_make_New_con (p0 : List Int) (r0 : S_recordlinkmake_Deck) (h : rl_make_New p0 = some r0) : Con Try.prog 14 [.c (.t (.tree p0.length 1 (Ri64 p0)))] [] (.c (.ptr 0 3 0 0)) [(0, .box 66 [.t (.tree r0.list.length 1 (Ri64 r0.list)), .t (.v (.int .i64 r0.at_)), .t (.v (.int .u64 r0.state))])] := by
  revert h; generalize r0 = r; intro h
  refine con_of tt_ok0 0 Try.func14 (by kernel_rfl) rfl (by kernel_rfl) (fun base X hk => AW.post ?_)
  unfold rl_make_New at h
  refine AW.seq ?_
  refine AW.reg tt_ok0 [0] [] [] ⟨[(0, .c (.t (.tree p0.length 1 (Ri64 p0))))], [], 1⟩ [True] (by kernel_rfl) (by kernel_rfl) ⟨trivial, trivial⟩ ?_
  refine AW.thenQ_normal ?_
  refine AW.seq ?_
  refine AW.reg tt_ok0 [2] [3] [] ⟨[(2, .c (.ptr 3 3 0 0))], [(3, .box 66 [.t (.tree p0.length 1 (Ri64 p0)), .t (.v (.int .i64 0)), .t (.v (.int .u64 11400714819323198485))])], 5⟩ [True, True, True, True] (by kernel_rfl) (by kernel_rfl) ⟨trivial, trivial, trivial, trivial, trivial⟩ ?_
  refine AW.thenQ_normal ?_
  refine AW.ret ?_
  obtain rfl := some_inj h
  exact ⟨_, Conv.refl _ _, .inr rfl, OutOk.mk [(0, 3)] 1 (out0 := .c (.ptr 3 3 0 0)) (ps := [True]) (by kernel_rfl) ⟨trivial, trivial⟩ (by kernel_rfl) (by kernel_rfl)⟩
/-! (*recordlink/recordlinkmake.Deck).Word -/
noncomputable def rl_make_Deck_Word_k1 (p0 : S_recordlinkmake_Deck) (x1 : Int) (x2 : Int) : Option (Int × S_recordlinkmake_Deck) := (some (IntKind.u64.wrap ((IntKind.u64.wrap ((IntKind.u64.wrap (p0.state + x1)) * 6364136223846793005)) + 1442695040888963407))).bind fun z3 => ((some (IntKind.u64.wrap ((ixor .u64 z3 (ishr .u64 z3 33)) * 18397679294719823053))).bind fun z5 => (some (ixor .u64 z5 (ishr .u64 z5 29), (⟨p0.list, x2, z3⟩ : S_recordlinkmake_Deck))))
noncomputable def rl_make_Deck_Word (p0 : S_recordlinkmake_Deck) : Option (Int × S_recordlinkmake_Deck) := if (decide (p0.at_ < ((p0.list.length : Nat) : Int))) = true then (if 0 ≤ p0.at_ then (if p0.at_ < ((p0.list.length : Nat) : Int) then (rl_make_Deck_Word_k1 p0 (IntKind.u64.wrap (p0.list.getD p0.at_.toNat 0)) (IntKind.i64.wrap (p0.at_ + 1))) else none) else none) else (rl_make_Deck_Word_k1 p0 0 p0.at_)
set_option maxRecDepth 100000 in
set_option maxHeartbeats 10000000 in
theorem rl_make_Deck_Word_con (p0 : S_recordlinkmake_Deck) (r0 : Int) (r1 : S_recordlinkmake_Deck) (h : rl_make_Deck_Word p0 = some (r0, r1)) : Con Try.prog 53 [.c (.ptr 0 3 0 0)] [(0, .box 66 [.t (.tree p0.list.length 1 (Ri64 p0.list)), .t (.v (.int .i64 p0.at_)), .t (.v (.int .u64 p0.state))])] (.c (.t (.v (.int .u64 r0)))) [(0, .box 66 [.t (.tree r1.list.length 1 (Ri64 r1.list)), .t (.v (.int .i64 r1.at_)), .t (.v (.int .u64 r1.state))])] := by
  suffices H : ∀ r, rl_make_Deck_Word p0 = some r → Con Try.prog 53 [.c (.ptr 0 3 0 0)] [(0, .box 66 [.t (.tree p0.list.length 1 (Ri64 p0.list)), .t (.v (.int .i64 p0.at_)), .t (.v (.int .u64 p0.state))])] (.c (.t (.v (.int .u64 r.1)))) [(0, .box 66 [.t (.tree r.2.list.length 1 (Ri64 r.2.list)), .t (.v (.int .i64 r.2.at_)), .t (.v (.int .u64 r.2.state))])] from H (r0, r1) h
  clear h
  intro r h
  refine con_of tt_ok0 1 Try.func53 (by kernel_rfl) rfl (by kernel_rfl) (fun base X hk => AW.post ?_)
  unfold rl_make_Deck_Word at h
  refine AW.seq ?_
  refine AW.reg tt_ok0 [0] [0] [] ⟨[(0, .c (.ptr 0 3 0 0))], [(0, .box 66 [.t (.tree p0.list.length 1 (Ri64 p0.list)), .t (.v (.int .i64 p0.at_)), .t (.v (.int .u64 p0.state))])], 2⟩ [True] (by kernel_rfl) (by kernel_rfl) ⟨trivial, trivial⟩ ?_
  refine AW.thenQ_normal ?_
  refine AW.seq ?_
  refine AW.reg tt_ok0 [0, 3] [0] [] ⟨[(3, .c (.t (.v (.int .u64 0)))), (0, .c (.ptr 0 3 0 0))], [(0, .box 66 [.t (.tree p0.list.length 1 (Ri64 p0.list)), .t (.v (.int .i64 p0.at_)), .t (.v (.int .u64 p0.state))])], 3⟩ [True] (by kernel_rfl) (by kernel_rfl) ⟨trivial, trivial⟩ ?_
  refine AW.thenQ_normal ?_
  refine AW.seq ?_
  refine AW.join (ι := Int × Int) (fun v => ⟨[(0, .c (.ptr 0 3 0 0)), (3, .c (.t (.v (.int .u64 v.1))))], [(0, .box 66 [.t (.tree p0.list.length 1 (Ri64 p0.list)), .t (.v (.int .i64 v.2)), .t (.v (.int .u64 p0.state))])], 1⟩) (fun v : Int × Int => rl_make_Deck_Word_k1 p0 v.1 v.2 = some r) (fun v h => ?_) ?_
  ·
    obtain ⟨x1, x2⟩ := v
    replace h : rl_make_Deck_Word_k1 p0 x1 x2 = some r := h
    unfold rl_make_Deck_Word_k1 at h
    show (_ : Exit → St → Prop) .normal ⟨[(0, .c (.ptr 0 3 0 0)), (3, .c (.t (.v (.int .u64 x1))))], [(0, .box 66 [.t (.tree p0.list.length 1 (Ri64 p0.list)), .t (.v (.int .i64 x2)), .t (.v (.int .u64 p0.state))])], 1⟩
    refine AW.thenQ_normal ?_
    refine AW.seq ?_
    obtain ⟨z3, n4, h⟩ := bnd_some h
    replace n4 := some_inj n4
    refine AW.reg tt_ok0 [0] [0] [] ⟨[(0, .c (.ptr 0 3 0 0))], [(0, .box 66 [.t (.tree p0.list.length 1 (Ri64 p0.list)), .t (.v (.int .i64 x2)), .t (.v (.int .u64 (IntKind.u64.wrap ((IntKind.u64.wrap ((IntKind.u64.wrap (p0.state + x1)) * 6364136223846793005)) + 1442695040888963407))))])], 13⟩ [True, True, True, True, True, True, True, True, True, True, True, True] (by kernel_rfl) (by kernel_rfl) ⟨trivial, trivial, trivial, trivial, trivial, trivial, trivial, trivial, trivial, trivial, trivial, trivial, trivial⟩ ?_
    refine eq_Q (S' := ⟨[(0, .c (.ptr 0 3 0 0))], [(0, .box 66 [.t (.tree p0.list.length 1 (Ri64 p0.list)), .t (.v (.int .i64 x2)), .t (.v (.int .u64 z3))])], 13⟩) (by rw [n4]) ?_
    refine AW.thenQ_normal ?_
    refine AW.seq ?_
    refine AW.regD tt_ok0 mo0 [0, 1, 3, 7, 0, 16, 48, 112, 240, 511, 1023] [[], [], [], [], [], [], [], [], [], [], []] [4] [0] [] ⟨[(4, .c (.t (.v (.int .u64 (ixor .u64 z3 (ishr .u64 z3 33))))))], [(0, .box 66 [.t (.tree p0.list.length 1 (Ri64 p0.list)), .t (.v (.int .i64 x2)), .t (.v (.int .u64 z3))])], 24⟩ [True, True, True, True, True, True, True, True, 0 ≤ (33 : Int), True, True] (by kernel_rfl) (by kernel_rfl) ⟨trivial, trivial, trivial, trivial, trivial, trivial, trivial, trivial, (by decide), trivial, trivial, trivial⟩ ?_
    refine AW.thenQ_normal ?_
    refine AW.seq ?_
    obtain ⟨z5, n6, h⟩ := bnd_some h
    replace n6 := some_inj n6
    refine AW.reg tt_ok0 [4] [0] [] ⟨[(4, .c (.t (.v (.int .u64 (IntKind.u64.wrap ((ixor .u64 z3 (ishr .u64 z3 33)) * 18397679294719823053))))))], [(0, .box 66 [.t (.tree p0.list.length 1 (Ri64 p0.list)), .t (.v (.int .i64 x2)), .t (.v (.int .u64 z3))])], 27⟩ [True, True, True] (by kernel_rfl) (by kernel_rfl) ⟨trivial, trivial, trivial, trivial⟩ ?_
    refine eq_Q (S' := ⟨[(4, .c (.t (.v (.int .u64 z5))))], [(0, .box 66 [.t (.tree p0.list.length 1 (Ri64 p0.list)), .t (.v (.int .i64 x2)), .t (.v (.int .u64 z3))])], 27⟩) (by rw [n6]) ?_
    refine AW.thenQ_normal ?_
    refine AW.seq ?_
    refine AW.reg tt_ok0 [2] [0] [] ⟨[(2, .c (.t (.v (.int .u64 (ixor .u64 z5 (ishr .u64 z5 29))))))], [(0, .box 66 [.t (.tree p0.list.length 1 (Ri64 p0.list)), .t (.v (.int .i64 x2)), .t (.v (.int .u64 z3))])], 32⟩ [True, True, 0 ≤ (29 : Int), True, True] (by kernel_rfl) (by kernel_rfl) ⟨trivial, trivial, (by decide), trivial, trivial, trivial⟩ ?_
    refine AW.thenQ_normal ?_
    refine AW.ret ?_
    obtain rfl := some_inj h
    exact ⟨_, Conv.refl _ _, .inr rfl, OutOk.mk [(0, 0)] 1 (out0 := .c (.t (.v (.int .u64 (ixor .u64 z5 (ishr .u64 z5 29)))))) (ps := [True]) (by kernel_rfl) ⟨trivial, trivial⟩ (by kernel_rfl) (by kernel_rfl)⟩
  ·
    refine AW.seq ?_
    refine AW.regD tt_ok0 mo0 [0, 1, 3, 7, 0, 16, 48, 112, 240, 511] [[], [], [], [], [], [], [], [], [], []] [0, 3, 14] [0] [] ⟨[(14, .c (.t (.v (.bool (decide (p0.at_ < ((p0.list.length : Nat) : Int))))))), (3, .c (.t (.v (.int .u64 0)))), (0, .c (.ptr 0 3 0 0))], [(0, .box 66 [.t (.tree p0.list.length 1 (Ri64 p0.list)), .t (.v (.int .i64 p0.at_)), .t (.v (.int .u64 p0.state))])], 13⟩ [True, True, True, True, True, True, True, True, True, True] (by kernel_rfl) (by kernel_rfl) ⟨trivial, trivial, trivial, trivial, trivial, trivial, trivial, trivial, trivial, trivial, trivial⟩ ?_
    refine AW.thenQ_normal ?_
    refine AW.cond (b := decide (p0.at_ < ((p0.list.length : Nat) : Int))) (by kernel_rfl) (fun c7 => ?_) (fun c7 => ?_)
    · rw [if_pos c7] at h
      refine AW.seq ?_
      obtain ⟨g8, h⟩ := ifc h
      obtain ⟨g9, h⟩ := ifc h
      refine AW.regD tt_ok0 mo0 [0, 1, 3, 7, 0, 16, 48, 112, 255, 511, 1023, 2047] [[], [], [], [], [], [], [], [], [], [], [], []] [0, 3] [0] [] ⟨[(3, .c (.t (.v (.int .u64 (IntKind.u64.wrap (p0.list.getD p0.at_.toNat 0)))))), (0, .c (.ptr 0 3 0 0))], [(0, .box 66 [.t (.tree p0.list.length 1 (Ri64 p0.list)), .t (.v (.int .i64 p0.at_)), .t (.v (.int .u64 p0.state))])], 25⟩ [True, True, True, True, True, True, True, True, (0 ≤ p0.at_) ∧ (p0.at_ < ((p0.list.length : Nat) : Int)), True, True, True] (by kernel_rfl) (by kernel_rfl) ⟨trivial, trivial, trivial, trivial, trivial, trivial, trivial, trivial, ⟨g8, g9⟩, trivial, trivial, trivial, trivial⟩ ?_
      refine AW.thenQ_normal ?_
      refine AW.reg tt_ok0 [0, 3] [0] [] ⟨[(3, .c (.t (.v (.int .u64 (IntKind.u64.wrap (p0.list.getD p0.at_.toNat 0)))))), (0, .c (.ptr 0 3 0 0))], [(0, .box 66 [.t (.tree p0.list.length 1 (Ri64 p0.list)), .t (.v (.int .i64 (IntKind.i64.wrap (p0.at_ + 1)))), .t (.v (.int .u64 p0.state))])], 33⟩ [True, True, True, True, True, True, True, True] (by kernel_rfl) (by kernel_rfl) ⟨trivial, trivial, trivial, trivial, trivial, trivial, trivial, trivial, trivial⟩ ?_
      exact joinQ_leaf ((IntKind.u64.wrap (p0.list.getD p0.at_.toNat 0), IntKind.i64.wrap (p0.at_ + 1))) h (conv_ren [(0, 0)] [0, 3] (n := 1) (by kernel_rfl) (by kernel_rfl))
    · rw [if_neg (by rw [c7]; exact Bool.false_ne_true)] at h
      refine AW.skip ?_
      exact joinQ_leaf ((0, p0.at_)) h (conv_ren [(0, 0)] [0, 3] (n := 1) (by kernel_rfl) (by kernel_rfl))
/-! (*recordlink/recordlinkmake.Deck).Next -/
noncomputable def rl_make_Deck_Next (p0 : S_recordlinkmake_Deck) (p1 : Int) : Option (Int × S_recordlinkmake_Deck) := if (decide (p1 < 1)) = true then (some (0, p0)) else (bind2 (rl_make_Deck_Word p0) fun y2 y3 => (if p1 ≠ 0 then (some (((IntKind.i64.wrap (ishr .u64 y2 1)).tmod p1), y3)) else none))
set_option maxRecDepth 100000 in
set_option maxHeartbeats 10000000 in
theorem rl_make_Deck_Next_con (p0 : S_recordlinkmake_Deck) (p1 : Int) (r0 : Int) (r1 : S_recordlinkmake_Deck) (h : rl_make_Deck_Next p0 p1 = some (r0, r1)) : Con Try.prog 16 [.c (.ptr 0 3 0 0), .c (.t (.v (.int .i64 p1)))] [(0, .box 66 [.t (.tree p0.list.length 1 (Ri64 p0.list)), .t (.v (.int .i64 p0.at_)), .t (.v (.int .u64 p0.state))])] (.c (.t (.v (.int .i64 r0)))) [(0, .box 66 [.t (.tree r1.list.length 1 (Ri64 r1.list)), .t (.v (.int .i64 r1.at_)), .t (.v (.int .u64 r1.state))])] := by
  suffices H : ∀ r, rl_make_Deck_Next p0 p1 = some r → Con Try.prog 16 [.c (.ptr 0 3 0 0), .c (.t (.v (.int .i64 p1)))] [(0, .box 66 [.t (.tree p0.list.length 1 (Ri64 p0.list)), .t (.v (.int .i64 p0.at_)), .t (.v (.int .u64 p0.state))])] (.c (.t (.v (.int .i64 r.1)))) [(0, .box 66 [.t (.tree r.2.list.length 1 (Ri64 r.2.list)), .t (.v (.int .i64 r.2.at_)), .t (.v (.int .u64 r.2.state))])] from H (r0, r1) h
  clear h
  intro r h
  refine con_of tt_ok0 1 Try.func16 (by kernel_rfl) rfl (by kernel_rfl) (fun base X hk => AW.post ?_)
  unfold rl_make_Deck_Next at h
  refine AW.seq ?_
  refine AW.reg tt_ok0 [0, 1] [0] [] ⟨[(0, .c (.ptr 0 3 0 0)), (1, .c (.t (.v (.int .i64 p1))))], [(0, .box 66 [.t (.tree p0.list.length 1 (Ri64 p0.list)), .t (.v (.int .i64 p0.at_)), .t (.v (.int .u64 p0.state))])], 2⟩ [True] (by kernel_rfl) (by kernel_rfl) ⟨trivial, trivial⟩ ?_
  refine AW.thenQ_normal ?_
  refine AW.seq ?_
  refine AW.seq ?_
  refine AW.reg tt_ok0 [0, 1, 6] [0] [] ⟨[(6, .c (.t (.v (.bool (decide (p1 < 1)))))), (0, .c (.ptr 0 3 0 0)), (1, .c (.t (.v (.int .i64 p1))))], [(0, .box 66 [.t (.tree p0.list.length 1 (Ri64 p0.list)), .t (.v (.int .i64 p0.at_)), .t (.v (.int .u64 p0.state))])], 4⟩ [True, True] (by kernel_rfl) (by kernel_rfl) ⟨trivial, trivial, trivial⟩ ?_
  refine AW.thenQ_normal ?_
  refine AW.cond (b := decide (p1 < 1)) (by kernel_rfl) (fun c1 => ?_) (fun c1 => ?_)
  · rw [if_pos c1] at h
    refine AW.seq ?_
    refine AW.reg tt_ok0 [4] [0] [] ⟨[(4, .c (.t (.v (.int .i64 0))))], [(0, .box 66 [.t (.tree p0.list.length 1 (Ri64 p0.list)), .t (.v (.int .i64 p0.at_)), .t (.v (.int .u64 p0.state))])], 5⟩ [True] (by kernel_rfl) (by kernel_rfl) ⟨trivial, trivial⟩ ?_
    refine AW.thenQ_normal ?_
    refine AW.ret ?_
    refine AW.thenQ_ret ?_
    obtain rfl := some_inj h
    exact ⟨_, Conv.refl _ _, .inr rfl, OutOk.mk [(0, 0)] 1 (out0 := .c (.t (.v (.int .i64 0)))) (ps := [True]) (by kernel_rfl) ⟨trivial, trivial⟩ (by kernel_rfl) (by kernel_rfl)⟩
  · rw [if_neg (by rw [c1]; exact Bool.false_ne_true)] at h
    refine AW.skip ?_
    refine AW.thenQ_normal ?_
    refine AW.seq ?_
    obtain ⟨y2, y3, e4, h⟩ := bind2_some h
    obtain ⟨g5, h⟩ := ifc h
    refine AW.reg tt_ok0 [4] [0] [{}, { call := some { ids := [0], frz := [], flat := false, cnt := 0, args := [.c (.ptr 0 3 0 0)], out := .c (.t (.v (.int .u64 y2))), outb := [(0, .box 66 [.t (.tree y3.list.length 1 (Ri64 y3.list)), .t (.v (.int .i64 y3.at_)), .t (.v (.int .u64 y3.state))])] } }] ⟨[(4, .c (.t (.v (.int .i64 ((IntKind.i64.wrap (ishr .u64 y2 1)).tmod p1)))))], [(0, .box 66 [.t (.tree y3.list.length 1 (Ri64 y3.list)), .t (.v (.int .i64 y3.at_)), .t (.v (.int .u64 y3.state))])], 10⟩ [True, ((True) ∧ (True)) ∧ (All2 ArgLe [.c (.ptr 0 3 0 0)] [.c (.ptr 0 3 0 0)]) ∧ ((false = true → flatB [(0, .box 66 [.t (.tree y3.list.length 1 (Ri64 y3.list)), .t (.v (.int .i64 y3.at_)), .t (.v (.int .u64 y3.state))])])) ∧ (Con Try.prog 53 [.c (.ptr 0 3 0 0)] [(0, .box 66 [.t (.tree p0.list.length 1 (Ri64 p0.list)), .t (.v (.int .i64 p0.at_)), .t (.v (.int .u64 p0.state))])] (.c (.t (.v (.int .u64 y2)))) [(0, .box 66 [.t (.tree y3.list.length 1 (Ri64 y3.list)), .t (.v (.int .i64 y3.at_)), .t (.v (.int .u64 y3.state))])]), 0 ≤ (1 : Int), True, True, p1 ≠ 0, True] (by kernel_rfl) (by kernel_rfl) ⟨trivial, ⟨⟨trivial, trivial⟩, ⟨ArgLe.refl _, trivial⟩, (fun h => by cases h), (rl_make_Deck_Word_con p0 y2 y3 e4)⟩, (by decide), trivial, trivial, g5, trivial, trivial⟩ ?_
    refine AW.thenQ_normal ?_
    refine AW.ret ?_
    obtain rfl := some_inj h
    exact ⟨_, Conv.refl _ _, .inr rfl, OutOk.mk [(0, 0)] 1 (out0 := .c (.t (.v (.int .i64 ((IntKind.i64.wrap (ishr .u64 y2 1)).tmod p1))))) (ps := [True]) (by kernel_rfl) ⟨trivial, trivial⟩ (by kernel_rfl) (by kernel_rfl)⟩
/-! (*recordlink/recordlinkmake.Deck).Bits -/
noncomputable def rl_make_Deck_Bits_k18 (x6 : Int) (x10 : List Int) (x19 : Int) (x20 : List Int) (x21 : Int) (x22 : Int) : Option ((Int × (List Int) × Int × Int × (List Int)) ⊕ ((List Int) × Int × Int × (List Int))) := if x10.length + ([x19] : List Int).length ≤ 1099511627776 then (some (.inl (IntKind.i64.wrap (x6 + 1), x20, x21, x22, (x10 ++ ([x19] : List Int))))) else none
noncomputable def rl_make_Deck_Bits_l16 (p1 : Int) (x6 : Int) (x7 : List Int) (x8 : Int) (x9 : Int) (x10 : List Int) : Option ((Int × (List Int) × Int × Int × (List Int)) ⊕ ((List Int) × Int × Int × (List Int))) := if (decide (x6 < (IntKind.i64.wrap (p1.tdiv 64)))) = true then (bind2 (rl_make_Deck_Word (⟨x7, x8, x9⟩ : S_recordlinkmake_Deck)) fun y16 y17 => (bind2 (rl_make_Deck_Next y17 4) fun y24 y25 => (if (y24 == 0) = true then (bind2 (rl_make_Deck_Word y25) fun y28 y29 => (bind2 (rl_make_Deck_Word y29) fun y31 y32 => (rl_make_Deck_Bits_k18 x6 x10 (iand .u64 y16 (iand .u64 y28 y31)) y32.list y32.at_ y32.state))) else (if (y24 == 1) = true then (rl_make_Deck_Bits_k18 x6 x10 0 y25.list y25.at_ y25.state) else (rl_make_Deck_Bits_k18 x6 x10 y16 y25.list y25.at_ y25.state))))) else (some (.inr (x7, x8, x9, x10)))
noncomputable def rl_make_Deck_Bits (p0 : S_recordlinkmake_Deck) (p1 : Int) : Option (S_api_Bits × S_recordlinkmake_Deck) := bind4 (loop (fun v : Int × (List Int) × Int × Int × (List Int) => rl_make_Deck_Bits_l16 p1 v.1 v.2.1 v.2.2.1 v.2.2.2.1 v.2.2.2.2) (0, p0.list, p0.at_, p0.state, ([] : List Int))) fun x35 x36 x37 x38 => (some ((⟨p1, x38⟩ : S_api_Bits), (⟨x35, x36, x37⟩ : S_recordlinkmake_Deck)))
set_option maxRecDepth 100000 in
set_option maxHeartbeats 10000000 in
theorem rl_make_Deck_Bits_con (p0 : S_recordlinkmake_Deck) (p1 : Int) (r0 : S_api_Bits) (r1 : S_recordlinkmake_Deck) (h : rl_make_Deck_Bits p0 p1 = some (r0, r1)) : Con Try.prog 15 [.c (.ptr 0 3 0 0), .c (.t (.v (.int .i64 p1)))] [(0, .box 66 [.t (.tree p0.list.length 1 (Ri64 p0.list)), .t (.v (.int .i64 p0.at_)), .t (.v (.int .u64 p0.state))])] (.agg [.t (.v (.int .i64 r0.Length)), .ref 1 1 0 r0.Words.length]) [(0, .box 66 [.t (.tree r1.list.length 1 (Ri64 r1.list)), .t (.v (.int .i64 r1.at_)), .t (.v (.int .u64 r1.state))]), (1, .row 33 false 1 r0.Words.length (Ru64 r0.Words))] := by
  suffices H : ∀ r, rl_make_Deck_Bits p0 p1 = some r → Con Try.prog 15 [.c (.ptr 0 3 0 0), .c (.t (.v (.int .i64 p1)))] [(0, .box 66 [.t (.tree p0.list.length 1 (Ri64 p0.list)), .t (.v (.int .i64 p0.at_)), .t (.v (.int .u64 p0.state))])] (.agg [.t (.v (.int .i64 r.1.Length)), .ref 1 1 0 r.1.Words.length]) [(0, .box 66 [.t (.tree r.2.list.length 1 (Ri64 r.2.list)), .t (.v (.int .i64 r.2.at_)), .t (.v (.int .u64 r.2.state))]), (1, .row 33 false 1 r.1.Words.length (Ru64 r.1.Words))] from H (r0, r1) h
  clear h
  intro r h
  refine con_of tt_ok0 1 Try.func15 (by kernel_rfl) rfl (by kernel_rfl) (fun base X hk => AW.post ?_)
  unfold rl_make_Deck_Bits at h
  refine AW.seq ?_
  refine AW.reg tt_ok0 [0, 1, 4] [0, 1] [] ⟨[(4, .c (.ptr 1 2 0 0)), (0, .c (.ptr 0 3 0 0)), (1, .c (.t (.v (.int .i64 p1))))], [(1, .box 29 [.t (.v (.int .i64 0)), .t (.v (.slice none 0 0))]), (0, .box 66 [.t (.tree p0.list.length 1 (Ri64 p0.list)), .t (.v (.int .i64 p0.at_)), .t (.v (.int .u64 p0.state))])], 2⟩ [True] (by kernel_rfl) (by kernel_rfl) ⟨trivial, trivial⟩ ?_
  refine AW.thenQ_normal ?_
  refine AW.seq ?_
  refine AW.reg tt_ok0 [0, 1, 4, 5] [0, 1, 4] [] ⟨[(5, .c (.ptr 4 2 0 0)), (4, .c (.ptr 1 2 0 0)), (0, .c (.ptr 0 3 0 0)), (1, .c (.t (.v (.int .i64 p1))))], [(4, .box 29 [.t (.v (.int .i64 p1)), .t (.v (.slice none 0 0))]), (1, .box 29 [.t (.v (.int .i64 0)), .t (.v (.slice none 0 0))]), (0, .box 66 [.t (.tree p0.list.length 1 (Ri64 p0.list)), .t (.v (.int .i64 p0.at_)), .t (.v (.int .u64 p0.state))])], 6⟩ [True, True, True, True] (by kernel_rfl) (by kernel_rfl) ⟨trivial, trivial, trivial, trivial, trivial⟩ ?_
  refine AW.thenQ_normal ?_
  refine AW.seq ?_
  refine AW.seq ?_
  refine AW.reg tt_ok0 [0, 1, 4, 5, 6] [0, 1, 4] [] ⟨[(6, .c (.t (.v (.int .i64 0)))), (5, .c (.ptr 4 2 0 0)), (4, .c (.ptr 1 2 0 0)), (0, .c (.ptr 0 3 0 0)), (1, .c (.t (.v (.int .i64 p1))))], [(4, .box 29 [.t (.v (.int .i64 p1)), .t (.v (.slice none 0 0))]), (1, .box 29 [.t (.v (.int .i64 0)), .t (.v (.slice none 0 0))]), (0, .box 66 [.t (.tree p0.list.length 1 (Ri64 p0.list)), .t (.v (.int .i64 p0.at_)), .t (.v (.int .u64 p0.state))])], 7⟩ [True] (by kernel_rfl) (by kernel_rfl) ⟨trivial, trivial⟩ ?_
  refine AW.thenQ_normal ?_
  refine AW.block ?_
  obtain ⟨x35, x36, x37, x38, l39, h⟩ := bind4_some h
  refine AW.pre (S' := ((fun v => ⟨[(0, .c (.ptr 0 3 0 0)), (1, .c (.t (.v (.int .i64 p1)))), (4, .c (.ptr 1 2 0 0)), (5, .c (.ptr 2 2 0 0)), (6, .c (.t (.v (.int .i64 v.1))))], [(0, .box 66 [.t (.tree v.2.1.length 1 (Ri64 v.2.1)), .t (.v (.int .i64 v.2.2.1)), .t (.v (.int .u64 v.2.2.2.1))]), (1, .box 29 [.t (.v (.int .i64 0)), .t (.v (.slice none 0 0))]), (2, .box 29 [.t (.v (.int .i64 p1)), .ref 3 1 0 v.2.2.2.2.length]), (3, .row 33 false 1 v.2.2.2.2.length (Ru64 v.2.2.2.2))], 4⟩) : (Int × (List Int) × Int × Int × (List Int)) → St) (0, p0.list, p0.at_, p0.state, ([] : List Int))) (Conv.trans (conv_adoptB (id := 4) (ty0 := 29) (cs := [.t (.v (.int .i64 p1)), .t (.v (.slice none 0 0))]) 1 (ty := 33) (sz := 1) (n := ([] : List Int).length) (f := Ru64 ([] : List Int)) (by kernel_rfl) (by kernel_rfl) rfl) (conv_ren [(0, 0), (1, 1), (2, 4), (3, 7)] [0, 1, 4, 5, 6] (n := 4) (by kernel_rfl) (by kernel_rfl))) ?_
  refine AW.loop2 (step := (fun v : Int × (List Int) × Int × Int × (List Int) => rl_make_Deck_Bits_l16 p1 v.1 v.2.1 v.2.2.1 v.2.2.2.1 v.2.2.2.2)) (s0 := (0, p0.list, p0.at_, p0.state, ([] : List Int))) (t := (x35, x36, x37, x38)) (fun v => ⟨[(0, .c (.ptr 0 3 0 0)), (1, .c (.t (.v (.int .i64 p1)))), (4, .c (.ptr 1 2 0 0)), (5, .c (.ptr 2 2 0 0)), (6, .c (.t (.v (.int .i64 v.1))))], [(0, .box 66 [.t (.tree v.2.1.length 1 (Ri64 v.2.1)), .t (.v (.int .i64 v.2.2.1)), .t (.v (.int .u64 v.2.2.2.1))]), (1, .box 29 [.t (.v (.int .i64 0)), .t (.v (.slice none 0 0))]), (2, .box 29 [.t (.v (.int .i64 p1)), .ref 3 1 0 v.2.2.2.2.length]), (3, .row 33 false 1 v.2.2.2.2.length (Ru64 v.2.2.2.2))], 4⟩) (fun t : (List Int) × Int × Int × (List Int) => (.exit 0, ⟨[(4, .c (.ptr 1 2 0 0)), (5, .c (.ptr 2 2 0 0))], [(0, .box 66 [.t (.tree t.1.length 1 (Ri64 t.1)), .t (.v (.int .i64 t.2.1)), .t (.v (.int .u64 t.2.2.1))]), (1, .box 29 [.t (.v (.int .i64 0)), .t (.v (.slice none 0 0))]), (2, .box 29 [.t (.v (.int .i64 p1)), .ref 3 1 0 t.2.2.2.length]), (3, .row 33 false 1 t.2.2.2.length (Ru64 t.2.2.2))], 4⟩)) l39 (fun _ => trivial) ?_ ?_
  ·
    intro v o h
    obtain ⟨x6, x7, x8, x9, x10⟩ := v
    replace h : rl_make_Deck_Bits_l16 p1 x6 x7 x8 x9 x10 = some o := h
    unfold rl_make_Deck_Bits_l16 at h
    show AW _ ⟨[(0, .c (.ptr 0 3 0 0)), (1, .c (.t (.v (.int .i64 p1)))), (4, .c (.ptr 1 2 0 0)), (5, .c (.ptr 2 2 0 0)), (6, .c (.t (.v (.int .i64 x6))))], [(0, .box 66 [.t (.tree x7.length 1 (Ri64 x7)), .t (.v (.int .i64 x8)), .t (.v (.int .u64 x9))]), (1, .box 29 [.t (.v (.int .i64 0)), .t (.v (.slice none 0 0))]), (2, .box 29 [.t (.v (.int .i64 p1)), .ref 3 1 0 x10.length]), (3, .row 33 false 1 x10.length (Ru64 x10))], 4⟩ _ _
    refine AW.seq ?_
    refine AW.seq ?_
    refine AW.reg tt_ok0 [0, 1, 4, 5, 6, 13] [0, 1, 2, 3] [] ⟨[(13, .c (.t (.v (.bool (decide (x6 < (IntKind.i64.wrap (p1.tdiv 64)))))))), (0, .c (.ptr 0 3 0 0)), (1, .c (.t (.v (.int .i64 p1)))), (4, .c (.ptr 1 2 0 0)), (5, .c (.ptr 2 2 0 0)), (6, .c (.t (.v (.int .i64 x6))))], [(0, .box 66 [.t (.tree x7.length 1 (Ri64 x7)), .t (.v (.int .i64 x8)), .t (.v (.int .u64 x9))]), (1, .box 29 [.t (.v (.int .i64 0)), .t (.v (.slice none 0 0))]), (2, .box 29 [.t (.v (.int .i64 p1)), .ref 3 1 0 x10.length]), (3, .row 33 false 1 x10.length (Ru64 x10))], 8⟩ [True, True, (64 : Int) ≠ 0, True] (by kernel_rfl) (by kernel_rfl) ⟨trivial, trivial, (by decide), trivial, trivial⟩ ?_
    refine AW.thenQ_normal ?_
    refine AW.cond (b := decide (x6 < (IntKind.i64.wrap (p1.tdiv 64)))) (by kernel_rfl) (fun c15 => ?_) (fun c15 => ?_)
    · rw [if_pos c15] at h
      refine AW.skip ?_
      refine AW.thenQ_normal ?_
      refine AW.seq ?_
      refine AW.block ?_
      refine AW.seq ?_
      obtain ⟨y16, y17, e18, h⟩ := bind2_some h
      refine AW.reg tt_ok0 [0, 1, 4, 5, 6, 7] [0, 1, 2, 3] [{}, { call := some { ids := [0], frz := [], flat := false, cnt := 0, args := [.c (.ptr 0 3 0 0)], out := .c (.t (.v (.int .u64 y16))), outb := [(0, .box 66 [.t (.tree y17.list.length 1 (Ri64 y17.list)), .t (.v (.int .i64 y17.at_)), .t (.v (.int .u64 y17.state))])] } }] ⟨[(7, .c (.t (.v (.int .u64 y16)))), (0, .c (.ptr 0 3 0 0)), (1, .c (.t (.v (.int .i64 p1)))), (4, .c (.ptr 1 2 0 0)), (5, .c (.ptr 2 2 0 0)), (6, .c (.t (.v (.int .i64 x6))))], [(0, .box 66 [.t (.tree y17.list.length 1 (Ri64 y17.list)), .t (.v (.int .i64 y17.at_)), .t (.v (.int .u64 y17.state))]), (1, .box 29 [.t (.v (.int .i64 0)), .t (.v (.slice none 0 0))]), (2, .box 29 [.t (.v (.int .i64 p1)), .ref 3 1 0 x10.length]), (3, .row 33 false 1 x10.length (Ru64 x10))], 10⟩ [True, ((True) ∧ (True)) ∧ (All2 ArgLe [.c (.ptr 0 3 0 0)] [.c (.ptr 0 3 0 0)]) ∧ ((false = true → flatB [(0, .box 66 [.t (.tree y17.list.length 1 (Ri64 y17.list)), .t (.v (.int .i64 y17.at_)), .t (.v (.int .u64 y17.state))])])) ∧ (Con Try.prog 53 [.c (.ptr 0 3 0 0)] [(0, .box 66 [.t (.tree x7.length 1 (Ri64 x7)), .t (.v (.int .i64 x8)), .t (.v (.int .u64 x9))])] (.c (.t (.v (.int .u64 y16)))) [(0, .box 66 [.t (.tree y17.list.length 1 (Ri64 y17.list)), .t (.v (.int .i64 y17.at_)), .t (.v (.int .u64 y17.state))])]), True] (by kernel_rfl) (by kernel_rfl) ⟨trivial, ⟨⟨trivial, trivial⟩, ⟨ArgLe.refl _, trivial⟩, (fun h => by cases h), (rl_make_Deck_Word_con (⟨x7, x8, x9⟩ : S_recordlinkmake_Deck) y16 y17 e18)⟩, trivial, trivial⟩ ?_
      refine AW.thenQ_normal ?_
      refine AW.seq ?_
      refine AW.join (ι := Int × (List Int) × Int × Int) (fun v => ⟨[(0, .c (.ptr 0 3 0 0)), (1, .c (.t (.v (.int .i64 p1)))), (4, .c (.ptr 1 2 0 0)), (5, .c (.ptr 2 2 0 0)), (6, .c (.t (.v (.int .i64 x6)))), (7, .c (.t (.v (.int .u64 v.1))))], [(0, .box 66 [.t (.tree v.2.1.length 1 (Ri64 v.2.1)), .t (.v (.int .i64 v.2.2.1)), .t (.v (.int .u64 v.2.2.2))]), (1, .box 29 [.t (.v (.int .i64 0)), .t (.v (.slice none 0 0))]), (2, .box 29 [.t (.v (.int .i64 p1)), .ref 3 1 0 x10.length]), (3, .row 33 false 1 x10.length (Ru64 x10))], 4⟩) (fun v : Int × (List Int) × Int × Int => rl_make_Deck_Bits_k18 x6 x10 v.1 v.2.1 v.2.2.1 v.2.2.2 = some o) (fun v h => ?_) ?_
      ·
        obtain ⟨x19, x20, x21, x22⟩ := v
        replace h : rl_make_Deck_Bits_k18 x6 x10 x19 x20 x21 x22 = some o := h
        unfold rl_make_Deck_Bits_k18 at h
        show (_ : Exit → St → Prop) .normal ⟨[(0, .c (.ptr 0 3 0 0)), (1, .c (.t (.v (.int .i64 p1)))), (4, .c (.ptr 1 2 0 0)), (5, .c (.ptr 2 2 0 0)), (6, .c (.t (.v (.int .i64 x6)))), (7, .c (.t (.v (.int .u64 x19))))], [(0, .box 66 [.t (.tree x20.length 1 (Ri64 x20)), .t (.v (.int .i64 x21)), .t (.v (.int .u64 x22))]), (1, .box 29 [.t (.v (.int .i64 0)), .t (.v (.slice none 0 0))]), (2, .box 29 [.t (.v (.int .i64 p1)), .ref 3 1 0 x10.length]), (3, .row 33 false 1 x10.length (Ru64 x10))], 4⟩
        refine AW.thenQ_normal ?_
        obtain ⟨g23, h⟩ := ifc h
        refine AW.reg tt_ok0 [0, 1, 4, 5, 6] [0, 1, 2, 8] [{}, {}, {}, { h := { row := some (([x19] : List Int).length, Ru64 ([x19] : List Int)) } }, { h := { row := some ((x10 ++ ([x19] : List Int)).length, Ru64 (x10 ++ ([x19] : List Int))) } }] ⟨[(0, .c (.ptr 0 3 0 0)), (1, .c (.t (.v (.int .i64 p1)))), (4, .c (.ptr 1 2 0 0)), (5, .c (.ptr 2 2 0 0)), (6, .c (.t (.v (.int .i64 x6))))], [(2, .box 29 [.t (.v (.int .i64 p1)), .ref 8 1 0 ((x10 ++ ([x19] : List Int)).length)]), (8, .row 33 false 1 (x10 ++ ([x19] : List Int)).length (Ru64 (x10 ++ ([x19] : List Int)))), (0, .box 66 [.t (.tree x20.length 1 (Ri64 x20)), .t (.v (.int .i64 x21)), .t (.v (.int .u64 x22))]), (1, .box 29 [.t (.v (.int .i64 0)), .t (.v (.slice none 0 0))])], 11⟩ [True, True, True, 1 = ([x19] : List Int).length ∧ ∀ i, i < ([x19] : List Int).length → ∀ j, j < 1 → TLe ((rowOf [.v (.int .u64 x19)] 1) i j) (Ru64 ([x19] : List Int) i j), (x10.length = x10.length) ∧ (0 + ([x19] : List Int).length ≤ ([x19] : List Int).length) ∧ ((x10.length + ([x19] : List Int).length ≤ 1099511627776) ∧ ((8 : Nat) ≤ 128)) ∧ (x10.length + ([x19] : List Int).length = (x10 ++ ([x19] : List Int)).length ∧ ∀ i, i < (x10 ++ ([x19] : List Int)).length → ∀ j, j < 1 → TLe ((appRow x10.length (Ru64 x10) (fun i j => Ru64 ([x19] : List Int) (0 + i) j)) i j) (Ru64 (x10 ++ ([x19] : List Int)) i j)), True, True] (by kernel_rfl) (by kernel_rfl) ⟨trivial, trivial, trivial, ⟨rfl, lit_row (n := 1) (sz := 1) ⟨trivial, ⟨trivial, TLe.refl _⟩⟩⟩, ⟨rfl, le0, ⟨g23, (by decide)⟩, rowT (app_row rfl rfl row_rfl (fun i _ j _ => congrArg (fun k => Ru64 ([x19] : List Int) k j) (Nat.zero_add i)))⟩, trivial, trivial, trivial⟩ ?_
        refine AW.inBlock_normal ?_
        refine AW.thenQ_normal ?_
        refine AW.reg tt_ok0 [0, 1, 4, 5, 6] [0, 1, 2, 8] [] ⟨[(6, .c (.t (.v (.int .i64 (IntKind.i64.wrap (x6 + 1)))))), (0, .c (.ptr 0 3 0 0)), (1, .c (.t (.v (.int .i64 p1)))), (4, .c (.ptr 1 2 0 0)), (5, .c (.ptr 2 2 0 0))], [(2, .box 29 [.t (.v (.int .i64 p1)), .ref 8 1 0 ((x10 ++ ([x19] : List Int)).length)]), (8, .row 33 false 1 (x10 ++ ([x19] : List Int)).length (Ru64 (x10 ++ ([x19] : List Int)))), (0, .box 66 [.t (.tree x20.length 1 (Ri64 x20)), .t (.v (.int .i64 x21)), .t (.v (.int .u64 x22))]), (1, .box 29 [.t (.v (.int .i64 0)), .t (.v (.slice none 0 0))])], 14⟩ [True, True, True] (by kernel_rfl) (by kernel_rfl) ⟨trivial, trivial, trivial, trivial⟩ ?_
        obtain rfl := some_inj h
        refine loopQ_next (conv_ren [(0, 0), (1, 1), (2, 2), (3, 8)] [0, 1, 4, 5, 6] (n := 4) (by kernel_rfl) (by kernel_rfl))
      ·
        refine AW.seq ?_
        obtain ⟨y24, y25, e26, h⟩ := bind2_some h
        refine AW.reg tt_ok0 [0, 1, 4, 5, 6, 7, 19] [0, 1, 2, 3] [{}, { call := some { ids := [0], frz := [], flat := false, cnt := 0, args := [.c (.ptr 0 3 0 0), .c (.t (.v (.int .i64 4)))], out := .c (.t (.v (.int .i64 y24))), outb := [(0, .box 66 [.t (.tree y25.list.length 1 (Ri64 y25.list)), .t (.v (.int .i64 y25.at_)), .t (.v (.int .u64 y25.state))])] } }] ⟨[(19, .c (.t (.v (.int .i64 y24)))), (7, .c (.t (.v (.int .u64 y16)))), (0, .c (.ptr 0 3 0 0)), (1, .c (.t (.v (.int .i64 p1)))), (4, .c (.ptr 1 2 0 0)), (5, .c (.ptr 2 2 0 0)), (6, .c (.t (.v (.int .i64 x6))))], [(0, .box 66 [.t (.tree y25.list.length 1 (Ri64 y25.list)), .t (.v (.int .i64 y25.at_)), .t (.v (.int .u64 y25.state))]), (1, .box 29 [.t (.v (.int .i64 0)), .t (.v (.slice none 0 0))]), (2, .box 29 [.t (.v (.int .i64 p1)), .ref 3 1 0 x10.length]), (3, .row 33 false 1 x10.length (Ru64 x10))], 11⟩ [True, ((True) ∧ (True) ∧ (True)) ∧ (All2 ArgLe [.c (.ptr 0 3 0 0), .c (.t (.v (.int .i64 4)))] [.c (.ptr 0 3 0 0), .c (.t (.v (.int .i64 4)))]) ∧ ((false = true → flatB [(0, .box 66 [.t (.tree y25.list.length 1 (Ri64 y25.list)), .t (.v (.int .i64 y25.at_)), .t (.v (.int .u64 y25.state))])])) ∧ (Con Try.prog 16 [.c (.ptr 0 3 0 0), .c (.t (.v (.int .i64 4)))] [(0, .box 66 [.t (.tree y17.list.length 1 (Ri64 y17.list)), .t (.v (.int .i64 y17.at_)), .t (.v (.int .u64 y17.state))])] (.c (.t (.v (.int .i64 y24)))) [(0, .box 66 [.t (.tree y25.list.length 1 (Ri64 y25.list)), .t (.v (.int .i64 y25.at_)), .t (.v (.int .u64 y25.state))])])] (by kernel_rfl) (by kernel_rfl) ⟨trivial, ⟨⟨trivial, trivial, trivial⟩, ⟨ArgLe.refl _, ArgLe.refl _, trivial⟩, (fun h => by cases h), (rl_make_Deck_Next_con y17 4 y24 y25 e26)⟩, trivial⟩ ?_
        refine AW.thenQ_normal ?_
        refine AW.block ?_
        refine AW.seq ?_
        refine AW.reg tt_ok0 [0, 1, 4, 5, 6, 7, 19, 20] [0, 1, 2, 3] [] ⟨[(20, .c (.t (.v (.bool (y24 == 0))))), (19, .c (.t (.v (.int .i64 y24)))), (7, .c (.t (.v (.int .u64 y16)))), (0, .c (.ptr 0 3 0 0)), (1, .c (.t (.v (.int .i64 p1)))), (4, .c (.ptr 1 2 0 0)), (5, .c (.ptr 2 2 0 0)), (6, .c (.t (.v (.int .i64 x6))))], [(0, .box 66 [.t (.tree y25.list.length 1 (Ri64 y25.list)), .t (.v (.int .i64 y25.at_)), .t (.v (.int .u64 y25.state))]), (1, .box 29 [.t (.v (.int .i64 0)), .t (.v (.slice none 0 0))]), (2, .box 29 [.t (.v (.int .i64 p1)), .ref 3 1 0 x10.length]), (3, .row 33 false 1 x10.length (Ru64 x10))], 13⟩ [True, True] (by kernel_rfl) (by kernel_rfl) ⟨trivial, trivial, trivial⟩ ?_
        refine AW.thenQ_normal ?_
        refine AW.cond (b := (y24 == 0)) (by kernel_rfl) (fun c27 => ?_) (fun c27 => ?_)
        · rw [if_pos c27] at h
          obtain ⟨y28, y29, e30, h⟩ := bind2_some h
          obtain ⟨y31, y32, e33, h⟩ := bind2_some h
          refine AW.reg tt_ok0 [0, 1, 4, 5, 6, 7] [0, 1, 2, 3] [{}, {}, { call := some { ids := [0], frz := [], flat := false, cnt := 0, args := [.c (.ptr 0 3 0 0)], out := .c (.t (.v (.int .u64 y28))), outb := [(0, .box 66 [.t (.tree y29.list.length 1 (Ri64 y29.list)), .t (.v (.int .i64 y29.at_)), .t (.v (.int .u64 y29.state))])] } }, {}, { call := some { ids := [0], frz := [], flat := false, cnt := 0, args := [.c (.ptr 0 3 0 0)], out := .c (.t (.v (.int .u64 y31))), outb := [(0, .box 66 [.t (.tree y32.list.length 1 (Ri64 y32.list)), .t (.v (.int .i64 y32.at_)), .t (.v (.int .u64 y32.state))])] } }] ⟨[(7, .c (.t (.v (.int .u64 (iand .u64 y16 (iand .u64 y28 y31)))))), (0, .c (.ptr 0 3 0 0)), (1, .c (.t (.v (.int .i64 p1)))), (4, .c (.ptr 1 2 0 0)), (5, .c (.ptr 2 2 0 0)), (6, .c (.t (.v (.int .i64 x6))))], [(0, .box 66 [.t (.tree y32.list.length 1 (Ri64 y32.list)), .t (.v (.int .i64 y32.at_)), .t (.v (.int .u64 y32.state))]), (1, .box 29 [.t (.v (.int .i64 0)), .t (.v (.slice none 0 0))]), (2, .box 29 [.t (.v (.int .i64 p1)), .ref 3 1 0 x10.length]), (3, .row 33 false 1 x10.length (Ru64 x10))], 19⟩ [True, True, ((True) ∧ (True)) ∧ (All2 ArgLe [.c (.ptr 0 3 0 0)] [.c (.ptr 0 3 0 0)]) ∧ ((false = true → flatB [(0, .box 66 [.t (.tree y29.list.length 1 (Ri64 y29.list)), .t (.v (.int .i64 y29.at_)), .t (.v (.int .u64 y29.state))])])) ∧ (Con Try.prog 53 [.c (.ptr 0 3 0 0)] [(0, .box 66 [.t (.tree y25.list.length 1 (Ri64 y25.list)), .t (.v (.int .i64 y25.at_)), .t (.v (.int .u64 y25.state))])] (.c (.t (.v (.int .u64 y28)))) [(0, .box 66 [.t (.tree y29.list.length 1 (Ri64 y29.list)), .t (.v (.int .i64 y29.at_)), .t (.v (.int .u64 y29.state))])]), True, ((True) ∧ (True)) ∧ (All2 ArgLe [.c (.ptr 0 3 0 0)] [.c (.ptr 0 3 0 0)]) ∧ ((false = true → flatB [(0, .box 66 [.t (.tree y32.list.length 1 (Ri64 y32.list)), .t (.v (.int .i64 y32.at_)), .t (.v (.int .u64 y32.state))])])) ∧ (Con Try.prog 53 [.c (.ptr 0 3 0 0)] [(0, .box 66 [.t (.tree y29.list.length 1 (Ri64 y29.list)), .t (.v (.int .i64 y29.at_)), .t (.v (.int .u64 y29.state))])] (.c (.t (.v (.int .u64 y31)))) [(0, .box 66 [.t (.tree y32.list.length 1 (Ri64 y32.list)), .t (.v (.int .i64 y32.at_)), .t (.v (.int .u64 y32.state))])]), True, True, True] (by kernel_rfl) (by kernel_rfl) ⟨trivial, trivial, ⟨⟨trivial, trivial⟩, ⟨ArgLe.refl _, trivial⟩, (fun h => by cases h), (rl_make_Deck_Word_con y25 y28 y29 e30)⟩, trivial, ⟨⟨trivial, trivial⟩, ⟨ArgLe.refl _, trivial⟩, (fun h => by cases h), (rl_make_Deck_Word_con y29 y31 y32 e33)⟩, trivial, trivial, trivial, trivial⟩ ?_
          refine AW.inBlock_normal ?_
          exact joinQ_leaf ((iand .u64 y16 (iand .u64 y28 y31), y32.list, y32.at_, y32.state)) h (conv_ren [(0, 0), (1, 1), (2, 2), (3, 3)] [0, 1, 4, 5, 6, 7] (n := 4) (by kernel_rfl) (by kernel_rfl))
        · rw [if_neg (by rw [c27]; exact Bool.false_ne_true)] at h
          refine AW.seq ?_
          refine AW.reg tt_ok0 [0, 1, 4, 5, 6, 7, 29] [0, 1, 2, 3] [] ⟨[(29, .c (.t (.v (.bool (y24 == 1))))), (7, .c (.t (.v (.int .u64 y16)))), (0, .c (.ptr 0 3 0 0)), (1, .c (.t (.v (.int .i64 p1)))), (4, .c (.ptr 1 2 0 0)), (5, .c (.ptr 2 2 0 0)), (6, .c (.t (.v (.int .i64 x6))))], [(0, .box 66 [.t (.tree y25.list.length 1 (Ri64 y25.list)), .t (.v (.int .i64 y25.at_)), .t (.v (.int .u64 y25.state))]), (1, .box 29 [.t (.v (.int .i64 0)), .t (.v (.slice none 0 0))]), (2, .box 29 [.t (.v (.int .i64 p1)), .ref 3 1 0 x10.length]), (3, .row 33 false 1 x10.length (Ru64 x10))], 15⟩ [True, True] (by kernel_rfl) (by kernel_rfl) ⟨trivial, trivial, trivial⟩ ?_
          refine AW.thenQ_normal ?_
          refine AW.cond (b := (y24 == 1)) (by kernel_rfl) (fun c34 => ?_) (fun c34 => ?_)
          · rw [if_pos c34] at h
            refine AW.reg tt_ok0 [0, 1, 4, 5, 6, 7] [0, 1, 2, 3] [] ⟨[(7, .c (.t (.v (.int .u64 0)))), (0, .c (.ptr 0 3 0 0)), (1, .c (.t (.v (.int .i64 p1)))), (4, .c (.ptr 1 2 0 0)), (5, .c (.ptr 2 2 0 0)), (6, .c (.t (.v (.int .i64 x6))))], [(0, .box 66 [.t (.tree y25.list.length 1 (Ri64 y25.list)), .t (.v (.int .i64 y25.at_)), .t (.v (.int .u64 y25.state))]), (1, .box 29 [.t (.v (.int .i64 0)), .t (.v (.slice none 0 0))]), (2, .box 29 [.t (.v (.int .i64 p1)), .ref 3 1 0 x10.length]), (3, .row 33 false 1 x10.length (Ru64 x10))], 16⟩ [True] (by kernel_rfl) (by kernel_rfl) ⟨trivial, trivial⟩ ?_
            refine AW.inBlock_normal ?_
            exact joinQ_leaf ((0, y25.list, y25.at_, y25.state)) h (conv_ren [(0, 0), (1, 1), (2, 2), (3, 3)] [0, 1, 4, 5, 6, 7] (n := 4) (by kernel_rfl) (by kernel_rfl))
          · rw [if_neg (by rw [c34]; exact Bool.false_ne_true)] at h
            refine AW.skip ?_
            refine AW.inBlock_normal ?_
            exact joinQ_leaf ((y16, y25.list, y25.at_, y25.state)) h (conv_ren [(0, 0), (1, 1), (2, 2), (3, 3)] [0, 1, 4, 5, 6, 7] (n := 4) (by kernel_rfl) (by kernel_rfl))
    · rw [if_neg (by rw [c15]; exact Bool.false_ne_true)] at h
      refine AW.exit ?_
      refine AW.thenQ_exit ?_
      obtain rfl := some_inj h
      refine loopQ_out rfl (conv_ren [(0, 0), (1, 1), (2, 2), (3, 3)] [4, 5] (n := 4) (by kernel_rfl) (by kernel_rfl))
  ·
    show (_ : Exit → St → Prop) (.exit 0) ⟨[(4, .c (.ptr 1 2 0 0)), (5, .c (.ptr 2 2 0 0))], [(0, .box 66 [.t (.tree x35.length 1 (Ri64 x35)), .t (.v (.int .i64 x36)), .t (.v (.int .u64 x37))]), (1, .box 29 [.t (.v (.int .i64 0)), .t (.v (.slice none 0 0))]), (2, .box 29 [.t (.v (.int .i64 p1)), .ref 3 1 0 x38.length]), (3, .row 33 false 1 x38.length (Ru64 x38))], 4⟩
    refine AW.inBlock_hit ?_
    refine AW.thenQ_normal ?_
    refine AW.seq ?_
    refine AW.reg tt_ok0 [4] [0, 1, 3] [] ⟨[(4, .c (.ptr 1 2 0 0))], [(1, .box 29 [.t (.v (.int .i64 p1)), .ref 3 1 0 x38.length]), (0, .box 66 [.t (.tree x35.length 1 (Ri64 x35)), .t (.v (.int .i64 x36)), .t (.v (.int .u64 x37))]), (3, .row 33 false 1 x38.length (Ru64 x38))], 6⟩ [True, True] (by kernel_rfl) (by kernel_rfl) ⟨trivial, trivial, trivial⟩ ?_
    refine AW.thenQ_normal ?_
    refine AW.ret ?_
    obtain rfl := some_inj h
    exact ⟨_, Conv.refl _ _, .inr rfl, OutOk.mk [(0, 0), (1, 3)] 2 (out0 := .agg [.t (.v (.int .i64 p1)), .ref 3 1 0 x38.length]) (ps := [True]) (by kernel_rfl) ⟨trivial, trivial⟩ (by kernel_rfl) (by kernel_rfl)⟩
/-! recordlink/bitset.New -/
noncomputable def bitset_New (p0 : Int) : Option (S_api_Bits × Int) := (bitset_right p0).bind fun y1 => (if (!y1) = true then (some ((⟨0, ([] : List Int)⟩ : S_api_Bits), 2)) else (if 0 ≤ (IntKind.i64.wrap (p0.tdiv 64)) then (if (IntKind.i64.wrap (p0.tdiv 64)) ≤ 1099511627776 then (some ((⟨p0, (List.replicate ((IntKind.i64.wrap (p0.tdiv 64)).toNat) (0 : Int))⟩ : S_api_Bits), 0)) else none) else none))
set_option maxRecDepth 100000 in
set_option maxHeartbeats 10000000 in
theorem bitset_New_con (p0 : Int) (r0 : S_api_Bits) (r1 : Int) (h : bitset_New p0 = some (r0, r1)) : Con Try.prog 39 [.c (.t (.v (.int .i64 p0)))] [] (.tup [.agg [.t (.v (.int .i64 r0.Length)), .ref 0 1 0 r0.Words.length], .c (.t (.v (.int .i64 r1)))]) [(0, .row 33 false 1 r0.Words.length (Ru64 r0.Words))] := by
  suffices H : ∀ r, bitset_New p0 = some r → Con Try.prog 39 [.c (.t (.v (.int .i64 p0)))] [] (.tup [.agg [.t (.v (.int .i64 r.1.Length)), .ref 0 1 0 r.1.Words.length], .c (.t (.v (.int .i64 r.2)))]) [(0, .row 33 false 1 r.1.Words.length (Ru64 r.1.Words))] from H (r0, r1) h
  clear h
  intro r h
  refine con_of tt_ok0 0 Try.func39 (by kernel_rfl) rfl (by kernel_rfl) (fun base X hk => AW.post ?_)
  unfold bitset_New at h
  refine AW.seq ?_
  refine AW.reg tt_ok0 [0, 2] [0] [] ⟨[(2, .c (.ptr 0 2 0 0)), (0, .c (.t (.v (.int .i64 p0))))], [(0, .box 29 [.t (.v (.int .i64 0)), .t (.v (.slice none 0 0))])], 2⟩ [True, True] (by kernel_rfl) (by kernel_rfl) ⟨trivial, trivial, trivial⟩ ?_
  refine AW.thenQ_normal ?_
  refine AW.seq ?_
  refine AW.seq ?_
  obtain ⟨y1, e2, h⟩ := bnd_some h
  refine AW.reg tt_ok0 [0, 2, 6] [0] [{}, { call := some { ids := [], frz := [], flat := true, cnt := 0, args := [.c (.t (.v (.int .i64 p0)))], out := .c (.t (.v (.bool y1))), outb := [] } }] ⟨[(6, .c (.t (.v (.bool (!y1))))), (2, .c (.ptr 0 2 0 0)), (0, .c (.t (.v (.int .i64 p0))))], [(0, .box 29 [.t (.v (.int .i64 0)), .t (.v (.slice none 0 0))])], 4⟩ [True, ((True) ∧ (True)) ∧ (All2 ArgLe [.c (.t (.v (.int .i64 p0)))] [.c (.t (.v (.int .i64 p0)))]) ∧ ((true = true → flatB [])) ∧ (Con Try.prog 66 [.c (.t (.v (.int .i64 p0)))] [] (.c (.t (.v (.bool y1)))) []), True] (by kernel_rfl) (by kernel_rfl) ⟨trivial, ⟨⟨trivial, trivial⟩, ⟨ArgLe.refl _, trivial⟩, (fun _ => trivial), (bitset_right_con p0 y1 e2)⟩, trivial, trivial⟩ ?_
  refine AW.thenQ_normal ?_
  refine AW.cond (b := !y1) (by kernel_rfl) (fun c3 => ?_) (fun c3 => ?_)
  · rw [if_pos c3] at h
    refine AW.seq ?_
    refine AW.reg tt_ok0 [2, 3] [0] [] ⟨[(3, .c (.t (.v (.int .i64 2)))), (2, .c (.ptr 0 2 0 0))], [(0, .box 29 [.t (.v (.int .i64 0)), .t (.v (.slice none 0 0))])], 7⟩ [True, True, True] (by kernel_rfl) (by kernel_rfl) ⟨trivial, trivial, trivial, trivial⟩ ?_
    refine AW.thenQ_normal ?_
    refine AW.ret ?_
    refine AW.thenQ_ret ?_
    obtain rfl := some_inj h
    exact ⟨_, conv_adoptB (id := 0) (ty0 := 29) (cs := [.t (.v (.int .i64 0)), .t (.v (.slice none 0 0))]) 1 (ty := 33) (sz := 1) (n := ([] : List Int).length) (f := Ru64 ([] : List Int)) (by kernel_rfl) (by kernel_rfl) rfl, .inr rfl, OutOk.mk [(0, 7)] 1 (out0 := .tup [.agg [.t (.v (.int .i64 0)), .ref 7 1 0 (([] : List Int).length)], .c (.t (.v (.int .i64 2)))]) (ps := [True, True]) (by kernel_rfl) ⟨trivial, trivial, trivial⟩ (by kernel_rfl) (by kernel_rfl)⟩
  · rw [if_neg (by rw [c3]; exact Bool.false_ne_true)] at h
    refine AW.skip ?_
    refine AW.thenQ_normal ?_
    refine AW.seq ?_
    obtain ⟨g4, h⟩ := ifc h
    obtain ⟨g5, h⟩ := ifc h
    refine AW.reg tt_ok0 [2, 3] [0, 7] [{}, {}, {}, { h := { row := some ((List.replicate ((IntKind.i64.wrap (p0.tdiv 64)).toNat) (0 : Int)).length, Ru64 (List.replicate ((IntKind.i64.wrap (p0.tdiv 64)).toNat) (0 : Int))) } }] ⟨[(3, .c (.t (.v (.int .i64 0)))), (2, .c (.ptr 0 2 0 0))], [(0, .box 29 [.t (.v (.int .i64 p0)), .ref 7 1 0 ((List.replicate ((IntKind.i64.wrap (p0.tdiv 64)).toNat) (0 : Int)).length)]), (7, .row 33 false 1 (List.replicate ((IntKind.i64.wrap (p0.tdiv 64)).toNat) (0 : Int)).length (Ru64 (List.replicate ((IntKind.i64.wrap (p0.tdiv 64)).toNat) (0 : Int))))], 11⟩ [True, True, (64 : Int) ≠ 0, ((0 ≤ (IntKind.i64.wrap (p0.tdiv 64))) ∧ ((IntKind.i64.wrap (p0.tdiv 64)) ≤ (IntKind.i64.wrap (p0.tdiv 64))) ∧ ((IntKind.i64.wrap (p0.tdiv 64)) ≤ 1099511627776) ∧ ((8 : Nat) ≤ 128)) ∧ ((IntKind.i64.wrap (p0.tdiv 64)).toNat = (List.replicate ((IntKind.i64.wrap (p0.tdiv 64)).toNat) (0 : Int)).length ∧ ∀ i, i < (List.replicate ((IntKind.i64.wrap (p0.tdiv 64)).toNat) (0 : Int)).length → ∀ j, j < 1 → TLe ((fun _ j => .v (([.int .u64 0] : List Value).getD j undef)) i j) (Ru64 (List.replicate ((IntKind.i64.wrap (p0.tdiv 64)).toNat) (0 : Int)) i j)), True, True, True] (by kernel_rfl) (by kernel_rfl) ⟨trivial, trivial, (by decide), ⟨⟨g4, Int.le_refl _, g5, (by decide)⟩, mk_row (fun j hj => match j, hj with | 0, _ => TLe.refl _ | _ + 1, h => absurd h (by omega))⟩, trivial, trivial, trivial, trivial⟩ ?_
    refine AW.thenQ_normal ?_
    refine AW.ret ?_
    obtain rfl := some_inj h
    exact ⟨_, Conv.refl _ _, .inr rfl, OutOk.mk [(0, 7)] 1 (out0 := .tup [.agg [.t (.v (.int .i64 p0)), .ref 7 1 0 ((List.replicate ((IntKind.i64.wrap (p0.tdiv 64)).toNat) (0 : Int)).length)], .c (.t (.v (.int .i64 0)))]) (ps := [True, True]) (by kernel_rfl) ⟨trivial, trivial, trivial⟩ (by kernel_rfl) (by kernel_rfl)⟩
/-! slices.Clone[[]uint64,uint64] -/
noncomputable def slices_Clone_uint64 (p0 : List Int) : Option (List Int) := orBoth (p0.length = 0) (some ([] : List Int)) (if ([] : List Int).length + p0.length ≤ 1099511627776 then (some (([] : List Int) ++ p0)) else none)
set_option maxRecDepth 100000 in
set_option maxHeartbeats 10000000 in
theorem slices_Clone_uint64_con (p0 : List Int) (r0 : List Int) (h : slices_Clone_uint64 p0 = some r0) : Con Try.prog 54 [.c (.t (.tree p0.length 1 (Ru64 p0)))] [] (.c (.ref 0 1 0 r0.length)) [(0, .row 33 false 1 r0.length (Ru64 r0))] := by
  revert h; generalize r0 = r; intro h
  refine con_of tt_ok0 0 Try.func54 (by kernel_rfl) rfl (by kernel_rfl) (fun base X hk => AW.post ?_)
  unfold slices_Clone_uint64 at h
  refine AW.seq ?_
  refine AW.reg tt_ok0 [0] [] [] ⟨[(0, .c (.t (.tree p0.length 1 (Ru64 p0))))], [], 1⟩ [True] (by kernel_rfl) (by kernel_rfl) ⟨trivial, trivial⟩ ?_
  refine AW.thenQ_normal ?_
  refine AW.seq ?_
  refine AW.seq ?_
  refine AW.reg tt_ok0 [0, 4] [] [] ⟨[(4, .c (.t (.tst (p0.length = 0)))), (0, .c (.t (.tree p0.length 1 (Ru64 p0))))], [], 3⟩ [True, (1 : Nat) ≠ 0] (by kernel_rfl) (by kernel_rfl) ⟨trivial, (by decide), trivial⟩ ?_
  refine AW.thenQ_normal ?_
  refine AW.cond_tst (p := p0.length = 0) (by kernel_rfl) (fun c1 => ?_) ?_
  · replace h := (orBoth_some h).1 c1
    refine AW.seq ?_
    refine AW.reg tt_ok0 [2] [] [] ⟨[(2, .c (.t (.v (.slice none 0 0))))], [], 4⟩ [True] (by kernel_rfl) (by kernel_rfl) ⟨trivial, trivial⟩ ?_
    refine AW.thenQ_normal ?_
    refine AW.ret ?_
    refine AW.thenQ_ret ?_
    obtain rfl := some_inj h
    exact ⟨_, conv_adopt (t := 2) (ty := 33) (sz := 1) (n := ([] : List Int).length) (f := Ru64 ([] : List Int)) (by kernel_rfl) rfl, .inr rfl, OutOk.mk [(0, 4)] 1 (out0 := .c (.ref 4 1 0 (([] : List Int).length))) (ps := [True]) (by kernel_rfl) ⟨trivial, trivial⟩ (by kernel_rfl) (by kernel_rfl)⟩
  · replace h := (orBoth_some h).2
    refine AW.skip ?_
    refine AW.thenQ_normal ?_
    refine AW.seq ?_
    obtain ⟨g2, h⟩ := ifc h
    refine AW.reg tt_ok0 [2] [5] [{ h := { row := some (([] : List Int).length, Ru64 ([] : List Int)) } }, {}, { h := { row := some ((([] : List Int) ++ p0).length, Ru64 (([] : List Int) ++ p0)) } }] ⟨[(2, .c (.ref 5 1 0 ((([] : List Int) ++ p0).length)))], [(5, .row 33 false 1 (([] : List Int) ++ p0).length (Ru64 (([] : List Int) ++ p0)))], 7⟩ [0 = ([] : List Int).length ∧ ∀ i, i < ([] : List Int).length → ∀ j, j < 1 → TLe ((rowOf [] 1) i j) (Ru64 ([] : List Int) i j), True, (([] : List Int).length = ([] : List Int).length) ∧ (True) ∧ ((([] : List Int).length + p0.length ≤ 1099511627776) ∧ ((8 : Nat) ≤ 128)) ∧ (([] : List Int).length + p0.length = (([] : List Int) ++ p0).length ∧ ∀ i, i < (([] : List Int) ++ p0).length → ∀ j, j < 1 → TLe ((appRow (([] : List Int).length) (Ru64 ([] : List Int)) (Ru64 p0)) i j) (Ru64 (([] : List Int) ++ p0) i j)), True] (by kernel_rfl) (by kernel_rfl) ⟨⟨rfl, lit_row (n := 0) (sz := 1) trivial⟩, trivial, ⟨rfl, trivial, ⟨g2, (by decide)⟩, rowT (app_row rfl rfl row_rfl row_rfl)⟩, trivial, trivial⟩ ?_
    refine AW.thenQ_normal ?_
    refine AW.ret ?_
    obtain rfl := some_inj h
    exact ⟨_, Conv.refl _ _, .inr rfl, OutOk.mk [(0, 5)] 1 (out0 := .c (.ref 5 1 0 ((([] : List Int) ++ p0).length))) (ps := [True]) (by kernel_rfl) ⟨trivial, trivial⟩ (by kernel_rfl) (by kernel_rfl)⟩
/-! recordlink/bitset.Set -/
noncomputable def bitset_Set_k4 (p0 : S_api_Bits) (p1 : Int) (x4 : Bool) : Option (S_api_Bits × Int) := if x4 = true then (some ((⟨0, ([] : List Int)⟩ : S_api_Bits), 2)) else ((slices_Clone_uint64 p0.Words).bind fun y6 => (if 0 ≤ (IntKind.i64.wrap (p1.tdiv 64)) then (if (IntKind.i64.wrap (p1.tdiv 64)) < ((y6.length : Nat) : Int) then (if 0 ≤ (p1.tmod 64) then (some ((⟨p0.Length, (y6.set (0 + (IntKind.i64.wrap (p1.tdiv 64)).toNat) (ior .u64 (y6.getD (0 + (IntKind.i64.wrap (p1.tdiv 64)).toNat) 0) (ishl .u64 1 (p1.tmod 64))))⟩ : S_api_Bits), 0)) else none) else none) else none))
noncomputable def bitset_Set (p0 : S_api_Bits) (p1 : Int) : Option (S_api_Bits × Int) := (bitset_Valid p0).bind fun y1 => (if (!y1) = true then (some ((⟨0, ([] : List Int)⟩ : S_api_Bits), 8)) else (if (decide (p1 < 0)) = true then (bitset_Set_k4 p0 p1 true) else (bitset_Set_k4 p0 p1 (decide (p1 ≥ p0.Length)))))
set_option maxRecDepth 100000 in
set_option maxHeartbeats 10000000 in
theorem bitset_Set_con (p0 : S_api_Bits) (p1 : Int) (r0 : S_api_Bits) (r1 : Int) (h : bitset_Set p0 p1 = some (r0, r1)) : Con Try.prog 19 [.agg [.t (.v (.int .i64 p0.Length)), .t (.tree p0.Words.length 1 (Ru64 p0.Words))], .c (.t (.v (.int .i64 p1)))] [] (.tup [.agg [.t (.v (.int .i64 r0.Length)), .ref 0 1 0 r0.Words.length], .c (.t (.v (.int .i64 r1)))]) [(0, .row 33 false 1 r0.Words.length (Ru64 r0.Words))] := by
  suffices H : ∀ r, bitset_Set p0 p1 = some r → Con Try.prog 19 [.agg [.t (.v (.int .i64 p0.Length)), .t (.tree p0.Words.length 1 (Ru64 p0.Words))], .c (.t (.v (.int .i64 p1)))] [] (.tup [.agg [.t (.v (.int .i64 r.1.Length)), .ref 0 1 0 r.1.Words.length], .c (.t (.v (.int .i64 r.2)))]) [(0, .row 33 false 1 r.1.Words.length (Ru64 r.1.Words))] from H (r0, r1) h
  clear h
  intro r h
  refine con_of tt_ok0 0 Try.func19 (by kernel_rfl) rfl (by kernel_rfl) (fun base X hk => AW.post ?_)
  unfold bitset_Set at h
  refine AW.seq ?_
  refine AW.reg tt_ok0 [1, 2, 4] [0, 1] [] ⟨[(4, .c (.ptr 1 2 0 0)), (2, .c (.ptr 0 2 0 0)), (1, .c (.t (.v (.int .i64 p1))))], [(1, .box 29 [.t (.v (.int .i64 0)), .t (.v (.slice none 0 0))]), (0, .box 29 [.t (.v (.int .i64 p0.Length)), .t (.tree p0.Words.length 1 (Ru64 p0.Words))])], 3⟩ [True, True, True] (by kernel_rfl) (by kernel_rfl) ⟨trivial, trivial, trivial, trivial⟩ ?_
  refine AW.thenQ_normal ?_
  refine AW.seq ?_
  refine AW.block ?_
  refine AW.seq ?_
  obtain ⟨y1, e2, h⟩ := bnd_some h
  refine AW.reg tt_ok0 [1, 2, 4, 6] [0, 1] [{}, { call := some { ids := [], frz := [], flat := true, cnt := 0, args := [.agg [.t (.v (.int .i64 p0.Length)), .t (.tree p0.Words.length 1 (Ru64 p0.Words))]], out := .c (.t (.v (.bool y1))), outb := [] } }] ⟨[(6, .c (.t (.v (.bool (!y1))))), (4, .c (.ptr 1 2 0 0)), (2, .c (.ptr 0 2 0 0)), (1, .c (.t (.v (.int .i64 p1))))], [(1, .box 29 [.t (.v (.int .i64 0)), .t (.v (.slice none 0 0))]), (0, .box 29 [.t (.v (.int .i64 p0.Length)), .t (.tree p0.Words.length 1 (Ru64 p0.Words))])], 6⟩ [True, (((True) ∧ (True) ∧ (True)) ∧ (True)) ∧ (All2 ArgLe [.agg [.t (.v (.int .i64 p0.Length)), .t (.tree p0.Words.length 1 (Ru64 p0.Words))]] [.agg [.t (.v (.int .i64 p0.Length)), .t (.tree p0.Words.length 1 (Ru64 p0.Words))]]) ∧ ((true = true → flatB [])) ∧ (Con Try.prog 49 [.agg [.t (.v (.int .i64 p0.Length)), .t (.tree p0.Words.length 1 (Ru64 p0.Words))]] [] (.c (.t (.v (.bool y1)))) []), True, True] (by kernel_rfl) (by kernel_rfl) ⟨trivial, ⟨⟨⟨trivial, trivial, trivial⟩, trivial⟩, ⟨ArgLe.refl _, trivial⟩, (fun _ => trivial), (bitset_Valid_con p0 y1 e2)⟩, trivial, trivial, trivial⟩ ?_
  refine AW.thenQ_normal ?_
  refine AW.cond (b := !y1) (by kernel_rfl) (fun c3 => ?_) (fun c3 => ?_)
  · rw [if_pos c3] at h
    refine AW.seq ?_
    refine AW.reg tt_ok0 [4, 5] [1] [] ⟨[(5, .c (.t (.v (.int .i64 8)))), (4, .c (.ptr 1 2 0 0))], [(1, .box 29 [.t (.v (.int .i64 0)), .t (.v (.slice none 0 0))])], 9⟩ [True, True, True] (by kernel_rfl) (by kernel_rfl) ⟨trivial, trivial, trivial, trivial⟩ ?_
    refine AW.thenQ_normal ?_
    refine AW.ret ?_
    refine AW.inBlock_ret ?_
    refine AW.thenQ_ret ?_
    obtain rfl := some_inj h
    exact ⟨_, conv_adoptB (id := 1) (ty0 := 29) (cs := [.t (.v (.int .i64 0)), .t (.v (.slice none 0 0))]) 1 (ty := 33) (sz := 1) (n := ([] : List Int).length) (f := Ru64 ([] : List Int)) (by kernel_rfl) (by kernel_rfl) rfl, .inr rfl, OutOk.mk [(0, 9)] 1 (out0 := .tup [.agg [.t (.v (.int .i64 0)), .ref 9 1 0 (([] : List Int).length)], .c (.t (.v (.int .i64 8)))]) (ps := [True, True]) (by kernel_rfl) ⟨trivial, trivial, trivial⟩ (by kernel_rfl) (by kernel_rfl)⟩
  · rw [if_neg (by rw [c3]; exact Bool.false_ne_true)] at h
    refine AW.seq ?_
    refine AW.join (ι := Bool) (fun v => ⟨[(1, .c (.t (.v (.int .i64 p1)))), (2, .c (.ptr 0 2 0 0)), (4, .c (.ptr 1 2 0 0)), (11, .c (.t (.v (.bool v))))], [(0, .box 29 [.t (.v (.int .i64 p0.Length)), .t (.tree p0.Words.length 1 (Ru64 p0.Words))]), (1, .box 29 [.t (.v (.int .i64 0)), .t (.v (.slice none 0 0))])], 2⟩) (fun v : Bool => bitset_Set_k4 p0 p1 v = some r) (fun v h => ?_) ?_
    ·
      obtain ⟨x4, rfl⟩ : ∃ x, x = v := ⟨_, rfl⟩
      replace h : bitset_Set_k4 p0 p1 x4 = some r := h
      unfold bitset_Set_k4 at h
      show (_ : Exit → St → Prop) .normal ⟨[(1, .c (.t (.v (.int .i64 p1)))), (2, .c (.ptr 0 2 0 0)), (4, .c (.ptr 1 2 0 0)), (11, .c (.t (.v (.bool x4))))], [(0, .box 29 [.t (.v (.int .i64 p0.Length)), .t (.tree p0.Words.length 1 (Ru64 p0.Words))]), (1, .box 29 [.t (.v (.int .i64 0)), .t (.v (.slice none 0 0))])], 2⟩
      refine AW.thenQ_normal ?_
      refine AW.cond (b := x4) (by kernel_rfl) (fun c5 => ?_) (fun c5 => ?_)
      · rw [if_pos c5] at h
        refine AW.seq ?_
        refine AW.reg tt_ok0 [4, 5] [1] [] ⟨[(5, .c (.t (.v (.int .i64 2)))), (4, .c (.ptr 1 2 0 0))], [(1, .box 29 [.t (.v (.int .i64 0)), .t (.v (.slice none 0 0))])], 5⟩ [True, True, True] (by kernel_rfl) (by kernel_rfl) ⟨trivial, trivial, trivial, trivial⟩ ?_
        refine AW.thenQ_normal ?_
        refine AW.ret ?_
        refine AW.inBlock_ret ?_
        refine AW.thenQ_ret ?_
        obtain rfl := some_inj h
        exact ⟨_, conv_adoptB (id := 1) (ty0 := 29) (cs := [.t (.v (.int .i64 0)), .t (.v (.slice none 0 0))]) 1 (ty := 33) (sz := 1) (n := ([] : List Int).length) (f := Ru64 ([] : List Int)) (by kernel_rfl) (by kernel_rfl) rfl, .inr rfl, OutOk.mk [(0, 5)] 1 (out0 := .tup [.agg [.t (.v (.int .i64 0)), .ref 5 1 0 (([] : List Int).length)], .c (.t (.v (.int .i64 2)))]) (ps := [True, True]) (by kernel_rfl) ⟨trivial, trivial, trivial⟩ (by kernel_rfl) (by kernel_rfl)⟩
      · rw [if_neg (by rw [c5]; exact Bool.false_ne_true)] at h
        refine AW.skip ?_
        refine AW.inBlock_normal ?_
        refine AW.thenQ_normal ?_
        refine AW.seq ?_
        obtain ⟨y6, e7, h⟩ := bnd_some h
        refine AW.reg tt_ok0 [1, 2, 4] [0, 1, 4] [{}, {}, { call := some { ids := [], frz := [], flat := true, cnt := 1, args := [.c (.t (.tree p0.Words.length 1 (Ru64 p0.Words)))], out := .c (.ref 0 1 0 y6.length), outb := [(0, .row 33 false 1 y6.length (Ru64 y6))] } }] ⟨[(1, .c (.t (.v (.int .i64 p1)))), (2, .c (.ptr 0 2 0 0)), (4, .c (.ptr 1 2 0 0))], [(0, .box 29 [.t (.v (.int .i64 p0.Length)), .ref 4 1 0 y6.length]), (4, .row 33 false 1 y6.length (Ru64 y6)), (1, .box 29 [.t (.v (.int .i64 0)), .t (.v (.slice none 0 0))])], 7⟩ [True, True, ((True) ∧ (True)) ∧ (All2 ArgLe [.c (.t (.tree p0.Words.length 1 (Ru64 p0.Words)))] [.c (.t (.tree p0.Words.length 1 (Ru64 p0.Words)))]) ∧ ((true = true → flatB [(0, .row 33 false 1 y6.length (Ru64 y6))])) ∧ (Con Try.prog 54 [.c (.t (.tree p0.Words.length 1 (Ru64 p0.Words)))] [] (.c (.ref 0 1 0 y6.length)) [(0, .row 33 false 1 y6.length (Ru64 y6))]), True, True] (by kernel_rfl) (by kernel_rfl) ⟨trivial, trivial, ⟨⟨trivial, trivial⟩, ⟨ArgLe.refl _, trivial⟩, (fun _ => ⟨rowL_flat Vu64 _ _ _, trivial⟩), (slices_Clone_uint64_con p0.Words y6 e7)⟩, trivial, trivial, trivial⟩ ?_
        refine AW.thenQ_normal ?_
        refine AW.seq ?_
        obtain ⟨g8, h⟩ := ifc h
        obtain ⟨g9, h⟩ := ifc h
        obtain ⟨g10, h⟩ := ifc h
        refine AW.regD tt_ok0 mo0 [0, 1, 0, 4, 15, 31, 0, 64, 192, 511, 1023, 2047] [[], [], [], [], [], [], [], [], [], [], [], [4]] [2, 4] [0, 1, 4] [{}, {}, {}, {}, {}, {}, {}, {}, {}, {}, {}, { h := { row := some (y6.length, Ru64 (y6.set (0 + (IntKind.i64.wrap (p1.tdiv 64)).toNat) (ior .u64 (y6.getD (0 + (IntKind.i64.wrap (p1.tdiv 64)).toNat) 0) (ishl .u64 1 (p1.tmod 64))))) } }] ⟨[(2, .c (.ptr 0 2 0 0)), (4, .c (.ptr 1 2 0 0))], [(4, .row 33 false 1 y6.length (Ru64 (y6.set (0 + (IntKind.i64.wrap (p1.tdiv 64)).toNat) (ior .u64 (y6.getD (0 + (IntKind.i64.wrap (p1.tdiv 64)).toNat) 0) (ishl .u64 1 (p1.tmod 64)))))), (0, .box 29 [.t (.v (.int .i64 p0.Length)), .ref 4 1 0 y6.length]), (1, .box 29 [.t (.v (.int .i64 0)), .t (.v (.slice none 0 0))])], 19⟩ [True, True, True, (64 : Int) ≠ 0, (0 ≤ (IntKind.i64.wrap (p1.tdiv 64))) ∧ ((IntKind.i64.wrap (p1.tdiv 64)) < ((y6.length : Nat) : Int)), (0 + (IntKind.i64.wrap (p1.tdiv 64)).toNat) < y6.length, True, (64 : Int) ≠ 0, 0 ≤ (p1.tmod 64), True, (0 ≤ (IntKind.i64.wrap (p1.tdiv 64))) ∧ ((IntKind.i64.wrap (p1.tdiv 64)) < ((y6.length : Nat) : Int)), ((0 + (IntKind.i64.wrap (p1.tdiv 64)).toNat) < y6.length) ∧ (y6.length = y6.length ∧ ∀ i, i < y6.length → ∀ j, j < 1 → TLe (updRow (Ru64 y6) (0 + (IntKind.i64.wrap (p1.tdiv 64)).toNat) 0 [.v (.int .u64 (ior .u64 (y6.getD (0 + (IntKind.i64.wrap (p1.tdiv 64)).toNat) 0) (ishl .u64 1 (p1.tmod 64))))] i j) (Ru64 (y6.set (0 + (IntKind.i64.wrap (p1.tdiv 64)).toNat) (ior .u64 (y6.getD (0 + (IntKind.i64.wrap (p1.tdiv 64)).toNat) 0) (ishl .u64 1 (p1.tmod 64)))) i j))] (by kernel_rfl) (by kernel_rfl) ⟨trivial, trivial, trivial, (by decide), ⟨g8, g9⟩, (by have h1 : 0 ≤ (IntKind.i64.wrap (p1.tdiv 64)) := g8; have h2 : (IntKind.i64.wrap (p1.tdiv 64)) < ((y6.length : Nat) : Int) := g9; omega), trivial, (by decide), g10, trivial, ⟨g8, g9⟩, ⟨(by have h1 : 0 ≤ (IntKind.i64.wrap (p1.tdiv 64)) := g8; have h2 : (IntKind.i64.wrap (p1.tdiv 64)) < ((y6.length : Nat) : Int) := g9; omega), set_rowN rfl (by have h1 : 0 ≤ (IntKind.i64.wrap (p1.tdiv 64)) := g8; have h2 : (IntKind.i64.wrap (p1.tdiv 64)) < ((y6.length : Nat) : Int) := g9; omega) (fun j hj => match j, hj with | 0, _ => TLe.refl _ | _ + 1, h => absurd h (by omega))⟩, trivial⟩ ?_
        refine AW.thenQ_normal ?_
        refine AW.seq ?_
        refine AW.reg tt_ok0 [4, 5] [1, 4] [] ⟨[(5, .c (.t (.v (.int .i64 0)))), (4, .c (.ptr 1 2 0 0))], [(1, .box 29 [.t (.v (.int .i64 p0.Length)), .ref 4 1 0 y6.length]), (4, .row 33 false 1 y6.length (Ru64 (y6.set (0 + (IntKind.i64.wrap (p1.tdiv 64)).toNat) (ior .u64 (y6.getD (0 + (IntKind.i64.wrap (p1.tdiv 64)).toNat) 0) (ishl .u64 1 (p1.tmod 64))))))], 22⟩ [True, True, True] (by kernel_rfl) (by kernel_rfl) ⟨trivial, trivial, trivial, trivial⟩ ?_
        refine AW.thenQ_normal ?_
        refine AW.ret ?_
        obtain rfl := some_inj h
        exact ⟨_, conv_len (S' := ⟨[(5, .c (.t (.v (.int .i64 0)))), (4, .c (.ptr 1 2 0 0))], [(1, .box 29 [.t (.v (.int .i64 p0.Length)), .ref 4 1 0 ((y6.set (0 + (IntKind.i64.wrap (p1.tdiv 64)).toNat) (ior .u64 (y6.getD (0 + (IntKind.i64.wrap (p1.tdiv 64)).toNat) 0) (ishl .u64 1 (p1.tmod 64)))).length)]), (4, .row 33 false 1 (y6.set (0 + (IntKind.i64.wrap (p1.tdiv 64)).toNat) (ior .u64 (y6.getD (0 + (IntKind.i64.wrap (p1.tdiv 64)).toNat) 0) (ishl .u64 1 (p1.tmod 64)))).length (Ru64 (y6.set (0 + (IntKind.i64.wrap (p1.tdiv 64)).toNat) (ior .u64 (y6.getD (0 + (IntKind.i64.wrap (p1.tdiv 64)).toNat) 0) (ishl .u64 1 (p1.tmod 64))))))], 22⟩) (by simp only [List.length_set]), .inr rfl, OutOk.mk [(0, 4)] 1 (out0 := .tup [.agg [.t (.v (.int .i64 p0.Length)), .ref 4 1 0 ((y6.set (0 + (IntKind.i64.wrap (p1.tdiv 64)).toNat) (ior .u64 (y6.getD (0 + (IntKind.i64.wrap (p1.tdiv 64)).toNat) 0) (ishl .u64 1 (p1.tmod 64)))).length)], .c (.t (.v (.int .i64 0)))]) (ps := [True, True]) (by kernel_rfl) ⟨trivial, trivial, trivial⟩ (by kernel_rfl) (by kernel_rfl)⟩
    ·
      by_cases c11 : (decide (p1 < 0)) = true
      · rw [if_pos c11] at h
        refine AW.reg tt_ok0 [1, 2, 4, 11] [0, 1] [{}, { h := { b := some true } }] ⟨[(11, .c (.t (.v (.bool true)))), (4, .c (.ptr 1 2 0 0)), (2, .c (.ptr 0 2 0 0)), (1, .c (.t (.v (.int .i64 p1))))], [(1, .box 29 [.t (.v (.int .i64 0)), .t (.v (.slice none 0 0))]), (0, .box 29 [.t (.v (.int .i64 p0.Length)), .t (.tree p0.Words.length 1 (Ru64 p0.Words))])], 15⟩ [True, (decide (p1 < 0)) = true, True, True, True, True, True, True, True] (by kernel_rfl) (by kernel_rfl) ⟨trivial, c11, trivial, trivial, trivial, trivial, trivial, trivial, trivial, trivial⟩ ?_
        exact joinQ_leaf (true) h (conv_ren [(0, 0), (1, 1)] [1, 2, 4, 11] (n := 2) (by kernel_rfl) (by kernel_rfl))
      · rw [if_neg c11] at h
        refine AW.reg tt_ok0 [1, 2, 4, 11] [0, 1] [{}, { h := { b := some false } }] ⟨[(11, .c (.t (.v (.bool (decide (p1 ≥ p0.Length)))))), (4, .c (.ptr 1 2 0 0)), (2, .c (.ptr 0 2 0 0)), (1, .c (.t (.v (.int .i64 p1))))], [(1, .box 29 [.t (.v (.int .i64 0)), .t (.v (.slice none 0 0))]), (0, .box 29 [.t (.v (.int .i64 p0.Length)), .t (.tree p0.Words.length 1 (Ru64 p0.Words))])], 15⟩ [True, (decide (p1 < 0)) = false, True, True, True, True, True, True, True] (by kernel_rfl) (by kernel_rfl) ⟨trivial, (off_false c11), trivial, trivial, trivial, trivial, trivial, trivial, trivial, trivial⟩ ?_
        exact joinQ_leaf (decide (p1 ≥ p0.Length)) h (conv_ren [(0, 0), (1, 1)] [1, 2, 4, 11] (n := 2) (by kernel_rfl) (by kernel_rfl))
def Eu8 (x : Int) : List T := [.v (.int .u8 x)]
def Ru8 (xs : List Int) : Nat → Nat → T := rowL 0 Eu8 xs
theorem Vu8 : ∀ x, allV (Eu8 x) := fun _ => ⟨trivial, trivial⟩
/-! recordlink/bitset.Hex -/
noncomputable def bitset_Hex_l18 (p0 : S_api_Bits) (x7 : Int) (x14 : List Int) (x15 : Int) : Option (((List Int) × Int) ⊕ (List Int)) := if (decide (x15 ≥ 0)) = true then (if 0 ≤ x15 then (if 0 ≤ (iand .u64 (ishr .u64 (p0.Words.getD x7.toNat 0) x15) 15) then (if (iand .u64 (ishr .u64 (p0.Words.getD x7.toNat 0) x15) 15) < (((ByteArray.mk #[48, 49, 50, 51, 52, 53, 54, 55, 56, 57, 97, 98, 99, 100, 101, 102]).size : Nat) : Int) then (if x14.length + ([(((ByteArray.mk #[48, 49, 50, 51, 52, 53, 54, 55, 56, 57, 97, 98, 99, 100, 101, 102]).data.toList.getD ((iand .u64 (ishr .u64 (p0.Words.getD x7.toNat 0) x15) 15).toNat) 0).toNat : Int)] : List Int).length ≤ 1099511627776 then (some (.inl ((x14 ++ ([(((ByteArray.mk #[48, 49, 50, 51, 52, 53, 54, 55, 56, 57, 97, 98, 99, 100, 101, 102]).data.toList.getD ((iand .u64 (ishr .u64 (p0.Words.getD x7.toNat 0) x15) 15).toNat) 0).toNat : Int)] : List Int)), IntKind.i64.wrap (x15 - 4)))) else none) else none) else none) else none) else (some (.inr x14))
noncomputable def bitset_Hex_l16 (p0 : S_api_Bits) (x6 : List Int) (x7 : Int) : Option (((List Int) × Int) ⊕ (List Int)) := if (decide (x7 < ((p0.Words.length : Nat) : Int))) = true then (if 0 ≤ x7 then (if x7 < ((p0.Words.length : Nat) : Int) then ((loop (fun v : (List Int) × Int => bitset_Hex_l18 p0 x7 v.1 v.2) (x6, 60)).bind fun x22 => (some (.inl (x22, IntKind.i64.wrap (x7 + 1))))) else none) else none) else (some (.inr x6))
noncomputable def bitset_Hex (p0 : S_api_Bits) : Option (ByteArray × Int) := (bitset_Valid p0).bind fun y1 => (if (!y1) = true then (some ((ByteArray.mk #[]), 8)) else ((loop (fun v : (List Int) × Int => bitset_Hex_l16 p0 v.1 v.2) (([] : List Int), 0)).bind fun x24 => (some ((strOf x24), 0))))
set_option maxRecDepth 100000 in
set_option maxHeartbeats 10000000 in
theorem bitset_Hex_con (p0 : S_api_Bits) (r0 : ByteArray) (r1 : Int) (h : bitset_Hex p0 = some (r0, r1)) : Con Try.prog 36 [.agg [.t (.v (.int .i64 p0.Length)), .t (.tree p0.Words.length 1 (Ru64 p0.Words))]] [] (.tup [.c (.t (.v (.string r0))), .c (.t (.v (.int .i64 r1)))]) [] := by
  suffices H : ∀ r, bitset_Hex p0 = some r → Con Try.prog 36 [.agg [.t (.v (.int .i64 p0.Length)), .t (.tree p0.Words.length 1 (Ru64 p0.Words))]] [] (.tup [.c (.t (.v (.string r.1))), .c (.t (.v (.int .i64 r.2)))]) [] from H (r0, r1) h
  clear h
  intro r h
  refine con_of tt_ok0 0 Try.func36 (by kernel_rfl) rfl (by kernel_rfl) (fun base X hk => AW.post ?_)
  unfold bitset_Hex at h
  refine AW.seq ?_
  refine AW.reg tt_ok0 [1] [0] [] ⟨[(1, .c (.ptr 0 2 0 0))], [(0, .box 29 [.t (.v (.int .i64 p0.Length)), .t (.tree p0.Words.length 1 (Ru64 p0.Words))])], 3⟩ [True, True, True] (by kernel_rfl) (by kernel_rfl) ⟨trivial, trivial, trivial, trivial⟩ ?_
  refine AW.thenQ_normal ?_
  refine AW.seq ?_
  refine AW.seq ?_
  obtain ⟨y1, e2, h⟩ := bnd_some h
  refine AW.reg tt_ok0 [1, 10] [0] [{}, { call := some { ids := [], frz := [], flat := true, cnt := 0, args := [.agg [.t (.v (.int .i64 p0.Length)), .t (.tree p0.Words.length 1 (Ru64 p0.Words))]], out := .c (.t (.v (.bool y1))), outb := [] } }] ⟨[(10, .c (.t (.v (.bool (!y1))))), (1, .c (.ptr 0 2 0 0))], [(0, .box 29 [.t (.v (.int .i64 p0.Length)), .t (.tree p0.Words.length 1 (Ru64 p0.Words))])], 5⟩ [True, (((True) ∧ (True) ∧ (True)) ∧ (True)) ∧ (All2 ArgLe [.agg [.t (.v (.int .i64 p0.Length)), .t (.tree p0.Words.length 1 (Ru64 p0.Words))]] [.agg [.t (.v (.int .i64 p0.Length)), .t (.tree p0.Words.length 1 (Ru64 p0.Words))]]) ∧ ((true = true → flatB [])) ∧ (Con Try.prog 49 [.agg [.t (.v (.int .i64 p0.Length)), .t (.tree p0.Words.length 1 (Ru64 p0.Words))]] [] (.c (.t (.v (.bool y1)))) []), True] (by kernel_rfl) (by kernel_rfl) ⟨trivial, ⟨⟨⟨trivial, trivial, trivial⟩, trivial⟩, ⟨ArgLe.refl _, trivial⟩, (fun _ => trivial), (bitset_Valid_con p0 y1 e2)⟩, trivial, trivial⟩ ?_
  refine AW.thenQ_normal ?_
  refine AW.cond (b := !y1) (by kernel_rfl) (fun c3 => ?_) (fun c3 => ?_)
  · rw [if_pos c3] at h
    refine AW.seq ?_
    refine AW.reg tt_ok0 [2, 3] [] [] ⟨[(3, .c (.t (.v (.int .i64 8)))), (2, .c (.t (.v (.string (ByteArray.mk #[])))))], [], 7⟩ [True, True] (by kernel_rfl) (by kernel_rfl) ⟨trivial, trivial, trivial⟩ ?_
    refine AW.thenQ_normal ?_
    refine AW.ret ?_
    refine AW.thenQ_ret ?_
    obtain rfl := some_inj h
    exact ⟨_, Conv.refl _ _, .inr rfl, OutOk.mk [] 0 (out0 := .tup [.c (.t (.v (.string (ByteArray.mk #[])))), .c (.t (.v (.int .i64 8)))]) (ps := [True, True]) (by kernel_rfl) ⟨trivial, trivial, trivial⟩ (by kernel_rfl) (by kernel_rfl)⟩
  · rw [if_neg (by rw [c3]; exact Bool.false_ne_true)] at h
    refine AW.skip ?_
    refine AW.thenQ_normal ?_
    refine AW.seq ?_
    refine AW.reg tt_ok0 [1, 4] [0] [] ⟨[(4, .c (.t (.v (.slice none 0 0)))), (1, .c (.ptr 0 2 0 0))], [(0, .box 29 [.t (.v (.int .i64 p0.Length)), .t (.tree p0.Words.length 1 (Ru64 p0.Words))])], 6⟩ [True] (by kernel_rfl) (by kernel_rfl) ⟨trivial, trivial⟩ ?_
    refine AW.thenQ_normal ?_
    refine AW.seq ?_
    refine AW.seq ?_
    refine AW.reg tt_ok0 [4, 12, 13, 14] [] [] ⟨[(14, .c (.t (.v (.int .i64 0)))), (13, .c (.t (.v (.int .i64 ((p0.Words.length : Nat) : Int))))), (12, .c (.t (.tree p0.Words.length 1 (Ru64 p0.Words)))), (4, .c (.t (.v (.slice none 0 0))))], [], 10⟩ [True, True, True, True] (by kernel_rfl) (by kernel_rfl) ⟨trivial, trivial, trivial, trivial, trivial⟩ ?_
    refine AW.thenQ_normal ?_
    refine AW.block ?_
    obtain ⟨x24, l25, h⟩ := bnd_some h
    refine AW.pre (S' := ((fun v => ⟨[(4, .c (.ref 0 1 0 v.1.length)), (12, .c (.t (.tree p0.Words.length 1 (Ru64 p0.Words)))), (13, .c (.t (.v (.int .i64 ((p0.Words.length : Nat) : Int))))), (14, .c (.t (.v (.int .i64 v.2))))], [(0, .row 5 false 1 v.1.length (Ru8 v.1))], 1⟩) : ((List Int) × Int) → St) (([] : List Int), 0)) (Conv.trans (conv_adopt (t := 4) (ty := 5) (sz := 1) (n := ([] : List Int).length) (f := Ru8 ([] : List Int)) (by kernel_rfl) rfl) (conv_ren [(0, 10)] [4, 12, 13, 14] (n := 1) (by kernel_rfl) (by kernel_rfl))) ?_
    refine AW.loop2 (step := (fun v : (List Int) × Int => bitset_Hex_l16 p0 v.1 v.2)) (s0 := (([] : List Int), 0)) (t := x24) (fun v => ⟨[(4, .c (.ref 0 1 0 v.1.length)), (12, .c (.t (.tree p0.Words.length 1 (Ru64 p0.Words)))), (13, .c (.t (.v (.int .i64 ((p0.Words.length : Nat) : Int))))), (14, .c (.t (.v (.int .i64 v.2))))], [(0, .row 5 false 1 v.1.length (Ru8 v.1))], 1⟩) (fun t : List Int => (.exit 0, ⟨[(4, .c (.ref 0 1 0 t.length))], [(0, .row 5 false 1 t.length (Ru8 t))], 1⟩)) l25 (fun _ => trivial) ?_ ?_
    ·
      intro v o h
      obtain ⟨x6, x7⟩ := v
      replace h : bitset_Hex_l16 p0 x6 x7 = some o := h
      unfold bitset_Hex_l16 at h
      show AW _ ⟨[(4, .c (.ref 0 1 0 x6.length)), (12, .c (.t (.tree p0.Words.length 1 (Ru64 p0.Words)))), (13, .c (.t (.v (.int .i64 ((p0.Words.length : Nat) : Int))))), (14, .c (.t (.v (.int .i64 x7))))], [(0, .row 5 false 1 x6.length (Ru8 x6))], 1⟩ _ _
      refine AW.seq ?_
      refine AW.reg tt_ok0 [4, 12, 13, 14, 15] [0] [] ⟨[(15, .c (.t (.v (.bool (decide (x7 < ((p0.Words.length : Nat) : Int))))))), (4, .c (.ref 0 1 0 x6.length)), (12, .c (.t (.tree p0.Words.length 1 (Ru64 p0.Words)))), (13, .c (.t (.v (.int .i64 ((p0.Words.length : Nat) : Int))))), (14, .c (.t (.v (.int .i64 x7))))], [(0, .row 5 false 1 x6.length (Ru8 x6))], 2⟩ [True] (by kernel_rfl) (by kernel_rfl) ⟨trivial, trivial⟩ ?_
      refine AW.thenQ_normal ?_
      refine AW.seq ?_
      refine AW.cond (b := decide (x7 < ((p0.Words.length : Nat) : Int))) (by kernel_rfl) (fun c9 => ?_) (fun c9 => ?_)
      · rw [if_pos c9] at h
        refine AW.skip ?_
        refine AW.thenQ_normal ?_
        refine AW.seq ?_
        refine AW.block ?_
        refine AW.seq ?_
        obtain ⟨g10, h⟩ := ifc h
        obtain ⟨g11, h⟩ := ifc h
        refine AW.reg tt_ok0 [4, 6, 12, 13, 14] [0] [] ⟨[(6, .c (.t (.v (.int .u64 (p0.Words.getD x7.toNat 0))))), (4, .c (.ref 0 1 0 x6.length)), (12, .c (.t (.tree p0.Words.length 1 (Ru64 p0.Words)))), (13, .c (.t (.v (.int .i64 ((p0.Words.length : Nat) : Int))))), (14, .c (.t (.v (.int .i64 x7))))], [(0, .row 5 false 1 x6.length (Ru8 x6))], 5⟩ [(0 ≤ x7) ∧ (x7 < ((p0.Words.length : Nat) : Int)), True, True] (by kernel_rfl) (by kernel_rfl) ⟨⟨g10, g11⟩, trivial, trivial, trivial⟩ ?_
        refine AW.thenQ_normal ?_
        refine AW.seq ?_
        refine AW.reg tt_ok0 [4, 6, 7, 12, 13, 14] [0] [] ⟨[(7, .c (.t (.v (.int .i64 60)))), (6, .c (.t (.v (.int .u64 (p0.Words.getD x7.toNat 0))))), (4, .c (.ref 0 1 0 x6.length)), (12, .c (.t (.tree p0.Words.length 1 (Ru64 p0.Words)))), (13, .c (.t (.v (.int .i64 ((p0.Words.length : Nat) : Int))))), (14, .c (.t (.v (.int .i64 x7))))], [(0, .row 5 false 1 x6.length (Ru8 x6))], 6⟩ [True] (by kernel_rfl) (by kernel_rfl) ⟨trivial, trivial⟩ ?_
        refine AW.thenQ_normal ?_
        refine AW.block ?_
        obtain ⟨x22, l23, h⟩ := bnd_some h
        refine AW.pre (S' := ((fun v => ⟨[(4, .c (.ref 0 1 0 v.1.length)), (6, .c (.t (.v (.int .u64 (p0.Words.getD x7.toNat 0))))), (7, .c (.t (.v (.int .i64 v.2)))), (12, .c (.t (.tree p0.Words.length 1 (Ru64 p0.Words)))), (13, .c (.t (.v (.int .i64 ((p0.Words.length : Nat) : Int))))), (14, .c (.t (.v (.int .i64 x7))))], [(0, .row 5 false 1 v.1.length (Ru8 v.1))], 1⟩) : ((List Int) × Int) → St) (x6, 60)) (conv_ren [(0, 0)] [4, 6, 7, 12, 13, 14] (n := 1) (by kernel_rfl) (by kernel_rfl)) ?_
        refine AW.loop2 (step := (fun v : (List Int) × Int => bitset_Hex_l18 p0 x7 v.1 v.2)) (s0 := (x6, 60)) (t := x22) (fun v => ⟨[(4, .c (.ref 0 1 0 v.1.length)), (6, .c (.t (.v (.int .u64 (p0.Words.getD x7.toNat 0))))), (7, .c (.t (.v (.int .i64 v.2)))), (12, .c (.t (.tree p0.Words.length 1 (Ru64 p0.Words)))), (13, .c (.t (.v (.int .i64 ((p0.Words.length : Nat) : Int))))), (14, .c (.t (.v (.int .i64 x7))))], [(0, .row 5 false 1 v.1.length (Ru8 v.1))], 1⟩) (fun t : List Int => (.exit 2, ⟨[(4, .c (.ref 0 1 0 t.length)), (12, .c (.t (.tree p0.Words.length 1 (Ru64 p0.Words)))), (13, .c (.t (.v (.int .i64 ((p0.Words.length : Nat) : Int))))), (14, .c (.t (.v (.int .i64 x7))))], [(0, .row 5 false 1 t.length (Ru8 t))], 1⟩)) l23 (fun _ => trivial) ?_ ?_
        ·
          intro v o h
          obtain ⟨x14, x15⟩ := v
          replace h : bitset_Hex_l18 p0 x7 x14 x15 = some o := h
          unfold bitset_Hex_l18 at h
          show AW _ ⟨[(4, .c (.ref 0 1 0 x14.length)), (6, .c (.t (.v (.int .u64 (p0.Words.getD x7.toNat 0))))), (7, .c (.t (.v (.int .i64 x15)))), (12, .c (.t (.tree p0.Words.length 1 (Ru64 p0.Words)))), (13, .c (.t (.v (.int .i64 ((p0.Words.length : Nat) : Int))))), (14, .c (.t (.v (.int .i64 x7))))], [(0, .row 5 false 1 x14.length (Ru8 x14))], 1⟩ _ _
          refine AW.seq ?_
          refine AW.seq ?_
          refine AW.reg tt_ok0 [4, 6, 7, 12, 13, 14, 19] [0] [] ⟨[(19, .c (.t (.v (.bool (decide (x15 ≥ 0)))))), (4, .c (.ref 0 1 0 x14.length)), (6, .c (.t (.v (.int .u64 (p0.Words.getD x7.toNat 0))))), (7, .c (.t (.v (.int .i64 x15)))), (12, .c (.t (.tree p0.Words.length 1 (Ru64 p0.Words)))), (13, .c (.t (.v (.int .i64 ((p0.Words.length : Nat) : Int))))), (14, .c (.t (.v (.int .i64 x7))))], [(0, .row 5 false 1 x14.length (Ru8 x14))], 3⟩ [True, True] (by kernel_rfl) (by kernel_rfl) ⟨trivial, trivial, trivial⟩ ?_
          refine AW.thenQ_normal ?_
          refine AW.cond (b := decide (x15 ≥ 0)) (by kernel_rfl) (fun c17 => ?_) (fun c17 => ?_)
          · rw [if_pos c17] at h
            refine AW.skip ?_
            refine AW.thenQ_normal ?_
            refine AW.seq ?_
            refine AW.block ?_
            obtain ⟨g18, h⟩ := ifc h
            obtain ⟨g19, h⟩ := ifc h
            obtain ⟨g20, h⟩ := ifc h
            obtain ⟨g21, h⟩ := ifc h
            refine AW.reg tt_ok0 [4, 6, 7, 12, 13, 14] [10] [{}, {}, {}, {}, {}, {}, { h := { row := some (([(((ByteArray.mk #[48, 49, 50, 51, 52, 53, 54, 55, 56, 57, 97, 98, 99, 100, 101, 102]).data.toList.getD ((iand .u64 (ishr .u64 (p0.Words.getD x7.toNat 0) x15) 15).toNat) 0).toNat : Int)] : List Int).length, Ru8 ([(((ByteArray.mk #[48, 49, 50, 51, 52, 53, 54, 55, 56, 57, 97, 98, 99, 100, 101, 102]).data.toList.getD ((iand .u64 (ishr .u64 (p0.Words.getD x7.toNat 0) x15) 15).toNat) 0).toNat : Int)] : List Int)) } }, { h := { row := some ((x14 ++ ([(((ByteArray.mk #[48, 49, 50, 51, 52, 53, 54, 55, 56, 57, 97, 98, 99, 100, 101, 102]).data.toList.getD ((iand .u64 (ishr .u64 (p0.Words.getD x7.toNat 0) x15) 15).toNat) 0).toNat : Int)] : List Int)).length, Ru8 (x14 ++ ([(((ByteArray.mk #[48, 49, 50, 51, 52, 53, 54, 55, 56, 57, 97, 98, 99, 100, 101, 102]).data.toList.getD ((iand .u64 (ishr .u64 (p0.Words.getD x7.toNat 0) x15) 15).toNat) 0).toNat : Int)] : List Int))) } }] ⟨[(4, .c (.ref 10 1 0 ((x14 ++ ([(((ByteArray.mk #[48, 49, 50, 51, 52, 53, 54, 55, 56, 57, 97, 98, 99, 100, 101, 102]).data.toList.getD ((iand .u64 (ishr .u64 (p0.Words.getD x7.toNat 0) x15) 15).toNat) 0).toNat : Int)] : List Int)).length))), (6, .c (.t (.v (.int .u64 (p0.Words.getD x7.toNat 0))))), (7, .c (.t (.v (.int .i64 x15)))), (12, .c (.t (.tree p0.Words.length 1 (Ru64 p0.Words)))), (13, .c (.t (.v (.int .i64 ((p0.Words.length : Nat) : Int))))), (14, .c (.t (.v (.int .i64 x7))))], [(10, .row 5 false 1 (x14 ++ ([(((ByteArray.mk #[48, 49, 50, 51, 52, 53, 54, 55, 56, 57, 97, 98, 99, 100, 101, 102]).data.toList.getD ((iand .u64 (ishr .u64 (p0.Words.getD x7.toNat 0) x15) 15).toNat) 0).toNat : Int)] : List Int)).length (Ru8 (x14 ++ ([(((ByteArray.mk #[48, 49, 50, 51, 52, 53, 54, 55, 56, 57, 97, 98, 99, 100, 101, 102]).data.toList.getD ((iand .u64 (ishr .u64 (p0.Words.getD x7.toNat 0) x15) 15).toNat) 0).toNat : Int)] : List Int))))], 12⟩ [True, True, True, 0 ≤ x15, True, (0 ≤ (iand .u64 (ishr .u64 (p0.Words.getD x7.toNat 0) x15) 15)) ∧ ((iand .u64 (ishr .u64 (p0.Words.getD x7.toNat 0) x15) 15) < (((ByteArray.mk #[48, 49, 50, 51, 52, 53, 54, 55, 56, 57, 97, 98, 99, 100, 101, 102]).size : Nat) : Int)), 1 = ([(((ByteArray.mk #[48, 49, 50, 51, 52, 53, 54, 55, 56, 57, 97, 98, 99, 100, 101, 102]).data.toList.getD ((iand .u64 (ishr .u64 (p0.Words.getD x7.toNat 0) x15) 15).toNat) 0).toNat : Int)] : List Int).length ∧ ∀ i, i < ([(((ByteArray.mk #[48, 49, 50, 51, 52, 53, 54, 55, 56, 57, 97, 98, 99, 100, 101, 102]).data.toList.getD ((iand .u64 (ishr .u64 (p0.Words.getD x7.toNat 0) x15) 15).toNat) 0).toNat : Int)] : List Int).length → ∀ j, j < 1 → TLe ((rowOf [.v (.int .u8 (((ByteArray.mk #[48, 49, 50, 51, 52, 53, 54, 55, 56, 57, 97, 98, 99, 100, 101, 102]).data.toList.getD ((iand .u64 (ishr .u64 (p0.Words.getD x7.toNat 0) x15) 15).toNat) 0).toNat : Int))] 1) i j) (Ru8 ([(((ByteArray.mk #[48, 49, 50, 51, 52, 53, 54, 55, 56, 57, 97, 98, 99, 100, 101, 102]).data.toList.getD ((iand .u64 (ishr .u64 (p0.Words.getD x7.toNat 0) x15) 15).toNat) 0).toNat : Int)] : List Int) i j), (x14.length = x14.length) ∧ (0 + ([(((ByteArray.mk #[48, 49, 50, 51, 52, 53, 54, 55, 56, 57, 97, 98, 99, 100, 101, 102]).data.toList.getD ((iand .u64 (ishr .u64 (p0.Words.getD x7.toNat 0) x15) 15).toNat) 0).toNat : Int)] : List Int).length ≤ ([(((ByteArray.mk #[48, 49, 50, 51, 52, 53, 54, 55, 56, 57, 97, 98, 99, 100, 101, 102]).data.toList.getD ((iand .u64 (ishr .u64 (p0.Words.getD x7.toNat 0) x15) 15).toNat) 0).toNat : Int)] : List Int).length) ∧ ((x14.length + ([(((ByteArray.mk #[48, 49, 50, 51, 52, 53, 54, 55, 56, 57, 97, 98, 99, 100, 101, 102]).data.toList.getD ((iand .u64 (ishr .u64 (p0.Words.getD x7.toNat 0) x15) 15).toNat) 0).toNat : Int)] : List Int).length ≤ 1099511627776) ∧ ((1 : Nat) ≤ 128)) ∧ (x14.length + ([(((ByteArray.mk #[48, 49, 50, 51, 52, 53, 54, 55, 56, 57, 97, 98, 99, 100, 101, 102]).data.toList.getD ((iand .u64 (ishr .u64 (p0.Words.getD x7.toNat 0) x15) 15).toNat) 0).toNat : Int)] : List Int).length = (x14 ++ ([(((ByteArray.mk #[48, 49, 50, 51, 52, 53, 54, 55, 56, 57, 97, 98, 99, 100, 101, 102]).data.toList.getD ((iand .u64 (ishr .u64 (p0.Words.getD x7.toNat 0) x15) 15).toNat) 0).toNat : Int)] : List Int)).length ∧ ∀ i, i < (x14 ++ ([(((ByteArray.mk #[48, 49, 50, 51, 52, 53, 54, 55, 56, 57, 97, 98, 99, 100, 101, 102]).data.toList.getD ((iand .u64 (ishr .u64 (p0.Words.getD x7.toNat 0) x15) 15).toNat) 0).toNat : Int)] : List Int)).length → ∀ j, j < 1 → TLe ((appRow x14.length (Ru8 x14) (fun i j => Ru8 ([(((ByteArray.mk #[48, 49, 50, 51, 52, 53, 54, 55, 56, 57, 97, 98, 99, 100, 101, 102]).data.toList.getD ((iand .u64 (ishr .u64 (p0.Words.getD x7.toNat 0) x15) 15).toNat) 0).toNat : Int)] : List Int) (0 + i) j)) i j) (Ru8 (x14 ++ ([(((ByteArray.mk #[48, 49, 50, 51, 52, 53, 54, 55, 56, 57, 97, 98, 99, 100, 101, 102]).data.toList.getD ((iand .u64 (ishr .u64 (p0.Words.getD x7.toNat 0) x15) 15).toNat) 0).toNat : Int)] : List Int)) i j)), True] (by kernel_rfl) (by kernel_rfl) ⟨trivial, trivial, trivial, g18, trivial, ⟨g19, g20⟩, ⟨rfl, lit_row (n := 1) (sz := 1) ⟨trivial, ⟨trivial, TLe.refl _⟩⟩⟩, ⟨rfl, le0, ⟨g21, (by decide)⟩, rowT (app_row rfl rfl row_rfl (fun i _ j _ => congrArg (fun k => Ru8 ([(((ByteArray.mk #[48, 49, 50, 51, 52, 53, 54, 55, 56, 57, 97, 98, 99, 100, 101, 102]).data.toList.getD ((iand .u64 (ishr .u64 (p0.Words.getD x7.toNat 0) x15) 15).toNat) 0).toNat : Int)] : List Int) k j) (Nat.zero_add i)))⟩, trivial, trivial⟩ ?_
            refine AW.inBlock_normal ?_
            refine AW.thenQ_normal ?_
            refine AW.reg tt_ok0 [4, 6, 7, 12, 13, 14] [10] [] ⟨[(7, .c (.t (.v (.int .i64 (IntKind.i64.wrap (x15 - 4)))))), (4, .c (.ref 10 1 0 ((x14 ++ ([(((ByteArray.mk #[48, 49, 50, 51, 52, 53, 54, 55, 56, 57, 97, 98, 99, 100, 101, 102]).data.toList.getD ((iand .u64 (ishr .u64 (p0.Words.getD x7.toNat 0) x15) 15).toNat) 0).toNat : Int)] : List Int)).length))), (6, .c (.t (.v (.int .u64 (p0.Words.getD x7.toNat 0))))), (12, .c (.t (.tree p0.Words.length 1 (Ru64 p0.Words)))), (13, .c (.t (.v (.int .i64 ((p0.Words.length : Nat) : Int))))), (14, .c (.t (.v (.int .i64 x7))))], [(10, .row 5 false 1 (x14 ++ ([(((ByteArray.mk #[48, 49, 50, 51, 52, 53, 54, 55, 56, 57, 97, 98, 99, 100, 101, 102]).data.toList.getD ((iand .u64 (ishr .u64 (p0.Words.getD x7.toNat 0) x15) 15).toNat) 0).toNat : Int)] : List Int)).length (Ru8 (x14 ++ ([(((ByteArray.mk #[48, 49, 50, 51, 52, 53, 54, 55, 56, 57, 97, 98, 99, 100, 101, 102]).data.toList.getD ((iand .u64 (ishr .u64 (p0.Words.getD x7.toNat 0) x15) 15).toNat) 0).toNat : Int)] : List Int))))], 15⟩ [True, True, True] (by kernel_rfl) (by kernel_rfl) ⟨trivial, trivial, trivial, trivial⟩ ?_
            obtain rfl := some_inj h
            refine loopQ_next (conv_ren [(0, 10)] [4, 6, 7, 12, 13, 14] (n := 1) (by kernel_rfl) (by kernel_rfl))
          · rw [if_neg (by rw [c17]; exact Bool.false_ne_true)] at h
            refine AW.exit ?_
            refine AW.thenQ_exit ?_
            obtain rfl := some_inj h
            refine loopQ_out rfl (conv_ren [(0, 0)] [4, 12, 13, 14] (n := 1) (by kernel_rfl) (by kernel_rfl))
        ·
          show (_ : Exit → St → Prop) (.exit 2) ⟨[(4, .c (.ref 0 1 0 x22.length)), (12, .c (.t (.tree p0.Words.length 1 (Ru64 p0.Words)))), (13, .c (.t (.v (.int .i64 ((p0.Words.length : Nat) : Int))))), (14, .c (.t (.v (.int .i64 x7))))], [(0, .row 5 false 1 x22.length (Ru8 x22))], 1⟩
          refine AW.inBlock_hit ?_
          refine AW.inBlock_normal ?_
          refine AW.thenQ_normal ?_
          refine AW.reg tt_ok0 [4, 12, 13, 14] [0] [] ⟨[(14, .c (.t (.v (.int .i64 (IntKind.i64.wrap (x7 + 1)))))), (4, .c (.ref 0 1 0 x22.length)), (12, .c (.t (.tree p0.Words.length 1 (Ru64 p0.Words)))), (13, .c (.t (.v (.int .i64 ((p0.Words.length : Nat) : Int)))))], [(0, .row 5 false 1 x22.length (Ru8 x22))], 3⟩ [True, True] (by kernel_rfl) (by kernel_rfl) ⟨trivial, trivial, trivial⟩ ?_
          obtain rfl := some_inj h
          refine loopQ_next (conv_ren [(0, 0)] [4, 12, 13, 14] (n := 1) (by kernel_rfl) (by kernel_rfl))
      · rw [if_neg (by rw [c9]; exact Bool.false_ne_true)] at h
        refine AW.exit ?_
        refine AW.thenQ_exit ?_
        obtain rfl := some_inj h
        refine loopQ_out rfl (conv_ren [(0, 0)] [4] (n := 1) (by kernel_rfl) (by kernel_rfl))
    ·
      show (_ : Exit → St → Prop) (.exit 0) ⟨[(4, .c (.ref 0 1 0 x24.length))], [(0, .row 5 false 1 x24.length (Ru8 x24))], 1⟩
      refine AW.inBlock_hit ?_
      refine AW.thenQ_normal ?_
      refine AW.seq ?_
      refine AW.reg tt_ok0 [2, 3] [] [{}, { h := { ints := some (fun i => x24.getD i 0) } }] ⟨[(3, .c (.t (.v (.int .i64 0)))), (2, .c (.t (.v (.string (strOf x24)))))], [], 5⟩ [True, (0 + x24.length ≤ x24.length) ∧ ∀ i, i < x24.length → (fun i j => Ru8 x24 (0 + i) j) i 0 = .v (.int .u8 (x24.getD i 0)), True, True] (by kernel_rfl) (by kernel_rfl) ⟨trivial, ⟨le0, fun i _ => by simp only [Nat.zero_add] <;> rfl⟩, trivial, trivial, trivial⟩ ?_
      refine AW.thenQ_normal ?_
      refine AW.ret ?_
      obtain rfl := some_inj h
      exact ⟨_, Conv.refl _ _, .inr rfl, OutOk.mk [] 0 (out0 := .tup [.c (.t (.v (.string (strOf x24)))), .c (.t (.v (.int .i64 0)))]) (ps := [True, True]) (by kernel_rfl) ⟨trivial, trivial, trivial⟩ (by kernel_rfl) (by kernel_rfl)⟩
/-! recordlink/bitset.Has -/
noncomputable def bitset_Has_k2 (x1 : Bool) : Option Bool := some x1
noncomputable def bitset_Has (p0 : S_api_Bits) (p1 : Int) : Option Bool := (bitset_Valid p0).bind fun y2 => (if y2 = true then (if (decide (p1 ≥ 0)) = true then (if (decide (p1 < p0.Length)) = true then (if 0 ≤ (IntKind.i64.wrap (p1.tdiv 64)) then (if (IntKind.i64.wrap (p1.tdiv 64)) < ((p0.Words.length : Nat) : Int) then (if 0 ≤ (p1.tmod 64) then (bitset_Has_k2 ((iand .u64 (ishr .u64 (p0.Words.getD ((IntKind.i64.wrap (p1.tdiv 64)).toNat) 0) (p1.tmod 64)) 1) == 1)) else none) else none) else none) else (bitset_Has_k2 false)) else (bitset_Has_k2 false)) else (bitset_Has_k2 false))
set_option maxRecDepth 100000 in
set_option maxHeartbeats 10000000 in
theorem bitset_Has_con (p0 : S_api_Bits) (p1 : Int) (r0 : Bool) (h : bitset_Has p0 p1 = some r0) : Con Try.prog 21 [.agg [.t (.v (.int .i64 p0.Length)), .t (.tree p0.Words.length 1 (Ru64 p0.Words))], .c (.t (.v (.int .i64 p1)))] [] (.c (.t (.v (.bool r0)))) [] := by
  revert h; generalize r0 = r; intro h
  refine con_of tt_ok0 0 Try.func21 (by kernel_rfl) rfl (by kernel_rfl) (fun base X hk => AW.post ?_)
  unfold bitset_Has at h
  refine AW.seq ?_
  refine AW.reg tt_ok0 [1, 2] [0] [] ⟨[(2, .c (.ptr 0 2 0 0)), (1, .c (.t (.v (.int .i64 p1))))], [(0, .box 29 [.t (.v (.int .i64 p0.Length)), .t (.tree p0.Words.length 1 (Ru64 p0.Words))])], 2⟩ [True, True] (by kernel_rfl) (by kernel_rfl) ⟨trivial, trivial, trivial⟩ ?_
  refine AW.thenQ_normal ?_
  refine AW.seq ?_
  refine AW.join (ι := Bool) (fun v => ⟨[(4, .c (.t (.v (.bool v))))], [], 0⟩) (fun v : Bool => bitset_Has_k2 v = some r) (fun v h => ?_) ?_
  ·
    obtain ⟨x1, rfl⟩ : ∃ x, x = v := ⟨_, rfl⟩
    replace h : bitset_Has_k2 x1 = some r := h
    unfold bitset_Has_k2 at h
    show (_ : Exit → St → Prop) .normal ⟨[(4, .c (.t (.v (.bool x1))))], [], 0⟩
    refine AW.thenQ_normal ?_
    refine AW.ret ?_
    obtain rfl := some_inj h
    exact ⟨_, Conv.refl _ _, .inr rfl, OutOk.mk [] 0 (out0 := .c (.t (.v (.bool x1)))) (ps := [True]) (by kernel_rfl) ⟨trivial, trivial⟩ (by kernel_rfl) (by kernel_rfl)⟩
  ·
    obtain ⟨y2, e3, h⟩ := bnd_some h
    by_cases c4 : y2 = true
    · rw [if_pos c4] at h; subst c4
      by_cases c5 : (decide (p1 ≥ 0)) = true
      · rw [if_pos c5] at h
        by_cases c6 : (decide (p1 < p0.Length)) = true
        · rw [if_pos c6] at h
          obtain ⟨g7, h⟩ := ifc h
          obtain ⟨g8, h⟩ := ifc h
          obtain ⟨g9, h⟩ := ifc h
          refine AW.reg tt_ok0 [4] [] [{}, { call := some { ids := [], frz := [], flat := true, cnt := 0, args := [.agg [.t (.v (.int .i64 p0.Length)), .t (.tree p0.Words.length 1 (Ru64 p0.Words))]], out := .c (.t (.v (.bool true))), outb := [] } }, {}, {}, { h := { b := some true } }, {}, {}, {}, {}, {}, { h := { b := some true } }] ⟨[(4, .c (.t (.v (.bool ((iand .u64 (ishr .u64 (p0.Words.getD ((IntKind.i64.wrap (p1.tdiv 64)).toNat) 0) (p1.tmod 64)) 1) == 1)))))], [], 27⟩ [True, (((True) ∧ (True) ∧ (True)) ∧ (True)) ∧ (All2 ArgLe [.agg [.t (.v (.int .i64 p0.Length)), .t (.tree p0.Words.length 1 (Ru64 p0.Words))]] [.agg [.t (.v (.int .i64 p0.Length)), .t (.tree p0.Words.length 1 (Ru64 p0.Words))]]) ∧ ((true = true → flatB [])) ∧ (Con Try.prog 49 [.agg [.t (.v (.int .i64 p0.Length)), .t (.tree p0.Words.length 1 (Ru64 p0.Words))]] [] (.c (.t (.v (.bool true)))) []), True, True, (decide (p1 ≥ 0)) = true, True, True, True, True, True, (decide (p1 < p0.Length)) = true, True, True, True, True, True, (64 : Int) ≠ 0, (0 ≤ (IntKind.i64.wrap (p1.tdiv 64))) ∧ ((IntKind.i64.wrap (p1.tdiv 64)) < ((p0.Words.length : Nat) : Int)), True, True, (64 : Int) ≠ 0, 0 ≤ (p1.tmod 64), True, True, True, True] (by kernel_rfl) (by kernel_rfl) ⟨trivial, ⟨⟨⟨trivial, trivial, trivial⟩, trivial⟩, ⟨ArgLe.refl _, trivial⟩, (fun _ => trivial), (bitset_Valid_con p0 true e3)⟩, trivial, trivial, c5, trivial, trivial, trivial, trivial, trivial, c6, trivial, trivial, trivial, trivial, trivial, (by decide), ⟨g7, g8⟩, trivial, trivial, (by decide), g9, trivial, trivial, trivial, trivial, trivial⟩ ?_
          exact joinQ_leaf (((iand .u64 (ishr .u64 (p0.Words.getD ((IntKind.i64.wrap (p1.tdiv 64)).toNat) 0) (p1.tmod 64)) 1) == 1)) h (conv_ren [] [4] (n := 0) (by kernel_rfl) (by kernel_rfl))
        · rw [if_neg c6] at h
          refine AW.reg tt_ok0 [4] [] [{}, { call := some { ids := [], frz := [], flat := true, cnt := 0, args := [.agg [.t (.v (.int .i64 p0.Length)), .t (.tree p0.Words.length 1 (Ru64 p0.Words))]], out := .c (.t (.v (.bool true))), outb := [] } }, {}, {}, { h := { b := some true } }, {}, {}, {}, {}, {}, { h := { b := some false } }] ⟨[(4, .c (.t (.v (.bool false))))], [], 27⟩ [True, (((True) ∧ (True) ∧ (True)) ∧ (True)) ∧ (All2 ArgLe [.agg [.t (.v (.int .i64 p0.Length)), .t (.tree p0.Words.length 1 (Ru64 p0.Words))]] [.agg [.t (.v (.int .i64 p0.Length)), .t (.tree p0.Words.length 1 (Ru64 p0.Words))]]) ∧ ((true = true → flatB [])) ∧ (Con Try.prog 49 [.agg [.t (.v (.int .i64 p0.Length)), .t (.tree p0.Words.length 1 (Ru64 p0.Words))]] [] (.c (.t (.v (.bool true)))) []), True, True, (decide (p1 ≥ 0)) = true, True, True, True, True, True, (decide (p1 < p0.Length)) = false, True, True, True, True, True, True, True, True, True, True, True, True, True, True, True] (by kernel_rfl) (by kernel_rfl) ⟨trivial, ⟨⟨⟨trivial, trivial, trivial⟩, trivial⟩, ⟨ArgLe.refl _, trivial⟩, (fun _ => trivial), (bitset_Valid_con p0 true e3)⟩, trivial, trivial, c5, trivial, trivial, trivial, trivial, trivial, (off_false c6), trivial, trivial, trivial, trivial, trivial, trivial, trivial, trivial, trivial, trivial, trivial, trivial, trivial, trivial, trivial, trivial⟩ ?_
          exact joinQ_leaf (false) h (conv_ren [] [4] (n := 0) (by kernel_rfl) (by kernel_rfl))
      · rw [if_neg c5] at h
        refine AW.reg tt_ok0 [4] [] [{}, { call := some { ids := [], frz := [], flat := true, cnt := 0, args := [.agg [.t (.v (.int .i64 p0.Length)), .t (.tree p0.Words.length 1 (Ru64 p0.Words))]], out := .c (.t (.v (.bool true))), outb := [] } }, {}, {}, { h := { b := some false } }] ⟨[(4, .c (.t (.v (.bool false))))], [], 27⟩ [True, (((True) ∧ (True) ∧ (True)) ∧ (True)) ∧ (All2 ArgLe [.agg [.t (.v (.int .i64 p0.Length)), .t (.tree p0.Words.length 1 (Ru64 p0.Words))]] [.agg [.t (.v (.int .i64 p0.Length)), .t (.tree p0.Words.length 1 (Ru64 p0.Words))]]) ∧ ((true = true → flatB [])) ∧ (Con Try.prog 49 [.agg [.t (.v (.int .i64 p0.Length)), .t (.tree p0.Words.length 1 (Ru64 p0.Words))]] [] (.c (.t (.v (.bool true)))) []), True, True, (decide (p1 ≥ 0)) = false, True, True, True, True, True, True, True, True, True, True, True, True, True, True, True, True, True, True, True, True, True] (by kernel_rfl) (by kernel_rfl) ⟨trivial, ⟨⟨⟨trivial, trivial, trivial⟩, trivial⟩, ⟨ArgLe.refl _, trivial⟩, (fun _ => trivial), (bitset_Valid_con p0 true e3)⟩, trivial, trivial, (off_false c5), trivial, trivial, trivial, trivial, trivial, trivial, trivial, trivial, trivial, trivial, trivial, trivial, trivial, trivial, trivial, trivial, trivial, trivial, trivial, trivial, trivial, trivial⟩ ?_
        exact joinQ_leaf (false) h (conv_ren [] [4] (n := 0) (by kernel_rfl) (by kernel_rfl))
    · rw [if_neg c4] at h; have c4 := off_false c4; subst c4
      refine AW.reg tt_ok0 [4] [] [{}, { call := some { ids := [], frz := [], flat := true, cnt := 0, args := [.agg [.t (.v (.int .i64 p0.Length)), .t (.tree p0.Words.length 1 (Ru64 p0.Words))]], out := .c (.t (.v (.bool false))), outb := [] } }] ⟨[(4, .c (.t (.v (.bool false))))], [], 27⟩ [True, (((True) ∧ (True) ∧ (True)) ∧ (True)) ∧ (All2 ArgLe [.agg [.t (.v (.int .i64 p0.Length)), .t (.tree p0.Words.length 1 (Ru64 p0.Words))]] [.agg [.t (.v (.int .i64 p0.Length)), .t (.tree p0.Words.length 1 (Ru64 p0.Words))]]) ∧ ((true = true → flatB [])) ∧ (Con Try.prog 49 [.agg [.t (.v (.int .i64 p0.Length)), .t (.tree p0.Words.length 1 (Ru64 p0.Words))]] [] (.c (.t (.v (.bool false)))) []), True, True, True, True, True, True, True, True, True, True, True, True, True, True, True, True, True, True, True, True, True, True, True, True] (by kernel_rfl) (by kernel_rfl) ⟨trivial, ⟨⟨⟨trivial, trivial, trivial⟩, trivial⟩, ⟨ArgLe.refl _, trivial⟩, (fun _ => trivial), (bitset_Valid_con p0 false e3)⟩, trivial, trivial, trivial, trivial, trivial, trivial, trivial, trivial, trivial, trivial, trivial, trivial, trivial, trivial, trivial, trivial, trivial, trivial, trivial, trivial, trivial, trivial, trivial, trivial, trivial⟩ ?_
      exact joinQ_leaf (false) h (conv_ren [] [4] (n := 0) (by kernel_rfl) (by kernel_rfl))
/-! recordlink/recordlinklaw09.awake -/
noncomputable def rl_law09_awake_k2 (x13 : Bool) : Option Bool := some x13
noncomputable def rl_law09_awake : Option Bool := bind2 (bitset_New 64) fun y1 y2 => (bind2 (bitset_Set y1 63) fun y4 y5 => (bind2 (bitset_Set y4 0) fun y7 y8 => (bind2 (bitset_Hex y7) fun y10 y11 => (if (y2 == 0) = true then (if (y5 == 0) = true then (if (y8 == 0) = true then (if (y11 == 0) = true then (if (y10.toList == (ByteArray.mk #[56, 48, 48, 48, 48, 48, 48, 48, 48, 48, 48, 48, 48, 48, 48, 49]).toList) = true then ((bitset_Count y7).bind fun y19 => (if (y19 == 2) = true then ((bitset_Has y7 63).bind fun y22 => (if y22 = true then ((bitset_Has y7 1).bind fun y25 => (rl_law09_awake_k2 (!y25))) else (rl_law09_awake_k2 false))) else (rl_law09_awake_k2 false))) else (rl_law09_awake_k2 false)) else (rl_law09_awake_k2 false)) else (rl_law09_awake_k2 false)) else (rl_law09_awake_k2 false)) else (rl_law09_awake_k2 false)))))
set_option maxRecDepth 100000 in
set_option maxHeartbeats 10000000 in
theorem rl_law09_awake_con (r0 : Bool) (h : rl_law09_awake = some r0) : Con Try.prog 18 [] [] (.c (.t (.v (.bool r0)))) [] := by
  revert h; generalize r0 = r; intro h
  refine con_of tt_ok0 0 Try.func18 (by kernel_rfl) rfl (by kernel_rfl) (fun base X hk => AW.post ?_)
  unfold rl_law09_awake at h
  refine AW.seq ?_
  refine AW.reg tt_ok0 [] [] [] ⟨[], [], 1⟩ [True] (by kernel_rfl) (by kernel_rfl) ⟨trivial, trivial⟩ ?_
  refine AW.thenQ_normal ?_
  refine AW.seq ?_
  obtain ⟨y1, y2, e3, h⟩ := bind2_some h
  refine AW.reg tt_ok0 [1, 2] [1, 5] [{ call := some { ids := [], frz := [], flat := true, cnt := 1, args := [.c (.t (.v (.int .i64 64)))], out := .tup [.agg [.t (.v (.int .i64 y1.Length)), .ref 0 1 0 y1.Words.length], .c (.t (.v (.int .i64 y2)))], outb := [(0, .row 33 false 1 y1.Words.length (Ru64 y1.Words))] } }] ⟨[(2, .c (.t (.v (.int .i64 y2)))), (1, .c (.ptr 5 2 0 0))], [(5, .box 29 [.t (.v (.int .i64 y1.Length)), .ref 1 1 0 y1.Words.length]), (1, .row 33 false 1 y1.Words.length (Ru64 y1.Words))], 8⟩ [((True) ∧ (True)) ∧ (All2 ArgLe [.c (.t (.v (.int .i64 64)))] [.c (.t (.v (.int .i64 64)))]) ∧ ((true = true → flatB [(0, .row 33 false 1 y1.Words.length (Ru64 y1.Words))])) ∧ (Con Try.prog 39 [.c (.t (.v (.int .i64 64)))] [] (.tup [.agg [.t (.v (.int .i64 y1.Length)), .ref 0 1 0 y1.Words.length], .c (.t (.v (.int .i64 y2)))]) [(0, .row 33 false 1 y1.Words.length (Ru64 y1.Words))]), True, True, True, True, True, True] (by kernel_rfl) (by kernel_rfl) ⟨⟨⟨trivial, trivial⟩, ⟨ArgLe.refl _, trivial⟩, (fun _ => ⟨rowL_flat Vu64 _ _ _, trivial⟩), (bitset_New_con 64 y1 y2 e3)⟩, trivial, trivial, trivial, trivial, trivial, trivial, trivial⟩ ?_
  refine AW.thenQ_normal ?_
  refine AW.seq ?_
  obtain ⟨y4, y5, e6, h⟩ := bind2_some h
  refine AW.reg tt_ok0 [1, 2, 3] [5, 9] [{}, { call := some { ids := [], frz := [], flat := true, cnt := 1, args := [.agg [.t (.v (.int .i64 y1.Length)), .t (.tree y1.Words.length 1 (Ru64 y1.Words))], .c (.t (.v (.int .i64 63)))], out := .tup [.agg [.t (.v (.int .i64 y4.Length)), .ref 0 1 0 y4.Words.length], .c (.t (.v (.int .i64 y5)))], outb := [(0, .row 33 false 1 y4.Words.length (Ru64 y4.Words))] } }] ⟨[(3, .c (.t (.v (.int .i64 y5)))), (2, .c (.t (.v (.int .i64 y2)))), (1, .c (.ptr 5 2 0 0))], [(5, .box 29 [.t (.v (.int .i64 y4.Length)), .ref 9 1 0 y4.Words.length]), (9, .row 33 false 1 y4.Words.length (Ru64 y4.Words))], 15⟩ [True, (((True) ∧ (0 + y1.Words.length ≤ y1.Words.length) ∧ (True)) ∧ (True) ∧ (True)) ∧ (All2 ArgLe [.agg [.t (.v (.int .i64 y1.Length)), .t (.tree y1.Words.length 1 (Ru64 y1.Words))], .c (.t (.v (.int .i64 63)))] [.agg [.t (.v (.int .i64 y1.Length)), .t (.tree y1.Words.length 1 (Ru64 y1.Words))], .c (.t (.v (.int .i64 63)))]) ∧ ((true = true → flatB [(0, .row 33 false 1 y4.Words.length (Ru64 y4.Words))])) ∧ (Con Try.prog 19 [.agg [.t (.v (.int .i64 y1.Length)), .t (.tree y1.Words.length 1 (Ru64 y1.Words))], .c (.t (.v (.int .i64 63)))] [] (.tup [.agg [.t (.v (.int .i64 y4.Length)), .ref 0 1 0 y4.Words.length], .c (.t (.v (.int .i64 y5)))]) [(0, .row 33 false 1 y4.Words.length (Ru64 y4.Words))]), True, True, True, True, True] (by kernel_rfl) (by kernel_rfl) ⟨trivial, ⟨⟨⟨trivial, le0, trivial⟩, trivial, trivial⟩, ⟨ArgLe.refl _, ArgLe.refl _, trivial⟩, (fun _ => ⟨rowL_flat Vu64 _ _ _, trivial⟩), (bitset_Set_con y1 63 y4 y5 e6)⟩, trivial, trivial, trivial, trivial, trivial, trivial⟩ ?_
  refine AW.thenQ_normal ?_
  refine AW.seq ?_
  obtain ⟨y7, y8, e9, h⟩ := bind2_some h
  refine AW.reg tt_ok0 [1, 2, 3, 4] [5, 16] [{}, { call := some { ids := [], frz := [], flat := true, cnt := 1, args := [.agg [.t (.v (.int .i64 y4.Length)), .t (.tree y4.Words.length 1 (Ru64 y4.Words))], .c (.t (.v (.int .i64 0)))], out := .tup [.agg [.t (.v (.int .i64 y7.Length)), .ref 0 1 0 y7.Words.length], .c (.t (.v (.int .i64 y8)))], outb := [(0, .row 33 false 1 y7.Words.length (Ru64 y7.Words))] } }] ⟨[(4, .c (.t (.v (.int .i64 y8)))), (3, .c (.t (.v (.int .i64 y5)))), (2, .c (.t (.v (.int .i64 y2)))), (1, .c (.ptr 5 2 0 0))], [(5, .box 29 [.t (.v (.int .i64 y7.Length)), .ref 16 1 0 y7.Words.length]), (16, .row 33 false 1 y7.Words.length (Ru64 y7.Words))], 22⟩ [True, (((True) ∧ (0 + y4.Words.length ≤ y4.Words.length) ∧ (True)) ∧ (True) ∧ (True)) ∧ (All2 ArgLe [.agg [.t (.v (.int .i64 y4.Length)), .t (.tree y4.Words.length 1 (Ru64 y4.Words))], .c (.t (.v (.int .i64 0)))] [.agg [.t (.v (.int .i64 y4.Length)), .t (.tree y4.Words.length 1 (Ru64 y4.Words))], .c (.t (.v (.int .i64 0)))]) ∧ ((true = true → flatB [(0, .row 33 false 1 y7.Words.length (Ru64 y7.Words))])) ∧ (Con Try.prog 19 [.agg [.t (.v (.int .i64 y4.Length)), .t (.tree y4.Words.length 1 (Ru64 y4.Words))], .c (.t (.v (.int .i64 0)))] [] (.tup [.agg [.t (.v (.int .i64 y7.Length)), .ref 0 1 0 y7.Words.length], .c (.t (.v (.int .i64 y8)))]) [(0, .row 33 false 1 y7.Words.length (Ru64 y7.Words))]), True, True, True, True, True] (by kernel_rfl) (by kernel_rfl) ⟨trivial, ⟨⟨⟨trivial, le0, trivial⟩, trivial, trivial⟩, ⟨ArgLe.refl _, ArgLe.refl _, trivial⟩, (fun _ => ⟨rowL_flat Vu64 _ _ _, trivial⟩), (bitset_Set_con y4 0 y7 y8 e9)⟩, trivial, trivial, trivial, trivial, trivial, trivial⟩ ?_
  refine AW.thenQ_normal ?_
  refine AW.seq ?_
  obtain ⟨y10, y11, e12, h⟩ := bind2_some h
  refine AW.reg tt_ok0 [1, 2, 3, 4, 5, 6] [5, 16] [{}, { call := some { ids := [], frz := [], flat := true, cnt := 0, args := [.agg [.t (.v (.int .i64 y7.Length)), .t (.tree y7.Words.length 1 (Ru64 y7.Words))]], out := .tup [.c (.t (.v (.string y10))), .c (.t (.v (.int .i64 y11)))], outb := [] } }] ⟨[(6, .c (.t (.v (.int .i64 y11)))), (5, .c (.t (.v (.string y10)))), (4, .c (.t (.v (.int .i64 y8)))), (3, .c (.t (.v (.int .i64 y5)))), (2, .c (.t (.v (.int .i64 y2)))), (1, .c (.ptr 5 2 0 0))], [(5, .box 29 [.t (.v (.int .i64 y7.Length)), .ref 16 1 0 y7.Words.length]), (16, .row 33 false 1 y7.Words.length (Ru64 y7.Words))], 28⟩ [True, (((True) ∧ (0 + y7.Words.length ≤ y7.Words.length) ∧ (True)) ∧ (True)) ∧ (All2 ArgLe [.agg [.t (.v (.int .i64 y7.Length)), .t (.tree y7.Words.length 1 (Ru64 y7.Words))]] [.agg [.t (.v (.int .i64 y7.Length)), .t (.tree y7.Words.length 1 (Ru64 y7.Words))]]) ∧ ((true = true → flatB [])) ∧ (Con Try.prog 36 [.agg [.t (.v (.int .i64 y7.Length)), .t (.tree y7.Words.length 1 (Ru64 y7.Words))]] [] (.tup [.c (.t (.v (.string y10))), .c (.t (.v (.int .i64 y11)))]) []), True, True, True, True, True] (by kernel_rfl) (by kernel_rfl) ⟨trivial, ⟨⟨⟨trivial, le0, trivial⟩, trivial⟩, ⟨ArgLe.refl _, trivial⟩, (fun _ => trivial), (bitset_Hex_con y7 y10 y11 e12)⟩, trivial, trivial, trivial, trivial, trivial, trivial⟩ ?_
  refine AW.thenQ_normal ?_
  refine AW.seq ?_
  refine AW.join (ι := Bool) (fun v => ⟨[(0, .c (.t (.v (.bool v))))], [], 0⟩) (fun v : Bool => rl_law09_awake_k2 v = some r) (fun v h => ?_) ?_
  ·
    obtain ⟨x13, rfl⟩ : ∃ x, x = v := ⟨_, rfl⟩
    replace h : rl_law09_awake_k2 x13 = some r := h
    unfold rl_law09_awake_k2 at h
    show (_ : Exit → St → Prop) .normal ⟨[(0, .c (.t (.v (.bool x13))))], [], 0⟩
    refine AW.thenQ_normal ?_
    refine AW.ret ?_
    obtain rfl := some_inj h
    exact ⟨_, Conv.refl _ _, .inr rfl, OutOk.mk [] 0 (out0 := .c (.t (.v (.bool x13)))) (ps := [True]) (by kernel_rfl) ⟨trivial, trivial⟩ (by kernel_rfl) (by kernel_rfl)⟩
  ·
    by_cases c14 : (y2 == 0) = true
    · rw [if_pos c14] at h
      by_cases c15 : (y5 == 0) = true
      · rw [if_pos c15] at h
        by_cases c16 : (y8 == 0) = true
        · rw [if_pos c16] at h
          by_cases c17 : (y11 == 0) = true
          · rw [if_pos c17] at h
            by_cases c18 : (y10.toList == (ByteArray.mk #[56, 48, 48, 48, 48, 48, 48, 48, 48, 48, 48, 48, 48, 48, 48, 49]).toList) = true
            · rw [if_pos c18] at h
              obtain ⟨y19, e20, h⟩ := bnd_some h
              by_cases c21 : (y19 == 2) = true
              · rw [if_pos c21] at h
                obtain ⟨y22, e23, h⟩ := bnd_some h
                by_cases c24 : y22 = true
                · rw [if_pos c24] at h; subst c24
                  obtain ⟨y25, e26, h⟩ := bnd_some h
                  refine AW.reg tt_ok0 [0] [] [{}, { h := { b := some true } }, {}, {}, { h := { b := some true } }, {}, {}, {}, { h := { b := some true } }, {}, {}, {}, { h := { b := some true } }, {}, {}, {}, { h := { b := some true } }, {}, {}, {}, { call := some { ids := [], frz := [], flat := true, cnt := 0, args := [.agg [.t (.v (.int .i64 y7.Length)), .t (.tree y7.Words.length 1 (Ru64 y7.Words))]], out := .c (.t (.v (.int .i64 y19))), outb := [] } }, { h := { b := some true } }, {}, {}, {}, { call := some { ids := [], frz := [], flat := true, cnt := 0, args := [.agg [.t (.v (.int .i64 y7.Length)), .t (.tree y7.Words.length 1 (Ru64 y7.Words))], .c (.t (.v (.int .i64 63)))], out := .c (.t (.v (.bool true))), outb := [] } }, {}, {}, {}, { call := some { ids := [], frz := [], flat := true, cnt := 0, args := [.agg [.t (.v (.int .i64 y7.Length)), .t (.tree y7.Words.length 1 (Ru64 y7.Words))], .c (.t (.v (.int .i64 1)))], out := .c (.t (.v (.bool y25))), outb := [] } }] ⟨[(0, .c (.t (.v (.bool (!y25)))))], [], 58⟩ [True, (y2 == 0) = true, True, True, (y5 == 0) = true, True, True, True, (y8 == 0) = true, True, True, True, (y11 == 0) = true, True, True, True, (y10.toList == (ByteArray.mk #[56, 48, 48, 48, 48, 48, 48, 48, 48, 48, 48, 48, 48, 48, 48, 49]).toList) = true, True, True, True, (((True) ∧ (0 + y7.Words.length ≤ y7.Words.length) ∧ (True)) ∧ (True)) ∧ (All2 ArgLe [.agg [.t (.v (.int .i64 y7.Length)), .t (.tree y7.Words.length 1 (Ru64 y7.Words))]] [.agg [.t (.v (.int .i64 y7.Length)), .t (.tree y7.Words.length 1 (Ru64 y7.Words))]]) ∧ ((true = true → flatB [])) ∧ (Con Try.prog 22 [.agg [.t (.v (.int .i64 y7.Length)), .t (.tree y7.Words.length 1 (Ru64 y7.Words))]] [] (.c (.t (.v (.int .i64 y19)))) []), (y19 == 2) = true, True, True, True, (((True) ∧ (0 + y7.Words.length ≤ y7.Words.length) ∧ (True)) ∧ (True) ∧ (True)) ∧ (All2 ArgLe [.agg [.t (.v (.int .i64 y7.Length)), .t (.tree y7.Words.length 1 (Ru64 y7.Words))], .c (.t (.v (.int .i64 63)))] [.agg [.t (.v (.int .i64 y7.Length)), .t (.tree y7.Words.length 1 (Ru64 y7.Words))], .c (.t (.v (.int .i64 63)))]) ∧ ((true = true → flatB [])) ∧ (Con Try.prog 21 [.agg [.t (.v (.int .i64 y7.Length)), .t (.tree y7.Words.length 1 (Ru64 y7.Words))], .c (.t (.v (.int .i64 63)))] [] (.c (.t (.v (.bool true)))) []), True, True, True, (((True) ∧ (0 + y7.Words.length ≤ y7.Words.length) ∧ (True)) ∧ (True) ∧ (True)) ∧ (All2 ArgLe [.agg [.t (.v (.int .i64 y7.Length)), .t (.tree y7.Words.length 1 (Ru64 y7.Words))], .c (.t (.v (.int .i64 1)))] [.agg [.t (.v (.int .i64 y7.Length)), .t (.tree y7.Words.length 1 (Ru64 y7.Words))], .c (.t (.v (.int .i64 1)))]) ∧ ((true = true → flatB [])) ∧ (Con Try.prog 21 [.agg [.t (.v (.int .i64 y7.Length)), .t (.tree y7.Words.length 1 (Ru64 y7.Words))], .c (.t (.v (.int .i64 1)))] [] (.c (.t (.v (.bool y25)))) []), True, True, True] (by kernel_rfl) (by kernel_rfl) ⟨trivial, c14, trivial, trivial, c15, trivial, trivial, trivial, c16, trivial, trivial, trivial, c17, trivial, trivial, trivial, c18, trivial, trivial, trivial, ⟨⟨⟨trivial, le0, trivial⟩, trivial⟩, ⟨ArgLe.refl _, trivial⟩, (fun _ => trivial), (bitset_Count_con y7 y19 e20)⟩, c21, trivial, trivial, trivial, ⟨⟨⟨trivial, le0, trivial⟩, trivial, trivial⟩, ⟨ArgLe.refl _, ArgLe.refl _, trivial⟩, (fun _ => trivial), (bitset_Has_con y7 63 true e23)⟩, trivial, trivial, trivial, ⟨⟨⟨trivial, le0, trivial⟩, trivial, trivial⟩, ⟨ArgLe.refl _, ArgLe.refl _, trivial⟩, (fun _ => trivial), (bitset_Has_con y7 1 y25 e26)⟩, trivial, trivial, trivial, trivial⟩ ?_
                  exact joinQ_leaf (!y25) h (conv_ren [] [0] (n := 0) (by kernel_rfl) (by kernel_rfl))
                · rw [if_neg c24] at h; have c24 := off_false c24; subst c24
                  refine AW.reg tt_ok0 [0] [] [{}, { h := { b := some true } }, {}, {}, { h := { b := some true } }, {}, {}, {}, { h := { b := some true } }, {}, {}, {}, { h := { b := some true } }, {}, {}, {}, { h := { b := some true } }, {}, {}, {}, { call := some { ids := [], frz := [], flat := true, cnt := 0, args := [.agg [.t (.v (.int .i64 y7.Length)), .t (.tree y7.Words.length 1 (Ru64 y7.Words))]], out := .c (.t (.v (.int .i64 y19))), outb := [] } }, { h := { b := some true } }, {}, {}, {}, { call := some { ids := [], frz := [], flat := true, cnt := 0, args := [.agg [.t (.v (.int .i64 y7.Length)), .t (.tree y7.Words.length 1 (Ru64 y7.Words))], .c (.t (.v (.int .i64 63)))], out := .c (.t (.v (.bool false))), outb := [] } }] ⟨[(0, .c (.t (.v (.bool false))))], [], 59⟩ [True, (y2 == 0) = true, True, True, (y5 == 0) = true, True, True, True, (y8 == 0) = true, True, True, True, (y11 == 0) = true, True, True, True, (y10.toList == (ByteArray.mk #[56, 48, 48, 48, 48, 48, 48, 48, 48, 48, 48, 48, 48, 48, 48, 49]).toList) = true, True, True, True, (((True) ∧ (0 + y7.Words.length ≤ y7.Words.length) ∧ (True)) ∧ (True)) ∧ (All2 ArgLe [.agg [.t (.v (.int .i64 y7.Length)), .t (.tree y7.Words.length 1 (Ru64 y7.Words))]] [.agg [.t (.v (.int .i64 y7.Length)), .t (.tree y7.Words.length 1 (Ru64 y7.Words))]]) ∧ ((true = true → flatB [])) ∧ (Con Try.prog 22 [.agg [.t (.v (.int .i64 y7.Length)), .t (.tree y7.Words.length 1 (Ru64 y7.Words))]] [] (.c (.t (.v (.int .i64 y19)))) []), (y19 == 2) = true, True, True, True, (((True) ∧ (0 + y7.Words.length ≤ y7.Words.length) ∧ (True)) ∧ (True) ∧ (True)) ∧ (All2 ArgLe [.agg [.t (.v (.int .i64 y7.Length)), .t (.tree y7.Words.length 1 (Ru64 y7.Words))], .c (.t (.v (.int .i64 63)))] [.agg [.t (.v (.int .i64 y7.Length)), .t (.tree y7.Words.length 1 (Ru64 y7.Words))], .c (.t (.v (.int .i64 63)))]) ∧ ((true = true → flatB [])) ∧ (Con Try.prog 21 [.agg [.t (.v (.int .i64 y7.Length)), .t (.tree y7.Words.length 1 (Ru64 y7.Words))], .c (.t (.v (.int .i64 63)))] [] (.c (.t (.v (.bool false)))) []), True, True, True, True, True, True, True] (by kernel_rfl) (by kernel_rfl) ⟨trivial, c14, trivial, trivial, c15, trivial, trivial, trivial, c16, trivial, trivial, trivial, c17, trivial, trivial, trivial, c18, trivial, trivial, trivial, ⟨⟨⟨trivial, le0, trivial⟩, trivial⟩, ⟨ArgLe.refl _, trivial⟩, (fun _ => trivial), (bitset_Count_con y7 y19 e20)⟩, c21, trivial, trivial, trivial, ⟨⟨⟨trivial, le0, trivial⟩, trivial, trivial⟩, ⟨ArgLe.refl _, ArgLe.refl _, trivial⟩, (fun _ => trivial), (bitset_Has_con y7 63 false e23)⟩, trivial, trivial, trivial, trivial, trivial, trivial, trivial, trivial⟩ ?_
                  exact joinQ_leaf (false) h (conv_ren [] [0] (n := 0) (by kernel_rfl) (by kernel_rfl))
              · rw [if_neg c21] at h
                refine AW.reg tt_ok0 [0] [] [{}, { h := { b := some true } }, {}, {}, { h := { b := some true } }, {}, {}, {}, { h := { b := some true } }, {}, {}, {}, { h := { b := some true } }, {}, {}, {}, { h := { b := some true } }, {}, {}, {}, { call := some { ids := [], frz := [], flat := true, cnt := 0, args := [.agg [.t (.v (.int .i64 y7.Length)), .t (.tree y7.Words.length 1 (Ru64 y7.Words))]], out := .c (.t (.v (.int .i64 y19))), outb := [] } }, { h := { b := some false } }] ⟨[(0, .c (.t (.v (.bool false))))], [], 60⟩ [True, (y2 == 0) = true, True, True, (y5 == 0) = true, True, True, True, (y8 == 0) = true, True, True, True, (y11 == 0) = true, True, True, True, (y10.toList == (ByteArray.mk #[56, 48, 48, 48, 48, 48, 48, 48, 48, 48, 48, 48, 48, 48, 48, 49]).toList) = true, True, True, True, (((True) ∧ (0 + y7.Words.length ≤ y7.Words.length) ∧ (True)) ∧ (True)) ∧ (All2 ArgLe [.agg [.t (.v (.int .i64 y7.Length)), .t (.tree y7.Words.length 1 (Ru64 y7.Words))]] [.agg [.t (.v (.int .i64 y7.Length)), .t (.tree y7.Words.length 1 (Ru64 y7.Words))]]) ∧ ((true = true → flatB [])) ∧ (Con Try.prog 22 [.agg [.t (.v (.int .i64 y7.Length)), .t (.tree y7.Words.length 1 (Ru64 y7.Words))]] [] (.c (.t (.v (.int .i64 y19)))) []), (y19 == 2) = false, True, True, True, True, True, True, True, True, True, True, True] (by kernel_rfl) (by kernel_rfl) ⟨trivial, c14, trivial, trivial, c15, trivial, trivial, trivial, c16, trivial, trivial, trivial, c17, trivial, trivial, trivial, c18, trivial, trivial, trivial, ⟨⟨⟨trivial, le0, trivial⟩, trivial⟩, ⟨ArgLe.refl _, trivial⟩, (fun _ => trivial), (bitset_Count_con y7 y19 e20)⟩, (off_false c21), trivial, trivial, trivial, trivial, trivial, trivial, trivial, trivial, trivial, trivial, trivial, trivial⟩ ?_
                exact joinQ_leaf (false) h (conv_ren [] [0] (n := 0) (by kernel_rfl) (by kernel_rfl))
            · rw [if_neg c18] at h
              refine AW.reg tt_ok0 [0] [] [{}, { h := { b := some true } }, {}, {}, { h := { b := some true } }, {}, {}, {}, { h := { b := some true } }, {}, {}, {}, { h := { b := some true } }, {}, {}, {}, { h := { b := some false } }] ⟨[(0, .c (.t (.v (.bool false))))], [], 61⟩ [True, (y2 == 0) = true, True, True, (y5 == 0) = true, True, True, True, (y8 == 0) = true, True, True, True, (y11 == 0) = true, True, True, True, (y10.toList == (ByteArray.mk #[56, 48, 48, 48, 48, 48, 48, 48, 48, 48, 48, 48, 48, 48, 48, 49]).toList) = false, True, True, True, True, True, True, True, True, True, True, True, True, True, True, True, True] (by kernel_rfl) (by kernel_rfl) ⟨trivial, c14, trivial, trivial, c15, trivial, trivial, trivial, c16, trivial, trivial, trivial, c17, trivial, trivial, trivial, (off_false c18), trivial, trivial, trivial, trivial, trivial, trivial, trivial, trivial, trivial, trivial, trivial, trivial, trivial, trivial, trivial, trivial, trivial⟩ ?_
              exact joinQ_leaf (false) h (conv_ren [] [0] (n := 0) (by kernel_rfl) (by kernel_rfl))
          · rw [if_neg c17] at h
            refine AW.reg tt_ok0 [0] [] [{}, { h := { b := some true } }, {}, {}, { h := { b := some true } }, {}, {}, {}, { h := { b := some true } }, {}, {}, {}, { h := { b := some false } }] ⟨[(0, .c (.t (.v (.bool false))))], [], 61⟩ [True, (y2 == 0) = true, True, True, (y5 == 0) = true, True, True, True, (y8 == 0) = true, True, True, True, (y11 == 0) = false, True, True, True, True, True, True, True, True, True, True, True, True, True, True, True, True, True, True, True, True] (by kernel_rfl) (by kernel_rfl) ⟨trivial, c14, trivial, trivial, c15, trivial, trivial, trivial, c16, trivial, trivial, trivial, (off_false c17), trivial, trivial, trivial, trivial, trivial, trivial, trivial, trivial, trivial, trivial, trivial, trivial, trivial, trivial, trivial, trivial, trivial, trivial, trivial, trivial, trivial⟩ ?_
            exact joinQ_leaf (false) h (conv_ren [] [0] (n := 0) (by kernel_rfl) (by kernel_rfl))
        · rw [if_neg c16] at h
          refine AW.reg tt_ok0 [0] [] [{}, { h := { b := some true } }, {}, {}, { h := { b := some true } }, {}, {}, {}, { h := { b := some false } }] ⟨[(0, .c (.t (.v (.bool false))))], [], 61⟩ [True, (y2 == 0) = true, True, True, (y5 == 0) = true, True, True, True, (y8 == 0) = false, True, True, True, True, True, True, True, True, True, True, True, True, True, True, True, True, True, True, True, True, True, True, True, True] (by kernel_rfl) (by kernel_rfl) ⟨trivial, c14, trivial, trivial, c15, trivial, trivial, trivial, (off_false c16), trivial, trivial, trivial, trivial, trivial, trivial, trivial, trivial, trivial, trivial, trivial, trivial, trivial, trivial, trivial, trivial, trivial, trivial, trivial, trivial, trivial, trivial, trivial, trivial, trivial⟩ ?_
          exact joinQ_leaf (false) h (conv_ren [] [0] (n := 0) (by kernel_rfl) (by kernel_rfl))
      · rw [if_neg c15] at h
        refine AW.reg tt_ok0 [0] [] [{}, { h := { b := some true } }, {}, {}, { h := { b := some false } }] ⟨[(0, .c (.t (.v (.bool false))))], [], 61⟩ [True, (y2 == 0) = true, True, True, (y5 == 0) = false, True, True, True, True, True, True, True, True, True, True, True, True, True, True, True, True, True, True, True, True, True, True, True, True, True, True, True, True] (by kernel_rfl) (by kernel_rfl) ⟨trivial, c14, trivial, trivial, (off_false c15), trivial, trivial, trivial, trivial, trivial, trivial, trivial, trivial, trivial, trivial, trivial, trivial, trivial, trivial, trivial, trivial, trivial, trivial, trivial, trivial, trivial, trivial, trivial, trivial, trivial, trivial, trivial, trivial, trivial⟩ ?_
        exact joinQ_leaf (false) h (conv_ren [] [0] (n := 0) (by kernel_rfl) (by kernel_rfl))
    · rw [if_neg c14] at h
      refine AW.reg tt_ok0 [0] [] [{}, { h := { b := some false } }] ⟨[(0, .c (.t (.v (.bool false))))], [], 61⟩ [True, (y2 == 0) = false, True, True, True, True, True, True, True, True, True, True, True, True, True, True, True, True, True, True, True, True, True, True, True, True, True, True, True, True, True, True, True] (by kernel_rfl) (by kernel_rfl) ⟨trivial, (off_false c14), trivial, trivial, trivial, trivial, trivial, trivial, trivial, trivial, trivial, trivial, trivial, trivial, trivial, trivial, trivial, trivial, trivial, trivial, trivial, trivial, trivial, trivial, trivial, trivial, trivial, trivial, trivial, trivial, trivial, trivial, trivial, trivial⟩ ?_
      exact joinQ_leaf (false) h (conv_ren [] [0] (n := 0) (by kernel_rfl) (by kernel_rfl))
/-! recordlink/recordlinkref09.order -/
noncomputable def rl_ref09_order (p0 : Int) (p1 : Int) : Option Int := if (decide (p0 < p1)) = true then (some (-1)) else (if (decide (p0 > p1)) = true then (some 1) else (some 0))
set_option maxRecDepth 100000 in
set_option maxHeartbeats 10000000 in
theorem rl_ref09_order_con (p0 : Int) (p1 : Int) (r0 : Int) (h : rl_ref09_order p0 p1 = some r0) : Con Try.prog 69 [.c (.t (.v (.int .i64 p0))), .c (.t (.v (.int .i64 p1)))] [] (.c (.t (.v (.int .i64 r0)))) [] := by
  revert h; generalize r0 = r; intro h
  refine con_of tt_ok0 0 Try.func69 (by kernel_rfl) rfl (by kernel_rfl) (fun base X hk => AW.post ?_)
  unfold rl_ref09_order at h
  refine AW.seq ?_
  refine AW.reg tt_ok0 [0, 1] [] [] ⟨[(0, .c (.t (.v (.int .i64 p0)))), (1, .c (.t (.v (.int .i64 p1))))], [], 1⟩ [True] (by kernel_rfl) (by kernel_rfl) ⟨trivial, trivial⟩ ?_
  refine AW.thenQ_normal ?_
  refine AW.seq ?_
  refine AW.seq ?_
  refine AW.reg tt_ok0 [0, 1, 7] [] [] ⟨[(7, .c (.t (.v (.bool (decide (p0 < p1)))))), (0, .c (.t (.v (.int .i64 p0)))), (1, .c (.t (.v (.int .i64 p1))))], [], 4⟩ [True, True, True] (by kernel_rfl) (by kernel_rfl) ⟨trivial, trivial, trivial, trivial⟩ ?_
  refine AW.thenQ_normal ?_
  refine AW.cond (b := decide (p0 < p1)) (by kernel_rfl) (fun c1 => ?_) (fun c1 => ?_)
  · rw [if_pos c1] at h
    refine AW.seq ?_
    refine AW.reg tt_ok0 [4] [] [] ⟨[(4, .c (.t (.v (.int .i64 (-1)))))], [], 5⟩ [True] (by kernel_rfl) (by kernel_rfl) ⟨trivial, trivial⟩ ?_
    refine AW.thenQ_normal ?_
    refine AW.ret ?_
    refine AW.thenQ_ret ?_
    obtain rfl := some_inj h
    exact ⟨_, Conv.refl _ _, .inr rfl, OutOk.mk [] 0 (out0 := .c (.t (.v (.int .i64 (-1))))) (ps := [True]) (by kernel_rfl) ⟨trivial, trivial⟩ (by kernel_rfl) (by kernel_rfl)⟩
  · rw [if_neg (by rw [c1]; exact Bool.false_ne_true)] at h
    refine AW.skip ?_
    refine AW.thenQ_normal ?_
    refine AW.seq ?_
    refine AW.seq ?_
    refine AW.reg tt_ok0 [10] [] [] ⟨[(10, .c (.t (.v (.bool (decide (p0 > p1))))))], [], 7⟩ [True, True, True] (by kernel_rfl) (by kernel_rfl) ⟨trivial, trivial, trivial, trivial⟩ ?_
    refine AW.thenQ_normal ?_
    refine AW.cond (b := decide (p0 > p1)) (by kernel_rfl) (fun c2 => ?_) (fun c2 => ?_)
    · rw [if_pos c2] at h
      refine AW.seq ?_
      refine AW.reg tt_ok0 [4] [] [] ⟨[(4, .c (.t (.v (.int .i64 1))))], [], 8⟩ [True] (by kernel_rfl) (by kernel_rfl) ⟨trivial, trivial⟩ ?_
      refine AW.thenQ_normal ?_
      refine AW.ret ?_
      refine AW.thenQ_ret ?_
      obtain rfl := some_inj h
      exact ⟨_, Conv.refl _ _, .inr rfl, OutOk.mk [] 0 (out0 := .c (.t (.v (.int .i64 1)))) (ps := [True]) (by kernel_rfl) ⟨trivial, trivial⟩ (by kernel_rfl) (by kernel_rfl)⟩
    · rw [if_neg (by rw [c2]; exact Bool.false_ne_true)] at h
      refine AW.skip ?_
      refine AW.thenQ_normal ?_
      refine AW.seq ?_
      refine AW.reg tt_ok0 [4] [] [] ⟨[(4, .c (.t (.v (.int .i64 0))))], [], 8⟩ [True] (by kernel_rfl) (by kernel_rfl) ⟨trivial, trivial⟩ ?_
      refine AW.thenQ_normal ?_
      refine AW.ret ?_
      obtain rfl := some_inj h
      exact ⟨_, Conv.refl _ _, .inr rfl, OutOk.mk [] 0 (out0 := .c (.t (.v (.int .i64 0)))) (ps := [True]) (by kernel_rfl) ⟨trivial, trivial⟩ (by kernel_rfl) (by kernel_rfl)⟩
end Go.Proofs.Yteholdifeilkkaa
