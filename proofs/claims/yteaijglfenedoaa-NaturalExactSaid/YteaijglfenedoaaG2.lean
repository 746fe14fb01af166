/- Printed by a program of mine (vmgen.py): Go functions, and what they come to. -/
import Derived.Test.YteaijglfenedoaaVp
import Derived.Test.YteaijglfenedoaaRows
import Derived.Test.YteaijglfenedoaaG1
namespace Go.Proofs.Yteaijglfenedoaa
open Vm
open IntKind (i64 u64 u32 u8)
set_option maxHeartbeats 10000000
set_option linter.unusedVariables false
set_option linter.unusedSimpArgs false
set_option linter.constructorNameAsVariable false
def ttl2 : List (Nat × TI) := [(3, ⟨.int .i64, 1, 8, [.int .i64 0]⟩), (4, ⟨.bool, 1, 1, [.bool false]⟩), (5, ⟨.int .u8, 1, 1, [.int .u8 0]⟩), (9, ⟨.str, 1, 16, [.string ⟨#[]⟩]⟩), (22, ⟨.slice 3, 1, 24, [.slice none 0 0]⟩), (25, ⟨.ptr 52, 1, 8, [.pointer none]⟩), (27, ⟨.slice 37, 1, 24, [.slice none 0 0]⟩), (28, ⟨.slice 37, 1, 24, [.slice none 0 0]⟩), (30, ⟨.int .i64, 1, 8, [.int .i64 0]⟩), (37, ⟨.int .u32, 1, 4, [.int .u32 0]⟩), (41, ⟨.int .u64, 1, 8, [.int .u64 0]⟩), (48, ⟨.slice 28, 1, 24, [.slice none 0 0]⟩), (52, ⟨.struct [(22, 0), (3, 1), (41, 2)], 3, 40, [.slice none 0 0, .int .i64 0, .int .u64 0]⟩), (64, ⟨.slice 5, 1, 24, [.slice none 0 0]⟩)]
theorem tt_ok2 : TTok Try.prog (Vm.look ttl2) := ttok_of ⟨⟨by kernel_rfl, by kernel_rfl⟩, ⟨by kernel_rfl, by kernel_rfl⟩, ⟨by kernel_rfl, by kernel_rfl⟩, ⟨by kernel_rfl, by kernel_rfl⟩, ⟨by kernel_rfl, by kernel_rfl⟩, ⟨by kernel_rfl, by kernel_rfl⟩, ⟨by kernel_rfl, by kernel_rfl⟩, ⟨by kernel_rfl, by kernel_rfl⟩, ⟨by kernel_rfl, by kernel_rfl⟩, ⟨by kernel_rfl, by kernel_rfl⟩, ⟨by kernel_rfl, by kernel_rfl⟩, ⟨by kernel_rfl, by kernel_rfl⟩, ⟨by kernel_rfl, by kernel_rfl⟩, ⟨by kernel_rfl, by kernel_rfl⟩, trivial⟩
theorem mo2 : Try.prog.follows .mixedOrders = true := by kernel_rfl
/-! recordlink/recordlinkref10.DivMod -/
noncomputable def rl_ref10_DivMod_k29 (x13 : Int) (x17 : List Int) (x18 : List Int) : Option (((List Int) × (List Int) × Int) ⊕ ((List Int) × (List Int))) := some (.inl (x17, x18, i64.wrap (x13 - 1)))
noncomputable def rl_ref10_DivMod_k30 (p1 : List Int) (x11 : List Int) (x13 : Int) (x21 : List Int) : Option (((List Int) × (List Int) × Int) ⊕ ((List Int) × (List Int))) := (rl_ref10_Compare x21 p1).bind fun y22 => (if (decide (y22 ≥ 0)) = true then ((rl_ref10_less x21 p1).bind fun y25 => (if 0 ≤ (i64.wrap (x13.tdiv 32)) then (if (i64.wrap (x13.tdiv 32)) < ((x11.length : Nat) : Int) then (if 0 ≤ (x13.tmod 32) then (rl_ref10_DivMod_k29 x13 (x11.set (0 + (i64.wrap (x13.tdiv 32)).toNat) (ior .u32 (x11.getD (0 + (i64.wrap (x13.tdiv 32)).toNat) 0) (ishl .u32 1 (x13.tmod 32)))) y25) else none) else none) else none)) else (rl_ref10_DivMod_k29 x13 x11 x21))
noncomputable def rl_ref10_DivMod_l27 (p0 : List Int) (p1 : List Int) (x11 : List Int) (x12 : List Int) (x13 : Int) : Option (((List Int) × (List Int) × Int) ⊕ ((List Int) × (List Int))) := if (decide (x13 ≥ 0)) = true then ((rl_ref10_sum x12 x12).bind fun y19 => (if 0 ≤ (i64.wrap (x13.tdiv 32)) then (if (i64.wrap (x13.tdiv 32)) < ((p0.length : Nat) : Int) then (if 0 ≤ (x13.tmod 32) then (if ((iand .u32 (ishr .u32 (p0.getD ((i64.wrap (x13.tdiv 32)).toNat) 0) (x13.tmod 32)) 1) == 1) = true then ((rl_ref10_sum y19 ([1] : List Int)).bind fun y34 => (rl_ref10_DivMod_k30 p1 x11 x13 y34)) else (rl_ref10_DivMod_k30 p1 x11 x13 y19)) else none) else none) else none)) else (some (.inr (x11, x12)))
noncomputable def rl_ref10_DivMod_k4 (p0 : List Int) (p1 : List Int) (x1 : Bool) : Option ((List Int) × (List Int) × Int) := if x1 = true then (some (([] : List Int), ([] : List Int), 20)) else (if (((p1.length : Nat) : Int) == 0) = true then (some (([] : List Int), ([] : List Int), 9)) else (if 0 ≤ ((p0.length : Nat) : Int) then (if ((p0.length : Nat) : Int) ≤ 1099511627776 then ((some (i64.wrap ((i64.wrap (32 * ((p0.length : Nat) : Int))) - 1))).bind fun z6 => (bind2 (loop (fun v : (List Int) × (List Int) × Int => rl_ref10_DivMod_l27 p0 p1 v.1 v.2.1 v.2.2) ((List.replicate (((p0.length : Nat) : Int).toNat) (0 : Int)), [], z6)) fun x36 x37 => ((rl_ref10_trim x36).bind fun y38 => (some (y38, x37, 0))))) else none) else none))
noncomputable def rl_ref10_DivMod (p0 : List Int) (p1 : List Int) : Option ((List Int) × (List Int) × Int) := (rl_ref10_Valid p0).bind fun y41 => (if (!y41) = true then (rl_ref10_DivMod_k4 p0 p1 true) else ((rl_ref10_Valid p1).bind fun y44 => (rl_ref10_DivMod_k4 p0 p1 (!y44))))
set_option maxRecDepth 100000 in
set_option maxHeartbeats 10000000 in
theorem rl_ref10_DivMod_con (p0 : List Int) (p1 : List Int) (r0 : List Int) (r1 : List Int) (r2 : Int) (h : rl_ref10_DivMod p0 p1 = some (r0, r1, r2)) : Con Try.prog 50 [vl 1 Ru32 p0, vl 1 Ru32 p1] [] (.tup [vl 1 Ru32 r0, vl 1 Ru32 r1, vi64 r2]) [] := by
 suffices H : ∀ r, rl_ref10_DivMod p0 p1 = some r → Con Try.prog 50 [vl 1 Ru32 p0, vl 1 Ru32 p1] [] (.tup [vl 1 Ru32 r.1, vl 1 Ru32 r.2.1, vi64 r.2.2]) [] from H (r0, r1, r2) h
 clear h
 intro r h
 refine con_of tt_ok2 0 Try.func50 (by kernel_rfl) rfl (by kernel_rfl) (fun base X hk => AW.post ?_)
 unfold rl_ref10_DivMod at h
 refine AW.seq ?_
 refine AW.reg tt_ok2 [0, 1] [] [] ⟨[(0, vl 1 Ru32 p0), (1, vl 1 Ru32 p1)], [], 3⟩ [True, True, True] (by kernel_rfl) (by kernel_rfl) ⟨tv, tv, tv, tv⟩ ?_
 refine AW.tn ?_
 refine AW.seq ?_
 refine AW.seq ?_
 refine AW.join (ι := Bool) (fun v => ⟨[(0, vl 1 Ru32 p0), (1, vl 1 Ru32 p1), (17, vb v)], [], 0⟩) (fun v : Bool => rl_ref10_DivMod_k4 p0 p1 v = some r) (fun v h => ?_) ?_
 ·
  obtain ⟨x1, rfl⟩ : ∃ x, x = v := ⟨_, rfl⟩
  replace h : rl_ref10_DivMod_k4 p0 p1 x1 = some r := h
  unfold rl_ref10_DivMod_k4 at h
  show (_ : Exit → St → Prop) .normal ⟨[(0, vl 1 Ru32 p0), (1, vl 1 Ru32 p1), (17, vb x1)], [], 0⟩
  refine AW.tn ?_
  refine AW.cond (b := x1) (by kernel_rfl) (fun c2 => ?_) (fun c2 => ?_)
  ·rw [if_pos c2] at h
   refine AW.seq ?_
   refine AW.reg tt_ok2 [4, 5, 6] [] [] ⟨[(6, vi64 20), (5, .c (.t (.v (.slice none 0 0)))), (4, .c (.t (.v (.slice none 0 0))))], [], 3⟩ [True, True, True] (by kernel_rfl) (by kernel_rfl) ⟨tv, tv, tv, tv⟩ ?_
   refine AW.tn ?_
   refine AW.ret ?_
   refine AW.tr ?_
   obtain rfl := some_inj h
   exact ⟨_, Conv.trans (conv_tm (tm' := [(6, vi64 20), (5, .c (.t (.v (.slice none 0 0)))), (4, vl 1 Ru32 ([] : List Int))]) ⟨⟨vi64 20, by kernel_rfl, ALe.refl _ _⟩, ⟨.c (.t (.v (.slice none 0 0))), by kernel_rfl, ALe.refl _ _⟩, ⟨.c (.t (.v (.slice none 0 0))), by kernel_rfl, ALe.c (CLe.nil rfl)⟩, tv⟩) (conv_tm (tm' := [(6, vi64 20), (5, vl 1 Ru32 ([] : List Int)), (4, vl 1 Ru32 ([] : List Int))]) ⟨⟨vi64 20, by kernel_rfl, ALe.refl _ _⟩, ⟨.c (.t (.v (.slice none 0 0))), by kernel_rfl, ALe.c (CLe.nil rfl)⟩, ⟨vl 1 Ru32 ([] : List Int), by kernel_rfl, ALe.refl _ _⟩, tv⟩), .inr rfl, OutOk.mk [] 0 (out0 := .tup [vl 1 Ru32 ([] : List Int), vl 1 Ru32 ([] : List Int), vi64 20]) (ps := [True, True, True]) (by kernel_rfl) ⟨tv, tv, tv, tv⟩ (by kernel_rfl) (by kernel_rfl)⟩
  ·rw [if_neg (nb c2)] at h
   refine AW.skip ?_
   refine AW.tn ?_
   refine AW.seq ?_
   refine AW.seq ?_
   refine AW.reg tt_ok2 [0, 1, 20] [] [] ⟨[(20, vb (((p1.length : Nat) : Int) == 0)), (0, vl 1 Ru32 p0), (1, vl 1 Ru32 p1)], [], 3⟩ [True, True, True] (by kernel_rfl) (by kernel_rfl) ⟨tv, tv, tv, tv⟩ ?_
   refine AW.tn ?_
   refine AW.cond (b := (((p1.length : Nat) : Int) == 0)) (by kernel_rfl) (fun c3 => ?_) (fun c3 => ?_)
   ·rw [if_pos c3] at h
    refine AW.seq ?_
    refine AW.reg tt_ok2 [4, 5, 6] [] [] ⟨[(6, vi64 9), (5, .c (.t (.v (.slice none 0 0)))), (4, .c (.t (.v (.slice none 0 0))))], [], 6⟩ [True, True, True] (by kernel_rfl) (by kernel_rfl) ⟨tv, tv, tv, tv⟩ ?_
    refine AW.tn ?_
    refine AW.ret ?_
    refine AW.tr ?_
    obtain rfl := some_inj h
    exact ⟨_, Conv.trans (conv_tm (tm' := [(6, vi64 9), (5, .c (.t (.v (.slice none 0 0)))), (4, vl 1 Ru32 ([] : List Int))]) ⟨⟨vi64 9, by kernel_rfl, ALe.refl _ _⟩, ⟨.c (.t (.v (.slice none 0 0))), by kernel_rfl, ALe.refl _ _⟩, ⟨.c (.t (.v (.slice none 0 0))), by kernel_rfl, ALe.c (CLe.nil rfl)⟩, tv⟩) (conv_tm (tm' := [(6, vi64 9), (5, vl 1 Ru32 ([] : List Int)), (4, vl 1 Ru32 ([] : List Int))]) ⟨⟨vi64 9, by kernel_rfl, ALe.refl _ _⟩, ⟨.c (.t (.v (.slice none 0 0))), by kernel_rfl, ALe.c (CLe.nil rfl)⟩, ⟨vl 1 Ru32 ([] : List Int), by kernel_rfl, ALe.refl _ _⟩, tv⟩), .inr rfl, OutOk.mk [] 0 (out0 := .tup [vl 1 Ru32 ([] : List Int), vl 1 Ru32 ([] : List Int), vi64 9]) (ps := [True, True, True]) (by kernel_rfl) ⟨tv, tv, tv, tv⟩ (by kernel_rfl) (by kernel_rfl)⟩
   ·rw [if_neg (nb c3)] at h
    refine AW.skip ?_
    refine AW.tn ?_
    refine AW.seq ?_
    obtain ⟨g4, h⟩ := ifc h
    obtain ⟨g5, h⟩ := ifc h
    refine AW.reg tt_ok2 [0, 1, 7] [5] [{}, {}, { h := { row := some ((List.replicate (((p0.length : Nat) : Int).toNat) (0 : Int)).length, Ru32 (List.replicate (((p0.length : Nat) : Int).toNat) (0 : Int))) } }] ⟨[(7, .c (.ref 5 1 0 ((List.replicate (((p0.length : Nat) : Int).toNat) (0 : Int)).length))), (0, vl 1 Ru32 p0), (1, vl 1 Ru32 p1)], [(5, .row 37 false 1 (List.replicate (((p0.length : Nat) : Int).toNat) (0 : Int)).length (Ru32 (List.replicate (((p0.length : Nat) : Int).toNat) (0 : Int))))], 7⟩ [True, True, ((0 ≤ ((p0.length : Nat) : Int)) ∧ (((p0.length : Nat) : Int) ≤ ((p0.length : Nat) : Int)) ∧ (((p0.length : Nat) : Int) ≤ 1099511627776) ∧ ((4 : Nat) ≤ 128)) ∧ (((p0.length : Nat) : Int).toNat = (List.replicate (((p0.length : Nat) : Int).toNat) (0 : Int)).length ∧ ∀ i, i < (List.replicate (((p0.length : Nat) : Int).toNat) (0 : Int)).length → ∀ j, j < 1 → TLe ((fun _ j => .v (([.int .u32 0] : List Value).getD j undef)) i j) (Ru32 (List.replicate (((p0.length : Nat) : Int).toNat) (0 : Int)) i j)), True] (by kernel_rfl) (by kernel_rfl) ⟨tv, tv, ⟨⟨g4, Int.le_refl _, g5, (by decide)⟩, mk_row (fun j hj => match j, hj with | 0, _ => TLe.refl _ | _ + 1, h => absurd h (by omega))⟩, tv, tv⟩ ?_
    refine AW.tn ?_
    refine AW.seq ?_
    refine AW.reg tt_ok2 [0, 1, 7, 8] [5] [] ⟨[(8, .c (.t (.v (.slice none 0 0)))), (7, .c (.ref 5 1 0 ((List.replicate (((p0.length : Nat) : Int).toNat) (0 : Int)).length))), (0, vl 1 Ru32 p0), (1, vl 1 Ru32 p1)], [(5, .row 37 false 1 (List.replicate (((p0.length : Nat) : Int).toNat) (0 : Int)).length (Ru32 (List.replicate (((p0.length : Nat) : Int).toNat) (0 : Int))))], 8⟩ [True] (by kernel_rfl) (by kernel_rfl) ⟨tv, tv⟩ ?_
    refine AW.tn ?_
    refine AW.seq ?_
    refine AW.seq ?_
    obtain ⟨z6, n7, h⟩ := bnd_some h
    replace n7 := some_inj n7
    refine AW.reg tt_ok2 [0, 1, 7, 8, 9] [5] [] ⟨[(9, vi64 (i64.wrap ((i64.wrap (32 * ((p0.length : Nat) : Int))) - 1))), (8, .c (.t (.v (.slice none 0 0)))), (7, .c (.ref 5 1 0 ((List.replicate (((p0.length : Nat) : Int).toNat) (0 : Int)).length))), (0, vl 1 Ru32 p0), (1, vl 1 Ru32 p1)], [(5, .row 37 false 1 (List.replicate (((p0.length : Nat) : Int).toNat) (0 : Int)).length (Ru32 (List.replicate (((p0.length : Nat) : Int).toNat) (0 : Int))))], 13⟩ [True, True, True, True, True] (by kernel_rfl) (by kernel_rfl) ⟨tv, tv, tv, tv, tv, tv⟩ ?_
    refine eq_Q (S' := ⟨[(9, vi64 z6), (8, .c (.t (.v (.slice none 0 0)))), (7, .c (.ref 5 1 0 ((List.replicate (((p0.length : Nat) : Int).toNat) (0 : Int)).length))), (0, vl 1 Ru32 p0), (1, vl 1 Ru32 p1)], [(5, .row 37 false 1 (List.replicate (((p0.length : Nat) : Int).toNat) (0 : Int)).length (Ru32 (List.replicate (((p0.length : Nat) : Int).toNat) (0 : Int))))], 13⟩) (by rw [n7]) ?_
    refine AW.tn ?_
    refine AW.block ?_
    obtain ⟨x36, x37, l40, h⟩ := bind2_some h
    refine AW.pre (S' := ((fun v => ⟨[(0, vl 1 Ru32 p0), (1, vl 1 Ru32 p1), (7, .c (.ref 0 1 0 v.1.length)), (8, vl 1 Ru32 v.2.1), (9, vi64 v.2.2)], [(0, .row 37 false 1 v.1.length (Ru32 v.1))], 1⟩) : ((List Int) × (List Int) × Int) → St) ((List.replicate (((p0.length : Nat) : Int).toNat) (0 : Int)), [], z6)) (Conv.trans (conv_tm (tm' := [(0, vl 1 Ru32 p0), (1, vl 1 Ru32 p1), (7, .c (.ref 5 1 0 ((List.replicate (((p0.length : Nat) : Int).toNat) (0 : Int)).length))), (8, vl 1 Ru32 ([] : List Int)), (9, vi64 z6)]) ⟨⟨vl 1 Ru32 p0, by kernel_rfl, ALe.refl _ _⟩, ⟨vl 1 Ru32 p1, by kernel_rfl, ALe.refl _ _⟩, ⟨.c (.ref 5 1 0 ((List.replicate (((p0.length : Nat) : Int).toNat) (0 : Int)).length)), by kernel_rfl, ALe.refl _ _⟩, ⟨.c (.t (.v (.slice none 0 0))), by kernel_rfl, ALe.c (CLe.nil rfl)⟩, ⟨vi64 z6, by kernel_rfl, ALe.refl _ _⟩, tv⟩) (conv_ren [(0, 5)] [0, 1, 7, 8, 9] (n := 1) (by kernel_rfl) (by kernel_rfl))) ?_
    refine AW.loop2 (step := (fun v : (List Int) × (List Int) × Int => rl_ref10_DivMod_l27 p0 p1 v.1 v.2.1 v.2.2)) (s0 := ((List.replicate (((p0.length : Nat) : Int).toNat) (0 : Int)), [], z6)) (t := (x36, x37)) (fun v => ⟨[(0, vl 1 Ru32 p0), (1, vl 1 Ru32 p1), (7, .c (.ref 0 1 0 v.1.length)), (8, vl 1 Ru32 v.2.1), (9, vi64 v.2.2)], [(0, .row 37 false 1 v.1.length (Ru32 v.1))], 1⟩) (fun t : (List Int) × (List Int) => (.exit 0, ⟨[(7, .c (.ref 0 1 0 t.1.length)), (8, vl 1 Ru32 t.2)], [(0, .row 37 false 1 t.1.length (Ru32 t.1))], 1⟩)) l40 (fun _ => tv) ?_ ?_
    ·
     intro v o h
     obtain ⟨x11, x12, x13⟩ := v
     replace h : rl_ref10_DivMod_l27 p0 p1 x11 x12 x13 = some o := h
     unfold rl_ref10_DivMod_l27 at h
     show AW _ ⟨[(0, vl 1 Ru32 p0), (1, vl 1 Ru32 p1), (7, .c (.ref 0 1 0 x11.length)), (8, vl 1 Ru32 x12), (9, vi64 x13)], [(0, .row 37 false 1 x11.length (Ru32 x11))], 1⟩ _ _
     refine AW.seq ?_
     refine AW.seq ?_
     refine AW.reg tt_ok2 [0, 1, 7, 8, 9, 29] [0] [] ⟨[(29, vb (decide (x13 ≥ 0))), (0, vl 1 Ru32 p0), (1, vl 1 Ru32 p1), (7, .c (.ref 0 1 0 x11.length)), (8, vl 1 Ru32 x12), (9, vi64 x13)], [(0, .row 37 false 1 x11.length (Ru32 x11))], 3⟩ [True, True] (by kernel_rfl) (by kernel_rfl) ⟨tv, tv, tv⟩ ?_
     refine AW.tn ?_
     refine AW.cond (b := decide (x13 ≥ 0)) (by kernel_rfl) (fun c16 => ?_) (fun c16 => ?_)
     ·rw [if_pos c16] at h
      refine AW.skip ?_
      refine AW.tn ?_
      refine AW.seq ?_
      refine AW.join (ι := (List Int) × (List Int)) (fun v => ⟨[(0, vl 1 Ru32 p0), (1, vl 1 Ru32 p1), (7, .c (.ref 0 1 0 v.1.length)), (8, vl 1 Ru32 v.2), (9, vi64 x13)], [(0, .row 37 false 1 v.1.length (Ru32 v.1))], 1⟩) (fun v : (List Int) × (List Int) => rl_ref10_DivMod_k29 x13 v.1 v.2 = some o) (fun v h => ?_) ?_
      ·
       obtain ⟨x17, x18⟩ := v
       replace h : rl_ref10_DivMod_k29 x13 x17 x18 = some o := h
       unfold rl_ref10_DivMod_k29 at h
       show (_ : Exit → St → Prop) .normal ⟨[(0, vl 1 Ru32 p0), (1, vl 1 Ru32 p1), (7, .c (.ref 0 1 0 x17.length)), (8, vl 1 Ru32 x18), (9, vi64 x13)], [(0, .row 37 false 1 x17.length (Ru32 x17))], 1⟩
       refine AW.tn ?_
       refine AW.reg tt_ok2 [0, 1, 7, 8, 9] [0] [] ⟨[(9, vi64 (i64.wrap (x13 - 1))), (0, vl 1 Ru32 p0), (1, vl 1 Ru32 p1), (7, .c (.ref 0 1 0 x17.length)), (8, vl 1 Ru32 x18)], [(0, .row 37 false 1 x17.length (Ru32 x17))], 4⟩ [True, True, True] (by kernel_rfl) (by kernel_rfl) ⟨tv, tv, tv, tv⟩ ?_
       obtain rfl := some_inj h
       refine loopQ_next (conv_ren [(0, 0)] [0, 1, 7, 8, 9] (n := 1) (by kernel_rfl) (by kernel_rfl))
      ·
       refine AW.block ?_
       refine AW.seq ?_
       obtain ⟨y19, e20, h⟩ := bnd_some h
       refine AW.reg tt_ok2 [0, 1, 7, 8, 9] [0] [{}, {}, { call := some { ids := [], frz := [], flat := false, cnt := 0, args := [vl 1 Ru32 x12, vl 1 Ru32 x12], out := vl 1 Ru32 y19, outb := [] } }] ⟨[(8, vl 1 Ru32 y19), (0, vl 1 Ru32 p0), (1, vl 1 Ru32 p1), (7, .c (.ref 0 1 0 x11.length)), (9, vi64 x13)], [(0, .row 37 false 1 x11.length (Ru32 x11))], 6⟩ [True, True, ((True) ∧ (True) ∧ (True)) ∧ (All2 ArgLe [vl 1 Ru32 x12, vl 1 Ru32 x12] [vl 1 Ru32 x12, vl 1 Ru32 x12]) ∧ ((false = true → flatB [])) ∧ (Con Try.prog 61 [vl 1 Ru32 x12, vl 1 Ru32 x12] [] (vl 1 Ru32 y19) []), True] (by kernel_rfl) (by kernel_rfl) ⟨tv, tv, ⟨⟨tv, tv, tv⟩, ⟨ArgLe.refl _, ArgLe.refl _, tv⟩, (fun h => by cases h), (rl_ref10_sum_con x12 x12 y19 e20)⟩, tv, tv⟩ ?_
       refine AW.tn ?_
       refine AW.seq ?_
       refine AW.join (ι := List Int) (fun v => ⟨[(0, vl 1 Ru32 p0), (1, vl 1 Ru32 p1), (7, .c (.ref 0 1 0 x11.length)), (8, vl 1 Ru32 v), (9, vi64 x13)], [(0, .row 37 false 1 x11.length (Ru32 x11))], 1⟩) (fun v : List Int => rl_ref10_DivMod_k30 p1 x11 x13 v = some o) (fun v h => ?_) ?_
       ·
        obtain ⟨x21, rfl⟩ : ∃ x, x = v := ⟨_, rfl⟩
        replace h : rl_ref10_DivMod_k30 p1 x11 x13 x21 = some o := h
        unfold rl_ref10_DivMod_k30 at h
        show (_ : Exit → St → Prop) .normal ⟨[(0, vl 1 Ru32 p0), (1, vl 1 Ru32 p1), (7, .c (.ref 0 1 0 x11.length)), (8, vl 1 Ru32 x21), (9, vi64 x13)], [(0, .row 37 false 1 x11.length (Ru32 x11))], 1⟩
        refine AW.tn ?_
        refine AW.seq ?_
        obtain ⟨y22, e23, h⟩ := bnd_some h
        refine AW.reg tt_ok2 [0, 1, 7, 8, 9, 51] [0] [{}, {}, { call := some { ids := [], frz := [], flat := true, cnt := 0, args := [vl 1 Ru32 x21, vl 1 Ru32 p1], out := vi64 y22, outb := [] } }] ⟨[(51, vb (decide (y22 ≥ 0))), (0, vl 1 Ru32 p0), (1, vl 1 Ru32 p1), (7, .c (.ref 0 1 0 x11.length)), (8, vl 1 Ru32 x21), (9, vi64 x13)], [(0, .row 37 false 1 x11.length (Ru32 x11))], 4⟩ [True, True, ((True) ∧ (True) ∧ (True)) ∧ (All2 ArgLe [vl 1 Ru32 x21, vl 1 Ru32 p1] [vl 1 Ru32 x21, vl 1 Ru32 p1]) ∧ ((true = true → flatB [])) ∧ (Con Try.prog 47 [vl 1 Ru32 x21, vl 1 Ru32 p1] [] (vi64 y22) []), True] (by kernel_rfl) (by kernel_rfl) ⟨tv, tv, ⟨⟨tv, tv, tv⟩, ⟨ArgLe.refl _, ArgLe.refl _, tv⟩, (fun _ => tv), (rl_ref10_Compare_con x21 p1 y22 e23)⟩, tv, tv⟩ ?_
        refine AW.tn ?_
        refine AW.cond (b := decide (y22 ≥ 0)) (by kernel_rfl) (fun c24 => ?_) (fun c24 => ?_)
        ·rw [if_pos c24] at h
         refine AW.seq ?_
         obtain ⟨y25, e26, h⟩ := bnd_some h
         refine AW.reg tt_ok2 [0, 1, 7, 8, 9] [0] [{}, {}, { call := some { ids := [], frz := [], flat := false, cnt := 0, args := [vl 1 Ru32 x21, vl 1 Ru32 p1], out := vl 1 Ru32 y25, outb := [] } }] ⟨[(8, vl 1 Ru32 y25), (0, vl 1 Ru32 p0), (1, vl 1 Ru32 p1), (7, .c (.ref 0 1 0 x11.length)), (9, vi64 x13)], [(0, .row 37 false 1 x11.length (Ru32 x11))], 7⟩ [True, True, ((True) ∧ (True) ∧ (True)) ∧ (All2 ArgLe [vl 1 Ru32 x21, vl 1 Ru32 p1] [vl 1 Ru32 x21, vl 1 Ru32 p1]) ∧ ((false = true → flatB [])) ∧ (Con Try.prog 62 [vl 1 Ru32 x21, vl 1 Ru32 p1] [] (vl 1 Ru32 y25) []), True] (by kernel_rfl) (by kernel_rfl) ⟨tv, tv, ⟨⟨tv, tv, tv⟩, ⟨ArgLe.refl _, ArgLe.refl _, tv⟩, (fun h => by cases h), (rl_ref10_less_con x21 p1 y25 e26)⟩, tv, tv⟩ ?_
         refine AW.tn ?_
         obtain ⟨g27, h⟩ := ifc h
         obtain ⟨g28, h⟩ := ifc h
         obtain ⟨g29, h⟩ := ifc h
         refine AW.regD tt_ok2 mo2 [0, 0, 2, 7, 15, 0, 32, 96, 255, 511, 1023] [[], [], [], [], [], [], [], [], [], [], [0]] [0, 1, 7, 8, 9] [0] [{}, {}, {}, {}, {}, {}, {}, {}, {}, {}, { h := { row := some (x11.length, Ru32 (x11.set (0 + (i64.wrap (x13.tdiv 32)).toNat) (ior .u32 (x11.getD (0 + (i64.wrap (x13.tdiv 32)).toNat) 0) (ishl .u32 1 (x13.tmod 32))))) } }] ⟨[(8, vl 1 Ru32 y25), (0, vl 1 Ru32 p0), (1, vl 1 Ru32 p1), (7, .c (.ref 0 1 0 x11.length)), (9, vi64 x13)], [(0, .row 37 false 1 x11.length (Ru32 (x11.set (0 + (i64.wrap (x13.tdiv 32)).toNat) (ior .u32 (x11.getD (0 + (i64.wrap (x13.tdiv 32)).toNat) 0) (ishl .u32 1 (x13.tmod 32))))))], 18⟩ [True, True, (32 : Int) ≠ 0, (0 ≤ (i64.wrap (x13.tdiv 32))) ∧ ((i64.wrap (x13.tdiv 32)) < ((x11.length : Nat) : Int)), (0 + (i64.wrap (x13.tdiv 32)).toNat) < x11.length, True, (32 : Int) ≠ 0, 0 ≤ (x13.tmod 32), True, (0 ≤ (i64.wrap (x13.tdiv 32))) ∧ ((i64.wrap (x13.tdiv 32)) < ((x11.length : Nat) : Int)), ((0 + (i64.wrap (x13.tdiv 32)).toNat) < x11.length) ∧ (x11.length = x11.length ∧ ∀ i, i < x11.length → ∀ j, j < 1 → TLe (updRow (Ru32 x11) (0 + (i64.wrap (x13.tdiv 32)).toNat) 0 [.v (.int .u32 (ior .u32 (x11.getD (0 + (i64.wrap (x13.tdiv 32)).toNat) 0) (ishl .u32 1 (x13.tmod 32))))] i j) (Ru32 (x11.set (0 + (i64.wrap (x13.tdiv 32)).toNat) (ior .u32 (x11.getD (0 + (i64.wrap (x13.tdiv 32)).toNat) 0) (ishl .u32 1 (x13.tmod 32)))) i j))] (by kernel_rfl) (by kernel_rfl) ⟨tv, tv, (by decide), ⟨g27, g28⟩, (by have h1 : 0 ≤ (i64.wrap (x13.tdiv 32)) := g27; have h2 : (i64.wrap (x13.tdiv 32)) < ((x11.length : Nat) : Int) := g28; omega), tv, (by decide), g29, tv, ⟨g27, g28⟩, ⟨(by have h1 : 0 ≤ (i64.wrap (x13.tdiv 32)) := g27; have h2 : (i64.wrap (x13.tdiv 32)) < ((x11.length : Nat) : Int) := g28; omega), set_rowN rfl (by have h1 : 0 ≤ (i64.wrap (x13.tdiv 32)) := g27; have h2 : (i64.wrap (x13.tdiv 32)) < ((x11.length : Nat) : Int) := g28; omega) (fun j hj => match j, hj with | 0, _ => TLe.refl _ | _ + 1, h => absurd h (by omega))⟩, tv⟩ ?_
         refine AW.inBlock_normal ?_
         exact joinQ_leaf (((x11.set (0 + (i64.wrap (x13.tdiv 32)).toNat) (ior .u32 (x11.getD (0 + (i64.wrap (x13.tdiv 32)).toNat) 0) (ishl .u32 1 (x13.tmod 32)))), y25)) h (Conv.trans (conv_len (S' := ⟨[(8, vl 1 Ru32 y25), (0, vl 1 Ru32 p0), (1, vl 1 Ru32 p1), (7, .c (.ref 0 1 0 ((x11.set (0 + (i64.wrap (x13.tdiv 32)).toNat) (ior .u32 (x11.getD (0 + (i64.wrap (x13.tdiv 32)).toNat) 0) (ishl .u32 1 (x13.tmod 32)))).length))), (9, vi64 x13)], [(0, .row 37 false 1 (x11.set (0 + (i64.wrap (x13.tdiv 32)).toNat) (ior .u32 (x11.getD (0 + (i64.wrap (x13.tdiv 32)).toNat) 0) (ishl .u32 1 (x13.tmod 32)))).length (Ru32 (x11.set (0 + (i64.wrap (x13.tdiv 32)).toNat) (ior .u32 (x11.getD (0 + (i64.wrap (x13.tdiv 32)).toNat) 0) (ishl .u32 1 (x13.tmod 32))))))], 18⟩) (by simp only [List.length_set])) (conv_ren [(0, 0)] [0, 1, 7, 8, 9] (n := 1) (by kernel_rfl) (by kernel_rfl)))
        ·rw [if_neg (nb c24)] at h
         refine AW.skip ?_
         refine AW.inBlock_normal ?_
         exact joinQ_leaf ((x11, x21)) h (conv_ren [(0, 0)] [0, 1, 7, 8, 9] (n := 1) (by kernel_rfl) (by kernel_rfl))
       ·
        refine AW.seq ?_
        obtain ⟨g30, h⟩ := ifc h
        obtain ⟨g31, h⟩ := ifc h
        obtain ⟨g32, h⟩ := ifc h
        refine AW.reg tt_ok2 [0, 1, 7, 8, 9, 44] [0] [] ⟨[(44, vb ((iand .u32 (ishr .u32 (p0.getD ((i64.wrap (x13.tdiv 32)).toNat) 0) (x13.tmod 32)) 1) == 1)), (8, vl 1 Ru32 y19), (0, vl 1 Ru32 p0), (1, vl 1 Ru32 p1), (7, .c (.ref 0 1 0 x11.length)), (9, vi64 x13)], [(0, .row 37 false 1 x11.length (Ru32 x11))], 16⟩ [True, True, (32 : Int) ≠ 0, (0 ≤ (i64.wrap (x13.tdiv 32))) ∧ ((i64.wrap (x13.tdiv 32)) < ((p0.length : Nat) : Int)), True, True, (32 : Int) ≠ 0, 0 ≤ (x13.tmod 32), True, True] (by kernel_rfl) (by kernel_rfl) ⟨tv, tv, (by decide), ⟨g30, g31⟩, tv, tv, (by decide), g32, tv, tv, tv⟩ ?_
        refine AW.tn ?_
        refine AW.cond (b := ((iand .u32 (ishr .u32 (p0.getD ((i64.wrap (x13.tdiv 32)).toNat) 0) (x13.tmod 32)) 1) == 1)) (by kernel_rfl) (fun c33 => ?_) (fun c33 => ?_)
        ·rw [if_pos c33] at h
         obtain ⟨y34, e35, h⟩ := bnd_some h
         refine AW.reg tt_ok2 [0, 1, 7, 8, 9] [0] [{}, { h := { row := some (([1] : List Int).length, Ru32 ([1] : List Int)) } }, { call := some { ids := [], frz := [17], flat := false, cnt := 0, args := [vl 1 Ru32 y19, vl 1 Ru32 ([1] : List Int)], out := vl 1 Ru32 y34, outb := [] } }] ⟨[(8, vl 1 Ru32 y34), (0, vl 1 Ru32 p0), (1, vl 1 Ru32 p1), (7, .c (.ref 0 1 0 x11.length)), (9, vi64 x13)], [(0, .row 37 false 1 x11.length (Ru32 x11))], 19⟩ [True, 1 = ([1] : List Int).length ∧ ∀ i, i < ([1] : List Int).length → ∀ j, j < 1 → TLe ((rowOf [.v (.int .u32 1)] 1) i j) (Ru32 ([1] : List Int) i j), ((True) ∧ (0 + ([1] : List Int).length ≤ ([1] : List Int).length) ∧ (True)) ∧ (All2 ArgLe [vl 1 Ru32 y19, vl 1 Ru32 ([1] : List Int)] [vl 1 Ru32 y19, vl 1 Ru32 ([1] : List Int)]) ∧ ((false = true → flatB [])) ∧ (Con Try.prog 61 [vl 1 Ru32 y19, vl 1 Ru32 ([1] : List Int)] [] (vl 1 Ru32 y34) []), True] (by kernel_rfl) (by kernel_rfl) ⟨tv, ⟨rfl, lit_row (n := 1) (sz := 1) ⟨tv, ⟨tv, TLe.refl _⟩⟩⟩, ⟨⟨tv, le0, tv⟩, ⟨ArgLe.refl _, ArgLe.refl _, tv⟩, (fun h => by cases h), (rl_ref10_sum_con y19 ([1] : List Int) y34 e35)⟩, tv, tv⟩ ?_
         exact joinQ_leaf (y34) h (conv_ren [(0, 0)] [0, 1, 7, 8, 9] (n := 1) (by kernel_rfl) (by kernel_rfl))
        ·rw [if_neg (nb c33)] at h
         refine AW.skip ?_
         exact joinQ_leaf (y19) h (conv_ren [(0, 0)] [0, 1, 7, 8, 9] (n := 1) (by kernel_rfl) (by kernel_rfl))
     ·rw [if_neg (nb c16)] at h
      refine AW.exit ?_
      refine AW.thenQ_exit ?_
      obtain rfl := some_inj h
      refine loopQ_out rfl (conv_ren [(0, 0)] [7, 8] (n := 1) (by kernel_rfl) (by kernel_rfl))
    ·
     show (_ : Exit → St → Prop) (.exit 0) ⟨[(7, .c (.ref 0 1 0 x36.length)), (8, vl 1 Ru32 x37)], [(0, .row 37 false 1 x36.length (Ru32 x36))], 1⟩
     refine AW.inBlock_hit ?_
     refine AW.tn ?_
     refine AW.seq ?_
     obtain ⟨y38, e39, h⟩ := bnd_some h
     refine AW.reg tt_ok2 [4, 5, 6] [] [{}, { call := some { ids := [], frz := [0], flat := false, cnt := 0, args := [vl 1 Ru32 x36], out := vl 1 Ru32 y38, outb := [] } }] ⟨[(6, vi64 0), (5, vl 1 Ru32 x37), (4, vl 1 Ru32 y38)], [], 6⟩ [True, ((0 + x36.length ≤ x36.length) ∧ (True)) ∧ (All2 ArgLe [vl 1 Ru32 x36] [vl 1 Ru32 x36]) ∧ ((false = true → flatB [])) ∧ (Con Try.prog 45 [vl 1 Ru32 x36] [] (vl 1 Ru32 y38) []), True, True, True, True] (by kernel_rfl) (by kernel_rfl) ⟨tv, ⟨⟨le0, tv⟩, ⟨ArgLe.refl _, tv⟩, (fun h => by cases h), (rl_ref10_trim_con x36 y38 e39)⟩, tv, tv, tv, tv, tv⟩ ?_
     refine AW.tn ?_
     refine AW.ret ?_
     obtain rfl := some_inj h
     exact ⟨_, Conv.refl _ _, .inr rfl, OutOk.mk [] 0 (out0 := .tup [vl 1 Ru32 y38, vl 1 Ru32 x37, vi64 0]) (ps := [True, True, True]) (by kernel_rfl) ⟨tv, tv, tv, tv⟩ (by kernel_rfl) (by kernel_rfl)⟩
 ·
  obtain ⟨y41, e42, h⟩ := bnd_some h
  by_cases c43 : (!y41) = true
  ·rw [if_pos c43] at h
   refine AW.reg tt_ok2 [0, 1, 17] [] [{}, { call := some { ids := [], frz := [], flat := true, cnt := 0, args := [vl 1 Ru32 p0], out := vb y41, outb := [] } }, { h := { b := some true } }] ⟨[(17, vb true), (0, vl 1 Ru32 p0), (1, vl 1 Ru32 p1)], [], 10⟩ [True, ((True) ∧ (True)) ∧ (All2 ArgLe [vl 1 Ru32 p0] [vl 1 Ru32 p0]) ∧ ((true = true → flatB [])) ∧ (Con Try.prog 31 [vl 1 Ru32 p0] [] (vb y41) []), (!y41) = true, True, True, True, True, True] (by kernel_rfl) (by kernel_rfl) ⟨tv, ⟨⟨tv, tv⟩, ⟨ArgLe.refl _, tv⟩, (fun _ => tv), (rl_ref10_Valid_con p0 y41 e42)⟩, c43, tv, tv, tv, tv, tv, tv⟩ ?_
   exact joinQ_leaf (true) h (conv_ren [] [0, 1, 17] (n := 0) (by kernel_rfl) (by kernel_rfl))
  ·rw [if_neg c43] at h
   obtain ⟨y44, e45, h⟩ := bnd_some h
   refine AW.reg tt_ok2 [0, 1, 17] [] [{}, { call := some { ids := [], frz := [], flat := true, cnt := 0, args := [vl 1 Ru32 p0], out := vb y41, outb := [] } }, { h := { b := some false } }, {}, {}, { call := some { ids := [], frz := [], flat := true, cnt := 0, args := [vl 1 Ru32 p1], out := vb y44, outb := [] } }] ⟨[(17, vb (!y44)), (0, vl 1 Ru32 p0), (1, vl 1 Ru32 p1)], [], 9⟩ [True, ((True) ∧ (True)) ∧ (All2 ArgLe [vl 1 Ru32 p0] [vl 1 Ru32 p0]) ∧ ((true = true → flatB [])) ∧ (Con Try.prog 31 [vl 1 Ru32 p0] [] (vb y41) []), (!y41) = false, True, True, ((True) ∧ (True)) ∧ (All2 ArgLe [vl 1 Ru32 p1] [vl 1 Ru32 p1]) ∧ ((true = true → flatB [])) ∧ (Con Try.prog 31 [vl 1 Ru32 p1] [] (vb y44) []), True, True] (by kernel_rfl) (by kernel_rfl) ⟨tv, ⟨⟨tv, tv⟩, ⟨ArgLe.refl _, tv⟩, (fun _ => tv), (rl_ref10_Valid_con p0 y41 e42)⟩, (off_false c43), tv, tv, ⟨⟨tv, tv⟩, ⟨ArgLe.refl _, tv⟩, (fun _ => tv), (rl_ref10_Valid_con p1 y44 e45)⟩, tv, tv, tv⟩ ?_
   exact joinQ_leaf (!y44) h (conv_ren [] [0, 1, 17] (n := 0) (by kernel_rfl) (by kernel_rfl))
/-! recordlink/natural.GCD -/
noncomputable def natural_GCD_l2 (x8 : List Int) (x9 : List Int) : Option (((List Int) × (List Int)) ⊕ (List Int)) := if (decide (((x9.length : Nat) : Int) > 0)) = true then (bind2 (natural_divide x8 x9) fun y12 y13 => ((slices_Clone_uint32 x9).bind fun y15 => (some (.inl (y15, y13))))) else (some (.inr x8))
noncomputable def natural_GCD (p0 : List Int) (p1 : List Int) : Option ((List Int) × Int) := (natural_both p0 p1).bind fun y1 => (if (y1 != 0) = true then (some (([] : List Int), y1)) else ((slices_Clone_uint32 p0).bind fun y4 => ((loop (fun v : (List Int) × (List Int) => natural_GCD_l2 v.1 v.2) (y4, p1)).bind fun x17 => (some (x17, 0)))))
set_option maxRecDepth 100000 in
set_option maxHeartbeats 10000000 in
theorem natural_GCD_con (p0 : List Int) (p1 : List Int) (r0 : List Int) (r1 : Int) (h : natural_GCD p0 p1 = some (r0, r1)) : Con Try.prog 18 [vl 1 Ru32 p0, vl 1 Ru32 p1] [] (.tup [.c (.ref 0 1 0 r0.length), vi64 r1]) [(0, .row 37 false 1 r0.length (Ru32 r0))] := by
 suffices H : ∀ r, natural_GCD p0 p1 = some r → Con Try.prog 18 [vl 1 Ru32 p0, vl 1 Ru32 p1] [] (.tup [.c (.ref 0 1 0 r.1.length), vi64 r.2]) [(0, .row 37 false 1 r.1.length (Ru32 r.1))] from H (r0, r1) h
 clear h
 intro r h
 refine con_of tt_ok2 0 Try.func18 (by kernel_rfl) rfl (by kernel_rfl) (fun base X hk => AW.post ?_)
 unfold natural_GCD at h
 refine AW.seq ?_
 refine AW.reg tt_ok2 [0, 1] [] [] ⟨[(0, vl 1 Ru32 p0), (1, vl 1 Ru32 p1)], [], 2⟩ [True, True] (by kernel_rfl) (by kernel_rfl) ⟨tv, tv, tv⟩ ?_
 refine AW.tn ?_
 refine AW.seq ?_
 refine AW.seq ?_
 obtain ⟨y1, e2, h⟩ := bnd_some h
 refine AW.reg tt_ok2 [0, 1, 6] [] [{}, {}, { call := some { ids := [], frz := [], flat := true, cnt := 0, args := [vl 1 Ru32 p0, vl 1 Ru32 p1], out := vi64 y1, outb := [] } }] ⟨[(6, vi64 y1), (0, vl 1 Ru32 p0), (1, vl 1 Ru32 p1)], [], 5⟩ [True, True, ((True) ∧ (True) ∧ (True)) ∧ (All2 ArgLe [vl 1 Ru32 p0, vl 1 Ru32 p1] [vl 1 Ru32 p0, vl 1 Ru32 p1]) ∧ ((true = true → flatB [])) ∧ (Con Try.prog 36 [vl 1 Ru32 p0, vl 1 Ru32 p1] [] (vi64 y1) []), True] (by kernel_rfl) (by kernel_rfl) ⟨tv, tv, ⟨⟨tv, tv, tv⟩, ⟨ArgLe.refl _, ArgLe.refl _, tv⟩, (fun _ => tv), (natural_both_con p0 p1 y1 e2)⟩, tv, tv⟩ ?_
 refine AW.tn ?_
 refine AW.seq ?_
 refine AW.reg tt_ok2 [0, 1, 6, 13] [] [] ⟨[(13, vb (y1 != 0)), (6, vi64 y1), (0, vl 1 Ru32 p0), (1, vl 1 Ru32 p1)], [], 7⟩ [True, True] (by kernel_rfl) (by kernel_rfl) ⟨tv, tv, tv⟩ ?_
 refine AW.tn ?_
 refine AW.cond (b := (y1 != 0)) (by kernel_rfl) (fun c3 => ?_) (fun c3 => ?_)
 ·rw [if_pos c3] at h
  refine AW.seq ?_
  refine AW.reg tt_ok2 [4, 5] [] [] ⟨[(5, vi64 y1), (4, .c (.t (.v (.slice none 0 0))))], [], 10⟩ [True, True, True] (by kernel_rfl) (by kernel_rfl) ⟨tv, tv, tv, tv⟩ ?_
  refine AW.tn ?_
  refine AW.ret ?_
  refine AW.tr ?_
  obtain rfl := some_inj h
  exact ⟨_, conv_adopt (t := 4) (ty := 37) (sz := 1) (n := ([] : List Int).length) (f := Ru32 ([] : List Int)) (by kernel_rfl) rfl, .inr rfl, OutOk.mk [(0, 10)] 1 (out0 := .tup [.c (.ref 10 1 0 (([] : List Int).length)), vi64 y1]) (ps := [True, True]) (by kernel_rfl) ⟨tv, tv, tv⟩ (by kernel_rfl) (by kernel_rfl)⟩
 ·rw [if_neg (nb c3)] at h
  refine AW.skip ?_
  refine AW.tn ?_
  refine AW.seq ?_
  obtain ⟨y4, e5, h⟩ := bnd_some h
  refine AW.reg tt_ok2 [0, 1] [8] [{}, { call := some { ids := [], frz := [], flat := true, cnt := 1, args := [vl 1 Ru32 p0], out := .c (.ref 0 1 0 y4.length), outb := [(0, .row 37 false 1 y4.length (Ru32 y4))] } }] ⟨[(0, .c (.ref 8 1 0 y4.length)), (1, vl 1 Ru32 p1)], [(8, .row 37 false 1 y4.length (Ru32 y4))], 10⟩ [True, ((True) ∧ (True)) ∧ (All2 ArgLe [vl 1 Ru32 p0] [vl 1 Ru32 p0]) ∧ ((true = true → flatB [(0, .row 37 false 1 y4.length (Ru32 y4))])) ∧ (Con Try.prog 39 [vl 1 Ru32 p0] [] (.c (.ref 0 1 0 y4.length)) [(0, .row 37 false 1 y4.length (Ru32 y4))]), True] (by kernel_rfl) (by kernel_rfl) ⟨tv, ⟨⟨tv, tv⟩, ⟨ArgLe.refl _, tv⟩, (fun _ => ⟨rowL_flat Vu32 _ _ _, tv⟩), (slices_Clone_uint32_con p0 y4 e5)⟩, tv, tv⟩ ?_
  refine AW.tn ?_
  refine AW.seq ?_
  refine AW.block ?_
  obtain ⟨x17, l18, h⟩ := bnd_some h
  refine AW.pre (S' := ((fun v => ⟨[(0, .c (.ref 0 1 0 v.1.length)), (1, vl 1 Ru32 v.2)], [(0, .row 37 false 1 v.1.length (Ru32 v.1))], 1⟩) : ((List Int) × (List Int)) → St) (y4, p1)) (conv_ren [(0, 8)] [0, 1] (n := 1) (by kernel_rfl) (by kernel_rfl)) ?_
  refine AW.loop2 (step := (fun v : (List Int) × (List Int) => natural_GCD_l2 v.1 v.2)) (s0 := (y4, p1)) (t := x17) (fun v => ⟨[(0, .c (.ref 0 1 0 v.1.length)), (1, vl 1 Ru32 v.2)], [(0, .row 37 false 1 v.1.length (Ru32 v.1))], 1⟩) (fun t : List Int => (.exit 0, ⟨[(0, .c (.ref 0 1 0 t.length))], [(0, .row 37 false 1 t.length (Ru32 t))], 1⟩)) l18 (fun _ => tv) ?_ ?_
  ·
   intro v o h
   obtain ⟨x8, x9⟩ := v
   replace h : natural_GCD_l2 x8 x9 = some o := h
   unfold natural_GCD_l2 at h
   show AW _ ⟨[(0, .c (.ref 0 1 0 x8.length)), (1, vl 1 Ru32 x9)], [(0, .row 37 false 1 x8.length (Ru32 x8))], 1⟩ _ _
   refine AW.seq ?_
   refine AW.seq ?_
   refine AW.reg tt_ok2 [0, 1, 19] [0] [] ⟨[(19, vb (decide (((x9.length : Nat) : Int) > 0))), (0, .c (.ref 0 1 0 x8.length)), (1, vl 1 Ru32 x9)], [(0, .row 37 false 1 x8.length (Ru32 x8))], 4⟩ [True, True, True] (by kernel_rfl) (by kernel_rfl) ⟨tv, tv, tv, tv⟩ ?_
   refine AW.tn ?_
   refine AW.cond (b := decide (((x9.length : Nat) : Int) > 0)) (by kernel_rfl) (fun c11 => ?_) (fun c11 => ?_)
   ·rw [if_pos c11] at h
    refine AW.skip ?_
    refine AW.tn ?_
    refine AW.block ?_
    refine AW.seq ?_
    obtain ⟨y12, y13, e14, h⟩ := bind2_some h
    refine AW.reg tt_ok2 [1, 8] [] [{}, {}, { call := some { ids := [], frz := [0], flat := false, cnt := 0, args := [vl 1 Ru32 x8, vl 1 Ru32 x9], out := .tup [vl 1 Ru32 y12, vl 1 Ru32 y13], outb := [] } }] ⟨[(8, vl 1 Ru32 y13), (1, vl 1 Ru32 x9)], [], 11⟩ [True, True, ((0 + x8.length ≤ x8.length) ∧ (True) ∧ (True)) ∧ (All2 ArgLe [vl 1 Ru32 x8, vl 1 Ru32 x9] [vl 1 Ru32 x8, vl 1 Ru32 x9]) ∧ ((false = true → flatB [])) ∧ (Con Try.prog 40 [vl 1 Ru32 x8, vl 1 Ru32 x9] [] (.tup [vl 1 Ru32 y12, vl 1 Ru32 y13]) []), True, True, True, True, True] (by kernel_rfl) (by kernel_rfl) ⟨tv, tv, ⟨⟨le0, tv, tv⟩, ⟨ArgLe.refl _, ArgLe.refl _, tv⟩, (fun h => by cases h), (natural_divide_con x8 x9 y12 y13 e14)⟩, tv, tv, tv, tv, tv, tv⟩ ?_
    refine AW.tn ?_
    obtain ⟨y15, e16, h⟩ := bnd_some h
    refine AW.reg tt_ok2 [0, 1] [12] [{}, { call := some { ids := [], frz := [], flat := true, cnt := 1, args := [vl 1 Ru32 x9], out := .c (.ref 0 1 0 y15.length), outb := [(0, .row 37 false 1 y15.length (Ru32 y15))] } }] ⟨[(1, vl 1 Ru32 y13), (0, .c (.ref 12 1 0 y15.length))], [(12, .row 37 false 1 y15.length (Ru32 y15))], 16⟩ [True, ((True) ∧ (True)) ∧ (All2 ArgLe [vl 1 Ru32 x9] [vl 1 Ru32 x9]) ∧ ((true = true → flatB [(0, .row 37 false 1 y15.length (Ru32 y15))])) ∧ (Con Try.prog 39 [vl 1 Ru32 x9] [] (.c (.ref 0 1 0 y15.length)) [(0, .row 37 false 1 y15.length (Ru32 y15))]), True, True, True] (by kernel_rfl) (by kernel_rfl) ⟨tv, ⟨⟨tv, tv⟩, ⟨ArgLe.refl _, tv⟩, (fun _ => ⟨rowL_flat Vu32 _ _ _, tv⟩), (slices_Clone_uint32_con x9 y15 e16)⟩, tv, tv, tv, tv⟩ ?_
    refine AW.inBlock_normal ?_
    obtain rfl := some_inj h
    refine loopQ_next (conv_ren [(0, 12)] [0, 1] (n := 1) (by kernel_rfl) (by kernel_rfl))
   ·rw [if_neg (nb c11)] at h
    refine AW.exit ?_
    refine AW.thenQ_exit ?_
    obtain rfl := some_inj h
    refine loopQ_out rfl (conv_ren [(0, 0)] [0] (n := 1) (by kernel_rfl) (by kernel_rfl))
  ·
   show (_ : Exit → St → Prop) (.exit 0) ⟨[(0, .c (.ref 0 1 0 x17.length))], [(0, .row 37 false 1 x17.length (Ru32 x17))], 1⟩
   refine AW.inBlock_hit ?_
   refine AW.tn ?_
   refine AW.seq ?_
   refine AW.reg tt_ok2 [4, 5] [0] [] ⟨[(5, vi64 0), (4, .c (.ref 0 1 0 x17.length))], [(0, .row 37 false 1 x17.length (Ru32 x17))], 4⟩ [True, True, True] (by kernel_rfl) (by kernel_rfl) ⟨tv, tv, tv, tv⟩ ?_
   refine AW.tn ?_
   refine AW.ret ?_
   obtain rfl := some_inj h
   exact ⟨_, Conv.refl _ _, .inr rfl, OutOk.mk [(0, 0)] 1 (out0 := .tup [.c (.ref 0 1 0 x17.length), vi64 0]) (ps := [True, True]) (by kernel_rfl) ⟨tv, tv, tv⟩ (by kernel_rfl) (by kernel_rfl)⟩
/-! recordlink/recordlinkref10.half -/
noncomputable def rl_ref10_half_k18 (x3 : List Int) (x4 : Int) (x9 : Int) : Option (((List Int) × Int) ⊕ (List Int)) := if x3.length + ([x9] : List Int).length ≤ 1099511627776 then (some (.inl ((x3 ++ ([x9] : List Int)), i64.wrap (x4 + 1)))) else none
noncomputable def rl_ref10_half_l16 (p0 : List Int) (x3 : List Int) (x4 : Int) : Option (((List Int) × Int) ⊕ (List Int)) := if (decide (x4 < ((p0.length : Nat) : Int))) = true then (if 0 ≤ x4 then (if x4 < ((p0.length : Nat) : Int) then (if (decide ((i64.wrap (x4 + 1)) < ((p0.length : Nat) : Int))) = true then (if 0 ≤ (i64.wrap (x4 + 1)) then (if (i64.wrap (x4 + 1)) < ((p0.length : Nat) : Int) then ((some (ior .u32 (ishr .u32 (p0.getD x4.toNat 0) 1) (ishl .u32 (p0.getD ((i64.wrap (x4 + 1)).toNat) 0) 31))).bind fun z14 => (rl_ref10_half_k18 x3 x4 z14)) else none) else none) else (rl_ref10_half_k18 x3 x4 (ishr .u32 (p0.getD x4.toNat 0) 1))) else none) else none) else (some (.inr x3))
noncomputable def rl_ref10_half (p0 : List Int) : Option (List Int) := (loop (fun v : (List Int) × Int => rl_ref10_half_l16 p0 v.1 v.2) (([] : List Int), 0)).bind fun x16 => ((rl_ref10_trim x16).bind fun y17 => (some y17))
set_option maxRecDepth 100000 in
set_option maxHeartbeats 10000000 in
theorem rl_ref10_half_con (p0 : List Int) (r0 : List Int) (h : rl_ref10_half p0 = some r0) : Con Try.prog 63 [vl 1 Ru32 p0] [] (vl 1 Ru32 r0) [] := by
 revert h; generalize r0 = r; intro h
 refine con_of tt_ok2 0 Try.func63 (by kernel_rfl) rfl (by kernel_rfl) (fun base X hk => AW.post ?_)
 unfold rl_ref10_half at h
 refine AW.seq ?_
 refine AW.reg tt_ok2 [0] [] [] ⟨[(0, vl 1 Ru32 p0)], [], 1⟩ [True] (by kernel_rfl) (by kernel_rfl) ⟨tv, tv⟩ ?_
 refine AW.tn ?_
 refine AW.seq ?_
 refine AW.reg tt_ok2 [0, 3] [] [] ⟨[(3, .c (.t (.v (.slice none 0 0)))), (0, vl 1 Ru32 p0)], [], 2⟩ [True] (by kernel_rfl) (by kernel_rfl) ⟨tv, tv⟩ ?_
 refine AW.tn ?_
 refine AW.seq ?_
 refine AW.seq ?_
 refine AW.reg tt_ok2 [0, 3, 4] [] [] ⟨[(4, vi64 0), (3, .c (.t (.v (.slice none 0 0)))), (0, vl 1 Ru32 p0)], [], 3⟩ [True] (by kernel_rfl) (by kernel_rfl) ⟨tv, tv⟩ ?_
 refine AW.tn ?_
 refine AW.block ?_
 obtain ⟨x16, l19, h⟩ := bnd_some h
 refine AW.pre (S' := ((fun v => ⟨[(0, vl 1 Ru32 p0), (3, .c (.ref 0 1 0 v.1.length)), (4, vi64 v.2)], [(0, .row 37 false 1 v.1.length (Ru32 v.1))], 1⟩) : ((List Int) × Int) → St) (([] : List Int), 0)) (Conv.trans (conv_adopt (t := 3) (ty := 37) (sz := 1) (n := ([] : List Int).length) (f := Ru32 ([] : List Int)) (by kernel_rfl) rfl) (conv_ren [(0, 3)] [0, 3, 4] (n := 1) (by kernel_rfl) (by kernel_rfl))) ?_
 refine AW.loop2 (step := (fun v : (List Int) × Int => rl_ref10_half_l16 p0 v.1 v.2)) (s0 := (([] : List Int), 0)) (t := x16) (fun v => ⟨[(0, vl 1 Ru32 p0), (3, .c (.ref 0 1 0 v.1.length)), (4, vi64 v.2)], [(0, .row 37 false 1 v.1.length (Ru32 v.1))], 1⟩) (fun t : List Int => (.exit 0, ⟨[(3, .c (.ref 0 1 0 t.length))], [(0, .row 37 false 1 t.length (Ru32 t))], 1⟩)) l19 (fun _ => tv) ?_ ?_
 ·
  intro v o h
  obtain ⟨x3, x4⟩ := v
  replace h : rl_ref10_half_l16 p0 x3 x4 = some o := h
  unfold rl_ref10_half_l16 at h
  show AW _ ⟨[(0, vl 1 Ru32 p0), (3, .c (.ref 0 1 0 x3.length)), (4, vi64 x4)], [(0, .row 37 false 1 x3.length (Ru32 x3))], 1⟩ _ _
  refine AW.seq ?_
  refine AW.seq ?_
  refine AW.reg tt_ok2 [0, 3, 4, 9] [0] [] ⟨[(9, vb (decide (x4 < ((p0.length : Nat) : Int)))), (0, vl 1 Ru32 p0), (3, .c (.ref 0 1 0 x3.length)), (4, vi64 x4)], [(0, .row 37 false 1 x3.length (Ru32 x3))], 5⟩ [True, True, True, True] (by kernel_rfl) (by kernel_rfl) ⟨tv, tv, tv, tv, tv⟩ ?_
  refine AW.tn ?_
  refine AW.cond (b := decide (x4 < ((p0.length : Nat) : Int))) (by kernel_rfl) (fun c6 => ?_) (fun c6 => ?_)
  ·rw [if_pos c6] at h
   refine AW.skip ?_
   refine AW.tn ?_
   refine AW.seq ?_
   refine AW.block ?_
   refine AW.seq ?_
   obtain ⟨g7, h⟩ := ifc h
   obtain ⟨g8, h⟩ := ifc h
   refine AW.reg tt_ok2 [0, 3, 4, 5] [0] [] ⟨[(5, vu32 (ishr .u32 (p0.getD x4.toNat 0) 1)), (0, vl 1 Ru32 p0), (3, .c (.ref 0 1 0 x3.length)), (4, vi64 x4)], [(0, .row 37 false 1 x3.length (Ru32 x3))], 11⟩ [True, True, (0 ≤ x4) ∧ (x4 < ((p0.length : Nat) : Int)), True, 0 ≤ (1 : Int), True] (by kernel_rfl) (by kernel_rfl) ⟨tv, tv, ⟨g7, g8⟩, tv, (by decide), tv, tv⟩ ?_
   refine AW.tn ?_
   refine AW.seq ?_
   refine AW.join (ι := Int) (fun v => ⟨[(0, vl 1 Ru32 p0), (3, .c (.ref 0 1 0 x3.length)), (4, vi64 x4), (5, vu32 v)], [(0, .row 37 false 1 x3.length (Ru32 x3))], 1⟩) (fun v : Int => rl_ref10_half_k18 x3 x4 v = some o) (fun v h => ?_) ?_
   ·
    obtain ⟨x9, rfl⟩ : ∃ x, x = v := ⟨_, rfl⟩
    replace h : rl_ref10_half_k18 x3 x4 x9 = some o := h
    unfold rl_ref10_half_k18 at h
    show (_ : Exit → St → Prop) .normal ⟨[(0, vl 1 Ru32 p0), (3, .c (.ref 0 1 0 x3.length)), (4, vi64 x4), (5, vu32 x9)], [(0, .row 37 false 1 x3.length (Ru32 x3))], 1⟩
    refine AW.tn ?_
    obtain ⟨g10, h⟩ := ifc h
    refine AW.reg tt_ok2 [0, 3, 4] [4] [{}, {}, { h := { row := some (([x9] : List Int).length, Ru32 ([x9] : List Int)) } }, { h := { row := some ((x3 ++ ([x9] : List Int)).length, Ru32 (x3 ++ ([x9] : List Int))) } }] ⟨[(3, .c (.ref 4 1 0 ((x3 ++ ([x9] : List Int)).length))), (0, vl 1 Ru32 p0), (4, vi64 x4)], [(4, .row 37 false 1 (x3 ++ ([x9] : List Int)).length (Ru32 (x3 ++ ([x9] : List Int))))], 6⟩ [True, True, 1 = ([x9] : List Int).length ∧ ∀ i, i < ([x9] : List Int).length → ∀ j, j < 1 → TLe ((rowOf [.v (.int .u32 x9)] 1) i j) (Ru32 ([x9] : List Int) i j), (x3.length = x3.length) ∧ (0 + ([x9] : List Int).length ≤ ([x9] : List Int).length) ∧ ((x3.length + ([x9] : List Int).length ≤ 1099511627776) ∧ ((4 : Nat) ≤ 128)) ∧ (x3.length + ([x9] : List Int).length = (x3 ++ ([x9] : List Int)).length ∧ ∀ i, i < (x3 ++ ([x9] : List Int)).length → ∀ j, j < 1 → TLe ((appRow x3.length (Ru32 x3) (fun i j => Ru32 ([x9] : List Int) (0 + i) j)) i j) (Ru32 (x3 ++ ([x9] : List Int)) i j)), True] (by kernel_rfl) (by kernel_rfl) ⟨tv, tv, ⟨rfl, lit_row (n := 1) (sz := 1) ⟨tv, ⟨tv, TLe.refl _⟩⟩⟩, ⟨rfl, le0, ⟨g10, (by decide)⟩, rowT (app_row rfl rfl row_rfl (fun i _ j _ => congrArg (fun k => Ru32 ([x9] : List Int) k j) (Nat.zero_add i)))⟩, tv, tv⟩ ?_
    refine AW.inBlock_normal ?_
    refine AW.tn ?_
    refine AW.reg tt_ok2 [0, 3, 4] [4] [] ⟨[(4, vi64 (i64.wrap (x4 + 1))), (3, .c (.ref 4 1 0 ((x3 ++ ([x9] : List Int)).length))), (0, vl 1 Ru32 p0)], [(4, .row 37 false 1 (x3 ++ ([x9] : List Int)).length (Ru32 (x3 ++ ([x9] : List Int))))], 9⟩ [True, True, True] (by kernel_rfl) (by kernel_rfl) ⟨tv, tv, tv, tv⟩ ?_
    obtain rfl := some_inj h
    refine loopQ_next (conv_ren [(0, 4)] [0, 3, 4] (n := 1) (by kernel_rfl) (by kernel_rfl))
   ·
    refine AW.seq ?_
    refine AW.reg tt_ok2 [0, 3, 4, 5, 21] [0] [] ⟨[(21, vb (decide ((i64.wrap (x4 + 1)) < ((p0.length : Nat) : Int)))), (5, vu32 (ishr .u32 (p0.getD x4.toNat 0) 1)), (0, vl 1 Ru32 p0), (3, .c (.ref 0 1 0 x3.length)), (4, vi64 x4)], [(0, .row 37 false 1 x3.length (Ru32 x3))], 16⟩ [True, True, True, True, True] (by kernel_rfl) (by kernel_rfl) ⟨tv, tv, tv, tv, tv, tv⟩ ?_
    refine AW.tn ?_
    refine AW.cond (b := decide ((i64.wrap (x4 + 1)) < ((p0.length : Nat) : Int))) (by kernel_rfl) (fun c11 => ?_) (fun c11 => ?_)
    ·rw [if_pos c11] at h
     obtain ⟨g12, h⟩ := ifc h
     obtain ⟨g13, h⟩ := ifc h
     obtain ⟨z14, n15, h⟩ := bnd_some h
     replace n15 := some_inj n15
     refine AW.reg tt_ok2 [0, 3, 4, 5] [0] [] ⟨[(5, vu32 (ior .u32 (ishr .u32 (p0.getD x4.toNat 0) 1) (ishl .u32 (p0.getD ((i64.wrap (x4 + 1)).toNat) 0) 31))), (0, vl 1 Ru32 p0), (3, .c (.ref 0 1 0 x3.length)), (4, vi64 x4)], [(0, .row 37 false 1 x3.length (Ru32 x3))], 25⟩ [True, True, True, True, (0 ≤ (i64.wrap (x4 + 1))) ∧ ((i64.wrap (x4 + 1)) < ((p0.length : Nat) : Int)), True, 0 ≤ (31 : Int), True, True] (by kernel_rfl) (by kernel_rfl) ⟨tv, tv, tv, tv, ⟨g12, g13⟩, tv, (by decide), tv, tv, tv⟩ ?_
     refine eq_Q (S' := ⟨[(5, vu32 z14), (0, vl 1 Ru32 p0), (3, .c (.ref 0 1 0 x3.length)), (4, vi64 x4)], [(0, .row 37 false 1 x3.length (Ru32 x3))], 25⟩) (by rw [n15]) ?_
     exact joinQ_leaf (z14) h (conv_ren [(0, 0)] [0, 3, 4, 5] (n := 1) (by kernel_rfl) (by kernel_rfl))
    ·rw [if_neg (nb c11)] at h
     refine AW.skip ?_
     exact joinQ_leaf (ishr .u32 (p0.getD x4.toNat 0) 1) h (conv_ren [(0, 0)] [0, 3, 4, 5] (n := 1) (by kernel_rfl) (by kernel_rfl))
  ·rw [if_neg (nb c6)] at h
   refine AW.exit ?_
   refine AW.thenQ_exit ?_
   obtain rfl := some_inj h
   refine loopQ_out rfl (conv_ren [(0, 0)] [3] (n := 1) (by kernel_rfl) (by kernel_rfl))
 ·
  show (_ : Exit → St → Prop) (.exit 0) ⟨[(3, .c (.ref 0 1 0 x16.length))], [(0, .row 37 false 1 x16.length (Ru32 x16))], 1⟩
  refine AW.inBlock_hit ?_
  refine AW.tn ?_
  refine AW.seq ?_
  obtain ⟨y17, e18, h⟩ := bnd_some h
  refine AW.reg tt_ok2 [2] [] [{}, { call := some { ids := [], frz := [0], flat := false, cnt := 0, args := [vl 1 Ru32 x16], out := vl 1 Ru32 y17, outb := [] } }] ⟨[(2, vl 1 Ru32 y17)], [], 3⟩ [True, ((0 + x16.length ≤ x16.length) ∧ (True)) ∧ (All2 ArgLe [vl 1 Ru32 x16] [vl 1 Ru32 x16]) ∧ ((false = true → flatB [])) ∧ (Con Try.prog 45 [vl 1 Ru32 x16] [] (vl 1 Ru32 y17) []), True] (by kernel_rfl) (by kernel_rfl) ⟨tv, ⟨⟨le0, tv⟩, ⟨ArgLe.refl _, tv⟩, (fun h => by cases h), (rl_ref10_trim_con x16 y17 e18)⟩, tv, tv⟩ ?_
  refine AW.tn ?_
  refine AW.ret ?_
  obtain rfl := some_inj h
  exact ⟨_, Conv.refl _ _, .inr rfl, OutOk.mk [] 0 (out0 := vl 1 Ru32 y17) (ps := [True]) (by kernel_rfl) ⟨tv, tv⟩ (by kernel_rfl) (by kernel_rfl)⟩
/-! recordlink/recordlinkref10.GCD -/
noncomputable def rl_ref10_GCD_k42 (x10 : List Int) (x11 : List Int) (x12 : Int) (x16 : Bool) : Option (((List Int) × (List Int) × Int) ⊕ ((List Int) × (List Int) × Int)) := if x16 = true then ((rl_ref10_half x10).bind fun y18 => ((rl_ref10_half x11).bind fun y20 => (some (.inl (y18, y20, i64.wrap (x12 + 1)))))) else (some (.inr (x10, x11, x12)))
noncomputable def rl_ref10_GCD_l38 (x10 : List Int) (x11 : List Int) (x12 : Int) : Option (((List Int) × (List Int) × Int) ⊕ ((List Int) × (List Int) × Int)) := if (0 : Int) < ((x10.length : Nat) : Int) then (if ((iand .u32 (x10.getD 0 0) 1) == 0) = true then (if (0 : Int) < ((x11.length : Nat) : Int) then (rl_ref10_GCD_k42 x10 x11 x12 ((iand .u32 (x11.getD 0 0) 1) == 0)) else none) else (rl_ref10_GCD_k42 x10 x11 x12 false)) else none
noncomputable def rl_ref10_GCD_l81 (x35 : List Int) : Option ((List Int) ⊕ (List Int)) := if (0 : Int) < ((x35.length : Nat) : Int) then (if ((iand .u32 (x35.getD 0 0) 1) == 0) = true then ((rl_ref10_half x35).bind fun y39 => (some (.inl y39))) else (some (.inr x35))) else none
noncomputable def rl_ref10_GCD_l83 (x43 : List Int) : Option ((List Int) ⊕ (List Int)) := if (0 : Int) < ((x43.length : Nat) : Int) then (if ((iand .u32 (x43.getD 0 0) 1) == 0) = true then ((rl_ref10_half x43).bind fun y47 => (some (.inl y47))) else (some (.inr x43))) else none
noncomputable def rl_ref10_GCD_k84 (x50 : List Int) (x51 : List Int) : Option (((List Int) × (List Int)) ⊕ (List Int)) := (rl_ref10_less x50 x51).bind fun y52 => (some (.inl (y52, x51)))
noncomputable def rl_ref10_GCD_l79 (x30 : List Int) (x31 : List Int) : Option (((List Int) × (List Int)) ⊕ (List Int)) := if (decide (((x30.length : Nat) : Int) > 0)) = true then ((loop (fun v : List Int => rl_ref10_GCD_l81 v) x30).bind fun x41 => ((loop (fun v : List Int => rl_ref10_GCD_l83 v) x31).bind fun x49 => ((rl_ref10_Compare x41 x49).bind fun y54 => (if (decide (y54 < 0)) = true then (rl_ref10_GCD_k84 x49 x41) else (rl_ref10_GCD_k84 x41 x49))))) else (some (.inr x31))
noncomputable def rl_ref10_GCD_l86 (x27 : Int) (x63 : List Int) (x64 : Int) : Option (((List Int) × Int) ⊕ (List Int)) := if (decide (x64 < x27)) = true then ((rl_ref10_sum x63 x63).bind fun y67 => (some (.inl (y67, i64.wrap (x64 + 1))))) else (some (.inr x63))
noncomputable def rl_ref10_GCD_k8 (p0 : List Int) (p1 : List Int) (x3 : Bool) : Option ((List Int) × Int) := if x3 = true then (if 0 + p0.length ≤ 1099511627776 then (if (([] : List Int) ++ p0).length + p1.length ≤ 1099511627776 then (some (((([] : List Int) ++ p0) ++ p1), 0)) else none) else none) else (bind3 (loop (fun v : (List Int) × (List Int) × Int => rl_ref10_GCD_l38 v.1 v.2.1 v.2.2) (p0, p1, 0)) fun x25 x26 x27 => ((loop (fun v : (List Int) × (List Int) => rl_ref10_GCD_l79 v.1 v.2) (x25, x26)).bind fun x59 => (if 0 + x59.length ≤ 1099511627776 then ((loop (fun v : (List Int) × Int => rl_ref10_GCD_l86 x27 v.1 v.2) ((([] : List Int) ++ x59), 0)).bind fun x69 => (some (x69, 0))) else none)))
noncomputable def rl_ref10_GCD_k4 (p0 : List Int) (p1 : List Int) (x1 : Bool) : Option ((List Int) × Int) := if x1 = true then (some (([] : List Int), 20)) else (if (((p0.length : Nat) : Int) == 0) = true then (rl_ref10_GCD_k8 p0 p1 true) else (rl_ref10_GCD_k8 p0 p1 (((p1.length : Nat) : Int) == 0)))
noncomputable def rl_ref10_GCD (p0 : List Int) (p1 : List Int) : Option ((List Int) × Int) := (rl_ref10_Valid p0).bind fun y74 => (if (!y74) = true then (rl_ref10_GCD_k4 p0 p1 true) else ((rl_ref10_Valid p1).bind fun y77 => (rl_ref10_GCD_k4 p0 p1 (!y77))))
set_option maxRecDepth 100000 in
set_option maxHeartbeats 10000000 in
theorem rl_ref10_GCD_con (p0 : List Int) (p1 : List Int) (r0 : List Int) (r1 : Int) (h : rl_ref10_GCD p0 p1 = some (r0, r1)) : Con Try.prog 51 [vl 1 Ru32 p0, vl 1 Ru32 p1] [] (.tup [vl 1 Ru32 r0, vi64 r1]) [] := by
 suffices H : ∀ r, rl_ref10_GCD p0 p1 = some r → Con Try.prog 51 [vl 1 Ru32 p0, vl 1 Ru32 p1] [] (.tup [vl 1 Ru32 r.1, vi64 r.2]) [] from H (r0, r1) h
 clear h
 intro r h
 refine con_of tt_ok2 0 Try.func51 (by kernel_rfl) rfl (by kernel_rfl) (fun base X hk => AW.post ?_)
 unfold rl_ref10_GCD at h
 refine AW.seq ?_
 refine AW.reg tt_ok2 [0, 1] [] [] ⟨[(0, vl 1 Ru32 p0), (1, vl 1 Ru32 p1)], [], 2⟩ [True, True] (by kernel_rfl) (by kernel_rfl) ⟨tv, tv, tv⟩ ?_
 refine AW.tn ?_
 refine AW.seq ?_
 refine AW.seq ?_
 refine AW.join (ι := Bool) (fun v => ⟨[(0, vl 1 Ru32 p0), (1, vl 1 Ru32 p1), (15, vb v)], [], 0⟩) (fun v : Bool => rl_ref10_GCD_k4 p0 p1 v = some r) (fun v h => ?_) ?_
 ·
  obtain ⟨x1, rfl⟩ : ∃ x, x = v := ⟨_, rfl⟩
  replace h : rl_ref10_GCD_k4 p0 p1 x1 = some r := h
  unfold rl_ref10_GCD_k4 at h
  show (_ : Exit → St → Prop) .normal ⟨[(0, vl 1 Ru32 p0), (1, vl 1 Ru32 p1), (15, vb x1)], [], 0⟩
  refine AW.tn ?_
  refine AW.cond (b := x1) (by kernel_rfl) (fun c2 => ?_) (fun c2 => ?_)
  ·rw [if_pos c2] at h
   refine AW.seq ?_
   refine AW.reg tt_ok2 [4, 5] [] [] ⟨[(5, vi64 20), (4, .c (.t (.v (.slice none 0 0))))], [], 2⟩ [True, True] (by kernel_rfl) (by kernel_rfl) ⟨tv, tv, tv⟩ ?_
   refine AW.tn ?_
   refine AW.ret ?_
   refine AW.tr ?_
   obtain rfl := some_inj h
   exact ⟨_, conv_tm (tm' := [(5, vi64 20), (4, vl 1 Ru32 ([] : List Int))]) ⟨⟨vi64 20, by kernel_rfl, ALe.refl _ _⟩, ⟨.c (.t (.v (.slice none 0 0))), by kernel_rfl, ALe.c (CLe.nil rfl)⟩, tv⟩, .inr rfl, OutOk.mk [] 0 (out0 := .tup [vl 1 Ru32 ([] : List Int), vi64 20]) (ps := [True, True]) (by kernel_rfl) ⟨tv, tv, tv⟩ (by kernel_rfl) (by kernel_rfl)⟩
  ·rw [if_neg (nb c2)] at h
   refine AW.skip ?_
   refine AW.tn ?_
   refine AW.seq ?_
   refine AW.seq ?_
   refine AW.join (ι := Bool) (fun v => ⟨[(0, vl 1 Ru32 p0), (1, vl 1 Ru32 p1), (23, vb v)], [], 0⟩) (fun v : Bool => rl_ref10_GCD_k8 p0 p1 v = some r) (fun v h => ?_) ?_
   ·
    obtain ⟨x3, rfl⟩ : ∃ x, x = v := ⟨_, rfl⟩
    replace h : rl_ref10_GCD_k8 p0 p1 x3 = some r := h
    unfold rl_ref10_GCD_k8 at h
    show (_ : Exit → St → Prop) .normal ⟨[(0, vl 1 Ru32 p0), (1, vl 1 Ru32 p1), (23, vb x3)], [], 0⟩
    refine AW.tn ?_
    refine AW.cond (b := x3) (by kernel_rfl) (fun c4 => ?_) (fun c4 => ?_)
    ·rw [if_pos c4] at h
     refine AW.seq ?_
     obtain ⟨g5, h⟩ := ifc h
     obtain ⟨g6, h⟩ := ifc h
     refine AW.reg tt_ok2 [4, 5] [3] [{}, { h := { row := some ((([] : List Int) ++ p0).length, Ru32 (([] : List Int) ++ p0)) } }, {}, { h := { row := some (((([] : List Int) ++ p0) ++ p1).length, Ru32 ((([] : List Int) ++ p0) ++ p1)) } }] ⟨[(5, vi64 0), (4, .c (.ref 3 1 0 (((([] : List Int) ++ p0) ++ p1).length)))], [(3, .row 37 false 1 ((([] : List Int) ++ p0) ++ p1).length (Ru32 ((([] : List Int) ++ p0) ++ p1)))], 6⟩ [True, (True) ∧ (True) ∧ ((0 + p0.length ≤ 1099511627776) ∧ ((4 : Nat) ≤ 128)) ∧ (0 + p0.length = (([] : List Int) ++ p0).length ∧ ∀ i, i < (([] : List Int) ++ p0).length → ∀ j, j < 1 → TLe ((appRow 0 (fun _ _ => .v undef) (Ru32 p0)) i j) (Ru32 (([] : List Int) ++ p0) i j)), True, ((([] : List Int) ++ p0).length = (([] : List Int) ++ p0).length) ∧ (True) ∧ (((([] : List Int) ++ p0).length + p1.length ≤ 1099511627776) ∧ ((4 : Nat) ≤ 128)) ∧ ((([] : List Int) ++ p0).length + p1.length = ((([] : List Int) ++ p0) ++ p1).length ∧ ∀ i, i < ((([] : List Int) ++ p0) ++ p1).length → ∀ j, j < 1 → TLe ((appRow ((([] : List Int) ++ p0).length) (Ru32 (([] : List Int) ++ p0)) (Ru32 p1)) i j) (Ru32 ((([] : List Int) ++ p0) ++ p1) i j)), True, True] (by kernel_rfl) (by kernel_rfl) ⟨tv, ⟨tv, tv, ⟨g5, (by decide)⟩, rowT (app_row rfl rfl row_nil row_rfl)⟩, tv, ⟨rfl, tv, ⟨g6, (by decide)⟩, rowT (app_row rfl rfl row_rfl row_rfl)⟩, tv, tv, tv⟩ ?_
     refine AW.tn ?_
     refine AW.ret ?_
     refine AW.tr ?_
     obtain rfl := some_inj h
     exact ⟨_, Conv.trans (conv_row (id := 3) (ty := 37) (fro := false) (fro' := true) (sz := 1) (n := ((([] : List Int) ++ p0) ++ p1).length) (m := ((([] : List Int) ++ p0) ++ p1).length) (f := Ru32 ((([] : List Int) ++ p0) ++ p1)) (g := Ru32 ((([] : List Int) ++ p0) ++ p1)) (by kernel_rfl) (.inr rfl) rfl row_rfl) (conv_tm (tm' := [(5, vi64 0), (4, vl 1 Ru32 ((([] : List Int) ++ p0) ++ p1))]) ⟨⟨vi64 0, by kernel_rfl, ALe.refl _ _⟩, ⟨.c (.ref 3 1 0 (((([] : List Int) ++ p0) ++ p1).length)), by kernel_rfl, ALe.c (CLe.ref (ty := 37) (f := Ru32 ((([] : List Int) ++ p0) ++ p1)) (by kernel_rfl) le0)⟩, tv⟩), .inr rfl, OutOk.mk [] 0 (out0 := .tup [vl 1 Ru32 ((([] : List Int) ++ p0) ++ p1), vi64 0]) (ps := [True, True]) (by kernel_rfl) ⟨tv, tv, tv⟩ (by kernel_rfl) (by kernel_rfl)⟩
    ·rw [if_neg (nb c4)] at h
     refine AW.skip ?_
     refine AW.tn ?_
     refine AW.seq ?_
     refine AW.reg tt_ok2 [0, 1, 6] [] [] ⟨[(6, vi64 0), (0, vl 1 Ru32 p0), (1, vl 1 Ru32 p1)], [], 1⟩ [True] (by kernel_rfl) (by kernel_rfl) ⟨tv, tv⟩ ?_
     refine AW.tn ?_
     refine AW.seq ?_
     refine AW.block ?_
     obtain ⟨x25, x26, x27, l72, h⟩ := bind3_some h
     refine AW.pre (S' := ((fun v => ⟨[(0, vl 1 Ru32 v.1), (1, vl 1 Ru32 v.2.1), (6, vi64 v.2.2)], [], 0⟩) : ((List Int) × (List Int) × Int) → St) (p0, p1, 0)) (conv_ren [] [0, 1, 6] (n := 0) (by kernel_rfl) (by kernel_rfl)) ?_
     refine AW.loop2 (step := (fun v : (List Int) × (List Int) × Int => rl_ref10_GCD_l38 v.1 v.2.1 v.2.2)) (s0 := (p0, p1, 0)) (t := (x25, x26, x27)) (fun v => ⟨[(0, vl 1 Ru32 v.1), (1, vl 1 Ru32 v.2.1), (6, vi64 v.2.2)], [], 0⟩) (fun t : (List Int) × (List Int) × Int => (.exit 0, ⟨[(0, vl 1 Ru32 t.1), (1, vl 1 Ru32 t.2.1), (6, vi64 t.2.2)], [], 0⟩)) l72 (fun _ => tv) ?_ ?_
     ·
      intro v o h
      obtain ⟨x10, x11, x12⟩ := v
      replace h : rl_ref10_GCD_l38 x10 x11 x12 = some o := h
      unfold rl_ref10_GCD_l38 at h
      show AW _ ⟨[(0, vl 1 Ru32 x10), (1, vl 1 Ru32 x11), (6, vi64 x12)], [], 0⟩ _ _
      refine AW.seq ?_
      refine AW.seq ?_
      refine AW.join (ι := Bool) (fun v => ⟨[(0, vl 1 Ru32 x10), (1, vl 1 Ru32 x11), (6, vi64 x12), (39, vb v)], [], 0⟩) (fun v : Bool => rl_ref10_GCD_k42 x10 x11 x12 v = some o) (fun v h => ?_) ?_
      ·
       obtain ⟨x16, rfl⟩ : ∃ x, x = v := ⟨_, rfl⟩
       replace h : rl_ref10_GCD_k42 x10 x11 x12 x16 = some o := h
       unfold rl_ref10_GCD_k42 at h
       show (_ : Exit → St → Prop) .normal ⟨[(0, vl 1 Ru32 x10), (1, vl 1 Ru32 x11), (6, vi64 x12), (39, vb x16)], [], 0⟩
       refine AW.tn ?_
       refine AW.cond (b := x16) (by kernel_rfl) (fun c17 => ?_) (fun c17 => ?_)
       ·rw [if_pos c17] at h
        refine AW.skip ?_
        refine AW.tn ?_
        refine AW.block ?_
        refine AW.seq ?_
        obtain ⟨y18, e19, h⟩ := bnd_some h
        obtain ⟨y20, e21, h⟩ := bnd_some h
        refine AW.reg tt_ok2 [0, 1, 6] [] [{}, { call := some { ids := [], frz := [], flat := false, cnt := 0, args := [vl 1 Ru32 x10], out := vl 1 Ru32 y18, outb := [] } }, {}, { call := some { ids := [], frz := [], flat := false, cnt := 0, args := [vl 1 Ru32 x11], out := vl 1 Ru32 y20, outb := [] } }] ⟨[(1, vl 1 Ru32 y20), (0, vl 1 Ru32 y18), (6, vi64 x12)], [], 4⟩ [True, ((True) ∧ (True)) ∧ (All2 ArgLe [vl 1 Ru32 x10] [vl 1 Ru32 x10]) ∧ ((false = true → flatB [])) ∧ (Con Try.prog 63 [vl 1 Ru32 x10] [] (vl 1 Ru32 y18) []), True, ((True) ∧ (True)) ∧ (All2 ArgLe [vl 1 Ru32 x11] [vl 1 Ru32 x11]) ∧ ((false = true → flatB [])) ∧ (Con Try.prog 63 [vl 1 Ru32 x11] [] (vl 1 Ru32 y20) []), True, True] (by kernel_rfl) (by kernel_rfl) ⟨tv, ⟨⟨tv, tv⟩, ⟨ArgLe.refl _, tv⟩, (fun h => by cases h), (rl_ref10_half_con x10 y18 e19)⟩, tv, ⟨⟨tv, tv⟩, ⟨ArgLe.refl _, tv⟩, (fun h => by cases h), (rl_ref10_half_con x11 y20 e21)⟩, tv, tv, tv⟩ ?_
        refine AW.tn ?_
        refine AW.reg tt_ok2 [0, 1, 6] [] [] ⟨[(6, vi64 (i64.wrap (x12 + 1))), (1, vl 1 Ru32 y20), (0, vl 1 Ru32 y18)], [], 7⟩ [True, True, True] (by kernel_rfl) (by kernel_rfl) ⟨tv, tv, tv, tv⟩ ?_
        refine AW.inBlock_normal ?_
        obtain rfl := some_inj h
        refine loopQ_next (conv_ren [] [0, 1, 6] (n := 0) (by kernel_rfl) (by kernel_rfl))
       ·rw [if_neg (nb c17)] at h
        refine AW.exit ?_
        refine AW.thenQ_exit ?_
        obtain rfl := some_inj h
        refine loopQ_out rfl (conv_ren [] [0, 1, 6] (n := 0) (by kernel_rfl) (by kernel_rfl))
      ·
       obtain ⟨g22, h⟩ := ifc h
       by_cases c23 : ((iand .u32 (x10.getD 0 0) 1) == 0) = true
       ·rw [if_pos c23] at h
        obtain ⟨g24, h⟩ := ifc h
        refine AW.reg tt_ok2 [0, 1, 6, 34, 35, 36, 37, 38, 39] [] [{}, {}, {}, {}, { h := { b := some true } }] ⟨[(39, vb ((iand .u32 (x11.getD 0 0) 1) == 0)), (38, vb ((iand .u32 (x11.getD 0 0) 1) == 0)), (37, vu32 (iand .u32 (x11.getD 0 0) 1)), (36, vu32 (x11.getD 0 0)), (35, .c (.t (.eptr 1 (Ru32 x11 0) 0))), (34, vl 1 Ru32 x11), (0, vl 1 Ru32 x10), (1, vl 1 Ru32 x11), (6, vi64 x12)], [], 12⟩ [True, (0 ≤ (0 : Int)) ∧ ((0 : Int) < ((x10.length : Nat) : Int)), True, True, ((iand .u32 (x10.getD 0 0) 1) == 0) = true, True, True, (0 ≤ (0 : Int)) ∧ ((0 : Int) < ((x11.length : Nat) : Int)), True, True, True, True] (by kernel_rfl) (by kernel_rfl) ⟨tv, ⟨(by decide), g22⟩, tv, tv, c23, tv, tv, ⟨(by decide), g24⟩, tv, tv, tv, tv, tv⟩ ?_
        exact joinQ_leaf (((iand .u32 (x11.getD 0 0) 1) == 0)) h (conv_ren [] [0, 1, 6, 39] (n := 0) (by kernel_rfl) (by kernel_rfl))
       ·rw [if_neg c23] at h
        refine AW.reg tt_ok2 [0, 1, 6, 34, 35, 36, 37, 38, 39] [] [{}, {}, {}, {}, { h := { b := some false } }] ⟨[(39, vb false), (38, .tup []), (37, .tup []), (36, .tup []), (35, .tup []), (34, .tup []), (0, vl 1 Ru32 x10), (1, vl 1 Ru32 x11), (6, vi64 x12)], [], 12⟩ [True, (0 ≤ (0 : Int)) ∧ ((0 : Int) < ((x10.length : Nat) : Int)), True, True, ((iand .u32 (x10.getD 0 0) 1) == 0) = false, True, True, True, True, True, True, True] (by kernel_rfl) (by kernel_rfl) ⟨tv, ⟨(by decide), g22⟩, tv, tv, (off_false c23), tv, tv, tv, tv, tv, tv, tv, tv⟩ ?_
        exact joinQ_leaf (false) h (conv_ren [] [0, 1, 6, 39] (n := 0) (by kernel_rfl) (by kernel_rfl))
     ·
      show (_ : Exit → St → Prop) (.exit 0) ⟨[(0, vl 1 Ru32 x25), (1, vl 1 Ru32 x26), (6, vi64 x27)], [], 0⟩
      refine AW.inBlock_hit ?_
      refine AW.tn ?_
      refine AW.seq ?_
      refine AW.block ?_
      obtain ⟨x59, l71, h⟩ := bnd_some h
      refine AW.pre (S' := ((fun v => ⟨[(0, vl 1 Ru32 v.1), (1, vl 1 Ru32 v.2), (6, vi64 x27)], [], 0⟩) : ((List Int) × (List Int)) → St) (x25, x26)) (conv_ren [] [0, 1, 6] (n := 0) (by kernel_rfl) (by kernel_rfl)) ?_
      refine AW.loop2 (step := (fun v : (List Int) × (List Int) => rl_ref10_GCD_l79 v.1 v.2)) (s0 := (x25, x26)) (t := x59) (fun v => ⟨[(0, vl 1 Ru32 v.1), (1, vl 1 Ru32 v.2), (6, vi64 x27)], [], 0⟩) (fun t : List Int => (.exit 2, ⟨[(1, vl 1 Ru32 t), (6, vi64 x27)], [], 0⟩)) l71 (fun _ => tv) ?_ ?_
      ·
       intro v o h
       obtain ⟨x30, x31⟩ := v
       replace h : rl_ref10_GCD_l79 x30 x31 = some o := h
       unfold rl_ref10_GCD_l79 at h
       show AW _ ⟨[(0, vl 1 Ru32 x30), (1, vl 1 Ru32 x31), (6, vi64 x27)], [], 0⟩ _ _
       refine AW.seq ?_
       refine AW.seq ?_
       refine AW.reg tt_ok2 [0, 1, 6, 48] [] [] ⟨[(48, vb (decide (((x30.length : Nat) : Int) > 0))), (0, vl 1 Ru32 x30), (1, vl 1 Ru32 x31), (6, vi64 x27)], [], 3⟩ [True, True, True] (by kernel_rfl) (by kernel_rfl) ⟨tv, tv, tv, tv⟩ ?_
       refine AW.tn ?_
       refine AW.cond (b := decide (((x30.length : Nat) : Int) > 0)) (by kernel_rfl) (fun c33 => ?_) (fun c33 => ?_)
       ·rw [if_pos c33] at h
        refine AW.skip ?_
        refine AW.tn ?_
        refine AW.block ?_
        refine AW.seq ?_
        refine AW.block ?_
        obtain ⟨x41, l58, h⟩ := bnd_some h
        refine AW.pre (S' := ((fun v => ⟨[(0, vl 1 Ru32 v), (1, vl 1 Ru32 x31), (6, vi64 x27)], [], 0⟩) : (List Int) → St) x30) (conv_ren [] [0, 1, 6] (n := 0) (by kernel_rfl) (by kernel_rfl)) ?_
        refine AW.loop2 (step := (fun v : List Int => rl_ref10_GCD_l81 v)) (s0 := x30) (t := x41) (fun v => ⟨[(0, vl 1 Ru32 v), (1, vl 1 Ru32 x31), (6, vi64 x27)], [], 0⟩) (fun t : List Int => (.exit 4, ⟨[(0, vl 1 Ru32 t), (1, vl 1 Ru32 x31), (6, vi64 x27)], [], 0⟩)) l58 (fun _ => tv) ?_ ?_
        ·
         intro v o h
         obtain ⟨x35, rfl⟩ : ∃ x, x = v := ⟨_, rfl⟩
         replace h : rl_ref10_GCD_l81 x35 = some o := h
         unfold rl_ref10_GCD_l81 at h
         show AW _ ⟨[(0, vl 1 Ru32 x35), (1, vl 1 Ru32 x31), (6, vi64 x27)], [], 0⟩ _ _
         refine AW.seq ?_
         refine AW.seq ?_
         obtain ⟨g37, h⟩ := ifc h
         refine AW.reg tt_ok2 [0, 1, 6, 53] [] [] ⟨[(53, vb ((iand .u32 (x35.getD 0 0) 1) == 0)), (0, vl 1 Ru32 x35), (1, vl 1 Ru32 x31), (6, vi64 x27)], [], 5⟩ [True, (0 ≤ (0 : Int)) ∧ ((0 : Int) < ((x35.length : Nat) : Int)), True, True, True] (by kernel_rfl) (by kernel_rfl) ⟨tv, ⟨(by decide), g37⟩, tv, tv, tv, tv⟩ ?_
         refine AW.tn ?_
         refine AW.cond (b := ((iand .u32 (x35.getD 0 0) 1) == 0)) (by kernel_rfl) (fun c38 => ?_) (fun c38 => ?_)
         ·rw [if_pos c38] at h
          refine AW.skip ?_
          refine AW.tn ?_
          refine AW.block ?_
          obtain ⟨y39, e40, h⟩ := bnd_some h
          refine AW.reg tt_ok2 [0, 1, 6] [] [{}, { call := some { ids := [], frz := [], flat := false, cnt := 0, args := [vl 1 Ru32 x35], out := vl 1 Ru32 y39, outb := [] } }] ⟨[(0, vl 1 Ru32 y39), (1, vl 1 Ru32 x31), (6, vi64 x27)], [], 7⟩ [True, ((True) ∧ (True)) ∧ (All2 ArgLe [vl 1 Ru32 x35] [vl 1 Ru32 x35]) ∧ ((false = true → flatB [])) ∧ (Con Try.prog 63 [vl 1 Ru32 x35] [] (vl 1 Ru32 y39) []), True] (by kernel_rfl) (by kernel_rfl) ⟨tv, ⟨⟨tv, tv⟩, ⟨ArgLe.refl _, tv⟩, (fun h => by cases h), (rl_ref10_half_con x35 y39 e40)⟩, tv, tv⟩ ?_
          refine AW.inBlock_normal ?_
          obtain rfl := some_inj h
          refine loopQ_next (conv_ren [] [0, 1, 6] (n := 0) (by kernel_rfl) (by kernel_rfl))
         ·rw [if_neg (nb c38)] at h
          refine AW.exit ?_
          refine AW.thenQ_exit ?_
          obtain rfl := some_inj h
          refine loopQ_out rfl (conv_ren [] [0, 1, 6] (n := 0) (by kernel_rfl) (by kernel_rfl))
        ·
         show (_ : Exit → St → Prop) (.exit 4) ⟨[(0, vl 1 Ru32 x41), (1, vl 1 Ru32 x31), (6, vi64 x27)], [], 0⟩
         refine AW.inBlock_hit ?_
         refine AW.tn ?_
         refine AW.seq ?_
         refine AW.block ?_
         obtain ⟨x49, l57, h⟩ := bnd_some h
         refine AW.pre (S' := ((fun v => ⟨[(0, vl 1 Ru32 x41), (1, vl 1 Ru32 v), (6, vi64 x27)], [], 0⟩) : (List Int) → St) x31) (conv_ren [] [0, 1, 6] (n := 0) (by kernel_rfl) (by kernel_rfl)) ?_
         refine AW.loop2 (step := (fun v : List Int => rl_ref10_GCD_l83 v)) (s0 := x31) (t := x49) (fun v => ⟨[(0, vl 1 Ru32 x41), (1, vl 1 Ru32 v), (6, vi64 x27)], [], 0⟩) (fun t : List Int => (.exit 6, ⟨[(0, vl 1 Ru32 x41), (1, vl 1 Ru32 t), (6, vi64 x27)], [], 0⟩)) l57 (fun _ => tv) ?_ ?_
         ·
          intro v o h
          obtain ⟨x43, rfl⟩ : ∃ x, x = v := ⟨_, rfl⟩
          replace h : rl_ref10_GCD_l83 x43 = some o := h
          unfold rl_ref10_GCD_l83 at h
          show AW _ ⟨[(0, vl 1 Ru32 x41), (1, vl 1 Ru32 x43), (6, vi64 x27)], [], 0⟩ _ _
          refine AW.seq ?_
          refine AW.seq ?_
          obtain ⟨g45, h⟩ := ifc h
          refine AW.reg tt_ok2 [0, 1, 6, 60] [] [] ⟨[(60, vb ((iand .u32 (x43.getD 0 0) 1) == 0)), (0, vl 1 Ru32 x41), (1, vl 1 Ru32 x43), (6, vi64 x27)], [], 5⟩ [True, (0 ≤ (0 : Int)) ∧ ((0 : Int) < ((x43.length : Nat) : Int)), True, True, True] (by kernel_rfl) (by kernel_rfl) ⟨tv, ⟨(by decide), g45⟩, tv, tv, tv, tv⟩ ?_
          refine AW.tn ?_
          refine AW.cond (b := ((iand .u32 (x43.getD 0 0) 1) == 0)) (by kernel_rfl) (fun c46 => ?_) (fun c46 => ?_)
          ·rw [if_pos c46] at h
           refine AW.skip ?_
           refine AW.tn ?_
           refine AW.block ?_
           obtain ⟨y47, e48, h⟩ := bnd_some h
           refine AW.reg tt_ok2 [0, 1, 6] [] [{}, { call := some { ids := [], frz := [], flat := false, cnt := 0, args := [vl 1 Ru32 x43], out := vl 1 Ru32 y47, outb := [] } }] ⟨[(1, vl 1 Ru32 y47), (0, vl 1 Ru32 x41), (6, vi64 x27)], [], 7⟩ [True, ((True) ∧ (True)) ∧ (All2 ArgLe [vl 1 Ru32 x43] [vl 1 Ru32 x43]) ∧ ((false = true → flatB [])) ∧ (Con Try.prog 63 [vl 1 Ru32 x43] [] (vl 1 Ru32 y47) []), True] (by kernel_rfl) (by kernel_rfl) ⟨tv, ⟨⟨tv, tv⟩, ⟨ArgLe.refl _, tv⟩, (fun h => by cases h), (rl_ref10_half_con x43 y47 e48)⟩, tv, tv⟩ ?_
           refine AW.inBlock_normal ?_
           obtain rfl := some_inj h
           refine loopQ_next (conv_ren [] [0, 1, 6] (n := 0) (by kernel_rfl) (by kernel_rfl))
          ·rw [if_neg (nb c46)] at h
           refine AW.exit ?_
           refine AW.thenQ_exit ?_
           obtain rfl := some_inj h
           refine loopQ_out rfl (conv_ren [] [0, 1, 6] (n := 0) (by kernel_rfl) (by kernel_rfl))
         ·
          show (_ : Exit → St → Prop) (.exit 6) ⟨[(0, vl 1 Ru32 x41), (1, vl 1 Ru32 x49), (6, vi64 x27)], [], 0⟩
          refine AW.inBlock_hit ?_
          refine AW.tn ?_
          refine AW.seq ?_
          refine AW.join (ι := (List Int) × (List Int)) (fun v => ⟨[(0, vl 1 Ru32 v.1), (1, vl 1 Ru32 v.2), (6, vi64 x27)], [], 0⟩) (fun v : (List Int) × (List Int) => rl_ref10_GCD_k84 v.1 v.2 = some o) (fun v h => ?_) ?_
          ·
           obtain ⟨x50, x51⟩ := v
           replace h : rl_ref10_GCD_k84 x50 x51 = some o := h
           unfold rl_ref10_GCD_k84 at h
           show (_ : Exit → St → Prop) .normal ⟨[(0, vl 1 Ru32 x50), (1, vl 1 Ru32 x51), (6, vi64 x27)], [], 0⟩
           refine AW.tn ?_
           obtain ⟨y52, e53, h⟩ := bnd_some h
           refine AW.reg tt_ok2 [0, 1, 6] [] [{}, {}, { call := some { ids := [], frz := [], flat := false, cnt := 0, args := [vl 1 Ru32 x50, vl 1 Ru32 x51], out := vl 1 Ru32 y52, outb := [] } }] ⟨[(0, vl 1 Ru32 y52), (1, vl 1 Ru32 x51), (6, vi64 x27)], [], 3⟩ [True, True, ((True) ∧ (True) ∧ (True)) ∧ (All2 ArgLe [vl 1 Ru32 x50, vl 1 Ru32 x51] [vl 1 Ru32 x50, vl 1 Ru32 x51]) ∧ ((false = true → flatB [])) ∧ (Con Try.prog 62 [vl 1 Ru32 x50, vl 1 Ru32 x51] [] (vl 1 Ru32 y52) []), True] (by kernel_rfl) (by kernel_rfl) ⟨tv, tv, ⟨⟨tv, tv, tv⟩, ⟨ArgLe.refl _, ArgLe.refl _, tv⟩, (fun h => by cases h), (rl_ref10_less_con x50 x51 y52 e53)⟩, tv, tv⟩ ?_
           refine AW.inBlock_normal ?_
           obtain rfl := some_inj h
           refine loopQ_next (conv_ren [] [0, 1, 6] (n := 0) (by kernel_rfl) (by kernel_rfl))
          ·
           refine AW.seq ?_
           obtain ⟨y54, e55, h⟩ := bnd_some h
           refine AW.reg tt_ok2 [0, 1, 6, 66] [] [{}, {}, { call := some { ids := [], frz := [], flat := true, cnt := 0, args := [vl 1 Ru32 x41, vl 1 Ru32 x49], out := vi64 y54, outb := [] } }] ⟨[(66, vb (decide (y54 < 0))), (0, vl 1 Ru32 x41), (1, vl 1 Ru32 x49), (6, vi64 x27)], [], 3⟩ [True, True, ((True) ∧ (True) ∧ (True)) ∧ (All2 ArgLe [vl 1 Ru32 x41, vl 1 Ru32 x49] [vl 1 Ru32 x41, vl 1 Ru32 x49]) ∧ ((true = true → flatB [])) ∧ (Con Try.prog 47 [vl 1 Ru32 x41, vl 1 Ru32 x49] [] (vi64 y54) []), True] (by kernel_rfl) (by kernel_rfl) ⟨tv, tv, ⟨⟨tv, tv, tv⟩, ⟨ArgLe.refl _, ArgLe.refl _, tv⟩, (fun _ => tv), (rl_ref10_Compare_con x41 x49 y54 e55)⟩, tv, tv⟩ ?_
           refine AW.tn ?_
           refine AW.cond (b := decide (y54 < 0)) (by kernel_rfl) (fun c56 => ?_) (fun c56 => ?_)
           ·rw [if_pos c56] at h
            refine AW.reg tt_ok2 [0, 1, 6] [] [] ⟨[(1, vl 1 Ru32 x41), (0, vl 1 Ru32 x49), (6, vi64 x27)], [], 7⟩ [True, True, True, True] (by kernel_rfl) (by kernel_rfl) ⟨tv, tv, tv, tv, tv⟩ ?_
            exact joinQ_leaf ((x49, x41)) h (conv_ren [] [0, 1, 6] (n := 0) (by kernel_rfl) (by kernel_rfl))
           ·rw [if_neg (nb c56)] at h
            refine AW.skip ?_
            exact joinQ_leaf ((x41, x49)) h (conv_ren [] [0, 1, 6] (n := 0) (by kernel_rfl) (by kernel_rfl))
       ·rw [if_neg (nb c33)] at h
        refine AW.exit ?_
        refine AW.thenQ_exit ?_
        obtain rfl := some_inj h
        refine loopQ_out rfl (conv_ren [] [1, 6] (n := 0) (by kernel_rfl) (by kernel_rfl))
      ·
       show (_ : Exit → St → Prop) (.exit 2) ⟨[(1, vl 1 Ru32 x59), (6, vi64 x27)], [], 0⟩
       refine AW.inBlock_hit ?_
       refine AW.tn ?_
       refine AW.seq ?_
       obtain ⟨g60, h⟩ := ifc h
       refine AW.reg tt_ok2 [1, 6] [1] [{}, { h := { row := some ((([] : List Int) ++ x59).length, Ru32 (([] : List Int) ++ x59)) } }] ⟨[(1, .c (.ref 1 1 0 ((([] : List Int) ++ x59).length))), (6, vi64 x27)], [(1, .row 37 false 1 (([] : List Int) ++ x59).length (Ru32 (([] : List Int) ++ x59)))], 3⟩ [True, (True) ∧ (True) ∧ ((0 + x59.length ≤ 1099511627776) ∧ ((4 : Nat) ≤ 128)) ∧ (0 + x59.length = (([] : List Int) ++ x59).length ∧ ∀ i, i < (([] : List Int) ++ x59).length → ∀ j, j < 1 → TLe ((appRow 0 (fun _ _ => .v undef) (Ru32 x59)) i j) (Ru32 (([] : List Int) ++ x59) i j)), True] (by kernel_rfl) (by kernel_rfl) ⟨tv, ⟨tv, tv, ⟨g60, (by decide)⟩, rowT (app_row rfl rfl row_nil row_rfl)⟩, tv, tv⟩ ?_
       refine AW.tn ?_
       refine AW.seq ?_
       refine AW.seq ?_
       refine AW.reg tt_ok2 [1, 6, 7] [1] [] ⟨[(7, vi64 0), (1, .c (.ref 1 1 0 ((([] : List Int) ++ x59).length))), (6, vi64 x27)], [(1, .row 37 false 1 (([] : List Int) ++ x59).length (Ru32 (([] : List Int) ++ x59)))], 4⟩ [True] (by kernel_rfl) (by kernel_rfl) ⟨tv, tv⟩ ?_
       refine AW.tn ?_
       refine AW.block ?_
       obtain ⟨x69, l70, h⟩ := bnd_some h
       refine AW.pre (S' := ((fun v => ⟨[(1, vl 1 Ru32 v.1), (6, vi64 x27), (7, vi64 v.2)], [], 0⟩) : ((List Int) × Int) → St) ((([] : List Int) ++ x59), 0)) (Conv.trans (conv_row (id := 1) (ty := 37) (fro := false) (fro' := true) (sz := 1) (n := (([] : List Int) ++ x59).length) (m := (([] : List Int) ++ x59).length) (f := Ru32 (([] : List Int) ++ x59)) (g := Ru32 (([] : List Int) ++ x59)) (by kernel_rfl) (.inr rfl) rfl row_rfl) (Conv.trans (conv_tm (tm' := [(1, vl 1 Ru32 (([] : List Int) ++ x59)), (6, vi64 x27), (7, vi64 0)]) ⟨⟨.c (.ref 1 1 0 ((([] : List Int) ++ x59).length)), by kernel_rfl, ALe.c (CLe.ref (ty := 37) (f := Ru32 (([] : List Int) ++ x59)) (by kernel_rfl) le0)⟩, ⟨vi64 x27, by kernel_rfl, ALe.refl _ _⟩, ⟨vi64 0, by kernel_rfl, ALe.refl _ _⟩, tv⟩) (conv_ren [] [1, 6, 7] (n := 0) (by kernel_rfl) (by kernel_rfl)))) ?_
       refine AW.loop2 (step := (fun v : (List Int) × Int => rl_ref10_GCD_l86 x27 v.1 v.2)) (s0 := ((([] : List Int) ++ x59), 0)) (t := x69) (fun v => ⟨[(1, vl 1 Ru32 v.1), (6, vi64 x27), (7, vi64 v.2)], [], 0⟩) (fun t : List Int => (.exit 8, ⟨[(1, vl 1 Ru32 t)], [], 0⟩)) l70 (fun _ => tv) ?_ ?_
       ·
        intro v o h
        obtain ⟨x63, x64⟩ := v
        replace h : rl_ref10_GCD_l86 x27 x63 x64 = some o := h
        unfold rl_ref10_GCD_l86 at h
        show AW _ ⟨[(1, vl 1 Ru32 x63), (6, vi64 x27), (7, vi64 x64)], [], 0⟩ _ _
        refine AW.seq ?_
        refine AW.seq ?_
        refine AW.reg tt_ok2 [1, 6, 7, 76] [] [] ⟨[(76, vb (decide (x64 < x27))), (1, vl 1 Ru32 x63), (6, vi64 x27), (7, vi64 x64)], [], 3⟩ [True, True, True] (by kernel_rfl) (by kernel_rfl) ⟨tv, tv, tv, tv⟩ ?_
        refine AW.tn ?_
        refine AW.cond (b := decide (x64 < x27)) (by kernel_rfl) (fun c66 => ?_) (fun c66 => ?_)
        ·rw [if_pos c66] at h
         refine AW.skip ?_
         refine AW.tn ?_
         refine AW.seq ?_
         refine AW.block ?_
         obtain ⟨y67, e68, h⟩ := bnd_some h
         refine AW.reg tt_ok2 [1, 6, 7] [] [{}, {}, { call := some { ids := [], frz := [], flat := false, cnt := 0, args := [vl 1 Ru32 x63, vl 1 Ru32 x63], out := vl 1 Ru32 y67, outb := [] } }] ⟨[(1, vl 1 Ru32 y67), (6, vi64 x27), (7, vi64 x64)], [], 6⟩ [True, True, ((True) ∧ (True) ∧ (True)) ∧ (All2 ArgLe [vl 1 Ru32 x63, vl 1 Ru32 x63] [vl 1 Ru32 x63, vl 1 Ru32 x63]) ∧ ((false = true → flatB [])) ∧ (Con Try.prog 61 [vl 1 Ru32 x63, vl 1 Ru32 x63] [] (vl 1 Ru32 y67) []), True] (by kernel_rfl) (by kernel_rfl) ⟨tv, tv, ⟨⟨tv, tv, tv⟩, ⟨ArgLe.refl _, ArgLe.refl _, tv⟩, (fun h => by cases h), (rl_ref10_sum_con x63 x63 y67 e68)⟩, tv, tv⟩ ?_
         refine AW.inBlock_normal ?_
         refine AW.tn ?_
         refine AW.reg tt_ok2 [1, 6, 7] [] [] ⟨[(7, vi64 (i64.wrap (x64 + 1))), (1, vl 1 Ru32 y67), (6, vi64 x27)], [], 9⟩ [True, True, True] (by kernel_rfl) (by kernel_rfl) ⟨tv, tv, tv, tv⟩ ?_
         obtain rfl := some_inj h
         refine loopQ_next (conv_ren [] [1, 6, 7] (n := 0) (by kernel_rfl) (by kernel_rfl))
        ·rw [if_neg (nb c66)] at h
         refine AW.exit ?_
         refine AW.thenQ_exit ?_
         obtain rfl := some_inj h
         refine loopQ_out rfl (conv_ren [] [1] (n := 0) (by kernel_rfl) (by kernel_rfl))
       ·
        show (_ : Exit → St → Prop) (.exit 8) ⟨[(1, vl 1 Ru32 x69)], [], 0⟩
        refine AW.inBlock_hit ?_
        refine AW.tn ?_
        refine AW.seq ?_
        refine AW.reg tt_ok2 [4, 5] [] [] ⟨[(5, vi64 0), (4, vl 1 Ru32 x69)], [], 3⟩ [True, True, True] (by kernel_rfl) (by kernel_rfl) ⟨tv, tv, tv, tv⟩ ?_
        refine AW.tn ?_
        refine AW.ret ?_
        obtain rfl := some_inj h
        exact ⟨_, Conv.refl _ _, .inr rfl, OutOk.mk [] 0 (out0 := .tup [vl 1 Ru32 x69, vi64 0]) (ps := [True, True]) (by kernel_rfl) ⟨tv, tv, tv⟩ (by kernel_rfl) (by kernel_rfl)⟩
   ·
    by_cases c73 : (((p0.length : Nat) : Int) == 0) = true
    ·rw [if_pos c73] at h
     refine AW.reg tt_ok2 [0, 1, 23] [] [{}, {}, { h := { b := some true } }] ⟨[(23, vb true), (0, vl 1 Ru32 p0), (1, vl 1 Ru32 p1)], [], 8⟩ [True, True, (((p0.length : Nat) : Int) == 0) = true, True, True, True, True, True] (by kernel_rfl) (by kernel_rfl) ⟨tv, tv, c73, tv, tv, tv, tv, tv, tv⟩ ?_
     exact joinQ_leaf (true) h (conv_ren [] [0, 1, 23] (n := 0) (by kernel_rfl) (by kernel_rfl))
    ·rw [if_neg c73] at h
     refine AW.reg tt_ok2 [0, 1, 23] [] [{}, {}, { h := { b := some false } }] ⟨[(23, vb (((p1.length : Nat) : Int) == 0)), (0, vl 1 Ru32 p0), (1, vl 1 Ru32 p1)], [], 8⟩ [True, True, (((p0.length : Nat) : Int) == 0) = false, True, True, True, True, True] (by kernel_rfl) (by kernel_rfl) ⟨tv, tv, (off_false c73), tv, tv, tv, tv, tv, tv⟩ ?_
     exact joinQ_leaf ((((p1.length : Nat) : Int) == 0)) h (conv_ren [] [0, 1, 23] (n := 0) (by kernel_rfl) (by kernel_rfl))
 ·
  obtain ⟨y74, e75, h⟩ := bnd_some h
  by_cases c76 : (!y74) = true
  ·rw [if_pos c76] at h
   refine AW.reg tt_ok2 [0, 1, 15] [] [{}, { call := some { ids := [], frz := [], flat := true, cnt := 0, args := [vl 1 Ru32 p0], out := vb y74, outb := [] } }, { h := { b := some true } }] ⟨[(15, vb true), (0, vl 1 Ru32 p0), (1, vl 1 Ru32 p1)], [], 9⟩ [True, ((True) ∧ (True)) ∧ (All2 ArgLe [vl 1 Ru32 p0] [vl 1 Ru32 p0]) ∧ ((true = true → flatB [])) ∧ (Con Try.prog 31 [vl 1 Ru32 p0] [] (vb y74) []), (!y74) = true, True, True, True, True, True] (by kernel_rfl) (by kernel_rfl) ⟨tv, ⟨⟨tv, tv⟩, ⟨ArgLe.refl _, tv⟩, (fun _ => tv), (rl_ref10_Valid_con p0 y74 e75)⟩, c76, tv, tv, tv, tv, tv, tv⟩ ?_
   exact joinQ_leaf (true) h (conv_ren [] [0, 1, 15] (n := 0) (by kernel_rfl) (by kernel_rfl))
  ·rw [if_neg c76] at h
   obtain ⟨y77, e78, h⟩ := bnd_some h
   refine AW.reg tt_ok2 [0, 1, 15] [] [{}, { call := some { ids := [], frz := [], flat := true, cnt := 0, args := [vl 1 Ru32 p0], out := vb y74, outb := [] } }, { h := { b := some false } }, {}, {}, { call := some { ids := [], frz := [], flat := true, cnt := 0, args := [vl 1 Ru32 p1], out := vb y77, outb := [] } }] ⟨[(15, vb (!y77)), (0, vl 1 Ru32 p0), (1, vl 1 Ru32 p1)], [], 8⟩ [True, ((True) ∧ (True)) ∧ (All2 ArgLe [vl 1 Ru32 p0] [vl 1 Ru32 p0]) ∧ ((true = true → flatB [])) ∧ (Con Try.prog 31 [vl 1 Ru32 p0] [] (vb y74) []), (!y74) = false, True, True, ((True) ∧ (True)) ∧ (All2 ArgLe [vl 1 Ru32 p1] [vl 1 Ru32 p1]) ∧ ((true = true → flatB [])) ∧ (Con Try.prog 31 [vl 1 Ru32 p1] [] (vb y77) []), True, True] (by kernel_rfl) (by kernel_rfl) ⟨tv, ⟨⟨tv, tv⟩, ⟨ArgLe.refl _, tv⟩, (fun _ => tv), (rl_ref10_Valid_con p0 y74 e75)⟩, (off_false c76), tv, tv, ⟨⟨tv, tv⟩, ⟨ArgLe.refl _, tv⟩, (fun _ => tv), (rl_ref10_Valid_con p1 y77 e78)⟩, tv, tv, tv⟩ ?_
   exact joinQ_leaf (!y77) h (conv_ren [] [0, 1, 15] (n := 0) (by kernel_rfl) (by kernel_rfl))
/-! recordlink/recordlinklaw10.both -/
noncomputable def rl_law10_both_k18 (x42 : Bool) : Option Bool := some x42
noncomputable def rl_law10_both_k16 (p0 : List Int) (p1 : List Int) (x33 : Bool) : Option Bool := if x33 = true then (some false) else (if (decide ((i64.wrap (((p0.length : Nat) : Int) + ((p1.length : Nat) : Int))) > 30)) = true then (some true) else (bind2 (natural_GCD p0 p1) fun y36 y37 => (bind2 (rl_ref10_GCD p0 p1) fun y39 y40 => (if (y37 == y40) = true then ((rl_ref10_Same y36 y39).bind fun y44 => (rl_law10_both_k18 y44)) else (rl_law10_both_k18 false)))))
noncomputable def rl_law10_both_k12 (p0 : List Int) (p1 : List Int) (x23 : Bool) : Option Bool := if x23 = true then (some false) else (bind3 (natural_DivMod p0 p1) fun y25 y26 y27 => (bind3 (rl_ref10_DivMod p0 p1) fun y29 y30 y31 => (if (y27 != y31) = true then (rl_law10_both_k16 p0 p1 true) else ((rl_ref10_Same y25 y29).bind fun y47 => (if (!y47) = true then (rl_law10_both_k16 p0 p1 true) else ((rl_ref10_Same y26 y30).bind fun y50 => (rl_law10_both_k16 p0 p1 (!y50))))))))
noncomputable def rl_law10_both_k8 (p0 : List Int) (p1 : List Int) (x15 : Bool) : Option Bool := if x15 = true then (some false) else (bind2 (natural_Mul p0 p1) fun y17 y18 => (bind2 (rl_ref10_Mul p0 p1) fun y20 y21 => (if (y18 != y21) = true then (rl_law10_both_k12 p0 p1 true) else ((rl_ref10_Same y17 y20).bind fun y53 => (rl_law10_both_k12 p0 p1 (!y53))))))
noncomputable def rl_law10_both_k4 (p0 : List Int) (p1 : List Int) (x7 : Bool) : Option Bool := if x7 = true then (some false) else (bind2 (natural_Sub p0 p1) fun y9 y10 => (bind2 (rl_ref10_Sub p0 p1) fun y12 y13 => (if (y10 != y13) = true then (rl_law10_both_k8 p0 p1 true) else ((rl_ref10_Same y9 y12).bind fun y56 => (rl_law10_both_k8 p0 p1 (!y56))))))
noncomputable def rl_law10_both (p0 : List Int) (p1 : List Int) : Option Bool := bind2 (natural_Add p0 p1) fun y1 y2 => (bind2 (rl_ref10_Add p0 p1) fun y4 y5 => (if (y2 != y5) = true then (rl_law10_both_k4 p0 p1 true) else ((rl_ref10_Same y1 y4).bind fun y59 => (if (!y59) = true then (rl_law10_both_k4 p0 p1 true) else ((natural_Compare p0 p1).bind fun y62 => ((rl_ref10_Compare p0 p1).bind fun y64 => (rl_law10_both_k4 p0 p1 (y62 != y64))))))))
set_option maxRecDepth 100000 in
set_option maxHeartbeats 10000000 in
theorem rl_law10_both_con (p0 : List Int) (p1 : List Int) (r0 : Bool) (h : rl_law10_both p0 p1 = some r0) : Con Try.prog 28 [vl 1 Ru32 p0, vl 1 Ru32 p1] [] (vb r0) [] := by
 revert h; generalize r0 = r; intro h
 refine con_of tt_ok2 0 Try.func28 (by kernel_rfl) rfl (by kernel_rfl) (fun base X hk => AW.post ?_)
 unfold rl_law10_both at h
 refine AW.seq ?_
 refine AW.reg tt_ok2 [0, 1] [] [] ⟨[(0, vl 1 Ru32 p0), (1, vl 1 Ru32 p1)], [], 1⟩ [True] (by kernel_rfl) (by kernel_rfl) ⟨tv, tv⟩ ?_
 refine AW.tn ?_
 refine AW.seq ?_
 obtain ⟨y1, y2, e3, h⟩ := bind2_some h
 refine AW.reg tt_ok2 [0, 1, 5, 6] [] [{}, {}, { call := some { ids := [], frz := [], flat := false, cnt := 0, args := [vl 1 Ru32 p0, vl 1 Ru32 p1], out := .tup [vl 1 Ru32 y1, vi64 y2], outb := [] } }] ⟨[(6, vi64 y2), (5, vl 1 Ru32 y1), (0, vl 1 Ru32 p0), (1, vl 1 Ru32 p1)], [], 8⟩ [True, True, ((True) ∧ (True) ∧ (True)) ∧ (All2 ArgLe [vl 1 Ru32 p0, vl 1 Ru32 p1] [vl 1 Ru32 p0, vl 1 Ru32 p1]) ∧ ((false = true → flatB [])) ∧ (Con Try.prog 14 [vl 1 Ru32 p0, vl 1 Ru32 p1] [] (.tup [vl 1 Ru32 y1, vi64 y2]) []), True, True, True, True, True] (by kernel_rfl) (by kernel_rfl) ⟨tv, tv, ⟨⟨tv, tv, tv⟩, ⟨ArgLe.refl _, ArgLe.refl _, tv⟩, (fun h => by cases h), (natural_Add_con p0 p1 y1 y2 e3)⟩, tv, tv, tv, tv, tv, tv⟩ ?_
 refine AW.tn ?_
 refine AW.seq ?_
 obtain ⟨y4, y5, e6, h⟩ := bind2_some h
 refine AW.reg tt_ok2 [0, 1, 5, 6, 7, 8] [] [{}, {}, { call := some { ids := [], frz := [], flat := false, cnt := 0, args := [vl 1 Ru32 p0, vl 1 Ru32 p1], out := .tup [vl 1 Ru32 y4, vi64 y5], outb := [] } }] ⟨[(8, vi64 y5), (7, vl 1 Ru32 y4), (6, vi64 y2), (5, vl 1 Ru32 y1), (0, vl 1 Ru32 p0), (1, vl 1 Ru32 p1)], [], 15⟩ [True, True, ((True) ∧ (True) ∧ (True)) ∧ (All2 ArgLe [vl 1 Ru32 p0, vl 1 Ru32 p1] [vl 1 Ru32 p0, vl 1 Ru32 p1]) ∧ ((false = true → flatB [])) ∧ (Con Try.prog 46 [vl 1 Ru32 p0, vl 1 Ru32 p1] [] (.tup [vl 1 Ru32 y4, vi64 y5]) []), True, True, True, True, True] (by kernel_rfl) (by kernel_rfl) ⟨tv, tv, ⟨⟨tv, tv, tv⟩, ⟨ArgLe.refl _, ArgLe.refl _, tv⟩, (fun h => by cases h), (rl_ref10_Add_con p0 p1 y4 y5 e6)⟩, tv, tv, tv, tv, tv, tv⟩ ?_
 refine AW.tn ?_
 refine AW.seq ?_
 refine AW.seq ?_
 refine AW.join (ι := Bool) (fun v => ⟨[(0, vl 1 Ru32 p0), (1, vl 1 Ru32 p1), (40, vb v)], [], 0⟩) (fun v : Bool => rl_law10_both_k4 p0 p1 v = some r) (fun v h => ?_) ?_
 ·
  obtain ⟨x7, rfl⟩ : ∃ x, x = v := ⟨_, rfl⟩
  replace h : rl_law10_both_k4 p0 p1 x7 = some r := h
  unfold rl_law10_both_k4 at h
  show (_ : Exit → St → Prop) .normal ⟨[(0, vl 1 Ru32 p0), (1, vl 1 Ru32 p1), (40, vb x7)], [], 0⟩
  refine AW.tn ?_
  refine AW.cond (b := x7) (by kernel_rfl) (fun c8 => ?_) (fun c8 => ?_)
  ·rw [if_pos c8] at h
   refine AW.seq ?_
   refine AW.reg tt_ok2 [4] [] [] ⟨[(4, vb false)], [], 1⟩ [True] (by kernel_rfl) (by kernel_rfl) ⟨tv, tv⟩ ?_
   refine AW.tn ?_
   refine AW.ret ?_
   refine AW.tr ?_
   obtain rfl := some_inj h
   exact ⟨_, Conv.refl _ _, .inr rfl, OutOk.mk [] 0 (out0 := vb false) (ps := [True]) (by kernel_rfl) ⟨tv, tv⟩ (by kernel_rfl) (by kernel_rfl)⟩
  ·rw [if_neg (nb c8)] at h
   refine AW.skip ?_
   refine AW.tn ?_
   refine AW.seq ?_
   obtain ⟨y9, y10, e11, h⟩ := bind2_some h
   refine AW.reg tt_ok2 [0, 1, 5, 6] [] [{}, {}, { call := some { ids := [], frz := [], flat := false, cnt := 0, args := [vl 1 Ru32 p0, vl 1 Ru32 p1], out := .tup [vl 1 Ru32 y9, vi64 y10], outb := [] } }] ⟨[(6, vi64 y10), (5, vl 1 Ru32 y9), (0, vl 1 Ru32 p0), (1, vl 1 Ru32 p1)], [], 7⟩ [True, True, ((True) ∧ (True) ∧ (True)) ∧ (All2 ArgLe [vl 1 Ru32 p0, vl 1 Ru32 p1] [vl 1 Ru32 p0, vl 1 Ru32 p1]) ∧ ((false = true → flatB [])) ∧ (Con Try.prog 25 [vl 1 Ru32 p0, vl 1 Ru32 p1] [] (.tup [vl 1 Ru32 y9, vi64 y10]) []), True, True, True, True, True] (by kernel_rfl) (by kernel_rfl) ⟨tv, tv, ⟨⟨tv, tv, tv⟩, ⟨ArgLe.refl _, ArgLe.refl _, tv⟩, (fun h => by cases h), (natural_Sub_con p0 p1 y9 y10 e11)⟩, tv, tv, tv, tv, tv, tv⟩ ?_
   refine AW.tn ?_
   refine AW.seq ?_
   obtain ⟨y12, y13, e14, h⟩ := bind2_some h
   refine AW.reg tt_ok2 [0, 1, 5, 6, 7, 8] [] [{}, {}, { call := some { ids := [], frz := [], flat := false, cnt := 0, args := [vl 1 Ru32 p0, vl 1 Ru32 p1], out := .tup [vl 1 Ru32 y12, vi64 y13], outb := [] } }] ⟨[(8, vi64 y13), (7, vl 1 Ru32 y12), (6, vi64 y10), (5, vl 1 Ru32 y9), (0, vl 1 Ru32 p0), (1, vl 1 Ru32 p1)], [], 14⟩ [True, True, ((True) ∧ (True) ∧ (True)) ∧ (All2 ArgLe [vl 1 Ru32 p0, vl 1 Ru32 p1] [vl 1 Ru32 p0, vl 1 Ru32 p1]) ∧ ((false = true → flatB [])) ∧ (Con Try.prog 48 [vl 1 Ru32 p0, vl 1 Ru32 p1] [] (.tup [vl 1 Ru32 y12, vi64 y13]) []), True, True, True, True, True] (by kernel_rfl) (by kernel_rfl) ⟨tv, tv, ⟨⟨tv, tv, tv⟩, ⟨ArgLe.refl _, ArgLe.refl _, tv⟩, (fun h => by cases h), (rl_ref10_Sub_con p0 p1 y12 y13 e14)⟩, tv, tv, tv, tv, tv, tv⟩ ?_
   refine AW.tn ?_
   refine AW.seq ?_
   refine AW.seq ?_
   refine AW.join (ι := Bool) (fun v => ⟨[(0, vl 1 Ru32 p0), (1, vl 1 Ru32 p1), (61, vb v)], [], 0⟩) (fun v : Bool => rl_law10_both_k8 p0 p1 v = some r) (fun v h => ?_) ?_
   ·
    obtain ⟨x15, rfl⟩ : ∃ x, x = v := ⟨_, rfl⟩
    replace h : rl_law10_both_k8 p0 p1 x15 = some r := h
    unfold rl_law10_both_k8 at h
    show (_ : Exit → St → Prop) .normal ⟨[(0, vl 1 Ru32 p0), (1, vl 1 Ru32 p1), (61, vb x15)], [], 0⟩
    refine AW.tn ?_
    refine AW.cond (b := x15) (by kernel_rfl) (fun c16 => ?_) (fun c16 => ?_)
    ·rw [if_pos c16] at h
     refine AW.seq ?_
     refine AW.reg tt_ok2 [4] [] [] ⟨[(4, vb false)], [], 1⟩ [True] (by kernel_rfl) (by kernel_rfl) ⟨tv, tv⟩ ?_
     refine AW.tn ?_
     refine AW.ret ?_
     refine AW.tr ?_
     obtain rfl := some_inj h
     exact ⟨_, Conv.refl _ _, .inr rfl, OutOk.mk [] 0 (out0 := vb false) (ps := [True]) (by kernel_rfl) ⟨tv, tv⟩ (by kernel_rfl) (by kernel_rfl)⟩
    ·rw [if_neg (nb c16)] at h
     refine AW.skip ?_
     refine AW.tn ?_
     refine AW.seq ?_
     obtain ⟨y17, y18, e19, h⟩ := bind2_some h
     refine AW.reg tt_ok2 [0, 1, 5, 6] [] [{}, {}, { call := some { ids := [], frz := [], flat := false, cnt := 0, args := [vl 1 Ru32 p0, vl 1 Ru32 p1], out := .tup [vl 1 Ru32 y17, vi64 y18], outb := [] } }] ⟨[(6, vi64 y18), (5, vl 1 Ru32 y17), (0, vl 1 Ru32 p0), (1, vl 1 Ru32 p1)], [], 7⟩ [True, True, ((True) ∧ (True) ∧ (True)) ∧ (All2 ArgLe [vl 1 Ru32 p0, vl 1 Ru32 p1] [vl 1 Ru32 p0, vl 1 Ru32 p1]) ∧ ((false = true → flatB [])) ∧ (Con Try.prog 15 [vl 1 Ru32 p0, vl 1 Ru32 p1] [] (.tup [vl 1 Ru32 y17, vi64 y18]) []), True, True, True, True, True] (by kernel_rfl) (by kernel_rfl) ⟨tv, tv, ⟨⟨tv, tv, tv⟩, ⟨ArgLe.refl _, ArgLe.refl _, tv⟩, (fun h => by cases h), (natural_Mul_con p0 p1 y17 y18 e19)⟩, tv, tv, tv, tv, tv, tv⟩ ?_
     refine AW.tn ?_
     refine AW.seq ?_
     obtain ⟨y20, y21, e22, h⟩ := bind2_some h
     refine AW.reg tt_ok2 [0, 1, 5, 6, 7, 8] [] [{}, {}, { call := some { ids := [], frz := [], flat := false, cnt := 0, args := [vl 1 Ru32 p0, vl 1 Ru32 p1], out := .tup [vl 1 Ru32 y20, vi64 y21], outb := [] } }] ⟨[(8, vi64 y21), (7, vl 1 Ru32 y20), (6, vi64 y18), (5, vl 1 Ru32 y17), (0, vl 1 Ru32 p0), (1, vl 1 Ru32 p1)], [], 14⟩ [True, True, ((True) ∧ (True) ∧ (True)) ∧ (All2 ArgLe [vl 1 Ru32 p0, vl 1 Ru32 p1] [vl 1 Ru32 p0, vl 1 Ru32 p1]) ∧ ((false = true → flatB [])) ∧ (Con Try.prog 49 [vl 1 Ru32 p0, vl 1 Ru32 p1] [] (.tup [vl 1 Ru32 y20, vi64 y21]) []), True, True, True, True, True] (by kernel_rfl) (by kernel_rfl) ⟨tv, tv, ⟨⟨tv, tv, tv⟩, ⟨ArgLe.refl _, ArgLe.refl _, tv⟩, (fun h => by cases h), (rl_ref10_Mul_con p0 p1 y20 y21 e22)⟩, tv, tv, tv, tv, tv, tv⟩ ?_
     refine AW.tn ?_
     refine AW.seq ?_
     refine AW.seq ?_
     refine AW.join (ι := Bool) (fun v => ⟨[(0, vl 1 Ru32 p0), (1, vl 1 Ru32 p1), (82, vb v)], [], 0⟩) (fun v : Bool => rl_law10_both_k12 p0 p1 v = some r) (fun v h => ?_) ?_
     ·
      obtain ⟨x23, rfl⟩ : ∃ x, x = v := ⟨_, rfl⟩
      replace h : rl_law10_both_k12 p0 p1 x23 = some r := h
      unfold rl_law10_both_k12 at h
      show (_ : Exit → St → Prop) .normal ⟨[(0, vl 1 Ru32 p0), (1, vl 1 Ru32 p1), (82, vb x23)], [], 0⟩
      refine AW.tn ?_
      refine AW.cond (b := x23) (by kernel_rfl) (fun c24 => ?_) (fun c24 => ?_)
      ·rw [if_pos c24] at h
       refine AW.seq ?_
       refine AW.reg tt_ok2 [4] [] [] ⟨[(4, vb false)], [], 1⟩ [True] (by kernel_rfl) (by kernel_rfl) ⟨tv, tv⟩ ?_
       refine AW.tn ?_
       refine AW.ret ?_
       refine AW.tr ?_
       obtain rfl := some_inj h
       exact ⟨_, Conv.refl _ _, .inr rfl, OutOk.mk [] 0 (out0 := vb false) (ps := [True]) (by kernel_rfl) ⟨tv, tv⟩ (by kernel_rfl) (by kernel_rfl)⟩
      ·rw [if_neg (nb c24)] at h
       refine AW.skip ?_
       refine AW.tn ?_
       refine AW.seq ?_
       obtain ⟨y25, y26, y27, e28, h⟩ := bind3_some h
       refine AW.reg tt_ok2 [0, 1, 5, 6, 9] [] [{}, {}, { call := some { ids := [], frz := [], flat := false, cnt := 0, args := [vl 1 Ru32 p0, vl 1 Ru32 p1], out := .tup [vl 1 Ru32 y25, vl 1 Ru32 y26, vi64 y27], outb := [] } }] ⟨[(6, vi64 y27), (9, vl 1 Ru32 y26), (5, vl 1 Ru32 y25), (0, vl 1 Ru32 p0), (1, vl 1 Ru32 p1)], [], 9⟩ [True, True, ((True) ∧ (True) ∧ (True)) ∧ (All2 ArgLe [vl 1 Ru32 p0, vl 1 Ru32 p1] [vl 1 Ru32 p0, vl 1 Ru32 p1]) ∧ ((false = true → flatB [])) ∧ (Con Try.prog 19 [vl 1 Ru32 p0, vl 1 Ru32 p1] [] (.tup [vl 1 Ru32 y25, vl 1 Ru32 y26, vi64 y27]) []), True, True, True, True, True, True, True] (by kernel_rfl) (by kernel_rfl) ⟨tv, tv, ⟨⟨tv, tv, tv⟩, ⟨ArgLe.refl _, ArgLe.refl _, tv⟩, (fun h => by cases h), (natural_DivMod_con p0 p1 y25 y26 y27 e28)⟩, tv, tv, tv, tv, tv, tv, tv, tv⟩ ?_
       refine AW.tn ?_
       refine AW.seq ?_
       obtain ⟨y29, y30, y31, e32, h⟩ := bind3_some h
       refine AW.reg tt_ok2 [0, 1, 5, 6, 7, 8, 9, 10] [] [{}, {}, { call := some { ids := [], frz := [], flat := false, cnt := 0, args := [vl 1 Ru32 p0, vl 1 Ru32 p1], out := .tup [vl 1 Ru32 y29, vl 1 Ru32 y30, vi64 y31], outb := [] } }] ⟨[(8, vi64 y31), (10, vl 1 Ru32 y30), (7, vl 1 Ru32 y29), (6, vi64 y27), (9, vl 1 Ru32 y26), (5, vl 1 Ru32 y25), (0, vl 1 Ru32 p0), (1, vl 1 Ru32 p1)], [], 18⟩ [True, True, ((True) ∧ (True) ∧ (True)) ∧ (All2 ArgLe [vl 1 Ru32 p0, vl 1 Ru32 p1] [vl 1 Ru32 p0, vl 1 Ru32 p1]) ∧ ((false = true → flatB [])) ∧ (Con Try.prog 50 [vl 1 Ru32 p0, vl 1 Ru32 p1] [] (.tup [vl 1 Ru32 y29, vl 1 Ru32 y30, vi64 y31]) []), True, True, True, True, True, True, True] (by kernel_rfl) (by kernel_rfl) ⟨tv, tv, ⟨⟨tv, tv, tv⟩, ⟨ArgLe.refl _, ArgLe.refl _, tv⟩, (fun h => by cases h), (rl_ref10_DivMod_con p0 p1 y29 y30 y31 e32)⟩, tv, tv, tv, tv, tv, tv, tv, tv⟩ ?_
       refine AW.tn ?_
       refine AW.seq ?_
       refine AW.seq ?_
       refine AW.join (ι := Bool) (fun v => ⟨[(0, vl 1 Ru32 p0), (1, vl 1 Ru32 p1), (111, vb v)], [], 0⟩) (fun v : Bool => rl_law10_both_k16 p0 p1 v = some r) (fun v h => ?_) ?_
       ·
        obtain ⟨x33, rfl⟩ : ∃ x, x = v := ⟨_, rfl⟩
        replace h : rl_law10_both_k16 p0 p1 x33 = some r := h
        unfold rl_law10_both_k16 at h
        show (_ : Exit → St → Prop) .normal ⟨[(0, vl 1 Ru32 p0), (1, vl 1 Ru32 p1), (111, vb x33)], [], 0⟩
        refine AW.tn ?_
        refine AW.cond (b := x33) (by kernel_rfl) (fun c34 => ?_) (fun c34 => ?_)
        ·rw [if_pos c34] at h
         refine AW.seq ?_
         refine AW.reg tt_ok2 [4] [] [] ⟨[(4, vb false)], [], 1⟩ [True] (by kernel_rfl) (by kernel_rfl) ⟨tv, tv⟩ ?_
         refine AW.tn ?_
         refine AW.ret ?_
         refine AW.tr ?_
         obtain rfl := some_inj h
         exact ⟨_, Conv.refl _ _, .inr rfl, OutOk.mk [] 0 (out0 := vb false) (ps := [True]) (by kernel_rfl) ⟨tv, tv⟩ (by kernel_rfl) (by kernel_rfl)⟩
        ·rw [if_neg (nb c34)] at h
         refine AW.skip ?_
         refine AW.tn ?_
         refine AW.seq ?_
         refine AW.seq ?_
         refine AW.reg tt_ok2 [0, 1, 117] [] [] ⟨[(117, vb (decide ((i64.wrap (((p0.length : Nat) : Int) + ((p1.length : Nat) : Int))) > 30))), (0, vl 1 Ru32 p0), (1, vl 1 Ru32 p1)], [], 6⟩ [True, True, True, True, True, True] (by kernel_rfl) (by kernel_rfl) ⟨tv, tv, tv, tv, tv, tv, tv⟩ ?_
         refine AW.tn ?_
         refine AW.cond (b := decide ((i64.wrap (((p0.length : Nat) : Int) + ((p1.length : Nat) : Int))) > 30)) (by kernel_rfl) (fun c35 => ?_) (fun c35 => ?_)
         ·rw [if_pos c35] at h
          refine AW.seq ?_
          refine AW.reg tt_ok2 [4] [] [] ⟨[(4, vb true)], [], 7⟩ [True] (by kernel_rfl) (by kernel_rfl) ⟨tv, tv⟩ ?_
          refine AW.tn ?_
          refine AW.ret ?_
          refine AW.tr ?_
          obtain rfl := some_inj h
          exact ⟨_, Conv.refl _ _, .inr rfl, OutOk.mk [] 0 (out0 := vb true) (ps := [True]) (by kernel_rfl) ⟨tv, tv⟩ (by kernel_rfl) (by kernel_rfl)⟩
         ·rw [if_neg (nb c35)] at h
          refine AW.skip ?_
          refine AW.tn ?_
          refine AW.seq ?_
          obtain ⟨y36, y37, e38, h⟩ := bind2_some h
          refine AW.reg tt_ok2 [0, 1, 5, 6] [8] [{}, {}, { call := some { ids := [], frz := [], flat := true, cnt := 1, args := [vl 1 Ru32 p0, vl 1 Ru32 p1], out := .tup [.c (.ref 0 1 0 y36.length), vi64 y37], outb := [(0, .row 37 false 1 y36.length (Ru32 y36))] } }] ⟨[(6, vi64 y37), (5, .c (.ref 8 1 0 y36.length)), (0, vl 1 Ru32 p0), (1, vl 1 Ru32 p1)], [(8, .row 37 false 1 y36.length (Ru32 y36))], 14⟩ [True, True, ((True) ∧ (True) ∧ (True)) ∧ (All2 ArgLe [vl 1 Ru32 p0, vl 1 Ru32 p1] [vl 1 Ru32 p0, vl 1 Ru32 p1]) ∧ ((true = true → flatB [(0, .row 37 false 1 y36.length (Ru32 y36))])) ∧ (Con Try.prog 18 [vl 1 Ru32 p0, vl 1 Ru32 p1] [] (.tup [.c (.ref 0 1 0 y36.length), vi64 y37]) [(0, .row 37 false 1 y36.length (Ru32 y36))]), True, True, True, True, True] (by kernel_rfl) (by kernel_rfl) ⟨tv, tv, ⟨⟨tv, tv, tv⟩, ⟨ArgLe.refl _, ArgLe.refl _, tv⟩, (fun _ => ⟨rowL_flat Vu32 _ _ _, tv⟩), (natural_GCD_con p0 p1 y36 y37 e38)⟩, tv, tv, tv, tv, tv, tv⟩ ?_
          refine AW.tn ?_
          refine AW.seq ?_
          obtain ⟨y39, y40, e41, h⟩ := bind2_some h
          refine AW.reg tt_ok2 [5, 6, 7, 8] [8] [{}, {}, { call := some { ids := [], frz := [], flat := false, cnt := 0, args := [vl 1 Ru32 p0, vl 1 Ru32 p1], out := .tup [vl 1 Ru32 y39, vi64 y40], outb := [] } }] ⟨[(8, vi64 y40), (7, vl 1 Ru32 y39), (6, vi64 y37), (5, .c (.ref 8 1 0 y36.length))], [(8, .row 37 false 1 y36.length (Ru32 y36))], 21⟩ [True, True, ((True) ∧ (True) ∧ (True)) ∧ (All2 ArgLe [vl 1 Ru32 p0, vl 1 Ru32 p1] [vl 1 Ru32 p0, vl 1 Ru32 p1]) ∧ ((false = true → flatB [])) ∧ (Con Try.prog 51 [vl 1 Ru32 p0, vl 1 Ru32 p1] [] (.tup [vl 1 Ru32 y39, vi64 y40]) []), True, True, True, True, True] (by kernel_rfl) (by kernel_rfl) ⟨tv, tv, ⟨⟨tv, tv, tv⟩, ⟨ArgLe.refl _, ArgLe.refl _, tv⟩, (fun h => by cases h), (rl_ref10_GCD_con p0 p1 y39 y40 e41)⟩, tv, tv, tv, tv, tv, tv⟩ ?_
          refine AW.tn ?_
          refine AW.seq ?_
          refine AW.join (ι := Bool) (fun v => ⟨[(4, vb v)], [], 0⟩) (fun v : Bool => rl_law10_both_k18 v = some r) (fun v h => ?_) ?_
          ·
           obtain ⟨x42, rfl⟩ : ∃ x, x = v := ⟨_, rfl⟩
           replace h : rl_law10_both_k18 x42 = some r := h
           unfold rl_law10_both_k18 at h
           show (_ : Exit → St → Prop) .normal ⟨[(4, vb x42)], [], 0⟩
           refine AW.tn ?_
           refine AW.ret ?_
           obtain rfl := some_inj h
           exact ⟨_, Conv.refl _ _, .inr rfl, OutOk.mk [] 0 (out0 := vb x42) (ps := [True]) (by kernel_rfl) ⟨tv, tv⟩ (by kernel_rfl) (by kernel_rfl)⟩
          ·
           by_cases c43 : (y37 == y40) = true
           ·rw [if_pos c43] at h
            obtain ⟨y44, e45, h⟩ := bnd_some h
            refine AW.reg tt_ok2 [4] [] [{}, {}, { h := { b := some true } }, {}, {}, {}, { call := some { ids := [], frz := [], flat := true, cnt := 0, args := [vl 1 Ru32 y36, vl 1 Ru32 y39], out := vb y44, outb := [] } }] ⟨[(4, vb y44)], [], 29⟩ [True, True, (y37 == y40) = true, True, True, True, ((0 + y36.length ≤ y36.length) ∧ (True) ∧ (True)) ∧ (All2 ArgLe [vl 1 Ru32 y36, vl 1 Ru32 y39] [vl 1 Ru32 y36, vl 1 Ru32 y39]) ∧ ((true = true → flatB [])) ∧ (Con Try.prog 16 [vl 1 Ru32 y36, vl 1 Ru32 y39] [] (vb y44) []), True, True] (by kernel_rfl) (by kernel_rfl) ⟨tv, tv, c43, tv, tv, tv, ⟨⟨le0, tv, tv⟩, ⟨ArgLe.refl _, ArgLe.refl _, tv⟩, (fun _ => tv), (rl_ref10_Same_con y36 y39 y44 e45)⟩, tv, tv, tv⟩ ?_
            exact joinQ_leaf (y44) h (conv_ren [] [4] (n := 0) (by kernel_rfl) (by kernel_rfl))
           ·rw [if_neg c43] at h
            refine AW.reg tt_ok2 [4] [] [{}, {}, { h := { b := some false } }] ⟨[(4, vb false)], [], 30⟩ [True, True, (y37 == y40) = false, True, True, True, True, True, True] (by kernel_rfl) (by kernel_rfl) ⟨tv, tv, (off_false c43), tv, tv, tv, tv, tv, tv, tv⟩ ?_
            exact joinQ_leaf (false) h (conv_ren [] [4] (n := 0) (by kernel_rfl) (by kernel_rfl))
       ·
        by_cases c46 : (y27 != y31) = true
        ·rw [if_pos c46] at h
         refine AW.reg tt_ok2 [0, 1, 111] [] [{}, {}, { h := { b := some true } }] ⟨[(111, vb true), (0, vl 1 Ru32 p0), (1, vl 1 Ru32 p1)], [], 33⟩ [True, True, (y27 != y31) = true, True, True, True, True, True, True, True, True, True, True, True, True] (by kernel_rfl) (by kernel_rfl) ⟨tv, tv, c46, tv, tv, tv, tv, tv, tv, tv, tv, tv, tv, tv, tv, tv⟩ ?_
         exact joinQ_leaf (true) h (conv_ren [] [0, 1, 111] (n := 0) (by kernel_rfl) (by kernel_rfl))
        ·rw [if_neg c46] at h
         obtain ⟨y47, e48, h⟩ := bnd_some h
         by_cases c49 : (!y47) = true
         ·rw [if_pos c49] at h
          refine AW.reg tt_ok2 [0, 1, 111] [] [{}, {}, { h := { b := some false } }, {}, {}, {}, { call := some { ids := [], frz := [], flat := true, cnt := 0, args := [vl 1 Ru32 y25, vl 1 Ru32 y29], out := vb y47, outb := [] } }, { h := { b := some true } }] ⟨[(111, vb true), (0, vl 1 Ru32 p0), (1, vl 1 Ru32 p1)], [], 32⟩ [True, True, (y27 != y31) = false, True, True, True, ((True) ∧ (True) ∧ (True)) ∧ (All2 ArgLe [vl 1 Ru32 y25, vl 1 Ru32 y29] [vl 1 Ru32 y25, vl 1 Ru32 y29]) ∧ ((true = true → flatB [])) ∧ (Con Try.prog 16 [vl 1 Ru32 y25, vl 1 Ru32 y29] [] (vb y47) []), (!y47) = true, True, True, True, True, True, True, True] (by kernel_rfl) (by kernel_rfl) ⟨tv, tv, (off_false c46), tv, tv, tv, ⟨⟨tv, tv, tv⟩, ⟨ArgLe.refl _, ArgLe.refl _, tv⟩, (fun _ => tv), (rl_ref10_Same_con y25 y29 y47 e48)⟩, c49, tv, tv, tv, tv, tv, tv, tv, tv⟩ ?_
          exact joinQ_leaf (true) h (conv_ren [] [0, 1, 111] (n := 0) (by kernel_rfl) (by kernel_rfl))
         ·rw [if_neg c49] at h
          obtain ⟨y50, e51, h⟩ := bnd_some h
          refine AW.reg tt_ok2 [0, 1, 111] [] [{}, {}, { h := { b := some false } }, {}, {}, {}, { call := some { ids := [], frz := [], flat := true, cnt := 0, args := [vl 1 Ru32 y25, vl 1 Ru32 y29], out := vb y47, outb := [] } }, { h := { b := some false } }, {}, {}, {}, {}, { call := some { ids := [], frz := [], flat := true, cnt := 0, args := [vl 1 Ru32 y26, vl 1 Ru32 y30], out := vb y50, outb := [] } }] ⟨[(111, vb (!y50)), (0, vl 1 Ru32 p0), (1, vl 1 Ru32 p1)], [], 31⟩ [True, True, (y27 != y31) = false, True, True, True, ((True) ∧ (True) ∧ (True)) ∧ (All2 ArgLe [vl 1 Ru32 y25, vl 1 Ru32 y29] [vl 1 Ru32 y25, vl 1 Ru32 y29]) ∧ ((true = true → flatB [])) ∧ (Con Try.prog 16 [vl 1 Ru32 y25, vl 1 Ru32 y29] [] (vb y47) []), (!y47) = false, True, True, True, True, ((True) ∧ (True) ∧ (True)) ∧ (All2 ArgLe [vl 1 Ru32 y26, vl 1 Ru32 y30] [vl 1 Ru32 y26, vl 1 Ru32 y30]) ∧ ((true = true → flatB [])) ∧ (Con Try.prog 16 [vl 1 Ru32 y26, vl 1 Ru32 y30] [] (vb y50) []), True, True] (by kernel_rfl) (by kernel_rfl) ⟨tv, tv, (off_false c46), tv, tv, tv, ⟨⟨tv, tv, tv⟩, ⟨ArgLe.refl _, ArgLe.refl _, tv⟩, (fun _ => tv), (rl_ref10_Same_con y25 y29 y47 e48)⟩, (off_false c49), tv, tv, tv, tv, ⟨⟨tv, tv, tv⟩, ⟨ArgLe.refl _, ArgLe.refl _, tv⟩, (fun _ => tv), (rl_ref10_Same_con y26 y30 y50 e51)⟩, tv, tv, tv⟩ ?_
          exact joinQ_leaf (!y50) h (conv_ren [] [0, 1, 111] (n := 0) (by kernel_rfl) (by kernel_rfl))
     ·
      by_cases c52 : (y18 != y21) = true
      ·rw [if_pos c52] at h
       refine AW.reg tt_ok2 [0, 1, 82] [] [{}, {}, { h := { b := some true } }] ⟨[(82, vb true), (0, vl 1 Ru32 p0), (1, vl 1 Ru32 p1)], [], 23⟩ [True, True, (y18 != y21) = true, True, True, True, True, True, True] (by kernel_rfl) (by kernel_rfl) ⟨tv, tv, c52, tv, tv, tv, tv, tv, tv, tv⟩ ?_
       exact joinQ_leaf (true) h (conv_ren [] [0, 1, 82] (n := 0) (by kernel_rfl) (by kernel_rfl))
      ·rw [if_neg c52] at h
       obtain ⟨y53, e54, h⟩ := bnd_some h
       refine AW.reg tt_ok2 [0, 1, 82] [] [{}, {}, { h := { b := some false } }, {}, {}, {}, { call := some { ids := [], frz := [], flat := true, cnt := 0, args := [vl 1 Ru32 y17, vl 1 Ru32 y20], out := vb y53, outb := [] } }] ⟨[(82, vb (!y53)), (0, vl 1 Ru32 p0), (1, vl 1 Ru32 p1)], [], 22⟩ [True, True, (y18 != y21) = false, True, True, True, ((True) ∧ (True) ∧ (True)) ∧ (All2 ArgLe [vl 1 Ru32 y17, vl 1 Ru32 y20] [vl 1 Ru32 y17, vl 1 Ru32 y20]) ∧ ((true = true → flatB [])) ∧ (Con Try.prog 16 [vl 1 Ru32 y17, vl 1 Ru32 y20] [] (vb y53) []), True, True] (by kernel_rfl) (by kernel_rfl) ⟨tv, tv, (off_false c52), tv, tv, tv, ⟨⟨tv, tv, tv⟩, ⟨ArgLe.refl _, ArgLe.refl _, tv⟩, (fun _ => tv), (rl_ref10_Same_con y17 y20 y53 e54)⟩, tv, tv, tv⟩ ?_
       exact joinQ_leaf (!y53) h (conv_ren [] [0, 1, 82] (n := 0) (by kernel_rfl) (by kernel_rfl))
   ·
    by_cases c55 : (y10 != y13) = true
    ·rw [if_pos c55] at h
     refine AW.reg tt_ok2 [0, 1, 61] [] [{}, {}, { h := { b := some true } }] ⟨[(61, vb true), (0, vl 1 Ru32 p0), (1, vl 1 Ru32 p1)], [], 23⟩ [True, True, (y10 != y13) = true, True, True, True, True, True, True] (by kernel_rfl) (by kernel_rfl) ⟨tv, tv, c55, tv, tv, tv, tv, tv, tv, tv⟩ ?_
     exact joinQ_leaf (true) h (conv_ren [] [0, 1, 61] (n := 0) (by kernel_rfl) (by kernel_rfl))
    ·rw [if_neg c55] at h
     obtain ⟨y56, e57, h⟩ := bnd_some h
     refine AW.reg tt_ok2 [0, 1, 61] [] [{}, {}, { h := { b := some false } }, {}, {}, {}, { call := some { ids := [], frz := [], flat := true, cnt := 0, args := [vl 1 Ru32 y9, vl 1 Ru32 y12], out := vb y56, outb := [] } }] ⟨[(61, vb (!y56)), (0, vl 1 Ru32 p0), (1, vl 1 Ru32 p1)], [], 22⟩ [True, True, (y10 != y13) = false, True, True, True, ((True) ∧ (True) ∧ (True)) ∧ (All2 ArgLe [vl 1 Ru32 y9, vl 1 Ru32 y12] [vl 1 Ru32 y9, vl 1 Ru32 y12]) ∧ ((true = true → flatB [])) ∧ (Con Try.prog 16 [vl 1 Ru32 y9, vl 1 Ru32 y12] [] (vb y56) []), True, True] (by kernel_rfl) (by kernel_rfl) ⟨tv, tv, (off_false c55), tv, tv, tv, ⟨⟨tv, tv, tv⟩, ⟨ArgLe.refl _, ArgLe.refl _, tv⟩, (fun _ => tv), (rl_ref10_Same_con y9 y12 y56 e57)⟩, tv, tv, tv⟩ ?_
     exact joinQ_leaf (!y56) h (conv_ren [] [0, 1, 61] (n := 0) (by kernel_rfl) (by kernel_rfl))
 ·
  by_cases c58 : (y2 != y5) = true
  ·rw [if_pos c58] at h
   refine AW.reg tt_ok2 [0, 1, 40] [] [{}, {}, { h := { b := some true } }] ⟨[(40, vb true), (0, vl 1 Ru32 p0), (1, vl 1 Ru32 p1)], [], 33⟩ [True, True, (y2 != y5) = true, True, True, True, True, True, True, True, True, True, True, True, True, True, True, True] (by kernel_rfl) (by kernel_rfl) ⟨tv, tv, c58, tv, tv, tv, tv, tv, tv, tv, tv, tv, tv, tv, tv, tv, tv, tv, tv⟩ ?_
   exact joinQ_leaf (true) h (conv_ren [] [0, 1, 40] (n := 0) (by kernel_rfl) (by kernel_rfl))
  ·rw [if_neg c58] at h
   obtain ⟨y59, e60, h⟩ := bnd_some h
   by_cases c61 : (!y59) = true
   ·rw [if_pos c61] at h
    refine AW.reg tt_ok2 [0, 1, 40] [] [{}, {}, { h := { b := some false } }, {}, {}, {}, { call := some { ids := [], frz := [], flat := true, cnt := 0, args := [vl 1 Ru32 y1, vl 1 Ru32 y4], out := vb y59, outb := [] } }, { h := { b := some true } }] ⟨[(40, vb true), (0, vl 1 Ru32 p0), (1, vl 1 Ru32 p1)], [], 32⟩ [True, True, (y2 != y5) = false, True, True, True, ((True) ∧ (True) ∧ (True)) ∧ (All2 ArgLe [vl 1 Ru32 y1, vl 1 Ru32 y4] [vl 1 Ru32 y1, vl 1 Ru32 y4]) ∧ ((true = true → flatB [])) ∧ (Con Try.prog 16 [vl 1 Ru32 y1, vl 1 Ru32 y4] [] (vb y59) []), (!y59) = true, True, True, True, True, True, True, True, True, True, True] (by kernel_rfl) (by kernel_rfl) ⟨tv, tv, (off_false c58), tv, tv, tv, ⟨⟨tv, tv, tv⟩, ⟨ArgLe.refl _, ArgLe.refl _, tv⟩, (fun _ => tv), (rl_ref10_Same_con y1 y4 y59 e60)⟩, c61, tv, tv, tv, tv, tv, tv, tv, tv, tv, tv, tv⟩ ?_
    exact joinQ_leaf (true) h (conv_ren [] [0, 1, 40] (n := 0) (by kernel_rfl) (by kernel_rfl))
   ·rw [if_neg c61] at h
    obtain ⟨y62, e63, h⟩ := bnd_some h
    obtain ⟨y64, e65, h⟩ := bnd_some h
    refine AW.reg tt_ok2 [0, 1, 40] [] [{}, {}, { h := { b := some false } }, {}, {}, {}, { call := some { ids := [], frz := [], flat := true, cnt := 0, args := [vl 1 Ru32 y1, vl 1 Ru32 y4], out := vb y59, outb := [] } }, { h := { b := some false } }, {}, {}, {}, {}, { call := some { ids := [], frz := [], flat := true, cnt := 0, args := [vl 1 Ru32 p0, vl 1 Ru32 p1], out := vi64 y62, outb := [] } }, {}, {}, { call := some { ids := [], frz := [], flat := true, cnt := 0, args := [vl 1 Ru32 p0, vl 1 Ru32 p1], out := vi64 y64, outb := [] } }] ⟨[(40, vb (y62 != y64)), (0, vl 1 Ru32 p0), (1, vl 1 Ru32 p1)], [], 30⟩ [True, True, (y2 != y5) = false, True, True, True, ((True) ∧ (True) ∧ (True)) ∧ (All2 ArgLe [vl 1 Ru32 y1, vl 1 Ru32 y4] [vl 1 Ru32 y1, vl 1 Ru32 y4]) ∧ ((true = true → flatB [])) ∧ (Con Try.prog 16 [vl 1 Ru32 y1, vl 1 Ru32 y4] [] (vb y59) []), (!y59) = false, True, True, True, True, ((True) ∧ (True) ∧ (True)) ∧ (All2 ArgLe [vl 1 Ru32 p0, vl 1 Ru32 p1] [vl 1 Ru32 p0, vl 1 Ru32 p1]) ∧ ((true = true → flatB [])) ∧ (Con Try.prog 22 [vl 1 Ru32 p0, vl 1 Ru32 p1] [] (vi64 y62) []), True, True, ((True) ∧ (True) ∧ (True)) ∧ (All2 ArgLe [vl 1 Ru32 p0, vl 1 Ru32 p1] [vl 1 Ru32 p0, vl 1 Ru32 p1]) ∧ ((true = true → flatB [])) ∧ (Con Try.prog 47 [vl 1 Ru32 p0, vl 1 Ru32 p1] [] (vi64 y64) []), True, True] (by kernel_rfl) (by kernel_rfl) ⟨tv, tv, (off_false c58), tv, tv, tv, ⟨⟨tv, tv, tv⟩, ⟨ArgLe.refl _, ArgLe.refl _, tv⟩, (fun _ => tv), (rl_ref10_Same_con y1 y4 y59 e60)⟩, (off_false c61), tv, tv, tv, tv, ⟨⟨tv, tv, tv⟩, ⟨ArgLe.refl _, ArgLe.refl _, tv⟩, (fun _ => tv), (natural_Compare_con p0 p1 y62 e63)⟩, tv, tv, ⟨⟨tv, tv, tv⟩, ⟨ArgLe.refl _, ArgLe.refl _, tv⟩, (fun _ => tv), (rl_ref10_Compare_con p0 p1 y64 e65)⟩, tv, tv, tv⟩ ?_
    exact joinQ_leaf ((y62 != y64)) h (conv_ren [] [0, 1, 40] (n := 0) (by kernel_rfl) (by kernel_rfl))
/-! recordlink/recordlinkref10.Int -/
noncomputable def rl_ref10_Int_l6 (p0 : List Int) (x5 : Int) (x6 : Int) : Option ((Int × Int) ⊕ Int) := if (decide (x6 ≥ 0)) = true then (if 0 ≤ x6 then (if x6 < ((p0.length : Nat) : Int) then ((some (ior .i64 (ishl .i64 x5 32) (i64.wrap (p0.getD x6.toNat 0)))).bind fun z11 => (some (.inl (z11, i64.wrap (x6 - 1))))) else none) else none) else (some (.inr x5))
noncomputable def rl_ref10_Int_k4 (p0 : List Int) (x1 : Bool) : Option (Int × Bool) := if x1 = true then (some (0, false)) else ((loop (fun v : Int × Int => rl_ref10_Int_l6 p0 v.1 v.2) (0, i64.wrap (((p0.length : Nat) : Int) - 1))).bind fun x13 => (some (x13, true)))
noncomputable def rl_ref10_Int (p0 : List Int) : Option (Int × Bool) := (rl_ref10_Valid p0).bind fun y15 => (if (!y15) = true then (rl_ref10_Int_k4 p0 true) else (if (decide (((p0.length : Nat) : Int) > 2)) = true then (rl_ref10_Int_k4 p0 true) else (if (((p0.length : Nat) : Int) == 2) = true then (if (1 : Int) < ((p0.length : Nat) : Int) then (rl_ref10_Int_k4 p0 (decide ((p0.getD 1 0) ≥ 2147483648))) else none) else (rl_ref10_Int_k4 p0 false))))
set_option maxRecDepth 100000 in
set_option maxHeartbeats 10000000 in
theorem rl_ref10_Int_con (p0 : List Int) (r0 : Int) (r1 : Bool) (h : rl_ref10_Int p0 = some (r0, r1)) : Con Try.prog 29 [vl 1 Ru32 p0] [] (.tup [vi64 r0, vb r1]) [] := by
 suffices H : ∀ r, rl_ref10_Int p0 = some r → Con Try.prog 29 [vl 1 Ru32 p0] [] (.tup [vi64 r.1, vb r.2]) [] from H (r0, r1) h
 clear h
 intro r h
 refine con_of tt_ok2 0 Try.func29 (by kernel_rfl) rfl (by kernel_rfl) (fun base X hk => AW.post ?_)
 unfold rl_ref10_Int at h
 refine AW.seq ?_
 refine AW.reg tt_ok2 [0] [] [] ⟨[(0, vl 1 Ru32 p0)], [], 2⟩ [True, True] (by kernel_rfl) (by kernel_rfl) ⟨tv, tv, tv⟩ ?_
 refine AW.tn ?_
 refine AW.seq ?_
 refine AW.seq ?_
 refine AW.join (ι := Bool) (fun v => ⟨[(0, vl 1 Ru32 p0), (24, vb v)], [], 0⟩) (fun v : Bool => rl_ref10_Int_k4 p0 v = some r) (fun v h => ?_) ?_
 ·
  obtain ⟨x1, rfl⟩ : ∃ x, x = v := ⟨_, rfl⟩
  replace h : rl_ref10_Int_k4 p0 x1 = some r := h
  unfold rl_ref10_Int_k4 at h
  show (_ : Exit → St → Prop) .normal ⟨[(0, vl 1 Ru32 p0), (24, vb x1)], [], 0⟩
  refine AW.tn ?_
  refine AW.cond (b := x1) (by kernel_rfl) (fun c2 => ?_) (fun c2 => ?_)
  ·rw [if_pos c2] at h
   refine AW.seq ?_
   refine AW.reg tt_ok2 [2, 3] [] [] ⟨[(3, vb false), (2, vi64 0)], [], 2⟩ [True, True] (by kernel_rfl) (by kernel_rfl) ⟨tv, tv, tv⟩ ?_
   refine AW.tn ?_
   refine AW.ret ?_
   refine AW.tr ?_
   obtain rfl := some_inj h
   exact ⟨_, Conv.refl _ _, .inr rfl, OutOk.mk [] 0 (out0 := .tup [vi64 0, vb false]) (ps := [True, True]) (by kernel_rfl) ⟨tv, tv, tv⟩ (by kernel_rfl) (by kernel_rfl)⟩
  ·rw [if_neg (nb c2)] at h
   refine AW.skip ?_
   refine AW.tn ?_
   refine AW.seq ?_
   refine AW.reg tt_ok2 [0, 4] [] [] ⟨[(4, vi64 0), (0, vl 1 Ru32 p0)], [], 1⟩ [True] (by kernel_rfl) (by kernel_rfl) ⟨tv, tv⟩ ?_
   refine AW.tn ?_
   refine AW.seq ?_
   refine AW.seq ?_
   refine AW.reg tt_ok2 [0, 4, 5] [] [] ⟨[(5, vi64 (i64.wrap (((p0.length : Nat) : Int) - 1))), (4, vi64 0), (0, vl 1 Ru32 p0)], [], 5⟩ [True, True, True, True] (by kernel_rfl) (by kernel_rfl) ⟨tv, tv, tv, tv, tv⟩ ?_
   refine AW.tn ?_
   refine AW.block ?_
   obtain ⟨x13, l14, h⟩ := bnd_some h
   refine AW.pre (S' := ((fun v => ⟨[(0, vl 1 Ru32 p0), (4, vi64 v.1), (5, vi64 v.2)], [], 0⟩) : (Int × Int) → St) (0, i64.wrap (((p0.length : Nat) : Int) - 1))) (conv_ren [] [0, 4, 5] (n := 0) (by kernel_rfl) (by kernel_rfl)) ?_
   refine AW.loop2 (step := (fun v : Int × Int => rl_ref10_Int_l6 p0 v.1 v.2)) (s0 := (0, i64.wrap (((p0.length : Nat) : Int) - 1))) (t := x13) (fun v => ⟨[(0, vl 1 Ru32 p0), (4, vi64 v.1), (5, vi64 v.2)], [], 0⟩) (fun t : Int => (.exit 0, ⟨[(4, vi64 t)], [], 0⟩)) l14 (fun _ => tv) ?_ ?_
   ·
    intro v o h
    obtain ⟨x5, x6⟩ := v
    replace h : rl_ref10_Int_l6 p0 x5 x6 = some o := h
    unfold rl_ref10_Int_l6 at h
    show AW _ ⟨[(0, vl 1 Ru32 p0), (4, vi64 x5), (5, vi64 x6)], [], 0⟩ _ _
    refine AW.seq ?_
    refine AW.seq ?_
    refine AW.reg tt_ok2 [0, 4, 5, 29] [] [] ⟨[(29, vb (decide (x6 ≥ 0))), (0, vl 1 Ru32 p0), (4, vi64 x5), (5, vi64 x6)], [], 2⟩ [True, True] (by kernel_rfl) (by kernel_rfl) ⟨tv, tv, tv⟩ ?_
    refine AW.tn ?_
    refine AW.cond (b := decide (x6 ≥ 0)) (by kernel_rfl) (fun c8 => ?_) (fun c8 => ?_)
    ·rw [if_pos c8] at h
     refine AW.skip ?_
     refine AW.tn ?_
     refine AW.seq ?_
     refine AW.block ?_
     obtain ⟨g9, h⟩ := ifc h
     obtain ⟨g10, h⟩ := ifc h
     obtain ⟨z11, n12, h⟩ := bnd_some h
     replace n12 := some_inj n12
     refine AW.reg tt_ok2 [0, 4, 5] [] [] ⟨[(4, vi64 (ior .i64 (ishl .i64 x5 32) (i64.wrap (p0.getD x6.toNat 0)))), (0, vl 1 Ru32 p0), (5, vi64 x6)], [], 11⟩ [True, 0 ≤ (32 : Int), True, True, (0 ≤ x6) ∧ (x6 < ((p0.length : Nat) : Int)), True, True, True, True] (by kernel_rfl) (by kernel_rfl) ⟨tv, (by decide), tv, tv, ⟨g9, g10⟩, tv, tv, tv, tv, tv⟩ ?_
     refine eq_Q (S' := ⟨[(4, vi64 z11), (0, vl 1 Ru32 p0), (5, vi64 x6)], [], 11⟩) (by rw [n12]) ?_
     refine AW.inBlock_normal ?_
     refine AW.tn ?_
     refine AW.reg tt_ok2 [0, 4, 5] [] [] ⟨[(5, vi64 (i64.wrap (x6 - 1))), (4, vi64 z11), (0, vl 1 Ru32 p0)], [], 14⟩ [True, True, True] (by kernel_rfl) (by kernel_rfl) ⟨tv, tv, tv, tv⟩ ?_
     obtain rfl := some_inj h
     refine loopQ_next (conv_ren [] [0, 4, 5] (n := 0) (by kernel_rfl) (by kernel_rfl))
    ·rw [if_neg (nb c8)] at h
     refine AW.exit ?_
     refine AW.thenQ_exit ?_
     obtain rfl := some_inj h
     refine loopQ_out rfl (conv_ren [] [4] (n := 0) (by kernel_rfl) (by kernel_rfl))
   ·
    show (_ : Exit → St → Prop) (.exit 0) ⟨[(4, vi64 x13)], [], 0⟩
    refine AW.inBlock_hit ?_
    refine AW.tn ?_
    refine AW.seq ?_
    refine AW.reg tt_ok2 [2, 3] [] [] ⟨[(3, vb true), (2, vi64 x13)], [], 3⟩ [True, True, True] (by kernel_rfl) (by kernel_rfl) ⟨tv, tv, tv, tv⟩ ?_
    refine AW.tn ?_
    refine AW.ret ?_
    obtain rfl := some_inj h
    exact ⟨_, Conv.refl _ _, .inr rfl, OutOk.mk [] 0 (out0 := .tup [vi64 x13, vb true]) (ps := [True, True]) (by kernel_rfl) ⟨tv, tv, tv⟩ (by kernel_rfl) (by kernel_rfl)⟩
 ·
  obtain ⟨y15, e16, h⟩ := bnd_some h
  by_cases c17 : (!y15) = true
  ·rw [if_pos c17] at h
   refine AW.reg tt_ok2 [0, 24] [] [{}, { call := some { ids := [], frz := [], flat := true, cnt := 0, args := [vl 1 Ru32 p0], out := vb y15, outb := [] } }, { h := { b := some true } }] ⟨[(24, vb true), (0, vl 1 Ru32 p0)], [], 20⟩ [True, ((True) ∧ (True)) ∧ (All2 ArgLe [vl 1 Ru32 p0] [vl 1 Ru32 p0]) ∧ ((true = true → flatB [])) ∧ (Con Try.prog 31 [vl 1 Ru32 p0] [] (vb y15) []), (!y15) = true, True, True, True, True, True, True, True, True, True, True, True, True, True, True, True, True] (by kernel_rfl) (by kernel_rfl) ⟨tv, ⟨⟨tv, tv⟩, ⟨ArgLe.refl _, tv⟩, (fun _ => tv), (rl_ref10_Valid_con p0 y15 e16)⟩, c17, tv, tv, tv, tv, tv, tv, tv, tv, tv, tv, tv, tv, tv, tv, tv, tv, tv⟩ ?_
   exact joinQ_leaf (true) h (conv_ren [] [0, 24] (n := 0) (by kernel_rfl) (by kernel_rfl))
  ·rw [if_neg c17] at h
   by_cases c18 : (decide (((p0.length : Nat) : Int) > 2)) = true
   ·rw [if_pos c18] at h
    refine AW.reg tt_ok2 [0, 24] [] [{}, { call := some { ids := [], frz := [], flat := true, cnt := 0, args := [vl 1 Ru32 p0], out := vb y15, outb := [] } }, { h := { b := some false } }, {}, {}, {}, { h := { b := some true } }] ⟨[(24, vb true), (0, vl 1 Ru32 p0)], [], 20⟩ [True, ((True) ∧ (True)) ∧ (All2 ArgLe [vl 1 Ru32 p0] [vl 1 Ru32 p0]) ∧ ((true = true → flatB [])) ∧ (Con Try.prog 31 [vl 1 Ru32 p0] [] (vb y15) []), (!y15) = false, True, True, True, (decide (((p0.length : Nat) : Int) > 2)) = true, True, True, True, True, True, True, True, True, True, True, True, True] (by kernel_rfl) (by kernel_rfl) ⟨tv, ⟨⟨tv, tv⟩, ⟨ArgLe.refl _, tv⟩, (fun _ => tv), (rl_ref10_Valid_con p0 y15 e16)⟩, (off_false c17), tv, tv, tv, c18, tv, tv, tv, tv, tv, tv, tv, tv, tv, tv, tv, tv, tv⟩ ?_
    exact joinQ_leaf (true) h (conv_ren [] [0, 24] (n := 0) (by kernel_rfl) (by kernel_rfl))
   ·rw [if_neg c18] at h
    by_cases c19 : (((p0.length : Nat) : Int) == 2) = true
    ·rw [if_pos c19] at h
     obtain ⟨g20, h⟩ := ifc h
     refine AW.reg tt_ok2 [0, 24] [] [{}, { call := some { ids := [], frz := [], flat := true, cnt := 0, args := [vl 1 Ru32 p0], out := vb y15, outb := [] } }, { h := { b := some false } }, {}, {}, {}, { h := { b := some false } }, {}, {}, {}, {}, { h := { b := some true } }] ⟨[(24, vb (decide ((p0.getD 1 0) ≥ 2147483648))), (0, vl 1 Ru32 p0)], [], 20⟩ [True, ((True) ∧ (True)) ∧ (All2 ArgLe [vl 1 Ru32 p0] [vl 1 Ru32 p0]) ∧ ((true = true → flatB [])) ∧ (Con Try.prog 31 [vl 1 Ru32 p0] [] (vb y15) []), (!y15) = false, True, True, True, (decide (((p0.length : Nat) : Int) > 2)) = false, True, True, True, True, (((p0.length : Nat) : Int) == 2) = true, True, True, (0 ≤ (1 : Int)) ∧ ((1 : Int) < ((p0.length : Nat) : Int)), True, True, True, True] (by kernel_rfl) (by kernel_rfl) ⟨tv, ⟨⟨tv, tv⟩, ⟨ArgLe.refl _, tv⟩, (fun _ => tv), (rl_ref10_Valid_con p0 y15 e16)⟩, (off_false c17), tv, tv, tv, (off_false c18), tv, tv, tv, tv, c19, tv, tv, ⟨(by decide), g20⟩, tv, tv, tv, tv, tv⟩ ?_
     exact joinQ_leaf (decide ((p0.getD 1 0) ≥ 2147483648)) h (conv_ren [] [0, 24] (n := 0) (by kernel_rfl) (by kernel_rfl))
    ·rw [if_neg c19] at h
     refine AW.reg tt_ok2 [0, 24] [] [{}, { call := some { ids := [], frz := [], flat := true, cnt := 0, args := [vl 1 Ru32 p0], out := vb y15, outb := [] } }, { h := { b := some false } }, {}, {}, {}, { h := { b := some false } }, {}, {}, {}, {}, { h := { b := some false } }] ⟨[(24, vb false), (0, vl 1 Ru32 p0)], [], 20⟩ [True, ((True) ∧ (True)) ∧ (All2 ArgLe [vl 1 Ru32 p0] [vl 1 Ru32 p0]) ∧ ((true = true → flatB [])) ∧ (Con Try.prog 31 [vl 1 Ru32 p0] [] (vb y15) []), (!y15) = false, True, True, True, (decide (((p0.length : Nat) : Int) > 2)) = false, True, True, True, True, (((p0.length : Nat) : Int) == 2) = false, True, True, True, True, True, True, True] (by kernel_rfl) (by kernel_rfl) ⟨tv, ⟨⟨tv, tv⟩, ⟨ArgLe.refl _, tv⟩, (fun _ => tv), (rl_ref10_Valid_con p0 y15 e16)⟩, (off_false c17), tv, tv, tv, (off_false c18), tv, tv, tv, tv, (off_false c19), tv, tv, tv, tv, tv, tv, tv, tv⟩ ?_
     exact joinQ_leaf (false) h (conv_ren [] [0, 24] (n := 0) (by kernel_rfl) (by kernel_rfl))
/-! recordlink/recordlinkref10.trim -/
noncomputable def rl_ref10_trim_r_k34 (x2 : Nat) (x4 : Bool) : Option (Nat ⊕ Nat) := if x4 = true then (if 0 ≤ (i64.wrap (((x2 : Nat) : Int) - 1)) then (if ((i64.wrap (((x2 : Nat) : Int) - 1)).toNat) ≤ x2 then (some (.inl ((i64.wrap (((x2 : Nat) : Int) - 1)).toNat))) else none) else none) else (some (.inr x2))
noncomputable def rl_ref10_trim_r_l30 (p0 : List Int) (o0 : Nat) (x2 : Nat) : Option (Nat ⊕ Nat) := if (decide (((x2 : Nat) : Int) > 0)) = true then (if 0 ≤ (i64.wrap (((x2 : Nat) : Int) - 1)) then (if (i64.wrap (((x2 : Nat) : Int) - 1)) < ((x2 : Nat) : Int) then (if (o0 + (i64.wrap (((x2 : Nat) : Int) - 1)).toNat) < p0.length then ((some ((p0.getD (o0 + (i64.wrap (((x2 : Nat) : Int) - 1)).toNat) 0))).bind fun z12 => (rl_ref10_trim_r_k34 x2 ((p0.getD (o0 + (i64.wrap (((x2 : Nat) : Int) - 1)).toNat) 0) == 0))) else none) else none) else none) else (rl_ref10_trim_r_k34 x2 false)
noncomputable def rl_ref10_trim_r (p0 : List Int) (o0 : Nat) (n0 : Nat) : Option ((Nat × Nat) × (List Int)) := (loop (fun v : Nat => rl_ref10_trim_r_l30 p0 o0 v) n0).bind fun x14 => (some ((o0, x14), p0))
set_option maxRecDepth 100000 in
set_option maxHeartbeats 10000000 in
theorem rl_ref10_trim_r_con (p0 : List Int) (o0 : Nat) (n0 : Nat) (r0 : (Nat × Nat)) (r1 : List Int) (h : rl_ref10_trim_r p0 o0 n0 = some (r0, r1)) : Con Try.prog 45 [.c (.ref 0 1 o0 n0)] [(0, .row 37 false 1 p0.length (Ru32 p0))] (.c (.ref 0 1 r0.1 r0.2)) [(0, .row 37 false 1 r1.length (Ru32 r1))] := by
 suffices H : ∀ r, rl_ref10_trim_r p0 o0 n0 = some r → Con Try.prog 45 [.c (.ref 0 1 o0 n0)] [(0, .row 37 false 1 p0.length (Ru32 p0))] (.c (.ref 0 1 r.1.1 r.1.2)) [(0, .row 37 false 1 r.2.length (Ru32 r.2))] from H (r0, r1) h
 clear h
 intro r h
 refine con_of tt_ok2 1 Try.func45 (by kernel_rfl) rfl (by kernel_rfl) (fun base X hk => AW.post ?_)
 unfold rl_ref10_trim_r at h
 refine AW.seq ?_
 refine AW.reg tt_ok2 [0] [0] [] ⟨[(0, .c (.ref 0 1 o0 n0))], [(0, .row 37 false 1 p0.length (Ru32 p0))], 2⟩ [True] (by kernel_rfl) (by kernel_rfl) ⟨tv, tv⟩ ?_
 refine AW.tn ?_
 refine AW.seq ?_
 refine AW.block ?_
 obtain ⟨x14, l15, h⟩ := bnd_some h
 refine AW.pre (S' := ((fun v => ⟨[(0, .c (.ref 0 1 o0 v))], [(0, .row 37 false 1 p0.length (Ru32 p0))], 1⟩) : Nat → St) n0) (conv_ren [(0, 0)] [0] (n := 1) (by kernel_rfl) (by kernel_rfl)) ?_
 refine AW.loop2 (step := (fun v : Nat => rl_ref10_trim_r_l30 p0 o0 v)) (s0 := n0) (t := x14) (fun v => ⟨[(0, .c (.ref 0 1 o0 v))], [(0, .row 37 false 1 p0.length (Ru32 p0))], 1⟩) (fun t : Nat => (.exit 0, ⟨[(0, .c (.ref 0 1 o0 t))], [(0, .row 37 false 1 p0.length (Ru32 p0))], 1⟩)) l15 (fun _ => tv) ?_ ?_
 ·
  intro v o h
  obtain ⟨x2, rfl⟩ : ∃ x, x = v := ⟨_, rfl⟩
  replace h : rl_ref10_trim_r_l30 p0 o0 x2 = some o := h
  unfold rl_ref10_trim_r_l30 at h
  show AW _ ⟨[(0, .c (.ref 0 1 o0 x2))], [(0, .row 37 false 1 p0.length (Ru32 p0))], 1⟩ _ _
  refine AW.seq ?_
  refine AW.seq ?_
  refine AW.join (ι := Bool) (fun v => ⟨[(0, .c (.ref 0 1 o0 x2)), (14, vb v)], [(0, .row 37 false 1 p0.length (Ru32 p0))], 1⟩) (fun v : Bool => rl_ref10_trim_r_k34 x2 v = some o) (fun v h => ?_) ?_
  ·
   obtain ⟨x4, rfl⟩ : ∃ x, x = v := ⟨_, rfl⟩
   replace h : rl_ref10_trim_r_k34 x2 x4 = some o := h
   unfold rl_ref10_trim_r_k34 at h
   show (_ : Exit → St → Prop) .normal ⟨[(0, .c (.ref 0 1 o0 x2)), (14, vb x4)], [(0, .row 37 false 1 p0.length (Ru32 p0))], 1⟩
   refine AW.tn ?_
   refine AW.cond (b := x4) (by kernel_rfl) (fun c5 => ?_) (fun c5 => ?_)
   ·rw [if_pos c5] at h
    refine AW.skip ?_
    refine AW.tn ?_
    refine AW.block ?_
    obtain ⟨g6, h⟩ := ifc h
    obtain ⟨g7, h⟩ := ifc h
    refine AW.reg tt_ok2 [0] [0] [] ⟨[(0, .c (.ref 0 1 o0 ((i64.wrap (((x2 : Nat) : Int) - 1)).toNat)))], [(0, .row 37 false 1 p0.length (Ru32 p0))], 7⟩ [True, True, True, True, (True) ∧ (0 ≤ (i64.wrap (((x2 : Nat) : Int) - 1))) ∧ (0 ≤ ((i64.wrap (((x2 : Nat) : Int) - 1)).toNat)) ∧ (((i64.wrap (((x2 : Nat) : Int) - 1)).toNat) ≤ x2), True] (by kernel_rfl) (by kernel_rfl) ⟨tv, tv, tv, tv, ⟨tv, g6, (Nat.zero_le _), g7⟩, tv, tv⟩ ?_
    refine AW.inBlock_normal ?_
    obtain rfl := some_inj h
    refine loopQ_next (conv_ren [(0, 0)] [0] (n := 1) (by kernel_rfl) (by kernel_rfl))
   ·rw [if_neg (nb c5)] at h
    refine AW.exit ?_
    refine AW.thenQ_exit ?_
    obtain rfl := some_inj h
    refine loopQ_out rfl (conv_ren [(0, 0)] [0] (n := 1) (by kernel_rfl) (by kernel_rfl))
  ·
   by_cases c8 : (decide (((x2 : Nat) : Int) > 0)) = true
   ·rw [if_pos c8] at h
    obtain ⟨g9, h⟩ := ifc h
    obtain ⟨g10, h⟩ := ifc h
    obtain ⟨g11, h⟩ := ifc h
    obtain ⟨z12, n13, h⟩ := bnd_some h
    replace n13 := some_inj n13
    refine AW.reg tt_ok2 [0, 7, 8, 9, 10, 11, 12, 13, 14] [0] [{}, {}, { h := { b := some true } }] ⟨[(14, vb ((p0.getD (o0 + (i64.wrap (((x2 : Nat) : Int) - 1)).toNat) 0) == 0)), (13, vb ((p0.getD (o0 + (i64.wrap (((x2 : Nat) : Int) - 1)).toNat) 0) == 0)), (12, vu32 (p0.getD (o0 + (i64.wrap (((x2 : Nat) : Int) - 1)).toNat) 0)), (11, .c (.ptr 0 1 (o0 + (i64.wrap (((x2 : Nat) : Int) - 1)).toNat) 0)), (10, vi64 (i64.wrap (((x2 : Nat) : Int) - 1))), (9, vi64 ((x2 : Nat) : Int)), (8, .c (.ref 0 1 o0 x2)), (7, .c (.ref 0 1 o0 x2)), (0, .c (.ref 0 1 o0 x2))], [(0, .row 37 false 1 p0.length (Ru32 p0))], 13⟩ [True, True, (decide (((x2 : Nat) : Int) > 0)) = true, True, True, True, True, True, (0 ≤ (i64.wrap (((x2 : Nat) : Int) - 1))) ∧ ((i64.wrap (((x2 : Nat) : Int) - 1)) < ((x2 : Nat) : Int)), (o0 + (i64.wrap (((x2 : Nat) : Int) - 1)).toNat) < p0.length, True, True] (by kernel_rfl) (by kernel_rfl) ⟨tv, tv, c8, tv, tv, tv, tv, tv, ⟨g9, g10⟩, g11, tv, tv, tv⟩ ?_
    refine eq_Q (S' := ⟨[(14, vb ((p0.getD (o0 + (i64.wrap (((x2 : Nat) : Int) - 1)).toNat) 0) == 0)), (13, vb ((p0.getD (o0 + (i64.wrap (((x2 : Nat) : Int) - 1)).toNat) 0) == 0)), (12, vu32 z12), (11, .c (.ptr 0 1 (o0 + (i64.wrap (((x2 : Nat) : Int) - 1)).toNat) 0)), (10, vi64 (i64.wrap (((x2 : Nat) : Int) - 1))), (9, vi64 ((x2 : Nat) : Int)), (8, .c (.ref 0 1 o0 x2)), (7, .c (.ref 0 1 o0 x2)), (0, .c (.ref 0 1 o0 x2))], [(0, .row 37 false 1 p0.length (Ru32 p0))], 13⟩) (by rw [n13]) ?_
    exact joinQ_leaf (((p0.getD (o0 + (i64.wrap (((x2 : Nat) : Int) - 1)).toNat) 0) == 0)) h (conv_ren [(0, 0)] [0, 14] (n := 1) (by kernel_rfl) (by kernel_rfl))
   ·rw [if_neg c8] at h
    refine AW.reg tt_ok2 [0, 7, 8, 9, 10, 11, 12, 13, 14] [0] [{}, {}, { h := { b := some false } }] ⟨[(14, vb false), (13, .tup []), (12, .tup []), (11, .tup []), (10, .tup []), (9, .tup []), (8, .tup []), (7, .tup []), (0, .c (.ref 0 1 o0 x2))], [(0, .row 37 false 1 p0.length (Ru32 p0))], 13⟩ [True, True, (decide (((x2 : Nat) : Int) > 0)) = false, True, True, True, True, True, True, True, True, True] (by kernel_rfl) (by kernel_rfl) ⟨tv, tv, (off_false c8), tv, tv, tv, tv, tv, tv, tv, tv, tv, tv⟩ ?_
    exact joinQ_leaf (false) h (conv_ren [(0, 0)] [0, 14] (n := 1) (by kernel_rfl) (by kernel_rfl))
 ·
  show (_ : Exit → St → Prop) (.exit 0) ⟨[(0, .c (.ref 0 1 o0 x14))], [(0, .row 37 false 1 p0.length (Ru32 p0))], 1⟩
  refine AW.inBlock_hit ?_
  refine AW.tn ?_
  refine AW.seq ?_
  refine AW.reg tt_ok2 [2] [0] [] ⟨[(2, .c (.ref 0 1 o0 x14))], [(0, .row 37 false 1 p0.length (Ru32 p0))], 3⟩ [True, True] (by kernel_rfl) (by kernel_rfl) ⟨tv, tv, tv⟩ ?_
  refine AW.tn ?_
  refine AW.ret ?_
  obtain rfl := some_inj h
  exact ⟨_, Conv.refl _ _, .inr rfl, OutOk.mk [(0, 0)] 1 (out0 := .c (.ref 0 1 o0 x14)) (ps := [True]) (by kernel_rfl) ⟨tv, tv⟩ (by kernel_rfl) (by kernel_rfl)⟩
/-! recordlink/recordlinkref10.Text -/
noncomputable def rl_ref10_Text_l18 (x12 : Nat) (x13 : Nat) (x19 : List Int) (x20 : Int) (x21 : Int) : Option (((List Int) × Int × Int) ⊕ ((List Int) × Int)) := if (decide (x21 ≥ 0)) = true then (if 0 ≤ x21 then (if x21 < ((x13 : Nat) : Int) then (if (x12 + x21.toNat) < x19.length then ((some (ior .u64 (ishl .u64 x20 32) (u64.wrap (x19.getD (x12 + x21.toNat) 0)))).bind fun z28 => (some (.inl ((x19.set (x12 + x21.toNat) (u32.wrap (u64.wrap (z28.tdiv 10)))), (z28.tmod 10), i64.wrap (x21 - 1))))) else none) else none) else none) else (some (.inr (x19, x20)))
noncomputable def rl_ref10_Text_l16 (x10 : ByteArray) (x11 : List Int) (x12 : Nat) (x13 : Nat) : Option ((ByteArray × (List Int) × Nat × Nat) ⊕ ByteArray) := if (decide (((x13 : Nat) : Int) > 0)) = true then (bind2 (loop (fun v : (List Int) × Int × Int => rl_ref10_Text_l18 x12 x13 v.1 v.2.1 v.2.2) (x11, 0, i64.wrap (((x13 : Nat) : Int) - 1))) fun x30 x31 => (if (strOf ([u8.wrap (u64.wrap (48 + x31))] : List Int)).size + x10.size ≤ maxStr then (bind2 (rl_ref10_trim_r x30 x12 x13) fun y33 y34 => (some (.inl (((strOf ([u8.wrap (u64.wrap (48 + x31))] : List Int)) ++ x10), y34, y33.1, y33.2)))) else none)) else (some (.inr x10))
noncomputable def rl_ref10_Text (p0 : List Int) : Option (ByteArray × Int) := (rl_ref10_Valid p0).bind fun y1 => (if (!y1) = true then (some ((ByteArray.mk #[]), 20)) else (if (((p0.length : Nat) : Int) == 0) = true then (some ((ByteArray.mk #[48]), 0)) else (if 0 + p0.length ≤ 1099511627776 then ((loop (fun v : ByteArray × (List Int) × Nat × Nat => rl_ref10_Text_l16 v.1 v.2.1 v.2.2.1 v.2.2.2) ((ByteArray.mk #[]), (([] : List Int) ++ p0), 0, (([] : List Int) ++ p0).length)).bind fun x37 => (some (x37, 0))) else none)))
set_option maxRecDepth 100000 in
set_option maxHeartbeats 10000000 in
theorem rl_ref10_Text_con (p0 : List Int) (r0 : ByteArray) (r1 : Int) (h : rl_ref10_Text p0 = some (r0, r1)) : Con Try.prog 30 [vl 1 Ru32 p0] [] (.tup [vs r0, vi64 r1]) [] := by
 suffices H : ∀ r, rl_ref10_Text p0 = some r → Con Try.prog 30 [vl 1 Ru32 p0] [] (.tup [vs r.1, vi64 r.2]) [] from H (r0, r1) h
 clear h
 intro r h
 refine con_of tt_ok2 0 Try.func30 (by kernel_rfl) rfl (by kernel_rfl) (fun base X hk => AW.post ?_)
 unfold rl_ref10_Text at h
 refine AW.seq ?_
 refine AW.reg tt_ok2 [0] [] [] ⟨[(0, vl 1 Ru32 p0)], [], 2⟩ [True, True] (by kernel_rfl) (by kernel_rfl) ⟨tv, tv, tv⟩ ?_
 refine AW.tn ?_
 refine AW.seq ?_
 refine AW.seq ?_
 obtain ⟨y1, e2, h⟩ := bnd_some h
 refine AW.reg tt_ok2 [0, 10] [] [{}, { call := some { ids := [], frz := [], flat := true, cnt := 0, args := [vl 1 Ru32 p0], out := vb y1, outb := [] } }] ⟨[(10, vb (!y1)), (0, vl 1 Ru32 p0)], [], 4⟩ [True, ((True) ∧ (True)) ∧ (All2 ArgLe [vl 1 Ru32 p0] [vl 1 Ru32 p0]) ∧ ((true = true → flatB [])) ∧ (Con Try.prog 31 [vl 1 Ru32 p0] [] (vb y1) []), True] (by kernel_rfl) (by kernel_rfl) ⟨tv, ⟨⟨tv, tv⟩, ⟨ArgLe.refl _, tv⟩, (fun _ => tv), (rl_ref10_Valid_con p0 y1 e2)⟩, tv, tv⟩ ?_
 refine AW.tn ?_
 refine AW.cond (b := !y1) (by kernel_rfl) (fun c3 => ?_) (fun c3 => ?_)
 ·rw [if_pos c3] at h
  refine AW.seq ?_
  refine AW.reg tt_ok2 [2, 3] [] [] ⟨[(3, vi64 20), (2, vs (ByteArray.mk #[]))], [], 6⟩ [True, True] (by kernel_rfl) (by kernel_rfl) ⟨tv, tv, tv⟩ ?_
  refine AW.tn ?_
  refine AW.ret ?_
  refine AW.tr ?_
  obtain rfl := some_inj h
  exact ⟨_, Conv.refl _ _, .inr rfl, OutOk.mk [] 0 (out0 := .tup [vs (ByteArray.mk #[]), vi64 20]) (ps := [True, True]) (by kernel_rfl) ⟨tv, tv, tv⟩ (by kernel_rfl) (by kernel_rfl)⟩
 ·rw [if_neg (nb c3)] at h
  refine AW.skip ?_
  refine AW.tn ?_
  refine AW.seq ?_
  refine AW.seq ?_
  refine AW.reg tt_ok2 [0, 13] [] [] ⟨[(13, vb (((p0.length : Nat) : Int) == 0)), (0, vl 1 Ru32 p0)], [], 7⟩ [True, True, True] (by kernel_rfl) (by kernel_rfl) ⟨tv, tv, tv, tv⟩ ?_
  refine AW.tn ?_
  refine AW.cond (b := (((p0.length : Nat) : Int) == 0)) (by kernel_rfl) (fun c4 => ?_) (fun c4 => ?_)
  ·rw [if_pos c4] at h
   refine AW.seq ?_
   refine AW.reg tt_ok2 [2, 3] [] [] ⟨[(3, vi64 0), (2, vs (ByteArray.mk #[48]))], [], 9⟩ [True, True] (by kernel_rfl) (by kernel_rfl) ⟨tv, tv, tv⟩ ?_
   refine AW.tn ?_
   refine AW.ret ?_
   refine AW.tr ?_
   obtain rfl := some_inj h
   exact ⟨_, Conv.refl _ _, .inr rfl, OutOk.mk [] 0 (out0 := .tup [vs (ByteArray.mk #[48]), vi64 0]) (ps := [True, True]) (by kernel_rfl) ⟨tv, tv, tv⟩ (by kernel_rfl) (by kernel_rfl)⟩
  ·rw [if_neg (nb c4)] at h
   refine AW.skip ?_
   refine AW.tn ?_
   refine AW.seq ?_
   refine AW.reg tt_ok2 [0, 4] [] [] ⟨[(4, vs (ByteArray.mk #[])), (0, vl 1 Ru32 p0)], [], 8⟩ [True] (by kernel_rfl) (by kernel_rfl) ⟨tv, tv⟩ ?_
   refine AW.tn ?_
   refine AW.seq ?_
   obtain ⟨g5, h⟩ := ifc h
   refine AW.reg tt_ok2 [4, 5] [9] [{}, { h := { row := some ((([] : List Int) ++ p0).length, Ru32 (([] : List Int) ++ p0)) } }] ⟨[(5, .c (.ref 9 1 0 ((([] : List Int) ++ p0).length))), (4, vs (ByteArray.mk #[]))], [(9, .row 37 false 1 (([] : List Int) ++ p0).length (Ru32 (([] : List Int) ++ p0)))], 11⟩ [True, (True) ∧ (True) ∧ ((0 + p0.length ≤ 1099511627776) ∧ ((4 : Nat) ≤ 128)) ∧ (0 + p0.length = (([] : List Int) ++ p0).length ∧ ∀ i, i < (([] : List Int) ++ p0).length → ∀ j, j < 1 → TLe ((appRow 0 (fun _ _ => .v undef) (Ru32 p0)) i j) (Ru32 (([] : List Int) ++ p0) i j)), True] (by kernel_rfl) (by kernel_rfl) ⟨tv, ⟨tv, tv, ⟨g5, (by decide)⟩, rowT (app_row rfl rfl row_nil row_rfl)⟩, tv, tv⟩ ?_
   refine AW.tn ?_
   refine AW.seq ?_
   refine AW.block ?_
   obtain ⟨x37, l38, h⟩ := bnd_some h
   refine AW.pre (S' := ((fun v => ⟨[(4, vs v.1), (5, .c (.ref 0 1 v.2.2.1 v.2.2.2))], [(0, .row 37 false 1 v.2.1.length (Ru32 v.2.1))], 1⟩) : (ByteArray × (List Int) × Nat × Nat) → St) ((ByteArray.mk #[]), (([] : List Int) ++ p0), 0, (([] : List Int) ++ p0).length)) (conv_ren [(0, 9)] [4, 5] (n := 1) (by kernel_rfl) (by kernel_rfl)) ?_
   refine AW.loop2 (step := (fun v : ByteArray × (List Int) × Nat × Nat => rl_ref10_Text_l16 v.1 v.2.1 v.2.2.1 v.2.2.2)) (s0 := ((ByteArray.mk #[]), (([] : List Int) ++ p0), 0, (([] : List Int) ++ p0).length)) (t := x37) (fun v => ⟨[(4, vs v.1), (5, .c (.ref 0 1 v.2.2.1 v.2.2.2))], [(0, .row 37 false 1 v.2.1.length (Ru32 v.2.1))], 1⟩) (fun t : ByteArray => (.exit 0, ⟨[(4, vs t)], [], 0⟩)) l38 (fun _ => tv) ?_ ?_
   ·
    intro v o h
    obtain ⟨x10, x11, x12, x13⟩ := v
    replace h : rl_ref10_Text_l16 x10 x11 x12 x13 = some o := h
    unfold rl_ref10_Text_l16 at h
    show AW _ ⟨[(4, vs x10), (5, .c (.ref 0 1 x12 x13))], [(0, .row 37 false 1 x11.length (Ru32 x11))], 1⟩ _ _
    refine AW.seq ?_
    refine AW.seq ?_
    refine AW.reg tt_ok2 [4, 5, 18] [0] [] ⟨[(18, vb (decide (((x13 : Nat) : Int) > 0))), (4, vs x10), (5, .c (.ref 0 1 x12 x13))], [(0, .row 37 false 1 x11.length (Ru32 x11))], 4⟩ [True, True, True] (by kernel_rfl) (by kernel_rfl) ⟨tv, tv, tv, tv⟩ ?_
    refine AW.tn ?_
    refine AW.cond (b := decide (((x13 : Nat) : Int) > 0)) (by kernel_rfl) (fun c15 => ?_) (fun c15 => ?_)
    ·rw [if_pos c15] at h
     refine AW.skip ?_
     refine AW.tn ?_
     refine AW.block ?_
     refine AW.seq ?_
     refine AW.reg tt_ok2 [4, 5, 6] [0] [] ⟨[(6, vu64 0), (4, vs x10), (5, .c (.ref 0 1 x12 x13))], [(0, .row 37 false 1 x11.length (Ru32 x11))], 5⟩ [True] (by kernel_rfl) (by kernel_rfl) ⟨tv, tv⟩ ?_
     refine AW.tn ?_
     refine AW.seq ?_
     refine AW.seq ?_
     refine AW.reg tt_ok2 [4, 5, 6, 7] [0] [] ⟨[(7, vi64 (i64.wrap (((x13 : Nat) : Int) - 1))), (6, vu64 0), (4, vs x10), (5, .c (.ref 0 1 x12 x13))], [(0, .row 37 false 1 x11.length (Ru32 x11))], 9⟩ [True, True, True, True] (by kernel_rfl) (by kernel_rfl) ⟨tv, tv, tv, tv, tv⟩ ?_
     refine AW.tn ?_
     refine AW.block ?_
     obtain ⟨x30, x31, l36, h⟩ := bind2_some h
     refine AW.pre (S' := ((fun v => ⟨[(4, vs x10), (5, .c (.ref 0 1 x12 x13)), (6, vu64 v.2.1), (7, vi64 v.2.2)], [(0, .row 37 false 1 v.1.length (Ru32 v.1))], 1⟩) : ((List Int) × Int × Int) → St) (x11, 0, i64.wrap (((x13 : Nat) : Int) - 1))) (conv_ren [(0, 0)] [4, 5, 6, 7] (n := 1) (by kernel_rfl) (by kernel_rfl)) ?_
     refine AW.loop2 (step := (fun v : (List Int) × Int × Int => rl_ref10_Text_l18 x12 x13 v.1 v.2.1 v.2.2)) (s0 := (x11, 0, i64.wrap (((x13 : Nat) : Int) - 1))) (t := (x30, x31)) (fun v => ⟨[(4, vs x10), (5, .c (.ref 0 1 x12 x13)), (6, vu64 v.2.1), (7, vi64 v.2.2)], [(0, .row 37 false 1 v.1.length (Ru32 v.1))], 1⟩) (fun t : (List Int) × Int => (.exit 2, ⟨[(4, vs x10), (5, .c (.ref 0 1 x12 x13)), (6, vu64 t.2)], [(0, .row 37 false 1 t.1.length (Ru32 t.1))], 1⟩)) l36 (fun _ => tv) ?_ ?_
     ·
      intro v o h
      obtain ⟨x19, x20, x21⟩ := v
      replace h : rl_ref10_Text_l18 x12 x13 x19 x20 x21 = some o := h
      unfold rl_ref10_Text_l18 at h
      show AW _ ⟨[(4, vs x10), (5, .c (.ref 0 1 x12 x13)), (6, vu64 x20), (7, vi64 x21)], [(0, .row 37 false 1 x19.length (Ru32 x19))], 1⟩ _ _
      refine AW.seq ?_
      refine AW.seq ?_
      refine AW.reg tt_ok2 [4, 5, 6, 7, 23] [0] [] ⟨[(23, vb (decide (x21 ≥ 0))), (4, vs x10), (5, .c (.ref 0 1 x12 x13)), (6, vu64 x20), (7, vi64 x21)], [(0, .row 37 false 1 x19.length (Ru32 x19))], 3⟩ [True, True] (by kernel_rfl) (by kernel_rfl) ⟨tv, tv, tv⟩ ?_
      refine AW.tn ?_
      refine AW.cond (b := decide (x21 ≥ 0)) (by kernel_rfl) (fun c24 => ?_) (fun c24 => ?_)
      ·rw [if_pos c24] at h
       refine AW.skip ?_
       refine AW.tn ?_
       refine AW.seq ?_
       refine AW.block ?_
       refine AW.seq ?_
       obtain ⟨g25, h⟩ := ifc h
       obtain ⟨g26, h⟩ := ifc h
       obtain ⟨g27, h⟩ := ifc h
       obtain ⟨z28, n29, h⟩ := bnd_some h
       replace n29 := some_inj n29
       refine AW.reg tt_ok2 [4, 5, 6, 7] [0] [] ⟨[(6, vu64 (ior .u64 (ishl .u64 x20 32) (u64.wrap (x19.getD (x12 + x21.toNat) 0)))), (4, vs x10), (5, .c (.ref 0 1 x12 x13)), (7, vi64 x21)], [(0, .row 37 false 1 x19.length (Ru32 x19))], 12⟩ [True, 0 ≤ (32 : Int), True, True, (0 ≤ x21) ∧ (x21 < ((x13 : Nat) : Int)), (x12 + x21.toNat) < x19.length, True, True, True] (by kernel_rfl) (by kernel_rfl) ⟨tv, (by decide), tv, tv, ⟨g25, g26⟩, g27, tv, tv, tv, tv⟩ ?_
       refine eq_Q (S' := ⟨[(6, vu64 z28), (4, vs x10), (5, .c (.ref 0 1 x12 x13)), (7, vi64 x21)], [(0, .row 37 false 1 x19.length (Ru32 x19))], 12⟩) (by rw [n29]) ?_
       refine AW.tn ?_
       refine AW.seq ?_
       refine AW.reg tt_ok2 [4, 5, 6, 7] [0] [{}, {}, {}, {}, {}, {}, { h := { row := some (x19.length, Ru32 (x19.set (x12 + x21.toNat) (u32.wrap (u64.wrap (z28.tdiv 10))))) } }] ⟨[(6, vu64 z28), (4, vs x10), (5, .c (.ref 0 1 x12 x13)), (7, vi64 x21)], [(0, .row 37 false 1 x19.length (Ru32 (x19.set (x12 + x21.toNat) (u32.wrap (u64.wrap (z28.tdiv 10))))))], 19⟩ [True, True, True, (10 : Int) ≠ 0, True, (0 ≤ x21) ∧ (x21 < ((x13 : Nat) : Int)), ((x12 + x21.toNat) < x19.length) ∧ (x19.length = x19.length ∧ ∀ i, i < x19.length → ∀ j, j < 1 → TLe (updRow (Ru32 x19) (x12 + x21.toNat) 0 [.v (.int .u32 (u32.wrap (u64.wrap (z28.tdiv 10))))] i j) (Ru32 (x19.set (x12 + x21.toNat) (u32.wrap (u64.wrap (z28.tdiv 10)))) i j))] (by kernel_rfl) (by kernel_rfl) ⟨tv, tv, tv, (by decide), tv, ⟨g25, g26⟩, ⟨g27, set_rowN rfl g27 (fun j hj => match j, hj with | 0, _ => TLe.refl _ | _ + 1, h => absurd h (by omega))⟩, tv⟩ ?_
       refine AW.tn ?_
       refine AW.reg tt_ok2 [4, 5, 6, 7] [0] [] ⟨[(6, vu64 (z28.tmod 10)), (4, vs x10), (5, .c (.ref 0 1 x12 x13)), (7, vi64 x21)], [(0, .row 37 false 1 x19.length (Ru32 (x19.set (x12 + x21.toNat) (u32.wrap (u64.wrap (z28.tdiv 10))))))], 22⟩ [True, (10 : Int) ≠ 0, True] (by kernel_rfl) (by kernel_rfl) ⟨tv, (by decide), tv, tv⟩ ?_
       refine AW.inBlock_normal ?_
       refine AW.tn ?_
       refine AW.reg tt_ok2 [4, 5, 6, 7] [0] [] ⟨[(7, vi64 (i64.wrap (x21 - 1))), (6, vu64 (z28.tmod 10)), (4, vs x10), (5, .c (.ref 0 1 x12 x13))], [(0, .row 37 false 1 x19.length (Ru32 (x19.set (x12 + x21.toNat) (u32.wrap (u64.wrap (z28.tdiv 10))))))], 25⟩ [True, True, True] (by kernel_rfl) (by kernel_rfl) ⟨tv, tv, tv, tv⟩ ?_
       obtain rfl := some_inj h
       refine loopQ_next (Conv.trans (conv_len (S' := ⟨[(7, vi64 (i64.wrap (x21 - 1))), (6, vu64 (z28.tmod 10)), (4, vs x10), (5, .c (.ref 0 1 x12 x13))], [(0, .row 37 false 1 (x19.set (x12 + x21.toNat) (u32.wrap (u64.wrap (z28.tdiv 10)))).length (Ru32 (x19.set (x12 + x21.toNat) (u32.wrap (u64.wrap (z28.tdiv 10))))))], 25⟩) (by simp only [List.length_set])) (conv_ren [(0, 0)] [4, 5, 6, 7] (n := 1) (by kernel_rfl) (by kernel_rfl)))
      ·rw [if_neg (nb c24)] at h
       refine AW.exit ?_
       refine AW.thenQ_exit ?_
       obtain rfl := some_inj h
       refine loopQ_out rfl (conv_ren [(0, 0)] [4, 5, 6] (n := 1) (by kernel_rfl) (by kernel_rfl))
     ·
      show (_ : Exit → St → Prop) (.exit 2) ⟨[(4, vs x10), (5, .c (.ref 0 1 x12 x13)), (6, vu64 x31)], [(0, .row 37 false 1 x30.length (Ru32 x30))], 1⟩
      refine AW.inBlock_hit ?_
      refine AW.tn ?_
      refine AW.seq ?_
      obtain ⟨g32, h⟩ := ifc h
      refine AW.reg tt_ok2 [4, 5] [0] [{}, {}, {}, { h := { row := some (([u8.wrap (u64.wrap (48 + x31))] : List Int).length, Ru8 ([u8.wrap (u64.wrap (48 + x31))] : List Int)) } }, { h := { ints := some (fun i => ([u8.wrap (u64.wrap (48 + x31))] : List Int).getD i 0) } }] ⟨[(4, vs ((strOf ([u8.wrap (u64.wrap (48 + x31))] : List Int)) ++ x10)), (5, .c (.ref 0 1 x12 x13))], [(0, .row 37 false 1 x30.length (Ru32 x30))], 9⟩ [True, True, True, 1 = ([u8.wrap (u64.wrap (48 + x31))] : List Int).length ∧ ∀ i, i < ([u8.wrap (u64.wrap (48 + x31))] : List Int).length → ∀ j, j < 1 → TLe ((rowOf [.v (.int .u8 (u8.wrap (u64.wrap (48 + x31))))] 1) i j) (Ru8 ([u8.wrap (u64.wrap (48 + x31))] : List Int) i j), (0 + ([u8.wrap (u64.wrap (48 + x31))] : List Int).length ≤ ([u8.wrap (u64.wrap (48 + x31))] : List Int).length) ∧ ∀ i, i < ([u8.wrap (u64.wrap (48 + x31))] : List Int).length → (fun i j => Ru8 ([u8.wrap (u64.wrap (48 + x31))] : List Int) (0 + i) j) i 0 = .v (.int .u8 (([u8.wrap (u64.wrap (48 + x31))] : List Int).getD i 0)), True, (strOf ([u8.wrap (u64.wrap (48 + x31))] : List Int)).size + x10.size ≤ maxStr, True] (by kernel_rfl) (by kernel_rfl) ⟨tv, tv, tv, ⟨rfl, lit_row (n := 1) (sz := 1) ⟨tv, ⟨tv, TLe.refl _⟩⟩⟩, ⟨le0, fun i _ => by simp only [Nat.zero_add] <;> rfl⟩, tv, g32, tv, tv⟩ ?_
      refine AW.tn ?_
      obtain ⟨y33, y34, e35, h⟩ := bind2_some h
      refine AW.reg tt_ok2 [4, 5] [0] [{}, { call := some { ids := [0], frz := [], flat := true, cnt := 0, args := [.c (.ref 0 1 x12 x13)], out := .c (.ref 0 1 y33.1 y33.2), outb := [(0, .row 37 false 1 y34.length (Ru32 y34))] } }] ⟨[(5, .c (.ref 0 1 y33.1 y33.2)), (4, vs ((strOf ([u8.wrap (u64.wrap (48 + x31))] : List Int)) ++ x10))], [(0, .row 37 false 1 y34.length (Ru32 y34))], 11⟩ [True, ((True) ∧ (True)) ∧ (All2 ArgLe [.c (.ref 0 1 x12 x13)] [.c (.ref 0 1 x12 x13)]) ∧ ((true = true → flatB [(0, .row 37 false 1 y34.length (Ru32 y34))])) ∧ (Con Try.prog 45 [.c (.ref 0 1 x12 x13)] [(0, .row 37 false 1 x30.length (Ru32 x30))] (.c (.ref 0 1 y33.1 y33.2)) [(0, .row 37 false 1 y34.length (Ru32 y34))]), True] (by kernel_rfl) (by kernel_rfl) ⟨tv, ⟨⟨tv, tv⟩, ⟨ArgLe.refl _, tv⟩, (fun _ => ⟨rowL_flat Vu32 _ _ _, tv⟩), (rl_ref10_trim_r_con x30 x12 x13 y33 y34 e35)⟩, tv, tv⟩ ?_
      refine AW.inBlock_normal ?_
      obtain rfl := some_inj h
      refine loopQ_next (conv_ren [(0, 0)] [4, 5] (n := 1) (by kernel_rfl) (by kernel_rfl))
    ·rw [if_neg (nb c15)] at h
     refine AW.exit ?_
     refine AW.thenQ_exit ?_
     obtain rfl := some_inj h
     refine loopQ_out rfl (conv_ren [] [4] (n := 0) (by kernel_rfl) (by kernel_rfl))
   ·
    show (_ : Exit → St → Prop) (.exit 0) ⟨[(4, vs x37)], [], 0⟩
    refine AW.inBlock_hit ?_
    refine AW.tn ?_
    refine AW.seq ?_
    refine AW.reg tt_ok2 [2, 3] [] [] ⟨[(3, vi64 0), (2, vs x37)], [], 3⟩ [True, True, True] (by kernel_rfl) (by kernel_rfl) ⟨tv, tv, tv, tv⟩ ?_
    refine AW.tn ?_
    refine AW.ret ?_
    obtain rfl := some_inj h
    exact ⟨_, Conv.refl _ _, .inr rfl, OutOk.mk [] 0 (out0 := .tup [vs x37, vi64 0]) (ps := [True, True]) (by kernel_rfl) ⟨tv, tv, tv⟩ (by kernel_rfl) (by kernel_rfl)⟩
/-! recordlink/natural.Power -/
noncomputable def natural_Power_l12 (p0 : List Int) (p1 : Int) (x13 : List Int) (x14 : Int) : Option (((List Int) × Int) ⊕ ((List Int) ⊕ Unit)) := if (decide (x14 < p1)) = true then ((natural_times x13 p0).bind fun y17 => ((natural_Valid y17).bind fun y19 => (if (!y19) = true then (some (.inr (.inr ()))) else (some (.inl (y17, i64.wrap (x14 + 1))))))) else (some (.inr (.inl x13)))
noncomputable def natural_Power_a13 (x22 : List Int) : Option ((List Int) × Int) := some (x22, 0)
noncomputable def natural_Power_a14 : Option ((List Int) × Int) := some (([] : List Int), 1)
noncomputable def natural_Power_k8 (p0 : List Int) (p1 : Int) (x6 : Bool) : Option ((List Int) × Int) := if x6 = true then (some (([] : List Int), 0)) else ((natural_Compare p0 ([1] : List Int)).bind fun y8 => (if (y8 == 0) = true then (some (([1] : List Int), 0)) else (bindE (loop (fun v : (List Int) × Int => natural_Power_l12 p0 p1 v.1 v.2) (([1] : List Int), 0)) (fun t => natural_Power_a13 t) (fun t => natural_Power_a14))))
noncomputable def natural_Power_k6 (p0 : List Int) (p1 : Int) (x4 : Bool) : Option ((List Int) × Int) := if x4 = true then (some (([] : List Int), 2)) else (if (((p0.length : Nat) : Int) == 0) = true then (natural_Power_k8 p0 p1 (decide (p1 > 0))) else (natural_Power_k8 p0 p1 false))
noncomputable def natural_Power (p0 : List Int) (p1 : Int) : Option ((List Int) × Int) := (natural_Valid p0).bind fun y1 => (if (!y1) = true then (some (([] : List Int), 20)) else (if (decide (p1 < 0)) = true then (natural_Power_k6 p0 p1 true) else (natural_Power_k6 p0 p1 (decide (p1 > 4096)))))
set_option maxRecDepth 100000 in
set_option maxHeartbeats 10000000 in
theorem natural_Power_con (p0 : List Int) (p1 : Int) (r0 : List Int) (r1 : Int) (h : natural_Power p0 p1 = some (r0, r1)) : Con Try.prog 32 [vl 1 Ru32 p0, vi64 p1] [] (.tup [vl 1 Ru32 r0, vi64 r1]) [] := by
 suffices H : ∀ r, natural_Power p0 p1 = some r → Con Try.prog 32 [vl 1 Ru32 p0, vi64 p1] [] (.tup [vl 1 Ru32 r.1, vi64 r.2]) [] from H (r0, r1) h
 clear h
 intro r h
 refine con_of tt_ok2 0 Try.func32 (by kernel_rfl) rfl (by kernel_rfl) (fun base X hk => AW.post ?_)
 unfold natural_Power at h
 refine AW.seq ?_
 refine AW.reg tt_ok2 [0, 1] [] [] ⟨[(0, vl 1 Ru32 p0), (1, vi64 p1)], [], 2⟩ [True, True] (by kernel_rfl) (by kernel_rfl) ⟨tv, tv, tv⟩ ?_
 refine AW.tn ?_
 refine AW.seq ?_
 refine AW.block ?_
 refine AW.seq ?_
 obtain ⟨y1, e2, h⟩ := bnd_some h
 refine AW.reg tt_ok2 [0, 1, 7] [] [{}, { call := some { ids := [], frz := [], flat := true, cnt := 0, args := [vl 1 Ru32 p0], out := vb y1, outb := [] } }] ⟨[(7, vb (!y1)), (0, vl 1 Ru32 p0), (1, vi64 p1)], [], 5⟩ [True, ((True) ∧ (True)) ∧ (All2 ArgLe [vl 1 Ru32 p0] [vl 1 Ru32 p0]) ∧ ((true = true → flatB [])) ∧ (Con Try.prog 17 [vl 1 Ru32 p0] [] (vb y1) []), True, True] (by kernel_rfl) (by kernel_rfl) ⟨tv, ⟨⟨tv, tv⟩, ⟨ArgLe.refl _, tv⟩, (fun _ => tv), (natural_Valid_con p0 y1 e2)⟩, tv, tv, tv⟩ ?_
 refine AW.tn ?_
 refine AW.cond (b := !y1) (by kernel_rfl) (fun c3 => ?_) (fun c3 => ?_)
 ·rw [if_pos c3] at h
  refine AW.seq ?_
  refine AW.reg tt_ok2 [4, 5] [] [] ⟨[(5, vi64 20), (4, .c (.t (.v (.slice none 0 0))))], [], 7⟩ [True, True] (by kernel_rfl) (by kernel_rfl) ⟨tv, tv, tv⟩ ?_
  refine AW.tn ?_
  refine AW.ret ?_
  refine AW.inBlock_ret ?_
  refine AW.tr ?_
  obtain rfl := some_inj h
  exact ⟨_, conv_tm (tm' := [(5, vi64 20), (4, vl 1 Ru32 ([] : List Int))]) ⟨⟨vi64 20, by kernel_rfl, ALe.refl _ _⟩, ⟨.c (.t (.v (.slice none 0 0))), by kernel_rfl, ALe.c (CLe.nil rfl)⟩, tv⟩, .inr rfl, OutOk.mk [] 0 (out0 := .tup [vl 1 Ru32 ([] : List Int), vi64 20]) (ps := [True, True]) (by kernel_rfl) ⟨tv, tv, tv⟩ (by kernel_rfl) (by kernel_rfl)⟩
 ·rw [if_neg (nb c3)] at h
  refine AW.seq ?_
  refine AW.join (ι := Bool) (fun v => ⟨[(0, vl 1 Ru32 p0), (1, vi64 p1), (11, vb v)], [], 0⟩) (fun v : Bool => natural_Power_k6 p0 p1 v = some r) (fun v h => ?_) ?_
  ·
   obtain ⟨x4, rfl⟩ : ∃ x, x = v := ⟨_, rfl⟩
   replace h : natural_Power_k6 p0 p1 x4 = some r := h
   unfold natural_Power_k6 at h
   show (_ : Exit → St → Prop) .normal ⟨[(0, vl 1 Ru32 p0), (1, vi64 p1), (11, vb x4)], [], 0⟩
   refine AW.tn ?_
   refine AW.cond (b := x4) (by kernel_rfl) (fun c5 => ?_) (fun c5 => ?_)
   ·rw [if_pos c5] at h
    refine AW.seq ?_
    refine AW.reg tt_ok2 [4, 5] [] [] ⟨[(5, vi64 2), (4, .c (.t (.v (.slice none 0 0))))], [], 2⟩ [True, True] (by kernel_rfl) (by kernel_rfl) ⟨tv, tv, tv⟩ ?_
    refine AW.tn ?_
    refine AW.ret ?_
    refine AW.inBlock_ret ?_
    refine AW.tr ?_
    obtain rfl := some_inj h
    exact ⟨_, conv_tm (tm' := [(5, vi64 2), (4, vl 1 Ru32 ([] : List Int))]) ⟨⟨vi64 2, by kernel_rfl, ALe.refl _ _⟩, ⟨.c (.t (.v (.slice none 0 0))), by kernel_rfl, ALe.c (CLe.nil rfl)⟩, tv⟩, .inr rfl, OutOk.mk [] 0 (out0 := .tup [vl 1 Ru32 ([] : List Int), vi64 2]) (ps := [True, True]) (by kernel_rfl) ⟨tv, tv, tv⟩ (by kernel_rfl) (by kernel_rfl)⟩
   ·rw [if_neg (nb c5)] at h
    refine AW.seq ?_
    refine AW.join (ι := Bool) (fun v => ⟨[(0, vl 1 Ru32 p0), (1, vi64 p1), (18, vb v)], [], 0⟩) (fun v : Bool => natural_Power_k8 p0 p1 v = some r) (fun v h => ?_) ?_
    ·
     obtain ⟨x6, rfl⟩ : ∃ x, x = v := ⟨_, rfl⟩
     replace h : natural_Power_k8 p0 p1 x6 = some r := h
     unfold natural_Power_k8 at h
     show (_ : Exit → St → Prop) .normal ⟨[(0, vl 1 Ru32 p0), (1, vi64 p1), (18, vb x6)], [], 0⟩
     refine AW.tn ?_
     refine AW.cond (b := x6) (by kernel_rfl) (fun c7 => ?_) (fun c7 => ?_)
     ·rw [if_pos c7] at h
      refine AW.seq ?_
      refine AW.reg tt_ok2 [4, 5] [] [] ⟨[(5, vi64 0), (4, .c (.t (.v (.slice none 0 0))))], [], 2⟩ [True, True] (by kernel_rfl) (by kernel_rfl) ⟨tv, tv, tv⟩ ?_
      refine AW.tn ?_
      refine AW.ret ?_
      refine AW.inBlock_ret ?_
      refine AW.tr ?_
      obtain rfl := some_inj h
      exact ⟨_, conv_tm (tm' := [(5, vi64 0), (4, vl 1 Ru32 ([] : List Int))]) ⟨⟨vi64 0, by kernel_rfl, ALe.refl _ _⟩, ⟨.c (.t (.v (.slice none 0 0))), by kernel_rfl, ALe.c (CLe.nil rfl)⟩, tv⟩, .inr rfl, OutOk.mk [] 0 (out0 := .tup [vl 1 Ru32 ([] : List Int), vi64 0]) (ps := [True, True]) (by kernel_rfl) ⟨tv, tv, tv⟩ (by kernel_rfl) (by kernel_rfl)⟩
     ·rw [if_neg (nb c7)] at h
      refine AW.skip ?_
      refine AW.inBlock_normal ?_
      refine AW.tn ?_
      refine AW.seq ?_
      refine AW.reg tt_ok2 [0, 1, 6] [0] [{ h := { row := some (([1] : List Int).length, Ru32 ([1] : List Int)) } }] ⟨[(6, .c (.ref 0 1 0 (([1] : List Int).length))), (0, vl 1 Ru32 p0), (1, vi64 p1)], [(0, .row 37 false 1 ([1] : List Int).length (Ru32 ([1] : List Int)))], 2⟩ [1 = ([1] : List Int).length ∧ ∀ i, i < ([1] : List Int).length → ∀ j, j < 1 → TLe ((rowOf [.v (.int .u32 1)] 1) i j) (Ru32 ([1] : List Int) i j), True] (by kernel_rfl) (by kernel_rfl) ⟨⟨rfl, lit_row (n := 1) (sz := 1) ⟨tv, ⟨tv, TLe.refl _⟩⟩⟩, tv, tv⟩ ?_
      refine AW.tn ?_
      refine AW.seq ?_
      refine AW.seq ?_
      obtain ⟨y8, e9, h⟩ := bnd_some h
      refine AW.reg tt_ok2 [0, 1, 6, 30] [0] [{}, {}, { call := some { ids := [], frz := [], flat := true, cnt := 0, args := [vl 1 Ru32 p0, vl 1 Ru32 ([1] : List Int)], out := vi64 y8, outb := [] } }] ⟨[(30, vb (y8 == 0)), (6, .c (.ref 0 1 0 (([1] : List Int).length))), (0, vl 1 Ru32 p0), (1, vi64 p1)], [(0, .row 37 false 1 ([1] : List Int).length (Ru32 ([1] : List Int)))], 5⟩ [True, True, ((True) ∧ (0 + ([1] : List Int).length ≤ ([1] : List Int).length) ∧ (True)) ∧ (All2 ArgLe [vl 1 Ru32 p0, vl 1 Ru32 ([1] : List Int)] [vl 1 Ru32 p0, vl 1 Ru32 ([1] : List Int)]) ∧ ((true = true → flatB [])) ∧ (Con Try.prog 22 [vl 1 Ru32 p0, vl 1 Ru32 ([1] : List Int)] [] (vi64 y8) []), True] (by kernel_rfl) (by kernel_rfl) ⟨tv, tv, ⟨⟨tv, le0, tv⟩, ⟨ArgLe.refl _, ArgLe.refl _, tv⟩, (fun _ => tv), (natural_Compare_con p0 ([1] : List Int) y8 e9)⟩, tv, tv⟩ ?_
      refine AW.tn ?_
      refine AW.cond (b := (y8 == 0)) (by kernel_rfl) (fun c10 => ?_) (fun c10 => ?_)
      ·rw [if_pos c10] at h
       refine AW.seq ?_
       refine AW.reg tt_ok2 [4, 5] [0] [] ⟨[(5, vi64 0), (4, .c (.ref 0 1 0 (([1] : List Int).length)))], [(0, .row 37 false 1 ([1] : List Int).length (Ru32 ([1] : List Int)))], 8⟩ [True, True, True] (by kernel_rfl) (by kernel_rfl) ⟨tv, tv, tv, tv⟩ ?_
       refine AW.tn ?_
       refine AW.ret ?_
       refine AW.tr ?_
       obtain rfl := some_inj h
       exact ⟨_, Conv.trans (conv_row (id := 0) (ty := 37) (fro := false) (fro' := true) (sz := 1) (n := ([1] : List Int).length) (m := ([1] : List Int).length) (f := Ru32 ([1] : List Int)) (g := Ru32 ([1] : List Int)) (by kernel_rfl) (.inr rfl) rfl row_rfl) (conv_tm (tm' := [(5, vi64 0), (4, vl 1 Ru32 ([1] : List Int))]) ⟨⟨vi64 0, by kernel_rfl, ALe.refl _ _⟩, ⟨.c (.ref 0 1 0 (([1] : List Int).length)), by kernel_rfl, ALe.c (CLe.ref (ty := 37) (f := Ru32 ([1] : List Int)) (by kernel_rfl) le0)⟩, tv⟩), .inr rfl, OutOk.mk [] 0 (out0 := .tup [vl 1 Ru32 ([1] : List Int), vi64 0]) (ps := [True, True]) (by kernel_rfl) ⟨tv, tv, tv⟩ (by kernel_rfl) (by kernel_rfl)⟩
      ·rw [if_neg (nb c10)] at h
       refine AW.skip ?_
       refine AW.tn ?_
       refine AW.seq ?_
       refine AW.seq ?_
       refine AW.reg tt_ok2 [0, 6, 32, 33] [0] [] ⟨[(33, vi64 0), (32, vi64 p1), (6, .c (.ref 0 1 0 (([1] : List Int).length))), (0, vl 1 Ru32 p0)], [(0, .row 37 false 1 ([1] : List Int).length (Ru32 ([1] : List Int)))], 7⟩ [True, True] (by kernel_rfl) (by kernel_rfl) ⟨tv, tv, tv⟩ ?_
       refine AW.tn ?_
       refine AW.block ?_
       rcases bindE_some h with ⟨t, l23, h⟩ | ⟨t, l23, h⟩
       ·
        obtain ⟨x22, rfl⟩ : ∃ x, x = t := ⟨_, rfl⟩
        replace h : natural_Power_a13 x22 = some r := h
        unfold natural_Power_a13 at h
        refine AW.pre (S' := ((fun v => ⟨[(0, vl 1 Ru32 p0), (6, vl 1 Ru32 v.1), (32, vi64 p1), (33, vi64 v.2)], [], 0⟩) : ((List Int) × Int) → St) (([1] : List Int), 0)) (Conv.trans (conv_row (id := 0) (ty := 37) (fro := false) (fro' := true) (sz := 1) (n := ([1] : List Int).length) (m := ([1] : List Int).length) (f := Ru32 ([1] : List Int)) (g := Ru32 ([1] : List Int)) (by kernel_rfl) (.inr rfl) rfl row_rfl) (Conv.trans (conv_tm (tm' := [(0, vl 1 Ru32 p0), (6, vl 1 Ru32 ([1] : List Int)), (32, vi64 p1), (33, vi64 0)]) ⟨⟨vl 1 Ru32 p0, by kernel_rfl, ALe.refl _ _⟩, ⟨.c (.ref 0 1 0 (([1] : List Int).length)), by kernel_rfl, ALe.c (CLe.ref (ty := 37) (f := Ru32 ([1] : List Int)) (by kernel_rfl) le0)⟩, ⟨vi64 p1, by kernel_rfl, ALe.refl _ _⟩, ⟨vi64 0, by kernel_rfl, ALe.refl _ _⟩, tv⟩) (conv_ren [] [0, 6, 32, 33] (n := 0) (by kernel_rfl) (by kernel_rfl)))) ?_
        refine AW.loop2 (step := (fun v : (List Int) × Int => natural_Power_l12 p0 p1 v.1 v.2)) (s0 := (([1] : List Int), 0)) (t := .inl x22) (fun v => ⟨[(0, vl 1 Ru32 p0), (6, vl 1 Ru32 v.1), (32, vi64 p1), (33, vi64 v.2)], [], 0⟩) (fun t : ((List Int) ⊕ Unit) => match t with | .inl t => (.exit 1, ⟨[(6, vl 1 Ru32 t)], [], 0⟩) | .inr t => (.ret, ⟨[(4, .c (.t (.v (.slice none 0 0)))), (5, vi64 1)], [], 0⟩)) l23 (fun t => by cases t <;> trivial) ?_ ?_
        ·
         clear l23 h
         intro v o h
         obtain ⟨x13, x14⟩ := v
         replace h : natural_Power_l12 p0 p1 x13 x14 = some o := h
         unfold natural_Power_l12 at h
         show AW _ ⟨[(0, vl 1 Ru32 p0), (6, vl 1 Ru32 x13), (32, vi64 p1), (33, vi64 x14)], [], 0⟩ _ _
         refine AW.seq ?_
         refine AW.reg tt_ok2 [0, 6, 32, 33, 34] [] [] ⟨[(34, vb (decide (x14 < p1))), (0, vl 1 Ru32 p0), (6, vl 1 Ru32 x13), (32, vi64 p1), (33, vi64 x14)], [], 1⟩ [True] (by kernel_rfl) (by kernel_rfl) ⟨tv, tv⟩ ?_
         refine AW.tn ?_
         refine AW.seq ?_
         refine AW.cond (b := decide (x14 < p1)) (by kernel_rfl) (fun c16 => ?_) (fun c16 => ?_)
         ·rw [if_pos c16] at h
          refine AW.skip ?_
          refine AW.tn ?_
          refine AW.seq ?_
          refine AW.block ?_
          refine AW.seq ?_
          obtain ⟨y17, e18, h⟩ := bnd_some h
          refine AW.reg tt_ok2 [0, 6, 32, 33] [] [{}, {}, { call := some { ids := [], frz := [], flat := false, cnt := 0, args := [vl 1 Ru32 x13, vl 1 Ru32 p0], out := vl 1 Ru32 y17, outb := [] } }] ⟨[(6, vl 1 Ru32 y17), (0, vl 1 Ru32 p0), (32, vi64 p1), (33, vi64 x14)], [], 4⟩ [True, True, ((True) ∧ (True) ∧ (True)) ∧ (All2 ArgLe [vl 1 Ru32 x13, vl 1 Ru32 p0] [vl 1 Ru32 x13, vl 1 Ru32 p0]) ∧ ((false = true → flatB [])) ∧ (Con Try.prog 38 [vl 1 Ru32 x13, vl 1 Ru32 p0] [] (vl 1 Ru32 y17) []), True] (by kernel_rfl) (by kernel_rfl) ⟨tv, tv, ⟨⟨tv, tv, tv⟩, ⟨ArgLe.refl _, ArgLe.refl _, tv⟩, (fun h => by cases h), (natural_times_con x13 p0 y17 e18)⟩, tv, tv⟩ ?_
          refine AW.tn ?_
          refine AW.seq ?_
          obtain ⟨y19, e20, h⟩ := bnd_some h
          refine AW.reg tt_ok2 [0, 6, 32, 33, 40] [] [{}, { call := some { ids := [], frz := [], flat := true, cnt := 0, args := [vl 1 Ru32 y17], out := vb y19, outb := [] } }] ⟨[(40, vb (!y19)), (6, vl 1 Ru32 y17), (0, vl 1 Ru32 p0), (32, vi64 p1), (33, vi64 x14)], [], 6⟩ [True, ((True) ∧ (True)) ∧ (All2 ArgLe [vl 1 Ru32 y17] [vl 1 Ru32 y17]) ∧ ((true = true → flatB [])) ∧ (Con Try.prog 17 [vl 1 Ru32 y17] [] (vb y19) []), True] (by kernel_rfl) (by kernel_rfl) ⟨tv, ⟨⟨tv, tv⟩, ⟨ArgLe.refl _, tv⟩, (fun _ => tv), (natural_Valid_con y17 y19 e20)⟩, tv, tv⟩ ?_
          refine AW.tn ?_
          refine AW.cond (b := !y19) (by kernel_rfl) (fun c21 => ?_) (fun c21 => ?_)
          ·rw [if_pos c21] at h
           refine AW.seq ?_
           refine AW.reg tt_ok2 [4, 5] [] [] ⟨[(5, vi64 1), (4, .c (.t (.v (.slice none 0 0))))], [], 8⟩ [True, True] (by kernel_rfl) (by kernel_rfl) ⟨tv, tv, tv⟩ ?_
           refine AW.tn ?_
           refine AW.ret ?_
           refine AW.inBlock_ret ?_
           refine AW.tr ?_
           obtain rfl := some_inj h
           refine loopQ_out rfl (conv_ren [] [4, 5] (n := 0) (by kernel_rfl) (by kernel_rfl))
          ·rw [if_neg (nb c21)] at h
           refine AW.skip ?_
           refine AW.inBlock_normal ?_
           refine AW.tn ?_
           refine AW.reg tt_ok2 [0, 6, 32, 33] [] [] ⟨[(33, vi64 (i64.wrap (x14 + 1))), (6, vl 1 Ru32 y17), (0, vl 1 Ru32 p0), (32, vi64 p1)], [], 8⟩ [True, True] (by kernel_rfl) (by kernel_rfl) ⟨tv, tv, tv⟩ ?_
           obtain rfl := some_inj h
           refine loopQ_next (conv_ren [] [0, 6, 32, 33] (n := 0) (by kernel_rfl) (by kernel_rfl))
         ·rw [if_neg (nb c16)] at h
          refine AW.exit ?_
          refine AW.thenQ_exit ?_
          obtain rfl := some_inj h
          refine loopQ_out rfl (conv_ren [] [6] (n := 0) (by kernel_rfl) (by kernel_rfl))
        ·
         show (_ : Exit → St → Prop) (.exit 1) ⟨[(6, vl 1 Ru32 x22)], [], 0⟩
         refine AW.inBlock_hit ?_
         refine AW.tn ?_
         refine AW.seq ?_
         refine AW.reg tt_ok2 [4, 5] [] [] ⟨[(5, vi64 0), (4, vl 1 Ru32 x22)], [], 3⟩ [True, True, True] (by kernel_rfl) (by kernel_rfl) ⟨tv, tv, tv, tv⟩ ?_
         refine AW.tn ?_
         refine AW.ret ?_
         obtain rfl := some_inj h
         exact ⟨_, Conv.refl _ _, .inr rfl, OutOk.mk [] 0 (out0 := .tup [vl 1 Ru32 x22, vi64 0]) (ps := [True, True]) (by kernel_rfl) ⟨tv, tv, tv⟩ (by kernel_rfl) (by kernel_rfl)⟩
       ·
        replace h : natural_Power_a14 = some r := h
        unfold natural_Power_a14 at h
        refine AW.pre (S' := ((fun v => ⟨[(0, vl 1 Ru32 p0), (6, vl 1 Ru32 v.1), (32, vi64 p1), (33, vi64 v.2)], [], 0⟩) : ((List Int) × Int) → St) (([1] : List Int), 0)) (Conv.trans (conv_row (id := 0) (ty := 37) (fro := false) (fro' := true) (sz := 1) (n := ([1] : List Int).length) (m := ([1] : List Int).length) (f := Ru32 ([1] : List Int)) (g := Ru32 ([1] : List Int)) (by kernel_rfl) (.inr rfl) rfl row_rfl) (Conv.trans (conv_tm (tm' := [(0, vl 1 Ru32 p0), (6, vl 1 Ru32 ([1] : List Int)), (32, vi64 p1), (33, vi64 0)]) ⟨⟨vl 1 Ru32 p0, by kernel_rfl, ALe.refl _ _⟩, ⟨.c (.ref 0 1 0 (([1] : List Int).length)), by kernel_rfl, ALe.c (CLe.ref (ty := 37) (f := Ru32 ([1] : List Int)) (by kernel_rfl) le0)⟩, ⟨vi64 p1, by kernel_rfl, ALe.refl _ _⟩, ⟨vi64 0, by kernel_rfl, ALe.refl _ _⟩, tv⟩) (conv_ren [] [0, 6, 32, 33] (n := 0) (by kernel_rfl) (by kernel_rfl)))) ?_
        refine AW.loop2 (step := (fun v : (List Int) × Int => natural_Power_l12 p0 p1 v.1 v.2)) (s0 := (([1] : List Int), 0)) (t := .inr ()) (fun v => ⟨[(0, vl 1 Ru32 p0), (6, vl 1 Ru32 v.1), (32, vi64 p1), (33, vi64 v.2)], [], 0⟩) (fun t : ((List Int) ⊕ Unit) => match t with | .inl t => (.exit 1, ⟨[(6, vl 1 Ru32 t)], [], 0⟩) | .inr t => (.ret, ⟨[(4, .c (.t (.v (.slice none 0 0)))), (5, vi64 1)], [], 0⟩)) l23 (fun t => by cases t <;> trivial) ?_ ?_
        ·
         clear l23 h
         intro v o h
         obtain ⟨x13, x14⟩ := v
         replace h : natural_Power_l12 p0 p1 x13 x14 = some o := h
         unfold natural_Power_l12 at h
         show AW _ ⟨[(0, vl 1 Ru32 p0), (6, vl 1 Ru32 x13), (32, vi64 p1), (33, vi64 x14)], [], 0⟩ _ _
         refine AW.seq ?_
         refine AW.reg tt_ok2 [0, 6, 32, 33, 34] [] [] ⟨[(34, vb (decide (x14 < p1))), (0, vl 1 Ru32 p0), (6, vl 1 Ru32 x13), (32, vi64 p1), (33, vi64 x14)], [], 1⟩ [True] (by kernel_rfl) (by kernel_rfl) ⟨tv, tv⟩ ?_
         refine AW.tn ?_
         refine AW.seq ?_
         refine AW.cond (b := decide (x14 < p1)) (by kernel_rfl) (fun c16 => ?_) (fun c16 => ?_)
         ·rw [if_pos c16] at h
          refine AW.skip ?_
          refine AW.tn ?_
          refine AW.seq ?_
          refine AW.block ?_
          refine AW.seq ?_
          obtain ⟨y17, e18, h⟩ := bnd_some h
          refine AW.reg tt_ok2 [0, 6, 32, 33] [] [{}, {}, { call := some { ids := [], frz := [], flat := false, cnt := 0, args := [vl 1 Ru32 x13, vl 1 Ru32 p0], out := vl 1 Ru32 y17, outb := [] } }] ⟨[(6, vl 1 Ru32 y17), (0, vl 1 Ru32 p0), (32, vi64 p1), (33, vi64 x14)], [], 4⟩ [True, True, ((True) ∧ (True) ∧ (True)) ∧ (All2 ArgLe [vl 1 Ru32 x13, vl 1 Ru32 p0] [vl 1 Ru32 x13, vl 1 Ru32 p0]) ∧ ((false = true → flatB [])) ∧ (Con Try.prog 38 [vl 1 Ru32 x13, vl 1 Ru32 p0] [] (vl 1 Ru32 y17) []), True] (by kernel_rfl) (by kernel_rfl) ⟨tv, tv, ⟨⟨tv, tv, tv⟩, ⟨ArgLe.refl _, ArgLe.refl _, tv⟩, (fun h => by cases h), (natural_times_con x13 p0 y17 e18)⟩, tv, tv⟩ ?_
          refine AW.tn ?_
          refine AW.seq ?_
          obtain ⟨y19, e20, h⟩ := bnd_some h
          refine AW.reg tt_ok2 [0, 6, 32, 33, 40] [] [{}, { call := some { ids := [], frz := [], flat := true, cnt := 0, args := [vl 1 Ru32 y17], out := vb y19, outb := [] } }] ⟨[(40, vb (!y19)), (6, vl 1 Ru32 y17), (0, vl 1 Ru32 p0), (32, vi64 p1), (33, vi64 x14)], [], 6⟩ [True, ((True) ∧ (True)) ∧ (All2 ArgLe [vl 1 Ru32 y17] [vl 1 Ru32 y17]) ∧ ((true = true → flatB [])) ∧ (Con Try.prog 17 [vl 1 Ru32 y17] [] (vb y19) []), True] (by kernel_rfl) (by kernel_rfl) ⟨tv, ⟨⟨tv, tv⟩, ⟨ArgLe.refl _, tv⟩, (fun _ => tv), (natural_Valid_con y17 y19 e20)⟩, tv, tv⟩ ?_
          refine AW.tn ?_
          refine AW.cond (b := !y19) (by kernel_rfl) (fun c21 => ?_) (fun c21 => ?_)
          ·rw [if_pos c21] at h
           refine AW.seq ?_
           refine AW.reg tt_ok2 [4, 5] [] [] ⟨[(5, vi64 1), (4, .c (.t (.v (.slice none 0 0))))], [], 8⟩ [True, True] (by kernel_rfl) (by kernel_rfl) ⟨tv, tv, tv⟩ ?_
           refine AW.tn ?_
           refine AW.ret ?_
           refine AW.inBlock_ret ?_
           refine AW.tr ?_
           obtain rfl := some_inj h
           refine loopQ_out rfl (conv_ren [] [4, 5] (n := 0) (by kernel_rfl) (by kernel_rfl))
          ·rw [if_neg (nb c21)] at h
           refine AW.skip ?_
           refine AW.inBlock_normal ?_
           refine AW.tn ?_
           refine AW.reg tt_ok2 [0, 6, 32, 33] [] [] ⟨[(33, vi64 (i64.wrap (x14 + 1))), (6, vl 1 Ru32 y17), (0, vl 1 Ru32 p0), (32, vi64 p1)], [], 8⟩ [True, True] (by kernel_rfl) (by kernel_rfl) ⟨tv, tv, tv⟩ ?_
           obtain rfl := some_inj h
           refine loopQ_next (conv_ren [] [0, 6, 32, 33] (n := 0) (by kernel_rfl) (by kernel_rfl))
         ·rw [if_neg (nb c16)] at h
          refine AW.exit ?_
          refine AW.thenQ_exit ?_
          obtain rfl := some_inj h
          refine loopQ_out rfl (conv_ren [] [6] (n := 0) (by kernel_rfl) (by kernel_rfl))
        ·
         show (_ : Exit → St → Prop) (.ret) ⟨[(4, .c (.t (.v (.slice none 0 0)))), (5, vi64 1)], [], 0⟩
         refine AW.inBlock_ret ?_
         refine AW.tr ?_
         obtain rfl := some_inj h
         exact ⟨_, conv_tm (tm' := [(4, vl 1 Ru32 ([] : List Int)), (5, vi64 1)]) ⟨⟨.c (.t (.v (.slice none 0 0))), by kernel_rfl, ALe.c (CLe.nil rfl)⟩, ⟨vi64 1, by kernel_rfl, ALe.refl _ _⟩, tv⟩, .inr rfl, OutOk.mk [] 0 (out0 := .tup [vl 1 Ru32 ([] : List Int), vi64 1]) (ps := [True, True]) (by kernel_rfl) ⟨tv, tv, tv⟩ (by kernel_rfl) (by kernel_rfl)⟩
    ·
     by_cases c24 : (((p0.length : Nat) : Int) == 0) = true
     ·rw [if_pos c24] at h
      refine AW.reg tt_ok2 [0, 1, 18] [] [{}, {}, { h := { b := some true } }] ⟨[(18, vb (decide (p1 > 0))), (0, vl 1 Ru32 p0), (1, vi64 p1)], [], 8⟩ [True, True, (((p0.length : Nat) : Int) == 0) = true, True, True, True, True, True] (by kernel_rfl) (by kernel_rfl) ⟨tv, tv, c24, tv, tv, tv, tv, tv, tv⟩ ?_
      exact joinQ_leaf (decide (p1 > 0)) h (conv_ren [] [0, 1, 18] (n := 0) (by kernel_rfl) (by kernel_rfl))
     ·rw [if_neg c24] at h
      refine AW.reg tt_ok2 [0, 1, 18] [] [{}, {}, { h := { b := some false } }] ⟨[(18, vb false), (0, vl 1 Ru32 p0), (1, vi64 p1)], [], 8⟩ [True, True, (((p0.length : Nat) : Int) == 0) = false, True, True, True, True, True] (by kernel_rfl) (by kernel_rfl) ⟨tv, tv, (off_false c24), tv, tv, tv, tv, tv, tv⟩ ?_
      exact joinQ_leaf (false) h (conv_ren [] [0, 1, 18] (n := 0) (by kernel_rfl) (by kernel_rfl))
  ·
   by_cases c25 : (decide (p1 < 0)) = true
   ·rw [if_pos c25] at h
    refine AW.reg tt_ok2 [0, 1, 11] [] [{}, { h := { b := some true } }] ⟨[(11, vb true), (0, vl 1 Ru32 p0), (1, vi64 p1)], [], 12⟩ [True, (decide (p1 < 0)) = true, True, True, True, True, True] (by kernel_rfl) (by kernel_rfl) ⟨tv, c25, tv, tv, tv, tv, tv, tv⟩ ?_
    exact joinQ_leaf (true) h (conv_ren [] [0, 1, 11] (n := 0) (by kernel_rfl) (by kernel_rfl))
   ·rw [if_neg c25] at h
    refine AW.reg tt_ok2 [0, 1, 11] [] [{}, { h := { b := some false } }] ⟨[(11, vb (decide (p1 > 4096))), (0, vl 1 Ru32 p0), (1, vi64 p1)], [], 12⟩ [True, (decide (p1 < 0)) = false, True, True, True, True, True] (by kernel_rfl) (by kernel_rfl) ⟨tv, (off_false c25), tv, tv, tv, tv, tv, tv⟩ ?_
    exact joinQ_leaf (decide (p1 > 4096)) h (conv_ren [] [0, 1, 11] (n := 0) (by kernel_rfl) (by kernel_rfl))
/-! recordlink/recordlinkref10.Power -/
noncomputable def rl_ref10_Power_l8 (p0 : List Int) (p1 : Int) (x8 : List Int) (x9 : Int) : Option (((List Int) × Int) ⊕ ((List Int) ⊕ Unit)) := if (decide (x9 < p1)) = true then ((rl_ref10_product x8 p0).bind fun y12 => (if (decide (((y12.length : Nat) : Int) > 64)) = true then (some (.inr (.inr ()))) else (some (.inl (y12, i64.wrap (x9 + 1)))))) else (some (.inr (.inl x8)))
noncomputable def rl_ref10_Power_a9 (x15 : List Int) : Option ((List Int) × Int) := some (x15, 0)
noncomputable def rl_ref10_Power_a10 : Option ((List Int) × Int) := some (([] : List Int), 1)
noncomputable def rl_ref10_Power_k4 (p0 : List Int) (p1 : Int) (x4 : Bool) : Option ((List Int) × Int) := if x4 = true then (some (([] : List Int), 2)) else (bindE (loop (fun v : (List Int) × Int => rl_ref10_Power_l8 p0 p1 v.1 v.2) (([1] : List Int), 0)) (fun t => rl_ref10_Power_a9 t) (fun t => rl_ref10_Power_a10))
noncomputable def rl_ref10_Power (p0 : List Int) (p1 : Int) : Option ((List Int) × Int) := (rl_ref10_Valid p0).bind fun y1 => (if (!y1) = true then (some (([] : List Int), 20)) else (if (decide (p1 < 0)) = true then (rl_ref10_Power_k4 p0 p1 true) else (rl_ref10_Power_k4 p0 p1 (decide (p1 > 4096)))))
set_option maxRecDepth 100000 in
set_option maxHeartbeats 10000000 in
theorem rl_ref10_Power_con (p0 : List Int) (p1 : Int) (r0 : List Int) (r1 : Int) (h : rl_ref10_Power p0 p1 = some (r0, r1)) : Con Try.prog 33 [vl 1 Ru32 p0, vi64 p1] [] (.tup [vl 1 Ru32 r0, vi64 r1]) [] := by
 suffices H : ∀ r, rl_ref10_Power p0 p1 = some r → Con Try.prog 33 [vl 1 Ru32 p0, vi64 p1] [] (.tup [vl 1 Ru32 r.1, vi64 r.2]) [] from H (r0, r1) h
 clear h
 intro r h
 refine con_of tt_ok2 0 Try.func33 (by kernel_rfl) rfl (by kernel_rfl) (fun base X hk => AW.post ?_)
 unfold rl_ref10_Power at h
 refine AW.seq ?_
 refine AW.reg tt_ok2 [0, 1] [] [] ⟨[(0, vl 1 Ru32 p0), (1, vi64 p1)], [], 2⟩ [True, True] (by kernel_rfl) (by kernel_rfl) ⟨tv, tv, tv⟩ ?_
 refine AW.tn ?_
 refine AW.seq ?_
 refine AW.seq ?_
 obtain ⟨y1, e2, h⟩ := bnd_some h
 refine AW.reg tt_ok2 [0, 1, 10] [] [{}, { call := some { ids := [], frz := [], flat := true, cnt := 0, args := [vl 1 Ru32 p0], out := vb y1, outb := [] } }] ⟨[(10, vb (!y1)), (0, vl 1 Ru32 p0), (1, vi64 p1)], [], 4⟩ [True, ((True) ∧ (True)) ∧ (All2 ArgLe [vl 1 Ru32 p0] [vl 1 Ru32 p0]) ∧ ((true = true → flatB [])) ∧ (Con Try.prog 31 [vl 1 Ru32 p0] [] (vb y1) []), True] (by kernel_rfl) (by kernel_rfl) ⟨tv, ⟨⟨tv, tv⟩, ⟨ArgLe.refl _, tv⟩, (fun _ => tv), (rl_ref10_Valid_con p0 y1 e2)⟩, tv, tv⟩ ?_
 refine AW.tn ?_
 refine AW.cond (b := !y1) (by kernel_rfl) (fun c3 => ?_) (fun c3 => ?_)
 ·rw [if_pos c3] at h
  refine AW.seq ?_
  refine AW.reg tt_ok2 [4, 5] [] [] ⟨[(5, vi64 20), (4, .c (.t (.v (.slice none 0 0))))], [], 6⟩ [True, True] (by kernel_rfl) (by kernel_rfl) ⟨tv, tv, tv⟩ ?_
  refine AW.tn ?_
  refine AW.ret ?_
  refine AW.tr ?_
  obtain rfl := some_inj h
  exact ⟨_, conv_tm (tm' := [(5, vi64 20), (4, vl 1 Ru32 ([] : List Int))]) ⟨⟨vi64 20, by kernel_rfl, ALe.refl _ _⟩, ⟨.c (.t (.v (.slice none 0 0))), by kernel_rfl, ALe.c (CLe.nil rfl)⟩, tv⟩, .inr rfl, OutOk.mk [] 0 (out0 := .tup [vl 1 Ru32 ([] : List Int), vi64 20]) (ps := [True, True]) (by kernel_rfl) ⟨tv, tv, tv⟩ (by kernel_rfl) (by kernel_rfl)⟩
 ·rw [if_neg (nb c3)] at h
  refine AW.skip ?_
  refine AW.tn ?_
  refine AW.seq ?_
  refine AW.seq ?_
  refine AW.join (ι := Bool) (fun v => ⟨[(0, vl 1 Ru32 p0), (1, vi64 p1), (16, vb v)], [], 0⟩) (fun v : Bool => rl_ref10_Power_k4 p0 p1 v = some r) (fun v h => ?_) ?_
  ·
   obtain ⟨x4, rfl⟩ : ∃ x, x = v := ⟨_, rfl⟩
   replace h : rl_ref10_Power_k4 p0 p1 x4 = some r := h
   unfold rl_ref10_Power_k4 at h
   show (_ : Exit → St → Prop) .normal ⟨[(0, vl 1 Ru32 p0), (1, vi64 p1), (16, vb x4)], [], 0⟩
   refine AW.tn ?_
   refine AW.cond (b := x4) (by kernel_rfl) (fun c5 => ?_) (fun c5 => ?_)
   ·rw [if_pos c5] at h
    refine AW.seq ?_
    refine AW.reg tt_ok2 [4, 5] [] [] ⟨[(5, vi64 2), (4, .c (.t (.v (.slice none 0 0))))], [], 2⟩ [True, True] (by kernel_rfl) (by kernel_rfl) ⟨tv, tv, tv⟩ ?_
    refine AW.tn ?_
    refine AW.ret ?_
    refine AW.tr ?_
    obtain rfl := some_inj h
    exact ⟨_, conv_tm (tm' := [(5, vi64 2), (4, vl 1 Ru32 ([] : List Int))]) ⟨⟨vi64 2, by kernel_rfl, ALe.refl _ _⟩, ⟨.c (.t (.v (.slice none 0 0))), by kernel_rfl, ALe.c (CLe.nil rfl)⟩, tv⟩, .inr rfl, OutOk.mk [] 0 (out0 := .tup [vl 1 Ru32 ([] : List Int), vi64 2]) (ps := [True, True]) (by kernel_rfl) ⟨tv, tv, tv⟩ (by kernel_rfl) (by kernel_rfl)⟩
   ·rw [if_neg (nb c5)] at h
    refine AW.skip ?_
    refine AW.tn ?_
    refine AW.seq ?_
    refine AW.reg tt_ok2 [0, 1, 6] [0] [{ h := { row := some (([1] : List Int).length, Ru32 ([1] : List Int)) } }] ⟨[(6, .c (.ref 0 1 0 (([1] : List Int).length))), (0, vl 1 Ru32 p0), (1, vi64 p1)], [(0, .row 37 false 1 ([1] : List Int).length (Ru32 ([1] : List Int)))], 2⟩ [1 = ([1] : List Int).length ∧ ∀ i, i < ([1] : List Int).length → ∀ j, j < 1 → TLe ((rowOf [.v (.int .u32 1)] 1) i j) (Ru32 ([1] : List Int) i j), True] (by kernel_rfl) (by kernel_rfl) ⟨⟨rfl, lit_row (n := 1) (sz := 1) ⟨tv, ⟨tv, TLe.refl _⟩⟩⟩, tv, tv⟩ ?_
    refine AW.tn ?_
    refine AW.seq ?_
    refine AW.seq ?_
    refine AW.reg tt_ok2 [0, 1, 6, 7] [0] [] ⟨[(7, vi64 0), (6, .c (.ref 0 1 0 (([1] : List Int).length))), (0, vl 1 Ru32 p0), (1, vi64 p1)], [(0, .row 37 false 1 ([1] : List Int).length (Ru32 ([1] : List Int)))], 3⟩ [True] (by kernel_rfl) (by kernel_rfl) ⟨tv, tv⟩ ?_
    refine AW.tn ?_
    refine AW.block ?_
    rcases bindE_some h with ⟨t, l16, h⟩ | ⟨t, l16, h⟩
    ·
     obtain ⟨x15, rfl⟩ : ∃ x, x = t := ⟨_, rfl⟩
     replace h : rl_ref10_Power_a9 x15 = some r := h
     unfold rl_ref10_Power_a9 at h
     refine AW.pre (S' := ((fun v => ⟨[(0, vl 1 Ru32 p0), (1, vi64 p1), (6, vl 1 Ru32 v.1), (7, vi64 v.2)], [], 0⟩) : ((List Int) × Int) → St) (([1] : List Int), 0)) (Conv.trans (conv_row (id := 0) (ty := 37) (fro := false) (fro' := true) (sz := 1) (n := ([1] : List Int).length) (m := ([1] : List Int).length) (f := Ru32 ([1] : List Int)) (g := Ru32 ([1] : List Int)) (by kernel_rfl) (.inr rfl) rfl row_rfl) (Conv.trans (conv_tm (tm' := [(0, vl 1 Ru32 p0), (1, vi64 p1), (6, vl 1 Ru32 ([1] : List Int)), (7, vi64 0)]) ⟨⟨vl 1 Ru32 p0, by kernel_rfl, ALe.refl _ _⟩, ⟨vi64 p1, by kernel_rfl, ALe.refl _ _⟩, ⟨.c (.ref 0 1 0 (([1] : List Int).length)), by kernel_rfl, ALe.c (CLe.ref (ty := 37) (f := Ru32 ([1] : List Int)) (by kernel_rfl) le0)⟩, ⟨vi64 0, by kernel_rfl, ALe.refl _ _⟩, tv⟩) (conv_ren [] [0, 1, 6, 7] (n := 0) (by kernel_rfl) (by kernel_rfl)))) ?_
     refine AW.loop2 (step := (fun v : (List Int) × Int => rl_ref10_Power_l8 p0 p1 v.1 v.2)) (s0 := (([1] : List Int), 0)) (t := .inl x15) (fun v => ⟨[(0, vl 1 Ru32 p0), (1, vi64 p1), (6, vl 1 Ru32 v.1), (7, vi64 v.2)], [], 0⟩) (fun t : ((List Int) ⊕ Unit) => match t with | .inl t => (.exit 0, ⟨[(6, vl 1 Ru32 t)], [], 0⟩) | .inr t => (.ret, ⟨[(4, .c (.t (.v (.slice none 0 0)))), (5, vi64 1)], [], 0⟩)) l16 (fun t => by cases t <;> trivial) ?_ ?_
     ·
      clear l16 h
      intro v o h
      obtain ⟨x8, x9⟩ := v
      replace h : rl_ref10_Power_l8 p0 p1 x8 x9 = some o := h
      unfold rl_ref10_Power_l8 at h
      show AW _ ⟨[(0, vl 1 Ru32 p0), (1, vi64 p1), (6, vl 1 Ru32 x8), (7, vi64 x9)], [], 0⟩ _ _
      refine AW.seq ?_
      refine AW.seq ?_
      refine AW.reg tt_ok2 [0, 1, 6, 7, 20] [] [] ⟨[(20, vb (decide (x9 < p1))), (0, vl 1 Ru32 p0), (1, vi64 p1), (6, vl 1 Ru32 x8), (7, vi64 x9)], [], 3⟩ [True, True, True] (by kernel_rfl) (by kernel_rfl) ⟨tv, tv, tv, tv⟩ ?_
      refine AW.tn ?_
      refine AW.cond (b := decide (x9 < p1)) (by kernel_rfl) (fun c11 => ?_) (fun c11 => ?_)
      ·rw [if_pos c11] at h
       refine AW.skip ?_
       refine AW.tn ?_
       refine AW.seq ?_
       refine AW.block ?_
       refine AW.seq ?_
       obtain ⟨y12, e13, h⟩ := bnd_some h
       refine AW.reg tt_ok2 [0, 1, 6, 7] [] [{}, {}, { call := some { ids := [], frz := [], flat := false, cnt := 0, args := [vl 1 Ru32 x8, vl 1 Ru32 p0], out := vl 1 Ru32 y12, outb := [] } }] ⟨[(6, vl 1 Ru32 y12), (0, vl 1 Ru32 p0), (1, vi64 p1), (7, vi64 x9)], [], 6⟩ [True, True, ((True) ∧ (True) ∧ (True)) ∧ (All2 ArgLe [vl 1 Ru32 x8, vl 1 Ru32 p0] [vl 1 Ru32 x8, vl 1 Ru32 p0]) ∧ ((false = true → flatB [])) ∧ (Con Try.prog 52 [vl 1 Ru32 x8, vl 1 Ru32 p0] [] (vl 1 Ru32 y12) []), True] (by kernel_rfl) (by kernel_rfl) ⟨tv, tv, ⟨⟨tv, tv, tv⟩, ⟨ArgLe.refl _, ArgLe.refl _, tv⟩, (fun h => by cases h), (rl_ref10_product_con x8 p0 y12 e13)⟩, tv, tv⟩ ?_
       refine AW.tn ?_
       refine AW.seq ?_
       refine AW.reg tt_ok2 [0, 1, 6, 7, 28] [] [] ⟨[(28, vb (decide (((y12.length : Nat) : Int) > 64))), (6, vl 1 Ru32 y12), (0, vl 1 Ru32 p0), (1, vi64 p1), (7, vi64 x9)], [], 9⟩ [True, True, True] (by kernel_rfl) (by kernel_rfl) ⟨tv, tv, tv, tv⟩ ?_
       refine AW.tn ?_
       refine AW.cond (b := decide (((y12.length : Nat) : Int) > 64)) (by kernel_rfl) (fun c14 => ?_) (fun c14 => ?_)
       ·rw [if_pos c14] at h
        refine AW.seq ?_
        refine AW.reg tt_ok2 [4, 5] [] [] ⟨[(5, vi64 1), (4, .c (.t (.v (.slice none 0 0))))], [], 11⟩ [True, True] (by kernel_rfl) (by kernel_rfl) ⟨tv, tv, tv⟩ ?_
        refine AW.tn ?_
        refine AW.ret ?_
        refine AW.inBlock_ret ?_
        refine AW.tr ?_
        obtain rfl := some_inj h
        refine loopQ_out rfl (conv_ren [] [4, 5] (n := 0) (by kernel_rfl) (by kernel_rfl))
       ·rw [if_neg (nb c14)] at h
        refine AW.skip ?_
        refine AW.inBlock_normal ?_
        refine AW.tn ?_
        refine AW.reg tt_ok2 [0, 1, 6, 7] [] [] ⟨[(7, vi64 (i64.wrap (x9 + 1))), (6, vl 1 Ru32 y12), (0, vl 1 Ru32 p0), (1, vi64 p1)], [], 12⟩ [True, True, True] (by kernel_rfl) (by kernel_rfl) ⟨tv, tv, tv, tv⟩ ?_
        obtain rfl := some_inj h
        refine loopQ_next (conv_ren [] [0, 1, 6, 7] (n := 0) (by kernel_rfl) (by kernel_rfl))
      ·rw [if_neg (nb c11)] at h
       refine AW.exit ?_
       refine AW.thenQ_exit ?_
       obtain rfl := some_inj h
       refine loopQ_out rfl (conv_ren [] [6] (n := 0) (by kernel_rfl) (by kernel_rfl))
     ·
      show (_ : Exit → St → Prop) (.exit 0) ⟨[(6, vl 1 Ru32 x15)], [], 0⟩
      refine AW.inBlock_hit ?_
      refine AW.tn ?_
      refine AW.seq ?_
      refine AW.reg tt_ok2 [4, 5] [] [] ⟨[(5, vi64 0), (4, vl 1 Ru32 x15)], [], 3⟩ [True, True, True] (by kernel_rfl) (by kernel_rfl) ⟨tv, tv, tv, tv⟩ ?_
      refine AW.tn ?_
      refine AW.ret ?_
      obtain rfl := some_inj h
      exact ⟨_, Conv.refl _ _, .inr rfl, OutOk.mk [] 0 (out0 := .tup [vl 1 Ru32 x15, vi64 0]) (ps := [True, True]) (by kernel_rfl) ⟨tv, tv, tv⟩ (by kernel_rfl) (by kernel_rfl)⟩
    ·
     replace h : rl_ref10_Power_a10 = some r := h
     unfold rl_ref10_Power_a10 at h
     refine AW.pre (S' := ((fun v => ⟨[(0, vl 1 Ru32 p0), (1, vi64 p1), (6, vl 1 Ru32 v.1), (7, vi64 v.2)], [], 0⟩) : ((List Int) × Int) → St) (([1] : List Int), 0)) (Conv.trans (conv_row (id := 0) (ty := 37) (fro := false) (fro' := true) (sz := 1) (n := ([1] : List Int).length) (m := ([1] : List Int).length) (f := Ru32 ([1] : List Int)) (g := Ru32 ([1] : List Int)) (by kernel_rfl) (.inr rfl) rfl row_rfl) (Conv.trans (conv_tm (tm' := [(0, vl 1 Ru32 p0), (1, vi64 p1), (6, vl 1 Ru32 ([1] : List Int)), (7, vi64 0)]) ⟨⟨vl 1 Ru32 p0, by kernel_rfl, ALe.refl _ _⟩, ⟨vi64 p1, by kernel_rfl, ALe.refl _ _⟩, ⟨.c (.ref 0 1 0 (([1] : List Int).length)), by kernel_rfl, ALe.c (CLe.ref (ty := 37) (f := Ru32 ([1] : List Int)) (by kernel_rfl) le0)⟩, ⟨vi64 0, by kernel_rfl, ALe.refl _ _⟩, tv⟩) (conv_ren [] [0, 1, 6, 7] (n := 0) (by kernel_rfl) (by kernel_rfl)))) ?_
     refine AW.loop2 (step := (fun v : (List Int) × Int => rl_ref10_Power_l8 p0 p1 v.1 v.2)) (s0 := (([1] : List Int), 0)) (t := .inr ()) (fun v => ⟨[(0, vl 1 Ru32 p0), (1, vi64 p1), (6, vl 1 Ru32 v.1), (7, vi64 v.2)], [], 0⟩) (fun t : ((List Int) ⊕ Unit) => match t with | .inl t => (.exit 0, ⟨[(6, vl 1 Ru32 t)], [], 0⟩) | .inr t => (.ret, ⟨[(4, .c (.t (.v (.slice none 0 0)))), (5, vi64 1)], [], 0⟩)) l16 (fun t => by cases t <;> trivial) ?_ ?_
     ·
      clear l16 h
      intro v o h
      obtain ⟨x8, x9⟩ := v
      replace h : rl_ref10_Power_l8 p0 p1 x8 x9 = some o := h
      unfold rl_ref10_Power_l8 at h
      show AW _ ⟨[(0, vl 1 Ru32 p0), (1, vi64 p1), (6, vl 1 Ru32 x8), (7, vi64 x9)], [], 0⟩ _ _
      refine AW.seq ?_
      refine AW.seq ?_
      refine AW.reg tt_ok2 [0, 1, 6, 7, 20] [] [] ⟨[(20, vb (decide (x9 < p1))), (0, vl 1 Ru32 p0), (1, vi64 p1), (6, vl 1 Ru32 x8), (7, vi64 x9)], [], 3⟩ [True, True, True] (by kernel_rfl) (by kernel_rfl) ⟨tv, tv, tv, tv⟩ ?_
      refine AW.tn ?_
      refine AW.cond (b := decide (x9 < p1)) (by kernel_rfl) (fun c11 => ?_) (fun c11 => ?_)
      ·rw [if_pos c11] at h
       refine AW.skip ?_
       refine AW.tn ?_
       refine AW.seq ?_
       refine AW.block ?_
       refine AW.seq ?_
       obtain ⟨y12, e13, h⟩ := bnd_some h
       refine AW.reg tt_ok2 [0, 1, 6, 7] [] [{}, {}, { call := some { ids := [], frz := [], flat := false, cnt := 0, args := [vl 1 Ru32 x8, vl 1 Ru32 p0], out := vl 1 Ru32 y12, outb := [] } }] ⟨[(6, vl 1 Ru32 y12), (0, vl 1 Ru32 p0), (1, vi64 p1), (7, vi64 x9)], [], 6⟩ [True, True, ((True) ∧ (True) ∧ (True)) ∧ (All2 ArgLe [vl 1 Ru32 x8, vl 1 Ru32 p0] [vl 1 Ru32 x8, vl 1 Ru32 p0]) ∧ ((false = true → flatB [])) ∧ (Con Try.prog 52 [vl 1 Ru32 x8, vl 1 Ru32 p0] [] (vl 1 Ru32 y12) []), True] (by kernel_rfl) (by kernel_rfl) ⟨tv, tv, ⟨⟨tv, tv, tv⟩, ⟨ArgLe.refl _, ArgLe.refl _, tv⟩, (fun h => by cases h), (rl_ref10_product_con x8 p0 y12 e13)⟩, tv, tv⟩ ?_
       refine AW.tn ?_
       refine AW.seq ?_
       refine AW.reg tt_ok2 [0, 1, 6, 7, 28] [] [] ⟨[(28, vb (decide (((y12.length : Nat) : Int) > 64))), (6, vl 1 Ru32 y12), (0, vl 1 Ru32 p0), (1, vi64 p1), (7, vi64 x9)], [], 9⟩ [True, True, True] (by kernel_rfl) (by kernel_rfl) ⟨tv, tv, tv, tv⟩ ?_
       refine AW.tn ?_
       refine AW.cond (b := decide (((y12.length : Nat) : Int) > 64)) (by kernel_rfl) (fun c14 => ?_) (fun c14 => ?_)
       ·rw [if_pos c14] at h
        refine AW.seq ?_
        refine AW.reg tt_ok2 [4, 5] [] [] ⟨[(5, vi64 1), (4, .c (.t (.v (.slice none 0 0))))], [], 11⟩ [True, True] (by kernel_rfl) (by kernel_rfl) ⟨tv, tv, tv⟩ ?_
        refine AW.tn ?_
        refine AW.ret ?_
        refine AW.inBlock_ret ?_
        refine AW.tr ?_
        obtain rfl := some_inj h
        refine loopQ_out rfl (conv_ren [] [4, 5] (n := 0) (by kernel_rfl) (by kernel_rfl))
       ·rw [if_neg (nb c14)] at h
        refine AW.skip ?_
        refine AW.inBlock_normal ?_
        refine AW.tn ?_
        refine AW.reg tt_ok2 [0, 1, 6, 7] [] [] ⟨[(7, vi64 (i64.wrap (x9 + 1))), (6, vl 1 Ru32 y12), (0, vl 1 Ru32 p0), (1, vi64 p1)], [], 12⟩ [True, True, True] (by kernel_rfl) (by kernel_rfl) ⟨tv, tv, tv, tv⟩ ?_
        obtain rfl := some_inj h
        refine loopQ_next (conv_ren [] [0, 1, 6, 7] (n := 0) (by kernel_rfl) (by kernel_rfl))
      ·rw [if_neg (nb c11)] at h
       refine AW.exit ?_
       refine AW.thenQ_exit ?_
       obtain rfl := some_inj h
       refine loopQ_out rfl (conv_ren [] [6] (n := 0) (by kernel_rfl) (by kernel_rfl))
     ·
      show (_ : Exit → St → Prop) (.ret) ⟨[(4, .c (.t (.v (.slice none 0 0)))), (5, vi64 1)], [], 0⟩
      refine AW.inBlock_ret ?_
      refine AW.tr ?_
      obtain rfl := some_inj h
      exact ⟨_, conv_tm (tm' := [(4, vl 1 Ru32 ([] : List Int)), (5, vi64 1)]) ⟨⟨.c (.t (.v (.slice none 0 0))), by kernel_rfl, ALe.c (CLe.nil rfl)⟩, ⟨vi64 1, by kernel_rfl, ALe.refl _ _⟩, tv⟩, .inr rfl, OutOk.mk [] 0 (out0 := .tup [vl 1 Ru32 ([] : List Int), vi64 1]) (ps := [True, True]) (by kernel_rfl) ⟨tv, tv, tv⟩ (by kernel_rfl) (by kernel_rfl)⟩
  ·
   by_cases c17 : (decide (p1 < 0)) = true
   ·rw [if_pos c17] at h
    refine AW.reg tt_ok2 [0, 1, 16] [] [{}, { h := { b := some true } }] ⟨[(16, vb true), (0, vl 1 Ru32 p0), (1, vi64 p1)], [], 10⟩ [True, (decide (p1 < 0)) = true, True, True, True, True] (by kernel_rfl) (by kernel_rfl) ⟨tv, c17, tv, tv, tv, tv, tv⟩ ?_
    exact joinQ_leaf (true) h (conv_ren [] [0, 1, 16] (n := 0) (by kernel_rfl) (by kernel_rfl))
   ·rw [if_neg c17] at h
    refine AW.reg tt_ok2 [0, 1, 16] [] [{}, { h := { b := some false } }] ⟨[(16, vb (decide (p1 > 4096))), (0, vl 1 Ru32 p0), (1, vi64 p1)], [], 10⟩ [True, (decide (p1 < 0)) = false, True, True, True, True] (by kernel_rfl) (by kernel_rfl) ⟨tv, (off_false c17), tv, tv, tv, tv, tv⟩ ?_
    exact joinQ_leaf (decide (p1 > 4096)) h (conv_ren [] [0, 1, 16] (n := 0) (by kernel_rfl) (by kernel_rfl))
end Go.Proofs.Yteaijglfenedoaa
