/- Printed by a program of mine (vmgen.py): Go functions, and what they come to. -/
import Derived.Test.YteaijglfenedoaaVp
import Derived.Test.YteaijglfenedoaaRows
namespace Go.Proofs.Yteaijglfenedoaa
open Vm
open IntKind (i64 u64 u32 u8)
set_option maxHeartbeats 10000000
set_option linter.unusedVariables false
set_option linter.unusedSimpArgs false
set_option linter.constructorNameAsVariable false
def ttl0 : List (Nat × TI) := [(3, ⟨.int .i64, 1, 8, [.int .i64 0]⟩), (4, ⟨.bool, 1, 1, [.bool false]⟩), (5, ⟨.int .u8, 1, 1, [.int .u8 0]⟩), (9, ⟨.str, 1, 16, [.string ⟨#[]⟩]⟩), (22, ⟨.slice 3, 1, 24, [.slice none 0 0]⟩), (25, ⟨.ptr 52, 1, 8, [.pointer none]⟩), (28, ⟨.slice 37, 1, 24, [.slice none 0 0]⟩), (30, ⟨.int .i64, 1, 8, [.int .i64 0]⟩), (37, ⟨.int .u32, 1, 4, [.int .u32 0]⟩), (41, ⟨.int .u64, 1, 8, [.int .u64 0]⟩), (52, ⟨.struct [(22, 0), (3, 1), (41, 2)], 3, 40, [.slice none 0 0, .int .i64 0, .int .u64 0]⟩), (64, ⟨.slice 5, 1, 24, [.slice none 0 0]⟩)]
theorem tt_ok0 : TTok Try.prog (Vm.look ttl0) := ttok_of ⟨⟨by kernel_rfl, by kernel_rfl⟩, ⟨by kernel_rfl, by kernel_rfl⟩, ⟨by kernel_rfl, by kernel_rfl⟩, ⟨by kernel_rfl, by kernel_rfl⟩, ⟨by kernel_rfl, by kernel_rfl⟩, ⟨by kernel_rfl, by kernel_rfl⟩, ⟨by kernel_rfl, by kernel_rfl⟩, ⟨by kernel_rfl, by kernel_rfl⟩, ⟨by kernel_rfl, by kernel_rfl⟩, ⟨by kernel_rfl, by kernel_rfl⟩, ⟨by kernel_rfl, by kernel_rfl⟩, ⟨by kernel_rfl, by kernel_rfl⟩, trivial⟩
theorem mo0 : Try.prog.follows .mixedOrders = true := by kernel_rfl
def Ei64 (x : Int) : List T := [.v (.int .i64 x)]
def Ri64 (xs : List Int) : Nat → Nat → T := rowL 0 Ei64 xs
theorem Vi64 : ∀ x, allV (Ei64 x) := fun _ => ⟨tv, tv⟩
def Eu32 (x : Int) : List T := [.v (.int .u32 x)]
def Ru32 (xs : List Int) : Nat → Nat → T := rowL 0 Eu32 xs
theorem Vu32 : ∀ x, allV (Eu32 x) := fun _ => ⟨tv, tv⟩
/-! recordlink/natural.Valid -/
noncomputable def natural_Valid_k2 (x1 : Bool) : Option Bool := some x1
noncomputable def natural_Valid (p0 : List Int) : Option Bool := if (decide (((p0.length : Nat) : Int) ≤ 64)) = true then (if (((p0.length : Nat) : Int) == 0) = true then (natural_Valid_k2 true) else (if 0 ≤ (i64.wrap (((p0.length : Nat) : Int) - 1)) then (if (i64.wrap (((p0.length : Nat) : Int) - 1)) < ((p0.length : Nat) : Int) then (natural_Valid_k2 ((p0.getD ((i64.wrap (((p0.length : Nat) : Int) - 1)).toNat) 0) != 0)) else none) else none)) else (natural_Valid_k2 false)
set_option maxRecDepth 100000 in
set_option maxHeartbeats 10000000 in
theorem natural_Valid_con (p0 : List Int) (r0 : Bool) (h : natural_Valid p0 = some r0) : Con Try.prog 17 [vl 1 Ru32 p0] [] (vb r0) [] := by
 revert h; generalize r0 = r; intro h
 refine con_of tt_ok0 0 Try.func17 (by kernel_rfl) rfl (by kernel_rfl) (fun base X hk => AW.post ?_)
 unfold natural_Valid at h
 refine AW.seq ?_
 refine AW.reg tt_ok0 [0] [] [] ⟨[(0, vl 1 Ru32 p0)], [], 1⟩ [True] (by kernel_rfl) (by kernel_rfl) ⟨tv, tv⟩ ?_
 refine AW.tn ?_
 refine AW.seq ?_
 refine AW.join (ι := Bool) (fun v => ⟨[(2, vb v)], [], 0⟩) (fun v : Bool => natural_Valid_k2 v = some r) (fun v h => ?_) ?_
 ·
  obtain ⟨x1, rfl⟩ : ∃ x, x = v := ⟨_, rfl⟩
  replace h : natural_Valid_k2 x1 = some r := h
  unfold natural_Valid_k2 at h
  show (_ : Exit → St → Prop) .normal ⟨[(2, vb x1)], [], 0⟩
  refine AW.tn ?_
  refine AW.ret ?_
  obtain rfl := some_inj h
  exact ⟨_, Conv.refl _ _, .inr rfl, OutOk.mk [] 0 (out0 := vb x1) (ps := [True]) (by kernel_rfl) ⟨tv, tv⟩ (by kernel_rfl) (by kernel_rfl)⟩
 ·
  by_cases c2 : (decide (((p0.length : Nat) : Int) ≤ 64)) = true
  ·rw [if_pos c2] at h
   by_cases c3 : (((p0.length : Nat) : Int) == 0) = true
   ·rw [if_pos c3] at h
    refine AW.reg tt_ok0 [2] [] [{}, {}, { h := { b := some true } }, {}, {}, {}, { h := { b := some true } }] ⟨[(2, vb true)], [], 19⟩ [True, True, (decide (((p0.length : Nat) : Int) ≤ 64)) = true, True, True, True, (((p0.length : Nat) : Int) == 0) = true, True, True, True, True, True, True, True, True, True, True, True] (by kernel_rfl) (by kernel_rfl) ⟨tv, tv, c2, tv, tv, tv, c3, tv, tv, tv, tv, tv, tv, tv, tv, tv, tv, tv, tv⟩ ?_
    exact joinQ_leaf (true) h (conv_ren [] [2] (n := 0) (by kernel_rfl) (by kernel_rfl))
   ·rw [if_neg c3] at h
    obtain ⟨g4, h⟩ := ifc h
    obtain ⟨g5, h⟩ := ifc h
    refine AW.reg tt_ok0 [2] [] [{}, {}, { h := { b := some true } }, {}, {}, {}, { h := { b := some false } }] ⟨[(2, vb ((p0.getD ((i64.wrap (((p0.length : Nat) : Int) - 1)).toNat) 0) != 0))], [], 19⟩ [True, True, (decide (((p0.length : Nat) : Int) ≤ 64)) = true, True, True, True, (((p0.length : Nat) : Int) == 0) = false, True, True, True, True, True, (0 ≤ (i64.wrap (((p0.length : Nat) : Int) - 1))) ∧ ((i64.wrap (((p0.length : Nat) : Int) - 1)) < ((p0.length : Nat) : Int)), True, True, True, True, True] (by kernel_rfl) (by kernel_rfl) ⟨tv, tv, c2, tv, tv, tv, (off_false c3), tv, tv, tv, tv, tv, ⟨g4, g5⟩, tv, tv, tv, tv, tv, tv⟩ ?_
    exact joinQ_leaf (((p0.getD ((i64.wrap (((p0.length : Nat) : Int) - 1)).toNat) 0) != 0)) h (conv_ren [] [2] (n := 0) (by kernel_rfl) (by kernel_rfl))
  ·rw [if_neg c2] at h
   refine AW.reg tt_ok0 [2] [] [{}, {}, { h := { b := some false } }] ⟨[(2, vb false)], [], 19⟩ [True, True, (decide (((p0.length : Nat) : Int) ≤ 64)) = false, True, True, True, True, True, True, True, True, True, True, True, True, True, True, True] (by kernel_rfl) (by kernel_rfl) ⟨tv, tv, (off_false c2), tv, tv, tv, tv, tv, tv, tv, tv, tv, tv, tv, tv, tv, tv, tv, tv⟩ ?_
   exact joinQ_leaf (false) h (conv_ren [] [2] (n := 0) (by kernel_rfl) (by kernel_rfl))
/-! recordlink/natural.both -/
noncomputable def natural_both_k4 (x1 : Bool) : Option Int := if x1 = true then (some 20) else (some 0)
noncomputable def natural_both (p0 : List Int) (p1 : List Int) : Option Int := (natural_Valid p0).bind fun y3 => (if (!y3) = true then (natural_both_k4 true) else ((natural_Valid p1).bind fun y6 => (natural_both_k4 (!y6))))
set_option maxRecDepth 100000 in
set_option maxHeartbeats 10000000 in
theorem natural_both_con (p0 : List Int) (p1 : List Int) (r0 : Int) (h : natural_both p0 p1 = some r0) : Con Try.prog 36 [vl 1 Ru32 p0, vl 1 Ru32 p1] [] (vi64 r0) [] := by
 revert h; generalize r0 = r; intro h
 refine con_of tt_ok0 0 Try.func36 (by kernel_rfl) rfl (by kernel_rfl) (fun base X hk => AW.post ?_)
 unfold natural_both at h
 refine AW.seq ?_
 refine AW.reg tt_ok0 [0, 1] [] [] ⟨[(0, vl 1 Ru32 p0), (1, vl 1 Ru32 p1)], [], 1⟩ [True] (by kernel_rfl) (by kernel_rfl) ⟨tv, tv⟩ ?_
 refine AW.tn ?_
 refine AW.seq ?_
 refine AW.seq ?_
 refine AW.join (ι := Bool) (fun v => ⟨[(12, vb v)], [], 0⟩) (fun v : Bool => natural_both_k4 v = some r) (fun v h => ?_) ?_
 ·
  obtain ⟨x1, rfl⟩ : ∃ x, x = v := ⟨_, rfl⟩
  replace h : natural_both_k4 x1 = some r := h
  unfold natural_both_k4 at h
  show (_ : Exit → St → Prop) .normal ⟨[(12, vb x1)], [], 0⟩
  refine AW.tn ?_
  refine AW.cond (b := x1) (by kernel_rfl) (fun c2 => ?_) (fun c2 => ?_)
  ·rw [if_pos c2] at h
   refine AW.seq ?_
   refine AW.reg tt_ok0 [4] [] [] ⟨[(4, vi64 20)], [], 1⟩ [True] (by kernel_rfl) (by kernel_rfl) ⟨tv, tv⟩ ?_
   refine AW.tn ?_
   refine AW.ret ?_
   refine AW.tr ?_
   obtain rfl := some_inj h
   exact ⟨_, Conv.refl _ _, .inr rfl, OutOk.mk [] 0 (out0 := vi64 20) (ps := [True]) (by kernel_rfl) ⟨tv, tv⟩ (by kernel_rfl) (by kernel_rfl)⟩
  ·rw [if_neg (nb c2)] at h
   refine AW.skip ?_
   refine AW.tn ?_
   refine AW.seq ?_
   refine AW.reg tt_ok0 [4] [] [] ⟨[(4, vi64 0)], [], 1⟩ [True] (by kernel_rfl) (by kernel_rfl) ⟨tv, tv⟩ ?_
   refine AW.tn ?_
   refine AW.ret ?_
   obtain rfl := some_inj h
   exact ⟨_, Conv.refl _ _, .inr rfl, OutOk.mk [] 0 (out0 := vi64 0) (ps := [True]) (by kernel_rfl) ⟨tv, tv⟩ (by kernel_rfl) (by kernel_rfl)⟩
 ·
  obtain ⟨y3, e4, h⟩ := bnd_some h
  by_cases c5 : (!y3) = true
  ·rw [if_pos c5] at h
   refine AW.reg tt_ok0 [12] [] [{}, { call := some { ids := [], frz := [], flat := true, cnt := 0, args := [vl 1 Ru32 p0], out := vb y3, outb := [] } }, { h := { b := some true } }] ⟨[(12, vb true)], [], 8⟩ [True, ((True) ∧ (True)) ∧ (All2 ArgLe [vl 1 Ru32 p0] [vl 1 Ru32 p0]) ∧ ((true = true → flatB [])) ∧ (Con Try.prog 17 [vl 1 Ru32 p0] [] (vb y3) []), (!y3) = true, True, True, True, True, True] (by kernel_rfl) (by kernel_rfl) ⟨tv, ⟨⟨tv, tv⟩, ⟨ArgLe.refl _, tv⟩, (fun _ => tv), (natural_Valid_con p0 y3 e4)⟩, c5, tv, tv, tv, tv, tv, tv⟩ ?_
   exact joinQ_leaf (true) h (conv_ren [] [12] (n := 0) (by kernel_rfl) (by kernel_rfl))
  ·rw [if_neg c5] at h
   obtain ⟨y6, e7, h⟩ := bnd_some h
   refine AW.reg tt_ok0 [12] [] [{}, { call := some { ids := [], frz := [], flat := true, cnt := 0, args := [vl 1 Ru32 p0], out := vb y3, outb := [] } }, { h := { b := some false } }, {}, {}, { call := some { ids := [], frz := [], flat := true, cnt := 0, args := [vl 1 Ru32 p1], out := vb y6, outb := [] } }] ⟨[(12, vb (!y6))], [], 7⟩ [True, ((True) ∧ (True)) ∧ (All2 ArgLe [vl 1 Ru32 p0] [vl 1 Ru32 p0]) ∧ ((true = true → flatB [])) ∧ (Con Try.prog 17 [vl 1 Ru32 p0] [] (vb y3) []), (!y3) = false, True, True, ((True) ∧ (True)) ∧ (All2 ArgLe [vl 1 Ru32 p1] [vl 1 Ru32 p1]) ∧ ((true = true → flatB [])) ∧ (Con Try.prog 17 [vl 1 Ru32 p1] [] (vb y6) []), True, True] (by kernel_rfl) (by kernel_rfl) ⟨tv, ⟨⟨tv, tv⟩, ⟨ArgLe.refl _, tv⟩, (fun _ => tv), (natural_Valid_con p0 y3 e4)⟩, (off_false c5), tv, tv, ⟨⟨tv, tv⟩, ⟨ArgLe.refl _, tv⟩, (fun _ => tv), (natural_Valid_con p1 y6 e7)⟩, tv, tv, tv⟩ ?_
   exact joinQ_leaf (!y6) h (conv_ren [] [12] (n := 0) (by kernel_rfl) (by kernel_rfl))
/-! recordlink/natural.trim -/
noncomputable def natural_trim_k34 (x2 : List Int) (x4 : Bool) : Option ((List Int) ⊕ (List Int)) := if x4 = true then (if 0 ≤ (i64.wrap (((x2.length : Nat) : Int) - 1)) then (if ((i64.wrap (((x2.length : Nat) : Int) - 1)).toNat) ≤ x2.length then (some (.inl (x2.take ((i64.wrap (((x2.length : Nat) : Int) - 1)).toNat)))) else none) else none) else (some (.inr x2))
noncomputable def natural_trim_l30 (x2 : List Int) : Option ((List Int) ⊕ (List Int)) := if (decide (((x2.length : Nat) : Int) > 0)) = true then (if 0 ≤ (i64.wrap (((x2.length : Nat) : Int) - 1)) then (if (i64.wrap (((x2.length : Nat) : Int) - 1)) < ((x2.length : Nat) : Int) then ((some ((x2.getD ((i64.wrap (((x2.length : Nat) : Int) - 1)).toNat) 0))).bind fun z11 => (natural_trim_k34 x2 ((x2.getD ((i64.wrap (((x2.length : Nat) : Int) - 1)).toNat) 0) == 0))) else none) else none) else (natural_trim_k34 x2 false)
noncomputable def natural_trim (p0 : List Int) : Option (List Int) := (loop (fun v : List Int => natural_trim_l30 v) p0).bind fun x13 => (some x13)
set_option maxRecDepth 100000 in
set_option maxHeartbeats 10000000 in
theorem natural_trim_con (p0 : List Int) (r0 : List Int) (h : natural_trim p0 = some r0) : Con Try.prog 41 [vl 1 Ru32 p0] [] (vl 1 Ru32 r0) [] := by
 revert h; generalize r0 = r; intro h
 refine con_of tt_ok0 0 Try.func41 (by kernel_rfl) rfl (by kernel_rfl) (fun base X hk => AW.post ?_)
 unfold natural_trim at h
 refine AW.seq ?_
 refine AW.reg tt_ok0 [0] [] [] ⟨[(0, vl 1 Ru32 p0)], [], 1⟩ [True] (by kernel_rfl) (by kernel_rfl) ⟨tv, tv⟩ ?_
 refine AW.tn ?_
 refine AW.seq ?_
 refine AW.block ?_
 obtain ⟨x13, l14, h⟩ := bnd_some h
 refine AW.pre (S' := ((fun v => ⟨[(0, vl 1 Ru32 v)], [], 0⟩) : (List Int) → St) p0) (conv_ren [] [0] (n := 0) (by kernel_rfl) (by kernel_rfl)) ?_
 refine AW.loop2 (step := (fun v : List Int => natural_trim_l30 v)) (s0 := p0) (t := x13) (fun v => ⟨[(0, vl 1 Ru32 v)], [], 0⟩) (fun t : List Int => (.exit 0, ⟨[(0, vl 1 Ru32 t)], [], 0⟩)) l14 (fun _ => tv) ?_ ?_
 ·
  intro v o h
  obtain ⟨x2, rfl⟩ : ∃ x, x = v := ⟨_, rfl⟩
  replace h : natural_trim_l30 x2 = some o := h
  unfold natural_trim_l30 at h
  show AW _ ⟨[(0, vl 1 Ru32 x2)], [], 0⟩ _ _
  refine AW.seq ?_
  refine AW.seq ?_
  refine AW.join (ι := Bool) (fun v => ⟨[(0, vl 1 Ru32 x2), (14, vb v)], [], 0⟩) (fun v : Bool => natural_trim_k34 x2 v = some o) (fun v h => ?_) ?_
  ·
   obtain ⟨x4, rfl⟩ : ∃ x, x = v := ⟨_, rfl⟩
   replace h : natural_trim_k34 x2 x4 = some o := h
   unfold natural_trim_k34 at h
   show (_ : Exit → St → Prop) .normal ⟨[(0, vl 1 Ru32 x2), (14, vb x4)], [], 0⟩
   refine AW.tn ?_
   refine AW.cond (b := x4) (by kernel_rfl) (fun c5 => ?_) (fun c5 => ?_)
   ·rw [if_pos c5] at h
    refine AW.skip ?_
    refine AW.tn ?_
    refine AW.block ?_
    obtain ⟨g6, h⟩ := ifc h
    obtain ⟨g7, h⟩ := ifc h
    refine AW.reg tt_ok0 [0] [] [] ⟨[(0, .c (.t (.tree ((i64.wrap (((x2.length : Nat) : Int) - 1)).toNat) 1 (Ru32 x2))))], [], 6⟩ [True, True, True, True, (True) ∧ (0 ≤ (i64.wrap (((x2.length : Nat) : Int) - 1))) ∧ (0 ≤ ((i64.wrap (((x2.length : Nat) : Int) - 1)).toNat)) ∧ (((i64.wrap (((x2.length : Nat) : Int) - 1)).toNat) ≤ x2.length), True] (by kernel_rfl) (by kernel_rfl) ⟨tv, tv, tv, tv, ⟨tv, g6, (Nat.zero_le _), g7⟩, tv, tv⟩ ?_
    refine AW.inBlock_normal ?_
    obtain rfl := some_inj h
    refine loopQ_next (Conv.trans (conv_tm (tm' := [(0, vl 1 Ru32 (x2.take ((i64.wrap (((x2.length : Nat) : Int) - 1)).toNat)))]) ⟨⟨.c (.t (.tree ((i64.wrap (((x2.length : Nat) : Int) - 1)).toNat) 1 (Ru32 x2))), by kernel_rfl, ALe.c (CAle.cle (CAle.tree (take_row (by omega))))⟩, tv⟩) (conv_ren [] [0] (n := 0) (by kernel_rfl) (by kernel_rfl)))
   ·rw [if_neg (nb c5)] at h
    refine AW.exit ?_
    refine AW.thenQ_exit ?_
    obtain rfl := some_inj h
    refine loopQ_out rfl (conv_ren [] [0] (n := 0) (by kernel_rfl) (by kernel_rfl))
  ·
   by_cases c8 : (decide (((x2.length : Nat) : Int) > 0)) = true
   ·rw [if_pos c8] at h
    obtain ⟨g9, h⟩ := ifc h
    obtain ⟨g10, h⟩ := ifc h
    obtain ⟨z11, n12, h⟩ := bnd_some h
    replace n12 := some_inj n12
    refine AW.reg tt_ok0 [0, 7, 8, 9, 10, 11, 12, 13, 14] [] [{}, {}, { h := { b := some true } }] ⟨[(14, vb ((x2.getD ((i64.wrap (((x2.length : Nat) : Int) - 1)).toNat) 0) == 0)), (13, vb ((x2.getD ((i64.wrap (((x2.length : Nat) : Int) - 1)).toNat) 0) == 0)), (12, vu32 (x2.getD ((i64.wrap (((x2.length : Nat) : Int) - 1)).toNat) 0)), (11, .c (.t (.eptr 1 (Ru32 x2 ((i64.wrap (((x2.length : Nat) : Int) - 1)).toNat)) 0))), (10, vi64 (i64.wrap (((x2.length : Nat) : Int) - 1))), (9, vi64 ((x2.length : Nat) : Int)), (8, vl 1 Ru32 x2), (7, vl 1 Ru32 x2), (0, vl 1 Ru32 x2)], [], 12⟩ [True, True, (decide (((x2.length : Nat) : Int) > 0)) = true, True, True, True, True, True, (0 ≤ (i64.wrap (((x2.length : Nat) : Int) - 1))) ∧ ((i64.wrap (((x2.length : Nat) : Int) - 1)) < ((x2.length : Nat) : Int)), True, True, True] (by kernel_rfl) (by kernel_rfl) ⟨tv, tv, c8, tv, tv, tv, tv, tv, ⟨g9, g10⟩, tv, tv, tv, tv⟩ ?_
    refine eq_Q (S' := ⟨[(14, vb ((x2.getD ((i64.wrap (((x2.length : Nat) : Int) - 1)).toNat) 0) == 0)), (13, vb ((x2.getD ((i64.wrap (((x2.length : Nat) : Int) - 1)).toNat) 0) == 0)), (12, vu32 z11), (11, .c (.t (.eptr 1 (Ru32 x2 ((i64.wrap (((x2.length : Nat) : Int) - 1)).toNat)) 0))), (10, vi64 (i64.wrap (((x2.length : Nat) : Int) - 1))), (9, vi64 ((x2.length : Nat) : Int)), (8, vl 1 Ru32 x2), (7, vl 1 Ru32 x2), (0, vl 1 Ru32 x2)], [], 12⟩) (by rw [n12]) ?_
    exact joinQ_leaf (((x2.getD ((i64.wrap (((x2.length : Nat) : Int) - 1)).toNat) 0) == 0)) h (conv_ren [] [0, 14] (n := 0) (by kernel_rfl) (by kernel_rfl))
   ·rw [if_neg c8] at h
    refine AW.reg tt_ok0 [0, 7, 8, 9, 10, 11, 12, 13, 14] [] [{}, {}, { h := { b := some false } }] ⟨[(14, vb false), (13, .tup []), (12, .tup []), (11, .tup []), (10, .tup []), (9, .tup []), (8, .tup []), (7, .tup []), (0, vl 1 Ru32 x2)], [], 12⟩ [True, True, (decide (((x2.length : Nat) : Int) > 0)) = false, True, True, True, True, True, True, True, True, True] (by kernel_rfl) (by kernel_rfl) ⟨tv, tv, (off_false c8), tv, tv, tv, tv, tv, tv, tv, tv, tv, tv⟩ ?_
    exact joinQ_leaf (false) h (conv_ren [] [0, 14] (n := 0) (by kernel_rfl) (by kernel_rfl))
 ·
  show (_ : Exit → St → Prop) (.exit 0) ⟨[(0, vl 1 Ru32 x13)], [], 0⟩
  refine AW.inBlock_hit ?_
  refine AW.tn ?_
  refine AW.seq ?_
  refine AW.reg tt_ok0 [2] [] [] ⟨[(2, vl 1 Ru32 x13)], [], 2⟩ [True, True] (by kernel_rfl) (by kernel_rfl) ⟨tv, tv, tv⟩ ?_
  refine AW.tn ?_
  refine AW.ret ?_
  obtain rfl := some_inj h
  exact ⟨_, Conv.refl _ _, .inr rfl, OutOk.mk [] 0 (out0 := vl 1 Ru32 x13) (ps := [True]) (by kernel_rfl) ⟨tv, tv⟩ (by kernel_rfl) (by kernel_rfl)⟩
/-! recordlink/natural.times -/
noncomputable def natural_times_l34 (p0 : List Int) (p1 : List Int) (x6 : Int) (x14 : List Int) (x15 : Int) (x16 : Int) : Option (((List Int) × Int × Int) ⊕ ((List Int) × Int)) := if (decide (x16 < ((p1.length : Nat) : Int))) = true then (if 0 ≤ x16 then (if x16 < ((p1.length : Nat) : Int) then (if 0 ≤ (i64.wrap (x6 + x16)) then (if (i64.wrap (x6 + x16)) < ((x14.length : Nat) : Int) then ((some (u64.wrap (x15 + (u64.wrap ((u64.wrap ((u64.wrap (p0.getD x6.toNat 0)) * (u64.wrap (p1.getD x16.toNat 0)))) + (u64.wrap (x14.getD (0 + (i64.wrap (x6 + x16)).toNat) 0))))))).bind fun z24 => (some (.inl ((x14.set (0 + (i64.wrap (x6 + x16)).toNat) (u32.wrap z24)), ishr .u64 z24 32, i64.wrap (x16 + 1))))) else none) else none) else none) else none) else (some (.inr (x14, x15)))
noncomputable def natural_times_l30 (p0 : List Int) (p1 : List Int) (x5 : List Int) (x6 : Int) : Option (((List Int) × Int) ⊕ (List Int)) := if (decide (x6 < ((p0.length : Nat) : Int))) = true then (if 0 ≤ x6 then (if x6 < ((p0.length : Nat) : Int) then (bind2 (loop (fun v : (List Int) × Int × Int => natural_times_l34 p0 p1 x6 v.1 v.2.1 v.2.2) (x5, 0, 0)) fun x26 x27 => (if 0 ≤ (i64.wrap (x6 + ((p1.length : Nat) : Int))) then (if (i64.wrap (x6 + ((p1.length : Nat) : Int))) < ((x26.length : Nat) : Int) then (some (.inl ((x26.set (0 + (i64.wrap (x6 + ((p1.length : Nat) : Int))).toNat) (u32.wrap x27)), i64.wrap (x6 + 1)))) else none) else none)) else none) else none) else (some (.inr x5))
noncomputable def natural_times (p0 : List Int) (p1 : List Int) : Option (List Int) := if 0 ≤ (i64.wrap (((p0.length : Nat) : Int) + ((p1.length : Nat) : Int))) then (if (i64.wrap (((p0.length : Nat) : Int) + ((p1.length : Nat) : Int))) ≤ 1099511627776 then ((loop (fun v : (List Int) × Int => natural_times_l30 p0 p1 v.1 v.2) ((List.replicate ((i64.wrap (((p0.length : Nat) : Int) + ((p1.length : Nat) : Int))).toNat) (0 : Int)), 0)).bind fun x31 => ((natural_trim x31).bind fun y32 => (some y32))) else none) else none
set_option maxRecDepth 100000 in
set_option maxHeartbeats 10000000 in
theorem natural_times_con (p0 : List Int) (p1 : List Int) (r0 : List Int) (h : natural_times p0 p1 = some r0) : Con Try.prog 38 [vl 1 Ru32 p0, vl 1 Ru32 p1] [] (vl 1 Ru32 r0) [] := by
 revert h; generalize r0 = r; intro h
 refine con_of tt_ok0 0 Try.func38 (by kernel_rfl) rfl (by kernel_rfl) (fun base X hk => AW.post ?_)
 unfold natural_times at h
 refine AW.seq ?_
 refine AW.reg tt_ok0 [0, 1] [] [] ⟨[(0, vl 1 Ru32 p0), (1, vl 1 Ru32 p1)], [], 1⟩ [True] (by kernel_rfl) (by kernel_rfl) ⟨tv, tv⟩ ?_
 refine AW.tn ?_
 refine AW.seq ?_
 obtain ⟨g1, h⟩ := ifc h
 obtain ⟨g2, h⟩ := ifc h
 refine AW.reg tt_ok0 [0, 1, 5] [6] [{}, {}, {}, {}, {}, { h := { row := some ((List.replicate ((i64.wrap (((p0.length : Nat) : Int) + ((p1.length : Nat) : Int))).toNat) (0 : Int)).length, Ru32 (List.replicate ((i64.wrap (((p0.length : Nat) : Int) + ((p1.length : Nat) : Int))).toNat) (0 : Int))) } }] ⟨[(5, .c (.ref 6 1 0 ((List.replicate ((i64.wrap (((p0.length : Nat) : Int) + ((p1.length : Nat) : Int))).toNat) (0 : Int)).length))), (0, vl 1 Ru32 p0), (1, vl 1 Ru32 p1)], [(6, .row 37 false 1 (List.replicate ((i64.wrap (((p0.length : Nat) : Int) + ((p1.length : Nat) : Int))).toNat) (0 : Int)).length (Ru32 (List.replicate ((i64.wrap (((p0.length : Nat) : Int) + ((p1.length : Nat) : Int))).toNat) (0 : Int))))], 8⟩ [True, True, True, True, True, ((0 ≤ (i64.wrap (((p0.length : Nat) : Int) + ((p1.length : Nat) : Int)))) ∧ ((i64.wrap (((p0.length : Nat) : Int) + ((p1.length : Nat) : Int))) ≤ (i64.wrap (((p0.length : Nat) : Int) + ((p1.length : Nat) : Int)))) ∧ ((i64.wrap (((p0.length : Nat) : Int) + ((p1.length : Nat) : Int))) ≤ 1099511627776) ∧ ((4 : Nat) ≤ 128)) ∧ ((i64.wrap (((p0.length : Nat) : Int) + ((p1.length : Nat) : Int))).toNat = (List.replicate ((i64.wrap (((p0.length : Nat) : Int) + ((p1.length : Nat) : Int))).toNat) (0 : Int)).length ∧ ∀ i, i < (List.replicate ((i64.wrap (((p0.length : Nat) : Int) + ((p1.length : Nat) : Int))).toNat) (0 : Int)).length → ∀ j, j < 1 → TLe ((fun _ j => .v (([.int .u32 0] : List Value).getD j undef)) i j) (Ru32 (List.replicate ((i64.wrap (((p0.length : Nat) : Int) + ((p1.length : Nat) : Int))).toNat) (0 : Int)) i j)), True] (by kernel_rfl) (by kernel_rfl) ⟨tv, tv, tv, tv, tv, ⟨⟨g1, Int.le_refl _, g2, (by decide)⟩, mk_row (fun j hj => match j, hj with | 0, _ => TLe.refl _ | _ + 1, h => absurd h (by omega))⟩, tv, tv⟩ ?_
 refine AW.tn ?_
 refine AW.seq ?_
 refine AW.seq ?_
 refine AW.reg tt_ok0 [1, 5, 17, 18, 19] [6] [] ⟨[(19, vi64 0), (18, vi64 ((p0.length : Nat) : Int)), (17, vl 1 Ru32 p0), (5, .c (.ref 6 1 0 ((List.replicate ((i64.wrap (((p0.length : Nat) : Int) + ((p1.length : Nat) : Int))).toNat) (0 : Int)).length))), (1, vl 1 Ru32 p1)], [(6, .row 37 false 1 (List.replicate ((i64.wrap (((p0.length : Nat) : Int) + ((p1.length : Nat) : Int))).toNat) (0 : Int)).length (Ru32 (List.replicate ((i64.wrap (((p0.length : Nat) : Int) + ((p1.length : Nat) : Int))).toNat) (0 : Int))))], 11⟩ [True, True, True] (by kernel_rfl) (by kernel_rfl) ⟨tv, tv, tv, tv⟩ ?_
 refine AW.tn ?_
 refine AW.block ?_
 obtain ⟨x31, l34, h⟩ := bnd_some h
 refine AW.pre (S' := ((fun v => ⟨[(1, vl 1 Ru32 p1), (5, .c (.ref 0 1 0 v.1.length)), (17, vl 1 Ru32 p0), (18, vi64 ((p0.length : Nat) : Int)), (19, vi64 v.2)], [(0, .row 37 false 1 v.1.length (Ru32 v.1))], 1⟩) : ((List Int) × Int) → St) ((List.replicate ((i64.wrap (((p0.length : Nat) : Int) + ((p1.length : Nat) : Int))).toNat) (0 : Int)), 0)) (conv_ren [(0, 6)] [1, 5, 17, 18, 19] (n := 1) (by kernel_rfl) (by kernel_rfl)) ?_
 refine AW.loop2 (step := (fun v : (List Int) × Int => natural_times_l30 p0 p1 v.1 v.2)) (s0 := ((List.replicate ((i64.wrap (((p0.length : Nat) : Int) + ((p1.length : Nat) : Int))).toNat) (0 : Int)), 0)) (t := x31) (fun v => ⟨[(1, vl 1 Ru32 p1), (5, .c (.ref 0 1 0 v.1.length)), (17, vl 1 Ru32 p0), (18, vi64 ((p0.length : Nat) : Int)), (19, vi64 v.2)], [(0, .row 37 false 1 v.1.length (Ru32 v.1))], 1⟩) (fun t : List Int => (.exit 0, ⟨[(5, .c (.ref 0 1 0 t.length))], [(0, .row 37 false 1 t.length (Ru32 t))], 1⟩)) l34 (fun _ => tv) ?_ ?_
 ·
  intro v o h
  obtain ⟨x5, x6⟩ := v
  replace h : natural_times_l30 p0 p1 x5 x6 = some o := h
  unfold natural_times_l30 at h
  show AW _ ⟨[(1, vl 1 Ru32 p1), (5, .c (.ref 0 1 0 x5.length)), (17, vl 1 Ru32 p0), (18, vi64 ((p0.length : Nat) : Int)), (19, vi64 x6)], [(0, .row 37 false 1 x5.length (Ru32 x5))], 1⟩ _ _
  refine AW.seq ?_
  refine AW.reg tt_ok0 [1, 5, 17, 18, 19, 20] [0] [] ⟨[(20, vb (decide (x6 < ((p0.length : Nat) : Int)))), (1, vl 1 Ru32 p1), (5, .c (.ref 0 1 0 x5.length)), (17, vl 1 Ru32 p0), (18, vi64 ((p0.length : Nat) : Int)), (19, vi64 x6)], [(0, .row 37 false 1 x5.length (Ru32 x5))], 2⟩ [True] (by kernel_rfl) (by kernel_rfl) ⟨tv, tv⟩ ?_
  refine AW.tn ?_
  refine AW.seq ?_
  refine AW.cond (b := decide (x6 < ((p0.length : Nat) : Int))) (by kernel_rfl) (fun c8 => ?_) (fun c8 => ?_)
  ·rw [if_pos c8] at h
   refine AW.skip ?_
   refine AW.tn ?_
   refine AW.seq ?_
   refine AW.block ?_
   refine AW.seq ?_
   obtain ⟨g9, h⟩ := ifc h
   obtain ⟨g10, h⟩ := ifc h
   refine AW.reg tt_ok0 [1, 5, 6, 7, 17, 18, 19] [0] [] ⟨[(7, vu32 (p0.getD x6.toNat 0)), (6, vi64 x6), (1, vl 1 Ru32 p1), (5, .c (.ref 0 1 0 x5.length)), (17, vl 1 Ru32 p0), (18, vi64 ((p0.length : Nat) : Int)), (19, vi64 x6)], [(0, .row 37 false 1 x5.length (Ru32 x5))], 7⟩ [True, (0 ≤ x6) ∧ (x6 < ((p0.length : Nat) : Int)), True, True, True] (by kernel_rfl) (by kernel_rfl) ⟨tv, ⟨g9, g10⟩, tv, tv, tv, tv⟩ ?_
   refine AW.tn ?_
   refine AW.seq ?_
   refine AW.reg tt_ok0 [1, 5, 6, 7, 8, 17, 18, 19] [0] [] ⟨[(8, vu64 0), (7, vu32 (p0.getD x6.toNat 0)), (6, vi64 x6), (1, vl 1 Ru32 p1), (5, .c (.ref 0 1 0 x5.length)), (17, vl 1 Ru32 p0), (18, vi64 ((p0.length : Nat) : Int)), (19, vi64 x6)], [(0, .row 37 false 1 x5.length (Ru32 x5))], 8⟩ [True] (by kernel_rfl) (by kernel_rfl) ⟨tv, tv⟩ ?_
   refine AW.tn ?_
   refine AW.seq ?_
   refine AW.seq ?_
   refine AW.reg tt_ok0 [1, 5, 6, 7, 8, 17, 18, 19, 24, 25, 26] [0] [] ⟨[(26, vi64 0), (25, vi64 ((p1.length : Nat) : Int)), (24, vl 1 Ru32 p1), (8, vu64 0), (7, vu32 (p0.getD x6.toNat 0)), (6, vi64 x6), (1, vl 1 Ru32 p1), (5, .c (.ref 0 1 0 x5.length)), (17, vl 1 Ru32 p0), (18, vi64 ((p0.length : Nat) : Int)), (19, vi64 x6)], [(0, .row 37 false 1 x5.length (Ru32 x5))], 11⟩ [True, True, True] (by kernel_rfl) (by kernel_rfl) ⟨tv, tv, tv, tv⟩ ?_
   refine AW.tn ?_
   refine AW.block ?_
   obtain ⟨x26, x27, l30, h⟩ := bind2_some h
   refine AW.pre (S' := ((fun v => ⟨[(1, vl 1 Ru32 p1), (5, .c (.ref 0 1 0 v.1.length)), (6, vi64 x6), (7, vu32 (p0.getD x6.toNat 0)), (8, vu64 v.2.1), (17, vl 1 Ru32 p0), (18, vi64 ((p0.length : Nat) : Int)), (19, vi64 x6), (24, vl 1 Ru32 p1), (25, vi64 ((p1.length : Nat) : Int)), (26, vi64 v.2.2)], [(0, .row 37 false 1 v.1.length (Ru32 v.1))], 1⟩) : ((List Int) × Int × Int) → St) (x5, 0, 0)) (conv_ren [(0, 0)] [1, 5, 6, 7, 8, 17, 18, 19, 24, 25, 26] (n := 1) (by kernel_rfl) (by kernel_rfl)) ?_
   refine AW.loop2 (step := (fun v : (List Int) × Int × Int => natural_times_l34 p0 p1 x6 v.1 v.2.1 v.2.2)) (s0 := (x5, 0, 0)) (t := (x26, x27)) (fun v => ⟨[(1, vl 1 Ru32 p1), (5, .c (.ref 0 1 0 v.1.length)), (6, vi64 x6), (7, vu32 (p0.getD x6.toNat 0)), (8, vu64 v.2.1), (17, vl 1 Ru32 p0), (18, vi64 ((p0.length : Nat) : Int)), (19, vi64 x6), (24, vl 1 Ru32 p1), (25, vi64 ((p1.length : Nat) : Int)), (26, vi64 v.2.2)], [(0, .row 37 false 1 v.1.length (Ru32 v.1))], 1⟩) (fun t : (List Int) × Int => (.exit 2, ⟨[(1, vl 1 Ru32 p1), (5, .c (.ref 0 1 0 t.1.length)), (6, vi64 x6), (8, vu64 t.2), (17, vl 1 Ru32 p0), (18, vi64 ((p0.length : Nat) : Int)), (19, vi64 x6)], [(0, .row 37 false 1 t.1.length (Ru32 t.1))], 1⟩)) l30 (fun _ => tv) ?_ ?_
   ·
    intro v o h
    obtain ⟨x14, x15, x16⟩ := v
    replace h : natural_times_l34 p0 p1 x6 x14 x15 x16 = some o := h
    unfold natural_times_l34 at h
    show AW _ ⟨[(1, vl 1 Ru32 p1), (5, .c (.ref 0 1 0 x14.length)), (6, vi64 x6), (7, vu32 (p0.getD x6.toNat 0)), (8, vu64 x15), (17, vl 1 Ru32 p0), (18, vi64 ((p0.length : Nat) : Int)), (19, vi64 x6), (24, vl 1 Ru32 p1), (25, vi64 ((p1.length : Nat) : Int)), (26, vi64 x16)], [(0, .row 37 false 1 x14.length (Ru32 x14))], 1⟩ _ _
    refine AW.seq ?_
    refine AW.reg tt_ok0 [1, 5, 6, 7, 8, 17, 18, 19, 24, 25, 26, 27] [0] [] ⟨[(27, vb (decide (x16 < ((p1.length : Nat) : Int)))), (1, vl 1 Ru32 p1), (5, .c (.ref 0 1 0 x14.length)), (6, vi64 x6), (7, vu32 (p0.getD x6.toNat 0)), (8, vu64 x15), (17, vl 1 Ru32 p0), (18, vi64 ((p0.length : Nat) : Int)), (19, vi64 x6), (24, vl 1 Ru32 p1), (25, vi64 ((p1.length : Nat) : Int)), (26, vi64 x16)], [(0, .row 37 false 1 x14.length (Ru32 x14))], 2⟩ [True] (by kernel_rfl) (by kernel_rfl) ⟨tv, tv⟩ ?_
    refine AW.tn ?_
    refine AW.seq ?_
    refine AW.cond (b := decide (x16 < ((p1.length : Nat) : Int))) (by kernel_rfl) (fun c19 => ?_) (fun c19 => ?_)
    ·rw [if_pos c19] at h
     refine AW.skip ?_
     refine AW.tn ?_
     refine AW.seq ?_
     refine AW.block ?_
     refine AW.seq ?_
     obtain ⟨g20, h⟩ := ifc h
     obtain ⟨g21, h⟩ := ifc h
     refine AW.reg tt_ok0 [1, 5, 6, 7, 8, 9, 10, 17, 18, 19, 24, 25, 26] [0] [] ⟨[(10, vu32 (p1.getD x16.toNat 0)), (9, vi64 x16), (1, vl 1 Ru32 p1), (5, .c (.ref 0 1 0 x14.length)), (6, vi64 x6), (7, vu32 (p0.getD x6.toNat 0)), (8, vu64 x15), (17, vl 1 Ru32 p0), (18, vi64 ((p0.length : Nat) : Int)), (19, vi64 x6), (24, vl 1 Ru32 p1), (25, vi64 ((p1.length : Nat) : Int)), (26, vi64 x16)], [(0, .row 37 false 1 x14.length (Ru32 x14))], 7⟩ [True, (0 ≤ x16) ∧ (x16 < ((p1.length : Nat) : Int)), True, True, True] (by kernel_rfl) (by kernel_rfl) ⟨tv, ⟨g20, g21⟩, tv, tv, tv, tv⟩ ?_
     refine AW.tn ?_
     refine AW.seq ?_
     obtain ⟨g22, h⟩ := ifc h
     obtain ⟨g23, h⟩ := ifc h
     obtain ⟨z24, n25, h⟩ := bnd_some h
     replace n25 := some_inj n25
     refine AW.reg tt_ok0 [1, 5, 6, 7, 8, 9, 17, 18, 19, 24, 25, 26] [0] [] ⟨[(8, vu64 (u64.wrap (x15 + (u64.wrap ((u64.wrap ((u64.wrap (p0.getD x6.toNat 0)) * (u64.wrap (p1.getD x16.toNat 0)))) + (u64.wrap (x14.getD (0 + (i64.wrap (x6 + x16)).toNat) 0))))))), (9, vi64 x16), (1, vl 1 Ru32 p1), (5, .c (.ref 0 1 0 x14.length)), (6, vi64 x6), (7, vu32 (p0.getD x6.toNat 0)), (17, vl 1 Ru32 p0), (18, vi64 ((p0.length : Nat) : Int)), (19, vi64 x6), (24, vl 1 Ru32 p1), (25, vi64 ((p1.length : Nat) : Int)), (26, vi64 x16)], [(0, .row 37 false 1 x14.length (Ru32 x14))], 23⟩ [True, True, True, True, True, True, True, True, True, True, (0 ≤ (i64.wrap (x6 + x16))) ∧ ((i64.wrap (x6 + x16)) < ((x14.length : Nat) : Int)), (0 + (i64.wrap (x6 + x16)).toNat) < x14.length, True, True, True, True] (by kernel_rfl) (by kernel_rfl) ⟨tv, tv, tv, tv, tv, tv, tv, tv, tv, tv, ⟨g22, g23⟩, (by have h1 : 0 ≤ (i64.wrap (x6 + x16)) := g22; have h2 : (i64.wrap (x6 + x16)) < ((x14.length : Nat) : Int) := g23; omega), tv, tv, tv, tv, tv⟩ ?_
     refine eq_Q (S' := ⟨[(8, vu64 z24), (9, vi64 x16), (1, vl 1 Ru32 p1), (5, .c (.ref 0 1 0 x14.length)), (6, vi64 x6), (7, vu32 (p0.getD x6.toNat 0)), (17, vl 1 Ru32 p0), (18, vi64 ((p0.length : Nat) : Int)), (19, vi64 x6), (24, vl 1 Ru32 p1), (25, vi64 ((p1.length : Nat) : Int)), (26, vi64 x16)], [(0, .row 37 false 1 x14.length (Ru32 x14))], 23⟩) (by rw [n25]) ?_
     refine AW.tn ?_
     refine AW.seq ?_
     refine AW.reg tt_ok0 [1, 5, 6, 7, 8, 17, 18, 19, 24, 25, 26] [0] [{}, {}, {}, {}, {}, {}, {}, { h := { row := some (x14.length, Ru32 (x14.set (0 + (i64.wrap (x6 + x16)).toNat) (u32.wrap z24))) } }] ⟨[(8, vu64 z24), (1, vl 1 Ru32 p1), (5, .c (.ref 0 1 0 x14.length)), (6, vi64 x6), (7, vu32 (p0.getD x6.toNat 0)), (17, vl 1 Ru32 p0), (18, vi64 ((p0.length : Nat) : Int)), (19, vi64 x6), (24, vl 1 Ru32 p1), (25, vi64 ((p1.length : Nat) : Int)), (26, vi64 x16)], [(0, .row 37 false 1 x14.length (Ru32 (x14.set (0 + (i64.wrap (x6 + x16)).toNat) (u32.wrap z24))))], 31⟩ [True, True, True, True, True, True, (0 ≤ (i64.wrap (x6 + x16))) ∧ ((i64.wrap (x6 + x16)) < ((x14.length : Nat) : Int)), ((0 + (i64.wrap (x6 + x16)).toNat) < x14.length) ∧ (x14.length = x14.length ∧ ∀ i, i < x14.length → ∀ j, j < 1 → TLe (updRow (Ru32 x14) (0 + (i64.wrap (x6 + x16)).toNat) 0 [.v (.int .u32 (u32.wrap z24))] i j) (Ru32 (x14.set (0 + (i64.wrap (x6 + x16)).toNat) (u32.wrap z24)) i j))] (by kernel_rfl) (by kernel_rfl) ⟨tv, tv, tv, tv, tv, tv, ⟨g22, g23⟩, ⟨(by have h1 : 0 ≤ (i64.wrap (x6 + x16)) := g22; have h2 : (i64.wrap (x6 + x16)) < ((x14.length : Nat) : Int) := g23; omega), set_rowN rfl (by have h1 : 0 ≤ (i64.wrap (x6 + x16)) := g22; have h2 : (i64.wrap (x6 + x16)) < ((x14.length : Nat) : Int) := g23; omega) (fun j hj => match j, hj with | 0, _ => TLe.refl _ | _ + 1, h => absurd h (by omega))⟩, tv⟩ ?_
     refine AW.tn ?_
     refine AW.reg tt_ok0 [1, 5, 6, 7, 8, 17, 18, 19, 24, 25, 26] [0] [] ⟨[(8, vu64 (ishr .u64 z24 32)), (1, vl 1 Ru32 p1), (5, .c (.ref 0 1 0 x14.length)), (6, vi64 x6), (7, vu32 (p0.getD x6.toNat 0)), (17, vl 1 Ru32 p0), (18, vi64 ((p0.length : Nat) : Int)), (19, vi64 x6), (24, vl 1 Ru32 p1), (25, vi64 ((p1.length : Nat) : Int)), (26, vi64 x16)], [(0, .row 37 false 1 x14.length (Ru32 (x14.set (0 + (i64.wrap (x6 + x16)).toNat) (u32.wrap z24))))], 34⟩ [True, 0 ≤ (32 : Int), True] (by kernel_rfl) (by kernel_rfl) ⟨tv, (by decide), tv, tv⟩ ?_
     refine AW.inBlock_normal ?_
     refine AW.tn ?_
     refine AW.reg tt_ok0 [1, 5, 6, 7, 8, 17, 18, 19, 24, 25, 26] [0] [] ⟨[(26, vi64 (i64.wrap (x16 + 1))), (8, vu64 (ishr .u64 z24 32)), (1, vl 1 Ru32 p1), (5, .c (.ref 0 1 0 x14.length)), (6, vi64 x6), (7, vu32 (p0.getD x6.toNat 0)), (17, vl 1 Ru32 p0), (18, vi64 ((p0.length : Nat) : Int)), (19, vi64 x6), (24, vl 1 Ru32 p1), (25, vi64 ((p1.length : Nat) : Int))], [(0, .row 37 false 1 x14.length (Ru32 (x14.set (0 + (i64.wrap (x6 + x16)).toNat) (u32.wrap z24))))], 36⟩ [True, True] (by kernel_rfl) (by kernel_rfl) ⟨tv, tv, tv⟩ ?_
     obtain rfl := some_inj h
     refine loopQ_next (Conv.trans (conv_len (S' := ⟨[(26, vi64 (i64.wrap (x16 + 1))), (8, vu64 (ishr .u64 z24 32)), (1, vl 1 Ru32 p1), (5, .c (.ref 0 1 0 ((x14.set (0 + (i64.wrap (x6 + x16)).toNat) (u32.wrap z24)).length))), (6, vi64 x6), (7, vu32 (p0.getD x6.toNat 0)), (17, vl 1 Ru32 p0), (18, vi64 ((p0.length : Nat) : Int)), (19, vi64 x6), (24, vl 1 Ru32 p1), (25, vi64 ((p1.length : Nat) : Int))], [(0, .row 37 false 1 (x14.set (0 + (i64.wrap (x6 + x16)).toNat) (u32.wrap z24)).length (Ru32 (x14.set (0 + (i64.wrap (x6 + x16)).toNat) (u32.wrap z24))))], 36⟩) (by simp only [List.length_set])) (conv_ren [(0, 0)] [1, 5, 6, 7, 8, 17, 18, 19, 24, 25, 26] (n := 1) (by kernel_rfl) (by kernel_rfl)))
    ·rw [if_neg (nb c19)] at h
     refine AW.exit ?_
     refine AW.thenQ_exit ?_
     obtain rfl := some_inj h
     refine loopQ_out rfl (conv_ren [(0, 0)] [1, 5, 6, 8, 17, 18, 19] (n := 1) (by kernel_rfl) (by kernel_rfl))
   ·
    show (_ : Exit → St → Prop) (.exit 2) ⟨[(1, vl 1 Ru32 p1), (5, .c (.ref 0 1 0 x26.length)), (6, vi64 x6), (8, vu64 x27), (17, vl 1 Ru32 p0), (18, vi64 ((p0.length : Nat) : Int)), (19, vi64 x6)], [(0, .row 37 false 1 x26.length (Ru32 x26))], 1⟩
    refine AW.inBlock_hit ?_
    refine AW.tn ?_
    obtain ⟨g28, h⟩ := ifc h
    obtain ⟨g29, h⟩ := ifc h
    refine AW.reg tt_ok0 [1, 5, 17, 18, 19] [0] [{}, {}, {}, {}, {}, {}, {}, {}, { h := { row := some (x26.length, Ru32 (x26.set (0 + (i64.wrap (x6 + ((p1.length : Nat) : Int))).toNat) (u32.wrap x27))) } }] ⟨[(1, vl 1 Ru32 p1), (5, .c (.ref 0 1 0 x26.length)), (17, vl 1 Ru32 p0), (18, vi64 ((p0.length : Nat) : Int)), (19, vi64 x6)], [(0, .row 37 false 1 x26.length (Ru32 (x26.set (0 + (i64.wrap (x6 + ((p1.length : Nat) : Int))).toNat) (u32.wrap x27))))], 10⟩ [True, True, True, True, True, True, True, (0 ≤ (i64.wrap (x6 + ((p1.length : Nat) : Int)))) ∧ ((i64.wrap (x6 + ((p1.length : Nat) : Int))) < ((x26.length : Nat) : Int)), ((0 + (i64.wrap (x6 + ((p1.length : Nat) : Int))).toNat) < x26.length) ∧ (x26.length = x26.length ∧ ∀ i, i < x26.length → ∀ j, j < 1 → TLe (updRow (Ru32 x26) (0 + (i64.wrap (x6 + ((p1.length : Nat) : Int))).toNat) 0 [.v (.int .u32 (u32.wrap x27))] i j) (Ru32 (x26.set (0 + (i64.wrap (x6 + ((p1.length : Nat) : Int))).toNat) (u32.wrap x27)) i j))] (by kernel_rfl) (by kernel_rfl) ⟨tv, tv, tv, tv, tv, tv, tv, ⟨g28, g29⟩, ⟨(by have h1 : 0 ≤ (i64.wrap (x6 + ((p1.length : Nat) : Int))) := g28; have h2 : (i64.wrap (x6 + ((p1.length : Nat) : Int))) < ((x26.length : Nat) : Int) := g29; omega), set_rowN rfl (by have h1 : 0 ≤ (i64.wrap (x6 + ((p1.length : Nat) : Int))) := g28; have h2 : (i64.wrap (x6 + ((p1.length : Nat) : Int))) < ((x26.length : Nat) : Int) := g29; omega) (fun j hj => match j, hj with | 0, _ => TLe.refl _ | _ + 1, h => absurd h (by omega))⟩, tv⟩ ?_
    refine AW.inBlock_normal ?_
    refine AW.tn ?_
    refine AW.reg tt_ok0 [1, 5, 17, 18, 19] [0] [] ⟨[(19, vi64 (i64.wrap (x6 + 1))), (1, vl 1 Ru32 p1), (5, .c (.ref 0 1 0 x26.length)), (17, vl 1 Ru32 p0), (18, vi64 ((p0.length : Nat) : Int))], [(0, .row 37 false 1 x26.length (Ru32 (x26.set (0 + (i64.wrap (x6 + ((p1.length : Nat) : Int))).toNat) (u32.wrap x27))))], 12⟩ [True, True] (by kernel_rfl) (by kernel_rfl) ⟨tv, tv, tv⟩ ?_
    obtain rfl := some_inj h
    refine loopQ_next (Conv.trans (conv_len (S' := ⟨[(19, vi64 (i64.wrap (x6 + 1))), (1, vl 1 Ru32 p1), (5, .c (.ref 0 1 0 ((x26.set (0 + (i64.wrap (x6 + ((p1.length : Nat) : Int))).toNat) (u32.wrap x27)).length))), (17, vl 1 Ru32 p0), (18, vi64 ((p0.length : Nat) : Int))], [(0, .row 37 false 1 (x26.set (0 + (i64.wrap (x6 + ((p1.length : Nat) : Int))).toNat) (u32.wrap x27)).length (Ru32 (x26.set (0 + (i64.wrap (x6 + ((p1.length : Nat) : Int))).toNat) (u32.wrap x27))))], 12⟩) (by simp only [List.length_set])) (conv_ren [(0, 0)] [1, 5, 17, 18, 19] (n := 1) (by kernel_rfl) (by kernel_rfl)))
  ·rw [if_neg (nb c8)] at h
   refine AW.exit ?_
   refine AW.thenQ_exit ?_
   obtain rfl := some_inj h
   refine loopQ_out rfl (conv_ren [(0, 0)] [5] (n := 1) (by kernel_rfl) (by kernel_rfl))
 ·
  show (_ : Exit → St → Prop) (.exit 0) ⟨[(5, .c (.ref 0 1 0 x31.length))], [(0, .row 37 false 1 x31.length (Ru32 x31))], 1⟩
  refine AW.inBlock_hit ?_
  refine AW.tn ?_
  refine AW.seq ?_
  obtain ⟨y32, e33, h⟩ := bnd_some h
  refine AW.reg tt_ok0 [4] [] [{}, { call := some { ids := [], frz := [0], flat := false, cnt := 0, args := [vl 1 Ru32 x31], out := vl 1 Ru32 y32, outb := [] } }] ⟨[(4, vl 1 Ru32 y32)], [], 3⟩ [True, ((0 + x31.length ≤ x31.length) ∧ (True)) ∧ (All2 ArgLe [vl 1 Ru32 x31] [vl 1 Ru32 x31]) ∧ ((false = true → flatB [])) ∧ (Con Try.prog 41 [vl 1 Ru32 x31] [] (vl 1 Ru32 y32) []), True] (by kernel_rfl) (by kernel_rfl) ⟨tv, ⟨⟨le0, tv⟩, ⟨ArgLe.refl _, tv⟩, (fun h => by cases h), (natural_trim_con x31 y32 e33)⟩, tv, tv⟩ ?_
  refine AW.tn ?_
  refine AW.ret ?_
  obtain rfl := some_inj h
  exact ⟨_, Conv.refl _ _, .inr rfl, OutOk.mk [] 0 (out0 := vl 1 Ru32 y32) (ps := [True]) (by kernel_rfl) ⟨tv, tv⟩ (by kernel_rfl) (by kernel_rfl)⟩
/-! recordlink/natural.done -/
noncomputable def natural_done (p0 : List Int) : Option ((List Int) × Int) := (natural_trim p0).bind fun y1 => ((natural_Valid y1).bind fun y3 => (if (!y3) = true then (some (([] : List Int), 1)) else (some (y1, 0))))
set_option maxRecDepth 100000 in
set_option maxHeartbeats 10000000 in
theorem natural_done_con (p0 : List Int) (r0 : List Int) (r1 : Int) (h : natural_done p0 = some (r0, r1)) : Con Try.prog 37 [vl 1 Ru32 p0] [] (.tup [vl 1 Ru32 r0, vi64 r1]) [] := by
 suffices H : ∀ r, natural_done p0 = some r → Con Try.prog 37 [vl 1 Ru32 p0] [] (.tup [vl 1 Ru32 r.1, vi64 r.2]) [] from H (r0, r1) h
 clear h
 intro r h
 refine con_of tt_ok0 0 Try.func37 (by kernel_rfl) rfl (by kernel_rfl) (fun base X hk => AW.post ?_)
 unfold natural_done at h
 refine AW.seq ?_
 refine AW.reg tt_ok0 [0] [] [] ⟨[(0, vl 1 Ru32 p0)], [], 2⟩ [True, True] (by kernel_rfl) (by kernel_rfl) ⟨tv, tv, tv⟩ ?_
 refine AW.tn ?_
 refine AW.seq ?_
 obtain ⟨y1, e2, h⟩ := bnd_some h
 refine AW.reg tt_ok0 [0] [] [{}, { call := some { ids := [], frz := [], flat := false, cnt := 0, args := [vl 1 Ru32 p0], out := vl 1 Ru32 y1, outb := [] } }] ⟨[(0, vl 1 Ru32 y1)], [], 4⟩ [True, ((True) ∧ (True)) ∧ (All2 ArgLe [vl 1 Ru32 p0] [vl 1 Ru32 p0]) ∧ ((false = true → flatB [])) ∧ (Con Try.prog 41 [vl 1 Ru32 p0] [] (vl 1 Ru32 y1) []), True] (by kernel_rfl) (by kernel_rfl) ⟨tv, ⟨⟨tv, tv⟩, ⟨ArgLe.refl _, tv⟩, (fun h => by cases h), (natural_trim_con p0 y1 e2)⟩, tv, tv⟩ ?_
 refine AW.tn ?_
 refine AW.seq ?_
 refine AW.seq ?_
 obtain ⟨y3, e4, h⟩ := bnd_some h
 refine AW.reg tt_ok0 [0, 8] [] [{}, { call := some { ids := [], frz := [], flat := true, cnt := 0, args := [vl 1 Ru32 y1], out := vb y3, outb := [] } }] ⟨[(8, vb (!y3)), (0, vl 1 Ru32 y1)], [], 6⟩ [True, ((True) ∧ (True)) ∧ (All2 ArgLe [vl 1 Ru32 y1] [vl 1 Ru32 y1]) ∧ ((true = true → flatB [])) ∧ (Con Try.prog 17 [vl 1 Ru32 y1] [] (vb y3) []), True] (by kernel_rfl) (by kernel_rfl) ⟨tv, ⟨⟨tv, tv⟩, ⟨ArgLe.refl _, tv⟩, (fun _ => tv), (natural_Valid_con y1 y3 e4)⟩, tv, tv⟩ ?_
 refine AW.tn ?_
 refine AW.cond (b := !y3) (by kernel_rfl) (fun c5 => ?_) (fun c5 => ?_)
 ·rw [if_pos c5] at h
  refine AW.seq ?_
  refine AW.reg tt_ok0 [2, 3] [] [] ⟨[(3, vi64 1), (2, .c (.t (.v (.slice none 0 0))))], [], 8⟩ [True, True] (by kernel_rfl) (by kernel_rfl) ⟨tv, tv, tv⟩ ?_
  refine AW.tn ?_
  refine AW.ret ?_
  refine AW.tr ?_
  obtain rfl := some_inj h
  exact ⟨_, conv_tm (tm' := [(3, vi64 1), (2, vl 1 Ru32 ([] : List Int))]) ⟨⟨vi64 1, by kernel_rfl, ALe.refl _ _⟩, ⟨.c (.t (.v (.slice none 0 0))), by kernel_rfl, ALe.c (CLe.nil rfl)⟩, tv⟩, .inr rfl, OutOk.mk [] 0 (out0 := .tup [vl 1 Ru32 ([] : List Int), vi64 1]) (ps := [True, True]) (by kernel_rfl) ⟨tv, tv, tv⟩ (by kernel_rfl) (by kernel_rfl)⟩
 ·rw [if_neg (nb c5)] at h
  refine AW.skip ?_
  refine AW.tn ?_
  refine AW.seq ?_
  refine AW.reg tt_ok0 [2, 3] [] [] ⟨[(3, vi64 0), (2, vl 1 Ru32 y1)], [], 9⟩ [True, True, True] (by kernel_rfl) (by kernel_rfl) ⟨tv, tv, tv, tv⟩ ?_
  refine AW.tn ?_
  refine AW.ret ?_
  obtain rfl := some_inj h
  exact ⟨_, Conv.refl _ _, .inr rfl, OutOk.mk [] 0 (out0 := .tup [vl 1 Ru32 y1, vi64 0]) (ps := [True, True]) (by kernel_rfl) ⟨tv, tv, tv⟩ (by kernel_rfl) (by kernel_rfl)⟩
/-! recordlink/natural.Mul -/
noncomputable def natural_Mul (p0 : List Int) (p1 : List Int) : Option ((List Int) × Int) := (natural_both p0 p1).bind fun y1 => (if (y1 != 0) = true then (some (([] : List Int), y1)) else ((natural_times p0 p1).bind fun y4 => (bind2 (natural_done y4) fun y6 y7 => (some (y6, y7)))))
set_option maxRecDepth 100000 in
set_option maxHeartbeats 10000000 in
theorem natural_Mul_con (p0 : List Int) (p1 : List Int) (r0 : List Int) (r1 : Int) (h : natural_Mul p0 p1 = some (r0, r1)) : Con Try.prog 15 [vl 1 Ru32 p0, vl 1 Ru32 p1] [] (.tup [vl 1 Ru32 r0, vi64 r1]) [] := by
 suffices H : ∀ r, natural_Mul p0 p1 = some r → Con Try.prog 15 [vl 1 Ru32 p0, vl 1 Ru32 p1] [] (.tup [vl 1 Ru32 r.1, vi64 r.2]) [] from H (r0, r1) h
 clear h
 intro r h
 refine con_of tt_ok0 0 Try.func15 (by kernel_rfl) rfl (by kernel_rfl) (fun base X hk => AW.post ?_)
 unfold natural_Mul at h
 refine AW.seq ?_
 refine AW.reg tt_ok0 [0, 1] [] [] ⟨[(0, vl 1 Ru32 p0), (1, vl 1 Ru32 p1)], [], 2⟩ [True, True] (by kernel_rfl) (by kernel_rfl) ⟨tv, tv, tv⟩ ?_
 refine AW.tn ?_
 refine AW.seq ?_
 refine AW.seq ?_
 obtain ⟨y1, e2, h⟩ := bnd_some h
 refine AW.reg tt_ok0 [0, 1, 6] [] [{}, {}, { call := some { ids := [], frz := [], flat := true, cnt := 0, args := [vl 1 Ru32 p0, vl 1 Ru32 p1], out := vi64 y1, outb := [] } }] ⟨[(6, vi64 y1), (0, vl 1 Ru32 p0), (1, vl 1 Ru32 p1)], [], 5⟩ [True, True, ((True) ∧ (True) ∧ (True)) ∧ (All2 ArgLe [vl 1 Ru32 p0, vl 1 Ru32 p1] [vl 1 Ru32 p0, vl 1 Ru32 p1]) ∧ ((true = true → flatB [])) ∧ (Con Try.prog 36 [vl 1 Ru32 p0, vl 1 Ru32 p1] [] (vi64 y1) []), True] (by kernel_rfl) (by kernel_rfl) ⟨tv, tv, ⟨⟨tv, tv, tv⟩, ⟨ArgLe.refl _, ArgLe.refl _, tv⟩, (fun _ => tv), (natural_both_con p0 p1 y1 e2)⟩, tv, tv⟩ ?_
 refine AW.tn ?_
 refine AW.seq ?_
 refine AW.reg tt_ok0 [0, 1, 6, 11] [] [] ⟨[(11, vb (y1 != 0)), (6, vi64 y1), (0, vl 1 Ru32 p0), (1, vl 1 Ru32 p1)], [], 7⟩ [True, True] (by kernel_rfl) (by kernel_rfl) ⟨tv, tv, tv⟩ ?_
 refine AW.tn ?_
 refine AW.cond (b := (y1 != 0)) (by kernel_rfl) (fun c3 => ?_) (fun c3 => ?_)
 ·rw [if_pos c3] at h
  refine AW.seq ?_
  refine AW.reg tt_ok0 [4, 5] [] [] ⟨[(5, vi64 y1), (4, .c (.t (.v (.slice none 0 0))))], [], 10⟩ [True, True, True] (by kernel_rfl) (by kernel_rfl) ⟨tv, tv, tv, tv⟩ ?_
  refine AW.tn ?_
  refine AW.ret ?_
  refine AW.tr ?_
  obtain rfl := some_inj h
  exact ⟨_, conv_tm (tm' := [(5, vi64 y1), (4, vl 1 Ru32 ([] : List Int))]) ⟨⟨vi64 y1, by kernel_rfl, ALe.refl _ _⟩, ⟨.c (.t (.v (.slice none 0 0))), by kernel_rfl, ALe.c (CLe.nil rfl)⟩, tv⟩, .inr rfl, OutOk.mk [] 0 (out0 := .tup [vl 1 Ru32 ([] : List Int), vi64 y1]) (ps := [True, True]) (by kernel_rfl) ⟨tv, tv, tv⟩ (by kernel_rfl) (by kernel_rfl)⟩
 ·rw [if_neg (nb c3)] at h
  refine AW.skip ?_
  refine AW.tn ?_
  refine AW.seq ?_
  obtain ⟨y4, e5, h⟩ := bnd_some h
  obtain ⟨y6, y7, e8, h⟩ := bind2_some h
  refine AW.reg tt_ok0 [4, 5] [] [{}, {}, { call := some { ids := [], frz := [], flat := false, cnt := 0, args := [vl 1 Ru32 p0, vl 1 Ru32 p1], out := vl 1 Ru32 y4, outb := [] } }, { call := some { ids := [], frz := [], flat := false, cnt := 0, args := [vl 1 Ru32 y4], out := .tup [vl 1 Ru32 y6, vi64 y7], outb := [] } }] ⟨[(5, vi64 y7), (4, vl 1 Ru32 y6)], [], 13⟩ [True, True, ((True) ∧ (True) ∧ (True)) ∧ (All2 ArgLe [vl 1 Ru32 p0, vl 1 Ru32 p1] [vl 1 Ru32 p0, vl 1 Ru32 p1]) ∧ ((false = true → flatB [])) ∧ (Con Try.prog 38 [vl 1 Ru32 p0, vl 1 Ru32 p1] [] (vl 1 Ru32 y4) []), ((True) ∧ (True)) ∧ (All2 ArgLe [vl 1 Ru32 y4] [vl 1 Ru32 y4]) ∧ ((false = true → flatB [])) ∧ (Con Try.prog 37 [vl 1 Ru32 y4] [] (.tup [vl 1 Ru32 y6, vi64 y7]) []), True, True, True, True] (by kernel_rfl) (by kernel_rfl) ⟨tv, tv, ⟨⟨tv, tv, tv⟩, ⟨ArgLe.refl _, ArgLe.refl _, tv⟩, (fun h => by cases h), (natural_times_con p0 p1 y4 e5)⟩, ⟨⟨tv, tv⟩, ⟨ArgLe.refl _, tv⟩, (fun h => by cases h), (natural_done_con y4 y6 y7 e8)⟩, tv, tv, tv, tv, tv⟩ ?_
  refine AW.tn ?_
  refine AW.ret ?_
  obtain rfl := some_inj h
  exact ⟨_, Conv.refl _ _, .inr rfl, OutOk.mk [] 0 (out0 := .tup [vl 1 Ru32 y6, vi64 y7]) (ps := [True, True]) (by kernel_rfl) ⟨tv, tv, tv⟩ (by kernel_rfl) (by kernel_rfl)⟩
/-! cmp.isNaN[int] -/
noncomputable def cmp_isNaN_int (p0 : Int) : Option Bool := some (p0 != p0)
set_option maxRecDepth 100000 in
set_option maxHeartbeats 10000000 in
theorem cmp_isNaN_int_con (p0 : Int) (r0 : Bool) (h : cmp_isNaN_int p0 = some r0) : Con Try.prog 58 [vi64 p0] [] (vb r0) [] := by
 revert h; generalize r0 = r; intro h
 refine con_of tt_ok0 0 Try.func58 (by kernel_rfl) rfl (by kernel_rfl) (fun base X hk => AW.post ?_)
 unfold cmp_isNaN_int at h
 refine AW.seq ?_
 refine AW.reg tt_ok0 [0] [] [] ⟨[(0, vi64 p0)], [], 1⟩ [True] (by kernel_rfl) (by kernel_rfl) ⟨tv, tv⟩ ?_
 refine AW.tn ?_
 refine AW.seq ?_
 refine AW.reg tt_ok0 [2] [] [] ⟨[(2, vb (p0 != p0))], [], 5⟩ [True, True, True, True] (by kernel_rfl) (by kernel_rfl) ⟨tv, tv, tv, tv, tv⟩ ?_
 refine AW.tn ?_
 refine AW.ret ?_
 obtain rfl := some_inj h
 exact ⟨_, Conv.refl _ _, .inr rfl, OutOk.mk [] 0 (out0 := vb (p0 != p0)) (ps := [True]) (by kernel_rfl) ⟨tv, tv⟩ (by kernel_rfl) (by kernel_rfl)⟩
/-! cmp.Compare[int] -/
noncomputable def cmp_Compare_int (p0 : Int) (p1 : Int) : Option Int := (cmp_isNaN_int p0).bind fun y1 => ((cmp_isNaN_int p1).bind fun y3 => (if y1 = true then (if y3 = true then (some 0) else (some (-1))) else (if y3 = true then (some 1) else (if (decide (p0 < p1)) = true then (some (-1)) else (if (decide (p0 > p1)) = true then (some 1) else (some 0))))))
set_option maxRecDepth 100000 in
set_option maxHeartbeats 10000000 in
theorem cmp_Compare_int_con (p0 : Int) (p1 : Int) (r0 : Int) (h : cmp_Compare_int p0 p1 = some r0) : Con Try.prog 42 [vi64 p0, vi64 p1] [] (vi64 r0) [] := by
 revert h; generalize r0 = r; intro h
 refine con_of tt_ok0 0 Try.func42 (by kernel_rfl) rfl (by kernel_rfl) (fun base X hk => AW.post ?_)
 unfold cmp_Compare_int at h
 refine AW.seq ?_
 refine AW.reg tt_ok0 [0, 1] [] [] ⟨[(0, vi64 p0), (1, vi64 p1)], [], 1⟩ [True] (by kernel_rfl) (by kernel_rfl) ⟨tv, tv⟩ ?_
 refine AW.tn ?_
 refine AW.seq ?_
 obtain ⟨y1, e2, h⟩ := bnd_some h
 refine AW.reg tt_ok0 [0, 1, 5] [] [{}, { call := some { ids := [], frz := [], flat := true, cnt := 0, args := [vi64 p0], out := vb y1, outb := [] } }] ⟨[(5, vb y1), (0, vi64 p0), (1, vi64 p1)], [], 3⟩ [True, ((True) ∧ (True)) ∧ (All2 ArgLe [vi64 p0] [vi64 p0]) ∧ ((true = true → flatB [])) ∧ (Con Try.prog 58 [vi64 p0] [] (vb y1) []), True] (by kernel_rfl) (by kernel_rfl) ⟨tv, ⟨⟨tv, tv⟩, ⟨ArgLe.refl _, tv⟩, (fun _ => tv), (cmp_isNaN_int_con p0 y1 e2)⟩, tv, tv⟩ ?_
 refine AW.tn ?_
 refine AW.seq ?_
 obtain ⟨y3, e4, h⟩ := bnd_some h
 refine AW.reg tt_ok0 [0, 1, 5, 6] [] [{}, { call := some { ids := [], frz := [], flat := true, cnt := 0, args := [vi64 p1], out := vb y3, outb := [] } }] ⟨[(6, vb y3), (5, vb y1), (0, vi64 p0), (1, vi64 p1)], [], 5⟩ [True, ((True) ∧ (True)) ∧ (All2 ArgLe [vi64 p1] [vi64 p1]) ∧ ((true = true → flatB [])) ∧ (Con Try.prog 58 [vi64 p1] [] (vb y3) []), True] (by kernel_rfl) (by kernel_rfl) ⟨tv, ⟨⟨tv, tv⟩, ⟨ArgLe.refl _, tv⟩, (fun _ => tv), (cmp_isNaN_int_con p1 y3 e4)⟩, tv, tv⟩ ?_
 refine AW.tn ?_
 refine AW.seq ?_
 refine AW.seq ?_
 refine AW.reg tt_ok0 [0, 1, 6, 11] [] [] ⟨[(11, vb y1), (6, vb y3), (0, vi64 p0), (1, vi64 p1)], [], 6⟩ [True] (by kernel_rfl) (by kernel_rfl) ⟨tv, tv⟩ ?_
 refine AW.tn ?_
 refine AW.cond (b := y1) (by kernel_rfl) (fun c5 => ?_) (fun c5 => ?_)
 ·rw [if_pos c5] at h
  refine AW.seq ?_
  refine AW.seq ?_
  refine AW.reg tt_ok0 [12] [] [] ⟨[(12, vb y3)], [], 7⟩ [True] (by kernel_rfl) (by kernel_rfl) ⟨tv, tv⟩ ?_
  refine AW.tn ?_
  refine AW.cond (b := y3) (by kernel_rfl) (fun c6 => ?_) (fun c6 => ?_)
  ·rw [if_pos c6] at h
   refine AW.seq ?_
   refine AW.reg tt_ok0 [4] [] [] ⟨[(4, vi64 0)], [], 8⟩ [True] (by kernel_rfl) (by kernel_rfl) ⟨tv, tv⟩ ?_
   refine AW.tn ?_
   refine AW.ret ?_
   refine AW.tr ?_
   refine AW.tr ?_
   obtain rfl := some_inj h
   exact ⟨_, Conv.refl _ _, .inr rfl, OutOk.mk [] 0 (out0 := vi64 0) (ps := [True]) (by kernel_rfl) ⟨tv, tv⟩ (by kernel_rfl) (by kernel_rfl)⟩
  ·rw [if_neg (nb c6)] at h
   refine AW.skip ?_
   refine AW.tn ?_
   refine AW.seq ?_
   refine AW.reg tt_ok0 [4] [] [] ⟨[(4, vi64 (-1))], [], 8⟩ [True] (by kernel_rfl) (by kernel_rfl) ⟨tv, tv⟩ ?_
   refine AW.tn ?_
   refine AW.ret ?_
   refine AW.tr ?_
   obtain rfl := some_inj h
   exact ⟨_, Conv.refl _ _, .inr rfl, OutOk.mk [] 0 (out0 := vi64 (-1)) (ps := [True]) (by kernel_rfl) ⟨tv, tv⟩ (by kernel_rfl) (by kernel_rfl)⟩
 ·rw [if_neg (nb c5)] at h
  refine AW.skip ?_
  refine AW.tn ?_
  refine AW.seq ?_
  refine AW.seq ?_
  refine AW.reg tt_ok0 [0, 1, 13] [] [] ⟨[(13, vb y3), (0, vi64 p0), (1, vi64 p1)], [], 7⟩ [True] (by kernel_rfl) (by kernel_rfl) ⟨tv, tv⟩ ?_
  refine AW.tn ?_
  refine AW.cond (b := y3) (by kernel_rfl) (fun c7 => ?_) (fun c7 => ?_)
  ·rw [if_pos c7] at h
   refine AW.seq ?_
   refine AW.reg tt_ok0 [4] [] [] ⟨[(4, vi64 1)], [], 8⟩ [True] (by kernel_rfl) (by kernel_rfl) ⟨tv, tv⟩ ?_
   refine AW.tn ?_
   refine AW.ret ?_
   refine AW.tr ?_
   obtain rfl := some_inj h
   exact ⟨_, Conv.refl _ _, .inr rfl, OutOk.mk [] 0 (out0 := vi64 1) (ps := [True]) (by kernel_rfl) ⟨tv, tv⟩ (by kernel_rfl) (by kernel_rfl)⟩
  ·rw [if_neg (nb c7)] at h
   refine AW.skip ?_
   refine AW.tn ?_
   refine AW.seq ?_
   refine AW.seq ?_
   refine AW.reg tt_ok0 [0, 1, 16] [] [] ⟨[(16, vb (decide (p0 < p1))), (0, vi64 p0), (1, vi64 p1)], [], 10⟩ [True, True, True] (by kernel_rfl) (by kernel_rfl) ⟨tv, tv, tv, tv⟩ ?_
   refine AW.tn ?_
   refine AW.cond (b := decide (p0 < p1)) (by kernel_rfl) (fun c8 => ?_) (fun c8 => ?_)
   ·rw [if_pos c8] at h
    refine AW.seq ?_
    refine AW.reg tt_ok0 [4] [] [] ⟨[(4, vi64 (-1))], [], 11⟩ [True] (by kernel_rfl) (by kernel_rfl) ⟨tv, tv⟩ ?_
    refine AW.tn ?_
    refine AW.ret ?_
    refine AW.tr ?_
    obtain rfl := some_inj h
    exact ⟨_, Conv.refl _ _, .inr rfl, OutOk.mk [] 0 (out0 := vi64 (-1)) (ps := [True]) (by kernel_rfl) ⟨tv, tv⟩ (by kernel_rfl) (by kernel_rfl)⟩
   ·rw [if_neg (nb c8)] at h
    refine AW.skip ?_
    refine AW.tn ?_
    refine AW.seq ?_
    refine AW.seq ?_
    refine AW.reg tt_ok0 [19] [] [] ⟨[(19, vb (decide (p0 > p1)))], [], 13⟩ [True, True, True] (by kernel_rfl) (by kernel_rfl) ⟨tv, tv, tv, tv⟩ ?_
    refine AW.tn ?_
    refine AW.cond (b := decide (p0 > p1)) (by kernel_rfl) (fun c9 => ?_) (fun c9 => ?_)
    ·rw [if_pos c9] at h
     refine AW.seq ?_
     refine AW.reg tt_ok0 [4] [] [] ⟨[(4, vi64 1)], [], 14⟩ [True] (by kernel_rfl) (by kernel_rfl) ⟨tv, tv⟩ ?_
     refine AW.tn ?_
     refine AW.ret ?_
     refine AW.tr ?_
     obtain rfl := some_inj h
     exact ⟨_, Conv.refl _ _, .inr rfl, OutOk.mk [] 0 (out0 := vi64 1) (ps := [True]) (by kernel_rfl) ⟨tv, tv⟩ (by kernel_rfl) (by kernel_rfl)⟩
    ·rw [if_neg (nb c9)] at h
     refine AW.skip ?_
     refine AW.tn ?_
     refine AW.seq ?_
     refine AW.reg tt_ok0 [4] [] [] ⟨[(4, vi64 0)], [], 14⟩ [True] (by kernel_rfl) (by kernel_rfl) ⟨tv, tv⟩ ?_
     refine AW.tn ?_
     refine AW.ret ?_
     obtain rfl := some_inj h
     exact ⟨_, Conv.refl _ _, .inr rfl, OutOk.mk [] 0 (out0 := vi64 0) (ps := [True]) (by kernel_rfl) ⟨tv, tv⟩ (by kernel_rfl) (by kernel_rfl)⟩
/-! cmp.isNaN[uint32] -/
noncomputable def cmp_isNaN_uint32 (p0 : Int) : Option Bool := some (p0 != p0)
set_option maxRecDepth 100000 in
set_option maxHeartbeats 10000000 in
theorem cmp_isNaN_uint32_con (p0 : Int) (r0 : Bool) (h : cmp_isNaN_uint32 p0 = some r0) : Con Try.prog 59 [vu32 p0] [] (vb r0) [] := by
 revert h; generalize r0 = r; intro h
 refine con_of tt_ok0 0 Try.func59 (by kernel_rfl) rfl (by kernel_rfl) (fun base X hk => AW.post ?_)
 unfold cmp_isNaN_uint32 at h
 refine AW.seq ?_
 refine AW.reg tt_ok0 [0] [] [] ⟨[(0, vu32 p0)], [], 1⟩ [True] (by kernel_rfl) (by kernel_rfl) ⟨tv, tv⟩ ?_
 refine AW.tn ?_
 refine AW.seq ?_
 refine AW.reg tt_ok0 [2] [] [] ⟨[(2, vb (p0 != p0))], [], 5⟩ [True, True, True, True] (by kernel_rfl) (by kernel_rfl) ⟨tv, tv, tv, tv, tv⟩ ?_
 refine AW.tn ?_
 refine AW.ret ?_
 obtain rfl := some_inj h
 exact ⟨_, Conv.refl _ _, .inr rfl, OutOk.mk [] 0 (out0 := vb (p0 != p0)) (ps := [True]) (by kernel_rfl) ⟨tv, tv⟩ (by kernel_rfl) (by kernel_rfl)⟩
/-! cmp.Compare[uint32] -/
noncomputable def cmp_Compare_uint32 (p0 : Int) (p1 : Int) : Option Int := (cmp_isNaN_uint32 p0).bind fun y1 => ((cmp_isNaN_uint32 p1).bind fun y3 => (if y1 = true then (if y3 = true then (some 0) else (some (-1))) else (if y3 = true then (some 1) else (if (decide (p0 < p1)) = true then (some (-1)) else (if (decide (p0 > p1)) = true then (some 1) else (some 0))))))
set_option maxRecDepth 100000 in
set_option maxHeartbeats 10000000 in
theorem cmp_Compare_uint32_con (p0 : Int) (p1 : Int) (r0 : Int) (h : cmp_Compare_uint32 p0 p1 = some r0) : Con Try.prog 43 [vu32 p0, vu32 p1] [] (vi64 r0) [] := by
 revert h; generalize r0 = r; intro h
 refine con_of tt_ok0 0 Try.func43 (by kernel_rfl) rfl (by kernel_rfl) (fun base X hk => AW.post ?_)
 unfold cmp_Compare_uint32 at h
 refine AW.seq ?_
 refine AW.reg tt_ok0 [0, 1] [] [] ⟨[(0, vu32 p0), (1, vu32 p1)], [], 1⟩ [True] (by kernel_rfl) (by kernel_rfl) ⟨tv, tv⟩ ?_
 refine AW.tn ?_
 refine AW.seq ?_
 obtain ⟨y1, e2, h⟩ := bnd_some h
 refine AW.reg tt_ok0 [0, 1, 5] [] [{}, { call := some { ids := [], frz := [], flat := true, cnt := 0, args := [vu32 p0], out := vb y1, outb := [] } }] ⟨[(5, vb y1), (0, vu32 p0), (1, vu32 p1)], [], 3⟩ [True, ((True) ∧ (True)) ∧ (All2 ArgLe [vu32 p0] [vu32 p0]) ∧ ((true = true → flatB [])) ∧ (Con Try.prog 59 [vu32 p0] [] (vb y1) []), True] (by kernel_rfl) (by kernel_rfl) ⟨tv, ⟨⟨tv, tv⟩, ⟨ArgLe.refl _, tv⟩, (fun _ => tv), (cmp_isNaN_uint32_con p0 y1 e2)⟩, tv, tv⟩ ?_
 refine AW.tn ?_
 refine AW.seq ?_
 obtain ⟨y3, e4, h⟩ := bnd_some h
 refine AW.reg tt_ok0 [0, 1, 5, 6] [] [{}, { call := some { ids := [], frz := [], flat := true, cnt := 0, args := [vu32 p1], out := vb y3, outb := [] } }] ⟨[(6, vb y3), (5, vb y1), (0, vu32 p0), (1, vu32 p1)], [], 5⟩ [True, ((True) ∧ (True)) ∧ (All2 ArgLe [vu32 p1] [vu32 p1]) ∧ ((true = true → flatB [])) ∧ (Con Try.prog 59 [vu32 p1] [] (vb y3) []), True] (by kernel_rfl) (by kernel_rfl) ⟨tv, ⟨⟨tv, tv⟩, ⟨ArgLe.refl _, tv⟩, (fun _ => tv), (cmp_isNaN_uint32_con p1 y3 e4)⟩, tv, tv⟩ ?_
 refine AW.tn ?_
 refine AW.seq ?_
 refine AW.seq ?_
 refine AW.reg tt_ok0 [0, 1, 6, 11] [] [] ⟨[(11, vb y1), (6, vb y3), (0, vu32 p0), (1, vu32 p1)], [], 6⟩ [True] (by kernel_rfl) (by kernel_rfl) ⟨tv, tv⟩ ?_
 refine AW.tn ?_
 refine AW.cond (b := y1) (by kernel_rfl) (fun c5 => ?_) (fun c5 => ?_)
 ·rw [if_pos c5] at h
  refine AW.seq ?_
  refine AW.seq ?_
  refine AW.reg tt_ok0 [12] [] [] ⟨[(12, vb y3)], [], 7⟩ [True] (by kernel_rfl) (by kernel_rfl) ⟨tv, tv⟩ ?_
  refine AW.tn ?_
  refine AW.cond (b := y3) (by kernel_rfl) (fun c6 => ?_) (fun c6 => ?_)
  ·rw [if_pos c6] at h
   refine AW.seq ?_
   refine AW.reg tt_ok0 [4] [] [] ⟨[(4, vi64 0)], [], 8⟩ [True] (by kernel_rfl) (by kernel_rfl) ⟨tv, tv⟩ ?_
   refine AW.tn ?_
   refine AW.ret ?_
   refine AW.tr ?_
   refine AW.tr ?_
   obtain rfl := some_inj h
   exact ⟨_, Conv.refl _ _, .inr rfl, OutOk.mk [] 0 (out0 := vi64 0) (ps := [True]) (by kernel_rfl) ⟨tv, tv⟩ (by kernel_rfl) (by kernel_rfl)⟩
  ·rw [if_neg (nb c6)] at h
   refine AW.skip ?_
   refine AW.tn ?_
   refine AW.seq ?_
   refine AW.reg tt_ok0 [4] [] [] ⟨[(4, vi64 (-1))], [], 8⟩ [True] (by kernel_rfl) (by kernel_rfl) ⟨tv, tv⟩ ?_
   refine AW.tn ?_
   refine AW.ret ?_
   refine AW.tr ?_
   obtain rfl := some_inj h
   exact ⟨_, Conv.refl _ _, .inr rfl, OutOk.mk [] 0 (out0 := vi64 (-1)) (ps := [True]) (by kernel_rfl) ⟨tv, tv⟩ (by kernel_rfl) (by kernel_rfl)⟩
 ·rw [if_neg (nb c5)] at h
  refine AW.skip ?_
  refine AW.tn ?_
  refine AW.seq ?_
  refine AW.seq ?_
  refine AW.reg tt_ok0 [0, 1, 13] [] [] ⟨[(13, vb y3), (0, vu32 p0), (1, vu32 p1)], [], 7⟩ [True] (by kernel_rfl) (by kernel_rfl) ⟨tv, tv⟩ ?_
  refine AW.tn ?_
  refine AW.cond (b := y3) (by kernel_rfl) (fun c7 => ?_) (fun c7 => ?_)
  ·rw [if_pos c7] at h
   refine AW.seq ?_
   refine AW.reg tt_ok0 [4] [] [] ⟨[(4, vi64 1)], [], 8⟩ [True] (by kernel_rfl) (by kernel_rfl) ⟨tv, tv⟩ ?_
   refine AW.tn ?_
   refine AW.ret ?_
   refine AW.tr ?_
   obtain rfl := some_inj h
   exact ⟨_, Conv.refl _ _, .inr rfl, OutOk.mk [] 0 (out0 := vi64 1) (ps := [True]) (by kernel_rfl) ⟨tv, tv⟩ (by kernel_rfl) (by kernel_rfl)⟩
  ·rw [if_neg (nb c7)] at h
   refine AW.skip ?_
   refine AW.tn ?_
   refine AW.seq ?_
   refine AW.seq ?_
   refine AW.reg tt_ok0 [0, 1, 16] [] [] ⟨[(16, vb (decide (p0 < p1))), (0, vu32 p0), (1, vu32 p1)], [], 10⟩ [True, True, True] (by kernel_rfl) (by kernel_rfl) ⟨tv, tv, tv, tv⟩ ?_
   refine AW.tn ?_
   refine AW.cond (b := decide (p0 < p1)) (by kernel_rfl) (fun c8 => ?_) (fun c8 => ?_)
   ·rw [if_pos c8] at h
    refine AW.seq ?_
    refine AW.reg tt_ok0 [4] [] [] ⟨[(4, vi64 (-1))], [], 11⟩ [True] (by kernel_rfl) (by kernel_rfl) ⟨tv, tv⟩ ?_
    refine AW.tn ?_
    refine AW.ret ?_
    refine AW.tr ?_
    obtain rfl := some_inj h
    exact ⟨_, Conv.refl _ _, .inr rfl, OutOk.mk [] 0 (out0 := vi64 (-1)) (ps := [True]) (by kernel_rfl) ⟨tv, tv⟩ (by kernel_rfl) (by kernel_rfl)⟩
   ·rw [if_neg (nb c8)] at h
    refine AW.skip ?_
    refine AW.tn ?_
    refine AW.seq ?_
    refine AW.seq ?_
    refine AW.reg tt_ok0 [19] [] [] ⟨[(19, vb (decide (p0 > p1)))], [], 13⟩ [True, True, True] (by kernel_rfl) (by kernel_rfl) ⟨tv, tv, tv, tv⟩ ?_
    refine AW.tn ?_
    refine AW.cond (b := decide (p0 > p1)) (by kernel_rfl) (fun c9 => ?_) (fun c9 => ?_)
    ·rw [if_pos c9] at h
     refine AW.seq ?_
     refine AW.reg tt_ok0 [4] [] [] ⟨[(4, vi64 1)], [], 14⟩ [True] (by kernel_rfl) (by kernel_rfl) ⟨tv, tv⟩ ?_
     refine AW.tn ?_
     refine AW.ret ?_
     refine AW.tr ?_
     obtain rfl := some_inj h
     exact ⟨_, Conv.refl _ _, .inr rfl, OutOk.mk [] 0 (out0 := vi64 1) (ps := [True]) (by kernel_rfl) ⟨tv, tv⟩ (by kernel_rfl) (by kernel_rfl)⟩
    ·rw [if_neg (nb c9)] at h
     refine AW.skip ?_
     refine AW.tn ?_
     refine AW.seq ?_
     refine AW.reg tt_ok0 [4] [] [] ⟨[(4, vi64 0)], [], 14⟩ [True] (by kernel_rfl) (by kernel_rfl) ⟨tv, tv⟩ ?_
     refine AW.tn ?_
     refine AW.ret ?_
     obtain rfl := some_inj h
     exact ⟨_, Conv.refl _ _, .inr rfl, OutOk.mk [] 0 (out0 := vi64 0) (ps := [True]) (by kernel_rfl) ⟨tv, tv⟩ (by kernel_rfl) (by kernel_rfl)⟩
/-! recordlink/natural.Compare -/
noncomputable def natural_Compare_l4 (y1 : List Int) (y3 : List Int) (x9 : Int) : Option (Int ⊕ (Unit ⊕ Int)) := if (decide (x9 ≥ 0)) = true then (if 0 ≤ x9 then (if x9 < ((y1.length : Nat) : Int) then (if x9 < ((y3.length : Nat) : Int) then (if ((y1.getD x9.toNat 0) != (y3.getD x9.toNat 0)) = true then ((cmp_Compare_uint32 (y1.getD x9.toNat 0) (y3.getD x9.toNat 0)).bind fun y16 => (some (.inr (.inr y16)))) else (some (.inl (i64.wrap (x9 - 1))))) else none) else none) else none) else (some (.inr (.inl ())))
noncomputable def natural_Compare_a5 : Option Int := some 0
noncomputable def natural_Compare_a6 (x18 : Int) : Option Int := some x18
noncomputable def natural_Compare (p0 : List Int) (p1 : List Int) : Option Int := (natural_trim p0).bind fun y1 => ((natural_trim p1).bind fun y3 => (if (((y1.length : Nat) : Int) != ((y3.length : Nat) : Int)) = true then ((cmp_Compare_int ((y1.length : Nat) : Int) ((y3.length : Nat) : Int)).bind fun y6 => (some y6)) else (bindE (loop (fun v : Int => natural_Compare_l4 y1 y3 v) (i64.wrap (((y1.length : Nat) : Int) - 1))) (fun t => natural_Compare_a5) (fun t => natural_Compare_a6 t))))
set_option maxRecDepth 100000 in
set_option maxHeartbeats 10000000 in
theorem natural_Compare_con (p0 : List Int) (p1 : List Int) (r0 : Int) (h : natural_Compare p0 p1 = some r0) : Con Try.prog 22 [vl 1 Ru32 p0, vl 1 Ru32 p1] [] (vi64 r0) [] := by
 revert h; generalize r0 = r; intro h
 refine con_of tt_ok0 0 Try.func22 (by kernel_rfl) rfl (by kernel_rfl) (fun base X hk => AW.post ?_)
 unfold natural_Compare at h
 refine AW.seq ?_
 refine AW.reg tt_ok0 [0, 1] [] [] ⟨[(0, vl 1 Ru32 p0), (1, vl 1 Ru32 p1)], [], 1⟩ [True] (by kernel_rfl) (by kernel_rfl) ⟨tv, tv⟩ ?_
 refine AW.tn ?_
 refine AW.seq ?_
 obtain ⟨y1, e2, h⟩ := bnd_some h
 obtain ⟨y3, e4, h⟩ := bnd_some h
 refine AW.reg tt_ok0 [0, 1] [] [{}, { call := some { ids := [], frz := [], flat := false, cnt := 0, args := [vl 1 Ru32 p0], out := vl 1 Ru32 y1, outb := [] } }, {}, { call := some { ids := [], frz := [], flat := false, cnt := 0, args := [vl 1 Ru32 p1], out := vl 1 Ru32 y3, outb := [] } }] ⟨[(1, vl 1 Ru32 y3), (0, vl 1 Ru32 y1)], [], 5⟩ [True, ((True) ∧ (True)) ∧ (All2 ArgLe [vl 1 Ru32 p0] [vl 1 Ru32 p0]) ∧ ((false = true → flatB [])) ∧ (Con Try.prog 41 [vl 1 Ru32 p0] [] (vl 1 Ru32 y1) []), True, ((True) ∧ (True)) ∧ (All2 ArgLe [vl 1 Ru32 p1] [vl 1 Ru32 p1]) ∧ ((false = true → flatB [])) ∧ (Con Try.prog 41 [vl 1 Ru32 p1] [] (vl 1 Ru32 y3) []), True, True] (by kernel_rfl) (by kernel_rfl) ⟨tv, ⟨⟨tv, tv⟩, ⟨ArgLe.refl _, tv⟩, (fun h => by cases h), (natural_trim_con p0 y1 e2)⟩, tv, ⟨⟨tv, tv⟩, ⟨ArgLe.refl _, tv⟩, (fun h => by cases h), (natural_trim_con p1 y3 e4)⟩, tv, tv, tv⟩ ?_
 refine AW.tn ?_
 refine AW.seq ?_
 refine AW.seq ?_
 refine AW.reg tt_ok0 [0, 1, 14] [] [] ⟨[(14, vb (((y1.length : Nat) : Int) != ((y3.length : Nat) : Int))), (1, vl 1 Ru32 y3), (0, vl 1 Ru32 y1)], [], 10⟩ [True, True, True, True, True] (by kernel_rfl) (by kernel_rfl) ⟨tv, tv, tv, tv, tv, tv⟩ ?_
 refine AW.tn ?_
 refine AW.cond (b := (((y1.length : Nat) : Int) != ((y3.length : Nat) : Int))) (by kernel_rfl) (fun c5 => ?_) (fun c5 => ?_)
 ·rw [if_pos c5] at h
  refine AW.seq ?_
  obtain ⟨y6, e7, h⟩ := bnd_some h
  refine AW.reg tt_ok0 [4] [] [{}, {}, {}, {}, { call := some { ids := [], frz := [], flat := true, cnt := 0, args := [vi64 ((y1.length : Nat) : Int), vi64 ((y3.length : Nat) : Int)], out := vi64 y6, outb := [] } }] ⟨[(4, vi64 y6)], [], 15⟩ [True, True, True, True, ((True) ∧ (True) ∧ (True)) ∧ (All2 ArgLe [vi64 ((y1.length : Nat) : Int), vi64 ((y3.length : Nat) : Int)] [vi64 ((y1.length : Nat) : Int), vi64 ((y3.length : Nat) : Int)]) ∧ ((true = true → flatB [])) ∧ (Con Try.prog 42 [vi64 ((y1.length : Nat) : Int), vi64 ((y3.length : Nat) : Int)] [] (vi64 y6) []), True] (by kernel_rfl) (by kernel_rfl) ⟨tv, tv, tv, tv, ⟨⟨tv, tv, tv⟩, ⟨ArgLe.refl _, ArgLe.refl _, tv⟩, (fun _ => tv), (cmp_Compare_int_con ((y1.length : Nat) : Int) ((y3.length : Nat) : Int) y6 e7)⟩, tv, tv⟩ ?_
  refine AW.tn ?_
  refine AW.ret ?_
  refine AW.tr ?_
  obtain rfl := some_inj h
  exact ⟨_, Conv.refl _ _, .inr rfl, OutOk.mk [] 0 (out0 := vi64 y6) (ps := [True]) (by kernel_rfl) ⟨tv, tv⟩ (by kernel_rfl) (by kernel_rfl)⟩
 ·rw [if_neg (nb c5)] at h
  refine AW.skip ?_
  refine AW.tn ?_
  refine AW.seq ?_
  refine AW.seq ?_
  refine AW.reg tt_ok0 [0, 1, 5] [] [] ⟨[(5, vi64 (i64.wrap (((y1.length : Nat) : Int) - 1))), (1, vl 1 Ru32 y3), (0, vl 1 Ru32 y1)], [], 14⟩ [True, True, True, True] (by kernel_rfl) (by kernel_rfl) ⟨tv, tv, tv, tv, tv⟩ ?_
  refine AW.tn ?_
  refine AW.block ?_
  rcases bindE_some h with ⟨t, l19, h⟩ | ⟨t, l19, h⟩
  ·
   replace h : natural_Compare_a5 = some r := h
   unfold natural_Compare_a5 at h
   refine AW.pre (S' := ((fun v => ⟨[(0, vl 1 Ru32 y1), (1, vl 1 Ru32 y3), (5, vi64 v)], [], 0⟩) : Int → St) (i64.wrap (((y1.length : Nat) : Int) - 1))) (conv_ren [] [0, 1, 5] (n := 0) (by kernel_rfl) (by kernel_rfl)) ?_
   refine AW.loop2 (step := (fun v : Int => natural_Compare_l4 y1 y3 v)) (s0 := i64.wrap (((y1.length : Nat) : Int) - 1)) (t := .inl ()) (fun v => ⟨[(0, vl 1 Ru32 y1), (1, vl 1 Ru32 y3), (5, vi64 v)], [], 0⟩) (fun t : (Unit ⊕ Int) => match t with | .inl t => (.exit 0, ⟨[], [], 0⟩) | .inr t => (.ret, ⟨[(4, vi64 t)], [], 0⟩)) l19 (fun t => by cases t <;> trivial) ?_ ?_
   ·
    clear l19 h
    intro v o h
    obtain ⟨x9, rfl⟩ : ∃ x, x = v := ⟨_, rfl⟩
    replace h : natural_Compare_l4 y1 y3 x9 = some o := h
    unfold natural_Compare_l4 at h
    show AW _ ⟨[(0, vl 1 Ru32 y1), (1, vl 1 Ru32 y3), (5, vi64 x9)], [], 0⟩ _ _
    refine AW.seq ?_
    refine AW.seq ?_
    refine AW.reg tt_ok0 [0, 1, 5, 24] [] [] ⟨[(24, vb (decide (x9 ≥ 0))), (0, vl 1 Ru32 y1), (1, vl 1 Ru32 y3), (5, vi64 x9)], [], 2⟩ [True, True] (by kernel_rfl) (by kernel_rfl) ⟨tv, tv, tv⟩ ?_
    refine AW.tn ?_
    refine AW.cond (b := decide (x9 ≥ 0)) (by kernel_rfl) (fun c11 => ?_) (fun c11 => ?_)
    ·rw [if_pos c11] at h
     refine AW.skip ?_
     refine AW.tn ?_
     refine AW.seq ?_
     refine AW.block ?_
     refine AW.seq ?_
     obtain ⟨g12, h⟩ := ifc h
     obtain ⟨g13, h⟩ := ifc h
     obtain ⟨g14, h⟩ := ifc h
     refine AW.regD tt_ok0 mo0 [0, 0, 3, 7, 0, 0, 48, 112, 255] [[], [], [], [], [], [], [], [], []] [0, 1, 5, 35] [] [] ⟨[(35, vb ((y1.getD x9.toNat 0) != (y3.getD x9.toNat 0))), (0, vl 1 Ru32 y1), (1, vl 1 Ru32 y3), (5, vi64 x9)], [], 11⟩ [True, True, (0 ≤ x9) ∧ (x9 < ((y1.length : Nat) : Int)), True, True, True, (0 ≤ x9) ∧ (x9 < ((y3.length : Nat) : Int)), True, True] (by kernel_rfl) (by kernel_rfl) ⟨tv, tv, ⟨g12, g13⟩, tv, tv, tv, ⟨g12, g14⟩, tv, tv, tv⟩ ?_
     refine AW.tn ?_
     refine AW.cond (b := ((y1.getD x9.toNat 0) != (y3.getD x9.toNat 0))) (by kernel_rfl) (fun c15 => ?_) (fun c15 => ?_)
     ·rw [if_pos c15] at h
      refine AW.seq ?_
      obtain ⟨y16, e17, h⟩ := bnd_some h
      refine AW.regD tt_ok0 mo0 [0, 0, 3, 7, 0, 0, 48, 112, 255, 511] [[], [], [], [], [], [], [], [], [], []] [4] [] [{}, {}, {}, {}, {}, {}, {}, {}, { call := some { ids := [], frz := [], flat := true, cnt := 0, args := [vu32 (y1.getD x9.toNat 0), vu32 (y3.getD x9.toNat 0)], out := vi64 y16, outb := [] } }] ⟨[(4, vi64 y16)], [], 20⟩ [True, True, (0 ≤ x9) ∧ (x9 < ((y1.length : Nat) : Int)), True, True, True, (0 ≤ x9) ∧ (x9 < ((y3.length : Nat) : Int)), True, ((True) ∧ (True) ∧ (True)) ∧ (All2 ArgLe [vu32 (y1.getD x9.toNat 0), vu32 (y3.getD x9.toNat 0)] [vu32 (y1.getD x9.toNat 0), vu32 (y3.getD x9.toNat 0)]) ∧ ((true = true → flatB [])) ∧ (Con Try.prog 43 [vu32 (y1.getD x9.toNat 0), vu32 (y3.getD x9.toNat 0)] [] (vi64 y16) []), True] (by kernel_rfl) (by kernel_rfl) ⟨tv, tv, ⟨g12, g13⟩, tv, tv, tv, ⟨g12, g14⟩, tv, ⟨⟨tv, tv, tv⟩, ⟨ArgLe.refl _, ArgLe.refl _, tv⟩, (fun _ => tv), (cmp_Compare_uint32_con (y1.getD x9.toNat 0) (y3.getD x9.toNat 0) y16 e17)⟩, tv, tv⟩ ?_
      refine AW.tn ?_
      refine AW.ret ?_
      refine AW.inBlock_ret ?_
      refine AW.tr ?_
      obtain rfl := some_inj h
      refine loopQ_out rfl (conv_ren [] [4] (n := 0) (by kernel_rfl) (by kernel_rfl))
     ·rw [if_neg (nb c15)] at h
      refine AW.skip ?_
      refine AW.inBlock_normal ?_
      refine AW.tn ?_
      refine AW.reg tt_ok0 [0, 1, 5] [] [] ⟨[(5, vi64 (i64.wrap (x9 - 1))), (0, vl 1 Ru32 y1), (1, vl 1 Ru32 y3)], [], 14⟩ [True, True, True] (by kernel_rfl) (by kernel_rfl) ⟨tv, tv, tv, tv⟩ ?_
      obtain rfl := some_inj h
      refine loopQ_next (conv_ren [] [0, 1, 5] (n := 0) (by kernel_rfl) (by kernel_rfl))
    ·rw [if_neg (nb c11)] at h
     refine AW.exit ?_
     refine AW.thenQ_exit ?_
     obtain rfl := some_inj h
     refine loopQ_out rfl (conv_ren [] [] (n := 0) (by kernel_rfl) (by kernel_rfl))
   ·
    show (_ : Exit → St → Prop) (.exit 0) ⟨[], [], 0⟩
    refine AW.inBlock_hit ?_
    refine AW.tn ?_
    refine AW.seq ?_
    refine AW.reg tt_ok0 [4] [] [] ⟨[(4, vi64 0)], [], 1⟩ [True] (by kernel_rfl) (by kernel_rfl) ⟨tv, tv⟩ ?_
    refine AW.tn ?_
    refine AW.ret ?_
    obtain rfl := some_inj h
    exact ⟨_, Conv.refl _ _, .inr rfl, OutOk.mk [] 0 (out0 := vi64 0) (ps := [True]) (by kernel_rfl) ⟨tv, tv⟩ (by kernel_rfl) (by kernel_rfl)⟩
  ·
   obtain ⟨x18, rfl⟩ : ∃ x, x = t := ⟨_, rfl⟩
   replace h : natural_Compare_a6 x18 = some r := h
   unfold natural_Compare_a6 at h
   refine AW.pre (S' := ((fun v => ⟨[(0, vl 1 Ru32 y1), (1, vl 1 Ru32 y3), (5, vi64 v)], [], 0⟩) : Int → St) (i64.wrap (((y1.length : Nat) : Int) - 1))) (conv_ren [] [0, 1, 5] (n := 0) (by kernel_rfl) (by kernel_rfl)) ?_
   refine AW.loop2 (step := (fun v : Int => natural_Compare_l4 y1 y3 v)) (s0 := i64.wrap (((y1.length : Nat) : Int) - 1)) (t := .inr x18) (fun v => ⟨[(0, vl 1 Ru32 y1), (1, vl 1 Ru32 y3), (5, vi64 v)], [], 0⟩) (fun t : (Unit ⊕ Int) => match t with | .inl t => (.exit 0, ⟨[], [], 0⟩) | .inr t => (.ret, ⟨[(4, vi64 t)], [], 0⟩)) l19 (fun t => by cases t <;> trivial) ?_ ?_
   ·
    clear l19 h
    intro v o h
    obtain ⟨x9, rfl⟩ : ∃ x, x = v := ⟨_, rfl⟩
    replace h : natural_Compare_l4 y1 y3 x9 = some o := h
    unfold natural_Compare_l4 at h
    show AW _ ⟨[(0, vl 1 Ru32 y1), (1, vl 1 Ru32 y3), (5, vi64 x9)], [], 0⟩ _ _
    refine AW.seq ?_
    refine AW.seq ?_
    refine AW.reg tt_ok0 [0, 1, 5, 24] [] [] ⟨[(24, vb (decide (x9 ≥ 0))), (0, vl 1 Ru32 y1), (1, vl 1 Ru32 y3), (5, vi64 x9)], [], 2⟩ [True, True] (by kernel_rfl) (by kernel_rfl) ⟨tv, tv, tv⟩ ?_
    refine AW.tn ?_
    refine AW.cond (b := decide (x9 ≥ 0)) (by kernel_rfl) (fun c11 => ?_) (fun c11 => ?_)
    ·rw [if_pos c11] at h
     refine AW.skip ?_
     refine AW.tn ?_
     refine AW.seq ?_
     refine AW.block ?_
     refine AW.seq ?_
     obtain ⟨g12, h⟩ := ifc h
     obtain ⟨g13, h⟩ := ifc h
     obtain ⟨g14, h⟩ := ifc h
     refine AW.regD tt_ok0 mo0 [0, 0, 3, 7, 0, 0, 48, 112, 255] [[], [], [], [], [], [], [], [], []] [0, 1, 5, 35] [] [] ⟨[(35, vb ((y1.getD x9.toNat 0) != (y3.getD x9.toNat 0))), (0, vl 1 Ru32 y1), (1, vl 1 Ru32 y3), (5, vi64 x9)], [], 11⟩ [True, True, (0 ≤ x9) ∧ (x9 < ((y1.length : Nat) : Int)), True, True, True, (0 ≤ x9) ∧ (x9 < ((y3.length : Nat) : Int)), True, True] (by kernel_rfl) (by kernel_rfl) ⟨tv, tv, ⟨g12, g13⟩, tv, tv, tv, ⟨g12, g14⟩, tv, tv, tv⟩ ?_
     refine AW.tn ?_
     refine AW.cond (b := ((y1.getD x9.toNat 0) != (y3.getD x9.toNat 0))) (by kernel_rfl) (fun c15 => ?_) (fun c15 => ?_)
     ·rw [if_pos c15] at h
      refine AW.seq ?_
      obtain ⟨y16, e17, h⟩ := bnd_some h
      refine AW.regD tt_ok0 mo0 [0, 0, 3, 7, 0, 0, 48, 112, 255, 511] [[], [], [], [], [], [], [], [], [], []] [4] [] [{}, {}, {}, {}, {}, {}, {}, {}, { call := some { ids := [], frz := [], flat := true, cnt := 0, args := [vu32 (y1.getD x9.toNat 0), vu32 (y3.getD x9.toNat 0)], out := vi64 y16, outb := [] } }] ⟨[(4, vi64 y16)], [], 20⟩ [True, True, (0 ≤ x9) ∧ (x9 < ((y1.length : Nat) : Int)), True, True, True, (0 ≤ x9) ∧ (x9 < ((y3.length : Nat) : Int)), True, ((True) ∧ (True) ∧ (True)) ∧ (All2 ArgLe [vu32 (y1.getD x9.toNat 0), vu32 (y3.getD x9.toNat 0)] [vu32 (y1.getD x9.toNat 0), vu32 (y3.getD x9.toNat 0)]) ∧ ((true = true → flatB [])) ∧ (Con Try.prog 43 [vu32 (y1.getD x9.toNat 0), vu32 (y3.getD x9.toNat 0)] [] (vi64 y16) []), True] (by kernel_rfl) (by kernel_rfl) ⟨tv, tv, ⟨g12, g13⟩, tv, tv, tv, ⟨g12, g14⟩, tv, ⟨⟨tv, tv, tv⟩, ⟨ArgLe.refl _, ArgLe.refl _, tv⟩, (fun _ => tv), (cmp_Compare_uint32_con (y1.getD x9.toNat 0) (y3.getD x9.toNat 0) y16 e17)⟩, tv, tv⟩ ?_
      refine AW.tn ?_
      refine AW.ret ?_
      refine AW.inBlock_ret ?_
      refine AW.tr ?_
      obtain rfl := some_inj h
      refine loopQ_out rfl (conv_ren [] [4] (n := 0) (by kernel_rfl) (by kernel_rfl))
     ·rw [if_neg (nb c15)] at h
      refine AW.skip ?_
      refine AW.inBlock_normal ?_
      refine AW.tn ?_
      refine AW.reg tt_ok0 [0, 1, 5] [] [] ⟨[(5, vi64 (i64.wrap (x9 - 1))), (0, vl 1 Ru32 y1), (1, vl 1 Ru32 y3)], [], 14⟩ [True, True, True] (by kernel_rfl) (by kernel_rfl) ⟨tv, tv, tv, tv⟩ ?_
      obtain rfl := some_inj h
      refine loopQ_next (conv_ren [] [0, 1, 5] (n := 0) (by kernel_rfl) (by kernel_rfl))
    ·rw [if_neg (nb c11)] at h
     refine AW.exit ?_
     refine AW.thenQ_exit ?_
     obtain rfl := some_inj h
     refine loopQ_out rfl (conv_ren [] [] (n := 0) (by kernel_rfl) (by kernel_rfl))
   ·
    show (_ : Exit → St → Prop) (.ret) ⟨[(4, vi64 x18)], [], 0⟩
    refine AW.inBlock_ret ?_
    refine AW.tr ?_
    obtain rfl := some_inj h
    exact ⟨_, Conv.refl _ _, .inr rfl, OutOk.mk [] 0 (out0 := vi64 x18) (ps := [True]) (by kernel_rfl) ⟨tv, tv⟩ (by kernel_rfl) (by kernel_rfl)⟩
/-! slices.Clone[recordlink/api.Natural,uint32] -/
noncomputable def slices_Clone_uint32 (p0 : List Int) : Option (List Int) := orBoth (p0.length = 0) (some ([] : List Int)) (if ([] : List Int).length + p0.length ≤ 1099511627776 then (some (([] : List Int) ++ p0)) else none)
set_option maxRecDepth 100000 in
set_option maxHeartbeats 10000000 in
theorem slices_Clone_uint32_con (p0 : List Int) (r0 : List Int) (h : slices_Clone_uint32 p0 = some r0) : Con Try.prog 39 [vl 1 Ru32 p0] [] (.c (.ref 0 1 0 r0.length)) [(0, .row 37 false 1 r0.length (Ru32 r0))] := by
 revert h; generalize r0 = r; intro h
 refine con_of tt_ok0 0 Try.func39 (by kernel_rfl) rfl (by kernel_rfl) (fun base X hk => AW.post ?_)
 unfold slices_Clone_uint32 at h
 refine AW.seq ?_
 refine AW.reg tt_ok0 [0] [] [] ⟨[(0, vl 1 Ru32 p0)], [], 1⟩ [True] (by kernel_rfl) (by kernel_rfl) ⟨tv, tv⟩ ?_
 refine AW.tn ?_
 refine AW.seq ?_
 refine AW.seq ?_
 refine AW.reg tt_ok0 [0, 4] [] [] ⟨[(4, .c (.t (.tst (p0.length = 0)))), (0, vl 1 Ru32 p0)], [], 3⟩ [True, (1 : Nat) ≠ 0] (by kernel_rfl) (by kernel_rfl) ⟨tv, (by decide), tv⟩ ?_
 refine AW.tn ?_
 refine AW.cond_tst (p := p0.length = 0) (by kernel_rfl) (fun c1 => ?_) ?_
 ·replace h := (orBoth_some h).1 c1
  refine AW.seq ?_
  refine AW.reg tt_ok0 [2] [] [] ⟨[(2, .c (.t (.v (.slice none 0 0))))], [], 4⟩ [True] (by kernel_rfl) (by kernel_rfl) ⟨tv, tv⟩ ?_
  refine AW.tn ?_
  refine AW.ret ?_
  refine AW.tr ?_
  obtain rfl := some_inj h
  exact ⟨_, conv_adopt (t := 2) (ty := 37) (sz := 1) (n := ([] : List Int).length) (f := Ru32 ([] : List Int)) (by kernel_rfl) rfl, .inr rfl, OutOk.mk [(0, 4)] 1 (out0 := .c (.ref 4 1 0 (([] : List Int).length))) (ps := [True]) (by kernel_rfl) ⟨tv, tv⟩ (by kernel_rfl) (by kernel_rfl)⟩
 ·replace h := (orBoth_some h).2
  refine AW.skip ?_
  refine AW.tn ?_
  refine AW.seq ?_
  obtain ⟨g2, h⟩ := ifc h
  refine AW.reg tt_ok0 [2] [5] [{ h := { row := some (([] : List Int).length, Ru32 ([] : List Int)) } }, {}, { h := { row := some ((([] : List Int) ++ p0).length, Ru32 (([] : List Int) ++ p0)) } }] ⟨[(2, .c (.ref 5 1 0 ((([] : List Int) ++ p0).length)))], [(5, .row 37 false 1 (([] : List Int) ++ p0).length (Ru32 (([] : List Int) ++ p0)))], 7⟩ [0 = ([] : List Int).length ∧ ∀ i, i < ([] : List Int).length → ∀ j, j < 1 → TLe ((rowOf [] 1) i j) (Ru32 ([] : List Int) i j), True, (([] : List Int).length = ([] : List Int).length) ∧ (True) ∧ ((([] : List Int).length + p0.length ≤ 1099511627776) ∧ ((4 : Nat) ≤ 128)) ∧ (([] : List Int).length + p0.length = (([] : List Int) ++ p0).length ∧ ∀ i, i < (([] : List Int) ++ p0).length → ∀ j, j < 1 → TLe ((appRow (([] : List Int).length) (Ru32 ([] : List Int)) (Ru32 p0)) i j) (Ru32 (([] : List Int) ++ p0) i j)), True] (by kernel_rfl) (by kernel_rfl) ⟨⟨rfl, lit_row (n := 0) (sz := 1) tv⟩, tv, ⟨rfl, tv, ⟨g2, (by decide)⟩, rowT (app_row rfl rfl row_rfl row_rfl)⟩, tv, tv⟩ ?_
  refine AW.tn ?_
  refine AW.ret ?_
  obtain rfl := some_inj h
  exact ⟨_, Conv.refl _ _, .inr rfl, OutOk.mk [(0, 5)] 1 (out0 := .c (.ref 5 1 0 ((([] : List Int) ++ p0).length))) (ps := [True]) (by kernel_rfl) ⟨tv, tv⟩ (by kernel_rfl) (by kernel_rfl)⟩
def bigS0 : ByteArray := ByteArray.mk #[0, 1, 2, 2, 3, 3, 3, 3, 4, 4, 4, 4, 4, 4, 4, 4, 5, 5, 5, 5, 5, 5, 5, 5, 5, 5, 5, 5, 5, 5, 5, 5, 6, 6, 6, 6, 6, 6, 6, 6, 6, 6, 6, 6, 6, 6, 6, 6, 6, 6, 6, 6, 6, 6, 6, 6, 6, 6, 6, 6, 6, 6, 6, 6, 7, 7, 7, 7, 7, 7, 7, 7, 7, 7, 7, 7, 7, 7, 7, 7, 7, 7, 7, 7, 7, 7, 7, 7, 7, 7, 7, 7, 7, 7, 7, 7, 7, 7, 7, 7, 7, 7, 7, 7, 7, 7, 7, 7, 7, 7, 7, 7, 7, 7, 7, 7, 7, 7, 7, 7, 7, 7, 7, 7, 7, 7, 7, 7, 8, 8, 8, 8, 8, 8, 8, 8, 8, 8, 8, 8, 8, 8, 8, 8, 8, 8, 8, 8, 8, 8, 8, 8, 8, 8, 8, 8, 8, 8, 8, 8, 8, 8, 8, 8, 8, 8, 8, 8, 8, 8, 8, 8, 8, 8, 8, 8, 8, 8, 8, 8, 8, 8, 8, 8, 8, 8, 8, 8, 8, 8, 8, 8, 8, 8, 8, 8, 8, 8, 8, 8, 8, 8, 8, 8, 8, 8, 8, 8, 8, 8, 8, 8, 8, 8, 8, 8, 8, 8, 8, 8, 8, 8, 8, 8, 8, 8, 8, 8, 8, 8, 8, 8, 8, 8, 8, 8, 8, 8, 8, 8, 8, 8, 8, 8, 8, 8, 8, 8, 8, 8, 8, 8, 8, 8, 8, 8]
/-! math/bits.Len32 -/
noncomputable def bits_Len32_k2 (x3 : Int) (x4 : Int) : Option Int := if 0 ≤ (u8.wrap x3) then (if (u8.wrap x3) < ((bigS0.size : Nat) : Int) then ((some (i64.wrap (x4 + (i64.wrap ((bigS0.data.toList.getD ((u8.wrap x3).toNat) 0).toNat : Int))))).bind fun z7 => (some z7)) else none) else none
noncomputable def bits_Len32_k1 (x1 : Int) (x2 : Int) : Option Int := if (decide (x1 ≥ 256)) = true then (bits_Len32_k2 (ishr .u32 x1 8) (i64.wrap (x2 + 8))) else (bits_Len32_k2 x1 x2)
noncomputable def bits_Len32 (p0 : Int) : Option Int := if (decide (p0 ≥ 65536)) = true then (bits_Len32_k1 (ishr .u32 p0 16) 16) else (bits_Len32_k1 p0 0)
set_option maxRecDepth 100000 in
set_option maxHeartbeats 10000000 in
theorem bits_Len32_con (p0 : Int) (r0 : Int) (h : bits_Len32 p0 = some r0) : Con Try.prog 64 [vu32 p0] [] (vi64 r0) [] := by
 revert h; generalize r0 = r; intro h
 refine con_of tt_ok0 0 Try.func64 (by kernel_rfl) rfl (by kernel_rfl) (fun base X hk => AW.post ?_)
 unfold bits_Len32 at h
 refine AW.seq ?_
 refine AW.reg tt_ok0 [0, 2] [] [] ⟨[(2, vi64 0), (0, vu32 p0)], [], 1⟩ [True] (by kernel_rfl) (by kernel_rfl) ⟨tv, tv⟩ ?_
 refine AW.tn ?_
 refine AW.seq ?_
 refine AW.join (ι := Int × Int) (fun v => ⟨[(0, vu32 v.1), (2, vi64 v.2)], [], 0⟩) (fun v : Int × Int => bits_Len32_k1 v.1 v.2 = some r) (fun v h => ?_) ?_
 ·
  obtain ⟨x1, x2⟩ := v
  replace h : bits_Len32_k1 x1 x2 = some r := h
  unfold bits_Len32_k1 at h
  show (_ : Exit → St → Prop) .normal ⟨[(0, vu32 x1), (2, vi64 x2)], [], 0⟩
  refine AW.tn ?_
  refine AW.seq ?_
  refine AW.join (ι := Int × Int) (fun v => ⟨[(0, vu32 v.1), (2, vi64 v.2)], [], 0⟩) (fun v : Int × Int => bits_Len32_k2 v.1 v.2 = some r) (fun v h => ?_) ?_
  ·
   obtain ⟨x3, x4⟩ := v
   replace h : bits_Len32_k2 x3 x4 = some r := h
   unfold bits_Len32_k2 at h
   show (_ : Exit → St → Prop) .normal ⟨[(0, vu32 x3), (2, vi64 x4)], [], 0⟩
   refine AW.tn ?_
   refine AW.seq ?_
   obtain ⟨g5, h⟩ := ifc h
   obtain ⟨g6, h⟩ := ifc h
   obtain ⟨z7, n8, h⟩ := bnd_some h
   replace n8 := some_inj n8
   refine AW.reg tt_ok0 [2] [] [] ⟨[(2, vi64 (i64.wrap (x4 + (i64.wrap ((bigS0.data.toList.getD ((u8.wrap x3).toNat) 0).toNat : Int)))))], [], 7⟩ [True, True, True, (0 ≤ (u8.wrap x3)) ∧ ((u8.wrap x3) < ((bigS0.size : Nat) : Int)), True, True, True] (by kernel_rfl) (by kernel_rfl) ⟨tv, tv, tv, ⟨g5, g6⟩, tv, tv, tv, tv⟩ ?_
   refine eq_Q (S' := ⟨[(2, vi64 z7)], [], 7⟩) (by rw [n8]) ?_
   refine AW.tn ?_
   refine AW.ret ?_
   obtain rfl := some_inj h
   exact ⟨_, Conv.refl _ _, .inr rfl, OutOk.mk [] 0 (out0 := vi64 z7) (ps := [True]) (by kernel_rfl) ⟨tv, tv⟩ (by kernel_rfl) (by kernel_rfl)⟩
  ·
   refine AW.seq ?_
   refine AW.reg tt_ok0 [0, 2, 8] [] [] ⟨[(8, vb (decide (x1 ≥ 256))), (0, vu32 x1), (2, vi64 x2)], [], 2⟩ [True, True] (by kernel_rfl) (by kernel_rfl) ⟨tv, tv, tv⟩ ?_
   refine AW.tn ?_
   refine AW.cond (b := decide (x1 ≥ 256)) (by kernel_rfl) (fun c9 => ?_) (fun c9 => ?_)
   ·rw [if_pos c9] at h
    refine AW.seq ?_
    refine AW.reg tt_ok0 [0, 2] [] [] ⟨[(0, vu32 (ishr .u32 x1 8)), (2, vi64 x2)], [], 5⟩ [True, 0 ≤ (8 : Int), True] (by kernel_rfl) (by kernel_rfl) ⟨tv, (by decide), tv, tv⟩ ?_
    refine AW.tn ?_
    refine AW.reg tt_ok0 [0, 2] [] [] ⟨[(2, vi64 (i64.wrap (x2 + 8))), (0, vu32 (ishr .u32 x1 8))], [], 8⟩ [True, True, True] (by kernel_rfl) (by kernel_rfl) ⟨tv, tv, tv, tv⟩ ?_
    exact joinQ_leaf ((ishr .u32 x1 8, i64.wrap (x2 + 8))) h (conv_ren [] [0, 2] (n := 0) (by kernel_rfl) (by kernel_rfl))
   ·rw [if_neg (nb c9)] at h
    refine AW.skip ?_
    exact joinQ_leaf ((x1, x2)) h (conv_ren [] [0, 2] (n := 0) (by kernel_rfl) (by kernel_rfl))
 ·
  refine AW.seq ?_
  refine AW.reg tt_ok0 [0, 2, 4] [] [] ⟨[(4, vb (decide (p0 ≥ 65536))), (2, vi64 0), (0, vu32 p0)], [], 3⟩ [True, True] (by kernel_rfl) (by kernel_rfl) ⟨tv, tv, tv⟩ ?_
  refine AW.tn ?_
  refine AW.cond (b := decide (p0 ≥ 65536)) (by kernel_rfl) (fun c10 => ?_) (fun c10 => ?_)
  ·rw [if_pos c10] at h
   refine AW.seq ?_
   refine AW.reg tt_ok0 [0] [] [] ⟨[(0, vu32 (ishr .u32 p0 16))], [], 6⟩ [True, 0 ≤ (16 : Int), True] (by kernel_rfl) (by kernel_rfl) ⟨tv, (by decide), tv, tv⟩ ?_
   refine AW.tn ?_
   refine AW.reg tt_ok0 [0, 2] [] [] ⟨[(2, vi64 16), (0, vu32 (ishr .u32 p0 16))], [], 7⟩ [True] (by kernel_rfl) (by kernel_rfl) ⟨tv, tv⟩ ?_
   exact joinQ_leaf ((ishr .u32 p0 16, 16)) h (conv_ren [] [0, 2] (n := 0) (by kernel_rfl) (by kernel_rfl))
  ·rw [if_neg (nb c10)] at h
   refine AW.skip ?_
   exact joinQ_leaf ((p0, 0)) h (conv_ren [] [0, 2] (n := 0) (by kernel_rfl) (by kernel_rfl))
/-! math/bits.LeadingZeros32 -/
noncomputable def bits_LeadingZeros32 (p0 : Int) : Option Int := (bits_Len32 p0).bind fun y1 => (some (i64.wrap (32 - y1)))
set_option maxRecDepth 100000 in
set_option maxHeartbeats 10000000 in
theorem bits_LeadingZeros32_con (p0 : Int) (r0 : Int) (h : bits_LeadingZeros32 p0 = some r0) : Con Try.prog 53 [vu32 p0] [] (vi64 r0) [] := by
 revert h; generalize r0 = r; intro h
 refine con_of tt_ok0 0 Try.func53 (by kernel_rfl) rfl (by kernel_rfl) (fun base X hk => AW.post ?_)
 unfold bits_LeadingZeros32 at h
 refine AW.seq ?_
 refine AW.reg tt_ok0 [0] [] [] ⟨[(0, vu32 p0)], [], 1⟩ [True] (by kernel_rfl) (by kernel_rfl) ⟨tv, tv⟩ ?_
 refine AW.tn ?_
 refine AW.seq ?_
 obtain ⟨y1, e2, h⟩ := bnd_some h
 refine AW.reg tt_ok0 [2] [] [{}, { call := some { ids := [], frz := [], flat := true, cnt := 0, args := [vu32 p0], out := vi64 y1, outb := [] } }] ⟨[(2, vi64 (i64.wrap (32 - y1)))], [], 4⟩ [True, ((True) ∧ (True)) ∧ (All2 ArgLe [vu32 p0] [vu32 p0]) ∧ ((true = true → flatB [])) ∧ (Con Try.prog 64 [vu32 p0] [] (vi64 y1) []), True, True] (by kernel_rfl) (by kernel_rfl) ⟨tv, ⟨⟨tv, tv⟩, ⟨ArgLe.refl _, tv⟩, (fun _ => tv), (bits_Len32_con p0 y1 e2)⟩, tv, tv, tv⟩ ?_
 refine AW.tn ?_
 refine AW.ret ?_
 obtain rfl := some_inj h
 exact ⟨_, Conv.refl _ _, .inr rfl, OutOk.mk [] 0 (out0 := vi64 (i64.wrap (32 - y1))) (ps := [True]) (by kernel_rfl) ⟨tv, tv⟩ (by kernel_rfl) (by kernel_rfl)⟩
/-! recordlink/natural.shift -/
noncomputable def natural_shift_l2 (p0 : List Int) (p1 : Int) (x5 : List Int) (x6 : Int) : Option (((List Int) × Int) ⊕ (List Int)) := if (decide (x6 < ((p0.length : Nat) : Int))) = true then (if 0 ≤ x6 then (if x6 < ((p0.length : Nat) : Int) then (if 0 ≤ p1 then (if x6 < ((x5.length : Nat) : Int) then (if 0 ≤ (i64.wrap (x6 + 1)) then (if (i64.wrap (x6 + 1)) < ((x5.length : Nat) : Int) then (some (.inl (((x5.set (0 + x6.toNat) (ior .u32 (x5.getD (0 + x6.toNat) 0) (u32.wrap (ishl .u64 (u64.wrap (p0.getD x6.toNat 0)) p1)))).set (0 + (i64.wrap (x6 + 1)).toNat) (u32.wrap (ishr .u64 (ishl .u64 (u64.wrap (p0.getD x6.toNat 0)) p1) 32))), i64.wrap (x6 + 1)))) else none) else none) else none) else none) else none) else none) else (some (.inr x5))
noncomputable def natural_shift (p0 : List Int) (p1 : Int) : Option (List Int) := if 0 ≤ (i64.wrap (((p0.length : Nat) : Int) + 1)) then (if (i64.wrap (((p0.length : Nat) : Int) + 1)) ≤ 1099511627776 then ((loop (fun v : (List Int) × Int => natural_shift_l2 p0 p1 v.1 v.2) ((List.replicate ((i64.wrap (((p0.length : Nat) : Int) + 1)).toNat) (0 : Int)), 0)).bind fun x15 => (some x15)) else none) else none
set_option maxRecDepth 100000 in
set_option maxHeartbeats 10000000 in
theorem natural_shift_con (p0 : List Int) (p1 : Int) (r0 : List Int) (h : natural_shift p0 p1 = some r0) : Con Try.prog 54 [vl 1 Ru32 p0, vi64 p1] [] (.c (.ref 0 1 0 r0.length)) [(0, .row 37 false 1 r0.length (Ru32 r0))] := by
 revert h; generalize r0 = r; intro h
 refine con_of tt_ok0 0 Try.func54 (by kernel_rfl) rfl (by kernel_rfl) (fun base X hk => AW.post ?_)
 unfold natural_shift at h
 refine AW.seq ?_
 refine AW.reg tt_ok0 [0, 1] [] [] ⟨[(0, vl 1 Ru32 p0), (1, vi64 p1)], [], 1⟩ [True] (by kernel_rfl) (by kernel_rfl) ⟨tv, tv⟩ ?_
 refine AW.tn ?_
 refine AW.seq ?_
 obtain ⟨g1, h⟩ := ifc h
 obtain ⟨g2, h⟩ := ifc h
 refine AW.reg tt_ok0 [0, 1, 5] [4] [{}, {}, {}, { h := { row := some ((List.replicate ((i64.wrap (((p0.length : Nat) : Int) + 1)).toNat) (0 : Int)).length, Ru32 (List.replicate ((i64.wrap (((p0.length : Nat) : Int) + 1)).toNat) (0 : Int))) } }] ⟨[(5, .c (.ref 4 1 0 ((List.replicate ((i64.wrap (((p0.length : Nat) : Int) + 1)).toNat) (0 : Int)).length))), (0, vl 1 Ru32 p0), (1, vi64 p1)], [(4, .row 37 false 1 (List.replicate ((i64.wrap (((p0.length : Nat) : Int) + 1)).toNat) (0 : Int)).length (Ru32 (List.replicate ((i64.wrap (((p0.length : Nat) : Int) + 1)).toNat) (0 : Int))))], 6⟩ [True, True, True, ((0 ≤ (i64.wrap (((p0.length : Nat) : Int) + 1))) ∧ ((i64.wrap (((p0.length : Nat) : Int) + 1)) ≤ (i64.wrap (((p0.length : Nat) : Int) + 1))) ∧ ((i64.wrap (((p0.length : Nat) : Int) + 1)) ≤ 1099511627776) ∧ ((4 : Nat) ≤ 128)) ∧ ((i64.wrap (((p0.length : Nat) : Int) + 1)).toNat = (List.replicate ((i64.wrap (((p0.length : Nat) : Int) + 1)).toNat) (0 : Int)).length ∧ ∀ i, i < (List.replicate ((i64.wrap (((p0.length : Nat) : Int) + 1)).toNat) (0 : Int)).length → ∀ j, j < 1 → TLe ((fun _ j => .v (([.int .u32 0] : List Value).getD j undef)) i j) (Ru32 (List.replicate ((i64.wrap (((p0.length : Nat) : Int) + 1)).toNat) (0 : Int)) i j)), True] (by kernel_rfl) (by kernel_rfl) ⟨tv, tv, tv, ⟨⟨g1, Int.le_refl _, g2, (by decide)⟩, mk_row (fun j hj => match j, hj with | 0, _ => TLe.refl _ | _ + 1, h => absurd h (by omega))⟩, tv, tv⟩ ?_
 refine AW.tn ?_
 refine AW.seq ?_
 refine AW.seq ?_
 refine AW.reg tt_ok0 [1, 5, 13, 14, 15] [4] [] ⟨[(15, vi64 0), (14, vi64 ((p0.length : Nat) : Int)), (13, vl 1 Ru32 p0), (5, .c (.ref 4 1 0 ((List.replicate ((i64.wrap (((p0.length : Nat) : Int) + 1)).toNat) (0 : Int)).length))), (1, vi64 p1)], [(4, .row 37 false 1 (List.replicate ((i64.wrap (((p0.length : Nat) : Int) + 1)).toNat) (0 : Int)).length (Ru32 (List.replicate ((i64.wrap (((p0.length : Nat) : Int) + 1)).toNat) (0 : Int))))], 9⟩ [True, True, True] (by kernel_rfl) (by kernel_rfl) ⟨tv, tv, tv, tv⟩ ?_
 refine AW.tn ?_
 refine AW.block ?_
 obtain ⟨x15, l16, h⟩ := bnd_some h
 refine AW.pre (S' := ((fun v => ⟨[(1, vi64 p1), (5, .c (.ref 0 1 0 v.1.length)), (13, vl 1 Ru32 p0), (14, vi64 ((p0.length : Nat) : Int)), (15, vi64 v.2)], [(0, .row 37 false 1 v.1.length (Ru32 v.1))], 1⟩) : ((List Int) × Int) → St) ((List.replicate ((i64.wrap (((p0.length : Nat) : Int) + 1)).toNat) (0 : Int)), 0)) (conv_ren [(0, 4)] [1, 5, 13, 14, 15] (n := 1) (by kernel_rfl) (by kernel_rfl)) ?_
 refine AW.loop2 (step := (fun v : (List Int) × Int => natural_shift_l2 p0 p1 v.1 v.2)) (s0 := ((List.replicate ((i64.wrap (((p0.length : Nat) : Int) + 1)).toNat) (0 : Int)), 0)) (t := x15) (fun v => ⟨[(1, vi64 p1), (5, .c (.ref 0 1 0 v.1.length)), (13, vl 1 Ru32 p0), (14, vi64 ((p0.length : Nat) : Int)), (15, vi64 v.2)], [(0, .row 37 false 1 v.1.length (Ru32 v.1))], 1⟩) (fun t : List Int => (.exit 0, ⟨[(5, .c (.ref 0 1 0 t.length))], [(0, .row 37 false 1 t.length (Ru32 t))], 1⟩)) l16 (fun _ => tv) ?_ ?_
 ·
  intro v o h
  obtain ⟨x5, x6⟩ := v
  replace h : natural_shift_l2 p0 p1 x5 x6 = some o := h
  unfold natural_shift_l2 at h
  show AW _ ⟨[(1, vi64 p1), (5, .c (.ref 0 1 0 x5.length)), (13, vl 1 Ru32 p0), (14, vi64 ((p0.length : Nat) : Int)), (15, vi64 x6)], [(0, .row 37 false 1 x5.length (Ru32 x5))], 1⟩ _ _
  refine AW.seq ?_
  refine AW.reg tt_ok0 [1, 5, 13, 14, 15, 16] [0] [] ⟨[(16, vb (decide (x6 < ((p0.length : Nat) : Int)))), (1, vi64 p1), (5, .c (.ref 0 1 0 x5.length)), (13, vl 1 Ru32 p0), (14, vi64 ((p0.length : Nat) : Int)), (15, vi64 x6)], [(0, .row 37 false 1 x5.length (Ru32 x5))], 2⟩ [True] (by kernel_rfl) (by kernel_rfl) ⟨tv, tv⟩ ?_
  refine AW.tn ?_
  refine AW.seq ?_
  refine AW.cond (b := decide (x6 < ((p0.length : Nat) : Int))) (by kernel_rfl) (fun c8 => ?_) (fun c8 => ?_)
  ·rw [if_pos c8] at h
   refine AW.skip ?_
   refine AW.tn ?_
   refine AW.seq ?_
   refine AW.block ?_
   refine AW.seq ?_
   obtain ⟨g9, h⟩ := ifc h
   obtain ⟨g10, h⟩ := ifc h
   refine AW.reg tt_ok0 [1, 5, 6, 7, 13, 14, 15] [0] [] ⟨[(7, vu32 (p0.getD x6.toNat 0)), (6, vi64 x6), (1, vi64 p1), (5, .c (.ref 0 1 0 x5.length)), (13, vl 1 Ru32 p0), (14, vi64 ((p0.length : Nat) : Int)), (15, vi64 x6)], [(0, .row 37 false 1 x5.length (Ru32 x5))], 7⟩ [True, (0 ≤ x6) ∧ (x6 < ((p0.length : Nat) : Int)), True, True, True] (by kernel_rfl) (by kernel_rfl) ⟨tv, ⟨g9, g10⟩, tv, tv, tv, tv⟩ ?_
   refine AW.tn ?_
   refine AW.seq ?_
   obtain ⟨g11, h⟩ := ifc h
   refine AW.reg tt_ok0 [1, 5, 6, 8, 13, 14, 15] [0] [] ⟨[(8, vu64 (ishl .u64 (u64.wrap (p0.getD x6.toNat 0)) p1)), (6, vi64 x6), (1, vi64 p1), (5, .c (.ref 0 1 0 x5.length)), (13, vl 1 Ru32 p0), (14, vi64 ((p0.length : Nat) : Int)), (15, vi64 x6)], [(0, .row 37 false 1 x5.length (Ru32 x5))], 12⟩ [True, True, True, 0 ≤ p1, True] (by kernel_rfl) (by kernel_rfl) ⟨tv, tv, tv, g11, tv, tv⟩ ?_
   refine AW.tn ?_
   refine AW.seq ?_
   obtain ⟨g12, h⟩ := ifc h
   refine AW.reg tt_ok0 [1, 5, 6, 8, 13, 14, 15] [0] [{}, {}, {}, {}, {}, {}, {}, {}, { h := { row := some (x5.length, Ru32 (x5.set (0 + x6.toNat) (ior .u32 (x5.getD (0 + x6.toNat) 0) (u32.wrap (ishl .u64 (u64.wrap (p0.getD x6.toNat 0)) p1))))) } }] ⟨[(8, vu64 (ishl .u64 (u64.wrap (p0.getD x6.toNat 0)) p1)), (6, vi64 x6), (1, vi64 p1), (5, .c (.ref 0 1 0 x5.length)), (13, vl 1 Ru32 p0), (14, vi64 ((p0.length : Nat) : Int)), (15, vi64 x6)], [(0, .row 37 false 1 x5.length (Ru32 (x5.set (0 + x6.toNat) (ior .u32 (x5.getD (0 + x6.toNat) 0) (u32.wrap (ishl .u64 (u64.wrap (p0.getD x6.toNat 0)) p1))))))], 21⟩ [True, True, (0 ≤ x6) ∧ (x6 < ((x5.length : Nat) : Int)), (0 + x6.toNat) < x5.length, True, True, True, (0 ≤ x6) ∧ (x6 < ((x5.length : Nat) : Int)), ((0 + x6.toNat) < x5.length) ∧ (x5.length = x5.length ∧ ∀ i, i < x5.length → ∀ j, j < 1 → TLe (updRow (Ru32 x5) (0 + x6.toNat) 0 [.v (.int .u32 (ior .u32 (x5.getD (0 + x6.toNat) 0) (u32.wrap (ishl .u64 (u64.wrap (p0.getD x6.toNat 0)) p1))))] i j) (Ru32 (x5.set (0 + x6.toNat) (ior .u32 (x5.getD (0 + x6.toNat) 0) (u32.wrap (ishl .u64 (u64.wrap (p0.getD x6.toNat 0)) p1)))) i j))] (by kernel_rfl) (by kernel_rfl) ⟨tv, tv, ⟨g9, g12⟩, (by have h1 : 0 ≤ x6 := g9; have h2 : x6 < ((x5.length : Nat) : Int) := g12; omega), tv, tv, tv, ⟨g9, g12⟩, ⟨(by have h1 : 0 ≤ x6 := g9; have h2 : x6 < ((x5.length : Nat) : Int) := g12; omega), set_rowN rfl (by have h1 : 0 ≤ x6 := g9; have h2 : x6 < ((x5.length : Nat) : Int) := g12; omega) (fun j hj => match j, hj with | 0, _ => TLe.refl _ | _ + 1, h => absurd h (by omega))⟩, tv⟩ ?_
   refine AW.tn ?_
   obtain ⟨g13, h⟩ := ifc h
   obtain ⟨g14, h⟩ := ifc h
   refine AW.reg tt_ok0 [1, 5, 13, 14, 15] [0] [{}, {}, {}, {}, {}, {}, {}, { h := { row := some (x5.length, Ru32 ((x5.set (0 + x6.toNat) (ior .u32 (x5.getD (0 + x6.toNat) 0) (u32.wrap (ishl .u64 (u64.wrap (p0.getD x6.toNat 0)) p1)))).set (0 + (i64.wrap (x6 + 1)).toNat) (u32.wrap (ishr .u64 (ishl .u64 (u64.wrap (p0.getD x6.toNat 0)) p1) 32)))) } }] ⟨[(1, vi64 p1), (5, .c (.ref 0 1 0 x5.length)), (13, vl 1 Ru32 p0), (14, vi64 ((p0.length : Nat) : Int)), (15, vi64 x6)], [(0, .row 37 false 1 x5.length (Ru32 ((x5.set (0 + x6.toNat) (ior .u32 (x5.getD (0 + x6.toNat) 0) (u32.wrap (ishl .u64 (u64.wrap (p0.getD x6.toNat 0)) p1)))).set (0 + (i64.wrap (x6 + 1)).toNat) (u32.wrap (ishr .u64 (ishl .u64 (u64.wrap (p0.getD x6.toNat 0)) p1) 32)))))], 29⟩ [True, True, True, True, 0 ≤ (32 : Int), True, (0 ≤ (i64.wrap (x6 + 1))) ∧ ((i64.wrap (x6 + 1)) < ((x5.length : Nat) : Int)), ((0 + (i64.wrap (x6 + 1)).toNat) < x5.length) ∧ (x5.length = x5.length ∧ ∀ i, i < x5.length → ∀ j, j < 1 → TLe (updRow (Ru32 (x5.set (0 + x6.toNat) (ior .u32 (x5.getD (0 + x6.toNat) 0) (u32.wrap (ishl .u64 (u64.wrap (p0.getD x6.toNat 0)) p1))))) (0 + (i64.wrap (x6 + 1)).toNat) 0 [.v (.int .u32 (u32.wrap (ishr .u64 (ishl .u64 (u64.wrap (p0.getD x6.toNat 0)) p1) 32)))] i j) (Ru32 ((x5.set (0 + x6.toNat) (ior .u32 (x5.getD (0 + x6.toNat) 0) (u32.wrap (ishl .u64 (u64.wrap (p0.getD x6.toNat 0)) p1)))).set (0 + (i64.wrap (x6 + 1)).toNat) (u32.wrap (ishr .u64 (ishl .u64 (u64.wrap (p0.getD x6.toNat 0)) p1) 32))) i j))] (by kernel_rfl) (by kernel_rfl) ⟨tv, tv, tv, tv, (by decide), tv, ⟨g13, g14⟩, ⟨(by have h1 : 0 ≤ (i64.wrap (x6 + 1)) := g13; have h2 : (i64.wrap (x6 + 1)) < ((x5.length : Nat) : Int) := g14; omega), set_rowN (by simp only [List.length_set]) (by have h1 : 0 ≤ (i64.wrap (x6 + 1)) := g13; have h2 : (i64.wrap (x6 + 1)) < ((x5.length : Nat) : Int) := g14; omega) (fun j hj => match j, hj with | 0, _ => TLe.refl _ | _ + 1, h => absurd h (by omega))⟩, tv⟩ ?_
   refine AW.inBlock_normal ?_
   refine AW.tn ?_
   refine AW.reg tt_ok0 [1, 5, 13, 14, 15] [0] [] ⟨[(15, vi64 (i64.wrap (x6 + 1))), (1, vi64 p1), (5, .c (.ref 0 1 0 x5.length)), (13, vl 1 Ru32 p0), (14, vi64 ((p0.length : Nat) : Int))], [(0, .row 37 false 1 x5.length (Ru32 ((x5.set (0 + x6.toNat) (ior .u32 (x5.getD (0 + x6.toNat) 0) (u32.wrap (ishl .u64 (u64.wrap (p0.getD x6.toNat 0)) p1)))).set (0 + (i64.wrap (x6 + 1)).toNat) (u32.wrap (ishr .u64 (ishl .u64 (u64.wrap (p0.getD x6.toNat 0)) p1) 32)))))], 31⟩ [True, True] (by kernel_rfl) (by kernel_rfl) ⟨tv, tv, tv⟩ ?_
   obtain rfl := some_inj h
   refine loopQ_next (Conv.trans (conv_len (S' := ⟨[(15, vi64 (i64.wrap (x6 + 1))), (1, vi64 p1), (5, .c (.ref 0 1 0 (((x5.set (0 + x6.toNat) (ior .u32 (x5.getD (0 + x6.toNat) 0) (u32.wrap (ishl .u64 (u64.wrap (p0.getD x6.toNat 0)) p1)))).set (0 + (i64.wrap (x6 + 1)).toNat) (u32.wrap (ishr .u64 (ishl .u64 (u64.wrap (p0.getD x6.toNat 0)) p1) 32))).length))), (13, vl 1 Ru32 p0), (14, vi64 ((p0.length : Nat) : Int))], [(0, .row 37 false 1 ((x5.set (0 + x6.toNat) (ior .u32 (x5.getD (0 + x6.toNat) 0) (u32.wrap (ishl .u64 (u64.wrap (p0.getD x6.toNat 0)) p1)))).set (0 + (i64.wrap (x6 + 1)).toNat) (u32.wrap (ishr .u64 (ishl .u64 (u64.wrap (p0.getD x6.toNat 0)) p1) 32))).length (Ru32 ((x5.set (0 + x6.toNat) (ior .u32 (x5.getD (0 + x6.toNat) 0) (u32.wrap (ishl .u64 (u64.wrap (p0.getD x6.toNat 0)) p1)))).set (0 + (i64.wrap (x6 + 1)).toNat) (u32.wrap (ishr .u64 (ishl .u64 (u64.wrap (p0.getD x6.toNat 0)) p1) 32)))))], 31⟩) (by simp only [List.length_set])) (conv_ren [(0, 0)] [1, 5, 13, 14, 15] (n := 1) (by kernel_rfl) (by kernel_rfl)))
  ·rw [if_neg (nb c8)] at h
   refine AW.exit ?_
   refine AW.thenQ_exit ?_
   obtain rfl := some_inj h
   refine loopQ_out rfl (conv_ren [(0, 0)] [5] (n := 1) (by kernel_rfl) (by kernel_rfl))
 ·
  show (_ : Exit → St → Prop) (.exit 0) ⟨[(5, .c (.ref 0 1 0 x15.length))], [(0, .row 37 false 1 x15.length (Ru32 x15))], 1⟩
  refine AW.inBlock_hit ?_
  refine AW.tn ?_
  refine AW.seq ?_
  refine AW.reg tt_ok0 [4] [0] [] ⟨[(4, .c (.ref 0 1 0 x15.length))], [(0, .row 37 false 1 x15.length (Ru32 x15))], 3⟩ [True, True] (by kernel_rfl) (by kernel_rfl) ⟨tv, tv, tv⟩ ?_
  refine AW.tn ?_
  refine AW.ret ?_
  obtain rfl := some_inj h
  exact ⟨_, Conv.refl _ _, .inr rfl, OutOk.mk [(0, 0)] 1 (out0 := .c (.ref 0 1 0 x15.length)) (ps := [True]) (by kernel_rfl) ⟨tv, tv⟩ (by kernel_rfl) (by kernel_rfl)⟩
/-! recordlink/natural.less -/
noncomputable def natural_less_k18 (o0 : Nat) (n0 : Nat) (x5 : List Int) (x7 : Int) (x8 : Int) (x12 : Int) : Option (((List Int) × Int × Int × Int) ⊕ (Int × (List Int))) := if 0 ≤ x8 then (if x8 < ((n0 : Nat) : Int) then (if (o0 + x8.toNat) < x5.length then ((some (u64.wrap ((u64.wrap ((u64.wrap (x5.getD (o0 + x8.toNat) 0)) - (iand .u64 x12 4294967295))) - x7))).bind fun z16 => (some (.inl ((x5.set (o0 + x8.toNat) (u32.wrap z16)), ishr .u64 x12 32, ishr .u64 z16 63, i64.wrap (x8 + 1))))) else none) else none) else none
noncomputable def natural_less_l16 (o0 : Nat) (n0 : Nat) (p1 : List Int) (p2 : Int) (x5 : List Int) (x6 : Int) (x7 : Int) (x8 : Int) : Option (((List Int) × Int × Int × Int) ⊕ (Int × (List Int))) := if (decide (x8 < ((n0 : Nat) : Int))) = true then (if (decide (x8 < ((p1.length : Nat) : Int))) = true then (if 0 ≤ x8 then (if x8 < ((p1.length : Nat) : Int) then ((some (u64.wrap (x6 + (u64.wrap (p2 * (u64.wrap (p1.getD x8.toNat 0))))))).bind fun z21 => (natural_less_k18 o0 n0 x5 x7 x8 z21)) else none) else none) else (natural_less_k18 o0 n0 x5 x7 x8 x6)) else (some (.inr (x7, x5)))
noncomputable def natural_less (p0 : List Int) (o0 : Nat) (n0 : Nat) (p1 : List Int) (p2 : Int) : Option (Bool × (List Int)) := bind2 (loop (fun v : (List Int) × Int × Int × Int => natural_less_l16 o0 n0 p1 p2 v.1 v.2.1 v.2.2.1 v.2.2.2) (p0, 0, 0, 0)) fun x23 x24 => (some (decide (x23 > 0), x24))
set_option maxRecDepth 100000 in
set_option maxHeartbeats 10000000 in
theorem natural_less_con (p0 : List Int) (o0 : Nat) (n0 : Nat) (p1 : List Int) (p2 : Int) (r0 : Bool) (r1 : List Int) (h : natural_less p0 o0 n0 p1 p2 = some (r0, r1)) : Con Try.prog 55 [.c (.ref 0 1 o0 n0), vl 1 Ru32 p1, vu64 p2] [(0, .row 37 false 1 p0.length (Ru32 p0))] (vb r0) [(0, .row 37 false 1 r1.length (Ru32 r1))] := by
 suffices H : ∀ r, natural_less p0 o0 n0 p1 p2 = some r → Con Try.prog 55 [.c (.ref 0 1 o0 n0), vl 1 Ru32 p1, vu64 p2] [(0, .row 37 false 1 p0.length (Ru32 p0))] (vb r.1) [(0, .row 37 false 1 r.2.length (Ru32 r.2))] from H (r0, r1) h
 clear h
 intro r h
 refine con_of tt_ok0 1 Try.func55 (by kernel_rfl) rfl (by kernel_rfl) (fun base X hk => AW.post ?_)
 unfold natural_less at h
 refine AW.seq ?_
 refine AW.reg tt_ok0 [0, 1, 2] [0] [] ⟨[(0, .c (.ref 0 1 o0 n0)), (1, vl 1 Ru32 p1), (2, vu64 p2)], [(0, .row 37 false 1 p0.length (Ru32 p0))], 2⟩ [True] (by kernel_rfl) (by kernel_rfl) ⟨tv, tv⟩ ?_
 refine AW.tn ?_
 refine AW.seq ?_
 refine AW.reg tt_ok0 [0, 1, 2, 7, 8] [0] [] ⟨[(8, vu64 0), (7, vu64 0), (0, .c (.ref 0 1 o0 n0)), (1, vl 1 Ru32 p1), (2, vu64 p2)], [(0, .row 37 false 1 p0.length (Ru32 p0))], 4⟩ [True, True] (by kernel_rfl) (by kernel_rfl) ⟨tv, tv, tv⟩ ?_
 refine AW.tn ?_
 refine AW.seq ?_
 refine AW.seq ?_
 refine AW.reg tt_ok0 [0, 1, 2, 7, 8, 12, 13] [0] [] ⟨[(13, vi64 0), (12, vi64 ((n0 : Nat) : Int)), (8, vu64 0), (7, vu64 0), (0, .c (.ref 0 1 o0 n0)), (1, vl 1 Ru32 p1), (2, vu64 p2)], [(0, .row 37 false 1 p0.length (Ru32 p0))], 7⟩ [True, True, True] (by kernel_rfl) (by kernel_rfl) ⟨tv, tv, tv, tv⟩ ?_
 refine AW.tn ?_
 refine AW.block ?_
 obtain ⟨x23, x24, l25, h⟩ := bind2_some h
 refine AW.pre (S' := ((fun v => ⟨[(0, .c (.ref 0 1 o0 n0)), (1, vl 1 Ru32 p1), (2, vu64 p2), (7, vu64 v.2.1), (8, vu64 v.2.2.1), (12, vi64 ((n0 : Nat) : Int)), (13, vi64 v.2.2.2)], [(0, .row 37 false 1 v.1.length (Ru32 v.1))], 1⟩) : ((List Int) × Int × Int × Int) → St) (p0, 0, 0, 0)) (conv_ren [(0, 0)] [0, 1, 2, 7, 8, 12, 13] (n := 1) (by kernel_rfl) (by kernel_rfl)) ?_
 refine AW.loop2 (step := (fun v : (List Int) × Int × Int × Int => natural_less_l16 o0 n0 p1 p2 v.1 v.2.1 v.2.2.1 v.2.2.2)) (s0 := (p0, 0, 0, 0)) (t := (x23, x24)) (fun v => ⟨[(0, .c (.ref 0 1 o0 n0)), (1, vl 1 Ru32 p1), (2, vu64 p2), (7, vu64 v.2.1), (8, vu64 v.2.2.1), (12, vi64 ((n0 : Nat) : Int)), (13, vi64 v.2.2.2)], [(0, .row 37 false 1 v.1.length (Ru32 v.1))], 1⟩) (fun t : Int × (List Int) => (.exit 0, ⟨[(8, vu64 t.1)], [(0, .row 37 false 1 t.2.length (Ru32 t.2))], 1⟩)) l25 (fun _ => tv) ?_ ?_
 ·
  intro v o h
  obtain ⟨x5, x6, x7, x8⟩ := v
  replace h : natural_less_l16 o0 n0 p1 p2 x5 x6 x7 x8 = some o := h
  unfold natural_less_l16 at h
  show AW _ ⟨[(0, .c (.ref 0 1 o0 n0)), (1, vl 1 Ru32 p1), (2, vu64 p2), (7, vu64 x6), (8, vu64 x7), (12, vi64 ((n0 : Nat) : Int)), (13, vi64 x8)], [(0, .row 37 false 1 x5.length (Ru32 x5))], 1⟩ _ _
  refine AW.seq ?_
  refine AW.reg tt_ok0 [0, 1, 2, 7, 8, 12, 13, 14] [0] [] ⟨[(14, vb (decide (x8 < ((n0 : Nat) : Int)))), (0, .c (.ref 0 1 o0 n0)), (1, vl 1 Ru32 p1), (2, vu64 p2), (7, vu64 x6), (8, vu64 x7), (12, vi64 ((n0 : Nat) : Int)), (13, vi64 x8)], [(0, .row 37 false 1 x5.length (Ru32 x5))], 2⟩ [True] (by kernel_rfl) (by kernel_rfl) ⟨tv, tv⟩ ?_
  refine AW.tn ?_
  refine AW.seq ?_
  refine AW.cond (b := decide (x8 < ((n0 : Nat) : Int))) (by kernel_rfl) (fun c11 => ?_) (fun c11 => ?_)
  ·rw [if_pos c11] at h
   refine AW.skip ?_
   refine AW.tn ?_
   refine AW.seq ?_
   refine AW.block ?_
   refine AW.seq ?_
   refine AW.reg tt_ok0 [0, 1, 2, 7, 8, 9, 12, 13] [0] [] ⟨[(9, vi64 x8), (0, .c (.ref 0 1 o0 n0)), (1, vl 1 Ru32 p1), (2, vu64 p2), (7, vu64 x6), (8, vu64 x7), (12, vi64 ((n0 : Nat) : Int)), (13, vi64 x8)], [(0, .row 37 false 1 x5.length (Ru32 x5))], 4⟩ [True, True] (by kernel_rfl) (by kernel_rfl) ⟨tv, tv, tv⟩ ?_
   refine AW.tn ?_
   refine AW.seq ?_
   refine AW.join (ι := Int) (fun v => ⟨[(0, .c (.ref 0 1 o0 n0)), (1, vl 1 Ru32 p1), (2, vu64 p2), (7, vu64 v), (8, vu64 x7), (9, vi64 x8), (12, vi64 ((n0 : Nat) : Int)), (13, vi64 x8)], [(0, .row 37 false 1 x5.length (Ru32 x5))], 1⟩) (fun v : Int => natural_less_k18 o0 n0 x5 x7 x8 v = some o) (fun v h => ?_) ?_
   ·
    obtain ⟨x12, rfl⟩ : ∃ x, x = v := ⟨_, rfl⟩
    replace h : natural_less_k18 o0 n0 x5 x7 x8 x12 = some o := h
    unfold natural_less_k18 at h
    show (_ : Exit → St → Prop) .normal ⟨[(0, .c (.ref 0 1 o0 n0)), (1, vl 1 Ru32 p1), (2, vu64 p2), (7, vu64 x12), (8, vu64 x7), (9, vi64 x8), (12, vi64 ((n0 : Nat) : Int)), (13, vi64 x8)], [(0, .row 37 false 1 x5.length (Ru32 x5))], 1⟩
    refine AW.tn ?_
    refine AW.seq ?_
    obtain ⟨g13, h⟩ := ifc h
    obtain ⟨g14, h⟩ := ifc h
    obtain ⟨g15, h⟩ := ifc h
    obtain ⟨z16, n17, h⟩ := bnd_some h
    replace n17 := some_inj n17
    refine AW.reg tt_ok0 [0, 1, 2, 7, 9, 10, 12, 13] [0] [] ⟨[(10, vu64 (u64.wrap ((u64.wrap ((u64.wrap (x5.getD (o0 + x8.toNat) 0)) - (iand .u64 x12 4294967295))) - x7))), (0, .c (.ref 0 1 o0 n0)), (1, vl 1 Ru32 p1), (2, vu64 p2), (7, vu64 x12), (9, vi64 x8), (12, vi64 ((n0 : Nat) : Int)), (13, vi64 x8)], [(0, .row 37 false 1 x5.length (Ru32 x5))], 12⟩ [True, True, (0 ≤ x8) ∧ (x8 < ((n0 : Nat) : Int)), (o0 + x8.toNat) < x5.length, True, True, True, True, True, True, True] (by kernel_rfl) (by kernel_rfl) ⟨tv, tv, ⟨g13, g14⟩, g15, tv, tv, tv, tv, tv, tv, tv, tv⟩ ?_
    refine eq_Q (S' := ⟨[(10, vu64 z16), (0, .c (.ref 0 1 o0 n0)), (1, vl 1 Ru32 p1), (2, vu64 p2), (7, vu64 x12), (9, vi64 x8), (12, vi64 ((n0 : Nat) : Int)), (13, vi64 x8)], [(0, .row 37 false 1 x5.length (Ru32 x5))], 12⟩) (by rw [n17]) ?_
    refine AW.tn ?_
    refine AW.seq ?_
    refine AW.reg tt_ok0 [0, 1, 2, 7, 8, 12, 13] [0] [{}, {}, {}, {}, {}, {}, {}, { h := { row := some (x5.length, Ru32 (x5.set (o0 + x8.toNat) (u32.wrap z16))) } }] ⟨[(8, vu64 (ishr .u64 z16 63)), (0, .c (.ref 0 1 o0 n0)), (1, vl 1 Ru32 p1), (2, vu64 p2), (7, vu64 x12), (12, vi64 ((n0 : Nat) : Int)), (13, vi64 x8)], [(0, .row 37 false 1 x5.length (Ru32 (x5.set (o0 + x8.toNat) (u32.wrap z16))))], 21⟩ [True, True, True, True, True, 0 ≤ (63 : Int), (0 ≤ x8) ∧ (x8 < ((n0 : Nat) : Int)), ((o0 + x8.toNat) < x5.length) ∧ (x5.length = x5.length ∧ ∀ i, i < x5.length → ∀ j, j < 1 → TLe (updRow (Ru32 x5) (o0 + x8.toNat) 0 [.v (.int .u32 (u32.wrap z16))] i j) (Ru32 (x5.set (o0 + x8.toNat) (u32.wrap z16)) i j)), True] (by kernel_rfl) (by kernel_rfl) ⟨tv, tv, tv, tv, tv, (by decide), ⟨g13, g14⟩, ⟨g15, set_rowN rfl g15 (fun j hj => match j, hj with | 0, _ => TLe.refl _ | _ + 1, h => absurd h (by omega))⟩, tv, tv⟩ ?_
    refine AW.tn ?_
    refine AW.reg tt_ok0 [0, 1, 2, 7, 8, 12, 13] [0] [] ⟨[(7, vu64 (ishr .u64 x12 32)), (8, vu64 (ishr .u64 z16 63)), (0, .c (.ref 0 1 o0 n0)), (1, vl 1 Ru32 p1), (2, vu64 p2), (12, vi64 ((n0 : Nat) : Int)), (13, vi64 x8)], [(0, .row 37 false 1 x5.length (Ru32 (x5.set (o0 + x8.toNat) (u32.wrap z16))))], 24⟩ [True, 0 ≤ (32 : Int), True] (by kernel_rfl) (by kernel_rfl) ⟨tv, (by decide), tv, tv⟩ ?_
    refine AW.inBlock_normal ?_
    refine AW.tn ?_
    refine AW.reg tt_ok0 [0, 1, 2, 7, 8, 12, 13] [0] [] ⟨[(13, vi64 (i64.wrap (x8 + 1))), (7, vu64 (ishr .u64 x12 32)), (8, vu64 (ishr .u64 z16 63)), (0, .c (.ref 0 1 o0 n0)), (1, vl 1 Ru32 p1), (2, vu64 p2), (12, vi64 ((n0 : Nat) : Int))], [(0, .row 37 false 1 x5.length (Ru32 (x5.set (o0 + x8.toNat) (u32.wrap z16))))], 26⟩ [True, True] (by kernel_rfl) (by kernel_rfl) ⟨tv, tv, tv⟩ ?_
    obtain rfl := some_inj h
    refine loopQ_next (Conv.trans (conv_len (S' := ⟨[(13, vi64 (i64.wrap (x8 + 1))), (7, vu64 (ishr .u64 x12 32)), (8, vu64 (ishr .u64 z16 63)), (0, .c (.ref 0 1 o0 n0)), (1, vl 1 Ru32 p1), (2, vu64 p2), (12, vi64 ((n0 : Nat) : Int))], [(0, .row 37 false 1 (x5.set (o0 + x8.toNat) (u32.wrap z16)).length (Ru32 (x5.set (o0 + x8.toNat) (u32.wrap z16))))], 26⟩) (by simp only [List.length_set])) (conv_ren [(0, 0)] [0, 1, 2, 7, 8, 12, 13] (n := 1) (by kernel_rfl) (by kernel_rfl)))
   ·
    refine AW.seq ?_
    refine AW.reg tt_ok0 [0, 1, 2, 7, 8, 9, 12, 13, 19] [0] [] ⟨[(19, vb (decide (x8 < ((p1.length : Nat) : Int)))), (9, vi64 x8), (0, .c (.ref 0 1 o0 n0)), (1, vl 1 Ru32 p1), (2, vu64 p2), (7, vu64 x6), (8, vu64 x7), (12, vi64 ((n0 : Nat) : Int)), (13, vi64 x8)], [(0, .row 37 false 1 x5.length (Ru32 x5))], 8⟩ [True, True, True, True] (by kernel_rfl) (by kernel_rfl) ⟨tv, tv, tv, tv, tv⟩ ?_
    refine AW.tn ?_
    refine AW.cond (b := decide (x8 < ((p1.length : Nat) : Int))) (by kernel_rfl) (fun c18 => ?_) (fun c18 => ?_)
    ·rw [if_pos c18] at h
     obtain ⟨g19, h⟩ := ifc h
     obtain ⟨g20, h⟩ := ifc h
     obtain ⟨z21, n22, h⟩ := bnd_some h
     replace n22 := some_inj n22
     refine AW.reg tt_ok0 [0, 1, 2, 7, 8, 9, 12, 13] [0] [] ⟨[(7, vu64 (u64.wrap (x6 + (u64.wrap (p2 * (u64.wrap (p1.getD x8.toNat 0))))))), (9, vi64 x8), (0, .c (.ref 0 1 o0 n0)), (1, vl 1 Ru32 p1), (2, vu64 p2), (8, vu64 x7), (12, vi64 ((n0 : Nat) : Int)), (13, vi64 x8)], [(0, .row 37 false 1 x5.length (Ru32 x5))], 18⟩ [True, True, True, True, (0 ≤ x8) ∧ (x8 < ((p1.length : Nat) : Int)), True, True, True, True, True] (by kernel_rfl) (by kernel_rfl) ⟨tv, tv, tv, tv, ⟨g19, g20⟩, tv, tv, tv, tv, tv, tv⟩ ?_
     refine eq_Q (S' := ⟨[(7, vu64 z21), (9, vi64 x8), (0, .c (.ref 0 1 o0 n0)), (1, vl 1 Ru32 p1), (2, vu64 p2), (8, vu64 x7), (12, vi64 ((n0 : Nat) : Int)), (13, vi64 x8)], [(0, .row 37 false 1 x5.length (Ru32 x5))], 18⟩) (by rw [n22]) ?_
     exact joinQ_leaf (z21) h (conv_ren [(0, 0)] [0, 1, 2, 7, 8, 9, 12, 13] (n := 1) (by kernel_rfl) (by kernel_rfl))
    ·rw [if_neg (nb c18)] at h
     refine AW.skip ?_
     exact joinQ_leaf (x6) h (conv_ren [(0, 0)] [0, 1, 2, 7, 8, 9, 12, 13] (n := 1) (by kernel_rfl) (by kernel_rfl))
  ·rw [if_neg (nb c11)] at h
   refine AW.exit ?_
   refine AW.thenQ_exit ?_
   obtain rfl := some_inj h
   refine loopQ_out rfl (conv_ren [(0, 0)] [8] (n := 1) (by kernel_rfl) (by kernel_rfl))
 ·
  show (_ : Exit → St → Prop) (.exit 0) ⟨[(8, vu64 x23)], [(0, .row 37 false 1 x24.length (Ru32 x24))], 1⟩
  refine AW.inBlock_hit ?_
  refine AW.tn ?_
  refine AW.seq ?_
  refine AW.reg tt_ok0 [6] [0] [] ⟨[(6, vb (decide (x23 > 0)))], [(0, .row 37 false 1 x24.length (Ru32 x24))], 4⟩ [True, True, True] (by kernel_rfl) (by kernel_rfl) ⟨tv, tv, tv, tv⟩ ?_
  refine AW.tn ?_
  refine AW.ret ?_
  obtain rfl := some_inj h
  exact ⟨_, Conv.refl _ _, .inr rfl, OutOk.mk [(0, 0)] 1 (out0 := vb (decide (x23 > 0))) (ps := [True]) (by kernel_rfl) ⟨tv, tv⟩ (by kernel_rfl) (by kernel_rfl)⟩
/-! recordlink/natural.more -/
noncomputable def natural_more_k9 (o0 : Nat) (x4 : List Int) (x6 : Int) (x14 : Int) : Option (((List Int) × Int × Int) ⊕ (List Int)) := some (.inl ((x4.set (o0 + x6.toNat) (u32.wrap x14)), ishr .u64 x14 32, i64.wrap (x6 + 1)))
noncomputable def natural_more_l7 (o0 : Nat) (n0 : Nat) (p1 : List Int) (x4 : List Int) (x5 : Int) (x6 : Int) : Option (((List Int) × Int × Int) ⊕ (List Int)) := if (decide (x6 < ((n0 : Nat) : Int))) = true then (if 0 ≤ x6 then (if x6 < ((n0 : Nat) : Int) then (if (o0 + x6.toNat) < x4.length then ((some (u64.wrap (x5 + (u64.wrap (x4.getD (o0 + x6.toNat) 0))))).bind fun z12 => (if (decide (x6 < ((p1.length : Nat) : Int))) = true then (if x6 < ((p1.length : Nat) : Int) then ((some (u64.wrap (z12 + (u64.wrap (p1.getD x6.toNat 0))))).bind fun z17 => (natural_more_k9 o0 x4 x6 z17)) else none) else (natural_more_k9 o0 x4 x6 z12))) else none) else none) else none) else (some (.inr x4))
noncomputable def natural_more (p0 : List Int) (o0 : Nat) (n0 : Nat) (p1 : List Int) : Option (List Int) := (loop (fun v : (List Int) × Int × Int => natural_more_l7 o0 n0 p1 v.1 v.2.1 v.2.2) (p0, 0, 0)).bind fun x19 => (some x19)
set_option maxRecDepth 100000 in
set_option maxHeartbeats 10000000 in
theorem natural_more_con (p0 : List Int) (o0 : Nat) (n0 : Nat) (p1 : List Int) (r0 : List Int) (h : natural_more p0 o0 n0 p1 = some r0) : Con Try.prog 56 [.c (.ref 0 1 o0 n0), vl 1 Ru32 p1] [(0, .row 37 false 1 p0.length (Ru32 p0))] (.tup []) [(0, .row 37 false 1 r0.length (Ru32 r0))] := by
 revert h; generalize r0 = r; intro h
 refine con_of tt_ok0 1 Try.func56 (by kernel_rfl) rfl (by kernel_rfl) (fun base X hk => AW.post ?_)
 unfold natural_more at h
 refine AW.seq ?_
 refine AW.reg tt_ok0 [0, 1, 4] [0] [] ⟨[(4, vu64 0), (0, .c (.ref 0 1 o0 n0)), (1, vl 1 Ru32 p1)], [(0, .row 37 false 1 p0.length (Ru32 p0))], 2⟩ [True] (by kernel_rfl) (by kernel_rfl) ⟨tv, tv⟩ ?_
 refine AW.tn ?_
 refine AW.seq ?_
 refine AW.reg tt_ok0 [0, 1, 4, 7, 8] [0] [] ⟨[(8, vi64 0), (7, vi64 ((n0 : Nat) : Int)), (4, vu64 0), (0, .c (.ref 0 1 o0 n0)), (1, vl 1 Ru32 p1)], [(0, .row 37 false 1 p0.length (Ru32 p0))], 5⟩ [True, True, True] (by kernel_rfl) (by kernel_rfl) ⟨tv, tv, tv, tv⟩ ?_
 refine AW.tn ?_
 refine AW.block ?_
 obtain ⟨x19, l20, h⟩ := bnd_some h
 refine AW.pre (S' := ((fun v => ⟨[(0, .c (.ref 0 1 o0 n0)), (1, vl 1 Ru32 p1), (4, vu64 v.2.1), (7, vi64 ((n0 : Nat) : Int)), (8, vi64 v.2.2)], [(0, .row 37 false 1 v.1.length (Ru32 v.1))], 1⟩) : ((List Int) × Int × Int) → St) (p0, 0, 0)) (conv_ren [(0, 0)] [0, 1, 4, 7, 8] (n := 1) (by kernel_rfl) (by kernel_rfl)) ?_
 refine AW.loop2 (step := (fun v : (List Int) × Int × Int => natural_more_l7 o0 n0 p1 v.1 v.2.1 v.2.2)) (s0 := (p0, 0, 0)) (t := x19) (fun v => ⟨[(0, .c (.ref 0 1 o0 n0)), (1, vl 1 Ru32 p1), (4, vu64 v.2.1), (7, vi64 ((n0 : Nat) : Int)), (8, vi64 v.2.2)], [(0, .row 37 false 1 v.1.length (Ru32 v.1))], 1⟩) (fun t : List Int => (.exit 0, ⟨[], [(0, .row 37 false 1 t.length (Ru32 t))], 1⟩)) l20 (fun _ => tv) ?_ ?_
 ·
  intro v o h
  obtain ⟨x4, x5, x6⟩ := v
  replace h : natural_more_l7 o0 n0 p1 x4 x5 x6 = some o := h
  unfold natural_more_l7 at h
  show AW _ ⟨[(0, .c (.ref 0 1 o0 n0)), (1, vl 1 Ru32 p1), (4, vu64 x5), (7, vi64 ((n0 : Nat) : Int)), (8, vi64 x6)], [(0, .row 37 false 1 x4.length (Ru32 x4))], 1⟩ _ _
  refine AW.seq ?_
  refine AW.reg tt_ok0 [0, 1, 4, 7, 8, 9] [0] [] ⟨[(9, vb (decide (x6 < ((n0 : Nat) : Int)))), (0, .c (.ref 0 1 o0 n0)), (1, vl 1 Ru32 p1), (4, vu64 x5), (7, vi64 ((n0 : Nat) : Int)), (8, vi64 x6)], [(0, .row 37 false 1 x4.length (Ru32 x4))], 2⟩ [True] (by kernel_rfl) (by kernel_rfl) ⟨tv, tv⟩ ?_
  refine AW.tn ?_
  refine AW.seq ?_
  refine AW.cond (b := decide (x6 < ((n0 : Nat) : Int))) (by kernel_rfl) (fun c8 => ?_) (fun c8 => ?_)
  ·rw [if_pos c8] at h
   refine AW.skip ?_
   refine AW.tn ?_
   refine AW.seq ?_
   refine AW.block ?_
   refine AW.seq ?_
   refine AW.reg tt_ok0 [0, 1, 4, 5, 7, 8] [0] [] ⟨[(5, vi64 x6), (0, .c (.ref 0 1 o0 n0)), (1, vl 1 Ru32 p1), (4, vu64 x5), (7, vi64 ((n0 : Nat) : Int)), (8, vi64 x6)], [(0, .row 37 false 1 x4.length (Ru32 x4))], 4⟩ [True, True] (by kernel_rfl) (by kernel_rfl) ⟨tv, tv, tv⟩ ?_
   refine AW.tn ?_
   refine AW.seq ?_
   obtain ⟨g9, h⟩ := ifc h
   obtain ⟨g10, h⟩ := ifc h
   obtain ⟨g11, h⟩ := ifc h
   obtain ⟨z12, n13, h⟩ := bnd_some h
   replace n13 := some_inj n13
   refine AW.reg tt_ok0 [0, 1, 4, 5, 7, 8] [0] [] ⟨[(4, vu64 (u64.wrap (x5 + (u64.wrap (x4.getD (o0 + x6.toNat) 0))))), (5, vi64 x6), (0, .c (.ref 0 1 o0 n0)), (1, vl 1 Ru32 p1), (7, vi64 ((n0 : Nat) : Int)), (8, vi64 x6)], [(0, .row 37 false 1 x4.length (Ru32 x4))], 12⟩ [True, True, True, (0 ≤ x6) ∧ (x6 < ((n0 : Nat) : Int)), (o0 + x6.toNat) < x4.length, True, True, True] (by kernel_rfl) (by kernel_rfl) ⟨tv, tv, tv, ⟨g9, g10⟩, g11, tv, tv, tv, tv⟩ ?_
   refine eq_Q (S' := ⟨[(4, vu64 z12), (5, vi64 x6), (0, .c (.ref 0 1 o0 n0)), (1, vl 1 Ru32 p1), (7, vi64 ((n0 : Nat) : Int)), (8, vi64 x6)], [(0, .row 37 false 1 x4.length (Ru32 x4))], 12⟩) (by rw [n13]) ?_
   refine AW.tn ?_
   refine AW.seq ?_
   refine AW.join (ι := Int) (fun v => ⟨[(0, .c (.ref 0 1 o0 n0)), (1, vl 1 Ru32 p1), (4, vu64 v), (5, vi64 x6), (7, vi64 ((n0 : Nat) : Int)), (8, vi64 x6)], [(0, .row 37 false 1 x4.length (Ru32 x4))], 1⟩) (fun v : Int => natural_more_k9 o0 x4 x6 v = some o) (fun v h => ?_) ?_
   ·
    obtain ⟨x14, rfl⟩ : ∃ x, x = v := ⟨_, rfl⟩
    replace h : natural_more_k9 o0 x4 x6 x14 = some o := h
    unfold natural_more_k9 at h
    show (_ : Exit → St → Prop) .normal ⟨[(0, .c (.ref 0 1 o0 n0)), (1, vl 1 Ru32 p1), (4, vu64 x14), (5, vi64 x6), (7, vi64 ((n0 : Nat) : Int)), (8, vi64 x6)], [(0, .row 37 false 1 x4.length (Ru32 x4))], 1⟩
    refine AW.tn ?_
    refine AW.seq ?_
    refine AW.reg tt_ok0 [0, 1, 4, 7, 8] [0] [{}, {}, {}, {}, {}, { h := { row := some (x4.length, Ru32 (x4.set (o0 + x6.toNat) (u32.wrap x14))) } }] ⟨[(0, .c (.ref 0 1 o0 n0)), (1, vl 1 Ru32 p1), (4, vu64 x14), (7, vi64 ((n0 : Nat) : Int)), (8, vi64 x6)], [(0, .row 37 false 1 x4.length (Ru32 (x4.set (o0 + x6.toNat) (u32.wrap x14))))], 7⟩ [True, True, True, True, (0 ≤ x6) ∧ (x6 < ((n0 : Nat) : Int)), ((o0 + x6.toNat) < x4.length) ∧ (x4.length = x4.length ∧ ∀ i, i < x4.length → ∀ j, j < 1 → TLe (updRow (Ru32 x4) (o0 + x6.toNat) 0 [.v (.int .u32 (u32.wrap x14))] i j) (Ru32 (x4.set (o0 + x6.toNat) (u32.wrap x14)) i j))] (by kernel_rfl) (by kernel_rfl) ⟨tv, tv, tv, tv, ⟨g9, g10⟩, ⟨g11, set_rowN rfl g11 (fun j hj => match j, hj with | 0, _ => TLe.refl _ | _ + 1, h => absurd h (by omega))⟩, tv⟩ ?_
    refine AW.tn ?_
    refine AW.reg tt_ok0 [0, 1, 4, 7, 8] [0] [] ⟨[(4, vu64 (ishr .u64 x14 32)), (0, .c (.ref 0 1 o0 n0)), (1, vl 1 Ru32 p1), (7, vi64 ((n0 : Nat) : Int)), (8, vi64 x6)], [(0, .row 37 false 1 x4.length (Ru32 (x4.set (o0 + x6.toNat) (u32.wrap x14))))], 10⟩ [True, 0 ≤ (32 : Int), True] (by kernel_rfl) (by kernel_rfl) ⟨tv, (by decide), tv, tv⟩ ?_
    refine AW.inBlock_normal ?_
    refine AW.tn ?_
    refine AW.reg tt_ok0 [0, 1, 4, 7, 8] [0] [] ⟨[(8, vi64 (i64.wrap (x6 + 1))), (4, vu64 (ishr .u64 x14 32)), (0, .c (.ref 0 1 o0 n0)), (1, vl 1 Ru32 p1), (7, vi64 ((n0 : Nat) : Int))], [(0, .row 37 false 1 x4.length (Ru32 (x4.set (o0 + x6.toNat) (u32.wrap x14))))], 12⟩ [True, True] (by kernel_rfl) (by kernel_rfl) ⟨tv, tv, tv⟩ ?_
    obtain rfl := some_inj h
    refine loopQ_next (Conv.trans (conv_len (S' := ⟨[(8, vi64 (i64.wrap (x6 + 1))), (4, vu64 (ishr .u64 x14 32)), (0, .c (.ref 0 1 o0 n0)), (1, vl 1 Ru32 p1), (7, vi64 ((n0 : Nat) : Int))], [(0, .row 37 false 1 (x4.set (o0 + x6.toNat) (u32.wrap x14)).length (Ru32 (x4.set (o0 + x6.toNat) (u32.wrap x14))))], 12⟩) (by simp only [List.length_set])) (conv_ren [(0, 0)] [0, 1, 4, 7, 8] (n := 1) (by kernel_rfl) (by kernel_rfl)))
   ·
    refine AW.seq ?_
    refine AW.reg tt_ok0 [0, 1, 4, 5, 7, 8, 21] [0] [] ⟨[(21, vb (decide (x6 < ((p1.length : Nat) : Int)))), (4, vu64 z12), (5, vi64 x6), (0, .c (.ref 0 1 o0 n0)), (1, vl 1 Ru32 p1), (7, vi64 ((n0 : Nat) : Int)), (8, vi64 x6)], [(0, .row 37 false 1 x4.length (Ru32 x4))], 16⟩ [True, True, True, True] (by kernel_rfl) (by kernel_rfl) ⟨tv, tv, tv, tv, tv⟩ ?_
    refine AW.tn ?_
    refine AW.cond (b := decide (x6 < ((p1.length : Nat) : Int))) (by kernel_rfl) (fun c15 => ?_) (fun c15 => ?_)
    ·rw [if_pos c15] at h
     obtain ⟨g16, h⟩ := ifc h
     obtain ⟨z17, n18, h⟩ := bnd_some h
     replace n18 := some_inj n18
     refine AW.reg tt_ok0 [0, 1, 4, 5, 7, 8] [0] [] ⟨[(4, vu64 (u64.wrap (z12 + (u64.wrap (p1.getD x6.toNat 0))))), (5, vi64 x6), (0, .c (.ref 0 1 o0 n0)), (1, vl 1 Ru32 p1), (7, vi64 ((n0 : Nat) : Int)), (8, vi64 x6)], [(0, .row 37 false 1 x4.length (Ru32 x4))], 24⟩ [True, True, True, (0 ≤ x6) ∧ (x6 < ((p1.length : Nat) : Int)), True, True, True, True] (by kernel_rfl) (by kernel_rfl) ⟨tv, tv, tv, ⟨g9, g16⟩, tv, tv, tv, tv, tv⟩ ?_
     refine eq_Q (S' := ⟨[(4, vu64 z17), (5, vi64 x6), (0, .c (.ref 0 1 o0 n0)), (1, vl 1 Ru32 p1), (7, vi64 ((n0 : Nat) : Int)), (8, vi64 x6)], [(0, .row 37 false 1 x4.length (Ru32 x4))], 24⟩) (by rw [n18]) ?_
     exact joinQ_leaf (z17) h (conv_ren [(0, 0)] [0, 1, 4, 5, 7, 8] (n := 1) (by kernel_rfl) (by kernel_rfl))
    ·rw [if_neg (nb c15)] at h
     refine AW.skip ?_
     exact joinQ_leaf (z12) h (conv_ren [(0, 0)] [0, 1, 4, 5, 7, 8] (n := 1) (by kernel_rfl) (by kernel_rfl))
  ·rw [if_neg (nb c8)] at h
   refine AW.exit ?_
   refine AW.thenQ_exit ?_
   obtain rfl := some_inj h
   refine loopQ_out rfl (conv_ren [(0, 0)] [] (n := 1) (by kernel_rfl) (by kernel_rfl))
 ·
  show (_ : Exit → St → Prop) (.exit 0) ⟨[], [(0, .row 37 false 1 x19.length (Ru32 x19))], 1⟩
  refine AW.inBlock_hit ?_
  obtain rfl := some_inj h
  exact ⟨_, Conv.refl _ _, .inl rfl, OutOk.mk [(0, 0)] 1 (out0 := .tup []) (ps := []) (by kernel_rfl) tv (by kernel_rfl) (by kernel_rfl)⟩
/-! recordlink/natural.back -/
noncomputable def natural_back_k18 (p1 : Int) (x5 : List Int) (x6 : Int) (x11 : Int) : Option (((List Int) × Int) ⊕ (List Int)) := if 0 ≤ p1 then (if x6 < ((x5.length : Nat) : Int) then (some (.inl ((x5.set (0 + x6.toNat) (u32.wrap (ishr .u64 x11 p1))), i64.wrap (x6 + 1)))) else none) else none
noncomputable def natural_back_l16 (p0 : List Int) (p1 : Int) (y1 : List Int) (x5 : List Int) (x6 : Int) : Option (((List Int) × Int) ⊕ (List Int)) := if (decide (x6 < ((y1.length : Nat) : Int))) = true then (if 0 ≤ x6 then (if x6 < ((p0.length : Nat) : Int) then (if (decide ((i64.wrap (x6 + 1)) < ((p0.length : Nat) : Int))) = true then (if 0 ≤ (i64.wrap (x6 + 1)) then (if (i64.wrap (x6 + 1)) < ((p0.length : Nat) : Int) then ((some (ior .u64 (u64.wrap (p0.getD x6.toNat 0)) (ishl .u64 (u64.wrap (p0.getD ((i64.wrap (x6 + 1)).toNat) 0)) 32))).bind fun z17 => (natural_back_k18 p1 x5 x6 z17)) else none) else none) else (natural_back_k18 p1 x5 x6 (u64.wrap (p0.getD x6.toNat 0)))) else none) else none) else (some (.inr x5))
noncomputable def natural_back (p0 : List Int) (p1 : Int) : Option (List Int) := (slices_Clone_uint32 p0).bind fun y1 => ((loop (fun v : (List Int) × Int => natural_back_l16 p0 p1 y1 v.1 v.2) (y1, 0)).bind fun x19 => ((natural_trim x19).bind fun y20 => (some y20)))
set_option maxRecDepth 100000 in
set_option maxHeartbeats 10000000 in
theorem natural_back_con (p0 : List Int) (p1 : Int) (r0 : List Int) (h : natural_back p0 p1 = some r0) : Con Try.prog 57 [vl 1 Ru32 p0, vi64 p1] [] (vl 1 Ru32 r0) [] := by
 revert h; generalize r0 = r; intro h
 refine con_of tt_ok0 0 Try.func57 (by kernel_rfl) rfl (by kernel_rfl) (fun base X hk => AW.post ?_)
 unfold natural_back at h
 refine AW.seq ?_
 refine AW.reg tt_ok0 [0, 1] [] [] ⟨[(0, vl 1 Ru32 p0), (1, vi64 p1)], [], 1⟩ [True] (by kernel_rfl) (by kernel_rfl) ⟨tv, tv⟩ ?_
 refine AW.tn ?_
 refine AW.seq ?_
 obtain ⟨y1, e2, h⟩ := bnd_some h
 refine AW.reg tt_ok0 [0, 1, 5] [2] [{}, { call := some { ids := [], frz := [], flat := true, cnt := 1, args := [vl 1 Ru32 p0], out := .c (.ref 0 1 0 y1.length), outb := [(0, .row 37 false 1 y1.length (Ru32 y1))] } }] ⟨[(5, .c (.ref 2 1 0 y1.length)), (0, vl 1 Ru32 p0), (1, vi64 p1)], [(2, .row 37 false 1 y1.length (Ru32 y1))], 4⟩ [True, ((True) ∧ (True)) ∧ (All2 ArgLe [vl 1 Ru32 p0] [vl 1 Ru32 p0]) ∧ ((true = true → flatB [(0, .row 37 false 1 y1.length (Ru32 y1))])) ∧ (Con Try.prog 39 [vl 1 Ru32 p0] [] (.c (.ref 0 1 0 y1.length)) [(0, .row 37 false 1 y1.length (Ru32 y1))]), True] (by kernel_rfl) (by kernel_rfl) ⟨tv, ⟨⟨tv, tv⟩, ⟨ArgLe.refl _, tv⟩, (fun _ => ⟨rowL_flat Vu32 _ _ _, tv⟩), (slices_Clone_uint32_con p0 y1 e2)⟩, tv, tv⟩ ?_
 refine AW.tn ?_
 refine AW.seq ?_
 refine AW.seq ?_
 refine AW.reg tt_ok0 [0, 1, 5, 11, 12] [2] [] ⟨[(12, vi64 0), (11, vi64 ((y1.length : Nat) : Int)), (5, .c (.ref 2 1 0 y1.length)), (0, vl 1 Ru32 p0), (1, vi64 p1)], [(2, .row 37 false 1 y1.length (Ru32 y1))], 7⟩ [True, True, True] (by kernel_rfl) (by kernel_rfl) ⟨tv, tv, tv, tv⟩ ?_
 refine AW.tn ?_
 refine AW.block ?_
 obtain ⟨x19, l22, h⟩ := bnd_some h
 refine AW.pre (S' := ((fun v => ⟨[(0, vl 1 Ru32 p0), (1, vi64 p1), (5, .c (.ref 0 1 0 v.1.length)), (11, vi64 ((y1.length : Nat) : Int)), (12, vi64 v.2)], [(0, .row 37 false 1 v.1.length (Ru32 v.1))], 1⟩) : ((List Int) × Int) → St) (y1, 0)) (conv_ren [(0, 2)] [0, 1, 5, 11, 12] (n := 1) (by kernel_rfl) (by kernel_rfl)) ?_
 refine AW.loop2 (step := (fun v : (List Int) × Int => natural_back_l16 p0 p1 y1 v.1 v.2)) (s0 := (y1, 0)) (t := x19) (fun v => ⟨[(0, vl 1 Ru32 p0), (1, vi64 p1), (5, .c (.ref 0 1 0 v.1.length)), (11, vi64 ((y1.length : Nat) : Int)), (12, vi64 v.2)], [(0, .row 37 false 1 v.1.length (Ru32 v.1))], 1⟩) (fun t : List Int => (.exit 0, ⟨[(5, .c (.ref 0 1 0 t.length))], [(0, .row 37 false 1 t.length (Ru32 t))], 1⟩)) l22 (fun _ => tv) ?_ ?_
 ·
  intro v o h
  obtain ⟨x5, x6⟩ := v
  replace h : natural_back_l16 p0 p1 y1 x5 x6 = some o := h
  unfold natural_back_l16 at h
  show AW _ ⟨[(0, vl 1 Ru32 p0), (1, vi64 p1), (5, .c (.ref 0 1 0 x5.length)), (11, vi64 ((y1.length : Nat) : Int)), (12, vi64 x6)], [(0, .row 37 false 1 x5.length (Ru32 x5))], 1⟩ _ _
  refine AW.seq ?_
  refine AW.reg tt_ok0 [0, 1, 5, 11, 12, 13] [0] [] ⟨[(13, vb (decide (x6 < ((y1.length : Nat) : Int)))), (0, vl 1 Ru32 p0), (1, vi64 p1), (5, .c (.ref 0 1 0 x5.length)), (11, vi64 ((y1.length : Nat) : Int)), (12, vi64 x6)], [(0, .row 37 false 1 x5.length (Ru32 x5))], 2⟩ [True] (by kernel_rfl) (by kernel_rfl) ⟨tv, tv⟩ ?_
  refine AW.tn ?_
  refine AW.seq ?_
  refine AW.cond (b := decide (x6 < ((y1.length : Nat) : Int))) (by kernel_rfl) (fun c8 => ?_) (fun c8 => ?_)
  ·rw [if_pos c8] at h
   refine AW.skip ?_
   refine AW.tn ?_
   refine AW.seq ?_
   refine AW.block ?_
   refine AW.seq ?_
   refine AW.reg tt_ok0 [0, 1, 5, 6, 11, 12] [0] [] ⟨[(6, vi64 x6), (0, vl 1 Ru32 p0), (1, vi64 p1), (5, .c (.ref 0 1 0 x5.length)), (11, vi64 ((y1.length : Nat) : Int)), (12, vi64 x6)], [(0, .row 37 false 1 x5.length (Ru32 x5))], 4⟩ [True, True] (by kernel_rfl) (by kernel_rfl) ⟨tv, tv, tv⟩ ?_
   refine AW.tn ?_
   refine AW.seq ?_
   obtain ⟨g9, h⟩ := ifc h
   obtain ⟨g10, h⟩ := ifc h
   refine AW.reg tt_ok0 [0, 1, 5, 6, 7, 11, 12] [0] [] ⟨[(7, vu64 (u64.wrap (p0.getD x6.toNat 0))), (6, vi64 x6), (0, vl 1 Ru32 p0), (1, vi64 p1), (5, .c (.ref 0 1 0 x5.length)), (11, vi64 ((y1.length : Nat) : Int)), (12, vi64 x6)], [(0, .row 37 false 1 x5.length (Ru32 x5))], 10⟩ [True, True, (0 ≤ x6) ∧ (x6 < ((p0.length : Nat) : Int)), True, True, True] (by kernel_rfl) (by kernel_rfl) ⟨tv, tv, ⟨g9, g10⟩, tv, tv, tv, tv⟩ ?_
   refine AW.tn ?_
   refine AW.seq ?_
   refine AW.join (ι := Int) (fun v => ⟨[(0, vl 1 Ru32 p0), (1, vi64 p1), (5, .c (.ref 0 1 0 x5.length)), (6, vi64 x6), (7, vu64 v), (11, vi64 ((y1.length : Nat) : Int)), (12, vi64 x6)], [(0, .row 37 false 1 x5.length (Ru32 x5))], 1⟩) (fun v : Int => natural_back_k18 p1 x5 x6 v = some o) (fun v h => ?_) ?_
   ·
    obtain ⟨x11, rfl⟩ : ∃ x, x = v := ⟨_, rfl⟩
    replace h : natural_back_k18 p1 x5 x6 x11 = some o := h
    unfold natural_back_k18 at h
    show (_ : Exit → St → Prop) .normal ⟨[(0, vl 1 Ru32 p0), (1, vi64 p1), (5, .c (.ref 0 1 0 x5.length)), (6, vi64 x6), (7, vu64 x11), (11, vi64 ((y1.length : Nat) : Int)), (12, vi64 x6)], [(0, .row 37 false 1 x5.length (Ru32 x5))], 1⟩
    refine AW.tn ?_
    obtain ⟨g12, h⟩ := ifc h
    obtain ⟨g13, h⟩ := ifc h
    refine AW.reg tt_ok0 [0, 1, 5, 11, 12] [0] [{}, {}, {}, {}, {}, {}, {}, { h := { row := some (x5.length, Ru32 (x5.set (0 + x6.toNat) (u32.wrap (ishr .u64 x11 p1)))) } }] ⟨[(0, vl 1 Ru32 p0), (1, vi64 p1), (5, .c (.ref 0 1 0 x5.length)), (11, vi64 ((y1.length : Nat) : Int)), (12, vi64 x6)], [(0, .row 37 false 1 x5.length (Ru32 (x5.set (0 + x6.toNat) (u32.wrap (ishr .u64 x11 p1)))))], 9⟩ [True, True, True, True, 0 ≤ p1, True, (0 ≤ x6) ∧ (x6 < ((x5.length : Nat) : Int)), ((0 + x6.toNat) < x5.length) ∧ (x5.length = x5.length ∧ ∀ i, i < x5.length → ∀ j, j < 1 → TLe (updRow (Ru32 x5) (0 + x6.toNat) 0 [.v (.int .u32 (u32.wrap (ishr .u64 x11 p1)))] i j) (Ru32 (x5.set (0 + x6.toNat) (u32.wrap (ishr .u64 x11 p1))) i j))] (by kernel_rfl) (by kernel_rfl) ⟨tv, tv, tv, tv, g12, tv, ⟨g9, g13⟩, ⟨(by have h1 : 0 ≤ x6 := g9; have h2 : x6 < ((x5.length : Nat) : Int) := g13; omega), set_rowN rfl (by have h1 : 0 ≤ x6 := g9; have h2 : x6 < ((x5.length : Nat) : Int) := g13; omega) (fun j hj => match j, hj with | 0, _ => TLe.refl _ | _ + 1, h => absurd h (by omega))⟩, tv⟩ ?_
    refine AW.inBlock_normal ?_
    refine AW.tn ?_
    refine AW.reg tt_ok0 [0, 1, 5, 11, 12] [0] [] ⟨[(12, vi64 (i64.wrap (x6 + 1))), (0, vl 1 Ru32 p0), (1, vi64 p1), (5, .c (.ref 0 1 0 x5.length)), (11, vi64 ((y1.length : Nat) : Int))], [(0, .row 37 false 1 x5.length (Ru32 (x5.set (0 + x6.toNat) (u32.wrap (ishr .u64 x11 p1)))))], 11⟩ [True, True] (by kernel_rfl) (by kernel_rfl) ⟨tv, tv, tv⟩ ?_
    obtain rfl := some_inj h
    refine loopQ_next (Conv.trans (conv_len (S' := ⟨[(12, vi64 (i64.wrap (x6 + 1))), (0, vl 1 Ru32 p0), (1, vi64 p1), (5, .c (.ref 0 1 0 ((x5.set (0 + x6.toNat) (u32.wrap (ishr .u64 x11 p1))).length))), (11, vi64 ((y1.length : Nat) : Int))], [(0, .row 37 false 1 (x5.set (0 + x6.toNat) (u32.wrap (ishr .u64 x11 p1))).length (Ru32 (x5.set (0 + x6.toNat) (u32.wrap (ishr .u64 x11 p1)))))], 11⟩) (by simp only [List.length_set])) (conv_ren [(0, 0)] [0, 1, 5, 11, 12] (n := 1) (by kernel_rfl) (by kernel_rfl)))
   ·
    refine AW.seq ?_
    refine AW.reg tt_ok0 [0, 1, 5, 6, 7, 11, 12, 24] [0] [] ⟨[(24, vb (decide ((i64.wrap (x6 + 1)) < ((p0.length : Nat) : Int)))), (7, vu64 (u64.wrap (p0.getD x6.toNat 0))), (6, vi64 x6), (0, vl 1 Ru32 p0), (1, vi64 p1), (5, .c (.ref 0 1 0 x5.length)), (11, vi64 ((y1.length : Nat) : Int)), (12, vi64 x6)], [(0, .row 37 false 1 x5.length (Ru32 x5))], 15⟩ [True, True, True, True, True] (by kernel_rfl) (by kernel_rfl) ⟨tv, tv, tv, tv, tv, tv⟩ ?_
    refine AW.tn ?_
    refine AW.cond (b := decide ((i64.wrap (x6 + 1)) < ((p0.length : Nat) : Int))) (by kernel_rfl) (fun c14 => ?_) (fun c14 => ?_)
    ·rw [if_pos c14] at h
     obtain ⟨g15, h⟩ := ifc h
     obtain ⟨g16, h⟩ := ifc h
     obtain ⟨z17, n18, h⟩ := bnd_some h
     replace n18 := some_inj n18
     refine AW.reg tt_ok0 [0, 1, 5, 6, 7, 11, 12] [0] [] ⟨[(7, vu64 (ior .u64 (u64.wrap (p0.getD x6.toNat 0)) (ishl .u64 (u64.wrap (p0.getD ((i64.wrap (x6 + 1)).toNat) 0)) 32))), (6, vi64 x6), (0, vl 1 Ru32 p0), (1, vi64 p1), (5, .c (.ref 0 1 0 x5.length)), (11, vi64 ((y1.length : Nat) : Int)), (12, vi64 x6)], [(0, .row 37 false 1 x5.length (Ru32 x5))], 25⟩ [True, True, True, True, (0 ≤ (i64.wrap (x6 + 1))) ∧ ((i64.wrap (x6 + 1)) < ((p0.length : Nat) : Int)), True, True, 0 ≤ (32 : Int), True, True] (by kernel_rfl) (by kernel_rfl) ⟨tv, tv, tv, tv, ⟨g15, g16⟩, tv, tv, (by decide), tv, tv, tv⟩ ?_
     refine eq_Q (S' := ⟨[(7, vu64 z17), (6, vi64 x6), (0, vl 1 Ru32 p0), (1, vi64 p1), (5, .c (.ref 0 1 0 x5.length)), (11, vi64 ((y1.length : Nat) : Int)), (12, vi64 x6)], [(0, .row 37 false 1 x5.length (Ru32 x5))], 25⟩) (by rw [n18]) ?_
     exact joinQ_leaf (z17) h (conv_ren [(0, 0)] [0, 1, 5, 6, 7, 11, 12] (n := 1) (by kernel_rfl) (by kernel_rfl))
    ·rw [if_neg (nb c14)] at h
     refine AW.skip ?_
     exact joinQ_leaf (u64.wrap (p0.getD x6.toNat 0)) h (conv_ren [(0, 0)] [0, 1, 5, 6, 7, 11, 12] (n := 1) (by kernel_rfl) (by kernel_rfl))
  ·rw [if_neg (nb c8)] at h
   refine AW.exit ?_
   refine AW.thenQ_exit ?_
   obtain rfl := some_inj h
   refine loopQ_out rfl (conv_ren [(0, 0)] [5] (n := 1) (by kernel_rfl) (by kernel_rfl))
 ·
  show (_ : Exit → St → Prop) (.exit 0) ⟨[(5, .c (.ref 0 1 0 x19.length))], [(0, .row 37 false 1 x19.length (Ru32 x19))], 1⟩
  refine AW.inBlock_hit ?_
  refine AW.tn ?_
  refine AW.seq ?_
  obtain ⟨y20, e21, h⟩ := bnd_some h
  refine AW.reg tt_ok0 [4] [] [{}, { call := some { ids := [], frz := [0], flat := false, cnt := 0, args := [vl 1 Ru32 x19], out := vl 1 Ru32 y20, outb := [] } }] ⟨[(4, vl 1 Ru32 y20)], [], 3⟩ [True, ((0 + x19.length ≤ x19.length) ∧ (True)) ∧ (All2 ArgLe [vl 1 Ru32 x19] [vl 1 Ru32 x19]) ∧ ((false = true → flatB [])) ∧ (Con Try.prog 41 [vl 1 Ru32 x19] [] (vl 1 Ru32 y20) []), True] (by kernel_rfl) (by kernel_rfl) ⟨tv, ⟨⟨le0, tv⟩, ⟨ArgLe.refl _, tv⟩, (fun h => by cases h), (natural_trim_con x19 y20 e21)⟩, tv, tv⟩ ?_
  refine AW.tn ?_
  refine AW.ret ?_
  obtain rfl := some_inj h
  exact ⟨_, Conv.refl _ _, .inr rfl, OutOk.mk [] 0 (out0 := vl 1 Ru32 y20) (ps := [True]) (by kernel_rfl) ⟨tv, tv⟩ (by kernel_rfl) (by kernel_rfl)⟩
/-! recordlink/natural.divide -/
noncomputable def natural_divide_k40 (x29 : Int) (x33 : List Int) (x34 : List Int) : Option (((List Int) × (List Int) × Int) ⊕ ((List Int) × (List Int))) := some (.inl (x33, x34, i64.wrap (x29 - 1)))
noncomputable def natural_divide_l42 (y14 : List Int) (x29 : Int) (y47 : Bool) (x52 : List Int) (x53 : Int) : Option (((List Int) × Int) ⊕ ((List Int) × Int)) := if y47 = true then ((natural_more x52 (0 + x29.toNat) ((i64.wrap ((i64.wrap (x29 + ((y14.length : Nat) : Int))) + 1)).toNat - x29.toNat) y14).bind fun y57 => (if ((0 + x29.toNat) + ((y14.length : Nat) : Int).toNat) < y57.length then (if ((y57.getD ((0 + x29.toNat) + ((y14.length : Nat) : Int).toNat) 0) == 0) = true then (some (.inr (y57, u64.wrap (x53 - 1)))) else (some (.inl (y57, u64.wrap (x53 - 1))))) else none)) else (some (.inr (x52, x53)))
noncomputable def natural_divide_l37 (y10 : List Int) (y14 : List Int) (z18 : Int) (x27 : List Int) (x28 : List Int) (x29 : Int) : Option (((List Int) × (List Int) × Int) ⊕ ((List Int) × (List Int))) := if (decide (x29 ≥ 0)) = true then (if 0 ≤ x29 then (if x29 ≤ (i64.wrap ((i64.wrap (x29 + ((y14.length : Nat) : Int))) + 1)) then (if (i64.wrap ((i64.wrap (x29 + ((y14.length : Nat) : Int))) + 1)) ≤ ((y10.length : Nat) : Int) then (if 0 ≤ ((y14.length : Nat) : Int) then (if ((y14.length : Nat) : Int) < ((((i64.wrap ((i64.wrap (x29 + ((y14.length : Nat) : Int))) + 1)).toNat - x29.toNat) : Nat) : Int) then (if ((0 + x29.toNat) + ((y14.length : Nat) : Int).toNat) < x27.length then (if (i64.wrap (((y14.length : Nat) : Int) - 1)) < ((((i64.wrap ((i64.wrap (x29 + ((y14.length : Nat) : Int))) + 1)).toNat - x29.toNat) : Nat) : Int) then (if ((0 + x29.toNat) + (i64.wrap (((y14.length : Nat) : Int) - 1)).toNat) < x27.length then (if z18 ≠ 0 then ((some ((if (4294967295 : Int) < (u64.wrap ((ior .u64 (ishl .u64 (u64.wrap (x27.getD ((0 + x29.toNat) + ((y14.length : Nat) : Int).toNat) 0)) 32) (u64.wrap (x27.getD ((0 + x29.toNat) + (i64.wrap (((y14.length : Nat) : Int) - 1)).toNat) 0))).tdiv z18)) then 4294967295 else (u64.wrap ((ior .u64 (ishl .u64 (u64.wrap (x27.getD ((0 + x29.toNat) + ((y14.length : Nat) : Int).toNat) 0)) 32) (u64.wrap (x27.getD ((0 + x29.toNat) + (i64.wrap (((y14.length : Nat) : Int) - 1)).toNat) 0))).tdiv z18))))).bind fun z44 => (if (z44 == 0) = true then (natural_divide_k40 x29 x27 x28) else (bind2 (natural_less x27 (0 + x29.toNat) ((i64.wrap ((i64.wrap (x29 + ((y14.length : Nat) : Int))) + 1)).toNat - x29.toNat) y14 z44) fun y47 y48 => (bind2 (loop (fun v : (List Int) × Int => natural_divide_l42 y14 x29 y47 v.1 v.2) (y48, z44)) fun x61 x62 => (if x29 < ((x28.length : Nat) : Int) then (natural_divide_k40 x29 x61 (x28.set (0 + x29.toNat) (u32.wrap x62))) else none))))) else none) else none) else none) else none) else none) else none) else none) else none) else none) else (some (.inr (x27, x28)))
noncomputable def natural_divide (p0 : List Int) (p1 : List Int) : Option ((List Int) × (List Int)) := (natural_Compare p0 p1).bind fun y1 => (if (decide (y1 < 0)) = true then ((slices_Clone_uint32 p0).bind fun y4 => (some (([] : List Int), y4))) else (if 0 ≤ (i64.wrap (((p1.length : Nat) : Int) - 1)) then (if (i64.wrap (((p1.length : Nat) : Int) - 1)) < ((p1.length : Nat) : Int) then ((bits_LeadingZeros32 (p1.getD ((i64.wrap (((p1.length : Nat) : Int) - 1)).toNat) 0)).bind fun y8 => ((natural_shift p0 y8).bind fun y10 => ((natural_shift p1 y8).bind fun y12 => ((natural_trim y12).bind fun y14 => (if 0 ≤ (i64.wrap (((y14.length : Nat) : Int) - 1)) then (if (i64.wrap (((y14.length : Nat) : Int) - 1)) < ((y14.length : Nat) : Int) then ((some (u64.wrap (y14.getD ((i64.wrap (((y14.length : Nat) : Int) - 1)).toNat) 0))).bind fun z18 => (if 0 ≤ (i64.wrap (((y10.length : Nat) : Int) - ((y14.length : Nat) : Int))) then (if (i64.wrap (((y10.length : Nat) : Int) - ((y14.length : Nat) : Int))) ≤ 1099511627776 then ((some (i64.wrap ((((List.replicate ((i64.wrap (((y10.length : Nat) : Int) - ((y14.length : Nat) : Int))).toNat) (0 : Int)).length : Nat) : Int) - 1))).bind fun z22 => (bind2 (loop (fun v : (List Int) × (List Int) × Int => natural_divide_l37 y10 y14 z18 v.1 v.2.1 v.2.2) (y10, (List.replicate ((i64.wrap (((y10.length : Nat) : Int) - ((y14.length : Nat) : Int))).toNat) (0 : Int)), z22)) fun x65 x66 => ((natural_trim x66).bind fun y67 => ((natural_trim (x65.take y10.length)).bind fun y69 => (if 0 + y10.length ≤ x65.length then ((natural_back y69 y8).bind fun y72 => (some (y67, y72))) else none))))) else none) else none)) else none) else none))))) else none) else none))
set_option maxRecDepth 100000 in
set_option maxHeartbeats 10000000 in
theorem natural_divide_con (p0 : List Int) (p1 : List Int) (r0 : List Int) (r1 : List Int) (h : natural_divide p0 p1 = some (r0, r1)) : Con Try.prog 40 [vl 1 Ru32 p0, vl 1 Ru32 p1] [] (.tup [vl 1 Ru32 r0, vl 1 Ru32 r1]) [] := by
 suffices H : ∀ r, natural_divide p0 p1 = some r → Con Try.prog 40 [vl 1 Ru32 p0, vl 1 Ru32 p1] [] (.tup [vl 1 Ru32 r.1, vl 1 Ru32 r.2]) [] from H (r0, r1) h
 clear h
 intro r h
 refine con_of tt_ok0 0 Try.func40 (by kernel_rfl) rfl (by kernel_rfl) (fun base X hk => AW.post ?_)
 unfold natural_divide at h
 refine AW.seq ?_
 refine AW.reg tt_ok0 [0, 1] [] [] ⟨[(0, vl 1 Ru32 p0), (1, vl 1 Ru32 p1)], [], 2⟩ [True, True] (by kernel_rfl) (by kernel_rfl) ⟨tv, tv, tv⟩ ?_
 refine AW.tn ?_
 refine AW.scope ?_
 refine AW.seq ?_
 refine AW.seq ?_
 obtain ⟨y1, e2, h⟩ := bnd_some h
 refine AW.reg tt_ok0 [0, 1, 19] [] [{}, {}, { call := some { ids := [], frz := [], flat := true, cnt := 0, args := [vl 1 Ru32 p0, vl 1 Ru32 p1], out := vi64 y1, outb := [] } }] ⟨[(19, vb (decide (y1 < 0))), (0, vl 1 Ru32 p0), (1, vl 1 Ru32 p1)], [], 5⟩ [True, True, ((True) ∧ (True) ∧ (True)) ∧ (All2 ArgLe [vl 1 Ru32 p0, vl 1 Ru32 p1] [vl 1 Ru32 p0, vl 1 Ru32 p1]) ∧ ((true = true → flatB [])) ∧ (Con Try.prog 22 [vl 1 Ru32 p0, vl 1 Ru32 p1] [] (vi64 y1) []), True] (by kernel_rfl) (by kernel_rfl) ⟨tv, tv, ⟨⟨tv, tv, tv⟩, ⟨ArgLe.refl _, ArgLe.refl _, tv⟩, (fun _ => tv), (natural_Compare_con p0 p1 y1 e2)⟩, tv, tv⟩ ?_
 refine AW.tn ?_
 refine AW.cond (b := decide (y1 < 0)) (by kernel_rfl) (fun c3 => ?_) (fun c3 => ?_)
 ·rw [if_pos c3] at h
  refine AW.seq ?_
  obtain ⟨y4, e5, h⟩ := bnd_some h
  refine AW.reg tt_ok0 [4, 5] [6] [{}, { call := some { ids := [], frz := [], flat := true, cnt := 1, args := [vl 1 Ru32 p0], out := .c (.ref 0 1 0 y4.length), outb := [(0, .row 37 false 1 y4.length (Ru32 y4))] } }] ⟨[(5, .c (.ref 6 1 0 y4.length)), (4, .c (.t (.v (.slice none 0 0))))], [(6, .row 37 false 1 y4.length (Ru32 y4))], 9⟩ [True, ((True) ∧ (True)) ∧ (All2 ArgLe [vl 1 Ru32 p0] [vl 1 Ru32 p0]) ∧ ((true = true → flatB [(0, .row 37 false 1 y4.length (Ru32 y4))])) ∧ (Con Try.prog 39 [vl 1 Ru32 p0] [] (.c (.ref 0 1 0 y4.length)) [(0, .row 37 false 1 y4.length (Ru32 y4))]), True, True] (by kernel_rfl) (by kernel_rfl) ⟨tv, ⟨⟨tv, tv⟩, ⟨ArgLe.refl _, tv⟩, (fun _ => ⟨rowL_flat Vu32 _ _ _, tv⟩), (slices_Clone_uint32_con p0 y4 e5)⟩, tv, tv, tv⟩ ?_
  refine AW.tn ?_
  refine AW.ret ?_
  refine AW.tr ?_
  refine AW.noG_ret ?_
  obtain rfl := some_inj h
  exact ⟨_, Conv.trans (conv_row (id := 6) (ty := 37) (fro := false) (fro' := true) (sz := 1) (n := y4.length) (m := y4.length) (f := Ru32 y4) (g := Ru32 y4) (by kernel_rfl) (.inr rfl) rfl row_rfl) (Conv.trans (conv_tm (tm' := [(5, .c (.ref 6 1 0 y4.length)), (4, vl 1 Ru32 ([] : List Int))]) ⟨⟨.c (.ref 6 1 0 y4.length), by kernel_rfl, ALe.refl _ _⟩, ⟨.c (.t (.v (.slice none 0 0))), by kernel_rfl, ALe.c (CLe.nil rfl)⟩, tv⟩) (conv_tm (tm' := [(5, vl 1 Ru32 y4), (4, vl 1 Ru32 ([] : List Int))]) ⟨⟨.c (.ref 6 1 0 y4.length), by kernel_rfl, ALe.c (CLe.ref (ty := 37) (f := Ru32 y4) (by kernel_rfl) le0)⟩, ⟨vl 1 Ru32 ([] : List Int), by kernel_rfl, ALe.refl _ _⟩, tv⟩)), .inr rfl, OutOk.mk [] 0 (out0 := .tup [vl 1 Ru32 ([] : List Int), vl 1 Ru32 y4]) (ps := [True, True]) (by kernel_rfl) ⟨tv, tv, tv⟩ (by kernel_rfl) (by kernel_rfl)⟩
 ·rw [if_neg (nb c3)] at h
  refine AW.skip ?_
  refine AW.tn ?_
  refine AW.seq ?_
  obtain ⟨g6, h⟩ := ifc h
  obtain ⟨g7, h⟩ := ifc h
  obtain ⟨y8, e9, h⟩ := bnd_some h
  refine AW.reg tt_ok0 [0, 1, 6] [] [{}, {}, {}, {}, {}, {}, { call := some { ids := [], frz := [], flat := true, cnt := 0, args := [vu32 (p1.getD ((i64.wrap (((p1.length : Nat) : Int) - 1)).toNat) 0)], out := vi64 y8, outb := [] } }] ⟨[(6, vi64 y8), (0, vl 1 Ru32 p0), (1, vl 1 Ru32 p1)], [], 12⟩ [True, True, True, True, (0 ≤ (i64.wrap (((p1.length : Nat) : Int) - 1))) ∧ ((i64.wrap (((p1.length : Nat) : Int) - 1)) < ((p1.length : Nat) : Int)), True, ((True) ∧ (True)) ∧ (All2 ArgLe [vu32 (p1.getD ((i64.wrap (((p1.length : Nat) : Int) - 1)).toNat) 0)] [vu32 (p1.getD ((i64.wrap (((p1.length : Nat) : Int) - 1)).toNat) 0)]) ∧ ((true = true → flatB [])) ∧ (Con Try.prog 53 [vu32 (p1.getD ((i64.wrap (((p1.length : Nat) : Int) - 1)).toNat) 0)] [] (vi64 y8) []), True] (by kernel_rfl) (by kernel_rfl) ⟨tv, tv, tv, tv, ⟨g6, g7⟩, tv, ⟨⟨tv, tv⟩, ⟨ArgLe.refl _, tv⟩, (fun _ => tv), (bits_LeadingZeros32_con (p1.getD ((i64.wrap (((p1.length : Nat) : Int) - 1)).toNat) 0) y8 e9)⟩, tv, tv⟩ ?_
  refine AW.tn ?_
  refine AW.seq ?_
  obtain ⟨y10, e11, h⟩ := bnd_some h
  obtain ⟨y12, e13, h⟩ := bnd_some h
  obtain ⟨y14, e15, h⟩ := bnd_some h
  refine AW.reg tt_ok0 [6, 7, 8] [14] [{}, {}, { call := some { ids := [], frz := [], flat := true, cnt := 1, args := [vl 1 Ru32 p0, vi64 y8], out := .c (.ref 0 1 0 y10.length), outb := [(0, .row 37 false 1 y10.length (Ru32 y10))] } }, {}, {}, { call := some { ids := [], frz := [], flat := true, cnt := 1, args := [vl 1 Ru32 p1, vi64 y8], out := .c (.ref 0 1 0 y12.length), outb := [(0, .row 37 false 1 y12.length (Ru32 y12))] } }, { call := some { ids := [], frz := [17], flat := false, cnt := 0, args := [vl 1 Ru32 y12], out := vl 1 Ru32 y14, outb := [] } }] ⟨[(8, vl 1 Ru32 y14), (7, .c (.ref 14 1 0 y10.length)), (6, vi64 y8)], [(14, .row 37 false 1 y10.length (Ru32 y10))], 20⟩ [True, True, ((True) ∧ (True) ∧ (True)) ∧ (All2 ArgLe [vl 1 Ru32 p0, vi64 y8] [vl 1 Ru32 p0, vi64 y8]) ∧ ((true = true → flatB [(0, .row 37 false 1 y10.length (Ru32 y10))])) ∧ (Con Try.prog 54 [vl 1 Ru32 p0, vi64 y8] [] (.c (.ref 0 1 0 y10.length)) [(0, .row 37 false 1 y10.length (Ru32 y10))]), True, True, ((True) ∧ (True) ∧ (True)) ∧ (All2 ArgLe [vl 1 Ru32 p1, vi64 y8] [vl 1 Ru32 p1, vi64 y8]) ∧ ((true = true → flatB [(0, .row 37 false 1 y12.length (Ru32 y12))])) ∧ (Con Try.prog 54 [vl 1 Ru32 p1, vi64 y8] [] (.c (.ref 0 1 0 y12.length)) [(0, .row 37 false 1 y12.length (Ru32 y12))]), ((0 + y12.length ≤ y12.length) ∧ (True)) ∧ (All2 ArgLe [vl 1 Ru32 y12] [vl 1 Ru32 y12]) ∧ ((false = true → flatB [])) ∧ (Con Try.prog 41 [vl 1 Ru32 y12] [] (vl 1 Ru32 y14) []), True, True] (by kernel_rfl) (by kernel_rfl) ⟨tv, tv, ⟨⟨tv, tv, tv⟩, ⟨ArgLe.refl _, ArgLe.refl _, tv⟩, (fun _ => ⟨rowL_flat Vu32 _ _ _, tv⟩), (natural_shift_con p0 y8 y10 e11)⟩, tv, tv, ⟨⟨tv, tv, tv⟩, ⟨ArgLe.refl _, ArgLe.refl _, tv⟩, (fun _ => ⟨rowL_flat Vu32 _ _ _, tv⟩), (natural_shift_con p1 y8 y12 e13)⟩, ⟨⟨le0, tv⟩, ⟨ArgLe.refl _, tv⟩, (fun h => by cases h), (natural_trim_con y12 y14 e15)⟩, tv, tv, tv⟩ ?_
  refine AW.tn ?_
  refine AW.seq ?_
  refine AW.reg tt_ok0 [6, 7, 8, 9] [14] [] ⟨[(9, vi64 ((y14.length : Nat) : Int)), (8, vl 1 Ru32 y14), (7, .c (.ref 14 1 0 y10.length)), (6, vi64 y8)], [(14, .row 37 false 1 y10.length (Ru32 y10))], 23⟩ [True, True, True] (by kernel_rfl) (by kernel_rfl) ⟨tv, tv, tv, tv⟩ ?_
  refine AW.tn ?_
  refine AW.seq ?_
  obtain ⟨g16, h⟩ := ifc h
  obtain ⟨g17, h⟩ := ifc h
  obtain ⟨z18, n19, h⟩ := bnd_some h
  replace n19 := some_inj n19
  refine AW.reg tt_ok0 [6, 7, 8, 9, 10] [14] [] ⟨[(10, vu64 (u64.wrap (y14.getD ((i64.wrap (((y14.length : Nat) : Int) - 1)).toNat) 0))), (9, vi64 ((y14.length : Nat) : Int)), (8, vl 1 Ru32 y14), (7, .c (.ref 14 1 0 y10.length)), (6, vi64 y8)], [(14, .row 37 false 1 y10.length (Ru32 y10))], 30⟩ [True, True, True, (0 ≤ (i64.wrap (((y14.length : Nat) : Int) - 1))) ∧ ((i64.wrap (((y14.length : Nat) : Int) - 1)) < ((y14.length : Nat) : Int)), True, True, True] (by kernel_rfl) (by kernel_rfl) ⟨tv, tv, tv, ⟨g16, g17⟩, tv, tv, tv, tv⟩ ?_
  refine eq_Q (S' := ⟨[(10, vu64 z18), (9, vi64 ((y14.length : Nat) : Int)), (8, vl 1 Ru32 y14), (7, .c (.ref 14 1 0 y10.length)), (6, vi64 y8)], [(14, .row 37 false 1 y10.length (Ru32 y10))], 30⟩) (by rw [n19]) ?_
  refine AW.tn ?_
  refine AW.seq ?_
  obtain ⟨g20, h⟩ := ifc h
  obtain ⟨g21, h⟩ := ifc h
  refine AW.reg tt_ok0 [6, 7, 8, 9, 10, 11] [14, 34] [{}, {}, {}, {}, { h := { row := some ((List.replicate ((i64.wrap (((y10.length : Nat) : Int) - ((y14.length : Nat) : Int))).toNat) (0 : Int)).length, Ru32 (List.replicate ((i64.wrap (((y10.length : Nat) : Int) - ((y14.length : Nat) : Int))).toNat) (0 : Int))) } }] ⟨[(11, .c (.ref 34 1 0 ((List.replicate ((i64.wrap (((y10.length : Nat) : Int) - ((y14.length : Nat) : Int))).toNat) (0 : Int)).length))), (10, vu64 z18), (9, vi64 ((y14.length : Nat) : Int)), (8, vl 1 Ru32 y14), (7, .c (.ref 14 1 0 y10.length)), (6, vi64 y8)], [(34, .row 37 false 1 (List.replicate ((i64.wrap (((y10.length : Nat) : Int) - ((y14.length : Nat) : Int))).toNat) (0 : Int)).length (Ru32 (List.replicate ((i64.wrap (((y10.length : Nat) : Int) - ((y14.length : Nat) : Int))).toNat) (0 : Int)))), (14, .row 37 false 1 y10.length (Ru32 y10))], 36⟩ [True, True, True, True, ((0 ≤ (i64.wrap (((y10.length : Nat) : Int) - ((y14.length : Nat) : Int)))) ∧ ((i64.wrap (((y10.length : Nat) : Int) - ((y14.length : Nat) : Int))) ≤ (i64.wrap (((y10.length : Nat) : Int) - ((y14.length : Nat) : Int)))) ∧ ((i64.wrap (((y10.length : Nat) : Int) - ((y14.length : Nat) : Int))) ≤ 1099511627776) ∧ ((4 : Nat) ≤ 128)) ∧ ((i64.wrap (((y10.length : Nat) : Int) - ((y14.length : Nat) : Int))).toNat = (List.replicate ((i64.wrap (((y10.length : Nat) : Int) - ((y14.length : Nat) : Int))).toNat) (0 : Int)).length ∧ ∀ i, i < (List.replicate ((i64.wrap (((y10.length : Nat) : Int) - ((y14.length : Nat) : Int))).toNat) (0 : Int)).length → ∀ j, j < 1 → TLe ((fun _ j => .v (([.int .u32 0] : List Value).getD j undef)) i j) (Ru32 (List.replicate ((i64.wrap (((y10.length : Nat) : Int) - ((y14.length : Nat) : Int))).toNat) (0 : Int)) i j)), True] (by kernel_rfl) (by kernel_rfl) ⟨tv, tv, tv, tv, ⟨⟨g20, Int.le_refl _, g21, (by decide)⟩, mk_row (fun j hj => match j, hj with | 0, _ => TLe.refl _ | _ + 1, h => absurd h (by omega))⟩, tv, tv⟩ ?_
  refine AW.tn ?_
  refine AW.seq ?_
  refine AW.label ?_
  refine AW.tn ?_
  refine AW.seq ?_
  refine AW.seq ?_
  obtain ⟨z22, n23, h⟩ := bnd_some h
  replace n23 := some_inj n23
  refine AW.reg tt_ok0 [6, 7, 8, 9, 10, 11, 12] [14, 34] [] ⟨[(12, vi64 (i64.wrap ((((List.replicate ((i64.wrap (((y10.length : Nat) : Int) - ((y14.length : Nat) : Int))).toNat) (0 : Int)).length : Nat) : Int) - 1))), (11, .c (.ref 34 1 0 ((List.replicate ((i64.wrap (((y10.length : Nat) : Int) - ((y14.length : Nat) : Int))).toNat) (0 : Int)).length))), (10, vu64 z18), (9, vi64 ((y14.length : Nat) : Int)), (8, vl 1 Ru32 y14), (7, .c (.ref 14 1 0 y10.length)), (6, vi64 y8)], [(34, .row 37 false 1 (List.replicate ((i64.wrap (((y10.length : Nat) : Int) - ((y14.length : Nat) : Int))).toNat) (0 : Int)).length (Ru32 (List.replicate ((i64.wrap (((y10.length : Nat) : Int) - ((y14.length : Nat) : Int))).toNat) (0 : Int)))), (14, .row 37 false 1 y10.length (Ru32 y10))], 40⟩ [True, True, True, True] (by kernel_rfl) (by kernel_rfl) ⟨tv, tv, tv, tv, tv⟩ ?_
  refine eq_Q (S' := ⟨[(12, vi64 z22), (11, .c (.ref 34 1 0 ((List.replicate ((i64.wrap (((y10.length : Nat) : Int) - ((y14.length : Nat) : Int))).toNat) (0 : Int)).length))), (10, vu64 z18), (9, vi64 ((y14.length : Nat) : Int)), (8, vl 1 Ru32 y14), (7, .c (.ref 14 1 0 y10.length)), (6, vi64 y8)], [(34, .row 37 false 1 (List.replicate ((i64.wrap (((y10.length : Nat) : Int) - ((y14.length : Nat) : Int))).toNat) (0 : Int)).length (Ru32 (List.replicate ((i64.wrap (((y10.length : Nat) : Int) - ((y14.length : Nat) : Int))).toNat) (0 : Int)))), (14, .row 37 false 1 y10.length (Ru32 y10))], 40⟩) (by rw [n23]) ?_
  refine AW.tn ?_
  refine AW.block ?_
  obtain ⟨x65, x66, l74, h⟩ := bind2_some h
  refine AW.pre (S' := ((fun v => ⟨[(6, vi64 y8), (7, .c (.ref 0 1 0 y10.length)), (8, vl 1 Ru32 y14), (9, vi64 ((y14.length : Nat) : Int)), (10, vu64 z18), (11, .c (.ref 1 1 0 v.2.1.length)), (12, vi64 v.2.2)], [(0, .row 37 false 1 v.1.length (Ru32 v.1)), (1, .row 37 false 1 v.2.1.length (Ru32 v.2.1))], 2⟩) : ((List Int) × (List Int) × Int) → St) (y10, (List.replicate ((i64.wrap (((y10.length : Nat) : Int) - ((y14.length : Nat) : Int))).toNat) (0 : Int)), z22)) (conv_ren [(0, 14), (1, 34)] [6, 7, 8, 9, 10, 11, 12] (n := 2) (by kernel_rfl) (by kernel_rfl)) ?_
  refine AW.loop2 (step := (fun v : (List Int) × (List Int) × Int => natural_divide_l37 y10 y14 z18 v.1 v.2.1 v.2.2)) (s0 := (y10, (List.replicate ((i64.wrap (((y10.length : Nat) : Int) - ((y14.length : Nat) : Int))).toNat) (0 : Int)), z22)) (t := (x65, x66)) (fun v => ⟨[(6, vi64 y8), (7, .c (.ref 0 1 0 y10.length)), (8, vl 1 Ru32 y14), (9, vi64 ((y14.length : Nat) : Int)), (10, vu64 z18), (11, .c (.ref 1 1 0 v.2.1.length)), (12, vi64 v.2.2)], [(0, .row 37 false 1 v.1.length (Ru32 v.1)), (1, .row 37 false 1 v.2.1.length (Ru32 v.2.1))], 2⟩) (fun t : (List Int) × (List Int) => (.exit 0, ⟨[(6, vi64 y8), (7, .c (.ref 0 1 0 y10.length)), (11, .c (.ref 1 1 0 t.2.length))], [(0, .row 37 false 1 t.1.length (Ru32 t.1)), (1, .row 37 false 1 t.2.length (Ru32 t.2))], 2⟩)) l74 (fun _ => tv) ?_ ?_
  ·
   intro v o h
   obtain ⟨x27, x28, x29⟩ := v
   replace h : natural_divide_l37 y10 y14 z18 x27 x28 x29 = some o := h
   unfold natural_divide_l37 at h
   show AW _ ⟨[(6, vi64 y8), (7, .c (.ref 0 1 0 y10.length)), (8, vl 1 Ru32 y14), (9, vi64 ((y14.length : Nat) : Int)), (10, vu64 z18), (11, .c (.ref 1 1 0 x28.length)), (12, vi64 x29)], [(0, .row 37 false 1 x27.length (Ru32 x27)), (1, .row 37 false 1 x28.length (Ru32 x28))], 2⟩ _ _
   refine AW.seq ?_
   refine AW.seq ?_
   refine AW.reg tt_ok0 [6, 7, 8, 9, 10, 11, 12, 53] [0, 1] [] ⟨[(53, vb (decide (x29 ≥ 0))), (6, vi64 y8), (7, .c (.ref 0 1 0 y10.length)), (8, vl 1 Ru32 y14), (9, vi64 ((y14.length : Nat) : Int)), (10, vu64 z18), (11, .c (.ref 1 1 0 x28.length)), (12, vi64 x29)], [(0, .row 37 false 1 x27.length (Ru32 x27)), (1, .row 37 false 1 x28.length (Ru32 x28))], 4⟩ [True, True] (by kernel_rfl) (by kernel_rfl) ⟨tv, tv, tv⟩ ?_
   refine AW.tn ?_
   refine AW.cond (b := decide (x29 ≥ 0)) (by kernel_rfl) (fun c32 => ?_) (fun c32 => ?_)
   ·rw [if_pos c32] at h
    refine AW.skip ?_
    refine AW.tn ?_
    refine AW.seq ?_
    refine AW.join (ι := (List Int) × (List Int)) (fun v => ⟨[(6, vi64 y8), (7, .c (.ref 0 1 0 y10.length)), (8, vl 1 Ru32 y14), (9, vi64 ((y14.length : Nat) : Int)), (10, vu64 z18), (11, .c (.ref 1 1 0 v.2.length)), (12, vi64 x29)], [(0, .row 37 false 1 v.1.length (Ru32 v.1)), (1, .row 37 false 1 v.2.length (Ru32 v.2))], 2⟩) (fun v : (List Int) × (List Int) => natural_divide_k40 x29 v.1 v.2 = some o) (fun v h => ?_) ?_
    ·
     obtain ⟨x33, x34⟩ := v
     replace h : natural_divide_k40 x29 x33 x34 = some o := h
     unfold natural_divide_k40 at h
     show (_ : Exit → St → Prop) .normal ⟨[(6, vi64 y8), (7, .c (.ref 0 1 0 y10.length)), (8, vl 1 Ru32 y14), (9, vi64 ((y14.length : Nat) : Int)), (10, vu64 z18), (11, .c (.ref 1 1 0 x34.length)), (12, vi64 x29)], [(0, .row 37 false 1 x33.length (Ru32 x33)), (1, .row 37 false 1 x34.length (Ru32 x34))], 2⟩
     refine AW.tn ?_
     refine AW.reg tt_ok0 [6, 7, 8, 9, 10, 11, 12] [0, 1] [] ⟨[(12, vi64 (i64.wrap (x29 - 1))), (6, vi64 y8), (7, .c (.ref 0 1 0 y10.length)), (8, vl 1 Ru32 y14), (9, vi64 ((y14.length : Nat) : Int)), (10, vu64 z18), (11, .c (.ref 1 1 0 x34.length))], [(0, .row 37 false 1 x33.length (Ru32 x33)), (1, .row 37 false 1 x34.length (Ru32 x34))], 5⟩ [True, True, True] (by kernel_rfl) (by kernel_rfl) ⟨tv, tv, tv, tv⟩ ?_
     obtain rfl := some_inj h
     refine loopQ_next (conv_ren [(0, 0), (1, 1)] [6, 7, 8, 9, 10, 11, 12] (n := 2) (by kernel_rfl) (by kernel_rfl))
    ·
     refine AW.block ?_
     refine AW.seq ?_
     obtain ⟨g35, h⟩ := ifc h
     obtain ⟨g36, h⟩ := ifc h
     obtain ⟨g37, h⟩ := ifc h
     refine AW.reg tt_ok0 [6, 7, 8, 9, 10, 11, 12, 13] [0, 1] [] ⟨[(13, .c (.ref 0 1 (0 + x29.toNat) ((i64.wrap ((i64.wrap (x29 + ((y14.length : Nat) : Int))) + 1)).toNat - x29.toNat))), (6, vi64 y8), (7, .c (.ref 0 1 0 y10.length)), (8, vl 1 Ru32 y14), (9, vi64 ((y14.length : Nat) : Int)), (10, vu64 z18), (11, .c (.ref 1 1 0 x28.length)), (12, vi64 x29)], [(0, .row 37 false 1 x27.length (Ru32 x27)), (1, .row 37 false 1 x28.length (Ru32 x28))], 16⟩ [True, True, True, True, True, True, True, True, True, True, (0 ≤ x29) ∧ (x29 ≤ (i64.wrap ((i64.wrap (x29 + ((y14.length : Nat) : Int))) + 1))) ∧ ((i64.wrap ((i64.wrap (x29 + ((y14.length : Nat) : Int))) + 1)) ≤ (i64.wrap ((i64.wrap (x29 + ((y14.length : Nat) : Int))) + 1))) ∧ ((i64.wrap ((i64.wrap (x29 + ((y14.length : Nat) : Int))) + 1)) ≤ ((y10.length : Nat) : Int)), True] (by kernel_rfl) (by kernel_rfl) ⟨tv, tv, tv, tv, tv, tv, tv, tv, tv, tv, ⟨g35, g36, Int.le_refl _, g37⟩, tv, tv⟩ ?_
     refine AW.tn ?_
     refine AW.seq ?_
     obtain ⟨g38, h⟩ := ifc h
     obtain ⟨g39, h⟩ := ifc h
     obtain ⟨g40, h⟩ := ifc h
     obtain ⟨g41, h⟩ := ifc h
     obtain ⟨g42, h⟩ := ifc h
     obtain ⟨g43, h⟩ := ifc h
     obtain ⟨z44, n45, h⟩ := bnd_some h
     replace n45 := some_inj n45
     refine AW.regD tt_ok0 mo0 [0, 0, 3, 7, 15, 31, 0, 0, 128, 448, 960, 1984, 4095, 0, 16383, 32767, 65535] [[], [], [], [], [], [], [], [], [], [], [], [], [], [], [], [], []] [6, 7, 8, 9, 10, 11, 12, 13, 14] [0, 1] [] ⟨[(14, vu64 (if (4294967295 : Int) < (u64.wrap ((ior .u64 (ishl .u64 (u64.wrap (x27.getD ((0 + x29.toNat) + ((y14.length : Nat) : Int).toNat) 0)) 32) (u64.wrap (x27.getD ((0 + x29.toNat) + (i64.wrap (((y14.length : Nat) : Int) - 1)).toNat) 0))).tdiv z18)) then 4294967295 else (u64.wrap ((ior .u64 (ishl .u64 (u64.wrap (x27.getD ((0 + x29.toNat) + ((y14.length : Nat) : Int).toNat) 0)) 32) (u64.wrap (x27.getD ((0 + x29.toNat) + (i64.wrap (((y14.length : Nat) : Int) - 1)).toNat) 0))).tdiv z18)))), (13, .c (.ref 0 1 (0 + x29.toNat) ((i64.wrap ((i64.wrap (x29 + ((y14.length : Nat) : Int))) + 1)).toNat - x29.toNat))), (6, vi64 y8), (7, .c (.ref 0 1 0 y10.length)), (8, vl 1 Ru32 y14), (9, vi64 ((y14.length : Nat) : Int)), (10, vu64 z18), (11, .c (.ref 1 1 0 x28.length)), (12, vi64 x29)], [(0, .row 37 false 1 x27.length (Ru32 x27)), (1, .row 37 false 1 x28.length (Ru32 x28))], 33⟩ [True, True, (0 ≤ ((y14.length : Nat) : Int)) ∧ (((y14.length : Nat) : Int) < ((((i64.wrap ((i64.wrap (x29 + ((y14.length : Nat) : Int))) + 1)).toNat - x29.toNat) : Nat) : Int)), ((0 + x29.toNat) + ((y14.length : Nat) : Int).toNat) < x27.length, True, 0 ≤ (32 : Int), True, True, True, (0 ≤ (i64.wrap (((y14.length : Nat) : Int) - 1))) ∧ ((i64.wrap (((y14.length : Nat) : Int) - 1)) < ((((i64.wrap ((i64.wrap (x29 + ((y14.length : Nat) : Int))) + 1)).toNat - x29.toNat) : Nat) : Int)), ((0 + x29.toNat) + (i64.wrap (((y14.length : Nat) : Int) - 1)).toNat) < x27.length, True, True, True, z18 ≠ 0, True, True] (by kernel_rfl) (by kernel_rfl) ⟨tv, tv, ⟨g38, g39⟩, g40, tv, (by decide), tv, tv, tv, ⟨g16, g41⟩, g42, tv, tv, tv, g43, tv, tv, tv⟩ ?_
     refine eq_Q (S' := ⟨[(14, vu64 z44), (13, .c (.ref 0 1 (0 + x29.toNat) ((i64.wrap ((i64.wrap (x29 + ((y14.length : Nat) : Int))) + 1)).toNat - x29.toNat))), (6, vi64 y8), (7, .c (.ref 0 1 0 y10.length)), (8, vl 1 Ru32 y14), (9, vi64 ((y14.length : Nat) : Int)), (10, vu64 z18), (11, .c (.ref 1 1 0 x28.length)), (12, vi64 x29)], [(0, .row 37 false 1 x27.length (Ru32 x27)), (1, .row 37 false 1 x28.length (Ru32 x28))], 33⟩) (by rw [n45]) ?_
     refine AW.tn ?_
     refine AW.seq ?_
     refine AW.seq ?_
     refine AW.reg tt_ok0 [6, 7, 8, 9, 10, 11, 12, 13, 14, 84] [0, 1] [] ⟨[(84, vb (z44 == 0)), (14, vu64 z44), (13, .c (.ref 0 1 (0 + x29.toNat) ((i64.wrap ((i64.wrap (x29 + ((y14.length : Nat) : Int))) + 1)).toNat - x29.toNat))), (6, vi64 y8), (7, .c (.ref 0 1 0 y10.length)), (8, vl 1 Ru32 y14), (9, vi64 ((y14.length : Nat) : Int)), (10, vu64 z18), (11, .c (.ref 1 1 0 x28.length)), (12, vi64 x29)], [(0, .row 37 false 1 x27.length (Ru32 x27)), (1, .row 37 false 1 x28.length (Ru32 x28))], 35⟩ [True, True] (by kernel_rfl) (by kernel_rfl) ⟨tv, tv, tv⟩ ?_
     refine AW.tn ?_
     refine AW.cond (b := (z44 == 0)) (by kernel_rfl) (fun c46 => ?_) (fun c46 => ?_)
     ·rw [if_pos c46] at h
      refine AW.exit ?_
      refine AW.thenQ_exit ?_
      refine AW.inBlock_hit ?_
      exact joinQ_leaf ((x27, x28)) h (conv_ren [(0, 0), (1, 1)] [6, 7, 8, 9, 10, 11, 12] (n := 2) (by kernel_rfl) (by kernel_rfl))
     ·rw [if_neg (nb c46)] at h
      refine AW.skip ?_
      refine AW.tn ?_
      refine AW.seq ?_
      refine AW.seq ?_
      obtain ⟨y47, y48, e49, h⟩ := bind2_some h
      refine AW.reg tt_ok0 [6, 7, 8, 9, 10, 11, 12, 13, 14, 15] [0, 1] [{}, {}, {}, { call := some { ids := [0], frz := [], flat := true, cnt := 0, args := [.c (.ref 0 1 (0 + x29.toNat) ((i64.wrap ((i64.wrap (x29 + ((y14.length : Nat) : Int))) + 1)).toNat - x29.toNat)), vl 1 Ru32 y14, vu64 z44], out := vb y47, outb := [(0, .row 37 false 1 y48.length (Ru32 y48))] } }] ⟨[(15, vb y47), (14, vu64 z44), (13, .c (.ref 0 1 (0 + x29.toNat) ((i64.wrap ((i64.wrap (x29 + ((y14.length : Nat) : Int))) + 1)).toNat - x29.toNat))), (6, vi64 y8), (7, .c (.ref 0 1 0 y10.length)), (8, vl 1 Ru32 y14), (9, vi64 ((y14.length : Nat) : Int)), (10, vu64 z18), (11, .c (.ref 1 1 0 x28.length)), (12, vi64 x29)], [(0, .row 37 false 1 y48.length (Ru32 y48)), (1, .row 37 false 1 x28.length (Ru32 x28))], 39⟩ [True, True, True, ((True) ∧ (True) ∧ (True) ∧ (True)) ∧ (All2 ArgLe [.c (.ref 0 1 (0 + x29.toNat) ((i64.wrap ((i64.wrap (x29 + ((y14.length : Nat) : Int))) + 1)).toNat - x29.toNat)), vl 1 Ru32 y14, vu64 z44] [.c (.ref 0 1 (0 + x29.toNat) ((i64.wrap ((i64.wrap (x29 + ((y14.length : Nat) : Int))) + 1)).toNat - x29.toNat)), vl 1 Ru32 y14, vu64 z44]) ∧ ((true = true → flatB [(0, .row 37 false 1 y48.length (Ru32 y48))])) ∧ (Con Try.prog 55 [.c (.ref 0 1 (0 + x29.toNat) ((i64.wrap ((i64.wrap (x29 + ((y14.length : Nat) : Int))) + 1)).toNat - x29.toNat)), vl 1 Ru32 y14, vu64 z44] [(0, .row 37 false 1 x27.length (Ru32 x27))] (vb y47) [(0, .row 37 false 1 y48.length (Ru32 y48))]), True] (by kernel_rfl) (by kernel_rfl) ⟨tv, tv, tv, ⟨⟨tv, tv, tv, tv⟩, ⟨ArgLe.refl _, ArgLe.refl _, ArgLe.refl _, tv⟩, (fun _ => ⟨rowL_flat Vu32 _ _ _, tv⟩), (natural_less_con x27 (0 + x29.toNat) ((i64.wrap ((i64.wrap (x29 + ((y14.length : Nat) : Int))) + 1)).toNat - x29.toNat) y14 z44 y47 y48 e49)⟩, tv, tv⟩ ?_
      refine AW.tn ?_
      refine AW.block ?_
      obtain ⟨x61, x62, l64, h⟩ := bind2_some h
      refine AW.pre (S' := ((fun v => ⟨[(6, vi64 y8), (7, .c (.ref 0 1 0 y10.length)), (8, vl 1 Ru32 y14), (9, vi64 ((y14.length : Nat) : Int)), (10, vu64 z18), (11, .c (.ref 1 1 0 x28.length)), (12, vi64 x29), (13, .c (.ref 0 1 (0 + x29.toNat) ((i64.wrap ((i64.wrap (x29 + ((y14.length : Nat) : Int))) + 1)).toNat - x29.toNat))), (14, vu64 v.2), (15, vb y47)], [(0, .row 37 false 1 v.1.length (Ru32 v.1)), (1, .row 37 false 1 x28.length (Ru32 x28))], 2⟩) : ((List Int) × Int) → St) (y48, z44)) (conv_ren [(0, 0), (1, 1)] [6, 7, 8, 9, 10, 11, 12, 13, 14, 15] (n := 2) (by kernel_rfl) (by kernel_rfl)) ?_
      refine AW.loop2 (step := (fun v : (List Int) × Int => natural_divide_l42 y14 x29 y47 v.1 v.2)) (s0 := (y48, z44)) (t := (x61, x62)) (fun v => ⟨[(6, vi64 y8), (7, .c (.ref 0 1 0 y10.length)), (8, vl 1 Ru32 y14), (9, vi64 ((y14.length : Nat) : Int)), (10, vu64 z18), (11, .c (.ref 1 1 0 x28.length)), (12, vi64 x29), (13, .c (.ref 0 1 (0 + x29.toNat) ((i64.wrap ((i64.wrap (x29 + ((y14.length : Nat) : Int))) + 1)).toNat - x29.toNat))), (14, vu64 v.2), (15, vb y47)], [(0, .row 37 false 1 v.1.length (Ru32 v.1)), (1, .row 37 false 1 x28.length (Ru32 x28))], 2⟩) (fun t : (List Int) × Int => (.exit 2, ⟨[(6, vi64 y8), (7, .c (.ref 0 1 0 y10.length)), (8, vl 1 Ru32 y14), (9, vi64 ((y14.length : Nat) : Int)), (10, vu64 z18), (11, .c (.ref 1 1 0 x28.length)), (12, vi64 x29), (14, vu64 t.2)], [(0, .row 37 false 1 t.1.length (Ru32 t.1)), (1, .row 37 false 1 x28.length (Ru32 x28))], 2⟩)) l64 (fun _ => tv) ?_ ?_
      ·
       intro v o h
       obtain ⟨x52, x53⟩ := v
       replace h : natural_divide_l42 y14 x29 y47 x52 x53 = some o := h
       unfold natural_divide_l42 at h
       show AW _ ⟨[(6, vi64 y8), (7, .c (.ref 0 1 0 y10.length)), (8, vl 1 Ru32 y14), (9, vi64 ((y14.length : Nat) : Int)), (10, vu64 z18), (11, .c (.ref 1 1 0 x28.length)), (12, vi64 x29), (13, .c (.ref 0 1 (0 + x29.toNat) ((i64.wrap ((i64.wrap (x29 + ((y14.length : Nat) : Int))) + 1)).toNat - x29.toNat))), (14, vu64 x53), (15, vb y47)], [(0, .row 37 false 1 x52.length (Ru32 x52)), (1, .row 37 false 1 x28.length (Ru32 x28))], 2⟩ _ _
       refine AW.seq ?_
       refine AW.seq ?_
       refine AW.reg tt_ok0 [6, 7, 8, 9, 10, 11, 12, 13, 14, 15, 89] [0, 1] [] ⟨[(89, vb y47), (6, vi64 y8), (7, .c (.ref 0 1 0 y10.length)), (8, vl 1 Ru32 y14), (9, vi64 ((y14.length : Nat) : Int)), (10, vu64 z18), (11, .c (.ref 1 1 0 x28.length)), (12, vi64 x29), (13, .c (.ref 0 1 (0 + x29.toNat) ((i64.wrap ((i64.wrap (x29 + ((y14.length : Nat) : Int))) + 1)).toNat - x29.toNat))), (14, vu64 x53), (15, vb y47)], [(0, .row 37 false 1 x52.length (Ru32 x52)), (1, .row 37 false 1 x28.length (Ru32 x28))], 3⟩ [True] (by kernel_rfl) (by kernel_rfl) ⟨tv, tv⟩ ?_
       refine AW.tn ?_
       refine AW.cond (b := y47) (by kernel_rfl) (fun c56 => ?_) (fun c56 => ?_)
       ·rw [if_pos c56] at h
        refine AW.skip ?_
        refine AW.tn ?_
        refine AW.seq ?_
        refine AW.block ?_
        refine AW.seq ?_
        obtain ⟨y57, e58, h⟩ := bnd_some h
        refine AW.reg tt_ok0 [6, 7, 8, 9, 10, 11, 12, 13, 14, 15] [0, 1] [{}, {}, { call := some { ids := [0], frz := [], flat := true, cnt := 0, args := [.c (.ref 0 1 (0 + x29.toNat) ((i64.wrap ((i64.wrap (x29 + ((y14.length : Nat) : Int))) + 1)).toNat - x29.toNat)), vl 1 Ru32 y14], out := .tup [], outb := [(0, .row 37 false 1 y57.length (Ru32 y57))] } }] ⟨[(6, vi64 y8), (7, .c (.ref 0 1 0 y10.length)), (8, vl 1 Ru32 y14), (9, vi64 ((y14.length : Nat) : Int)), (10, vu64 z18), (11, .c (.ref 1 1 0 x28.length)), (12, vi64 x29), (13, .c (.ref 0 1 (0 + x29.toNat) ((i64.wrap ((i64.wrap (x29 + ((y14.length : Nat) : Int))) + 1)).toNat - x29.toNat))), (14, vu64 x53), (15, vb y47)], [(0, .row 37 false 1 y57.length (Ru32 y57)), (1, .row 37 false 1 x28.length (Ru32 x28))], 5⟩ [True, True, ((True) ∧ (True) ∧ (True)) ∧ (All2 ArgLe [.c (.ref 0 1 (0 + x29.toNat) ((i64.wrap ((i64.wrap (x29 + ((y14.length : Nat) : Int))) + 1)).toNat - x29.toNat)), vl 1 Ru32 y14] [.c (.ref 0 1 (0 + x29.toNat) ((i64.wrap ((i64.wrap (x29 + ((y14.length : Nat) : Int))) + 1)).toNat - x29.toNat)), vl 1 Ru32 y14]) ∧ ((true = true → flatB [(0, .row 37 false 1 y57.length (Ru32 y57))])) ∧ (Con Try.prog 56 [.c (.ref 0 1 (0 + x29.toNat) ((i64.wrap ((i64.wrap (x29 + ((y14.length : Nat) : Int))) + 1)).toNat - x29.toNat)), vl 1 Ru32 y14] [(0, .row 37 false 1 x52.length (Ru32 x52))] (.tup []) [(0, .row 37 false 1 y57.length (Ru32 y57))])] (by kernel_rfl) (by kernel_rfl) ⟨tv, tv, ⟨⟨tv, tv, tv⟩, ⟨ArgLe.refl _, ArgLe.refl _, tv⟩, (fun _ => ⟨rowL_flat Vu32 _ _ _, tv⟩), (natural_more_con x52 (0 + x29.toNat) ((i64.wrap ((i64.wrap (x29 + ((y14.length : Nat) : Int))) + 1)).toNat - x29.toNat) y14 y57 e58)⟩, tv⟩ ?_
        refine AW.tn ?_
        refine AW.seq ?_
        obtain ⟨g59, h⟩ := ifc h
        refine AW.reg tt_ok0 [6, 7, 8, 9, 10, 11, 12, 13, 14, 15, 99] [0, 1] [] ⟨[(99, vb ((y57.getD ((0 + x29.toNat) + ((y14.length : Nat) : Int).toNat) 0) == 0)), (6, vi64 y8), (7, .c (.ref 0 1 0 y10.length)), (8, vl 1 Ru32 y14), (9, vi64 ((y14.length : Nat) : Int)), (10, vu64 z18), (11, .c (.ref 1 1 0 x28.length)), (12, vi64 x29), (13, .c (.ref 0 1 (0 + x29.toNat) ((i64.wrap ((i64.wrap (x29 + ((y14.length : Nat) : Int))) + 1)).toNat - x29.toNat))), (14, vu64 x53), (15, vb y47)], [(0, .row 37 false 1 y57.length (Ru32 y57)), (1, .row 37 false 1 x28.length (Ru32 x28))], 10⟩ [True, True, (0 ≤ ((y14.length : Nat) : Int)) ∧ (((y14.length : Nat) : Int) < ((((i64.wrap ((i64.wrap (x29 + ((y14.length : Nat) : Int))) + 1)).toNat - x29.toNat) : Nat) : Int)), ((0 + x29.toNat) + ((y14.length : Nat) : Int).toNat) < y57.length, True] (by kernel_rfl) (by kernel_rfl) ⟨tv, tv, ⟨g38, g39⟩, g59, tv, tv⟩ ?_
        refine AW.tn ?_
        refine AW.cond (b := ((y57.getD ((0 + x29.toNat) + ((y14.length : Nat) : Int).toNat) 0) == 0)) (by kernel_rfl) (fun c60 => ?_) (fun c60 => ?_)
        ·rw [if_pos c60] at h
         refine AW.seq ?_
         refine AW.reg tt_ok0 [6, 7, 8, 9, 10, 11, 12, 14] [0, 1] [] ⟨[(14, vu64 (u64.wrap (x53 - 1))), (6, vi64 y8), (7, .c (.ref 0 1 0 y10.length)), (8, vl 1 Ru32 y14), (9, vi64 ((y14.length : Nat) : Int)), (10, vu64 z18), (11, .c (.ref 1 1 0 x28.length)), (12, vi64 x29)], [(0, .row 37 false 1 y57.length (Ru32 y57)), (1, .row 37 false 1 x28.length (Ru32 x28))], 13⟩ [True, True, True] (by kernel_rfl) (by kernel_rfl) ⟨tv, tv, tv, tv⟩ ?_
         refine AW.tn ?_
         refine AW.exit ?_
         refine AW.inBlock_miss (by kernel_rfl) ?_
         refine AW.thenQ_exit ?_
         obtain rfl := some_inj h
         refine loopQ_out rfl (conv_ren [(0, 0), (1, 1)] [6, 7, 8, 9, 10, 11, 12, 14] (n := 2) (by kernel_rfl) (by kernel_rfl))
        ·rw [if_neg (nb c60)] at h
         refine AW.skip ?_
         refine AW.inBlock_normal ?_
         refine AW.tn ?_
         refine AW.reg tt_ok0 [6, 7, 8, 9, 10, 11, 12, 13, 14, 15] [0, 1] [] ⟨[(14, vu64 (u64.wrap (x53 - 1))), (6, vi64 y8), (7, .c (.ref 0 1 0 y10.length)), (8, vl 1 Ru32 y14), (9, vi64 ((y14.length : Nat) : Int)), (10, vu64 z18), (11, .c (.ref 1 1 0 x28.length)), (12, vi64 x29), (13, .c (.ref 0 1 (0 + x29.toNat) ((i64.wrap ((i64.wrap (x29 + ((y14.length : Nat) : Int))) + 1)).toNat - x29.toNat))), (15, vb y47)], [(0, .row 37 false 1 y57.length (Ru32 y57)), (1, .row 37 false 1 x28.length (Ru32 x28))], 13⟩ [True, True, True] (by kernel_rfl) (by kernel_rfl) ⟨tv, tv, tv, tv⟩ ?_
         obtain rfl := some_inj h
         refine loopQ_next (conv_ren [(0, 0), (1, 1)] [6, 7, 8, 9, 10, 11, 12, 13, 14, 15] (n := 2) (by kernel_rfl) (by kernel_rfl))
       ·rw [if_neg (nb c56)] at h
        refine AW.exit ?_
        refine AW.thenQ_exit ?_
        obtain rfl := some_inj h
        refine loopQ_out rfl (conv_ren [(0, 0), (1, 1)] [6, 7, 8, 9, 10, 11, 12, 14] (n := 2) (by kernel_rfl) (by kernel_rfl))
      ·
       show (_ : Exit → St → Prop) (.exit 2) ⟨[(6, vi64 y8), (7, .c (.ref 0 1 0 y10.length)), (8, vl 1 Ru32 y14), (9, vi64 ((y14.length : Nat) : Int)), (10, vu64 z18), (11, .c (.ref 1 1 0 x28.length)), (12, vi64 x29), (14, vu64 x62)], [(0, .row 37 false 1 x61.length (Ru32 x61)), (1, .row 37 false 1 x28.length (Ru32 x28))], 2⟩
       refine AW.inBlock_hit ?_
       refine AW.tn ?_
       obtain ⟨g63, h⟩ := ifc h
       refine AW.reg tt_ok0 [6, 7, 8, 9, 10, 11, 12] [0, 1] [{}, {}, {}, {}, {}, { h := { row := some (x28.length, Ru32 (x28.set (0 + x29.toNat) (u32.wrap x62))) } }] ⟨[(6, vi64 y8), (7, .c (.ref 0 1 0 y10.length)), (8, vl 1 Ru32 y14), (9, vi64 ((y14.length : Nat) : Int)), (10, vu64 z18), (11, .c (.ref 1 1 0 x28.length)), (12, vi64 x29)], [(1, .row 37 false 1 x28.length (Ru32 (x28.set (0 + x29.toNat) (u32.wrap x62)))), (0, .row 37 false 1 x61.length (Ru32 x61))], 8⟩ [True, True, True, True, (0 ≤ x29) ∧ (x29 < ((x28.length : Nat) : Int)), ((0 + x29.toNat) < x28.length) ∧ (x28.length = x28.length ∧ ∀ i, i < x28.length → ∀ j, j < 1 → TLe (updRow (Ru32 x28) (0 + x29.toNat) 0 [.v (.int .u32 (u32.wrap x62))] i j) (Ru32 (x28.set (0 + x29.toNat) (u32.wrap x62)) i j))] (by kernel_rfl) (by kernel_rfl) ⟨tv, tv, tv, tv, ⟨g35, g63⟩, ⟨(by have h1 : 0 ≤ x29 := g35; have h2 : x29 < ((x28.length : Nat) : Int) := g63; omega), set_rowN rfl (by have h1 : 0 ≤ x29 := g35; have h2 : x29 < ((x28.length : Nat) : Int) := g63; omega) (fun j hj => match j, hj with | 0, _ => TLe.refl _ | _ + 1, h => absurd h (by omega))⟩, tv⟩ ?_
       refine AW.inBlock_normal ?_
       exact joinQ_leaf ((x61, (x28.set (0 + x29.toNat) (u32.wrap x62)))) h (Conv.trans (conv_len (S' := ⟨[(6, vi64 y8), (7, .c (.ref 0 1 0 y10.length)), (8, vl 1 Ru32 y14), (9, vi64 ((y14.length : Nat) : Int)), (10, vu64 z18), (11, .c (.ref 1 1 0 ((x28.set (0 + x29.toNat) (u32.wrap x62)).length))), (12, vi64 x29)], [(1, .row 37 false 1 (x28.set (0 + x29.toNat) (u32.wrap x62)).length (Ru32 (x28.set (0 + x29.toNat) (u32.wrap x62)))), (0, .row 37 false 1 x61.length (Ru32 x61))], 8⟩) (by simp only [List.length_set])) (conv_ren [(0, 0), (1, 1)] [6, 7, 8, 9, 10, 11, 12] (n := 2) (by kernel_rfl) (by kernel_rfl)))
   ·rw [if_neg (nb c32)] at h
    refine AW.exit ?_
    refine AW.thenQ_exit ?_
    obtain rfl := some_inj h
    refine loopQ_out rfl (conv_ren [(0, 0), (1, 1)] [6, 7, 11] (n := 2) (by kernel_rfl) (by kernel_rfl))
  ·
   show (_ : Exit → St → Prop) (.exit 0) ⟨[(6, vi64 y8), (7, .c (.ref 0 1 0 y10.length)), (11, .c (.ref 1 1 0 x66.length))], [(0, .row 37 false 1 x65.length (Ru32 x65)), (1, .row 37 false 1 x66.length (Ru32 x66))], 2⟩
   refine AW.inBlock_hit ?_
   refine AW.tn ?_
   refine AW.seq ?_
   obtain ⟨y67, e68, h⟩ := bnd_some h
   obtain ⟨y69, e70, h⟩ := bnd_some h
   obtain ⟨g71, h⟩ := ifc h
   obtain ⟨y72, e73, h⟩ := bnd_some h
   refine AW.reg tt_ok0 [4, 5] [] [{}, { call := some { ids := [], frz := [1], flat := false, cnt := 0, args := [vl 1 Ru32 x66], out := vl 1 Ru32 y67, outb := [] } }, {}, { call := some { ids := [], frz := [0], flat := false, cnt := 0, args := [vl 1 Ru32 (x65.take y10.length)], out := vl 1 Ru32 y69, outb := [] } }, {}, { call := some { ids := [], frz := [], flat := false, cnt := 0, args := [vl 1 Ru32 y69, vi64 y8], out := vl 1 Ru32 y72, outb := [] } }] ⟨[(5, vl 1 Ru32 y72), (4, vl 1 Ru32 y67)], [], 7⟩ [True, ((0 + x66.length ≤ x66.length) ∧ (True)) ∧ (All2 ArgLe [vl 1 Ru32 x66] [vl 1 Ru32 x66]) ∧ ((false = true → flatB [])) ∧ (Con Try.prog 41 [vl 1 Ru32 x66] [] (vl 1 Ru32 y67) []), True, ((0 + y10.length ≤ x65.length) ∧ (True)) ∧ (All2 ArgLe [.c (.t (.tree y10.length 1 (Ru32 x65)))] [vl 1 Ru32 (x65.take y10.length)]) ∧ ((false = true → flatB [])) ∧ (Con Try.prog 41 [vl 1 Ru32 (x65.take y10.length)] [] (vl 1 Ru32 y69) []), True, ((True) ∧ (True) ∧ (True)) ∧ (All2 ArgLe [vl 1 Ru32 y69, vi64 y8] [vl 1 Ru32 y69, vi64 y8]) ∧ ((false = true → flatB [])) ∧ (Con Try.prog 57 [vl 1 Ru32 y69, vi64 y8] [] (vl 1 Ru32 y72) []), True, True] (by kernel_rfl) (by kernel_rfl) ⟨tv, ⟨⟨le0, tv⟩, ⟨ArgLe.refl _, tv⟩, (fun h => by cases h), (natural_trim_con x66 y67 e68)⟩, tv, ⟨⟨g71, tv⟩, ⟨ArgLe.c (CAle.tree (take_row (by omega))), tv⟩, (fun h => by cases h), (natural_trim_con (x65.take y10.length) y69 e70)⟩, tv, ⟨⟨tv, tv, tv⟩, ⟨ArgLe.refl _, ArgLe.refl _, tv⟩, (fun h => by cases h), (natural_back_con y69 y8 y72 e73)⟩, tv, tv, tv⟩ ?_
   refine AW.tn ?_
   refine AW.ret ?_
   refine AW.noG_ret ?_
   obtain rfl := some_inj h
   exact ⟨_, Conv.refl _ _, .inr rfl, OutOk.mk [] 0 (out0 := .tup [vl 1 Ru32 y67, vl 1 Ru32 y72]) (ps := [True, True]) (by kernel_rfl) ⟨tv, tv, tv⟩ (by kernel_rfl) (by kernel_rfl)⟩
/-! recordlink/natural.Int -/
noncomputable def natural_Int_l6 (p0 : List Int) (x5 : Int) (x6 : Int) : Option ((Int × Int) ⊕ Int) := if (decide (x6 < ((p0.length : Nat) : Int))) = true then (if 0 ≤ x6 then (if x6 < ((p0.length : Nat) : Int) then (if 0 ≤ (i64.wrap (32 * x6)) then ((some (ior .i64 x5 (ishl .i64 (i64.wrap (p0.getD x6.toNat 0)) (i64.wrap (32 * x6))))).bind fun z12 => (some (.inl (z12, i64.wrap (x6 + 1))))) else none) else none) else none) else (some (.inr x5))
noncomputable def natural_Int_k4 (p0 : List Int) (x1 : Bool) : Option (Int × Bool) := if x1 = true then (some (0, false)) else ((loop (fun v : Int × Int => natural_Int_l6 p0 v.1 v.2) (0, 0)).bind fun x14 => (some (x14, true)))
noncomputable def natural_Int (p0 : List Int) : Option (Int × Bool) := (natural_Valid p0).bind fun y16 => (if (!y16) = true then (natural_Int_k4 p0 true) else (if (decide (((p0.length : Nat) : Int) > 2)) = true then (natural_Int_k4 p0 true) else (if (((p0.length : Nat) : Int) == 2) = true then (if (1 : Int) < ((p0.length : Nat) : Int) then (natural_Int_k4 p0 (decide ((p0.getD 1 0) > 2147483647))) else none) else (natural_Int_k4 p0 false))))
set_option maxRecDepth 100000 in
set_option maxHeartbeats 10000000 in
theorem natural_Int_con (p0 : List Int) (r0 : Int) (r1 : Bool) (h : natural_Int p0 = some (r0, r1)) : Con Try.prog 21 [vl 1 Ru32 p0] [] (.tup [vi64 r0, vb r1]) [] := by
 suffices H : ∀ r, natural_Int p0 = some r → Con Try.prog 21 [vl 1 Ru32 p0] [] (.tup [vi64 r.1, vb r.2]) [] from H (r0, r1) h
 clear h
 intro r h
 refine con_of tt_ok0 0 Try.func21 (by kernel_rfl) rfl (by kernel_rfl) (fun base X hk => AW.post ?_)
 unfold natural_Int at h
 refine AW.seq ?_
 refine AW.reg tt_ok0 [0] [] [] ⟨[(0, vl 1 Ru32 p0)], [], 2⟩ [True, True] (by kernel_rfl) (by kernel_rfl) ⟨tv, tv, tv⟩ ?_
 refine AW.tn ?_
 refine AW.seq ?_
 refine AW.seq ?_
 refine AW.join (ι := Bool) (fun v => ⟨[(0, vl 1 Ru32 p0), (25, vb v)], [], 0⟩) (fun v : Bool => natural_Int_k4 p0 v = some r) (fun v h => ?_) ?_
 ·
  obtain ⟨x1, rfl⟩ : ∃ x, x = v := ⟨_, rfl⟩
  replace h : natural_Int_k4 p0 x1 = some r := h
  unfold natural_Int_k4 at h
  show (_ : Exit → St → Prop) .normal ⟨[(0, vl 1 Ru32 p0), (25, vb x1)], [], 0⟩
  refine AW.tn ?_
  refine AW.cond (b := x1) (by kernel_rfl) (fun c2 => ?_) (fun c2 => ?_)
  ·rw [if_pos c2] at h
   refine AW.seq ?_
   refine AW.reg tt_ok0 [2, 3] [] [] ⟨[(3, vb false), (2, vi64 0)], [], 2⟩ [True, True] (by kernel_rfl) (by kernel_rfl) ⟨tv, tv, tv⟩ ?_
   refine AW.tn ?_
   refine AW.ret ?_
   refine AW.tr ?_
   obtain rfl := some_inj h
   exact ⟨_, Conv.refl _ _, .inr rfl, OutOk.mk [] 0 (out0 := .tup [vi64 0, vb false]) (ps := [True, True]) (by kernel_rfl) ⟨tv, tv, tv⟩ (by kernel_rfl) (by kernel_rfl)⟩
  ·rw [if_neg (nb c2)] at h
   refine AW.skip ?_
   refine AW.tn ?_
   refine AW.seq ?_
   refine AW.reg tt_ok0 [0, 4] [] [] ⟨[(4, vi64 0), (0, vl 1 Ru32 p0)], [], 1⟩ [True] (by kernel_rfl) (by kernel_rfl) ⟨tv, tv⟩ ?_
   refine AW.tn ?_
   refine AW.seq ?_
   refine AW.seq ?_
   refine AW.reg tt_ok0 [4, 26, 27, 28] [] [] ⟨[(28, vi64 0), (27, vi64 ((p0.length : Nat) : Int)), (26, vl 1 Ru32 p0), (4, vi64 0)], [], 4⟩ [True, True, True] (by kernel_rfl) (by kernel_rfl) ⟨tv, tv, tv, tv⟩ ?_
   refine AW.tn ?_
   refine AW.block ?_
   obtain ⟨x14, l15, h⟩ := bnd_some h
   refine AW.pre (S' := ((fun v => ⟨[(4, vi64 v.1), (26, vl 1 Ru32 p0), (27, vi64 ((p0.length : Nat) : Int)), (28, vi64 v.2)], [], 0⟩) : (Int × Int) → St) (0, 0)) (conv_ren [] [4, 26, 27, 28] (n := 0) (by kernel_rfl) (by kernel_rfl)) ?_
   refine AW.loop2 (step := (fun v : Int × Int => natural_Int_l6 p0 v.1 v.2)) (s0 := (0, 0)) (t := x14) (fun v => ⟨[(4, vi64 v.1), (26, vl 1 Ru32 p0), (27, vi64 ((p0.length : Nat) : Int)), (28, vi64 v.2)], [], 0⟩) (fun t : Int => (.exit 0, ⟨[(4, vi64 t)], [], 0⟩)) l15 (fun _ => tv) ?_ ?_
   ·
    intro v o h
    obtain ⟨x5, x6⟩ := v
    replace h : natural_Int_l6 p0 x5 x6 = some o := h
    unfold natural_Int_l6 at h
    show AW _ ⟨[(4, vi64 x5), (26, vl 1 Ru32 p0), (27, vi64 ((p0.length : Nat) : Int)), (28, vi64 x6)], [], 0⟩ _ _
    refine AW.seq ?_
    refine AW.reg tt_ok0 [4, 26, 27, 28, 29] [] [] ⟨[(29, vb (decide (x6 < ((p0.length : Nat) : Int)))), (4, vi64 x5), (26, vl 1 Ru32 p0), (27, vi64 ((p0.length : Nat) : Int)), (28, vi64 x6)], [], 1⟩ [True] (by kernel_rfl) (by kernel_rfl) ⟨tv, tv⟩ ?_
    refine AW.tn ?_
    refine AW.seq ?_
    refine AW.cond (b := decide (x6 < ((p0.length : Nat) : Int))) (by kernel_rfl) (fun c8 => ?_) (fun c8 => ?_)
    ·rw [if_pos c8] at h
     refine AW.skip ?_
     refine AW.tn ?_
     refine AW.seq ?_
     refine AW.block ?_
     refine AW.seq ?_
     obtain ⟨g9, h⟩ := ifc h
     obtain ⟨g10, h⟩ := ifc h
     refine AW.reg tt_ok0 [4, 5, 6, 26, 27, 28] [] [] ⟨[(6, vu32 (p0.getD x6.toNat 0)), (5, vi64 x6), (4, vi64 x5), (26, vl 1 Ru32 p0), (27, vi64 ((p0.length : Nat) : Int)), (28, vi64 x6)], [], 6⟩ [True, (0 ≤ x6) ∧ (x6 < ((p0.length : Nat) : Int)), True, True, True] (by kernel_rfl) (by kernel_rfl) ⟨tv, ⟨g9, g10⟩, tv, tv, tv, tv⟩ ?_
     refine AW.tn ?_
     obtain ⟨g11, h⟩ := ifc h
     obtain ⟨z12, n13, h⟩ := bnd_some h
     replace n13 := some_inj n13
     refine AW.reg tt_ok0 [4, 26, 27, 28] [] [] ⟨[(4, vi64 (ior .i64 x5 (ishl .i64 (i64.wrap (p0.getD x6.toNat 0)) (i64.wrap (32 * x6))))), (26, vl 1 Ru32 p0), (27, vi64 ((p0.length : Nat) : Int)), (28, vi64 x6)], [], 14⟩ [True, True, True, True, True, 0 ≤ (i64.wrap (32 * x6)), True, True] (by kernel_rfl) (by kernel_rfl) ⟨tv, tv, tv, tv, tv, g11, tv, tv, tv⟩ ?_
     refine eq_Q (S' := ⟨[(4, vi64 z12), (26, vl 1 Ru32 p0), (27, vi64 ((p0.length : Nat) : Int)), (28, vi64 x6)], [], 14⟩) (by rw [n13]) ?_
     refine AW.inBlock_normal ?_
     refine AW.tn ?_
     refine AW.reg tt_ok0 [4, 26, 27, 28] [] [] ⟨[(28, vi64 (i64.wrap (x6 + 1))), (4, vi64 z12), (26, vl 1 Ru32 p0), (27, vi64 ((p0.length : Nat) : Int))], [], 16⟩ [True, True] (by kernel_rfl) (by kernel_rfl) ⟨tv, tv, tv⟩ ?_
     obtain rfl := some_inj h
     refine loopQ_next (conv_ren [] [4, 26, 27, 28] (n := 0) (by kernel_rfl) (by kernel_rfl))
    ·rw [if_neg (nb c8)] at h
     refine AW.exit ?_
     refine AW.thenQ_exit ?_
     obtain rfl := some_inj h
     refine loopQ_out rfl (conv_ren [] [4] (n := 0) (by kernel_rfl) (by kernel_rfl))
   ·
    show (_ : Exit → St → Prop) (.exit 0) ⟨[(4, vi64 x14)], [], 0⟩
    refine AW.inBlock_hit ?_
    refine AW.tn ?_
    refine AW.seq ?_
    refine AW.reg tt_ok0 [2, 3] [] [] ⟨[(3, vb true), (2, vi64 x14)], [], 3⟩ [True, True, True] (by kernel_rfl) (by kernel_rfl) ⟨tv, tv, tv, tv⟩ ?_
    refine AW.tn ?_
    refine AW.ret ?_
    obtain rfl := some_inj h
    exact ⟨_, Conv.refl _ _, .inr rfl, OutOk.mk [] 0 (out0 := .tup [vi64 x14, vb true]) (ps := [True, True]) (by kernel_rfl) ⟨tv, tv, tv⟩ (by kernel_rfl) (by kernel_rfl)⟩
 ·
  obtain ⟨y16, e17, h⟩ := bnd_some h
  by_cases c18 : (!y16) = true
  ·rw [if_pos c18] at h
   refine AW.reg tt_ok0 [0, 25] [] [{}, { call := some { ids := [], frz := [], flat := true, cnt := 0, args := [vl 1 Ru32 p0], out := vb y16, outb := [] } }, { h := { b := some true } }] ⟨[(25, vb true), (0, vl 1 Ru32 p0)], [], 20⟩ [True, ((True) ∧ (True)) ∧ (All2 ArgLe [vl 1 Ru32 p0] [vl 1 Ru32 p0]) ∧ ((true = true → flatB [])) ∧ (Con Try.prog 17 [vl 1 Ru32 p0] [] (vb y16) []), (!y16) = true, True, True, True, True, True, True, True, True, True, True, True, True, True, True, True, True] (by kernel_rfl) (by kernel_rfl) ⟨tv, ⟨⟨tv, tv⟩, ⟨ArgLe.refl _, tv⟩, (fun _ => tv), (natural_Valid_con p0 y16 e17)⟩, c18, tv, tv, tv, tv, tv, tv, tv, tv, tv, tv, tv, tv, tv, tv, tv, tv, tv⟩ ?_
   exact joinQ_leaf (true) h (conv_ren [] [0, 25] (n := 0) (by kernel_rfl) (by kernel_rfl))
  ·rw [if_neg c18] at h
   by_cases c19 : (decide (((p0.length : Nat) : Int) > 2)) = true
   ·rw [if_pos c19] at h
    refine AW.reg tt_ok0 [0, 25] [] [{}, { call := some { ids := [], frz := [], flat := true, cnt := 0, args := [vl 1 Ru32 p0], out := vb y16, outb := [] } }, { h := { b := some false } }, {}, {}, {}, { h := { b := some true } }] ⟨[(25, vb true), (0, vl 1 Ru32 p0)], [], 20⟩ [True, ((True) ∧ (True)) ∧ (All2 ArgLe [vl 1 Ru32 p0] [vl 1 Ru32 p0]) ∧ ((true = true → flatB [])) ∧ (Con Try.prog 17 [vl 1 Ru32 p0] [] (vb y16) []), (!y16) = false, True, True, True, (decide (((p0.length : Nat) : Int) > 2)) = true, True, True, True, True, True, True, True, True, True, True, True, True] (by kernel_rfl) (by kernel_rfl) ⟨tv, ⟨⟨tv, tv⟩, ⟨ArgLe.refl _, tv⟩, (fun _ => tv), (natural_Valid_con p0 y16 e17)⟩, (off_false c18), tv, tv, tv, c19, tv, tv, tv, tv, tv, tv, tv, tv, tv, tv, tv, tv, tv⟩ ?_
    exact joinQ_leaf (true) h (conv_ren [] [0, 25] (n := 0) (by kernel_rfl) (by kernel_rfl))
   ·rw [if_neg c19] at h
    by_cases c20 : (((p0.length : Nat) : Int) == 2) = true
    ·rw [if_pos c20] at h
     obtain ⟨g21, h⟩ := ifc h
     refine AW.reg tt_ok0 [0, 25] [] [{}, { call := some { ids := [], frz := [], flat := true, cnt := 0, args := [vl 1 Ru32 p0], out := vb y16, outb := [] } }, { h := { b := some false } }, {}, {}, {}, { h := { b := some false } }, {}, {}, {}, {}, { h := { b := some true } }] ⟨[(25, vb (decide ((p0.getD 1 0) > 2147483647))), (0, vl 1 Ru32 p0)], [], 20⟩ [True, ((True) ∧ (True)) ∧ (All2 ArgLe [vl 1 Ru32 p0] [vl 1 Ru32 p0]) ∧ ((true = true → flatB [])) ∧ (Con Try.prog 17 [vl 1 Ru32 p0] [] (vb y16) []), (!y16) = false, True, True, True, (decide (((p0.length : Nat) : Int) > 2)) = false, True, True, True, True, (((p0.length : Nat) : Int) == 2) = true, True, True, (0 ≤ (1 : Int)) ∧ ((1 : Int) < ((p0.length : Nat) : Int)), True, True, True, True] (by kernel_rfl) (by kernel_rfl) ⟨tv, ⟨⟨tv, tv⟩, ⟨ArgLe.refl _, tv⟩, (fun _ => tv), (natural_Valid_con p0 y16 e17)⟩, (off_false c18), tv, tv, tv, (off_false c19), tv, tv, tv, tv, c20, tv, tv, ⟨(by decide), g21⟩, tv, tv, tv, tv, tv⟩ ?_
     exact joinQ_leaf (decide ((p0.getD 1 0) > 2147483647)) h (conv_ren [] [0, 25] (n := 0) (by kernel_rfl) (by kernel_rfl))
    ·rw [if_neg c20] at h
     refine AW.reg tt_ok0 [0, 25] [] [{}, { call := some { ids := [], frz := [], flat := true, cnt := 0, args := [vl 1 Ru32 p0], out := vb y16, outb := [] } }, { h := { b := some false } }, {}, {}, {}, { h := { b := some false } }, {}, {}, {}, {}, { h := { b := some false } }] ⟨[(25, vb false), (0, vl 1 Ru32 p0)], [], 20⟩ [True, ((True) ∧ (True)) ∧ (All2 ArgLe [vl 1 Ru32 p0] [vl 1 Ru32 p0]) ∧ ((true = true → flatB [])) ∧ (Con Try.prog 17 [vl 1 Ru32 p0] [] (vb y16) []), (!y16) = false, True, True, True, (decide (((p0.length : Nat) : Int) > 2)) = false, True, True, True, True, (((p0.length : Nat) : Int) == 2) = false, True, True, True, True, True, True, True] (by kernel_rfl) (by kernel_rfl) ⟨tv, ⟨⟨tv, tv⟩, ⟨ArgLe.refl _, tv⟩, (fun _ => tv), (natural_Valid_con p0 y16 e17)⟩, (off_false c18), tv, tv, tv, (off_false c19), tv, tv, tv, tv, (off_false c20), tv, tv, tv, tv, tv, tv, tv, tv⟩ ?_
     exact joinQ_leaf (false) h (conv_ren [] [0, 25] (n := 0) (by kernel_rfl) (by kernel_rfl))
def Eu8 (x : Int) : List T := [.v (.int .u8 x)]
def Ru8 (xs : List Int) : Nat → Nat → T := rowL 0 Eu8 xs
theorem Vu8 : ∀ x, allV (Eu8 x) := fun _ => ⟨tv, tv⟩
/-! slices.Reverse[[]byte,byte] -/
noncomputable def slices_Reverse_byte_l1 (o0 : Nat) (n0 : Nat) (x4 : List Int) (x5 : Int) (x6 : Int) : Option (((List Int) × Int × Int) ⊕ (List Int)) := if (decide (x5 < x6)) = true then (if 0 ≤ x6 then (if x6 < ((n0 : Nat) : Int) then (if (o0 + x6.toNat) < x4.length then (if 0 ≤ x5 then (if x5 < ((n0 : Nat) : Int) then (if (o0 + x5.toNat) < x4.length then (some (.inl (((x4.set (o0 + x5.toNat) (x4.getD (o0 + x6.toNat) 0)).set (o0 + x6.toNat) (x4.getD (o0 + x5.toNat) 0)), i64.wrap (x5 + 1), i64.wrap (x6 - 1)))) else none) else none) else none) else none) else none) else none) else (some (.inr x4))
noncomputable def slices_Reverse_byte (p0 : List Int) (o0 : Nat) (n0 : Nat) : Option (List Int) := (loop (fun v : (List Int) × Int × Int => slices_Reverse_byte_l1 o0 n0 v.1 v.2.1 v.2.2) (p0, 0, i64.wrap (((n0 : Nat) : Int) - 1))).bind fun x15 => (some x15)
set_option maxRecDepth 100000 in
set_option maxHeartbeats 10000000 in
theorem slices_Reverse_byte_con (p0 : List Int) (o0 : Nat) (n0 : Nat) (r0 : List Int) (h : slices_Reverse_byte p0 o0 n0 = some r0) : Con Try.prog 44 [.c (.ref 0 1 o0 n0)] [(0, .row 5 false 1 p0.length (Ru8 p0))] (.tup []) [(0, .row 5 false 1 r0.length (Ru8 r0))] := by
 revert h; generalize r0 = r; intro h
 refine con_of tt_ok0 1 Try.func44 (by kernel_rfl) rfl (by kernel_rfl) (fun base X hk => AW.post ?_)
 unfold slices_Reverse_byte at h
 refine AW.seq ?_
 refine AW.reg tt_ok0 [0, 2, 3] [0] [] ⟨[(3, vi64 (i64.wrap (((n0 : Nat) : Int) - 1))), (2, vi64 0), (0, .c (.ref 0 1 o0 n0))], [(0, .row 5 false 1 p0.length (Ru8 p0))], 6⟩ [True, True, True, True, True] (by kernel_rfl) (by kernel_rfl) ⟨tv, tv, tv, tv, tv, tv⟩ ?_
 refine AW.tn ?_
 refine AW.block ?_
 obtain ⟨x15, l16, h⟩ := bnd_some h
 refine AW.pre (S' := ((fun v => ⟨[(0, .c (.ref 0 1 o0 n0)), (2, vi64 v.2.1), (3, vi64 v.2.2)], [(0, .row 5 false 1 v.1.length (Ru8 v.1))], 1⟩) : ((List Int) × Int × Int) → St) (p0, 0, i64.wrap (((n0 : Nat) : Int) - 1))) (conv_ren [(0, 0)] [0, 2, 3] (n := 1) (by kernel_rfl) (by kernel_rfl)) ?_
 refine AW.loop2 (step := (fun v : (List Int) × Int × Int => slices_Reverse_byte_l1 o0 n0 v.1 v.2.1 v.2.2)) (s0 := (p0, 0, i64.wrap (((n0 : Nat) : Int) - 1))) (t := x15) (fun v => ⟨[(0, .c (.ref 0 1 o0 n0)), (2, vi64 v.2.1), (3, vi64 v.2.2)], [(0, .row 5 false 1 v.1.length (Ru8 v.1))], 1⟩) (fun t : List Int => (.exit 0, ⟨[], [(0, .row 5 false 1 t.length (Ru8 t))], 1⟩)) l16 (fun _ => tv) ?_ ?_
 ·
  intro v o h
  obtain ⟨x4, x5, x6⟩ := v
  replace h : slices_Reverse_byte_l1 o0 n0 x4 x5 x6 = some o := h
  unfold slices_Reverse_byte_l1 at h
  show AW _ ⟨[(0, .c (.ref 0 1 o0 n0)), (2, vi64 x5), (3, vi64 x6)], [(0, .row 5 false 1 x4.length (Ru8 x4))], 1⟩ _ _
  refine AW.seq ?_
  refine AW.seq ?_
  refine AW.reg tt_ok0 [0, 2, 3, 9] [0] [] ⟨[(9, vb (decide (x5 < x6))), (0, .c (.ref 0 1 o0 n0)), (2, vi64 x5), (3, vi64 x6)], [(0, .row 5 false 1 x4.length (Ru8 x4))], 4⟩ [True, True, True] (by kernel_rfl) (by kernel_rfl) ⟨tv, tv, tv, tv⟩ ?_
  refine AW.tn ?_
  refine AW.cond (b := decide (x5 < x6)) (by kernel_rfl) (fun c8 => ?_) (fun c8 => ?_)
  ·rw [if_pos c8] at h
   refine AW.skip ?_
   refine AW.tn ?_
   refine AW.seq ?_
   refine AW.block ?_
   obtain ⟨g9, h⟩ := ifc h
   obtain ⟨g10, h⟩ := ifc h
   obtain ⟨g11, h⟩ := ifc h
   obtain ⟨g12, h⟩ := ifc h
   obtain ⟨g13, h⟩ := ifc h
   obtain ⟨g14, h⟩ := ifc h
   refine AW.regD tt_ok0 mo0 [0, 0, 0, 0, 0, 0, 48, 112, 0, 0, 768, 1792, 4083, 8179, 16383, 32767] [[], [], [], [], [], [], [], [], [], [], [], [], [], [0], [], [0]] [0, 2, 3] [0] [{}, {}, {}, {}, {}, {}, {}, {}, {}, {}, {}, {}, {}, { h := { row := some (x4.length, Ru8 (x4.set (o0 + x5.toNat) (x4.getD (o0 + x6.toNat) 0))) } }, {}, { h := { row := some (x4.length, Ru8 ((x4.set (o0 + x5.toNat) (x4.getD (o0 + x6.toNat) 0)).set (o0 + x6.toNat) (x4.getD (o0 + x5.toNat) 0))) } }] ⟨[(0, .c (.ref 0 1 o0 n0)), (2, vi64 x5), (3, vi64 x6)], [(0, .row 5 false 1 x4.length (Ru8 ((x4.set (o0 + x5.toNat) (x4.getD (o0 + x6.toNat) 0)).set (o0 + x6.toNat) (x4.getD (o0 + x5.toNat) 0))))], 20⟩ [True, True, True, True, True, True, (0 ≤ x6) ∧ (x6 < ((n0 : Nat) : Int)), (o0 + x6.toNat) < x4.length, True, True, (0 ≤ x5) ∧ (x5 < ((n0 : Nat) : Int)), (o0 + x5.toNat) < x4.length, (0 ≤ x5) ∧ (x5 < ((n0 : Nat) : Int)), ((o0 + x5.toNat) < x4.length) ∧ (x4.length = x4.length ∧ ∀ i, i < x4.length → ∀ j, j < 1 → TLe (updRow (Ru8 x4) (o0 + x5.toNat) 0 [.v (.int .u8 (x4.getD (o0 + x6.toNat) 0))] i j) (Ru8 (x4.set (o0 + x5.toNat) (x4.getD (o0 + x6.toNat) 0)) i j)), (0 ≤ x6) ∧ (x6 < ((n0 : Nat) : Int)), ((o0 + x6.toNat) < x4.length) ∧ (x4.length = x4.length ∧ ∀ i, i < x4.length → ∀ j, j < 1 → TLe (updRow (Ru8 (x4.set (o0 + x5.toNat) (x4.getD (o0 + x6.toNat) 0))) (o0 + x6.toNat) 0 [.v (.int .u8 (x4.getD (o0 + x5.toNat) 0))] i j) (Ru8 ((x4.set (o0 + x5.toNat) (x4.getD (o0 + x6.toNat) 0)).set (o0 + x6.toNat) (x4.getD (o0 + x5.toNat) 0)) i j))] (by kernel_rfl) (by kernel_rfl) ⟨tv, tv, tv, tv, tv, tv, ⟨g9, g10⟩, g11, tv, tv, ⟨g12, g13⟩, g14, ⟨g12, g13⟩, ⟨g14, set_rowN rfl g14 (fun j hj => match j, hj with | 0, _ => TLe.refl _ | _ + 1, h => absurd h (by omega))⟩, ⟨g9, g10⟩, ⟨g11, set_rowN (by simp only [List.length_set]) g11 (fun j hj => match j, hj with | 0, _ => TLe.refl _ | _ + 1, h => absurd h (by omega))⟩, tv⟩ ?_
   refine AW.inBlock_normal ?_
   refine AW.tn ?_
   refine AW.reg tt_ok0 [0, 2, 3] [0] [] ⟨[(3, vi64 (i64.wrap (x6 - 1))), (2, vi64 (i64.wrap (x5 + 1))), (0, .c (.ref 0 1 o0 n0))], [(0, .row 5 false 1 x4.length (Ru8 ((x4.set (o0 + x5.toNat) (x4.getD (o0 + x6.toNat) 0)).set (o0 + x6.toNat) (x4.getD (o0 + x5.toNat) 0))))], 26⟩ [True, True, True, True, True, True] (by kernel_rfl) (by kernel_rfl) ⟨tv, tv, tv, tv, tv, tv, tv⟩ ?_
   obtain rfl := some_inj h
   refine loopQ_next (Conv.trans (conv_len (S' := ⟨[(3, vi64 (i64.wrap (x6 - 1))), (2, vi64 (i64.wrap (x5 + 1))), (0, .c (.ref 0 1 o0 n0))], [(0, .row 5 false 1 ((x4.set (o0 + x5.toNat) (x4.getD (o0 + x6.toNat) 0)).set (o0 + x6.toNat) (x4.getD (o0 + x5.toNat) 0)).length (Ru8 ((x4.set (o0 + x5.toNat) (x4.getD (o0 + x6.toNat) 0)).set (o0 + x6.toNat) (x4.getD (o0 + x5.toNat) 0))))], 26⟩) (by simp only [List.length_set])) (conv_ren [(0, 0)] [0, 2, 3] (n := 1) (by kernel_rfl) (by kernel_rfl)))
  ·rw [if_neg (nb c8)] at h
   refine AW.exit ?_
   refine AW.thenQ_exit ?_
   obtain rfl := some_inj h
   refine loopQ_out rfl (conv_ren [(0, 0)] [] (n := 1) (by kernel_rfl) (by kernel_rfl))
 ·
  show (_ : Exit → St → Prop) (.exit 0) ⟨[], [(0, .row 5 false 1 x15.length (Ru8 x15))], 1⟩
  refine AW.inBlock_hit ?_
  obtain rfl := some_inj h
  exact ⟨_, Conv.refl _ _, .inl rfl, OutOk.mk [(0, 0)] 1 (out0 := .tup []) (ps := []) (by kernel_rfl) tv (by kernel_rfl) (by kernel_rfl)⟩
/-! recordlink/natural.Text -/
noncomputable def natural_Text_l2 (x7 : List Int) (x8 : List Int) : Option (((List Int) × (List Int)) ⊕ (List Int)) := if (decide (((x7.length : Nat) : Int) > 0)) = true then (bind2 (natural_divide x7 ([10] : List Int)) fun y11 y12 => (bind2 (natural_Int y12) fun y14 y15 => (if x8.length + ([u8.wrap (i64.wrap (48 + y14))] : List Int).length ≤ 1099511627776 then (some (.inl (y11, (x8 ++ ([u8.wrap (i64.wrap (48 + y14))] : List Int))))) else none))) else (some (.inr x8))
noncomputable def natural_Text (p0 : List Int) : Option (ByteArray × Int) := (natural_Valid p0).bind fun y1 => (if (!y1) = true then (some ((ByteArray.mk #[]), 20)) else (if (((p0.length : Nat) : Int) == 0) = true then (some ((ByteArray.mk #[48]), 0)) else ((loop (fun v : (List Int) × (List Int) => natural_Text_l2 v.1 v.2) (p0, ([] : List Int))).bind fun x18 => ((slices_Reverse_byte x18 0 x18.length).bind fun y19 => (if 0 + x18.length ≤ y19.length then (some ((strP 0 x18.length y19), 0)) else none)))))
set_option maxRecDepth 100000 in
set_option maxHeartbeats 10000000 in
theorem natural_Text_con (p0 : List Int) (r0 : ByteArray) (r1 : Int) (h : natural_Text p0 = some (r0, r1)) : Con Try.prog 23 [vl 1 Ru32 p0] [] (.tup [vs r0, vi64 r1]) [] := by
 suffices H : ∀ r, natural_Text p0 = some r → Con Try.prog 23 [vl 1 Ru32 p0] [] (.tup [vs r.1, vi64 r.2]) [] from H (r0, r1) h
 clear h
 intro r h
 refine con_of tt_ok0 0 Try.func23 (by kernel_rfl) rfl (by kernel_rfl) (fun base X hk => AW.post ?_)
 unfold natural_Text at h
 refine AW.seq ?_
 refine AW.reg tt_ok0 [0] [] [] ⟨[(0, vl 1 Ru32 p0)], [], 2⟩ [True, True] (by kernel_rfl) (by kernel_rfl) ⟨tv, tv, tv⟩ ?_
 refine AW.tn ?_
 refine AW.seq ?_
 refine AW.block ?_
 refine AW.seq ?_
 obtain ⟨y1, e2, h⟩ := bnd_some h
 refine AW.reg tt_ok0 [0, 10] [] [{}, { call := some { ids := [], frz := [], flat := true, cnt := 0, args := [vl 1 Ru32 p0], out := vb y1, outb := [] } }] ⟨[(10, vb (!y1)), (0, vl 1 Ru32 p0)], [], 5⟩ [True, ((True) ∧ (True)) ∧ (All2 ArgLe [vl 1 Ru32 p0] [vl 1 Ru32 p0]) ∧ ((true = true → flatB [])) ∧ (Con Try.prog 17 [vl 1 Ru32 p0] [] (vb y1) []), True, True] (by kernel_rfl) (by kernel_rfl) ⟨tv, ⟨⟨tv, tv⟩, ⟨ArgLe.refl _, tv⟩, (fun _ => tv), (natural_Valid_con p0 y1 e2)⟩, tv, tv, tv⟩ ?_
 refine AW.tn ?_
 refine AW.cond (b := !y1) (by kernel_rfl) (fun c3 => ?_) (fun c3 => ?_)
 ·rw [if_pos c3] at h
  refine AW.seq ?_
  refine AW.reg tt_ok0 [2, 3] [] [] ⟨[(3, vi64 20), (2, vs (ByteArray.mk #[]))], [], 7⟩ [True, True] (by kernel_rfl) (by kernel_rfl) ⟨tv, tv, tv⟩ ?_
  refine AW.tn ?_
  refine AW.ret ?_
  refine AW.inBlock_ret ?_
  refine AW.tr ?_
  obtain rfl := some_inj h
  exact ⟨_, Conv.refl _ _, .inr rfl, OutOk.mk [] 0 (out0 := .tup [vs (ByteArray.mk #[]), vi64 20]) (ps := [True, True]) (by kernel_rfl) ⟨tv, tv, tv⟩ (by kernel_rfl) (by kernel_rfl)⟩
 ·rw [if_neg (nb c3)] at h
  refine AW.seq ?_
  refine AW.reg tt_ok0 [0, 14] [] [] ⟨[(14, vb (((p0.length : Nat) : Int) == 0)), (0, vl 1 Ru32 p0)], [], 9⟩ [True, True, True, True] (by kernel_rfl) (by kernel_rfl) ⟨tv, tv, tv, tv, tv⟩ ?_
  refine AW.tn ?_
  refine AW.cond (b := (((p0.length : Nat) : Int) == 0)) (by kernel_rfl) (fun c4 => ?_) (fun c4 => ?_)
  ·rw [if_pos c4] at h
   refine AW.seq ?_
   refine AW.reg tt_ok0 [2, 3] [] [] ⟨[(3, vi64 0), (2, vs (ByteArray.mk #[48]))], [], 11⟩ [True, True] (by kernel_rfl) (by kernel_rfl) ⟨tv, tv, tv⟩ ?_
   refine AW.tn ?_
   refine AW.ret ?_
   refine AW.inBlock_ret ?_
   refine AW.tr ?_
   obtain rfl := some_inj h
   exact ⟨_, Conv.refl _ _, .inr rfl, OutOk.mk [] 0 (out0 := .tup [vs (ByteArray.mk #[48]), vi64 0]) (ps := [True, True]) (by kernel_rfl) ⟨tv, tv, tv⟩ (by kernel_rfl) (by kernel_rfl)⟩
  ·rw [if_neg (nb c4)] at h
   refine AW.skip ?_
   refine AW.inBlock_normal ?_
   refine AW.tn ?_
   refine AW.seq ?_
   refine AW.reg tt_ok0 [0, 4] [] [] ⟨[(4, .c (.t (.v (.slice none 0 0)))), (0, vl 1 Ru32 p0)], [], 10⟩ [True] (by kernel_rfl) (by kernel_rfl) ⟨tv, tv⟩ ?_
   refine AW.tn ?_
   refine AW.seq ?_
   refine AW.seq ?_
   refine AW.reg tt_ok0 [0, 4, 5] [10] [{ h := { row := some (([10] : List Int).length, Ru32 ([10] : List Int)) } }] ⟨[(5, .c (.ref 10 1 0 (([10] : List Int).length))), (4, .c (.t (.v (.slice none 0 0)))), (0, vl 1 Ru32 p0)], [(10, .row 37 false 1 ([10] : List Int).length (Ru32 ([10] : List Int)))], 12⟩ [1 = ([10] : List Int).length ∧ ∀ i, i < ([10] : List Int).length → ∀ j, j < 1 → TLe ((rowOf [.v (.int .u32 10)] 1) i j) (Ru32 ([10] : List Int) i j), True] (by kernel_rfl) (by kernel_rfl) ⟨⟨rfl, lit_row (n := 1) (sz := 1) ⟨tv, ⟨tv, TLe.refl _⟩⟩⟩, tv, tv⟩ ?_
   refine AW.tn ?_
   refine AW.block ?_
   obtain ⟨x18, l22, h⟩ := bnd_some h
   refine AW.pre (S' := ((fun v => ⟨[(0, vl 1 Ru32 v.1), (4, .c (.ref 0 1 0 v.2.length)), (5, vl 1 Ru32 ([10] : List Int))], [(0, .row 5 false 1 v.2.length (Ru8 v.2))], 1⟩) : ((List Int) × (List Int)) → St) (p0, ([] : List Int))) (Conv.trans (conv_adopt (t := 4) (ty := 5) (sz := 1) (n := ([] : List Int).length) (f := Ru8 ([] : List Int)) (by kernel_rfl) rfl) (Conv.trans (conv_row (id := 10) (ty := 37) (fro := false) (fro' := true) (sz := 1) (n := ([10] : List Int).length) (m := ([10] : List Int).length) (f := Ru32 ([10] : List Int)) (g := Ru32 ([10] : List Int)) (by kernel_rfl) (.inr rfl) rfl row_rfl) (Conv.trans (conv_tm (tm' := [(0, vl 1 Ru32 p0), (4, .c (.ref 12 1 0 (([] : List Int).length))), (5, vl 1 Ru32 ([10] : List Int))]) ⟨⟨vl 1 Ru32 p0, by kernel_rfl, ALe.refl _ _⟩, ⟨.c (.ref 12 1 0 (([] : List Int).length)), by kernel_rfl, ALe.refl _ _⟩, ⟨.c (.ref 10 1 0 (([10] : List Int).length)), by kernel_rfl, ALe.c (CLe.ref (ty := 37) (f := Ru32 ([10] : List Int)) (by kernel_rfl) le0)⟩, tv⟩) (conv_ren [(0, 12)] [0, 4, 5] (n := 1) (by kernel_rfl) (by kernel_rfl))))) ?_
   refine AW.loop2 (step := (fun v : (List Int) × (List Int) => natural_Text_l2 v.1 v.2)) (s0 := (p0, ([] : List Int))) (t := x18) (fun v => ⟨[(0, vl 1 Ru32 v.1), (4, .c (.ref 0 1 0 v.2.length)), (5, vl 1 Ru32 ([10] : List Int))], [(0, .row 5 false 1 v.2.length (Ru8 v.2))], 1⟩) (fun t : List Int => (.exit 1, ⟨[(4, .c (.ref 0 1 0 t.length))], [(0, .row 5 false 1 t.length (Ru8 t))], 1⟩)) l22 (fun _ => tv) ?_ ?_
   ·
    intro v o h
    obtain ⟨x7, x8⟩ := v
    replace h : natural_Text_l2 x7 x8 = some o := h
    unfold natural_Text_l2 at h
    show AW _ ⟨[(0, vl 1 Ru32 x7), (4, .c (.ref 0 1 0 x8.length)), (5, vl 1 Ru32 ([10] : List Int))], [(0, .row 5 false 1 x8.length (Ru8 x8))], 1⟩ _ _
    refine AW.seq ?_
    refine AW.seq ?_
    refine AW.reg tt_ok0 [0, 4, 5, 21] [0] [] ⟨[(21, vb (decide (((x7.length : Nat) : Int) > 0))), (0, vl 1 Ru32 x7), (4, .c (.ref 0 1 0 x8.length)), (5, vl 1 Ru32 ([10] : List Int))], [(0, .row 5 false 1 x8.length (Ru8 x8))], 4⟩ [True, True, True] (by kernel_rfl) (by kernel_rfl) ⟨tv, tv, tv, tv⟩ ?_
    refine AW.tn ?_
    refine AW.cond (b := decide (((x7.length : Nat) : Int) > 0)) (by kernel_rfl) (fun c10 => ?_) (fun c10 => ?_)
    ·rw [if_pos c10] at h
     refine AW.skip ?_
     refine AW.tn ?_
     refine AW.block ?_
     refine AW.seq ?_
     obtain ⟨y11, y12, e13, h⟩ := bind2_some h
     refine AW.reg tt_ok0 [4, 5, 6, 7] [0] [{}, {}, { call := some { ids := [], frz := [], flat := false, cnt := 0, args := [vl 1 Ru32 x7, vl 1 Ru32 ([10] : List Int)], out := .tup [vl 1 Ru32 y11, vl 1 Ru32 y12], outb := [] } }] ⟨[(7, vl 1 Ru32 y12), (6, vl 1 Ru32 y11), (4, .c (.ref 0 1 0 x8.length)), (5, vl 1 Ru32 ([10] : List Int))], [(0, .row 5 false 1 x8.length (Ru8 x8))], 11⟩ [True, True, ((True) ∧ (True) ∧ (True)) ∧ (All2 ArgLe [vl 1 Ru32 x7, vl 1 Ru32 ([10] : List Int)] [vl 1 Ru32 x7, vl 1 Ru32 ([10] : List Int)]) ∧ ((false = true → flatB [])) ∧ (Con Try.prog 40 [vl 1 Ru32 x7, vl 1 Ru32 ([10] : List Int)] [] (.tup [vl 1 Ru32 y11, vl 1 Ru32 y12]) []), True, True, True, True, True] (by kernel_rfl) (by kernel_rfl) ⟨tv, tv, ⟨⟨tv, tv, tv⟩, ⟨ArgLe.refl _, ArgLe.refl _, tv⟩, (fun h => by cases h), (natural_divide_con x7 ([10] : List Int) y11 y12 e13)⟩, tv, tv, tv, tv, tv, tv⟩ ?_
     refine AW.tn ?_
     refine AW.seq ?_
     obtain ⟨y14, y15, e16, h⟩ := bind2_some h
     refine AW.reg tt_ok0 [4, 5, 6, 8] [0] [{}, { call := some { ids := [], frz := [], flat := true, cnt := 0, args := [vl 1 Ru32 y12], out := .tup [vi64 y14, vb y15], outb := [] } }] ⟨[(8, vi64 y14), (6, vl 1 Ru32 y11), (4, .c (.ref 0 1 0 x8.length)), (5, vl 1 Ru32 ([10] : List Int))], [(0, .row 5 false 1 x8.length (Ru8 x8))], 17⟩ [True, ((True) ∧ (True)) ∧ (All2 ArgLe [vl 1 Ru32 y12] [vl 1 Ru32 y12]) ∧ ((true = true → flatB [])) ∧ (Con Try.prog 21 [vl 1 Ru32 y12] [] (.tup [vi64 y14, vb y15]) []), True, True, True, True, True] (by kernel_rfl) (by kernel_rfl) ⟨tv, ⟨⟨tv, tv⟩, ⟨ArgLe.refl _, tv⟩, (fun _ => tv), (natural_Int_con y12 y14 y15 e16)⟩, tv, tv, tv, tv, tv, tv⟩ ?_
     refine AW.tn ?_
     obtain ⟨g17, h⟩ := ifc h
     refine AW.reg tt_ok0 [0, 4, 5] [22] [{}, {}, {}, {}, { h := { row := some (([u8.wrap (i64.wrap (48 + y14))] : List Int).length, Ru8 ([u8.wrap (i64.wrap (48 + y14))] : List Int)) } }, { h := { row := some ((x8 ++ ([u8.wrap (i64.wrap (48 + y14))] : List Int)).length, Ru8 (x8 ++ ([u8.wrap (i64.wrap (48 + y14))] : List Int))) } }] ⟨[(0, vl 1 Ru32 y11), (4, .c (.ref 22 1 0 ((x8 ++ ([u8.wrap (i64.wrap (48 + y14))] : List Int)).length))), (5, vl 1 Ru32 ([10] : List Int))], [(22, .row 5 false 1 (x8 ++ ([u8.wrap (i64.wrap (48 + y14))] : List Int)).length (Ru8 (x8 ++ ([u8.wrap (i64.wrap (48 + y14))] : List Int))))], 26⟩ [True, True, True, True, 1 = ([u8.wrap (i64.wrap (48 + y14))] : List Int).length ∧ ∀ i, i < ([u8.wrap (i64.wrap (48 + y14))] : List Int).length → ∀ j, j < 1 → TLe ((rowOf [.v (.int .u8 (u8.wrap (i64.wrap (48 + y14))))] 1) i j) (Ru8 ([u8.wrap (i64.wrap (48 + y14))] : List Int) i j), (x8.length = x8.length) ∧ (0 + ([u8.wrap (i64.wrap (48 + y14))] : List Int).length ≤ ([u8.wrap (i64.wrap (48 + y14))] : List Int).length) ∧ ((x8.length + ([u8.wrap (i64.wrap (48 + y14))] : List Int).length ≤ 1099511627776) ∧ ((1 : Nat) ≤ 128)) ∧ (x8.length + ([u8.wrap (i64.wrap (48 + y14))] : List Int).length = (x8 ++ ([u8.wrap (i64.wrap (48 + y14))] : List Int)).length ∧ ∀ i, i < (x8 ++ ([u8.wrap (i64.wrap (48 + y14))] : List Int)).length → ∀ j, j < 1 → TLe ((appRow x8.length (Ru8 x8) (fun i j => Ru8 ([u8.wrap (i64.wrap (48 + y14))] : List Int) (0 + i) j)) i j) (Ru8 (x8 ++ ([u8.wrap (i64.wrap (48 + y14))] : List Int)) i j)), True, True, True] (by kernel_rfl) (by kernel_rfl) ⟨tv, tv, tv, tv, ⟨rfl, lit_row (n := 1) (sz := 1) ⟨tv, ⟨tv, TLe.refl _⟩⟩⟩, ⟨rfl, le0, ⟨g17, (by decide)⟩, rowT (app_row rfl rfl row_rfl (fun i _ j _ => congrArg (fun k => Ru8 ([u8.wrap (i64.wrap (48 + y14))] : List Int) k j) (Nat.zero_add i)))⟩, tv, tv, tv, tv⟩ ?_
     refine AW.inBlock_normal ?_
     obtain rfl := some_inj h
     refine loopQ_next (conv_ren [(0, 22)] [0, 4, 5] (n := 1) (by kernel_rfl) (by kernel_rfl))
    ·rw [if_neg (nb c10)] at h
     refine AW.exit ?_
     refine AW.thenQ_exit ?_
     obtain rfl := some_inj h
     refine loopQ_out rfl (conv_ren [(0, 0)] [4] (n := 1) (by kernel_rfl) (by kernel_rfl))
   ·
    show (_ : Exit → St → Prop) (.exit 1) ⟨[(4, .c (.ref 0 1 0 x18.length))], [(0, .row 5 false 1 x18.length (Ru8 x18))], 1⟩
    refine AW.inBlock_hit ?_
    refine AW.tn ?_
    refine AW.seq ?_
    obtain ⟨y19, e20, h⟩ := bnd_some h
    refine AW.reg tt_ok0 [4] [0] [{}, { call := some { ids := [0], frz := [], flat := true, cnt := 0, args := [.c (.ref 0 1 0 x18.length)], out := .tup [], outb := [(0, .row 5 false 1 y19.length (Ru8 y19))] } }] ⟨[(4, .c (.ref 0 1 0 x18.length))], [(0, .row 5 false 1 y19.length (Ru8 y19))], 2⟩ [True, ((True) ∧ (True)) ∧ (All2 ArgLe [.c (.ref 0 1 0 x18.length)] [.c (.ref 0 1 0 x18.length)]) ∧ ((true = true → flatB [(0, .row 5 false 1 y19.length (Ru8 y19))])) ∧ (Con Try.prog 44 [.c (.ref 0 1 0 x18.length)] [(0, .row 5 false 1 x18.length (Ru8 x18))] (.tup []) [(0, .row 5 false 1 y19.length (Ru8 y19))])] (by kernel_rfl) (by kernel_rfl) ⟨tv, ⟨⟨tv, tv⟩, ⟨ArgLe.refl _, tv⟩, (fun _ => ⟨rowL_flat Vu8 _ _ _, tv⟩), (slices_Reverse_byte_con x18 0 x18.length y19 e20)⟩, tv⟩ ?_
    refine AW.tn ?_
    refine AW.seq ?_
    obtain ⟨g21, h⟩ := ifc h
    refine AW.reg tt_ok0 [2, 3] [] [{}, { h := { ints := some (fun i => y19.getD (0 + i) 0) } }] ⟨[(3, vi64 0), (2, vs (strP 0 x18.length y19))], [], 6⟩ [True, (0 + x18.length ≤ y19.length) ∧ (∀ i, i < x18.length → (fun i j => Ru8 y19 (0 + i) j) i 0 = .v (.int .u8 (y19.getD (0 + i) 0))), True, True] (by kernel_rfl) (by kernel_rfl) ⟨tv, ⟨g21, (fun i _ => rfl)⟩, tv, tv, tv⟩ ?_
    refine AW.tn ?_
    refine AW.ret ?_
    obtain rfl := some_inj h
    exact ⟨_, Conv.refl _ _, .inr rfl, OutOk.mk [] 0 (out0 := .tup [vs (strP 0 x18.length y19), vi64 0]) (ps := [True, True]) (by kernel_rfl) ⟨tv, tv, tv⟩ (by kernel_rfl) (by kernel_rfl)⟩
/-! recordlink/recordlinklaw10.awake -/
noncomputable def rl_law10_awake_k2 (x7 : Bool) : Option Bool := some x7
noncomputable def rl_law10_awake : Option Bool := bind2 (natural_Mul ([4294967295] : List Int) ([4294967295] : List Int)) fun y1 y2 => (bind2 (natural_Text ([0, 0, 1] : List Int)) fun y4 y5 => (if (y2 == 0) = true then (if (y5 == 0) = true then (if (((y1.length : Nat) : Int) == 2) = true then (if (0 : Int) < ((y1.length : Nat) : Int) then (if ((y1.getD 0 0) == 1) = true then (if (1 : Int) < ((y1.length : Nat) : Int) then (if ((y1.getD 1 0) == 4294967294) = true then (if (y4.toList == (ByteArray.mk #[49, 56, 52, 52, 54, 55, 52, 52, 48, 55, 51, 55, 48, 57, 53, 53, 49, 54, 49, 54]).toList) = true then ((natural_Valid y1).bind fun y16 => (rl_law10_awake_k2 y16)) else (rl_law10_awake_k2 false)) else (rl_law10_awake_k2 false)) else none) else (rl_law10_awake_k2 false)) else none) else (rl_law10_awake_k2 false)) else (rl_law10_awake_k2 false)) else (rl_law10_awake_k2 false)))
set_option maxRecDepth 100000 in
set_option maxHeartbeats 10000000 in
theorem rl_law10_awake_con (r0 : Bool) (h : rl_law10_awake = some r0) : Con Try.prog 10 [] [] (vb r0) [] := by
 revert h; generalize r0 = r; intro h
 refine con_of tt_ok0 0 Try.func10 (by kernel_rfl) rfl (by kernel_rfl) (fun base X hk => AW.post ?_)
 unfold rl_law10_awake at h
 refine AW.seq ?_
 refine AW.reg tt_ok0 [] [] [] ⟨[], [], 1⟩ [True] (by kernel_rfl) (by kernel_rfl) ⟨tv, tv⟩ ?_
 refine AW.tn ?_
 refine AW.seq ?_
 refine AW.reg tt_ok0 [1] [1] [{ h := { row := some (([4294967295] : List Int).length, Ru32 ([4294967295] : List Int)) } }] ⟨[(1, .c (.ref 1 1 0 (([4294967295] : List Int).length)))], [(1, .row 37 false 1 ([4294967295] : List Int).length (Ru32 ([4294967295] : List Int)))], 3⟩ [1 = ([4294967295] : List Int).length ∧ ∀ i, i < ([4294967295] : List Int).length → ∀ j, j < 1 → TLe ((rowOf [.v (.int .u32 4294967295)] 1) i j) (Ru32 ([4294967295] : List Int) i j), True] (by kernel_rfl) (by kernel_rfl) ⟨⟨rfl, lit_row (n := 1) (sz := 1) ⟨tv, ⟨tv, TLe.refl _⟩⟩⟩, tv, tv⟩ ?_
 refine AW.tn ?_
 refine AW.seq ?_
 obtain ⟨y1, y2, e3, h⟩ := bind2_some h
 refine AW.reg tt_ok0 [2, 3] [] [{}, {}, { call := some { ids := [], frz := [1], flat := false, cnt := 0, args := [vl 1 Ru32 ([4294967295] : List Int), vl 1 Ru32 ([4294967295] : List Int)], out := .tup [vl 1 Ru32 y1, vi64 y2], outb := [] } }] ⟨[(3, vi64 y2), (2, vl 1 Ru32 y1)], [], 10⟩ [True, True, ((0 + ([4294967295] : List Int).length ≤ ([4294967295] : List Int).length) ∧ (0 + ([4294967295] : List Int).length ≤ ([4294967295] : List Int).length) ∧ (True)) ∧ (All2 ArgLe [vl 1 Ru32 ([4294967295] : List Int), vl 1 Ru32 ([4294967295] : List Int)] [vl 1 Ru32 ([4294967295] : List Int), vl 1 Ru32 ([4294967295] : List Int)]) ∧ ((false = true → flatB [])) ∧ (Con Try.prog 15 [vl 1 Ru32 ([4294967295] : List Int), vl 1 Ru32 ([4294967295] : List Int)] [] (.tup [vl 1 Ru32 y1, vi64 y2]) []), True, True, True, True, True] (by kernel_rfl) (by kernel_rfl) ⟨tv, tv, ⟨⟨le0, le0, tv⟩, ⟨ArgLe.refl _, ArgLe.refl _, tv⟩, (fun h => by cases h), (natural_Mul_con ([4294967295] : List Int) ([4294967295] : List Int) y1 y2 e3)⟩, tv, tv, tv, tv, tv, tv⟩ ?_
 refine AW.tn ?_
 refine AW.seq ?_
 obtain ⟨y4, y5, e6, h⟩ := bind2_some h
 refine AW.reg tt_ok0 [2, 3, 4, 5] [] [{ h := { row := some (([0, 0, 1] : List Int).length, Ru32 ([0, 0, 1] : List Int)) } }, { call := some { ids := [], frz := [], flat := true, cnt := 0, args := [vl 1 Ru32 ([0, 0, 1] : List Int)], out := .tup [vs y4, vi64 y5], outb := [] } }] ⟨[(5, vi64 y5), (4, vs y4), (3, vi64 y2), (2, vl 1 Ru32 y1)], [], 16⟩ [3 = ([0, 0, 1] : List Int).length ∧ ∀ i, i < ([0, 0, 1] : List Int).length → ∀ j, j < 1 → TLe ((rowOf [.v (.int .u32 0), .v (.int .u32 0), .v (.int .u32 1)] 1) i j) (Ru32 ([0, 0, 1] : List Int) i j), ((0 + ([0, 0, 1] : List Int).length ≤ ([0, 0, 1] : List Int).length) ∧ (True)) ∧ (All2 ArgLe [vl 1 Ru32 ([0, 0, 1] : List Int)] [vl 1 Ru32 ([0, 0, 1] : List Int)]) ∧ ((true = true → flatB [])) ∧ (Con Try.prog 23 [vl 1 Ru32 ([0, 0, 1] : List Int)] [] (.tup [vs y4, vi64 y5]) []), True, True, True, True, True] (by kernel_rfl) (by kernel_rfl) ⟨⟨rfl, lit_row (n := 3) (sz := 1) ⟨⟨⟨tv, ⟨tv, TLe.refl _⟩⟩, ⟨tv, TLe.refl _⟩⟩, ⟨tv, TLe.refl _⟩⟩⟩, ⟨⟨le0, tv⟩, ⟨ArgLe.refl _, tv⟩, (fun _ => tv), (natural_Text_con ([0, 0, 1] : List Int) y4 y5 e6)⟩, tv, tv, tv, tv, tv, tv⟩ ?_
 refine AW.tn ?_
 refine AW.seq ?_
 refine AW.join (ι := Bool) (fun v => ⟨[(0, vb v)], [], 0⟩) (fun v : Bool => rl_law10_awake_k2 v = some r) (fun v h => ?_) ?_
 ·
  obtain ⟨x7, rfl⟩ : ∃ x, x = v := ⟨_, rfl⟩
  replace h : rl_law10_awake_k2 x7 = some r := h
  unfold rl_law10_awake_k2 at h
  show (_ : Exit → St → Prop) .normal ⟨[(0, vb x7)], [], 0⟩
  refine AW.tn ?_
  refine AW.ret ?_
  obtain rfl := some_inj h
  exact ⟨_, Conv.refl _ _, .inr rfl, OutOk.mk [] 0 (out0 := vb x7) (ps := [True]) (by kernel_rfl) ⟨tv, tv⟩ (by kernel_rfl) (by kernel_rfl)⟩
 ·
  by_cases c8 : (y2 == 0) = true
  ·rw [if_pos c8] at h
   by_cases c9 : (y5 == 0) = true
   ·rw [if_pos c9] at h
    by_cases c10 : (((y1.length : Nat) : Int) == 2) = true
    ·rw [if_pos c10] at h
     obtain ⟨g11, h⟩ := ifc h
     by_cases c12 : ((y1.getD 0 0) == 1) = true
     ·rw [if_pos c12] at h
      obtain ⟨g13, h⟩ := ifc h
      by_cases c14 : ((y1.getD 1 0) == 4294967294) = true
      ·rw [if_pos c14] at h
       by_cases c15 : (y4.toList == (ByteArray.mk #[49, 56, 52, 52, 54, 55, 52, 52, 48, 55, 51, 55, 48, 57, 53, 53, 49, 54, 49, 54]).toList) = true
       ·rw [if_pos c15] at h
        obtain ⟨y16, e17, h⟩ := bnd_some h
        refine AW.reg tt_ok0 [0] [] [{}, { h := { b := some true } }, {}, {}, { h := { b := some true } }, {}, {}, {}, {}, { h := { b := some true } }, {}, {}, {}, {}, {}, { h := { b := some true } }, {}, {}, {}, {}, {}, { h := { b := some true } }, {}, {}, {}, { h := { b := some true } }, {}, {}, {}, { call := some { ids := [], frz := [], flat := true, cnt := 0, args := [vl 1 Ru32 y1], out := vb y16, outb := [] } }] ⟨[(0, vb y16)], [], 47⟩ [True, (y2 == 0) = true, True, True, (y5 == 0) = true, True, True, True, True, (((y1.length : Nat) : Int) == 2) = true, True, True, True, (0 ≤ (0 : Int)) ∧ ((0 : Int) < ((y1.length : Nat) : Int)), True, ((y1.getD 0 0) == 1) = true, True, True, True, (0 ≤ (1 : Int)) ∧ ((1 : Int) < ((y1.length : Nat) : Int)), True, ((y1.getD 1 0) == 4294967294) = true, True, True, True, (y4.toList == (ByteArray.mk #[49, 56, 52, 52, 54, 55, 52, 52, 48, 55, 51, 55, 48, 57, 53, 53, 49, 54, 49, 54]).toList) = true, True, True, True, ((True) ∧ (True)) ∧ (All2 ArgLe [vl 1 Ru32 y1] [vl 1 Ru32 y1]) ∧ ((true = true → flatB [])) ∧ (Con Try.prog 17 [vl 1 Ru32 y1] [] (vb y16) []), True, True] (by kernel_rfl) (by kernel_rfl) ⟨tv, c8, tv, tv, c9, tv, tv, tv, tv, c10, tv, tv, tv, ⟨(by decide), g11⟩, tv, c12, tv, tv, tv, ⟨(by decide), g13⟩, tv, c14, tv, tv, tv, c15, tv, tv, tv, ⟨⟨tv, tv⟩, ⟨ArgLe.refl _, tv⟩, (fun _ => tv), (natural_Valid_con y1 y16 e17)⟩, tv, tv, tv⟩ ?_
        exact joinQ_leaf (y16) h (conv_ren [] [0] (n := 0) (by kernel_rfl) (by kernel_rfl))
       ·rw [if_neg c15] at h
        refine AW.reg tt_ok0 [0] [] [{}, { h := { b := some true } }, {}, {}, { h := { b := some true } }, {}, {}, {}, {}, { h := { b := some true } }, {}, {}, {}, {}, {}, { h := { b := some true } }, {}, {}, {}, {}, {}, { h := { b := some true } }, {}, {}, {}, { h := { b := some false } }] ⟨[(0, vb false)], [], 48⟩ [True, (y2 == 0) = true, True, True, (y5 == 0) = true, True, True, True, True, (((y1.length : Nat) : Int) == 2) = true, True, True, True, (0 ≤ (0 : Int)) ∧ ((0 : Int) < ((y1.length : Nat) : Int)), True, ((y1.getD 0 0) == 1) = true, True, True, True, (0 ≤ (1 : Int)) ∧ ((1 : Int) < ((y1.length : Nat) : Int)), True, ((y1.getD 1 0) == 4294967294) = true, True, True, True, (y4.toList == (ByteArray.mk #[49, 56, 52, 52, 54, 55, 52, 52, 48, 55, 51, 55, 48, 57, 53, 53, 49, 54, 49, 54]).toList) = false, True, True, True, True, True, True] (by kernel_rfl) (by kernel_rfl) ⟨tv, c8, tv, tv, c9, tv, tv, tv, tv, c10, tv, tv, tv, ⟨(by decide), g11⟩, tv, c12, tv, tv, tv, ⟨(by decide), g13⟩, tv, c14, tv, tv, tv, (off_false c15), tv, tv, tv, tv, tv, tv, tv⟩ ?_
        exact joinQ_leaf (false) h (conv_ren [] [0] (n := 0) (by kernel_rfl) (by kernel_rfl))
      ·rw [if_neg c14] at h
       refine AW.reg tt_ok0 [0] [] [{}, { h := { b := some true } }, {}, {}, { h := { b := some true } }, {}, {}, {}, {}, { h := { b := some true } }, {}, {}, {}, {}, {}, { h := { b := some true } }, {}, {}, {}, {}, {}, { h := { b := some false } }] ⟨[(0, vb false)], [], 48⟩ [True, (y2 == 0) = true, True, True, (y5 == 0) = true, True, True, True, True, (((y1.length : Nat) : Int) == 2) = true, True, True, True, (0 ≤ (0 : Int)) ∧ ((0 : Int) < ((y1.length : Nat) : Int)), True, ((y1.getD 0 0) == 1) = true, True, True, True, (0 ≤ (1 : Int)) ∧ ((1 : Int) < ((y1.length : Nat) : Int)), True, ((y1.getD 1 0) == 4294967294) = false, True, True, True, True, True, True, True, True, True, True] (by kernel_rfl) (by kernel_rfl) ⟨tv, c8, tv, tv, c9, tv, tv, tv, tv, c10, tv, tv, tv, ⟨(by decide), g11⟩, tv, c12, tv, tv, tv, ⟨(by decide), g13⟩, tv, (off_false c14), tv, tv, tv, tv, tv, tv, tv, tv, tv, tv, tv⟩ ?_
       exact joinQ_leaf (false) h (conv_ren [] [0] (n := 0) (by kernel_rfl) (by kernel_rfl))
     ·rw [if_neg c12] at h
      refine AW.reg tt_ok0 [0] [] [{}, { h := { b := some true } }, {}, {}, { h := { b := some true } }, {}, {}, {}, {}, { h := { b := some true } }, {}, {}, {}, {}, {}, { h := { b := some false } }] ⟨[(0, vb false)], [], 48⟩ [True, (y2 == 0) = true, True, True, (y5 == 0) = true, True, True, True, True, (((y1.length : Nat) : Int) == 2) = true, True, True, True, (0 ≤ (0 : Int)) ∧ ((0 : Int) < ((y1.length : Nat) : Int)), True, ((y1.getD 0 0) == 1) = false, True, True, True, True, True, True, True, True, True, True, True, True, True, True, True, True] (by kernel_rfl) (by kernel_rfl) ⟨tv, c8, tv, tv, c9, tv, tv, tv, tv, c10, tv, tv, tv, ⟨(by decide), g11⟩, tv, (off_false c12), tv, tv, tv, tv, tv, tv, tv, tv, tv, tv, tv, tv, tv, tv, tv, tv, tv⟩ ?_
      exact joinQ_leaf (false) h (conv_ren [] [0] (n := 0) (by kernel_rfl) (by kernel_rfl))
    ·rw [if_neg c10] at h
     refine AW.reg tt_ok0 [0] [] [{}, { h := { b := some true } }, {}, {}, { h := { b := some true } }, {}, {}, {}, {}, { h := { b := some false } }] ⟨[(0, vb false)], [], 48⟩ [True, (y2 == 0) = true, True, True, (y5 == 0) = true, True, True, True, True, (((y1.length : Nat) : Int) == 2) = false, True, True, True, True, True, True, True, True, True, True, True, True, True, True, True, True, True, True, True, True, True, True] (by kernel_rfl) (by kernel_rfl) ⟨tv, c8, tv, tv, c9, tv, tv, tv, tv, (off_false c10), tv, tv, tv, tv, tv, tv, tv, tv, tv, tv, tv, tv, tv, tv, tv, tv, tv, tv, tv, tv, tv, tv, tv⟩ ?_
     exact joinQ_leaf (false) h (conv_ren [] [0] (n := 0) (by kernel_rfl) (by kernel_rfl))
   ·rw [if_neg c9] at h
    refine AW.reg tt_ok0 [0] [] [{}, { h := { b := some true } }, {}, {}, { h := { b := some false } }] ⟨[(0, vb false)], [], 48⟩ [True, (y2 == 0) = true, True, True, (y5 == 0) = false, True, True, True, True, True, True, True, True, True, True, True, True, True, True, True, True, True, True, True, True, True, True, True, True, True, True, True] (by kernel_rfl) (by kernel_rfl) ⟨tv, c8, tv, tv, (off_false c9), tv, tv, tv, tv, tv, tv, tv, tv, tv, tv, tv, tv, tv, tv, tv, tv, tv, tv, tv, tv, tv, tv, tv, tv, tv, tv, tv, tv⟩ ?_
    exact joinQ_leaf (false) h (conv_ren [] [0] (n := 0) (by kernel_rfl) (by kernel_rfl))
  ·rw [if_neg c8] at h
   refine AW.reg tt_ok0 [0] [] [{}, { h := { b := some false } }] ⟨[(0, vb false)], [], 48⟩ [True, (y2 == 0) = false, True, True, True, True, True, True, True, True, True, True, True, True, True, True, True, True, True, True, True, True, True, True, True, True, True, True, True, True, True, True] (by kernel_rfl) (by kernel_rfl) ⟨tv, (off_false c8), tv, tv, tv, tv, tv, tv, tv, tv, tv, tv, tv, tv, tv, tv, tv, tv, tv, tv, tv, tv, tv, tv, tv, tv, tv, tv, tv, tv, tv, tv, tv⟩ ?_
   exact joinQ_leaf (false) h (conv_ren [] [0] (n := 0) (by kernel_rfl) (by kernel_rfl))
/-! recordlink/recordlinkmake.Few -/
noncomputable def rl_make_Few (p0 : List Int) : Option Bool := some (decide (((p0.length : Nat) : Int) ≤ 400))
set_option maxRecDepth 100000 in
set_option maxHeartbeats 10000000 in
theorem rl_make_Few_con (p0 : List Int) (r0 : Bool) (h : rl_make_Few p0 = some r0) : Con Try.prog 11 [vl 1 Ri64 p0] [] (vb r0) [] := by
 revert h; generalize r0 = r; intro h
 refine con_of tt_ok0 0 Try.func11 (by kernel_rfl) rfl (by kernel_rfl) (fun base X hk => AW.post ?_)
 unfold rl_make_Few at h
 refine AW.seq ?_
 refine AW.reg tt_ok0 [0] [] [] ⟨[(0, vl 1 Ri64 p0)], [], 1⟩ [True] (by kernel_rfl) (by kernel_rfl) ⟨tv, tv⟩ ?_
 refine AW.tn ?_
 refine AW.seq ?_
 refine AW.reg tt_ok0 [2] [] [] ⟨[(2, vb (decide (((p0.length : Nat) : Int) ≤ 400)))], [], 5⟩ [True, True, True, True] (by kernel_rfl) (by kernel_rfl) ⟨tv, tv, tv, tv, tv⟩ ?_
 refine AW.tn ?_
 refine AW.ret ?_
 obtain rfl := some_inj h
 exact ⟨_, Conv.refl _ _, .inr rfl, OutOk.mk [] 0 (out0 := vb (decide (((p0.length : Nat) : Int) ≤ 400))) (ps := [True]) (by kernel_rfl) ⟨tv, tv⟩ (by kernel_rfl) (by kernel_rfl)⟩
structure S_recordlinkmake_Deck where
 list : List Int
 at_ : Int
 state : Int
def dS_recordlinkmake_Deck : S_recordlinkmake_Deck := ⟨([] : List Int), 0, 0⟩
instance : Inhabited S_recordlinkmake_Deck := ⟨dS_recordlinkmake_Deck⟩
/-! recordlink/recordlinkmake.New -/
noncomputable def rl_make_New (p0 : List Int) : Option S_recordlinkmake_Deck := some (⟨p0, 0, 11400714819323198485⟩ : S_recordlinkmake_Deck)
set_option maxRecDepth 100000 in
set_option maxHeartbeats 10000000 in
theorem rl_make_New_con (p0 : List Int) (r0 : S_recordlinkmake_Deck) (h : rl_make_New p0 = some r0) : Con Try.prog 12 [vl 1 Ri64 p0] [] (.c (.ptr 0 3 0 0)) [(0, .box 52 [cl 1 Ri64 r0.list, ci64 r0.at_, cu64 r0.state])] := by
 revert h; generalize r0 = r; intro h
 refine con_of tt_ok0 0 Try.func12 (by kernel_rfl) rfl (by kernel_rfl) (fun base X hk => AW.post ?_)
 unfold rl_make_New at h
 refine AW.seq ?_
 refine AW.reg tt_ok0 [0] [] [] ⟨[(0, vl 1 Ri64 p0)], [], 1⟩ [True] (by kernel_rfl) (by kernel_rfl) ⟨tv, tv⟩ ?_
 refine AW.tn ?_
 refine AW.seq ?_
 refine AW.reg tt_ok0 [2] [3] [] ⟨[(2, .c (.ptr 3 3 0 0))], [(3, .box 52 [cl 1 Ri64 p0, ci64 0, cu64 11400714819323198485])], 5⟩ [True, True, True, True] (by kernel_rfl) (by kernel_rfl) ⟨tv, tv, tv, tv, tv⟩ ?_
 refine AW.tn ?_
 refine AW.ret ?_
 obtain rfl := some_inj h
 exact ⟨_, Conv.refl _ _, .inr rfl, OutOk.mk [(0, 3)] 1 (out0 := .c (.ptr 3 3 0 0)) (ps := [True]) (by kernel_rfl) ⟨tv, tv⟩ (by kernel_rfl) (by kernel_rfl)⟩
/-! (*recordlink/recordlinkmake.Deck).Word -/
noncomputable def rl_make_Deck_Word_k1 (p0 : S_recordlinkmake_Deck) (x1 : Int) (x2 : Int) : Option (Int × S_recordlinkmake_Deck) := (some (u64.wrap ((u64.wrap ((u64.wrap (p0.state + x1)) * 6364136223846793005)) + 1442695040888963407))).bind fun z3 => ((some (u64.wrap ((ixor .u64 z3 (ishr .u64 z3 33)) * 18397679294719823053))).bind fun z5 => (some (ixor .u64 z5 (ishr .u64 z5 29), (⟨p0.list, x2, z3⟩ : S_recordlinkmake_Deck))))
noncomputable def rl_make_Deck_Word (p0 : S_recordlinkmake_Deck) : Option (Int × S_recordlinkmake_Deck) := if (decide (p0.at_ < ((p0.list.length : Nat) : Int))) = true then (if 0 ≤ p0.at_ then (if p0.at_ < ((p0.list.length : Nat) : Int) then (rl_make_Deck_Word_k1 p0 (u64.wrap (p0.list.getD p0.at_.toNat 0)) (i64.wrap (p0.at_ + 1))) else none) else none) else (rl_make_Deck_Word_k1 p0 0 p0.at_)
set_option maxRecDepth 100000 in
set_option maxHeartbeats 10000000 in
theorem rl_make_Deck_Word_con (p0 : S_recordlinkmake_Deck) (r0 : Int) (r1 : S_recordlinkmake_Deck) (h : rl_make_Deck_Word p0 = some (r0, r1)) : Con Try.prog 34 [.c (.ptr 0 3 0 0)] [(0, .box 52 [cl 1 Ri64 p0.list, ci64 p0.at_, cu64 p0.state])] (vu64 r0) [(0, .box 52 [cl 1 Ri64 r1.list, ci64 r1.at_, cu64 r1.state])] := by
 suffices H : ∀ r, rl_make_Deck_Word p0 = some r → Con Try.prog 34 [.c (.ptr 0 3 0 0)] [(0, .box 52 [cl 1 Ri64 p0.list, ci64 p0.at_, cu64 p0.state])] (vu64 r.1) [(0, .box 52 [cl 1 Ri64 r.2.list, ci64 r.2.at_, cu64 r.2.state])] from H (r0, r1) h
 clear h
 intro r h
 refine con_of tt_ok0 1 Try.func34 (by kernel_rfl) rfl (by kernel_rfl) (fun base X hk => AW.post ?_)
 unfold rl_make_Deck_Word at h
 refine AW.seq ?_
 refine AW.reg tt_ok0 [0] [0] [] ⟨[(0, .c (.ptr 0 3 0 0))], [(0, .box 52 [cl 1 Ri64 p0.list, ci64 p0.at_, cu64 p0.state])], 2⟩ [True] (by kernel_rfl) (by kernel_rfl) ⟨tv, tv⟩ ?_
 refine AW.tn ?_
 refine AW.seq ?_
 refine AW.reg tt_ok0 [0, 3] [0] [] ⟨[(3, vu64 0), (0, .c (.ptr 0 3 0 0))], [(0, .box 52 [cl 1 Ri64 p0.list, ci64 p0.at_, cu64 p0.state])], 3⟩ [True] (by kernel_rfl) (by kernel_rfl) ⟨tv, tv⟩ ?_
 refine AW.tn ?_
 refine AW.seq ?_
 refine AW.join (ι := Int × Int) (fun v => ⟨[(0, .c (.ptr 0 3 0 0)), (3, vu64 v.1)], [(0, .box 52 [cl 1 Ri64 p0.list, ci64 v.2, cu64 p0.state])], 1⟩) (fun v : Int × Int => rl_make_Deck_Word_k1 p0 v.1 v.2 = some r) (fun v h => ?_) ?_
 ·
  obtain ⟨x1, x2⟩ := v
  replace h : rl_make_Deck_Word_k1 p0 x1 x2 = some r := h
  unfold rl_make_Deck_Word_k1 at h
  show (_ : Exit → St → Prop) .normal ⟨[(0, .c (.ptr 0 3 0 0)), (3, vu64 x1)], [(0, .box 52 [cl 1 Ri64 p0.list, ci64 x2, cu64 p0.state])], 1⟩
  refine AW.tn ?_
  refine AW.seq ?_
  obtain ⟨z3, n4, h⟩ := bnd_some h
  replace n4 := some_inj n4
  refine AW.reg tt_ok0 [0] [0] [] ⟨[(0, .c (.ptr 0 3 0 0))], [(0, .box 52 [cl 1 Ri64 p0.list, ci64 x2, cu64 (u64.wrap ((u64.wrap ((u64.wrap (p0.state + x1)) * 6364136223846793005)) + 1442695040888963407))])], 13⟩ [True, True, True, True, True, True, True, True, True, True, True, True] (by kernel_rfl) (by kernel_rfl) ⟨tv, tv, tv, tv, tv, tv, tv, tv, tv, tv, tv, tv, tv⟩ ?_
  refine eq_Q (S' := ⟨[(0, .c (.ptr 0 3 0 0))], [(0, .box 52 [cl 1 Ri64 p0.list, ci64 x2, cu64 z3])], 13⟩) (by rw [n4]) ?_
  refine AW.tn ?_
  refine AW.seq ?_
  refine AW.regD tt_ok0 mo0 [0, 1, 3, 7, 0, 16, 48, 112, 240, 511, 1023] [[], [], [], [], [], [], [], [], [], [], []] [4] [0] [] ⟨[(4, vu64 (ixor .u64 z3 (ishr .u64 z3 33)))], [(0, .box 52 [cl 1 Ri64 p0.list, ci64 x2, cu64 z3])], 24⟩ [True, True, True, True, True, True, True, True, 0 ≤ (33 : Int), True, True] (by kernel_rfl) (by kernel_rfl) ⟨tv, tv, tv, tv, tv, tv, tv, tv, (by decide), tv, tv, tv⟩ ?_
  refine AW.tn ?_
  refine AW.seq ?_
  obtain ⟨z5, n6, h⟩ := bnd_some h
  replace n6 := some_inj n6
  refine AW.reg tt_ok0 [4] [0] [] ⟨[(4, vu64 (u64.wrap ((ixor .u64 z3 (ishr .u64 z3 33)) * 18397679294719823053)))], [(0, .box 52 [cl 1 Ri64 p0.list, ci64 x2, cu64 z3])], 27⟩ [True, True, True] (by kernel_rfl) (by kernel_rfl) ⟨tv, tv, tv, tv⟩ ?_
  refine eq_Q (S' := ⟨[(4, vu64 z5)], [(0, .box 52 [cl 1 Ri64 p0.list, ci64 x2, cu64 z3])], 27⟩) (by rw [n6]) ?_
  refine AW.tn ?_
  refine AW.seq ?_
  refine AW.reg tt_ok0 [2] [0] [] ⟨[(2, vu64 (ixor .u64 z5 (ishr .u64 z5 29)))], [(0, .box 52 [cl 1 Ri64 p0.list, ci64 x2, cu64 z3])], 32⟩ [True, True, 0 ≤ (29 : Int), True, True] (by kernel_rfl) (by kernel_rfl) ⟨tv, tv, (by decide), tv, tv, tv⟩ ?_
  refine AW.tn ?_
  refine AW.ret ?_
  obtain rfl := some_inj h
  exact ⟨_, Conv.refl _ _, .inr rfl, OutOk.mk [(0, 0)] 1 (out0 := vu64 (ixor .u64 z5 (ishr .u64 z5 29))) (ps := [True]) (by kernel_rfl) ⟨tv, tv⟩ (by kernel_rfl) (by kernel_rfl)⟩
 ·
  refine AW.seq ?_
  refine AW.regD tt_ok0 mo0 [0, 1, 3, 7, 0, 16, 48, 112, 240, 511] [[], [], [], [], [], [], [], [], [], []] [0, 3, 14] [0] [] ⟨[(14, vb (decide (p0.at_ < ((p0.list.length : Nat) : Int)))), (3, vu64 0), (0, .c (.ptr 0 3 0 0))], [(0, .box 52 [cl 1 Ri64 p0.list, ci64 p0.at_, cu64 p0.state])], 13⟩ [True, True, True, True, True, True, True, True, True, True] (by kernel_rfl) (by kernel_rfl) ⟨tv, tv, tv, tv, tv, tv, tv, tv, tv, tv, tv⟩ ?_
  refine AW.tn ?_
  refine AW.cond (b := decide (p0.at_ < ((p0.list.length : Nat) : Int))) (by kernel_rfl) (fun c7 => ?_) (fun c7 => ?_)
  ·rw [if_pos c7] at h
   refine AW.seq ?_
   obtain ⟨g8, h⟩ := ifc h
   obtain ⟨g9, h⟩ := ifc h
   refine AW.regD tt_ok0 mo0 [0, 1, 3, 7, 0, 16, 48, 112, 255, 511, 1023, 2047] [[], [], [], [], [], [], [], [], [], [], [], []] [0, 3] [0] [] ⟨[(3, vu64 (u64.wrap (p0.list.getD p0.at_.toNat 0))), (0, .c (.ptr 0 3 0 0))], [(0, .box 52 [cl 1 Ri64 p0.list, ci64 p0.at_, cu64 p0.state])], 25⟩ [True, True, True, True, True, True, True, True, (0 ≤ p0.at_) ∧ (p0.at_ < ((p0.list.length : Nat) : Int)), True, True, True] (by kernel_rfl) (by kernel_rfl) ⟨tv, tv, tv, tv, tv, tv, tv, tv, ⟨g8, g9⟩, tv, tv, tv, tv⟩ ?_
   refine AW.tn ?_
   refine AW.reg tt_ok0 [0, 3] [0] [] ⟨[(3, vu64 (u64.wrap (p0.list.getD p0.at_.toNat 0))), (0, .c (.ptr 0 3 0 0))], [(0, .box 52 [cl 1 Ri64 p0.list, ci64 (i64.wrap (p0.at_ + 1)), cu64 p0.state])], 33⟩ [True, True, True, True, True, True, True, True] (by kernel_rfl) (by kernel_rfl) ⟨tv, tv, tv, tv, tv, tv, tv, tv, tv⟩ ?_
   exact joinQ_leaf ((u64.wrap (p0.list.getD p0.at_.toNat 0), i64.wrap (p0.at_ + 1))) h (conv_ren [(0, 0)] [0, 3] (n := 1) (by kernel_rfl) (by kernel_rfl))
  ·rw [if_neg (nb c7)] at h
   refine AW.skip ?_
   exact joinQ_leaf ((0, p0.at_)) h (conv_ren [(0, 0)] [0, 3] (n := 1) (by kernel_rfl) (by kernel_rfl))
end Go.Proofs.Yteaijglfenedoaa
