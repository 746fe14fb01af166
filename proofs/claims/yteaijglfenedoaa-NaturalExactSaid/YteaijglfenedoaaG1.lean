/- Printed by a program of mine (vmgen.py): Go functions, and what they come to. -/
import Derived.Test.YteaijglfenedoaaVp
import Derived.Test.YteaijglfenedoaaRows
import Derived.Test.YteaijglfenedoaaG0
namespace Go.Proofs.Yteaijglfenedoaa
open Vm
open IntKind (i64 u64 u32 u8)
set_option maxHeartbeats 10000000
set_option linter.unusedVariables false
set_option linter.unusedSimpArgs false
set_option linter.constructorNameAsVariable false
def ttl1 : List (Nat × TI) := [(3, ⟨.int .i64, 1, 8, [.int .i64 0]⟩), (4, ⟨.bool, 1, 1, [.bool false]⟩), (5, ⟨.int .u8, 1, 1, [.int .u8 0]⟩), (9, ⟨.str, 1, 16, [.string ⟨#[]⟩]⟩), (22, ⟨.slice 3, 1, 24, [.slice none 0 0]⟩), (25, ⟨.ptr 52, 1, 8, [.pointer none]⟩), (27, ⟨.slice 37, 1, 24, [.slice none 0 0]⟩), (28, ⟨.slice 37, 1, 24, [.slice none 0 0]⟩), (30, ⟨.int .i64, 1, 8, [.int .i64 0]⟩), (37, ⟨.int .u32, 1, 4, [.int .u32 0]⟩), (41, ⟨.int .u64, 1, 8, [.int .u64 0]⟩), (48, ⟨.slice 28, 1, 24, [.slice none 0 0]⟩), (52, ⟨.struct [(22, 0), (3, 1), (41, 2)], 3, 40, [.slice none 0 0, .int .i64 0, .int .u64 0]⟩), (64, ⟨.slice 5, 1, 24, [.slice none 0 0]⟩)]
theorem tt_ok1 : TTok Try.prog (Vm.look ttl1) := ttok_of ⟨⟨by kernel_rfl, by kernel_rfl⟩, ⟨by kernel_rfl, by kernel_rfl⟩, ⟨by kernel_rfl, by kernel_rfl⟩, ⟨by kernel_rfl, by kernel_rfl⟩, ⟨by kernel_rfl, by kernel_rfl⟩, ⟨by kernel_rfl, by kernel_rfl⟩, ⟨by kernel_rfl, by kernel_rfl⟩, ⟨by kernel_rfl, by kernel_rfl⟩, ⟨by kernel_rfl, by kernel_rfl⟩, ⟨by kernel_rfl, by kernel_rfl⟩, ⟨by kernel_rfl, by kernel_rfl⟩, ⟨by kernel_rfl, by kernel_rfl⟩, ⟨by kernel_rfl, by kernel_rfl⟩, ⟨by kernel_rfl, by kernel_rfl⟩, trivial⟩
theorem mo1 : Try.prog.follows .mixedOrders = true := by kernel_rfl
/-! (*recordlink/recordlinkmake.Deck).Next -/
noncomputable def rl_make_Deck_Next (p0 : S_recordlinkmake_Deck) (p1 : Int) : Option (Int × S_recordlinkmake_Deck) := if (decide (p1 < 1)) = true then (some (0, p0)) else (bind2 (rl_make_Deck_Word p0) fun y2 y3 => (if p1 ≠ 0 then (some (((i64.wrap (ishr .u64 y2 1)).tmod p1), y3)) else none))
set_option maxRecDepth 100000 in
set_option maxHeartbeats 10000000 in
theorem rl_make_Deck_Next_con (p0 : S_recordlinkmake_Deck) (p1 : Int) (r0 : Int) (r1 : S_recordlinkmake_Deck) (h : rl_make_Deck_Next p0 p1 = some (r0, r1)) : Con Try.prog 26 [.c (.ptr 0 3 0 0), vi64 p1] [(0, .box 52 [cl 1 Ri64 p0.list, ci64 p0.at_, cu64 p0.state])] (vi64 r0) [(0, .box 52 [cl 1 Ri64 r1.list, ci64 r1.at_, cu64 r1.state])] := by
 suffices H : ∀ r, rl_make_Deck_Next p0 p1 = some r → Con Try.prog 26 [.c (.ptr 0 3 0 0), vi64 p1] [(0, .box 52 [cl 1 Ri64 p0.list, ci64 p0.at_, cu64 p0.state])] (vi64 r.1) [(0, .box 52 [cl 1 Ri64 r.2.list, ci64 r.2.at_, cu64 r.2.state])] from H (r0, r1) h
 clear h
 intro r h
 refine con_of tt_ok1 1 Try.func26 (by kernel_rfl) rfl (by kernel_rfl) (fun base X hk => AW.post ?_)
 unfold rl_make_Deck_Next at h
 refine AW.seq ?_
 refine AW.reg tt_ok1 [0, 1] [0] [] ⟨[(0, .c (.ptr 0 3 0 0)), (1, vi64 p1)], [(0, .box 52 [cl 1 Ri64 p0.list, ci64 p0.at_, cu64 p0.state])], 2⟩ [True] (by kernel_rfl) (by kernel_rfl) ⟨tv, tv⟩ ?_
 refine AW.tn ?_
 refine AW.seq ?_
 refine AW.seq ?_
 refine AW.reg tt_ok1 [0, 1, 6] [0] [] ⟨[(6, vb (decide (p1 < 1))), (0, .c (.ptr 0 3 0 0)), (1, vi64 p1)], [(0, .box 52 [cl 1 Ri64 p0.list, ci64 p0.at_, cu64 p0.state])], 4⟩ [True, True] (by kernel_rfl) (by kernel_rfl) ⟨tv, tv, tv⟩ ?_
 refine AW.tn ?_
 refine AW.cond (b := decide (p1 < 1)) (by kernel_rfl) (fun c1 => ?_) (fun c1 => ?_)
 ·rw [if_pos c1] at h
  refine AW.seq ?_
  refine AW.reg tt_ok1 [4] [0] [] ⟨[(4, vi64 0)], [(0, .box 52 [cl 1 Ri64 p0.list, ci64 p0.at_, cu64 p0.state])], 5⟩ [True] (by kernel_rfl) (by kernel_rfl) ⟨tv, tv⟩ ?_
  refine AW.tn ?_
  refine AW.ret ?_
  refine AW.tr ?_
  obtain rfl := some_inj h
  exact ⟨_, Conv.refl _ _, .inr rfl, OutOk.mk [(0, 0)] 1 (out0 := vi64 0) (ps := [True]) (by kernel_rfl) ⟨tv, tv⟩ (by kernel_rfl) (by kernel_rfl)⟩
 ·rw [if_neg (nb c1)] at h
  refine AW.skip ?_
  refine AW.tn ?_
  refine AW.seq ?_
  obtain ⟨y2, y3, e4, h⟩ := bind2_some h
  obtain ⟨g5, h⟩ := ifc h
  refine AW.reg tt_ok1 [4] [0] [{}, { call := some { ids := [0], frz := [], flat := false, cnt := 0, args := [.c (.ptr 0 3 0 0)], out := vu64 y2, outb := [(0, .box 52 [cl 1 Ri64 y3.list, ci64 y3.at_, cu64 y3.state])] } }] ⟨[(4, vi64 ((i64.wrap (ishr .u64 y2 1)).tmod p1))], [(0, .box 52 [cl 1 Ri64 y3.list, ci64 y3.at_, cu64 y3.state])], 10⟩ [True, ((True) ∧ (True)) ∧ (All2 ArgLe [.c (.ptr 0 3 0 0)] [.c (.ptr 0 3 0 0)]) ∧ ((false = true → flatB [(0, .box 52 [cl 1 Ri64 y3.list, ci64 y3.at_, cu64 y3.state])])) ∧ (Con Try.prog 34 [.c (.ptr 0 3 0 0)] [(0, .box 52 [cl 1 Ri64 p0.list, ci64 p0.at_, cu64 p0.state])] (vu64 y2) [(0, .box 52 [cl 1 Ri64 y3.list, ci64 y3.at_, cu64 y3.state])]), 0 ≤ (1 : Int), True, True, p1 ≠ 0, True] (by kernel_rfl) (by kernel_rfl) ⟨tv, ⟨⟨tv, tv⟩, ⟨ArgLe.refl _, tv⟩, (fun h => by cases h), (rl_make_Deck_Word_con p0 y2 y3 e4)⟩, (by decide), tv, tv, g5, tv, tv⟩ ?_
  refine AW.tn ?_
  refine AW.ret ?_
  obtain rfl := some_inj h
  exact ⟨_, Conv.refl _ _, .inr rfl, OutOk.mk [(0, 0)] 1 (out0 := vi64 ((i64.wrap (ishr .u64 y2 1)).tmod p1)) (ps := [True]) (by kernel_rfl) ⟨tv, tv⟩ (by kernel_rfl) (by kernel_rfl)⟩
/-! (*recordlink/recordlinkmake.Deck).One -/
noncomputable def rl_make_Deck_One (p0 : S_recordlinkmake_Deck) (p1 : Int) : Option (Bool × S_recordlinkmake_Deck) := bind2 (rl_make_Deck_Next p0 p1) fun y1 y2 => (some ((y1 == 0), y2))
set_option maxRecDepth 100000 in
set_option maxHeartbeats 10000000 in
theorem rl_make_Deck_One_con (p0 : S_recordlinkmake_Deck) (p1 : Int) (r0 : Bool) (r1 : S_recordlinkmake_Deck) (h : rl_make_Deck_One p0 p1 = some (r0, r1)) : Con Try.prog 35 [.c (.ptr 0 3 0 0), vi64 p1] [(0, .box 52 [cl 1 Ri64 p0.list, ci64 p0.at_, cu64 p0.state])] (vb r0) [(0, .box 52 [cl 1 Ri64 r1.list, ci64 r1.at_, cu64 r1.state])] := by
 suffices H : ∀ r, rl_make_Deck_One p0 p1 = some r → Con Try.prog 35 [.c (.ptr 0 3 0 0), vi64 p1] [(0, .box 52 [cl 1 Ri64 p0.list, ci64 p0.at_, cu64 p0.state])] (vb r.1) [(0, .box 52 [cl 1 Ri64 r.2.list, ci64 r.2.at_, cu64 r.2.state])] from H (r0, r1) h
 clear h
 intro r h
 refine con_of tt_ok1 1 Try.func35 (by kernel_rfl) rfl (by kernel_rfl) (fun base X hk => AW.post ?_)
 unfold rl_make_Deck_One at h
 refine AW.seq ?_
 refine AW.reg tt_ok1 [0, 1] [0] [] ⟨[(0, .c (.ptr 0 3 0 0)), (1, vi64 p1)], [(0, .box 52 [cl 1 Ri64 p0.list, ci64 p0.at_, cu64 p0.state])], 2⟩ [True] (by kernel_rfl) (by kernel_rfl) ⟨tv, tv⟩ ?_
 refine AW.tn ?_
 refine AW.seq ?_
 obtain ⟨y1, y2, e3, h⟩ := bind2_some h
 refine AW.reg tt_ok1 [4] [0] [{}, {}, { call := some { ids := [0], frz := [], flat := false, cnt := 0, args := [.c (.ptr 0 3 0 0), vi64 p1], out := vi64 y1, outb := [(0, .box 52 [cl 1 Ri64 y2.list, ci64 y2.at_, cu64 y2.state])] } }] ⟨[(4, vb (y1 == 0))], [(0, .box 52 [cl 1 Ri64 y2.list, ci64 y2.at_, cu64 y2.state])], 6⟩ [True, True, ((True) ∧ (True) ∧ (True)) ∧ (All2 ArgLe [.c (.ptr 0 3 0 0), vi64 p1] [.c (.ptr 0 3 0 0), vi64 p1]) ∧ ((false = true → flatB [(0, .box 52 [cl 1 Ri64 y2.list, ci64 y2.at_, cu64 y2.state])])) ∧ (Con Try.prog 26 [.c (.ptr 0 3 0 0), vi64 p1] [(0, .box 52 [cl 1 Ri64 p0.list, ci64 p0.at_, cu64 p0.state])] (vi64 y1) [(0, .box 52 [cl 1 Ri64 y2.list, ci64 y2.at_, cu64 y2.state])]), True, True] (by kernel_rfl) (by kernel_rfl) ⟨tv, tv, ⟨⟨tv, tv, tv⟩, ⟨ArgLe.refl _, ArgLe.refl _, tv⟩, (fun h => by cases h), (rl_make_Deck_Next_con p0 p1 y1 y2 e3)⟩, tv, tv, tv⟩ ?_
 refine AW.tn ?_
 refine AW.ret ?_
 obtain rfl := some_inj h
 exact ⟨_, Conv.refl _ _, .inr rfl, OutOk.mk [(0, 0)] 1 (out0 := vb (y1 == 0)) (ps := [True]) (by kernel_rfl) ⟨tv, tv⟩ (by kernel_rfl) (by kernel_rfl)⟩
/-! (*recordlink/recordlinkmake.Deck).Natural -/
noncomputable def rl_make_Deck_Natural_k18 (x9 : List Int) (x10 : Int) (x22 : Int) (x23 : List Int) (x24 : Int) (x25 : Int) : Option (((List Int) × Int × (List Int) × Int × Int) ⊕ ((List Int) × (List Int) × Int × Int)) := if x9.length + ([x22] : List Int).length ≤ 1099511627776 then (some (.inl ((x9 ++ ([x22] : List Int)), i64.wrap (x10 - 1), x23, x24, x25))) else none
noncomputable def rl_make_Deck_Natural_l16 (x9 : List Int) (x10 : Int) (x11 : List Int) (x12 : Int) (x13 : Int) : Option (((List Int) × Int × (List Int) × Int × Int) ⊕ ((List Int) × (List Int) × Int × Int)) := if (decide (x10 > 0)) = true then (bind2 (rl_make_Deck_Word (⟨x11, x12, x13⟩ : S_recordlinkmake_Deck)) fun y19 y20 => (bind2 (rl_make_Deck_One y20 3) fun y27 y28 => (if y27 = true then (bind2 (rl_make_Deck_Next y28 4) fun y31 y32 => (if 0 ≤ y31 then (if y31 < ((([0, 1, 4294967295, 2147483648] : List Int).length : Nat) : Int) then (rl_make_Deck_Natural_k18 x9 x10 (([0, 1, 4294967295, 2147483648] : List Int).getD (0 + y31.toNat) 0) y32.list y32.at_ y32.state) else none) else none)) else (rl_make_Deck_Natural_k18 x9 x10 (u32.wrap y19) y28.list y28.at_ y28.state)))) else (some (.inr (x9, x11, x12, x13)))
noncomputable def rl_make_Deck_Natural_k52 (x41 : Nat) (x43 : Bool) : Option (Nat ⊕ Nat) := if x43 = true then (if 0 ≤ (i64.wrap (((x41 : Nat) : Int) - 1)) then (if ((i64.wrap (((x41 : Nat) : Int) - 1)).toNat) ≤ x41 then (some (.inl ((i64.wrap (((x41 : Nat) : Int) - 1)).toNat))) else none) else none) else (some (.inr x41))
noncomputable def rl_make_Deck_Natural_l48 (x36 : List Int) (x41 : Nat) : Option (Nat ⊕ Nat) := if (decide (((x41 : Nat) : Int) > 0)) = true then (if 0 ≤ (i64.wrap (((x41 : Nat) : Int) - 1)) then (if (i64.wrap (((x41 : Nat) : Int) - 1)) < ((x41 : Nat) : Int) then (if (0 + (i64.wrap (((x41 : Nat) : Int) - 1)).toNat) < x36.length then ((some ((x36.getD (0 + (i64.wrap (((x41 : Nat) : Int) - 1)).toNat) 0))).bind fun z51 => (rl_make_Deck_Natural_k52 x41 ((x36.getD (0 + (i64.wrap (((x41 : Nat) : Int) - 1)).toNat) 0) == 0))) else none) else none) else none) else (rl_make_Deck_Natural_k52 x41 false)
noncomputable def rl_make_Deck_Natural (p0 : S_recordlinkmake_Deck) (p1 : Int) : Option ((List Int) × S_recordlinkmake_Deck) := bind2 (rl_make_Deck_Next p0 (i64.wrap (p1 + 1))) fun y1 y2 => (bind4 (loop (fun v : (List Int) × Int × (List Int) × Int × Int => rl_make_Deck_Natural_l16 v.1 v.2.1 v.2.2.1 v.2.2.2.1 v.2.2.2.2) (([] : List Int), y1, y2.list, y2.at_, y2.state)) fun x36 x37 x38 x39 => ((loop (fun v : Nat => rl_make_Deck_Natural_l48 x36 v) x36.length).bind fun x53 => (if x53 ≤ x36.length then (some ((x36.take x53), (⟨x37, x38, x39⟩ : S_recordlinkmake_Deck))) else none)))
set_option maxRecDepth 100000 in
set_option maxHeartbeats 10000000 in
theorem rl_make_Deck_Natural_con (p0 : S_recordlinkmake_Deck) (p1 : Int) (r0 : List Int) (r1 : S_recordlinkmake_Deck) (h : rl_make_Deck_Natural p0 p1 = some (r0, r1)) : Con Try.prog 13 [.c (.ptr 0 3 0 0), vi64 p1] [(0, .box 52 [cl 1 Ri64 p0.list, ci64 p0.at_, cu64 p0.state])] (.c (.ref 1 1 0 r0.length)) [(0, .box 52 [cl 1 Ri64 r1.list, ci64 r1.at_, cu64 r1.state]), (1, .row 37 false 1 r0.length (Ru32 r0))] := by
 suffices H : ∀ r, rl_make_Deck_Natural p0 p1 = some r → Con Try.prog 13 [.c (.ptr 0 3 0 0), vi64 p1] [(0, .box 52 [cl 1 Ri64 p0.list, ci64 p0.at_, cu64 p0.state])] (.c (.ref 1 1 0 r.1.length)) [(0, .box 52 [cl 1 Ri64 r.2.list, ci64 r.2.at_, cu64 r.2.state]), (1, .row 37 false 1 r.1.length (Ru32 r.1))] from H (r0, r1) h
 clear h
 intro r h
 refine con_of tt_ok1 1 Try.func13 (by kernel_rfl) rfl (by kernel_rfl) (fun base X hk => AW.post ?_)
 unfold rl_make_Deck_Natural at h
 refine AW.seq ?_
 refine AW.reg tt_ok1 [0, 1] [0] [] ⟨[(0, .c (.ptr 0 3 0 0)), (1, vi64 p1)], [(0, .box 52 [cl 1 Ri64 p0.list, ci64 p0.at_, cu64 p0.state])], 2⟩ [True] (by kernel_rfl) (by kernel_rfl) ⟨tv, tv⟩ ?_
 refine AW.tn ?_
 refine AW.seq ?_
 refine AW.reg tt_ok1 [0, 1, 5] [0] [] ⟨[(5, .c (.t (.v (.slice none 0 0)))), (0, .c (.ptr 0 3 0 0)), (1, vi64 p1)], [(0, .box 52 [cl 1 Ri64 p0.list, ci64 p0.at_, cu64 p0.state])], 3⟩ [True] (by kernel_rfl) (by kernel_rfl) ⟨tv, tv⟩ ?_
 refine AW.tn ?_
 refine AW.seq ?_
 refine AW.seq ?_
 obtain ⟨y1, y2, e3, h⟩ := bind2_some h
 refine AW.reg tt_ok1 [0, 5, 6] [0] [{}, {}, {}, { call := some { ids := [0], frz := [], flat := false, cnt := 0, args := [.c (.ptr 0 3 0 0), vi64 (i64.wrap (p1 + 1))], out := vi64 y1, outb := [(0, .box 52 [cl 1 Ri64 y2.list, ci64 y2.at_, cu64 y2.state])] } }] ⟨[(6, vi64 y1), (5, .c (.t (.v (.slice none 0 0)))), (0, .c (.ptr 0 3 0 0))], [(0, .box 52 [cl 1 Ri64 y2.list, ci64 y2.at_, cu64 y2.state])], 7⟩ [True, True, True, ((True) ∧ (True) ∧ (True)) ∧ (All2 ArgLe [.c (.ptr 0 3 0 0), vi64 (i64.wrap (p1 + 1))] [.c (.ptr 0 3 0 0), vi64 (i64.wrap (p1 + 1))]) ∧ ((false = true → flatB [(0, .box 52 [cl 1 Ri64 y2.list, ci64 y2.at_, cu64 y2.state])])) ∧ (Con Try.prog 26 [.c (.ptr 0 3 0 0), vi64 (i64.wrap (p1 + 1))] [(0, .box 52 [cl 1 Ri64 p0.list, ci64 p0.at_, cu64 p0.state])] (vi64 y1) [(0, .box 52 [cl 1 Ri64 y2.list, ci64 y2.at_, cu64 y2.state])]), True] (by kernel_rfl) (by kernel_rfl) ⟨tv, tv, tv, ⟨⟨tv, tv, tv⟩, ⟨ArgLe.refl _, ArgLe.refl _, tv⟩, (fun h => by cases h), (rl_make_Deck_Next_con p0 (i64.wrap (p1 + 1)) y1 y2 e3)⟩, tv, tv⟩ ?_
 refine AW.tn ?_
 refine AW.block ?_
 obtain ⟨x36, x37, x38, x39, l56, h⟩ := bind4_some h
 refine AW.pre (S' := ((fun v => ⟨[(0, .c (.ptr 0 3 0 0)), (5, .c (.ref 1 1 0 v.1.length)), (6, vi64 v.2.1)], [(0, .box 52 [cl 1 Ri64 v.2.2.1, ci64 v.2.2.2.1, cu64 v.2.2.2.2]), (1, .row 37 false 1 v.1.length (Ru32 v.1))], 2⟩) : ((List Int) × Int × (List Int) × Int × Int) → St) (([] : List Int), y1, y2.list, y2.at_, y2.state)) (Conv.trans (conv_adopt (t := 5) (ty := 37) (sz := 1) (n := ([] : List Int).length) (f := Ru32 ([] : List Int)) (by kernel_rfl) rfl) (conv_ren [(0, 0), (1, 7)] [0, 5, 6] (n := 2) (by kernel_rfl) (by kernel_rfl))) ?_
 refine AW.loop2 (step := (fun v : (List Int) × Int × (List Int) × Int × Int => rl_make_Deck_Natural_l16 v.1 v.2.1 v.2.2.1 v.2.2.2.1 v.2.2.2.2)) (s0 := (([] : List Int), y1, y2.list, y2.at_, y2.state)) (t := (x36, x37, x38, x39)) (fun v => ⟨[(0, .c (.ptr 0 3 0 0)), (5, .c (.ref 1 1 0 v.1.length)), (6, vi64 v.2.1)], [(0, .box 52 [cl 1 Ri64 v.2.2.1, ci64 v.2.2.2.1, cu64 v.2.2.2.2]), (1, .row 37 false 1 v.1.length (Ru32 v.1))], 2⟩) (fun t : (List Int) × (List Int) × Int × Int => (.exit 0, ⟨[(5, .c (.ref 1 1 0 t.1.length))], [(0, .box 52 [cl 1 Ri64 t.2.1, ci64 t.2.2.1, cu64 t.2.2.2]), (1, .row 37 false 1 t.1.length (Ru32 t.1))], 2⟩)) l56 (fun _ => tv) ?_ ?_
 ·
  intro v o h
  obtain ⟨x9, x10, x11, x12, x13⟩ := v
  replace h : rl_make_Deck_Natural_l16 x9 x10 x11 x12 x13 = some o := h
  unfold rl_make_Deck_Natural_l16 at h
  show AW _ ⟨[(0, .c (.ptr 0 3 0 0)), (5, .c (.ref 1 1 0 x9.length)), (6, vi64 x10)], [(0, .box 52 [cl 1 Ri64 x11, ci64 x12, cu64 x13]), (1, .row 37 false 1 x9.length (Ru32 x9))], 2⟩ _ _
  refine AW.seq ?_
  refine AW.seq ?_
  refine AW.reg tt_ok1 [0, 5, 6, 13] [0, 1] [] ⟨[(13, vb (decide (x10 > 0))), (0, .c (.ptr 0 3 0 0)), (5, .c (.ref 1 1 0 x9.length)), (6, vi64 x10)], [(0, .box 52 [cl 1 Ri64 x11, ci64 x12, cu64 x13]), (1, .row 37 false 1 x9.length (Ru32 x9))], 4⟩ [True, True] (by kernel_rfl) (by kernel_rfl) ⟨tv, tv, tv⟩ ?_
  refine AW.tn ?_
  refine AW.cond (b := decide (x10 > 0)) (by kernel_rfl) (fun c18 => ?_) (fun c18 => ?_)
  ·rw [if_pos c18] at h
   refine AW.skip ?_
   refine AW.tn ?_
   refine AW.seq ?_
   refine AW.block ?_
   refine AW.seq ?_
   obtain ⟨y19, y20, e21, h⟩ := bind2_some h
   refine AW.reg tt_ok1 [0, 5, 6, 7] [0, 1] [{}, { call := some { ids := [0], frz := [], flat := false, cnt := 0, args := [.c (.ptr 0 3 0 0)], out := vu64 y19, outb := [(0, .box 52 [cl 1 Ri64 y20.list, ci64 y20.at_, cu64 y20.state])] } }] ⟨[(7, vu32 (u32.wrap y19)), (0, .c (.ptr 0 3 0 0)), (5, .c (.ref 1 1 0 x9.length)), (6, vi64 x10)], [(0, .box 52 [cl 1 Ri64 y20.list, ci64 y20.at_, cu64 y20.state]), (1, .row 37 false 1 x9.length (Ru32 x9))], 7⟩ [True, ((True) ∧ (True)) ∧ (All2 ArgLe [.c (.ptr 0 3 0 0)] [.c (.ptr 0 3 0 0)]) ∧ ((false = true → flatB [(0, .box 52 [cl 1 Ri64 y20.list, ci64 y20.at_, cu64 y20.state])])) ∧ (Con Try.prog 34 [.c (.ptr 0 3 0 0)] [(0, .box 52 [cl 1 Ri64 x11, ci64 x12, cu64 x13])] (vu64 y19) [(0, .box 52 [cl 1 Ri64 y20.list, ci64 y20.at_, cu64 y20.state])]), True, True] (by kernel_rfl) (by kernel_rfl) ⟨tv, ⟨⟨tv, tv⟩, ⟨ArgLe.refl _, tv⟩, (fun h => by cases h), (rl_make_Deck_Word_con (⟨x11, x12, x13⟩ : S_recordlinkmake_Deck) y19 y20 e21)⟩, tv, tv, tv⟩ ?_
   refine AW.tn ?_
   refine AW.seq ?_
   refine AW.join (ι := Int × (List Int) × Int × Int) (fun v => ⟨[(0, .c (.ptr 0 3 0 0)), (5, .c (.ref 1 1 0 x9.length)), (6, vi64 x10), (7, vu32 v.1)], [(0, .box 52 [cl 1 Ri64 v.2.1, ci64 v.2.2.1, cu64 v.2.2.2]), (1, .row 37 false 1 x9.length (Ru32 x9))], 2⟩) (fun v : Int × (List Int) × Int × Int => rl_make_Deck_Natural_k18 x9 x10 v.1 v.2.1 v.2.2.1 v.2.2.2 = some o) (fun v h => ?_) ?_
   ·
    obtain ⟨x22, x23, x24, x25⟩ := v
    replace h : rl_make_Deck_Natural_k18 x9 x10 x22 x23 x24 x25 = some o := h
    unfold rl_make_Deck_Natural_k18 at h
    show (_ : Exit → St → Prop) .normal ⟨[(0, .c (.ptr 0 3 0 0)), (5, .c (.ref 1 1 0 x9.length)), (6, vi64 x10), (7, vu32 x22)], [(0, .box 52 [cl 1 Ri64 x23, ci64 x24, cu64 x25]), (1, .row 37 false 1 x9.length (Ru32 x9))], 2⟩
    refine AW.tn ?_
    obtain ⟨g26, h⟩ := ifc h
    refine AW.reg tt_ok1 [0, 5, 6] [0, 5] [{}, {}, { h := { row := some (([x22] : List Int).length, Ru32 ([x22] : List Int)) } }, { h := { row := some ((x9 ++ ([x22] : List Int)).length, Ru32 (x9 ++ ([x22] : List Int))) } }] ⟨[(5, .c (.ref 5 1 0 ((x9 ++ ([x22] : List Int)).length))), (0, .c (.ptr 0 3 0 0)), (6, vi64 x10)], [(5, .row 37 false 1 (x9 ++ ([x22] : List Int)).length (Ru32 (x9 ++ ([x22] : List Int)))), (0, .box 52 [cl 1 Ri64 x23, ci64 x24, cu64 x25])], 7⟩ [True, True, 1 = ([x22] : List Int).length ∧ ∀ i, i < ([x22] : List Int).length → ∀ j, j < 1 → TLe ((rowOf [.v (.int .u32 x22)] 1) i j) (Ru32 ([x22] : List Int) i j), (x9.length = x9.length) ∧ (0 + ([x22] : List Int).length ≤ ([x22] : List Int).length) ∧ ((x9.length + ([x22] : List Int).length ≤ 1099511627776) ∧ ((4 : Nat) ≤ 128)) ∧ (x9.length + ([x22] : List Int).length = (x9 ++ ([x22] : List Int)).length ∧ ∀ i, i < (x9 ++ ([x22] : List Int)).length → ∀ j, j < 1 → TLe ((appRow x9.length (Ru32 x9) (fun i j => Ru32 ([x22] : List Int) (0 + i) j)) i j) (Ru32 (x9 ++ ([x22] : List Int)) i j)), True] (by kernel_rfl) (by kernel_rfl) ⟨tv, tv, ⟨rfl, lit_row (n := 1) (sz := 1) ⟨tv, ⟨tv, TLe.refl _⟩⟩⟩, ⟨rfl, le0, ⟨g26, (by decide)⟩, rowT (app_row rfl rfl row_rfl (fun i _ j _ => congrArg (fun k => Ru32 ([x22] : List Int) k j) (Nat.zero_add i)))⟩, tv, tv⟩ ?_
    refine AW.inBlock_normal ?_
    refine AW.tn ?_
    refine AW.reg tt_ok1 [0, 5, 6] [0, 5] [] ⟨[(6, vi64 (i64.wrap (x10 - 1))), (5, .c (.ref 5 1 0 ((x9 ++ ([x22] : List Int)).length))), (0, .c (.ptr 0 3 0 0))], [(5, .row 37 false 1 (x9 ++ ([x22] : List Int)).length (Ru32 (x9 ++ ([x22] : List Int)))), (0, .box 52 [cl 1 Ri64 x23, ci64 x24, cu64 x25])], 10⟩ [True, True, True] (by kernel_rfl) (by kernel_rfl) ⟨tv, tv, tv, tv⟩ ?_
    obtain rfl := some_inj h
    refine loopQ_next (conv_ren [(0, 0), (1, 5)] [0, 5, 6] (n := 2) (by kernel_rfl) (by kernel_rfl))
   ·
    refine AW.seq ?_
    obtain ⟨y27, y28, e29, h⟩ := bind2_some h
    refine AW.reg tt_ok1 [0, 5, 6, 7, 20] [0, 1] [{}, { call := some { ids := [0], frz := [], flat := false, cnt := 0, args := [.c (.ptr 0 3 0 0), vi64 3], out := vb y27, outb := [(0, .box 52 [cl 1 Ri64 y28.list, ci64 y28.at_, cu64 y28.state])] } }] ⟨[(20, vb y27), (7, vu32 (u32.wrap y19)), (0, .c (.ptr 0 3 0 0)), (5, .c (.ref 1 1 0 x9.length)), (6, vi64 x10)], [(0, .box 52 [cl 1 Ri64 y28.list, ci64 y28.at_, cu64 y28.state]), (1, .row 37 false 1 x9.length (Ru32 x9))], 8⟩ [True, ((True) ∧ (True) ∧ (True)) ∧ (All2 ArgLe [.c (.ptr 0 3 0 0), vi64 3] [.c (.ptr 0 3 0 0), vi64 3]) ∧ ((false = true → flatB [(0, .box 52 [cl 1 Ri64 y28.list, ci64 y28.at_, cu64 y28.state])])) ∧ (Con Try.prog 35 [.c (.ptr 0 3 0 0), vi64 3] [(0, .box 52 [cl 1 Ri64 y20.list, ci64 y20.at_, cu64 y20.state])] (vb y27) [(0, .box 52 [cl 1 Ri64 y28.list, ci64 y28.at_, cu64 y28.state])])] (by kernel_rfl) (by kernel_rfl) ⟨tv, ⟨⟨tv, tv, tv⟩, ⟨ArgLe.refl _, ArgLe.refl _, tv⟩, (fun h => by cases h), (rl_make_Deck_One_con y20 3 y27 y28 e29)⟩, tv⟩ ?_
    refine AW.tn ?_
    refine AW.cond (b := y27) (by kernel_rfl) (fun c30 => ?_) (fun c30 => ?_)
    ·rw [if_pos c30] at h
     obtain ⟨y31, y32, e33, h⟩ := bind2_some h
     obtain ⟨g34, h⟩ := ifc h
     obtain ⟨g35, h⟩ := ifc h
     refine AW.reg tt_ok1 [0, 5, 6, 7] [0, 1] [{ h := { row := some (([0, 1, 4294967295, 2147483648] : List Int).length, Ru32 ([0, 1, 4294967295, 2147483648] : List Int)) } }, {}, { call := some { ids := [0], frz := [], flat := false, cnt := 0, args := [.c (.ptr 0 3 0 0), vi64 4], out := vi64 y31, outb := [(0, .box 52 [cl 1 Ri64 y32.list, ci64 y32.at_, cu64 y32.state])] } }] ⟨[(7, vu32 (([0, 1, 4294967295, 2147483648] : List Int).getD (0 + y31.toNat) 0)), (0, .c (.ptr 0 3 0 0)), (5, .c (.ref 1 1 0 x9.length)), (6, vi64 x10)], [(0, .box 52 [cl 1 Ri64 y32.list, ci64 y32.at_, cu64 y32.state]), (1, .row 37 false 1 x9.length (Ru32 x9))], 13⟩ [4 = ([0, 1, 4294967295, 2147483648] : List Int).length ∧ ∀ i, i < ([0, 1, 4294967295, 2147483648] : List Int).length → ∀ j, j < 1 → TLe ((rowOf [.v (.int .u32 0), .v (.int .u32 1), .v (.int .u32 4294967295), .v (.int .u32 2147483648)] 1) i j) (Ru32 ([0, 1, 4294967295, 2147483648] : List Int) i j), True, ((True) ∧ (True) ∧ (True)) ∧ (All2 ArgLe [.c (.ptr 0 3 0 0), vi64 4] [.c (.ptr 0 3 0 0), vi64 4]) ∧ ((false = true → flatB [(0, .box 52 [cl 1 Ri64 y32.list, ci64 y32.at_, cu64 y32.state])])) ∧ (Con Try.prog 26 [.c (.ptr 0 3 0 0), vi64 4] [(0, .box 52 [cl 1 Ri64 y28.list, ci64 y28.at_, cu64 y28.state])] (vi64 y31) [(0, .box 52 [cl 1 Ri64 y32.list, ci64 y32.at_, cu64 y32.state])]), (0 ≤ y31) ∧ (y31 < ((([0, 1, 4294967295, 2147483648] : List Int).length : Nat) : Int)), (0 + y31.toNat) < ([0, 1, 4294967295, 2147483648] : List Int).length, True] (by kernel_rfl) (by kernel_rfl) ⟨⟨rfl, lit_row (n := 4) (sz := 1) ⟨⟨⟨⟨tv, ⟨tv, TLe.refl _⟩⟩, ⟨tv, TLe.refl _⟩⟩, ⟨tv, TLe.refl _⟩⟩, ⟨tv, TLe.refl _⟩⟩⟩, tv, ⟨⟨tv, tv, tv⟩, ⟨ArgLe.refl _, ArgLe.refl _, tv⟩, (fun h => by cases h), (rl_make_Deck_Next_con y28 4 y31 y32 e33)⟩, ⟨g34, g35⟩, (by have h1 : 0 ≤ y31 := g34; have h2 : y31 < ((([0, 1, 4294967295, 2147483648] : List Int).length : Nat) : Int) := g35; omega), tv, tv⟩ ?_
     exact joinQ_leaf (((([0, 1, 4294967295, 2147483648] : List Int).getD (0 + y31.toNat) 0), y32.list, y32.at_, y32.state)) h (conv_ren [(0, 0), (1, 1)] [0, 5, 6, 7] (n := 2) (by kernel_rfl) (by kernel_rfl))
    ·rw [if_neg (nb c30)] at h
     refine AW.skip ?_
     exact joinQ_leaf ((u32.wrap y19, y28.list, y28.at_, y28.state)) h (conv_ren [(0, 0), (1, 1)] [0, 5, 6, 7] (n := 2) (by kernel_rfl) (by kernel_rfl))
  ·rw [if_neg (nb c18)] at h
   refine AW.exit ?_
   refine AW.thenQ_exit ?_
   obtain rfl := some_inj h
   refine loopQ_out rfl (conv_ren [(0, 0), (1, 1)] [5] (n := 2) (by kernel_rfl) (by kernel_rfl))
 ·
  show (_ : Exit → St → Prop) (.exit 0) ⟨[(5, .c (.ref 1 1 0 x36.length))], [(0, .box 52 [cl 1 Ri64 x37, ci64 x38, cu64 x39]), (1, .row 37 false 1 x36.length (Ru32 x36))], 2⟩
  refine AW.inBlock_hit ?_
  refine AW.tn ?_
  refine AW.seq ?_
  refine AW.block ?_
  obtain ⟨x53, l55, h⟩ := bnd_some h
  refine AW.pre (S' := ((fun v => ⟨[(5, .c (.ref 1 1 0 v))], [(0, .box 52 [cl 1 Ri64 x37, ci64 x38, cu64 x39]), (1, .row 37 false 1 x36.length (Ru32 x36))], 2⟩) : Nat → St) x36.length) (conv_ren [(0, 0), (1, 1)] [5] (n := 2) (by kernel_rfl) (by kernel_rfl)) ?_
  refine AW.loop2 (step := (fun v : Nat => rl_make_Deck_Natural_l48 x36 v)) (s0 := x36.length) (t := x53) (fun v => ⟨[(5, .c (.ref 1 1 0 v))], [(0, .box 52 [cl 1 Ri64 x37, ci64 x38, cu64 x39]), (1, .row 37 false 1 x36.length (Ru32 x36))], 2⟩) (fun t : Nat => (.exit 2, ⟨[(5, .c (.ref 1 1 0 t))], [(0, .box 52 [cl 1 Ri64 x37, ci64 x38, cu64 x39]), (1, .row 37 false 1 x36.length (Ru32 x36))], 2⟩)) l55 (fun _ => tv) ?_ ?_
  ·
   intro v o h
   obtain ⟨x41, rfl⟩ : ∃ x, x = v := ⟨_, rfl⟩
   replace h : rl_make_Deck_Natural_l48 x36 x41 = some o := h
   unfold rl_make_Deck_Natural_l48 at h
   show AW _ ⟨[(5, .c (.ref 1 1 0 x41))], [(0, .box 52 [cl 1 Ri64 x37, ci64 x38, cu64 x39]), (1, .row 37 false 1 x36.length (Ru32 x36))], 2⟩ _ _
   refine AW.seq ?_
   refine AW.seq ?_
   refine AW.join (ι := Bool) (fun v => ⟨[(5, .c (.ref 1 1 0 x41)), (41, vb v)], [(0, .box 52 [cl 1 Ri64 x37, ci64 x38, cu64 x39]), (1, .row 37 false 1 x36.length (Ru32 x36))], 2⟩) (fun v : Bool => rl_make_Deck_Natural_k52 x41 v = some o) (fun v h => ?_) ?_
   ·
    obtain ⟨x43, rfl⟩ : ∃ x, x = v := ⟨_, rfl⟩
    replace h : rl_make_Deck_Natural_k52 x41 x43 = some o := h
    unfold rl_make_Deck_Natural_k52 at h
    show (_ : Exit → St → Prop) .normal ⟨[(5, .c (.ref 1 1 0 x41)), (41, vb x43)], [(0, .box 52 [cl 1 Ri64 x37, ci64 x38, cu64 x39]), (1, .row 37 false 1 x36.length (Ru32 x36))], 2⟩
    refine AW.tn ?_
    refine AW.cond (b := x43) (by kernel_rfl) (fun c44 => ?_) (fun c44 => ?_)
    ·rw [if_pos c44] at h
     refine AW.skip ?_
     refine AW.tn ?_
     refine AW.block ?_
     obtain ⟨g45, h⟩ := ifc h
     obtain ⟨g46, h⟩ := ifc h
     refine AW.reg tt_ok1 [5] [0, 1] [] ⟨[(5, .c (.ref 1 1 0 ((i64.wrap (((x41 : Nat) : Int) - 1)).toNat)))], [(0, .box 52 [cl 1 Ri64 x37, ci64 x38, cu64 x39]), (1, .row 37 false 1 x36.length (Ru32 x36))], 8⟩ [True, True, True, True, (True) ∧ (0 ≤ (i64.wrap (((x41 : Nat) : Int) - 1))) ∧ (0 ≤ ((i64.wrap (((x41 : Nat) : Int) - 1)).toNat)) ∧ (((i64.wrap (((x41 : Nat) : Int) - 1)).toNat) ≤ x41), True] (by kernel_rfl) (by kernel_rfl) ⟨tv, tv, tv, tv, ⟨tv, g45, (Nat.zero_le _), g46⟩, tv, tv⟩ ?_
     refine AW.inBlock_normal ?_
     obtain rfl := some_inj h
     refine loopQ_next (conv_ren [(0, 0), (1, 1)] [5] (n := 2) (by kernel_rfl) (by kernel_rfl))
    ·rw [if_neg (nb c44)] at h
     refine AW.exit ?_
     refine AW.thenQ_exit ?_
     obtain rfl := some_inj h
     refine loopQ_out rfl (conv_ren [(0, 0), (1, 1)] [5] (n := 2) (by kernel_rfl) (by kernel_rfl))
   ·
    by_cases c47 : (decide (((x41 : Nat) : Int) > 0)) = true
    ·rw [if_pos c47] at h
     obtain ⟨g48, h⟩ := ifc h
     obtain ⟨g49, h⟩ := ifc h
     obtain ⟨g50, h⟩ := ifc h
     obtain ⟨z51, n52, h⟩ := bnd_some h
     replace n52 := some_inj n52
     refine AW.reg tt_ok1 [5, 34, 35, 36, 37, 38, 39, 40, 41] [0, 1] [{}, {}, { h := { b := some true } }] ⟨[(41, vb ((x36.getD (0 + (i64.wrap (((x41 : Nat) : Int) - 1)).toNat) 0) == 0)), (40, vb ((x36.getD (0 + (i64.wrap (((x41 : Nat) : Int) - 1)).toNat) 0) == 0)), (39, vu32 (x36.getD (0 + (i64.wrap (((x41 : Nat) : Int) - 1)).toNat) 0)), (38, .c (.ptr 1 1 (0 + (i64.wrap (((x41 : Nat) : Int) - 1)).toNat) 0)), (37, vi64 (i64.wrap (((x41 : Nat) : Int) - 1))), (36, vi64 ((x41 : Nat) : Int)), (35, .c (.ref 1 1 0 x41)), (34, .c (.ref 1 1 0 x41)), (5, .c (.ref 1 1 0 x41))], [(0, .box 52 [cl 1 Ri64 x37, ci64 x38, cu64 x39]), (1, .row 37 false 1 x36.length (Ru32 x36))], 14⟩ [True, True, (decide (((x41 : Nat) : Int) > 0)) = true, True, True, True, True, True, (0 ≤ (i64.wrap (((x41 : Nat) : Int) - 1))) ∧ ((i64.wrap (((x41 : Nat) : Int) - 1)) < ((x41 : Nat) : Int)), (0 + (i64.wrap (((x41 : Nat) : Int) - 1)).toNat) < x36.length, True, True] (by kernel_rfl) (by kernel_rfl) ⟨tv, tv, c47, tv, tv, tv, tv, tv, ⟨g48, g49⟩, g50, tv, tv, tv⟩ ?_
     refine eq_Q (S' := ⟨[(41, vb ((x36.getD (0 + (i64.wrap (((x41 : Nat) : Int) - 1)).toNat) 0) == 0)), (40, vb ((x36.getD (0 + (i64.wrap (((x41 : Nat) : Int) - 1)).toNat) 0) == 0)), (39, vu32 z51), (38, .c (.ptr 1 1 (0 + (i64.wrap (((x41 : Nat) : Int) - 1)).toNat) 0)), (37, vi64 (i64.wrap (((x41 : Nat) : Int) - 1))), (36, vi64 ((x41 : Nat) : Int)), (35, .c (.ref 1 1 0 x41)), (34, .c (.ref 1 1 0 x41)), (5, .c (.ref 1 1 0 x41))], [(0, .box 52 [cl 1 Ri64 x37, ci64 x38, cu64 x39]), (1, .row 37 false 1 x36.length (Ru32 x36))], 14⟩) (by rw [n52]) ?_
     exact joinQ_leaf (((x36.getD (0 + (i64.wrap (((x41 : Nat) : Int) - 1)).toNat) 0) == 0)) h (conv_ren [(0, 0), (1, 1)] [5, 41] (n := 2) (by kernel_rfl) (by kernel_rfl))
    ·rw [if_neg c47] at h
     refine AW.reg tt_ok1 [5, 34, 35, 36, 37, 38, 39, 40, 41] [0, 1] [{}, {}, { h := { b := some false } }] ⟨[(41, vb false), (40, .tup []), (39, .tup []), (38, .tup []), (37, .tup []), (36, .tup []), (35, .tup []), (34, .tup []), (5, .c (.ref 1 1 0 x41))], [(0, .box 52 [cl 1 Ri64 x37, ci64 x38, cu64 x39]), (1, .row 37 false 1 x36.length (Ru32 x36))], 14⟩ [True, True, (decide (((x41 : Nat) : Int) > 0)) = false, True, True, True, True, True, True, True, True, True] (by kernel_rfl) (by kernel_rfl) ⟨tv, tv, (off_false c47), tv, tv, tv, tv, tv, tv, tv, tv, tv, tv⟩ ?_
     exact joinQ_leaf (false) h (conv_ren [(0, 0), (1, 1)] [5, 41] (n := 2) (by kernel_rfl) (by kernel_rfl))
  ·
   show (_ : Exit → St → Prop) (.exit 2) ⟨[(5, .c (.ref 1 1 0 x53))], [(0, .box 52 [cl 1 Ri64 x37, ci64 x38, cu64 x39]), (1, .row 37 false 1 x36.length (Ru32 x36))], 2⟩
   refine AW.inBlock_hit ?_
   refine AW.tn ?_
   refine AW.seq ?_
   refine AW.reg tt_ok1 [4] [0, 1] [] ⟨[(4, .c (.ref 1 1 0 x53))], [(0, .box 52 [cl 1 Ri64 x37, ci64 x38, cu64 x39]), (1, .row 37 false 1 x36.length (Ru32 x36))], 4⟩ [True, True] (by kernel_rfl) (by kernel_rfl) ⟨tv, tv, tv⟩ ?_
   refine AW.tn ?_
   obtain ⟨g54, h⟩ := ifc h
   refine AW.ret ?_
   obtain rfl := some_inj h
   exact ⟨_, Conv.trans (conv_short (id := 1) (ty := 37) (fro := false) (fro' := false) (sz := 1) (n := x36.length) (m := (x36.take x53).length) (f := Ru32 x36) (g := Ru32 (x36.take x53)) (by kernel_rfl) (.inl rfl) (by rw [List.length_take]; exact Nat.min_le_right _ _) (fun i hi j _ => short_row i j hi)) (conv_len (S' := ⟨[(4, .c (.ref 1 1 0 ((x36.take x53).length)))], [(1, .row 37 false 1 (x36.take x53).length (Ru32 (x36.take x53))), (0, .box 52 [cl 1 Ri64 x37, ci64 x38, cu64 x39]), (1, .row 37 false 1 x36.length (Ru32 x36))], 4⟩) (by rw [show (x36.take x53).length = x53 from by rw [List.length_take, Nat.min_eq_left g54]])), .inr rfl, OutOk.mk [(0, 0), (1, 1)] 2 (out0 := .c (.ref 1 1 0 ((x36.take x53).length))) (ps := [True]) (by kernel_rfl) ⟨tv, tv⟩ (by kernel_rfl) (by kernel_rfl)⟩
/-! recordlink/natural.FromInt -/
noncomputable def natural_FromInt (p0 : Int) : Option ((List Int) × Int) := if (decide (p0 < 0)) = true then (some (([] : List Int), 2)) else ((natural_trim ([u32.wrap p0, u32.wrap (ishr .i64 p0 32)] : List Int)).bind fun y2 => (some (y2, 0)))
set_option maxRecDepth 100000 in
set_option maxHeartbeats 10000000 in
theorem natural_FromInt_con (p0 : Int) (r0 : List Int) (r1 : Int) (h : natural_FromInt p0 = some (r0, r1)) : Con Try.prog 20 [vi64 p0] [] (.tup [vl 1 Ru32 r0, vi64 r1]) [] := by
 suffices H : ∀ r, natural_FromInt p0 = some r → Con Try.prog 20 [vi64 p0] [] (.tup [vl 1 Ru32 r.1, vi64 r.2]) [] from H (r0, r1) h
 clear h
 intro r h
 refine con_of tt_ok1 0 Try.func20 (by kernel_rfl) rfl (by kernel_rfl) (fun base X hk => AW.post ?_)
 unfold natural_FromInt at h
 refine AW.seq ?_
 refine AW.reg tt_ok1 [0] [] [] ⟨[(0, vi64 p0)], [], 2⟩ [True, True] (by kernel_rfl) (by kernel_rfl) ⟨tv, tv, tv⟩ ?_
 refine AW.tn ?_
 refine AW.seq ?_
 refine AW.seq ?_
 refine AW.reg tt_ok1 [0, 5] [] [] ⟨[(5, vb (decide (p0 < 0))), (0, vi64 p0)], [], 4⟩ [True, True] (by kernel_rfl) (by kernel_rfl) ⟨tv, tv, tv⟩ ?_
 refine AW.tn ?_
 refine AW.cond (b := decide (p0 < 0)) (by kernel_rfl) (fun c1 => ?_) (fun c1 => ?_)
 ·rw [if_pos c1] at h
  refine AW.seq ?_
  refine AW.reg tt_ok1 [2, 3] [] [] ⟨[(3, vi64 2), (2, .c (.t (.v (.slice none 0 0))))], [], 6⟩ [True, True] (by kernel_rfl) (by kernel_rfl) ⟨tv, tv, tv⟩ ?_
  refine AW.tn ?_
  refine AW.ret ?_
  refine AW.tr ?_
  obtain rfl := some_inj h
  exact ⟨_, conv_tm (tm' := [(3, vi64 2), (2, vl 1 Ru32 ([] : List Int))]) ⟨⟨vi64 2, by kernel_rfl, ALe.refl _ _⟩, ⟨.c (.t (.v (.slice none 0 0))), by kernel_rfl, ALe.c (CLe.nil rfl)⟩, tv⟩, .inr rfl, OutOk.mk [] 0 (out0 := .tup [vl 1 Ru32 ([] : List Int), vi64 2]) (ps := [True, True]) (by kernel_rfl) ⟨tv, tv, tv⟩ (by kernel_rfl) (by kernel_rfl)⟩
 ·rw [if_neg (nb c1)] at h
  refine AW.skip ?_
  refine AW.tn ?_
  refine AW.seq ?_
  obtain ⟨y2, e3, h⟩ := bnd_some h
  refine AW.reg tt_ok1 [2, 3] [] [{}, {}, {}, {}, {}, { h := { row := some (([u32.wrap p0, u32.wrap (ishr .i64 p0 32)] : List Int).length, Ru32 ([u32.wrap p0, u32.wrap (ishr .i64 p0 32)] : List Int)) } }, { call := some { ids := [], frz := [9], flat := false, cnt := 0, args := [vl 1 Ru32 ([u32.wrap p0, u32.wrap (ishr .i64 p0 32)] : List Int)], out := vl 1 Ru32 y2, outb := [] } }] ⟨[(3, vi64 0), (2, vl 1 Ru32 y2)], [], 12⟩ [True, True, True, 0 ≤ (32 : Int), True, 2 = ([u32.wrap p0, u32.wrap (ishr .i64 p0 32)] : List Int).length ∧ ∀ i, i < ([u32.wrap p0, u32.wrap (ishr .i64 p0 32)] : List Int).length → ∀ j, j < 1 → TLe ((rowOf [.v (.int .u32 (u32.wrap p0)), .v (.int .u32 (u32.wrap (ishr .i64 p0 32)))] 1) i j) (Ru32 ([u32.wrap p0, u32.wrap (ishr .i64 p0 32)] : List Int) i j), ((0 + ([u32.wrap p0, u32.wrap (ishr .i64 p0 32)] : List Int).length ≤ ([u32.wrap p0, u32.wrap (ishr .i64 p0 32)] : List Int).length) ∧ (True)) ∧ (All2 ArgLe [vl 1 Ru32 ([u32.wrap p0, u32.wrap (ishr .i64 p0 32)] : List Int)] [vl 1 Ru32 ([u32.wrap p0, u32.wrap (ishr .i64 p0 32)] : List Int)]) ∧ ((false = true → flatB [])) ∧ (Con Try.prog 41 [vl 1 Ru32 ([u32.wrap p0, u32.wrap (ishr .i64 p0 32)] : List Int)] [] (vl 1 Ru32 y2) []), True, True] (by kernel_rfl) (by kernel_rfl) ⟨tv, tv, tv, (by decide), tv, ⟨rfl, lit_row (n := 2) (sz := 1) ⟨⟨tv, ⟨tv, TLe.refl _⟩⟩, ⟨tv, TLe.refl _⟩⟩⟩, ⟨⟨le0, tv⟩, ⟨ArgLe.refl _, tv⟩, (fun h => by cases h), (natural_trim_con ([u32.wrap p0, u32.wrap (ishr .i64 p0 32)] : List Int) y2 e3)⟩, tv, tv, tv⟩ ?_
  refine AW.tn ?_
  refine AW.ret ?_
  obtain rfl := some_inj h
  exact ⟨_, Conv.refl _ _, .inr rfl, OutOk.mk [] 0 (out0 := .tup [vl 1 Ru32 y2, vi64 0]) (ps := [True, True]) (by kernel_rfl) ⟨tv, tv, tv⟩ (by kernel_rfl) (by kernel_rfl)⟩
/-! recordlink/recordlinkref10.trim -/
noncomputable def rl_ref10_trim_k34 (x2 : List Int) (x4 : Bool) : Option ((List Int) ⊕ (List Int)) := if x4 = true then (if 0 ≤ (i64.wrap (((x2.length : Nat) : Int) - 1)) then (if ((i64.wrap (((x2.length : Nat) : Int) - 1)).toNat) ≤ x2.length then (some (.inl (x2.take ((i64.wrap (((x2.length : Nat) : Int) - 1)).toNat)))) else none) else none) else (some (.inr x2))
noncomputable def rl_ref10_trim_l30 (x2 : List Int) : Option ((List Int) ⊕ (List Int)) := if (decide (((x2.length : Nat) : Int) > 0)) = true then (if 0 ≤ (i64.wrap (((x2.length : Nat) : Int) - 1)) then (if (i64.wrap (((x2.length : Nat) : Int) - 1)) < ((x2.length : Nat) : Int) then ((some ((x2.getD ((i64.wrap (((x2.length : Nat) : Int) - 1)).toNat) 0))).bind fun z11 => (rl_ref10_trim_k34 x2 ((x2.getD ((i64.wrap (((x2.length : Nat) : Int) - 1)).toNat) 0) == 0))) else none) else none) else (rl_ref10_trim_k34 x2 false)
noncomputable def rl_ref10_trim (p0 : List Int) : Option (List Int) := (loop (fun v : List Int => rl_ref10_trim_l30 v) p0).bind fun x13 => (some x13)
set_option maxRecDepth 100000 in
set_option maxHeartbeats 10000000 in
theorem rl_ref10_trim_con (p0 : List Int) (r0 : List Int) (h : rl_ref10_trim p0 = some r0) : Con Try.prog 45 [vl 1 Ru32 p0] [] (vl 1 Ru32 r0) [] := by
 revert h; generalize r0 = r; intro h
 refine con_of tt_ok1 0 Try.func45 (by kernel_rfl) rfl (by kernel_rfl) (fun base X hk => AW.post ?_)
 unfold rl_ref10_trim at h
 refine AW.seq ?_
 refine AW.reg tt_ok1 [0] [] [] ⟨[(0, vl 1 Ru32 p0)], [], 1⟩ [True] (by kernel_rfl) (by kernel_rfl) ⟨tv, tv⟩ ?_
 refine AW.tn ?_
 refine AW.seq ?_
 refine AW.block ?_
 obtain ⟨x13, l14, h⟩ := bnd_some h
 refine AW.pre (S' := ((fun v => ⟨[(0, vl 1 Ru32 v)], [], 0⟩) : (List Int) → St) p0) (conv_ren [] [0] (n := 0) (by kernel_rfl) (by kernel_rfl)) ?_
 refine AW.loop2 (step := (fun v : List Int => rl_ref10_trim_l30 v)) (s0 := p0) (t := x13) (fun v => ⟨[(0, vl 1 Ru32 v)], [], 0⟩) (fun t : List Int => (.exit 0, ⟨[(0, vl 1 Ru32 t)], [], 0⟩)) l14 (fun _ => tv) ?_ ?_
 ·
  intro v o h
  obtain ⟨x2, rfl⟩ : ∃ x, x = v := ⟨_, rfl⟩
  replace h : rl_ref10_trim_l30 x2 = some o := h
  unfold rl_ref10_trim_l30 at h
  show AW _ ⟨[(0, vl 1 Ru32 x2)], [], 0⟩ _ _
  refine AW.seq ?_
  refine AW.seq ?_
  refine AW.join (ι := Bool) (fun v => ⟨[(0, vl 1 Ru32 x2), (14, vb v)], [], 0⟩) (fun v : Bool => rl_ref10_trim_k34 x2 v = some o) (fun v h => ?_) ?_
  ·
   obtain ⟨x4, rfl⟩ : ∃ x, x = v := ⟨_, rfl⟩
   replace h : rl_ref10_trim_k34 x2 x4 = some o := h
   unfold rl_ref10_trim_k34 at h
   show (_ : Exit → St → Prop) .normal ⟨[(0, vl 1 Ru32 x2), (14, vb x4)], [], 0⟩
   refine AW.tn ?_
   refine AW.cond (b := x4) (by kernel_rfl) (fun c5 => ?_) (fun c5 => ?_)
   ·rw [if_pos c5] at h
    refine AW.skip ?_
    refine AW.tn ?_
    refine AW.block ?_
    obtain ⟨g6, h⟩ := ifc h
    obtain ⟨g7, h⟩ := ifc h
    refine AW.reg tt_ok1 [0] [] [] ⟨[(0, .c (.t (.tree ((i64.wrap (((x2.length : Nat) : Int) - 1)).toNat) 1 (Ru32 x2))))], [], 6⟩ [True, True, True, True, (True) ∧ (0 ≤ (i64.wrap (((x2.length : Nat) : Int) - 1))) ∧ (0 ≤ ((i64.wrap (((x2.length : Nat) : Int) - 1)).toNat)) ∧ (((i64.wrap (((x2.length : Nat) : Int) - 1)).toNat) ≤ x2.length), True] (by kernel_rfl) (by kernel_rfl) ⟨tv, tv, tv, tv, ⟨tv, g6, (Nat.zero_le _), g7⟩, tv, tv⟩ ?_
    refine AW.inBlock_normal ?_
    obtain rfl := some_inj h
    refine loopQ_next (Conv.trans (conv_tm (tm' := [(0, vl 1 Ru32 (x2.take ((i64.wrap (((x2.length : Nat) : Int) - 1)).toNat)))]) ⟨⟨.c (.t (.tree ((i64.wrap (((x2.length : Nat) : Int) - 1)).toNat) 1 (Ru32 x2))), by kernel_rfl, ALe.c (CAle.cle (CAle.tree (take_row (by omega))))⟩, tv⟩) (conv_ren [] [0] (n := 0) (by kernel_rfl) (by kernel_rfl)))
   ·rw [if_neg (nb c5)] at h
    refine AW.exit ?_
    refine AW.thenQ_exit ?_
    obtain rfl := some_inj h
    refine loopQ_out rfl (conv_ren [] [0] (n := 0) (by kernel_rfl) (by kernel_rfl))
  ·
   by_cases c8 : (decide (((x2.length : Nat) : Int) > 0)) = true
   ·rw [if_pos c8] at h
    obtain ⟨g9, h⟩ := ifc h
    obtain ⟨g10, h⟩ := ifc h
    obtain ⟨z11, n12, h⟩ := bnd_some h
    replace n12 := some_inj n12
    refine AW.reg tt_ok1 [0, 7, 8, 9, 10, 11, 12, 13, 14] [] [{}, {}, { h := { b := some true } }] ⟨[(14, vb ((x2.getD ((i64.wrap (((x2.length : Nat) : Int) - 1)).toNat) 0) == 0)), (13, vb ((x2.getD ((i64.wrap (((x2.length : Nat) : Int) - 1)).toNat) 0) == 0)), (12, vu32 (x2.getD ((i64.wrap (((x2.length : Nat) : Int) - 1)).toNat) 0)), (11, .c (.t (.eptr 1 (Ru32 x2 ((i64.wrap (((x2.length : Nat) : Int) - 1)).toNat)) 0))), (10, vi64 (i64.wrap (((x2.length : Nat) : Int) - 1))), (9, vi64 ((x2.length : Nat) : Int)), (8, vl 1 Ru32 x2), (7, vl 1 Ru32 x2), (0, vl 1 Ru32 x2)], [], 12⟩ [True, True, (decide (((x2.length : Nat) : Int) > 0)) = true, True, True, True, True, True, (0 ≤ (i64.wrap (((x2.length : Nat) : Int) - 1))) ∧ ((i64.wrap (((x2.length : Nat) : Int) - 1)) < ((x2.length : Nat) : Int)), True, True, True] (by kernel_rfl) (by kernel_rfl) ⟨tv, tv, c8, tv, tv, tv, tv, tv, ⟨g9, g10⟩, tv, tv, tv, tv⟩ ?_
    refine eq_Q (S' := ⟨[(14, vb ((x2.getD ((i64.wrap (((x2.length : Nat) : Int) - 1)).toNat) 0) == 0)), (13, vb ((x2.getD ((i64.wrap (((x2.length : Nat) : Int) - 1)).toNat) 0) == 0)), (12, vu32 z11), (11, .c (.t (.eptr 1 (Ru32 x2 ((i64.wrap (((x2.length : Nat) : Int) - 1)).toNat)) 0))), (10, vi64 (i64.wrap (((x2.length : Nat) : Int) - 1))), (9, vi64 ((x2.length : Nat) : Int)), (8, vl 1 Ru32 x2), (7, vl 1 Ru32 x2), (0, vl 1 Ru32 x2)], [], 12⟩) (by rw [n12]) ?_
    exact joinQ_leaf (((x2.getD ((i64.wrap (((x2.length : Nat) : Int) - 1)).toNat) 0) == 0)) h (conv_ren [] [0, 14] (n := 0) (by kernel_rfl) (by kernel_rfl))
   ·rw [if_neg c8] at h
    refine AW.reg tt_ok1 [0, 7, 8, 9, 10, 11, 12, 13, 14] [] [{}, {}, { h := { b := some false } }] ⟨[(14, vb false), (13, .tup []), (12, .tup []), (11, .tup []), (10, .tup []), (9, .tup []), (8, .tup []), (7, .tup []), (0, vl 1 Ru32 x2)], [], 12⟩ [True, True, (decide (((x2.length : Nat) : Int) > 0)) = false, True, True, True, True, True, True, True, True, True] (by kernel_rfl) (by kernel_rfl) ⟨tv, tv, (off_false c8), tv, tv, tv, tv, tv, tv, tv, tv, tv, tv⟩ ?_
    exact joinQ_leaf (false) h (conv_ren [] [0, 14] (n := 0) (by kernel_rfl) (by kernel_rfl))
 ·
  show (_ : Exit → St → Prop) (.exit 0) ⟨[(0, vl 1 Ru32 x13)], [], 0⟩
  refine AW.inBlock_hit ?_
  refine AW.tn ?_
  refine AW.seq ?_
  refine AW.reg tt_ok1 [2] [] [] ⟨[(2, vl 1 Ru32 x13)], [], 2⟩ [True, True] (by kernel_rfl) (by kernel_rfl) ⟨tv, tv, tv⟩ ?_
  refine AW.tn ?_
  refine AW.ret ?_
  obtain rfl := some_inj h
  exact ⟨_, Conv.refl _ _, .inr rfl, OutOk.mk [] 0 (out0 := vl 1 Ru32 x13) (ps := [True]) (by kernel_rfl) ⟨tv, tv⟩ (by kernel_rfl) (by kernel_rfl)⟩
/-! recordlink/recordlinkref10.FromInt -/
noncomputable def rl_ref10_FromInt (p0 : Int) : Option ((List Int) × Int) := if (decide (p0 < 0)) = true then (some (([] : List Int), 2)) else ((rl_ref10_trim ([u32.wrap p0, u32.wrap (ishr .i64 p0 32)] : List Int)).bind fun y2 => (some (y2, 0)))
set_option maxRecDepth 100000 in
set_option maxHeartbeats 10000000 in
theorem rl_ref10_FromInt_con (p0 : Int) (r0 : List Int) (r1 : Int) (h : rl_ref10_FromInt p0 = some (r0, r1)) : Con Try.prog 27 [vi64 p0] [] (.tup [vl 1 Ru32 r0, vi64 r1]) [] := by
 suffices H : ∀ r, rl_ref10_FromInt p0 = some r → Con Try.prog 27 [vi64 p0] [] (.tup [vl 1 Ru32 r.1, vi64 r.2]) [] from H (r0, r1) h
 clear h
 intro r h
 refine con_of tt_ok1 0 Try.func27 (by kernel_rfl) rfl (by kernel_rfl) (fun base X hk => AW.post ?_)
 unfold rl_ref10_FromInt at h
 refine AW.seq ?_
 refine AW.reg tt_ok1 [0] [] [] ⟨[(0, vi64 p0)], [], 2⟩ [True, True] (by kernel_rfl) (by kernel_rfl) ⟨tv, tv, tv⟩ ?_
 refine AW.tn ?_
 refine AW.seq ?_
 refine AW.seq ?_
 refine AW.reg tt_ok1 [0, 5] [] [] ⟨[(5, vb (decide (p0 < 0))), (0, vi64 p0)], [], 4⟩ [True, True] (by kernel_rfl) (by kernel_rfl) ⟨tv, tv, tv⟩ ?_
 refine AW.tn ?_
 refine AW.cond (b := decide (p0 < 0)) (by kernel_rfl) (fun c1 => ?_) (fun c1 => ?_)
 ·rw [if_pos c1] at h
  refine AW.seq ?_
  refine AW.reg tt_ok1 [2, 3] [] [] ⟨[(3, vi64 2), (2, .c (.t (.v (.slice none 0 0))))], [], 6⟩ [True, True] (by kernel_rfl) (by kernel_rfl) ⟨tv, tv, tv⟩ ?_
  refine AW.tn ?_
  refine AW.ret ?_
  refine AW.tr ?_
  obtain rfl := some_inj h
  exact ⟨_, conv_tm (tm' := [(3, vi64 2), (2, vl 1 Ru32 ([] : List Int))]) ⟨⟨vi64 2, by kernel_rfl, ALe.refl _ _⟩, ⟨.c (.t (.v (.slice none 0 0))), by kernel_rfl, ALe.c (CLe.nil rfl)⟩, tv⟩, .inr rfl, OutOk.mk [] 0 (out0 := .tup [vl 1 Ru32 ([] : List Int), vi64 2]) (ps := [True, True]) (by kernel_rfl) ⟨tv, tv, tv⟩ (by kernel_rfl) (by kernel_rfl)⟩
 ·rw [if_neg (nb c1)] at h
  refine AW.skip ?_
  refine AW.tn ?_
  refine AW.seq ?_
  obtain ⟨y2, e3, h⟩ := bnd_some h
  refine AW.reg tt_ok1 [2, 3] [] [{}, {}, {}, {}, {}, { h := { row := some (([u32.wrap p0, u32.wrap (ishr .i64 p0 32)] : List Int).length, Ru32 ([u32.wrap p0, u32.wrap (ishr .i64 p0 32)] : List Int)) } }, { call := some { ids := [], frz := [9], flat := false, cnt := 0, args := [vl 1 Ru32 ([u32.wrap p0, u32.wrap (ishr .i64 p0 32)] : List Int)], out := vl 1 Ru32 y2, outb := [] } }] ⟨[(3, vi64 0), (2, vl 1 Ru32 y2)], [], 12⟩ [True, True, True, 0 ≤ (32 : Int), True, 2 = ([u32.wrap p0, u32.wrap (ishr .i64 p0 32)] : List Int).length ∧ ∀ i, i < ([u32.wrap p0, u32.wrap (ishr .i64 p0 32)] : List Int).length → ∀ j, j < 1 → TLe ((rowOf [.v (.int .u32 (u32.wrap p0)), .v (.int .u32 (u32.wrap (ishr .i64 p0 32)))] 1) i j) (Ru32 ([u32.wrap p0, u32.wrap (ishr .i64 p0 32)] : List Int) i j), ((0 + ([u32.wrap p0, u32.wrap (ishr .i64 p0 32)] : List Int).length ≤ ([u32.wrap p0, u32.wrap (ishr .i64 p0 32)] : List Int).length) ∧ (True)) ∧ (All2 ArgLe [vl 1 Ru32 ([u32.wrap p0, u32.wrap (ishr .i64 p0 32)] : List Int)] [vl 1 Ru32 ([u32.wrap p0, u32.wrap (ishr .i64 p0 32)] : List Int)]) ∧ ((false = true → flatB [])) ∧ (Con Try.prog 45 [vl 1 Ru32 ([u32.wrap p0, u32.wrap (ishr .i64 p0 32)] : List Int)] [] (vl 1 Ru32 y2) []), True, True] (by kernel_rfl) (by kernel_rfl) ⟨tv, tv, tv, (by decide), tv, ⟨rfl, lit_row (n := 2) (sz := 1) ⟨⟨tv, ⟨tv, TLe.refl _⟩⟩, ⟨tv, TLe.refl _⟩⟩⟩, ⟨⟨le0, tv⟩, ⟨ArgLe.refl _, tv⟩, (fun h => by cases h), (rl_ref10_trim_con ([u32.wrap p0, u32.wrap (ishr .i64 p0 32)] : List Int) y2 e3)⟩, tv, tv, tv⟩ ?_
  refine AW.tn ?_
  refine AW.ret ?_
  obtain rfl := some_inj h
  exact ⟨_, Conv.refl _ _, .inr rfl, OutOk.mk [] 0 (out0 := .tup [vl 1 Ru32 y2, vi64 0]) (ps := [True, True]) (by kernel_rfl) ⟨tv, tv, tv⟩ (by kernel_rfl) (by kernel_rfl)⟩
/-! recordlink/recordlinkref10.Same -/
noncomputable def rl_ref10_Same_l4 (p0 : List Int) (p1 : List Int) (x3 : Int) : Option (Int ⊕ (Unit ⊕ Unit)) := if (decide (x3 < ((p0.length : Nat) : Int))) = true then (if 0 ≤ x3 then (if x3 < ((p0.length : Nat) : Int) then (if x3 < ((p1.length : Nat) : Int) then (if ((p0.getD x3.toNat 0) != (p1.getD x3.toNat 0)) = true then (some (.inr (.inr ()))) else (some (.inl (i64.wrap (x3 + 1))))) else none) else none) else none) else (some (.inr (.inl ())))
noncomputable def rl_ref10_Same_a5 : Option Bool := some true
noncomputable def rl_ref10_Same_a6 : Option Bool := some false
noncomputable def rl_ref10_Same (p0 : List Int) (p1 : List Int) : Option Bool := if (((p0.length : Nat) : Int) != ((p1.length : Nat) : Int)) = true then (some false) else (bindE (loop (fun v : Int => rl_ref10_Same_l4 p0 p1 v) 0) (fun t => rl_ref10_Same_a5) (fun t => rl_ref10_Same_a6))
set_option maxRecDepth 100000 in
set_option maxHeartbeats 10000000 in
theorem rl_ref10_Same_con (p0 : List Int) (p1 : List Int) (r0 : Bool) (h : rl_ref10_Same p0 p1 = some r0) : Con Try.prog 16 [vl 1 Ru32 p0, vl 1 Ru32 p1] [] (vb r0) [] := by
 revert h; generalize r0 = r; intro h
 refine con_of tt_ok1 0 Try.func16 (by kernel_rfl) rfl (by kernel_rfl) (fun base X hk => AW.post ?_)
 unfold rl_ref10_Same at h
 refine AW.seq ?_
 refine AW.reg tt_ok1 [0, 1] [] [] ⟨[(0, vl 1 Ru32 p0), (1, vl 1 Ru32 p1)], [], 1⟩ [True] (by kernel_rfl) (by kernel_rfl) ⟨tv, tv⟩ ?_
 refine AW.tn ?_
 refine AW.seq ?_
 refine AW.seq ?_
 refine AW.reg tt_ok1 [0, 1, 10] [] [] ⟨[(10, vb (((p0.length : Nat) : Int) != ((p1.length : Nat) : Int))), (0, vl 1 Ru32 p0), (1, vl 1 Ru32 p1)], [], 6⟩ [True, True, True, True, True] (by kernel_rfl) (by kernel_rfl) ⟨tv, tv, tv, tv, tv, tv⟩ ?_
 refine AW.tn ?_
 refine AW.cond (b := (((p0.length : Nat) : Int) != ((p1.length : Nat) : Int))) (by kernel_rfl) (fun c1 => ?_) (fun c1 => ?_)
 ·rw [if_pos c1] at h
  refine AW.seq ?_
  refine AW.reg tt_ok1 [4] [] [] ⟨[(4, vb false)], [], 7⟩ [True] (by kernel_rfl) (by kernel_rfl) ⟨tv, tv⟩ ?_
  refine AW.tn ?_
  refine AW.ret ?_
  refine AW.tr ?_
  obtain rfl := some_inj h
  exact ⟨_, Conv.refl _ _, .inr rfl, OutOk.mk [] 0 (out0 := vb false) (ps := [True]) (by kernel_rfl) ⟨tv, tv⟩ (by kernel_rfl) (by kernel_rfl)⟩
 ·rw [if_neg (nb c1)] at h
  refine AW.skip ?_
  refine AW.tn ?_
  refine AW.seq ?_
  refine AW.seq ?_
  refine AW.reg tt_ok1 [0, 1, 5] [] [] ⟨[(5, vi64 0), (0, vl 1 Ru32 p0), (1, vl 1 Ru32 p1)], [], 7⟩ [True] (by kernel_rfl) (by kernel_rfl) ⟨tv, tv⟩ ?_
  refine AW.tn ?_
  refine AW.block ?_
  rcases bindE_some h with ⟨t, l9, h⟩ | ⟨t, l9, h⟩
  ·
   replace h : rl_ref10_Same_a5 = some r := h
   unfold rl_ref10_Same_a5 at h
   refine AW.pre (S' := ((fun v => ⟨[(0, vl 1 Ru32 p0), (1, vl 1 Ru32 p1), (5, vi64 v)], [], 0⟩) : Int → St) 0) (conv_ren [] [0, 1, 5] (n := 0) (by kernel_rfl) (by kernel_rfl)) ?_
   refine AW.loop2 (step := (fun v : Int => rl_ref10_Same_l4 p0 p1 v)) (s0 := 0) (t := .inl ()) (fun v => ⟨[(0, vl 1 Ru32 p0), (1, vl 1 Ru32 p1), (5, vi64 v)], [], 0⟩) (fun t : (Unit ⊕ Unit) => match t with | .inl t => (.exit 0, ⟨[], [], 0⟩) | .inr t => (.ret, ⟨[(4, vb false)], [], 0⟩)) l9 (fun t => by cases t <;> trivial) ?_ ?_
   ·
    clear l9 h
    intro v o h
    obtain ⟨x3, rfl⟩ : ∃ x, x = v := ⟨_, rfl⟩
    replace h : rl_ref10_Same_l4 p0 p1 x3 = some o := h
    unfold rl_ref10_Same_l4 at h
    show AW _ ⟨[(0, vl 1 Ru32 p0), (1, vl 1 Ru32 p1), (5, vi64 x3)], [], 0⟩ _ _
    refine AW.seq ?_
    refine AW.seq ?_
    refine AW.reg tt_ok1 [0, 1, 5, 14] [] [] ⟨[(14, vb (decide (x3 < ((p0.length : Nat) : Int)))), (0, vl 1 Ru32 p0), (1, vl 1 Ru32 p1), (5, vi64 x3)], [], 4⟩ [True, True, True, True] (by kernel_rfl) (by kernel_rfl) ⟨tv, tv, tv, tv, tv⟩ ?_
    refine AW.tn ?_
    refine AW.cond (b := decide (x3 < ((p0.length : Nat) : Int))) (by kernel_rfl) (fun c4 => ?_) (fun c4 => ?_)
    ·rw [if_pos c4] at h
     refine AW.skip ?_
     refine AW.tn ?_
     refine AW.seq ?_
     refine AW.block ?_
     refine AW.seq ?_
     obtain ⟨g5, h⟩ := ifc h
     obtain ⟨g6, h⟩ := ifc h
     obtain ⟨g7, h⟩ := ifc h
     refine AW.regD tt_ok1 mo1 [0, 0, 3, 7, 0, 0, 48, 112, 255] [[], [], [], [], [], [], [], [], []] [0, 1, 5, 25] [] [] ⟨[(25, vb ((p0.getD x3.toNat 0) != (p1.getD x3.toNat 0))), (0, vl 1 Ru32 p0), (1, vl 1 Ru32 p1), (5, vi64 x3)], [], 13⟩ [True, True, (0 ≤ x3) ∧ (x3 < ((p0.length : Nat) : Int)), True, True, True, (0 ≤ x3) ∧ (x3 < ((p1.length : Nat) : Int)), True, True] (by kernel_rfl) (by kernel_rfl) ⟨tv, tv, ⟨g5, g6⟩, tv, tv, tv, ⟨g5, g7⟩, tv, tv, tv⟩ ?_
     refine AW.tn ?_
     refine AW.cond (b := ((p0.getD x3.toNat 0) != (p1.getD x3.toNat 0))) (by kernel_rfl) (fun c8 => ?_) (fun c8 => ?_)
     ·rw [if_pos c8] at h
      refine AW.seq ?_
      refine AW.reg tt_ok1 [4] [] [] ⟨[(4, vb false)], [], 14⟩ [True] (by kernel_rfl) (by kernel_rfl) ⟨tv, tv⟩ ?_
      refine AW.tn ?_
      refine AW.ret ?_
      refine AW.inBlock_ret ?_
      refine AW.tr ?_
      obtain rfl := some_inj h
      refine loopQ_out rfl (conv_ren [] [4] (n := 0) (by kernel_rfl) (by kernel_rfl))
     ·rw [if_neg (nb c8)] at h
      refine AW.skip ?_
      refine AW.inBlock_normal ?_
      refine AW.tn ?_
      refine AW.reg tt_ok1 [0, 1, 5] [] [] ⟨[(5, vi64 (i64.wrap (x3 + 1))), (0, vl 1 Ru32 p0), (1, vl 1 Ru32 p1)], [], 16⟩ [True, True, True] (by kernel_rfl) (by kernel_rfl) ⟨tv, tv, tv, tv⟩ ?_
      obtain rfl := some_inj h
      refine loopQ_next (conv_ren [] [0, 1, 5] (n := 0) (by kernel_rfl) (by kernel_rfl))
    ·rw [if_neg (nb c4)] at h
     refine AW.exit ?_
     refine AW.thenQ_exit ?_
     obtain rfl := some_inj h
     refine loopQ_out rfl (conv_ren [] [] (n := 0) (by kernel_rfl) (by kernel_rfl))
   ·
    show (_ : Exit → St → Prop) (.exit 0) ⟨[], [], 0⟩
    refine AW.inBlock_hit ?_
    refine AW.tn ?_
    refine AW.seq ?_
    refine AW.reg tt_ok1 [4] [] [] ⟨[(4, vb true)], [], 1⟩ [True] (by kernel_rfl) (by kernel_rfl) ⟨tv, tv⟩ ?_
    refine AW.tn ?_
    refine AW.ret ?_
    obtain rfl := some_inj h
    exact ⟨_, Conv.refl _ _, .inr rfl, OutOk.mk [] 0 (out0 := vb true) (ps := [True]) (by kernel_rfl) ⟨tv, tv⟩ (by kernel_rfl) (by kernel_rfl)⟩
  ·
   replace h : rl_ref10_Same_a6 = some r := h
   unfold rl_ref10_Same_a6 at h
   refine AW.pre (S' := ((fun v => ⟨[(0, vl 1 Ru32 p0), (1, vl 1 Ru32 p1), (5, vi64 v)], [], 0⟩) : Int → St) 0) (conv_ren [] [0, 1, 5] (n := 0) (by kernel_rfl) (by kernel_rfl)) ?_
   refine AW.loop2 (step := (fun v : Int => rl_ref10_Same_l4 p0 p1 v)) (s0 := 0) (t := .inr ()) (fun v => ⟨[(0, vl 1 Ru32 p0), (1, vl 1 Ru32 p1), (5, vi64 v)], [], 0⟩) (fun t : (Unit ⊕ Unit) => match t with | .inl t => (.exit 0, ⟨[], [], 0⟩) | .inr t => (.ret, ⟨[(4, vb false)], [], 0⟩)) l9 (fun t => by cases t <;> trivial) ?_ ?_
   ·
    clear l9 h
    intro v o h
    obtain ⟨x3, rfl⟩ : ∃ x, x = v := ⟨_, rfl⟩
    replace h : rl_ref10_Same_l4 p0 p1 x3 = some o := h
    unfold rl_ref10_Same_l4 at h
    show AW _ ⟨[(0, vl 1 Ru32 p0), (1, vl 1 Ru32 p1), (5, vi64 x3)], [], 0⟩ _ _
    refine AW.seq ?_
    refine AW.seq ?_
    refine AW.reg tt_ok1 [0, 1, 5, 14] [] [] ⟨[(14, vb (decide (x3 < ((p0.length : Nat) : Int)))), (0, vl 1 Ru32 p0), (1, vl 1 Ru32 p1), (5, vi64 x3)], [], 4⟩ [True, True, True, True] (by kernel_rfl) (by kernel_rfl) ⟨tv, tv, tv, tv, tv⟩ ?_
    refine AW.tn ?_
    refine AW.cond (b := decide (x3 < ((p0.length : Nat) : Int))) (by kernel_rfl) (fun c4 => ?_) (fun c4 => ?_)
    ·rw [if_pos c4] at h
     refine AW.skip ?_
     refine AW.tn ?_
     refine AW.seq ?_
     refine AW.block ?_
     refine AW.seq ?_
     obtain ⟨g5, h⟩ := ifc h
     obtain ⟨g6, h⟩ := ifc h
     obtain ⟨g7, h⟩ := ifc h
     refine AW.regD tt_ok1 mo1 [0, 0, 3, 7, 0, 0, 48, 112, 255] [[], [], [], [], [], [], [], [], []] [0, 1, 5, 25] [] [] ⟨[(25, vb ((p0.getD x3.toNat 0) != (p1.getD x3.toNat 0))), (0, vl 1 Ru32 p0), (1, vl 1 Ru32 p1), (5, vi64 x3)], [], 13⟩ [True, True, (0 ≤ x3) ∧ (x3 < ((p0.length : Nat) : Int)), True, True, True, (0 ≤ x3) ∧ (x3 < ((p1.length : Nat) : Int)), True, True] (by kernel_rfl) (by kernel_rfl) ⟨tv, tv, ⟨g5, g6⟩, tv, tv, tv, ⟨g5, g7⟩, tv, tv, tv⟩ ?_
     refine AW.tn ?_
     refine AW.cond (b := ((p0.getD x3.toNat 0) != (p1.getD x3.toNat 0))) (by kernel_rfl) (fun c8 => ?_) (fun c8 => ?_)
     ·rw [if_pos c8] at h
      refine AW.seq ?_
      refine AW.reg tt_ok1 [4] [] [] ⟨[(4, vb false)], [], 14⟩ [True] (by kernel_rfl) (by kernel_rfl) ⟨tv, tv⟩ ?_
      refine AW.tn ?_
      refine AW.ret ?_
      refine AW.inBlock_ret ?_
      refine AW.tr ?_
      obtain rfl := some_inj h
      refine loopQ_out rfl (conv_ren [] [4] (n := 0) (by kernel_rfl) (by kernel_rfl))
     ·rw [if_neg (nb c8)] at h
      refine AW.skip ?_
      refine AW.inBlock_normal ?_
      refine AW.tn ?_
      refine AW.reg tt_ok1 [0, 1, 5] [] [] ⟨[(5, vi64 (i64.wrap (x3 + 1))), (0, vl 1 Ru32 p0), (1, vl 1 Ru32 p1)], [], 16⟩ [True, True, True] (by kernel_rfl) (by kernel_rfl) ⟨tv, tv, tv, tv⟩ ?_
      obtain rfl := some_inj h
      refine loopQ_next (conv_ren [] [0, 1, 5] (n := 0) (by kernel_rfl) (by kernel_rfl))
    ·rw [if_neg (nb c4)] at h
     refine AW.exit ?_
     refine AW.thenQ_exit ?_
     obtain rfl := some_inj h
     refine loopQ_out rfl (conv_ren [] [] (n := 0) (by kernel_rfl) (by kernel_rfl))
   ·
    show (_ : Exit → St → Prop) (.ret) ⟨[(4, vb false)], [], 0⟩
    refine AW.inBlock_ret ?_
    refine AW.tr ?_
    obtain rfl := some_inj h
    exact ⟨_, Conv.refl _ _, .inr rfl, OutOk.mk [] 0 (out0 := vb false) (ps := [True]) (by kernel_rfl) ⟨tv, tv⟩ (by kernel_rfl) (by kernel_rfl)⟩
/-! (*recordlink/recordlinkmake.Deck).Larger -/
noncomputable def rl_make_Deck_Larger_l2 (x8 : List Int) (x9 : List Int) (x10 : Int) (x11 : Int) : Option (((List Int) × (List Int) × Int × Int) ⊕ ((List Int) × (List Int) × Int × Int)) := bind2 (rl_make_Deck_Next (⟨x9, x10, x11⟩ : S_recordlinkmake_Deck) 2) fun y16 y17 => (if (decide (((x8.length : Nat) : Int) < (i64.wrap (64 - y16)))) = true then (bind2 (rl_make_Deck_Next y17 2147483648) fun y20 y21 => (if x8.length + ([u32.wrap (1 + (u32.wrap y20))] : List Int).length ≤ 1099511627776 then (some (.inl ((x8 ++ ([u32.wrap (1 + (u32.wrap y20))] : List Int)), y21.list, y21.at_, y21.state))) else none)) else (some (.inr (x8, y17.list, y17.at_, y17.state))))
noncomputable def rl_make_Deck_Larger (p0 : S_recordlinkmake_Deck) : Option ((List Int) × S_recordlinkmake_Deck) := bind2 (rl_make_Deck_Natural p0 64) fun y1 y2 => (bind4 (loop (fun v : (List Int) × (List Int) × Int × Int => rl_make_Deck_Larger_l2 v.1 v.2.1 v.2.2.1 v.2.2.2) (y1, y2.list, y2.at_, y2.state)) fun x24 x25 x26 x27 => (some (x24, (⟨x25, x26, x27⟩ : S_recordlinkmake_Deck))))
set_option maxRecDepth 100000 in
set_option maxHeartbeats 10000000 in
theorem rl_make_Deck_Larger_con (p0 : S_recordlinkmake_Deck) (r0 : List Int) (r1 : S_recordlinkmake_Deck) (h : rl_make_Deck_Larger p0 = some (r0, r1)) : Con Try.prog 24 [.c (.ptr 0 3 0 0)] [(0, .box 52 [cl 1 Ri64 p0.list, ci64 p0.at_, cu64 p0.state])] (.c (.ref 1 1 0 r0.length)) [(0, .box 52 [cl 1 Ri64 r1.list, ci64 r1.at_, cu64 r1.state]), (1, .row 37 false 1 r0.length (Ru32 r0))] := by
 suffices H : ∀ r, rl_make_Deck_Larger p0 = some r → Con Try.prog 24 [.c (.ptr 0 3 0 0)] [(0, .box 52 [cl 1 Ri64 p0.list, ci64 p0.at_, cu64 p0.state])] (.c (.ref 1 1 0 r.1.length)) [(0, .box 52 [cl 1 Ri64 r.2.list, ci64 r.2.at_, cu64 r.2.state]), (1, .row 37 false 1 r.1.length (Ru32 r.1))] from H (r0, r1) h
 clear h
 intro r h
 refine con_of tt_ok1 1 Try.func24 (by kernel_rfl) rfl (by kernel_rfl) (fun base X hk => AW.post ?_)
 unfold rl_make_Deck_Larger at h
 refine AW.seq ?_
 refine AW.reg tt_ok1 [0] [0] [] ⟨[(0, .c (.ptr 0 3 0 0))], [(0, .box 52 [cl 1 Ri64 p0.list, ci64 p0.at_, cu64 p0.state])], 2⟩ [True] (by kernel_rfl) (by kernel_rfl) ⟨tv, tv⟩ ?_
 refine AW.tn ?_
 refine AW.seq ?_
 obtain ⟨y1, y2, e3, h⟩ := bind2_some h
 refine AW.reg tt_ok1 [0, 3] [0, 3] [{}, { call := some { ids := [0], frz := [], flat := false, cnt := 1, args := [.c (.ptr 0 3 0 0), vi64 64], out := .c (.ref 1 1 0 y1.length), outb := [(0, .box 52 [cl 1 Ri64 y2.list, ci64 y2.at_, cu64 y2.state]), (1, .row 37 false 1 y1.length (Ru32 y1))] } }] ⟨[(3, .c (.ref 3 1 0 y1.length)), (0, .c (.ptr 0 3 0 0))], [(0, .box 52 [cl 1 Ri64 y2.list, ci64 y2.at_, cu64 y2.state]), (3, .row 37 false 1 y1.length (Ru32 y1))], 5⟩ [True, ((True) ∧ (True) ∧ (True)) ∧ (All2 ArgLe [.c (.ptr 0 3 0 0), vi64 64] [.c (.ptr 0 3 0 0), vi64 64]) ∧ ((false = true → flatB [(0, .box 52 [cl 1 Ri64 y2.list, ci64 y2.at_, cu64 y2.state]), (1, .row 37 false 1 y1.length (Ru32 y1))])) ∧ (Con Try.prog 13 [.c (.ptr 0 3 0 0), vi64 64] [(0, .box 52 [cl 1 Ri64 p0.list, ci64 p0.at_, cu64 p0.state])] (.c (.ref 1 1 0 y1.length)) [(0, .box 52 [cl 1 Ri64 y2.list, ci64 y2.at_, cu64 y2.state]), (1, .row 37 false 1 y1.length (Ru32 y1))]), True] (by kernel_rfl) (by kernel_rfl) ⟨tv, ⟨⟨tv, tv, tv⟩, ⟨ArgLe.refl _, ArgLe.refl _, tv⟩, (fun h => by cases h), (rl_make_Deck_Natural_con p0 64 y1 y2 e3)⟩, tv, tv⟩ ?_
 refine AW.tn ?_
 refine AW.seq ?_
 refine AW.block ?_
 obtain ⟨x24, x25, x26, x27, l28, h⟩ := bind4_some h
 refine AW.pre (S' := ((fun v => ⟨[(0, .c (.ptr 0 3 0 0)), (3, .c (.ref 1 1 0 v.1.length))], [(0, .box 52 [cl 1 Ri64 v.2.1, ci64 v.2.2.1, cu64 v.2.2.2]), (1, .row 37 false 1 v.1.length (Ru32 v.1))], 2⟩) : ((List Int) × (List Int) × Int × Int) → St) (y1, y2.list, y2.at_, y2.state)) (conv_ren [(0, 0), (1, 3)] [0, 3] (n := 2) (by kernel_rfl) (by kernel_rfl)) ?_
 refine AW.loop2 (step := (fun v : (List Int) × (List Int) × Int × Int => rl_make_Deck_Larger_l2 v.1 v.2.1 v.2.2.1 v.2.2.2)) (s0 := (y1, y2.list, y2.at_, y2.state)) (t := (x24, x25, x26, x27)) (fun v => ⟨[(0, .c (.ptr 0 3 0 0)), (3, .c (.ref 1 1 0 v.1.length))], [(0, .box 52 [cl 1 Ri64 v.2.1, ci64 v.2.2.1, cu64 v.2.2.2]), (1, .row 37 false 1 v.1.length (Ru32 v.1))], 2⟩) (fun t : (List Int) × (List Int) × Int × Int => (.exit 0, ⟨[(3, .c (.ref 1 1 0 t.1.length))], [(0, .box 52 [cl 1 Ri64 t.2.1, ci64 t.2.2.1, cu64 t.2.2.2]), (1, .row 37 false 1 t.1.length (Ru32 t.1))], 2⟩)) l28 (fun _ => tv) ?_ ?_
 ·
  intro v o h
  obtain ⟨x8, x9, x10, x11⟩ := v
  replace h : rl_make_Deck_Larger_l2 x8 x9 x10 x11 = some o := h
  unfold rl_make_Deck_Larger_l2 at h
  show AW _ ⟨[(0, .c (.ptr 0 3 0 0)), (3, .c (.ref 1 1 0 x8.length))], [(0, .box 52 [cl 1 Ri64 x9, ci64 x10, cu64 x11]), (1, .row 37 false 1 x8.length (Ru32 x8))], 2⟩ _ _
  refine AW.seq ?_
  refine AW.seq ?_
  obtain ⟨y16, y17, e18, h⟩ := bind2_some h
  refine AW.reg tt_ok1 [0, 3, 11] [0, 1] [{}, {}, {}, { call := some { ids := [0], frz := [], flat := false, cnt := 0, args := [.c (.ptr 0 3 0 0), vi64 2], out := vi64 y16, outb := [(0, .box 52 [cl 1 Ri64 y17.list, ci64 y17.at_, cu64 y17.state])] } }] ⟨[(11, vb (decide (((x8.length : Nat) : Int) < (i64.wrap (64 - y16))))), (0, .c (.ptr 0 3 0 0)), (3, .c (.ref 1 1 0 x8.length))], [(0, .box 52 [cl 1 Ri64 y17.list, ci64 y17.at_, cu64 y17.state]), (1, .row 37 false 1 x8.length (Ru32 x8))], 7⟩ [True, True, True, ((True) ∧ (True) ∧ (True)) ∧ (All2 ArgLe [.c (.ptr 0 3 0 0), vi64 2] [.c (.ptr 0 3 0 0), vi64 2]) ∧ ((false = true → flatB [(0, .box 52 [cl 1 Ri64 y17.list, ci64 y17.at_, cu64 y17.state])])) ∧ (Con Try.prog 26 [.c (.ptr 0 3 0 0), vi64 2] [(0, .box 52 [cl 1 Ri64 x9, ci64 x10, cu64 x11])] (vi64 y16) [(0, .box 52 [cl 1 Ri64 y17.list, ci64 y17.at_, cu64 y17.state])]), True, True] (by kernel_rfl) (by kernel_rfl) ⟨tv, tv, tv, ⟨⟨tv, tv, tv⟩, ⟨ArgLe.refl _, ArgLe.refl _, tv⟩, (fun h => by cases h), (rl_make_Deck_Next_con (⟨x9, x10, x11⟩ : S_recordlinkmake_Deck) 2 y16 y17 e18)⟩, tv, tv, tv⟩ ?_
  refine AW.tn ?_
  refine AW.cond (b := decide (((x8.length : Nat) : Int) < (i64.wrap (64 - y16)))) (by kernel_rfl) (fun c19 => ?_) (fun c19 => ?_)
  ·rw [if_pos c19] at h
   refine AW.skip ?_
   refine AW.tn ?_
   refine AW.block ?_
   obtain ⟨y20, y21, e22, h⟩ := bind2_some h
   obtain ⟨g23, h⟩ := ifc h
   refine AW.reg tt_ok1 [0, 3] [0, 12] [{}, {}, { call := some { ids := [0], frz := [], flat := false, cnt := 0, args := [.c (.ptr 0 3 0 0), vi64 2147483648], out := vi64 y20, outb := [(0, .box 52 [cl 1 Ri64 y21.list, ci64 y21.at_, cu64 y21.state])] } }, {}, {}, { h := { row := some (([u32.wrap (1 + (u32.wrap y20))] : List Int).length, Ru32 ([u32.wrap (1 + (u32.wrap y20))] : List Int)) } }, { h := { row := some ((x8 ++ ([u32.wrap (1 + (u32.wrap y20))] : List Int)).length, Ru32 (x8 ++ ([u32.wrap (1 + (u32.wrap y20))] : List Int))) } }] ⟨[(3, .c (.ref 12 1 0 ((x8 ++ ([u32.wrap (1 + (u32.wrap y20))] : List Int)).length))), (0, .c (.ptr 0 3 0 0))], [(12, .row 37 false 1 (x8 ++ ([u32.wrap (1 + (u32.wrap y20))] : List Int)).length (Ru32 (x8 ++ ([u32.wrap (1 + (u32.wrap y20))] : List Int)))), (0, .box 52 [cl 1 Ri64 y21.list, ci64 y21.at_, cu64 y21.state])], 14⟩ [True, True, ((True) ∧ (True) ∧ (True)) ∧ (All2 ArgLe [.c (.ptr 0 3 0 0), vi64 2147483648] [.c (.ptr 0 3 0 0), vi64 2147483648]) ∧ ((false = true → flatB [(0, .box 52 [cl 1 Ri64 y21.list, ci64 y21.at_, cu64 y21.state])])) ∧ (Con Try.prog 26 [.c (.ptr 0 3 0 0), vi64 2147483648] [(0, .box 52 [cl 1 Ri64 y17.list, ci64 y17.at_, cu64 y17.state])] (vi64 y20) [(0, .box 52 [cl 1 Ri64 y21.list, ci64 y21.at_, cu64 y21.state])]), True, True, 1 = ([u32.wrap (1 + (u32.wrap y20))] : List Int).length ∧ ∀ i, i < ([u32.wrap (1 + (u32.wrap y20))] : List Int).length → ∀ j, j < 1 → TLe ((rowOf [.v (.int .u32 (u32.wrap (1 + (u32.wrap y20))))] 1) i j) (Ru32 ([u32.wrap (1 + (u32.wrap y20))] : List Int) i j), (x8.length = x8.length) ∧ (0 + ([u32.wrap (1 + (u32.wrap y20))] : List Int).length ≤ ([u32.wrap (1 + (u32.wrap y20))] : List Int).length) ∧ ((x8.length + ([u32.wrap (1 + (u32.wrap y20))] : List Int).length ≤ 1099511627776) ∧ ((4 : Nat) ≤ 128)) ∧ (x8.length + ([u32.wrap (1 + (u32.wrap y20))] : List Int).length = (x8 ++ ([u32.wrap (1 + (u32.wrap y20))] : List Int)).length ∧ ∀ i, i < (x8 ++ ([u32.wrap (1 + (u32.wrap y20))] : List Int)).length → ∀ j, j < 1 → TLe ((appRow x8.length (Ru32 x8) (fun i j => Ru32 ([u32.wrap (1 + (u32.wrap y20))] : List Int) (0 + i) j)) i j) (Ru32 (x8 ++ ([u32.wrap (1 + (u32.wrap y20))] : List Int)) i j)), True] (by kernel_rfl) (by kernel_rfl) ⟨tv, tv, ⟨⟨tv, tv, tv⟩, ⟨ArgLe.refl _, ArgLe.refl _, tv⟩, (fun h => by cases h), (rl_make_Deck_Next_con y17 2147483648 y20 y21 e22)⟩, tv, tv, ⟨rfl, lit_row (n := 1) (sz := 1) ⟨tv, ⟨tv, TLe.refl _⟩⟩⟩, ⟨rfl, le0, ⟨g23, (by decide)⟩, rowT (app_row rfl rfl row_rfl (fun i _ j _ => congrArg (fun k => Ru32 ([u32.wrap (1 + (u32.wrap y20))] : List Int) k j) (Nat.zero_add i)))⟩, tv, tv⟩ ?_
   refine AW.inBlock_normal ?_
   obtain rfl := some_inj h
   refine loopQ_next (conv_ren [(0, 0), (1, 12)] [0, 3] (n := 2) (by kernel_rfl) (by kernel_rfl))
  ·rw [if_neg (nb c19)] at h
   refine AW.exit ?_
   refine AW.thenQ_exit ?_
   obtain rfl := some_inj h
   refine loopQ_out rfl (conv_ren [(0, 0), (1, 1)] [3] (n := 2) (by kernel_rfl) (by kernel_rfl))
 ·
  show (_ : Exit → St → Prop) (.exit 0) ⟨[(3, .c (.ref 1 1 0 x24.length))], [(0, .box 52 [cl 1 Ri64 x25, ci64 x26, cu64 x27]), (1, .row 37 false 1 x24.length (Ru32 x24))], 2⟩
  refine AW.inBlock_hit ?_
  refine AW.tn ?_
  refine AW.seq ?_
  refine AW.reg tt_ok1 [2] [0, 1] [] ⟨[(2, .c (.ref 1 1 0 x24.length))], [(0, .box 52 [cl 1 Ri64 x25, ci64 x26, cu64 x27]), (1, .row 37 false 1 x24.length (Ru32 x24))], 4⟩ [True, True] (by kernel_rfl) (by kernel_rfl) ⟨tv, tv, tv⟩ ?_
  refine AW.tn ?_
  refine AW.ret ?_
  obtain rfl := some_inj h
  exact ⟨_, Conv.refl _ _, .inr rfl, OutOk.mk [(0, 0), (1, 1)] 2 (out0 := .c (.ref 1 1 0 x24.length)) (ps := [True]) (by kernel_rfl) ⟨tv, tv⟩ (by kernel_rfl) (by kernel_rfl)⟩
/-! (*recordlink/recordlinkmake.Deck).Larger -/
set_option maxRecDepth 100000 in
set_option maxHeartbeats 10000000 in
theorem rl_make_Deck_Larger_conT (p0 : S_recordlinkmake_Deck) (r0 : List Int) (r1 : S_recordlinkmake_Deck) (h : rl_make_Deck_Larger p0 = some (r0, r1)) : Con Try.prog 24 [.c (.ptr 0 3 0 0)] [(0, .box 52 [cl 1 Ri64 p0.list, ci64 p0.at_, cu64 p0.state])] (vl 1 Ru32 r0) [(0, .box 52 [cl 1 Ri64 r1.list, ci64 r1.at_, cu64 r1.state])] := by
 suffices H : ∀ r, rl_make_Deck_Larger p0 = some r → Con Try.prog 24 [.c (.ptr 0 3 0 0)] [(0, .box 52 [cl 1 Ri64 p0.list, ci64 p0.at_, cu64 p0.state])] (vl 1 Ru32 r.1) [(0, .box 52 [cl 1 Ri64 r.2.list, ci64 r.2.at_, cu64 r.2.state])] from H (r0, r1) h
 clear h
 intro r h
 refine con_of tt_ok1 1 Try.func24 (by kernel_rfl) rfl (by kernel_rfl) (fun base X hk => AW.post ?_)
 unfold rl_make_Deck_Larger at h
 refine AW.seq ?_
 refine AW.reg tt_ok1 [0] [0] [] ⟨[(0, .c (.ptr 0 3 0 0))], [(0, .box 52 [cl 1 Ri64 p0.list, ci64 p0.at_, cu64 p0.state])], 2⟩ [True] (by kernel_rfl) (by kernel_rfl) ⟨tv, tv⟩ ?_
 refine AW.tn ?_
 refine AW.seq ?_
 obtain ⟨y1, y2, e3, h⟩ := bind2_some h
 refine AW.reg tt_ok1 [0, 3] [0, 3] [{}, { call := some { ids := [0], frz := [], flat := false, cnt := 1, args := [.c (.ptr 0 3 0 0), vi64 64], out := .c (.ref 1 1 0 y1.length), outb := [(0, .box 52 [cl 1 Ri64 y2.list, ci64 y2.at_, cu64 y2.state]), (1, .row 37 false 1 y1.length (Ru32 y1))] } }] ⟨[(3, .c (.ref 3 1 0 y1.length)), (0, .c (.ptr 0 3 0 0))], [(0, .box 52 [cl 1 Ri64 y2.list, ci64 y2.at_, cu64 y2.state]), (3, .row 37 false 1 y1.length (Ru32 y1))], 5⟩ [True, ((True) ∧ (True) ∧ (True)) ∧ (All2 ArgLe [.c (.ptr 0 3 0 0), vi64 64] [.c (.ptr 0 3 0 0), vi64 64]) ∧ ((false = true → flatB [(0, .box 52 [cl 1 Ri64 y2.list, ci64 y2.at_, cu64 y2.state]), (1, .row 37 false 1 y1.length (Ru32 y1))])) ∧ (Con Try.prog 13 [.c (.ptr 0 3 0 0), vi64 64] [(0, .box 52 [cl 1 Ri64 p0.list, ci64 p0.at_, cu64 p0.state])] (.c (.ref 1 1 0 y1.length)) [(0, .box 52 [cl 1 Ri64 y2.list, ci64 y2.at_, cu64 y2.state]), (1, .row 37 false 1 y1.length (Ru32 y1))]), True] (by kernel_rfl) (by kernel_rfl) ⟨tv, ⟨⟨tv, tv, tv⟩, ⟨ArgLe.refl _, ArgLe.refl _, tv⟩, (fun h => by cases h), (rl_make_Deck_Natural_con p0 64 y1 y2 e3)⟩, tv, tv⟩ ?_
 refine AW.tn ?_
 refine AW.seq ?_
 refine AW.block ?_
 obtain ⟨x24, x25, x26, x27, l28, h⟩ := bind4_some h
 refine AW.pre (S' := ((fun v => ⟨[(0, .c (.ptr 0 3 0 0)), (3, .c (.ref 1 1 0 v.1.length))], [(0, .box 52 [cl 1 Ri64 v.2.1, ci64 v.2.2.1, cu64 v.2.2.2]), (1, .row 37 false 1 v.1.length (Ru32 v.1))], 2⟩) : ((List Int) × (List Int) × Int × Int) → St) (y1, y2.list, y2.at_, y2.state)) (conv_ren [(0, 0), (1, 3)] [0, 3] (n := 2) (by kernel_rfl) (by kernel_rfl)) ?_
 refine AW.loop2 (step := (fun v : (List Int) × (List Int) × Int × Int => rl_make_Deck_Larger_l2 v.1 v.2.1 v.2.2.1 v.2.2.2)) (s0 := (y1, y2.list, y2.at_, y2.state)) (t := (x24, x25, x26, x27)) (fun v => ⟨[(0, .c (.ptr 0 3 0 0)), (3, .c (.ref 1 1 0 v.1.length))], [(0, .box 52 [cl 1 Ri64 v.2.1, ci64 v.2.2.1, cu64 v.2.2.2]), (1, .row 37 false 1 v.1.length (Ru32 v.1))], 2⟩) (fun t : (List Int) × (List Int) × Int × Int => (.exit 0, ⟨[(3, .c (.ref 1 1 0 t.1.length))], [(0, .box 52 [cl 1 Ri64 t.2.1, ci64 t.2.2.1, cu64 t.2.2.2]), (1, .row 37 false 1 t.1.length (Ru32 t.1))], 2⟩)) l28 (fun _ => tv) ?_ ?_
 ·
  intro v o h
  obtain ⟨x8, x9, x10, x11⟩ := v
  replace h : rl_make_Deck_Larger_l2 x8 x9 x10 x11 = some o := h
  unfold rl_make_Deck_Larger_l2 at h
  show AW _ ⟨[(0, .c (.ptr 0 3 0 0)), (3, .c (.ref 1 1 0 x8.length))], [(0, .box 52 [cl 1 Ri64 x9, ci64 x10, cu64 x11]), (1, .row 37 false 1 x8.length (Ru32 x8))], 2⟩ _ _
  refine AW.seq ?_
  refine AW.seq ?_
  obtain ⟨y16, y17, e18, h⟩ := bind2_some h
  refine AW.reg tt_ok1 [0, 3, 11] [0, 1] [{}, {}, {}, { call := some { ids := [0], frz := [], flat := false, cnt := 0, args := [.c (.ptr 0 3 0 0), vi64 2], out := vi64 y16, outb := [(0, .box 52 [cl 1 Ri64 y17.list, ci64 y17.at_, cu64 y17.state])] } }] ⟨[(11, vb (decide (((x8.length : Nat) : Int) < (i64.wrap (64 - y16))))), (0, .c (.ptr 0 3 0 0)), (3, .c (.ref 1 1 0 x8.length))], [(0, .box 52 [cl 1 Ri64 y17.list, ci64 y17.at_, cu64 y17.state]), (1, .row 37 false 1 x8.length (Ru32 x8))], 7⟩ [True, True, True, ((True) ∧ (True) ∧ (True)) ∧ (All2 ArgLe [.c (.ptr 0 3 0 0), vi64 2] [.c (.ptr 0 3 0 0), vi64 2]) ∧ ((false = true → flatB [(0, .box 52 [cl 1 Ri64 y17.list, ci64 y17.at_, cu64 y17.state])])) ∧ (Con Try.prog 26 [.c (.ptr 0 3 0 0), vi64 2] [(0, .box 52 [cl 1 Ri64 x9, ci64 x10, cu64 x11])] (vi64 y16) [(0, .box 52 [cl 1 Ri64 y17.list, ci64 y17.at_, cu64 y17.state])]), True, True] (by kernel_rfl) (by kernel_rfl) ⟨tv, tv, tv, ⟨⟨tv, tv, tv⟩, ⟨ArgLe.refl _, ArgLe.refl _, tv⟩, (fun h => by cases h), (rl_make_Deck_Next_con (⟨x9, x10, x11⟩ : S_recordlinkmake_Deck) 2 y16 y17 e18)⟩, tv, tv, tv⟩ ?_
  refine AW.tn ?_
  refine AW.cond (b := decide (((x8.length : Nat) : Int) < (i64.wrap (64 - y16)))) (by kernel_rfl) (fun c19 => ?_) (fun c19 => ?_)
  ·rw [if_pos c19] at h
   refine AW.skip ?_
   refine AW.tn ?_
   refine AW.block ?_
   obtain ⟨y20, y21, e22, h⟩ := bind2_some h
   obtain ⟨g23, h⟩ := ifc h
   refine AW.reg tt_ok1 [0, 3] [0, 12] [{}, {}, { call := some { ids := [0], frz := [], flat := false, cnt := 0, args := [.c (.ptr 0 3 0 0), vi64 2147483648], out := vi64 y20, outb := [(0, .box 52 [cl 1 Ri64 y21.list, ci64 y21.at_, cu64 y21.state])] } }, {}, {}, { h := { row := some (([u32.wrap (1 + (u32.wrap y20))] : List Int).length, Ru32 ([u32.wrap (1 + (u32.wrap y20))] : List Int)) } }, { h := { row := some ((x8 ++ ([u32.wrap (1 + (u32.wrap y20))] : List Int)).length, Ru32 (x8 ++ ([u32.wrap (1 + (u32.wrap y20))] : List Int))) } }] ⟨[(3, .c (.ref 12 1 0 ((x8 ++ ([u32.wrap (1 + (u32.wrap y20))] : List Int)).length))), (0, .c (.ptr 0 3 0 0))], [(12, .row 37 false 1 (x8 ++ ([u32.wrap (1 + (u32.wrap y20))] : List Int)).length (Ru32 (x8 ++ ([u32.wrap (1 + (u32.wrap y20))] : List Int)))), (0, .box 52 [cl 1 Ri64 y21.list, ci64 y21.at_, cu64 y21.state])], 14⟩ [True, True, ((True) ∧ (True) ∧ (True)) ∧ (All2 ArgLe [.c (.ptr 0 3 0 0), vi64 2147483648] [.c (.ptr 0 3 0 0), vi64 2147483648]) ∧ ((false = true → flatB [(0, .box 52 [cl 1 Ri64 y21.list, ci64 y21.at_, cu64 y21.state])])) ∧ (Con Try.prog 26 [.c (.ptr 0 3 0 0), vi64 2147483648] [(0, .box 52 [cl 1 Ri64 y17.list, ci64 y17.at_, cu64 y17.state])] (vi64 y20) [(0, .box 52 [cl 1 Ri64 y21.list, ci64 y21.at_, cu64 y21.state])]), True, True, 1 = ([u32.wrap (1 + (u32.wrap y20))] : List Int).length ∧ ∀ i, i < ([u32.wrap (1 + (u32.wrap y20))] : List Int).length → ∀ j, j < 1 → TLe ((rowOf [.v (.int .u32 (u32.wrap (1 + (u32.wrap y20))))] 1) i j) (Ru32 ([u32.wrap (1 + (u32.wrap y20))] : List Int) i j), (x8.length = x8.length) ∧ (0 + ([u32.wrap (1 + (u32.wrap y20))] : List Int).length ≤ ([u32.wrap (1 + (u32.wrap y20))] : List Int).length) ∧ ((x8.length + ([u32.wrap (1 + (u32.wrap y20))] : List Int).length ≤ 1099511627776) ∧ ((4 : Nat) ≤ 128)) ∧ (x8.length + ([u32.wrap (1 + (u32.wrap y20))] : List Int).length = (x8 ++ ([u32.wrap (1 + (u32.wrap y20))] : List Int)).length ∧ ∀ i, i < (x8 ++ ([u32.wrap (1 + (u32.wrap y20))] : List Int)).length → ∀ j, j < 1 → TLe ((appRow x8.length (Ru32 x8) (fun i j => Ru32 ([u32.wrap (1 + (u32.wrap y20))] : List Int) (0 + i) j)) i j) (Ru32 (x8 ++ ([u32.wrap (1 + (u32.wrap y20))] : List Int)) i j)), True] (by kernel_rfl) (by kernel_rfl) ⟨tv, tv, ⟨⟨tv, tv, tv⟩, ⟨ArgLe.refl _, ArgLe.refl _, tv⟩, (fun h => by cases h), (rl_make_Deck_Next_con y17 2147483648 y20 y21 e22)⟩, tv, tv, ⟨rfl, lit_row (n := 1) (sz := 1) ⟨tv, ⟨tv, TLe.refl _⟩⟩⟩, ⟨rfl, le0, ⟨g23, (by decide)⟩, rowT (app_row rfl rfl row_rfl (fun i _ j _ => congrArg (fun k => Ru32 ([u32.wrap (1 + (u32.wrap y20))] : List Int) k j) (Nat.zero_add i)))⟩, tv, tv⟩ ?_
   refine AW.inBlock_normal ?_
   obtain rfl := some_inj h
   refine loopQ_next (conv_ren [(0, 0), (1, 12)] [0, 3] (n := 2) (by kernel_rfl) (by kernel_rfl))
  ·rw [if_neg (nb c19)] at h
   refine AW.exit ?_
   refine AW.thenQ_exit ?_
   obtain rfl := some_inj h
   refine loopQ_out rfl (conv_ren [(0, 0), (1, 1)] [3] (n := 2) (by kernel_rfl) (by kernel_rfl))
 ·
  show (_ : Exit → St → Prop) (.exit 0) ⟨[(3, .c (.ref 1 1 0 x24.length))], [(0, .box 52 [cl 1 Ri64 x25, ci64 x26, cu64 x27]), (1, .row 37 false 1 x24.length (Ru32 x24))], 2⟩
  refine AW.inBlock_hit ?_
  refine AW.tn ?_
  refine AW.seq ?_
  refine AW.reg tt_ok1 [2] [0, 1] [] ⟨[(2, .c (.ref 1 1 0 x24.length))], [(0, .box 52 [cl 1 Ri64 x25, ci64 x26, cu64 x27]), (1, .row 37 false 1 x24.length (Ru32 x24))], 4⟩ [True, True] (by kernel_rfl) (by kernel_rfl) ⟨tv, tv, tv⟩ ?_
  refine AW.tn ?_
  refine AW.ret ?_
  obtain rfl := some_inj h
  exact ⟨_, Conv.trans (conv_row (id := 1) (ty := 37) (fro := false) (fro' := true) (sz := 1) (n := x24.length) (m := x24.length) (f := Ru32 x24) (g := Ru32 x24) (by kernel_rfl) (.inr rfl) rfl row_rfl) (conv_tm (tm' := [(2, vl 1 Ru32 x24)]) ⟨⟨.c (.ref 1 1 0 x24.length), by kernel_rfl, ALe.c (CLe.ref (ty := 37) (f := Ru32 x24) (by kernel_rfl) le0)⟩, tv⟩), .inr rfl, OutOk.mk [(0, 0)] 1 (out0 := vl 1 Ru32 x24) (ps := [True]) (by kernel_rfl) ⟨tv, tv⟩ (by kernel_rfl) (by kernel_rfl)⟩
def Elu32 (x : List Int) : List T := [.tree x.length 1 (Ru32 x)]
def Rlu32 (xs : List (List Int)) : Nat → Nat → T := rowL ([] : List Int) Elu32 xs
/-! recordlink/natural.Add -/
noncomputable def natural_Add_k19 (x11 : List Int) (x13 : Int) (x21 : Int) : Option (((List Int) × Int × Int) ⊕ ((List Int) × Int)) := if x13 < ((x11.length : Nat) : Int) then (some (.inl ((x11.set (0 + x13.toNat) (u32.wrap x21)), ishr .u64 x21 32, i64.wrap (x13 + 1)))) else none
noncomputable def natural_Add_l17 (x4 : List Int) (x5 : List Int) (x11 : List Int) (x12 : Int) (x13 : Int) : Option (((List Int) × Int × Int) ⊕ ((List Int) × Int)) := if (decide (x13 < ((x4.length : Nat) : Int))) = true then (if 0 ≤ x13 then (if x13 < ((x4.length : Nat) : Int) then ((some (u64.wrap (x12 + (u64.wrap (x4.getD x13.toNat 0))))).bind fun z19 => (if (decide (x13 < ((x5.length : Nat) : Int))) = true then (if x13 < ((x5.length : Nat) : Int) then ((some (u64.wrap (z19 + (u64.wrap (x5.getD x13.toNat 0))))).bind fun z25 => (natural_Add_k19 x11 x13 z25)) else none) else (natural_Add_k19 x11 x13 z19))) else none) else none) else (some (.inr (x11, x12)))
noncomputable def natural_Add_k1 (x4 : List Int) (x5 : List Int) : Option ((List Int) × Int) := if 0 ≤ (i64.wrap (((x4.length : Nat) : Int) + 1)) then (if (i64.wrap (((x4.length : Nat) : Int) + 1)) ≤ 1099511627776 then (bind2 (loop (fun v : (List Int) × Int × Int => natural_Add_l17 x4 x5 v.1 v.2.1 v.2.2) ((List.replicate ((i64.wrap (((x4.length : Nat) : Int) + 1)).toNat) (0 : Int)), 0, 0)) fun x27 x28 => (if 0 ≤ ((x4.length : Nat) : Int) then (if ((x4.length : Nat) : Int) < ((x27.length : Nat) : Int) then (bind2 (natural_done (x27.set (0 + ((x4.length : Nat) : Int).toNat) (u32.wrap x28))) fun y31 y32 => (some (y31, y32))) else none) else none)) else none) else none
noncomputable def natural_Add (p0 : List Int) (p1 : List Int) : Option ((List Int) × Int) := (natural_both p0 p1).bind fun y1 => (if (y1 != 0) = true then (some (([] : List Int), y1)) else (if (decide (((p0.length : Nat) : Int) < ((p1.length : Nat) : Int))) = true then (natural_Add_k1 p1 p0) else (natural_Add_k1 p0 p1)))
set_option maxRecDepth 100000 in
set_option maxHeartbeats 10000000 in
theorem natural_Add_con (p0 : List Int) (p1 : List Int) (r0 : List Int) (r1 : Int) (h : natural_Add p0 p1 = some (r0, r1)) : Con Try.prog 14 [vl 1 Ru32 p0, vl 1 Ru32 p1] [] (.tup [vl 1 Ru32 r0, vi64 r1]) [] := by
 suffices H : ∀ r, natural_Add p0 p1 = some r → Con Try.prog 14 [vl 1 Ru32 p0, vl 1 Ru32 p1] [] (.tup [vl 1 Ru32 r.1, vi64 r.2]) [] from H (r0, r1) h
 clear h
 intro r h
 refine con_of tt_ok1 0 Try.func14 (by kernel_rfl) rfl (by kernel_rfl) (fun base X hk => AW.post ?_)
 unfold natural_Add at h
 refine AW.seq ?_
 refine AW.reg tt_ok1 [0, 1] [] [] ⟨[(0, vl 1 Ru32 p0), (1, vl 1 Ru32 p1)], [], 2⟩ [True, True] (by kernel_rfl) (by kernel_rfl) ⟨tv, tv, tv⟩ ?_
 refine AW.tn ?_
 refine AW.seq ?_
 refine AW.seq ?_
 obtain ⟨y1, e2, h⟩ := bnd_some h
 refine AW.reg tt_ok1 [0, 1, 6] [] [{}, {}, { call := some { ids := [], frz := [], flat := true, cnt := 0, args := [vl 1 Ru32 p0, vl 1 Ru32 p1], out := vi64 y1, outb := [] } }] ⟨[(6, vi64 y1), (0, vl 1 Ru32 p0), (1, vl 1 Ru32 p1)], [], 5⟩ [True, True, ((True) ∧ (True) ∧ (True)) ∧ (All2 ArgLe [vl 1 Ru32 p0, vl 1 Ru32 p1] [vl 1 Ru32 p0, vl 1 Ru32 p1]) ∧ ((true = true → flatB [])) ∧ (Con Try.prog 36 [vl 1 Ru32 p0, vl 1 Ru32 p1] [] (vi64 y1) []), True] (by kernel_rfl) (by kernel_rfl) ⟨tv, tv, ⟨⟨tv, tv, tv⟩, ⟨ArgLe.refl _, ArgLe.refl _, tv⟩, (fun _ => tv), (natural_both_con p0 p1 y1 e2)⟩, tv, tv⟩ ?_
 refine AW.tn ?_
 refine AW.seq ?_
 refine AW.reg tt_ok1 [0, 1, 6, 15] [] [] ⟨[(15, vb (y1 != 0)), (6, vi64 y1), (0, vl 1 Ru32 p0), (1, vl 1 Ru32 p1)], [], 7⟩ [True, True] (by kernel_rfl) (by kernel_rfl) ⟨tv, tv, tv⟩ ?_
 refine AW.tn ?_
 refine AW.cond (b := (y1 != 0)) (by kernel_rfl) (fun c3 => ?_) (fun c3 => ?_)
 ·rw [if_pos c3] at h
  refine AW.seq ?_
  refine AW.reg tt_ok1 [4, 5] [] [] ⟨[(5, vi64 y1), (4, .c (.t (.v (.slice none 0 0))))], [], 10⟩ [True, True, True] (by kernel_rfl) (by kernel_rfl) ⟨tv, tv, tv, tv⟩ ?_
  refine AW.tn ?_
  refine AW.ret ?_
  refine AW.tr ?_
  obtain rfl := some_inj h
  exact ⟨_, conv_tm (tm' := [(5, vi64 y1), (4, vl 1 Ru32 ([] : List Int))]) ⟨⟨vi64 y1, by kernel_rfl, ALe.refl _ _⟩, ⟨.c (.t (.v (.slice none 0 0))), by kernel_rfl, ALe.c (CLe.nil rfl)⟩, tv⟩, .inr rfl, OutOk.mk [] 0 (out0 := .tup [vl 1 Ru32 ([] : List Int), vi64 y1]) (ps := [True, True]) (by kernel_rfl) ⟨tv, tv, tv⟩ (by kernel_rfl) (by kernel_rfl)⟩
 ·rw [if_neg (nb c3)] at h
  refine AW.skip ?_
  refine AW.tn ?_
  refine AW.seq ?_
  refine AW.join (ι := (List Int) × (List Int)) (fun v => ⟨[(0, vl 1 Ru32 v.1), (1, vl 1 Ru32 v.2)], [], 0⟩) (fun v : (List Int) × (List Int) => natural_Add_k1 v.1 v.2 = some r) (fun v h => ?_) ?_
  ·
   obtain ⟨x4, x5⟩ := v
   replace h : natural_Add_k1 x4 x5 = some r := h
   unfold natural_Add_k1 at h
   show (_ : Exit → St → Prop) .normal ⟨[(0, vl 1 Ru32 x4), (1, vl 1 Ru32 x5)], [], 0⟩
   refine AW.tn ?_
   refine AW.seq ?_
   obtain ⟨g6, h⟩ := ifc h
   obtain ⟨g7, h⟩ := ifc h
   refine AW.reg tt_ok1 [0, 1, 7] [3] [{}, {}, {}, { h := { row := some ((List.replicate ((i64.wrap (((x4.length : Nat) : Int) + 1)).toNat) (0 : Int)).length, Ru32 (List.replicate ((i64.wrap (((x4.length : Nat) : Int) + 1)).toNat) (0 : Int))) } }] ⟨[(7, .c (.ref 3 1 0 ((List.replicate ((i64.wrap (((x4.length : Nat) : Int) + 1)).toNat) (0 : Int)).length))), (0, vl 1 Ru32 x4), (1, vl 1 Ru32 x5)], [(3, .row 37 false 1 (List.replicate ((i64.wrap (((x4.length : Nat) : Int) + 1)).toNat) (0 : Int)).length (Ru32 (List.replicate ((i64.wrap (((x4.length : Nat) : Int) + 1)).toNat) (0 : Int))))], 5⟩ [True, True, True, ((0 ≤ (i64.wrap (((x4.length : Nat) : Int) + 1))) ∧ ((i64.wrap (((x4.length : Nat) : Int) + 1)) ≤ (i64.wrap (((x4.length : Nat) : Int) + 1))) ∧ ((i64.wrap (((x4.length : Nat) : Int) + 1)) ≤ 1099511627776) ∧ ((4 : Nat) ≤ 128)) ∧ ((i64.wrap (((x4.length : Nat) : Int) + 1)).toNat = (List.replicate ((i64.wrap (((x4.length : Nat) : Int) + 1)).toNat) (0 : Int)).length ∧ ∀ i, i < (List.replicate ((i64.wrap (((x4.length : Nat) : Int) + 1)).toNat) (0 : Int)).length → ∀ j, j < 1 → TLe ((fun _ j => .v (([.int .u32 0] : List Value).getD j undef)) i j) (Ru32 (List.replicate ((i64.wrap (((x4.length : Nat) : Int) + 1)).toNat) (0 : Int)) i j)), True] (by kernel_rfl) (by kernel_rfl) ⟨tv, tv, tv, ⟨⟨g6, Int.le_refl _, g7, (by decide)⟩, mk_row (fun j hj => match j, hj with | 0, _ => TLe.refl _ | _ + 1, h => absurd h (by omega))⟩, tv, tv⟩ ?_
   refine AW.tn ?_
   refine AW.seq ?_
   refine AW.reg tt_ok1 [0, 1, 7, 8] [3] [] ⟨[(8, vu64 0), (7, .c (.ref 3 1 0 ((List.replicate ((i64.wrap (((x4.length : Nat) : Int) + 1)).toNat) (0 : Int)).length))), (0, vl 1 Ru32 x4), (1, vl 1 Ru32 x5)], [(3, .row 37 false 1 (List.replicate ((i64.wrap (((x4.length : Nat) : Int) + 1)).toNat) (0 : Int)).length (Ru32 (List.replicate ((i64.wrap (((x4.length : Nat) : Int) + 1)).toNat) (0 : Int))))], 6⟩ [True] (by kernel_rfl) (by kernel_rfl) ⟨tv, tv⟩ ?_
   refine AW.tn ?_
   refine AW.seq ?_
   refine AW.seq ?_
   refine AW.reg tt_ok1 [0, 1, 7, 8, 28, 29, 30] [3] [] ⟨[(30, vi64 0), (29, vi64 ((x4.length : Nat) : Int)), (28, vl 1 Ru32 x4), (8, vu64 0), (7, .c (.ref 3 1 0 ((List.replicate ((i64.wrap (((x4.length : Nat) : Int) + 1)).toNat) (0 : Int)).length))), (0, vl 1 Ru32 x4), (1, vl 1 Ru32 x5)], [(3, .row 37 false 1 (List.replicate ((i64.wrap (((x4.length : Nat) : Int) + 1)).toNat) (0 : Int)).length (Ru32 (List.replicate ((i64.wrap (((x4.length : Nat) : Int) + 1)).toNat) (0 : Int))))], 9⟩ [True, True, True] (by kernel_rfl) (by kernel_rfl) ⟨tv, tv, tv, tv⟩ ?_
   refine AW.tn ?_
   refine AW.block ?_
   obtain ⟨x27, x28, l34, h⟩ := bind2_some h
   refine AW.pre (S' := ((fun v => ⟨[(0, vl 1 Ru32 x4), (1, vl 1 Ru32 x5), (7, .c (.ref 0 1 0 v.1.length)), (8, vu64 v.2.1), (28, vl 1 Ru32 x4), (29, vi64 ((x4.length : Nat) : Int)), (30, vi64 v.2.2)], [(0, .row 37 false 1 v.1.length (Ru32 v.1))], 1⟩) : ((List Int) × Int × Int) → St) ((List.replicate ((i64.wrap (((x4.length : Nat) : Int) + 1)).toNat) (0 : Int)), 0, 0)) (conv_ren [(0, 3)] [0, 1, 7, 8, 28, 29, 30] (n := 1) (by kernel_rfl) (by kernel_rfl)) ?_
   refine AW.loop2 (step := (fun v : (List Int) × Int × Int => natural_Add_l17 x4 x5 v.1 v.2.1 v.2.2)) (s0 := ((List.replicate ((i64.wrap (((x4.length : Nat) : Int) + 1)).toNat) (0 : Int)), 0, 0)) (t := (x27, x28)) (fun v => ⟨[(0, vl 1 Ru32 x4), (1, vl 1 Ru32 x5), (7, .c (.ref 0 1 0 v.1.length)), (8, vu64 v.2.1), (28, vl 1 Ru32 x4), (29, vi64 ((x4.length : Nat) : Int)), (30, vi64 v.2.2)], [(0, .row 37 false 1 v.1.length (Ru32 v.1))], 1⟩) (fun t : (List Int) × Int => (.exit 0, ⟨[(0, vl 1 Ru32 x4), (7, .c (.ref 0 1 0 t.1.length)), (8, vu64 t.2)], [(0, .row 37 false 1 t.1.length (Ru32 t.1))], 1⟩)) l34 (fun _ => tv) ?_ ?_
   ·
    intro v o h
    obtain ⟨x11, x12, x13⟩ := v
    replace h : natural_Add_l17 x4 x5 x11 x12 x13 = some o := h
    unfold natural_Add_l17 at h
    show AW _ ⟨[(0, vl 1 Ru32 x4), (1, vl 1 Ru32 x5), (7, .c (.ref 0 1 0 x11.length)), (8, vu64 x12), (28, vl 1 Ru32 x4), (29, vi64 ((x4.length : Nat) : Int)), (30, vi64 x13)], [(0, .row 37 false 1 x11.length (Ru32 x11))], 1⟩ _ _
    refine AW.seq ?_
    refine AW.reg tt_ok1 [0, 1, 7, 8, 28, 29, 30, 31] [0] [] ⟨[(31, vb (decide (x13 < ((x4.length : Nat) : Int)))), (0, vl 1 Ru32 x4), (1, vl 1 Ru32 x5), (7, .c (.ref 0 1 0 x11.length)), (8, vu64 x12), (28, vl 1 Ru32 x4), (29, vi64 ((x4.length : Nat) : Int)), (30, vi64 x13)], [(0, .row 37 false 1 x11.length (Ru32 x11))], 2⟩ [True] (by kernel_rfl) (by kernel_rfl) ⟨tv, tv⟩ ?_
    refine AW.tn ?_
    refine AW.seq ?_
    refine AW.cond (b := decide (x13 < ((x4.length : Nat) : Int))) (by kernel_rfl) (fun c16 => ?_) (fun c16 => ?_)
    ·rw [if_pos c16] at h
     refine AW.skip ?_
     refine AW.tn ?_
     refine AW.seq ?_
     refine AW.block ?_
     refine AW.seq ?_
     obtain ⟨g17, h⟩ := ifc h
     obtain ⟨g18, h⟩ := ifc h
     refine AW.reg tt_ok1 [0, 1, 7, 8, 9, 10, 28, 29, 30] [0] [] ⟨[(10, vu32 (x4.getD x13.toNat 0)), (9, vi64 x13), (0, vl 1 Ru32 x4), (1, vl 1 Ru32 x5), (7, .c (.ref 0 1 0 x11.length)), (8, vu64 x12), (28, vl 1 Ru32 x4), (29, vi64 ((x4.length : Nat) : Int)), (30, vi64 x13)], [(0, .row 37 false 1 x11.length (Ru32 x11))], 7⟩ [True, (0 ≤ x13) ∧ (x13 < ((x4.length : Nat) : Int)), True, True, True] (by kernel_rfl) (by kernel_rfl) ⟨tv, ⟨g17, g18⟩, tv, tv, tv, tv⟩ ?_
     refine AW.tn ?_
     refine AW.seq ?_
     obtain ⟨z19, n20, h⟩ := bnd_some h
     replace n20 := some_inj n20
     refine AW.reg tt_ok1 [0, 1, 7, 8, 9, 28, 29, 30] [0] [] ⟨[(8, vu64 (u64.wrap (x12 + (u64.wrap (x4.getD x13.toNat 0))))), (9, vi64 x13), (0, vl 1 Ru32 x4), (1, vl 1 Ru32 x5), (7, .c (.ref 0 1 0 x11.length)), (28, vl 1 Ru32 x4), (29, vi64 ((x4.length : Nat) : Int)), (30, vi64 x13)], [(0, .row 37 false 1 x11.length (Ru32 x11))], 12⟩ [True, True, True, True, True] (by kernel_rfl) (by kernel_rfl) ⟨tv, tv, tv, tv, tv, tv⟩ ?_
     refine eq_Q (S' := ⟨[(8, vu64 z19), (9, vi64 x13), (0, vl 1 Ru32 x4), (1, vl 1 Ru32 x5), (7, .c (.ref 0 1 0 x11.length)), (28, vl 1 Ru32 x4), (29, vi64 ((x4.length : Nat) : Int)), (30, vi64 x13)], [(0, .row 37 false 1 x11.length (Ru32 x11))], 12⟩) (by rw [n20]) ?_
     refine AW.tn ?_
     refine AW.seq ?_
     refine AW.join (ι := Int) (fun v => ⟨[(0, vl 1 Ru32 x4), (1, vl 1 Ru32 x5), (7, .c (.ref 0 1 0 x11.length)), (8, vu64 v), (9, vi64 x13), (28, vl 1 Ru32 x4), (29, vi64 ((x4.length : Nat) : Int)), (30, vi64 x13)], [(0, .row 37 false 1 x11.length (Ru32 x11))], 1⟩) (fun v : Int => natural_Add_k19 x11 x13 v = some o) (fun v h => ?_) ?_
     ·
      obtain ⟨x21, rfl⟩ : ∃ x, x = v := ⟨_, rfl⟩
      replace h : natural_Add_k19 x11 x13 x21 = some o := h
      unfold natural_Add_k19 at h
      show (_ : Exit → St → Prop) .normal ⟨[(0, vl 1 Ru32 x4), (1, vl 1 Ru32 x5), (7, .c (.ref 0 1 0 x11.length)), (8, vu64 x21), (9, vi64 x13), (28, vl 1 Ru32 x4), (29, vi64 ((x4.length : Nat) : Int)), (30, vi64 x13)], [(0, .row 37 false 1 x11.length (Ru32 x11))], 1⟩
      refine AW.tn ?_
      refine AW.seq ?_
      obtain ⟨g22, h⟩ := ifc h
      refine AW.reg tt_ok1 [0, 1, 7, 8, 28, 29, 30] [0] [{}, {}, {}, {}, {}, { h := { row := some (x11.length, Ru32 (x11.set (0 + x13.toNat) (u32.wrap x21))) } }] ⟨[(0, vl 1 Ru32 x4), (1, vl 1 Ru32 x5), (7, .c (.ref 0 1 0 x11.length)), (8, vu64 x21), (28, vl 1 Ru32 x4), (29, vi64 ((x4.length : Nat) : Int)), (30, vi64 x13)], [(0, .row 37 false 1 x11.length (Ru32 (x11.set (0 + x13.toNat) (u32.wrap x21))))], 7⟩ [True, True, True, True, (0 ≤ x13) ∧ (x13 < ((x11.length : Nat) : Int)), ((0 + x13.toNat) < x11.length) ∧ (x11.length = x11.length ∧ ∀ i, i < x11.length → ∀ j, j < 1 → TLe (updRow (Ru32 x11) (0 + x13.toNat) 0 [.v (.int .u32 (u32.wrap x21))] i j) (Ru32 (x11.set (0 + x13.toNat) (u32.wrap x21)) i j))] (by kernel_rfl) (by kernel_rfl) ⟨tv, tv, tv, tv, ⟨g17, g22⟩, ⟨(by have h1 : 0 ≤ x13 := g17; have h2 : x13 < ((x11.length : Nat) : Int) := g22; omega), set_rowN rfl (by have h1 : 0 ≤ x13 := g17; have h2 : x13 < ((x11.length : Nat) : Int) := g22; omega) (fun j hj => match j, hj with | 0, _ => TLe.refl _ | _ + 1, h => absurd h (by omega))⟩, tv⟩ ?_
      refine AW.tn ?_
      refine AW.reg tt_ok1 [0, 1, 7, 8, 28, 29, 30] [0] [] ⟨[(8, vu64 (ishr .u64 x21 32)), (0, vl 1 Ru32 x4), (1, vl 1 Ru32 x5), (7, .c (.ref 0 1 0 x11.length)), (28, vl 1 Ru32 x4), (29, vi64 ((x4.length : Nat) : Int)), (30, vi64 x13)], [(0, .row 37 false 1 x11.length (Ru32 (x11.set (0 + x13.toNat) (u32.wrap x21))))], 10⟩ [True, 0 ≤ (32 : Int), True] (by kernel_rfl) (by kernel_rfl) ⟨tv, (by decide), tv, tv⟩ ?_
      refine AW.inBlock_normal ?_
      refine AW.tn ?_
      refine AW.reg tt_ok1 [0, 1, 7, 8, 28, 29, 30] [0] [] ⟨[(30, vi64 (i64.wrap (x13 + 1))), (8, vu64 (ishr .u64 x21 32)), (0, vl 1 Ru32 x4), (1, vl 1 Ru32 x5), (7, .c (.ref 0 1 0 x11.length)), (28, vl 1 Ru32 x4), (29, vi64 ((x4.length : Nat) : Int))], [(0, .row 37 false 1 x11.length (Ru32 (x11.set (0 + x13.toNat) (u32.wrap x21))))], 12⟩ [True, True] (by kernel_rfl) (by kernel_rfl) ⟨tv, tv, tv⟩ ?_
      obtain rfl := some_inj h
      refine loopQ_next (Conv.trans (conv_len (S' := ⟨[(30, vi64 (i64.wrap (x13 + 1))), (8, vu64 (ishr .u64 x21 32)), (0, vl 1 Ru32 x4), (1, vl 1 Ru32 x5), (7, .c (.ref 0 1 0 ((x11.set (0 + x13.toNat) (u32.wrap x21)).length))), (28, vl 1 Ru32 x4), (29, vi64 ((x4.length : Nat) : Int))], [(0, .row 37 false 1 (x11.set (0 + x13.toNat) (u32.wrap x21)).length (Ru32 (x11.set (0 + x13.toNat) (u32.wrap x21))))], 12⟩) (by simp only [List.length_set])) (conv_ren [(0, 0)] [0, 1, 7, 8, 28, 29, 30] (n := 1) (by kernel_rfl) (by kernel_rfl)))
     ·
      refine AW.seq ?_
      refine AW.reg tt_ok1 [0, 1, 7, 8, 9, 28, 29, 30, 42] [0] [] ⟨[(42, vb (decide (x13 < ((x5.length : Nat) : Int)))), (8, vu64 z19), (9, vi64 x13), (0, vl 1 Ru32 x4), (1, vl 1 Ru32 x5), (7, .c (.ref 0 1 0 x11.length)), (28, vl 1 Ru32 x4), (29, vi64 ((x4.length : Nat) : Int)), (30, vi64 x13)], [(0, .row 37 false 1 x11.length (Ru32 x11))], 16⟩ [True, True, True, True] (by kernel_rfl) (by kernel_rfl) ⟨tv, tv, tv, tv, tv⟩ ?_
      refine AW.tn ?_
      refine AW.cond (b := decide (x13 < ((x5.length : Nat) : Int))) (by kernel_rfl) (fun c23 => ?_) (fun c23 => ?_)
      ·rw [if_pos c23] at h
       obtain ⟨g24, h⟩ := ifc h
       obtain ⟨z25, n26, h⟩ := bnd_some h
       replace n26 := some_inj n26
       refine AW.reg tt_ok1 [0, 1, 7, 8, 9, 28, 29, 30] [0] [] ⟨[(8, vu64 (u64.wrap (z19 + (u64.wrap (x5.getD x13.toNat 0))))), (9, vi64 x13), (0, vl 1 Ru32 x4), (1, vl 1 Ru32 x5), (7, .c (.ref 0 1 0 x11.length)), (28, vl 1 Ru32 x4), (29, vi64 ((x4.length : Nat) : Int)), (30, vi64 x13)], [(0, .row 37 false 1 x11.length (Ru32 x11))], 24⟩ [True, True, True, (0 ≤ x13) ∧ (x13 < ((x5.length : Nat) : Int)), True, True, True, True] (by kernel_rfl) (by kernel_rfl) ⟨tv, tv, tv, ⟨g17, g24⟩, tv, tv, tv, tv, tv⟩ ?_
       refine eq_Q (S' := ⟨[(8, vu64 z25), (9, vi64 x13), (0, vl 1 Ru32 x4), (1, vl 1 Ru32 x5), (7, .c (.ref 0 1 0 x11.length)), (28, vl 1 Ru32 x4), (29, vi64 ((x4.length : Nat) : Int)), (30, vi64 x13)], [(0, .row 37 false 1 x11.length (Ru32 x11))], 24⟩) (by rw [n26]) ?_
       exact joinQ_leaf (z25) h (conv_ren [(0, 0)] [0, 1, 7, 8, 9, 28, 29, 30] (n := 1) (by kernel_rfl) (by kernel_rfl))
      ·rw [if_neg (nb c23)] at h
       refine AW.skip ?_
       exact joinQ_leaf (z19) h (conv_ren [(0, 0)] [0, 1, 7, 8, 9, 28, 29, 30] (n := 1) (by kernel_rfl) (by kernel_rfl))
    ·rw [if_neg (nb c16)] at h
     refine AW.exit ?_
     refine AW.thenQ_exit ?_
     obtain rfl := some_inj h
     refine loopQ_out rfl (conv_ren [(0, 0)] [0, 7, 8] (n := 1) (by kernel_rfl) (by kernel_rfl))
   ·
    show (_ : Exit → St → Prop) (.exit 0) ⟨[(0, vl 1 Ru32 x4), (7, .c (.ref 0 1 0 x27.length)), (8, vu64 x28)], [(0, .row 37 false 1 x27.length (Ru32 x27))], 1⟩
    refine AW.inBlock_hit ?_
    refine AW.tn ?_
    refine AW.seq ?_
    obtain ⟨g29, h⟩ := ifc h
    obtain ⟨g30, h⟩ := ifc h
    refine AW.reg tt_ok1 [7] [0] [{}, {}, {}, {}, {}, {}, { h := { row := some (x27.length, Ru32 (x27.set (0 + ((x4.length : Nat) : Int).toNat) (u32.wrap x28))) } }] ⟨[(7, .c (.ref 0 1 0 x27.length))], [(0, .row 37 false 1 x27.length (Ru32 (x27.set (0 + ((x4.length : Nat) : Int).toNat) (u32.wrap x28))))], 8⟩ [True, True, True, True, True, (0 ≤ ((x4.length : Nat) : Int)) ∧ (((x4.length : Nat) : Int) < ((x27.length : Nat) : Int)), ((0 + ((x4.length : Nat) : Int).toNat) < x27.length) ∧ (x27.length = x27.length ∧ ∀ i, i < x27.length → ∀ j, j < 1 → TLe (updRow (Ru32 x27) (0 + ((x4.length : Nat) : Int).toNat) 0 [.v (.int .u32 (u32.wrap x28))] i j) (Ru32 (x27.set (0 + ((x4.length : Nat) : Int).toNat) (u32.wrap x28)) i j))] (by kernel_rfl) (by kernel_rfl) ⟨tv, tv, tv, tv, tv, ⟨g29, g30⟩, ⟨(by have h1 : 0 ≤ ((x4.length : Nat) : Int) := g29; have h2 : ((x4.length : Nat) : Int) < ((x27.length : Nat) : Int) := g30; omega), set_rowN rfl (by have h1 : 0 ≤ ((x4.length : Nat) : Int) := g29; have h2 : ((x4.length : Nat) : Int) < ((x27.length : Nat) : Int) := g30; omega) (fun j hj => match j, hj with | 0, _ => TLe.refl _ | _ + 1, h => absurd h (by omega))⟩, tv⟩ ?_
    refine AW.tn ?_
    refine AW.seq ?_
    obtain ⟨y31, y32, e33, h⟩ := bind2_some h
    refine AW.reg tt_ok1 [4, 5] [] [{}, { call := some { ids := [], frz := [0], flat := false, cnt := 0, args := [.c (.t (.tree x27.length 1 (Ru32 (x27.set (0 + ((x4.length : Nat) : Int).toNat) (u32.wrap x28)))))], out := .tup [vl 1 Ru32 y31, vi64 y32], outb := [] } }] ⟨[(5, vi64 y32), (4, vl 1 Ru32 y31)], [], 13⟩ [True, ((0 + x27.length ≤ x27.length) ∧ (True)) ∧ (All2 ArgLe [.c (.t (.tree x27.length 1 (Ru32 (x27.set (0 + ((x4.length : Nat) : Int).toNat) (u32.wrap x28)))))] [.c (.t (.tree x27.length 1 (Ru32 (x27.set (0 + ((x4.length : Nat) : Int).toNat) (u32.wrap x28)))))]) ∧ ((false = true → flatB [])) ∧ (Con Try.prog 37 [.c (.t (.tree x27.length 1 (Ru32 (x27.set (0 + ((x4.length : Nat) : Int).toNat) (u32.wrap x28)))))] [] (.tup [vl 1 Ru32 y31, vi64 y32]) []), True, True, True, True] (by kernel_rfl) (by kernel_rfl) ⟨tv, ⟨⟨le0, tv⟩, ⟨ArgLe.refl _, tv⟩, (fun h => by cases h), (by have hc := (natural_done_con (x27.set (0 + ((x4.length : Nat) : Int).toNat) (u32.wrap x28)) y31 y32 e33); simpa only [List.length_set, vl, cl] using hc)⟩, tv, tv, tv, tv, tv⟩ ?_
    refine AW.tn ?_
    refine AW.ret ?_
    obtain rfl := some_inj h
    exact ⟨_, Conv.refl _ _, .inr rfl, OutOk.mk [] 0 (out0 := .tup [vl 1 Ru32 y31, vi64 y32]) (ps := [True, True]) (by kernel_rfl) ⟨tv, tv, tv⟩ (by kernel_rfl) (by kernel_rfl)⟩
  ·
   refine AW.seq ?_
   refine AW.reg tt_ok1 [0, 1, 21] [] [] ⟨[(21, vb (decide (((p0.length : Nat) : Int) < ((p1.length : Nat) : Int)))), (0, vl 1 Ru32 p0), (1, vl 1 Ru32 p1)], [], 12⟩ [True, True, True, True, True] (by kernel_rfl) (by kernel_rfl) ⟨tv, tv, tv, tv, tv, tv⟩ ?_
   refine AW.tn ?_
   refine AW.cond (b := decide (((p0.length : Nat) : Int) < ((p1.length : Nat) : Int))) (by kernel_rfl) (fun c35 => ?_) (fun c35 => ?_)
   ·rw [if_pos c35] at h
    refine AW.reg tt_ok1 [0, 1] [] [] ⟨[(1, vl 1 Ru32 p0), (0, vl 1 Ru32 p1)], [], 16⟩ [True, True, True, True] (by kernel_rfl) (by kernel_rfl) ⟨tv, tv, tv, tv, tv⟩ ?_
    exact joinQ_leaf ((p1, p0)) h (conv_ren [] [0, 1] (n := 0) (by kernel_rfl) (by kernel_rfl))
   ·rw [if_neg (nb c35)] at h
    refine AW.skip ?_
    exact joinQ_leaf ((p0, p1)) h (conv_ren [] [0, 1] (n := 0) (by kernel_rfl) (by kernel_rfl))
/-! recordlink/recordlinkref10.Valid -/
noncomputable def rl_ref10_Valid_k2 (x1 : Bool) : Option Bool := some x1
noncomputable def rl_ref10_Valid (p0 : List Int) : Option Bool := if (decide (((p0.length : Nat) : Int) ≤ 64)) = true then (if (((p0.length : Nat) : Int) == 0) = true then (rl_ref10_Valid_k2 true) else (if 0 ≤ (i64.wrap (((p0.length : Nat) : Int) - 1)) then (if (i64.wrap (((p0.length : Nat) : Int) - 1)) < ((p0.length : Nat) : Int) then (rl_ref10_Valid_k2 ((p0.getD ((i64.wrap (((p0.length : Nat) : Int) - 1)).toNat) 0) != 0)) else none) else none)) else (rl_ref10_Valid_k2 false)
set_option maxRecDepth 100000 in
set_option maxHeartbeats 10000000 in
theorem rl_ref10_Valid_con (p0 : List Int) (r0 : Bool) (h : rl_ref10_Valid p0 = some r0) : Con Try.prog 31 [vl 1 Ru32 p0] [] (vb r0) [] := by
 revert h; generalize r0 = r; intro h
 refine con_of tt_ok1 0 Try.func31 (by kernel_rfl) rfl (by kernel_rfl) (fun base X hk => AW.post ?_)
 unfold rl_ref10_Valid at h
 refine AW.seq ?_
 refine AW.reg tt_ok1 [0] [] [] ⟨[(0, vl 1 Ru32 p0)], [], 1⟩ [True] (by kernel_rfl) (by kernel_rfl) ⟨tv, tv⟩ ?_
 refine AW.tn ?_
 refine AW.seq ?_
 refine AW.join (ι := Bool) (fun v => ⟨[(2, vb v)], [], 0⟩) (fun v : Bool => rl_ref10_Valid_k2 v = some r) (fun v h => ?_) ?_
 ·
  obtain ⟨x1, rfl⟩ : ∃ x, x = v := ⟨_, rfl⟩
  replace h : rl_ref10_Valid_k2 x1 = some r := h
  unfold rl_ref10_Valid_k2 at h
  show (_ : Exit → St → Prop) .normal ⟨[(2, vb x1)], [], 0⟩
  refine AW.tn ?_
  refine AW.ret ?_
  obtain rfl := some_inj h
  exact ⟨_, Conv.refl _ _, .inr rfl, OutOk.mk [] 0 (out0 := vb x1) (ps := [True]) (by kernel_rfl) ⟨tv, tv⟩ (by kernel_rfl) (by kernel_rfl)⟩
 ·
  by_cases c2 : (decide (((p0.length : Nat) : Int) ≤ 64)) = true
  ·rw [if_pos c2] at h
   by_cases c3 : (((p0.length : Nat) : Int) == 0) = true
   ·rw [if_pos c3] at h
    refine AW.reg tt_ok1 [2] [] [{}, {}, { h := { b := some true } }, {}, {}, {}, { h := { b := some true } }] ⟨[(2, vb true)], [], 19⟩ [True, True, (decide (((p0.length : Nat) : Int) ≤ 64)) = true, True, True, True, (((p0.length : Nat) : Int) == 0) = true, True, True, True, True, True, True, True, True, True, True, True] (by kernel_rfl) (by kernel_rfl) ⟨tv, tv, c2, tv, tv, tv, c3, tv, tv, tv, tv, tv, tv, tv, tv, tv, tv, tv, tv⟩ ?_
    exact joinQ_leaf (true) h (conv_ren [] [2] (n := 0) (by kernel_rfl) (by kernel_rfl))
   ·rw [if_neg c3] at h
    obtain ⟨g4, h⟩ := ifc h
    obtain ⟨g5, h⟩ := ifc h
    refine AW.reg tt_ok1 [2] [] [{}, {}, { h := { b := some true } }, {}, {}, {}, { h := { b := some false } }] ⟨[(2, vb ((p0.getD ((i64.wrap (((p0.length : Nat) : Int) - 1)).toNat) 0) != 0))], [], 19⟩ [True, True, (decide (((p0.length : Nat) : Int) ≤ 64)) = true, True, True, True, (((p0.length : Nat) : Int) == 0) = false, True, True, True, True, True, (0 ≤ (i64.wrap (((p0.length : Nat) : Int) - 1))) ∧ ((i64.wrap (((p0.length : Nat) : Int) - 1)) < ((p0.length : Nat) : Int)), True, True, True, True, True] (by kernel_rfl) (by kernel_rfl) ⟨tv, tv, c2, tv, tv, tv, (off_false c3), tv, tv, tv, tv, tv, ⟨g4, g5⟩, tv, tv, tv, tv, tv, tv⟩ ?_
    exact joinQ_leaf (((p0.getD ((i64.wrap (((p0.length : Nat) : Int) - 1)).toNat) 0) != 0)) h (conv_ren [] [2] (n := 0) (by kernel_rfl) (by kernel_rfl))
  ·rw [if_neg c2] at h
   refine AW.reg tt_ok1 [2] [] [{}, {}, { h := { b := some false } }] ⟨[(2, vb false)], [], 19⟩ [True, True, (decide (((p0.length : Nat) : Int) ≤ 64)) = false, True, True, True, True, True, True, True, True, True, True, True, True, True, True, True] (by kernel_rfl) (by kernel_rfl) ⟨tv, tv, (off_false c2), tv, tv, tv, tv, tv, tv, tv, tv, tv, tv, tv, tv, tv, tv, tv, tv⟩ ?_
   exact joinQ_leaf (false) h (conv_ren [] [2] (n := 0) (by kernel_rfl) (by kernel_rfl))
/-! recordlink/recordlinkref10.sum -/
noncomputable def rl_ref10_sum_k66 (x4 : List Int) (x6 : Int) (x11 : Int) : Option (((List Int) × Int × Int) ⊕ (List Int)) := if x4.length + ([u32.wrap x11] : List Int).length ≤ 1099511627776 then (some (.inl ((x4 ++ ([u32.wrap x11] : List Int)), ishr .u64 x11 32, i64.wrap (x6 + 1)))) else none
noncomputable def rl_ref10_sum_k65 (p1 : List Int) (x4 : List Int) (x6 : Int) (x10 : Int) : Option (((List Int) × Int × Int) ⊕ (List Int)) := if (decide (x6 < ((p1.length : Nat) : Int))) = true then (if 0 ≤ x6 then (if x6 < ((p1.length : Nat) : Int) then ((some (u64.wrap (x10 + (u64.wrap (p1.getD x6.toNat 0))))).bind fun z16 => (rl_ref10_sum_k66 x4 x6 z16)) else none) else none) else (rl_ref10_sum_k66 x4 x6 x10)
noncomputable def rl_ref10_sum_k62 (p0 : List Int) (p1 : List Int) (x4 : List Int) (x5 : Int) (x6 : Int) (x8 : Bool) : Option (((List Int) × Int × Int) ⊕ (List Int)) := if x8 = true then (if (decide (x6 < ((p0.length : Nat) : Int))) = true then (if 0 ≤ x6 then (if x6 < ((p0.length : Nat) : Int) then ((some (u64.wrap (x5 + (u64.wrap (p0.getD x6.toNat 0))))).bind fun z21 => (rl_ref10_sum_k65 p1 x4 x6 z21)) else none) else none) else (rl_ref10_sum_k65 p1 x4 x6 x5)) else (some (.inr x4))
noncomputable def rl_ref10_sum_l58 (p0 : List Int) (p1 : List Int) (x4 : List Int) (x5 : Int) (x6 : Int) : Option (((List Int) × Int × Int) ⊕ (List Int)) := if (decide (x6 < ((p0.length : Nat) : Int))) = true then (rl_ref10_sum_k62 p0 p1 x4 x5 x6 true) else (if (decide (x6 < ((p1.length : Nat) : Int))) = true then (rl_ref10_sum_k62 p0 p1 x4 x5 x6 true) else (rl_ref10_sum_k62 p0 p1 x4 x5 x6 (decide (x5 > 0))))
noncomputable def rl_ref10_sum (p0 : List Int) (p1 : List Int) : Option (List Int) := (loop (fun v : (List Int) × Int × Int => rl_ref10_sum_l58 p0 p1 v.1 v.2.1 v.2.2) (([] : List Int), 0, 0)).bind fun x25 => ((rl_ref10_trim x25).bind fun y26 => (some y26))
set_option maxRecDepth 100000 in
set_option maxHeartbeats 10000000 in
theorem rl_ref10_sum_con (p0 : List Int) (p1 : List Int) (r0 : List Int) (h : rl_ref10_sum p0 p1 = some r0) : Con Try.prog 61 [vl 1 Ru32 p0, vl 1 Ru32 p1] [] (vl 1 Ru32 r0) [] := by
 revert h; generalize r0 = r; intro h
 refine con_of tt_ok1 0 Try.func61 (by kernel_rfl) rfl (by kernel_rfl) (fun base X hk => AW.post ?_)
 unfold rl_ref10_sum at h
 refine AW.seq ?_
 refine AW.reg tt_ok1 [0, 1] [] [] ⟨[(0, vl 1 Ru32 p0), (1, vl 1 Ru32 p1)], [], 1⟩ [True] (by kernel_rfl) (by kernel_rfl) ⟨tv, tv⟩ ?_
 refine AW.tn ?_
 refine AW.seq ?_
 refine AW.reg tt_ok1 [0, 1, 5] [] [] ⟨[(5, .c (.t (.v (.slice none 0 0)))), (0, vl 1 Ru32 p0), (1, vl 1 Ru32 p1)], [], 2⟩ [True] (by kernel_rfl) (by kernel_rfl) ⟨tv, tv⟩ ?_
 refine AW.tn ?_
 refine AW.seq ?_
 refine AW.reg tt_ok1 [0, 1, 5, 6] [] [] ⟨[(6, vu64 0), (5, .c (.t (.v (.slice none 0 0)))), (0, vl 1 Ru32 p0), (1, vl 1 Ru32 p1)], [], 3⟩ [True] (by kernel_rfl) (by kernel_rfl) ⟨tv, tv⟩ ?_
 refine AW.tn ?_
 refine AW.seq ?_
 refine AW.seq ?_
 refine AW.reg tt_ok1 [0, 1, 5, 6, 7] [] [] ⟨[(7, vi64 0), (6, vu64 0), (5, .c (.t (.v (.slice none 0 0)))), (0, vl 1 Ru32 p0), (1, vl 1 Ru32 p1)], [], 4⟩ [True] (by kernel_rfl) (by kernel_rfl) ⟨tv, tv⟩ ?_
 refine AW.tn ?_
 refine AW.block ?_
 obtain ⟨x25, l28, h⟩ := bnd_some h
 refine AW.pre (S' := ((fun v => ⟨[(0, vl 1 Ru32 p0), (1, vl 1 Ru32 p1), (5, .c (.ref 0 1 0 v.1.length)), (6, vu64 v.2.1), (7, vi64 v.2.2)], [(0, .row 37 false 1 v.1.length (Ru32 v.1))], 1⟩) : ((List Int) × Int × Int) → St) (([] : List Int), 0, 0)) (Conv.trans (conv_adopt (t := 5) (ty := 37) (sz := 1) (n := ([] : List Int).length) (f := Ru32 ([] : List Int)) (by kernel_rfl) rfl) (conv_ren [(0, 4)] [0, 1, 5, 6, 7] (n := 1) (by kernel_rfl) (by kernel_rfl))) ?_
 refine AW.loop2 (step := (fun v : (List Int) × Int × Int => rl_ref10_sum_l58 p0 p1 v.1 v.2.1 v.2.2)) (s0 := (([] : List Int), 0, 0)) (t := x25) (fun v => ⟨[(0, vl 1 Ru32 p0), (1, vl 1 Ru32 p1), (5, .c (.ref 0 1 0 v.1.length)), (6, vu64 v.2.1), (7, vi64 v.2.2)], [(0, .row 37 false 1 v.1.length (Ru32 v.1))], 1⟩) (fun t : List Int => (.exit 0, ⟨[(5, .c (.ref 0 1 0 t.length))], [(0, .row 37 false 1 t.length (Ru32 t))], 1⟩)) l28 (fun _ => tv) ?_ ?_
 ·
  intro v o h
  obtain ⟨x4, x5, x6⟩ := v
  replace h : rl_ref10_sum_l58 p0 p1 x4 x5 x6 = some o := h
  unfold rl_ref10_sum_l58 at h
  show AW _ ⟨[(0, vl 1 Ru32 p0), (1, vl 1 Ru32 p1), (5, .c (.ref 0 1 0 x4.length)), (6, vu64 x5), (7, vi64 x6)], [(0, .row 37 false 1 x4.length (Ru32 x4))], 1⟩ _ _
  refine AW.seq ?_
  refine AW.seq ?_
  refine AW.join (ι := Bool) (fun v => ⟨[(0, vl 1 Ru32 p0), (1, vl 1 Ru32 p1), (5, .c (.ref 0 1 0 x4.length)), (6, vu64 x5), (7, vi64 x6), (21, vb v)], [(0, .row 37 false 1 x4.length (Ru32 x4))], 1⟩) (fun v : Bool => rl_ref10_sum_k62 p0 p1 x4 x5 x6 v = some o) (fun v h => ?_) ?_
  ·
   obtain ⟨x8, rfl⟩ : ∃ x, x = v := ⟨_, rfl⟩
   replace h : rl_ref10_sum_k62 p0 p1 x4 x5 x6 x8 = some o := h
   unfold rl_ref10_sum_k62 at h
   show (_ : Exit → St → Prop) .normal ⟨[(0, vl 1 Ru32 p0), (1, vl 1 Ru32 p1), (5, .c (.ref 0 1 0 x4.length)), (6, vu64 x5), (7, vi64 x6), (21, vb x8)], [(0, .row 37 false 1 x4.length (Ru32 x4))], 1⟩
   refine AW.tn ?_
   refine AW.cond (b := x8) (by kernel_rfl) (fun c9 => ?_) (fun c9 => ?_)
   ·rw [if_pos c9] at h
    refine AW.skip ?_
    refine AW.tn ?_
    refine AW.seq ?_
    refine AW.block ?_
    refine AW.seq ?_
    refine AW.join (ι := Int) (fun v => ⟨[(0, vl 1 Ru32 p0), (1, vl 1 Ru32 p1), (5, .c (.ref 0 1 0 x4.length)), (6, vu64 v), (7, vi64 x6)], [(0, .row 37 false 1 x4.length (Ru32 x4))], 1⟩) (fun v : Int => rl_ref10_sum_k65 p1 x4 x6 v = some o) (fun v h => ?_) ?_
    ·
     obtain ⟨x10, rfl⟩ : ∃ x, x = v := ⟨_, rfl⟩
     replace h : rl_ref10_sum_k65 p1 x4 x6 x10 = some o := h
     unfold rl_ref10_sum_k65 at h
     show (_ : Exit → St → Prop) .normal ⟨[(0, vl 1 Ru32 p0), (1, vl 1 Ru32 p1), (5, .c (.ref 0 1 0 x4.length)), (6, vu64 x10), (7, vi64 x6)], [(0, .row 37 false 1 x4.length (Ru32 x4))], 1⟩
     refine AW.tn ?_
     refine AW.seq ?_
     refine AW.join (ι := Int) (fun v => ⟨[(0, vl 1 Ru32 p0), (1, vl 1 Ru32 p1), (5, .c (.ref 0 1 0 x4.length)), (6, vu64 v), (7, vi64 x6)], [(0, .row 37 false 1 x4.length (Ru32 x4))], 1⟩) (fun v : Int => rl_ref10_sum_k66 x4 x6 v = some o) (fun v h => ?_) ?_
     ·
      obtain ⟨x11, rfl⟩ : ∃ x, x = v := ⟨_, rfl⟩
      replace h : rl_ref10_sum_k66 x4 x6 x11 = some o := h
      unfold rl_ref10_sum_k66 at h
      show (_ : Exit → St → Prop) .normal ⟨[(0, vl 1 Ru32 p0), (1, vl 1 Ru32 p1), (5, .c (.ref 0 1 0 x4.length)), (6, vu64 x11), (7, vi64 x6)], [(0, .row 37 false 1 x4.length (Ru32 x4))], 1⟩
      refine AW.tn ?_
      refine AW.seq ?_
      obtain ⟨g12, h⟩ := ifc h
      refine AW.reg tt_ok1 [0, 1, 5, 6, 7] [5] [{}, {}, {}, { h := { row := some (([u32.wrap x11] : List Int).length, Ru32 ([u32.wrap x11] : List Int)) } }, { h := { row := some ((x4 ++ ([u32.wrap x11] : List Int)).length, Ru32 (x4 ++ ([u32.wrap x11] : List Int))) } }] ⟨[(5, .c (.ref 5 1 0 ((x4 ++ ([u32.wrap x11] : List Int)).length))), (0, vl 1 Ru32 p0), (1, vl 1 Ru32 p1), (6, vu64 x11), (7, vi64 x6)], [(5, .row 37 false 1 (x4 ++ ([u32.wrap x11] : List Int)).length (Ru32 (x4 ++ ([u32.wrap x11] : List Int))))], 7⟩ [True, True, True, 1 = ([u32.wrap x11] : List Int).length ∧ ∀ i, i < ([u32.wrap x11] : List Int).length → ∀ j, j < 1 → TLe ((rowOf [.v (.int .u32 (u32.wrap x11))] 1) i j) (Ru32 ([u32.wrap x11] : List Int) i j), (x4.length = x4.length) ∧ (0 + ([u32.wrap x11] : List Int).length ≤ ([u32.wrap x11] : List Int).length) ∧ ((x4.length + ([u32.wrap x11] : List Int).length ≤ 1099511627776) ∧ ((4 : Nat) ≤ 128)) ∧ (x4.length + ([u32.wrap x11] : List Int).length = (x4 ++ ([u32.wrap x11] : List Int)).length ∧ ∀ i, i < (x4 ++ ([u32.wrap x11] : List Int)).length → ∀ j, j < 1 → TLe ((appRow x4.length (Ru32 x4) (fun i j => Ru32 ([u32.wrap x11] : List Int) (0 + i) j)) i j) (Ru32 (x4 ++ ([u32.wrap x11] : List Int)) i j)), True] (by kernel_rfl) (by kernel_rfl) ⟨tv, tv, tv, ⟨rfl, lit_row (n := 1) (sz := 1) ⟨tv, ⟨tv, TLe.refl _⟩⟩⟩, ⟨rfl, le0, ⟨g12, (by decide)⟩, rowT (app_row rfl rfl row_rfl (fun i _ j _ => congrArg (fun k => Ru32 ([u32.wrap x11] : List Int) k j) (Nat.zero_add i)))⟩, tv, tv⟩ ?_
      refine AW.tn ?_
      refine AW.reg tt_ok1 [0, 1, 5, 6, 7] [5] [] ⟨[(6, vu64 (ishr .u64 x11 32)), (5, .c (.ref 5 1 0 ((x4 ++ ([u32.wrap x11] : List Int)).length))), (0, vl 1 Ru32 p0), (1, vl 1 Ru32 p1), (7, vi64 x6)], [(5, .row 37 false 1 (x4 ++ ([u32.wrap x11] : List Int)).length (Ru32 (x4 ++ ([u32.wrap x11] : List Int))))], 10⟩ [True, 0 ≤ (32 : Int), True] (by kernel_rfl) (by kernel_rfl) ⟨tv, (by decide), tv, tv⟩ ?_
      refine AW.inBlock_normal ?_
      refine AW.tn ?_
      refine AW.reg tt_ok1 [0, 1, 5, 6, 7] [5] [] ⟨[(7, vi64 (i64.wrap (x6 + 1))), (6, vu64 (ishr .u64 x11 32)), (5, .c (.ref 5 1 0 ((x4 ++ ([u32.wrap x11] : List Int)).length))), (0, vl 1 Ru32 p0), (1, vl 1 Ru32 p1)], [(5, .row 37 false 1 (x4 ++ ([u32.wrap x11] : List Int)).length (Ru32 (x4 ++ ([u32.wrap x11] : List Int))))], 13⟩ [True, True, True] (by kernel_rfl) (by kernel_rfl) ⟨tv, tv, tv, tv⟩ ?_
      obtain rfl := some_inj h
      refine loopQ_next (conv_ren [(0, 5)] [0, 1, 5, 6, 7] (n := 1) (by kernel_rfl) (by kernel_rfl))
     ·
      refine AW.seq ?_
      refine AW.reg tt_ok1 [0, 1, 5, 6, 7, 38] [0] [] ⟨[(38, vb (decide (x6 < ((p1.length : Nat) : Int)))), (0, vl 1 Ru32 p0), (1, vl 1 Ru32 p1), (5, .c (.ref 0 1 0 x4.length)), (6, vu64 x10), (7, vi64 x6)], [(0, .row 37 false 1 x4.length (Ru32 x4))], 5⟩ [True, True, True, True] (by kernel_rfl) (by kernel_rfl) ⟨tv, tv, tv, tv, tv⟩ ?_
      refine AW.tn ?_
      refine AW.cond (b := decide (x6 < ((p1.length : Nat) : Int))) (by kernel_rfl) (fun c13 => ?_) (fun c13 => ?_)
      ·rw [if_pos c13] at h
       obtain ⟨g14, h⟩ := ifc h
       obtain ⟨g15, h⟩ := ifc h
       obtain ⟨z16, n17, h⟩ := bnd_some h
       replace n17 := some_inj n17
       refine AW.reg tt_ok1 [0, 1, 5, 6, 7] [0] [] ⟨[(6, vu64 (u64.wrap (x10 + (u64.wrap (p1.getD x6.toNat 0))))), (0, vl 1 Ru32 p0), (1, vl 1 Ru32 p1), (5, .c (.ref 0 1 0 x4.length)), (7, vi64 x6)], [(0, .row 37 false 1 x4.length (Ru32 x4))], 13⟩ [True, True, True, (0 ≤ x6) ∧ (x6 < ((p1.length : Nat) : Int)), True, True, True, True] (by kernel_rfl) (by kernel_rfl) ⟨tv, tv, tv, ⟨g14, g15⟩, tv, tv, tv, tv, tv⟩ ?_
       refine eq_Q (S' := ⟨[(6, vu64 z16), (0, vl 1 Ru32 p0), (1, vl 1 Ru32 p1), (5, .c (.ref 0 1 0 x4.length)), (7, vi64 x6)], [(0, .row 37 false 1 x4.length (Ru32 x4))], 13⟩) (by rw [n17]) ?_
       exact joinQ_leaf (z16) h (conv_ren [(0, 0)] [0, 1, 5, 6, 7] (n := 1) (by kernel_rfl) (by kernel_rfl))
      ·rw [if_neg (nb c13)] at h
       refine AW.skip ?_
       exact joinQ_leaf (x10) h (conv_ren [(0, 0)] [0, 1, 5, 6, 7] (n := 1) (by kernel_rfl) (by kernel_rfl))
    ·
     refine AW.seq ?_
     refine AW.reg tt_ok1 [0, 1, 5, 6, 7, 27] [0] [] ⟨[(27, vb (decide (x6 < ((p0.length : Nat) : Int)))), (0, vl 1 Ru32 p0), (1, vl 1 Ru32 p1), (5, .c (.ref 0 1 0 x4.length)), (6, vu64 x5), (7, vi64 x6)], [(0, .row 37 false 1 x4.length (Ru32 x4))], 5⟩ [True, True, True, True] (by kernel_rfl) (by kernel_rfl) ⟨tv, tv, tv, tv, tv⟩ ?_
     refine AW.tn ?_
     refine AW.cond (b := decide (x6 < ((p0.length : Nat) : Int))) (by kernel_rfl) (fun c18 => ?_) (fun c18 => ?_)
     ·rw [if_pos c18] at h
      obtain ⟨g19, h⟩ := ifc h
      obtain ⟨g20, h⟩ := ifc h
      obtain ⟨z21, n22, h⟩ := bnd_some h
      replace n22 := some_inj n22
      refine AW.reg tt_ok1 [0, 1, 5, 6, 7] [0] [] ⟨[(6, vu64 (u64.wrap (x5 + (u64.wrap (p0.getD x6.toNat 0))))), (0, vl 1 Ru32 p0), (1, vl 1 Ru32 p1), (5, .c (.ref 0 1 0 x4.length)), (7, vi64 x6)], [(0, .row 37 false 1 x4.length (Ru32 x4))], 13⟩ [True, True, True, (0 ≤ x6) ∧ (x6 < ((p0.length : Nat) : Int)), True, True, True, True] (by kernel_rfl) (by kernel_rfl) ⟨tv, tv, tv, ⟨g19, g20⟩, tv, tv, tv, tv, tv⟩ ?_
      refine eq_Q (S' := ⟨[(6, vu64 z21), (0, vl 1 Ru32 p0), (1, vl 1 Ru32 p1), (5, .c (.ref 0 1 0 x4.length)), (7, vi64 x6)], [(0, .row 37 false 1 x4.length (Ru32 x4))], 13⟩) (by rw [n22]) ?_
      exact joinQ_leaf (z21) h (conv_ren [(0, 0)] [0, 1, 5, 6, 7] (n := 1) (by kernel_rfl) (by kernel_rfl))
     ·rw [if_neg (nb c18)] at h
      refine AW.skip ?_
      exact joinQ_leaf (x5) h (conv_ren [(0, 0)] [0, 1, 5, 6, 7] (n := 1) (by kernel_rfl) (by kernel_rfl))
   ·rw [if_neg (nb c9)] at h
    refine AW.exit ?_
    refine AW.thenQ_exit ?_
    obtain rfl := some_inj h
    refine loopQ_out rfl (conv_ren [(0, 0)] [5] (n := 1) (by kernel_rfl) (by kernel_rfl))
  ·
   by_cases c23 : (decide (x6 < ((p0.length : Nat) : Int))) = true
   ·rw [if_pos c23] at h
    refine AW.reg tt_ok1 [0, 1, 5, 6, 7, 13, 14, 15, 16, 19, 20, 21] [0] [{}, {}, {}, { h := { b := some true } }] ⟨[(21, vb true), (20, .tup []), (19, .tup []), (16, .tup []), (15, .tup []), (14, .tup []), (13, .tup []), (0, vl 1 Ru32 p0), (1, vl 1 Ru32 p1), (5, .c (.ref 0 1 0 x4.length)), (6, vu64 x5), (7, vi64 x6)], [(0, .row 37 false 1 x4.length (Ru32 x4))], 15⟩ [True, True, True, (decide (x6 < ((p0.length : Nat) : Int))) = true, True, True, True, True, True, True, True, True, True, True] (by kernel_rfl) (by kernel_rfl) ⟨tv, tv, tv, c23, tv, tv, tv, tv, tv, tv, tv, tv, tv, tv, tv⟩ ?_
    exact joinQ_leaf (true) h (conv_ren [(0, 0)] [0, 1, 5, 6, 7, 21] (n := 1) (by kernel_rfl) (by kernel_rfl))
   ·rw [if_neg c23] at h
    by_cases c24 : (decide (x6 < ((p1.length : Nat) : Int))) = true
    ·rw [if_pos c24] at h
     refine AW.reg tt_ok1 [0, 1, 5, 6, 7, 13, 14, 15, 16, 19, 20, 21] [0] [{}, {}, {}, { h := { b := some false } }, {}, {}, {}, {}, { h := { b := some true } }] ⟨[(21, vb true), (20, .tup []), (19, .tup []), (16, vb true), (15, vi64 ((p1.length : Nat) : Int)), (14, vl 1 Ru32 p1), (13, vi64 x6), (0, vl 1 Ru32 p0), (1, vl 1 Ru32 p1), (5, .c (.ref 0 1 0 x4.length)), (6, vu64 x5), (7, vi64 x6)], [(0, .row 37 false 1 x4.length (Ru32 x4))], 15⟩ [True, True, True, (decide (x6 < ((p0.length : Nat) : Int))) = false, True, True, True, True, (decide (x6 < ((p1.length : Nat) : Int))) = true, True, True, True, True, True] (by kernel_rfl) (by kernel_rfl) ⟨tv, tv, tv, (off_false c23), tv, tv, tv, tv, c24, tv, tv, tv, tv, tv, tv⟩ ?_
     exact joinQ_leaf (true) h (conv_ren [(0, 0)] [0, 1, 5, 6, 7, 21] (n := 1) (by kernel_rfl) (by kernel_rfl))
    ·rw [if_neg c24] at h
     refine AW.reg tt_ok1 [0, 1, 5, 6, 7, 13, 14, 15, 16, 19, 20, 21] [0] [{}, {}, {}, { h := { b := some false } }, {}, {}, {}, {}, { h := { b := some false } }] ⟨[(21, vb (decide (x5 > 0))), (20, vb (decide (x5 > 0))), (19, vu64 x5), (16, vb false), (15, vi64 ((p1.length : Nat) : Int)), (14, vl 1 Ru32 p1), (13, vi64 x6), (0, vl 1 Ru32 p0), (1, vl 1 Ru32 p1), (5, .c (.ref 0 1 0 x4.length)), (6, vu64 x5), (7, vi64 x6)], [(0, .row 37 false 1 x4.length (Ru32 x4))], 15⟩ [True, True, True, (decide (x6 < ((p0.length : Nat) : Int))) = false, True, True, True, True, (decide (x6 < ((p1.length : Nat) : Int))) = false, True, True, True, True, True] (by kernel_rfl) (by kernel_rfl) ⟨tv, tv, tv, (off_false c23), tv, tv, tv, tv, (off_false c24), tv, tv, tv, tv, tv, tv⟩ ?_
     exact joinQ_leaf (decide (x5 > 0)) h (conv_ren [(0, 0)] [0, 1, 5, 6, 7, 21] (n := 1) (by kernel_rfl) (by kernel_rfl))
 ·
  show (_ : Exit → St → Prop) (.exit 0) ⟨[(5, .c (.ref 0 1 0 x25.length))], [(0, .row 37 false 1 x25.length (Ru32 x25))], 1⟩
  refine AW.inBlock_hit ?_
  refine AW.tn ?_
  refine AW.seq ?_
  obtain ⟨y26, e27, h⟩ := bnd_some h
  refine AW.reg tt_ok1 [4] [] [{}, { call := some { ids := [], frz := [0], flat := false, cnt := 0, args := [vl 1 Ru32 x25], out := vl 1 Ru32 y26, outb := [] } }] ⟨[(4, vl 1 Ru32 y26)], [], 3⟩ [True, ((0 + x25.length ≤ x25.length) ∧ (True)) ∧ (All2 ArgLe [vl 1 Ru32 x25] [vl 1 Ru32 x25]) ∧ ((false = true → flatB [])) ∧ (Con Try.prog 45 [vl 1 Ru32 x25] [] (vl 1 Ru32 y26) []), True] (by kernel_rfl) (by kernel_rfl) ⟨tv, ⟨⟨le0, tv⟩, ⟨ArgLe.refl _, tv⟩, (fun h => by cases h), (rl_ref10_trim_con x25 y26 e27)⟩, tv, tv⟩ ?_
  refine AW.tn ?_
  refine AW.ret ?_
  obtain rfl := some_inj h
  exact ⟨_, Conv.refl _ _, .inr rfl, OutOk.mk [] 0 (out0 := vl 1 Ru32 y26) (ps := [True]) (by kernel_rfl) ⟨tv, tv⟩ (by kernel_rfl) (by kernel_rfl)⟩
/-! recordlink/recordlinkref10.limited -/
noncomputable def rl_ref10_limited (p0 : List Int) : Option ((List Int) × Int) := if (decide (((p0.length : Nat) : Int) > 64)) = true then (some (([] : List Int), 1)) else (some (p0, 0))
set_option maxRecDepth 100000 in
set_option maxHeartbeats 10000000 in
theorem rl_ref10_limited_con (p0 : List Int) (r0 : List Int) (r1 : Int) (h : rl_ref10_limited p0 = some (r0, r1)) : Con Try.prog 60 [vl 1 Ru32 p0] [] (.tup [vl 1 Ru32 r0, vi64 r1]) [] := by
 suffices H : ∀ r, rl_ref10_limited p0 = some r → Con Try.prog 60 [vl 1 Ru32 p0] [] (.tup [vl 1 Ru32 r.1, vi64 r.2]) [] from H (r0, r1) h
 clear h
 intro r h
 refine con_of tt_ok1 0 Try.func60 (by kernel_rfl) rfl (by kernel_rfl) (fun base X hk => AW.post ?_)
 unfold rl_ref10_limited at h
 refine AW.seq ?_
 refine AW.reg tt_ok1 [0] [] [] ⟨[(0, vl 1 Ru32 p0)], [], 2⟩ [True, True] (by kernel_rfl) (by kernel_rfl) ⟨tv, tv, tv⟩ ?_
 refine AW.tn ?_
 refine AW.seq ?_
 refine AW.seq ?_
 refine AW.reg tt_ok1 [0, 6] [] [] ⟨[(6, vb (decide (((p0.length : Nat) : Int) > 64))), (0, vl 1 Ru32 p0)], [], 5⟩ [True, True, True] (by kernel_rfl) (by kernel_rfl) ⟨tv, tv, tv, tv⟩ ?_
 refine AW.tn ?_
 refine AW.cond (b := decide (((p0.length : Nat) : Int) > 64)) (by kernel_rfl) (fun c1 => ?_) (fun c1 => ?_)
 ·rw [if_pos c1] at h
  refine AW.seq ?_
  refine AW.reg tt_ok1 [2, 3] [] [] ⟨[(3, vi64 1), (2, .c (.t (.v (.slice none 0 0))))], [], 7⟩ [True, True] (by kernel_rfl) (by kernel_rfl) ⟨tv, tv, tv⟩ ?_
  refine AW.tn ?_
  refine AW.ret ?_
  refine AW.tr ?_
  obtain rfl := some_inj h
  exact ⟨_, conv_tm (tm' := [(3, vi64 1), (2, vl 1 Ru32 ([] : List Int))]) ⟨⟨vi64 1, by kernel_rfl, ALe.refl _ _⟩, ⟨.c (.t (.v (.slice none 0 0))), by kernel_rfl, ALe.c (CLe.nil rfl)⟩, tv⟩, .inr rfl, OutOk.mk [] 0 (out0 := .tup [vl 1 Ru32 ([] : List Int), vi64 1]) (ps := [True, True]) (by kernel_rfl) ⟨tv, tv, tv⟩ (by kernel_rfl) (by kernel_rfl)⟩
 ·rw [if_neg (nb c1)] at h
  refine AW.skip ?_
  refine AW.tn ?_
  refine AW.seq ?_
  refine AW.reg tt_ok1 [2, 3] [] [] ⟨[(3, vi64 0), (2, vl 1 Ru32 p0)], [], 8⟩ [True, True, True] (by kernel_rfl) (by kernel_rfl) ⟨tv, tv, tv, tv⟩ ?_
  refine AW.tn ?_
  refine AW.ret ?_
  obtain rfl := some_inj h
  exact ⟨_, Conv.refl _ _, .inr rfl, OutOk.mk [] 0 (out0 := .tup [vl 1 Ru32 p0, vi64 0]) (ps := [True, True]) (by kernel_rfl) ⟨tv, tv, tv⟩ (by kernel_rfl) (by kernel_rfl)⟩
/-! recordlink/recordlinkref10.Add -/
noncomputable def rl_ref10_Add_k4 (p0 : List Int) (p1 : List Int) (x1 : Bool) : Option ((List Int) × Int) := if x1 = true then (some (([] : List Int), 20)) else ((rl_ref10_sum p0 p1).bind fun y3 => (bind2 (rl_ref10_limited y3) fun y5 y6 => (some (y5, y6))))
noncomputable def rl_ref10_Add (p0 : List Int) (p1 : List Int) : Option ((List Int) × Int) := (rl_ref10_Valid p0).bind fun y8 => (if (!y8) = true then (rl_ref10_Add_k4 p0 p1 true) else ((rl_ref10_Valid p1).bind fun y11 => (rl_ref10_Add_k4 p0 p1 (!y11))))
set_option maxRecDepth 100000 in
set_option maxHeartbeats 10000000 in
theorem rl_ref10_Add_con (p0 : List Int) (p1 : List Int) (r0 : List Int) (r1 : Int) (h : rl_ref10_Add p0 p1 = some (r0, r1)) : Con Try.prog 46 [vl 1 Ru32 p0, vl 1 Ru32 p1] [] (.tup [vl 1 Ru32 r0, vi64 r1]) [] := by
 suffices H : ∀ r, rl_ref10_Add p0 p1 = some r → Con Try.prog 46 [vl 1 Ru32 p0, vl 1 Ru32 p1] [] (.tup [vl 1 Ru32 r.1, vi64 r.2]) [] from H (r0, r1) h
 clear h
 intro r h
 refine con_of tt_ok1 0 Try.func46 (by kernel_rfl) rfl (by kernel_rfl) (fun base X hk => AW.post ?_)
 unfold rl_ref10_Add at h
 refine AW.seq ?_
 refine AW.reg tt_ok1 [0, 1] [] [] ⟨[(0, vl 1 Ru32 p0), (1, vl 1 Ru32 p1)], [], 2⟩ [True, True] (by kernel_rfl) (by kernel_rfl) ⟨tv, tv, tv⟩ ?_
 refine AW.tn ?_
 refine AW.seq ?_
 refine AW.seq ?_
 refine AW.join (ι := Bool) (fun v => ⟨[(0, vl 1 Ru32 p0), (1, vl 1 Ru32 p1), (13, vb v)], [], 0⟩) (fun v : Bool => rl_ref10_Add_k4 p0 p1 v = some r) (fun v h => ?_) ?_
 ·
  obtain ⟨x1, rfl⟩ : ∃ x, x = v := ⟨_, rfl⟩
  replace h : rl_ref10_Add_k4 p0 p1 x1 = some r := h
  unfold rl_ref10_Add_k4 at h
  show (_ : Exit → St → Prop) .normal ⟨[(0, vl 1 Ru32 p0), (1, vl 1 Ru32 p1), (13, vb x1)], [], 0⟩
  refine AW.tn ?_
  refine AW.cond (b := x1) (by kernel_rfl) (fun c2 => ?_) (fun c2 => ?_)
  ·rw [if_pos c2] at h
   refine AW.seq ?_
   refine AW.reg tt_ok1 [4, 5] [] [] ⟨[(5, vi64 20), (4, .c (.t (.v (.slice none 0 0))))], [], 2⟩ [True, True] (by kernel_rfl) (by kernel_rfl) ⟨tv, tv, tv⟩ ?_
   refine AW.tn ?_
   refine AW.ret ?_
   refine AW.tr ?_
   obtain rfl := some_inj h
   exact ⟨_, conv_tm (tm' := [(5, vi64 20), (4, vl 1 Ru32 ([] : List Int))]) ⟨⟨vi64 20, by kernel_rfl, ALe.refl _ _⟩, ⟨.c (.t (.v (.slice none 0 0))), by kernel_rfl, ALe.c (CLe.nil rfl)⟩, tv⟩, .inr rfl, OutOk.mk [] 0 (out0 := .tup [vl 1 Ru32 ([] : List Int), vi64 20]) (ps := [True, True]) (by kernel_rfl) ⟨tv, tv, tv⟩ (by kernel_rfl) (by kernel_rfl)⟩
  ·rw [if_neg (nb c2)] at h
   refine AW.skip ?_
   refine AW.tn ?_
   refine AW.seq ?_
   obtain ⟨y3, e4, h⟩ := bnd_some h
   obtain ⟨y5, y6, e7, h⟩ := bind2_some h
   refine AW.reg tt_ok1 [4, 5] [] [{}, {}, { call := some { ids := [], frz := [], flat := false, cnt := 0, args := [vl 1 Ru32 p0, vl 1 Ru32 p1], out := vl 1 Ru32 y3, outb := [] } }, { call := some { ids := [], frz := [], flat := false, cnt := 0, args := [vl 1 Ru32 y3], out := .tup [vl 1 Ru32 y5, vi64 y6], outb := [] } }] ⟨[(5, vi64 y6), (4, vl 1 Ru32 y5)], [], 6⟩ [True, True, ((True) ∧ (True) ∧ (True)) ∧ (All2 ArgLe [vl 1 Ru32 p0, vl 1 Ru32 p1] [vl 1 Ru32 p0, vl 1 Ru32 p1]) ∧ ((false = true → flatB [])) ∧ (Con Try.prog 61 [vl 1 Ru32 p0, vl 1 Ru32 p1] [] (vl 1 Ru32 y3) []), ((True) ∧ (True)) ∧ (All2 ArgLe [vl 1 Ru32 y3] [vl 1 Ru32 y3]) ∧ ((false = true → flatB [])) ∧ (Con Try.prog 60 [vl 1 Ru32 y3] [] (.tup [vl 1 Ru32 y5, vi64 y6]) []), True, True, True, True] (by kernel_rfl) (by kernel_rfl) ⟨tv, tv, ⟨⟨tv, tv, tv⟩, ⟨ArgLe.refl _, ArgLe.refl _, tv⟩, (fun h => by cases h), (rl_ref10_sum_con p0 p1 y3 e4)⟩, ⟨⟨tv, tv⟩, ⟨ArgLe.refl _, tv⟩, (fun h => by cases h), (rl_ref10_limited_con y3 y5 y6 e7)⟩, tv, tv, tv, tv, tv⟩ ?_
   refine AW.tn ?_
   refine AW.ret ?_
   obtain rfl := some_inj h
   exact ⟨_, Conv.refl _ _, .inr rfl, OutOk.mk [] 0 (out0 := .tup [vl 1 Ru32 y5, vi64 y6]) (ps := [True, True]) (by kernel_rfl) ⟨tv, tv, tv⟩ (by kernel_rfl) (by kernel_rfl)⟩
 ·
  obtain ⟨y8, e9, h⟩ := bnd_some h
  by_cases c10 : (!y8) = true
  ·rw [if_pos c10] at h
   refine AW.reg tt_ok1 [0, 1, 13] [] [{}, { call := some { ids := [], frz := [], flat := true, cnt := 0, args := [vl 1 Ru32 p0], out := vb y8, outb := [] } }, { h := { b := some true } }] ⟨[(13, vb true), (0, vl 1 Ru32 p0), (1, vl 1 Ru32 p1)], [], 9⟩ [True, ((True) ∧ (True)) ∧ (All2 ArgLe [vl 1 Ru32 p0] [vl 1 Ru32 p0]) ∧ ((true = true → flatB [])) ∧ (Con Try.prog 31 [vl 1 Ru32 p0] [] (vb y8) []), (!y8) = true, True, True, True, True, True] (by kernel_rfl) (by kernel_rfl) ⟨tv, ⟨⟨tv, tv⟩, ⟨ArgLe.refl _, tv⟩, (fun _ => tv), (rl_ref10_Valid_con p0 y8 e9)⟩, c10, tv, tv, tv, tv, tv, tv⟩ ?_
   exact joinQ_leaf (true) h (conv_ren [] [0, 1, 13] (n := 0) (by kernel_rfl) (by kernel_rfl))
  ·rw [if_neg c10] at h
   obtain ⟨y11, e12, h⟩ := bnd_some h
   refine AW.reg tt_ok1 [0, 1, 13] [] [{}, { call := some { ids := [], frz := [], flat := true, cnt := 0, args := [vl 1 Ru32 p0], out := vb y8, outb := [] } }, { h := { b := some false } }, {}, {}, { call := some { ids := [], frz := [], flat := true, cnt := 0, args := [vl 1 Ru32 p1], out := vb y11, outb := [] } }] ⟨[(13, vb (!y11)), (0, vl 1 Ru32 p0), (1, vl 1 Ru32 p1)], [], 8⟩ [True, ((True) ∧ (True)) ∧ (All2 ArgLe [vl 1 Ru32 p0] [vl 1 Ru32 p0]) ∧ ((true = true → flatB [])) ∧ (Con Try.prog 31 [vl 1 Ru32 p0] [] (vb y8) []), (!y8) = false, True, True, ((True) ∧ (True)) ∧ (All2 ArgLe [vl 1 Ru32 p1] [vl 1 Ru32 p1]) ∧ ((true = true → flatB [])) ∧ (Con Try.prog 31 [vl 1 Ru32 p1] [] (vb y11) []), True, True] (by kernel_rfl) (by kernel_rfl) ⟨tv, ⟨⟨tv, tv⟩, ⟨ArgLe.refl _, tv⟩, (fun _ => tv), (rl_ref10_Valid_con p0 y8 e9)⟩, (off_false c10), tv, tv, ⟨⟨tv, tv⟩, ⟨ArgLe.refl _, tv⟩, (fun _ => tv), (rl_ref10_Valid_con p1 y11 e12)⟩, tv, tv, tv⟩ ?_
   exact joinQ_leaf (!y11) h (conv_ren [] [0, 1, 13] (n := 0) (by kernel_rfl) (by kernel_rfl))
/-! recordlink/recordlinkref10.Compare -/
noncomputable def rl_ref10_Compare_l4 (y1 : List Int) (y3 : List Int) (x8 : Int) : Option (Int ⊕ (Unit ⊕ Int)) := if (decide (x8 ≥ 0)) = true then (if 0 ≤ x8 then (if x8 < ((y1.length : Nat) : Int) then (if x8 < ((y3.length : Nat) : Int) then (if (decide ((y1.getD x8.toNat 0) < (y3.getD x8.toNat 0))) = true then (some (.inr (.inr (-1)))) else (if (decide ((y1.getD x8.toNat 0) > (y3.getD x8.toNat 0))) = true then (some (.inr (.inr 1))) else (some (.inl (i64.wrap (x8 - 1)))))) else none) else none) else none) else (some (.inr (.inl ())))
noncomputable def rl_ref10_Compare_a5 : Option Int := some 0
noncomputable def rl_ref10_Compare_a6 (x16 : Int) : Option Int := some x16
noncomputable def rl_ref10_Compare (p0 : List Int) (p1 : List Int) : Option Int := (rl_ref10_trim p0).bind fun y1 => ((rl_ref10_trim p1).bind fun y3 => (if (((y1.length : Nat) : Int) != ((y3.length : Nat) : Int)) = true then (if (decide (((y1.length : Nat) : Int) < ((y3.length : Nat) : Int))) = true then (some (-1)) else (some 1)) else (bindE (loop (fun v : Int => rl_ref10_Compare_l4 y1 y3 v) (i64.wrap (((y1.length : Nat) : Int) - 1))) (fun t => rl_ref10_Compare_a5) (fun t => rl_ref10_Compare_a6 t))))
set_option maxRecDepth 100000 in
set_option maxHeartbeats 10000000 in
theorem rl_ref10_Compare_con (p0 : List Int) (p1 : List Int) (r0 : Int) (h : rl_ref10_Compare p0 p1 = some r0) : Con Try.prog 47 [vl 1 Ru32 p0, vl 1 Ru32 p1] [] (vi64 r0) [] := by
 revert h; generalize r0 = r; intro h
 refine con_of tt_ok1 0 Try.func47 (by kernel_rfl) rfl (by kernel_rfl) (fun base X hk => AW.post ?_)
 unfold rl_ref10_Compare at h
 refine AW.seq ?_
 refine AW.reg tt_ok1 [0, 1] [] [] ⟨[(0, vl 1 Ru32 p0), (1, vl 1 Ru32 p1)], [], 1⟩ [True] (by kernel_rfl) (by kernel_rfl) ⟨tv, tv⟩ ?_
 refine AW.tn ?_
 refine AW.seq ?_
 obtain ⟨y1, e2, h⟩ := bnd_some h
 obtain ⟨y3, e4, h⟩ := bnd_some h
 refine AW.reg tt_ok1 [0, 1] [] [{}, { call := some { ids := [], frz := [], flat := false, cnt := 0, args := [vl 1 Ru32 p0], out := vl 1 Ru32 y1, outb := [] } }, {}, { call := some { ids := [], frz := [], flat := false, cnt := 0, args := [vl 1 Ru32 p1], out := vl 1 Ru32 y3, outb := [] } }] ⟨[(1, vl 1 Ru32 y3), (0, vl 1 Ru32 y1)], [], 5⟩ [True, ((True) ∧ (True)) ∧ (All2 ArgLe [vl 1 Ru32 p0] [vl 1 Ru32 p0]) ∧ ((false = true → flatB [])) ∧ (Con Try.prog 45 [vl 1 Ru32 p0] [] (vl 1 Ru32 y1) []), True, ((True) ∧ (True)) ∧ (All2 ArgLe [vl 1 Ru32 p1] [vl 1 Ru32 p1]) ∧ ((false = true → flatB [])) ∧ (Con Try.prog 45 [vl 1 Ru32 p1] [] (vl 1 Ru32 y3) []), True, True] (by kernel_rfl) (by kernel_rfl) ⟨tv, ⟨⟨tv, tv⟩, ⟨ArgLe.refl _, tv⟩, (fun h => by cases h), (rl_ref10_trim_con p0 y1 e2)⟩, tv, ⟨⟨tv, tv⟩, ⟨ArgLe.refl _, tv⟩, (fun h => by cases h), (rl_ref10_trim_con p1 y3 e4)⟩, tv, tv, tv⟩ ?_
 refine AW.tn ?_
 refine AW.seq ?_
 refine AW.seq ?_
 refine AW.reg tt_ok1 [0, 1, 14] [] [] ⟨[(14, vb (((y1.length : Nat) : Int) != ((y3.length : Nat) : Int))), (1, vl 1 Ru32 y3), (0, vl 1 Ru32 y1)], [], 10⟩ [True, True, True, True, True] (by kernel_rfl) (by kernel_rfl) ⟨tv, tv, tv, tv, tv, tv⟩ ?_
 refine AW.tn ?_
 refine AW.cond (b := (((y1.length : Nat) : Int) != ((y3.length : Nat) : Int))) (by kernel_rfl) (fun c5 => ?_) (fun c5 => ?_)
 ·rw [if_pos c5] at h
  refine AW.seq ?_
  refine AW.seq ?_
  refine AW.reg tt_ok1 [19] [] [] ⟨[(19, vb (decide (((y1.length : Nat) : Int) < ((y3.length : Nat) : Int))))], [], 15⟩ [True, True, True, True, True] (by kernel_rfl) (by kernel_rfl) ⟨tv, tv, tv, tv, tv, tv⟩ ?_
  refine AW.tn ?_
  refine AW.cond (b := decide (((y1.length : Nat) : Int) < ((y3.length : Nat) : Int))) (by kernel_rfl) (fun c6 => ?_) (fun c6 => ?_)
  ·rw [if_pos c6] at h
   refine AW.seq ?_
   refine AW.reg tt_ok1 [4] [] [] ⟨[(4, vi64 (-1))], [], 16⟩ [True] (by kernel_rfl) (by kernel_rfl) ⟨tv, tv⟩ ?_
   refine AW.tn ?_
   refine AW.ret ?_
   refine AW.tr ?_
   refine AW.tr ?_
   obtain rfl := some_inj h
   exact ⟨_, Conv.refl _ _, .inr rfl, OutOk.mk [] 0 (out0 := vi64 (-1)) (ps := [True]) (by kernel_rfl) ⟨tv, tv⟩ (by kernel_rfl) (by kernel_rfl)⟩
  ·rw [if_neg (nb c6)] at h
   refine AW.skip ?_
   refine AW.tn ?_
   refine AW.seq ?_
   refine AW.reg tt_ok1 [4] [] [] ⟨[(4, vi64 1)], [], 16⟩ [True] (by kernel_rfl) (by kernel_rfl) ⟨tv, tv⟩ ?_
   refine AW.tn ?_
   refine AW.ret ?_
   refine AW.tr ?_
   obtain rfl := some_inj h
   exact ⟨_, Conv.refl _ _, .inr rfl, OutOk.mk [] 0 (out0 := vi64 1) (ps := [True]) (by kernel_rfl) ⟨tv, tv⟩ (by kernel_rfl) (by kernel_rfl)⟩
 ·rw [if_neg (nb c5)] at h
  refine AW.skip ?_
  refine AW.tn ?_
  refine AW.seq ?_
  refine AW.seq ?_
  refine AW.reg tt_ok1 [0, 1, 5] [] [] ⟨[(5, vi64 (i64.wrap (((y1.length : Nat) : Int) - 1))), (1, vl 1 Ru32 y3), (0, vl 1 Ru32 y1)], [], 14⟩ [True, True, True, True] (by kernel_rfl) (by kernel_rfl) ⟨tv, tv, tv, tv, tv⟩ ?_
  refine AW.tn ?_
  refine AW.block ?_
  rcases bindE_some h with ⟨t, l17, h⟩ | ⟨t, l17, h⟩
  ·
   replace h : rl_ref10_Compare_a5 = some r := h
   unfold rl_ref10_Compare_a5 at h
   refine AW.pre (S' := ((fun v => ⟨[(0, vl 1 Ru32 y1), (1, vl 1 Ru32 y3), (5, vi64 v)], [], 0⟩) : Int → St) (i64.wrap (((y1.length : Nat) : Int) - 1))) (conv_ren [] [0, 1, 5] (n := 0) (by kernel_rfl) (by kernel_rfl)) ?_
   refine AW.loop2 (step := (fun v : Int => rl_ref10_Compare_l4 y1 y3 v)) (s0 := i64.wrap (((y1.length : Nat) : Int) - 1)) (t := .inl ()) (fun v => ⟨[(0, vl 1 Ru32 y1), (1, vl 1 Ru32 y3), (5, vi64 v)], [], 0⟩) (fun t : (Unit ⊕ Int) => match t with | .inl t => (.exit 0, ⟨[], [], 0⟩) | .inr t => (.ret, ⟨[(4, vi64 t)], [], 0⟩)) l17 (fun t => by cases t <;> trivial) ?_ ?_
   ·
    clear l17 h
    intro v o h
    obtain ⟨x8, rfl⟩ : ∃ x, x = v := ⟨_, rfl⟩
    replace h : rl_ref10_Compare_l4 y1 y3 x8 = some o := h
    unfold rl_ref10_Compare_l4 at h
    show AW _ ⟨[(0, vl 1 Ru32 y1), (1, vl 1 Ru32 y3), (5, vi64 x8)], [], 0⟩ _ _
    refine AW.seq ?_
    refine AW.seq ?_
    refine AW.reg tt_ok1 [0, 1, 5, 24] [] [] ⟨[(24, vb (decide (x8 ≥ 0))), (0, vl 1 Ru32 y1), (1, vl 1 Ru32 y3), (5, vi64 x8)], [], 2⟩ [True, True] (by kernel_rfl) (by kernel_rfl) ⟨tv, tv, tv⟩ ?_
    refine AW.tn ?_
    refine AW.cond (b := decide (x8 ≥ 0)) (by kernel_rfl) (fun c10 => ?_) (fun c10 => ?_)
    ·rw [if_pos c10] at h
     refine AW.skip ?_
     refine AW.tn ?_
     refine AW.seq ?_
     refine AW.block ?_
     refine AW.seq ?_
     refine AW.seq ?_
     obtain ⟨g11, h⟩ := ifc h
     obtain ⟨g12, h⟩ := ifc h
     obtain ⟨g13, h⟩ := ifc h
     refine AW.regD tt_ok1 mo1 [0, 0, 3, 7, 0, 0, 48, 112, 255] [[], [], [], [], [], [], [], [], []] [0, 1, 5, 35] [] [] ⟨[(35, vb (decide ((y1.getD x8.toNat 0) < (y3.getD x8.toNat 0)))), (0, vl 1 Ru32 y1), (1, vl 1 Ru32 y3), (5, vi64 x8)], [], 11⟩ [True, True, (0 ≤ x8) ∧ (x8 < ((y1.length : Nat) : Int)), True, True, True, (0 ≤ x8) ∧ (x8 < ((y3.length : Nat) : Int)), True, True] (by kernel_rfl) (by kernel_rfl) ⟨tv, tv, ⟨g11, g12⟩, tv, tv, tv, ⟨g11, g13⟩, tv, tv, tv⟩ ?_
     refine AW.tn ?_
     refine AW.cond (b := decide ((y1.getD x8.toNat 0) < (y3.getD x8.toNat 0))) (by kernel_rfl) (fun c14 => ?_) (fun c14 => ?_)
     ·rw [if_pos c14] at h
      refine AW.seq ?_
      refine AW.reg tt_ok1 [4] [] [] ⟨[(4, vi64 (-1))], [], 12⟩ [True] (by kernel_rfl) (by kernel_rfl) ⟨tv, tv⟩ ?_
      refine AW.tn ?_
      refine AW.ret ?_
      refine AW.tr ?_
      refine AW.inBlock_ret ?_
      refine AW.tr ?_
      obtain rfl := some_inj h
      refine loopQ_out rfl (conv_ren [] [4] (n := 0) (by kernel_rfl) (by kernel_rfl))
     ·rw [if_neg (nb c14)] at h
      refine AW.skip ?_
      refine AW.tn ?_
      refine AW.seq ?_
      refine AW.regD tt_ok1 mo1 [0, 0, 3, 7, 0, 0, 48, 112, 255] [[], [], [], [], [], [], [], [], []] [0, 1, 5, 44] [] [] ⟨[(44, vb (decide ((y1.getD x8.toNat 0) > (y3.getD x8.toNat 0)))), (0, vl 1 Ru32 y1), (1, vl 1 Ru32 y3), (5, vi64 x8)], [], 20⟩ [True, True, (0 ≤ x8) ∧ (x8 < ((y1.length : Nat) : Int)), True, True, True, (0 ≤ x8) ∧ (x8 < ((y3.length : Nat) : Int)), True, True] (by kernel_rfl) (by kernel_rfl) ⟨tv, tv, ⟨g11, g12⟩, tv, tv, tv, ⟨g11, g13⟩, tv, tv, tv⟩ ?_
      refine AW.tn ?_
      refine AW.cond (b := decide ((y1.getD x8.toNat 0) > (y3.getD x8.toNat 0))) (by kernel_rfl) (fun c15 => ?_) (fun c15 => ?_)
      ·rw [if_pos c15] at h
       refine AW.seq ?_
       refine AW.reg tt_ok1 [4] [] [] ⟨[(4, vi64 1)], [], 21⟩ [True] (by kernel_rfl) (by kernel_rfl) ⟨tv, tv⟩ ?_
       refine AW.tn ?_
       refine AW.ret ?_
       refine AW.inBlock_ret ?_
       refine AW.tr ?_
       obtain rfl := some_inj h
       refine loopQ_out rfl (conv_ren [] [4] (n := 0) (by kernel_rfl) (by kernel_rfl))
      ·rw [if_neg (nb c15)] at h
       refine AW.skip ?_
       refine AW.inBlock_normal ?_
       refine AW.tn ?_
       refine AW.reg tt_ok1 [0, 1, 5] [] [] ⟨[(5, vi64 (i64.wrap (x8 - 1))), (0, vl 1 Ru32 y1), (1, vl 1 Ru32 y3)], [], 23⟩ [True, True, True] (by kernel_rfl) (by kernel_rfl) ⟨tv, tv, tv, tv⟩ ?_
       obtain rfl := some_inj h
       refine loopQ_next (conv_ren [] [0, 1, 5] (n := 0) (by kernel_rfl) (by kernel_rfl))
    ·rw [if_neg (nb c10)] at h
     refine AW.exit ?_
     refine AW.thenQ_exit ?_
     obtain rfl := some_inj h
     refine loopQ_out rfl (conv_ren [] [] (n := 0) (by kernel_rfl) (by kernel_rfl))
   ·
    show (_ : Exit → St → Prop) (.exit 0) ⟨[], [], 0⟩
    refine AW.inBlock_hit ?_
    refine AW.tn ?_
    refine AW.seq ?_
    refine AW.reg tt_ok1 [4] [] [] ⟨[(4, vi64 0)], [], 1⟩ [True] (by kernel_rfl) (by kernel_rfl) ⟨tv, tv⟩ ?_
    refine AW.tn ?_
    refine AW.ret ?_
    obtain rfl := some_inj h
    exact ⟨_, Conv.refl _ _, .inr rfl, OutOk.mk [] 0 (out0 := vi64 0) (ps := [True]) (by kernel_rfl) ⟨tv, tv⟩ (by kernel_rfl) (by kernel_rfl)⟩
  ·
   obtain ⟨x16, rfl⟩ : ∃ x, x = t := ⟨_, rfl⟩
   replace h : rl_ref10_Compare_a6 x16 = some r := h
   unfold rl_ref10_Compare_a6 at h
   refine AW.pre (S' := ((fun v => ⟨[(0, vl 1 Ru32 y1), (1, vl 1 Ru32 y3), (5, vi64 v)], [], 0⟩) : Int → St) (i64.wrap (((y1.length : Nat) : Int) - 1))) (conv_ren [] [0, 1, 5] (n := 0) (by kernel_rfl) (by kernel_rfl)) ?_
   refine AW.loop2 (step := (fun v : Int => rl_ref10_Compare_l4 y1 y3 v)) (s0 := i64.wrap (((y1.length : Nat) : Int) - 1)) (t := .inr x16) (fun v => ⟨[(0, vl 1 Ru32 y1), (1, vl 1 Ru32 y3), (5, vi64 v)], [], 0⟩) (fun t : (Unit ⊕ Int) => match t with | .inl t => (.exit 0, ⟨[], [], 0⟩) | .inr t => (.ret, ⟨[(4, vi64 t)], [], 0⟩)) l17 (fun t => by cases t <;> trivial) ?_ ?_
   ·
    clear l17 h
    intro v o h
    obtain ⟨x8, rfl⟩ : ∃ x, x = v := ⟨_, rfl⟩
    replace h : rl_ref10_Compare_l4 y1 y3 x8 = some o := h
    unfold rl_ref10_Compare_l4 at h
    show AW _ ⟨[(0, vl 1 Ru32 y1), (1, vl 1 Ru32 y3), (5, vi64 x8)], [], 0⟩ _ _
    refine AW.seq ?_
    refine AW.seq ?_
    refine AW.reg tt_ok1 [0, 1, 5, 24] [] [] ⟨[(24, vb (decide (x8 ≥ 0))), (0, vl 1 Ru32 y1), (1, vl 1 Ru32 y3), (5, vi64 x8)], [], 2⟩ [True, True] (by kernel_rfl) (by kernel_rfl) ⟨tv, tv, tv⟩ ?_
    refine AW.tn ?_
    refine AW.cond (b := decide (x8 ≥ 0)) (by kernel_rfl) (fun c10 => ?_) (fun c10 => ?_)
    ·rw [if_pos c10] at h
     refine AW.skip ?_
     refine AW.tn ?_
     refine AW.seq ?_
     refine AW.block ?_
     refine AW.seq ?_
     refine AW.seq ?_
     obtain ⟨g11, h⟩ := ifc h
     obtain ⟨g12, h⟩ := ifc h
     obtain ⟨g13, h⟩ := ifc h
     refine AW.regD tt_ok1 mo1 [0, 0, 3, 7, 0, 0, 48, 112, 255] [[], [], [], [], [], [], [], [], []] [0, 1, 5, 35] [] [] ⟨[(35, vb (decide ((y1.getD x8.toNat 0) < (y3.getD x8.toNat 0)))), (0, vl 1 Ru32 y1), (1, vl 1 Ru32 y3), (5, vi64 x8)], [], 11⟩ [True, True, (0 ≤ x8) ∧ (x8 < ((y1.length : Nat) : Int)), True, True, True, (0 ≤ x8) ∧ (x8 < ((y3.length : Nat) : Int)), True, True] (by kernel_rfl) (by kernel_rfl) ⟨tv, tv, ⟨g11, g12⟩, tv, tv, tv, ⟨g11, g13⟩, tv, tv, tv⟩ ?_
     refine AW.tn ?_
     refine AW.cond (b := decide ((y1.getD x8.toNat 0) < (y3.getD x8.toNat 0))) (by kernel_rfl) (fun c14 => ?_) (fun c14 => ?_)
     ·rw [if_pos c14] at h
      refine AW.seq ?_
      refine AW.reg tt_ok1 [4] [] [] ⟨[(4, vi64 (-1))], [], 12⟩ [True] (by kernel_rfl) (by kernel_rfl) ⟨tv, tv⟩ ?_
      refine AW.tn ?_
      refine AW.ret ?_
      refine AW.tr ?_
      refine AW.inBlock_ret ?_
      refine AW.tr ?_
      obtain rfl := some_inj h
      refine loopQ_out rfl (conv_ren [] [4] (n := 0) (by kernel_rfl) (by kernel_rfl))
     ·rw [if_neg (nb c14)] at h
      refine AW.skip ?_
      refine AW.tn ?_
      refine AW.seq ?_
      refine AW.regD tt_ok1 mo1 [0, 0, 3, 7, 0, 0, 48, 112, 255] [[], [], [], [], [], [], [], [], []] [0, 1, 5, 44] [] [] ⟨[(44, vb (decide ((y1.getD x8.toNat 0) > (y3.getD x8.toNat 0)))), (0, vl 1 Ru32 y1), (1, vl 1 Ru32 y3), (5, vi64 x8)], [], 20⟩ [True, True, (0 ≤ x8) ∧ (x8 < ((y1.length : Nat) : Int)), True, True, True, (0 ≤ x8) ∧ (x8 < ((y3.length : Nat) : Int)), True, True] (by kernel_rfl) (by kernel_rfl) ⟨tv, tv, ⟨g11, g12⟩, tv, tv, tv, ⟨g11, g13⟩, tv, tv, tv⟩ ?_
      refine AW.tn ?_
      refine AW.cond (b := decide ((y1.getD x8.toNat 0) > (y3.getD x8.toNat 0))) (by kernel_rfl) (fun c15 => ?_) (fun c15 => ?_)
      ·rw [if_pos c15] at h
       refine AW.seq ?_
       refine AW.reg tt_ok1 [4] [] [] ⟨[(4, vi64 1)], [], 21⟩ [True] (by kernel_rfl) (by kernel_rfl) ⟨tv, tv⟩ ?_
       refine AW.tn ?_
       refine AW.ret ?_
       refine AW.inBlock_ret ?_
       refine AW.tr ?_
       obtain rfl := some_inj h
       refine loopQ_out rfl (conv_ren [] [4] (n := 0) (by kernel_rfl) (by kernel_rfl))
      ·rw [if_neg (nb c15)] at h
       refine AW.skip ?_
       refine AW.inBlock_normal ?_
       refine AW.tn ?_
       refine AW.reg tt_ok1 [0, 1, 5] [] [] ⟨[(5, vi64 (i64.wrap (x8 - 1))), (0, vl 1 Ru32 y1), (1, vl 1 Ru32 y3)], [], 23⟩ [True, True, True] (by kernel_rfl) (by kernel_rfl) ⟨tv, tv, tv, tv⟩ ?_
       obtain rfl := some_inj h
       refine loopQ_next (conv_ren [] [0, 1, 5] (n := 0) (by kernel_rfl) (by kernel_rfl))
    ·rw [if_neg (nb c10)] at h
     refine AW.exit ?_
     refine AW.thenQ_exit ?_
     obtain rfl := some_inj h
     refine loopQ_out rfl (conv_ren [] [] (n := 0) (by kernel_rfl) (by kernel_rfl))
   ·
    show (_ : Exit → St → Prop) (.ret) ⟨[(4, vi64 x16)], [], 0⟩
    refine AW.inBlock_ret ?_
    refine AW.tr ?_
    obtain rfl := some_inj h
    exact ⟨_, Conv.refl _ _, .inr rfl, OutOk.mk [] 0 (out0 := vi64 x16) (ps := [True]) (by kernel_rfl) ⟨tv, tv⟩ (by kernel_rfl) (by kernel_rfl)⟩
/-! recordlink/natural.Sub -/
noncomputable def natural_Sub_k18 (p0 : List Int) (x12 : List Int) (x14 : Int) (x19 : Int) : Option (((List Int) × Int × Int) ⊕ (List Int)) := (some (u64.wrap ((u64.wrap (p0.getD x14.toNat 0)) - x19))).bind fun z20 => (if x14 < ((x12.length : Nat) : Int) then (some (.inl ((x12.set (0 + x14.toNat) (u32.wrap z20)), ishr .u64 z20 63, i64.wrap (x14 + 1)))) else none)
noncomputable def natural_Sub_l16 (p0 : List Int) (p1 : List Int) (x12 : List Int) (x13 : Int) (x14 : Int) : Option (((List Int) × Int × Int) ⊕ (List Int)) := if (decide (x14 < ((p0.length : Nat) : Int))) = true then (if 0 ≤ x14 then (if x14 < ((p0.length : Nat) : Int) then (if (decide (x14 < ((p1.length : Nat) : Int))) = true then (if x14 < ((p1.length : Nat) : Int) then ((some (u64.wrap (x13 + (u64.wrap (p1.getD x14.toNat 0))))).bind fun z25 => (natural_Sub_k18 p0 x12 x14 z25)) else none) else (natural_Sub_k18 p0 x12 x14 x13)) else none) else none) else (some (.inr x12))
noncomputable def natural_Sub (p0 : List Int) (p1 : List Int) : Option ((List Int) × Int) := (natural_both p0 p1).bind fun y1 => (if (y1 != 0) = true then (some (([] : List Int), y1)) else ((natural_Compare p0 p1).bind fun y4 => (if (decide (y4 < 0)) = true then (some (([] : List Int), 2)) else (if 0 ≤ ((p0.length : Nat) : Int) then (if ((p0.length : Nat) : Int) ≤ 1099511627776 then ((loop (fun v : (List Int) × Int × Int => natural_Sub_l16 p0 p1 v.1 v.2.1 v.2.2) ((List.replicate (((p0.length : Nat) : Int).toNat) (0 : Int)), 0, 0)).bind fun x27 => (bind2 (natural_done x27) fun y28 y29 => (some (y28, y29)))) else none) else none))))
set_option maxRecDepth 100000 in
set_option maxHeartbeats 10000000 in
theorem natural_Sub_con (p0 : List Int) (p1 : List Int) (r0 : List Int) (r1 : Int) (h : natural_Sub p0 p1 = some (r0, r1)) : Con Try.prog 25 [vl 1 Ru32 p0, vl 1 Ru32 p1] [] (.tup [vl 1 Ru32 r0, vi64 r1]) [] := by
 suffices H : ∀ r, natural_Sub p0 p1 = some r → Con Try.prog 25 [vl 1 Ru32 p0, vl 1 Ru32 p1] [] (.tup [vl 1 Ru32 r.1, vi64 r.2]) [] from H (r0, r1) h
 clear h
 intro r h
 refine con_of tt_ok1 0 Try.func25 (by kernel_rfl) rfl (by kernel_rfl) (fun base X hk => AW.post ?_)
 unfold natural_Sub at h
 refine AW.seq ?_
 refine AW.reg tt_ok1 [0, 1] [] [] ⟨[(0, vl 1 Ru32 p0), (1, vl 1 Ru32 p1)], [], 2⟩ [True, True] (by kernel_rfl) (by kernel_rfl) ⟨tv, tv, tv⟩ ?_
 refine AW.tn ?_
 refine AW.seq ?_
 refine AW.seq ?_
 obtain ⟨y1, e2, h⟩ := bnd_some h
 refine AW.reg tt_ok1 [0, 1, 6] [] [{}, {}, { call := some { ids := [], frz := [], flat := true, cnt := 0, args := [vl 1 Ru32 p0, vl 1 Ru32 p1], out := vi64 y1, outb := [] } }] ⟨[(6, vi64 y1), (0, vl 1 Ru32 p0), (1, vl 1 Ru32 p1)], [], 5⟩ [True, True, ((True) ∧ (True) ∧ (True)) ∧ (All2 ArgLe [vl 1 Ru32 p0, vl 1 Ru32 p1] [vl 1 Ru32 p0, vl 1 Ru32 p1]) ∧ ((true = true → flatB [])) ∧ (Con Try.prog 36 [vl 1 Ru32 p0, vl 1 Ru32 p1] [] (vi64 y1) []), True] (by kernel_rfl) (by kernel_rfl) ⟨tv, tv, ⟨⟨tv, tv, tv⟩, ⟨ArgLe.refl _, ArgLe.refl _, tv⟩, (fun _ => tv), (natural_both_con p0 p1 y1 e2)⟩, tv, tv⟩ ?_
 refine AW.tn ?_
 refine AW.seq ?_
 refine AW.reg tt_ok1 [0, 1, 6, 17] [] [] ⟨[(17, vb (y1 != 0)), (6, vi64 y1), (0, vl 1 Ru32 p0), (1, vl 1 Ru32 p1)], [], 7⟩ [True, True] (by kernel_rfl) (by kernel_rfl) ⟨tv, tv, tv⟩ ?_
 refine AW.tn ?_
 refine AW.cond (b := (y1 != 0)) (by kernel_rfl) (fun c3 => ?_) (fun c3 => ?_)
 ·rw [if_pos c3] at h
  refine AW.seq ?_
  refine AW.reg tt_ok1 [4, 5] [] [] ⟨[(5, vi64 y1), (4, .c (.t (.v (.slice none 0 0))))], [], 10⟩ [True, True, True] (by kernel_rfl) (by kernel_rfl) ⟨tv, tv, tv, tv⟩ ?_
  refine AW.tn ?_
  refine AW.ret ?_
  refine AW.tr ?_
  obtain rfl := some_inj h
  exact ⟨_, conv_tm (tm' := [(5, vi64 y1), (4, vl 1 Ru32 ([] : List Int))]) ⟨⟨vi64 y1, by kernel_rfl, ALe.refl _ _⟩, ⟨.c (.t (.v (.slice none 0 0))), by kernel_rfl, ALe.c (CLe.nil rfl)⟩, tv⟩, .inr rfl, OutOk.mk [] 0 (out0 := .tup [vl 1 Ru32 ([] : List Int), vi64 y1]) (ps := [True, True]) (by kernel_rfl) ⟨tv, tv, tv⟩ (by kernel_rfl) (by kernel_rfl)⟩
 ·rw [if_neg (nb c3)] at h
  refine AW.skip ?_
  refine AW.tn ?_
  refine AW.seq ?_
  refine AW.seq ?_
  obtain ⟨y4, e5, h⟩ := bnd_some h
  refine AW.reg tt_ok1 [0, 1, 22] [] [{}, {}, { call := some { ids := [], frz := [], flat := true, cnt := 0, args := [vl 1 Ru32 p0, vl 1 Ru32 p1], out := vi64 y4, outb := [] } }] ⟨[(22, vb (decide (y4 < 0))), (0, vl 1 Ru32 p0), (1, vl 1 Ru32 p1)], [], 10⟩ [True, True, ((True) ∧ (True) ∧ (True)) ∧ (All2 ArgLe [vl 1 Ru32 p0, vl 1 Ru32 p1] [vl 1 Ru32 p0, vl 1 Ru32 p1]) ∧ ((true = true → flatB [])) ∧ (Con Try.prog 22 [vl 1 Ru32 p0, vl 1 Ru32 p1] [] (vi64 y4) []), True] (by kernel_rfl) (by kernel_rfl) ⟨tv, tv, ⟨⟨tv, tv, tv⟩, ⟨ArgLe.refl _, ArgLe.refl _, tv⟩, (fun _ => tv), (natural_Compare_con p0 p1 y4 e5)⟩, tv, tv⟩ ?_
  refine AW.tn ?_
  refine AW.cond (b := decide (y4 < 0)) (by kernel_rfl) (fun c6 => ?_) (fun c6 => ?_)
  ·rw [if_pos c6] at h
   refine AW.seq ?_
   refine AW.reg tt_ok1 [4, 5] [] [] ⟨[(5, vi64 2), (4, .c (.t (.v (.slice none 0 0))))], [], 12⟩ [True, True] (by kernel_rfl) (by kernel_rfl) ⟨tv, tv, tv⟩ ?_
   refine AW.tn ?_
   refine AW.ret ?_
   refine AW.tr ?_
   obtain rfl := some_inj h
   exact ⟨_, conv_tm (tm' := [(5, vi64 2), (4, vl 1 Ru32 ([] : List Int))]) ⟨⟨vi64 2, by kernel_rfl, ALe.refl _ _⟩, ⟨.c (.t (.v (.slice none 0 0))), by kernel_rfl, ALe.c (CLe.nil rfl)⟩, tv⟩, .inr rfl, OutOk.mk [] 0 (out0 := .tup [vl 1 Ru32 ([] : List Int), vi64 2]) (ps := [True, True]) (by kernel_rfl) ⟨tv, tv, tv⟩ (by kernel_rfl) (by kernel_rfl)⟩
  ·rw [if_neg (nb c6)] at h
   refine AW.skip ?_
   refine AW.tn ?_
   refine AW.seq ?_
   obtain ⟨g7, h⟩ := ifc h
   obtain ⟨g8, h⟩ := ifc h
   refine AW.reg tt_ok1 [0, 1, 7] [12] [{}, {}, { h := { row := some ((List.replicate (((p0.length : Nat) : Int).toNat) (0 : Int)).length, Ru32 (List.replicate (((p0.length : Nat) : Int).toNat) (0 : Int))) } }] ⟨[(7, .c (.ref 12 1 0 ((List.replicate (((p0.length : Nat) : Int).toNat) (0 : Int)).length))), (0, vl 1 Ru32 p0), (1, vl 1 Ru32 p1)], [(12, .row 37 false 1 (List.replicate (((p0.length : Nat) : Int).toNat) (0 : Int)).length (Ru32 (List.replicate (((p0.length : Nat) : Int).toNat) (0 : Int))))], 14⟩ [True, True, ((0 ≤ ((p0.length : Nat) : Int)) ∧ (((p0.length : Nat) : Int) ≤ ((p0.length : Nat) : Int)) ∧ (((p0.length : Nat) : Int) ≤ 1099511627776) ∧ ((4 : Nat) ≤ 128)) ∧ (((p0.length : Nat) : Int).toNat = (List.replicate (((p0.length : Nat) : Int).toNat) (0 : Int)).length ∧ ∀ i, i < (List.replicate (((p0.length : Nat) : Int).toNat) (0 : Int)).length → ∀ j, j < 1 → TLe ((fun _ j => .v (([.int .u32 0] : List Value).getD j undef)) i j) (Ru32 (List.replicate (((p0.length : Nat) : Int).toNat) (0 : Int)) i j)), True] (by kernel_rfl) (by kernel_rfl) ⟨tv, tv, ⟨⟨g7, Int.le_refl _, g8, (by decide)⟩, mk_row (fun j hj => match j, hj with | 0, _ => TLe.refl _ | _ + 1, h => absurd h (by omega))⟩, tv, tv⟩ ?_
   refine AW.tn ?_
   refine AW.seq ?_
   refine AW.reg tt_ok1 [0, 1, 7, 8] [12] [] ⟨[(8, vu64 0), (7, .c (.ref 12 1 0 ((List.replicate (((p0.length : Nat) : Int).toNat) (0 : Int)).length))), (0, vl 1 Ru32 p0), (1, vl 1 Ru32 p1)], [(12, .row 37 false 1 (List.replicate (((p0.length : Nat) : Int).toNat) (0 : Int)).length (Ru32 (List.replicate (((p0.length : Nat) : Int).toNat) (0 : Int))))], 15⟩ [True] (by kernel_rfl) (by kernel_rfl) ⟨tv, tv⟩ ?_
   refine AW.tn ?_
   refine AW.seq ?_
   refine AW.seq ?_
   refine AW.reg tt_ok1 [1, 7, 8, 26, 27, 28] [12] [] ⟨[(28, vi64 0), (27, vi64 ((p0.length : Nat) : Int)), (26, vl 1 Ru32 p0), (8, vu64 0), (7, .c (.ref 12 1 0 ((List.replicate (((p0.length : Nat) : Int).toNat) (0 : Int)).length))), (1, vl 1 Ru32 p1)], [(12, .row 37 false 1 (List.replicate (((p0.length : Nat) : Int).toNat) (0 : Int)).length (Ru32 (List.replicate (((p0.length : Nat) : Int).toNat) (0 : Int))))], 18⟩ [True, True, True] (by kernel_rfl) (by kernel_rfl) ⟨tv, tv, tv, tv⟩ ?_
   refine AW.tn ?_
   refine AW.block ?_
   obtain ⟨x27, l31, h⟩ := bnd_some h
   refine AW.pre (S' := ((fun v => ⟨[(1, vl 1 Ru32 p1), (7, .c (.ref 0 1 0 v.1.length)), (8, vu64 v.2.1), (26, vl 1 Ru32 p0), (27, vi64 ((p0.length : Nat) : Int)), (28, vi64 v.2.2)], [(0, .row 37 false 1 v.1.length (Ru32 v.1))], 1⟩) : ((List Int) × Int × Int) → St) ((List.replicate (((p0.length : Nat) : Int).toNat) (0 : Int)), 0, 0)) (conv_ren [(0, 12)] [1, 7, 8, 26, 27, 28] (n := 1) (by kernel_rfl) (by kernel_rfl)) ?_
   refine AW.loop2 (step := (fun v : (List Int) × Int × Int => natural_Sub_l16 p0 p1 v.1 v.2.1 v.2.2)) (s0 := ((List.replicate (((p0.length : Nat) : Int).toNat) (0 : Int)), 0, 0)) (t := x27) (fun v => ⟨[(1, vl 1 Ru32 p1), (7, .c (.ref 0 1 0 v.1.length)), (8, vu64 v.2.1), (26, vl 1 Ru32 p0), (27, vi64 ((p0.length : Nat) : Int)), (28, vi64 v.2.2)], [(0, .row 37 false 1 v.1.length (Ru32 v.1))], 1⟩) (fun t : List Int => (.exit 0, ⟨[(7, .c (.ref 0 1 0 t.length))], [(0, .row 37 false 1 t.length (Ru32 t))], 1⟩)) l31 (fun _ => tv) ?_ ?_
   ·
    intro v o h
    obtain ⟨x12, x13, x14⟩ := v
    replace h : natural_Sub_l16 p0 p1 x12 x13 x14 = some o := h
    unfold natural_Sub_l16 at h
    show AW _ ⟨[(1, vl 1 Ru32 p1), (7, .c (.ref 0 1 0 x12.length)), (8, vu64 x13), (26, vl 1 Ru32 p0), (27, vi64 ((p0.length : Nat) : Int)), (28, vi64 x14)], [(0, .row 37 false 1 x12.length (Ru32 x12))], 1⟩ _ _
    refine AW.seq ?_
    refine AW.reg tt_ok1 [1, 7, 8, 26, 27, 28, 29] [0] [] ⟨[(29, vb (decide (x14 < ((p0.length : Nat) : Int)))), (1, vl 1 Ru32 p1), (7, .c (.ref 0 1 0 x12.length)), (8, vu64 x13), (26, vl 1 Ru32 p0), (27, vi64 ((p0.length : Nat) : Int)), (28, vi64 x14)], [(0, .row 37 false 1 x12.length (Ru32 x12))], 2⟩ [True] (by kernel_rfl) (by kernel_rfl) ⟨tv, tv⟩ ?_
    refine AW.tn ?_
    refine AW.seq ?_
    refine AW.cond (b := decide (x14 < ((p0.length : Nat) : Int))) (by kernel_rfl) (fun c16 => ?_) (fun c16 => ?_)
    ·rw [if_pos c16] at h
     refine AW.skip ?_
     refine AW.tn ?_
     refine AW.seq ?_
     refine AW.block ?_
     refine AW.seq ?_
     obtain ⟨g17, h⟩ := ifc h
     obtain ⟨g18, h⟩ := ifc h
     refine AW.reg tt_ok1 [1, 7, 8, 9, 10, 26, 27, 28] [0] [] ⟨[(10, vu32 (p0.getD x14.toNat 0)), (9, vi64 x14), (1, vl 1 Ru32 p1), (7, .c (.ref 0 1 0 x12.length)), (8, vu64 x13), (26, vl 1 Ru32 p0), (27, vi64 ((p0.length : Nat) : Int)), (28, vi64 x14)], [(0, .row 37 false 1 x12.length (Ru32 x12))], 7⟩ [True, (0 ≤ x14) ∧ (x14 < ((p0.length : Nat) : Int)), True, True, True] (by kernel_rfl) (by kernel_rfl) ⟨tv, ⟨g17, g18⟩, tv, tv, tv, tv⟩ ?_
     refine AW.tn ?_
     refine AW.seq ?_
     refine AW.reg tt_ok1 [1, 7, 9, 10, 11, 26, 27, 28] [0] [] ⟨[(11, vu64 x13), (10, vu32 (p0.getD x14.toNat 0)), (9, vi64 x14), (1, vl 1 Ru32 p1), (7, .c (.ref 0 1 0 x12.length)), (26, vl 1 Ru32 p0), (27, vi64 ((p0.length : Nat) : Int)), (28, vi64 x14)], [(0, .row 37 false 1 x12.length (Ru32 x12))], 9⟩ [True, True] (by kernel_rfl) (by kernel_rfl) ⟨tv, tv, tv⟩ ?_
     refine AW.tn ?_
     refine AW.seq ?_
     refine AW.join (ι := Int) (fun v => ⟨[(1, vl 1 Ru32 p1), (7, .c (.ref 0 1 0 x12.length)), (9, vi64 x14), (10, vu32 (p0.getD x14.toNat 0)), (11, vu64 v), (26, vl 1 Ru32 p0), (27, vi64 ((p0.length : Nat) : Int)), (28, vi64 x14)], [(0, .row 37 false 1 x12.length (Ru32 x12))], 1⟩) (fun v : Int => natural_Sub_k18 p0 x12 x14 v = some o) (fun v h => ?_) ?_
     ·
      obtain ⟨x19, rfl⟩ : ∃ x, x = v := ⟨_, rfl⟩
      replace h : natural_Sub_k18 p0 x12 x14 x19 = some o := h
      unfold natural_Sub_k18 at h
      show (_ : Exit → St → Prop) .normal ⟨[(1, vl 1 Ru32 p1), (7, .c (.ref 0 1 0 x12.length)), (9, vi64 x14), (10, vu32 (p0.getD x14.toNat 0)), (11, vu64 x19), (26, vl 1 Ru32 p0), (27, vi64 ((p0.length : Nat) : Int)), (28, vi64 x14)], [(0, .row 37 false 1 x12.length (Ru32 x12))], 1⟩
      refine AW.tn ?_
      refine AW.seq ?_
      obtain ⟨z20, n21, h⟩ := bnd_some h
      replace n21 := some_inj n21
      refine AW.reg tt_ok1 [1, 7, 9, 12, 26, 27, 28] [0] [] ⟨[(12, vu64 (u64.wrap ((u64.wrap (p0.getD x14.toNat 0)) - x19))), (1, vl 1 Ru32 p1), (7, .c (.ref 0 1 0 x12.length)), (9, vi64 x14), (26, vl 1 Ru32 p0), (27, vi64 ((p0.length : Nat) : Int)), (28, vi64 x14)], [(0, .row 37 false 1 x12.length (Ru32 x12))], 6⟩ [True, True, True, True, True] (by kernel_rfl) (by kernel_rfl) ⟨tv, tv, tv, tv, tv, tv⟩ ?_
      refine eq_Q (S' := ⟨[(12, vu64 z20), (1, vl 1 Ru32 p1), (7, .c (.ref 0 1 0 x12.length)), (9, vi64 x14), (26, vl 1 Ru32 p0), (27, vi64 ((p0.length : Nat) : Int)), (28, vi64 x14)], [(0, .row 37 false 1 x12.length (Ru32 x12))], 6⟩) (by rw [n21]) ?_
      refine AW.tn ?_
      obtain ⟨g22, h⟩ := ifc h
      refine AW.reg tt_ok1 [1, 7, 8, 26, 27, 28] [0] [{}, {}, {}, {}, {}, {}, {}, { h := { row := some (x12.length, Ru32 (x12.set (0 + x14.toNat) (u32.wrap z20))) } }] ⟨[(8, vu64 (ishr .u64 z20 63)), (1, vl 1 Ru32 p1), (7, .c (.ref 0 1 0 x12.length)), (26, vl 1 Ru32 p0), (27, vi64 ((p0.length : Nat) : Int)), (28, vi64 x14)], [(0, .row 37 false 1 x12.length (Ru32 (x12.set (0 + x14.toNat) (u32.wrap z20))))], 15⟩ [True, True, True, True, True, 0 ≤ (63 : Int), (0 ≤ x14) ∧ (x14 < ((x12.length : Nat) : Int)), ((0 + x14.toNat) < x12.length) ∧ (x12.length = x12.length ∧ ∀ i, i < x12.length → ∀ j, j < 1 → TLe (updRow (Ru32 x12) (0 + x14.toNat) 0 [.v (.int .u32 (u32.wrap z20))] i j) (Ru32 (x12.set (0 + x14.toNat) (u32.wrap z20)) i j)), True] (by kernel_rfl) (by kernel_rfl) ⟨tv, tv, tv, tv, tv, (by decide), ⟨g17, g22⟩, ⟨(by have h1 : 0 ≤ x14 := g17; have h2 : x14 < ((x12.length : Nat) : Int) := g22; omega), set_rowN rfl (by have h1 : 0 ≤ x14 := g17; have h2 : x14 < ((x12.length : Nat) : Int) := g22; omega) (fun j hj => match j, hj with | 0, _ => TLe.refl _ | _ + 1, h => absurd h (by omega))⟩, tv, tv⟩ ?_
      refine AW.inBlock_normal ?_
      refine AW.tn ?_
      refine AW.reg tt_ok1 [1, 7, 8, 26, 27, 28] [0] [] ⟨[(28, vi64 (i64.wrap (x14 + 1))), (8, vu64 (ishr .u64 z20 63)), (1, vl 1 Ru32 p1), (7, .c (.ref 0 1 0 x12.length)), (26, vl 1 Ru32 p0), (27, vi64 ((p0.length : Nat) : Int))], [(0, .row 37 false 1 x12.length (Ru32 (x12.set (0 + x14.toNat) (u32.wrap z20))))], 17⟩ [True, True] (by kernel_rfl) (by kernel_rfl) ⟨tv, tv, tv⟩ ?_
      obtain rfl := some_inj h
      refine loopQ_next (Conv.trans (conv_len (S' := ⟨[(28, vi64 (i64.wrap (x14 + 1))), (8, vu64 (ishr .u64 z20 63)), (1, vl 1 Ru32 p1), (7, .c (.ref 0 1 0 ((x12.set (0 + x14.toNat) (u32.wrap z20)).length))), (26, vl 1 Ru32 p0), (27, vi64 ((p0.length : Nat) : Int))], [(0, .row 37 false 1 (x12.set (0 + x14.toNat) (u32.wrap z20)).length (Ru32 (x12.set (0 + x14.toNat) (u32.wrap z20))))], 17⟩) (by simp only [List.length_set])) (conv_ren [(0, 0)] [1, 7, 8, 26, 27, 28] (n := 1) (by kernel_rfl) (by kernel_rfl)))
     ·
      refine AW.seq ?_
      refine AW.reg tt_ok1 [1, 7, 9, 10, 11, 26, 27, 28, 37] [0] [] ⟨[(37, vb (decide (x14 < ((p1.length : Nat) : Int)))), (11, vu64 x13), (10, vu32 (p0.getD x14.toNat 0)), (9, vi64 x14), (1, vl 1 Ru32 p1), (7, .c (.ref 0 1 0 x12.length)), (26, vl 1 Ru32 p0), (27, vi64 ((p0.length : Nat) : Int)), (28, vi64 x14)], [(0, .row 37 false 1 x12.length (Ru32 x12))], 13⟩ [True, True, True, True] (by kernel_rfl) (by kernel_rfl) ⟨tv, tv, tv, tv, tv⟩ ?_
      refine AW.tn ?_
      refine AW.cond (b := decide (x14 < ((p1.length : Nat) : Int))) (by kernel_rfl) (fun c23 => ?_) (fun c23 => ?_)
      ·rw [if_pos c23] at h
       obtain ⟨g24, h⟩ := ifc h
       obtain ⟨z25, n26, h⟩ := bnd_some h
       replace n26 := some_inj n26
       refine AW.reg tt_ok1 [1, 7, 9, 10, 11, 26, 27, 28] [0] [] ⟨[(11, vu64 (u64.wrap (x13 + (u64.wrap (p1.getD x14.toNat 0))))), (10, vu32 (p0.getD x14.toNat 0)), (9, vi64 x14), (1, vl 1 Ru32 p1), (7, .c (.ref 0 1 0 x12.length)), (26, vl 1 Ru32 p0), (27, vi64 ((p0.length : Nat) : Int)), (28, vi64 x14)], [(0, .row 37 false 1 x12.length (Ru32 x12))], 21⟩ [True, True, True, (0 ≤ x14) ∧ (x14 < ((p1.length : Nat) : Int)), True, True, True, True] (by kernel_rfl) (by kernel_rfl) ⟨tv, tv, tv, ⟨g17, g24⟩, tv, tv, tv, tv, tv⟩ ?_
       refine eq_Q (S' := ⟨[(11, vu64 z25), (10, vu32 (p0.getD x14.toNat 0)), (9, vi64 x14), (1, vl 1 Ru32 p1), (7, .c (.ref 0 1 0 x12.length)), (26, vl 1 Ru32 p0), (27, vi64 ((p0.length : Nat) : Int)), (28, vi64 x14)], [(0, .row 37 false 1 x12.length (Ru32 x12))], 21⟩) (by rw [n26]) ?_
       exact joinQ_leaf (z25) h (conv_ren [(0, 0)] [1, 7, 9, 10, 11, 26, 27, 28] (n := 1) (by kernel_rfl) (by kernel_rfl))
      ·rw [if_neg (nb c23)] at h
       refine AW.skip ?_
       exact joinQ_leaf (x13) h (conv_ren [(0, 0)] [1, 7, 9, 10, 11, 26, 27, 28] (n := 1) (by kernel_rfl) (by kernel_rfl))
    ·rw [if_neg (nb c16)] at h
     refine AW.exit ?_
     refine AW.thenQ_exit ?_
     obtain rfl := some_inj h
     refine loopQ_out rfl (conv_ren [(0, 0)] [7] (n := 1) (by kernel_rfl) (by kernel_rfl))
   ·
    show (_ : Exit → St → Prop) (.exit 0) ⟨[(7, .c (.ref 0 1 0 x27.length))], [(0, .row 37 false 1 x27.length (Ru32 x27))], 1⟩
    refine AW.inBlock_hit ?_
    refine AW.tn ?_
    refine AW.seq ?_
    obtain ⟨y28, y29, e30, h⟩ := bind2_some h
    refine AW.reg tt_ok1 [4, 5] [] [{}, { call := some { ids := [], frz := [0], flat := false, cnt := 0, args := [vl 1 Ru32 x27], out := .tup [vl 1 Ru32 y28, vi64 y29], outb := [] } }] ⟨[(5, vi64 y29), (4, vl 1 Ru32 y28)], [], 6⟩ [True, ((0 + x27.length ≤ x27.length) ∧ (True)) ∧ (All2 ArgLe [vl 1 Ru32 x27] [vl 1 Ru32 x27]) ∧ ((false = true → flatB [])) ∧ (Con Try.prog 37 [vl 1 Ru32 x27] [] (.tup [vl 1 Ru32 y28, vi64 y29]) []), True, True, True, True] (by kernel_rfl) (by kernel_rfl) ⟨tv, ⟨⟨le0, tv⟩, ⟨ArgLe.refl _, tv⟩, (fun h => by cases h), (natural_done_con x27 y28 y29 e30)⟩, tv, tv, tv, tv, tv⟩ ?_
    refine AW.tn ?_
    refine AW.ret ?_
    obtain rfl := some_inj h
    exact ⟨_, Conv.refl _ _, .inr rfl, OutOk.mk [] 0 (out0 := .tup [vl 1 Ru32 y28, vi64 y29]) (ps := [True, True]) (by kernel_rfl) ⟨tv, tv, tv⟩ (by kernel_rfl) (by kernel_rfl)⟩
/-! recordlink/recordlinkref10.less -/
noncomputable def rl_ref10_less_k18 (x4 : List Int) (x6 : Int) (x13 : Int) : Option (((List Int) × Int × Int) ⊕ (List Int)) := if x4.length + ([u32.wrap x13] : List Int).length ≤ 1099511627776 then (some (.inl ((x4 ++ ([u32.wrap x13] : List Int)), ishr .u64 x13 63, i64.wrap (x6 + 1)))) else none
noncomputable def rl_ref10_less_l16 (p0 : List Int) (p1 : List Int) (x4 : List Int) (x5 : Int) (x6 : Int) : Option (((List Int) × Int × Int) ⊕ (List Int)) := if (decide (x6 < ((p0.length : Nat) : Int))) = true then (if 0 ≤ x6 then (if x6 < ((p0.length : Nat) : Int) then ((some (u64.wrap ((u64.wrap (p0.getD x6.toNat 0)) - x5))).bind fun z11 => (if (decide (x6 < ((p1.length : Nat) : Int))) = true then (if x6 < ((p1.length : Nat) : Int) then ((some (u64.wrap (z11 - (u64.wrap (p1.getD x6.toNat 0))))).bind fun z17 => (rl_ref10_less_k18 x4 x6 z17)) else none) else (rl_ref10_less_k18 x4 x6 z11))) else none) else none) else (some (.inr x4))
noncomputable def rl_ref10_less (p0 : List Int) (p1 : List Int) : Option (List Int) := (loop (fun v : (List Int) × Int × Int => rl_ref10_less_l16 p0 p1 v.1 v.2.1 v.2.2) (([] : List Int), 0, 0)).bind fun x19 => ((rl_ref10_trim x19).bind fun y20 => (some y20))
set_option maxRecDepth 100000 in
set_option maxHeartbeats 10000000 in
theorem rl_ref10_less_con (p0 : List Int) (p1 : List Int) (r0 : List Int) (h : rl_ref10_less p0 p1 = some r0) : Con Try.prog 62 [vl 1 Ru32 p0, vl 1 Ru32 p1] [] (vl 1 Ru32 r0) [] := by
 revert h; generalize r0 = r; intro h
 refine con_of tt_ok1 0 Try.func62 (by kernel_rfl) rfl (by kernel_rfl) (fun base X hk => AW.post ?_)
 unfold rl_ref10_less at h
 refine AW.seq ?_
 refine AW.reg tt_ok1 [0, 1] [] [] ⟨[(0, vl 1 Ru32 p0), (1, vl 1 Ru32 p1)], [], 1⟩ [True] (by kernel_rfl) (by kernel_rfl) ⟨tv, tv⟩ ?_
 refine AW.tn ?_
 refine AW.seq ?_
 refine AW.reg tt_ok1 [0, 1, 5] [] [] ⟨[(5, .c (.t (.v (.slice none 0 0)))), (0, vl 1 Ru32 p0), (1, vl 1 Ru32 p1)], [], 2⟩ [True] (by kernel_rfl) (by kernel_rfl) ⟨tv, tv⟩ ?_
 refine AW.tn ?_
 refine AW.seq ?_
 refine AW.reg tt_ok1 [0, 1, 5, 6] [] [] ⟨[(6, vu64 0), (5, .c (.t (.v (.slice none 0 0)))), (0, vl 1 Ru32 p0), (1, vl 1 Ru32 p1)], [], 3⟩ [True] (by kernel_rfl) (by kernel_rfl) ⟨tv, tv⟩ ?_
 refine AW.tn ?_
 refine AW.seq ?_
 refine AW.seq ?_
 refine AW.reg tt_ok1 [0, 1, 5, 6, 7] [] [] ⟨[(7, vi64 0), (6, vu64 0), (5, .c (.t (.v (.slice none 0 0)))), (0, vl 1 Ru32 p0), (1, vl 1 Ru32 p1)], [], 4⟩ [True] (by kernel_rfl) (by kernel_rfl) ⟨tv, tv⟩ ?_
 refine AW.tn ?_
 refine AW.block ?_
 obtain ⟨x19, l22, h⟩ := bnd_some h
 refine AW.pre (S' := ((fun v => ⟨[(0, vl 1 Ru32 p0), (1, vl 1 Ru32 p1), (5, .c (.ref 0 1 0 v.1.length)), (6, vu64 v.2.1), (7, vi64 v.2.2)], [(0, .row 37 false 1 v.1.length (Ru32 v.1))], 1⟩) : ((List Int) × Int × Int) → St) (([] : List Int), 0, 0)) (Conv.trans (conv_adopt (t := 5) (ty := 37) (sz := 1) (n := ([] : List Int).length) (f := Ru32 ([] : List Int)) (by kernel_rfl) rfl) (conv_ren [(0, 4)] [0, 1, 5, 6, 7] (n := 1) (by kernel_rfl) (by kernel_rfl))) ?_
 refine AW.loop2 (step := (fun v : (List Int) × Int × Int => rl_ref10_less_l16 p0 p1 v.1 v.2.1 v.2.2)) (s0 := (([] : List Int), 0, 0)) (t := x19) (fun v => ⟨[(0, vl 1 Ru32 p0), (1, vl 1 Ru32 p1), (5, .c (.ref 0 1 0 v.1.length)), (6, vu64 v.2.1), (7, vi64 v.2.2)], [(0, .row 37 false 1 v.1.length (Ru32 v.1))], 1⟩) (fun t : List Int => (.exit 0, ⟨[(5, .c (.ref 0 1 0 t.length))], [(0, .row 37 false 1 t.length (Ru32 t))], 1⟩)) l22 (fun _ => tv) ?_ ?_
 ·
  intro v o h
  obtain ⟨x4, x5, x6⟩ := v
  replace h : rl_ref10_less_l16 p0 p1 x4 x5 x6 = some o := h
  unfold rl_ref10_less_l16 at h
  show AW _ ⟨[(0, vl 1 Ru32 p0), (1, vl 1 Ru32 p1), (5, .c (.ref 0 1 0 x4.length)), (6, vu64 x5), (7, vi64 x6)], [(0, .row 37 false 1 x4.length (Ru32 x4))], 1⟩ _ _
  refine AW.seq ?_
  refine AW.seq ?_
  refine AW.reg tt_ok1 [0, 1, 5, 6, 7, 12] [0] [] ⟨[(12, vb (decide (x6 < ((p0.length : Nat) : Int)))), (0, vl 1 Ru32 p0), (1, vl 1 Ru32 p1), (5, .c (.ref 0 1 0 x4.length)), (6, vu64 x5), (7, vi64 x6)], [(0, .row 37 false 1 x4.length (Ru32 x4))], 5⟩ [True, True, True, True] (by kernel_rfl) (by kernel_rfl) ⟨tv, tv, tv, tv, tv⟩ ?_
  refine AW.tn ?_
  refine AW.cond (b := decide (x6 < ((p0.length : Nat) : Int))) (by kernel_rfl) (fun c8 => ?_) (fun c8 => ?_)
  ·rw [if_pos c8] at h
   refine AW.skip ?_
   refine AW.tn ?_
   refine AW.seq ?_
   refine AW.block ?_
   refine AW.seq ?_
   obtain ⟨g9, h⟩ := ifc h
   obtain ⟨g10, h⟩ := ifc h
   obtain ⟨z11, n12, h⟩ := bnd_some h
   replace n12 := some_inj n12
   refine AW.reg tt_ok1 [0, 1, 5, 7, 8] [0] [] ⟨[(8, vu64 (u64.wrap ((u64.wrap (p0.getD x6.toNat 0)) - x5))), (0, vl 1 Ru32 p0), (1, vl 1 Ru32 p1), (5, .c (.ref 0 1 0 x4.length)), (7, vi64 x6)], [(0, .row 37 false 1 x4.length (Ru32 x4))], 13⟩ [True, True, (0 ≤ x6) ∧ (x6 < ((p0.length : Nat) : Int)), True, True, True, True, True] (by kernel_rfl) (by kernel_rfl) ⟨tv, tv, ⟨g9, g10⟩, tv, tv, tv, tv, tv, tv⟩ ?_
   refine eq_Q (S' := ⟨[(8, vu64 z11), (0, vl 1 Ru32 p0), (1, vl 1 Ru32 p1), (5, .c (.ref 0 1 0 x4.length)), (7, vi64 x6)], [(0, .row 37 false 1 x4.length (Ru32 x4))], 13⟩) (by rw [n12]) ?_
   refine AW.tn ?_
   refine AW.seq ?_
   refine AW.join (ι := Int) (fun v => ⟨[(0, vl 1 Ru32 p0), (1, vl 1 Ru32 p1), (5, .c (.ref 0 1 0 x4.length)), (7, vi64 x6), (8, vu64 v)], [(0, .row 37 false 1 x4.length (Ru32 x4))], 1⟩) (fun v : Int => rl_ref10_less_k18 x4 x6 v = some o) (fun v h => ?_) ?_
   ·
    obtain ⟨x13, rfl⟩ : ∃ x, x = v := ⟨_, rfl⟩
    replace h : rl_ref10_less_k18 x4 x6 x13 = some o := h
    unfold rl_ref10_less_k18 at h
    show (_ : Exit → St → Prop) .normal ⟨[(0, vl 1 Ru32 p0), (1, vl 1 Ru32 p1), (5, .c (.ref 0 1 0 x4.length)), (7, vi64 x6), (8, vu64 x13)], [(0, .row 37 false 1 x4.length (Ru32 x4))], 1⟩
    refine AW.tn ?_
    refine AW.seq ?_
    obtain ⟨g14, h⟩ := ifc h
    refine AW.reg tt_ok1 [0, 1, 5, 7, 8] [5] [{}, {}, {}, { h := { row := some (([u32.wrap x13] : List Int).length, Ru32 ([u32.wrap x13] : List Int)) } }, { h := { row := some ((x4 ++ ([u32.wrap x13] : List Int)).length, Ru32 (x4 ++ ([u32.wrap x13] : List Int))) } }] ⟨[(5, .c (.ref 5 1 0 ((x4 ++ ([u32.wrap x13] : List Int)).length))), (0, vl 1 Ru32 p0), (1, vl 1 Ru32 p1), (7, vi64 x6), (8, vu64 x13)], [(5, .row 37 false 1 (x4 ++ ([u32.wrap x13] : List Int)).length (Ru32 (x4 ++ ([u32.wrap x13] : List Int))))], 7⟩ [True, True, True, 1 = ([u32.wrap x13] : List Int).length ∧ ∀ i, i < ([u32.wrap x13] : List Int).length → ∀ j, j < 1 → TLe ((rowOf [.v (.int .u32 (u32.wrap x13))] 1) i j) (Ru32 ([u32.wrap x13] : List Int) i j), (x4.length = x4.length) ∧ (0 + ([u32.wrap x13] : List Int).length ≤ ([u32.wrap x13] : List Int).length) ∧ ((x4.length + ([u32.wrap x13] : List Int).length ≤ 1099511627776) ∧ ((4 : Nat) ≤ 128)) ∧ (x4.length + ([u32.wrap x13] : List Int).length = (x4 ++ ([u32.wrap x13] : List Int)).length ∧ ∀ i, i < (x4 ++ ([u32.wrap x13] : List Int)).length → ∀ j, j < 1 → TLe ((appRow x4.length (Ru32 x4) (fun i j => Ru32 ([u32.wrap x13] : List Int) (0 + i) j)) i j) (Ru32 (x4 ++ ([u32.wrap x13] : List Int)) i j)), True] (by kernel_rfl) (by kernel_rfl) ⟨tv, tv, tv, ⟨rfl, lit_row (n := 1) (sz := 1) ⟨tv, ⟨tv, TLe.refl _⟩⟩⟩, ⟨rfl, le0, ⟨g14, (by decide)⟩, rowT (app_row rfl rfl row_rfl (fun i _ j _ => congrArg (fun k => Ru32 ([u32.wrap x13] : List Int) k j) (Nat.zero_add i)))⟩, tv, tv⟩ ?_
    refine AW.tn ?_
    refine AW.reg tt_ok1 [0, 1, 5, 6, 7] [5] [] ⟨[(6, vu64 (ishr .u64 x13 63)), (5, .c (.ref 5 1 0 ((x4 ++ ([u32.wrap x13] : List Int)).length))), (0, vl 1 Ru32 p0), (1, vl 1 Ru32 p1), (7, vi64 x6)], [(5, .row 37 false 1 (x4 ++ ([u32.wrap x13] : List Int)).length (Ru32 (x4 ++ ([u32.wrap x13] : List Int))))], 10⟩ [True, 0 ≤ (63 : Int), True] (by kernel_rfl) (by kernel_rfl) ⟨tv, (by decide), tv, tv⟩ ?_
    refine AW.inBlock_normal ?_
    refine AW.tn ?_
    refine AW.reg tt_ok1 [0, 1, 5, 6, 7] [5] [] ⟨[(7, vi64 (i64.wrap (x6 + 1))), (6, vu64 (ishr .u64 x13 63)), (5, .c (.ref 5 1 0 ((x4 ++ ([u32.wrap x13] : List Int)).length))), (0, vl 1 Ru32 p0), (1, vl 1 Ru32 p1)], [(5, .row 37 false 1 (x4 ++ ([u32.wrap x13] : List Int)).length (Ru32 (x4 ++ ([u32.wrap x13] : List Int))))], 13⟩ [True, True, True] (by kernel_rfl) (by kernel_rfl) ⟨tv, tv, tv, tv⟩ ?_
    obtain rfl := some_inj h
    refine loopQ_next (conv_ren [(0, 5)] [0, 1, 5, 6, 7] (n := 1) (by kernel_rfl) (by kernel_rfl))
   ·
    refine AW.seq ?_
    refine AW.reg tt_ok1 [0, 1, 5, 7, 8, 25] [0] [] ⟨[(25, vb (decide (x6 < ((p1.length : Nat) : Int)))), (8, vu64 z11), (0, vl 1 Ru32 p0), (1, vl 1 Ru32 p1), (5, .c (.ref 0 1 0 x4.length)), (7, vi64 x6)], [(0, .row 37 false 1 x4.length (Ru32 x4))], 17⟩ [True, True, True, True] (by kernel_rfl) (by kernel_rfl) ⟨tv, tv, tv, tv, tv⟩ ?_
    refine AW.tn ?_
    refine AW.cond (b := decide (x6 < ((p1.length : Nat) : Int))) (by kernel_rfl) (fun c15 => ?_) (fun c15 => ?_)
    ·rw [if_pos c15] at h
     obtain ⟨g16, h⟩ := ifc h
     obtain ⟨z17, n18, h⟩ := bnd_some h
     replace n18 := some_inj n18
     refine AW.reg tt_ok1 [0, 1, 5, 7, 8] [0] [] ⟨[(8, vu64 (u64.wrap (z11 - (u64.wrap (p1.getD x6.toNat 0))))), (0, vl 1 Ru32 p0), (1, vl 1 Ru32 p1), (5, .c (.ref 0 1 0 x4.length)), (7, vi64 x6)], [(0, .row 37 false 1 x4.length (Ru32 x4))], 25⟩ [True, True, True, (0 ≤ x6) ∧ (x6 < ((p1.length : Nat) : Int)), True, True, True, True] (by kernel_rfl) (by kernel_rfl) ⟨tv, tv, tv, ⟨g9, g16⟩, tv, tv, tv, tv, tv⟩ ?_
     refine eq_Q (S' := ⟨[(8, vu64 z17), (0, vl 1 Ru32 p0), (1, vl 1 Ru32 p1), (5, .c (.ref 0 1 0 x4.length)), (7, vi64 x6)], [(0, .row 37 false 1 x4.length (Ru32 x4))], 25⟩) (by rw [n18]) ?_
     exact joinQ_leaf (z17) h (conv_ren [(0, 0)] [0, 1, 5, 7, 8] (n := 1) (by kernel_rfl) (by kernel_rfl))
    ·rw [if_neg (nb c15)] at h
     refine AW.skip ?_
     exact joinQ_leaf (z11) h (conv_ren [(0, 0)] [0, 1, 5, 7, 8] (n := 1) (by kernel_rfl) (by kernel_rfl))
  ·rw [if_neg (nb c8)] at h
   refine AW.exit ?_
   refine AW.thenQ_exit ?_
   obtain rfl := some_inj h
   refine loopQ_out rfl (conv_ren [(0, 0)] [5] (n := 1) (by kernel_rfl) (by kernel_rfl))
 ·
  show (_ : Exit → St → Prop) (.exit 0) ⟨[(5, .c (.ref 0 1 0 x19.length))], [(0, .row 37 false 1 x19.length (Ru32 x19))], 1⟩
  refine AW.inBlock_hit ?_
  refine AW.tn ?_
  refine AW.seq ?_
  obtain ⟨y20, e21, h⟩ := bnd_some h
  refine AW.reg tt_ok1 [4] [] [{}, { call := some { ids := [], frz := [0], flat := false, cnt := 0, args := [vl 1 Ru32 x19], out := vl 1 Ru32 y20, outb := [] } }] ⟨[(4, vl 1 Ru32 y20)], [], 3⟩ [True, ((0 + x19.length ≤ x19.length) ∧ (True)) ∧ (All2 ArgLe [vl 1 Ru32 x19] [vl 1 Ru32 x19]) ∧ ((false = true → flatB [])) ∧ (Con Try.prog 45 [vl 1 Ru32 x19] [] (vl 1 Ru32 y20) []), True] (by kernel_rfl) (by kernel_rfl) ⟨tv, ⟨⟨le0, tv⟩, ⟨ArgLe.refl _, tv⟩, (fun h => by cases h), (rl_ref10_trim_con x19 y20 e21)⟩, tv, tv⟩ ?_
  refine AW.tn ?_
  refine AW.ret ?_
  obtain rfl := some_inj h
  exact ⟨_, Conv.refl _ _, .inr rfl, OutOk.mk [] 0 (out0 := vl 1 Ru32 y20) (ps := [True]) (by kernel_rfl) ⟨tv, tv⟩ (by kernel_rfl) (by kernel_rfl)⟩
/-! recordlink/recordlinkref10.Sub -/
noncomputable def rl_ref10_Sub_k4 (p0 : List Int) (p1 : List Int) (x1 : Bool) : Option ((List Int) × Int) := if x1 = true then (some (([] : List Int), 20)) else ((rl_ref10_Compare p0 p1).bind fun y3 => (if (decide (y3 < 0)) = true then (some (([] : List Int), 2)) else ((rl_ref10_less p0 p1).bind fun y6 => (some (y6, 0)))))
noncomputable def rl_ref10_Sub (p0 : List Int) (p1 : List Int) : Option ((List Int) × Int) := (rl_ref10_Valid p0).bind fun y8 => (if (!y8) = true then (rl_ref10_Sub_k4 p0 p1 true) else ((rl_ref10_Valid p1).bind fun y11 => (rl_ref10_Sub_k4 p0 p1 (!y11))))
set_option maxRecDepth 100000 in
set_option maxHeartbeats 10000000 in
theorem rl_ref10_Sub_con (p0 : List Int) (p1 : List Int) (r0 : List Int) (r1 : Int) (h : rl_ref10_Sub p0 p1 = some (r0, r1)) : Con Try.prog 48 [vl 1 Ru32 p0, vl 1 Ru32 p1] [] (.tup [vl 1 Ru32 r0, vi64 r1]) [] := by
 suffices H : ∀ r, rl_ref10_Sub p0 p1 = some r → Con Try.prog 48 [vl 1 Ru32 p0, vl 1 Ru32 p1] [] (.tup [vl 1 Ru32 r.1, vi64 r.2]) [] from H (r0, r1) h
 clear h
 intro r h
 refine con_of tt_ok1 0 Try.func48 (by kernel_rfl) rfl (by kernel_rfl) (fun base X hk => AW.post ?_)
 unfold rl_ref10_Sub at h
 refine AW.seq ?_
 refine AW.reg tt_ok1 [0, 1] [] [] ⟨[(0, vl 1 Ru32 p0), (1, vl 1 Ru32 p1)], [], 2⟩ [True, True] (by kernel_rfl) (by kernel_rfl) ⟨tv, tv, tv⟩ ?_
 refine AW.tn ?_
 refine AW.seq ?_
 refine AW.seq ?_
 refine AW.join (ι := Bool) (fun v => ⟨[(0, vl 1 Ru32 p0), (1, vl 1 Ru32 p1), (13, vb v)], [], 0⟩) (fun v : Bool => rl_ref10_Sub_k4 p0 p1 v = some r) (fun v h => ?_) ?_
 ·
  obtain ⟨x1, rfl⟩ : ∃ x, x = v := ⟨_, rfl⟩
  replace h : rl_ref10_Sub_k4 p0 p1 x1 = some r := h
  unfold rl_ref10_Sub_k4 at h
  show (_ : Exit → St → Prop) .normal ⟨[(0, vl 1 Ru32 p0), (1, vl 1 Ru32 p1), (13, vb x1)], [], 0⟩
  refine AW.tn ?_
  refine AW.cond (b := x1) (by kernel_rfl) (fun c2 => ?_) (fun c2 => ?_)
  ·rw [if_pos c2] at h
   refine AW.seq ?_
   refine AW.reg tt_ok1 [4, 5] [] [] ⟨[(5, vi64 20), (4, .c (.t (.v (.slice none 0 0))))], [], 2⟩ [True, True] (by kernel_rfl) (by kernel_rfl) ⟨tv, tv, tv⟩ ?_
   refine AW.tn ?_
   refine AW.ret ?_
   refine AW.tr ?_
   obtain rfl := some_inj h
   exact ⟨_, conv_tm (tm' := [(5, vi64 20), (4, vl 1 Ru32 ([] : List Int))]) ⟨⟨vi64 20, by kernel_rfl, ALe.refl _ _⟩, ⟨.c (.t (.v (.slice none 0 0))), by kernel_rfl, ALe.c (CLe.nil rfl)⟩, tv⟩, .inr rfl, OutOk.mk [] 0 (out0 := .tup [vl 1 Ru32 ([] : List Int), vi64 20]) (ps := [True, True]) (by kernel_rfl) ⟨tv, tv, tv⟩ (by kernel_rfl) (by kernel_rfl)⟩
  ·rw [if_neg (nb c2)] at h
   refine AW.skip ?_
   refine AW.tn ?_
   refine AW.seq ?_
   refine AW.seq ?_
   obtain ⟨y3, e4, h⟩ := bnd_some h
   refine AW.reg tt_ok1 [0, 1, 17] [] [{}, {}, { call := some { ids := [], frz := [], flat := true, cnt := 0, args := [vl 1 Ru32 p0, vl 1 Ru32 p1], out := vi64 y3, outb := [] } }] ⟨[(17, vb (decide (y3 < 0))), (0, vl 1 Ru32 p0), (1, vl 1 Ru32 p1)], [], 3⟩ [True, True, ((True) ∧ (True) ∧ (True)) ∧ (All2 ArgLe [vl 1 Ru32 p0, vl 1 Ru32 p1] [vl 1 Ru32 p0, vl 1 Ru32 p1]) ∧ ((true = true → flatB [])) ∧ (Con Try.prog 47 [vl 1 Ru32 p0, vl 1 Ru32 p1] [] (vi64 y3) []), True] (by kernel_rfl) (by kernel_rfl) ⟨tv, tv, ⟨⟨tv, tv, tv⟩, ⟨ArgLe.refl _, ArgLe.refl _, tv⟩, (fun _ => tv), (rl_ref10_Compare_con p0 p1 y3 e4)⟩, tv, tv⟩ ?_
   refine AW.tn ?_
   refine AW.cond (b := decide (y3 < 0)) (by kernel_rfl) (fun c5 => ?_) (fun c5 => ?_)
   ·rw [if_pos c5] at h
    refine AW.seq ?_
    refine AW.reg tt_ok1 [4, 5] [] [] ⟨[(5, vi64 2), (4, .c (.t (.v (.slice none 0 0))))], [], 5⟩ [True, True] (by kernel_rfl) (by kernel_rfl) ⟨tv, tv, tv⟩ ?_
    refine AW.tn ?_
    refine AW.ret ?_
    refine AW.tr ?_
    obtain rfl := some_inj h
    exact ⟨_, conv_tm (tm' := [(5, vi64 2), (4, vl 1 Ru32 ([] : List Int))]) ⟨⟨vi64 2, by kernel_rfl, ALe.refl _ _⟩, ⟨.c (.t (.v (.slice none 0 0))), by kernel_rfl, ALe.c (CLe.nil rfl)⟩, tv⟩, .inr rfl, OutOk.mk [] 0 (out0 := .tup [vl 1 Ru32 ([] : List Int), vi64 2]) (ps := [True, True]) (by kernel_rfl) ⟨tv, tv, tv⟩ (by kernel_rfl) (by kernel_rfl)⟩
   ·rw [if_neg (nb c5)] at h
    refine AW.skip ?_
    refine AW.tn ?_
    refine AW.seq ?_
    obtain ⟨y6, e7, h⟩ := bnd_some h
    refine AW.reg tt_ok1 [4, 5] [] [{}, {}, { call := some { ids := [], frz := [], flat := false, cnt := 0, args := [vl 1 Ru32 p0, vl 1 Ru32 p1], out := vl 1 Ru32 y6, outb := [] } }] ⟨[(5, vi64 0), (4, vl 1 Ru32 y6)], [], 7⟩ [True, True, ((True) ∧ (True) ∧ (True)) ∧ (All2 ArgLe [vl 1 Ru32 p0, vl 1 Ru32 p1] [vl 1 Ru32 p0, vl 1 Ru32 p1]) ∧ ((false = true → flatB [])) ∧ (Con Try.prog 62 [vl 1 Ru32 p0, vl 1 Ru32 p1] [] (vl 1 Ru32 y6) []), True, True] (by kernel_rfl) (by kernel_rfl) ⟨tv, tv, ⟨⟨tv, tv, tv⟩, ⟨ArgLe.refl _, ArgLe.refl _, tv⟩, (fun h => by cases h), (rl_ref10_less_con p0 p1 y6 e7)⟩, tv, tv, tv⟩ ?_
    refine AW.tn ?_
    refine AW.ret ?_
    obtain rfl := some_inj h
    exact ⟨_, Conv.refl _ _, .inr rfl, OutOk.mk [] 0 (out0 := .tup [vl 1 Ru32 y6, vi64 0]) (ps := [True, True]) (by kernel_rfl) ⟨tv, tv, tv⟩ (by kernel_rfl) (by kernel_rfl)⟩
 ·
  obtain ⟨y8, e9, h⟩ := bnd_some h
  by_cases c10 : (!y8) = true
  ·rw [if_pos c10] at h
   refine AW.reg tt_ok1 [0, 1, 13] [] [{}, { call := some { ids := [], frz := [], flat := true, cnt := 0, args := [vl 1 Ru32 p0], out := vb y8, outb := [] } }, { h := { b := some true } }] ⟨[(13, vb true), (0, vl 1 Ru32 p0), (1, vl 1 Ru32 p1)], [], 9⟩ [True, ((True) ∧ (True)) ∧ (All2 ArgLe [vl 1 Ru32 p0] [vl 1 Ru32 p0]) ∧ ((true = true → flatB [])) ∧ (Con Try.prog 31 [vl 1 Ru32 p0] [] (vb y8) []), (!y8) = true, True, True, True, True, True] (by kernel_rfl) (by kernel_rfl) ⟨tv, ⟨⟨tv, tv⟩, ⟨ArgLe.refl _, tv⟩, (fun _ => tv), (rl_ref10_Valid_con p0 y8 e9)⟩, c10, tv, tv, tv, tv, tv, tv⟩ ?_
   exact joinQ_leaf (true) h (conv_ren [] [0, 1, 13] (n := 0) (by kernel_rfl) (by kernel_rfl))
  ·rw [if_neg c10] at h
   obtain ⟨y11, e12, h⟩ := bnd_some h
   refine AW.reg tt_ok1 [0, 1, 13] [] [{}, { call := some { ids := [], frz := [], flat := true, cnt := 0, args := [vl 1 Ru32 p0], out := vb y8, outb := [] } }, { h := { b := some false } }, {}, {}, { call := some { ids := [], frz := [], flat := true, cnt := 0, args := [vl 1 Ru32 p1], out := vb y11, outb := [] } }] ⟨[(13, vb (!y11)), (0, vl 1 Ru32 p0), (1, vl 1 Ru32 p1)], [], 8⟩ [True, ((True) ∧ (True)) ∧ (All2 ArgLe [vl 1 Ru32 p0] [vl 1 Ru32 p0]) ∧ ((true = true → flatB [])) ∧ (Con Try.prog 31 [vl 1 Ru32 p0] [] (vb y8) []), (!y8) = false, True, True, ((True) ∧ (True)) ∧ (All2 ArgLe [vl 1 Ru32 p1] [vl 1 Ru32 p1]) ∧ ((true = true → flatB [])) ∧ (Con Try.prog 31 [vl 1 Ru32 p1] [] (vb y11) []), True, True] (by kernel_rfl) (by kernel_rfl) ⟨tv, ⟨⟨tv, tv⟩, ⟨ArgLe.refl _, tv⟩, (fun _ => tv), (rl_ref10_Valid_con p0 y8 e9)⟩, (off_false c10), tv, tv, ⟨⟨tv, tv⟩, ⟨ArgLe.refl _, tv⟩, (fun _ => tv), (rl_ref10_Valid_con p1 y11 e12)⟩, tv, tv, tv⟩ ?_
   exact joinQ_leaf (!y11) h (conv_ren [] [0, 1, 13] (n := 0) (by kernel_rfl) (by kernel_rfl))
/-! recordlink/recordlinkref10.product -/
noncomputable def rl_ref10_product_l34 (p0 : List Int) (p1 : List Int) (x6 : Int) (x12 : List Int) (x13 : Int) (x14 : Int) : Option (((List Int) × Int × Int) ⊕ ((List Int) × Int)) := if (decide (x14 < ((p1.length : Nat) : Int))) = true then (if 0 ≤ x6 then (if x6 < ((p0.length : Nat) : Int) then (if 0 ≤ x14 then (if x14 < ((p1.length : Nat) : Int) then (if 0 ≤ (i64.wrap (x6 + x14)) then (if (i64.wrap (x6 + x14)) < ((x12.length : Nat) : Int) then ((some (u64.wrap ((u64.wrap ((u64.wrap ((u64.wrap (p0.getD x6.toNat 0)) * (u64.wrap (p1.getD x14.toNat 0)))) + (u64.wrap (x12.getD (0 + (i64.wrap (x6 + x14)).toNat) 0)))) + x13))).bind fun z24 => (some (.inl ((x12.set (0 + (i64.wrap (x6 + x14)).toNat) (u32.wrap z24)), ishr .u64 z24 32, i64.wrap (x14 + 1))))) else none) else none) else none) else none) else none) else none) else (some (.inr (x12, x13)))
noncomputable def rl_ref10_product_l30 (p0 : List Int) (p1 : List Int) (x5 : List Int) (x6 : Int) : Option (((List Int) × Int) ⊕ (List Int)) := if (decide (x6 < ((p0.length : Nat) : Int))) = true then (bind2 (loop (fun v : (List Int) × Int × Int => rl_ref10_product_l34 p0 p1 x6 v.1 v.2.1 v.2.2) (x5, 0, 0)) fun x26 x27 => (if 0 ≤ (i64.wrap (x6 + ((p1.length : Nat) : Int))) then (if (i64.wrap (x6 + ((p1.length : Nat) : Int))) < ((x26.length : Nat) : Int) then (some (.inl ((x26.set (0 + (i64.wrap (x6 + ((p1.length : Nat) : Int))).toNat) (u32.wrap x27)), i64.wrap (x6 + 1)))) else none) else none)) else (some (.inr x5))
noncomputable def rl_ref10_product (p0 : List Int) (p1 : List Int) : Option (List Int) := if 0 ≤ (i64.wrap (((p0.length : Nat) : Int) + ((p1.length : Nat) : Int))) then (if (i64.wrap (((p0.length : Nat) : Int) + ((p1.length : Nat) : Int))) ≤ 1099511627776 then ((loop (fun v : (List Int) × Int => rl_ref10_product_l30 p0 p1 v.1 v.2) ((List.replicate ((i64.wrap (((p0.length : Nat) : Int) + ((p1.length : Nat) : Int))).toNat) (0 : Int)), 0)).bind fun x31 => ((rl_ref10_trim x31).bind fun y32 => (some y32))) else none) else none
set_option maxRecDepth 100000 in
set_option maxHeartbeats 10000000 in
theorem rl_ref10_product_con (p0 : List Int) (p1 : List Int) (r0 : List Int) (h : rl_ref10_product p0 p1 = some r0) : Con Try.prog 52 [vl 1 Ru32 p0, vl 1 Ru32 p1] [] (vl 1 Ru32 r0) [] := by
 revert h; generalize r0 = r; intro h
 refine con_of tt_ok1 0 Try.func52 (by kernel_rfl) rfl (by kernel_rfl) (fun base X hk => AW.post ?_)
 unfold rl_ref10_product at h
 refine AW.seq ?_
 refine AW.reg tt_ok1 [0, 1] [] [] ⟨[(0, vl 1 Ru32 p0), (1, vl 1 Ru32 p1)], [], 1⟩ [True] (by kernel_rfl) (by kernel_rfl) ⟨tv, tv⟩ ?_
 refine AW.tn ?_
 refine AW.seq ?_
 obtain ⟨g1, h⟩ := ifc h
 obtain ⟨g2, h⟩ := ifc h
 refine AW.reg tt_ok1 [0, 1, 5] [6] [{}, {}, {}, {}, {}, { h := { row := some ((List.replicate ((i64.wrap (((p0.length : Nat) : Int) + ((p1.length : Nat) : Int))).toNat) (0 : Int)).length, Ru32 (List.replicate ((i64.wrap (((p0.length : Nat) : Int) + ((p1.length : Nat) : Int))).toNat) (0 : Int))) } }] ⟨[(5, .c (.ref 6 1 0 ((List.replicate ((i64.wrap (((p0.length : Nat) : Int) + ((p1.length : Nat) : Int))).toNat) (0 : Int)).length))), (0, vl 1 Ru32 p0), (1, vl 1 Ru32 p1)], [(6, .row 37 false 1 (List.replicate ((i64.wrap (((p0.length : Nat) : Int) + ((p1.length : Nat) : Int))).toNat) (0 : Int)).length (Ru32 (List.replicate ((i64.wrap (((p0.length : Nat) : Int) + ((p1.length : Nat) : Int))).toNat) (0 : Int))))], 8⟩ [True, True, True, True, True, ((0 ≤ (i64.wrap (((p0.length : Nat) : Int) + ((p1.length : Nat) : Int)))) ∧ ((i64.wrap (((p0.length : Nat) : Int) + ((p1.length : Nat) : Int))) ≤ (i64.wrap (((p0.length : Nat) : Int) + ((p1.length : Nat) : Int)))) ∧ ((i64.wrap (((p0.length : Nat) : Int) + ((p1.length : Nat) : Int))) ≤ 1099511627776) ∧ ((4 : Nat) ≤ 128)) ∧ ((i64.wrap (((p0.length : Nat) : Int) + ((p1.length : Nat) : Int))).toNat = (List.replicate ((i64.wrap (((p0.length : Nat) : Int) + ((p1.length : Nat) : Int))).toNat) (0 : Int)).length ∧ ∀ i, i < (List.replicate ((i64.wrap (((p0.length : Nat) : Int) + ((p1.length : Nat) : Int))).toNat) (0 : Int)).length → ∀ j, j < 1 → TLe ((fun _ j => .v (([.int .u32 0] : List Value).getD j undef)) i j) (Ru32 (List.replicate ((i64.wrap (((p0.length : Nat) : Int) + ((p1.length : Nat) : Int))).toNat) (0 : Int)) i j)), True] (by kernel_rfl) (by kernel_rfl) ⟨tv, tv, tv, tv, tv, ⟨⟨g1, Int.le_refl _, g2, (by decide)⟩, mk_row (fun j hj => match j, hj with | 0, _ => TLe.refl _ | _ + 1, h => absurd h (by omega))⟩, tv, tv⟩ ?_
 refine AW.tn ?_
 refine AW.seq ?_
 refine AW.seq ?_
 refine AW.reg tt_ok1 [0, 1, 5, 6] [6] [] ⟨[(6, vi64 0), (5, .c (.ref 6 1 0 ((List.replicate ((i64.wrap (((p0.length : Nat) : Int) + ((p1.length : Nat) : Int))).toNat) (0 : Int)).length))), (0, vl 1 Ru32 p0), (1, vl 1 Ru32 p1)], [(6, .row 37 false 1 (List.replicate ((i64.wrap (((p0.length : Nat) : Int) + ((p1.length : Nat) : Int))).toNat) (0 : Int)).length (Ru32 (List.replicate ((i64.wrap (((p0.length : Nat) : Int) + ((p1.length : Nat) : Int))).toNat) (0 : Int))))], 9⟩ [True] (by kernel_rfl) (by kernel_rfl) ⟨tv, tv⟩ ?_
 refine AW.tn ?_
 refine AW.block ?_
 obtain ⟨x31, l34, h⟩ := bnd_some h
 refine AW.pre (S' := ((fun v => ⟨[(0, vl 1 Ru32 p0), (1, vl 1 Ru32 p1), (5, .c (.ref 0 1 0 v.1.length)), (6, vi64 v.2)], [(0, .row 37 false 1 v.1.length (Ru32 v.1))], 1⟩) : ((List Int) × Int) → St) ((List.replicate ((i64.wrap (((p0.length : Nat) : Int) + ((p1.length : Nat) : Int))).toNat) (0 : Int)), 0)) (conv_ren [(0, 6)] [0, 1, 5, 6] (n := 1) (by kernel_rfl) (by kernel_rfl)) ?_
 refine AW.loop2 (step := (fun v : (List Int) × Int => rl_ref10_product_l30 p0 p1 v.1 v.2)) (s0 := ((List.replicate ((i64.wrap (((p0.length : Nat) : Int) + ((p1.length : Nat) : Int))).toNat) (0 : Int)), 0)) (t := x31) (fun v => ⟨[(0, vl 1 Ru32 p0), (1, vl 1 Ru32 p1), (5, .c (.ref 0 1 0 v.1.length)), (6, vi64 v.2)], [(0, .row 37 false 1 v.1.length (Ru32 v.1))], 1⟩) (fun t : List Int => (.exit 0, ⟨[(5, .c (.ref 0 1 0 t.length))], [(0, .row 37 false 1 t.length (Ru32 t))], 1⟩)) l34 (fun _ => tv) ?_ ?_
 ·
  intro v o h
  obtain ⟨x5, x6⟩ := v
  replace h : rl_ref10_product_l30 p0 p1 x5 x6 = some o := h
  unfold rl_ref10_product_l30 at h
  show AW _ ⟨[(0, vl 1 Ru32 p0), (1, vl 1 Ru32 p1), (5, .c (.ref 0 1 0 x5.length)), (6, vi64 x6)], [(0, .row 37 false 1 x5.length (Ru32 x5))], 1⟩ _ _
  refine AW.seq ?_
  refine AW.seq ?_
  refine AW.reg tt_ok1 [0, 1, 5, 6, 19] [0] [] ⟨[(19, vb (decide (x6 < ((p0.length : Nat) : Int)))), (0, vl 1 Ru32 p0), (1, vl 1 Ru32 p1), (5, .c (.ref 0 1 0 x5.length)), (6, vi64 x6)], [(0, .row 37 false 1 x5.length (Ru32 x5))], 5⟩ [True, True, True, True] (by kernel_rfl) (by kernel_rfl) ⟨tv, tv, tv, tv, tv⟩ ?_
  refine AW.tn ?_
  refine AW.cond (b := decide (x6 < ((p0.length : Nat) : Int))) (by kernel_rfl) (fun c8 => ?_) (fun c8 => ?_)
  ·rw [if_pos c8] at h
   refine AW.skip ?_
   refine AW.tn ?_
   refine AW.seq ?_
   refine AW.block ?_
   refine AW.seq ?_
   refine AW.reg tt_ok1 [0, 1, 5, 6, 7] [0] [] ⟨[(7, vu64 0), (0, vl 1 Ru32 p0), (1, vl 1 Ru32 p1), (5, .c (.ref 0 1 0 x5.length)), (6, vi64 x6)], [(0, .row 37 false 1 x5.length (Ru32 x5))], 6⟩ [True] (by kernel_rfl) (by kernel_rfl) ⟨tv, tv⟩ ?_
   refine AW.tn ?_
   refine AW.seq ?_
   refine AW.seq ?_
   refine AW.reg tt_ok1 [0, 1, 5, 6, 7, 8] [0] [] ⟨[(8, vi64 0), (7, vu64 0), (0, vl 1 Ru32 p0), (1, vl 1 Ru32 p1), (5, .c (.ref 0 1 0 x5.length)), (6, vi64 x6)], [(0, .row 37 false 1 x5.length (Ru32 x5))], 7⟩ [True] (by kernel_rfl) (by kernel_rfl) ⟨tv, tv⟩ ?_
   refine AW.tn ?_
   refine AW.block ?_
   obtain ⟨x26, x27, l30, h⟩ := bind2_some h
   refine AW.pre (S' := ((fun v => ⟨[(0, vl 1 Ru32 p0), (1, vl 1 Ru32 p1), (5, .c (.ref 0 1 0 v.1.length)), (6, vi64 x6), (7, vu64 v.2.1), (8, vi64 v.2.2)], [(0, .row 37 false 1 v.1.length (Ru32 v.1))], 1⟩) : ((List Int) × Int × Int) → St) (x5, 0, 0)) (conv_ren [(0, 0)] [0, 1, 5, 6, 7, 8] (n := 1) (by kernel_rfl) (by kernel_rfl)) ?_
   refine AW.loop2 (step := (fun v : (List Int) × Int × Int => rl_ref10_product_l34 p0 p1 x6 v.1 v.2.1 v.2.2)) (s0 := (x5, 0, 0)) (t := (x26, x27)) (fun v => ⟨[(0, vl 1 Ru32 p0), (1, vl 1 Ru32 p1), (5, .c (.ref 0 1 0 v.1.length)), (6, vi64 x6), (7, vu64 v.2.1), (8, vi64 v.2.2)], [(0, .row 37 false 1 v.1.length (Ru32 v.1))], 1⟩) (fun t : (List Int) × Int => (.exit 2, ⟨[(0, vl 1 Ru32 p0), (1, vl 1 Ru32 p1), (5, .c (.ref 0 1 0 t.1.length)), (6, vi64 x6), (7, vu64 t.2)], [(0, .row 37 false 1 t.1.length (Ru32 t.1))], 1⟩)) l30 (fun _ => tv) ?_ ?_
   ·
    intro v o h
    obtain ⟨x12, x13, x14⟩ := v
    replace h : rl_ref10_product_l34 p0 p1 x6 x12 x13 x14 = some o := h
    unfold rl_ref10_product_l34 at h
    show AW _ ⟨[(0, vl 1 Ru32 p0), (1, vl 1 Ru32 p1), (5, .c (.ref 0 1 0 x12.length)), (6, vi64 x6), (7, vu64 x13), (8, vi64 x14)], [(0, .row 37 false 1 x12.length (Ru32 x12))], 1⟩ _ _
    refine AW.seq ?_
    refine AW.seq ?_
    refine AW.reg tt_ok1 [0, 1, 5, 6, 7, 8, 25] [0] [] ⟨[(25, vb (decide (x14 < ((p1.length : Nat) : Int)))), (0, vl 1 Ru32 p0), (1, vl 1 Ru32 p1), (5, .c (.ref 0 1 0 x12.length)), (6, vi64 x6), (7, vu64 x13), (8, vi64 x14)], [(0, .row 37 false 1 x12.length (Ru32 x12))], 5⟩ [True, True, True, True] (by kernel_rfl) (by kernel_rfl) ⟨tv, tv, tv, tv, tv⟩ ?_
    refine AW.tn ?_
    refine AW.cond (b := decide (x14 < ((p1.length : Nat) : Int))) (by kernel_rfl) (fun c17 => ?_) (fun c17 => ?_)
    ·rw [if_pos c17] at h
     refine AW.skip ?_
     refine AW.tn ?_
     refine AW.seq ?_
     refine AW.block ?_
     refine AW.seq ?_
     obtain ⟨g18, h⟩ := ifc h
     obtain ⟨g19, h⟩ := ifc h
     obtain ⟨g20, h⟩ := ifc h
     obtain ⟨g21, h⟩ := ifc h
     obtain ⟨g22, h⟩ := ifc h
     obtain ⟨g23, h⟩ := ifc h
     obtain ⟨z24, n25, h⟩ := bnd_some h
     replace n25 := some_inj n25
     refine AW.regD tt_ok1 mo1 [0, 0, 3, 7, 15, 0, 0, 96, 224, 480, 1023, 0, 0, 0, 12288, 30720, 63488, 129024, 262143, 0, 1048575, 2097151] [[], [], [], [], [], [], [], [], [], [], [], [], [], [], [], [], [], [], [], [], [], []] [0, 1, 5, 6, 8, 9] [0] [] ⟨[(9, vu64 (u64.wrap ((u64.wrap ((u64.wrap ((u64.wrap (p0.getD x6.toNat 0)) * (u64.wrap (p1.getD x14.toNat 0)))) + (u64.wrap (x12.getD (0 + (i64.wrap (x6 + x14)).toNat) 0)))) + x13))), (0, vl 1 Ru32 p0), (1, vl 1 Ru32 p1), (5, .c (.ref 0 1 0 x12.length)), (6, vi64 x6), (8, vi64 x14)], [(0, .row 37 false 1 x12.length (Ru32 x12))], 27⟩ [True, True, (0 ≤ x6) ∧ (x6 < ((p0.length : Nat) : Int)), True, True, True, True, (0 ≤ x14) ∧ (x14 < ((p1.length : Nat) : Int)), True, True, True, True, True, True, True, (0 ≤ (i64.wrap (x6 + x14))) ∧ ((i64.wrap (x6 + x14)) < ((x12.length : Nat) : Int)), (0 + (i64.wrap (x6 + x14)).toNat) < x12.length, True, True, True, True, True] (by kernel_rfl) (by kernel_rfl) ⟨tv, tv, ⟨g18, g19⟩, tv, tv, tv, tv, ⟨g20, g21⟩, tv, tv, tv, tv, tv, tv, tv, ⟨g22, g23⟩, (by have h1 : 0 ≤ (i64.wrap (x6 + x14)) := g22; have h2 : (i64.wrap (x6 + x14)) < ((x12.length : Nat) : Int) := g23; omega), tv, tv, tv, tv, tv, tv⟩ ?_
     refine eq_Q (S' := ⟨[(9, vu64 z24), (0, vl 1 Ru32 p0), (1, vl 1 Ru32 p1), (5, .c (.ref 0 1 0 x12.length)), (6, vi64 x6), (8, vi64 x14)], [(0, .row 37 false 1 x12.length (Ru32 x12))], 27⟩) (by rw [n25]) ?_
     refine AW.tn ?_
     refine AW.seq ?_
     refine AW.reg tt_ok1 [0, 1, 5, 6, 8, 9] [0] [{}, {}, {}, {}, {}, {}, {}, { h := { row := some (x12.length, Ru32 (x12.set (0 + (i64.wrap (x6 + x14)).toNat) (u32.wrap z24))) } }] ⟨[(9, vu64 z24), (0, vl 1 Ru32 p0), (1, vl 1 Ru32 p1), (5, .c (.ref 0 1 0 x12.length)), (6, vi64 x6), (8, vi64 x14)], [(0, .row 37 false 1 x12.length (Ru32 (x12.set (0 + (i64.wrap (x6 + x14)).toNat) (u32.wrap z24))))], 35⟩ [True, True, True, True, True, True, (0 ≤ (i64.wrap (x6 + x14))) ∧ ((i64.wrap (x6 + x14)) < ((x12.length : Nat) : Int)), ((0 + (i64.wrap (x6 + x14)).toNat) < x12.length) ∧ (x12.length = x12.length ∧ ∀ i, i < x12.length → ∀ j, j < 1 → TLe (updRow (Ru32 x12) (0 + (i64.wrap (x6 + x14)).toNat) 0 [.v (.int .u32 (u32.wrap z24))] i j) (Ru32 (x12.set (0 + (i64.wrap (x6 + x14)).toNat) (u32.wrap z24)) i j))] (by kernel_rfl) (by kernel_rfl) ⟨tv, tv, tv, tv, tv, tv, ⟨g22, g23⟩, ⟨(by have h1 : 0 ≤ (i64.wrap (x6 + x14)) := g22; have h2 : (i64.wrap (x6 + x14)) < ((x12.length : Nat) : Int) := g23; omega), set_rowN rfl (by have h1 : 0 ≤ (i64.wrap (x6 + x14)) := g22; have h2 : (i64.wrap (x6 + x14)) < ((x12.length : Nat) : Int) := g23; omega) (fun j hj => match j, hj with | 0, _ => TLe.refl _ | _ + 1, h => absurd h (by omega))⟩, tv⟩ ?_
     refine AW.tn ?_
     refine AW.reg tt_ok1 [0, 1, 5, 6, 7, 8] [0] [] ⟨[(7, vu64 (ishr .u64 z24 32)), (0, vl 1 Ru32 p0), (1, vl 1 Ru32 p1), (5, .c (.ref 0 1 0 x12.length)), (6, vi64 x6), (8, vi64 x14)], [(0, .row 37 false 1 x12.length (Ru32 (x12.set (0 + (i64.wrap (x6 + x14)).toNat) (u32.wrap z24))))], 38⟩ [True, 0 ≤ (32 : Int), True] (by kernel_rfl) (by kernel_rfl) ⟨tv, (by decide), tv, tv⟩ ?_
     refine AW.inBlock_normal ?_
     refine AW.tn ?_
     refine AW.reg tt_ok1 [0, 1, 5, 6, 7, 8] [0] [] ⟨[(8, vi64 (i64.wrap (x14 + 1))), (7, vu64 (ishr .u64 z24 32)), (0, vl 1 Ru32 p0), (1, vl 1 Ru32 p1), (5, .c (.ref 0 1 0 x12.length)), (6, vi64 x6)], [(0, .row 37 false 1 x12.length (Ru32 (x12.set (0 + (i64.wrap (x6 + x14)).toNat) (u32.wrap z24))))], 41⟩ [True, True, True] (by kernel_rfl) (by kernel_rfl) ⟨tv, tv, tv, tv⟩ ?_
     obtain rfl := some_inj h
     refine loopQ_next (Conv.trans (conv_len (S' := ⟨[(8, vi64 (i64.wrap (x14 + 1))), (7, vu64 (ishr .u64 z24 32)), (0, vl 1 Ru32 p0), (1, vl 1 Ru32 p1), (5, .c (.ref 0 1 0 ((x12.set (0 + (i64.wrap (x6 + x14)).toNat) (u32.wrap z24)).length))), (6, vi64 x6)], [(0, .row 37 false 1 (x12.set (0 + (i64.wrap (x6 + x14)).toNat) (u32.wrap z24)).length (Ru32 (x12.set (0 + (i64.wrap (x6 + x14)).toNat) (u32.wrap z24))))], 41⟩) (by simp only [List.length_set])) (conv_ren [(0, 0)] [0, 1, 5, 6, 7, 8] (n := 1) (by kernel_rfl) (by kernel_rfl)))
    ·rw [if_neg (nb c17)] at h
     refine AW.exit ?_
     refine AW.thenQ_exit ?_
     obtain rfl := some_inj h
     refine loopQ_out rfl (conv_ren [(0, 0)] [0, 1, 5, 6, 7] (n := 1) (by kernel_rfl) (by kernel_rfl))
   ·
    show (_ : Exit → St → Prop) (.exit 2) ⟨[(0, vl 1 Ru32 p0), (1, vl 1 Ru32 p1), (5, .c (.ref 0 1 0 x26.length)), (6, vi64 x6), (7, vu64 x27)], [(0, .row 37 false 1 x26.length (Ru32 x26))], 1⟩
    refine AW.inBlock_hit ?_
    refine AW.tn ?_
    obtain ⟨g28, h⟩ := ifc h
    obtain ⟨g29, h⟩ := ifc h
    refine AW.reg tt_ok1 [0, 1, 5, 6] [0] [{}, {}, {}, {}, {}, {}, {}, {}, { h := { row := some (x26.length, Ru32 (x26.set (0 + (i64.wrap (x6 + ((p1.length : Nat) : Int))).toNat) (u32.wrap x27))) } }] ⟨[(0, vl 1 Ru32 p0), (1, vl 1 Ru32 p1), (5, .c (.ref 0 1 0 x26.length)), (6, vi64 x6)], [(0, .row 37 false 1 x26.length (Ru32 (x26.set (0 + (i64.wrap (x6 + ((p1.length : Nat) : Int))).toNat) (u32.wrap x27))))], 10⟩ [True, True, True, True, True, True, True, (0 ≤ (i64.wrap (x6 + ((p1.length : Nat) : Int)))) ∧ ((i64.wrap (x6 + ((p1.length : Nat) : Int))) < ((x26.length : Nat) : Int)), ((0 + (i64.wrap (x6 + ((p1.length : Nat) : Int))).toNat) < x26.length) ∧ (x26.length = x26.length ∧ ∀ i, i < x26.length → ∀ j, j < 1 → TLe (updRow (Ru32 x26) (0 + (i64.wrap (x6 + ((p1.length : Nat) : Int))).toNat) 0 [.v (.int .u32 (u32.wrap x27))] i j) (Ru32 (x26.set (0 + (i64.wrap (x6 + ((p1.length : Nat) : Int))).toNat) (u32.wrap x27)) i j))] (by kernel_rfl) (by kernel_rfl) ⟨tv, tv, tv, tv, tv, tv, tv, ⟨g28, g29⟩, ⟨(by have h1 : 0 ≤ (i64.wrap (x6 + ((p1.length : Nat) : Int))) := g28; have h2 : (i64.wrap (x6 + ((p1.length : Nat) : Int))) < ((x26.length : Nat) : Int) := g29; omega), set_rowN rfl (by have h1 : 0 ≤ (i64.wrap (x6 + ((p1.length : Nat) : Int))) := g28; have h2 : (i64.wrap (x6 + ((p1.length : Nat) : Int))) < ((x26.length : Nat) : Int) := g29; omega) (fun j hj => match j, hj with | 0, _ => TLe.refl _ | _ + 1, h => absurd h (by omega))⟩, tv⟩ ?_
    refine AW.inBlock_normal ?_
    refine AW.tn ?_
    refine AW.reg tt_ok1 [0, 1, 5, 6] [0] [] ⟨[(6, vi64 (i64.wrap (x6 + 1))), (0, vl 1 Ru32 p0), (1, vl 1 Ru32 p1), (5, .c (.ref 0 1 0 x26.length))], [(0, .row 37 false 1 x26.length (Ru32 (x26.set (0 + (i64.wrap (x6 + ((p1.length : Nat) : Int))).toNat) (u32.wrap x27))))], 13⟩ [True, True, True] (by kernel_rfl) (by kernel_rfl) ⟨tv, tv, tv, tv⟩ ?_
    obtain rfl := some_inj h
    refine loopQ_next (Conv.trans (conv_len (S' := ⟨[(6, vi64 (i64.wrap (x6 + 1))), (0, vl 1 Ru32 p0), (1, vl 1 Ru32 p1), (5, .c (.ref 0 1 0 ((x26.set (0 + (i64.wrap (x6 + ((p1.length : Nat) : Int))).toNat) (u32.wrap x27)).length)))], [(0, .row 37 false 1 (x26.set (0 + (i64.wrap (x6 + ((p1.length : Nat) : Int))).toNat) (u32.wrap x27)).length (Ru32 (x26.set (0 + (i64.wrap (x6 + ((p1.length : Nat) : Int))).toNat) (u32.wrap x27))))], 13⟩) (by simp only [List.length_set])) (conv_ren [(0, 0)] [0, 1, 5, 6] (n := 1) (by kernel_rfl) (by kernel_rfl)))
  ·rw [if_neg (nb c8)] at h
   refine AW.exit ?_
   refine AW.thenQ_exit ?_
   obtain rfl := some_inj h
   refine loopQ_out rfl (conv_ren [(0, 0)] [5] (n := 1) (by kernel_rfl) (by kernel_rfl))
 ·
  show (_ : Exit → St → Prop) (.exit 0) ⟨[(5, .c (.ref 0 1 0 x31.length))], [(0, .row 37 false 1 x31.length (Ru32 x31))], 1⟩
  refine AW.inBlock_hit ?_
  refine AW.tn ?_
  refine AW.seq ?_
  obtain ⟨y32, e33, h⟩ := bnd_some h
  refine AW.reg tt_ok1 [4] [] [{}, { call := some { ids := [], frz := [0], flat := false, cnt := 0, args := [vl 1 Ru32 x31], out := vl 1 Ru32 y32, outb := [] } }] ⟨[(4, vl 1 Ru32 y32)], [], 3⟩ [True, ((0 + x31.length ≤ x31.length) ∧ (True)) ∧ (All2 ArgLe [vl 1 Ru32 x31] [vl 1 Ru32 x31]) ∧ ((false = true → flatB [])) ∧ (Con Try.prog 45 [vl 1 Ru32 x31] [] (vl 1 Ru32 y32) []), True] (by kernel_rfl) (by kernel_rfl) ⟨tv, ⟨⟨le0, tv⟩, ⟨ArgLe.refl _, tv⟩, (fun h => by cases h), (rl_ref10_trim_con x31 y32 e33)⟩, tv, tv⟩ ?_
  refine AW.tn ?_
  refine AW.ret ?_
  obtain rfl := some_inj h
  exact ⟨_, Conv.refl _ _, .inr rfl, OutOk.mk [] 0 (out0 := vl 1 Ru32 y32) (ps := [True]) (by kernel_rfl) ⟨tv, tv⟩ (by kernel_rfl) (by kernel_rfl)⟩
/-! recordlink/recordlinkref10.Mul -/
noncomputable def rl_ref10_Mul_k4 (p0 : List Int) (p1 : List Int) (x1 : Bool) : Option ((List Int) × Int) := if x1 = true then (some (([] : List Int), 20)) else ((rl_ref10_product p0 p1).bind fun y3 => (bind2 (rl_ref10_limited y3) fun y5 y6 => (some (y5, y6))))
noncomputable def rl_ref10_Mul (p0 : List Int) (p1 : List Int) : Option ((List Int) × Int) := (rl_ref10_Valid p0).bind fun y8 => (if (!y8) = true then (rl_ref10_Mul_k4 p0 p1 true) else ((rl_ref10_Valid p1).bind fun y11 => (rl_ref10_Mul_k4 p0 p1 (!y11))))
set_option maxRecDepth 100000 in
set_option maxHeartbeats 10000000 in
theorem rl_ref10_Mul_con (p0 : List Int) (p1 : List Int) (r0 : List Int) (r1 : Int) (h : rl_ref10_Mul p0 p1 = some (r0, r1)) : Con Try.prog 49 [vl 1 Ru32 p0, vl 1 Ru32 p1] [] (.tup [vl 1 Ru32 r0, vi64 r1]) [] := by
 suffices H : ∀ r, rl_ref10_Mul p0 p1 = some r → Con Try.prog 49 [vl 1 Ru32 p0, vl 1 Ru32 p1] [] (.tup [vl 1 Ru32 r.1, vi64 r.2]) [] from H (r0, r1) h
 clear h
 intro r h
 refine con_of tt_ok1 0 Try.func49 (by kernel_rfl) rfl (by kernel_rfl) (fun base X hk => AW.post ?_)
 unfold rl_ref10_Mul at h
 refine AW.seq ?_
 refine AW.reg tt_ok1 [0, 1] [] [] ⟨[(0, vl 1 Ru32 p0), (1, vl 1 Ru32 p1)], [], 2⟩ [True, True] (by kernel_rfl) (by kernel_rfl) ⟨tv, tv, tv⟩ ?_
 refine AW.tn ?_
 refine AW.seq ?_
 refine AW.seq ?_
 refine AW.join (ι := Bool) (fun v => ⟨[(0, vl 1 Ru32 p0), (1, vl 1 Ru32 p1), (13, vb v)], [], 0⟩) (fun v : Bool => rl_ref10_Mul_k4 p0 p1 v = some r) (fun v h => ?_) ?_
 ·
  obtain ⟨x1, rfl⟩ : ∃ x, x = v := ⟨_, rfl⟩
  replace h : rl_ref10_Mul_k4 p0 p1 x1 = some r := h
  unfold rl_ref10_Mul_k4 at h
  show (_ : Exit → St → Prop) .normal ⟨[(0, vl 1 Ru32 p0), (1, vl 1 Ru32 p1), (13, vb x1)], [], 0⟩
  refine AW.tn ?_
  refine AW.cond (b := x1) (by kernel_rfl) (fun c2 => ?_) (fun c2 => ?_)
  ·rw [if_pos c2] at h
   refine AW.seq ?_
   refine AW.reg tt_ok1 [4, 5] [] [] ⟨[(5, vi64 20), (4, .c (.t (.v (.slice none 0 0))))], [], 2⟩ [True, True] (by kernel_rfl) (by kernel_rfl) ⟨tv, tv, tv⟩ ?_
   refine AW.tn ?_
   refine AW.ret ?_
   refine AW.tr ?_
   obtain rfl := some_inj h
   exact ⟨_, conv_tm (tm' := [(5, vi64 20), (4, vl 1 Ru32 ([] : List Int))]) ⟨⟨vi64 20, by kernel_rfl, ALe.refl _ _⟩, ⟨.c (.t (.v (.slice none 0 0))), by kernel_rfl, ALe.c (CLe.nil rfl)⟩, tv⟩, .inr rfl, OutOk.mk [] 0 (out0 := .tup [vl 1 Ru32 ([] : List Int), vi64 20]) (ps := [True, True]) (by kernel_rfl) ⟨tv, tv, tv⟩ (by kernel_rfl) (by kernel_rfl)⟩
  ·rw [if_neg (nb c2)] at h
   refine AW.skip ?_
   refine AW.tn ?_
   refine AW.seq ?_
   obtain ⟨y3, e4, h⟩ := bnd_some h
   obtain ⟨y5, y6, e7, h⟩ := bind2_some h
   refine AW.reg tt_ok1 [4, 5] [] [{}, {}, { call := some { ids := [], frz := [], flat := false, cnt := 0, args := [vl 1 Ru32 p0, vl 1 Ru32 p1], out := vl 1 Ru32 y3, outb := [] } }, { call := some { ids := [], frz := [], flat := false, cnt := 0, args := [vl 1 Ru32 y3], out := .tup [vl 1 Ru32 y5, vi64 y6], outb := [] } }] ⟨[(5, vi64 y6), (4, vl 1 Ru32 y5)], [], 6⟩ [True, True, ((True) ∧ (True) ∧ (True)) ∧ (All2 ArgLe [vl 1 Ru32 p0, vl 1 Ru32 p1] [vl 1 Ru32 p0, vl 1 Ru32 p1]) ∧ ((false = true → flatB [])) ∧ (Con Try.prog 52 [vl 1 Ru32 p0, vl 1 Ru32 p1] [] (vl 1 Ru32 y3) []), ((True) ∧ (True)) ∧ (All2 ArgLe [vl 1 Ru32 y3] [vl 1 Ru32 y3]) ∧ ((false = true → flatB [])) ∧ (Con Try.prog 60 [vl 1 Ru32 y3] [] (.tup [vl 1 Ru32 y5, vi64 y6]) []), True, True, True, True] (by kernel_rfl) (by kernel_rfl) ⟨tv, tv, ⟨⟨tv, tv, tv⟩, ⟨ArgLe.refl _, ArgLe.refl _, tv⟩, (fun h => by cases h), (rl_ref10_product_con p0 p1 y3 e4)⟩, ⟨⟨tv, tv⟩, ⟨ArgLe.refl _, tv⟩, (fun h => by cases h), (rl_ref10_limited_con y3 y5 y6 e7)⟩, tv, tv, tv, tv, tv⟩ ?_
   refine AW.tn ?_
   refine AW.ret ?_
   obtain rfl := some_inj h
   exact ⟨_, Conv.refl _ _, .inr rfl, OutOk.mk [] 0 (out0 := .tup [vl 1 Ru32 y5, vi64 y6]) (ps := [True, True]) (by kernel_rfl) ⟨tv, tv, tv⟩ (by kernel_rfl) (by kernel_rfl)⟩
 ·
  obtain ⟨y8, e9, h⟩ := bnd_some h
  by_cases c10 : (!y8) = true
  ·rw [if_pos c10] at h
   refine AW.reg tt_ok1 [0, 1, 13] [] [{}, { call := some { ids := [], frz := [], flat := true, cnt := 0, args := [vl 1 Ru32 p0], out := vb y8, outb := [] } }, { h := { b := some true } }] ⟨[(13, vb true), (0, vl 1 Ru32 p0), (1, vl 1 Ru32 p1)], [], 9⟩ [True, ((True) ∧ (True)) ∧ (All2 ArgLe [vl 1 Ru32 p0] [vl 1 Ru32 p0]) ∧ ((true = true → flatB [])) ∧ (Con Try.prog 31 [vl 1 Ru32 p0] [] (vb y8) []), (!y8) = true, True, True, True, True, True] (by kernel_rfl) (by kernel_rfl) ⟨tv, ⟨⟨tv, tv⟩, ⟨ArgLe.refl _, tv⟩, (fun _ => tv), (rl_ref10_Valid_con p0 y8 e9)⟩, c10, tv, tv, tv, tv, tv, tv⟩ ?_
   exact joinQ_leaf (true) h (conv_ren [] [0, 1, 13] (n := 0) (by kernel_rfl) (by kernel_rfl))
  ·rw [if_neg c10] at h
   obtain ⟨y11, e12, h⟩ := bnd_some h
   refine AW.reg tt_ok1 [0, 1, 13] [] [{}, { call := some { ids := [], frz := [], flat := true, cnt := 0, args := [vl 1 Ru32 p0], out := vb y8, outb := [] } }, { h := { b := some false } }, {}, {}, { call := some { ids := [], frz := [], flat := true, cnt := 0, args := [vl 1 Ru32 p1], out := vb y11, outb := [] } }] ⟨[(13, vb (!y11)), (0, vl 1 Ru32 p0), (1, vl 1 Ru32 p1)], [], 8⟩ [True, ((True) ∧ (True)) ∧ (All2 ArgLe [vl 1 Ru32 p0] [vl 1 Ru32 p0]) ∧ ((true = true → flatB [])) ∧ (Con Try.prog 31 [vl 1 Ru32 p0] [] (vb y8) []), (!y8) = false, True, True, ((True) ∧ (True)) ∧ (All2 ArgLe [vl 1 Ru32 p1] [vl 1 Ru32 p1]) ∧ ((true = true → flatB [])) ∧ (Con Try.prog 31 [vl 1 Ru32 p1] [] (vb y11) []), True, True] (by kernel_rfl) (by kernel_rfl) ⟨tv, ⟨⟨tv, tv⟩, ⟨ArgLe.refl _, tv⟩, (fun _ => tv), (rl_ref10_Valid_con p0 y8 e9)⟩, (off_false c10), tv, tv, ⟨⟨tv, tv⟩, ⟨ArgLe.refl _, tv⟩, (fun _ => tv), (rl_ref10_Valid_con p1 y11 e12)⟩, tv, tv, tv⟩ ?_
   exact joinQ_leaf (!y11) h (conv_ren [] [0, 1, 13] (n := 0) (by kernel_rfl) (by kernel_rfl))
/-! recordlink/natural.DivMod -/
noncomputable def natural_DivMod (p0 : List Int) (p1 : List Int) : Option ((List Int) × (List Int) × Int) := (natural_both p0 p1).bind fun y1 => (if (y1 != 0) = true then (some (([] : List Int), ([] : List Int), y1)) else (if (((p1.length : Nat) : Int) == 0) = true then (some (([] : List Int), ([] : List Int), 9)) else (bind2 (natural_divide p0 p1) fun y5 y6 => (some (y5, y6, 0)))))
set_option maxRecDepth 100000 in
set_option maxHeartbeats 10000000 in
theorem natural_DivMod_con (p0 : List Int) (p1 : List Int) (r0 : List Int) (r1 : List Int) (r2 : Int) (h : natural_DivMod p0 p1 = some (r0, r1, r2)) : Con Try.prog 19 [vl 1 Ru32 p0, vl 1 Ru32 p1] [] (.tup [vl 1 Ru32 r0, vl 1 Ru32 r1, vi64 r2]) [] := by
 suffices H : ∀ r, natural_DivMod p0 p1 = some r → Con Try.prog 19 [vl 1 Ru32 p0, vl 1 Ru32 p1] [] (.tup [vl 1 Ru32 r.1, vl 1 Ru32 r.2.1, vi64 r.2.2]) [] from H (r0, r1, r2) h
 clear h
 intro r h
 refine con_of tt_ok1 0 Try.func19 (by kernel_rfl) rfl (by kernel_rfl) (fun base X hk => AW.post ?_)
 unfold natural_DivMod at h
 refine AW.seq ?_
 refine AW.reg tt_ok1 [0, 1] [] [] ⟨[(0, vl 1 Ru32 p0), (1, vl 1 Ru32 p1)], [], 3⟩ [True, True, True] (by kernel_rfl) (by kernel_rfl) ⟨tv, tv, tv, tv⟩ ?_
 refine AW.tn ?_
 refine AW.seq ?_
 refine AW.seq ?_
 obtain ⟨y1, e2, h⟩ := bnd_some h
 refine AW.reg tt_ok1 [0, 1, 7] [] [{}, {}, { call := some { ids := [], frz := [], flat := true, cnt := 0, args := [vl 1 Ru32 p0, vl 1 Ru32 p1], out := vi64 y1, outb := [] } }] ⟨[(7, vi64 y1), (0, vl 1 Ru32 p0), (1, vl 1 Ru32 p1)], [], 6⟩ [True, True, ((True) ∧ (True) ∧ (True)) ∧ (All2 ArgLe [vl 1 Ru32 p0, vl 1 Ru32 p1] [vl 1 Ru32 p0, vl 1 Ru32 p1]) ∧ ((true = true → flatB [])) ∧ (Con Try.prog 36 [vl 1 Ru32 p0, vl 1 Ru32 p1] [] (vi64 y1) []), True] (by kernel_rfl) (by kernel_rfl) ⟨tv, tv, ⟨⟨tv, tv, tv⟩, ⟨ArgLe.refl _, ArgLe.refl _, tv⟩, (fun _ => tv), (natural_both_con p0 p1 y1 e2)⟩, tv, tv⟩ ?_
 refine AW.tn ?_
 refine AW.seq ?_
 refine AW.reg tt_ok1 [0, 1, 7, 14] [] [] ⟨[(14, vb (y1 != 0)), (7, vi64 y1), (0, vl 1 Ru32 p0), (1, vl 1 Ru32 p1)], [], 8⟩ [True, True] (by kernel_rfl) (by kernel_rfl) ⟨tv, tv, tv⟩ ?_
 refine AW.tn ?_
 refine AW.cond (b := (y1 != 0)) (by kernel_rfl) (fun c3 => ?_) (fun c3 => ?_)
 ·rw [if_pos c3] at h
  refine AW.seq ?_
  refine AW.reg tt_ok1 [4, 5, 6] [] [] ⟨[(6, vi64 y1), (5, .c (.t (.v (.slice none 0 0)))), (4, .c (.t (.v (.slice none 0 0))))], [], 12⟩ [True, True, True, True] (by kernel_rfl) (by kernel_rfl) ⟨tv, tv, tv, tv, tv⟩ ?_
  refine AW.tn ?_
  refine AW.ret ?_
  refine AW.tr ?_
  obtain rfl := some_inj h
  exact ⟨_, Conv.trans (conv_tm (tm' := [(6, vi64 y1), (5, .c (.t (.v (.slice none 0 0)))), (4, vl 1 Ru32 ([] : List Int))]) ⟨⟨vi64 y1, by kernel_rfl, ALe.refl _ _⟩, ⟨.c (.t (.v (.slice none 0 0))), by kernel_rfl, ALe.refl _ _⟩, ⟨.c (.t (.v (.slice none 0 0))), by kernel_rfl, ALe.c (CLe.nil rfl)⟩, tv⟩) (conv_tm (tm' := [(6, vi64 y1), (5, vl 1 Ru32 ([] : List Int)), (4, vl 1 Ru32 ([] : List Int))]) ⟨⟨vi64 y1, by kernel_rfl, ALe.refl _ _⟩, ⟨.c (.t (.v (.slice none 0 0))), by kernel_rfl, ALe.c (CLe.nil rfl)⟩, ⟨vl 1 Ru32 ([] : List Int), by kernel_rfl, ALe.refl _ _⟩, tv⟩), .inr rfl, OutOk.mk [] 0 (out0 := .tup [vl 1 Ru32 ([] : List Int), vl 1 Ru32 ([] : List Int), vi64 y1]) (ps := [True, True, True]) (by kernel_rfl) ⟨tv, tv, tv, tv⟩ (by kernel_rfl) (by kernel_rfl)⟩
 ·rw [if_neg (nb c3)] at h
  refine AW.skip ?_
  refine AW.tn ?_
  refine AW.seq ?_
  refine AW.seq ?_
  refine AW.reg tt_ok1 [0, 1, 18] [] [] ⟨[(18, vb (((p1.length : Nat) : Int) == 0)), (0, vl 1 Ru32 p0), (1, vl 1 Ru32 p1)], [], 11⟩ [True, True, True] (by kernel_rfl) (by kernel_rfl) ⟨tv, tv, tv, tv⟩ ?_
  refine AW.tn ?_
  refine AW.cond (b := (((p1.length : Nat) : Int) == 0)) (by kernel_rfl) (fun c4 => ?_) (fun c4 => ?_)
  ·rw [if_pos c4] at h
   refine AW.seq ?_
   refine AW.reg tt_ok1 [4, 5, 6] [] [] ⟨[(6, vi64 9), (5, .c (.t (.v (.slice none 0 0)))), (4, .c (.t (.v (.slice none 0 0))))], [], 14⟩ [True, True, True] (by kernel_rfl) (by kernel_rfl) ⟨tv, tv, tv, tv⟩ ?_
   refine AW.tn ?_
   refine AW.ret ?_
   refine AW.tr ?_
   obtain rfl := some_inj h
   exact ⟨_, Conv.trans (conv_tm (tm' := [(6, vi64 9), (5, .c (.t (.v (.slice none 0 0)))), (4, vl 1 Ru32 ([] : List Int))]) ⟨⟨vi64 9, by kernel_rfl, ALe.refl _ _⟩, ⟨.c (.t (.v (.slice none 0 0))), by kernel_rfl, ALe.refl _ _⟩, ⟨.c (.t (.v (.slice none 0 0))), by kernel_rfl, ALe.c (CLe.nil rfl)⟩, tv⟩) (conv_tm (tm' := [(6, vi64 9), (5, vl 1 Ru32 ([] : List Int)), (4, vl 1 Ru32 ([] : List Int))]) ⟨⟨vi64 9, by kernel_rfl, ALe.refl _ _⟩, ⟨.c (.t (.v (.slice none 0 0))), by kernel_rfl, ALe.c (CLe.nil rfl)⟩, ⟨vl 1 Ru32 ([] : List Int), by kernel_rfl, ALe.refl _ _⟩, tv⟩), .inr rfl, OutOk.mk [] 0 (out0 := .tup [vl 1 Ru32 ([] : List Int), vl 1 Ru32 ([] : List Int), vi64 9]) (ps := [True, True, True]) (by kernel_rfl) ⟨tv, tv, tv, tv⟩ (by kernel_rfl) (by kernel_rfl)⟩
  ·rw [if_neg (nb c4)] at h
   refine AW.skip ?_
   refine AW.tn ?_
   refine AW.seq ?_
   obtain ⟨y5, y6, e7, h⟩ := bind2_some h
   refine AW.reg tt_ok1 [8, 9] [] [{}, {}, { call := some { ids := [], frz := [], flat := false, cnt := 0, args := [vl 1 Ru32 p0, vl 1 Ru32 p1], out := .tup [vl 1 Ru32 y5, vl 1 Ru32 y6], outb := [] } }] ⟨[(9, vl 1 Ru32 y6), (8, vl 1 Ru32 y5)], [], 18⟩ [True, True, ((True) ∧ (True) ∧ (True)) ∧ (All2 ArgLe [vl 1 Ru32 p0, vl 1 Ru32 p1] [vl 1 Ru32 p0, vl 1 Ru32 p1]) ∧ ((false = true → flatB [])) ∧ (Con Try.prog 40 [vl 1 Ru32 p0, vl 1 Ru32 p1] [] (.tup [vl 1 Ru32 y5, vl 1 Ru32 y6]) []), True, True, True, True, True] (by kernel_rfl) (by kernel_rfl) ⟨tv, tv, ⟨⟨tv, tv, tv⟩, ⟨ArgLe.refl _, ArgLe.refl _, tv⟩, (fun h => by cases h), (natural_divide_con p0 p1 y5 y6 e7)⟩, tv, tv, tv, tv, tv, tv⟩ ?_
   refine AW.tn ?_
   refine AW.seq ?_
   refine AW.reg tt_ok1 [4, 5, 6] [] [] ⟨[(6, vi64 0), (5, vl 1 Ru32 y6), (4, vl 1 Ru32 y5)], [], 23⟩ [True, True, True, True, True] (by kernel_rfl) (by kernel_rfl) ⟨tv, tv, tv, tv, tv, tv⟩ ?_
   refine AW.tn ?_
   refine AW.ret ?_
   obtain rfl := some_inj h
   exact ⟨_, Conv.refl _ _, .inr rfl, OutOk.mk [] 0 (out0 := .tup [vl 1 Ru32 y5, vl 1 Ru32 y6, vi64 0]) (ps := [True, True, True]) (by kernel_rfl) ⟨tv, tv, tv, tv⟩ (by kernel_rfl) (by kernel_rfl)⟩
end Go.Proofs.Yteaijglfenedoaa
