/- Printed by a program of mine (vmgen.py): Go functions, and what they come to. -/
import Derived.Test.YtafmpnilgknfhaaVr
import Derived.Test.YtafmpnilgknfhaaRows
import Derived.Test.YtafmpnilgknfhaaG0
namespace Go.Proofs.Ytafmpnilgknfhaa
open Vm
open IntKind (i64 u64 u32 u8)
set_option maxHeartbeats 10000000
set_option linter.unusedVariables false
set_option linter.unusedSimpArgs false
set_option linter.constructorNameAsVariable false
def ttl1 : List (Nat × TI) := [(3, ⟨.int .i64, 1, 8, [.int .i64 0]⟩), (4, ⟨.bool, 1, 1, [.bool false]⟩), (5, ⟨.int .u8, 1, 1, [.int .u8 0]⟩), (9, ⟨.str, 1, 16, [.string ⟨#[]⟩]⟩), (22, ⟨.int .u16, 1, 2, [.int .u16 0]⟩), (23, ⟨.int .i64, 1, 8, [.int .i64 0]⟩), (29, ⟨.int .u64, 1, 8, [.int .u64 0]⟩), (31, ⟨.slice 3, 1, 24, [.slice none 0 0]⟩), (33, ⟨.ptr 60, 1, 8, [.pointer none]⟩), (36, ⟨.struct [(3, 0), (31, 1), (31, 2)], 3, 56, [.int .i64 0, .slice none 0 0, .slice none 0 0]⟩), (40, ⟨.struct [(3, 0), (31, 1), (31, 2)], 3, 56, [.int .i64 0, .slice none 0 0, .slice none 0 0]⟩), (48, ⟨.slice 36, 1, 24, [.slice none 0 0]⟩), (50, ⟨.slice 40, 1, 24, [.slice none 0 0]⟩), (53, ⟨.slice 78, 1, 24, [.slice none 0 0]⟩), (58, ⟨.int .u64, 1, 8, [.int .u64 0]⟩), (60, ⟨.struct [(31, 0), (3, 1), (58, 2)], 3, 40, [.slice none 0 0, .int .i64 0, .int .u64 0]⟩), (65, ⟨.arr 3 3, 3, 24, [.int .i64 0, .int .i64 0, .int .i64 0]⟩), (78, ⟨.int .u32, 1, 4, [.int .u32 0]⟩), (91, ⟨.arr 6 3, 6, 48, [.int .i64 0, .int .i64 0, .int .i64 0, .int .i64 0, .int .i64 0, .int .i64 0]⟩)]
theorem tt_ok1 : TTok Try.prog (Vm.look ttl1) := ttok_of ⟨⟨by kernel_rfl, by kernel_rfl⟩, ⟨by kernel_rfl, by kernel_rfl⟩, ⟨by kernel_rfl, by kernel_rfl⟩, ⟨by kernel_rfl, by kernel_rfl⟩, ⟨by kernel_rfl, by kernel_rfl⟩, ⟨by kernel_rfl, by kernel_rfl⟩, ⟨by kernel_rfl, by kernel_rfl⟩, ⟨by kernel_rfl, by kernel_rfl⟩, ⟨by kernel_rfl, by kernel_rfl⟩, ⟨by kernel_rfl, by kernel_rfl⟩, ⟨by kernel_rfl, by kernel_rfl⟩, ⟨by kernel_rfl, by kernel_rfl⟩, ⟨by kernel_rfl, by kernel_rfl⟩, ⟨by kernel_rfl, by kernel_rfl⟩, ⟨by kernel_rfl, by kernel_rfl⟩, ⟨by kernel_rfl, by kernel_rfl⟩, ⟨by kernel_rfl, by kernel_rfl⟩, ⟨by kernel_rfl, by kernel_rfl⟩, ⟨by kernel_rfl, by kernel_rfl⟩, trivial⟩
theorem mo1 : Try.prog.follows .mixedOrders = true := by kernel_rfl
/-! recordlink/recordlinkref25.Ints -/
noncomputable def rl_ref25_Ints_l1 (p0 : List Int) (p1 : List Int) (x3 : Int) : Option (Int ⊕ (Unit ⊕ Unit)) := if (decide (x3 < (p0.length : Int))) = true then (if 0 ≤ x3 then (if x3 < (p0.length : Int) then (if x3 < (p1.length : Int) then (if ((p0.getD x3.toNat 0) != (p1.getD x3.toNat 0)) = true then (some (.inr (.inr ()))) else (some (.inl (i64.wrap (x3 + 1))))) else none) else none) else none) else (some (.inr (.inl ())))
noncomputable def rl_ref25_Ints_a2 : Option Bool := some true
noncomputable def rl_ref25_Ints_a3 : Option Bool := some false
noncomputable def rl_ref25_Ints (p0 : List Int) (p1 : List Int) : Option Bool := if ((p0.length : Int) != (p1.length : Int)) = true then (some false) else (bindE (loop (fun v : Int => rl_ref25_Ints_l1 p0 p1 v) 0) (fun t => rl_ref25_Ints_a2) (fun t => rl_ref25_Ints_a3))
set_option maxRecDepth 100000 in
theorem rl_ref25_Ints_con (p0 : List Int) (p1 : List Int) (r : Bool) (h : rl_ref25_Ints p0 p1 = some r) : Con Try.prog 44 [vl 1 Ri64 p0, vl 1 Ri64 p1] [] (vb r) [] := by
 refine con_of tt_ok1 0 Try.func44 (by kernel_rfl) rfl (by kernel_rfl) (fun base X _ => AW.post ?_)
 unfold rl_ref25_Ints at h
 refine AW.sg tt_ok1 [] [] [] 1 [] (by kernel_rfl) ?_
 refine AW.seq ?_
 refine AW.sg tt_ok1 [(10, vb ((p0.length : Int) != (p1.length : Int)))] [] [] 6 [] (by kernel_rfl) ?_
 refine AW.co h (by kernel_rfl) (fun c1 h => ?_) (fun c1 h => ?_)
 ·
  refine AW.sg tt_ok1 [(4, vb false)] [] [] 7 [] (by kernel_rfl) ?_
  refine AW.ret (AW.tr ?_)
  obtain rfl := some_inj h
  exact fn0 (.inr rfl) [] 0 (vb false) (by kernel_rfl)
 ·
  refine AW.skip (AW.tn (AW.seq ?_))
  refine AW.sg tt_ok1 [(5, vi64 0)] [] [] 7 [] (by kernel_rfl) ?_
  refine AW.block ?_
  refine AW.lpE h (fun v => ⟨[(0, vl 1 Ri64 p0), (1, vl 1 Ri64 p1), (5, vi64 v)], [], 0⟩) (fun t => (.exit 0, ⟨[], [], 0⟩)) (fun t => (.ret, ⟨[(4, vb false)], [], 0⟩)) (conv_re [] (by kernel_rfl)) (fun _ => tv) (fun _ => tv) ?_ (fun t h => ?_) (fun t h => ?_)
  ·
   clear h
   intro x3 o h
   unfold rl_ref25_Ints_l1 at h
   refine AW.seq ?_
   refine AW.sg tt_ok1 [(14, vb (decide (x3 < (p0.length : Int))))] [] [] 4 [] (by kernel_rfl) ?_
   refine AW.co h (by kernel_rfl) (fun c4 h => ?_) (fun c4 h => ?_)
   ·
    refine AW.skip (AW.tn ?_)
    refine AW.seq (AW.block ?_)
    obtain ⟨g5, g6, h⟩ := ifd h
    obtain ⟨g7, h⟩ := ifc h
    refine AW.sd tt_ok1 mo1 [] [(25, vb ((p0.getD x3.toNat 0) != (p1.getD x3.toNat 0)))] [] 13 [hn, hn, hq g5 g6, hn, hn, hn, hq g5 g7] (by kernel_rfl) ?_
    refine AW.co h (by kernel_rfl) (fun c8 h => ?_) (fun c8 h => ?_)
    ·
     refine AW.sg tt_ok1 [(4, vb false)] [] [] 14 [] (by kernel_rfl) ?_
     refine AW.ret (AW.inBlock_ret (AW.tr ?_))
     exact lpo h rfl (conv_re [] (by kernel_rfl))
    ·
     refine AW.skip (AW.inBlock_normal (AW.tn ?_))
     refine AW.rg tt_ok1 [(5, vi64 (i64.wrap (x3 + 1)))] [] [] 16 [] (by kernel_rfl) ?_
     exact lpn h (conv_re [] (by kernel_rfl))
   ·
    refine AW.exit (AW.thenQ_exit ?_)
    exact lpo h rfl (conv_re [] (by kernel_rfl))
  ·
   replace h : rl_ref25_Ints_a2 = some r := h
   unfold rl_ref25_Ints_a2 at h
   show (_ : Exit → St → Prop) (.exit 0) _
   refine AW.inBlock_hit (AW.tn ?_)
   refine AW.sg tt_ok1 [(4, vb true)] [] [] 1 [] (by kernel_rfl) ?_
   refine AW.ret ?_
   obtain rfl := some_inj h
   exact fn0 (.inr rfl) [] 0 (vb true) (by kernel_rfl)
  ·
   replace h : rl_ref25_Ints_a3 = some r := h
   unfold rl_ref25_Ints_a3 at h
   show (_ : Exit → St → Prop) (.ret) _
   refine AW.inBlock_ret (AW.tr ?_)
   obtain rfl := some_inj h
   exact fn0 (.inr rfl) [] 0 (vb false) (by kernel_rfl)
/-! recordlink/recordlinkref25.Same -/
noncomputable def rl_ref25_Same_k1 (x1 : Bool) : Option Bool := some x1
noncomputable def rl_ref25_Same (p0 : S_api_Weights) (p1 : S_api_Weights) : Option Bool := if (p0.Prior == p1.Prior) = true then ((rl_ref25_Ints p0.Agree p1.Agree).bind fun y3 => (if y3 = true then ((rl_ref25_Ints p0.Differ p1.Differ).bind fun y6 => (rl_ref25_Same_k1 y6)) else (rl_ref25_Same_k1 false))) else (rl_ref25_Same_k1 false)
set_option maxRecDepth 100000 in
theorem rl_ref25_Same_con (p0 : S_api_Weights) (p1 : S_api_Weights) (r : Bool) (h : rl_ref25_Same p0 p1 = some r) : Con Try.prog 23 [.agg [ci64 p0.Prior, cl 1 Ri64 p0.Agree, cl 1 Ri64 p0.Differ], .agg [ci64 p1.Prior, cl 1 Ri64 p1.Agree, cl 1 Ri64 p1.Differ]] [] (vb r) [] := by
 refine con_of tt_ok1 0 Try.func23 (by kernel_rfl) rfl (by kernel_rfl) (fun base X _ => AW.post ?_)
 unfold rl_ref25_Same at h
 refine AW.sg tt_ok1 [(3, .c (.ptr 1 3 0 0)), (2, .c (.ptr 0 3 0 0))] [0, 1] [(1, .box 40 [ci64 p1.Prior, cl 1 Ri64 p1.Agree, cl 1 Ri64 p1.Differ]), (0, .box 40 [ci64 p0.Prior, cl 1 Ri64 p0.Agree, cl 1 Ri64 p0.Differ])] 3 [] (by kernel_rfl) ?_
 refine AW.seq ?_
 refine AW.join (ι := Bool) (fun v => ⟨[(4, vb v)], [], 0⟩) (fun v : Bool => rl_ref25_Same_k1 v = some r) (fun x1 h => ?_) ?_
 ·
  unfold rl_ref25_Same_k1 at h
  refine AW.tn (AW.ret ?_)
  obtain rfl := some_inj h
  exact fn0 (.inr rfl) [] 0 (vb x1) (by kernel_rfl)
 ·
  rcases ifs h with ⟨c2, h⟩ | ⟨c2, h⟩
  ·
   obtain ⟨y3, e4, h⟩ := bnd_some h
   rcases ifs h with ⟨c5, hs⟩ | ⟨c5, hs⟩
   ·clear h; subst c5; have h := hs; clear hs
    obtain ⟨y6, e7, h⟩ := bnd_some h
    refine AW.rg tt_ok1 [(4, vb y6)] [] [] 21 [hn, hn, hn, hn, ht c2, hn, hn, hn, hn, hn, hk (rl_ref25_Ints_con p0.Agree p1.Agree true e4), hn, hn, hn, hn, hn, hn, hk (rl_ref25_Ints_con p0.Differ p1.Differ y6 e7)] (by kernel_rfl) ?_
    exact jl y6 h (conv_re [] (by kernel_rfl))
   ·clear h; subst c5; have h := hs; clear hs
    refine AW.rg tt_ok1 [(4, vb false)] [] [] 22 [hn, hn, hn, hn, ht c2, hn, hn, hn, hn, hn, hk (rl_ref25_Ints_con p0.Agree p1.Agree false e4)] (by kernel_rfl) ?_
    exact jl false h (conv_re [] (by kernel_rfl))
  ·
   refine AW.rg tt_ok1 [(4, vb false)] [] [] 23 [hn, hn, hn, hn, hf c2] (by kernel_rfl) ?_
   exact jl false h (conv_re [] (by kernel_rfl))
/-! recordlink/recordlinkplay.BentWeights -/
noncomputable def rl_play_BentWeights_k1 (y1 : S_api_Weights) (x4 : List Int) (x5 : Int) (x6 : Int) (x7 : Int) (x8 : Nat) (x9 : List Int) : Option (S_api_Weights × S_recordlinkmake_Deck) := if x8 ≤ y1.Agree.length then (some ((⟨x7, (y1.Agree.take x8), x9⟩ : S_api_Weights), (⟨x4, x5, x6⟩ : S_recordlinkmake_Deck))) else none
noncomputable def rl_play_BentWeights (p0 : S_recordlinkmake_Deck) (p1 : Int) : Option (S_api_Weights × S_recordlinkmake_Deck) := bind2 (rl_play_Weights p0 p1) fun y1 y2 => (bind2 (rl_make_Deck_Next y2 8) fun y11 y12 => (if (y11 == 0) = true then (bind2 (rl_make_Deck_Next y12 (i64.wrap (((y1.Agree.length : Nat) : Int) + 1))) fun y15 y16 => (if 0 ≤ y15 then (if y15.toNat ≤ y1.Agree.length then (rl_play_BentWeights_k1 y1 y16.list y16.at_ y16.state y1.Prior y15.toNat y1.Differ) else none) else none)) else (if (y11 == 1) = true then (bind2 (rl_make_Deck_Next y12 3) fun y21 y22 => (if 0 ≤ y21 then (if y21 < ((([65536, 65537, (-65537)] : List Int).length : Nat) : Int) then (rl_play_BentWeights_k1 y1 y22.list y22.at_ y22.state (([65536, 65537, (-65537)] : List Int).getD (0 + y21.toNat) 0) y1.Agree.length y1.Differ) else none) else none)) else (if (y11 == 2) = true then (if (decide (((y1.Differ.length : Nat) : Int) > 0)) = true then (bind2 (rl_make_Deck_Next y12 ((y1.Differ.length : Nat) : Int)) fun y28 y29 => (bind2 (rl_make_Deck_Next y29 3) fun y31 y32 => (if 0 ≤ y31 then (if y31 < ((([(-65536), (-65537), 65537] : List Int).length : Nat) : Int) then (if 0 ≤ y28 then (if y28 < ((y1.Differ.length : Nat) : Int) then (rl_play_BentWeights_k1 y1 y32.list y32.at_ y32.state y1.Prior y1.Agree.length (y1.Differ.set (0 + y28.toNat) (([(-65536), (-65537), 65537] : List Int).getD (0 + y31.toNat) 0))) else none) else none) else none) else none))) else (rl_play_BentWeights_k1 y1 y12.list y12.at_ y12.state y1.Prior y1.Agree.length y1.Differ)) else (rl_play_BentWeights_k1 y1 y12.list y12.at_ y12.state y1.Prior y1.Agree.length y1.Differ)))))
set_option maxRecDepth 100000 in
theorem rl_play_BentWeights_con (p0 : S_recordlinkmake_Deck) (p1 : Int) (r : S_api_Weights × S_recordlinkmake_Deck) (h : rl_play_BentWeights p0 p1 = some r) : Con Try.prog 24 [.c (.ptr 0 3 0 0), vi64 p1] [(0, .box 60 [cl 1 Ri64 p0.list, ci64 p0.at_, cu64 p0.state])] (.agg [ci64 r.1.Prior, cl 1 Ri64 r.1.Agree, .ref 1 1 0 r.1.Differ.length]) [(0, .box 60 [cl 1 Ri64 r.2.list, ci64 r.2.at_, cu64 r.2.state]), (1, .row 3 false 1 r.1.Differ.length (Ri64 r.1.Differ))] := by
 refine con_of tt_ok1 1 Try.func24 (by kernel_rfl) rfl (by kernel_rfl) (fun base X _ => AW.post ?_)
 unfold rl_play_BentWeights at h
 refine AW.sg tt_ok1 [(4, .c (.ptr 1 3 0 0))] [1] [(1, .box 40 [ci64 0, .t (.v (.slice none 0 0)), .t (.v (.slice none 0 0))])] 2 [] (by kernel_rfl) ?_
 obtain ⟨y1, y2, e3, h⟩ := bind2_some h
 refine AW.sg tt_ok1 [(5, .c (.ptr 6 3 0 0))] [0, 4, 5, 6] [(6, .box 40 [ci64 y1.Prior, .ref 4 1 0 y1.Agree.length, .ref 5 1 0 y1.Differ.length]), (0, .box 60 [cl 1 Ri64 y2.list, ci64 y2.at_, cu64 y2.state]), (4, .row 3 false 1 y1.Agree.length (Ri64 y1.Agree)), (5, .row 3 false 1 y1.Differ.length (Ri64 y1.Differ))] 8 [hn, hn, hl [0] [] 2 (rl_play_Weights_con p0 p1 (y1, y2) e3)] (by kernel_rfl) ?_
 refine AW.seq ?_
 refine AW.join (ι := (List Int) × Int × Int × Int × Nat × (List Int)) (fun v => ⟨[(4, .c (.ptr 1 3 0 0)), (5, .c (.ptr 2 3 0 0))], [(0, .box 60 [cl 1 Ri64 v.1, ci64 v.2.1, cu64 v.2.2.1]), (1, .box 40 [ci64 0, .t (.v (.slice none 0 0)), .t (.v (.slice none 0 0))]), (2, .box 40 [ci64 v.2.2.2.1, .ref 3 1 0 v.2.2.2.2.1, .ref 4 1 0 v.2.2.2.2.2.length]), (3, .row 3 false 1 y1.Agree.length (Ri64 y1.Agree)), (4, .row 3 false 1 v.2.2.2.2.2.length (Ri64 v.2.2.2.2.2))], 5⟩) (fun v : (List Int) × Int × Int × Int × Nat × (List Int) => rl_play_BentWeights_k1 y1 v.1 v.2.1 v.2.2.1 v.2.2.2.1 v.2.2.2.2.1 v.2.2.2.2.2 = some r) (fun v h => ?_) ?_
 ·
  obtain ⟨x4, x5, x6, x7, x8, x9⟩ := v
  replace h : rl_play_BentWeights_k1 y1 x4 x5 x6 x7 x8 x9 = some r := h
  unfold rl_play_BentWeights_k1 at h
  refine AW.tn ?_
  refine AW.sg tt_ok1 [] [1] [(1, .box 40 [ci64 x7, .ref 3 1 0 x8, .ref 4 1 0 x9.length])] 7 [] (by kernel_rfl) ?_
  obtain ⟨g10, h⟩ := ifc h
  refine AW.ret ?_
  obtain rfl := some_inj h
  exact fnR (.inr rfl) [(0, 0), (1, 4)] 2 (.agg [ci64 x7, cl 1 Ri64 (y1.Agree.take x8), .ref 4 1 0 x9.length]) (Conv.trans (cfz 3 3 1 y1.Agree.length (Ri64 y1.Agree) (by kernel_rfl)) (conv_box (id := 1) (ty := 40) (cs := [ci64 x7, .ref 3 1 0 x8, .ref 4 1 0 x9.length]) (ds := [ci64 x7, cl 1 Ri64 (y1.Agree.take x8), .ref 4 1 0 x9.length]) (by kernel_rfl) ⟨CLe.refl _ _, CLe.trans (CLe.ref (m := y1.Agree.length) (ty := 3) (f := Ri64 y1.Agree) (by kernel_rfl) (by omega)) (CAle.cle (CAle.tree (take_row (by omega)))), CLe.refl _ _, tv⟩)) (by kernel_rfl)
 ·
  obtain ⟨y11, y12, e13, h⟩ := bind2_some h
  refine AW.sg tt_ok1 [(10, vi64 y11)] [0] [(0, .box 60 [cl 1 Ri64 y12.list, ci64 y12.at_, cu64 y12.state])] 9 [hn, hl [0] [] 0 (rl_make_Deck_Next_con y2 8 (y11, y12) e13)] (by kernel_rfl) ?_
  refine AW.block ?_
  refine AW.sg tt_ok1 [(11, vb (y11 == 0))] [] [] 11 [] (by kernel_rfl) ?_
  refine AW.co h (by kernel_rfl) (fun c14 h => ?_) (fun c14 h => ?_)
  ·
   obtain ⟨y15, y16, e17, h⟩ := bind2_some h
   obtain ⟨g18, g19, h⟩ := ifd h
   refine AW.rd tt_ok1 mo1 [[], [], [], [], [], [], [], [0], [], [], [6]] [] [(6, .box 40 [ci64 y1.Prior, .ref 4 1 0 y15.toNat, .ref 5 1 0 y1.Differ.length]), (0, .box 60 [cl 1 Ri64 y16.list, ci64 y16.at_, cu64 y16.state])] 21 [hn, hn, hn, hn, hn, hn, hn, hl [0] [] 0 (rl_make_Deck_Next_con y12 (i64.wrap (((y1.Agree.length : Nat) : Int) + 1)) (y15, y16) e17), ho (p := (True) ∧ (0 ≤ y15) ∧ (0 ≤ y15.toNat) ∧ (y15.toNat ≤ y1.Agree.length)) (⟨tv, g18, (Nat.zero_le _), g19⟩)] (by kernel_rfl) ?_
   refine AW.inBlock_normal ?_
   exact jl (y16.list, y16.at_, y16.state, y1.Prior, y15.toNat, y1.Differ) h (conv_re [(0, 0), (1, 1), (2, 6), (3, 4), (4, 5)] (by kernel_rfl))
  ·
   refine AW.sg tt_ok1 [(23, vb (y11 == 1))] [] [] 13 [] (by kernel_rfl) ?_
   refine AW.co h (by kernel_rfl) (fun c20 h => ?_) (fun c20 h => ?_)
   ·
    obtain ⟨y21, y22, e23, h⟩ := bind2_some h
    obtain ⟨g24, g25, h⟩ := ifd h
    refine AW.rg tt_ok1 [] [0, 6, 13] [(6, .box 40 [ci64 (([65536, 65537, (-65537)] : List Int).getD (0 + y21.toNat) 0), .ref 4 1 0 y1.Agree.length, .ref 5 1 0 y1.Differ.length]), (0, .box 60 [cl 1 Ri64 y22.list, ci64 y22.at_, cu64 y22.state])] 19 [hlit 0 Ei64 1 (fun _ => rfl) ([65536, 65537, (-65537)] : List Int), hn, hl [0] [] 0 (rl_make_Deck_Next_con y12 3 (y21, y22) e23), hq g24 g25, ho (p := (0 + y21.toNat) < ([65536, 65537, (-65537)] : List Int).length) (by have h1 : 0 ≤ y21 := g24; have h2 : y21 < ((([65536, 65537, (-65537)] : List Int).length : Nat) : Int) := g25; omega)] (by kernel_rfl) ?_
    refine AW.inBlock_normal ?_
    exact jl (y22.list, y22.at_, y22.state, (([65536, 65537, (-65537)] : List Int).getD (0 + y21.toNat) 0), y1.Agree.length, y1.Differ) h (conv_re [(0, 0), (1, 1), (2, 6), (3, 4), (4, 5)] (by kernel_rfl))
   ·
    refine AW.sg tt_ok1 [(31, vb (y11 == 2))] [] [] 15 [] (by kernel_rfl) ?_
    refine AW.co h (by kernel_rfl) (fun c26 h => ?_) (fun c26 h => ?_)
    ·
     refine AW.sg tt_ok1 [(36, vb (decide (((y1.Differ.length : Nat) : Int) > 0)))] [] [] 19 [] (by kernel_rfl) ?_
     refine AW.co h (by kernel_rfl) (fun c27 h => ?_) (fun c27 h => ?_)
     ·
      obtain ⟨y28, y29, e30, h⟩ := bind2_some h
      obtain ⟨y31, y32, e33, h⟩ := bind2_some h
      obtain ⟨g34, g35, h⟩ := ifd h
      obtain ⟨g36, g37, h⟩ := ifd h
      refine AW.rd tt_ok1 mo1 [[], [], [], [], [], [], [0], [25], [], [0], [], [], [], [5]] [] [(5, .row 3 false 1 y1.Differ.length (Ri64 (y1.Differ.set (0 + y28.toNat) (([(-65536), (-65537), 65537] : List Int).getD (0 + y31.toNat) 0)))), (0, .box 60 [cl 1 Ri64 y32.list, ci64 y32.at_, cu64 y32.state])] 31 [hn, hn, hn, hn, hn, hn, hl [0] [] 0 (rl_make_Deck_Next_con y12 ((y1.Differ.length : Nat) : Int) (y28, y29) e30), hlit 0 Ei64 1 (fun _ => rfl) ([(-65536), (-65537), 65537] : List Int), hn, hl [0] [] 0 (rl_make_Deck_Next_con y29 3 (y31, y32) e33), hq g34 g35, ho (p := (0 + y31.toNat) < ([(-65536), (-65537), 65537] : List Int).length) (by have h1 : 0 ≤ y31 := g34; have h2 : y31 < ((([(-65536), (-65537), 65537] : List Int).length : Nat) : Int) := g35; omega), hq g36 g37, hset 0 Ei64 y1.Differ (0 + y28.toNat) (([(-65536), (-65537), 65537] : List Int).getD (0 + y31.toNat) 0) (n := y1.Differ.length) (by have h1 : 0 ≤ y28 := g36; have h2 : y28 < ((y1.Differ.length : Nat) : Int) := g37; omega) rfl] (by kernel_rfl) ?_
      refine AW.inBlock_normal ?_
      exact jl (y32.list, y32.at_, y32.state, y1.Prior, y1.Agree.length, (y1.Differ.set (0 + y28.toNat) (([(-65536), (-65537), 65537] : List Int).getD (0 + y31.toNat) 0))) h (Conv.trans (conv_re (S' := ⟨[(5, .c (.ptr 6 3 0 0)), (4, .c (.ptr 1 3 0 0))], [(5, .row 3 false 1 y1.Differ.length (Ri64 (y1.Differ.set (0 + y28.toNat) (([(-65536), (-65537), 65537] : List Int).getD (0 + y31.toNat) 0)))), (0, .box 60 [cl 1 Ri64 y32.list, ci64 y32.at_, cu64 y32.state]), (6, .box 40 [ci64 y1.Prior, .ref 4 1 0 y1.Agree.length, .ref 5 1 0 y1.Differ.length]), (4, .row 3 false 1 y1.Agree.length (Ri64 y1.Agree)), (1, .box 40 [ci64 0, .t (.v (.slice none 0 0)), .t (.v (.slice none 0 0))])], 31⟩) [(5, 5), (0, 0), (6, 6), (4, 4), (1, 1)] (by kernel_rfl)) (Conv.trans (conv_len (S' := ⟨[(5, .c (.ptr 6 3 0 0)), (4, .c (.ptr 1 3 0 0))], [(5, .row 3 false 1 (y1.Differ.set (0 + y28.toNat) (([(-65536), (-65537), 65537] : List Int).getD (0 + y31.toNat) 0)).length (Ri64 (y1.Differ.set (0 + y28.toNat) (([(-65536), (-65537), 65537] : List Int).getD (0 + y31.toNat) 0)))), (0, .box 60 [cl 1 Ri64 y32.list, ci64 y32.at_, cu64 y32.state]), (6, .box 40 [ci64 y1.Prior, .ref 4 1 0 y1.Agree.length, .ref 5 1 0 ((y1.Differ.set (0 + y28.toNat) (([(-65536), (-65537), 65537] : List Int).getD (0 + y31.toNat) 0)).length)]), (4, .row 3 false 1 y1.Agree.length (Ri64 y1.Agree)), (1, .box 40 [ci64 0, .t (.v (.slice none 0 0)), .t (.v (.slice none 0 0))])], 31⟩) (by simp only [List.length_set])) (conv_re [(0, 0), (1, 1), (2, 6), (3, 4), (4, 5)] (by kernel_rfl))))
     ·
      refine AW.skip (AW.inBlock_normal ?_)
      exact jl (y12.list, y12.at_, y12.state, y1.Prior, y1.Agree.length, y1.Differ) h (conv_re [(0, 0), (1, 1), (2, 6), (3, 4), (4, 5)] (by kernel_rfl))
    ·
     refine AW.skip (AW.inBlock_normal ?_)
     exact jl (y12.list, y12.at_, y12.state, y1.Prior, y1.Agree.length, y1.Differ) h (conv_re [(0, 0), (1, 1), (2, 6), (3, 4), (4, 5)] (by kernel_rfl))
/-! recordlink/recordlinkplay.Weights -/
set_option maxRecDepth 100000 in
theorem rl_play_Weights_conT (p0 : S_recordlinkmake_Deck) (p1 : Int) (r : S_api_Weights × S_recordlinkmake_Deck) (h : rl_play_Weights p0 p1 = some r) : Con Try.prog 17 [.c (.ptr 0 3 0 0), vi64 p1] [(0, .box 60 [cl 1 Ri64 p0.list, ci64 p0.at_, cu64 p0.state])] (.agg [ci64 r.1.Prior, cl 1 Ri64 r.1.Agree, cl 1 Ri64 r.1.Differ]) [(0, .box 60 [cl 1 Ri64 r.2.list, ci64 r.2.at_, cu64 r.2.state])] := by
 refine con_of tt_ok1 1 Try.func17 (by kernel_rfl) rfl (by kernel_rfl) (fun base X _ => AW.post ?_)
 unfold rl_play_Weights at h
 refine AW.sg tt_ok1 [(4, .c (.ptr 1 3 0 0))] [1] [(1, .box 40 [ci64 0, .t (.v (.slice none 0 0)), .t (.v (.slice none 0 0))])] 2 [] (by kernel_rfl) ?_
 obtain ⟨y1, y2, e3, h⟩ := bind2_some h
 refine AW.sg tt_ok1 [(5, .c (.ptr 4 3 0 0))] [0, 4] [(4, .box 40 [ci64 y1, .t (.v (.slice none 0 0)), .t (.v (.slice none 0 0))]), (0, .box 60 [cl 1 Ri64 y2.list, ci64 y2.at_, cu64 y2.state])] 6 [hn, hl [0] [] 0 (rl_play_Range_con p0 (-40) 10 (y1, y2) e3)] (by kernel_rfl) ?_
 refine AW.seq ?_
 refine AW.sg tt_ok1 [(6, vi64 0)] [] [] 7 [] (by kernel_rfl) ?_
 refine AW.block ?_
 obtain ⟨x30, x31, x32, x33, x34, l35, h⟩ := bind5_some h
 refine AW.lp l35 (fun v => ⟨[(0, .c (.ptr 0 3 0 0)), (1, vi64 p1), (4, .c (.ptr 1 3 0 0)), (5, .c (.ptr 2 3 0 0)), (6, vi64 v.1)], [(0, .box 60 [cl 1 Ri64 v.2.1, ci64 v.2.2.1, cu64 v.2.2.2.1]), (1, .box 40 [ci64 0, .t (.v (.slice none 0 0)), .t (.v (.slice none 0 0))]), (2, .box 40 [ci64 y1, .ref 3 1 0 v.2.2.2.2.1.length, .ref 4 1 0 v.2.2.2.2.2.length]), (3, .row 3 false 1 v.2.2.2.2.1.length (Ri64 v.2.2.2.2.1)), (4, .row 3 false 1 v.2.2.2.2.2.length (Ri64 v.2.2.2.2.2))], 5⟩) (fun t : (List Int) × Int × Int × (List Int) × (List Int) => (.exit 0, ⟨[(4, .c (.ptr 1 3 0 0)), (5, .c (.ptr 2 3 0 0))], [(0, .box 60 [cl 1 Ri64 t.1, ci64 t.2.1, cu64 t.2.2.1]), (1, .box 40 [ci64 0, .t (.v (.slice none 0 0)), .t (.v (.slice none 0 0))]), (2, .box 40 [ci64 y1, .ref 3 1 0 t.2.2.2.1.length, .ref 4 1 0 t.2.2.2.2.length]), (3, .row 3 false 1 t.2.2.2.1.length (Ri64 t.2.2.2.1)), (4, .row 3 false 1 t.2.2.2.2.length (Ri64 t.2.2.2.2))], 5⟩)) (Conv.trans (conv_adoptB (id := 4) (ty0 := 40) (cs := [ci64 y1, .t (.v (.slice none 0 0)), .t (.v (.slice none 0 0))]) 1 (ty := 3) (sz := 1) (n := ([] : List Int).length) (f := Ri64 ([] : List Int)) (by kernel_rfl) (by kernel_rfl) rfl) (Conv.trans (conv_adoptB (id := 4) (ty0 := 40) (cs := [ci64 y1, .ref 7 1 0 (([] : List Int).length), .t (.v (.slice none 0 0))]) 2 (ty := 3) (sz := 1) (n := ([] : List Int).length) (f := Ri64 ([] : List Int)) (by kernel_rfl) (by kernel_rfl) rfl) (conv_re [(0, 0), (1, 1), (2, 4), (3, 7), (4, 8)] (by kernel_rfl)))) (fun _ => tv) ?_ ?_
 ·
  clear l35 h
  intro v o h
  obtain ⟨x10, x11, x12, x13, x14, x15⟩ := v
  replace h : rl_play_Weights_l1 p1 x10 x11 x12 x13 x14 x15 = some o := h
  unfold rl_play_Weights_l1 at h
  refine AW.seq ?_
  refine AW.sg tt_ok1 [(12, vb (decide (x10 < p1)))] [] [] 8 [] (by kernel_rfl) ?_
  refine AW.co h (by kernel_rfl) (fun c21 h => ?_) (fun c21 h => ?_)
  ·
   refine AW.skip (AW.tn ?_)
   refine AW.seq (AW.block ?_)
   obtain ⟨y22, y23, e24, h⟩ := bind2_some h
   obtain ⟨g25, h⟩ := ifc h
   obtain ⟨y26, y27, e28, h⟩ := bind2_some h
   obtain ⟨g29, h⟩ := ifc h
   refine AW.rd tt_ok1 mo1 [[], [], [], [0], [11], [12, 3], [], [], [], [0], [16], [17, 4], [], [2], [], [2]] [] [(2, .box 40 [ci64 y1, .ref 12 1 0 ((x14 ++ ([y22] : List Int)).length), .ref 17 1 0 ((x15 ++ ([y26] : List Int)).length)]), (17, .row 3 false 1 (x15 ++ ([y26] : List Int)).length (Ri64 (x15 ++ ([y26] : List Int)))), (0, .box 60 [cl 1 Ri64 y27.list, ci64 y27.at_, cu64 y27.state]), (12, .row 3 false 1 (x14 ++ ([y22] : List Int)).length (Ri64 (x14 ++ ([y22] : List Int))))] 22 [hn, hn, hn, hl [0] [] 0 (rl_play_Range_con (⟨x11, x12, x13⟩ : S_recordlinkmake_Deck) (-3) 60 (y22, y23) e24), hlit 0 Ei64 1 (fun _ => rfl) ([y22] : List Int), happ 0 Ei64 1 8 x14 ([y22] : List Int) g25 (by decide), hn, hn, hn, hl [0] [] 0 (rl_play_Range_con y23 (-60) 3 (y26, y27) e28), hlit 0 Ei64 1 (fun _ => rfl) ([y26] : List Int), happ 0 Ei64 1 8 x15 ([y26] : List Int) g29 (by decide)] (by kernel_rfl) ?_
   refine AW.inBlock_normal (AW.tn ?_)
   refine AW.rg tt_ok1 [(6, vi64 (i64.wrap (x10 + 1)))] [] [] 25 [] (by kernel_rfl) ?_
   exact lpn h (conv_re [(0, 0), (1, 1), (2, 2), (3, 12), (4, 17)] (by kernel_rfl))
  ·
   refine AW.exit (AW.thenQ_exit ?_)
   exact lpo h rfl (conv_re [(0, 0), (1, 1), (2, 2), (3, 3), (4, 4)] (by kernel_rfl))
 ·
  show (_ : Exit → St → Prop) (.exit 0) _
  refine AW.inBlock_hit (AW.tn ?_)
  refine AW.sg tt_ok1 [] [1] [(1, .box 40 [ci64 y1, .ref 3 1 0 x33.length, .ref 4 1 0 x34.length])] 7 [] (by kernel_rfl) ?_
  refine AW.ret ?_
  obtain rfl := some_inj h
  exact fnR (.inr rfl) [(0, 0)] 1 (.agg [ci64 y1, cl 1 Ri64 x33, cl 1 Ri64 x34]) (Conv.trans (cfz 3 3 1 x33.length (Ri64 x33) (by kernel_rfl)) (Conv.trans (cfz 4 3 1 x34.length (Ri64 x34) (by kernel_rfl)) (conv_box (id := 1) (ty := 40) (cs := [ci64 y1, .ref 3 1 0 x33.length, .ref 4 1 0 x34.length]) (ds := [ci64 y1, cl 1 Ri64 x33, cl 1 Ri64 x34]) (by kernel_rfl) ⟨CLe.refl _ _, CLe.ref (ty := 3) (f := Ri64 x33) (by kernel_rfl) le0, CLe.ref (ty := 3) (f := Ri64 x34) (by kernel_rfl) le0, tv⟩))) (by kernel_rfl)
/-! recordlink/recordlinkplay.BentWeights -/
set_option maxRecDepth 100000 in
theorem rl_play_BentWeights_conT (p0 : S_recordlinkmake_Deck) (p1 : Int) (r : S_api_Weights × S_recordlinkmake_Deck) (h : rl_play_BentWeights p0 p1 = some r) : Con Try.prog 24 [.c (.ptr 0 3 0 0), vi64 p1] [(0, .box 60 [cl 1 Ri64 p0.list, ci64 p0.at_, cu64 p0.state])] (.agg [ci64 r.1.Prior, cl 1 Ri64 r.1.Agree, cl 1 Ri64 r.1.Differ]) [(0, .box 60 [cl 1 Ri64 r.2.list, ci64 r.2.at_, cu64 r.2.state])] := by
 refine con_of tt_ok1 1 Try.func24 (by kernel_rfl) rfl (by kernel_rfl) (fun base X _ => AW.post ?_)
 unfold rl_play_BentWeights at h
 refine AW.sg tt_ok1 [(4, .c (.ptr 1 3 0 0))] [1] [(1, .box 40 [ci64 0, .t (.v (.slice none 0 0)), .t (.v (.slice none 0 0))])] 2 [] (by kernel_rfl) ?_
 obtain ⟨y1, y2, e3, h⟩ := bind2_some h
 refine AW.sg tt_ok1 [(5, .c (.ptr 6 3 0 0))] [0, 4, 5, 6] [(6, .box 40 [ci64 y1.Prior, .ref 4 1 0 y1.Agree.length, .ref 5 1 0 y1.Differ.length]), (0, .box 60 [cl 1 Ri64 y2.list, ci64 y2.at_, cu64 y2.state]), (4, .row 3 false 1 y1.Agree.length (Ri64 y1.Agree)), (5, .row 3 false 1 y1.Differ.length (Ri64 y1.Differ))] 8 [hn, hn, hl [0] [] 2 (rl_play_Weights_con p0 p1 (y1, y2) e3)] (by kernel_rfl) ?_
 refine AW.seq ?_
 refine AW.join (ι := (List Int) × Int × Int × Int × Nat × (List Int)) (fun v => ⟨[(4, .c (.ptr 1 3 0 0)), (5, .c (.ptr 2 3 0 0))], [(0, .box 60 [cl 1 Ri64 v.1, ci64 v.2.1, cu64 v.2.2.1]), (1, .box 40 [ci64 0, .t (.v (.slice none 0 0)), .t (.v (.slice none 0 0))]), (2, .box 40 [ci64 v.2.2.2.1, .ref 3 1 0 v.2.2.2.2.1, .ref 4 1 0 v.2.2.2.2.2.length]), (3, .row 3 false 1 y1.Agree.length (Ri64 y1.Agree)), (4, .row 3 false 1 v.2.2.2.2.2.length (Ri64 v.2.2.2.2.2))], 5⟩) (fun v : (List Int) × Int × Int × Int × Nat × (List Int) => rl_play_BentWeights_k1 y1 v.1 v.2.1 v.2.2.1 v.2.2.2.1 v.2.2.2.2.1 v.2.2.2.2.2 = some r) (fun v h => ?_) ?_
 ·
  obtain ⟨x4, x5, x6, x7, x8, x9⟩ := v
  replace h : rl_play_BentWeights_k1 y1 x4 x5 x6 x7 x8 x9 = some r := h
  unfold rl_play_BentWeights_k1 at h
  refine AW.tn ?_
  refine AW.sg tt_ok1 [] [1] [(1, .box 40 [ci64 x7, .ref 3 1 0 x8, .ref 4 1 0 x9.length])] 7 [] (by kernel_rfl) ?_
  obtain ⟨g10, h⟩ := ifc h
  refine AW.ret ?_
  obtain rfl := some_inj h
  exact fnR (.inr rfl) [(0, 0)] 1 (.agg [ci64 x7, cl 1 Ri64 (y1.Agree.take x8), cl 1 Ri64 x9]) (Conv.trans (cfz 3 3 1 y1.Agree.length (Ri64 y1.Agree) (by kernel_rfl)) (Conv.trans (cfz 4 3 1 x9.length (Ri64 x9) (by kernel_rfl)) (conv_box (id := 1) (ty := 40) (cs := [ci64 x7, .ref 3 1 0 x8, .ref 4 1 0 x9.length]) (ds := [ci64 x7, cl 1 Ri64 (y1.Agree.take x8), cl 1 Ri64 x9]) (by kernel_rfl) ⟨CLe.refl _ _, CLe.trans (CLe.ref (m := y1.Agree.length) (ty := 3) (f := Ri64 y1.Agree) (by kernel_rfl) (by omega)) (CAle.cle (CAle.tree (take_row (by omega)))), CLe.ref (ty := 3) (f := Ri64 x9) (by kernel_rfl) le0, tv⟩))) (by kernel_rfl)
 ·
  obtain ⟨y11, y12, e13, h⟩ := bind2_some h
  refine AW.sg tt_ok1 [(10, vi64 y11)] [0] [(0, .box 60 [cl 1 Ri64 y12.list, ci64 y12.at_, cu64 y12.state])] 9 [hn, hl [0] [] 0 (rl_make_Deck_Next_con y2 8 (y11, y12) e13)] (by kernel_rfl) ?_
  refine AW.block ?_
  refine AW.sg tt_ok1 [(11, vb (y11 == 0))] [] [] 11 [] (by kernel_rfl) ?_
  refine AW.co h (by kernel_rfl) (fun c14 h => ?_) (fun c14 h => ?_)
  ·
   obtain ⟨y15, y16, e17, h⟩ := bind2_some h
   obtain ⟨g18, g19, h⟩ := ifd h
   refine AW.rd tt_ok1 mo1 [[], [], [], [], [], [], [], [0], [], [], [6]] [] [(6, .box 40 [ci64 y1.Prior, .ref 4 1 0 y15.toNat, .ref 5 1 0 y1.Differ.length]), (0, .box 60 [cl 1 Ri64 y16.list, ci64 y16.at_, cu64 y16.state])] 21 [hn, hn, hn, hn, hn, hn, hn, hl [0] [] 0 (rl_make_Deck_Next_con y12 (i64.wrap (((y1.Agree.length : Nat) : Int) + 1)) (y15, y16) e17), ho (p := (True) ∧ (0 ≤ y15) ∧ (0 ≤ y15.toNat) ∧ (y15.toNat ≤ y1.Agree.length)) (⟨tv, g18, (Nat.zero_le _), g19⟩)] (by kernel_rfl) ?_
   refine AW.inBlock_normal ?_
   exact jl (y16.list, y16.at_, y16.state, y1.Prior, y15.toNat, y1.Differ) h (conv_re [(0, 0), (1, 1), (2, 6), (3, 4), (4, 5)] (by kernel_rfl))
  ·
   refine AW.sg tt_ok1 [(23, vb (y11 == 1))] [] [] 13 [] (by kernel_rfl) ?_
   refine AW.co h (by kernel_rfl) (fun c20 h => ?_) (fun c20 h => ?_)
   ·
    obtain ⟨y21, y22, e23, h⟩ := bind2_some h
    obtain ⟨g24, g25, h⟩ := ifd h
    refine AW.rg tt_ok1 [] [0, 6, 13] [(6, .box 40 [ci64 (([65536, 65537, (-65537)] : List Int).getD (0 + y21.toNat) 0), .ref 4 1 0 y1.Agree.length, .ref 5 1 0 y1.Differ.length]), (0, .box 60 [cl 1 Ri64 y22.list, ci64 y22.at_, cu64 y22.state])] 19 [hlit 0 Ei64 1 (fun _ => rfl) ([65536, 65537, (-65537)] : List Int), hn, hl [0] [] 0 (rl_make_Deck_Next_con y12 3 (y21, y22) e23), hq g24 g25, ho (p := (0 + y21.toNat) < ([65536, 65537, (-65537)] : List Int).length) (by have h1 : 0 ≤ y21 := g24; have h2 : y21 < ((([65536, 65537, (-65537)] : List Int).length : Nat) : Int) := g25; omega)] (by kernel_rfl) ?_
    refine AW.inBlock_normal ?_
    exact jl (y22.list, y22.at_, y22.state, (([65536, 65537, (-65537)] : List Int).getD (0 + y21.toNat) 0), y1.Agree.length, y1.Differ) h (conv_re [(0, 0), (1, 1), (2, 6), (3, 4), (4, 5)] (by kernel_rfl))
   ·
    refine AW.sg tt_ok1 [(31, vb (y11 == 2))] [] [] 15 [] (by kernel_rfl) ?_
    refine AW.co h (by kernel_rfl) (fun c26 h => ?_) (fun c26 h => ?_)
    ·
     refine AW.sg tt_ok1 [(36, vb (decide (((y1.Differ.length : Nat) : Int) > 0)))] [] [] 19 [] (by kernel_rfl) ?_
     refine AW.co h (by kernel_rfl) (fun c27 h => ?_) (fun c27 h => ?_)
     ·
      obtain ⟨y28, y29, e30, h⟩ := bind2_some h
      obtain ⟨y31, y32, e33, h⟩ := bind2_some h
      obtain ⟨g34, g35, h⟩ := ifd h
      obtain ⟨g36, g37, h⟩ := ifd h
      refine AW.rd tt_ok1 mo1 [[], [], [], [], [], [], [0], [25], [], [0], [], [], [], [5]] [] [(5, .row 3 false 1 y1.Differ.length (Ri64 (y1.Differ.set (0 + y28.toNat) (([(-65536), (-65537), 65537] : List Int).getD (0 + y31.toNat) 0)))), (0, .box 60 [cl 1 Ri64 y32.list, ci64 y32.at_, cu64 y32.state])] 31 [hn, hn, hn, hn, hn, hn, hl [0] [] 0 (rl_make_Deck_Next_con y12 ((y1.Differ.length : Nat) : Int) (y28, y29) e30), hlit 0 Ei64 1 (fun _ => rfl) ([(-65536), (-65537), 65537] : List Int), hn, hl [0] [] 0 (rl_make_Deck_Next_con y29 3 (y31, y32) e33), hq g34 g35, ho (p := (0 + y31.toNat) < ([(-65536), (-65537), 65537] : List Int).length) (by have h1 : 0 ≤ y31 := g34; have h2 : y31 < ((([(-65536), (-65537), 65537] : List Int).length : Nat) : Int) := g35; omega), hq g36 g37, hset 0 Ei64 y1.Differ (0 + y28.toNat) (([(-65536), (-65537), 65537] : List Int).getD (0 + y31.toNat) 0) (n := y1.Differ.length) (by have h1 : 0 ≤ y28 := g36; have h2 : y28 < ((y1.Differ.length : Nat) : Int) := g37; omega) rfl] (by kernel_rfl) ?_
      refine AW.inBlock_normal ?_
      exact jl (y32.list, y32.at_, y32.state, y1.Prior, y1.Agree.length, (y1.Differ.set (0 + y28.toNat) (([(-65536), (-65537), 65537] : List Int).getD (0 + y31.toNat) 0))) h (Conv.trans (conv_re (S' := ⟨[(5, .c (.ptr 6 3 0 0)), (4, .c (.ptr 1 3 0 0))], [(5, .row 3 false 1 y1.Differ.length (Ri64 (y1.Differ.set (0 + y28.toNat) (([(-65536), (-65537), 65537] : List Int).getD (0 + y31.toNat) 0)))), (0, .box 60 [cl 1 Ri64 y32.list, ci64 y32.at_, cu64 y32.state]), (6, .box 40 [ci64 y1.Prior, .ref 4 1 0 y1.Agree.length, .ref 5 1 0 y1.Differ.length]), (4, .row 3 false 1 y1.Agree.length (Ri64 y1.Agree)), (1, .box 40 [ci64 0, .t (.v (.slice none 0 0)), .t (.v (.slice none 0 0))])], 31⟩) [(5, 5), (0, 0), (6, 6), (4, 4), (1, 1)] (by kernel_rfl)) (Conv.trans (conv_len (S' := ⟨[(5, .c (.ptr 6 3 0 0)), (4, .c (.ptr 1 3 0 0))], [(5, .row 3 false 1 (y1.Differ.set (0 + y28.toNat) (([(-65536), (-65537), 65537] : List Int).getD (0 + y31.toNat) 0)).length (Ri64 (y1.Differ.set (0 + y28.toNat) (([(-65536), (-65537), 65537] : List Int).getD (0 + y31.toNat) 0)))), (0, .box 60 [cl 1 Ri64 y32.list, ci64 y32.at_, cu64 y32.state]), (6, .box 40 [ci64 y1.Prior, .ref 4 1 0 y1.Agree.length, .ref 5 1 0 ((y1.Differ.set (0 + y28.toNat) (([(-65536), (-65537), 65537] : List Int).getD (0 + y31.toNat) 0)).length)]), (4, .row 3 false 1 y1.Agree.length (Ri64 y1.Agree)), (1, .box 40 [ci64 0, .t (.v (.slice none 0 0)), .t (.v (.slice none 0 0))])], 31⟩) (by simp only [List.length_set])) (conv_re [(0, 0), (1, 1), (2, 6), (3, 4), (4, 5)] (by kernel_rfl))))
     ·
      refine AW.skip (AW.inBlock_normal ?_)
      exact jl (y12.list, y12.at_, y12.state, y1.Prior, y1.Agree.length, y1.Differ) h (conv_re [(0, 0), (1, 1), (2, 6), (3, 4), (4, 5)] (by kernel_rfl))
    ·
     refine AW.skip (AW.inBlock_normal ?_)
     exact jl (y12.list, y12.at_, y12.state, y1.Prior, y1.Agree.length, y1.Differ) h (conv_re [(0, 0), (1, 1), (2, 6), (3, 4), (4, 5)] (by kernel_rfl))
def ES_api_Weights (x : S_api_Weights) : List T := [.v (.int .i64 x.Prior), .tree x.Agree.length 1 (Ri64 x.Agree), .tree x.Differ.length 1 (Ri64 x.Differ)]
def RS_api_Weights (xs : List S_api_Weights) : Nat → Nat → T := rowL dS_api_Weights ES_api_Weights xs
/-! recordlink/recordlinkref25.fits -/
noncomputable def rl_ref25_fits_k1 (x1 : Bool) : Option Bool := some x1
noncomputable def rl_ref25_fits (p0 : Int) : Option Bool := if (decide (p0 ≥ (-65536))) = true then (rl_ref25_fits_k1 (decide (p0 ≤ 65536))) else (rl_ref25_fits_k1 false)
set_option maxRecDepth 100000 in
theorem rl_ref25_fits_con (p0 : Int) (r : Bool) (h : rl_ref25_fits p0 = some r) : Con Try.prog 45 [vi64 p0] [] (vb r) [] := by
 refine con_of tt_ok1 0 Try.func45 (by kernel_rfl) rfl (by kernel_rfl) (fun base X _ => AW.post ?_)
 unfold rl_ref25_fits at h
 refine AW.sg tt_ok1 [] [] [] 1 [] (by kernel_rfl) ?_
 refine AW.seq ?_
 refine AW.join (ι := Bool) (fun v => ⟨[(2, vb v)], [], 0⟩) (fun v : Bool => rl_ref25_fits_k1 v = some r) (fun x1 h => ?_) ?_
 ·
  unfold rl_ref25_fits_k1 at h
  refine AW.tn (AW.ret ?_)
  obtain rfl := some_inj h
  exact fn0 (.inr rfl) [] 0 (vb x1) (by kernel_rfl)
 ·
  rcases ifs h with ⟨c2, h⟩ | ⟨c2, h⟩
  ·
   refine AW.rg tt_ok1 [(2, vb (decide (p0 ≤ 65536)))] [] [] 8 [hn, ht c2] (by kernel_rfl) ?_
   exact jl (decide (p0 ≤ 65536)) h (conv_re [] (by kernel_rfl))
  ·
   refine AW.rg tt_ok1 [(2, vb false)] [] [] 8 [hn, hf c2] (by kernel_rfl) ?_
   exact jl false h (conv_re [] (by kernel_rfl))
/-! recordlink/recordlinkref25.Check -/
noncomputable def rl_ref25_Check_k3 (x4 : Int) (x6 : Bool) : Option (Int ⊕ (Unit ⊕ Unit)) := if x6 = true then (some (.inr (.inr ()))) else (some (.inl (i64.wrap (x4 + 1))))
noncomputable def rl_ref25_Check_l2 (p0 : S_api_Weights) (x4 : Int) : Option (Int ⊕ (Unit ⊕ Unit)) := if (decide (x4 < ((p0.Agree.length : Nat) : Int))) = true then (if 0 ≤ x4 then (if x4 < ((p0.Agree.length : Nat) : Int) then ((rl_ref25_fits (p0.Agree.getD x4.toNat 0)).bind fun y10 => (if (!y10) = true then (rl_ref25_Check_k3 x4 true) else (if x4 < ((p0.Differ.length : Nat) : Int) then ((rl_ref25_fits (p0.Differ.getD x4.toNat 0)).bind fun y14 => (rl_ref25_Check_k3 x4 (!y14))) else none))) else none) else none) else (some (.inr (.inl ())))
noncomputable def rl_ref25_Check_a4 : Option Int := some 0
noncomputable def rl_ref25_Check_a5 : Option Int := some 40
noncomputable def rl_ref25_Check_k1 (p0 : S_api_Weights) (x1 : Bool) : Option Int := if x1 = true then (some 40) else (bindE (loop (fun v : Int => rl_ref25_Check_l2 p0 v) 0) (fun t => rl_ref25_Check_a4) (fun t => rl_ref25_Check_a5))
noncomputable def rl_ref25_Check (p0 : S_api_Weights) : Option Int := if (((p0.Agree.length : Nat) : Int) != ((p0.Differ.length : Nat) : Int)) = true then (rl_ref25_Check_k1 p0 true) else (if (decide (((p0.Agree.length : Nat) : Int) < 1)) = true then (rl_ref25_Check_k1 p0 true) else (if (decide (((p0.Agree.length : Nat) : Int) > 5)) = true then (rl_ref25_Check_k1 p0 true) else ((rl_ref25_fits p0.Prior).bind fun y20 => (rl_ref25_Check_k1 p0 (!y20)))))
set_option maxRecDepth 100000 in
theorem rl_ref25_Check_con (p0 : S_api_Weights) (r : Int) (h : rl_ref25_Check p0 = some r) : Con Try.prog 25 [.agg [ci64 p0.Prior, cl 1 Ri64 p0.Agree, cl 1 Ri64 p0.Differ]] [] (vi64 r) [] := by
 refine con_of tt_ok1 0 Try.func25 (by kernel_rfl) rfl (by kernel_rfl) (fun base X _ => AW.post ?_)
 unfold rl_ref25_Check at h
 refine AW.sg tt_ok1 [(1, .c (.ptr 0 3 0 0))] [0] [(0, .box 40 [ci64 p0.Prior, cl 1 Ri64 p0.Agree, cl 1 Ri64 p0.Differ])] 2 [] (by kernel_rfl) ?_
 refine AW.seq (AW.seq ?_)
 refine AW.join (ι := Bool) (fun v => ⟨[(1, .c (.ptr 0 3 0 0)), (28, vb v)], [(0, .box 40 [ci64 p0.Prior, cl 1 Ri64 p0.Agree, cl 1 Ri64 p0.Differ])], 1⟩) (fun v : Bool => rl_ref25_Check_k1 p0 v = some r) (fun x1 h => ?_) ?_
 ·
  unfold rl_ref25_Check_k1 at h
  refine AW.tn ?_
  refine AW.co h (by kernel_rfl) (fun c2 h => ?_) (fun c2 h => ?_)
  ·
   refine AW.sg tt_ok1 [(2, vi64 40)] [] [] 2 [] (by kernel_rfl) ?_
   refine AW.ret (AW.tr ?_)
   obtain rfl := some_inj h
   exact fn0 (.inr rfl) [] 0 (vi64 40) (by kernel_rfl)
  ·
   refine AW.skip (AW.tn (AW.seq ?_))
   refine AW.sg tt_ok1 [(3, vi64 0)] [] [] 2 [] (by kernel_rfl) ?_
   refine AW.block ?_
   refine AW.lpE h (fun v => ⟨[(1, .c (.ptr 0 3 0 0)), (3, vi64 v)], [(0, .box 40 [ci64 p0.Prior, cl 1 Ri64 p0.Agree, cl 1 Ri64 p0.Differ])], 1⟩) (fun t => (.exit 0, ⟨[], [], 0⟩)) (fun t => (.ret, ⟨[(2, vi64 40)], [], 0⟩)) (conv_re [(0, 0)] (by kernel_rfl)) (fun _ => tv) (fun _ => tv) ?_ (fun t h => ?_) (fun t h => ?_)
   ·
    clear h
    intro x4 o h
    unfold rl_ref25_Check_l2 at h
    refine AW.seq ?_
    refine AW.sg tt_ok1 [(33, vb (decide (x4 < ((p0.Agree.length : Nat) : Int))))] [] [] 6 [] (by kernel_rfl) ?_
    refine AW.co h (by kernel_rfl) (fun c5 h => ?_) (fun c5 h => ?_)
    ·
     refine AW.skip (AW.tn ?_)
     refine AW.seq (AW.block (AW.seq ?_))
     refine AW.join (ι := Bool) (fun v => ⟨[(1, .c (.ptr 0 3 0 0)), (3, vi64 x4), (51, vb v)], [(0, .box 40 [ci64 p0.Prior, cl 1 Ri64 p0.Agree, cl 1 Ri64 p0.Differ])], 1⟩) (fun v : Bool => rl_ref25_Check_k3 x4 v = some o) (fun x6 h => ?_) ?_
     ·
      unfold rl_ref25_Check_k3 at h
      refine AW.tn ?_
      refine AW.co h (by kernel_rfl) (fun c7 h => ?_) (fun c7 h => ?_)
      ·
       refine AW.sg tt_ok1 [(2, vi64 40)] [] [] 2 [] (by kernel_rfl) ?_
       refine AW.ret (AW.inBlock_ret (AW.tr ?_))
       exact lpo h rfl (conv_re [] (by kernel_rfl))
      ·
       refine AW.skip (AW.inBlock_normal (AW.tn ?_))
       refine AW.rg tt_ok1 [(3, vi64 (i64.wrap (x4 + 1)))] [] [] 4 [] (by kernel_rfl) ?_
       exact lpn h (conv_re [(0, 0)] (by kernel_rfl))
     ·
      obtain ⟨g8, g9, h⟩ := ifd h
      obtain ⟨y10, e11, h⟩ := bnd_some h
      rcases ifs h with ⟨c12, h⟩ | ⟨c12, h⟩
      ·
       refine AW.rg tt_ok1 [(51, vb true)] [] [] 21 [hn, hn, hn, hq g8 g9, hn, hk (rl_ref25_fits_con (p0.Agree.getD x4.toNat 0) y10 e11), ht c12] (by kernel_rfl) ?_
       exact jl true h (conv_re [(0, 0)] (by kernel_rfl))
      ·
       obtain ⟨g13, h⟩ := ifc h
       obtain ⟨y14, e15, h⟩ := bnd_some h
       refine AW.rg tt_ok1 [(51, vb (!y14))] [] [] 20 [hn, hn, hn, hq g8 g9, hn, hk (rl_ref25_fits_con (p0.Agree.getD x4.toNat 0) y10 e11), hf c12, hn, hn, hn, hn, hq g8 g13, hn, hk (rl_ref25_fits_con (p0.Differ.getD x4.toNat 0) y14 e15)] (by kernel_rfl) ?_
       exact jl (!y14) h (conv_re [(0, 0)] (by kernel_rfl))
    ·
     refine AW.exit (AW.thenQ_exit ?_)
     exact lpo h rfl (conv_re [] (by kernel_rfl))
   ·
    replace h : rl_ref25_Check_a4 = some r := h
    unfold rl_ref25_Check_a4 at h
    show (_ : Exit → St → Prop) (.exit 0) _
    refine AW.inBlock_hit (AW.tn ?_)
    refine AW.sg tt_ok1 [(2, vi64 0)] [] [] 1 [] (by kernel_rfl) ?_
    refine AW.ret ?_
    obtain rfl := some_inj h
    exact fn0 (.inr rfl) [] 0 (vi64 0) (by kernel_rfl)
   ·
    replace h : rl_ref25_Check_a5 = some r := h
    unfold rl_ref25_Check_a5 at h
    show (_ : Exit → St → Prop) (.ret) _
    refine AW.inBlock_ret (AW.tr ?_)
    obtain rfl := some_inj h
    exact fn0 (.inr rfl) [] 0 (vi64 40) (by kernel_rfl)
 ·
  rcases ifs h with ⟨c17, h⟩ | ⟨c17, h⟩
  ·
   refine AW.rg tt_ok1 [(28, vb true)] [] [] 27 [hn, hn, hn, hn, hn, hn, ht c17] (by kernel_rfl) ?_
   exact jl true h (conv_re [(0, 0)] (by kernel_rfl))
  ·
   rcases ifs h with ⟨c18, h⟩ | ⟨c18, h⟩
   ·
    refine AW.rg tt_ok1 [(28, vb true)] [] [] 27 [hn, hn, hn, hn, hn, hn, hf c17, hn, hn, hn, hn, ht c18] (by kernel_rfl) ?_
    exact jl true h (conv_re [(0, 0)] (by kernel_rfl))
   ·
    rcases ifs h with ⟨c19, h⟩ | ⟨c19, h⟩
    ·
     refine AW.rg tt_ok1 [(28, vb true)] [] [] 27 [hn, hn, hn, hn, hn, hn, hf c17, hn, hn, hn, hn, hf c18, hn, hn, hn, hn, hn, ht c19] (by kernel_rfl) ?_
     exact jl true h (conv_re [(0, 0)] (by kernel_rfl))
    ·
     obtain ⟨y20, e21, h⟩ := bnd_some h
     refine AW.rg tt_ok1 [(28, vb (!y20))] [] [] 26 [hn, hn, hn, hn, hn, hn, hf c17, hn, hn, hn, hn, hf c18, hn, hn, hn, hn, hn, hf c19, hn, hn, hn, hn, hk (rl_ref25_fits_con p0.Prior y20 e21)] (by kernel_rfl) ?_
     exact jl (!y20) h (conv_re [(0, 0)] (by kernel_rfl))
/-! recordlink/recordlinkref25.Bounds -/
noncomputable def rl_ref25_Bounds_l1 (p0 : S_api_Weights) (x7 : Int) (x8 : Int) (x9 : Int) : Option ((Int × Int × Int) ⊕ (Int × Int)) := if (decide (x9 < ((p0.Agree.length : Nat) : Int))) = true then (if 0 ≤ x9 then (if x9 < ((p0.Agree.length : Nat) : Int) then (if x9 < ((p0.Differ.length : Nat) : Int) then ((some (i64.wrap (x7 + (if (if (p0.Differ.getD x9.toNat 0) < (p0.Agree.getD x9.toNat 0) then (p0.Differ.getD x9.toNat 0) else (p0.Agree.getD x9.toNat 0)) < 0 then (if (p0.Differ.getD x9.toNat 0) < (p0.Agree.getD x9.toNat 0) then (p0.Differ.getD x9.toNat 0) else (p0.Agree.getD x9.toNat 0)) else 0)))).bind fun z16 => ((some (i64.wrap (x8 + (if (if (p0.Differ.getD x9.toNat 0) > (p0.Agree.getD x9.toNat 0) then (p0.Differ.getD x9.toNat 0) else (p0.Agree.getD x9.toNat 0)) > 0 then (if (p0.Differ.getD x9.toNat 0) > (p0.Agree.getD x9.toNat 0) then (p0.Differ.getD x9.toNat 0) else (p0.Agree.getD x9.toNat 0)) else 0)))).bind fun z18 => (some (.inl (z16, z18, i64.wrap (x9 + 1)))))) else none) else none) else none) else (some (.inr (x7, x8)))
noncomputable def rl_ref25_Bounds (p0 : S_api_Weights) : Option (Int × Int × Int) := (rl_ref25_Check p0).bind fun y1 => (if (y1 != 0) = true then (some (0, 0, y1)) else (bind2 (loop (fun v : Int × Int × Int => rl_ref25_Bounds_l1 p0 v.1 v.2.1 v.2.2) (p0.Prior, p0.Prior, 0)) fun x20 x21 => (some (x20, x21, 0))))
set_option maxRecDepth 100000 in
theorem rl_ref25_Bounds_con (p0 : S_api_Weights) (r : Int × Int × Int) (h : rl_ref25_Bounds p0 = some r) : Con Try.prog 26 [.agg [ci64 p0.Prior, cl 1 Ri64 p0.Agree, cl 1 Ri64 p0.Differ]] [] (.tup [vi64 r.1, vi64 r.2.1, vi64 r.2.2]) [] := by
 refine con_of tt_ok1 0 Try.func26 (by kernel_rfl) rfl (by kernel_rfl) (fun base X _ => AW.post ?_)
 unfold rl_ref25_Bounds at h
 refine AW.sg tt_ok1 [(1, .c (.ptr 0 3 0 0))] [0] [(0, .box 40 [ci64 p0.Prior, cl 1 Ri64 p0.Agree, cl 1 Ri64 p0.Differ])] 4 [] (by kernel_rfl) ?_
 refine AW.seq ?_
 obtain ⟨y1, e2, h⟩ := bnd_some h
 refine AW.sg tt_ok1 [(5, vi64 y1)] [] [] 6 [hn, hk (rl_ref25_Check_con p0 y1 e2)] (by kernel_rfl) ?_
 refine AW.sg tt_ok1 [(12, vb (y1 != 0))] [] [] 8 [] (by kernel_rfl) ?_
 refine AW.co h (by kernel_rfl) (fun c3 h => ?_) (fun c3 h => ?_)
 ·
  refine AW.sg tt_ok1 [(4, vi64 y1), (3, vi64 0), (2, vi64 0)] [] [] 12 [] (by kernel_rfl) ?_
  refine AW.ret (AW.tr ?_)
  obtain rfl := some_inj h
  exact fn0 (.inr rfl) [] 0 (.tup [vi64 0, vi64 0, vi64 y1]) (by kernel_rfl)
 ·
  refine AW.skip (AW.tn ?_)
  refine AW.sd tt_ok1 mo1 [] [(7, vi64 p0.Prior), (6, vi64 p0.Prior)] [] 14 [] (by kernel_rfl) ?_
  refine AW.seq ?_
  refine AW.sg tt_ok1 [(8, vi64 0)] [] [] 15 [] (by kernel_rfl) ?_
  refine AW.block ?_
  obtain ⟨x20, x21, l22, h⟩ := bind2_some h
  refine AW.lp l22 (fun v => ⟨[(1, .c (.ptr 0 3 0 0)), (6, vi64 v.1), (7, vi64 v.2.1), (8, vi64 v.2.2)], [(0, .box 40 [ci64 p0.Prior, cl 1 Ri64 p0.Agree, cl 1 Ri64 p0.Differ])], 1⟩) (fun t : Int × Int => (.exit 0, ⟨[(6, vi64 t.1), (7, vi64 t.2)], [], 0⟩)) (conv_re [(0, 0)] (by kernel_rfl)) (fun _ => tv) ?_ ?_
  ·
   clear l22 h
   intro v o h
   obtain ⟨x7, x8, x9⟩ := v
   replace h : rl_ref25_Bounds_l1 p0 x7 x8 x9 = some o := h
   unfold rl_ref25_Bounds_l1 at h
   refine AW.seq ?_
   refine AW.sg tt_ok1 [(22, vb (decide (x9 < ((p0.Agree.length : Nat) : Int))))] [] [] 6 [] (by kernel_rfl) ?_
   refine AW.co h (by kernel_rfl) (fun c12 h => ?_) (fun c12 h => ?_)
   ·
    refine AW.skip (AW.tn ?_)
    refine AW.seq (AW.block ?_)
    obtain ⟨g13, g14, h⟩ := ifd h
    obtain ⟨g15, h⟩ := ifc h
    obtain ⟨z16, n17, h⟩ := bnd_some h
    replace n17 := some_inj n17
    refine AW.sd tt_ok1 mo1 [] [(6, vi64 z16)] [] 21 [hn, hn, hn, hn, hq g13 g14, hn, hn, hn, hn, hq g13 g15] (by subst n17; kernel_rfl) ?_
    obtain ⟨z18, n19, h⟩ := bnd_some h
    replace n19 := some_inj n19
    refine AW.rd tt_ok1 mo1 [] [(7, vi64 z18)] [] 36 [hn, hn, hn, hn, hq g13 g14, hn, hn, hn, hn, hq g13 g15] (by subst n19; kernel_rfl) ?_
    refine AW.inBlock_normal (AW.tn ?_)
    refine AW.rg tt_ok1 [(8, vi64 (i64.wrap (x9 + 1)))] [] [] 39 [] (by kernel_rfl) ?_
    exact lpn h (conv_re [(0, 0)] (by kernel_rfl))
   ·
    refine AW.exit (AW.thenQ_exit ?_)
    exact lpo h rfl (conv_re [] (by kernel_rfl))
  ·
   show (_ : Exit → St → Prop) (.exit 0) _
   refine AW.inBlock_hit (AW.tn ?_)
   refine AW.sg tt_ok1 [(4, vi64 0), (3, vi64 x21), (2, vi64 x20)] [] [] 5 [] (by kernel_rfl) ?_
   refine AW.ret ?_
   obtain rfl := some_inj h
   exact fn0 (.inr rfl) [] 0 (.tup [vi64 x20, vi64 x21, vi64 0]) (by kernel_rfl)
/-! recordlink/recordlinkref17.Size -/
noncomputable def rl_ref17_Size_l1 (p0 : Int) (x3 : Int) (x4 : Int) : Option ((Int × Int) ⊕ Int) := if (decide (x4 < p0)) = true then (some (.inl (i64.wrap (x3 * 3), i64.wrap (x4 + 1)))) else (some (.inr x3))
noncomputable def rl_ref17_Size (p0 : Int) : Option Int := (loop (fun v : Int × Int => rl_ref17_Size_l1 p0 v.1 v.2) (1, 0)).bind fun x7 => (some x7)
set_option maxRecDepth 100000 in
theorem rl_ref17_Size_con (p0 : Int) (r : Int) (h : rl_ref17_Size p0 = some r) : Con Try.prog 79 [vi64 p0] [] (vi64 r) [] := by
 refine con_of tt_ok1 0 Try.func79 (by kernel_rfl) rfl (by kernel_rfl) (fun base X _ => AW.post ?_)
 unfold rl_ref17_Size at h
 refine AW.sg tt_ok1 [] [] [] 1 [] (by kernel_rfl) ?_
 refine AW.sg tt_ok1 [(3, vi64 1)] [] [] 2 [] (by kernel_rfl) ?_
 refine AW.seq ?_
 refine AW.sg tt_ok1 [(4, vi64 0)] [] [] 3 [] (by kernel_rfl) ?_
 refine AW.block ?_
 obtain ⟨x7, l8, h⟩ := bnd_some h
 refine AW.lp l8 (fun v => ⟨[(0, vi64 p0), (3, vi64 v.1), (4, vi64 v.2)], [], 0⟩) (fun t : Int => (.exit 0, ⟨[(3, vi64 t)], [], 0⟩)) (conv_re [] (by kernel_rfl)) (fun _ => tv) ?_ ?_
 ·
  clear l8 h
  intro v o h
  obtain ⟨x3, x4⟩ := v
  replace h : rl_ref17_Size_l1 p0 x3 x4 = some o := h
  unfold rl_ref17_Size_l1 at h
  refine AW.seq ?_
  refine AW.sg tt_ok1 [(7, vb (decide (x4 < p0)))] [] [] 3 [] (by kernel_rfl) ?_
  refine AW.co h (by kernel_rfl) (fun c6 h => ?_) (fun c6 h => ?_)
  ·
   refine AW.skip (AW.tn ?_)
   refine AW.seq (AW.block ?_)
   refine AW.rg tt_ok1 [(3, vi64 (i64.wrap (x3 * 3)))] [] [] 6 [] (by kernel_rfl) ?_
   refine AW.inBlock_normal (AW.tn ?_)
   refine AW.rg tt_ok1 [(4, vi64 (i64.wrap (x4 + 1)))] [] [] 9 [] (by kernel_rfl) ?_
   exact lpn h (conv_re [] (by kernel_rfl))
  ·
   refine AW.exit (AW.thenQ_exit ?_)
   exact lpo h rfl (conv_re [] (by kernel_rfl))
 ·
  show (_ : Exit → St → Prop) (.exit 0) _
  refine AW.inBlock_hit (AW.tn ?_)
  refine AW.sg tt_ok1 [(2, vi64 x7)] [] [] 2 [] (by kernel_rfl) ?_
  refine AW.ret ?_
  obtain rfl := some_inj h
  exact fn0 (.inr rfl) [] 0 (vi64 x7) (by kernel_rfl)
/-! recordlink/recordlinkref17.Digits -/
noncomputable def rl_ref17_Digits_l3 (p1 : Int) (x8 : Int) (x9 : List Int) (x10 : Int) : Option ((Int × (List Int) × Int) ⊕ (List Int)) := if (decide (x10 < p1)) = true then (if x9.length + ([(x8.tmod 3)] : List Int).length ≤ 1099511627776 then (some (.inl (i64.wrap (x8.tdiv 3), (x9 ++ ([(x8.tmod 3)] : List Int)), i64.wrap (x10 + 1)))) else none) else (some (.inr x9))
noncomputable def rl_ref17_Digits_k2 (p0 : Int) (p1 : Int) (x3 : Bool) : Option ((List Int) × Int) := if x3 = true then (some (([] : List Int), 2)) else ((loop (fun v : Int × (List Int) × Int => rl_ref17_Digits_l3 p1 v.1 v.2.1 v.2.2) (p0, ([] : List Int), 0)).bind fun x14 => (some (x14, 0)))
noncomputable def rl_ref17_Digits_k1 (p0 : Int) (p1 : Int) (x1 : Bool) : Option ((List Int) × Int) := if x1 = true then (some (([] : List Int), 8)) else (if (decide (p0 < 0)) = true then (rl_ref17_Digits_k2 p0 p1 true) else ((rl_ref17_Size p1).bind fun y17 => (rl_ref17_Digits_k2 p0 p1 (decide (p0 ≥ y17)))))
noncomputable def rl_ref17_Digits (p0 : Int) (p1 : Int) : Option ((List Int) × Int) := if (decide (p1 < 1)) = true then (rl_ref17_Digits_k1 p0 p1 true) else (rl_ref17_Digits_k1 p0 p1 (decide (p1 > 5)))
set_option maxRecDepth 100000 in
theorem rl_ref17_Digits_con (p0 : Int) (p1 : Int) (r : (List Int) × Int) (h : rl_ref17_Digits p0 p1 = some r) : Con Try.prog 65 [vi64 p0, vi64 p1] [] (.tup [.c (.ref 0 1 0 r.1.length), vi64 r.2]) [(0, .row 3 false 1 r.1.length (Ri64 r.1))] := by
 refine con_of tt_ok1 0 Try.func65 (by kernel_rfl) rfl (by kernel_rfl) (fun base X _ => AW.post ?_)
 unfold rl_ref17_Digits at h
 refine AW.sg tt_ok1 [] [] [] 2 [] (by kernel_rfl) ?_
 refine AW.seq (AW.seq ?_)
 refine AW.join (ι := Bool) (fun v => ⟨[(0, vi64 p0), (1, vi64 p1), (13, vb v)], [], 0⟩) (fun v : Bool => rl_ref17_Digits_k1 p0 p1 v = some r) (fun x1 h => ?_) ?_
 ·
  unfold rl_ref17_Digits_k1 at h
  refine AW.tn ?_
  refine AW.co h (by kernel_rfl) (fun c2 h => ?_) (fun c2 h => ?_)
  ·
   refine AW.sg tt_ok1 [(5, vi64 8), (4, .c (.t (.v (.slice none 0 0))))] [] [] 2 [] (by kernel_rfl) ?_
   refine AW.ret (AW.tr ?_)
   obtain rfl := some_inj h
   exact fnR (.inr rfl) [(0, 2)] 1 (.tup [.c (.ref 2 1 0 (([] : List Int).length)), vi64 8]) (conv_adopt (t := 4) (ty := 3) (sz := 1) (n := ([] : List Int).length) (f := Ri64 ([] : List Int)) (by kernel_rfl) rfl) (by kernel_rfl)
  ·
   refine AW.skip (AW.tn ?_)
   refine AW.seq (AW.seq ?_)
   refine AW.join (ι := Bool) (fun v => ⟨[(0, vi64 p0), (1, vi64 p1), (21, vb v)], [], 0⟩) (fun v : Bool => rl_ref17_Digits_k2 p0 p1 v = some r) (fun x3 h => ?_) ?_
   ·
    unfold rl_ref17_Digits_k2 at h
    refine AW.tn ?_
    refine AW.co h (by kernel_rfl) (fun c4 h => ?_) (fun c4 h => ?_)
    ·
     refine AW.sg tt_ok1 [(5, vi64 2), (4, .c (.t (.v (.slice none 0 0))))] [] [] 2 [] (by kernel_rfl) ?_
     refine AW.ret (AW.tr ?_)
     obtain rfl := some_inj h
     exact fnR (.inr rfl) [(0, 2)] 1 (.tup [.c (.ref 2 1 0 (([] : List Int).length)), vi64 2]) (conv_adopt (t := 4) (ty := 3) (sz := 1) (n := ([] : List Int).length) (f := Ri64 ([] : List Int)) (by kernel_rfl) rfl) (by kernel_rfl)
    ·
     refine AW.skip (AW.tn ?_)
     refine AW.sg tt_ok1 [(6, .c (.t (.v (.slice none 0 0))))] [] [] 1 [] (by kernel_rfl) ?_
     refine AW.seq ?_
     refine AW.sg tt_ok1 [(7, vi64 0)] [] [] 2 [] (by kernel_rfl) ?_
     refine AW.block ?_
     obtain ⟨x14, l15, h⟩ := bnd_some h
     refine AW.lp l15 (fun v => ⟨[(0, vi64 v.1), (1, vi64 p1), (6, .c (.ref 0 1 0 v.2.1.length)), (7, vi64 v.2.2)], [(0, .row 3 false 1 v.2.1.length (Ri64 v.2.1))], 1⟩) (fun t : List Int => (.exit 0, ⟨[(6, .c (.ref 0 1 0 t.length))], [(0, .row 3 false 1 t.length (Ri64 t))], 1⟩)) (Conv.trans (conv_adopt (t := 6) (ty := 3) (sz := 1) (n := ([] : List Int).length) (f := Ri64 ([] : List Int)) (by kernel_rfl) rfl) (conv_re [(0, 2)] (by kernel_rfl))) (fun _ => tv) ?_ ?_
     ·
      clear l15 h
      intro v o h
      obtain ⟨x8, x9, x10⟩ := v
      replace h : rl_ref17_Digits_l3 p1 x8 x9 x10 = some o := h
      unfold rl_ref17_Digits_l3 at h
      refine AW.seq ?_
      refine AW.sg tt_ok1 [(24, vb (decide (x10 < p1)))] [] [] 4 [] (by kernel_rfl) ?_
      refine AW.co h (by kernel_rfl) (fun c12 h => ?_) (fun c12 h => ?_)
      ·
       refine AW.skip (AW.tn ?_)
       refine AW.seq (AW.block ?_)
       obtain ⟨g13, h⟩ := ifc h
       refine AW.sg tt_ok1 [(6, .c (.ref 8 1 0 ((x9 ++ ([(x8.tmod 3)] : List Int)).length)))] [0, 7, 8] [(8, .row 3 false 1 (x9 ++ ([(x8.tmod 3)] : List Int)).length (Ri64 (x9 ++ ([(x8.tmod 3)] : List Int))))] 10 [hn, hn, ho (p := (3 : Int) ≠ 0) (by decide), hlit 0 Ei64 1 (fun _ => rfl) ([(x8.tmod 3)] : List Int), happ 0 Ei64 1 8 x9 ([(x8.tmod 3)] : List Int) g13 (by decide)] (by kernel_rfl) ?_
       refine AW.rg tt_ok1 [(0, vi64 (i64.wrap (x8.tdiv 3)))] [] [] 13 [hn, ho (p := (3 : Int) ≠ 0) (by decide)] (by kernel_rfl) ?_
       refine AW.inBlock_normal (AW.tn ?_)
       refine AW.rg tt_ok1 [(7, vi64 (i64.wrap (x10 + 1)))] [] [] 16 [] (by kernel_rfl) ?_
       exact lpn h (conv_re [(0, 8)] (by kernel_rfl))
      ·
       refine AW.exit (AW.thenQ_exit ?_)
       exact lpo h rfl (conv_re [(0, 0)] (by kernel_rfl))
     ·
      show (_ : Exit → St → Prop) (.exit 0) _
      refine AW.inBlock_hit (AW.tn ?_)
      refine AW.sg tt_ok1 [(5, vi64 0), (4, .c (.ref 0 1 0 x14.length))] [] [] 4 [] (by kernel_rfl) ?_
      refine AW.ret ?_
      obtain rfl := some_inj h
      exact fn0 (.inr rfl) [(0, 0)] 1 (.tup [.c (.ref 0 1 0 x14.length), vi64 0]) (by kernel_rfl)
   ·
    rcases ifs h with ⟨c16, h⟩ | ⟨c16, h⟩
    ·
     refine AW.rg tt_ok1 [(21, vb true)] [] [] 8 [hn, ht c16] (by kernel_rfl) ?_
     exact jl true h (conv_re [] (by kernel_rfl))
    ·
     obtain ⟨y17, e18, h⟩ := bnd_some h
     refine AW.rg tt_ok1 [(21, vb (decide (p0 ≥ y17)))] [] [] 7 [hn, hf c16, hn, hn, hn, hk (rl_ref17_Size_con p1 y17 e18)] (by kernel_rfl) ?_
     exact jl (decide (p0 ≥ y17)) h (conv_re [] (by kernel_rfl))
 ·
  rcases ifs h with ⟨c19, h⟩ | ⟨c19, h⟩
  ·
   refine AW.rg tt_ok1 [(13, vb true)] [] [] 8 [hn, ht c19] (by kernel_rfl) ?_
   exact jl true h (conv_re [] (by kernel_rfl))
  ·
   refine AW.rg tt_ok1 [(13, vb (decide (p1 > 5)))] [] [] 8 [hn, hf c19] (by kernel_rfl) ?_
   exact jl (decide (p1 > 5)) h (conv_re [] (by kernel_rfl))
/-! recordlink/recordlinkref25.digits -/
noncomputable def rl_ref25_digits (p0 : S_api_Weights) (p1 : Int) : Option ((List Int) × Int) := (rl_ref25_Check p0).bind fun y1 => (if (y1 != 0) = true then (some (([] : List Int), y1)) else (bind2 (rl_ref17_Digits p1 ((p0.Agree.length : Nat) : Int)) fun y4 y5 => (some (y4, y5))))
set_option maxRecDepth 100000 in
theorem rl_ref25_digits_con (p0 : S_api_Weights) (p1 : Int) (r : (List Int) × Int) (h : rl_ref25_digits p0 p1 = some r) : Con Try.prog 46 [.agg [ci64 p0.Prior, cl 1 Ri64 p0.Agree, cl 1 Ri64 p0.Differ], vi64 p1] [] (.tup [.c (.ref 0 1 0 r.1.length), vi64 r.2]) [(0, .row 3 false 1 r.1.length (Ri64 r.1))] := by
 refine con_of tt_ok1 0 Try.func46 (by kernel_rfl) rfl (by kernel_rfl) (fun base X _ => AW.post ?_)
 unfold rl_ref25_digits at h
 refine AW.sg tt_ok1 [(2, .c (.ptr 0 3 0 0))] [0] [(0, .box 40 [ci64 p0.Prior, cl 1 Ri64 p0.Agree, cl 1 Ri64 p0.Differ])] 3 [] (by kernel_rfl) ?_
 refine AW.seq ?_
 obtain ⟨y1, e2, h⟩ := bnd_some h
 refine AW.sg tt_ok1 [(6, vi64 y1)] [] [] 5 [hn, hk (rl_ref25_Check_con p0 y1 e2)] (by kernel_rfl) ?_
 refine AW.sg tt_ok1 [(10, vb (y1 != 0))] [] [] 7 [] (by kernel_rfl) ?_
 refine AW.co h (by kernel_rfl) (fun c3 h => ?_) (fun c3 h => ?_)
 ·
  refine AW.sg tt_ok1 [(5, vi64 y1), (4, .c (.t (.v (.slice none 0 0))))] [] [] 10 [] (by kernel_rfl) ?_
  refine AW.ret (AW.tr ?_)
  obtain rfl := some_inj h
  exact fnR (.inr rfl) [(0, 10)] 1 (.tup [.c (.ref 10 1 0 (([] : List Int).length)), vi64 y1]) (conv_adopt (t := 4) (ty := 3) (sz := 1) (n := ([] : List Int).length) (f := Ri64 ([] : List Int)) (by kernel_rfl) rfl) (by kernel_rfl)
 ·
  refine AW.skip (AW.tn ?_)
  obtain ⟨y4, y5, e6, h⟩ := bind2_some h
  refine AW.sg tt_ok1 [(5, vi64 y5), (4, .c (.ref 11 1 0 y4.length))] [11] [(11, .row 3 false 1 y4.length (Ri64 y4))] 16 [hn, hn, hn, hn, hm [] [] 1 (rl_ref17_Digits_con p1 ((p0.Agree.length : Nat) : Int) (y4, y5) e6) ⟨rowL_flat Vi64 _ _ _, tv⟩] (by kernel_rfl) ?_
  refine AW.ret ?_
  obtain rfl := some_inj h
  exact fn0 (.inr rfl) [(0, 11)] 1 (.tup [.c (.ref 11 1 0 y4.length), vi64 y5]) (by kernel_rfl)
/-! recordlink/recordlinkref25.Score -/
noncomputable def rl_ref25_Score_k2 (x8 : Int) (x11 : Int) : Option ((Int × Int) ⊕ Int) := some (.inl (x11, i64.wrap (x8 + 1)))
noncomputable def rl_ref25_Score_k3 (p0 : S_api_Weights) (y1 : List Int) (x8 : Int) (x12 : Int) : Option ((Int × Int) ⊕ Int) := if 0 ≤ x8 then (if x8 < (y1.length : Int) then (if ((y1.getD (0 + x8.toNat) 0) == 1) = true then (if x8 < ((p0.Differ.length : Nat) : Int) then (rl_ref25_Score_k2 x8 (i64.wrap (x12 + (p0.Differ.getD x8.toNat 0)))) else none) else (rl_ref25_Score_k2 x8 x12)) else none) else none
noncomputable def rl_ref25_Score_l1 (p0 : S_api_Weights) (y1 : List Int) (x7 : Int) (x8 : Int) : Option ((Int × Int) ⊕ Int) := if (decide (x8 < (y1.length : Int))) = true then (if 0 ≤ x8 then (if x8 < (y1.length : Int) then (if ((y1.getD (0 + x8.toNat) 0) == 2) = true then (if x8 < ((p0.Agree.length : Nat) : Int) then (rl_ref25_Score_k3 p0 y1 x8 (i64.wrap (x7 + (p0.Agree.getD x8.toNat 0)))) else none) else (rl_ref25_Score_k3 p0 y1 x8 x7)) else none) else none) else (some (.inr x7))
noncomputable def rl_ref25_Score (p0 : S_api_Weights) (p1 : Int) : Option (Int × Int) := bind2 (rl_ref25_digits p0 p1) fun y1 y2 => (if (y2 != 0) = true then (some (0, y2)) else ((loop (fun v : Int × Int => rl_ref25_Score_l1 p0 y1 v.1 v.2) (p0.Prior, 0)).bind fun x21 => (some (x21, 0))))
set_option maxRecDepth 100000 in
theorem rl_ref25_Score_con (p0 : S_api_Weights) (p1 : Int) (r : Int × Int) (h : rl_ref25_Score p0 p1 = some r) : Con Try.prog 27 [.agg [ci64 p0.Prior, cl 1 Ri64 p0.Agree, cl 1 Ri64 p0.Differ], vi64 p1] [] (.tup [vi64 r.1, vi64 r.2]) [] := by
 refine con_of tt_ok1 0 Try.func27 (by kernel_rfl) rfl (by kernel_rfl) (fun base X _ => AW.post ?_)
 unfold rl_ref25_Score at h
 refine AW.sg tt_ok1 [(2, .c (.ptr 0 3 0 0))] [0] [(0, .box 40 [ci64 p0.Prior, cl 1 Ri64 p0.Agree, cl 1 Ri64 p0.Differ])] 3 [] (by kernel_rfl) ?_
 obtain ⟨y1, y2, e3, h⟩ := bind2_some h
 refine AW.sg tt_ok1 [(7, vi64 y2), (6, .c (.ref 5 1 0 y1.length))] [5] [(5, .row 3 false 1 y1.length (Ri64 y1))] 11 [hn, hn, hm [] [] 1 (rl_ref25_digits_con p0 p1 (y1, y2) e3) ⟨rowL_flat Vi64 _ _ _, tv⟩] (by kernel_rfl) ?_
 refine AW.seq ?_
 refine AW.sg tt_ok1 [(17, vb (y2 != 0))] [] [] 13 [] (by kernel_rfl) ?_
 refine AW.co h (by kernel_rfl) (fun c4 h => ?_) (fun c4 h => ?_)
 ·
  refine AW.sg tt_ok1 [(5, vi64 y2), (4, vi64 0)] [] [] 16 [] (by kernel_rfl) ?_
  refine AW.ret (AW.tr ?_)
  obtain rfl := some_inj h
  exact fn0 (.inr rfl) [] 0 (.tup [vi64 0, vi64 y2]) (by kernel_rfl)
 ·
  refine AW.skip (AW.tn ?_)
  refine AW.sg tt_ok1 [(8, vi64 p0.Prior)] [] [] 16 [] (by kernel_rfl) ?_
  refine AW.seq ?_
  refine AW.sg tt_ok1 [(9, vi64 0)] [] [] 17 [] (by kernel_rfl) ?_
  refine AW.block ?_
  obtain ⟨x21, l22, h⟩ := bnd_some h
  refine AW.lp l22 (fun v => ⟨[(2, .c (.ptr 0 3 0 0)), (6, .c (.ref 1 1 0 y1.length)), (8, vi64 v.1), (9, vi64 v.2)], [(0, .box 40 [ci64 p0.Prior, cl 1 Ri64 p0.Agree, cl 1 Ri64 p0.Differ]), (1, .row 3 false 1 y1.length (Ri64 y1))], 2⟩) (fun t : Int => (.exit 0, ⟨[(8, vi64 t)], [], 0⟩)) (conv_re [(0, 0), (1, 5)] (by kernel_rfl)) (fun _ => tv) ?_ ?_
  ·
   clear l22 h
   intro v o h
   obtain ⟨x7, x8⟩ := v
   replace h : rl_ref25_Score_l1 p0 y1 x7 x8 = some o := h
   unfold rl_ref25_Score_l1 at h
   refine AW.seq ?_
   refine AW.sg tt_ok1 [(24, vb (decide (x8 < (y1.length : Int))))] [] [] 6 [] (by kernel_rfl) ?_
   refine AW.co h (by kernel_rfl) (fun c10 h => ?_) (fun c10 h => ?_)
   ·
    refine AW.skip (AW.tn (AW.seq ?_))
    refine AW.join (ι := Int) (fun v => ⟨[(2, .c (.ptr 0 3 0 0)), (6, .c (.ref 1 1 0 y1.length)), (8, vi64 v), (9, vi64 x8)], [(0, .box 40 [ci64 p0.Prior, cl 1 Ri64 p0.Agree, cl 1 Ri64 p0.Differ]), (1, .row 3 false 1 y1.length (Ri64 y1))], 2⟩) (fun v : Int => rl_ref25_Score_k2 x8 v = some o) (fun x11 h => ?_) ?_
    ·
     unfold rl_ref25_Score_k2 at h
     refine AW.tn ?_
     refine AW.rg tt_ok1 [(9, vi64 (i64.wrap (x8 + 1)))] [] [] 5 [] (by kernel_rfl) ?_
     exact lpn h (conv_re [(0, 0), (1, 1)] (by kernel_rfl))
    ·
     refine AW.block (AW.seq ?_)
     refine AW.join (ι := Int) (fun v => ⟨[(2, .c (.ptr 0 3 0 0)), (6, .c (.ref 1 1 0 y1.length)), (8, vi64 v), (9, vi64 x8)], [(0, .box 40 [ci64 p0.Prior, cl 1 Ri64 p0.Agree, cl 1 Ri64 p0.Differ]), (1, .row 3 false 1 y1.length (Ri64 y1))], 2⟩) (fun v : Int => rl_ref25_Score_k3 p0 y1 x8 v = some o) (fun x12 h => ?_) ?_
     ·
      unfold rl_ref25_Score_k3 at h
      refine AW.tn ?_
      obtain ⟨g13, g14, h⟩ := ifd h
      refine AW.sg tt_ok1 [(43, vb ((y1.getD (0 + x8.toNat) 0) == 1))] [] [] 7 [hn, hn, hq g13 g14, ho (p := (0 + x8.toNat) < y1.length) (by have h1 : 0 ≤ x8 := g13; have h2 : x8 < (y1.length : Int) := g14; omega)] (by kernel_rfl) ?_
      refine AW.co h (by kernel_rfl) (fun c15 h => ?_) (fun c15 h => ?_)
      ·
       obtain ⟨g16, h⟩ := ifc h
       refine AW.rg tt_ok1 [(8, vi64 (i64.wrap (x12 + (p0.Differ.getD x8.toNat 0))))] [] [] 15 [hn, hn, hn, hn, hq g13 g16] (by kernel_rfl) ?_
       refine AW.inBlock_normal ?_
       exact jl (i64.wrap (x12 + (p0.Differ.getD x8.toNat 0))) h (conv_re [(0, 0), (1, 1)] (by kernel_rfl))
      ·
       refine AW.skip (AW.inBlock_normal ?_)
       exact jl x12 h (conv_re [(0, 0), (1, 1)] (by kernel_rfl))
     ·
      obtain ⟨g17, g18, h⟩ := ifd h
      refine AW.sg tt_ok1 [(31, vb ((y1.getD (0 + x8.toNat) 0) == 2))] [] [] 11 [hn, hn, hq g17 g18, ho (p := (0 + x8.toNat) < y1.length) (by have h1 : 0 ≤ x8 := g17; have h2 : x8 < (y1.length : Int) := g18; omega)] (by kernel_rfl) ?_
      refine AW.co h (by kernel_rfl) (fun c19 h => ?_) (fun c19 h => ?_)
      ·
       obtain ⟨g20, h⟩ := ifc h
       refine AW.rg tt_ok1 [(8, vi64 (i64.wrap (x7 + (p0.Agree.getD x8.toNat 0))))] [] [] 19 [hn, hn, hn, hn, hq g17 g20] (by kernel_rfl) ?_
       exact jl (i64.wrap (x7 + (p0.Agree.getD x8.toNat 0))) h (conv_re [(0, 0), (1, 1)] (by kernel_rfl))
      ·
       refine AW.skip ?_
       exact jl x7 h (conv_re [(0, 0), (1, 1)] (by kernel_rfl))
   ·
    refine AW.exit (AW.thenQ_exit ?_)
    exact lpo h rfl (conv_re [] (by kernel_rfl))
  ·
   show (_ : Exit → St → Prop) (.exit 0) _
   refine AW.inBlock_hit (AW.tn ?_)
   refine AW.sg tt_ok1 [(5, vi64 0), (4, vi64 x21)] [] [] 3 [] (by kernel_rfl) ?_
   refine AW.ret ?_
   obtain rfl := some_inj h
   exact fn0 (.inr rfl) [] 0 (.tup [vi64 x21, vi64 0]) (by kernel_rfl)
/-! recordlink/recordlinkref25.Gain -/
noncomputable def rl_ref25_Gain (p0 : S_api_Weights) (p1 : Int) (p2 : Int) : Option Int := if (p2 == 0) = true then (if 0 ≤ p1 then (if p1 < ((p0.Agree.length : Nat) : Int) then (some (p0.Agree.getD p1.toNat 0)) else none) else none) else (if (p2 == 1) = true then (if 0 ≤ p1 then (if p1 < ((p0.Agree.length : Nat) : Int) then (if p1 < ((p0.Differ.length : Nat) : Int) then ((some (i64.wrap ((p0.Agree.getD p1.toNat 0) - (p0.Differ.getD p1.toNat 0)))).bind fun z8 => (some z8)) else none) else none) else none) else (some 0))
set_option maxRecDepth 100000 in
theorem rl_ref25_Gain_con (p0 : S_api_Weights) (p1 : Int) (p2 : Int) (r : Int) (h : rl_ref25_Gain p0 p1 p2 = some r) : Con Try.prog 47 [.agg [ci64 p0.Prior, cl 1 Ri64 p0.Agree, cl 1 Ri64 p0.Differ], vi64 p1, vi64 p2] [] (vi64 r) [] := by
 refine con_of tt_ok1 0 Try.func47 (by kernel_rfl) rfl (by kernel_rfl) (fun base X _ => AW.post ?_)
 unfold rl_ref25_Gain at h
 refine AW.sg tt_ok1 [(3, .c (.ptr 0 3 0 0))] [0] [(0, .box 40 [ci64 p0.Prior, cl 1 Ri64 p0.Agree, cl 1 Ri64 p0.Differ])] 2 [] (by kernel_rfl) ?_
 refine AW.seq ?_
 refine AW.sg tt_ok1 [(7, vi64 p2)] [] [] 3 [] (by kernel_rfl) ?_
 refine AW.block ?_
 refine AW.sg tt_ok1 [(8, vb (p2 == 0))] [] [] 5 [] (by kernel_rfl) ?_
 refine AW.co h (by kernel_rfl) (fun c1 h => ?_) (fun c1 h => ?_)
 ·
  obtain ⟨g2, g3, h⟩ := ifd h
  refine AW.sg tt_ok1 [(6, vi64 (p0.Agree.getD p1.toNat 0))] [] [] 11 [hn, hn, hn, hq g2 g3] (by kernel_rfl) ?_
  refine AW.ret (AW.inBlock_ret (AW.tr ?_))
  obtain rfl := some_inj h
  exact fn0 (.inr rfl) [] 0 (vi64 (p0.Agree.getD p1.toNat 0)) (by kernel_rfl)
 ·
  refine AW.sg tt_ok1 [(15, vb (p2 == 1))] [] [] 7 [] (by kernel_rfl) ?_
  refine AW.co h (by kernel_rfl) (fun c4 h => ?_) (fun c4 h => ?_)
  ·
   obtain ⟨g5, g6, h⟩ := ifd h
   obtain ⟨g7, h⟩ := ifc h
   obtain ⟨z8, n9, h⟩ := bnd_some h
   replace n9 := some_inj n9
   refine AW.sd tt_ok1 mo1 [] [(6, vi64 z8)] [] 19 [hn, hn, hn, hq g5 g6, hn, hn, hn, hn, hq g5 g7] (by subst n9; kernel_rfl) ?_
   refine AW.ret (AW.inBlock_ret (AW.tr ?_))
   obtain rfl := some_inj h
   exact fn0 (.inr rfl) [] 0 (vi64 z8) (by kernel_rfl)
  ·
   refine AW.skip (AW.inBlock_normal (AW.tn ?_))
   refine AW.sg tt_ok1 [(6, vi64 0)] [] [] 8 [] (by kernel_rfl) ?_
   refine AW.ret ?_
   obtain rfl := some_inj h
   exact fn0 (.inr rfl) [] 0 (vi64 0) (by kernel_rfl)
/-! recordlink/recordlinkref25.Best -/
noncomputable def rl_ref25_Best_l1 (p0 : S_api_Weights) (y1 : List Int) (x10 : Int) (x11 : Int) : Option ((Int × Int) ⊕ Int) := if (decide (x11 < (y1.length : Int))) = true then (if 0 ≤ x11 then (if x11 < (y1.length : Int) then ((rl_ref25_Gain p0 x11 (y1.getD (0 + x11.toNat) 0)).bind fun y16 => (some (.inl (i64.wrap (x10 + (if y16 > 0 then y16 else 0)), i64.wrap (x11 + 1))))) else none) else none) else (some (.inr x10))
noncomputable def rl_ref25_Best (p0 : S_api_Weights) (p1 : Int) : Option (Int × Int) := bind2 (rl_ref25_digits p0 p1) fun y1 y2 => (if (y2 != 0) = true then (some (0, y2)) else (bind2 (rl_ref25_Score p0 p1) fun y5 y6 => ((loop (fun v : Int × Int => rl_ref25_Best_l1 p0 y1 v.1 v.2) (y5, 0)).bind fun x18 => (some (x18, 0)))))
set_option maxRecDepth 100000 in
theorem rl_ref25_Best_con (p0 : S_api_Weights) (p1 : Int) (r : Int × Int) (h : rl_ref25_Best p0 p1 = some r) : Con Try.prog 28 [.agg [ci64 p0.Prior, cl 1 Ri64 p0.Agree, cl 1 Ri64 p0.Differ], vi64 p1] [] (.tup [vi64 r.1, vi64 r.2]) [] := by
 refine con_of tt_ok1 0 Try.func28 (by kernel_rfl) rfl (by kernel_rfl) (fun base X _ => AW.post ?_)
 unfold rl_ref25_Best at h
 refine AW.sg tt_ok1 [(2, .c (.ptr 0 3 0 0))] [0] [(0, .box 40 [ci64 p0.Prior, cl 1 Ri64 p0.Agree, cl 1 Ri64 p0.Differ])] 3 [] (by kernel_rfl) ?_
 obtain ⟨y1, y2, e3, h⟩ := bind2_some h
 refine AW.sg tt_ok1 [(7, vi64 y2), (6, .c (.ref 5 1 0 y1.length))] [5] [(5, .row 3 false 1 y1.length (Ri64 y1))] 11 [hn, hn, hm [] [] 1 (rl_ref25_digits_con p0 p1 (y1, y2) e3) ⟨rowL_flat Vi64 _ _ _, tv⟩] (by kernel_rfl) ?_
 refine AW.seq ?_
 refine AW.sg tt_ok1 [(18, vb (y2 != 0))] [] [] 13 [] (by kernel_rfl) ?_
 refine AW.co h (by kernel_rfl) (fun c4 h => ?_) (fun c4 h => ?_)
 ·
  refine AW.sg tt_ok1 [(5, vi64 y2), (4, vi64 0)] [] [] 16 [] (by kernel_rfl) ?_
  refine AW.ret (AW.tr ?_)
  obtain rfl := some_inj h
  exact fn0 (.inr rfl) [] 0 (.tup [vi64 0, vi64 y2]) (by kernel_rfl)
 ·
  refine AW.skip (AW.tn ?_)
  obtain ⟨y5, y6, e7, h⟩ := bind2_some h
  refine AW.sg tt_ok1 [(8, vi64 y5)] [] [] 20 [hn, hn, hk (rl_ref25_Score_con p0 p1 (y5, y6) e7)] (by kernel_rfl) ?_
  refine AW.seq ?_
  refine AW.sg tt_ok1 [(10, vi64 0)] [] [] 21 [] (by kernel_rfl) ?_
  refine AW.block ?_
  obtain ⟨x18, l19, h⟩ := bnd_some h
  refine AW.lp l19 (fun v => ⟨[(2, .c (.ptr 0 3 0 0)), (6, .c (.ref 1 1 0 y1.length)), (8, vi64 v.1), (10, vi64 v.2)], [(0, .box 40 [ci64 p0.Prior, cl 1 Ri64 p0.Agree, cl 1 Ri64 p0.Differ]), (1, .row 3 false 1 y1.length (Ri64 y1))], 2⟩) (fun t : Int => (.exit 0, ⟨[(8, vi64 t)], [], 0⟩)) (conv_re [(0, 0), (1, 5)] (by kernel_rfl)) (fun _ => tv) ?_ ?_
  ·
   clear l19 h
   intro v o h
   obtain ⟨x10, x11⟩ := v
   replace h : rl_ref25_Best_l1 p0 y1 x10 x11 = some o := h
   unfold rl_ref25_Best_l1 at h
   refine AW.seq ?_
   refine AW.sg tt_ok1 [(29, vb (decide (x11 < (y1.length : Int))))] [] [] 6 [] (by kernel_rfl) ?_
   refine AW.co h (by kernel_rfl) (fun c13 h => ?_) (fun c13 h => ?_)
   ·
    refine AW.skip (AW.tn ?_)
    refine AW.seq (AW.block ?_)
    obtain ⟨g14, g15, h⟩ := ifd h
    obtain ⟨y16, e17, h⟩ := bnd_some h
    refine AW.rd tt_ok1 mo1 [] [(8, vi64 (i64.wrap (x10 + (if y16 > 0 then y16 else 0))))] [] 16 [hn, hn, hn, hn, hn, hq g14 g15, ho (p := (0 + x11.toNat) < y1.length) (by have h1 : 0 ≤ x11 := g14; have h2 : x11 < (y1.length : Int) := g15; omega), hk (rl_ref25_Gain_con p0 x11 (y1.getD (0 + x11.toNat) 0) y16 e17)] (by kernel_rfl) ?_
    refine AW.inBlock_normal (AW.tn ?_)
    refine AW.rg tt_ok1 [(10, vi64 (i64.wrap (x11 + 1)))] [] [] 19 [] (by kernel_rfl) ?_
    exact lpn h (conv_re [(0, 0), (1, 1)] (by kernel_rfl))
   ·
    refine AW.exit (AW.thenQ_exit ?_)
    exact lpo h rfl (conv_re [] (by kernel_rfl))
  ·
   show (_ : Exit → St → Prop) (.exit 0) _
   refine AW.inBlock_hit (AW.tn ?_)
   refine AW.sg tt_ok1 [(5, vi64 0), (4, vi64 x18)] [] [] 3 [] (by kernel_rfl) ?_
   refine AW.ret ?_
   obtain rfl := some_inj h
   exact fn0 (.inr rfl) [] 0 (.tup [vi64 x18, vi64 0]) (by kernel_rfl)
end Go.Proofs.Ytafmpnilgknfhaa
