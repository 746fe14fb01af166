/- Printed by a program of mine (vmgen.py): Go functions, and what they come to. -/
import Derived.Test.YtnfikddgjkfflaaVr
import Derived.Test.YtnfikddgjkfflaaRows
import Derived.Test.YtnfikddgjkfflaaG1
namespace Go.Proofs.Ytnfikddgjkfflaa
open Vm
open IntKind (i64 u64 u32 u8)
set_option maxHeartbeats 10000000
set_option linter.unusedVariables false
set_option linter.unusedSimpArgs false
set_option linter.constructorNameAsVariable false
def ttlL8 : List (Nat × TI) := [(3, ⟨.int .i64, 1, 8, [.int .i64 0]⟩), (4, ⟨.bool, 1, 1, [.bool false]⟩), (5, ⟨.int .u8, 1, 1, [.int .u8 0]⟩), (9, ⟨.str, 1, 16, [.string ⟨#[]⟩]⟩), (22, ⟨.slice 3, 1, 24, [.slice none 0 0]⟩), (25, ⟨.ptr 55, 1, 8, [.pointer none]⟩), (27, ⟨.slice 52, 1, 24, [.slice none 0 0]⟩), (28, ⟨.slice 52, 1, 24, [.slice none 0 0]⟩), (30, ⟨.struct [(28, 0), (28, 1)], 2, 48, [.slice none 0 0, .slice none 0 0]⟩), (32, ⟨.int .i64, 1, 8, [.int .i64 0]⟩), (41, ⟨.int .u16, 1, 2, [.int .u16 0]⟩), (48, ⟨.arr 2 3, 2, 16, [.int .i64 0, .int .i64 0]⟩), (49, ⟨.slice 48, 1, 24, [.slice none 0 0]⟩), (50, ⟨.slice 30, 1, 24, [.slice none 0 0]⟩), (52, ⟨.int .u32, 1, 4, [.int .u32 0]⟩), (53, ⟨.int .u64, 1, 8, [.int .u64 0]⟩), (55, ⟨.struct [(22, 0), (3, 1), (53, 2)], 3, 40, [.slice none 0 0, .int .i64 0, .int .u64 0]⟩), (62, ⟨.struct [(28, 0), (32, 1)], 2, 32, [.slice none 0 0, .int .i64 0]⟩), (81, ⟨.slice 62, 1, 24, [.slice none 0 0]⟩)]
theorem tt_okL8 : TTok Try.prog (Vm.look ttlL8) := ttok_of ⟨⟨by kernel_rfl, by kernel_rfl⟩, ⟨by kernel_rfl, by kernel_rfl⟩, ⟨by kernel_rfl, by kernel_rfl⟩, ⟨by kernel_rfl, by kernel_rfl⟩, ⟨by kernel_rfl, by kernel_rfl⟩, ⟨by kernel_rfl, by kernel_rfl⟩, ⟨by kernel_rfl, by kernel_rfl⟩, ⟨by kernel_rfl, by kernel_rfl⟩, ⟨by kernel_rfl, by kernel_rfl⟩, ⟨by kernel_rfl, by kernel_rfl⟩, ⟨by kernel_rfl, by kernel_rfl⟩, ⟨by kernel_rfl, by kernel_rfl⟩, ⟨by kernel_rfl, by kernel_rfl⟩, ⟨by kernel_rfl, by kernel_rfl⟩, ⟨by kernel_rfl, by kernel_rfl⟩, ⟨by kernel_rfl, by kernel_rfl⟩, ⟨by kernel_rfl, by kernel_rfl⟩, ⟨by kernel_rfl, by kernel_rfl⟩, ⟨by kernel_rfl, by kernel_rfl⟩, trivial⟩
theorem moL8 : Try.prog.follows .mixedOrders = true := by kernel_rfl
/-! recordlink/recordlinklaw11.RationalExact -/
noncomputable def rl_law11_RationalExact_k3 (x14 : Int) (x24 : Bool) : Option (Int ⊕ (Unit ⊕ Unit)) := if x24 = true then (some (.inr (.inr ()))) else (some (.inl (i64.wrap (x14 + 1))))
noncomputable def rl_law11_RationalExact_l2 (p3 : Int) (p4 : Int) (y7 : Int) (y10 : Int) (x14 : Int) : Option (Int ⊕ (Unit ⊕ Unit)) := if (decide (x14 < ((([[p3, p4], [y7, y10]] : List (List Int)).length : Nat) : Int))) = true then (if 0 ≤ x14 then (if x14 < ((([[p3, p4], [y7, y10]] : List (List Int)).length : Nat) : Int) then (bind2 (rational_Of ((([[p3, p4], [y7, y10]] : List (List Int)).getD (0 + x14.toNat) (List.replicate 2 (0 : Int))).getD 0 0) ((([[p3, p4], [y7, y10]] : List (List Int)).getD (0 + x14.toNat) (List.replicate 2 (0 : Int))).getD 1 0)) fun y18 y19 => (bind2 (rl_ref11_Of ((([[p3, p4], [y7, y10]] : List (List Int)).getD (0 + x14.toNat) (List.replicate 2 (0 : Int))).getD 0 0) ((([[p3, p4], [y7, y10]] : List (List Int)).getD (0 + x14.toNat) (List.replicate 2 (0 : Int))).getD 1 0)) fun y21 y22 => (if (y19 != y22) = true then (rl_law11_RationalExact_k3 x14 true) else ((rl_ref11_Same y18 y21).bind fun y27 => (rl_law11_RationalExact_k3 x14 (!y27)))))) else none) else none) else (some (.inr (.inl ())))
noncomputable def rl_law11_RationalExact_l6 (p1 : S_api_Rational) (p2 : S_api_Rational) (y32 : S_api_Rational) (y37 : S_api_Rational) (x44 : Int) (y51 : S_api_Rational) (x55 : Int) : Option (Int ⊕ (Unit ⊕ Unit)) := if (decide (x55 < ((([p2, y51, (([p1, y37, y32] : List S_api_Rational).getD (0 + x44.toNat) dS_api_Rational)] : List S_api_Rational).length : Nat) : Int))) = true then (if 0 ≤ x55 then (if x55 < ((([p2, y51, (([p1, y37, y32] : List S_api_Rational).getD (0 + x44.toNat) dS_api_Rational)] : List S_api_Rational).length : Nat) : Int) then ((rl_law11_two (([p1, y37, y32] : List S_api_Rational).getD (0 + x44.toNat) dS_api_Rational) (([p2, y51, (([p1, y37, y32] : List S_api_Rational).getD (0 + x44.toNat) dS_api_Rational)] : List S_api_Rational).getD (0 + x55.toNat) dS_api_Rational)).bind fun y59 => (if (!y59) = true then (some (.inr (.inr ()))) else (some (.inl (i64.wrap (x55 + 1)))))) else none) else none) else (some (.inr (.inl ())))
noncomputable def rl_law11_RationalExact_k8 (x63 : Int) (x73 : Bool) : Option (Int ⊕ (Unit ⊕ Unit)) := if x73 = true then (some (.inr (.inr ()))) else (some (.inl (i64.wrap (x63 + 1))))
noncomputable def rl_law11_RationalExact_l7 (p1 : S_api_Rational) (p5 : Int) (y32 : S_api_Rational) (y37 : S_api_Rational) (x44 : Int) (x63 : Int) : Option (Int ⊕ (Unit ⊕ Unit)) := if (decide (x63 < ((([p5, 1, 1000, 4294967296, 4294967297] : List Int).length : Nat) : Int))) = true then (if 0 ≤ x63 then (if x63 < ((([p5, 1, 1000, 4294967296, 4294967297] : List Int).length : Nat) : Int) then (bind2 (rational_Round (([p1, y37, y32] : List S_api_Rational).getD (0 + x44.toNat) dS_api_Rational) (([p5, 1, 1000, 4294967296, 4294967297] : List Int).getD (0 + x63.toNat) 0)) fun y67 y68 => (bind2 (rl_ref11_Round (([p1, y37, y32] : List S_api_Rational).getD (0 + x44.toNat) dS_api_Rational) (([p5, 1, 1000, 4294967296, 4294967297] : List Int).getD (0 + x63.toNat) 0)) fun y70 y71 => (if (y67 != y70) = true then (rl_law11_RationalExact_k8 x63 true) else (rl_law11_RationalExact_k8 x63 (y68 != y71))))) else none) else none) else (some (.inr (.inl ())))
noncomputable def rl_law11_RationalExact_a9 (p1 : S_api_Rational) (y32 : S_api_Rational) (y37 : S_api_Rational) (x44 : Int) (y52 : S_recordlinkmake_Deck) : Option ((Int × (List Int) × Int × Int) ⊕ (Unit ⊕ Unit)) := (rational_Valid (([p1, y37, y32] : List S_api_Rational).getD (0 + x44.toNat) dS_api_Rational)).bind fun y76 => ((rl_ref11_Valid (([p1, y37, y32] : List S_api_Rational).getD (0 + x44.toNat) dS_api_Rational)).bind fun y78 => (if (!(y76 == y78)) = true then (some (.inr (.inr ()))) else (some (.inl (i64.wrap (x44 + 1), y52.list, y52.at_, y52.state)))))
noncomputable def rl_law11_RationalExact_a10 : Option ((Int × (List Int) × Int × Int) ⊕ (Unit ⊕ Unit)) := some (.inr (.inr ()))
noncomputable def rl_law11_RationalExact_a11 (p1 : S_api_Rational) (p5 : Int) (y32 : S_api_Rational) (y37 : S_api_Rational) (x44 : Int) (y52 : S_recordlinkmake_Deck) : Option ((Int × (List Int) × Int × Int) ⊕ (Unit ⊕ Unit)) := bindE (loop (fun v : Int => rl_law11_RationalExact_l7 p1 p5 y32 y37 x44 v) 0) (fun t => rl_law11_RationalExact_a9 p1 y32 y37 x44 y52) (fun t => rl_law11_RationalExact_a10)
noncomputable def rl_law11_RationalExact_a12 : Option ((Int × (List Int) × Int × Int) ⊕ (Unit ⊕ Unit)) := some (.inr (.inr ()))
noncomputable def rl_law11_RationalExact_l5 (p1 : S_api_Rational) (p2 : S_api_Rational) (p5 : Int) (y32 : S_api_Rational) (y37 : S_api_Rational) (x44 : Int) (x45 : List Int) (x46 : Int) (x47 : Int) : Option ((Int × (List Int) × Int × Int) ⊕ (Unit ⊕ Unit)) := if (decide (x44 < ((([p1, y37, y32] : List S_api_Rational).length : Nat) : Int))) = true then (if 0 ≤ x44 then (if x44 < ((([p1, y37, y32] : List S_api_Rational).length : Nat) : Int) then (bind2 (rl_make_Deck_Rational (⟨x45, x46, x47⟩ : S_recordlinkmake_Deck) 3) fun y51 y52 => (bindE (loop (fun v : Int => rl_law11_RationalExact_l6 p1 p2 y32 y37 x44 y51 v) 0) (fun t => rl_law11_RationalExact_a11 p1 p5 y32 y37 x44 y52) (fun t => rl_law11_RationalExact_a12))) else none) else none) else (some (.inr (.inl ())))
noncomputable def rl_law11_RationalExact_a13 : Option Bool := some true
noncomputable def rl_law11_RationalExact_a14 : Option Bool := some false
noncomputable def rl_law11_RationalExact_k4 (p1 : S_api_Rational) (p2 : S_api_Rational) (p5 : Int) (y11 : S_recordlinkmake_Deck) (y32 : S_api_Rational) (x35 : Bool) : Option Bool := if x35 = true then (some false) else (bind2 (rl_make_Deck_Rational y11 4) fun y37 y38 => (bindE (loop (fun v : Int × (List Int) × Int × Int => rl_law11_RationalExact_l5 p1 p2 p5 y32 y37 v.1 v.2.1 v.2.2.1 v.2.2.2) (0, y38.list, y38.at_, y38.state)) (fun t => rl_law11_RationalExact_a13) (fun t => rl_law11_RationalExact_a14)))
noncomputable def rl_law11_RationalExact_a15 (p1 : S_api_Rational) (p2 : S_api_Rational) (p5 : Int) (y11 : S_recordlinkmake_Deck) : Option Bool := bind2 (rational_Make p1.Num p1.Den) fun y29 y30 => (bind2 (rl_ref11_Make p1.Num p1.Den) fun y32 y33 => (if (y30 != y33) = true then (rl_law11_RationalExact_k4 p1 p2 p5 y11 y32 true) else ((rl_ref11_Same y29 y32).bind fun y85 => (rl_law11_RationalExact_k4 p1 p2 p5 y11 y32 (!y85)))))
noncomputable def rl_law11_RationalExact_a16 : Option Bool := some false
noncomputable def rl_law11_RationalExact_k1 (p0 : List Int) (p1 : S_api_Rational) (p2 : S_api_Rational) (p3 : Int) (p4 : Int) (p5 : Int) (x1 : Bool) : Option Bool := if x1 = true then ((rl_law11_awake).bind fun y3 => (some y3)) else ((rl_make_New p0).bind fun y5 => (bind2 (rl_make_Deck_Next y5 100) fun y7 y8 => (bind2 (rl_make_Deck_Next y8 30) fun y10 y11 => (bindE (loop (fun v : Int => rl_law11_RationalExact_l2 p3 p4 y7 y10 v) 0) (fun t => rl_law11_RationalExact_a15 p1 p2 p5 y11) (fun t => rl_law11_RationalExact_a16)))))
noncomputable def rl_law11_RationalExact (p0 : List Int) (p1 : S_api_Rational) (p2 : S_api_Rational) (p3 : Int) (p4 : Int) (p5 : Int) : Option Bool := (rl_law11_awake).bind fun y88 => (if (!y88) = true then (rl_law11_RationalExact_k1 p0 p1 p2 p3 p4 p5 true) else ((rl_make_Few p0).bind fun y91 => (if (!y91) = true then (rl_law11_RationalExact_k1 p0 p1 p2 p3 p4 p5 true) else (rl_law11_RationalExact_k1 p0 p1 p2 p3 p4 p5 (decide ((i64.wrap ((i64.wrap ((i64.wrap (((p1.Num.length : Nat) : Int) + ((p1.Den.length : Nat) : Int))) + ((p2.Num.length : Nat) : Int))) + ((p2.Den.length : Nat) : Int))) > 24))))))
set_option maxRecDepth 100000 in
theorem rl_law11_RationalExact_con (p0 : List Int) (p1 : S_api_Rational) (p2 : S_api_Rational) (p3 : Int) (p4 : Int) (p5 : Int) (r : Bool) (h : rl_law11_RationalExact p0 p1 p2 p3 p4 p5 = some r) : Con Try.prog 8 [vl 1 Ri64 p0, .agg [cl 1 Ru32 p1.Num, cl 1 Ru32 p1.Den], .agg [cl 1 Ru32 p2.Num, cl 1 Ru32 p2.Den], vi64 p3, vi64 p4, vi64 p5] [] (vb r) [] := by
 refine con_of tt_okL8 0 Try.func8 (by kernel_rfl) rfl (by kernel_rfl) (fun base X _ => AW.post ?_)
 unfold rl_law11_RationalExact at h
 refine AW.sg tt_okL8 [(8, .c (.ptr 1 2 0 0)), (7, .c (.ptr 0 2 0 0))] [0, 1] [(1, .box 30 [cl 1 Ru32 p2.Num, cl 1 Ru32 p2.Den]), (0, .box 30 [cl 1 Ru32 p1.Num, cl 1 Ru32 p1.Den])] 3 [] (by kernel_rfl) ?_
 refine AW.seq (AW.seq ?_)
 refine AW.join (ι := Bool) (fun v => ⟨[(0, vl 1 Ri64 p0), (3, vi64 p3), (4, vi64 p4), (5, vi64 p5), (7, .c (.ptr 0 2 0 0)), (8, .c (.ptr 1 2 0 0)), (58, vb v)], [(0, .box 30 [cl 1 Ru32 p1.Num, cl 1 Ru32 p1.Den]), (1, .box 30 [cl 1 Ru32 p2.Num, cl 1 Ru32 p2.Den])], 2⟩) (fun v : Bool => rl_law11_RationalExact_k1 p0 p1 p2 p3 p4 p5 v = some r) (fun x1 h => ?_) ?_
 ·
  unfold rl_law11_RationalExact_k1 at h
  refine AW.tn ?_
  refine AW.co h (by kernel_rfl) (fun c2 h => ?_) (fun c2 h => ?_)
  ·
   obtain ⟨y3, e4, h⟩ := bnd_some h
   refine AW.sg tt_okL8 [(12, vb y3)] [] [] 3 [hk (rl_law11_awake_con y3 e4)] (by kernel_rfl) ?_
   refine AW.ret (AW.tr ?_)
   obtain rfl := some_inj h
   exact fn0 (.inr rfl) [] 0 (vb y3) (by kernel_rfl)
  ·
   refine AW.skip (AW.tn ?_)
   obtain ⟨y5, e6, h⟩ := bnd_some h
   refine AW.sg tt_okL8 [(13, .c (.ptr 3 3 0 0))] [3] [(3, .box 55 [cl 1 Ri64 y5.list, ci64 y5.at_, cu64 y5.state])] 5 [hn, hl [] [] 1 (rl_make_New_con p0 y5 e6)] (by kernel_rfl) ?_
   refine AW.seq ?_
   obtain ⟨y7, y8, e9, h⟩ := bind2_some h
   obtain ⟨y10, y11, e12, h⟩ := bind2_some h
   refine AW.sg tt_okL8 [(72, vi64 0), (71, vi64 ((([[p3, p4], [y7, y10]] : List (List Int)).length : Nat) : Int)), (70, .c (.ref 11 2 0 (([[p3, p4], [y7, y10]] : List (List Int)).length)))] [3, 11] [(11, .row 48 false 2 ([[p3, p4], [y7, y10]] : List (List Int)).length (Ra2i64 ([[p3, p4], [y7, y10]] : List (List Int)))), (3, .box 55 [cl 1 Ri64 y11.list, ci64 y11.at_, cu64 y11.state])] 14 [hn, hn, hn, hn, hl [3] [] 0 (rl_make_Deck_Next_con y5 100 (y7, y8) e9), hn, hl [3] [] 0 (rl_make_Deck_Next_con y8 30 (y10, y11) e12), hn, hlit (List.replicate 2 (0 : Int)) Ea2i64 2 (fun _ => rfl) ([[p3, p4], [y7, y10]] : List (List Int))] (by kernel_rfl) ?_
   refine AW.block ?_
   refine AW.lpE h (fun v => ⟨[(5, vi64 p5), (7, .c (.ptr 0 2 0 0)), (8, .c (.ptr 1 2 0 0)), (13, .c (.ptr 2 3 0 0)), (70, .c (.ref 3 2 0 (([[p3, p4], [y7, y10]] : List (List Int)).length))), (71, vi64 ((([[p3, p4], [y7, y10]] : List (List Int)).length : Nat) : Int)), (72, vi64 v)], [(0, .box 30 [cl 1 Ru32 p1.Num, cl 1 Ru32 p1.Den]), (1, .box 30 [cl 1 Ru32 p2.Num, cl 1 Ru32 p2.Den]), (2, .box 55 [cl 1 Ri64 y11.list, ci64 y11.at_, cu64 y11.state]), (3, .row 48 false 2 ([[p3, p4], [y7, y10]] : List (List Int)).length (Ra2i64 ([[p3, p4], [y7, y10]] : List (List Int))))], 4⟩) (fun t => (.exit 0, ⟨[(5, vi64 p5), (7, .c (.ptr 0 2 0 0)), (8, .c (.ptr 1 2 0 0)), (13, .c (.ptr 2 3 0 0))], [(0, .box 30 [cl 1 Ru32 p1.Num, cl 1 Ru32 p1.Den]), (1, .box 30 [cl 1 Ru32 p2.Num, cl 1 Ru32 p2.Den]), (2, .box 55 [cl 1 Ri64 y11.list, ci64 y11.at_, cu64 y11.state])], 3⟩)) (fun t => (.ret, ⟨[(12, vb false)], [], 0⟩)) (conv_re [(0, 0), (1, 1), (2, 3), (3, 11)] (by kernel_rfl)) (fun _ => tv) (fun _ => tv) ?_ (fun t h => ?_) (fun t h => ?_)
   ·
    clear h
    intro x14 o h
    unfold rl_law11_RationalExact_l2 at h
    refine AW.sg tt_okL8 [(73, vb (decide (x14 < ((([[p3, p4], [y7, y10]] : List (List Int)).length : Nat) : Int))))] [] [] 5 [] (by kernel_rfl) ?_
    refine AW.seq ?_
    refine AW.co h (by kernel_rfl) (fun c15 h => ?_) (fun c15 h => ?_)
    ·
     refine AW.skip (AW.tn ?_)
     refine AW.seq (AW.block ?_)
     obtain ⟨g16, g17, h⟩ := ifd h
     refine AW.sg tt_okL8 [(15, .c (.ptr 7 1 0 0))] [7] [(7, .row 48 false 1 2 (Ri64 (([[p3, p4], [y7, y10]] : List (List Int)).getD (0 + x14.toNat) (List.replicate 2 (0 : Int)))))] 9 [hq g16 g17, ho (p := (0 + x14.toNat) < ([[p3, p4], [y7, y10]] : List (List Int)).length) (by have h1 : 0 ≤ x14 := g16; have h2 : x14 < ((([[p3, p4], [y7, y10]] : List (List Int)).length : Nat) : Int) := g17; omega), hr 2 (Ri64 ([0, 0] : List Int)) (p := 2 = 2 ∧ ∀ i, i < 2 → ∀ j, j < 1 → TLe (rowOf [.v (.int .i64 0), .v (.int .i64 0)] 1 i j) (Ri64 ([0, 0] : List Int) i j)) (⟨rfl, fun i hi j hj => match i, hi, j, hj with | 0, _, 0, _ => TLe.refl _ | 1, _, 0, _ => TLe.refl _ | _ + 2, h, _, _ => absurd h (by omega) | _, _, _ + 1, h => absurd h (by omega)⟩), hr 2 (Ri64 (([[p3, p4], [y7, y10]] : List (List Int)).getD (0 + x14.toNat) (List.replicate 2 (0 : Int)))) (p := 2 = 2 ∧ ∀ i, i < 2 → ∀ j, j < 1 → TLe (rowOf [.v (.int .i64 ((([[p3, p4], [y7, y10]] : List (List Int)).getD (0 + x14.toNat) (List.replicate 2 (0 : Int))).getD 0 0)), .v (.int .i64 ((([[p3, p4], [y7, y10]] : List (List Int)).getD (0 + x14.toNat) (List.replicate 2 (0 : Int))).getD 1 0))] 1 i j) (Ri64 (([[p3, p4], [y7, y10]] : List (List Int)).getD (0 + x14.toNat) (List.replicate 2 (0 : Int))) i j)) (⟨rfl, fun i hi j hj => match i, hi, j, hj with | 0, _, 0, _ => TLe.refl _ | 1, _, 0, _ => TLe.refl _ | _ + 2, h, _, _ => absurd h (by omega) | _, _, _ + 1, h => absurd h (by omega)⟩)] (by kernel_rfl) ?_
     obtain ⟨y18, y19, e20, h⟩ := bind2_some h
     refine AW.sg tt_okL8 [(17, vi64 y19), (16, .c (.ptr 16 2 0 0))] [16] [(16, .box 30 [cl 1 Ru32 y18.Num, cl 1 Ru32 y18.Den])] 19 [ho (p := (0 ≤ (0 : Int)) ∧ ((0 : Int) < ((2 : Nat) : Int))) (⟨(by decide), (by decide)⟩), ho (p := 0 < 2) (by decide), ho (p := (0 ≤ (1 : Int)) ∧ ((1 : Int) < ((2 : Nat) : Int))) (⟨(by decide), (by decide)⟩), ho (p := 1 < 2) (by decide), hk (rational_Of_con ((([[p3, p4], [y7, y10]] : List (List Int)).getD (0 + x14.toNat) (List.replicate 2 (0 : Int))).getD 0 0) ((([[p3, p4], [y7, y10]] : List (List Int)).getD (0 + x14.toNat) (List.replicate 2 (0 : Int))).getD 1 0) (y18, y19) e20)] (by kernel_rfl) ?_
     obtain ⟨y21, y22, e23, h⟩ := bind2_some h
     refine AW.sg tt_okL8 [(19, vi64 y22), (18, .c (.ptr 26 2 0 0))] [26] [(26, .box 30 [cl 1 Ru32 y21.Num, cl 1 Ru32 y21.Den])] 29 [ho (p := (0 ≤ (0 : Int)) ∧ ((0 : Int) < ((2 : Nat) : Int))) (⟨(by decide), (by decide)⟩), ho (p := 0 < 2) (by decide), ho (p := (0 ≤ (1 : Int)) ∧ ((1 : Int) < ((2 : Nat) : Int))) (⟨(by decide), (by decide)⟩), ho (p := 1 < 2) (by decide), hk (rl_ref11_Of_con ((([[p3, p4], [y7, y10]] : List (List Int)).getD (0 + x14.toNat) (List.replicate 2 (0 : Int))).getD 0 0) ((([[p3, p4], [y7, y10]] : List (List Int)).getD (0 + x14.toNat) (List.replicate 2 (0 : Int))).getD 1 0) (y21, y22) e23)] (by kernel_rfl) ?_
     refine AW.seq ?_
     refine AW.join (ι := Bool) (fun v => ⟨[(5, vi64 p5), (7, .c (.ptr 0 2 0 0)), (8, .c (.ptr 1 2 0 0)), (13, .c (.ptr 2 3 0 0)), (70, .c (.ref 3 2 0 (([[p3, p4], [y7, y10]] : List (List Int)).length))), (71, vi64 ((([[p3, p4], [y7, y10]] : List (List Int)).length : Nat) : Int)), (72, vi64 x14), (100, vb v)], [(0, .box 30 [cl 1 Ru32 p1.Num, cl 1 Ru32 p1.Den]), (1, .box 30 [cl 1 Ru32 p2.Num, cl 1 Ru32 p2.Den]), (2, .box 55 [cl 1 Ri64 y11.list, ci64 y11.at_, cu64 y11.state]), (3, .row 48 false 2 ([[p3, p4], [y7, y10]] : List (List Int)).length (Ra2i64 ([[p3, p4], [y7, y10]] : List (List Int))))], 4⟩) (fun v : Bool => rl_law11_RationalExact_k3 x14 v = some o) (fun x24 h => ?_) ?_
     ·
      unfold rl_law11_RationalExact_k3 at h
      refine AW.tn ?_
      refine AW.co h (by kernel_rfl) (fun c25 h => ?_) (fun c25 h => ?_)
      ·
       refine AW.sg tt_okL8 [(12, vb false)] [] [] 5 [] (by kernel_rfl) ?_
       refine AW.ret (AW.inBlock_ret (AW.tr ?_))
       exact lpo h rfl (conv_re [] (by kernel_rfl))
      ·
       refine AW.skip (AW.inBlock_normal (AW.tn ?_))
       refine AW.rg tt_okL8 [(72, vi64 (i64.wrap (x14 + 1)))] [] [] 6 [] (by kernel_rfl) ?_
       exact lpn h (conv_re [(0, 0), (1, 1), (2, 2), (3, 3)] (by kernel_rfl))
     ·
      rcases ifs h with ⟨c26, h⟩ | ⟨c26, h⟩
      ·
       refine AW.rg tt_okL8 [(100, vb true)] [] [] 38 [hn, hn, ht c26] (by kernel_rfl) ?_
       exact jl true h (conv_re [(0, 0), (1, 1), (2, 2), (3, 3)] (by kernel_rfl))
      ·
       obtain ⟨y27, e28, h⟩ := bnd_some h
       refine AW.rg tt_okL8 [(100, vb (!y27))] [] [] 37 [hn, hn, hf c26, hn, hn, hn, hk (rl_ref11_Same_con y18 y21 y27 e28)] (by kernel_rfl) ?_
       exact jl (!y27) h (conv_re [(0, 0), (1, 1), (2, 2), (3, 3)] (by kernel_rfl))
    ·
     refine AW.exit (AW.thenQ_exit ?_)
     exact lpo h rfl (conv_re [(0, 0), (1, 1), (2, 2)] (by kernel_rfl))
   ·
    replace h : rl_law11_RationalExact_a15 p1 p2 p5 y11 = some r := h
    unfold rl_law11_RationalExact_a15 at h
    show (_ : Exit → St → Prop) (.exit 0) _
    refine AW.inBlock_hit (AW.tn ?_)
    obtain ⟨y29, y30, e31, h⟩ := bind2_some h
    refine AW.sg tt_okL8 [(21, vi64 y30), (20, .c (.ptr 10 2 0 0))] [10] [(10, .box 30 [cl 1 Ru32 y29.Num, cl 1 Ru32 y29.Den])] 13 [hn, hn, hn, hn, hk (rational_Make_con p1.Num p1.Den (y29, y30) e31)] (by kernel_rfl) ?_
    obtain ⟨y32, y33, e34, h⟩ := bind2_some h
    refine AW.sg tt_okL8 [(23, vi64 y33), (22, .c (.ptr 20 2 0 0))] [20] [(20, .box 30 [cl 1 Ru32 y32.Num, cl 1 Ru32 y32.Den])] 23 [hn, hn, hn, hn, hk (rl_ref11_Make_con p1.Num p1.Den (y32, y33) e34)] (by kernel_rfl) ?_
    refine AW.seq (AW.seq ?_)
    refine AW.join (ι := Bool) (fun v => ⟨[(5, vi64 p5), (7, .c (.ptr 0 2 0 0)), (8, .c (.ptr 1 2 0 0)), (13, .c (.ptr 2 3 0 0)), (22, .c (.ptr 3 2 0 0)), (126, vb v)], [(0, .box 30 [cl 1 Ru32 p1.Num, cl 1 Ru32 p1.Den]), (1, .box 30 [cl 1 Ru32 p2.Num, cl 1 Ru32 p2.Den]), (2, .box 55 [cl 1 Ri64 y11.list, ci64 y11.at_, cu64 y11.state]), (3, .box 30 [cl 1 Ru32 y32.Num, cl 1 Ru32 y32.Den])], 4⟩) (fun v : Bool => rl_law11_RationalExact_k4 p1 p2 p5 y11 y32 v = some r) (fun x35 h => ?_) ?_
    ·
     unfold rl_law11_RationalExact_k4 at h
     refine AW.tn ?_
     refine AW.co h (by kernel_rfl) (fun c36 h => ?_) (fun c36 h => ?_)
     ·
      refine AW.sg tt_okL8 [(12, vb false)] [] [] 5 [] (by kernel_rfl) ?_
      refine AW.ret (AW.tr ?_)
      obtain rfl := some_inj h
      exact fn0 (.inr rfl) [] 0 (vb false) (by kernel_rfl)
     ·
      refine AW.skip (AW.tn (AW.seq ?_))
      obtain ⟨y37, y38, e39, h⟩ := bind2_some h
      refine AW.sd tt_okL8 moL8 [[], [], [2], [], [7]] [(133, vi64 0), (132, vi64 ((([p1, y37, y32] : List S_api_Rational).length : Nat) : Int)), (131, .c (.ref 7 2 0 (([p1, y37, y32] : List S_api_Rational).length)))] [(7, .row 30 false 2 ([p1, y37, y32] : List S_api_Rational).length (RS_api_Rational ([p1, y37, y32] : List S_api_Rational))), (2, .box 55 [cl 1 Ri64 y38.list, ci64 y38.at_, cu64 y38.state])] 10 [hn, hn, hl [2] [] 0 (rl_make_Deck_Rational_con y11 4 (y37, y38) e39), hn, hlit dS_api_Rational ES_api_Rational 2 (fun _ => rfl) ([p1, y37, y32] : List S_api_Rational)] (by kernel_rfl) ?_
      refine AW.block ?_
      refine AW.lpE h (fun v => ⟨[(5, vi64 p5), (8, .c (.ptr 0 2 0 0)), (13, .c (.ptr 1 3 0 0)), (131, .c (.ref 2 2 0 (([p1, y37, y32] : List S_api_Rational).length))), (132, vi64 ((([p1, y37, y32] : List S_api_Rational).length : Nat) : Int)), (133, vi64 v.1)], [(0, .box 30 [cl 1 Ru32 p2.Num, cl 1 Ru32 p2.Den]), (1, .box 55 [cl 1 Ri64 v.2.1, ci64 v.2.2.1, cu64 v.2.2.2]), (2, .row 30 false 2 ([p1, y37, y32] : List S_api_Rational).length (RS_api_Rational ([p1, y37, y32] : List S_api_Rational)))], 3⟩) (fun t => (.exit 2, ⟨[], [], 0⟩)) (fun t => (.ret, ⟨[(12, vb false)], [], 0⟩)) (conv_re [(0, 1), (1, 2), (2, 7)] (by kernel_rfl)) (fun _ => tv) (fun _ => tv) ?_ (fun t h => ?_) (fun t h => ?_)
      ·
       clear h
       intro v o h
       obtain ⟨x44, x45, x46, x47⟩ := v
       replace h : rl_law11_RationalExact_l5 p1 p2 p5 y32 y37 x44 x45 x46 x47 = some o := h
       unfold rl_law11_RationalExact_l5 at h
       refine AW.sg tt_okL8 [(134, vb (decide (x44 < ((([p1, y37, y32] : List S_api_Rational).length : Nat) : Int))))] [] [] 4 [] (by kernel_rfl) ?_
       refine AW.seq ?_
       refine AW.co h (by kernel_rfl) (fun c48 h => ?_) (fun c48 h => ?_)
       ·
        refine AW.skip (AW.tn ?_)
        refine AW.seq (AW.block ?_)
        obtain ⟨g49, g50, h⟩ := ifd h
        refine AW.sg tt_okL8 [(25, .c (.ptr 6 2 0 0))] [6] [(6, .box 30 [cl 1 Ru32 ((([p1, y37, y32] : List S_api_Rational).getD (0 + x44.toNat) dS_api_Rational).Num), cl 1 Ru32 ((([p1, y37, y32] : List S_api_Rational).getD (0 + x44.toNat) dS_api_Rational).Den)])] 8 [hq g49 g50, ho (p := (0 + x44.toNat) < ([p1, y37, y32] : List S_api_Rational).length) (by have h1 : 0 ≤ x44 := g49; have h2 : x44 < ((([p1, y37, y32] : List S_api_Rational).length : Nat) : Int) := g50; omega)] (by kernel_rfl) ?_
        refine AW.seq ?_
        obtain ⟨y51, y52, e53, h⟩ := bind2_some h
        refine AW.sd tt_okL8 moL8 [[], [], [1], [], [11]] [(143, vi64 0), (142, vi64 ((([p2, y51, (([p1, y37, y32] : List S_api_Rational).getD (0 + x44.toNat) dS_api_Rational)] : List S_api_Rational).length : Nat) : Int)), (141, .c (.ref 11 2 0 (([p2, y51, (([p1, y37, y32] : List S_api_Rational).getD (0 + x44.toNat) dS_api_Rational)] : List S_api_Rational).length)))] [(11, .row 30 false 2 ([p2, y51, (([p1, y37, y32] : List S_api_Rational).getD (0 + x44.toNat) dS_api_Rational)] : List S_api_Rational).length (RS_api_Rational ([p2, y51, (([p1, y37, y32] : List S_api_Rational).getD (0 + x44.toNat) dS_api_Rational)] : List S_api_Rational))), (1, .box 55 [cl 1 Ri64 y52.list, ci64 y52.at_, cu64 y52.state])] 14 [hn, hn, hl [1] [] 0 (rl_make_Deck_Rational_con (⟨x45, x46, x47⟩ : S_recordlinkmake_Deck) 3 (y51, y52) e53), hn, hlit dS_api_Rational ES_api_Rational 2 (fun _ => rfl) ([p2, y51, (([p1, y37, y32] : List S_api_Rational).getD (0 + x44.toNat) dS_api_Rational)] : List S_api_Rational)] (by kernel_rfl) ?_
        refine AW.block ?_
        refine AW.lpE h (fun v => ⟨[(5, vi64 p5), (8, .c (.ptr 0 2 0 0)), (13, .c (.ptr 1 3 0 0)), (25, .c (.ptr 2 2 0 0)), (131, .c (.ref 3 2 0 (([p1, y37, y32] : List S_api_Rational).length))), (132, vi64 ((([p1, y37, y32] : List S_api_Rational).length : Nat) : Int)), (133, vi64 x44), (141, .c (.ref 4 2 0 (([p2, y51, (([p1, y37, y32] : List S_api_Rational).getD (0 + x44.toNat) dS_api_Rational)] : List S_api_Rational).length))), (142, vi64 ((([p2, y51, (([p1, y37, y32] : List S_api_Rational).getD (0 + x44.toNat) dS_api_Rational)] : List S_api_Rational).length : Nat) : Int)), (143, vi64 v)], [(0, .box 30 [cl 1 Ru32 p2.Num, cl 1 Ru32 p2.Den]), (1, .box 55 [cl 1 Ri64 y52.list, ci64 y52.at_, cu64 y52.state]), (2, .box 30 [cl 1 Ru32 ((([p1, y37, y32] : List S_api_Rational).getD (0 + x44.toNat) dS_api_Rational).Num), cl 1 Ru32 ((([p1, y37, y32] : List S_api_Rational).getD (0 + x44.toNat) dS_api_Rational).Den)]), (3, .row 30 false 2 ([p1, y37, y32] : List S_api_Rational).length (RS_api_Rational ([p1, y37, y32] : List S_api_Rational))), (4, .row 30 false 2 ([p2, y51, (([p1, y37, y32] : List S_api_Rational).getD (0 + x44.toNat) dS_api_Rational)] : List S_api_Rational).length (RS_api_Rational ([p2, y51, (([p1, y37, y32] : List S_api_Rational).getD (0 + x44.toNat) dS_api_Rational)] : List S_api_Rational)))], 5⟩) (fun t => (.exit 4, ⟨[(5, vi64 p5), (8, .c (.ptr 0 2 0 0)), (13, .c (.ptr 1 3 0 0)), (25, .c (.ptr 2 2 0 0)), (131, .c (.ref 3 2 0 (([p1, y37, y32] : List S_api_Rational).length))), (132, vi64 ((([p1, y37, y32] : List S_api_Rational).length : Nat) : Int)), (133, vi64 x44)], [(0, .box 30 [cl 1 Ru32 p2.Num, cl 1 Ru32 p2.Den]), (1, .box 55 [cl 1 Ri64 y52.list, ci64 y52.at_, cu64 y52.state]), (2, .box 30 [cl 1 Ru32 ((([p1, y37, y32] : List S_api_Rational).getD (0 + x44.toNat) dS_api_Rational).Num), cl 1 Ru32 ((([p1, y37, y32] : List S_api_Rational).getD (0 + x44.toNat) dS_api_Rational).Den)]), (3, .row 30 false 2 ([p1, y37, y32] : List S_api_Rational).length (RS_api_Rational ([p1, y37, y32] : List S_api_Rational)))], 4⟩)) (fun t => (.ret, ⟨[(12, vb false)], [], 0⟩)) (conv_re [(0, 0), (1, 1), (2, 6), (3, 2), (4, 11)] (by kernel_rfl)) (fun _ => tv) (fun _ => tv) ?_ (fun t h => ?_) (fun t h => ?_)
        ·
         clear h
         intro x55 o h
         unfold rl_law11_RationalExact_l6 at h
         refine AW.sg tt_okL8 [(144, vb (decide (x55 < ((([p2, y51, (([p1, y37, y32] : List S_api_Rational).getD (0 + x44.toNat) dS_api_Rational)] : List S_api_Rational).length : Nat) : Int))))] [] [] 6 [] (by kernel_rfl) ?_
         refine AW.seq ?_
         refine AW.co h (by kernel_rfl) (fun c56 h => ?_) (fun c56 h => ?_)
         ·
          refine AW.skip (AW.tn ?_)
          refine AW.seq (AW.block ?_)
          obtain ⟨g57, g58, h⟩ := ifd h
          refine AW.sg tt_okL8 [(27, .c (.ptr 8 2 0 0))] [8] [(8, .box 30 [cl 1 Ru32 ((([p2, y51, (([p1, y37, y32] : List S_api_Rational).getD (0 + x44.toNat) dS_api_Rational)] : List S_api_Rational).getD (0 + x55.toNat) dS_api_Rational).Num), cl 1 Ru32 ((([p2, y51, (([p1, y37, y32] : List S_api_Rational).getD (0 + x44.toNat) dS_api_Rational)] : List S_api_Rational).getD (0 + x55.toNat) dS_api_Rational).Den)])] 10 [hq g57 g58, ho (p := (0 + x55.toNat) < ([p2, y51, (([p1, y37, y32] : List S_api_Rational).getD (0 + x44.toNat) dS_api_Rational)] : List S_api_Rational).length) (by have h1 : 0 ≤ x55 := g57; have h2 : x55 < ((([p2, y51, (([p1, y37, y32] : List S_api_Rational).getD (0 + x44.toNat) dS_api_Rational)] : List S_api_Rational).length : Nat) : Int) := g58; omega)] (by kernel_rfl) ?_
          obtain ⟨y59, e60, h⟩ := bnd_some h
          refine AW.sg tt_okL8 [(150, vb (!y59))] [] [] 13 [hn, hn, hk (rl_law11_two_con (([p1, y37, y32] : List S_api_Rational).getD (0 + x44.toNat) dS_api_Rational) (([p2, y51, (([p1, y37, y32] : List S_api_Rational).getD (0 + x44.toNat) dS_api_Rational)] : List S_api_Rational).getD (0 + x55.toNat) dS_api_Rational) y59 e60)] (by kernel_rfl) ?_
          refine AW.co h (by kernel_rfl) (fun c61 h => ?_) (fun c61 h => ?_)
          ·
           refine AW.sg tt_okL8 [(12, vb false)] [] [] 14 [] (by kernel_rfl) ?_
           refine AW.ret (AW.inBlock_ret (AW.tr ?_))
           exact lpo h rfl (conv_re [] (by kernel_rfl))
          ·
           refine AW.skip (AW.inBlock_normal (AW.tn ?_))
           refine AW.rg tt_okL8 [(143, vi64 (i64.wrap (x55 + 1)))] [] [] 15 [] (by kernel_rfl) ?_
           exact lpn h (conv_re [(0, 0), (1, 1), (2, 2), (3, 3), (4, 4)] (by kernel_rfl))
         ·
          refine AW.exit (AW.thenQ_exit ?_)
          exact lpo h rfl (conv_re [(0, 0), (1, 1), (2, 2), (3, 3)] (by kernel_rfl))
        ·
         replace h : rl_law11_RationalExact_a11 p1 p5 y32 y37 x44 y52 = some o := h
         unfold rl_law11_RationalExact_a11 at h
         show (_ : Exit → St → Prop) (.exit 4) _
         refine AW.inBlock_hit (AW.tn (AW.seq ?_))
         refine AW.sg tt_okL8 [(155, vi64 0), (154, vi64 ((([p5, 1, 1000, 4294967296, 4294967297] : List Int).length : Nat) : Int)), (153, .c (.ref 5 1 0 (([p5, 1, 1000, 4294967296, 4294967297] : List Int).length)))] [5] [(5, .row 3 false 1 ([p5, 1, 1000, 4294967296, 4294967297] : List Int).length (Ri64 ([p5, 1, 1000, 4294967296, 4294967297] : List Int)))] 8 [hn, hlit 0 Ei64 1 (fun _ => rfl) ([p5, 1, 1000, 4294967296, 4294967297] : List Int)] (by kernel_rfl) ?_
         refine AW.block ?_
         refine AW.lpE h (fun v => ⟨[(5, vi64 p5), (8, .c (.ptr 0 2 0 0)), (13, .c (.ptr 1 3 0 0)), (25, .c (.ptr 2 2 0 0)), (131, .c (.ref 3 2 0 (([p1, y37, y32] : List S_api_Rational).length))), (132, vi64 ((([p1, y37, y32] : List S_api_Rational).length : Nat) : Int)), (133, vi64 x44), (153, .c (.ref 4 1 0 (([p5, 1, 1000, 4294967296, 4294967297] : List Int).length))), (154, vi64 ((([p5, 1, 1000, 4294967296, 4294967297] : List Int).length : Nat) : Int)), (155, vi64 v)], [(0, .box 30 [cl 1 Ru32 p2.Num, cl 1 Ru32 p2.Den]), (1, .box 55 [cl 1 Ri64 y52.list, ci64 y52.at_, cu64 y52.state]), (2, .box 30 [cl 1 Ru32 ((([p1, y37, y32] : List S_api_Rational).getD (0 + x44.toNat) dS_api_Rational).Num), cl 1 Ru32 ((([p1, y37, y32] : List S_api_Rational).getD (0 + x44.toNat) dS_api_Rational).Den)]), (3, .row 30 false 2 ([p1, y37, y32] : List S_api_Rational).length (RS_api_Rational ([p1, y37, y32] : List S_api_Rational))), (4, .row 3 false 1 ([p5, 1, 1000, 4294967296, 4294967297] : List Int).length (Ri64 ([p5, 1, 1000, 4294967296, 4294967297] : List Int)))], 5⟩) (fun t => (.exit 6, ⟨[(5, vi64 p5), (8, .c (.ptr 0 2 0 0)), (13, .c (.ptr 1 3 0 0)), (25, .c (.ptr 2 2 0 0)), (131, .c (.ref 3 2 0 (([p1, y37, y32] : List S_api_Rational).length))), (132, vi64 ((([p1, y37, y32] : List S_api_Rational).length : Nat) : Int)), (133, vi64 x44)], [(0, .box 30 [cl 1 Ru32 p2.Num, cl 1 Ru32 p2.Den]), (1, .box 55 [cl 1 Ri64 y52.list, ci64 y52.at_, cu64 y52.state]), (2, .box 30 [cl 1 Ru32 ((([p1, y37, y32] : List S_api_Rational).getD (0 + x44.toNat) dS_api_Rational).Num), cl 1 Ru32 ((([p1, y37, y32] : List S_api_Rational).getD (0 + x44.toNat) dS_api_Rational).Den)]), (3, .row 30 false 2 ([p1, y37, y32] : List S_api_Rational).length (RS_api_Rational ([p1, y37, y32] : List S_api_Rational)))], 4⟩)) (fun t => (.ret, ⟨[(12, vb false)], [], 0⟩)) (conv_re [(0, 0), (1, 1), (2, 2), (3, 3), (4, 5)] (by kernel_rfl)) (fun _ => tv) (fun _ => tv) ?_ (fun t h => ?_) (fun t h => ?_)
         ·
          clear h
          intro x63 o h
          unfold rl_law11_RationalExact_l7 at h
          refine AW.sg tt_okL8 [(156, vb (decide (x63 < ((([p5, 1, 1000, 4294967296, 4294967297] : List Int).length : Nat) : Int))))] [] [] 6 [] (by kernel_rfl) ?_
          refine AW.seq ?_
          refine AW.co h (by kernel_rfl) (fun c64 h => ?_) (fun c64 h => ?_)
          ·
           refine AW.skip (AW.tn ?_)
           refine AW.seq (AW.block ?_)
           obtain ⟨g65, g66, h⟩ := ifd h
           refine AW.sg tt_okL8 [(29, vi64 (([p5, 1, 1000, 4294967296, 4294967297] : List Int).getD (0 + x63.toNat) 0))] [] [] 9 [hq g65 g66, ho (p := (0 + x63.toNat) < ([p5, 1, 1000, 4294967296, 4294967297] : List Int).length) (by have h1 : 0 ≤ x63 := g65; have h2 : x63 < ((([p5, 1, 1000, 4294967296, 4294967297] : List Int).length : Nat) : Int) := g66; omega)] (by kernel_rfl) ?_
           obtain ⟨y67, y68, e69, h⟩ := bind2_some h
           refine AW.sg tt_okL8 [(31, vi64 y68), (30, vi64 y67)] [] [] 16 [hn, hn, hk (rational_Round_con (([p1, y37, y32] : List S_api_Rational).getD (0 + x44.toNat) dS_api_Rational) (([p5, 1, 1000, 4294967296, 4294967297] : List Int).getD (0 + x63.toNat) 0) (y67, y68) e69)] (by kernel_rfl) ?_
           obtain ⟨y70, y71, e72, h⟩ := bind2_some h
           refine AW.sg tt_okL8 [(33, vi64 y71), (32, vi64 y70)] [] [] 23 [hn, hn, hk (rl_ref11_Round_con (([p1, y37, y32] : List S_api_Rational).getD (0 + x44.toNat) dS_api_Rational) (([p5, 1, 1000, 4294967296, 4294967297] : List Int).getD (0 + x63.toNat) 0) (y70, y71) e72)] (by kernel_rfl) ?_
           refine AW.seq ?_
           refine AW.join (ι := Bool) (fun v => ⟨[(5, vi64 p5), (8, .c (.ptr 0 2 0 0)), (13, .c (.ptr 1 3 0 0)), (25, .c (.ptr 2 2 0 0)), (131, .c (.ref 3 2 0 (([p1, y37, y32] : List S_api_Rational).length))), (132, vi64 ((([p1, y37, y32] : List S_api_Rational).length : Nat) : Int)), (133, vi64 x44), (153, .c (.ref 4 1 0 (([p5, 1, 1000, 4294967296, 4294967297] : List Int).length))), (154, vi64 ((([p5, 1, 1000, 4294967296, 4294967297] : List Int).length : Nat) : Int)), (155, vi64 x63), (178, vb v)], [(0, .box 30 [cl 1 Ru32 p2.Num, cl 1 Ru32 p2.Den]), (1, .box 55 [cl 1 Ri64 y52.list, ci64 y52.at_, cu64 y52.state]), (2, .box 30 [cl 1 Ru32 ((([p1, y37, y32] : List S_api_Rational).getD (0 + x44.toNat) dS_api_Rational).Num), cl 1 Ru32 ((([p1, y37, y32] : List S_api_Rational).getD (0 + x44.toNat) dS_api_Rational).Den)]), (3, .row 30 false 2 ([p1, y37, y32] : List S_api_Rational).length (RS_api_Rational ([p1, y37, y32] : List S_api_Rational))), (4, .row 3 false 1 ([p5, 1, 1000, 4294967296, 4294967297] : List Int).length (Ri64 ([p5, 1, 1000, 4294967296, 4294967297] : List Int)))], 5⟩) (fun v : Bool => rl_law11_RationalExact_k8 x63 v = some o) (fun x73 h => ?_) ?_
           ·
            unfold rl_law11_RationalExact_k8 at h
            refine AW.tn ?_
            refine AW.co h (by kernel_rfl) (fun c74 h => ?_) (fun c74 h => ?_)
            ·
             refine AW.sg tt_okL8 [(12, vb false)] [] [] 6 [] (by kernel_rfl) ?_
             refine AW.ret (AW.inBlock_ret (AW.tr ?_))
             exact lpo h rfl (conv_re [] (by kernel_rfl))
            ·
             refine AW.skip (AW.inBlock_normal (AW.tn ?_))
             refine AW.rg tt_okL8 [(155, vi64 (i64.wrap (x63 + 1)))] [] [] 7 [] (by kernel_rfl) ?_
             exact lpn h (conv_re [(0, 0), (1, 1), (2, 2), (3, 3), (4, 4)] (by kernel_rfl))
           ·
            rcases ifs h with ⟨c75, h⟩ | ⟨c75, h⟩
            ·
             refine AW.rg tt_okL8 [(178, vb true)] [] [] 31 [hn, hn, ht c75] (by kernel_rfl) ?_
             exact jl true h (conv_re [(0, 0), (1, 1), (2, 2), (3, 3), (4, 4)] (by kernel_rfl))
            ·
             refine AW.rg tt_okL8 [(178, vb (y68 != y71))] [] [] 31 [hn, hn, hf c75] (by kernel_rfl) ?_
             exact jl (y68 != y71) h (conv_re [(0, 0), (1, 1), (2, 2), (3, 3), (4, 4)] (by kernel_rfl))
          ·
           refine AW.exit (AW.thenQ_exit ?_)
           exact lpo h rfl (conv_re [(0, 0), (1, 1), (2, 2), (3, 3)] (by kernel_rfl))
         ·
          replace h : rl_law11_RationalExact_a9 p1 y32 y37 x44 y52 = some o := h
          unfold rl_law11_RationalExact_a9 at h
          show (_ : Exit → St → Prop) (.exit 6) _
          refine AW.inBlock_hit (AW.tn ?_)
          obtain ⟨y76, e77, h⟩ := bnd_some h
          obtain ⟨y78, e79, h⟩ := bnd_some h
          refine AW.sd tt_okL8 moL8 [] [(184, vb (!(y76 == y78)))] [] 7 [hn, hk (rational_Valid_con (([p1, y37, y32] : List S_api_Rational).getD (0 + x44.toNat) dS_api_Rational) y76 e77), hn, hk (rl_ref11_Valid_con (([p1, y37, y32] : List S_api_Rational).getD (0 + x44.toNat) dS_api_Rational) y78 e79)] (by kernel_rfl) ?_
          refine AW.co h (by kernel_rfl) (fun c80 h => ?_) (fun c80 h => ?_)
          ·
           refine AW.sg tt_okL8 [(12, vb false)] [] [] 8 [] (by kernel_rfl) ?_
           refine AW.ret (AW.inBlock_ret (AW.tr ?_))
           exact lpo h rfl (conv_re [] (by kernel_rfl))
          ·
           refine AW.skip (AW.inBlock_normal (AW.tn ?_))
           refine AW.rg tt_okL8 [(133, vi64 (i64.wrap (x44 + 1)))] [] [] 9 [] (by kernel_rfl) ?_
           exact lpn h (conv_re [(0, 0), (1, 1), (2, 3)] (by kernel_rfl))
         ·
          replace h : rl_law11_RationalExact_a10 = some o := h
          unfold rl_law11_RationalExact_a10 at h
          show (_ : Exit → St → Prop) (.ret) _
          refine AW.inBlock_ret (AW.tr ?_)
          refine AW.inBlock_ret (AW.tr ?_)
          exact lpo h rfl (conv_re [] (by kernel_rfl))
        ·
         replace h : rl_law11_RationalExact_a12 = some o := h
         unfold rl_law11_RationalExact_a12 at h
         show (_ : Exit → St → Prop) (.ret) _
         refine AW.inBlock_ret (AW.tr ?_)
         refine AW.inBlock_ret (AW.tr ?_)
         exact lpo h rfl (conv_re [] (by kernel_rfl))
       ·
        refine AW.exit (AW.thenQ_exit ?_)
        exact lpo h rfl (conv_re [] (by kernel_rfl))
      ·
       replace h : rl_law11_RationalExact_a13 = some r := h
       unfold rl_law11_RationalExact_a13 at h
       show (_ : Exit → St → Prop) (.exit 2) _
       refine AW.inBlock_hit (AW.tn ?_)
       refine AW.sg tt_okL8 [(12, vb true)] [] [] 1 [] (by kernel_rfl) ?_
       refine AW.ret ?_
       obtain rfl := some_inj h
       exact fn0 (.inr rfl) [] 0 (vb true) (by kernel_rfl)
      ·
       replace h : rl_law11_RationalExact_a14 = some r := h
       unfold rl_law11_RationalExact_a14 at h
       show (_ : Exit → St → Prop) (.ret) _
       refine AW.inBlock_ret (AW.tr ?_)
       obtain rfl := some_inj h
       exact fn0 (.inr rfl) [] 0 (vb false) (by kernel_rfl)
    ·
     rcases ifs h with ⟨c84, h⟩ | ⟨c84, h⟩
     ·
      refine AW.rg tt_okL8 [(126, vb true)] [] [] 32 [hn, hn, ht c84] (by kernel_rfl) ?_
      exact jl true h (conv_re [(0, 0), (1, 1), (2, 2), (3, 20)] (by kernel_rfl))
     ·
      obtain ⟨y85, e86, h⟩ := bnd_some h
      refine AW.rg tt_okL8 [(126, vb (!y85))] [] [] 31 [hn, hn, hf c84, hn, hn, hn, hk (rl_ref11_Same_con y29 y32 y85 e86)] (by kernel_rfl) ?_
      exact jl (!y85) h (conv_re [(0, 0), (1, 1), (2, 2), (3, 20)] (by kernel_rfl))
   ·
    replace h : rl_law11_RationalExact_a16 = some r := h
    unfold rl_law11_RationalExact_a16 at h
    show (_ : Exit → St → Prop) (.ret) _
    refine AW.inBlock_ret (AW.tr ?_)
    obtain rfl := some_inj h
    exact fn0 (.inr rfl) [] 0 (vb false) (by kernel_rfl)
 ·
  obtain ⟨y88, e89, h⟩ := bnd_some h
  rcases ifs h with ⟨c90, h⟩ | ⟨c90, h⟩
  ·
   refine AW.rg tt_okL8 [(58, vb true)] [] [] 27 [hk (rl_law11_awake_con y88 e89), ht c90] (by kernel_rfl) ?_
   exact jl true h (conv_re [(0, 0), (1, 1)] (by kernel_rfl))
  ·
   obtain ⟨y91, e92, h⟩ := bnd_some h
   rcases ifs h with ⟨c93, h⟩ | ⟨c93, h⟩
   ·
    refine AW.rg tt_okL8 [(58, vb true)] [] [] 26 [hk (rl_law11_awake_con y88 e89), hf c90, hn, hn, hk (rl_make_Few_con p0 y91 e92), ht c93] (by kernel_rfl) ?_
    exact jl true h (conv_re [(0, 0), (1, 1)] (by kernel_rfl))
   ·
    refine AW.rg tt_okL8 [(58, vb (decide ((i64.wrap ((i64.wrap ((i64.wrap (((p1.Num.length : Nat) : Int) + ((p1.Den.length : Nat) : Int))) + ((p2.Num.length : Nat) : Int))) + ((p2.Den.length : Nat) : Int))) > 24)))] [] [] 26 [hk (rl_law11_awake_con y88 e89), hf c90, hn, hn, hk (rl_make_Few_con p0 y91 e92), hf c93] (by kernel_rfl) ?_
    exact jl (decide ((i64.wrap ((i64.wrap ((i64.wrap (((p1.Num.length : Nat) : Int) + ((p1.Den.length : Nat) : Int))) + ((p2.Num.length : Nat) : Int))) + ((p2.Den.length : Nat) : Int))) > 24)) h (conv_re [(0, 0), (1, 1)] (by kernel_rfl))
end Go.Proofs.Ytnfikddgjkfflaa
