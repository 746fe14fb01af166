/- Printed by a program of mine (vmgen.py): Go functions, and what they come to. -/
import Derived.Test.YtilpgjoidgfbiaaVr
import Derived.Test.YtilpgjoidgfbiaaRows
import Derived.Test.YtilpgjoidgfbiaaG2
namespace Go.Proofs.Ytilpgjoidgfbiaa
open Vm
open IntKind (i64 u64 u32 u8)
set_option maxHeartbeats 10000000
set_option linter.unusedVariables false
set_option linter.unusedSimpArgs false
set_option linter.constructorNameAsVariable false
def ttlL9 : List (Nat × TI) := [(3, ⟨.int .i64, 1, 8, [.int .i64 0], false⟩), (4, ⟨.bool, 1, 1, [.bool false], false⟩), (5, ⟨.int .u8, 1, 1, [.int .u8 0], false⟩), (9, ⟨.str, 1, 16, [.string ⟨#[]⟩], false⟩), (22, ⟨.slice 3, 1, 24, [.slice none 0 0], false⟩), (23, ⟨.int .u16, 1, 2, [.int .u16 0], false⟩), (26, ⟨.ptr 72, 1, 8, [.pointer none], false⟩), (29, ⟨.slice 54, 1, 24, [.slice none 0 0], false⟩), (32, ⟨.struct [(3, 0), (22, 1), (22, 2)], 3, 56, [.int .i64 0, .slice none 0 0, .slice none 0 0], false⟩), (35, ⟨.struct [(3, 0), (3, 1), (3, 2)], 3, 24, [.int .i64 0, .int .i64 0, .int .i64 0], true⟩), (36, ⟨.int .i64, 1, 8, [.int .i64 0], false⟩), (42, ⟨.slice 69, 1, 24, [.slice none 0 0], false⟩), (44, ⟨.struct [(42, 0), (42, 1)], 2, 48, [.slice none 0 0, .slice none 0 0], false⟩), (52, ⟨.struct [(3, 0), (3, 1)], 2, 16, [.int .i64 0, .int .i64 0], true⟩), (54, ⟨.struct [(52, 0), (52, 2), (3, 4), (3, 5)], 6, 48, [.int .i64 0, .int .i64 0, .int .i64 0, .int .i64 0, .int .i64 0, .int .i64 0], true⟩), (64, ⟨.arr 3 44, 6, 144, [.slice none 0 0, .slice none 0 0, .slice none 0 0, .slice none 0 0, .slice none 0 0, .slice none 0 0], false⟩), (69, ⟨.int .u32, 1, 4, [.int .u32 0], false⟩), (70, ⟨.int .u64, 1, 8, [.int .u64 0], false⟩), (72, ⟨.struct [(22, 0), (3, 1), (70, 2)], 3, 40, [.slice none 0 0, .int .i64 0, .int .u64 0], false⟩), (75, ⟨.slice 78, 1, 24, [.slice none 0 0], false⟩), (78, ⟨.struct [(52, 0), (52, 2), (3, 4)], 5, 40, [.int .i64 0, .int .i64 0, .int .i64 0, .int .i64 0, .int .i64 0], true⟩), (106, ⟨.struct [(3, 0), (22, 1), (22, 2)], 3, 56, [.int .i64 0, .slice none 0 0, .slice none 0 0], false⟩), (110, ⟨.struct [(3, 0), (3, 1), (3, 2), (3, 3)], 4, 32, [.int .i64 0, .int .i64 0, .int .i64 0, .int .i64 0], true⟩), (111, ⟨.slice 110, 1, 24, [.slice none 0 0], false⟩), (115, ⟨.arr 6 3, 6, 48, [.int .i64 0, .int .i64 0, .int .i64 0, .int .i64 0, .int .i64 0, .int .i64 0], true⟩), (121, ⟨.struct [(42, 0), (36, 1)], 2, 32, [.slice none 0 0, .int .i64 0], false⟩), (132, ⟨.slice 121, 1, 24, [.slice none 0 0], false⟩)]
theorem tt_okL9 : TTok Try.prog (Vm.look ttlL9) := ttok_of ⟨⟨by kernel_rfl, by kernel_rfl, by kernel_rfl⟩, ⟨by kernel_rfl, by kernel_rfl, by kernel_rfl⟩, ⟨by kernel_rfl, by kernel_rfl, by kernel_rfl⟩, ⟨by kernel_rfl, by kernel_rfl, by kernel_rfl⟩, ⟨by kernel_rfl, by kernel_rfl, by kernel_rfl⟩, ⟨by kernel_rfl, by kernel_rfl, by kernel_rfl⟩, ⟨by kernel_rfl, by kernel_rfl, by kernel_rfl⟩, ⟨by kernel_rfl, by kernel_rfl, by kernel_rfl⟩, ⟨by kernel_rfl, by kernel_rfl, by kernel_rfl⟩, ⟨by kernel_rfl, by kernel_rfl, by kernel_rfl⟩, ⟨by kernel_rfl, by kernel_rfl, by kernel_rfl⟩, ⟨by kernel_rfl, by kernel_rfl, by kernel_rfl⟩, ⟨by kernel_rfl, by kernel_rfl, by kernel_rfl⟩, ⟨by kernel_rfl, by kernel_rfl, by kernel_rfl⟩, ⟨by kernel_rfl, by kernel_rfl, by kernel_rfl⟩, ⟨by kernel_rfl, by kernel_rfl, by kernel_rfl⟩, ⟨by kernel_rfl, by kernel_rfl, by kernel_rfl⟩, ⟨by kernel_rfl, by kernel_rfl, by kernel_rfl⟩, ⟨by kernel_rfl, by kernel_rfl, by kernel_rfl⟩, ⟨by kernel_rfl, by kernel_rfl, by kernel_rfl⟩, ⟨by kernel_rfl, by kernel_rfl, by kernel_rfl⟩, ⟨by kernel_rfl, by kernel_rfl, by kernel_rfl⟩, ⟨by kernel_rfl, by kernel_rfl, by kernel_rfl⟩, ⟨by kernel_rfl, by kernel_rfl, by kernel_rfl⟩, ⟨by kernel_rfl, by kernel_rfl, by kernel_rfl⟩, ⟨by kernel_rfl, by kernel_rfl, by kernel_rfl⟩, ⟨by kernel_rfl, by kernel_rfl, by kernel_rfl⟩, trivial⟩
theorem moL9 : Try.prog.follows .mixedOrders = true := by kernel_rfl
/-! recordlink/recordlinklaw24.EmAgreement -/
noncomputable def rl_law24_EmAgreement_l2 (y7 : Int) (x21 : List Int) (x22 : Int) (x23 : List Int) (x24 : Int) (x25 : Int) : Option (((List Int) × Int × (List Int) × Int × Int) ⊕ (List Int)) := if (decide (x22 < (((List.replicate ((i64.wrap (1 + y7)).toNat) (0 : Int)).length : Nat) : Int))) = true then (bind2 (rl_make_Deck_Next (⟨x23, x24, x25⟩ : S_recordlinkmake_Deck) 3) fun y28 y29 => (if 0 ≤ x22 then (if x22 < (x21.length : Int) then (some (.inl ((x21.set (0 + x22.toNat) y28), i64.wrap (x22 + 1), y29.list, y29.at_, y29.state))) else none) else none)) else (some (.inr x21))
noncomputable def rl_law24_EmAgreement_l3 (p1 : Int) (y7 : Int) (y10 : S_em_model) (x37 : List Int) (x38 : Int) (x39 : List S_api_Rational) : Option (((List Int) × Int × (List S_api_Rational)) ⊕ ((List S_api_Rational) ⊕ Unit)) := if (decide (x38 < 3)) = true then (if 0 ≤ ((i64.wrap p1).tmod (i64.wrap (1 + y7))) then (if ((i64.wrap p1).tmod (i64.wrap (1 + y7))) < (x37.length : Int) then (bind2 (rl_ref17_Number (x37.set (0 + ((i64.wrap p1).tmod (i64.wrap (1 + y7))).toNat) x38)) fun y44 y45 => (bind2 (em_Posterior y10 y44) fun y47 y48 => (if (y48 != 0) = true then (some (.inr (.inr ()))) else (if 0 ≤ x38 then (if x38 < ((3 : Nat) : Int) then (if 3 = x39.length then (some (.inl ((x37.set (0 + ((i64.wrap p1).tmod (i64.wrap (1 + y7))).toNat) x38), i64.wrap (x38 + 1), (x39.set (0 + x38.toNat) y47)))) else none) else none) else none)))) else none) else none) else (some (.inr (.inl x39)))
noncomputable def rl_law24_EmAgreement_k5 (x62 : Bool) : Option Bool := some x62
noncomputable def rl_law24_EmAgreement_k4 (y55 : Int) (y56 : Int) (y58 : Int) (y59 : Int) (x61 : Int) : Option Bool := if (y56 == 0) = true then (if (y59 == 0) = true then (if (y55 == x61) = true then (rl_law24_EmAgreement_k5 (y58 == x61)) else (rl_law24_EmAgreement_k5 false)) else (rl_law24_EmAgreement_k5 false)) else (rl_law24_EmAgreement_k5 false)
noncomputable def rl_law24_EmAgreement_a6 (p1 : Int) (y7 : Int) (y10 : S_em_model) (x54 : List S_api_Rational) : Option Bool := bind2 (rl_ref11_Compare (x54.getD 2 dS_api_Rational) (x54.getD 0 dS_api_Rational)) fun y55 y56 => (bind2 (rl_ref11_Compare (x54.getD 0 dS_api_Rational) (x54.getD 1 dS_api_Rational)) fun y58 y59 => (if 0 ≤ ((i64.wrap p1).tmod (i64.wrap (1 + y7))) then (if ((i64.wrap p1).tmod (i64.wrap (1 + y7))) < ((y10.Match.length : Nat) : Int) then (if ((i64.wrap p1).tmod (i64.wrap (1 + y7))) < ((y10.Random.length : Nat) : Int) then (if (decide ((y10.Match.getD (((i64.wrap p1).tmod (i64.wrap (1 + y7))).toNat) 0) > (y10.Random.getD (((i64.wrap p1).tmod (i64.wrap (1 + y7))).toNat) 0))) = true then (rl_law24_EmAgreement_k4 y55 y56 y58 y59 1) else (if (decide ((y10.Match.getD (((i64.wrap p1).tmod (i64.wrap (1 + y7))).toNat) 0) < (y10.Random.getD (((i64.wrap p1).tmod (i64.wrap (1 + y7))).toNat) 0))) = true then (rl_law24_EmAgreement_k4 y55 y56 y58 y59 (-1)) else (rl_law24_EmAgreement_k4 y55 y56 y58 y59 0))) else none) else none) else none))
noncomputable def rl_law24_EmAgreement_a7 : Option Bool := some false
noncomputable def rl_law24_EmAgreement_k1 (p0 : List Int) (p1 : Int) (x1 : Bool) : Option Bool := if x1 = true then ((rl_law24_awake).bind fun y3 => (some y3)) else ((rl_make_New p0).bind fun y5 => (bind2 (rl_make_Deck_Next y5 3) fun y7 y8 => (bind2 (rl_make_Deck_Model y8 (i64.wrap (1 + y7))) fun y10 y11 => (if (i64.wrap (1 + y7)) ≠ 0 then (if 0 ≤ (i64.wrap (1 + y7)) then (if (i64.wrap (1 + y7)) ≤ 1099511627776 then ((loop (fun v : (List Int) × Int × (List Int) × Int × Int => rl_law24_EmAgreement_l2 y7 v.1 v.2.1 v.2.2.1 v.2.2.2.1 v.2.2.2.2) ((List.replicate ((i64.wrap (1 + y7)).toNat) (0 : Int)), 0, y11.list, y11.at_, y11.state)).bind fun x33 => (bindE (loop (fun v : (List Int) × Int × (List S_api_Rational) => rl_law24_EmAgreement_l3 p1 y7 y10 v.1 v.2.1 v.2.2) (x33, 0, ([(⟨([] : List Int), ([] : List Int)⟩ : S_api_Rational), (⟨([] : List Int), ([] : List Int)⟩ : S_api_Rational), (⟨([] : List Int), ([] : List Int)⟩ : S_api_Rational)] : List S_api_Rational))) (fun t => rl_law24_EmAgreement_a6 p1 y7 y10 t) (fun t => rl_law24_EmAgreement_a7))) else none) else none) else none))))
noncomputable def rl_law24_EmAgreement (p0 : List Int) (p1 : Int) : Option Bool := (rl_law24_awake).bind fun y73 => (if (!y73) = true then (rl_law24_EmAgreement_k1 p0 p1 true) else ((rl_make_Few p0).bind fun y76 => (rl_law24_EmAgreement_k1 p0 p1 (!y76))))
set_option maxRecDepth 100000 in
theorem rl_law24_EmAgreement_con (p0 : List Int) (p1 : Int) (r : Bool) (h : rl_law24_EmAgreement p0 p1 = some r) : Con Try.prog 9 [vl 1 Ri64 p0, vu8 p1] [] (vb r) [] := by
 refine con_of tt_okL9 0 Try.func9 (by kernel_rfl) rfl (by kernel_rfl) (fun base X _ => AW.post ?_)
 unfold rl_law24_EmAgreement at h
 refine AW.sg tt_okL9 [] [] [] 1 [] (by kernel_rfl) ?_
 refine AW.seq (AW.seq ?_)
 refine AW.join (ι := Bool) (fun v => ⟨[(0, vl 1 Ri64 p0), (1, vu8 p1), (28, vb v)], [], 0⟩) (fun v : Bool => rl_law24_EmAgreement_k1 p0 p1 v = some r) (fun x1 h => ?_) ?_
 ·
  unfold rl_law24_EmAgreement_k1 at h
  refine AW.tn ?_
  refine AW.co h (by kernel_rfl) (fun c2 h => ?_) (fun c2 h => ?_)
  ·
   obtain ⟨y3, e4, h⟩ := bnd_some h
   refine AW.sg tt_okL9 [(4, vb y3)] [] [] 1 [hk (rl_law24_awake_con y3 e4)] (by kernel_rfl) ?_
   refine AW.ret (AW.tr ?_)
   obtain rfl := some_inj h
   exact fn0 (.inr rfl) [] 0 (vb y3) (by kernel_rfl)
  ·
   refine AW.skip (AW.tn ?_)
   obtain ⟨y5, e6, h⟩ := bnd_some h
   refine AW.sg tt_okL9 [(5, .c (.ptr 1 3 0 0))] [1] [(1, .box 72 [cl 1 Ri64 y5.list, ci64 y5.at_, cu64 y5.state])] 3 [hn, hl [] [] 1 (rl_make_New_con p0 y5 e6)] (by kernel_rfl) ?_
   obtain ⟨y7, y8, e9, h⟩ := bind2_some h
   refine AW.sg tt_okL9 [(6, vi64 (i64.wrap (1 + y7)))] [1] [(1, .box 72 [cl 1 Ri64 y8.list, ci64 y8.at_, cu64 y8.state])] 6 [hn, hl [1] [] 0 (rl_make_Deck_Next_con y5 3 (y7, y8) e9)] (by kernel_rfl) ?_
   obtain ⟨y10, y11, e12, h⟩ := bind2_some h
   refine AW.sg tt_okL9 [(7, .c (.ptr 10 3 0 0))] [1, 8, 9, 10] [(10, .box 32 [ci64 y10.Prior, .ref 8 1 0 y10.Match.length, .ref 9 1 0 y10.Random.length]), (1, .box 72 [cl 1 Ri64 y11.list, ci64 y11.at_, cu64 y11.state]), (8, .row 3 false 1 y10.Match.length (Ri64 y10.Match)), (9, .row 3 false 1 y10.Random.length (Ri64 y10.Random))] 12 [hn, hn, hl [1] [] 2 (rl_make_Deck_Model_con y8 (i64.wrap (1 + y7)) (y10, y11) e12)] (by kernel_rfl) ?_
   obtain ⟨g13, h⟩ := ifc h
   refine AW.sg tt_okL9 [(8, vi64 ((i64.wrap p1).tmod (i64.wrap (1 + y7))))] [] [] 17 [hn, hn, hn, ho g13] (by kernel_rfl) ?_
   obtain ⟨g14, g15, h⟩ := ifd h
   refine AW.sg tt_okL9 [(9, .c (.ref 18 1 0 ((List.replicate ((i64.wrap (1 + y7)).toNat) (0 : Int)).length)))] [18] [(18, .row 3 false 1 (List.replicate ((i64.wrap (1 + y7)).toNat) (0 : Int)).length (Ri64 (List.replicate ((i64.wrap (1 + y7)).toNat) (0 : Int))))] 20 [hn, hmk 0 Ei64 1 8 [.int .i64 0] rfl rfl (i64.wrap (1 + y7)) (i64.wrap (1 + y7)) g14 (Int.le_refl _) g15 (by decide)] (by kernel_rfl) ?_
   refine AW.seq ?_
   refine AW.sg tt_okL9 [(46, vi64 0), (45, vi64 (((List.replicate ((i64.wrap (1 + y7)).toNat) (0 : Int)).length : Nat) : Int))] [] [] 23 [] (by kernel_rfl) ?_
   refine AW.block ?_
   obtain ⟨x33, l72, h⟩ := bnd_some h
   refine AW.lp l72 (fun v => ⟨[(5, .c (.ptr 0 3 0 0)), (7, .c (.ptr 1 3 0 0)), (8, vi64 ((i64.wrap p1).tmod (i64.wrap (1 + y7)))), (9, .c (.ref 2 1 0 v.1.length)), (45, vi64 (((List.replicate ((i64.wrap (1 + y7)).toNat) (0 : Int)).length : Nat) : Int)), (46, vi64 v.2.1)], [(0, .box 72 [cl 1 Ri64 v.2.2.1, ci64 v.2.2.2.1, cu64 v.2.2.2.2]), (1, .box 32 [ci64 y10.Prior, .ref 3 1 0 y10.Match.length, .ref 4 1 0 y10.Random.length]), (2, .row 3 false 1 v.1.length (Ri64 v.1)), (3, .row 3 false 1 y10.Match.length (Ri64 y10.Match)), (4, .row 3 false 1 y10.Random.length (Ri64 y10.Random))], 5⟩) (fun t : List Int => (.exit 0, ⟨[(7, .c (.ptr 0 3 0 0)), (8, vi64 ((i64.wrap p1).tmod (i64.wrap (1 + y7)))), (9, .c (.ref 1 1 0 t.length))], [(0, .box 32 [ci64 y10.Prior, .ref 2 1 0 y10.Match.length, .ref 3 1 0 y10.Random.length]), (1, .row 3 false 1 t.length (Ri64 t)), (2, .row 3 false 1 y10.Match.length (Ri64 y10.Match)), (3, .row 3 false 1 y10.Random.length (Ri64 y10.Random))], 4⟩)) (conv_re [(0, 1), (1, 10), (2, 18), (3, 8), (4, 9)] (by kernel_rfl)) (fun _ => tv) ?_ ?_
   ·
    clear l72 h
    intro v o h
    obtain ⟨x21, x22, x23, x24, x25⟩ := v
    replace h : rl_law24_EmAgreement_l2 y7 x21 x22 x23 x24 x25 = some o := h
    unfold rl_law24_EmAgreement_l2 at h
    refine AW.sg tt_okL9 [(47, vb (decide (x22 < (((List.replicate ((i64.wrap (1 + y7)).toNat) (0 : Int)).length : Nat) : Int))))] [] [] 6 [] (by kernel_rfl) ?_
    refine AW.seq ?_
    refine AW.co h (by kernel_rfl) (fun c27 h => ?_) (fun c27 h => ?_)
    ·
     refine AW.skip (AW.tn ?_)
     refine AW.seq (AW.block ?_)
     refine AW.sg tt_okL9 [(10, vi64 x22)] [] [] 8 [] (by kernel_rfl) ?_
     obtain ⟨y28, y29, e30, h⟩ := bind2_some h
     obtain ⟨g31, g32, h⟩ := ifd h
     refine AW.rg tt_okL9 [] [0, 2] [(2, .row 3 false 1 x21.length (Ri64 (x21.set (0 + x22.toNat) y28))), (0, .box 72 [cl 1 Ri64 y29.list, ci64 y29.at_, cu64 y29.state])] 13 [hn, hn, hn, hl [0] [] 0 (rl_make_Deck_Next_con (⟨x23, x24, x25⟩ : S_recordlinkmake_Deck) 3 (y28, y29) e30), hq g31 g32, hset 0 Ei64 x21 (0 + x22.toNat) y28 (n := x21.length) (by have h1 : 0 ≤ x22 := g31; have h2 : x22 < (x21.length : Int) := g32; omega) rfl] (by kernel_rfl) ?_
     refine AW.inBlock_normal (AW.tn ?_)
     refine AW.rg tt_okL9 [(46, vi64 (i64.wrap (x22 + 1)))] [] [] 15 [] (by kernel_rfl) ?_
     exact lpn h (Conv.trans (conv_tms [(9, .c (.ref 2 1 0 ((x21.set (0 + x22.toNat) y28).length)))] ⟨⟨.c (.ref 2 1 0 x21.length), by kernel_rfl, ALe.len (by simp only [List.length_set])⟩, tv⟩) (Conv.trans (conv_rowN 2 3 false 1 x21.length ((x21.set (0 + x22.toNat) y28).length) (Ri64 (x21.set (0 + x22.toNat) y28)) (by kernel_rfl) (by simp only [List.length_set])) (conv_re [(0, 0), (1, 1), (2, 2), (3, 3), (4, 4)] (by kernel_rfl))))
    ·
     refine AW.exit (AW.thenQ_exit ?_)
     exact lpo h rfl (conv_re [(0, 1), (1, 2), (2, 3), (3, 4)] (by kernel_rfl))
   ·
    show (_ : Exit → St → Prop) (.exit 0) _
    refine AW.inBlock_hit (AW.tn ?_)
    refine AW.sg tt_okL9 [(11, .c (.ptr 4 2 0 0))] [4] [(4, .row 64 false 2 3 (RS_api_Rational ([(⟨([] : List Int), ([] : List Int)⟩ : S_api_Rational), (⟨([] : List Int), ([] : List Int)⟩ : S_api_Rational), (⟨([] : List Int), ([] : List Int)⟩ : S_api_Rational)] : List S_api_Rational)))] 5 [hr 3 (RS_api_Rational ([(⟨([] : List Int), ([] : List Int)⟩ : S_api_Rational), (⟨([] : List Int), ([] : List Int)⟩ : S_api_Rational), (⟨([] : List Int), ([] : List Int)⟩ : S_api_Rational)] : List S_api_Rational)) (p := 3 = 3 ∧ ∀ i, i < 3 → ∀ j, j < 2 → TLe (rowOf [.v (.slice none 0 0), .v (.slice none 0 0), .v (.slice none 0 0), .v (.slice none 0 0), .v (.slice none 0 0), .v (.slice none 0 0)] 2 i j) (RS_api_Rational ([(⟨([] : List Int), ([] : List Int)⟩ : S_api_Rational), (⟨([] : List Int), ([] : List Int)⟩ : S_api_Rational), (⟨([] : List Int), ([] : List Int)⟩ : S_api_Rational)] : List S_api_Rational) i j)) (⟨rfl, fun i hi j hj => match i, hi, j, hj with | 0, _, 0, _ => TLe.nil rfl | 0, _, 1, _ => TLe.nil rfl | 1, _, 0, _ => TLe.nil rfl | 1, _, 1, _ => TLe.nil rfl | 2, _, 0, _ => TLe.nil rfl | 2, _, 1, _ => TLe.nil rfl | _ + 3, h, _, _ => absurd h (by omega) | _, _, _ + 2, h => absurd h (by omega)⟩)] (by kernel_rfl) ?_
    refine AW.seq ?_
    refine AW.sg tt_okL9 [(12, vi64 0)] [] [] 6 [] (by kernel_rfl) ?_
    refine AW.block ?_
    refine AW.lpE h (fun v => ⟨[(7, .c (.ptr 0 3 0 0)), (8, vi64 ((i64.wrap p1).tmod (i64.wrap (1 + y7)))), (9, .c (.ref 1 1 0 v.1.length)), (11, .c (.ptr 2 2 0 0)), (12, vi64 v.2.1)], [(0, .box 32 [ci64 y10.Prior, cl 1 Ri64 y10.Match, cl 1 Ri64 y10.Random]), (1, .row 3 false 1 v.1.length (Ri64 v.1)), (2, .row 64 false 2 3 (RS_api_Rational v.2.2))], 3⟩) (fun t => (.exit 2, ⟨[(7, .c (.ptr 0 3 0 0)), (8, vi64 ((i64.wrap p1).tmod (i64.wrap (1 + y7)))), (11, .c (.ptr 1 2 0 0))], [(0, .box 32 [ci64 y10.Prior, cl 1 Ri64 y10.Match, cl 1 Ri64 y10.Random]), (1, .row 64 false 2 3 (RS_api_Rational t))], 2⟩)) (fun t => (.ret, ⟨[(4, vb false)], [], 0⟩)) (Conv.trans (cfz 2 3 1 y10.Match.length (Ri64 y10.Match) (by kernel_rfl)) (Conv.trans (cfz 3 3 1 y10.Random.length (Ri64 y10.Random) (by kernel_rfl)) (Conv.trans (conv_box (id := 0) (ty := 32) (cs := [ci64 y10.Prior, .ref 2 1 0 y10.Match.length, .ref 3 1 0 y10.Random.length]) (ds := [ci64 y10.Prior, cl 1 Ri64 y10.Match, cl 1 Ri64 y10.Random]) (by kernel_rfl) ⟨CLe.refl _ _, CLe.ref (ty := 3) (f := Ri64 y10.Match) (by kernel_rfl) le0, CLe.ref (ty := 3) (f := Ri64 y10.Random) (by kernel_rfl) le0, tv⟩) (conv_re [(0, 0), (1, 1), (2, 4)] (by kernel_rfl))))) (fun _ => tv) (fun _ => tv) ?_ (fun x54 h => ?_) (fun t h => ?_)
    ·
     clear h
     intro v o h
     obtain ⟨x37, x38, x39⟩ := v
     replace h : rl_law24_EmAgreement_l3 p1 y7 y10 x37 x38 x39 = some o := h
     unfold rl_law24_EmAgreement_l3 at h
     refine AW.seq ?_
     refine AW.sg tt_okL9 [(56, vb (decide (x38 < 3)))] [] [] 5 [] (by kernel_rfl) ?_
     refine AW.co h (by kernel_rfl) (fun c41 h => ?_) (fun c41 h => ?_)
     ·
      refine AW.skip (AW.tn ?_)
      refine AW.seq (AW.block ?_)
      obtain ⟨g42, g43, h⟩ := ifd h
      refine AW.sg tt_okL9 [] [1] [(1, .row 3 false 1 x37.length (Ri64 (x37.set (0 + ((i64.wrap p1).tmod (i64.wrap (1 + y7))).toNat) x38)))] 10 [hn, hn, hn, hq g42 g43, hset 0 Ei64 x37 (0 + ((i64.wrap p1).tmod (i64.wrap (1 + y7))).toNat) x38 (n := x37.length) (by have h1 : 0 ≤ ((i64.wrap p1).tmod (i64.wrap (1 + y7))) := g42; have h2 : ((i64.wrap p1).tmod (i64.wrap (1 + y7))) < (x37.length : Int) := g43; omega) rfl] (by kernel_rfl) ?_
      obtain ⟨y44, y45, e46, h⟩ := bind2_some h
      refine AW.sg tt_okL9 [(13, vi64 y44)] [] [] 16 [hn, hg [] [] true 0 (q := (0 + x37.length ≤ x37.length) ∧ (True)) ⟨le0, tv⟩ (a0 := [.c (.t (.tree x37.length 1 (Ri64 (x37.set (0 + ((i64.wrap p1).tmod (i64.wrap (1 + y7))).toNat) x38))))]) (show Con Try.prog 30 [.c (.t (.tree x37.length 1 (Ri64 (x37.set (0 + ((i64.wrap p1).tmod (i64.wrap (1 + y7))).toNat) x38))))] [] (.tup [vi64 y44, vi64 y45]) [] from by have hc := (rl_ref17_Number_con (x37.set (0 + ((i64.wrap p1).tmod (i64.wrap (1 + y7))).toNat) x38) (y44, y45) e46); simpa only [List.length_set, vl, cl] using hc) ⟨ArgLe.refl _, tv⟩ (fun _ => tv)] (by kernel_rfl) ?_
      obtain ⟨y47, y48, e49, h⟩ := bind2_some h
      refine AW.sg tt_okL9 [(16, vi64 y48), (15, .c (.ptr 21 2 0 0))] [21] [(21, .box 44 [cl 1 Ru32 y47.Num, cl 1 Ru32 y47.Den])] 24 [hn, hn, hk (em_Posterior_con y10 y44 (y47, y48) e49)] (by kernel_rfl) ?_
      refine AW.seq ?_
      refine AW.sg tt_okL9 [(75, vb (y48 != 0))] [] [] 26 [] (by kernel_rfl) ?_
      refine AW.co h (by kernel_rfl) (fun c50 h => ?_) (fun c50 h => ?_)
      ·
       refine AW.sg tt_okL9 [(4, vb false)] [] [] 27 [] (by kernel_rfl) ?_
       refine AW.ret (AW.tr ?_)
       refine AW.inBlock_ret (AW.tr ?_)
       exact lpo h rfl (conv_re [] (by kernel_rfl))
      ·
       refine AW.skip (AW.tn ?_)
       obtain ⟨g51, g52, h⟩ := ifd h
       obtain ⟨g53, h⟩ := ifc h
       refine AW.rg tt_okL9 [] [2] [(2, .row 64 false 2 3 (RS_api_Rational (x39.set (0 + x38.toNat) y47)))] 30 [hn, hn, hq g51 g52, hset dS_api_Rational ES_api_Rational x39 (0 + x38.toNat) y47 (n := 3) (by have h1 : 0 ≤ x38 := g51; have h2 : x38 < ((3 : Nat) : Int) := g52; omega) g53] (by kernel_rfl) ?_
       refine AW.inBlock_normal (AW.tn ?_)
       refine AW.rg tt_okL9 [(12, vi64 (i64.wrap (x38 + 1)))] [] [] 33 [] (by kernel_rfl) ?_
       exact lpn h (Conv.trans (conv_tms [(9, .c (.ref 1 1 0 ((x37.set (0 + ((i64.wrap p1).tmod (i64.wrap (1 + y7))).toNat) x38).length)))] ⟨⟨.c (.ref 1 1 0 x37.length), by kernel_rfl, ALe.len (by simp only [List.length_set])⟩, tv⟩) (Conv.trans (conv_rowN 1 3 false 1 x37.length ((x37.set (0 + ((i64.wrap p1).tmod (i64.wrap (1 + y7))).toNat) x38).length) (Ri64 (x37.set (0 + ((i64.wrap p1).tmod (i64.wrap (1 + y7))).toNat) x38)) (by kernel_rfl) (by simp only [List.length_set])) (conv_re [(0, 0), (1, 1), (2, 2)] (by kernel_rfl))))
     ·
      refine AW.exit (AW.thenQ_exit ?_)
      exact lpo h rfl (conv_re [(0, 0), (1, 2)] (by kernel_rfl))
    ·
     unfold rl_law24_EmAgreement_a6 at h
     show (_ : Exit → St → Prop) (.exit 2) _
     refine AW.inBlock_hit (AW.tn ?_)
     obtain ⟨y55, y56, e57, h⟩ := bind2_some h
     refine AW.sg tt_okL9 [(18, vi64 y56), (17, vi64 y55)] [] [] 11 [ho (p := (0 ≤ (2 : Int)) ∧ ((2 : Int) < ((3 : Nat) : Int))) (⟨(by decide), (by decide)⟩), ho (p := 2 < 3) (by decide), ho (p := (0 ≤ (0 : Int)) ∧ ((0 : Int) < ((3 : Nat) : Int))) (⟨(by decide), (by decide)⟩), ho (p := 0 < 3) (by decide), hk (rl_ref11_Compare_con (x54.getD 2 dS_api_Rational) (x54.getD 0 dS_api_Rational) (y55, y56) e57)] (by kernel_rfl) ?_
     obtain ⟨y58, y59, e60, h⟩ := bind2_some h
     refine AW.sg tt_okL9 [(20, vi64 y59), (19, vi64 y58)] [] [] 20 [ho (p := (0 ≤ (0 : Int)) ∧ ((0 : Int) < ((3 : Nat) : Int))) (⟨(by decide), (by decide)⟩), ho (p := 0 < 3) (by decide), ho (p := (0 ≤ (1 : Int)) ∧ ((1 : Int) < ((3 : Nat) : Int))) (⟨(by decide), (by decide)⟩), ho (p := 1 < 3) (by decide), hk (rl_ref11_Compare_con (x54.getD 0 dS_api_Rational) (x54.getD 1 dS_api_Rational) (y58, y59) e60)] (by kernel_rfl) ?_
     refine AW.sg tt_okL9 [(21, vi64 0)] [] [] 21 [] (by kernel_rfl) ?_
     refine AW.seq ?_
     refine AW.join (ι := Int) (fun v => ⟨[(17, vi64 y55), (18, vi64 y56), (19, vi64 y58), (20, vi64 y59), (21, vi64 v)], [], 0⟩) (fun v : Int => rl_law24_EmAgreement_k4 y55 y56 y58 y59 v = some r) (fun x61 h => ?_) ?_
     ·
      unfold rl_law24_EmAgreement_k4 at h
      refine AW.tn (AW.seq ?_)
      refine AW.join (ι := Bool) (fun v => ⟨[(4, vb v)], [], 0⟩) (fun v : Bool => rl_law24_EmAgreement_k5 v = some r) (fun x62 h => ?_) ?_
      ·
       unfold rl_law24_EmAgreement_k5 at h
       refine AW.tn (AW.ret ?_)
       obtain rfl := some_inj h
       exact fn0 (.inr rfl) [] 0 (vb x62) (by kernel_rfl)
      ·
       rcases ifs h with ⟨c63, h⟩ | ⟨c63, h⟩
       ·
        rcases ifs h with ⟨c64, h⟩ | ⟨c64, h⟩
        ·
         rcases ifs h with ⟨c65, h⟩ | ⟨c65, h⟩
         ·
          refine AW.rg tt_okL9 [(4, vb (y58 == x61))] [] [] 17 [hn, ht c63, hn, hn, ht c64, hn, hn, hn, hn, ht c65] (by kernel_rfl) ?_
          exact jl (y58 == x61) h (conv_re [] (by kernel_rfl))
         ·
          refine AW.rg tt_okL9 [(4, vb false)] [] [] 17 [hn, ht c63, hn, hn, ht c64, hn, hn, hn, hn, hf c65] (by kernel_rfl) ?_
          exact jl false h (conv_re [] (by kernel_rfl))
        ·
         refine AW.rg tt_okL9 [(4, vb false)] [] [] 17 [hn, ht c63, hn, hn, hf c64] (by kernel_rfl) ?_
         exact jl false h (conv_re [] (by kernel_rfl))
       ·
        refine AW.rg tt_okL9 [(4, vb false)] [] [] 17 [hn, hf c63] (by kernel_rfl) ?_
        exact jl false h (conv_re [] (by kernel_rfl))
     ·
      obtain ⟨g66, g67, h⟩ := ifd h
      obtain ⟨g68, h⟩ := ifc h
      refine AW.sd tt_okL9 moL9 [] [(105, vb (decide ((y10.Match.getD (((i64.wrap p1).tmod (i64.wrap (1 + y7))).toNat) 0) > (y10.Random.getD (((i64.wrap p1).tmod (i64.wrap (1 + y7))).toNat) 0))))] [] 32 [hn, hn, hn, hq g66 g67, hn, hn, hn, hn, hq g66 g68] (by kernel_rfl) ?_
      refine AW.co h (by kernel_rfl) (fun c69 h => ?_) (fun c69 h => ?_)
      ·
       refine AW.rg tt_okL9 [(21, vi64 1)] [] [] 33 [] (by kernel_rfl) ?_
       exact jl 1 h (conv_re [] (by kernel_rfl))
      ·
       refine AW.sd tt_okL9 moL9 [] [(116, vb (decide ((y10.Match.getD (((i64.wrap p1).tmod (i64.wrap (1 + y7))).toNat) 0) < (y10.Random.getD (((i64.wrap p1).tmod (i64.wrap (1 + y7))).toNat) 0))))] [] 43 [hn, hn, hn, hq g66 g67, hn, hn, hn, hn, hq g66 g68] (by kernel_rfl) ?_
       refine AW.co h (by kernel_rfl) (fun c70 h => ?_) (fun c70 h => ?_)
       ·
        refine AW.rg tt_okL9 [(21, vi64 (-1))] [] [] 44 [] (by kernel_rfl) ?_
        exact jl (-1) h (conv_re [] (by kernel_rfl))
       ·
        refine AW.skip ?_
        exact jl 0 h (conv_re [] (by kernel_rfl))
    ·
     replace h : rl_law24_EmAgreement_a7 = some r := h
     unfold rl_law24_EmAgreement_a7 at h
     show (_ : Exit → St → Prop) (.ret) _
     refine AW.inBlock_ret (AW.tr ?_)
     obtain rfl := some_inj h
     exact fn0 (.inr rfl) [] 0 (vb false) (by kernel_rfl)
 ·
  obtain ⟨y73, e74, h⟩ := bnd_some h
  rcases ifs h with ⟨c75, h⟩ | ⟨c75, h⟩
  ·
   refine AW.rg tt_okL9 [(28, vb true)] [] [] 7 [hk (rl_law24_awake_con y73 e74), ht c75] (by kernel_rfl) ?_
   exact jl true h (conv_re [] (by kernel_rfl))
  ·
   obtain ⟨y76, e77, h⟩ := bnd_some h
   refine AW.rg tt_okL9 [(28, vb (!y76))] [] [] 6 [hk (rl_law24_awake_con y73 e74), hf c75, hn, hn, hk (rl_make_Few_con p0 y76 e77)] (by kernel_rfl) ?_
   exact jl (!y76) h (conv_re [] (by kernel_rfl))
end Go.Proofs.Ytilpgjoidgfbiaa
