/- Printed by a program of mine (vmgen.py): Go functions, and what they come to. -/
import Derived.Test.YtilpgjoidgfbiaaVr
import Derived.Test.YtilpgjoidgfbiaaRows
import Derived.Test.YtilpgjoidgfbiaaG2
namespace Go.Proofs.Ytilpgjoidgfbiaa
open Vm
open IntKind (i64 u64 u32 u8)
set_option maxHeartbeats 10000000
set_option linter.unusedVariables false
set_option linter.unusedSimpArgs false
set_option linter.constructorNameAsVariable false
def ttlL8 : List (Nat × TI) := [(3, ⟨.int .i64, 1, 8, [.int .i64 0], false⟩), (4, ⟨.bool, 1, 1, [.bool false], false⟩), (5, ⟨.int .u8, 1, 1, [.int .u8 0], false⟩), (9, ⟨.str, 1, 16, [.string ⟨#[]⟩], false⟩), (22, ⟨.slice 3, 1, 24, [.slice none 0 0], false⟩), (23, ⟨.int .u16, 1, 2, [.int .u16 0], false⟩), (26, ⟨.ptr 72, 1, 8, [.pointer none], false⟩), (29, ⟨.slice 54, 1, 24, [.slice none 0 0], false⟩), (32, ⟨.struct [(3, 0), (22, 1), (22, 2)], 3, 56, [.int .i64 0, .slice none 0 0, .slice none 0 0], false⟩), (35, ⟨.struct [(3, 0), (3, 1), (3, 2)], 3, 24, [.int .i64 0, .int .i64 0, .int .i64 0], true⟩), (36, ⟨.int .i64, 1, 8, [.int .i64 0], false⟩), (42, ⟨.slice 69, 1, 24, [.slice none 0 0], false⟩), (44, ⟨.struct [(42, 0), (42, 1)], 2, 48, [.slice none 0 0, .slice none 0 0], false⟩), (52, ⟨.struct [(3, 0), (3, 1)], 2, 16, [.int .i64 0, .int .i64 0], true⟩), (54, ⟨.struct [(52, 0), (52, 2), (3, 4), (3, 5)], 6, 48, [.int .i64 0, .int .i64 0, .int .i64 0, .int .i64 0, .int .i64 0, .int .i64 0], true⟩), (69, ⟨.int .u32, 1, 4, [.int .u32 0], false⟩), (70, ⟨.int .u64, 1, 8, [.int .u64 0], false⟩), (72, ⟨.struct [(22, 0), (3, 1), (70, 2)], 3, 40, [.slice none 0 0, .int .i64 0, .int .u64 0], false⟩), (75, ⟨.slice 78, 1, 24, [.slice none 0 0], false⟩), (78, ⟨.struct [(52, 0), (52, 2), (3, 4)], 5, 40, [.int .i64 0, .int .i64 0, .int .i64 0, .int .i64 0, .int .i64 0], true⟩), (106, ⟨.struct [(3, 0), (22, 1), (22, 2)], 3, 56, [.int .i64 0, .slice none 0 0, .slice none 0 0], false⟩), (110, ⟨.struct [(3, 0), (3, 1), (3, 2), (3, 3)], 4, 32, [.int .i64 0, .int .i64 0, .int .i64 0, .int .i64 0], true⟩), (111, ⟨.slice 110, 1, 24, [.slice none 0 0], false⟩), (115, ⟨.arr 6 3, 6, 48, [.int .i64 0, .int .i64 0, .int .i64 0, .int .i64 0, .int .i64 0, .int .i64 0], true⟩), (121, ⟨.struct [(42, 0), (36, 1)], 2, 32, [.slice none 0 0, .int .i64 0], false⟩), (132, ⟨.slice 121, 1, 24, [.slice none 0 0], false⟩)]
theorem tt_okL8 : TTok Try.prog (Vm.look ttlL8) := ttok_of ⟨⟨by kernel_rfl, by kernel_rfl, by kernel_rfl⟩, ⟨by kernel_rfl, by kernel_rfl, by kernel_rfl⟩, ⟨by kernel_rfl, by kernel_rfl, by kernel_rfl⟩, ⟨by kernel_rfl, by kernel_rfl, by kernel_rfl⟩, ⟨by kernel_rfl, by kernel_rfl, by kernel_rfl⟩, ⟨by kernel_rfl, by kernel_rfl, by kernel_rfl⟩, ⟨by kernel_rfl, by kernel_rfl, by kernel_rfl⟩, ⟨by kernel_rfl, by kernel_rfl, by kernel_rfl⟩, ⟨by kernel_rfl, by kernel_rfl, by kernel_rfl⟩, ⟨by kernel_rfl, by kernel_rfl, by kernel_rfl⟩, ⟨by kernel_rfl, by kernel_rfl, by kernel_rfl⟩, ⟨by kernel_rfl, by kernel_rfl, by kernel_rfl⟩, ⟨by kernel_rfl, by kernel_rfl, by kernel_rfl⟩, ⟨by kernel_rfl, by kernel_rfl, by kernel_rfl⟩, ⟨by kernel_rfl, by kernel_rfl, by kernel_rfl⟩, ⟨by kernel_rfl, by kernel_rfl, by kernel_rfl⟩, ⟨by kernel_rfl, by kernel_rfl, by kernel_rfl⟩, ⟨by kernel_rfl, by kernel_rfl, by kernel_rfl⟩, ⟨by kernel_rfl, by kernel_rfl, by kernel_rfl⟩, ⟨by kernel_rfl, by kernel_rfl, by kernel_rfl⟩, ⟨by kernel_rfl, by kernel_rfl, by kernel_rfl⟩, ⟨by kernel_rfl, by kernel_rfl, by kernel_rfl⟩, ⟨by kernel_rfl, by kernel_rfl, by kernel_rfl⟩, ⟨by kernel_rfl, by kernel_rfl, by kernel_rfl⟩, ⟨by kernel_rfl, by kernel_rfl, by kernel_rfl⟩, ⟨by kernel_rfl, by kernel_rfl, by kernel_rfl⟩, trivial⟩
theorem moL8 : Try.prog.follows .mixedOrders = true := by kernel_rfl
/-! recordlink/recordlinklaw24.EmOrder -/
noncomputable def rl_law24_EmOrder_l2 (y10 : S_em_model) (x19 : Int) (x20 : List Int) (x21 : List Int) : Option ((Int × (List Int) × (List Int)) ⊕ ((List Int) × (List Int))) := if (decide (x19 ≥ 0)) = true then (if 0 ≤ x19 then (if x19 < ((y10.Match.length : Nat) : Int) then (if x20.length + ([(y10.Match.getD (0 + x19.toNat) 0)] : List Int).length ≤ 1099511627776 then (if x19 < ((y10.Random.length : Nat) : Int) then (if x21.length + ([(y10.Random.getD (0 + x19.toNat) 0)] : List Int).length ≤ 1099511627776 then (some (.inl (i64.wrap (x19 - 1), (x20 ++ ([(y10.Match.getD (0 + x19.toNat) 0)] : List Int)), (x21 ++ ([(y10.Random.getD (0 + x19.toNat) 0)] : List Int))))) else none) else none) else none) else none) else none) else (some (.inr (x20, x21)))
noncomputable def rl_law24_EmOrder_l4 (y40 : List Int) (x45 : List Int) (x46 : Int) : Option (((List Int) × Int) ⊕ (List Int)) := if (decide (x46 ≥ 0)) = true then (if 0 ≤ x46 then (if x46 < (y40.length : Int) then (if x45.length + ([(y40.getD (0 + x46.toNat) 0)] : List Int).length ≤ 1099511627776 then (some (.inl ((x45 ++ ([(y40.getD (0 + x46.toNat) 0)] : List Int)), i64.wrap (x46 - 1)))) else none) else none) else none) else (some (.inr x45))
noncomputable def rl_law24_EmOrder_l3 (y7 : Int) (y13 : List Int) (x36 : List Int) (x37 : Int) : Option (((List Int) × Int) ⊕ (List Int)) := if (decide (x37 < (y13.length : Int))) = true then (bind2 (rl_ref17_Digits x37 (i64.wrap (2 + y7))) fun y40 y41 => ((loop (fun v : (List Int) × Int => rl_law24_EmOrder_l4 y40 v.1 v.2) (([] : List Int), i64.wrap ((i64.wrap (2 + y7)) - 1))).bind fun x52 => (bind2 (rl_ref17_Number x52) fun y53 y54 => (if 0 ≤ x37 then (if x37 < (y13.length : Int) then (if 0 ≤ y53 then (if y53 < (x36.length : Int) then (some (.inl ((x36.set (0 + y53.toNat) (y13.getD (0 + x37.toNat) 0)), i64.wrap (x37 + 1)))) else none) else none) else none) else none)))) else (some (.inr x36))
noncomputable def rl_law24_EmOrder_k7 (x71 : Int) (x73 : Bool) : Option (Int ⊕ (Unit ⊕ Unit)) := if x73 = true then (some (.inr (.inr ()))) else (some (.inl (i64.wrap (x71 + 1))))
noncomputable def rl_law24_EmOrder_l6 (y7 : Int) (y62 : S_em_model) (y65 : S_em_model) (x71 : Int) : Option (Int ⊕ (Unit ⊕ Unit)) := if (decide (x71 < (i64.wrap (2 + y7)))) = true then (if 0 ≤ x71 then (if x71 < ((y62.Match.length : Nat) : Int) then (if 0 ≤ (i64.wrap ((i64.wrap ((i64.wrap (2 + y7)) - 1)) - x71)) then (if (i64.wrap ((i64.wrap ((i64.wrap (2 + y7)) - 1)) - x71)) < ((y65.Match.length : Nat) : Int) then (if ((y62.Match.getD (0 + x71.toNat) 0) != (y65.Match.getD (0 + (i64.wrap ((i64.wrap ((i64.wrap (2 + y7)) - 1)) - x71)).toNat) 0)) = true then (rl_law24_EmOrder_k7 x71 true) else (if x71 < ((y62.Random.length : Nat) : Int) then (if (i64.wrap ((i64.wrap ((i64.wrap (2 + y7)) - 1)) - x71)) < ((y65.Random.length : Nat) : Int) then (rl_law24_EmOrder_k7 x71 ((y62.Random.getD (0 + x71.toNat) 0) != (y65.Random.getD (0 + (i64.wrap ((i64.wrap ((i64.wrap (2 + y7)) - 1)) - x71)).toNat) 0))) else none) else none)) else none) else none) else none) else none) else (some (.inr (.inl ())))
noncomputable def rl_law24_EmOrder_a8 : Option Bool := some true
noncomputable def rl_law24_EmOrder_a9 : Option Bool := some false
noncomputable def rl_law24_EmOrder_k5 (y7 : Int) (y62 : S_em_model) (y65 : S_em_model) (x68 : Bool) : Option Bool := if x68 = true then (some false) else (bindE (loop (fun v : Int => rl_law24_EmOrder_l6 y7 y62 y65 v) 0) (fun t => rl_law24_EmOrder_a8) (fun t => rl_law24_EmOrder_a9))
noncomputable def rl_law24_EmOrder_k1 (p0 : List Int) (x1 : Bool) : Option Bool := if x1 = true then ((rl_law24_awake).bind fun y3 => (some y3)) else ((rl_make_New p0).bind fun y5 => (bind2 (rl_make_Deck_Next y5 2) fun y7 y8 => (bind2 (rl_make_Deck_Model y8 (i64.wrap (2 + y7))) fun y10 y11 => (bind2 (rl_make_Deck_Counts y11 (i64.wrap (2 + y7))) fun y13 y14 => (bind2 (loop (fun v : Int × (List Int) × (List Int) => rl_law24_EmOrder_l2 y10 v.1 v.2.1 v.2.2) (i64.wrap ((i64.wrap (2 + y7)) - 1), ([] : List Int), ([] : List Int))) fun x30 x31 => (if 0 ≤ (y13.length : Int) then (if (y13.length : Int) ≤ 1099511627776 then ((loop (fun v : (List Int) × Int => rl_law24_EmOrder_l3 y7 y13 v.1 v.2) ((List.replicate ((y13.length : Int).toNat) (0 : Int)), 0)).bind fun x61 => (bind2 (em_Step y10 y13) fun y62 y63 => (bind2 (em_Step (⟨y10.Prior, x30, x31⟩ : S_em_model) x61) fun y65 y66 => (if (y63 != 0) = true then (rl_law24_EmOrder_k5 y7 y62 y65 true) else (if (y66 != 0) = true then (rl_law24_EmOrder_k5 y7 y62 y65 true) else (if (((y62.Match.length : Nat) : Int) != (i64.wrap (2 + y7))) = true then (rl_law24_EmOrder_k5 y7 y62 y65 true) else (if (((y65.Match.length : Nat) : Int) != (i64.wrap (2 + y7))) = true then (rl_law24_EmOrder_k5 y7 y62 y65 true) else (if (((y62.Random.length : Nat) : Int) != (i64.wrap (2 + y7))) = true then (rl_law24_EmOrder_k5 y7 y62 y65 true) else (if (((y65.Random.length : Nat) : Int) != (i64.wrap (2 + y7))) = true then (rl_law24_EmOrder_k5 y7 y62 y65 true) else (rl_law24_EmOrder_k5 y7 y62 y65 (y62.Prior != y65.Prior))))))))))) else none) else none))))))
noncomputable def rl_law24_EmOrder (p0 : List Int) : Option Bool := (rl_law24_awake).bind fun y91 => (if (!y91) = true then (rl_law24_EmOrder_k1 p0 true) else ((rl_make_Few p0).bind fun y94 => (rl_law24_EmOrder_k1 p0 (!y94))))
set_option maxRecDepth 100000 in
theorem rl_law24_EmOrder_con (p0 : List Int) (r : Bool) (h : rl_law24_EmOrder p0 = some r) : Con Try.prog 8 [vl 1 Ri64 p0] [] (vb r) [] := by
 refine con_of tt_okL8 0 Try.func8 (by kernel_rfl) rfl (by kernel_rfl) (fun base X _ => AW.post ?_)
 unfold rl_law24_EmOrder at h
 refine AW.sg tt_okL8 [] [] [] 1 [] (by kernel_rfl) ?_
 refine AW.seq (AW.seq ?_)
 refine AW.join (ι := Bool) (fun v => ⟨[(0, vl 1 Ri64 p0), (28, vb v)], [], 0⟩) (fun v : Bool => rl_law24_EmOrder_k1 p0 v = some r) (fun x1 h => ?_) ?_
 ·
  unfold rl_law24_EmOrder_k1 at h
  refine AW.tn ?_
  refine AW.co h (by kernel_rfl) (fun c2 h => ?_) (fun c2 h => ?_)
  ·
   obtain ⟨y3, e4, h⟩ := bnd_some h
   refine AW.sg tt_okL8 [(2, vb y3)] [] [] 1 [hk (rl_law24_awake_con y3 e4)] (by kernel_rfl) ?_
   refine AW.ret (AW.tr ?_)
   obtain rfl := some_inj h
   exact fn0 (.inr rfl) [] 0 (vb y3) (by kernel_rfl)
  ·
   refine AW.skip (AW.tn ?_)
   obtain ⟨y5, e6, h⟩ := bnd_some h
   refine AW.sg tt_okL8 [(3, .c (.ptr 1 3 0 0))] [1] [(1, .box 72 [cl 1 Ri64 y5.list, ci64 y5.at_, cu64 y5.state])] 3 [hn, hl [] [] 1 (rl_make_New_con p0 y5 e6)] (by kernel_rfl) ?_
   obtain ⟨y7, y8, e9, h⟩ := bind2_some h
   refine AW.sg tt_okL8 [(4, vi64 (i64.wrap (2 + y7)))] [1] [(1, .box 72 [cl 1 Ri64 y8.list, ci64 y8.at_, cu64 y8.state])] 6 [hn, hl [1] [] 0 (rl_make_Deck_Next_con y5 2 (y7, y8) e9)] (by kernel_rfl) ?_
   obtain ⟨y10, y11, e12, h⟩ := bind2_some h
   obtain ⟨y13, y14, e15, h⟩ := bind2_some h
   refine AW.sg tt_okL8 [(6, .c (.ref 12 1 0 y13.length)), (5, .c (.ptr 13 3 0 0))] [1, 8, 9, 12, 13] [(13, .box 32 [ci64 y10.Prior, .ref 8 1 0 y10.Match.length, .ref 9 1 0 y10.Random.length]), (12, .row 3 false 1 y13.length (Ri64 y13)), (8, .row 3 false 1 y10.Match.length (Ri64 y10.Match)), (9, .row 3 false 1 y10.Random.length (Ri64 y10.Random))] 16 [hn, hn, hl [1] [] 2 (rl_make_Deck_Model_con y8 (i64.wrap (2 + y7)) (y10, y11) e12), hn, hn, hl [1] [] 1 (rl_make_Deck_Counts_con y11 (i64.wrap (2 + y7)) (y13, y14) e15)] (by kernel_rfl) ?_
   refine AW.sg tt_okL8 [(7, .c (.ptr 19 3 0 0))] [19] [(19, .box 32 [ci64 y10.Prior, .t (.v (.slice none 0 0)), .t (.v (.slice none 0 0))])] 21 [] (by kernel_rfl) ?_
   refine AW.seq ?_
   refine AW.sg tt_okL8 [(8, vi64 (i64.wrap ((i64.wrap (2 + y7)) - 1)))] [] [] 24 [] (by kernel_rfl) ?_
   refine AW.block ?_
   obtain ⟨x30, x31, l90, h⟩ := bind2_some h
   refine AW.lp l90 (fun v => ⟨[(4, vi64 (i64.wrap (2 + y7))), (5, .c (.ptr 0 3 0 0)), (6, .c (.ref 1 1 0 y13.length)), (7, .c (.ptr 2 3 0 0)), (8, vi64 v.1)], [(0, .box 32 [ci64 y10.Prior, .ref 3 1 0 y10.Match.length, .ref 4 1 0 y10.Random.length]), (1, .row 3 false 1 y13.length (Ri64 y13)), (2, .box 32 [ci64 y10.Prior, .ref 5 1 0 v.2.1.length, .ref 6 1 0 v.2.2.length]), (3, .row 3 false 1 y10.Match.length (Ri64 y10.Match)), (4, .row 3 false 1 y10.Random.length (Ri64 y10.Random)), (5, .row 3 false 1 v.2.1.length (Ri64 v.2.1)), (6, .row 3 false 1 v.2.2.length (Ri64 v.2.2))], 7⟩) (fun t : (List Int) × (List Int) => (.exit 0, ⟨[(4, vi64 (i64.wrap (2 + y7))), (5, .c (.ptr 0 3 0 0)), (6, .c (.ref 1 1 0 y13.length)), (7, .c (.ptr 2 3 0 0))], [(0, .box 32 [ci64 y10.Prior, .ref 3 1 0 y10.Match.length, .ref 4 1 0 y10.Random.length]), (1, .row 3 false 1 y13.length (Ri64 y13)), (2, .box 32 [ci64 y10.Prior, .ref 5 1 0 t.1.length, .ref 6 1 0 t.2.length]), (3, .row 3 false 1 y10.Match.length (Ri64 y10.Match)), (4, .row 3 false 1 y10.Random.length (Ri64 y10.Random)), (5, .row 3 false 1 t.1.length (Ri64 t.1)), (6, .row 3 false 1 t.2.length (Ri64 t.2))], 7⟩)) (Conv.trans (conv_adoptB (id := 19) (ty0 := 32) (cs := [ci64 y10.Prior, .t (.v (.slice none 0 0)), .t (.v (.slice none 0 0))]) 1 (ty := 3) (sz := 1) (n := ([] : List Int).length) (f := Ri64 ([] : List Int)) (by kernel_rfl) (by kernel_rfl) rfl) (Conv.trans (conv_adoptB (id := 19) (ty0 := 32) (cs := [ci64 y10.Prior, .ref 24 1 0 (([] : List Int).length), .t (.v (.slice none 0 0))]) 2 (ty := 3) (sz := 1) (n := ([] : List Int).length) (f := Ri64 ([] : List Int)) (by kernel_rfl) (by kernel_rfl) rfl) (conv_re [(0, 13), (1, 12), (2, 19), (3, 8), (4, 9), (5, 24), (6, 25)] (by kernel_rfl)))) (fun _ => tv) ?_ ?_
   ·
    clear l90 h
    intro v o h
    obtain ⟨x19, x20, x21⟩ := v
    replace h : rl_law24_EmOrder_l2 y10 x19 x20 x21 = some o := h
    unfold rl_law24_EmOrder_l2 at h
    refine AW.seq ?_
    refine AW.sg tt_okL8 [(47, vb (decide (x19 ≥ 0)))] [] [] 9 [] (by kernel_rfl) ?_
    refine AW.co h (by kernel_rfl) (fun c24 h => ?_) (fun c24 h => ?_)
    ·
     refine AW.skip (AW.tn ?_)
     refine AW.seq (AW.block ?_)
     obtain ⟨g25, g26, h⟩ := ifd h
     obtain ⟨g27, h⟩ := ifc h
     refine AW.sd tt_okL8 moL8 [[], [], [], [], [], [], [], [16], [17, 5], [], [2]] [] [(2, .box 32 [ci64 y10.Prior, .ref 17 1 0 ((x20 ++ ([(y10.Match.getD (0 + x19.toNat) 0)] : List Int)).length), .ref 6 1 0 x21.length]), (17, .row 3 false 1 (x20 ++ ([(y10.Match.getD (0 + x19.toNat) 0)] : List Int)).length (Ri64 (x20 ++ ([(y10.Match.getD (0 + x19.toNat) 0)] : List Int))))] 20 [hn, hn, hn, hn, hn, hq g25 g26, ho (p := (0 + x19.toNat) < y10.Match.length) (by have h1 : 0 ≤ x19 := g25; have h2 : x19 < ((y10.Match.length : Nat) : Int) := g26; omega), hlit 0 Ei64 1 (fun _ => rfl) ([(y10.Match.getD (0 + x19.toNat) 0)] : List Int), happ 0 Ei64 1 8 x20 ([(y10.Match.getD (0 + x19.toNat) 0)] : List Int) g27 (by decide)] (by kernel_rfl) ?_
     obtain ⟨g28, g29, h⟩ := ifd h
     refine AW.rd tt_okL8 moL8 [[], [], [], [], [], [], [], [27], [28, 6], [], [2]] [] [(2, .box 32 [ci64 y10.Prior, .ref 17 1 0 ((x20 ++ ([(y10.Match.getD (0 + x19.toNat) 0)] : List Int)).length), .ref 28 1 0 ((x21 ++ ([(y10.Random.getD (0 + x19.toNat) 0)] : List Int)).length)]), (28, .row 3 false 1 (x21 ++ ([(y10.Random.getD (0 + x19.toNat) 0)] : List Int)).length (Ri64 (x21 ++ ([(y10.Random.getD (0 + x19.toNat) 0)] : List Int))))] 31 [hn, hn, hn, hn, hn, hq g25 g28, ho (p := (0 + x19.toNat) < y10.Random.length) (by have h1 : 0 ≤ x19 := g25; have h2 : x19 < ((y10.Random.length : Nat) : Int) := g28; omega), hlit 0 Ei64 1 (fun _ => rfl) ([(y10.Random.getD (0 + x19.toNat) 0)] : List Int), happ 0 Ei64 1 8 x21 ([(y10.Random.getD (0 + x19.toNat) 0)] : List Int) g29 (by decide)] (by kernel_rfl) ?_
     refine AW.inBlock_normal (AW.tn ?_)
     refine AW.rg tt_okL8 [(8, vi64 (i64.wrap (x19 - 1)))] [] [] 34 [] (by kernel_rfl) ?_
     exact lpn h (conv_re [(0, 0), (1, 1), (2, 2), (3, 3), (4, 4), (5, 17), (6, 28)] (by kernel_rfl))
    ·
     refine AW.exit (AW.thenQ_exit ?_)
     exact lpo h rfl (conv_re [(0, 0), (1, 1), (2, 2), (3, 3), (4, 4), (5, 5), (6, 6)] (by kernel_rfl))
   ·
    show (_ : Exit → St → Prop) (.exit 0) _
    refine AW.inBlock_hit (AW.tn ?_)
    obtain ⟨g32, g33, h⟩ := ifd h
    refine AW.sg tt_okL8 [(9, .c (.ref 9 1 0 ((List.replicate ((y13.length : Int).toNat) (0 : Int)).length)))] [9] [(9, .row 3 false 1 (List.replicate ((y13.length : Int).toNat) (0 : Int)).length (Ri64 (List.replicate ((y13.length : Int).toNat) (0 : Int))))] 11 [hn, hn, hmk 0 Ei64 1 8 [.int .i64 0] rfl rfl (y13.length : Int) (y13.length : Int) g32 (Int.le_refl _) g33 (by decide)] (by kernel_rfl) ?_
    refine AW.seq ?_
    refine AW.sg tt_okL8 [(75, vi64 0), (74, vi64 (y13.length : Int))] [] [] 14 [] (by kernel_rfl) ?_
    refine AW.block ?_
    obtain ⟨x61, l89, h⟩ := bnd_some h
    refine AW.lp l89 (fun v => ⟨[(4, vi64 (i64.wrap (2 + y7))), (5, .c (.ptr 0 3 0 0)), (6, .c (.ref 1 1 0 y13.length)), (7, .c (.ptr 2 3 0 0)), (9, .c (.ref 3 1 0 v.1.length)), (74, vi64 (y13.length : Int)), (75, vi64 v.2)], [(0, .box 32 [ci64 y10.Prior, .ref 4 1 0 y10.Match.length, .ref 5 1 0 y10.Random.length]), (1, .row 3 false 1 y13.length (Ri64 y13)), (2, .box 32 [ci64 y10.Prior, .ref 6 1 0 x30.length, .ref 7 1 0 x31.length]), (3, .row 3 false 1 v.1.length (Ri64 v.1)), (4, .row 3 false 1 y10.Match.length (Ri64 y10.Match)), (5, .row 3 false 1 y10.Random.length (Ri64 y10.Random)), (6, .row 3 false 1 x30.length (Ri64 x30)), (7, .row 3 false 1 x31.length (Ri64 x31))], 8⟩) (fun t : List Int => (.exit 2, ⟨[(4, vi64 (i64.wrap (2 + y7))), (5, .c (.ptr 0 3 0 0)), (6, .c (.ref 1 1 0 y13.length)), (7, .c (.ptr 2 3 0 0)), (9, .c (.ref 3 1 0 t.length))], [(0, .box 32 [ci64 y10.Prior, .ref 4 1 0 y10.Match.length, .ref 5 1 0 y10.Random.length]), (1, .row 3 false 1 y13.length (Ri64 y13)), (2, .box 32 [ci64 y10.Prior, .ref 6 1 0 x30.length, .ref 7 1 0 x31.length]), (3, .row 3 false 1 t.length (Ri64 t)), (4, .row 3 false 1 y10.Match.length (Ri64 y10.Match)), (5, .row 3 false 1 y10.Random.length (Ri64 y10.Random)), (6, .row 3 false 1 x30.length (Ri64 x30)), (7, .row 3 false 1 x31.length (Ri64 x31))], 8⟩)) (conv_re [(0, 0), (1, 1), (2, 2), (3, 9), (4, 3), (5, 4), (6, 5), (7, 6)] (by kernel_rfl)) (fun _ => tv) ?_ ?_
    ·
     clear l89 h
     intro v o h
     obtain ⟨x36, x37⟩ := v
     replace h : rl_law24_EmOrder_l3 y7 y13 x36 x37 = some o := h
     unfold rl_law24_EmOrder_l3 at h
     refine AW.sg tt_okL8 [(76, vb (decide (x37 < (y13.length : Int))))] [] [] 9 [] (by kernel_rfl) ?_
     refine AW.seq ?_
     refine AW.co h (by kernel_rfl) (fun c39 h => ?_) (fun c39 h => ?_)
     ·
      refine AW.skip (AW.tn ?_)
      refine AW.seq (AW.block ?_)
      refine AW.sg tt_okL8 [(10, vi64 x37)] [] [] 11 [] (by kernel_rfl) ?_
      obtain ⟨y40, y41, e42, h⟩ := bind2_some h
      refine AW.sg tt_okL8 [(11, .c (.ref 13 1 0 y40.length))] [13] [(13, .row 3 false 1 y40.length (Ri64 y40))] 19 [hn, hn, hm [] [] 1 (rl_ref17_Digits_con x37 (i64.wrap (2 + y7)) (y40, y41) e42) ⟨rowL_flat Vi64 _ _ _, tv⟩] (by kernel_rfl) ?_
      refine AW.sg tt_okL8 [(13, .c (.t (.v (.slice none 0 0))))] [] [] 20 [] (by kernel_rfl) ?_
      refine AW.seq ?_
      refine AW.sg tt_okL8 [(14, vi64 (i64.wrap ((i64.wrap (2 + y7)) - 1)))] [] [] 23 [] (by kernel_rfl) ?_
      refine AW.block ?_
      obtain ⟨x52, l60, h⟩ := bnd_some h
      refine AW.lp l60 (fun v => ⟨[(4, vi64 (i64.wrap (2 + y7))), (5, .c (.ptr 0 3 0 0)), (6, .c (.ref 1 1 0 y13.length)), (7, .c (.ptr 2 3 0 0)), (9, .c (.ref 3 1 0 x36.length)), (10, vi64 x37), (11, .c (.ref 4 1 0 y40.length)), (13, .c (.ref 5 1 0 v.1.length)), (14, vi64 v.2), (74, vi64 (y13.length : Int)), (75, vi64 x37)], [(0, .box 32 [ci64 y10.Prior, .ref 6 1 0 y10.Match.length, .ref 7 1 0 y10.Random.length]), (1, .row 3 false 1 y13.length (Ri64 y13)), (2, .box 32 [ci64 y10.Prior, .ref 8 1 0 x30.length, .ref 9 1 0 x31.length]), (3, .row 3 false 1 x36.length (Ri64 x36)), (4, .row 3 false 1 y40.length (Ri64 y40)), (5, .row 3 false 1 v.1.length (Ri64 v.1)), (6, .row 3 false 1 y10.Match.length (Ri64 y10.Match)), (7, .row 3 false 1 y10.Random.length (Ri64 y10.Random)), (8, .row 3 false 1 x30.length (Ri64 x30)), (9, .row 3 false 1 x31.length (Ri64 x31))], 10⟩) (fun t : List Int => (.exit 4, ⟨[(4, vi64 (i64.wrap (2 + y7))), (5, .c (.ptr 0 3 0 0)), (6, .c (.ref 1 1 0 y13.length)), (7, .c (.ptr 2 3 0 0)), (9, .c (.ref 3 1 0 x36.length)), (10, vi64 x37), (13, .c (.ref 4 1 0 t.length)), (74, vi64 (y13.length : Int)), (75, vi64 x37)], [(0, .box 32 [ci64 y10.Prior, .ref 5 1 0 y10.Match.length, .ref 6 1 0 y10.Random.length]), (1, .row 3 false 1 y13.length (Ri64 y13)), (2, .box 32 [ci64 y10.Prior, .ref 7 1 0 x30.length, .ref 8 1 0 x31.length]), (3, .row 3 false 1 x36.length (Ri64 x36)), (4, .row 3 false 1 t.length (Ri64 t)), (5, .row 3 false 1 y10.Match.length (Ri64 y10.Match)), (6, .row 3 false 1 y10.Random.length (Ri64 y10.Random)), (7, .row 3 false 1 x30.length (Ri64 x30)), (8, .row 3 false 1 x31.length (Ri64 x31))], 9⟩)) (Conv.trans (conv_adopt (t := 13) (ty := 3) (sz := 1) (n := ([] : List Int).length) (f := Ri64 ([] : List Int)) (by kernel_rfl) rfl) (conv_re [(0, 0), (1, 1), (2, 2), (3, 3), (4, 13), (5, 23), (6, 4), (7, 5), (8, 6), (9, 7)] (by kernel_rfl))) (fun _ => tv) ?_ ?_
      ·
       clear l60 h
       intro v o h
       obtain ⟨x45, x46⟩ := v
       replace h : rl_law24_EmOrder_l4 y40 x45 x46 = some o := h
       unfold rl_law24_EmOrder_l4 at h
       refine AW.seq ?_
       refine AW.sg tt_okL8 [(87, vb (decide (x46 ≥ 0)))] [] [] 12 [] (by kernel_rfl) ?_
       refine AW.co h (by kernel_rfl) (fun c48 h => ?_) (fun c48 h => ?_)
       ·
        refine AW.skip (AW.tn ?_)
        refine AW.seq (AW.block ?_)
        obtain ⟨g49, g50, h⟩ := ifd h
        obtain ⟨g51, h⟩ := ifc h
        refine AW.rg tt_okL8 [(13, .c (.ref 18 1 0 ((x45 ++ ([(y40.getD (0 + x46.toNat) 0)] : List Int)).length)))] [5, 17, 18] [(18, .row 3 false 1 (x45 ++ ([(y40.getD (0 + x46.toNat) 0)] : List Int)).length (Ri64 (x45 ++ ([(y40.getD (0 + x46.toNat) 0)] : List Int))))] 20 [hn, hn, hn, hq g49 g50, ho (p := (0 + x46.toNat) < y40.length) (by have h1 : 0 ≤ x46 := g49; have h2 : x46 < (y40.length : Int) := g50; omega), hlit 0 Ei64 1 (fun _ => rfl) ([(y40.getD (0 + x46.toNat) 0)] : List Int), happ 0 Ei64 1 8 x45 ([(y40.getD (0 + x46.toNat) 0)] : List Int) g51 (by decide)] (by kernel_rfl) ?_
        refine AW.inBlock_normal (AW.tn ?_)
        refine AW.rg tt_okL8 [(14, vi64 (i64.wrap (x46 - 1)))] [] [] 23 [] (by kernel_rfl) ?_
        exact lpn h (conv_re [(0, 0), (1, 1), (2, 2), (3, 3), (4, 4), (5, 18), (6, 6), (7, 7), (8, 8), (9, 9)] (by kernel_rfl))
       ·
        refine AW.exit (AW.thenQ_exit ?_)
        exact lpo h rfl (conv_re [(0, 0), (1, 1), (2, 2), (3, 3), (4, 5), (5, 6), (6, 7), (7, 8), (8, 9)] (by kernel_rfl))
      ·
       show (_ : Exit → St → Prop) (.exit 4) _
       refine AW.inBlock_hit (AW.tn ?_)
       obtain ⟨y53, y54, e55, h⟩ := bind2_some h
       refine AW.sg tt_okL8 [(15, vi64 y53)] [] [] 15 [hn, hg [] [] true 0 (q := (0 + x52.length ≤ x52.length) ∧ (True)) ⟨le0, tv⟩ (a0 := [vl 1 Ri64 x52]) (rl_ref17_Number_con x52 (y53, y54) e55) ⟨ArgLe.refl _, tv⟩ (fun _ => tv)] (by kernel_rfl) ?_
       obtain ⟨g56, g57, h⟩ := ifd h
       obtain ⟨g58, g59, h⟩ := ifd h
       refine AW.rg tt_okL8 [] [3] [(3, .row 3 false 1 x36.length (Ri64 (x36.set (0 + y53.toNat) (y13.getD (0 + x37.toNat) 0))))] 23 [hn, hn, hn, hn, hq g56 g57, ho (p := (0 + x37.toNat) < y13.length) (by have h1 : 0 ≤ x37 := g56; have h2 : x37 < (y13.length : Int) := g57; omega), hq g58 g59, hset 0 Ei64 x36 (0 + y53.toNat) (y13.getD (0 + x37.toNat) 0) (n := x36.length) (by have h1 : 0 ≤ y53 := g58; have h2 : y53 < (x36.length : Int) := g59; omega) rfl] (by kernel_rfl) ?_
       refine AW.inBlock_normal (AW.tn ?_)
       refine AW.rg tt_okL8 [(75, vi64 (i64.wrap (x37 + 1)))] [] [] 25 [] (by kernel_rfl) ?_
       exact lpn h (Conv.trans (conv_tms [(9, .c (.ref 3 1 0 ((x36.set (0 + y53.toNat) (y13.getD (0 + x37.toNat) 0)).length)))] ⟨⟨.c (.ref 3 1 0 x36.length), by kernel_rfl, ALe.len (by simp only [List.length_set])⟩, tv⟩) (Conv.trans (conv_rowN 3 3 false 1 x36.length ((x36.set (0 + y53.toNat) (y13.getD (0 + x37.toNat) 0)).length) (Ri64 (x36.set (0 + y53.toNat) (y13.getD (0 + x37.toNat) 0))) (by kernel_rfl) (by simp only [List.length_set])) (conv_re [(0, 0), (1, 1), (2, 2), (3, 3), (4, 5), (5, 6), (6, 7), (7, 8)] (by kernel_rfl))))
     ·
      refine AW.exit (AW.thenQ_exit ?_)
      exact lpo h rfl (conv_re [(0, 0), (1, 1), (2, 2), (3, 3), (4, 4), (5, 5), (6, 6), (7, 7)] (by kernel_rfl))
    ·
     show (_ : Exit → St → Prop) (.exit 2) _
     refine AW.inBlock_hit (AW.tn ?_)
     obtain ⟨y62, y63, e64, h⟩ := bind2_some h
     refine AW.sg tt_okL8 [(18, vi64 y63), (17, .c (.ptr 15 3 0 0))] [10, 11, 15] [(15, .box 32 [ci64 y62.Prior, .ref 10 1 0 y62.Match.length, .ref 11 1 0 y62.Random.length]), (10, .row 3 false 1 y62.Match.length (Ri64 y62.Match)), (11, .row 3 false 1 y62.Random.length (Ri64 y62.Random))] 18 [hn, hn, hg [] [] true 2 (q := ((True) ∧ (0 + y10.Match.length ≤ y10.Match.length) ∧ (0 + y10.Random.length ≤ y10.Random.length) ∧ (True)) ∧ (0 + y13.length ≤ y13.length) ∧ (True)) ⟨⟨tv, le0, le0, tv⟩, le0, tv⟩ (a0 := [.agg [ci64 y10.Prior, cl 1 Ri64 y10.Match, cl 1 Ri64 y10.Random], vl 1 Ri64 y13]) (em_Step_con y10 y13 (y62, y63) e64) ⟨ArgLe.refl _, ArgLe.refl _, tv⟩ (fun _ => ⟨rowL_flat Vi64 _ _ _, rowL_flat Vi64 _ _ _, tv⟩)] (by kernel_rfl) ?_
     obtain ⟨y65, y66, e67, h⟩ := bind2_some h
     refine AW.sg tt_okL8 [(20, vi64 y66), (19, .c (.ptr 25 3 0 0))] [20, 21, 25] [(25, .box 32 [ci64 y65.Prior, .ref 20 1 0 y65.Match.length, .ref 21 1 0 y65.Random.length]), (20, .row 3 false 1 y65.Match.length (Ri64 y65.Match)), (21, .row 3 false 1 y65.Random.length (Ri64 y65.Random))] 28 [hn, hn, hg [] [] true 2 (q := ((True) ∧ (0 + x30.length ≤ x30.length) ∧ (0 + x31.length ≤ x31.length) ∧ (True)) ∧ (0 + x61.length ≤ x61.length) ∧ (True)) ⟨⟨tv, le0, le0, tv⟩, le0, tv⟩ (a0 := [.agg [ci64 y10.Prior, cl 1 Ri64 x30, cl 1 Ri64 x31], vl 1 Ri64 x61]) (em_Step_con (⟨y10.Prior, x30, x31⟩ : S_em_model) x61 (y65, y66) e67) ⟨ArgLe.refl _, ArgLe.refl _, tv⟩ (fun _ => ⟨rowL_flat Vi64 _ _ _, rowL_flat Vi64 _ _ _, tv⟩)] (by kernel_rfl) ?_
     refine AW.seq (AW.seq ?_)
     refine AW.join (ι := Bool) (fun v => ⟨[(4, vi64 (i64.wrap (2 + y7))), (17, .c (.ptr 0 3 0 0)), (19, .c (.ptr 1 3 0 0)), (162, vb v)], [(0, .box 32 [ci64 y62.Prior, .ref 2 1 0 y62.Match.length, .ref 3 1 0 y62.Random.length]), (1, .box 32 [ci64 y65.Prior, .ref 4 1 0 y65.Match.length, .ref 5 1 0 y65.Random.length]), (2, .row 3 false 1 y62.Match.length (Ri64 y62.Match)), (3, .row 3 false 1 y62.Random.length (Ri64 y62.Random)), (4, .row 3 false 1 y65.Match.length (Ri64 y65.Match)), (5, .row 3 false 1 y65.Random.length (Ri64 y65.Random))], 6⟩) (fun v : Bool => rl_law24_EmOrder_k5 y7 y62 y65 v = some r) (fun x68 h => ?_) ?_
     ·
      unfold rl_law24_EmOrder_k5 at h
      refine AW.tn ?_
      refine AW.co h (by kernel_rfl) (fun c69 h => ?_) (fun c69 h => ?_)
      ·
       refine AW.sg tt_okL8 [(2, vb false)] [] [] 7 [] (by kernel_rfl) ?_
       refine AW.ret (AW.tr ?_)
       obtain rfl := some_inj h
       exact fn0 (.inr rfl) [] 0 (vb false) (by kernel_rfl)
      ·
       refine AW.skip (AW.tn (AW.seq ?_))
       refine AW.sg tt_okL8 [(21, vi64 0)] [] [] 7 [] (by kernel_rfl) ?_
       refine AW.block ?_
       refine AW.lpE h (fun v => ⟨[(4, vi64 (i64.wrap (2 + y7))), (17, .c (.ptr 0 3 0 0)), (19, .c (.ptr 1 3 0 0)), (21, vi64 v)], [(0, .box 32 [ci64 y62.Prior, .ref 2 1 0 y62.Match.length, .ref 3 1 0 y62.Random.length]), (1, .box 32 [ci64 y65.Prior, .ref 4 1 0 y65.Match.length, .ref 5 1 0 y65.Random.length]), (2, .row 3 false 1 y62.Match.length (Ri64 y62.Match)), (3, .row 3 false 1 y62.Random.length (Ri64 y62.Random)), (4, .row 3 false 1 y65.Match.length (Ri64 y65.Match)), (5, .row 3 false 1 y65.Random.length (Ri64 y65.Random))], 6⟩) (fun t => (.exit 6, ⟨[], [], 0⟩)) (fun t => (.ret, ⟨[(2, vb false)], [], 0⟩)) (conv_re [(0, 0), (1, 1), (2, 2), (3, 3), (4, 4), (5, 5)] (by kernel_rfl)) (fun _ => tv) (fun _ => tv) ?_ (fun t h => ?_) (fun t h => ?_)
       ·
        clear h
        intro x71 o h
        unfold rl_law24_EmOrder_l6 at h
        refine AW.seq ?_
        refine AW.sg tt_okL8 [(165, vb (decide (x71 < (i64.wrap (2 + y7)))))] [] [] 9 [] (by kernel_rfl) ?_
        refine AW.co h (by kernel_rfl) (fun c72 h => ?_) (fun c72 h => ?_)
        ·
         refine AW.skip (AW.tn ?_)
         refine AW.seq (AW.block (AW.seq ?_))
         refine AW.join (ι := Bool) (fun v => ⟨[(4, vi64 (i64.wrap (2 + y7))), (17, .c (.ptr 0 3 0 0)), (19, .c (.ptr 1 3 0 0)), (21, vi64 x71), (197, vb v)], [(0, .box 32 [ci64 y62.Prior, .ref 2 1 0 y62.Match.length, .ref 3 1 0 y62.Random.length]), (1, .box 32 [ci64 y65.Prior, .ref 4 1 0 y65.Match.length, .ref 5 1 0 y65.Random.length]), (2, .row 3 false 1 y62.Match.length (Ri64 y62.Match)), (3, .row 3 false 1 y62.Random.length (Ri64 y62.Random)), (4, .row 3 false 1 y65.Match.length (Ri64 y65.Match)), (5, .row 3 false 1 y65.Random.length (Ri64 y65.Random))], 6⟩) (fun v : Bool => rl_law24_EmOrder_k7 x71 v = some o) (fun x73 h => ?_) ?_
         ·
          unfold rl_law24_EmOrder_k7 at h
          refine AW.tn ?_
          refine AW.co h (by kernel_rfl) (fun c74 h => ?_) (fun c74 h => ?_)
          ·
           refine AW.sg tt_okL8 [(2, vb false)] [] [] 7 [] (by kernel_rfl) ?_
           refine AW.ret (AW.inBlock_ret (AW.tr ?_))
           exact lpo h rfl (conv_re [] (by kernel_rfl))
          ·
           refine AW.skip (AW.inBlock_normal (AW.tn ?_))
           refine AW.rg tt_okL8 [(21, vi64 (i64.wrap (x71 + 1)))] [] [] 9 [] (by kernel_rfl) ?_
           exact lpn h (conv_re [(0, 0), (1, 1), (2, 2), (3, 3), (4, 4), (5, 5)] (by kernel_rfl))
         ·
          obtain ⟨g75, g76, h⟩ := ifd h
          obtain ⟨g77, g78, h⟩ := ifd h
          rcases ifs h with ⟨c79, h⟩ | ⟨c79, h⟩
          ·
           refine AW.rd tt_okL8 moL8 [] [(197, vb true)] [] 39 [hn, hn, hn, hq g75 g76, ho (p := (0 + x71.toNat) < y62.Match.length) (by have h1 : 0 ≤ x71 := g75; have h2 : x71 < ((y62.Match.length : Nat) : Int) := g76; omega), hn, hn, hn, hn, hn, hn, hq g77 g78, ho (p := (0 + (i64.wrap ((i64.wrap ((i64.wrap (2 + y7)) - 1)) - x71)).toNat) < y65.Match.length) (by have h1 : 0 ≤ (i64.wrap ((i64.wrap ((i64.wrap (2 + y7)) - 1)) - x71)) := g77; have h2 : (i64.wrap ((i64.wrap ((i64.wrap (2 + y7)) - 1)) - x71)) < ((y65.Match.length : Nat) : Int) := g78; omega), ht c79] (by kernel_rfl) ?_
           exact jl true h (conv_re [(0, 0), (1, 1), (2, 2), (3, 3), (4, 4), (5, 5)] (by kernel_rfl))
          ·
           obtain ⟨g80, g81, h⟩ := ifd h
           refine AW.rd tt_okL8 moL8 [] [(197, vb ((y62.Random.getD (0 + x71.toNat) 0) != (y65.Random.getD (0 + (i64.wrap ((i64.wrap ((i64.wrap (2 + y7)) - 1)) - x71)).toNat) 0)))] [] 39 [hn, hn, hn, hq g75 g76, ho (p := (0 + x71.toNat) < y62.Match.length) (by have h1 : 0 ≤ x71 := g75; have h2 : x71 < ((y62.Match.length : Nat) : Int) := g76; omega), hn, hn, hn, hn, hn, hn, hq g77 g78, ho (p := (0 + (i64.wrap ((i64.wrap ((i64.wrap (2 + y7)) - 1)) - x71)).toNat) < y65.Match.length) (by have h1 : 0 ≤ (i64.wrap ((i64.wrap ((i64.wrap (2 + y7)) - 1)) - x71)) := g77; have h2 : (i64.wrap ((i64.wrap ((i64.wrap (2 + y7)) - 1)) - x71)) < ((y65.Match.length : Nat) : Int) := g78; omega), hf c79, hn, hn, hn, hn, hq g75 g80, ho (p := (0 + x71.toNat) < y62.Random.length) (by have h1 : 0 ≤ x71 := g75; have h2 : x71 < ((y62.Random.length : Nat) : Int) := g80; omega), hn, hn, hn, hn, hn, hn, hq g77 g81, ho (p := (0 + (i64.wrap ((i64.wrap ((i64.wrap (2 + y7)) - 1)) - x71)).toNat) < y65.Random.length) (by have h1 : 0 ≤ (i64.wrap ((i64.wrap ((i64.wrap (2 + y7)) - 1)) - x71)) := g77; have h2 : (i64.wrap ((i64.wrap ((i64.wrap (2 + y7)) - 1)) - x71)) < ((y65.Random.length : Nat) : Int) := g81; omega)] (by kernel_rfl) ?_
           exact jl ((y62.Random.getD (0 + x71.toNat) 0) != (y65.Random.getD (0 + (i64.wrap ((i64.wrap ((i64.wrap (2 + y7)) - 1)) - x71)).toNat) 0)) h (conv_re [(0, 0), (1, 1), (2, 2), (3, 3), (4, 4), (5, 5)] (by kernel_rfl))
        ·
         refine AW.exit (AW.thenQ_exit ?_)
         exact lpo h rfl (conv_re [] (by kernel_rfl))
       ·
        replace h : rl_law24_EmOrder_a8 = some r := h
        unfold rl_law24_EmOrder_a8 at h
        show (_ : Exit → St → Prop) (.exit 6) _
        refine AW.inBlock_hit (AW.tn ?_)
        refine AW.sg tt_okL8 [(2, vb true)] [] [] 1 [] (by kernel_rfl) ?_
        refine AW.ret ?_
        obtain rfl := some_inj h
        exact fn0 (.inr rfl) [] 0 (vb true) (by kernel_rfl)
       ·
        replace h : rl_law24_EmOrder_a9 = some r := h
        unfold rl_law24_EmOrder_a9 at h
        show (_ : Exit → St → Prop) (.ret) _
        refine AW.inBlock_ret (AW.tr ?_)
        obtain rfl := some_inj h
        exact fn0 (.inr rfl) [] 0 (vb false) (by kernel_rfl)
     ·
      rcases ifs h with ⟨c83, h⟩ | ⟨c83, h⟩
      ·
       refine AW.rg tt_okL8 [(162, vb true)] [] [] 69 [hn, ht c83] (by kernel_rfl) ?_
       exact jl true h (conv_re [(0, 15), (1, 25), (2, 10), (3, 11), (4, 20), (5, 21)] (by kernel_rfl))
      ·
       rcases ifs h with ⟨c84, h⟩ | ⟨c84, h⟩
       ·
        refine AW.rg tt_okL8 [(162, vb true)] [] [] 69 [hn, hf c83, hn, hn, ht c84] (by kernel_rfl) ?_
        exact jl true h (conv_re [(0, 15), (1, 25), (2, 10), (3, 11), (4, 20), (5, 21)] (by kernel_rfl))
       ·
        rcases ifs h with ⟨c85, h⟩ | ⟨c85, h⟩
        ·
         refine AW.rg tt_okL8 [(162, vb true)] [] [] 69 [hn, hf c83, hn, hn, hf c84, hn, hn, hn, hn, hn, hn, ht c85] (by kernel_rfl) ?_
         exact jl true h (conv_re [(0, 15), (1, 25), (2, 10), (3, 11), (4, 20), (5, 21)] (by kernel_rfl))
        ·
         rcases ifs h with ⟨c86, h⟩ | ⟨c86, h⟩
         ·
          refine AW.rg tt_okL8 [(162, vb true)] [] [] 69 [hn, hf c83, hn, hn, hf c84, hn, hn, hn, hn, hn, hn, hf c85, hn, hn, hn, hn, hn, hn, ht c86] (by kernel_rfl) ?_
          exact jl true h (conv_re [(0, 15), (1, 25), (2, 10), (3, 11), (4, 20), (5, 21)] (by kernel_rfl))
         ·
          rcases ifs h with ⟨c87, h⟩ | ⟨c87, h⟩
          ·
           refine AW.rg tt_okL8 [(162, vb true)] [] [] 69 [hn, hf c83, hn, hn, hf c84, hn, hn, hn, hn, hn, hn, hf c85, hn, hn, hn, hn, hn, hn, hf c86, hn, hn, hn, hn, hn, hn, ht c87] (by kernel_rfl) ?_
           exact jl true h (conv_re [(0, 15), (1, 25), (2, 10), (3, 11), (4, 20), (5, 21)] (by kernel_rfl))
          ·
           rcases ifs h with ⟨c88, h⟩ | ⟨c88, h⟩
           ·
            refine AW.rg tt_okL8 [(162, vb true)] [] [] 69 [hn, hf c83, hn, hn, hf c84, hn, hn, hn, hn, hn, hn, hf c85, hn, hn, hn, hn, hn, hn, hf c86, hn, hn, hn, hn, hn, hn, hf c87, hn, hn, hn, hn, hn, hn, ht c88] (by kernel_rfl) ?_
            exact jl true h (conv_re [(0, 15), (1, 25), (2, 10), (3, 11), (4, 20), (5, 21)] (by kernel_rfl))
           ·
            refine AW.rg tt_okL8 [(162, vb (y62.Prior != y65.Prior))] [] [] 69 [hn, hf c83, hn, hn, hf c84, hn, hn, hn, hn, hn, hn, hf c85, hn, hn, hn, hn, hn, hn, hf c86, hn, hn, hn, hn, hn, hn, hf c87, hn, hn, hn, hn, hn, hn, hf c88] (by kernel_rfl) ?_
            exact jl (y62.Prior != y65.Prior) h (conv_re [(0, 15), (1, 25), (2, 10), (3, 11), (4, 20), (5, 21)] (by kernel_rfl))
 ·
  obtain ⟨y91, e92, h⟩ := bnd_some h
  rcases ifs h with ⟨c93, h⟩ | ⟨c93, h⟩
  ·
   refine AW.rg tt_okL8 [(28, vb true)] [] [] 7 [hk (rl_law24_awake_con y91 e92), ht c93] (by kernel_rfl) ?_
   exact jl true h (conv_re [] (by kernel_rfl))
  ·
   obtain ⟨y94, e95, h⟩ := bnd_some h
   refine AW.rg tt_okL8 [(28, vb (!y94))] [] [] 6 [hk (rl_law24_awake_con y91 e92), hf c93, hn, hn, hk (rl_make_Few_con p0 y94 e95)] (by kernel_rfl) ?_
   exact jl (!y94) h (conv_re [] (by kernel_rfl))
end Go.Proofs.Ytilpgjoidgfbiaa
