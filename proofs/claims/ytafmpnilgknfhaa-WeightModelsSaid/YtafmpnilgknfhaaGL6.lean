/- Printed by a program of mine (vmgen.py): Go functions, and what they come to. -/
import Derived.Test.YtafmpnilgknfhaaVr
import Derived.Test.YtafmpnilgknfhaaRows
import Derived.Test.YtafmpnilgknfhaaG1
namespace Go.Proofs.Ytafmpnilgknfhaa
open Vm
open IntKind (i64 u64 u32 u8)
set_option maxHeartbeats 10000000
set_option linter.unusedVariables false
set_option linter.unusedSimpArgs false
set_option linter.constructorNameAsVariable false
def ttlL6 : List (Nat × TI) := [(3, ⟨.int .i64, 1, 8, [.int .i64 0]⟩), (4, ⟨.bool, 1, 1, [.bool false]⟩), (5, ⟨.int .u8, 1, 1, [.int .u8 0]⟩), (9, ⟨.str, 1, 16, [.string ⟨#[]⟩]⟩), (22, ⟨.int .u16, 1, 2, [.int .u16 0]⟩), (23, ⟨.int .i64, 1, 8, [.int .i64 0]⟩), (29, ⟨.int .u64, 1, 8, [.int .u64 0]⟩), (31, ⟨.slice 3, 1, 24, [.slice none 0 0]⟩), (33, ⟨.ptr 60, 1, 8, [.pointer none]⟩), (36, ⟨.struct [(3, 0), (31, 1), (31, 2)], 3, 56, [.int .i64 0, .slice none 0 0, .slice none 0 0]⟩), (40, ⟨.struct [(3, 0), (31, 1), (31, 2)], 3, 56, [.int .i64 0, .slice none 0 0, .slice none 0 0]⟩), (53, ⟨.slice 78, 1, 24, [.slice none 0 0]⟩), (58, ⟨.int .u64, 1, 8, [.int .u64 0]⟩), (60, ⟨.struct [(31, 0), (3, 1), (58, 2)], 3, 40, [.slice none 0 0, .int .i64 0, .int .u64 0]⟩), (78, ⟨.int .u32, 1, 4, [.int .u32 0]⟩)]
theorem tt_okL6 : TTok Try.prog (Vm.look ttlL6) := ttok_of ⟨⟨by kernel_rfl, by kernel_rfl⟩, ⟨by kernel_rfl, by kernel_rfl⟩, ⟨by kernel_rfl, by kernel_rfl⟩, ⟨by kernel_rfl, by kernel_rfl⟩, ⟨by kernel_rfl, by kernel_rfl⟩, ⟨by kernel_rfl, by kernel_rfl⟩, ⟨by kernel_rfl, by kernel_rfl⟩, ⟨by kernel_rfl, by kernel_rfl⟩, ⟨by kernel_rfl, by kernel_rfl⟩, ⟨by kernel_rfl, by kernel_rfl⟩, ⟨by kernel_rfl, by kernel_rfl⟩, ⟨by kernel_rfl, by kernel_rfl⟩, ⟨by kernel_rfl, by kernel_rfl⟩, ⟨by kernel_rfl, by kernel_rfl⟩, ⟨by kernel_rfl, by kernel_rfl⟩, trivial⟩
theorem moL6 : Try.prog.follows .mixedOrders = true := by kernel_rfl
/-! recordlink/recordlinklaw25.WeightModels -/
noncomputable def rl_law25_WeightModels_k4 (x19 : Int) (x21 : Bool) : Option (Int ⊕ (Unit ⊕ Unit)) := if x21 = true then (some (.inr (.inr ()))) else (some (.inl (i64.wrap (x19 + 1))))
noncomputable def rl_law25_WeightModels_l3 (y10 : S_api_Model) (y13 : S_api_Weights) (x19 : Int) : Option (Int ⊕ (Unit ⊕ Unit)) := if (decide (x19 < ((y10.Match.length : Nat) : Int))) = true then (if 0 ≤ x19 then (if x19 < ((y13.Agree.length : Nat) : Int) then (if x19 < ((y10.Match.length : Nat) : Int) then (if x19 < ((y10.Random.length : Nat) : Int) then (if (!((decide ((y13.Agree.getD (0 + x19.toNat) 0) ≥ 0)) == (decide ((y10.Match.getD (0 + x19.toNat) 0) ≥ (y10.Random.getD (0 + x19.toNat) 0))))) = true then (rl_law25_WeightModels_k4 x19 true) else (if x19 < ((y13.Differ.length : Nat) : Int) then (rl_law25_WeightModels_k4 x19 (!((decide ((y13.Differ.getD (0 + x19.toNat) 0) ≥ 0)) == (decide ((y10.Match.getD (0 + x19.toNat) 0) ≤ (y10.Random.getD (0 + x19.toNat) 0)))))) else none)) else none) else none) else none) else none) else (some (.inr (.inl ())))
noncomputable def rl_law25_WeightModels_a5 (y10 : S_api_Model) (y13 : S_api_Weights) : Option Bool := some ((decide (y13.Prior ≥ 0)) == (decide (y10.Prior ≥ (i64.wrap (65536 - y10.Prior)))))
noncomputable def rl_law25_WeightModels_a6 : Option Bool := some false
noncomputable def rl_law25_WeightModels_k2 (y10 : S_api_Model) (y13 : S_api_Weights) (x16 : Bool) : Option Bool := if x16 = true then (some false) else (bindE (loop (fun v : Int => rl_law25_WeightModels_l3 y10 y13 v) 0) (fun t => rl_law25_WeightModels_a5 y10 y13) (fun t => rl_law25_WeightModels_a6))
noncomputable def rl_law25_WeightModels_k1 (p0 : List Int) (x1 : Bool) : Option Bool := if x1 = true then ((rl_law25_awake).bind fun y3 => (some y3)) else ((rl_make_New p0).bind fun y5 => (bind2 (rl_make_Deck_Next y5 4) fun y7 y8 => (bind2 (rl_make_Deck_Model y8 (i64.wrap (1 + y7))) fun y10 y11 => (bind2 (weight_Of y10) fun y13 y14 => (if (y14 != 0) = true then (rl_law25_WeightModels_k2 y10 y13 true) else ((weight_Check y13).bind fun y31 => (if (y31 != 0) = true then (rl_law25_WeightModels_k2 y10 y13 true) else (rl_law25_WeightModels_k2 y10 y13 (((y13.Agree.length : Nat) : Int) != ((y10.Match.length : Nat) : Int))))))))))
noncomputable def rl_law25_WeightModels (p0 : List Int) : Option Bool := (rl_law25_awake).bind fun y34 => (if (!y34) = true then (rl_law25_WeightModels_k1 p0 true) else ((rl_make_Few p0).bind fun y37 => (rl_law25_WeightModels_k1 p0 (!y37))))
set_option maxRecDepth 100000 in
theorem rl_law25_WeightModels_con (p0 : List Int) (r : Bool) (h : rl_law25_WeightModels p0 = some r) : Con Try.prog 6 [vl 1 Ri64 p0] [] (vb r) [] := by
 refine con_of tt_okL6 0 Try.func6 (by kernel_rfl) rfl (by kernel_rfl) (fun base X _ => AW.post ?_)
 unfold rl_law25_WeightModels at h
 refine AW.sg tt_okL6 [] [] [] 1 [] (by kernel_rfl) ?_
 refine AW.seq (AW.seq ?_)
 refine AW.join (ι := Bool) (fun v => ⟨[(0, vl 1 Ri64 p0), (14, vb v)], [], 0⟩) (fun v : Bool => rl_law25_WeightModels_k1 p0 v = some r) (fun x1 h => ?_) ?_
 ·
  unfold rl_law25_WeightModels_k1 at h
  refine AW.tn ?_
  refine AW.co h (by kernel_rfl) (fun c2 h => ?_) (fun c2 h => ?_)
  ·
   obtain ⟨y3, e4, h⟩ := bnd_some h
   refine AW.sg tt_okL6 [(2, vb y3)] [] [] 1 [hk (rl_law25_awake_con y3 e4)] (by kernel_rfl) ?_
   refine AW.ret (AW.tr ?_)
   obtain rfl := some_inj h
   exact fn0 (.inr rfl) [] 0 (vb y3) (by kernel_rfl)
  ·
   refine AW.skip (AW.tn ?_)
   obtain ⟨y5, e6, h⟩ := bnd_some h
   refine AW.sg tt_okL6 [(3, .c (.ptr 1 3 0 0))] [1] [(1, .box 60 [cl 1 Ri64 y5.list, ci64 y5.at_, cu64 y5.state])] 3 [hn, hl [] [] 1 (rl_make_New_con p0 y5 e6)] (by kernel_rfl) ?_
   obtain ⟨y7, y8, e9, h⟩ := bind2_some h
   obtain ⟨y10, y11, e12, h⟩ := bind2_some h
   refine AW.sg tt_okL6 [(4, .c (.ptr 8 3 0 0))] [1, 6, 7, 8] [(8, .box 36 [ci64 y10.Prior, .ref 6 1 0 y10.Match.length, .ref 7 1 0 y10.Random.length]), (6, .row 3 false 1 y10.Match.length (Ri64 y10.Match)), (7, .row 3 false 1 y10.Random.length (Ri64 y10.Random))] 10 [hn, hn, hl [1] [] 0 (rl_make_Deck_Next_con y5 4 (y7, y8) e9), hn, hl [1] [] 2 (rl_make_Deck_Model_con y8 (i64.wrap (1 + y7)) (y10, y11) e12)] (by kernel_rfl) ?_
   obtain ⟨y13, y14, e15, h⟩ := bind2_some h
   refine AW.sg tt_okL6 [(6, vi64 y14), (5, .c (.ptr 16 3 0 0))] [11, 12, 16] [(16, .box 40 [ci64 y13.Prior, .ref 11 1 0 y13.Agree.length, .ref 12 1 0 y13.Differ.length]), (11, .row 3 false 1 y13.Agree.length (Ri64 y13.Agree)), (12, .row 3 false 1 y13.Differ.length (Ri64 y13.Differ))] 19 [hn, hg [] [] true 2 (q := ((True) ∧ (0 + y10.Match.length ≤ y10.Match.length) ∧ (0 + y10.Random.length ≤ y10.Random.length) ∧ (True)) ∧ (True)) ⟨⟨tv, le0, le0, tv⟩, tv⟩ (a0 := [.agg [ci64 y10.Prior, cl 1 Ri64 y10.Match, cl 1 Ri64 y10.Random]]) (weight_Of_con y10 (y13, y14) e15) ⟨ArgLe.refl _, tv⟩ (fun _ => ⟨rowL_flat Vi64 _ _ _, rowL_flat Vi64 _ _ _, tv⟩)] (by kernel_rfl) ?_
   refine AW.seq (AW.seq ?_)
   refine AW.join (ι := Bool) (fun v => ⟨[(4, .c (.ptr 0 3 0 0)), (5, .c (.ptr 1 3 0 0)), (43, vb v)], [(0, .box 36 [ci64 y10.Prior, .ref 2 1 0 y10.Match.length, .ref 3 1 0 y10.Random.length]), (1, .box 40 [ci64 y13.Prior, .ref 4 1 0 y13.Agree.length, .ref 5 1 0 y13.Differ.length]), (2, .row 3 false 1 y10.Match.length (Ri64 y10.Match)), (3, .row 3 false 1 y10.Random.length (Ri64 y10.Random)), (4, .row 3 false 1 y13.Agree.length (Ri64 y13.Agree)), (5, .row 3 false 1 y13.Differ.length (Ri64 y13.Differ))], 6⟩) (fun v : Bool => rl_law25_WeightModels_k2 y10 y13 v = some r) (fun x16 h => ?_) ?_
   ·
    unfold rl_law25_WeightModels_k2 at h
    refine AW.tn ?_
    refine AW.co h (by kernel_rfl) (fun c17 h => ?_) (fun c17 h => ?_)
    ·
     refine AW.sg tt_okL6 [(2, vb false)] [] [] 7 [] (by kernel_rfl) ?_
     refine AW.ret (AW.tr ?_)
     obtain rfl := some_inj h
     exact fn0 (.inr rfl) [] 0 (vb false) (by kernel_rfl)
    ·
     refine AW.skip (AW.tn (AW.seq ?_))
     refine AW.sg tt_okL6 [(47, vi64 0), (46, vi64 ((y10.Match.length : Nat) : Int))] [] [] 10 [] (by kernel_rfl) ?_
     refine AW.block ?_
     refine AW.lpE h (fun v => ⟨[(4, .c (.ptr 0 3 0 0)), (5, .c (.ptr 1 3 0 0)), (46, vi64 ((y10.Match.length : Nat) : Int)), (47, vi64 v)], [(0, .box 36 [ci64 y10.Prior, .ref 2 1 0 y10.Match.length, .ref 3 1 0 y10.Random.length]), (1, .box 40 [ci64 y13.Prior, .ref 4 1 0 y13.Agree.length, .ref 5 1 0 y13.Differ.length]), (2, .row 3 false 1 y10.Match.length (Ri64 y10.Match)), (3, .row 3 false 1 y10.Random.length (Ri64 y10.Random)), (4, .row 3 false 1 y13.Agree.length (Ri64 y13.Agree)), (5, .row 3 false 1 y13.Differ.length (Ri64 y13.Differ))], 6⟩) (fun t => (.exit 0, ⟨[(4, .c (.ptr 0 3 0 0)), (5, .c (.ptr 1 3 0 0))], [(0, .box 36 [ci64 y10.Prior, .ref 2 1 0 y10.Match.length, .ref 3 1 0 y10.Random.length]), (1, .box 40 [ci64 y13.Prior, .ref 4 1 0 y13.Agree.length, .ref 5 1 0 y13.Differ.length]), (2, .row 3 false 1 y10.Match.length (Ri64 y10.Match)), (3, .row 3 false 1 y10.Random.length (Ri64 y10.Random)), (4, .row 3 false 1 y13.Agree.length (Ri64 y13.Agree)), (5, .row 3 false 1 y13.Differ.length (Ri64 y13.Differ))], 6⟩)) (fun t => (.ret, ⟨[(2, vb false)], [], 0⟩)) (conv_re [(0, 0), (1, 1), (2, 2), (3, 3), (4, 4), (5, 5)] (by kernel_rfl)) (fun _ => tv) (fun _ => tv) ?_ (fun t h => ?_) (fun t h => ?_)
     ·
      clear h
      intro x19 o h
      unfold rl_law25_WeightModels_l3 at h
      refine AW.sg tt_okL6 [(48, vb (decide (x19 < ((y10.Match.length : Nat) : Int))))] [] [] 7 [] (by kernel_rfl) ?_
      refine AW.seq ?_
      refine AW.co h (by kernel_rfl) (fun c20 h => ?_) (fun c20 h => ?_)
      ·
       refine AW.skip (AW.tn ?_)
       refine AW.seq (AW.block ?_)
       refine AW.sg tt_okL6 [(7, vi64 x19)] [] [] 9 [] (by kernel_rfl) ?_
       refine AW.seq ?_
       refine AW.join (ι := Bool) (fun v => ⟨[(4, .c (.ptr 0 3 0 0)), (5, .c (.ptr 1 3 0 0)), (46, vi64 ((y10.Match.length : Nat) : Int)), (47, vi64 x19), (87, vb v)], [(0, .box 36 [ci64 y10.Prior, .ref 2 1 0 y10.Match.length, .ref 3 1 0 y10.Random.length]), (1, .box 40 [ci64 y13.Prior, .ref 4 1 0 y13.Agree.length, .ref 5 1 0 y13.Differ.length]), (2, .row 3 false 1 y10.Match.length (Ri64 y10.Match)), (3, .row 3 false 1 y10.Random.length (Ri64 y10.Random)), (4, .row 3 false 1 y13.Agree.length (Ri64 y13.Agree)), (5, .row 3 false 1 y13.Differ.length (Ri64 y13.Differ))], 6⟩) (fun v : Bool => rl_law25_WeightModels_k4 x19 v = some o) (fun x21 h => ?_) ?_
       ·
        unfold rl_law25_WeightModels_k4 at h
        refine AW.tn ?_
        refine AW.co h (by kernel_rfl) (fun c22 h => ?_) (fun c22 h => ?_)
        ·
         refine AW.sg tt_okL6 [(2, vb false)] [] [] 7 [] (by kernel_rfl) ?_
         refine AW.ret (AW.inBlock_ret (AW.tr ?_))
         exact lpo h rfl (conv_re [] (by kernel_rfl))
        ·
         refine AW.skip (AW.inBlock_normal (AW.tn ?_))
         refine AW.rg tt_okL6 [(47, vi64 (i64.wrap (x19 + 1)))] [] [] 8 [] (by kernel_rfl) ?_
         exact lpn h (conv_re [(0, 0), (1, 1), (2, 2), (3, 3), (4, 4), (5, 5)] (by kernel_rfl))
       ·
        obtain ⟨g23, g24, h⟩ := ifd h
        obtain ⟨g25, g26, h⟩ := ifd h
        rcases ifs h with ⟨c27, h⟩ | ⟨c27, h⟩
        ·
         refine AW.rd tt_okL6 moL6 [] [(87, vb true)] [] 47 [hn, hn, hn, hq g23 g24, ho (p := (0 + x19.toNat) < y13.Agree.length) (by have h1 : 0 ≤ x19 := g23; have h2 : x19 < ((y13.Agree.length : Nat) : Int) := g24; omega), hn, hn, hn, hn, hq g23 g25, ho (p := (0 + x19.toNat) < y10.Match.length) (by have h1 : 0 ≤ x19 := g23; have h2 : x19 < ((y10.Match.length : Nat) : Int) := g25; omega), hn, hn, hn, hq g23 g26, ho (p := (0 + x19.toNat) < y10.Random.length) (by have h1 : 0 ≤ x19 := g23; have h2 : x19 < ((y10.Random.length : Nat) : Int) := g26; omega), hn, ht c27] (by kernel_rfl) ?_
         exact jl true h (conv_re [(0, 0), (1, 1), (2, 2), (3, 3), (4, 4), (5, 5)] (by kernel_rfl))
        ·
         obtain ⟨g28, h⟩ := ifc h
         refine AW.rd tt_okL6 moL6 [] [(87, vb (!((decide ((y13.Differ.getD (0 + x19.toNat) 0) ≥ 0)) == (decide ((y10.Match.getD (0 + x19.toNat) 0) ≤ (y10.Random.getD (0 + x19.toNat) 0))))))] [] 47 [hn, hn, hn, hq g23 g24, ho (p := (0 + x19.toNat) < y13.Agree.length) (by have h1 : 0 ≤ x19 := g23; have h2 : x19 < ((y13.Agree.length : Nat) : Int) := g24; omega), hn, hn, hn, hn, hq g23 g25, ho (p := (0 + x19.toNat) < y10.Match.length) (by have h1 : 0 ≤ x19 := g23; have h2 : x19 < ((y10.Match.length : Nat) : Int) := g25; omega), hn, hn, hn, hq g23 g26, ho (p := (0 + x19.toNat) < y10.Random.length) (by have h1 : 0 ≤ x19 := g23; have h2 : x19 < ((y10.Random.length : Nat) : Int) := g26; omega), hn, hf c27, hn, hn, hn, hn, hq g23 g28, ho (p := (0 + x19.toNat) < y13.Differ.length) (by have h1 : 0 ≤ x19 := g23; have h2 : x19 < ((y13.Differ.length : Nat) : Int) := g28; omega), hn, hn, hn, hn, hq g23 g25, ho (p := (0 + x19.toNat) < y10.Match.length) (by have h1 : 0 ≤ x19 := g23; have h2 : x19 < ((y10.Match.length : Nat) : Int) := g25; omega), hn, hn, hn, hq g23 g26, ho (p := (0 + x19.toNat) < y10.Random.length) (by have h1 : 0 ≤ x19 := g23; have h2 : x19 < ((y10.Random.length : Nat) : Int) := g26; omega)] (by kernel_rfl) ?_
         exact jl (!((decide ((y13.Differ.getD (0 + x19.toNat) 0) ≥ 0)) == (decide ((y10.Match.getD (0 + x19.toNat) 0) ≤ (y10.Random.getD (0 + x19.toNat) 0))))) h (conv_re [(0, 0), (1, 1), (2, 2), (3, 3), (4, 4), (5, 5)] (by kernel_rfl))
      ·
       refine AW.exit (AW.thenQ_exit ?_)
       exact lpo h rfl (conv_re [(0, 0), (1, 1), (2, 2), (3, 3), (4, 4), (5, 5)] (by kernel_rfl))
     ·
      replace h : rl_law25_WeightModels_a5 y10 y13 = some r := h
      unfold rl_law25_WeightModels_a5 at h
      show (_ : Exit → St → Prop) (.exit 0) _
      refine AW.inBlock_hit (AW.tn ?_)
      refine AW.sg tt_okL6 [(2, vb ((decide (y13.Prior ≥ 0)) == (decide (y10.Prior ≥ (i64.wrap (65536 - y10.Prior))))))] [] [] 17 [] (by kernel_rfl) ?_
      refine AW.ret ?_
      obtain rfl := some_inj h
      exact fn0 (.inr rfl) [] 0 (vb ((decide (y13.Prior ≥ 0)) == (decide (y10.Prior ≥ (i64.wrap (65536 - y10.Prior)))))) (by kernel_rfl)
     ·
      replace h : rl_law25_WeightModels_a6 = some r := h
      unfold rl_law25_WeightModels_a6 at h
      show (_ : Exit → St → Prop) (.ret) _
      refine AW.inBlock_ret (AW.tr ?_)
      obtain rfl := some_inj h
      exact fn0 (.inr rfl) [] 0 (vb false) (by kernel_rfl)
   ·
    rcases ifs h with ⟨c30, h⟩ | ⟨c30, h⟩
    ·
     refine AW.rg tt_okL6 [(43, vb true)] [] [] 35 [hn, ht c30] (by kernel_rfl) ?_
     exact jl true h (conv_re [(0, 8), (1, 16), (2, 6), (3, 7), (4, 11), (5, 12)] (by kernel_rfl))
    ·
     obtain ⟨y31, e32, h⟩ := bnd_some h
     rcases ifs h with ⟨c33, h⟩ | ⟨c33, h⟩
     ·
      refine AW.rg tt_okL6 [(43, vb true)] [] [] 34 [hn, hf c30, hn, hn, hg [] [] true 0 (q := ((True) ∧ (0 + y13.Agree.length ≤ y13.Agree.length) ∧ (0 + y13.Differ.length ≤ y13.Differ.length) ∧ (True)) ∧ (True)) ⟨⟨tv, le0, le0, tv⟩, tv⟩ (a0 := [.agg [ci64 y13.Prior, cl 1 Ri64 y13.Agree, cl 1 Ri64 y13.Differ]]) (weight_Check_con y13 y31 e32) ⟨ArgLe.refl _, tv⟩ (fun _ => tv), ht c33] (by kernel_rfl) ?_
      exact jl true h (conv_re [(0, 8), (1, 16), (2, 6), (3, 7), (4, 11), (5, 12)] (by kernel_rfl))
     ·
      refine AW.rg tt_okL6 [(43, vb (((y13.Agree.length : Nat) : Int) != ((y10.Match.length : Nat) : Int)))] [] [] 34 [hn, hf c30, hn, hn, hg [] [] true 0 (q := ((True) ∧ (0 + y13.Agree.length ≤ y13.Agree.length) ∧ (0 + y13.Differ.length ≤ y13.Differ.length) ∧ (True)) ∧ (True)) ⟨⟨tv, le0, le0, tv⟩, tv⟩ (a0 := [.agg [ci64 y13.Prior, cl 1 Ri64 y13.Agree, cl 1 Ri64 y13.Differ]]) (weight_Check_con y13 y31 e32) ⟨ArgLe.refl _, tv⟩ (fun _ => tv), hf c33] (by kernel_rfl) ?_
      exact jl (((y13.Agree.length : Nat) : Int) != ((y10.Match.length : Nat) : Int)) h (conv_re [(0, 8), (1, 16), (2, 6), (3, 7), (4, 11), (5, 12)] (by kernel_rfl))
 ·
  obtain ⟨y34, e35, h⟩ := bnd_some h
  rcases ifs h with ⟨c36, h⟩ | ⟨c36, h⟩
  ·
   refine AW.rg tt_okL6 [(14, vb true)] [] [] 7 [hk (rl_law25_awake_con y34 e35), ht c36] (by kernel_rfl) ?_
   exact jl true h (conv_re [] (by kernel_rfl))
  ·
   obtain ⟨y37, e38, h⟩ := bnd_some h
   refine AW.rg tt_okL6 [(14, vb (!y37))] [] [] 6 [hk (rl_law25_awake_con y34 e35), hf c36, hn, hn, hk (rl_make_Few_con p0 y37 e38)] (by kernel_rfl) ?_
   exact jl (!y37) h (conv_re [] (by kernel_rfl))
end Go.Proofs.Ytafmpnilgknfhaa
