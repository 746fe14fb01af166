/- Printed by a program of mine (vmgen.py): Go functions, and what they come to. -/
import Derived.Test.YtilpgjoidgfbiaaGreatVr
import Derived.Test.YtilpgjoidgfbiaaGreatRows
import Derived.Test.YtilpgjoidgfbiaaGreatG0
namespace Go.Proofs.YtilpgjoidgfbiaaGreat
open Vm
open IntKind (i64 u64 u32 u8)
set_option maxHeartbeats 10000000
set_option linter.unusedVariables false
set_option linter.unusedSimpArgs false
set_option linter.constructorNameAsVariable false
def ttl1 : List (Nat × TI) := [(3, ⟨.int .i64, 1, 8, [.int .i64 0], false⟩), (4, ⟨.bool, 1, 1, [.bool false], false⟩), (5, ⟨.int .u8, 1, 1, [.int .u8 0], false⟩), (9, ⟨.str, 1, 16, [.string ⟨#[]⟩], false⟩), (22, ⟨.slice 3, 1, 24, [.slice none 0 0], false⟩), (24, ⟨.struct [(3, 0), (22, 1), (22, 2)], 3, 56, [.int .i64 0, .slice none 0 0, .slice none 0 0], false⟩), (25, ⟨.slice 71, 1, 24, [.slice none 0 0], false⟩), (27, ⟨.struct [(3, 0), (3, 1), (3, 2)], 3, 24, [.int .i64 0, .int .i64 0, .int .i64 0], true⟩), (30, ⟨.ptr 75, 1, 8, [.pointer none], false⟩), (35, ⟨.struct [(24, 0), (25, 3), (25, 4)], 5, 104, [.int .i64 0, .slice none 0 0, .slice none 0 0, .slice none 0 0, .slice none 0 0], false⟩), (36, ⟨.slice 35, 1, 24, [.slice none 0 0], false⟩), (37, ⟨.int .i64, 1, 8, [.int .i64 0], false⟩), (40, ⟨.slice 27, 1, 24, [.slice none 0 0], false⟩), (42, ⟨.slice 72, 1, 24, [.slice none 0 0], false⟩), (44, ⟨.struct [(42, 0), (42, 1)], 2, 48, [.slice none 0 0, .slice none 0 0], false⟩), (49, ⟨.arr 2 3, 2, 16, [.int .i64 0, .int .i64 0], true⟩), (50, ⟨.slice 49, 1, 24, [.slice none 0 0], false⟩), (69, ⟨.struct [(3, 0), (3, 1)], 2, 16, [.int .i64 0, .int .i64 0], true⟩), (71, ⟨.struct [(69, 0), (69, 2), (3, 4), (3, 5)], 6, 48, [.int .i64 0, .int .i64 0, .int .i64 0, .int .i64 0, .int .i64 0, .int .i64 0], true⟩), (72, ⟨.int .u32, 1, 4, [.int .u32 0], false⟩), (73, ⟨.int .u64, 1, 8, [.int .u64 0], false⟩), (75, ⟨.struct [(22, 0), (3, 1), (73, 2)], 3, 40, [.slice none 0 0, .int .i64 0, .int .u64 0], false⟩), (78, ⟨.slice 81, 1, 24, [.slice none 0 0], false⟩), (81, ⟨.struct [(69, 0), (69, 2), (3, 4)], 5, 40, [.int .i64 0, .int .i64 0, .int .i64 0, .int .i64 0, .int .i64 0], true⟩), (106, ⟨.arr 6 3, 6, 48, [.int .i64 0, .int .i64 0, .int .i64 0, .int .i64 0, .int .i64 0, .int .i64 0], true⟩), (114, ⟨.struct [(42, 0), (37, 1)], 2, 32, [.slice none 0 0, .int .i64 0], false⟩), (132, ⟨.slice 114, 1, 24, [.slice none 0 0], false⟩)]
theorem tt_ok1 : TTok Tryz.prog (Vm.look ttl1) := ttok_of ⟨⟨by kernel_rfl, by kernel_rfl, by kernel_rfl⟩, ⟨by kernel_rfl, by kernel_rfl, by kernel_rfl⟩, ⟨by kernel_rfl, by kernel_rfl, by kernel_rfl⟩, ⟨by kernel_rfl, by kernel_rfl, by kernel_rfl⟩, ⟨by kernel_rfl, by kernel_rfl, by kernel_rfl⟩, ⟨by kernel_rfl, by kernel_rfl, by kernel_rfl⟩, ⟨by kernel_rfl, by kernel_rfl, by kernel_rfl⟩, ⟨by kernel_rfl, by kernel_rfl, by kernel_rfl⟩, ⟨by kernel_rfl, by kernel_rfl, by kernel_rfl⟩, ⟨by kernel_rfl, by kernel_rfl, by kernel_rfl⟩, ⟨by kernel_rfl, by kernel_rfl, by kernel_rfl⟩, ⟨by kernel_rfl, by kernel_rfl, by kernel_rfl⟩, ⟨by kernel_rfl, by kernel_rfl, by kernel_rfl⟩, ⟨by kernel_rfl, by kernel_rfl, by kernel_rfl⟩, ⟨by kernel_rfl, by kernel_rfl, by kernel_rfl⟩, ⟨by kernel_rfl, by kernel_rfl, by kernel_rfl⟩, ⟨by kernel_rfl, by kernel_rfl, by kernel_rfl⟩, ⟨by kernel_rfl, by kernel_rfl, by kernel_rfl⟩, ⟨by kernel_rfl, by kernel_rfl, by kernel_rfl⟩, ⟨by kernel_rfl, by kernel_rfl, by kernel_rfl⟩, ⟨by kernel_rfl, by kernel_rfl, by kernel_rfl⟩, ⟨by kernel_rfl, by kernel_rfl, by kernel_rfl⟩, ⟨by kernel_rfl, by kernel_rfl, by kernel_rfl⟩, ⟨by kernel_rfl, by kernel_rfl, by kernel_rfl⟩, ⟨by kernel_rfl, by kernel_rfl, by kernel_rfl⟩, ⟨by kernel_rfl, by kernel_rfl, by kernel_rfl⟩, ⟨by kernel_rfl, by kernel_rfl, by kernel_rfl⟩, trivial⟩
theorem mo1 : Tryz.prog.follows .mixedOrders = true := by kernel_rfl
structure S_api_Bond where
 A : S_api_Ref
 B : S_api_Ref
 Weight : Int
def dS_api_Bond : S_api_Bond := ⟨dS_api_Ref, dS_api_Ref, 0⟩
instance : Inhabited S_api_Bond := ⟨dS_api_Bond⟩
def ES_api_Bond (x : S_api_Bond) : List T := [.v (.int .i64 x.A.Registry), .v (.int .i64 x.A.ID), .v (.int .i64 x.B.Registry), .v (.int .i64 x.B.ID), .v (.int .i64 x.Weight)]
def RS_api_Bond (xs : List S_api_Bond) : Nat → Nat → T := rowL dS_api_Bond ES_api_Bond xs
theorem VS_api_Bond : ∀ x, allV (ES_api_Bond x) := fun _ => ⟨tv, tv, tv, tv, tv, tv⟩
/-! recordlink/recordlinkplay.Bonds -/
noncomputable def rl_play_Bonds_k5 (x52 : Int) (x61 : List S_api_Bond) (x62 : List Int) (x63 : Int) (x64 : Int) : Option (((List S_api_Bond) × Int × (List Int) × Int × Int) ⊕ ((List S_api_Bond) × (List Int) × Int × Int)) := some (.inl (x61, i64.wrap (x52 + 1), x62, x63, x64))
noncomputable def rl_play_Bonds_l4 (p2 : Int) (p3 : Int) (x7 : Int) (x22 : Int) (x37 : Int) (x51 : List S_api_Bond) (x52 : Int) (x53 : List Int) (x54 : Int) (x55 : Int) : Option (((List S_api_Bond) × Int × (List Int) × Int × Int) ⊕ ((List S_api_Bond) × (List Int) × Int × Int)) := if (decide (x52 ≤ p2)) = true then (bind2 (rl_make_Deck_One (⟨x53, x54, x55⟩ : S_recordlinkmake_Deck) p3) fun y65 y66 => (if y65 = true then (bind2 (rl_make_Deck_Next y66 9) fun y69 y70 => (if x51.length + ([(⟨(⟨x7, x22⟩ : S_api_Ref), (⟨x37, x52⟩ : S_api_Ref), i64.wrap (1 + y69)⟩ : S_api_Bond)] : List S_api_Bond).length ≤ 1099511627776 then (rl_play_Bonds_k5 x52 (x51 ++ ([(⟨(⟨x7, x22⟩ : S_api_Ref), (⟨x37, x52⟩ : S_api_Ref), i64.wrap (1 + y69)⟩ : S_api_Bond)] : List S_api_Bond)) y70.list y70.at_ y70.state) else none)) else (rl_play_Bonds_k5 x52 x51 y66.list y66.at_ y66.state))) else (some (.inr (x51, x53, x54, x55)))
noncomputable def rl_play_Bonds_l3 (p1 : Int) (p2 : Int) (p3 : Int) (x7 : Int) (x22 : Int) (x36 : List S_api_Bond) (x37 : Int) (x38 : List Int) (x39 : Int) (x40 : Int) : Option (((List S_api_Bond) × Int × (List Int) × Int × Int) ⊕ ((List S_api_Bond) × (List Int) × Int × Int)) := if (decide (x37 < p1)) = true then (bind4 (loop (fun v : (List S_api_Bond) × Int × (List Int) × Int × Int => rl_play_Bonds_l4 p2 p3 x7 x22 x37 v.1 v.2.1 v.2.2.1 v.2.2.2.1 v.2.2.2.2) (x36, 1, x38, x39, x40)) fun x73 x74 x75 x76 => (some (.inl (x73, i64.wrap (x37 + 1), x74, x75, x76)))) else (some (.inr (x36, x38, x39, x40)))
noncomputable def rl_play_Bonds_l2 (p1 : Int) (p2 : Int) (p3 : Int) (x7 : Int) (x21 : List S_api_Bond) (x22 : Int) (x23 : List Int) (x24 : Int) (x25 : Int) : Option (((List S_api_Bond) × Int × (List Int) × Int × Int) ⊕ ((List S_api_Bond) × (List Int) × Int × Int)) := if (decide (x22 ≤ p2)) = true then (bind4 (loop (fun v : (List S_api_Bond) × Int × (List Int) × Int × Int => rl_play_Bonds_l3 p1 p2 p3 x7 x22 v.1 v.2.1 v.2.2.1 v.2.2.2.1 v.2.2.2.2) (x21, i64.wrap (x7 + 1), x23, x24, x25)) fun x78 x79 x80 x81 => (some (.inl (x78, i64.wrap (x22 + 1), x79, x80, x81)))) else (some (.inr (x21, x23, x24, x25)))
noncomputable def rl_play_Bonds_l1 (p1 : Int) (p2 : Int) (p3 : Int) (x6 : List S_api_Bond) (x7 : Int) (x8 : List Int) (x9 : Int) (x10 : Int) : Option (((List S_api_Bond) × Int × (List Int) × Int × Int) ⊕ ((List S_api_Bond) × (List Int) × Int × Int)) := if (decide (x7 < p1)) = true then (bind4 (loop (fun v : (List S_api_Bond) × Int × (List Int) × Int × Int => rl_play_Bonds_l2 p1 p2 p3 x7 v.1 v.2.1 v.2.2.1 v.2.2.2.1 v.2.2.2.2) (x6, 1, x8, x9, x10)) fun x83 x84 x85 x86 => (some (.inl (x83, i64.wrap (x7 + 1), x84, x85, x86)))) else (some (.inr (x6, x8, x9, x10)))
noncomputable def rl_play_Bonds (p0 : S_recordlinkmake_Deck) (p1 : Int) (p2 : Int) (p3 : Int) : Option ((List S_api_Bond) × S_recordlinkmake_Deck) := bind4 (loop (fun v : (List S_api_Bond) × Int × (List Int) × Int × Int => rl_play_Bonds_l1 p1 p2 p3 v.1 v.2.1 v.2.2.1 v.2.2.2.1 v.2.2.2.2) (([] : List S_api_Bond), 0, p0.list, p0.at_, p0.state)) fun x88 x89 x90 x91 => (some (x88, (⟨x89, x90, x91⟩ : S_recordlinkmake_Deck)))
set_option maxRecDepth 100000 in
theorem rl_play_Bonds_con (p0 : S_recordlinkmake_Deck) (p1 : Int) (p2 : Int) (p3 : Int) (r : (List S_api_Bond) × S_recordlinkmake_Deck) (h : rl_play_Bonds p0 p1 p2 p3 = some r) : Con Tryz.prog 39 [.c (.ptr 0 3 0 0), vi64 p1, vi64 p2, vi64 p3] [(0, .box 75 [cl 1 Ri64 p0.list, ci64 p0.at_, cu64 p0.state])] (.c (.ref 1 5 0 r.1.length)) [(0, .box 75 [cl 1 Ri64 r.2.list, ci64 r.2.at_, cu64 r.2.state]), (1, .row 81 false 5 r.1.length (RS_api_Bond r.1))] := by
 refine con_of tt_ok1 1 Tryz.func39 (by kernel_rfl) rfl (by kernel_rfl) (fun base X _ => AW.post ?_)
 unfold rl_play_Bonds at h
 refine AW.sg tt_ok1 [] [] [] 2 [] (by kernel_rfl) ?_
 refine AW.sg tt_ok1 [(9, .c (.t (.v (.slice none 0 0))))] [] [] 3 [] (by kernel_rfl) ?_
 refine AW.seq ?_
 refine AW.sg tt_ok1 [(10, vi64 0)] [] [] 4 [] (by kernel_rfl) ?_
 refine AW.block ?_
 obtain ⟨x88, x89, x90, x91, l92, h⟩ := bind4_some h
 refine AW.lp l92 (fun v => ⟨[(0, .c (.ptr 0 3 0 0)), (1, vi64 p1), (2, vi64 p2), (3, vi64 p3), (9, .c (.ref 1 5 0 v.1.length)), (10, vi64 v.2.1)], [(0, .box 75 [cl 1 Ri64 v.2.2.1, ci64 v.2.2.2.1, cu64 v.2.2.2.2]), (1, .row 81 false 5 v.1.length (RS_api_Bond v.1))], 2⟩) (fun t : (List S_api_Bond) × (List Int) × Int × Int => (.exit 0, ⟨[(9, .c (.ref 1 5 0 t.1.length))], [(0, .box 75 [cl 1 Ri64 t.2.1, ci64 t.2.2.1, cu64 t.2.2.2]), (1, .row 81 false 5 t.1.length (RS_api_Bond t.1))], 2⟩)) (Conv.trans (conv_adopt (t := 9) (ty := 81) (sz := 5) (n := ([] : List S_api_Bond).length) (f := RS_api_Bond ([] : List S_api_Bond)) (by kernel_rfl) rfl) (conv_re [(0, 0), (1, 4)] (by kernel_rfl))) (fun _ => tv) ?_ ?_
 ·
  clear l92 h
  intro v o h
  obtain ⟨x6, x7, x8, x9, x10⟩ := v
  replace h : rl_play_Bonds_l1 p1 p2 p3 x6 x7 x8 x9 x10 = some o := h
  unfold rl_play_Bonds_l1 at h
  refine AW.seq ?_
  refine AW.sg tt_ok1 [(16, vb (decide (x7 < p1)))] [] [] 5 [] (by kernel_rfl) ?_
  refine AW.co h (by kernel_rfl) (fun c15 h => ?_) (fun c15 h => ?_)
  ·
   refine AW.skip (AW.tn ?_)
   refine AW.seq (AW.block ?_)
   refine AW.sg tt_ok1 [(11, vi64 1)] [] [] 6 [] (by kernel_rfl) ?_
   refine AW.block ?_
   obtain ⟨x83, x84, x85, x86, l87, h⟩ := bind4_some h
   refine AW.lp l87 (fun v => ⟨[(0, .c (.ptr 0 3 0 0)), (1, vi64 p1), (2, vi64 p2), (3, vi64 p3), (9, .c (.ref 1 5 0 v.1.length)), (10, vi64 x7), (11, vi64 v.2.1)], [(0, .box 75 [cl 1 Ri64 v.2.2.1, ci64 v.2.2.2.1, cu64 v.2.2.2.2]), (1, .row 81 false 5 v.1.length (RS_api_Bond v.1))], 2⟩) (fun t : (List S_api_Bond) × (List Int) × Int × Int => (.exit 2, ⟨[(0, .c (.ptr 0 3 0 0)), (1, vi64 p1), (2, vi64 p2), (3, vi64 p3), (9, .c (.ref 1 5 0 t.1.length)), (10, vi64 x7)], [(0, .box 75 [cl 1 Ri64 t.2.1, ci64 t.2.2.1, cu64 t.2.2.2]), (1, .row 81 false 5 t.1.length (RS_api_Bond t.1))], 2⟩)) (conv_re [(0, 0), (1, 1)] (by kernel_rfl)) (fun _ => tv) ?_ ?_
   ·
    clear l87 h
    intro v o h
    obtain ⟨x21, x22, x23, x24, x25⟩ := v
    replace h : rl_play_Bonds_l2 p1 p2 p3 x7 x21 x22 x23 x24 x25 = some o := h
    unfold rl_play_Bonds_l2 at h
    refine AW.seq ?_
    refine AW.sg tt_ok1 [(21, vb (decide (x22 ≤ p2)))] [] [] 5 [] (by kernel_rfl) ?_
    refine AW.co h (by kernel_rfl) (fun c30 h => ?_) (fun c30 h => ?_)
    ·
     refine AW.skip (AW.tn ?_)
     refine AW.seq (AW.block ?_)
     refine AW.sg tt_ok1 [(12, vi64 (i64.wrap (x7 + 1)))] [] [] 8 [] (by kernel_rfl) ?_
     refine AW.block ?_
     obtain ⟨x78, x79, x80, x81, l82, h⟩ := bind4_some h
     refine AW.lp l82 (fun v => ⟨[(0, .c (.ptr 0 3 0 0)), (1, vi64 p1), (2, vi64 p2), (3, vi64 p3), (9, .c (.ref 1 5 0 v.1.length)), (10, vi64 x7), (11, vi64 x22), (12, vi64 v.2.1)], [(0, .box 75 [cl 1 Ri64 v.2.2.1, ci64 v.2.2.2.1, cu64 v.2.2.2.2]), (1, .row 81 false 5 v.1.length (RS_api_Bond v.1))], 2⟩) (fun t : (List S_api_Bond) × (List Int) × Int × Int => (.exit 4, ⟨[(0, .c (.ptr 0 3 0 0)), (1, vi64 p1), (2, vi64 p2), (3, vi64 p3), (9, .c (.ref 1 5 0 t.1.length)), (10, vi64 x7), (11, vi64 x22)], [(0, .box 75 [cl 1 Ri64 t.2.1, ci64 t.2.2.1, cu64 t.2.2.2]), (1, .row 81 false 5 t.1.length (RS_api_Bond t.1))], 2⟩)) (conv_re [(0, 0), (1, 1)] (by kernel_rfl)) (fun _ => tv) ?_ ?_
     ·
      clear l82 h
      intro v o h
      obtain ⟨x36, x37, x38, x39, x40⟩ := v
      replace h : rl_play_Bonds_l3 p1 p2 p3 x7 x22 x36 x37 x38 x39 x40 = some o := h
      unfold rl_play_Bonds_l3 at h
      refine AW.seq ?_
      refine AW.sg tt_ok1 [(28, vb (decide (x37 < p1)))] [] [] 5 [] (by kernel_rfl) ?_
      refine AW.co h (by kernel_rfl) (fun c45 h => ?_) (fun c45 h => ?_)
      ·
       refine AW.skip (AW.tn ?_)
       refine AW.seq (AW.block ?_)
       refine AW.sg tt_ok1 [(13, vi64 1)] [] [] 6 [] (by kernel_rfl) ?_
       refine AW.block ?_
       obtain ⟨x73, x74, x75, x76, l77, h⟩ := bind4_some h
       refine AW.lp l77 (fun v => ⟨[(0, .c (.ptr 0 3 0 0)), (1, vi64 p1), (2, vi64 p2), (3, vi64 p3), (9, .c (.ref 1 5 0 v.1.length)), (10, vi64 x7), (11, vi64 x22), (12, vi64 x37), (13, vi64 v.2.1)], [(0, .box 75 [cl 1 Ri64 v.2.2.1, ci64 v.2.2.2.1, cu64 v.2.2.2.2]), (1, .row 81 false 5 v.1.length (RS_api_Bond v.1))], 2⟩) (fun t : (List S_api_Bond) × (List Int) × Int × Int => (.exit 6, ⟨[(0, .c (.ptr 0 3 0 0)), (1, vi64 p1), (2, vi64 p2), (3, vi64 p3), (9, .c (.ref 1 5 0 t.1.length)), (10, vi64 x7), (11, vi64 x22), (12, vi64 x37)], [(0, .box 75 [cl 1 Ri64 t.2.1, ci64 t.2.2.1, cu64 t.2.2.2]), (1, .row 81 false 5 t.1.length (RS_api_Bond t.1))], 2⟩)) (conv_re [(0, 0), (1, 1)] (by kernel_rfl)) (fun _ => tv) ?_ ?_
       ·
        clear l77 h
        intro v o h
        obtain ⟨x51, x52, x53, x54, x55⟩ := v
        replace h : rl_play_Bonds_l4 p2 p3 x7 x22 x37 x51 x52 x53 x54 x55 = some o := h
        unfold rl_play_Bonds_l4 at h
        refine AW.seq ?_
        refine AW.sg tt_ok1 [(33, vb (decide (x52 ≤ p2)))] [] [] 5 [] (by kernel_rfl) ?_
        refine AW.co h (by kernel_rfl) (fun c60 h => ?_) (fun c60 h => ?_)
        ·
         refine AW.skip (AW.tn (AW.seq ?_))
         refine AW.join (ι := (List S_api_Bond) × (List Int) × Int × Int) (fun v => ⟨[(0, .c (.ptr 0 3 0 0)), (1, vi64 p1), (2, vi64 p2), (3, vi64 p3), (9, .c (.ref 1 5 0 v.1.length)), (10, vi64 x7), (11, vi64 x22), (12, vi64 x37), (13, vi64 x52)], [(0, .box 75 [cl 1 Ri64 v.2.1, ci64 v.2.2.1, cu64 v.2.2.2]), (1, .row 81 false 5 v.1.length (RS_api_Bond v.1))], 2⟩) (fun v : (List S_api_Bond) × (List Int) × Int × Int => rl_play_Bonds_k5 x52 v.1 v.2.1 v.2.2.1 v.2.2.2 = some o) (fun v h => ?_) ?_
         ·
          obtain ⟨x61, x62, x63, x64⟩ := v
          replace h : rl_play_Bonds_k5 x52 x61 x62 x63 x64 = some o := h
          unfold rl_play_Bonds_k5 at h
          refine AW.tn ?_
          refine AW.rg tt_ok1 [(13, vi64 (i64.wrap (x52 + 1)))] [] [] 5 [] (by kernel_rfl) ?_
          exact lpn h (conv_re [(0, 0), (1, 1)] (by kernel_rfl))
         ·
          refine AW.block ?_
          obtain ⟨y65, y66, e67, h⟩ := bind2_some h
          refine AW.sg tt_ok1 [(38, vb y65)] [0] [(0, .box 75 [cl 1 Ri64 y66.list, ci64 y66.at_, cu64 y66.state])] 7 [hn, hn, hl [0] [] 0 (rl_make_Deck_One_con (⟨x53, x54, x55⟩ : S_recordlinkmake_Deck) p3 (y65, y66) e67)] (by kernel_rfl) ?_
          refine AW.co h (by kernel_rfl) (fun c68 h => ?_) (fun c68 h => ?_)
          ·
           obtain ⟨y69, y70, e71, h⟩ := bind2_some h
           obtain ⟨g72, h⟩ := ifc h
           refine AW.rg tt_ok1 [(9, .c (.ref 18 5 0 ((x51 ++ ([(⟨(⟨x7, x22⟩ : S_api_Ref), (⟨x37, x52⟩ : S_api_Ref), i64.wrap (1 + y69)⟩ : S_api_Bond)] : List S_api_Bond)).length)))] [0, 1, 17, 18] [(18, .row 81 false 5 (x51 ++ ([(⟨(⟨x7, x22⟩ : S_api_Ref), (⟨x37, x52⟩ : S_api_Ref), i64.wrap (1 + y69)⟩ : S_api_Bond)] : List S_api_Bond)).length (RS_api_Bond (x51 ++ ([(⟨(⟨x7, x22⟩ : S_api_Ref), (⟨x37, x52⟩ : S_api_Ref), i64.wrap (1 + y69)⟩ : S_api_Bond)] : List S_api_Bond)))), (0, .box 75 [cl 1 Ri64 y70.list, ci64 y70.at_, cu64 y70.state])] 20 [hn, hn, hn, hn, hn, hn, hn, hn, hl [0] [] 0 (rl_make_Deck_Next_con y66 9 (y69, y70) e71), hn, hn, hlit dS_api_Bond ES_api_Bond 5 (fun _ => rfl) ([(⟨(⟨x7, x22⟩ : S_api_Ref), (⟨x37, x52⟩ : S_api_Ref), i64.wrap (1 + y69)⟩ : S_api_Bond)] : List S_api_Bond), happ dS_api_Bond ES_api_Bond 5 40 x51 ([(⟨(⟨x7, x22⟩ : S_api_Ref), (⟨x37, x52⟩ : S_api_Ref), i64.wrap (1 + y69)⟩ : S_api_Bond)] : List S_api_Bond) g72 (by decide)] (by kernel_rfl) ?_
           refine AW.inBlock_normal ?_
           exact jl ((x51 ++ ([(⟨(⟨x7, x22⟩ : S_api_Ref), (⟨x37, x52⟩ : S_api_Ref), i64.wrap (1 + y69)⟩ : S_api_Bond)] : List S_api_Bond)), y70.list, y70.at_, y70.state) h (conv_re [(0, 0), (1, 18)] (by kernel_rfl))
          ·
           refine AW.skip (AW.inBlock_normal ?_)
           exact jl (x51, y66.list, y66.at_, y66.state) h (conv_re [(0, 0), (1, 1)] (by kernel_rfl))
        ·
         refine AW.exit (AW.thenQ_exit ?_)
         exact lpo h rfl (conv_re [(0, 0), (1, 1)] (by kernel_rfl))
       ·
        show (_ : Exit → St → Prop) (.exit 6) _
        refine AW.inBlock_hit (AW.inBlock_normal (AW.tn ?_))
        refine AW.rg tt_ok1 [(12, vi64 (i64.wrap (x37 + 1)))] [] [] 5 [] (by kernel_rfl) ?_
        exact lpn h (conv_re [(0, 0), (1, 1)] (by kernel_rfl))
      ·
       refine AW.exit (AW.thenQ_exit ?_)
       exact lpo h rfl (conv_re [(0, 0), (1, 1)] (by kernel_rfl))
     ·
      show (_ : Exit → St → Prop) (.exit 4) _
      refine AW.inBlock_hit (AW.inBlock_normal (AW.tn ?_))
      refine AW.rg tt_ok1 [(11, vi64 (i64.wrap (x22 + 1)))] [] [] 5 [] (by kernel_rfl) ?_
      exact lpn h (conv_re [(0, 0), (1, 1)] (by kernel_rfl))
    ·
     refine AW.exit (AW.thenQ_exit ?_)
     exact lpo h rfl (conv_re [(0, 0), (1, 1)] (by kernel_rfl))
   ·
    show (_ : Exit → St → Prop) (.exit 2) _
    refine AW.inBlock_hit (AW.inBlock_normal (AW.tn ?_))
    refine AW.rg tt_ok1 [(10, vi64 (i64.wrap (x7 + 1)))] [] [] 5 [] (by kernel_rfl) ?_
    exact lpn h (conv_re [(0, 0), (1, 1)] (by kernel_rfl))
  ·
   refine AW.exit (AW.thenQ_exit ?_)
   exact lpo h rfl (conv_re [(0, 0), (1, 1)] (by kernel_rfl))
 ·
  show (_ : Exit → St → Prop) (.exit 0) _
  refine AW.inBlock_hit (AW.tn ?_)
  refine AW.sg tt_ok1 [(8, .c (.ref 1 5 0 x88.length))] [] [] 4 [] (by kernel_rfl) ?_
  refine AW.ret ?_
  obtain rfl := some_inj h
  exact fn0 (.inr rfl) [(0, 0), (1, 1)] 2 (.c (.ref 1 5 0 x88.length)) (by kernel_rfl)
/-! recordlink/recordlinkplay.Range -/
noncomputable def rl_play_Range (p0 : S_recordlinkmake_Deck) (p1 : Int) (p2 : Int) : Option (Int × S_recordlinkmake_Deck) := bind2 (rl_make_Deck_Next p0 (i64.wrap ((i64.wrap (p2 - p1)) + 1))) fun y1 y2 => (some (i64.wrap (p1 + y1), y2))
set_option maxRecDepth 100000 in
theorem rl_play_Range_con (p0 : S_recordlinkmake_Deck) (p1 : Int) (p2 : Int) (r : Int × S_recordlinkmake_Deck) (h : rl_play_Range p0 p1 p2 = some r) : Con Tryz.prog 40 [.c (.ptr 0 3 0 0), vi64 p1, vi64 p2] [(0, .box 75 [cl 1 Ri64 p0.list, ci64 p0.at_, cu64 p0.state])] (vi64 r.1) [(0, .box 75 [cl 1 Ri64 r.2.list, ci64 r.2.at_, cu64 r.2.state])] := by
 refine con_of tt_ok1 1 Tryz.func40 (by kernel_rfl) rfl (by kernel_rfl) (fun base X _ => AW.post ?_)
 unfold rl_play_Range at h
 refine AW.sg tt_ok1 [] [] [] 2 [] (by kernel_rfl) ?_
 obtain ⟨y1, y2, e3, h⟩ := bind2_some h
 refine AW.sg tt_ok1 [(6, vi64 (i64.wrap (p1 + y1)))] [0] [(0, .box 75 [cl 1 Ri64 y2.list, ci64 y2.at_, cu64 y2.state])] 10 [hn, hn, hn, hn, hn, hn, hl [0] [] 0 (rl_make_Deck_Next_con p0 (i64.wrap ((i64.wrap (p2 - p1)) + 1)) (y1, y2) e3)] (by kernel_rfl) ?_
 refine AW.ret ?_
 obtain rfl := some_inj h
 exact fn0 (.inr rfl) [(0, 0)] 1 (vi64 (i64.wrap (p1 + y1))) (by kernel_rfl)
/-! recordlink/recordlinkplay.Candidates -/
noncomputable def rl_play_Candidates_l1 (p1 : Int) (x3 : Int) (x4 : Int) : Option ((Int × Int) ⊕ Int) := if (decide (x4 < p1)) = true then (some (.inl (i64.wrap (x3 * 3), i64.wrap (x4 + 1)))) else (some (.inr x3))
noncomputable def rl_play_Candidates_l2 (x7 : Int) (y8 : List S_api_Bond) (x16 : List S_api_Candidate) (x17 : Int) (x18 : List Int) (x19 : Int) (x20 : Int) : Option (((List S_api_Candidate) × Int × (List Int) × Int × Int) ⊕ ((List S_api_Candidate) × (List Int) × Int × Int)) := if (decide (x17 < (y8.length : Int))) = true then (if 0 ≤ x17 then (if x17 < (y8.length : Int) then (bind2 (rl_make_Deck_Next (⟨x18, x19, x20⟩ : S_recordlinkmake_Deck) x7) fun y28 y29 => (bind2 (rl_play_Range y29 (-30) 90) fun y31 y32 => (if x16.length + ([(⟨((y8.getD (0 + x17.toNat) dS_api_Bond).A), ((y8.getD (0 + x17.toNat) dS_api_Bond).B), y28, y31⟩ : S_api_Candidate)] : List S_api_Candidate).length ≤ 1099511627776 then (some (.inl ((x16 ++ ([(⟨((y8.getD (0 + x17.toNat) dS_api_Bond).A), ((y8.getD (0 + x17.toNat) dS_api_Bond).B), y28, y31⟩ : S_api_Candidate)] : List S_api_Candidate)), i64.wrap (x17 + 1), y32.list, y32.at_, y32.state))) else none))) else none) else none) else (some (.inr (x16, x18, x19, x20)))
noncomputable def rl_play_Candidates (p0 : S_recordlinkmake_Deck) (p1 : Int) : Option ((List S_api_Candidate) × S_recordlinkmake_Deck) := (loop (fun v : Int × Int => rl_play_Candidates_l1 p1 v.1 v.2) (1, 0)).bind fun x7 => (bind2 (rl_play_Bonds p0 3 3 4) fun y8 y9 => (bind4 (loop (fun v : (List S_api_Candidate) × Int × (List Int) × Int × Int => rl_play_Candidates_l2 x7 y8 v.1 v.2.1 v.2.2.1 v.2.2.2.1 v.2.2.2.2) (([] : List S_api_Candidate), 0, y9.list, y9.at_, y9.state)) fun x35 x36 x37 x38 => (some (x35, (⟨x36, x37, x38⟩ : S_recordlinkmake_Deck)))))
set_option maxRecDepth 100000 in
theorem rl_play_Candidates_con (p0 : S_recordlinkmake_Deck) (p1 : Int) (r : (List S_api_Candidate) × S_recordlinkmake_Deck) (h : rl_play_Candidates p0 p1 = some r) : Con Tryz.prog 9 [.c (.ptr 0 3 0 0), vi64 p1] [(0, .box 75 [cl 1 Ri64 p0.list, ci64 p0.at_, cu64 p0.state])] (.c (.ref 1 6 0 r.1.length)) [(0, .box 75 [cl 1 Ri64 r.2.list, ci64 r.2.at_, cu64 r.2.state]), (1, .row 71 false 6 r.1.length (RS_api_Candidate r.1))] := by
 refine con_of tt_ok1 1 Tryz.func9 (by kernel_rfl) rfl (by kernel_rfl) (fun base X _ => AW.post ?_)
 unfold rl_play_Candidates at h
 refine AW.sg tt_ok1 [] [] [] 2 [] (by kernel_rfl) ?_
 refine AW.sg tt_ok1 [(5, vi64 1)] [] [] 3 [] (by kernel_rfl) ?_
 refine AW.seq ?_
 refine AW.sg tt_ok1 [(6, vi64 0)] [] [] 4 [] (by kernel_rfl) ?_
 refine AW.block ?_
 obtain ⟨x7, l40, h⟩ := bnd_some h
 refine AW.lp l40 (fun v => ⟨[(0, .c (.ptr 0 3 0 0)), (1, vi64 p1), (5, vi64 v.1), (6, vi64 v.2)], [(0, .box 75 [cl 1 Ri64 p0.list, ci64 p0.at_, cu64 p0.state])], 1⟩) (fun t : Int => (.exit 0, ⟨[(0, .c (.ptr 0 3 0 0)), (5, vi64 t)], [(0, .box 75 [cl 1 Ri64 p0.list, ci64 p0.at_, cu64 p0.state])], 1⟩)) (conv_re [(0, 0)] (by kernel_rfl)) (fun _ => tv) ?_ ?_
 ·
  clear l40 h
  intro v o h
  obtain ⟨x3, x4⟩ := v
  replace h : rl_play_Candidates_l1 p1 x3 x4 = some o := h
  unfold rl_play_Candidates_l1 at h
  refine AW.seq ?_
  refine AW.sg tt_ok1 [(12, vb (decide (x4 < p1)))] [] [] 4 [] (by kernel_rfl) ?_
  refine AW.co h (by kernel_rfl) (fun c6 h => ?_) (fun c6 h => ?_)
  ·
   refine AW.skip (AW.tn ?_)
   refine AW.seq (AW.block ?_)
   refine AW.rg tt_ok1 [(5, vi64 (i64.wrap (x3 * 3)))] [] [] 7 [] (by kernel_rfl) ?_
   refine AW.inBlock_normal (AW.tn ?_)
   refine AW.rg tt_ok1 [(6, vi64 (i64.wrap (x4 + 1)))] [] [] 10 [] (by kernel_rfl) ?_
   exact lpn h (conv_re [(0, 0)] (by kernel_rfl))
  ·
   refine AW.exit (AW.thenQ_exit ?_)
   exact lpo h rfl (conv_re [(0, 0)] (by kernel_rfl))
 ·
  show (_ : Exit → St → Prop) (.exit 0) _
  refine AW.inBlock_hit (AW.tn ?_)
  refine AW.sg tt_ok1 [(7, .c (.t (.v (.slice none 0 0))))] [] [] 2 [] (by kernel_rfl) ?_
  refine AW.seq ?_
  obtain ⟨y8, y9, e10, h⟩ := bind2_some h
  refine AW.sg tt_ok1 [(20, vi64 0), (19, vi64 (y8.length : Int)), (18, .c (.ref 3 5 0 y8.length))] [0, 3] [(0, .box 75 [cl 1 Ri64 y9.list, ci64 y9.at_, cu64 y9.state]), (3, .row 81 false 5 y8.length (RS_api_Bond y8))] 6 [hn, hl [0] [] 1 (rl_play_Bonds_con p0 3 3 4 (y8, y9) e10)] (by kernel_rfl) ?_
  refine AW.block ?_
  obtain ⟨x35, x36, x37, x38, l39, h⟩ := bind4_some h
  refine AW.lp l39 (fun v => ⟨[(0, .c (.ptr 0 3 0 0)), (5, vi64 x7), (7, .c (.ref 1 6 0 v.1.length)), (18, .c (.ref 2 5 0 y8.length)), (19, vi64 (y8.length : Int)), (20, vi64 v.2.1)], [(0, .box 75 [cl 1 Ri64 v.2.2.1, ci64 v.2.2.2.1, cu64 v.2.2.2.2]), (1, .row 71 false 6 v.1.length (RS_api_Candidate v.1)), (2, .row 81 false 5 y8.length (RS_api_Bond y8))], 3⟩) (fun t : (List S_api_Candidate) × (List Int) × Int × Int => (.exit 2, ⟨[(7, .c (.ref 1 6 0 t.1.length))], [(0, .box 75 [cl 1 Ri64 t.2.1, ci64 t.2.2.1, cu64 t.2.2.2]), (1, .row 71 false 6 t.1.length (RS_api_Candidate t.1))], 2⟩)) (Conv.trans (conv_adopt (t := 7) (ty := 71) (sz := 6) (n := ([] : List S_api_Candidate).length) (f := RS_api_Candidate ([] : List S_api_Candidate)) (by kernel_rfl) rfl) (conv_re [(0, 0), (1, 6), (2, 3)] (by kernel_rfl))) (fun _ => tv) ?_ ?_
  ·
   clear l39 h
   intro v o h
   obtain ⟨x16, x17, x18, x19, x20⟩ := v
   replace h : rl_play_Candidates_l2 x7 y8 x16 x17 x18 x19 x20 = some o := h
   unfold rl_play_Candidates_l2 at h
   refine AW.sg tt_ok1 [(21, vb (decide (x17 < (y8.length : Int))))] [] [] 4 [] (by kernel_rfl) ?_
   refine AW.seq ?_
   refine AW.co h (by kernel_rfl) (fun c25 h => ?_) (fun c25 h => ?_)
   ·
    refine AW.skip (AW.tn ?_)
    refine AW.seq (AW.block ?_)
    obtain ⟨g26, g27, h⟩ := ifd h
    refine AW.sg tt_ok1 [(9, .c (.ptr 6 5 0 0))] [6] [(6, .box 81 [ci64 (((y8.getD (0 + x17.toNat) dS_api_Bond).A).Registry), ci64 (((y8.getD (0 + x17.toNat) dS_api_Bond).A).ID), ci64 (((y8.getD (0 + x17.toNat) dS_api_Bond).B).Registry), ci64 (((y8.getD (0 + x17.toNat) dS_api_Bond).B).ID), ci64 ((y8.getD (0 + x17.toNat) dS_api_Bond).Weight)])] 8 [hq g26 g27, ho (p := (0 + x17.toNat) < y8.length) (by have h1 : 0 ≤ x17 := g26; have h2 : x17 < (y8.length : Int) := g27; omega)] (by kernel_rfl) ?_
    obtain ⟨y28, y29, e30, h⟩ := bind2_some h
    obtain ⟨y31, y32, e33, h⟩ := bind2_some h
    obtain ⟨g34, h⟩ := ifc h
    refine AW.rd tt_ok1 mo1 [[], [], [], [], [], [], [], [0], [], [0], [], [17], [18, 1]] [(7, .c (.ref 18 6 0 ((x16 ++ ([(⟨((y8.getD (0 + x17.toNat) dS_api_Bond).A), ((y8.getD (0 + x17.toNat) dS_api_Bond).B), y28, y31⟩ : S_api_Candidate)] : List S_api_Candidate)).length)))] [(18, .row 71 false 6 (x16 ++ ([(⟨((y8.getD (0 + x17.toNat) dS_api_Bond).A), ((y8.getD (0 + x17.toNat) dS_api_Bond).B), y28, y31⟩ : S_api_Candidate)] : List S_api_Candidate)).length (RS_api_Candidate (x16 ++ ([(⟨((y8.getD (0 + x17.toNat) dS_api_Bond).A), ((y8.getD (0 + x17.toNat) dS_api_Bond).B), y28, y31⟩ : S_api_Candidate)] : List S_api_Candidate)))), (0, .box 75 [cl 1 Ri64 y32.list, ci64 y32.at_, cu64 y32.state])] 20 [hn, hn, hn, hn, hn, hn, hn, hl [0] [] 0 (rl_make_Deck_Next_con (⟨x18, x19, x20⟩ : S_recordlinkmake_Deck) x7 (y28, y29) e30), hn, hl [0] [] 0 (rl_play_Range_con y29 (-30) 90 (y31, y32) e33), hn, hlit dS_api_Candidate ES_api_Candidate 6 (fun _ => rfl) ([(⟨((y8.getD (0 + x17.toNat) dS_api_Bond).A), ((y8.getD (0 + x17.toNat) dS_api_Bond).B), y28, y31⟩ : S_api_Candidate)] : List S_api_Candidate), happ dS_api_Candidate ES_api_Candidate 6 48 x16 ([(⟨((y8.getD (0 + x17.toNat) dS_api_Bond).A), ((y8.getD (0 + x17.toNat) dS_api_Bond).B), y28, y31⟩ : S_api_Candidate)] : List S_api_Candidate) g34 (by decide)] (by kernel_rfl) ?_
    refine AW.inBlock_normal (AW.tn ?_)
    refine AW.rg tt_ok1 [(20, vi64 (i64.wrap (x17 + 1)))] [] [] 22 [] (by kernel_rfl) ?_
    exact lpn h (conv_re [(0, 0), (1, 18), (2, 2)] (by kernel_rfl))
   ·
    refine AW.exit (AW.thenQ_exit ?_)
    exact lpo h rfl (conv_re [(0, 0), (1, 1)] (by kernel_rfl))
  ·
   show (_ : Exit → St → Prop) (.exit 2) _
   refine AW.inBlock_hit (AW.tn ?_)
   refine AW.sg tt_ok1 [(4, .c (.ref 1 6 0 x35.length))] [] [] 4 [] (by kernel_rfl) ?_
   refine AW.ret ?_
   obtain rfl := some_inj h
   exact fn0 (.inr rfl) [(0, 0), (1, 1)] 2 (.c (.ref 1 6 0 x35.length)) (by kernel_rfl)
/-! (*recordlink/recordlinkmake.Deck).Model -/
noncomputable def rl_make_Deck_Model_k2 (x10 : Int) (x22 : List Int) (x23 : Int) (x24 : Int) (x25 : List Int) (x26 : List Int) : Option ((Int × (List Int) × Int × Int × (List Int) × (List Int)) ⊕ ((List Int) × Int × Int × (List Int) × (List Int))) := some (.inl (i64.wrap (x10 + 1), x22, x23, x24, x25, x26))
noncomputable def rl_make_Deck_Model_l1 (p1 : Int) (x10 : Int) (x11 : List Int) (x12 : Int) (x13 : Int) (x14 : List Int) (x15 : List Int) : Option ((Int × (List Int) × Int × Int × (List Int) × (List Int)) ⊕ ((List Int) × Int × Int × (List Int) × (List Int))) := if (decide (x10 < p1)) = true then (bind2 (rl_make_Deck_Next (⟨x11, x12, x13⟩ : S_recordlinkmake_Deck) 32768) fun y27 y28 => (if x14.length + ([i64.wrap (32768 + y27)] : List Int).length ≤ 1099511627776 then (bind2 (rl_make_Deck_Next y28 32768) fun y31 y32 => (if x15.length + ([i64.wrap (1 + y31)] : List Int).length ≤ 1099511627776 then (bind2 (rl_make_Deck_One y32 6) fun y35 y36 => (if y35 = true then (bind2 (rl_make_Deck_Next y36 2) fun y39 y40 => (if 0 ≤ y39 then (if y39 < ((([1, 65535] : List Int).length : Nat) : Int) then (if 0 ≤ x10 then (if x10 < (((x14 ++ ([i64.wrap (32768 + y27)] : List Int)).length : Nat) : Int) then (rl_make_Deck_Model_k2 x10 y40.list y40.at_ y40.state ((x14 ++ ([i64.wrap (32768 + y27)] : List Int)).set (0 + x10.toNat) (([1, 65535] : List Int).getD (0 + y39.toNat) 0)) (x15 ++ ([i64.wrap (1 + y31)] : List Int))) else none) else none) else none) else none)) else (rl_make_Deck_Model_k2 x10 y36.list y36.at_ y36.state (x14 ++ ([i64.wrap (32768 + y27)] : List Int)) (x15 ++ ([i64.wrap (1 + y31)] : List Int))))) else none)) else none)) else (some (.inr (x11, x12, x13, x14, x15)))
noncomputable def rl_make_Deck_Model (p0 : S_recordlinkmake_Deck) (p1 : Int) : Option (S_em_model × S_recordlinkmake_Deck) := bind2 (rl_make_Deck_Next p0 65535) fun y1 y2 => (bind5 (loop (fun v : Int × (List Int) × Int × Int × (List Int) × (List Int) => rl_make_Deck_Model_l1 p1 v.1 v.2.1 v.2.2.1 v.2.2.2.1 v.2.2.2.2.1 v.2.2.2.2.2) (0, y2.list, y2.at_, y2.state, ([] : List Int), ([] : List Int))) fun x46 x47 x48 x49 x50 => (some ((⟨i64.wrap (1 + y1), x49, x50⟩ : S_em_model), (⟨x46, x47, x48⟩ : S_recordlinkmake_Deck))))
set_option maxRecDepth 100000 in
theorem rl_make_Deck_Model_con (p0 : S_recordlinkmake_Deck) (p1 : Int) (r : S_em_model × S_recordlinkmake_Deck) (h : rl_make_Deck_Model p0 p1 = some r) : Con Tryz.prog 10 [.c (.ptr 0 3 0 0), vi64 p1] [(0, .box 75 [cl 1 Ri64 p0.list, ci64 p0.at_, cu64 p0.state])] (.agg [ci64 r.1.Prior, .ref 1 1 0 r.1.Match.length, .ref 2 1 0 r.1.Random.length]) [(0, .box 75 [cl 1 Ri64 r.2.list, ci64 r.2.at_, cu64 r.2.state]), (1, .row 3 false 1 r.1.Match.length (Ri64 r.1.Match)), (2, .row 3 false 1 r.1.Random.length (Ri64 r.1.Random))] := by
 refine con_of tt_ok1 1 Tryz.func10 (by kernel_rfl) rfl (by kernel_rfl) (fun base X _ => AW.post ?_)
 unfold rl_make_Deck_Model at h
 refine AW.sg tt_ok1 [(4, .c (.ptr 1 3 0 0))] [1] [(1, .box 24 [ci64 0, .t (.v (.slice none 0 0)), .t (.v (.slice none 0 0))])] 2 [] (by kernel_rfl) ?_
 obtain ⟨y1, y2, e3, h⟩ := bind2_some h
 refine AW.sg tt_ok1 [(5, .c (.ptr 5 3 0 0))] [0, 5] [(5, .box 24 [ci64 (i64.wrap (1 + y1)), .t (.v (.slice none 0 0)), .t (.v (.slice none 0 0))]), (0, .box 75 [cl 1 Ri64 y2.list, ci64 y2.at_, cu64 y2.state])] 7 [hn, hl [0] [] 0 (rl_make_Deck_Next_con p0 65535 (y1, y2) e3)] (by kernel_rfl) ?_
 refine AW.seq ?_
 refine AW.sg tt_ok1 [(6, vi64 0)] [] [] 8 [] (by kernel_rfl) ?_
 refine AW.block ?_
 obtain ⟨x46, x47, x48, x49, x50, l51, h⟩ := bind5_some h
 refine AW.lp l51 (fun v => ⟨[(0, .c (.ptr 0 3 0 0)), (1, vi64 p1), (4, .c (.ptr 1 3 0 0)), (5, .c (.ptr 2 3 0 0)), (6, vi64 v.1)], [(0, .box 75 [cl 1 Ri64 v.2.1, ci64 v.2.2.1, cu64 v.2.2.2.1]), (1, .box 24 [ci64 0, .t (.v (.slice none 0 0)), .t (.v (.slice none 0 0))]), (2, .box 24 [ci64 (i64.wrap (1 + y1)), .ref 3 1 0 v.2.2.2.2.1.length, .ref 4 1 0 v.2.2.2.2.2.length]), (3, .row 3 false 1 v.2.2.2.2.1.length (Ri64 v.2.2.2.2.1)), (4, .row 3 false 1 v.2.2.2.2.2.length (Ri64 v.2.2.2.2.2))], 5⟩) (fun t : (List Int) × Int × Int × (List Int) × (List Int) => (.exit 0, ⟨[(4, .c (.ptr 1 3 0 0)), (5, .c (.ptr 2 3 0 0))], [(0, .box 75 [cl 1 Ri64 t.1, ci64 t.2.1, cu64 t.2.2.1]), (1, .box 24 [ci64 0, .t (.v (.slice none 0 0)), .t (.v (.slice none 0 0))]), (2, .box 24 [ci64 (i64.wrap (1 + y1)), .ref 3 1 0 t.2.2.2.1.length, .ref 4 1 0 t.2.2.2.2.length]), (3, .row 3 false 1 t.2.2.2.1.length (Ri64 t.2.2.2.1)), (4, .row 3 false 1 t.2.2.2.2.length (Ri64 t.2.2.2.2))], 5⟩)) (Conv.trans (conv_adoptB (id := 5) (ty0 := 24) (cs := [ci64 (i64.wrap (1 + y1)), .t (.v (.slice none 0 0)), .t (.v (.slice none 0 0))]) 1 (ty := 3) (sz := 1) (n := ([] : List Int).length) (f := Ri64 ([] : List Int)) (by kernel_rfl) (by kernel_rfl) rfl) (Conv.trans (conv_adoptB (id := 5) (ty0 := 24) (cs := [ci64 (i64.wrap (1 + y1)), .ref 8 1 0 (([] : List Int).length), .t (.v (.slice none 0 0))]) 2 (ty := 3) (sz := 1) (n := ([] : List Int).length) (f := Ri64 ([] : List Int)) (by kernel_rfl) (by kernel_rfl) rfl) (conv_re [(0, 0), (1, 1), (2, 5), (3, 8), (4, 9)] (by kernel_rfl)))) (fun _ => tv) ?_ ?_
 ·
  clear l51 h
  intro v o h
  obtain ⟨x10, x11, x12, x13, x14, x15⟩ := v
  replace h : rl_make_Deck_Model_l1 p1 x10 x11 x12 x13 x14 x15 = some o := h
  unfold rl_make_Deck_Model_l1 at h
  refine AW.seq ?_
  refine AW.sg tt_ok1 [(13, vb (decide (x10 < p1)))] [] [] 8 [] (by kernel_rfl) ?_
  refine AW.co h (by kernel_rfl) (fun c21 h => ?_) (fun c21 h => ?_)
  ·
   refine AW.skip (AW.tn (AW.seq ?_))
   refine AW.join (ι := (List Int) × Int × Int × (List Int) × (List Int)) (fun v => ⟨[(0, .c (.ptr 0 3 0 0)), (1, vi64 p1), (4, .c (.ptr 1 3 0 0)), (5, .c (.ptr 2 3 0 0)), (6, vi64 x10)], [(0, .box 75 [cl 1 Ri64 v.1, ci64 v.2.1, cu64 v.2.2.1]), (1, .box 24 [ci64 0, .t (.v (.slice none 0 0)), .t (.v (.slice none 0 0))]), (2, .box 24 [ci64 (i64.wrap (1 + y1)), .ref 3 1 0 v.2.2.2.1.length, .ref 4 1 0 v.2.2.2.2.length]), (3, .row 3 false 1 v.2.2.2.1.length (Ri64 v.2.2.2.1)), (4, .row 3 false 1 v.2.2.2.2.length (Ri64 v.2.2.2.2))], 5⟩) (fun v : (List Int) × Int × Int × (List Int) × (List Int) => rl_make_Deck_Model_k2 x10 v.1 v.2.1 v.2.2.1 v.2.2.2.1 v.2.2.2.2 = some o) (fun v h => ?_) ?_
   ·
    obtain ⟨x22, x23, x24, x25, x26⟩ := v
    replace h : rl_make_Deck_Model_k2 x10 x22 x23 x24 x25 x26 = some o := h
    unfold rl_make_Deck_Model_k2 at h
    refine AW.tn ?_
    refine AW.rg tt_ok1 [(6, vi64 (i64.wrap (x10 + 1)))] [] [] 8 [] (by kernel_rfl) ?_
    exact lpn h (conv_re [(0, 0), (1, 1), (2, 2), (3, 3), (4, 4)] (by kernel_rfl))
   ·
    refine AW.block ?_
    obtain ⟨y27, y28, e29, h⟩ := bind2_some h
    obtain ⟨g30, h⟩ := ifc h
    refine AW.sd tt_ok1 mo1 [[], [], [], [0], [], [12], [13, 3], [], [2]] [] [(2, .box 24 [ci64 (i64.wrap (1 + y1)), .ref 13 1 0 ((x14 ++ ([i64.wrap (32768 + y27)] : List Int)).length), .ref 4 1 0 x15.length]), (13, .row 3 false 1 (x14 ++ ([i64.wrap (32768 + y27)] : List Int)).length (Ri64 (x14 ++ ([i64.wrap (32768 + y27)] : List Int)))), (0, .box 75 [cl 1 Ri64 y28.list, ci64 y28.at_, cu64 y28.state])] 16 [hn, hn, hn, hl [0] [] 0 (rl_make_Deck_Next_con (⟨x11, x12, x13⟩ : S_recordlinkmake_Deck) 32768 (y27, y28) e29), hn, hlit 0 Ei64 1 (fun _ => rfl) ([i64.wrap (32768 + y27)] : List Int), happ 0 Ei64 1 8 x14 ([i64.wrap (32768 + y27)] : List Int) g30 (by decide)] (by kernel_rfl) ?_
    obtain ⟨y31, y32, e33, h⟩ := bind2_some h
    obtain ⟨g34, h⟩ := ifc h
    refine AW.sd tt_ok1 mo1 [[], [], [], [0], [], [20], [21, 4], [], [2]] [] [(2, .box 24 [ci64 (i64.wrap (1 + y1)), .ref 13 1 0 ((x14 ++ ([i64.wrap (32768 + y27)] : List Int)).length), .ref 21 1 0 ((x15 ++ ([i64.wrap (1 + y31)] : List Int)).length)]), (21, .row 3 false 1 (x15 ++ ([i64.wrap (1 + y31)] : List Int)).length (Ri64 (x15 ++ ([i64.wrap (1 + y31)] : List Int)))), (0, .box 75 [cl 1 Ri64 y32.list, ci64 y32.at_, cu64 y32.state])] 24 [hn, hn, hn, hl [0] [] 0 (rl_make_Deck_Next_con y28 32768 (y31, y32) e33), hn, hlit 0 Ei64 1 (fun _ => rfl) ([i64.wrap (1 + y31)] : List Int), happ 0 Ei64 1 8 x15 ([i64.wrap (1 + y31)] : List Int) g34 (by decide)] (by kernel_rfl) ?_
    obtain ⟨y35, y36, e37, h⟩ := bind2_some h
    refine AW.sg tt_ok1 [(33, vb y35)] [0] [(0, .box 75 [cl 1 Ri64 y36.list, ci64 y36.at_, cu64 y36.state])] 25 [hn, hl [0] [] 0 (rl_make_Deck_One_con y32 6 (y35, y36) e37)] (by kernel_rfl) ?_
    refine AW.co h (by kernel_rfl) (fun c38 h => ?_) (fun c38 h => ?_)
    ·
     obtain ⟨y39, y40, e41, h⟩ := bind2_some h
     obtain ⟨g42, g43, h⟩ := ifd h
     obtain ⟨g44, g45, h⟩ := ifd h
     refine AW.rd tt_ok1 mo1 [[], [], [], [28], [], [0], [], [], [], [13]] [] [(13, .row 3 false 1 (x14 ++ ([i64.wrap (32768 + y27)] : List Int)).length (Ri64 ((x14 ++ ([i64.wrap (32768 + y27)] : List Int)).set (0 + x10.toNat) (([1, 65535] : List Int).getD (0 + y39.toNat) 0)))), (0, .box 75 [cl 1 Ri64 y40.list, ci64 y40.at_, cu64 y40.state])] 34 [hn, hn, hn, hlit 0 Ei64 1 (fun _ => rfl) ([1, 65535] : List Int), hn, hl [0] [] 0 (rl_make_Deck_Next_con y36 2 (y39, y40) e41), hq g42 g43, ho (p := (0 + y39.toNat) < ([1, 65535] : List Int).length) (by have h1 : 0 ≤ y39 := g42; have h2 : y39 < ((([1, 65535] : List Int).length : Nat) : Int) := g43; omega), hq g44 g45, hset 0 Ei64 (x14 ++ ([i64.wrap (32768 + y27)] : List Int)) (0 + x10.toNat) (([1, 65535] : List Int).getD (0 + y39.toNat) 0) (n := (x14 ++ ([i64.wrap (32768 + y27)] : List Int)).length) (by have h1 : 0 ≤ x10 := g44; have h2 : x10 < (((x14 ++ ([i64.wrap (32768 + y27)] : List Int)).length : Nat) : Int) := g45; omega) rfl] (by kernel_rfl) ?_
     refine AW.inBlock_normal ?_
     exact jl (y40.list, y40.at_, y40.state, ((x14 ++ ([i64.wrap (32768 + y27)] : List Int)).set (0 + x10.toNat) (([1, 65535] : List Int).getD (0 + y39.toNat) 0)), (x15 ++ ([i64.wrap (1 + y31)] : List Int))) h (Conv.trans (conv_re (S' := ⟨[(0, .c (.ptr 0 3 0 0)), (1, vi64 p1), (4, .c (.ptr 1 3 0 0)), (5, .c (.ptr 2 3 0 0)), (6, vi64 x10)], [(13, .row 3 false 1 (x14 ++ ([i64.wrap (32768 + y27)] : List Int)).length (Ri64 ((x14 ++ ([i64.wrap (32768 + y27)] : List Int)).set (0 + x10.toNat) (([1, 65535] : List Int).getD (0 + y39.toNat) 0)))), (0, .box 75 [cl 1 Ri64 y40.list, ci64 y40.at_, cu64 y40.state]), (2, .box 24 [ci64 (i64.wrap (1 + y1)), .ref 13 1 0 ((x14 ++ ([i64.wrap (32768 + y27)] : List Int)).length), .ref 21 1 0 ((x15 ++ ([i64.wrap (1 + y31)] : List Int)).length)]), (21, .row 3 false 1 (x15 ++ ([i64.wrap (1 + y31)] : List Int)).length (Ri64 (x15 ++ ([i64.wrap (1 + y31)] : List Int)))), (1, .box 24 [ci64 0, .t (.v (.slice none 0 0)), .t (.v (.slice none 0 0))])], 34⟩) [(13, 13), (0, 0), (2, 2), (21, 21), (1, 1)] (by kernel_rfl)) (Conv.trans (conv_len (S' := ⟨[(0, .c (.ptr 0 3 0 0)), (1, vi64 p1), (4, .c (.ptr 1 3 0 0)), (5, .c (.ptr 2 3 0 0)), (6, vi64 x10)], [(13, .row 3 false 1 ((x14 ++ ([i64.wrap (32768 + y27)] : List Int)).set (0 + x10.toNat) (([1, 65535] : List Int).getD (0 + y39.toNat) 0)).length (Ri64 ((x14 ++ ([i64.wrap (32768 + y27)] : List Int)).set (0 + x10.toNat) (([1, 65535] : List Int).getD (0 + y39.toNat) 0)))), (0, .box 75 [cl 1 Ri64 y40.list, ci64 y40.at_, cu64 y40.state]), (2, .box 24 [ci64 (i64.wrap (1 + y1)), .ref 13 1 0 (((x14 ++ ([i64.wrap (32768 + y27)] : List Int)).set (0 + x10.toNat) (([1, 65535] : List Int).getD (0 + y39.toNat) 0)).length), .ref 21 1 0 ((x15 ++ ([i64.wrap (1 + y31)] : List Int)).length)]), (21, .row 3 false 1 (x15 ++ ([i64.wrap (1 + y31)] : List Int)).length (Ri64 (x15 ++ ([i64.wrap (1 + y31)] : List Int)))), (1, .box 24 [ci64 0, .t (.v (.slice none 0 0)), .t (.v (.slice none 0 0))])], 34⟩) (by simp only [List.length_set])) (conv_re [(0, 0), (1, 1), (2, 2), (3, 13), (4, 21)] (by kernel_rfl))))
    ·
     refine AW.skip (AW.inBlock_normal ?_)
     exact jl (y36.list, y36.at_, y36.state, (x14 ++ ([i64.wrap (32768 + y27)] : List Int)), (x15 ++ ([i64.wrap (1 + y31)] : List Int))) h (conv_re [(0, 0), (1, 1), (2, 2), (3, 13), (4, 21)] (by kernel_rfl))
  ·
   refine AW.exit (AW.thenQ_exit ?_)
   exact lpo h rfl (conv_re [(0, 0), (1, 1), (2, 2), (3, 3), (4, 4)] (by kernel_rfl))
 ·
  show (_ : Exit → St → Prop) (.exit 0) _
  refine AW.inBlock_hit (AW.tn ?_)
  refine AW.sg tt_ok1 [] [1] [(1, .box 24 [ci64 (i64.wrap (1 + y1)), .ref 3 1 0 x49.length, .ref 4 1 0 x50.length])] 7 [] (by kernel_rfl) ?_
  refine AW.ret ?_
  obtain rfl := some_inj h
  exact fn0 (.inr rfl) [(0, 0), (1, 3), (2, 4)] 3 (.agg [ci64 (i64.wrap (1 + y1)), .ref 3 1 0 x49.length, .ref 4 1 0 x50.length]) (by kernel_rfl)
structure S_t35 where
 m : S_em_model
 a : List S_api_Candidate
 b : List S_api_Candidate
def dS_t35 : S_t35 := ⟨dS_em_model, ([] : List S_api_Candidate), ([] : List S_api_Candidate)⟩
instance : Inhabited S_t35 := ⟨dS_t35⟩
def ES_t35 (x : S_t35) : List T := [.v (.int .i64 x.m.Prior), .tree x.m.Match.length 1 (Ri64 x.m.Match), .tree x.m.Random.length 1 (Ri64 x.m.Random), .tree x.a.length 6 (RS_api_Candidate x.a), .tree x.b.length 6 (RS_api_Candidate x.b)]
def RS_t35 (xs : List S_t35) : Nat → Nat → T := rowL dS_t35 ES_t35 xs
/-! recordlink/recordlinkref24.right -/
noncomputable def rl_ref24_right_k1 (x1 : Bool) : Option Bool := some x1
noncomputable def rl_ref24_right (p0 : Int) : Option Bool := if (decide (p0 ≥ 1)) = true then (rl_ref24_right_k1 (decide (p0 < 65536))) else (rl_ref24_right_k1 false)
set_option maxRecDepth 100000 in
theorem rl_ref24_right_con (p0 : Int) (r : Bool) (h : rl_ref24_right p0 = some r) : Con Tryz.prog 68 [vi64 p0] [] (vb r) [] := by
 refine con_of tt_ok1 0 Tryz.func68 (by kernel_rfl) rfl (by kernel_rfl) (fun base X _ => AW.post ?_)
 unfold rl_ref24_right at h
 refine AW.sg tt_ok1 [] [] [] 1 [] (by kernel_rfl) ?_
 refine AW.seq ?_
 refine AW.join (ι := Bool) (fun v => ⟨[(2, vb v)], [], 0⟩) (fun v : Bool => rl_ref24_right_k1 v = some r) (fun x1 h => ?_) ?_
 ·
  unfold rl_ref24_right_k1 at h
  refine AW.tn (AW.ret ?_)
  obtain rfl := some_inj h
  exact fn0 (.inr rfl) [] 0 (vb x1) (by kernel_rfl)
 ·
  rcases ifs h with ⟨c2, h⟩ | ⟨c2, h⟩
  ·
   refine AW.rg tt_ok1 [(2, vb (decide (p0 < 65536)))] [] [] 8 [hn, ht c2] (by kernel_rfl) ?_
   exact jl (decide (p0 < 65536)) h (conv_re [] (by kernel_rfl))
  ·
   refine AW.rg tt_ok1 [(2, vb false)] [] [] 8 [hn, hf c2] (by kernel_rfl) ?_
   exact jl false h (conv_re [] (by kernel_rfl))
/-! recordlink/recordlinkref24.Check -/
noncomputable def rl_ref24_Check_k3 (x4 : Int) (x6 : Bool) : Option (Int ⊕ (Unit ⊕ Unit)) := if x6 = true then (some (.inr (.inr ()))) else (some (.inl (i64.wrap (x4 + 1))))
noncomputable def rl_ref24_Check_l2 (p0 : S_em_model) (x4 : Int) : Option (Int ⊕ (Unit ⊕ Unit)) := if (decide (x4 < ((p0.Match.length : Nat) : Int))) = true then (if 0 ≤ x4 then (if x4 < ((p0.Match.length : Nat) : Int) then ((rl_ref24_right (p0.Match.getD x4.toNat 0)).bind fun y10 => (if (!y10) = true then (rl_ref24_Check_k3 x4 true) else (if x4 < ((p0.Random.length : Nat) : Int) then ((rl_ref24_right (p0.Random.getD x4.toNat 0)).bind fun y14 => (rl_ref24_Check_k3 x4 (!y14))) else none))) else none) else none) else (some (.inr (.inl ())))
noncomputable def rl_ref24_Check_a4 : Option Int := some 0
noncomputable def rl_ref24_Check_a5 : Option Int := some 18
noncomputable def rl_ref24_Check_k1 (p0 : S_em_model) (x1 : Bool) : Option Int := if x1 = true then (some 18) else (bindE (loop (fun v : Int => rl_ref24_Check_l2 p0 v) 0) (fun t => rl_ref24_Check_a4) (fun t => rl_ref24_Check_a5))
noncomputable def rl_ref24_Check (p0 : S_em_model) : Option Int := if (decide (((p0.Match.length : Nat) : Int) < 1)) = true then (rl_ref24_Check_k1 p0 true) else (if (decide (((p0.Match.length : Nat) : Int) > 5)) = true then (rl_ref24_Check_k1 p0 true) else (if (((p0.Random.length : Nat) : Int) != ((p0.Match.length : Nat) : Int)) = true then (rl_ref24_Check_k1 p0 true) else ((rl_ref24_right p0.Prior).bind fun y20 => (rl_ref24_Check_k1 p0 (!y20)))))
set_option maxRecDepth 100000 in
theorem rl_ref24_Check_con (p0 : S_em_model) (r : Int) (h : rl_ref24_Check p0 = some r) : Con Tryz.prog 36 [.agg [ci64 p0.Prior, cl 1 Ri64 p0.Match, cl 1 Ri64 p0.Random]] [] (vi64 r) [] := by
 refine con_of tt_ok1 0 Tryz.func36 (by kernel_rfl) rfl (by kernel_rfl) (fun base X _ => AW.post ?_)
 unfold rl_ref24_Check at h
 refine AW.sg tt_ok1 [(1, .c (.ptr 0 3 0 0))] [0] [(0, .box 24 [ci64 p0.Prior, cl 1 Ri64 p0.Match, cl 1 Ri64 p0.Random])] 2 [] (by kernel_rfl) ?_
 refine AW.seq (AW.seq ?_)
 refine AW.join (ι := Bool) (fun v => ⟨[(1, .c (.ptr 0 3 0 0)), (28, vb v)], [(0, .box 24 [ci64 p0.Prior, cl 1 Ri64 p0.Match, cl 1 Ri64 p0.Random])], 1⟩) (fun v : Bool => rl_ref24_Check_k1 p0 v = some r) (fun x1 h => ?_) ?_
 ·
  unfold rl_ref24_Check_k1 at h
  refine AW.tn ?_
  refine AW.co h (by kernel_rfl) (fun c2 h => ?_) (fun c2 h => ?_)
  ·
   refine AW.sg tt_ok1 [(2, vi64 18)] [] [] 2 [] (by kernel_rfl) ?_
   refine AW.ret (AW.tr ?_)
   obtain rfl := some_inj h
   exact fn0 (.inr rfl) [] 0 (vi64 18) (by kernel_rfl)
  ·
   refine AW.skip (AW.tn (AW.seq ?_))
   refine AW.sg tt_ok1 [(3, vi64 0)] [] [] 2 [] (by kernel_rfl) ?_
   refine AW.block ?_
   refine AW.lpE h (fun v => ⟨[(1, .c (.ptr 0 3 0 0)), (3, vi64 v)], [(0, .box 24 [ci64 p0.Prior, cl 1 Ri64 p0.Match, cl 1 Ri64 p0.Random])], 1⟩) (fun t => (.exit 0, ⟨[], [], 0⟩)) (fun t => (.ret, ⟨[(2, vi64 18)], [], 0⟩)) (conv_re [(0, 0)] (by kernel_rfl)) (fun _ => tv) (fun _ => tv) ?_ (fun t h => ?_) (fun t h => ?_)
   ·
    clear h
    intro x4 o h
    unfold rl_ref24_Check_l2 at h
    refine AW.seq ?_
    refine AW.sg tt_ok1 [(33, vb (decide (x4 < ((p0.Match.length : Nat) : Int))))] [] [] 6 [] (by kernel_rfl) ?_
    refine AW.co h (by kernel_rfl) (fun c5 h => ?_) (fun c5 h => ?_)
    ·
     refine AW.skip (AW.tn ?_)
     refine AW.seq (AW.block (AW.seq ?_))
     refine AW.join (ι := Bool) (fun v => ⟨[(1, .c (.ptr 0 3 0 0)), (3, vi64 x4), (51, vb v)], [(0, .box 24 [ci64 p0.Prior, cl 1 Ri64 p0.Match, cl 1 Ri64 p0.Random])], 1⟩) (fun v : Bool => rl_ref24_Check_k3 x4 v = some o) (fun x6 h => ?_) ?_
     ·
      unfold rl_ref24_Check_k3 at h
      refine AW.tn ?_
      refine AW.co h (by kernel_rfl) (fun c7 h => ?_) (fun c7 h => ?_)
      ·
       refine AW.sg tt_ok1 [(2, vi64 18)] [] [] 2 [] (by kernel_rfl) ?_
       refine AW.ret (AW.inBlock_ret (AW.tr ?_))
       exact lpo h rfl (conv_re [] (by kernel_rfl))
      ·
       refine AW.skip (AW.inBlock_normal (AW.tn ?_))
       refine AW.rg tt_ok1 [(3, vi64 (i64.wrap (x4 + 1)))] [] [] 4 [] (by kernel_rfl) ?_
       exact lpn h (conv_re [(0, 0)] (by kernel_rfl))
     ·
      obtain ⟨g8, g9, h⟩ := ifd h
      obtain ⟨y10, e11, h⟩ := bnd_some h
      rcases ifs h with ⟨c12, h⟩ | ⟨c12, h⟩
      ·
       refine AW.rg tt_ok1 [(51, vb true)] [] [] 21 [hn, hn, hn, hq g8 g9, hn, hk (rl_ref24_right_con (p0.Match.getD x4.toNat 0) y10 e11), ht c12] (by kernel_rfl) ?_
       exact jl true h (conv_re [(0, 0)] (by kernel_rfl))
      ·
       obtain ⟨g13, h⟩ := ifc h
       obtain ⟨y14, e15, h⟩ := bnd_some h
       refine AW.rg tt_ok1 [(51, vb (!y14))] [] [] 20 [hn, hn, hn, hq g8 g9, hn, hk (rl_ref24_right_con (p0.Match.getD x4.toNat 0) y10 e11), hf c12, hn, hn, hn, hn, hq g8 g13, hn, hk (rl_ref24_right_con (p0.Random.getD x4.toNat 0) y14 e15)] (by kernel_rfl) ?_
       exact jl (!y14) h (conv_re [(0, 0)] (by kernel_rfl))
    ·
     refine AW.exit (AW.thenQ_exit ?_)
     exact lpo h rfl (conv_re [] (by kernel_rfl))
   ·
    replace h : rl_ref24_Check_a4 = some r := h
    unfold rl_ref24_Check_a4 at h
    show (_ : Exit → St → Prop) (.exit 0) _
    refine AW.inBlock_hit (AW.tn ?_)
    refine AW.sg tt_ok1 [(2, vi64 0)] [] [] 1 [] (by kernel_rfl) ?_
    refine AW.ret ?_
    obtain rfl := some_inj h
    exact fn0 (.inr rfl) [] 0 (vi64 0) (by kernel_rfl)
   ·
    replace h : rl_ref24_Check_a5 = some r := h
    unfold rl_ref24_Check_a5 at h
    show (_ : Exit → St → Prop) (.ret) _
    refine AW.inBlock_ret (AW.tr ?_)
    obtain rfl := some_inj h
    exact fn0 (.inr rfl) [] 0 (vi64 18) (by kernel_rfl)
 ·
  rcases ifs h with ⟨c17, h⟩ | ⟨c17, h⟩
  ·
   refine AW.rg tt_ok1 [(28, vb true)] [] [] 27 [hn, hn, hn, ht c17] (by kernel_rfl) ?_
   exact jl true h (conv_re [(0, 0)] (by kernel_rfl))
  ·
   rcases ifs h with ⟨c18, h⟩ | ⟨c18, h⟩
   ·
    refine AW.rg tt_ok1 [(28, vb true)] [] [] 27 [hn, hn, hn, hf c17, hn, hn, hn, hn, ht c18] (by kernel_rfl) ?_
    exact jl true h (conv_re [(0, 0)] (by kernel_rfl))
   ·
    rcases ifs h with ⟨c19, h⟩ | ⟨c19, h⟩
    ·
     refine AW.rg tt_ok1 [(28, vb true)] [] [] 27 [hn, hn, hn, hf c17, hn, hn, hn, hn, hf c18, hn, hn, hn, hn, hn, hn, hn, hn, ht c19] (by kernel_rfl) ?_
     exact jl true h (conv_re [(0, 0)] (by kernel_rfl))
    ·
     obtain ⟨y20, e21, h⟩ := bnd_some h
     refine AW.rg tt_ok1 [(28, vb (!y20))] [] [] 26 [hn, hn, hn, hf c17, hn, hn, hn, hn, hf c18, hn, hn, hn, hn, hn, hn, hn, hn, hf c19, hn, hn, hn, hn, hk (rl_ref24_right_con p0.Prior y20 e21)] (by kernel_rfl) ?_
     exact jl (!y20) h (conv_re [(0, 0)] (by kernel_rfl))
/-! recordlink/recordlinkref17.Size -/
noncomputable def rl_ref17_Size_l1 (p0 : Int) (x3 : Int) (x4 : Int) : Option ((Int × Int) ⊕ Int) := if (decide (x4 < p0)) = true then (some (.inl (i64.wrap (x3 * 3), i64.wrap (x4 + 1)))) else (some (.inr x3))
noncomputable def rl_ref17_Size (p0 : Int) : Option Int := (loop (fun v : Int × Int => rl_ref17_Size_l1 p0 v.1 v.2) (1, 0)).bind fun x7 => (some x7)
set_option maxRecDepth 100000 in
theorem rl_ref17_Size_con (p0 : Int) (r : Int) (h : rl_ref17_Size p0 = some r) : Con Tryz.prog 81 [vi64 p0] [] (vi64 r) [] := by
 refine con_of tt_ok1 0 Tryz.func81 (by kernel_rfl) rfl (by kernel_rfl) (fun base X _ => AW.post ?_)
 unfold rl_ref17_Size at h
 refine AW.sg tt_ok1 [] [] [] 1 [] (by kernel_rfl) ?_
 refine AW.sg tt_ok1 [(3, vi64 1)] [] [] 2 [] (by kernel_rfl) ?_
 refine AW.seq ?_
 refine AW.sg tt_ok1 [(4, vi64 0)] [] [] 3 [] (by kernel_rfl) ?_
 refine AW.block ?_
 obtain ⟨x7, l8, h⟩ := bnd_some h
 refine AW.lp l8 (fun v => ⟨[(0, vi64 p0), (3, vi64 v.1), (4, vi64 v.2)], [], 0⟩) (fun t : Int => (.exit 0, ⟨[(3, vi64 t)], [], 0⟩)) (conv_re [] (by kernel_rfl)) (fun _ => tv) ?_ ?_
 ·
  clear l8 h
  intro v o h
  obtain ⟨x3, x4⟩ := v
  replace h : rl_ref17_Size_l1 p0 x3 x4 = some o := h
  unfold rl_ref17_Size_l1 at h
  refine AW.seq ?_
  refine AW.sg tt_ok1 [(7, vb (decide (x4 < p0)))] [] [] 3 [] (by kernel_rfl) ?_
  refine AW.co h (by kernel_rfl) (fun c6 h => ?_) (fun c6 h => ?_)
  ·
   refine AW.skip (AW.tn ?_)
   refine AW.seq (AW.block ?_)
   refine AW.rg tt_ok1 [(3, vi64 (i64.wrap (x3 * 3)))] [] [] 6 [] (by kernel_rfl) ?_
   refine AW.inBlock_normal (AW.tn ?_)
   refine AW.rg tt_ok1 [(4, vi64 (i64.wrap (x4 + 1)))] [] [] 9 [] (by kernel_rfl) ?_
   exact lpn h (conv_re [] (by kernel_rfl))
  ·
   refine AW.exit (AW.thenQ_exit ?_)
   exact lpo h rfl (conv_re [] (by kernel_rfl))
 ·
  show (_ : Exit → St → Prop) (.exit 0) _
  refine AW.inBlock_hit (AW.tn ?_)
  refine AW.sg tt_ok1 [(2, vi64 x7)] [] [] 2 [] (by kernel_rfl) ?_
  refine AW.ret ?_
  obtain rfl := some_inj h
  exact fn0 (.inr rfl) [] 0 (vi64 x7) (by kernel_rfl)
/-! recordlink/recordlinkref17.Digits -/
noncomputable def rl_ref17_Digits_l3 (p1 : Int) (x8 : Int) (x9 : List Int) (x10 : Int) : Option ((Int × (List Int) × Int) ⊕ (List Int)) := if (decide (x10 < p1)) = true then (if x9.length + ([(x8.tmod 3)] : List Int).length ≤ 1099511627776 then (some (.inl (i64.wrap (x8.tdiv 3), (x9 ++ ([(x8.tmod 3)] : List Int)), i64.wrap (x10 + 1)))) else none) else (some (.inr x9))
noncomputable def rl_ref17_Digits_k2 (p0 : Int) (p1 : Int) (x3 : Bool) : Option ((List Int) × Int) := if x3 = true then (some (([] : List Int), 2)) else ((loop (fun v : Int × (List Int) × Int => rl_ref17_Digits_l3 p1 v.1 v.2.1 v.2.2) (p0, ([] : List Int), 0)).bind fun x14 => (some (x14, 0)))
noncomputable def rl_ref17_Digits_k1 (p0 : Int) (p1 : Int) (x1 : Bool) : Option ((List Int) × Int) := if x1 = true then (some (([] : List Int), 8)) else (if (decide (p0 < 0)) = true then (rl_ref17_Digits_k2 p0 p1 true) else ((rl_ref17_Size p1).bind fun y17 => (rl_ref17_Digits_k2 p0 p1 (decide (p0 ≥ y17)))))
noncomputable def rl_ref17_Digits (p0 : Int) (p1 : Int) : Option ((List Int) × Int) := if (decide (p1 < 1)) = true then (rl_ref17_Digits_k1 p0 p1 true) else (rl_ref17_Digits_k1 p0 p1 (decide (p1 > 5)))
set_option maxRecDepth 100000 in
theorem rl_ref17_Digits_con (p0 : Int) (p1 : Int) (r : (List Int) × Int) (h : rl_ref17_Digits p0 p1 = some r) : Con Tryz.prog 52 [vi64 p0, vi64 p1] [] (.tup [.c (.ref 0 1 0 r.1.length), vi64 r.2]) [(0, .row 3 false 1 r.1.length (Ri64 r.1))] := by
 refine con_of tt_ok1 0 Tryz.func52 (by kernel_rfl) rfl (by kernel_rfl) (fun base X _ => AW.post ?_)
 unfold rl_ref17_Digits at h
 refine AW.sg tt_ok1 [] [] [] 2 [] (by kernel_rfl) ?_
 refine AW.seq (AW.seq ?_)
 refine AW.join (ι := Bool) (fun v => ⟨[(0, vi64 p0), (1, vi64 p1), (13, vb v)], [], 0⟩) (fun v : Bool => rl_ref17_Digits_k1 p0 p1 v = some r) (fun x1 h => ?_) ?_
 ·
  unfold rl_ref17_Digits_k1 at h
  refine AW.tn ?_
  refine AW.co h (by kernel_rfl) (fun c2 h => ?_) (fun c2 h => ?_)
  ·
   refine AW.sg tt_ok1 [(5, vi64 8), (4, .c (.t (.v (.slice none 0 0))))] [] [] 2 [] (by kernel_rfl) ?_
   refine AW.ret (AW.tr ?_)
   obtain rfl := some_inj h
   exact fnR (.inr rfl) [(0, 2)] 1 (.tup [.c (.ref 2 1 0 (([] : List Int).length)), vi64 8]) (conv_adopt (t := 4) (ty := 3) (sz := 1) (n := ([] : List Int).length) (f := Ri64 ([] : List Int)) (by kernel_rfl) rfl) (by kernel_rfl)
  ·
   refine AW.skip (AW.tn ?_)
   refine AW.seq (AW.seq ?_)
   refine AW.join (ι := Bool) (fun v => ⟨[(0, vi64 p0), (1, vi64 p1), (21, vb v)], [], 0⟩) (fun v : Bool => rl_ref17_Digits_k2 p0 p1 v = some r) (fun x3 h => ?_) ?_
   ·
    unfold rl_ref17_Digits_k2 at h
    refine AW.tn ?_
    refine AW.co h (by kernel_rfl) (fun c4 h => ?_) (fun c4 h => ?_)
    ·
     refine AW.sg tt_ok1 [(5, vi64 2), (4, .c (.t (.v (.slice none 0 0))))] [] [] 2 [] (by kernel_rfl) ?_
     refine AW.ret (AW.tr ?_)
     obtain rfl := some_inj h
     exact fnR (.inr rfl) [(0, 2)] 1 (.tup [.c (.ref 2 1 0 (([] : List Int).length)), vi64 2]) (conv_adopt (t := 4) (ty := 3) (sz := 1) (n := ([] : List Int).length) (f := Ri64 ([] : List Int)) (by kernel_rfl) rfl) (by kernel_rfl)
    ·
     refine AW.skip (AW.tn ?_)
     refine AW.sg tt_ok1 [(6, .c (.t (.v (.slice none 0 0))))] [] [] 1 [] (by kernel_rfl) ?_
     refine AW.seq ?_
     refine AW.sg tt_ok1 [(7, vi64 0)] [] [] 2 [] (by kernel_rfl) ?_
     refine AW.block ?_
     obtain ⟨x14, l15, h⟩ := bnd_some h
     refine AW.lp l15 (fun v => ⟨[(0, vi64 v.1), (1, vi64 p1), (6, .c (.ref 0 1 0 v.2.1.length)), (7, vi64 v.2.2)], [(0, .row 3 false 1 v.2.1.length (Ri64 v.2.1))], 1⟩) (fun t : List Int => (.exit 0, ⟨[(6, .c (.ref 0 1 0 t.length))], [(0, .row 3 false 1 t.length (Ri64 t))], 1⟩)) (Conv.trans (conv_adopt (t := 6) (ty := 3) (sz := 1) (n := ([] : List Int).length) (f := Ri64 ([] : List Int)) (by kernel_rfl) rfl) (conv_re [(0, 2)] (by kernel_rfl))) (fun _ => tv) ?_ ?_
     ·
      clear l15 h
      intro v o h
      obtain ⟨x8, x9, x10⟩ := v
      replace h : rl_ref17_Digits_l3 p1 x8 x9 x10 = some o := h
      unfold rl_ref17_Digits_l3 at h
      refine AW.seq ?_
      refine AW.sg tt_ok1 [(24, vb (decide (x10 < p1)))] [] [] 4 [] (by kernel_rfl) ?_
      refine AW.co h (by kernel_rfl) (fun c12 h => ?_) (fun c12 h => ?_)
      ·
       refine AW.skip (AW.tn ?_)
       refine AW.seq (AW.block ?_)
       obtain ⟨g13, h⟩ := ifc h
       refine AW.sg tt_ok1 [(6, .c (.ref 8 1 0 ((x9 ++ ([(x8.tmod 3)] : List Int)).length)))] [0, 7, 8] [(8, .row 3 false 1 (x9 ++ ([(x8.tmod 3)] : List Int)).length (Ri64 (x9 ++ ([(x8.tmod 3)] : List Int))))] 10 [hn, hn, ho (p := (3 : Int) ≠ 0) (by decide), hlit 0 Ei64 1 (fun _ => rfl) ([(x8.tmod 3)] : List Int), happ 0 Ei64 1 8 x9 ([(x8.tmod 3)] : List Int) g13 (by decide)] (by kernel_rfl) ?_
       refine AW.rg tt_ok1 [(0, vi64 (i64.wrap (x8.tdiv 3)))] [] [] 13 [hn, ho (p := (3 : Int) ≠ 0) (by decide)] (by kernel_rfl) ?_
       refine AW.inBlock_normal (AW.tn ?_)
       refine AW.rg tt_ok1 [(7, vi64 (i64.wrap (x10 + 1)))] [] [] 16 [] (by kernel_rfl) ?_
       exact lpn h (conv_re [(0, 8)] (by kernel_rfl))
      ·
       refine AW.exit (AW.thenQ_exit ?_)
       exact lpo h rfl (conv_re [(0, 0)] (by kernel_rfl))
     ·
      show (_ : Exit → St → Prop) (.exit 0) _
      refine AW.inBlock_hit (AW.tn ?_)
      refine AW.sg tt_ok1 [(5, vi64 0), (4, .c (.ref 0 1 0 x14.length))] [] [] 4 [] (by kernel_rfl) ?_
      refine AW.ret ?_
      obtain rfl := some_inj h
      exact fn0 (.inr rfl) [(0, 0)] 1 (.tup [.c (.ref 0 1 0 x14.length), vi64 0]) (by kernel_rfl)
   ·
    rcases ifs h with ⟨c16, h⟩ | ⟨c16, h⟩
    ·
     refine AW.rg tt_ok1 [(21, vb true)] [] [] 8 [hn, ht c16] (by kernel_rfl) ?_
     exact jl true h (conv_re [] (by kernel_rfl))
    ·
     obtain ⟨y17, e18, h⟩ := bnd_some h
     refine AW.rg tt_ok1 [(21, vb (decide (p0 ≥ y17)))] [] [] 7 [hn, hf c16, hn, hn, hn, hk (rl_ref17_Size_con p1 y17 e18)] (by kernel_rfl) ?_
     exact jl (decide (p0 ≥ y17)) h (conv_re [] (by kernel_rfl))
 ·
  rcases ifs h with ⟨c19, h⟩ | ⟨c19, h⟩
  ·
   refine AW.rg tt_ok1 [(13, vb true)] [] [] 8 [hn, ht c19] (by kernel_rfl) ?_
   exact jl true h (conv_re [] (by kernel_rfl))
  ·
   refine AW.rg tt_ok1 [(13, vb (decide (p1 > 5)))] [] [] 8 [hn, hf c19] (by kernel_rfl) ?_
   exact jl (decide (p1 > 5)) h (conv_re [] (by kernel_rfl))
/-! recordlink/recordlinkref10.trim -/
noncomputable def rl_ref10_trim_k2 (x2 : List Int) (x4 : Bool) : Option ((List Int) ⊕ (List Int)) := if x4 = true then (if 0 ≤ (i64.wrap ((x2.length : Int) - 1)) then (if ((i64.wrap ((x2.length : Int) - 1)).toNat) ≤ x2.length then (some (.inl (x2.take ((i64.wrap ((x2.length : Int) - 1)).toNat)))) else none) else none) else (some (.inr x2))
noncomputable def rl_ref10_trim_l1 (x2 : List Int) : Option ((List Int) ⊕ (List Int)) := if (decide ((x2.length : Int) > 0)) = true then (if 0 ≤ (i64.wrap ((x2.length : Int) - 1)) then (if (i64.wrap ((x2.length : Int) - 1)) < (x2.length : Int) then (rl_ref10_trim_k2 x2 ((x2.getD ((i64.wrap ((x2.length : Int) - 1)).toNat) 0) == 0)) else none) else none) else (rl_ref10_trim_k2 x2 false)
noncomputable def rl_ref10_trim (p0 : List Int) : Option (List Int) := (loop (fun v : List Int => rl_ref10_trim_l1 v) p0).bind fun x11 => (some x11)
set_option maxRecDepth 100000 in
theorem rl_ref10_trim_con (p0 : List Int) (r : List Int) (h : rl_ref10_trim p0 = some r) : Con Tryz.prog 109 [vl 1 Ru32 p0] [] (vl 1 Ru32 r) [] := by
 refine con_of tt_ok1 0 Tryz.func109 (by kernel_rfl) rfl (by kernel_rfl) (fun base X _ => AW.post ?_)
 unfold rl_ref10_trim at h
 refine AW.sg tt_ok1 [] [] [] 1 [] (by kernel_rfl) ?_
 refine AW.seq (AW.block ?_)
 obtain ⟨x11, l12, h⟩ := bnd_some h
 refine AW.lp l12 (fun v => ⟨[(0, vl 1 Ru32 v)], [], 0⟩) (fun t : List Int => (.exit 0, ⟨[(0, vl 1 Ru32 t)], [], 0⟩)) (conv_re [] (by kernel_rfl)) (fun _ => tv) ?_ ?_
 ·
  clear l12 h
  intro x2 o h
  unfold rl_ref10_trim_l1 at h
  refine AW.seq (AW.seq ?_)
  refine AW.join (ι := Bool) (fun v => ⟨[(0, vl 1 Ru32 x2), (14, vb v)], [], 0⟩) (fun v : Bool => rl_ref10_trim_k2 x2 v = some o) (fun x4 h => ?_) ?_
  ·
   unfold rl_ref10_trim_k2 at h
   refine AW.tn ?_
   refine AW.co h (by kernel_rfl) (fun c5 h => ?_) (fun c5 h => ?_)
   ·
    refine AW.skip (AW.tn (AW.block ?_))
    obtain ⟨g6, g7, h⟩ := ifd h
    refine AW.rg tt_ok1 [(0, .c (.t (.tree ((i64.wrap ((x2.length : Int) - 1)).toNat) 1 (Ru32 x2))))] [] [] 6 [hn, hn, hn, hn, ho (p := (True) ∧ (0 ≤ (i64.wrap ((x2.length : Int) - 1))) ∧ (0 ≤ ((i64.wrap ((x2.length : Int) - 1)).toNat)) ∧ (((i64.wrap ((x2.length : Int) - 1)).toNat) ≤ x2.length)) (⟨tv, g6, (Nat.zero_le _), g7⟩)] (by kernel_rfl) ?_
    refine AW.inBlock_normal ?_
    exact lpn h (Conv.trans (conv_tms [(0, vl 1 Ru32 (x2.take ((i64.wrap ((x2.length : Int) - 1)).toNat)))] ⟨⟨.c (.t (.tree ((i64.wrap ((x2.length : Int) - 1)).toNat) 1 (Ru32 x2))), by kernel_rfl, ALe.c (CAle.cle (CAle.tree (take_row (by omega))))⟩, tv⟩) (conv_re [] (by kernel_rfl)))
   ·
    refine AW.exit (AW.thenQ_exit ?_)
    exact lpo h rfl (conv_re [] (by kernel_rfl))
  ·
   rcases ifs h with ⟨c8, h⟩ | ⟨c8, h⟩
   ·
    obtain ⟨g9, g10, h⟩ := ifd h
    refine AW.rg tt_ok1 [(14, vb ((x2.getD ((i64.wrap ((x2.length : Int) - 1)).toNat) 0) == 0))] [] [] 12 [hn, hn, ht c8, hn, hn, hn, hn, hn, hq g9 g10] (by kernel_rfl) ?_
    exact jl ((x2.getD ((i64.wrap ((x2.length : Int) - 1)).toNat) 0) == 0) h (conv_re [] (by kernel_rfl))
   ·
    refine AW.rg tt_ok1 [(14, vb false)] [] [] 12 [hn, hn, hf c8] (by kernel_rfl) ?_
    exact jl false h (conv_re [] (by kernel_rfl))
 ·
  show (_ : Exit → St → Prop) (.exit 0) _
  refine AW.inBlock_hit (AW.tn ?_)
  refine AW.sg tt_ok1 [(2, vl 1 Ru32 x11)] [] [] 2 [] (by kernel_rfl) ?_
  refine AW.ret ?_
  obtain rfl := some_inj h
  exact fn0 (.inr rfl) [] 0 (vl 1 Ru32 x11) (by kernel_rfl)
/-! recordlink/recordlinkref10.FromInt -/
noncomputable def rl_ref10_FromInt (p0 : Int) : Option ((List Int) × Int) := if (decide (p0 < 0)) = true then (some (([] : List Int), 2)) else ((rl_ref10_trim ([u32.wrap p0, u32.wrap (ishr .i64 p0 32)] : List Int)).bind fun y2 => (some (y2, 0)))
set_option maxRecDepth 100000 in
theorem rl_ref10_FromInt_con (p0 : Int) (r : (List Int) × Int) (h : rl_ref10_FromInt p0 = some r) : Con Tryz.prog 82 [vi64 p0] [] (.tup [vl 1 Ru32 r.1, vi64 r.2]) [] := by
 refine con_of tt_ok1 0 Tryz.func82 (by kernel_rfl) rfl (by kernel_rfl) (fun base X _ => AW.post ?_)
 unfold rl_ref10_FromInt at h
 refine AW.sg tt_ok1 [] [] [] 2 [] (by kernel_rfl) ?_
 refine AW.seq ?_
 refine AW.sg tt_ok1 [(5, vb (decide (p0 < 0)))] [] [] 4 [] (by kernel_rfl) ?_
 refine AW.co h (by kernel_rfl) (fun c1 h => ?_) (fun c1 h => ?_)
 ·
  refine AW.sg tt_ok1 [(3, vi64 2), (2, .c (.t (.v (.slice none 0 0))))] [] [] 6 [] (by kernel_rfl) ?_
  refine AW.ret (AW.tr ?_)
  obtain rfl := some_inj h
  exact fnR (.inr rfl) [] 0 (.tup [vl 1 Ru32 ([] : List Int), vi64 2]) (conv_tms [(2, vl 1 Ru32 ([] : List Int))] ⟨⟨.c (.t (.v (.slice none 0 0))), by kernel_rfl, ALe.c (CLe.nil rfl)⟩, tv⟩) (by kernel_rfl)
 ·
  refine AW.skip (AW.tn ?_)
  obtain ⟨y2, e3, h⟩ := bnd_some h
  refine AW.sg tt_ok1 [(3, vi64 0), (2, vl 1 Ru32 y2)] [9] [] 12 [hn, hn, hn, ho (p := 0 ≤ (32 : Int)) (by decide), hn, hlit 0 Eu32 1 (fun _ => rfl) ([u32.wrap p0, u32.wrap (ishr .i64 p0 32)] : List Int), hg [] [9] false 0 (q := (0 + ([u32.wrap p0, u32.wrap (ishr .i64 p0 32)] : List Int).length ≤ ([u32.wrap p0, u32.wrap (ishr .i64 p0 32)] : List Int).length) ∧ (True)) ⟨le0, tv⟩ (a0 := [vl 1 Ru32 ([u32.wrap p0, u32.wrap (ishr .i64 p0 32)] : List Int)]) (rl_ref10_trim_con ([u32.wrap p0, u32.wrap (ishr .i64 p0 32)] : List Int) y2 e3) ⟨ArgLe.refl _, tv⟩ (fun h => by cases h)] (by kernel_rfl) ?_
  refine AW.ret ?_
  obtain rfl := some_inj h
  exact fn0 (.inr rfl) [] 0 (.tup [vl 1 Ru32 y2, vi64 0]) (by kernel_rfl)
/-! recordlink/recordlinkref10.Valid -/
noncomputable def rl_ref10_Valid_k1 (x1 : Bool) : Option Bool := some x1
noncomputable def rl_ref10_Valid (p0 : List Int) : Option Bool := if (decide ((p0.length : Int) ≤ 64)) = true then (if ((p0.length : Int) == 0) = true then (rl_ref10_Valid_k1 true) else (if 0 ≤ (i64.wrap ((p0.length : Int) - 1)) then (if (i64.wrap ((p0.length : Int) - 1)) < (p0.length : Int) then (rl_ref10_Valid_k1 ((p0.getD ((i64.wrap ((p0.length : Int) - 1)).toNat) 0) != 0)) else none) else none)) else (rl_ref10_Valid_k1 false)
set_option maxRecDepth 100000 in
theorem rl_ref10_Valid_con (p0 : List Int) (r : Bool) (h : rl_ref10_Valid p0 = some r) : Con Tryz.prog 84 [vl 1 Ru32 p0] [] (vb r) [] := by
 refine con_of tt_ok1 0 Tryz.func84 (by kernel_rfl) rfl (by kernel_rfl) (fun base X _ => AW.post ?_)
 unfold rl_ref10_Valid at h
 refine AW.sg tt_ok1 [] [] [] 1 [] (by kernel_rfl) ?_
 refine AW.seq ?_
 refine AW.join (ι := Bool) (fun v => ⟨[(2, vb v)], [], 0⟩) (fun v : Bool => rl_ref10_Valid_k1 v = some r) (fun x1 h => ?_) ?_
 ·
  unfold rl_ref10_Valid_k1 at h
  refine AW.tn (AW.ret ?_)
  obtain rfl := some_inj h
  exact fn0 (.inr rfl) [] 0 (vb x1) (by kernel_rfl)
 ·
  rcases ifs h with ⟨c2, h⟩ | ⟨c2, h⟩
  ·
   rcases ifs h with ⟨c3, h⟩ | ⟨c3, h⟩
   ·
    refine AW.rg tt_ok1 [(2, vb true)] [] [] 19 [hn, hn, ht c2, hn, hn, hn, ht c3] (by kernel_rfl) ?_
    exact jl true h (conv_re [] (by kernel_rfl))
   ·
    obtain ⟨g4, g5, h⟩ := ifd h
    refine AW.rg tt_ok1 [(2, vb ((p0.getD ((i64.wrap ((p0.length : Int) - 1)).toNat) 0) != 0))] [] [] 19 [hn, hn, ht c2, hn, hn, hn, hf c3, hn, hn, hn, hn, hn, hq g4 g5] (by kernel_rfl) ?_
    exact jl ((p0.getD ((i64.wrap ((p0.length : Int) - 1)).toNat) 0) != 0) h (conv_re [] (by kernel_rfl))
  ·
   refine AW.rg tt_ok1 [(2, vb false)] [] [] 19 [hn, hn, hf c2] (by kernel_rfl) ?_
   exact jl false h (conv_re [] (by kernel_rfl))
/-! recordlink/recordlinkref10.product -/
noncomputable def rl_ref10_product_l2 (p0 : List Int) (p1 : List Int) (x6 : Int) (x12 : List Int) (x13 : Int) (x14 : Int) : Option (((List Int) × Int × Int) ⊕ ((List Int) × Int)) := if (decide (x14 < (p1.length : Int))) = true then (if 0 ≤ x6 then (if x6 < (p0.length : Int) then (if 0 ≤ x14 then (if x14 < (p1.length : Int) then (if 0 ≤ (i64.wrap (x6 + x14)) then (if (i64.wrap (x6 + x14)) < (x12.length : Int) then ((some (u64.wrap ((u64.wrap ((u64.wrap ((u64.wrap (p0.getD x6.toNat 0)) * (u64.wrap (p1.getD x14.toNat 0)))) + (u64.wrap (x12.getD (0 + (i64.wrap (x6 + x14)).toNat) 0)))) + x13))).bind fun z24 => (some (.inl ((x12.set (0 + (i64.wrap (x6 + x14)).toNat) (u32.wrap z24)), ishr .u64 z24 32, i64.wrap (x14 + 1))))) else none) else none) else none) else none) else none) else none) else (some (.inr (x12, x13)))
noncomputable def rl_ref10_product_l1 (p0 : List Int) (p1 : List Int) (x5 : List Int) (x6 : Int) : Option (((List Int) × Int) ⊕ (List Int)) := if (decide (x6 < (p0.length : Int))) = true then (bind2 (loop (fun v : (List Int) × Int × Int => rl_ref10_product_l2 p0 p1 x6 v.1 v.2.1 v.2.2) (x5, 0, 0)) fun x26 x27 => (if 0 ≤ (i64.wrap (x6 + (p1.length : Int))) then (if (i64.wrap (x6 + (p1.length : Int))) < (x26.length : Int) then (some (.inl ((x26.set (0 + (i64.wrap (x6 + (p1.length : Int))).toNat) (u32.wrap x27)), i64.wrap (x6 + 1)))) else none) else none)) else (some (.inr x5))
noncomputable def rl_ref10_product (p0 : List Int) (p1 : List Int) : Option (List Int) := if 0 ≤ (i64.wrap ((p0.length : Int) + (p1.length : Int))) then (if (i64.wrap ((p0.length : Int) + (p1.length : Int))) ≤ 1099511627776 then ((loop (fun v : (List Int) × Int => rl_ref10_product_l1 p0 p1 v.1 v.2) ((List.replicate ((i64.wrap ((p0.length : Int) + (p1.length : Int))).toNat) (0 : Int)), 0)).bind fun x31 => ((rl_ref10_trim x31).bind fun y32 => (some y32))) else none) else none
set_option maxRecDepth 100000 in
theorem rl_ref10_product_con (p0 : List Int) (p1 : List Int) (r : List Int) (h : rl_ref10_product p0 p1 = some r) : Con Tryz.prog 110 [vl 1 Ru32 p0, vl 1 Ru32 p1] [] (vl 1 Ru32 r) [] := by
 refine con_of tt_ok1 0 Tryz.func110 (by kernel_rfl) rfl (by kernel_rfl) (fun base X _ => AW.post ?_)
 unfold rl_ref10_product at h
 refine AW.sg tt_ok1 [] [] [] 1 [] (by kernel_rfl) ?_
 obtain ⟨g1, g2, h⟩ := ifd h
 refine AW.sg tt_ok1 [(5, .c (.ref 6 1 0 ((List.replicate ((i64.wrap ((p0.length : Int) + (p1.length : Int))).toNat) (0 : Int)).length)))] [6] [(6, .row 72 false 1 (List.replicate ((i64.wrap ((p0.length : Int) + (p1.length : Int))).toNat) (0 : Int)).length (Ru32 (List.replicate ((i64.wrap ((p0.length : Int) + (p1.length : Int))).toNat) (0 : Int))))] 8 [hn, hn, hn, hn, hn, hmk 0 Eu32 1 4 [.int .u32 0] rfl rfl (i64.wrap ((p0.length : Int) + (p1.length : Int))) (i64.wrap ((p0.length : Int) + (p1.length : Int))) g1 (Int.le_refl _) g2 (by decide)] (by kernel_rfl) ?_
 refine AW.seq ?_
 refine AW.sg tt_ok1 [(6, vi64 0)] [] [] 9 [] (by kernel_rfl) ?_
 refine AW.block ?_
 obtain ⟨x31, l34, h⟩ := bnd_some h
 refine AW.lp l34 (fun v => ⟨[(0, vl 1 Ru32 p0), (1, vl 1 Ru32 p1), (5, .c (.ref 0 1 0 v.1.length)), (6, vi64 v.2)], [(0, .row 72 false 1 v.1.length (Ru32 v.1))], 1⟩) (fun t : List Int => (.exit 0, ⟨[(5, .c (.ref 0 1 0 t.length))], [(0, .row 72 false 1 t.length (Ru32 t))], 1⟩)) (conv_re [(0, 6)] (by kernel_rfl)) (fun _ => tv) ?_ ?_
 ·
  clear l34 h
  intro v o h
  obtain ⟨x5, x6⟩ := v
  replace h : rl_ref10_product_l1 p0 p1 x5 x6 = some o := h
  unfold rl_ref10_product_l1 at h
  refine AW.seq ?_
  refine AW.sg tt_ok1 [(19, vb (decide (x6 < (p0.length : Int))))] [] [] 5 [] (by kernel_rfl) ?_
  refine AW.co h (by kernel_rfl) (fun c8 h => ?_) (fun c8 h => ?_)
  ·
   refine AW.skip (AW.tn ?_)
   refine AW.seq (AW.block ?_)
   refine AW.sg tt_ok1 [(7, vu64 0)] [] [] 6 [] (by kernel_rfl) ?_
   refine AW.seq ?_
   refine AW.sg tt_ok1 [(8, vi64 0)] [] [] 7 [] (by kernel_rfl) ?_
   refine AW.block ?_
   obtain ⟨x26, x27, l30, h⟩ := bind2_some h
   refine AW.lp l30 (fun v => ⟨[(0, vl 1 Ru32 p0), (1, vl 1 Ru32 p1), (5, .c (.ref 0 1 0 v.1.length)), (6, vi64 x6), (7, vu64 v.2.1), (8, vi64 v.2.2)], [(0, .row 72 false 1 v.1.length (Ru32 v.1))], 1⟩) (fun t : (List Int) × Int => (.exit 2, ⟨[(0, vl 1 Ru32 p0), (1, vl 1 Ru32 p1), (5, .c (.ref 0 1 0 t.1.length)), (6, vi64 x6), (7, vu64 t.2)], [(0, .row 72 false 1 t.1.length (Ru32 t.1))], 1⟩)) (conv_re [(0, 0)] (by kernel_rfl)) (fun _ => tv) ?_ ?_
   ·
    clear l30 h
    intro v o h
    obtain ⟨x12, x13, x14⟩ := v
    replace h : rl_ref10_product_l2 p0 p1 x6 x12 x13 x14 = some o := h
    unfold rl_ref10_product_l2 at h
    refine AW.seq ?_
    refine AW.sg tt_ok1 [(25, vb (decide (x14 < (p1.length : Int))))] [] [] 5 [] (by kernel_rfl) ?_
    refine AW.co h (by kernel_rfl) (fun c17 h => ?_) (fun c17 h => ?_)
    ·
     refine AW.skip (AW.tn ?_)
     refine AW.seq (AW.block ?_)
     obtain ⟨g18, g19, h⟩ := ifd h
     obtain ⟨g20, g21, h⟩ := ifd h
     obtain ⟨g22, g23, h⟩ := ifd h
     obtain ⟨z24, n25, h⟩ := bnd_some h
     replace n25 := some_inj n25
     refine AW.sd tt_ok1 mo1 [] [(9, vu64 z24)] [] 27 [hn, hn, hq g18 g19, hn, hn, hn, hn, hq g20 g21, hn, hn, hn, hn, hn, hn, hn, hq g22 g23, ho (p := (0 + (i64.wrap (x6 + x14)).toNat) < x12.length) (by have h1 : 0 ≤ (i64.wrap (x6 + x14)) := g22; have h2 : (i64.wrap (x6 + x14)) < (x12.length : Int) := g23; omega)] (by subst n25; kernel_rfl) ?_
     refine AW.sg tt_ok1 [] [0] [(0, .row 72 false 1 x12.length (Ru32 (x12.set (0 + (i64.wrap (x6 + x14)).toNat) (u32.wrap z24))))] 35 [hn, hn, hn, hn, hn, hn, hq g22 g23, hset 0 Eu32 x12 (0 + (i64.wrap (x6 + x14)).toNat) (u32.wrap z24) (n := x12.length) (by have h1 : 0 ≤ (i64.wrap (x6 + x14)) := g22; have h2 : (i64.wrap (x6 + x14)) < (x12.length : Int) := g23; omega) rfl] (by kernel_rfl) ?_
     refine AW.rg tt_ok1 [(7, vu64 (ishr .u64 z24 32))] [] [] 38 [hn, ho (p := 0 ≤ (32 : Int)) (by decide)] (by kernel_rfl) ?_
     refine AW.inBlock_normal (AW.tn ?_)
     refine AW.rg tt_ok1 [(8, vi64 (i64.wrap (x14 + 1)))] [] [] 41 [] (by kernel_rfl) ?_
     exact lpn h (Conv.trans (conv_tms [(5, .c (.ref 0 1 0 ((x12.set (0 + (i64.wrap (x6 + x14)).toNat) (u32.wrap z24)).length)))] ⟨⟨.c (.ref 0 1 0 x12.length), by kernel_rfl, ALe.len (by simp only [List.length_set])⟩, tv⟩) (Conv.trans (conv_rowN 0 72 false 1 x12.length ((x12.set (0 + (i64.wrap (x6 + x14)).toNat) (u32.wrap z24)).length) (Ru32 (x12.set (0 + (i64.wrap (x6 + x14)).toNat) (u32.wrap z24))) (by kernel_rfl) (by simp only [List.length_set])) (conv_re [(0, 0)] (by kernel_rfl))))
    ·
     refine AW.exit (AW.thenQ_exit ?_)
     exact lpo h rfl (conv_re [(0, 0)] (by kernel_rfl))
   ·
    show (_ : Exit → St → Prop) (.exit 2) _
    refine AW.inBlock_hit (AW.tn ?_)
    obtain ⟨g28, g29, h⟩ := ifd h
    refine AW.rg tt_ok1 [] [0] [(0, .row 72 false 1 x26.length (Ru32 (x26.set (0 + (i64.wrap (x6 + (p1.length : Int))).toNat) (u32.wrap x27))))] 10 [hn, hn, hn, hn, hn, hn, hn, hq g28 g29, hset 0 Eu32 x26 (0 + (i64.wrap (x6 + (p1.length : Int))).toNat) (u32.wrap x27) (n := x26.length) (by have h1 : 0 ≤ (i64.wrap (x6 + (p1.length : Int))) := g28; have h2 : (i64.wrap (x6 + (p1.length : Int))) < (x26.length : Int) := g29; omega) rfl] (by kernel_rfl) ?_
    refine AW.inBlock_normal (AW.tn ?_)
    refine AW.rg tt_ok1 [(6, vi64 (i64.wrap (x6 + 1)))] [] [] 13 [] (by kernel_rfl) ?_
    exact lpn h (Conv.trans (conv_tms [(5, .c (.ref 0 1 0 ((x26.set (0 + (i64.wrap (x6 + (p1.length : Int))).toNat) (u32.wrap x27)).length)))] ⟨⟨.c (.ref 0 1 0 x26.length), by kernel_rfl, ALe.len (by simp only [List.length_set])⟩, tv⟩) (Conv.trans (conv_rowN 0 72 false 1 x26.length ((x26.set (0 + (i64.wrap (x6 + (p1.length : Int))).toNat) (u32.wrap x27)).length) (Ru32 (x26.set (0 + (i64.wrap (x6 + (p1.length : Int))).toNat) (u32.wrap x27))) (by kernel_rfl) (by simp only [List.length_set])) (conv_re [(0, 0)] (by kernel_rfl))))
  ·
   refine AW.exit (AW.thenQ_exit ?_)
   exact lpo h rfl (conv_re [(0, 0)] (by kernel_rfl))
 ·
  show (_ : Exit → St → Prop) (.exit 0) _
  refine AW.inBlock_hit (AW.tn ?_)
  obtain ⟨y32, e33, h⟩ := bnd_some h
  refine AW.sg tt_ok1 [(4, vl 1 Ru32 y32)] [0] [] 3 [hn, hg [] [0] false 0 (q := (0 + x31.length ≤ x31.length) ∧ (True)) ⟨le0, tv⟩ (a0 := [vl 1 Ru32 x31]) (rl_ref10_trim_con x31 y32 e33) ⟨ArgLe.refl _, tv⟩ (fun h => by cases h)] (by kernel_rfl) ?_
  refine AW.ret ?_
  obtain rfl := some_inj h
  exact fn0 (.inr rfl) [] 0 (vl 1 Ru32 y32) (by kernel_rfl)
/-! recordlink/recordlinkref10.limited -/
noncomputable def rl_ref10_limited (p0 : List Int) : Option ((List Int) × Int) := if (decide ((p0.length : Int) > 64)) = true then (some (([] : List Int), 1)) else (some (p0, 0))
set_option maxRecDepth 100000 in
theorem rl_ref10_limited_con (p0 : List Int) (r : (List Int) × Int) (h : rl_ref10_limited p0 = some r) : Con Tryz.prog 85 [vl 1 Ru32 p0] [] (.tup [vl 1 Ru32 r.1, vi64 r.2]) [] := by
 refine con_of tt_ok1 0 Tryz.func85 (by kernel_rfl) rfl (by kernel_rfl) (fun base X _ => AW.post ?_)
 unfold rl_ref10_limited at h
 refine AW.sg tt_ok1 [] [] [] 2 [] (by kernel_rfl) ?_
 refine AW.seq ?_
 refine AW.sg tt_ok1 [(6, vb (decide ((p0.length : Int) > 64)))] [] [] 5 [] (by kernel_rfl) ?_
 refine AW.co h (by kernel_rfl) (fun c1 h => ?_) (fun c1 h => ?_)
 ·
  refine AW.sg tt_ok1 [(3, vi64 1), (2, .c (.t (.v (.slice none 0 0))))] [] [] 7 [] (by kernel_rfl) ?_
  refine AW.ret (AW.tr ?_)
  obtain rfl := some_inj h
  exact fnR (.inr rfl) [] 0 (.tup [vl 1 Ru32 ([] : List Int), vi64 1]) (conv_tms [(2, vl 1 Ru32 ([] : List Int))] ⟨⟨.c (.t (.v (.slice none 0 0))), by kernel_rfl, ALe.c (CLe.nil rfl)⟩, tv⟩) (by kernel_rfl)
 ·
  refine AW.skip (AW.tn ?_)
  refine AW.sg tt_ok1 [(3, vi64 0), (2, vl 1 Ru32 p0)] [] [] 8 [] (by kernel_rfl) ?_
  refine AW.ret ?_
  obtain rfl := some_inj h
  exact fn0 (.inr rfl) [] 0 (.tup [vl 1 Ru32 p0, vi64 0]) (by kernel_rfl)
/-! recordlink/recordlinkref10.Mul -/
noncomputable def rl_ref10_Mul_k1 (p0 : List Int) (p1 : List Int) (x1 : Bool) : Option ((List Int) × Int) := if x1 = true then (some (([] : List Int), 20)) else ((rl_ref10_product p0 p1).bind fun y3 => (bind2 (rl_ref10_limited y3) fun y5 y6 => (some (y5, y6))))
noncomputable def rl_ref10_Mul (p0 : List Int) (p1 : List Int) : Option ((List Int) × Int) := (rl_ref10_Valid p0).bind fun y8 => (if (!y8) = true then (rl_ref10_Mul_k1 p0 p1 true) else ((rl_ref10_Valid p1).bind fun y11 => (rl_ref10_Mul_k1 p0 p1 (!y11))))
set_option maxRecDepth 100000 in
theorem rl_ref10_Mul_con (p0 : List Int) (p1 : List Int) (r : (List Int) × Int) (h : rl_ref10_Mul p0 p1 = some r) : Con Tryz.prog 83 [vl 1 Ru32 p0, vl 1 Ru32 p1] [] (.tup [vl 1 Ru32 r.1, vi64 r.2]) [] := by
 refine con_of tt_ok1 0 Tryz.func83 (by kernel_rfl) rfl (by kernel_rfl) (fun base X _ => AW.post ?_)
 unfold rl_ref10_Mul at h
 refine AW.sg tt_ok1 [] [] [] 2 [] (by kernel_rfl) ?_
 refine AW.seq (AW.seq ?_)
 refine AW.join (ι := Bool) (fun v => ⟨[(0, vl 1 Ru32 p0), (1, vl 1 Ru32 p1), (13, vb v)], [], 0⟩) (fun v : Bool => rl_ref10_Mul_k1 p0 p1 v = some r) (fun x1 h => ?_) ?_
 ·
  unfold rl_ref10_Mul_k1 at h
  refine AW.tn ?_
  refine AW.co h (by kernel_rfl) (fun c2 h => ?_) (fun c2 h => ?_)
  ·
   refine AW.sg tt_ok1 [(5, vi64 20), (4, .c (.t (.v (.slice none 0 0))))] [] [] 2 [] (by kernel_rfl) ?_
   refine AW.ret (AW.tr ?_)
   obtain rfl := some_inj h
   exact fnR (.inr rfl) [] 0 (.tup [vl 1 Ru32 ([] : List Int), vi64 20]) (conv_tms [(4, vl 1 Ru32 ([] : List Int))] ⟨⟨.c (.t (.v (.slice none 0 0))), by kernel_rfl, ALe.c (CLe.nil rfl)⟩, tv⟩) (by kernel_rfl)
  ·
   refine AW.skip (AW.tn ?_)
   obtain ⟨y3, e4, h⟩ := bnd_some h
   obtain ⟨y5, y6, e7, h⟩ := bind2_some h
   refine AW.sg tt_ok1 [(5, vi64 y6), (4, vl 1 Ru32 y5)] [] [] 6 [hn, hn, hk (rl_ref10_product_con p0 p1 y3 e4), hk (rl_ref10_limited_con y3 (y5, y6) e7)] (by kernel_rfl) ?_
   refine AW.ret ?_
   obtain rfl := some_inj h
   exact fn0 (.inr rfl) [] 0 (.tup [vl 1 Ru32 y5, vi64 y6]) (by kernel_rfl)
 ·
  obtain ⟨y8, e9, h⟩ := bnd_some h
  rcases ifs h with ⟨c10, h⟩ | ⟨c10, h⟩
  ·
   refine AW.rg tt_ok1 [(13, vb true)] [] [] 9 [hn, hk (rl_ref10_Valid_con p0 y8 e9), ht c10] (by kernel_rfl) ?_
   exact jl true h (conv_re [] (by kernel_rfl))
  ·
   obtain ⟨y11, e12, h⟩ := bnd_some h
   refine AW.rg tt_ok1 [(13, vb (!y11))] [] [] 8 [hn, hk (rl_ref10_Valid_con p0 y8 e9), hf c10, hn, hn, hk (rl_ref10_Valid_con p1 y11 e12)] (by kernel_rfl) ?_
   exact jl (!y11) h (conv_re [] (by kernel_rfl))
/-! recordlink/recordlinkref24.weight -/
noncomputable def rl_ref24_weight_k2 (x6 : List Int) (x7 : Int) (x10 : Int) : Option (((List Int) × Int) ⊕ (List Int)) := bind2 (rl_ref10_FromInt x10) fun y11 y12 => (bind2 (rl_ref10_Mul x6 y11) fun y14 y15 => (some (.inl (y14, i64.wrap (x7 + 1)))))
noncomputable def rl_ref24_weight_l1 (p1 : List Int) (p2 : List Int) (x6 : List Int) (x7 : Int) : Option (((List Int) × Int) ⊕ (List Int)) := if (decide (x7 < (p1.length : Int))) = true then (if 0 ≤ x7 then (if x7 < (p2.length : Int) then (if ((p2.getD x7.toNat 0) == 2) = true then (if x7 < (p1.length : Int) then (rl_ref24_weight_k2 x6 x7 (p1.getD x7.toNat 0)) else none) else (if ((p2.getD x7.toNat 0) == 1) = true then (if x7 < (p1.length : Int) then (rl_ref24_weight_k2 x6 x7 (i64.wrap (65536 - (p1.getD x7.toNat 0)))) else none) else (rl_ref24_weight_k2 x6 x7 1))) else none) else none) else (some (.inr x6))
noncomputable def rl_ref24_weight (p0 : Int) (p1 : List Int) (p2 : List Int) : Option (List Int) := bind2 (rl_ref10_FromInt p0) fun y1 y2 => ((loop (fun v : (List Int) × Int => rl_ref24_weight_l1 p1 p2 v.1 v.2) (y1, 0)).bind fun x23 => (some x23))
set_option maxRecDepth 100000 in
theorem rl_ref24_weight_con (p0 : Int) (p1 : List Int) (p2 : List Int) (r : List Int) (h : rl_ref24_weight p0 p1 p2 = some r) : Con Tryz.prog 53 [vi64 p0, vl 1 Ri64 p1, vl 1 Ri64 p2] [] (vl 1 Ru32 r) [] := by
 refine con_of tt_ok1 0 Tryz.func53 (by kernel_rfl) rfl (by kernel_rfl) (fun base X _ => AW.post ?_)
 unfold rl_ref24_weight at h
 refine AW.sg tt_ok1 [] [] [] 1 [] (by kernel_rfl) ?_
 obtain ⟨y1, y2, e3, h⟩ := bind2_some h
 refine AW.sg tt_ok1 [(7, vl 1 Ru32 y1)] [] [] 7 [hn, hk (rl_ref10_FromInt_con p0 (y1, y2) e3)] (by kernel_rfl) ?_
 refine AW.seq ?_
 refine AW.sg tt_ok1 [(9, vi64 0)] [] [] 8 [] (by kernel_rfl) ?_
 refine AW.block ?_
 obtain ⟨x23, l24, h⟩ := bnd_some h
 refine AW.lp l24 (fun v => ⟨[(1, vl 1 Ri64 p1), (2, vl 1 Ri64 p2), (7, vl 1 Ru32 v.1), (9, vi64 v.2)], [], 0⟩) (fun t : List Int => (.exit 0, ⟨[(7, vl 1 Ru32 t)], [], 0⟩)) (conv_re [] (by kernel_rfl)) (fun _ => tv) ?_ ?_
 ·
  clear l24 h
  intro v o h
  obtain ⟨x6, x7⟩ := v
  replace h : rl_ref24_weight_l1 p1 p2 x6 x7 = some o := h
  unfold rl_ref24_weight_l1 at h
  refine AW.seq ?_
  refine AW.sg tt_ok1 [(21, vb (decide (x7 < (p1.length : Int))))] [] [] 4 [] (by kernel_rfl) ?_
  refine AW.co h (by kernel_rfl) (fun c9 h => ?_) (fun c9 h => ?_)
  ·
   refine AW.skip (AW.tn ?_)
   refine AW.seq (AW.block ?_)
   refine AW.sg tt_ok1 [(10, vi64 1)] [] [] 5 [] (by kernel_rfl) ?_
   refine AW.seq ?_
   refine AW.join (ι := Int) (fun v => ⟨[(1, vl 1 Ri64 p1), (2, vl 1 Ri64 p2), (7, vl 1 Ru32 x6), (9, vi64 x7), (10, vi64 v)], [], 0⟩) (fun v : Int => rl_ref24_weight_k2 x6 x7 v = some o) (fun x10 h => ?_) ?_
   ·
    unfold rl_ref24_weight_k2 at h
    refine AW.tn ?_
    obtain ⟨y11, y12, e13, h⟩ := bind2_some h
    refine AW.sg tt_ok1 [(11, vl 1 Ru32 y11)] [] [] 6 [hn, hk (rl_ref10_FromInt_con x10 (y11, y12) e13)] (by kernel_rfl) ?_
    obtain ⟨y14, y15, e16, h⟩ := bind2_some h
    refine AW.rg tt_ok1 [(7, vl 1 Ru32 y14)] [] [] 12 [hn, hn, hk (rl_ref10_Mul_con x6 y11 (y14, y15) e16)] (by kernel_rfl) ?_
    refine AW.inBlock_normal (AW.tn ?_)
    refine AW.rg tt_ok1 [(9, vi64 (i64.wrap (x7 + 1)))] [] [] 15 [] (by kernel_rfl) ?_
    exact lpn h (conv_re [] (by kernel_rfl))
   ·
    obtain ⟨g17, g18, h⟩ := ifd h
    refine AW.sg tt_ok1 [(28, vb ((p2.getD x7.toNat 0) == 2))] [] [] 10 [hn, hn, hq g17 g18] (by kernel_rfl) ?_
    refine AW.co h (by kernel_rfl) (fun c19 h => ?_) (fun c19 h => ?_)
    ·
     obtain ⟨g20, h⟩ := ifc h
     refine AW.rg tt_ok1 [(10, vi64 (p1.getD x7.toNat 0))] [] [] 15 [hn, hn, hq g17 g20] (by kernel_rfl) ?_
     exact jl (p1.getD x7.toNat 0) h (conv_re [] (by kernel_rfl))
    ·
     refine AW.sg tt_ok1 [(37, vb ((p2.getD x7.toNat 0) == 1))] [] [] 15 [hn, hn, hq g17 g18] (by kernel_rfl) ?_
     refine AW.co h (by kernel_rfl) (fun c21 h => ?_) (fun c21 h => ?_)
     ·
      obtain ⟨g22, h⟩ := ifc h
      refine AW.rg tt_ok1 [(10, vi64 (i64.wrap (65536 - (p1.getD x7.toNat 0))))] [] [] 21 [hn, hn, hq g17 g22] (by kernel_rfl) ?_
      exact jl (i64.wrap (65536 - (p1.getD x7.toNat 0))) h (conv_re [] (by kernel_rfl))
     ·
      refine AW.skip ?_
      exact jl 1 h (conv_re [] (by kernel_rfl))
  ·
   refine AW.exit (AW.thenQ_exit ?_)
   exact lpo h rfl (conv_re [] (by kernel_rfl))
 ·
  show (_ : Exit → St → Prop) (.exit 0) _
  refine AW.inBlock_hit (AW.tn ?_)
  refine AW.sg tt_ok1 [(6, vl 1 Ru32 x23)] [] [] 2 [] (by kernel_rfl) ?_
  refine AW.ret ?_
  obtain rfl := some_inj h
  exact fn0 (.inr rfl) [] 0 (vl 1 Ru32 x23) (by kernel_rfl)
/-! recordlink/recordlinkref10.sum -/
noncomputable def rl_ref10_sum_k4 (x4 : List Int) (x6 : Int) (x11 : Int) : Option (((List Int) × Int × Int) ⊕ (List Int)) := if x4.length + ([u32.wrap x11] : List Int).length ≤ 1099511627776 then (some (.inl ((x4 ++ ([u32.wrap x11] : List Int)), ishr .u64 x11 32, i64.wrap (x6 + 1)))) else none
noncomputable def rl_ref10_sum_k3 (p1 : List Int) (x4 : List Int) (x6 : Int) (x10 : Int) : Option (((List Int) × Int × Int) ⊕ (List Int)) := if (decide (x6 < (p1.length : Int))) = true then (if 0 ≤ x6 then (if x6 < (p1.length : Int) then ((some (u64.wrap (x10 + (u64.wrap (p1.getD x6.toNat 0))))).bind fun z16 => (rl_ref10_sum_k4 x4 x6 z16)) else none) else none) else (rl_ref10_sum_k4 x4 x6 x10)
noncomputable def rl_ref10_sum_k2 (p0 : List Int) (p1 : List Int) (x4 : List Int) (x5 : Int) (x6 : Int) (x8 : Bool) : Option (((List Int) × Int × Int) ⊕ (List Int)) := if x8 = true then (if (decide (x6 < (p0.length : Int))) = true then (if 0 ≤ x6 then (if x6 < (p0.length : Int) then ((some (u64.wrap (x5 + (u64.wrap (p0.getD x6.toNat 0))))).bind fun z21 => (rl_ref10_sum_k3 p1 x4 x6 z21)) else none) else none) else (rl_ref10_sum_k3 p1 x4 x6 x5)) else (some (.inr x4))
noncomputable def rl_ref10_sum_l1 (p0 : List Int) (p1 : List Int) (x4 : List Int) (x5 : Int) (x6 : Int) : Option (((List Int) × Int × Int) ⊕ (List Int)) := if (decide (x6 < (p0.length : Int))) = true then (rl_ref10_sum_k2 p0 p1 x4 x5 x6 true) else (if (decide (x6 < (p1.length : Int))) = true then (rl_ref10_sum_k2 p0 p1 x4 x5 x6 true) else (rl_ref10_sum_k2 p0 p1 x4 x5 x6 (decide (x5 > 0))))
noncomputable def rl_ref10_sum (p0 : List Int) (p1 : List Int) : Option (List Int) := (loop (fun v : (List Int) × Int × Int => rl_ref10_sum_l1 p0 p1 v.1 v.2.1 v.2.2) (([] : List Int), 0, 0)).bind fun x25 => ((rl_ref10_trim x25).bind fun y26 => (some y26))
set_option maxRecDepth 100000 in
theorem rl_ref10_sum_con (p0 : List Int) (p1 : List Int) (r : List Int) (h : rl_ref10_sum p0 p1 = some r) : Con Tryz.prog 86 [vl 1 Ru32 p0, vl 1 Ru32 p1] [] (vl 1 Ru32 r) [] := by
 refine con_of tt_ok1 0 Tryz.func86 (by kernel_rfl) rfl (by kernel_rfl) (fun base X _ => AW.post ?_)
 unfold rl_ref10_sum at h
 refine AW.sg tt_ok1 [] [] [] 1 [] (by kernel_rfl) ?_
 refine AW.sg tt_ok1 [(5, .c (.t (.v (.slice none 0 0))))] [] [] 2 [] (by kernel_rfl) ?_
 refine AW.sg tt_ok1 [(6, vu64 0)] [] [] 3 [] (by kernel_rfl) ?_
 refine AW.seq ?_
 refine AW.sg tt_ok1 [(7, vi64 0)] [] [] 4 [] (by kernel_rfl) ?_
 refine AW.block ?_
 obtain ⟨x25, l28, h⟩ := bnd_some h
 refine AW.lp l28 (fun v => ⟨[(0, vl 1 Ru32 p0), (1, vl 1 Ru32 p1), (5, .c (.ref 0 1 0 v.1.length)), (6, vu64 v.2.1), (7, vi64 v.2.2)], [(0, .row 72 false 1 v.1.length (Ru32 v.1))], 1⟩) (fun t : List Int => (.exit 0, ⟨[(5, .c (.ref 0 1 0 t.length))], [(0, .row 72 false 1 t.length (Ru32 t))], 1⟩)) (Conv.trans (conv_adopt (t := 5) (ty := 72) (sz := 1) (n := ([] : List Int).length) (f := Ru32 ([] : List Int)) (by kernel_rfl) rfl) (conv_re [(0, 4)] (by kernel_rfl))) (fun _ => tv) ?_ ?_
 ·
  clear l28 h
  intro v o h
  obtain ⟨x4, x5, x6⟩ := v
  replace h : rl_ref10_sum_l1 p0 p1 x4 x5 x6 = some o := h
  unfold rl_ref10_sum_l1 at h
  refine AW.seq (AW.seq ?_)
  refine AW.join (ι := Bool) (fun v => ⟨[(0, vl 1 Ru32 p0), (1, vl 1 Ru32 p1), (5, .c (.ref 0 1 0 x4.length)), (6, vu64 x5), (7, vi64 x6), (21, vb v)], [(0, .row 72 false 1 x4.length (Ru32 x4))], 1⟩) (fun v : Bool => rl_ref10_sum_k2 p0 p1 x4 x5 x6 v = some o) (fun x8 h => ?_) ?_
  ·
   unfold rl_ref10_sum_k2 at h
   refine AW.tn ?_
   refine AW.co h (by kernel_rfl) (fun c9 h => ?_) (fun c9 h => ?_)
   ·
    refine AW.skip (AW.tn ?_)
    refine AW.seq (AW.block (AW.seq ?_))
    refine AW.join (ι := Int) (fun v => ⟨[(0, vl 1 Ru32 p0), (1, vl 1 Ru32 p1), (5, .c (.ref 0 1 0 x4.length)), (6, vu64 v), (7, vi64 x6)], [(0, .row 72 false 1 x4.length (Ru32 x4))], 1⟩) (fun v : Int => rl_ref10_sum_k3 p1 x4 x6 v = some o) (fun x10 h => ?_) ?_
    ·
     unfold rl_ref10_sum_k3 at h
     refine AW.tn (AW.seq ?_)
     refine AW.join (ι := Int) (fun v => ⟨[(0, vl 1 Ru32 p0), (1, vl 1 Ru32 p1), (5, .c (.ref 0 1 0 x4.length)), (6, vu64 v), (7, vi64 x6)], [(0, .row 72 false 1 x4.length (Ru32 x4))], 1⟩) (fun v : Int => rl_ref10_sum_k4 x4 x6 v = some o) (fun x11 h => ?_) ?_
     ·
      unfold rl_ref10_sum_k4 at h
      refine AW.tn ?_
      obtain ⟨g12, h⟩ := ifc h
      refine AW.sg tt_ok1 [(5, .c (.ref 5 1 0 ((x4 ++ ([u32.wrap x11] : List Int)).length)))] [0, 4, 5] [(5, .row 72 false 1 (x4 ++ ([u32.wrap x11] : List Int)).length (Ru32 (x4 ++ ([u32.wrap x11] : List Int))))] 7 [hn, hn, hn, hlit 0 Eu32 1 (fun _ => rfl) ([u32.wrap x11] : List Int), happ 0 Eu32 1 4 x4 ([u32.wrap x11] : List Int) g12 (by decide)] (by kernel_rfl) ?_
      refine AW.rg tt_ok1 [(6, vu64 (ishr .u64 x11 32))] [] [] 10 [hn, ho (p := 0 ≤ (32 : Int)) (by decide)] (by kernel_rfl) ?_
      refine AW.inBlock_normal (AW.tn ?_)
      refine AW.rg tt_ok1 [(7, vi64 (i64.wrap (x6 + 1)))] [] [] 13 [] (by kernel_rfl) ?_
      exact lpn h (conv_re [(0, 5)] (by kernel_rfl))
     ·
      refine AW.sg tt_ok1 [(38, vb (decide (x6 < (p1.length : Int))))] [] [] 5 [] (by kernel_rfl) ?_
      refine AW.co h (by kernel_rfl) (fun c13 h => ?_) (fun c13 h => ?_)
      ·
       obtain ⟨g14, g15, h⟩ := ifd h
       obtain ⟨z16, n17, h⟩ := bnd_some h
       replace n17 := some_inj n17
       refine AW.rg tt_ok1 [(6, vu64 z16)] [] [] 13 [hn, hn, hn, hq g14 g15] (by subst n17; kernel_rfl) ?_
       exact jl z16 h (conv_re [(0, 0)] (by kernel_rfl))
      ·
       refine AW.skip ?_
       exact jl x10 h (conv_re [(0, 0)] (by kernel_rfl))
    ·
     refine AW.sg tt_ok1 [(27, vb (decide (x6 < (p0.length : Int))))] [] [] 5 [] (by kernel_rfl) ?_
     refine AW.co h (by kernel_rfl) (fun c18 h => ?_) (fun c18 h => ?_)
     ·
      obtain ⟨g19, g20, h⟩ := ifd h
      obtain ⟨z21, n22, h⟩ := bnd_some h
      replace n22 := some_inj n22
      refine AW.rg tt_ok1 [(6, vu64 z21)] [] [] 13 [hn, hn, hn, hq g19 g20] (by subst n22; kernel_rfl) ?_
      exact jl z21 h (conv_re [(0, 0)] (by kernel_rfl))
     ·
      refine AW.skip ?_
      exact jl x5 h (conv_re [(0, 0)] (by kernel_rfl))
   ·
    refine AW.exit (AW.thenQ_exit ?_)
    exact lpo h rfl (conv_re [(0, 0)] (by kernel_rfl))
  ·
   rcases ifs h with ⟨c23, h⟩ | ⟨c23, h⟩
   ·
    refine AW.rg tt_ok1 [(21, vb true)] [] [] 15 [hn, hn, hn, ht c23] (by kernel_rfl) ?_
    exact jl true h (conv_re [(0, 0)] (by kernel_rfl))
   ·
    rcases ifs h with ⟨c24, h⟩ | ⟨c24, h⟩
    ·
     refine AW.rg tt_ok1 [(21, vb true)] [] [] 15 [hn, hn, hn, hf c23, hn, hn, hn, hn, ht c24] (by kernel_rfl) ?_
     exact jl true h (conv_re [(0, 0)] (by kernel_rfl))
    ·
     refine AW.rg tt_ok1 [(21, vb (decide (x5 > 0)))] [] [] 15 [hn, hn, hn, hf c23, hn, hn, hn, hn, hf c24] (by kernel_rfl) ?_
     exact jl (decide (x5 > 0)) h (conv_re [(0, 0)] (by kernel_rfl))
 ·
  show (_ : Exit → St → Prop) (.exit 0) _
  refine AW.inBlock_hit (AW.tn ?_)
  obtain ⟨y26, e27, h⟩ := bnd_some h
  refine AW.sg tt_ok1 [(4, vl 1 Ru32 y26)] [0] [] 3 [hn, hg [] [0] false 0 (q := (0 + x25.length ≤ x25.length) ∧ (True)) ⟨le0, tv⟩ (a0 := [vl 1 Ru32 x25]) (rl_ref10_trim_con x25 y26 e27) ⟨ArgLe.refl _, tv⟩ (fun h => by cases h)] (by kernel_rfl) ?_
  refine AW.ret ?_
  obtain rfl := some_inj h
  exact fn0 (.inr rfl) [] 0 (vl 1 Ru32 y26) (by kernel_rfl)
/-! recordlink/recordlinkref10.Add -/
noncomputable def rl_ref10_Add_k1 (p0 : List Int) (p1 : List Int) (x1 : Bool) : Option ((List Int) × Int) := if x1 = true then (some (([] : List Int), 20)) else ((rl_ref10_sum p0 p1).bind fun y3 => (bind2 (rl_ref10_limited y3) fun y5 y6 => (some (y5, y6))))
noncomputable def rl_ref10_Add (p0 : List Int) (p1 : List Int) : Option ((List Int) × Int) := (rl_ref10_Valid p0).bind fun y8 => (if (!y8) = true then (rl_ref10_Add_k1 p0 p1 true) else ((rl_ref10_Valid p1).bind fun y11 => (rl_ref10_Add_k1 p0 p1 (!y11))))
set_option maxRecDepth 100000 in
theorem rl_ref10_Add_con (p0 : List Int) (p1 : List Int) (r : (List Int) × Int) (h : rl_ref10_Add p0 p1 = some r) : Con Tryz.prog 54 [vl 1 Ru32 p0, vl 1 Ru32 p1] [] (.tup [vl 1 Ru32 r.1, vi64 r.2]) [] := by
 refine con_of tt_ok1 0 Tryz.func54 (by kernel_rfl) rfl (by kernel_rfl) (fun base X _ => AW.post ?_)
 unfold rl_ref10_Add at h
 refine AW.sg tt_ok1 [] [] [] 2 [] (by kernel_rfl) ?_
 refine AW.seq (AW.seq ?_)
 refine AW.join (ι := Bool) (fun v => ⟨[(0, vl 1 Ru32 p0), (1, vl 1 Ru32 p1), (13, vb v)], [], 0⟩) (fun v : Bool => rl_ref10_Add_k1 p0 p1 v = some r) (fun x1 h => ?_) ?_
 ·
  unfold rl_ref10_Add_k1 at h
  refine AW.tn ?_
  refine AW.co h (by kernel_rfl) (fun c2 h => ?_) (fun c2 h => ?_)
  ·
   refine AW.sg tt_ok1 [(5, vi64 20), (4, .c (.t (.v (.slice none 0 0))))] [] [] 2 [] (by kernel_rfl) ?_
   refine AW.ret (AW.tr ?_)
   obtain rfl := some_inj h
   exact fnR (.inr rfl) [] 0 (.tup [vl 1 Ru32 ([] : List Int), vi64 20]) (conv_tms [(4, vl 1 Ru32 ([] : List Int))] ⟨⟨.c (.t (.v (.slice none 0 0))), by kernel_rfl, ALe.c (CLe.nil rfl)⟩, tv⟩) (by kernel_rfl)
  ·
   refine AW.skip (AW.tn ?_)
   obtain ⟨y3, e4, h⟩ := bnd_some h
   obtain ⟨y5, y6, e7, h⟩ := bind2_some h
   refine AW.sg tt_ok1 [(5, vi64 y6), (4, vl 1 Ru32 y5)] [] [] 6 [hn, hn, hk (rl_ref10_sum_con p0 p1 y3 e4), hk (rl_ref10_limited_con y3 (y5, y6) e7)] (by kernel_rfl) ?_
   refine AW.ret ?_
   obtain rfl := some_inj h
   exact fn0 (.inr rfl) [] 0 (.tup [vl 1 Ru32 y5, vi64 y6]) (by kernel_rfl)
 ·
  obtain ⟨y8, e9, h⟩ := bnd_some h
  rcases ifs h with ⟨c10, h⟩ | ⟨c10, h⟩
  ·
   refine AW.rg tt_ok1 [(13, vb true)] [] [] 9 [hn, hk (rl_ref10_Valid_con p0 y8 e9), ht c10] (by kernel_rfl) ?_
   exact jl true h (conv_re [] (by kernel_rfl))
  ·
   obtain ⟨y11, e12, h⟩ := bnd_some h
   refine AW.rg tt_ok1 [(13, vb (!y11))] [] [] 8 [hn, hk (rl_ref10_Valid_con p0 y8 e9), hf c10, hn, hn, hk (rl_ref10_Valid_con p1 y11 e12)] (by kernel_rfl) ?_
   exact jl (!y11) h (conv_re [] (by kernel_rfl))
/-! recordlink/recordlinkref10.half -/
noncomputable def rl_ref10_half_k2 (x3 : List Int) (x4 : Int) (x9 : Int) : Option (((List Int) × Int) ⊕ (List Int)) := if x3.length + ([x9] : List Int).length ≤ 1099511627776 then (some (.inl ((x3 ++ ([x9] : List Int)), i64.wrap (x4 + 1)))) else none
noncomputable def rl_ref10_half_l1 (p0 : List Int) (x3 : List Int) (x4 : Int) : Option (((List Int) × Int) ⊕ (List Int)) := if (decide (x4 < (p0.length : Int))) = true then (if 0 ≤ x4 then (if x4 < (p0.length : Int) then (if (decide ((i64.wrap (x4 + 1)) < (p0.length : Int))) = true then (if 0 ≤ (i64.wrap (x4 + 1)) then (if (i64.wrap (x4 + 1)) < (p0.length : Int) then ((some (ior .u32 (ishr .u32 (p0.getD x4.toNat 0) 1) (ishl .u32 (p0.getD ((i64.wrap (x4 + 1)).toNat) 0) 31))).bind fun z14 => (rl_ref10_half_k2 x3 x4 z14)) else none) else none) else (rl_ref10_half_k2 x3 x4 (ishr .u32 (p0.getD x4.toNat 0) 1))) else none) else none) else (some (.inr x3))
noncomputable def rl_ref10_half (p0 : List Int) : Option (List Int) := (loop (fun v : (List Int) × Int => rl_ref10_half_l1 p0 v.1 v.2) (([] : List Int), 0)).bind fun x16 => ((rl_ref10_trim x16).bind fun y17 => (some y17))
set_option maxRecDepth 100000 in
theorem rl_ref10_half_con (p0 : List Int) (r : List Int) (h : rl_ref10_half p0 = some r) : Con Tryz.prog 111 [vl 1 Ru32 p0] [] (vl 1 Ru32 r) [] := by
 refine con_of tt_ok1 0 Tryz.func111 (by kernel_rfl) rfl (by kernel_rfl) (fun base X _ => AW.post ?_)
 unfold rl_ref10_half at h
 refine AW.sg tt_ok1 [] [] [] 1 [] (by kernel_rfl) ?_
 refine AW.sg tt_ok1 [(3, .c (.t (.v (.slice none 0 0))))] [] [] 2 [] (by kernel_rfl) ?_
 refine AW.seq ?_
 refine AW.sg tt_ok1 [(4, vi64 0)] [] [] 3 [] (by kernel_rfl) ?_
 refine AW.block ?_
 obtain ⟨x16, l19, h⟩ := bnd_some h
 refine AW.lp l19 (fun v => ⟨[(0, vl 1 Ru32 p0), (3, .c (.ref 0 1 0 v.1.length)), (4, vi64 v.2)], [(0, .row 72 false 1 v.1.length (Ru32 v.1))], 1⟩) (fun t : List Int => (.exit 0, ⟨[(3, .c (.ref 0 1 0 t.length))], [(0, .row 72 false 1 t.length (Ru32 t))], 1⟩)) (Conv.trans (conv_adopt (t := 3) (ty := 72) (sz := 1) (n := ([] : List Int).length) (f := Ru32 ([] : List Int)) (by kernel_rfl) rfl) (conv_re [(0, 3)] (by kernel_rfl))) (fun _ => tv) ?_ ?_
 ·
  clear l19 h
  intro v o h
  obtain ⟨x3, x4⟩ := v
  replace h : rl_ref10_half_l1 p0 x3 x4 = some o := h
  unfold rl_ref10_half_l1 at h
  refine AW.seq ?_
  refine AW.sg tt_ok1 [(9, vb (decide (x4 < (p0.length : Int))))] [] [] 5 [] (by kernel_rfl) ?_
  refine AW.co h (by kernel_rfl) (fun c6 h => ?_) (fun c6 h => ?_)
  ·
   refine AW.skip (AW.tn ?_)
   refine AW.seq (AW.block ?_)
   obtain ⟨g7, g8, h⟩ := ifd h
   refine AW.sg tt_ok1 [(5, vu32 (ishr .u32 (p0.getD x4.toNat 0) 1))] [] [] 11 [hn, hn, hq g7 g8, hn, ho (p := 0 ≤ (1 : Int)) (by decide)] (by kernel_rfl) ?_
   refine AW.seq ?_
   refine AW.join (ι := Int) (fun v => ⟨[(0, vl 1 Ru32 p0), (3, .c (.ref 0 1 0 x3.length)), (4, vi64 x4), (5, vu32 v)], [(0, .row 72 false 1 x3.length (Ru32 x3))], 1⟩) (fun v : Int => rl_ref10_half_k2 x3 x4 v = some o) (fun x9 h => ?_) ?_
   ·
    unfold rl_ref10_half_k2 at h
    refine AW.tn ?_
    obtain ⟨g10, h⟩ := ifc h
    refine AW.rg tt_ok1 [(3, .c (.ref 4 1 0 ((x3 ++ ([x9] : List Int)).length)))] [0, 3, 4] [(4, .row 72 false 1 (x3 ++ ([x9] : List Int)).length (Ru32 (x3 ++ ([x9] : List Int))))] 6 [hn, hn, hlit 0 Eu32 1 (fun _ => rfl) ([x9] : List Int), happ 0 Eu32 1 4 x3 ([x9] : List Int) g10 (by decide)] (by kernel_rfl) ?_
    refine AW.inBlock_normal (AW.tn ?_)
    refine AW.rg tt_ok1 [(4, vi64 (i64.wrap (x4 + 1)))] [] [] 9 [] (by kernel_rfl) ?_
    exact lpn h (conv_re [(0, 4)] (by kernel_rfl))
   ·
    refine AW.sg tt_ok1 [(21, vb (decide ((i64.wrap (x4 + 1)) < (p0.length : Int))))] [] [] 16 [] (by kernel_rfl) ?_
    refine AW.co h (by kernel_rfl) (fun c11 h => ?_) (fun c11 h => ?_)
    ·
     obtain ⟨g12, g13, h⟩ := ifd h
     obtain ⟨z14, n15, h⟩ := bnd_some h
     replace n15 := some_inj n15
     refine AW.rg tt_ok1 [(5, vu32 z14)] [] [] 25 [hn, hn, hn, hn, hq g12 g13, hn, ho (p := 0 ≤ (31 : Int)) (by decide)] (by subst n15; kernel_rfl) ?_
     exact jl z14 h (conv_re [(0, 0)] (by kernel_rfl))
    ·
     refine AW.skip ?_
     exact jl (ishr .u32 (p0.getD x4.toNat 0) 1) h (conv_re [(0, 0)] (by kernel_rfl))
  ·
   refine AW.exit (AW.thenQ_exit ?_)
   exact lpo h rfl (conv_re [(0, 0)] (by kernel_rfl))
 ·
  show (_ : Exit → St → Prop) (.exit 0) _
  refine AW.inBlock_hit (AW.tn ?_)
  obtain ⟨y17, e18, h⟩ := bnd_some h
  refine AW.sg tt_ok1 [(2, vl 1 Ru32 y17)] [0] [] 3 [hn, hg [] [0] false 0 (q := (0 + x16.length ≤ x16.length) ∧ (True)) ⟨le0, tv⟩ (a0 := [vl 1 Ru32 x16]) (rl_ref10_trim_con x16 y17 e18) ⟨ArgLe.refl _, tv⟩ (fun h => by cases h)] (by kernel_rfl) ?_
  refine AW.ret ?_
  obtain rfl := some_inj h
  exact fn0 (.inr rfl) [] 0 (vl 1 Ru32 y17) (by kernel_rfl)
/-! recordlink/recordlinkref10.Compare -/
noncomputable def rl_ref10_Compare_l1 (y1 : List Int) (y3 : List Int) (x8 : Int) : Option (Int ⊕ (Unit ⊕ Int)) := if (decide (x8 ≥ 0)) = true then (if 0 ≤ x8 then (if x8 < (y1.length : Int) then (if x8 < (y3.length : Int) then (if (decide ((y1.getD x8.toNat 0) < (y3.getD x8.toNat 0))) = true then (some (.inr (.inr (-1)))) else (if (decide ((y1.getD x8.toNat 0) > (y3.getD x8.toNat 0))) = true then (some (.inr (.inr 1))) else (some (.inl (i64.wrap (x8 - 1)))))) else none) else none) else none) else (some (.inr (.inl ())))
noncomputable def rl_ref10_Compare_a2 : Option Int := some 0
noncomputable def rl_ref10_Compare_a3 (x16 : Int) : Option Int := some x16
noncomputable def rl_ref10_Compare (p0 : List Int) (p1 : List Int) : Option Int := (rl_ref10_trim p0).bind fun y1 => ((rl_ref10_trim p1).bind fun y3 => (if ((y1.length : Int) != (y3.length : Int)) = true then (if (decide ((y1.length : Int) < (y3.length : Int))) = true then (some (-1)) else (some 1)) else (bindE (loop (fun v : Int => rl_ref10_Compare_l1 y1 y3 v) (i64.wrap ((y1.length : Int) - 1))) (fun t => rl_ref10_Compare_a2) (fun t => rl_ref10_Compare_a3 t))))
set_option maxRecDepth 100000 in
theorem rl_ref10_Compare_con (p0 : List Int) (p1 : List Int) (r : Int) (h : rl_ref10_Compare p0 p1 = some r) : Con Tryz.prog 112 [vl 1 Ru32 p0, vl 1 Ru32 p1] [] (vi64 r) [] := by
 refine con_of tt_ok1 0 Tryz.func112 (by kernel_rfl) rfl (by kernel_rfl) (fun base X _ => AW.post ?_)
 unfold rl_ref10_Compare at h
 refine AW.sg tt_ok1 [] [] [] 1 [] (by kernel_rfl) ?_
 obtain ⟨y1, e2, h⟩ := bnd_some h
 obtain ⟨y3, e4, h⟩ := bnd_some h
 refine AW.sg tt_ok1 [(1, vl 1 Ru32 y3), (0, vl 1 Ru32 y1)] [] [] 5 [hn, hk (rl_ref10_trim_con p0 y1 e2), hn, hk (rl_ref10_trim_con p1 y3 e4)] (by kernel_rfl) ?_
 refine AW.seq ?_
 refine AW.sg tt_ok1 [(14, vb ((y1.length : Int) != (y3.length : Int)))] [] [] 10 [] (by kernel_rfl) ?_
 refine AW.co h (by kernel_rfl) (fun c5 h => ?_) (fun c5 h => ?_)
 ·
  refine AW.seq ?_
  refine AW.sg tt_ok1 [(19, vb (decide ((y1.length : Int) < (y3.length : Int))))] [] [] 15 [] (by kernel_rfl) ?_
  refine AW.co h (by kernel_rfl) (fun c6 h => ?_) (fun c6 h => ?_)
  ·
   refine AW.sg tt_ok1 [(4, vi64 (-1))] [] [] 16 [] (by kernel_rfl) ?_
   refine AW.ret (AW.tr (AW.tr ?_))
   obtain rfl := some_inj h
   exact fn0 (.inr rfl) [] 0 (vi64 (-1)) (by kernel_rfl)
  ·
   refine AW.skip (AW.tn ?_)
   refine AW.sg tt_ok1 [(4, vi64 1)] [] [] 16 [] (by kernel_rfl) ?_
   refine AW.ret (AW.tr ?_)
   obtain rfl := some_inj h
   exact fn0 (.inr rfl) [] 0 (vi64 1) (by kernel_rfl)
 ·
  refine AW.skip (AW.tn (AW.seq ?_))
  refine AW.sg tt_ok1 [(5, vi64 (i64.wrap ((y1.length : Int) - 1)))] [] [] 14 [] (by kernel_rfl) ?_
  refine AW.block ?_
  refine AW.lpE h (fun v => ⟨[(0, vl 1 Ru32 y1), (1, vl 1 Ru32 y3), (5, vi64 v)], [], 0⟩) (fun t => (.exit 0, ⟨[], [], 0⟩)) (fun t => (.ret, ⟨[(4, vi64 t)], [], 0⟩)) (conv_re [] (by kernel_rfl)) (fun _ => tv) (fun _ => tv) ?_ (fun t h => ?_) (fun x16 h => ?_)
  ·
   clear h
   intro x8 o h
   unfold rl_ref10_Compare_l1 at h
   refine AW.seq ?_
   refine AW.sg tt_ok1 [(24, vb (decide (x8 ≥ 0)))] [] [] 2 [] (by kernel_rfl) ?_
   refine AW.co h (by kernel_rfl) (fun c10 h => ?_) (fun c10 h => ?_)
   ·
    refine AW.skip (AW.tn ?_)
    refine AW.seq (AW.block (AW.seq ?_))
    obtain ⟨g11, g12, h⟩ := ifd h
    obtain ⟨g13, h⟩ := ifc h
    refine AW.sd tt_ok1 mo1 [] [(35, vb (decide ((y1.getD x8.toNat 0) < (y3.getD x8.toNat 0))))] [] 11 [hn, hn, hq g11 g12, hn, hn, hn, hq g11 g13] (by kernel_rfl) ?_
    refine AW.co h (by kernel_rfl) (fun c14 h => ?_) (fun c14 h => ?_)
    ·
     refine AW.sg tt_ok1 [(4, vi64 (-1))] [] [] 12 [] (by kernel_rfl) ?_
     refine AW.ret (AW.tr ?_)
     refine AW.inBlock_ret (AW.tr ?_)
     exact lpo h rfl (conv_re [] (by kernel_rfl))
    ·
     refine AW.skip (AW.tn ?_)
     refine AW.sd tt_ok1 mo1 [] [(44, vb (decide ((y1.getD x8.toNat 0) > (y3.getD x8.toNat 0))))] [] 20 [hn, hn, hq g11 g12, hn, hn, hn, hq g11 g13] (by kernel_rfl) ?_
     refine AW.co h (by kernel_rfl) (fun c15 h => ?_) (fun c15 h => ?_)
     ·
      refine AW.sg tt_ok1 [(4, vi64 1)] [] [] 21 [] (by kernel_rfl) ?_
      refine AW.ret (AW.inBlock_ret (AW.tr ?_))
      exact lpo h rfl (conv_re [] (by kernel_rfl))
     ·
      refine AW.skip (AW.inBlock_normal (AW.tn ?_))
      refine AW.rg tt_ok1 [(5, vi64 (i64.wrap (x8 - 1)))] [] [] 23 [] (by kernel_rfl) ?_
      exact lpn h (conv_re [] (by kernel_rfl))
   ·
    refine AW.exit (AW.thenQ_exit ?_)
    exact lpo h rfl (conv_re [] (by kernel_rfl))
  ·
   replace h : rl_ref10_Compare_a2 = some r := h
   unfold rl_ref10_Compare_a2 at h
   show (_ : Exit → St → Prop) (.exit 0) _
   refine AW.inBlock_hit (AW.tn ?_)
   refine AW.sg tt_ok1 [(4, vi64 0)] [] [] 1 [] (by kernel_rfl) ?_
   refine AW.ret ?_
   obtain rfl := some_inj h
   exact fn0 (.inr rfl) [] 0 (vi64 0) (by kernel_rfl)
  ·
   unfold rl_ref10_Compare_a3 at h
   show (_ : Exit → St → Prop) (.ret) _
   refine AW.inBlock_ret (AW.tr ?_)
   obtain rfl := some_inj h
   exact fn0 (.inr rfl) [] 0 (vi64 x16) (by kernel_rfl)
/-! recordlink/recordlinkref10.less -/
noncomputable def rl_ref10_less_k2 (x4 : List Int) (x6 : Int) (x13 : Int) : Option (((List Int) × Int × Int) ⊕ (List Int)) := if x4.length + ([u32.wrap x13] : List Int).length ≤ 1099511627776 then (some (.inl ((x4 ++ ([u32.wrap x13] : List Int)), ishr .u64 x13 63, i64.wrap (x6 + 1)))) else none
noncomputable def rl_ref10_less_l1 (p0 : List Int) (p1 : List Int) (x4 : List Int) (x5 : Int) (x6 : Int) : Option (((List Int) × Int × Int) ⊕ (List Int)) := if (decide (x6 < (p0.length : Int))) = true then (if 0 ≤ x6 then (if x6 < (p0.length : Int) then ((some (u64.wrap ((u64.wrap (p0.getD x6.toNat 0)) - x5))).bind fun z11 => (if (decide (x6 < (p1.length : Int))) = true then (if x6 < (p1.length : Int) then ((some (u64.wrap (z11 - (u64.wrap (p1.getD x6.toNat 0))))).bind fun z17 => (rl_ref10_less_k2 x4 x6 z17)) else none) else (rl_ref10_less_k2 x4 x6 z11))) else none) else none) else (some (.inr x4))
noncomputable def rl_ref10_less (p0 : List Int) (p1 : List Int) : Option (List Int) := (loop (fun v : (List Int) × Int × Int => rl_ref10_less_l1 p0 p1 v.1 v.2.1 v.2.2) (([] : List Int), 0, 0)).bind fun x19 => ((rl_ref10_trim x19).bind fun y20 => (some y20))
set_option maxRecDepth 100000 in
theorem rl_ref10_less_con (p0 : List Int) (p1 : List Int) (r : List Int) (h : rl_ref10_less p0 p1 = some r) : Con Tryz.prog 113 [vl 1 Ru32 p0, vl 1 Ru32 p1] [] (vl 1 Ru32 r) [] := by
 refine con_of tt_ok1 0 Tryz.func113 (by kernel_rfl) rfl (by kernel_rfl) (fun base X _ => AW.post ?_)
 unfold rl_ref10_less at h
 refine AW.sg tt_ok1 [] [] [] 1 [] (by kernel_rfl) ?_
 refine AW.sg tt_ok1 [(5, .c (.t (.v (.slice none 0 0))))] [] [] 2 [] (by kernel_rfl) ?_
 refine AW.sg tt_ok1 [(6, vu64 0)] [] [] 3 [] (by kernel_rfl) ?_
 refine AW.seq ?_
 refine AW.sg tt_ok1 [(7, vi64 0)] [] [] 4 [] (by kernel_rfl) ?_
 refine AW.block ?_
 obtain ⟨x19, l22, h⟩ := bnd_some h
 refine AW.lp l22 (fun v => ⟨[(0, vl 1 Ru32 p0), (1, vl 1 Ru32 p1), (5, .c (.ref 0 1 0 v.1.length)), (6, vu64 v.2.1), (7, vi64 v.2.2)], [(0, .row 72 false 1 v.1.length (Ru32 v.1))], 1⟩) (fun t : List Int => (.exit 0, ⟨[(5, .c (.ref 0 1 0 t.length))], [(0, .row 72 false 1 t.length (Ru32 t))], 1⟩)) (Conv.trans (conv_adopt (t := 5) (ty := 72) (sz := 1) (n := ([] : List Int).length) (f := Ru32 ([] : List Int)) (by kernel_rfl) rfl) (conv_re [(0, 4)] (by kernel_rfl))) (fun _ => tv) ?_ ?_
 ·
  clear l22 h
  intro v o h
  obtain ⟨x4, x5, x6⟩ := v
  replace h : rl_ref10_less_l1 p0 p1 x4 x5 x6 = some o := h
  unfold rl_ref10_less_l1 at h
  refine AW.seq ?_
  refine AW.sg tt_ok1 [(12, vb (decide (x6 < (p0.length : Int))))] [] [] 5 [] (by kernel_rfl) ?_
  refine AW.co h (by kernel_rfl) (fun c8 h => ?_) (fun c8 h => ?_)
  ·
   refine AW.skip (AW.tn ?_)
   refine AW.seq (AW.block ?_)
   obtain ⟨g9, g10, h⟩ := ifd h
   obtain ⟨z11, n12, h⟩ := bnd_some h
   replace n12 := some_inj n12
   refine AW.sg tt_ok1 [(8, vu64 z11)] [] [] 13 [hn, hn, hq g9 g10] (by subst n12; kernel_rfl) ?_
   refine AW.seq ?_
   refine AW.join (ι := Int) (fun v => ⟨[(0, vl 1 Ru32 p0), (1, vl 1 Ru32 p1), (5, .c (.ref 0 1 0 x4.length)), (7, vi64 x6), (8, vu64 v)], [(0, .row 72 false 1 x4.length (Ru32 x4))], 1⟩) (fun v : Int => rl_ref10_less_k2 x4 x6 v = some o) (fun x13 h => ?_) ?_
   ·
    unfold rl_ref10_less_k2 at h
    refine AW.tn ?_
    obtain ⟨g14, h⟩ := ifc h
    refine AW.sg tt_ok1 [(5, .c (.ref 5 1 0 ((x4 ++ ([u32.wrap x13] : List Int)).length)))] [0, 4, 5] [(5, .row 72 false 1 (x4 ++ ([u32.wrap x13] : List Int)).length (Ru32 (x4 ++ ([u32.wrap x13] : List Int))))] 7 [hn, hn, hn, hlit 0 Eu32 1 (fun _ => rfl) ([u32.wrap x13] : List Int), happ 0 Eu32 1 4 x4 ([u32.wrap x13] : List Int) g14 (by decide)] (by kernel_rfl) ?_
    refine AW.rg tt_ok1 [(6, vu64 (ishr .u64 x13 63))] [] [] 10 [hn, ho (p := 0 ≤ (63 : Int)) (by decide)] (by kernel_rfl) ?_
    refine AW.inBlock_normal (AW.tn ?_)
    refine AW.rg tt_ok1 [(7, vi64 (i64.wrap (x6 + 1)))] [] [] 13 [] (by kernel_rfl) ?_
    exact lpn h (conv_re [(0, 5)] (by kernel_rfl))
   ·
    refine AW.sg tt_ok1 [(25, vb (decide (x6 < (p1.length : Int))))] [] [] 17 [] (by kernel_rfl) ?_
    refine AW.co h (by kernel_rfl) (fun c15 h => ?_) (fun c15 h => ?_)
    ·
     obtain ⟨g16, h⟩ := ifc h
     obtain ⟨z17, n18, h⟩ := bnd_some h
     replace n18 := some_inj n18
     refine AW.rg tt_ok1 [(8, vu64 z17)] [] [] 25 [hn, hn, hn, hq g9 g16] (by subst n18; kernel_rfl) ?_
     exact jl z17 h (conv_re [(0, 0)] (by kernel_rfl))
    ·
     refine AW.skip ?_
     exact jl z11 h (conv_re [(0, 0)] (by kernel_rfl))
  ·
   refine AW.exit (AW.thenQ_exit ?_)
   exact lpo h rfl (conv_re [(0, 0)] (by kernel_rfl))
 ·
  show (_ : Exit → St → Prop) (.exit 0) _
  refine AW.inBlock_hit (AW.tn ?_)
  obtain ⟨y20, e21, h⟩ := bnd_some h
  refine AW.sg tt_ok1 [(4, vl 1 Ru32 y20)] [0] [] 3 [hn, hg [] [0] false 0 (q := (0 + x19.length ≤ x19.length) ∧ (True)) ⟨le0, tv⟩ (a0 := [vl 1 Ru32 x19]) (rl_ref10_trim_con x19 y20 e21) ⟨ArgLe.refl _, tv⟩ (fun h => by cases h)] (by kernel_rfl) ?_
  refine AW.ret ?_
  obtain rfl := some_inj h
  exact fn0 (.inr rfl) [] 0 (vl 1 Ru32 y20) (by kernel_rfl)
/-! recordlink/recordlinkref10.GCD -/
noncomputable def rl_ref10_GCD_k4 (x10 : List Int) (x11 : List Int) (x12 : Int) (x16 : Bool) : Option (((List Int) × (List Int) × Int) ⊕ ((List Int) × (List Int) × Int)) := if x16 = true then ((rl_ref10_half x10).bind fun y18 => ((rl_ref10_half x11).bind fun y20 => (some (.inl (y18, y20, i64.wrap (x12 + 1)))))) else (some (.inr (x10, x11, x12)))
noncomputable def rl_ref10_GCD_l3 (x10 : List Int) (x11 : List Int) (x12 : Int) : Option (((List Int) × (List Int) × Int) ⊕ ((List Int) × (List Int) × Int)) := if (0 : Int) < (x10.length : Int) then (if ((iand .u32 (x10.getD 0 0) 1) == 0) = true then (if (0 : Int) < (x11.length : Int) then (rl_ref10_GCD_k4 x10 x11 x12 ((iand .u32 (x11.getD 0 0) 1) == 0)) else none) else (rl_ref10_GCD_k4 x10 x11 x12 false)) else none
noncomputable def rl_ref10_GCD_l6 (x35 : List Int) : Option ((List Int) ⊕ (List Int)) := if (0 : Int) < (x35.length : Int) then (if ((iand .u32 (x35.getD 0 0) 1) == 0) = true then ((rl_ref10_half x35).bind fun y39 => (some (.inl y39))) else (some (.inr x35))) else none
noncomputable def rl_ref10_GCD_l7 (x43 : List Int) : Option ((List Int) ⊕ (List Int)) := if (0 : Int) < (x43.length : Int) then (if ((iand .u32 (x43.getD 0 0) 1) == 0) = true then ((rl_ref10_half x43).bind fun y47 => (some (.inl y47))) else (some (.inr x43))) else none
noncomputable def rl_ref10_GCD_k8 (x50 : List Int) (x51 : List Int) : Option (((List Int) × (List Int)) ⊕ (List Int)) := (rl_ref10_less x50 x51).bind fun y52 => (some (.inl (y52, x51)))
noncomputable def rl_ref10_GCD_l5 (x30 : List Int) (x31 : List Int) : Option (((List Int) × (List Int)) ⊕ (List Int)) := if (decide ((x30.length : Int) > 0)) = true then ((loop (fun v : List Int => rl_ref10_GCD_l6 v) x30).bind fun x41 => ((loop (fun v : List Int => rl_ref10_GCD_l7 v) x31).bind fun x49 => ((rl_ref10_Compare x41 x49).bind fun y54 => (if (decide (y54 < 0)) = true then (rl_ref10_GCD_k8 x49 x41) else (rl_ref10_GCD_k8 x41 x49))))) else (some (.inr x31))
noncomputable def rl_ref10_GCD_l9 (x27 : Int) (x63 : List Int) (x64 : Int) : Option (((List Int) × Int) ⊕ (List Int)) := if (decide (x64 < x27)) = true then ((rl_ref10_sum x63 x63).bind fun y67 => (some (.inl (y67, i64.wrap (x64 + 1))))) else (some (.inr x63))
noncomputable def rl_ref10_GCD_k2 (p0 : List Int) (p1 : List Int) (x3 : Bool) : Option ((List Int) × Int) := if x3 = true then (if 0 + p0.length ≤ 1099511627776 then (if (([] : List Int) ++ p0).length + p1.length ≤ 1099511627776 then (some (((([] : List Int) ++ p0) ++ p1), 0)) else none) else none) else (bind3 (loop (fun v : (List Int) × (List Int) × Int => rl_ref10_GCD_l3 v.1 v.2.1 v.2.2) (p0, p1, 0)) fun x25 x26 x27 => ((loop (fun v : (List Int) × (List Int) => rl_ref10_GCD_l5 v.1 v.2) (x25, x26)).bind fun x59 => (if 0 + x59.length ≤ 1099511627776 then ((loop (fun v : (List Int) × Int => rl_ref10_GCD_l9 x27 v.1 v.2) ((([] : List Int) ++ x59), 0)).bind fun x69 => (some (x69, 0))) else none)))
noncomputable def rl_ref10_GCD_k1 (p0 : List Int) (p1 : List Int) (x1 : Bool) : Option ((List Int) × Int) := if x1 = true then (some (([] : List Int), 20)) else (if ((p0.length : Int) == 0) = true then (rl_ref10_GCD_k2 p0 p1 true) else (rl_ref10_GCD_k2 p0 p1 ((p1.length : Int) == 0)))
noncomputable def rl_ref10_GCD (p0 : List Int) (p1 : List Int) : Option ((List Int) × Int) := (rl_ref10_Valid p0).bind fun y74 => (if (!y74) = true then (rl_ref10_GCD_k1 p0 p1 true) else ((rl_ref10_Valid p1).bind fun y77 => (rl_ref10_GCD_k1 p0 p1 (!y77))))
set_option maxRecDepth 100000 in
theorem rl_ref10_GCD_con (p0 : List Int) (p1 : List Int) (r : (List Int) × Int) (h : rl_ref10_GCD p0 p1 = some r) : Con Tryz.prog 87 [vl 1 Ru32 p0, vl 1 Ru32 p1] [] (.tup [vl 1 Ru32 r.1, vi64 r.2]) [] := by
 refine con_of tt_ok1 0 Tryz.func87 (by kernel_rfl) rfl (by kernel_rfl) (fun base X _ => AW.post ?_)
 unfold rl_ref10_GCD at h
 refine AW.sg tt_ok1 [] [] [] 2 [] (by kernel_rfl) ?_
 refine AW.seq (AW.seq ?_)
 refine AW.join (ι := Bool) (fun v => ⟨[(0, vl 1 Ru32 p0), (1, vl 1 Ru32 p1), (15, vb v)], [], 0⟩) (fun v : Bool => rl_ref10_GCD_k1 p0 p1 v = some r) (fun x1 h => ?_) ?_
 ·
  unfold rl_ref10_GCD_k1 at h
  refine AW.tn ?_
  refine AW.co h (by kernel_rfl) (fun c2 h => ?_) (fun c2 h => ?_)
  ·
   refine AW.sg tt_ok1 [(5, vi64 20), (4, .c (.t (.v (.slice none 0 0))))] [] [] 2 [] (by kernel_rfl) ?_
   refine AW.ret (AW.tr ?_)
   obtain rfl := some_inj h
   exact fnR (.inr rfl) [] 0 (.tup [vl 1 Ru32 ([] : List Int), vi64 20]) (conv_tms [(4, vl 1 Ru32 ([] : List Int))] ⟨⟨.c (.t (.v (.slice none 0 0))), by kernel_rfl, ALe.c (CLe.nil rfl)⟩, tv⟩) (by kernel_rfl)
  ·
   refine AW.skip (AW.tn ?_)
   refine AW.seq (AW.seq ?_)
   refine AW.join (ι := Bool) (fun v => ⟨[(0, vl 1 Ru32 p0), (1, vl 1 Ru32 p1), (23, vb v)], [], 0⟩) (fun v : Bool => rl_ref10_GCD_k2 p0 p1 v = some r) (fun x3 h => ?_) ?_
   ·
    unfold rl_ref10_GCD_k2 at h
    refine AW.tn ?_
    refine AW.co h (by kernel_rfl) (fun c4 h => ?_) (fun c4 h => ?_)
    ·
     obtain ⟨g5, g6, h⟩ := ifd h
     refine AW.sg tt_ok1 [(5, vi64 0), (4, .c (.ref 3 1 0 (((([] : List Int) ++ p0) ++ p1).length)))] [1, 3] [(3, .row 72 false 1 ((([] : List Int) ++ p0) ++ p1).length (Ru32 ((([] : List Int) ++ p0) ++ p1)))] 6 [hn, hr ((([] : List Int) ++ p0).length) (Ru32 (([] : List Int) ++ p0)) (p := (True) ∧ (True) ∧ ((0 + p0.length ≤ 1099511627776) ∧ ((4 : Nat) ≤ 128)) ∧ (0 + p0.length = (([] : List Int) ++ p0).length ∧ ∀ i, i < (([] : List Int) ++ p0).length → ∀ j, j < 1 → TLe ((appRow 0 (fun _ _ => .v undef) (Ru32 p0)) i j) (Ru32 (([] : List Int) ++ p0) i j))) (⟨tv, tv, ⟨g5, (by decide)⟩, rowT (app_row rfl rfl row_nil row_rfl)⟩), hn, hr (((([] : List Int) ++ p0) ++ p1).length) (Ru32 ((([] : List Int) ++ p0) ++ p1)) (p := ((([] : List Int) ++ p0).length = (([] : List Int) ++ p0).length) ∧ (True) ∧ (((([] : List Int) ++ p0).length + p1.length ≤ 1099511627776) ∧ ((4 : Nat) ≤ 128)) ∧ ((([] : List Int) ++ p0).length + p1.length = ((([] : List Int) ++ p0) ++ p1).length ∧ ∀ i, i < ((([] : List Int) ++ p0) ++ p1).length → ∀ j, j < 1 → TLe ((appRow ((([] : List Int) ++ p0).length) (Ru32 (([] : List Int) ++ p0)) (Ru32 p1)) i j) (Ru32 ((([] : List Int) ++ p0) ++ p1) i j))) (⟨rfl, tv, ⟨g6, (by decide)⟩, rowT (app_row rfl rfl row_rfl row_rfl)⟩)] (by kernel_rfl) ?_
     refine AW.ret (AW.tr ?_)
     obtain rfl := some_inj h
     exact fnR (.inr rfl) [] 0 (.tup [vl 1 Ru32 ((([] : List Int) ++ p0) ++ p1), vi64 0]) (Conv.trans (cfz 3 72 1 (((([] : List Int) ++ p0) ++ p1).length) (Ru32 ((([] : List Int) ++ p0) ++ p1)) (by kernel_rfl)) (conv_tms [(4, vl 1 Ru32 ((([] : List Int) ++ p0) ++ p1))] ⟨⟨.c (.ref 3 1 0 (((([] : List Int) ++ p0) ++ p1).length)), by kernel_rfl, ALe.c (CLe.ref (ty := 72) (f := Ru32 ((([] : List Int) ++ p0) ++ p1)) (by kernel_rfl) le0)⟩, tv⟩)) (by kernel_rfl)
    ·
     refine AW.skip (AW.tn ?_)
     refine AW.sg tt_ok1 [(6, vi64 0)] [] [] 1 [] (by kernel_rfl) ?_
     refine AW.seq (AW.block ?_)
     obtain ⟨x25, x26, x27, l72, h⟩ := bind3_some h
     refine AW.lp l72 (fun v => ⟨[(0, vl 1 Ru32 v.1), (1, vl 1 Ru32 v.2.1), (6, vi64 v.2.2)], [], 0⟩) (fun t : (List Int) × (List Int) × Int => (.exit 0, ⟨[(0, vl 1 Ru32 t.1), (1, vl 1 Ru32 t.2.1), (6, vi64 t.2.2)], [], 0⟩)) (conv_re [] (by kernel_rfl)) (fun _ => tv) ?_ ?_
     ·
      clear l72 h
      intro v o h
      obtain ⟨x10, x11, x12⟩ := v
      replace h : rl_ref10_GCD_l3 x10 x11 x12 = some o := h
      unfold rl_ref10_GCD_l3 at h
      refine AW.seq (AW.seq ?_)
      refine AW.join (ι := Bool) (fun v => ⟨[(0, vl 1 Ru32 x10), (1, vl 1 Ru32 x11), (6, vi64 x12), (39, vb v)], [], 0⟩) (fun v : Bool => rl_ref10_GCD_k4 x10 x11 x12 v = some o) (fun x16 h => ?_) ?_
      ·
       unfold rl_ref10_GCD_k4 at h
       refine AW.tn ?_
       refine AW.co h (by kernel_rfl) (fun c17 h => ?_) (fun c17 h => ?_)
       ·
        refine AW.skip (AW.tn (AW.block ?_))
        obtain ⟨y18, e19, h⟩ := bnd_some h
        obtain ⟨y20, e21, h⟩ := bnd_some h
        refine AW.sg tt_ok1 [(1, vl 1 Ru32 y20), (0, vl 1 Ru32 y18)] [] [] 4 [hn, hk (rl_ref10_half_con x10 y18 e19), hn, hk (rl_ref10_half_con x11 y20 e21)] (by kernel_rfl) ?_
        refine AW.rg tt_ok1 [(6, vi64 (i64.wrap (x12 + 1)))] [] [] 7 [] (by kernel_rfl) ?_
        refine AW.inBlock_normal ?_
        exact lpn h (conv_re [] (by kernel_rfl))
       ·
        refine AW.exit (AW.thenQ_exit ?_)
        exact lpo h rfl (conv_re [] (by kernel_rfl))
      ·
       obtain ⟨g22, h⟩ := ifc h
       rcases ifs h with ⟨c23, h⟩ | ⟨c23, h⟩
       ·
        obtain ⟨g24, h⟩ := ifc h
        refine AW.rg tt_ok1 [(39, vb ((iand .u32 (x11.getD 0 0) 1) == 0))] [] [] 12 [hn, ho (p := (0 ≤ (0 : Int)) ∧ ((0 : Int) < (x10.length : Int))) (⟨(by decide), g22⟩), hn, hn, ht c23, hn, hn, ho (p := (0 ≤ (0 : Int)) ∧ ((0 : Int) < (x11.length : Int))) (⟨(by decide), g24⟩)] (by kernel_rfl) ?_
        exact jl ((iand .u32 (x11.getD 0 0) 1) == 0) h (conv_re [] (by kernel_rfl))
       ·
        refine AW.rg tt_ok1 [(39, vb false)] [] [] 12 [hn, ho (p := (0 ≤ (0 : Int)) ∧ ((0 : Int) < (x10.length : Int))) (⟨(by decide), g22⟩), hn, hn, hf c23] (by kernel_rfl) ?_
        exact jl false h (conv_re [] (by kernel_rfl))
     ·
      show (_ : Exit → St → Prop) (.exit 0) _
      refine AW.inBlock_hit (AW.tn ?_)
      refine AW.seq (AW.block ?_)
      obtain ⟨x59, l71, h⟩ := bnd_some h
      refine AW.lp l71 (fun v => ⟨[(0, vl 1 Ru32 v.1), (1, vl 1 Ru32 v.2), (6, vi64 x27)], [], 0⟩) (fun t : List Int => (.exit 2, ⟨[(1, vl 1 Ru32 t), (6, vi64 x27)], [], 0⟩)) (conv_re [] (by kernel_rfl)) (fun _ => tv) ?_ ?_
      ·
       clear l71 h
       intro v o h
       obtain ⟨x30, x31⟩ := v
       replace h : rl_ref10_GCD_l5 x30 x31 = some o := h
       unfold rl_ref10_GCD_l5 at h
       refine AW.seq ?_
       refine AW.sg tt_ok1 [(48, vb (decide ((x30.length : Int) > 0)))] [] [] 3 [] (by kernel_rfl) ?_
       refine AW.co h (by kernel_rfl) (fun c33 h => ?_) (fun c33 h => ?_)
       ·
        refine AW.skip (AW.tn ?_)
        refine AW.block (AW.seq (AW.block ?_))
        obtain ⟨x41, l58, h⟩ := bnd_some h
        refine AW.lp l58 (fun v => ⟨[(0, vl 1 Ru32 v), (1, vl 1 Ru32 x31), (6, vi64 x27)], [], 0⟩) (fun t : List Int => (.exit 4, ⟨[(0, vl 1 Ru32 t), (1, vl 1 Ru32 x31), (6, vi64 x27)], [], 0⟩)) (conv_re [] (by kernel_rfl)) (fun _ => tv) ?_ ?_
        ·
         clear l58 h
         intro x35 o h
         unfold rl_ref10_GCD_l6 at h
         refine AW.seq ?_
         obtain ⟨g37, h⟩ := ifc h
         refine AW.sg tt_ok1 [(53, vb ((iand .u32 (x35.getD 0 0) 1) == 0))] [] [] 5 [hn, ho (p := (0 ≤ (0 : Int)) ∧ ((0 : Int) < (x35.length : Int))) (⟨(by decide), g37⟩)] (by kernel_rfl) ?_
         refine AW.co h (by kernel_rfl) (fun c38 h => ?_) (fun c38 h => ?_)
         ·
          refine AW.skip (AW.tn (AW.block ?_))
          obtain ⟨y39, e40, h⟩ := bnd_some h
          refine AW.rg tt_ok1 [(0, vl 1 Ru32 y39)] [] [] 7 [hn, hk (rl_ref10_half_con x35 y39 e40)] (by kernel_rfl) ?_
          refine AW.inBlock_normal ?_
          exact lpn h (conv_re [] (by kernel_rfl))
         ·
          refine AW.exit (AW.thenQ_exit ?_)
          exact lpo h rfl (conv_re [] (by kernel_rfl))
        ·
         show (_ : Exit → St → Prop) (.exit 4) _
         refine AW.inBlock_hit (AW.tn ?_)
         refine AW.seq (AW.block ?_)
         obtain ⟨x49, l57, h⟩ := bnd_some h
         refine AW.lp l57 (fun v => ⟨[(0, vl 1 Ru32 x41), (1, vl 1 Ru32 v), (6, vi64 x27)], [], 0⟩) (fun t : List Int => (.exit 6, ⟨[(0, vl 1 Ru32 x41), (1, vl 1 Ru32 t), (6, vi64 x27)], [], 0⟩)) (conv_re [] (by kernel_rfl)) (fun _ => tv) ?_ ?_
         ·
          clear l57 h
          intro x43 o h
          unfold rl_ref10_GCD_l7 at h
          refine AW.seq ?_
          obtain ⟨g45, h⟩ := ifc h
          refine AW.sg tt_ok1 [(60, vb ((iand .u32 (x43.getD 0 0) 1) == 0))] [] [] 5 [hn, ho (p := (0 ≤ (0 : Int)) ∧ ((0 : Int) < (x43.length : Int))) (⟨(by decide), g45⟩)] (by kernel_rfl) ?_
          refine AW.co h (by kernel_rfl) (fun c46 h => ?_) (fun c46 h => ?_)
          ·
           refine AW.skip (AW.tn (AW.block ?_))
           obtain ⟨y47, e48, h⟩ := bnd_some h
           refine AW.rg tt_ok1 [(1, vl 1 Ru32 y47)] [] [] 7 [hn, hk (rl_ref10_half_con x43 y47 e48)] (by kernel_rfl) ?_
           refine AW.inBlock_normal ?_
           exact lpn h (conv_re [] (by kernel_rfl))
          ·
           refine AW.exit (AW.thenQ_exit ?_)
           exact lpo h rfl (conv_re [] (by kernel_rfl))
         ·
          show (_ : Exit → St → Prop) (.exit 6) _
          refine AW.inBlock_hit (AW.tn (AW.seq ?_))
          refine AW.join (ι := (List Int) × (List Int)) (fun v => ⟨[(0, vl 1 Ru32 v.1), (1, vl 1 Ru32 v.2), (6, vi64 x27)], [], 0⟩) (fun v : (List Int) × (List Int) => rl_ref10_GCD_k8 v.1 v.2 = some o) (fun v h => ?_) ?_
          ·
           obtain ⟨x50, x51⟩ := v
           replace h : rl_ref10_GCD_k8 x50 x51 = some o := h
           unfold rl_ref10_GCD_k8 at h
           refine AW.tn ?_
           obtain ⟨y52, e53, h⟩ := bnd_some h
           refine AW.rg tt_ok1 [(0, vl 1 Ru32 y52)] [] [] 3 [hn, hn, hk (rl_ref10_less_con x50 x51 y52 e53)] (by kernel_rfl) ?_
           refine AW.inBlock_normal ?_
           exact lpn h (conv_re [] (by kernel_rfl))
          ·
           obtain ⟨y54, e55, h⟩ := bnd_some h
           refine AW.sg tt_ok1 [(66, vb (decide (y54 < 0)))] [] [] 3 [hn, hn, hk (rl_ref10_Compare_con x41 x49 y54 e55)] (by kernel_rfl) ?_
           refine AW.co h (by kernel_rfl) (fun c56 h => ?_) (fun c56 h => ?_)
           ·
            refine AW.rg tt_ok1 [(1, vl 1 Ru32 x41), (0, vl 1 Ru32 x49)] [] [] 7 [] (by kernel_rfl) ?_
            exact jl (x49, x41) h (conv_re [] (by kernel_rfl))
           ·
            refine AW.skip ?_
            exact jl (x41, x49) h (conv_re [] (by kernel_rfl))
       ·
        refine AW.exit (AW.thenQ_exit ?_)
        exact lpo h rfl (conv_re [] (by kernel_rfl))
      ·
       show (_ : Exit → St → Prop) (.exit 2) _
       refine AW.inBlock_hit (AW.tn ?_)
       obtain ⟨g60, h⟩ := ifc h
       refine AW.sg tt_ok1 [(1, .c (.ref 1 1 0 ((([] : List Int) ++ x59).length)))] [1] [(1, .row 72 false 1 (([] : List Int) ++ x59).length (Ru32 (([] : List Int) ++ x59)))] 3 [hn, hr ((([] : List Int) ++ x59).length) (Ru32 (([] : List Int) ++ x59)) (p := (True) ∧ (True) ∧ ((0 + x59.length ≤ 1099511627776) ∧ ((4 : Nat) ≤ 128)) ∧ (0 + x59.length = (([] : List Int) ++ x59).length ∧ ∀ i, i < (([] : List Int) ++ x59).length → ∀ j, j < 1 → TLe ((appRow 0 (fun _ _ => .v undef) (Ru32 x59)) i j) (Ru32 (([] : List Int) ++ x59) i j))) (⟨tv, tv, ⟨g60, (by decide)⟩, rowT (app_row rfl rfl row_nil row_rfl)⟩)] (by kernel_rfl) ?_
       refine AW.seq ?_
       refine AW.sg tt_ok1 [(7, vi64 0)] [] [] 4 [] (by kernel_rfl) ?_
       refine AW.block ?_
       obtain ⟨x69, l70, h⟩ := bnd_some h
       refine AW.lp l70 (fun v => ⟨[(1, vl 1 Ru32 v.1), (6, vi64 x27), (7, vi64 v.2)], [], 0⟩) (fun t : List Int => (.exit 8, ⟨[(1, vl 1 Ru32 t)], [], 0⟩)) (Conv.trans (cfz 1 72 1 ((([] : List Int) ++ x59).length) (Ru32 (([] : List Int) ++ x59)) (by kernel_rfl)) (Conv.trans (conv_tms [(1, vl 1 Ru32 (([] : List Int) ++ x59))] ⟨⟨.c (.ref 1 1 0 ((([] : List Int) ++ x59).length)), by kernel_rfl, ALe.c (CLe.ref (ty := 72) (f := Ru32 (([] : List Int) ++ x59)) (by kernel_rfl) le0)⟩, tv⟩) (conv_re [] (by kernel_rfl)))) (fun _ => tv) ?_ ?_
       ·
        clear l70 h
        intro v o h
        obtain ⟨x63, x64⟩ := v
        replace h : rl_ref10_GCD_l9 x27 x63 x64 = some o := h
        unfold rl_ref10_GCD_l9 at h
        refine AW.seq ?_
        refine AW.sg tt_ok1 [(76, vb (decide (x64 < x27)))] [] [] 3 [] (by kernel_rfl) ?_
        refine AW.co h (by kernel_rfl) (fun c66 h => ?_) (fun c66 h => ?_)
        ·
         refine AW.skip (AW.tn ?_)
         refine AW.seq (AW.block ?_)
         obtain ⟨y67, e68, h⟩ := bnd_some h
         refine AW.rg tt_ok1 [(1, vl 1 Ru32 y67)] [] [] 6 [hn, hn, hk (rl_ref10_sum_con x63 x63 y67 e68)] (by kernel_rfl) ?_
         refine AW.inBlock_normal (AW.tn ?_)
         refine AW.rg tt_ok1 [(7, vi64 (i64.wrap (x64 + 1)))] [] [] 9 [] (by kernel_rfl) ?_
         exact lpn h (conv_re [] (by kernel_rfl))
        ·
         refine AW.exit (AW.thenQ_exit ?_)
         exact lpo h rfl (conv_re [] (by kernel_rfl))
       ·
        show (_ : Exit → St → Prop) (.exit 8) _
        refine AW.inBlock_hit (AW.tn ?_)
        refine AW.sg tt_ok1 [(5, vi64 0), (4, vl 1 Ru32 x69)] [] [] 3 [] (by kernel_rfl) ?_
        refine AW.ret ?_
        obtain rfl := some_inj h
        exact fn0 (.inr rfl) [] 0 (.tup [vl 1 Ru32 x69, vi64 0]) (by kernel_rfl)
   ·
    rcases ifs h with ⟨c73, h⟩ | ⟨c73, h⟩
    ·
     refine AW.rg tt_ok1 [(23, vb true)] [] [] 8 [hn, hn, ht c73] (by kernel_rfl) ?_
     exact jl true h (conv_re [] (by kernel_rfl))
    ·
     refine AW.rg tt_ok1 [(23, vb ((p1.length : Int) == 0))] [] [] 8 [hn, hn, hf c73] (by kernel_rfl) ?_
     exact jl ((p1.length : Int) == 0) h (conv_re [] (by kernel_rfl))
 ·
  obtain ⟨y74, e75, h⟩ := bnd_some h
  rcases ifs h with ⟨c76, h⟩ | ⟨c76, h⟩
  ·
   refine AW.rg tt_ok1 [(15, vb true)] [] [] 9 [hn, hk (rl_ref10_Valid_con p0 y74 e75), ht c76] (by kernel_rfl) ?_
   exact jl true h (conv_re [] (by kernel_rfl))
  ·
   obtain ⟨y77, e78, h⟩ := bnd_some h
   refine AW.rg tt_ok1 [(15, vb (!y77))] [] [] 8 [hn, hk (rl_ref10_Valid_con p0 y74 e75), hf c76, hn, hn, hk (rl_ref10_Valid_con p1 y77 e78)] (by kernel_rfl) ?_
   exact jl (!y77) h (conv_re [] (by kernel_rfl))
/-! recordlink/recordlinkref10.DivMod -/
noncomputable def rl_ref10_DivMod_k3 (x13 : Int) (x17 : List Int) (x18 : List Int) : Option (((List Int) × (List Int) × Int) ⊕ ((List Int) × (List Int))) := some (.inl (x17, x18, i64.wrap (x13 - 1)))
noncomputable def rl_ref10_DivMod_k4 (p1 : List Int) (x11 : List Int) (x13 : Int) (x21 : List Int) : Option (((List Int) × (List Int) × Int) ⊕ ((List Int) × (List Int))) := (rl_ref10_Compare x21 p1).bind fun y22 => (if (decide (y22 ≥ 0)) = true then ((rl_ref10_less x21 p1).bind fun y25 => (if 0 ≤ (i64.wrap (x13.tdiv 32)) then (if (i64.wrap (x13.tdiv 32)) < (x11.length : Int) then (if 0 ≤ (x13.tmod 32) then (rl_ref10_DivMod_k3 x13 (x11.set (0 + (i64.wrap (x13.tdiv 32)).toNat) (ior .u32 (x11.getD (0 + (i64.wrap (x13.tdiv 32)).toNat) 0) (ishl .u32 1 (x13.tmod 32)))) y25) else none) else none) else none)) else (rl_ref10_DivMod_k3 x13 x11 x21))
noncomputable def rl_ref10_DivMod_l2 (p0 : List Int) (p1 : List Int) (x11 : List Int) (x12 : List Int) (x13 : Int) : Option (((List Int) × (List Int) × Int) ⊕ ((List Int) × (List Int))) := if (decide (x13 ≥ 0)) = true then ((rl_ref10_sum x12 x12).bind fun y19 => (if 0 ≤ (i64.wrap (x13.tdiv 32)) then (if (i64.wrap (x13.tdiv 32)) < (p0.length : Int) then (if 0 ≤ (x13.tmod 32) then (if ((iand .u32 (ishr .u32 (p0.getD ((i64.wrap (x13.tdiv 32)).toNat) 0) (x13.tmod 32)) 1) == 1) = true then ((rl_ref10_sum y19 ([1] : List Int)).bind fun y34 => (rl_ref10_DivMod_k4 p1 x11 x13 y34)) else (rl_ref10_DivMod_k4 p1 x11 x13 y19)) else none) else none) else none)) else (some (.inr (x11, x12)))
noncomputable def rl_ref10_DivMod_k1 (p0 : List Int) (p1 : List Int) (x1 : Bool) : Option ((List Int) × (List Int) × Int) := if x1 = true then (some (([] : List Int), ([] : List Int), 20)) else (if ((p1.length : Int) == 0) = true then (some (([] : List Int), ([] : List Int), 9)) else (if 0 ≤ (p0.length : Int) then (if (p0.length : Int) ≤ 1099511627776 then ((some (i64.wrap ((i64.wrap (32 * (p0.length : Int))) - 1))).bind fun z6 => (bind2 (loop (fun v : (List Int) × (List Int) × Int => rl_ref10_DivMod_l2 p0 p1 v.1 v.2.1 v.2.2) ((List.replicate ((p0.length : Int).toNat) (0 : Int)), [], z6)) fun x36 x37 => ((rl_ref10_trim x36).bind fun y38 => (some (y38, x37, 0))))) else none) else none))
noncomputable def rl_ref10_DivMod (p0 : List Int) (p1 : List Int) : Option ((List Int) × (List Int) × Int) := (rl_ref10_Valid p0).bind fun y41 => (if (!y41) = true then (rl_ref10_DivMod_k1 p0 p1 true) else ((rl_ref10_Valid p1).bind fun y44 => (rl_ref10_DivMod_k1 p0 p1 (!y44))))
set_option maxRecDepth 100000 in
theorem rl_ref10_DivMod_con (p0 : List Int) (p1 : List Int) (r : (List Int) × (List Int) × Int) (h : rl_ref10_DivMod p0 p1 = some r) : Con Tryz.prog 88 [vl 1 Ru32 p0, vl 1 Ru32 p1] [] (.tup [vl 1 Ru32 r.1, vl 1 Ru32 r.2.1, vi64 r.2.2]) [] := by
 refine con_of tt_ok1 0 Tryz.func88 (by kernel_rfl) rfl (by kernel_rfl) (fun base X _ => AW.post ?_)
 unfold rl_ref10_DivMod at h
 refine AW.sg tt_ok1 [] [] [] 3 [] (by kernel_rfl) ?_
 refine AW.seq (AW.seq ?_)
 refine AW.join (ι := Bool) (fun v => ⟨[(0, vl 1 Ru32 p0), (1, vl 1 Ru32 p1), (17, vb v)], [], 0⟩) (fun v : Bool => rl_ref10_DivMod_k1 p0 p1 v = some r) (fun x1 h => ?_) ?_
 ·
  unfold rl_ref10_DivMod_k1 at h
  refine AW.tn ?_
  refine AW.co h (by kernel_rfl) (fun c2 h => ?_) (fun c2 h => ?_)
  ·
   refine AW.sg tt_ok1 [(6, vi64 20), (5, .c (.t (.v (.slice none 0 0)))), (4, .c (.t (.v (.slice none 0 0))))] [] [] 3 [] (by kernel_rfl) ?_
   refine AW.ret (AW.tr ?_)
   obtain rfl := some_inj h
   exact fnR (.inr rfl) [] 0 (.tup [vl 1 Ru32 ([] : List Int), vl 1 Ru32 ([] : List Int), vi64 20]) (Conv.trans (conv_tms [(4, vl 1 Ru32 ([] : List Int))] ⟨⟨.c (.t (.v (.slice none 0 0))), by kernel_rfl, ALe.c (CLe.nil rfl)⟩, tv⟩) (conv_tms [(5, vl 1 Ru32 ([] : List Int))] ⟨⟨.c (.t (.v (.slice none 0 0))), by kernel_rfl, ALe.c (CLe.nil rfl)⟩, tv⟩)) (by kernel_rfl)
  ·
   refine AW.skip (AW.tn (AW.seq ?_))
   refine AW.sg tt_ok1 [(20, vb ((p1.length : Int) == 0))] [] [] 3 [] (by kernel_rfl) ?_
   refine AW.co h (by kernel_rfl) (fun c3 h => ?_) (fun c3 h => ?_)
   ·
    refine AW.sg tt_ok1 [(6, vi64 9), (5, .c (.t (.v (.slice none 0 0)))), (4, .c (.t (.v (.slice none 0 0))))] [] [] 6 [] (by kernel_rfl) ?_
    refine AW.ret (AW.tr ?_)
    obtain rfl := some_inj h
    exact fnR (.inr rfl) [] 0 (.tup [vl 1 Ru32 ([] : List Int), vl 1 Ru32 ([] : List Int), vi64 9]) (Conv.trans (conv_tms [(4, vl 1 Ru32 ([] : List Int))] ⟨⟨.c (.t (.v (.slice none 0 0))), by kernel_rfl, ALe.c (CLe.nil rfl)⟩, tv⟩) (conv_tms [(5, vl 1 Ru32 ([] : List Int))] ⟨⟨.c (.t (.v (.slice none 0 0))), by kernel_rfl, ALe.c (CLe.nil rfl)⟩, tv⟩)) (by kernel_rfl)
   ·
    refine AW.skip (AW.tn ?_)
    obtain ⟨g4, g5, h⟩ := ifd h
    refine AW.sg tt_ok1 [(7, .c (.ref 5 1 0 ((List.replicate ((p0.length : Int).toNat) (0 : Int)).length)))] [5] [(5, .row 72 false 1 (List.replicate ((p0.length : Int).toNat) (0 : Int)).length (Ru32 (List.replicate ((p0.length : Int).toNat) (0 : Int))))] 7 [hn, hn, hmk 0 Eu32 1 4 [.int .u32 0] rfl rfl (p0.length : Int) (p0.length : Int) g4 (Int.le_refl _) g5 (by decide)] (by kernel_rfl) ?_
    refine AW.sg tt_ok1 [(8, .c (.t (.v (.slice none 0 0))))] [] [] 8 [] (by kernel_rfl) ?_
    refine AW.seq ?_
    obtain ⟨z6, n7, h⟩ := bnd_some h
    replace n7 := some_inj n7
    refine AW.sg tt_ok1 [(9, vi64 z6)] [] [] 13 [] (by subst n7; kernel_rfl) ?_
    refine AW.block ?_
    obtain ⟨x36, x37, l40, h⟩ := bind2_some h
    refine AW.lp l40 (fun v => ⟨[(0, vl 1 Ru32 p0), (1, vl 1 Ru32 p1), (7, .c (.ref 0 1 0 v.1.length)), (8, vl 1 Ru32 v.2.1), (9, vi64 v.2.2)], [(0, .row 72 false 1 v.1.length (Ru32 v.1))], 1⟩) (fun t : (List Int) × (List Int) => (.exit 0, ⟨[(7, .c (.ref 0 1 0 t.1.length)), (8, vl 1 Ru32 t.2)], [(0, .row 72 false 1 t.1.length (Ru32 t.1))], 1⟩)) (Conv.trans (conv_tms [(8, vl 1 Ru32 ([] : List Int))] ⟨⟨.c (.t (.v (.slice none 0 0))), by kernel_rfl, ALe.c (CLe.nil rfl)⟩, tv⟩) (conv_re [(0, 5)] (by kernel_rfl))) (fun _ => tv) ?_ ?_
    ·
     clear l40 h
     intro v o h
     obtain ⟨x11, x12, x13⟩ := v
     replace h : rl_ref10_DivMod_l2 p0 p1 x11 x12 x13 = some o := h
     unfold rl_ref10_DivMod_l2 at h
     refine AW.seq ?_
     refine AW.sg tt_ok1 [(29, vb (decide (x13 ≥ 0)))] [] [] 3 [] (by kernel_rfl) ?_
     refine AW.co h (by kernel_rfl) (fun c16 h => ?_) (fun c16 h => ?_)
     ·
      refine AW.skip (AW.tn (AW.seq ?_))
      refine AW.join (ι := (List Int) × (List Int)) (fun v => ⟨[(0, vl 1 Ru32 p0), (1, vl 1 Ru32 p1), (7, .c (.ref 0 1 0 v.1.length)), (8, vl 1 Ru32 v.2), (9, vi64 x13)], [(0, .row 72 false 1 v.1.length (Ru32 v.1))], 1⟩) (fun v : (List Int) × (List Int) => rl_ref10_DivMod_k3 x13 v.1 v.2 = some o) (fun v h => ?_) ?_
      ·
       obtain ⟨x17, x18⟩ := v
       replace h : rl_ref10_DivMod_k3 x13 x17 x18 = some o := h
       unfold rl_ref10_DivMod_k3 at h
       refine AW.tn ?_
       refine AW.rg tt_ok1 [(9, vi64 (i64.wrap (x13 - 1)))] [] [] 4 [] (by kernel_rfl) ?_
       exact lpn h (conv_re [(0, 0)] (by kernel_rfl))
      ·
       refine AW.block ?_
       obtain ⟨y19, e20, h⟩ := bnd_some h
       refine AW.sg tt_ok1 [(8, vl 1 Ru32 y19)] [] [] 6 [hn, hn, hk (rl_ref10_sum_con x12 x12 y19 e20)] (by kernel_rfl) ?_
       refine AW.seq ?_
       refine AW.join (ι := List Int) (fun v => ⟨[(0, vl 1 Ru32 p0), (1, vl 1 Ru32 p1), (7, .c (.ref 0 1 0 x11.length)), (8, vl 1 Ru32 v), (9, vi64 x13)], [(0, .row 72 false 1 x11.length (Ru32 x11))], 1⟩) (fun v : List Int => rl_ref10_DivMod_k4 p1 x11 x13 v = some o) (fun x21 h => ?_) ?_
       ·
        unfold rl_ref10_DivMod_k4 at h
        refine AW.tn ?_
        obtain ⟨y22, e23, h⟩ := bnd_some h
        refine AW.sg tt_ok1 [(51, vb (decide (y22 ≥ 0)))] [] [] 4 [hn, hn, hk (rl_ref10_Compare_con x21 p1 y22 e23)] (by kernel_rfl) ?_
        refine AW.co h (by kernel_rfl) (fun c24 h => ?_) (fun c24 h => ?_)
        ·
         obtain ⟨y25, e26, h⟩ := bnd_some h
         refine AW.sg tt_ok1 [(8, vl 1 Ru32 y25)] [] [] 7 [hn, hn, hk (rl_ref10_less_con x21 p1 y25 e26)] (by kernel_rfl) ?_
         obtain ⟨g27, g28, h⟩ := ifd h
         obtain ⟨g29, h⟩ := ifc h
         refine AW.rd tt_ok1 mo1 [[], [], [], [], [], [], [], [], [], [], [0]] [] [(0, .row 72 false 1 x11.length (Ru32 (x11.set (0 + (i64.wrap (x13.tdiv 32)).toNat) (ior .u32 (x11.getD (0 + (i64.wrap (x13.tdiv 32)).toNat) 0) (ishl .u32 1 (x13.tmod 32))))))] 18 [hn, hn, ho (p := (32 : Int) ≠ 0) (by decide), hq g27 g28, ho (p := (0 + (i64.wrap (x13.tdiv 32)).toNat) < x11.length) (by have h1 : 0 ≤ (i64.wrap (x13.tdiv 32)) := g27; have h2 : (i64.wrap (x13.tdiv 32)) < (x11.length : Int) := g28; omega), hn, ho (p := (32 : Int) ≠ 0) (by decide), ho g29, hn, hq g27 g28, hset 0 Eu32 x11 (0 + (i64.wrap (x13.tdiv 32)).toNat) (ior .u32 (x11.getD (0 + (i64.wrap (x13.tdiv 32)).toNat) 0) (ishl .u32 1 (x13.tmod 32))) (n := x11.length) (by have h1 : 0 ≤ (i64.wrap (x13.tdiv 32)) := g27; have h2 : (i64.wrap (x13.tdiv 32)) < (x11.length : Int) := g28; omega) rfl] (by kernel_rfl) ?_
         refine AW.inBlock_normal ?_
         exact jl ((x11.set (0 + (i64.wrap (x13.tdiv 32)).toNat) (ior .u32 (x11.getD (0 + (i64.wrap (x13.tdiv 32)).toNat) 0) (ishl .u32 1 (x13.tmod 32)))), y25) h (Conv.trans (conv_tms [(7, .c (.ref 0 1 0 ((x11.set (0 + (i64.wrap (x13.tdiv 32)).toNat) (ior .u32 (x11.getD (0 + (i64.wrap (x13.tdiv 32)).toNat) 0) (ishl .u32 1 (x13.tmod 32)))).length)))] ⟨⟨.c (.ref 0 1 0 x11.length), by kernel_rfl, ALe.len (by simp only [List.length_set])⟩, tv⟩) (Conv.trans (conv_rowN 0 72 false 1 x11.length ((x11.set (0 + (i64.wrap (x13.tdiv 32)).toNat) (ior .u32 (x11.getD (0 + (i64.wrap (x13.tdiv 32)).toNat) 0) (ishl .u32 1 (x13.tmod 32)))).length) (Ru32 (x11.set (0 + (i64.wrap (x13.tdiv 32)).toNat) (ior .u32 (x11.getD (0 + (i64.wrap (x13.tdiv 32)).toNat) 0) (ishl .u32 1 (x13.tmod 32))))) (by kernel_rfl) (by simp only [List.length_set])) (conv_re [(0, 0)] (by kernel_rfl))))
        ·
         refine AW.skip (AW.inBlock_normal ?_)
         exact jl (x11, x21) h (conv_re [(0, 0)] (by kernel_rfl))
       ·
        obtain ⟨g30, g31, h⟩ := ifd h
        obtain ⟨g32, h⟩ := ifc h
        refine AW.sg tt_ok1 [(44, vb ((iand .u32 (ishr .u32 (p0.getD ((i64.wrap (x13.tdiv 32)).toNat) 0) (x13.tmod 32)) 1) == 1))] [] [] 16 [hn, hn, ho (p := (32 : Int) ≠ 0) (by decide), hq g30 g31, hn, hn, ho (p := (32 : Int) ≠ 0) (by decide), ho g32] (by kernel_rfl) ?_
        refine AW.co h (by kernel_rfl) (fun c33 h => ?_) (fun c33 h => ?_)
        ·
         obtain ⟨y34, e35, h⟩ := bnd_some h
         refine AW.rg tt_ok1 [(8, vl 1 Ru32 y34)] [17] [] 19 [hn, hlit 0 Eu32 1 (fun _ => rfl) ([1] : List Int), hg [] [17] false 0 (q := (True) ∧ (0 + ([1] : List Int).length ≤ ([1] : List Int).length) ∧ (True)) ⟨tv, le0, tv⟩ (a0 := [vl 1 Ru32 y19, vl 1 Ru32 ([1] : List Int)]) (rl_ref10_sum_con y19 ([1] : List Int) y34 e35) ⟨ArgLe.refl _, ArgLe.refl _, tv⟩ (fun h => by cases h)] (by kernel_rfl) ?_
         exact jl y34 h (conv_re [(0, 0)] (by kernel_rfl))
        ·
         refine AW.skip ?_
         exact jl y19 h (conv_re [(0, 0)] (by kernel_rfl))
     ·
      refine AW.exit (AW.thenQ_exit ?_)
      exact lpo h rfl (conv_re [(0, 0)] (by kernel_rfl))
    ·
     show (_ : Exit → St → Prop) (.exit 0) _
     refine AW.inBlock_hit (AW.tn ?_)
     obtain ⟨y38, e39, h⟩ := bnd_some h
     refine AW.sg tt_ok1 [(6, vi64 0), (5, vl 1 Ru32 x37), (4, vl 1 Ru32 y38)] [0] [] 6 [hn, hg [] [0] false 0 (q := (0 + x36.length ≤ x36.length) ∧ (True)) ⟨le0, tv⟩ (a0 := [vl 1 Ru32 x36]) (rl_ref10_trim_con x36 y38 e39) ⟨ArgLe.refl _, tv⟩ (fun h => by cases h)] (by kernel_rfl) ?_
     refine AW.ret ?_
     obtain rfl := some_inj h
     exact fn0 (.inr rfl) [] 0 (.tup [vl 1 Ru32 y38, vl 1 Ru32 x37, vi64 0]) (by kernel_rfl)
 ·
  obtain ⟨y41, e42, h⟩ := bnd_some h
  rcases ifs h with ⟨c43, h⟩ | ⟨c43, h⟩
  ·
   refine AW.rg tt_ok1 [(17, vb true)] [] [] 10 [hn, hk (rl_ref10_Valid_con p0 y41 e42), ht c43] (by kernel_rfl) ?_
   exact jl true h (conv_re [] (by kernel_rfl))
  ·
   obtain ⟨y44, e45, h⟩ := bnd_some h
   refine AW.rg tt_ok1 [(17, vb (!y44))] [] [] 9 [hn, hk (rl_ref10_Valid_con p0 y41 e42), hf c43, hn, hn, hk (rl_ref10_Valid_con p1 y44 e45)] (by kernel_rfl) ?_
   exact jl (!y44) h (conv_re [] (by kernel_rfl))
/-! recordlink/recordlinkref11.Make -/
noncomputable def rl_ref11_Make_k1 (p0 : List Int) (p1 : List Int) (x1 : Bool) : Option (S_api_Rational × Int) := if x1 = true then (some ((⟨([] : List Int), ([] : List Int)⟩ : S_api_Rational), 20)) else (if ((p1.length : Int) == 0) = true then (some ((⟨([] : List Int), ([] : List Int)⟩ : S_api_Rational), 9)) else (bind2 (rl_ref10_GCD p0 p1) fun y4 y5 => (bind3 (rl_ref10_DivMod p0 y4) fun y7 y8 y9 => (bind3 (rl_ref10_DivMod p1 y4) fun y11 y12 y13 => (some ((⟨y7, y11⟩ : S_api_Rational), 0))))))
noncomputable def rl_ref11_Make (p0 : List Int) (p1 : List Int) : Option (S_api_Rational × Int) := (rl_ref10_Valid p0).bind fun y15 => (if (!y15) = true then (rl_ref11_Make_k1 p0 p1 true) else ((rl_ref10_Valid p1).bind fun y18 => (rl_ref11_Make_k1 p0 p1 (!y18))))
set_option maxRecDepth 100000 in
theorem rl_ref11_Make_con (p0 : List Int) (p1 : List Int) (r : S_api_Rational × Int) (h : rl_ref11_Make p0 p1 = some r) : Con Tryz.prog 55 [vl 1 Ru32 p0, vl 1 Ru32 p1] [] (.tup [.agg [cl 1 Ru32 r.1.Num, cl 1 Ru32 r.1.Den], vi64 r.2]) [] := by
 refine con_of tt_ok1 0 Tryz.func55 (by kernel_rfl) rfl (by kernel_rfl) (fun base X _ => AW.post ?_)
 unfold rl_ref11_Make at h
 refine AW.sg tt_ok1 [(4, .c (.ptr 0 2 0 0))] [0] [(0, .box 44 [.t (.v (.slice none 0 0)), .t (.v (.slice none 0 0))])] 2 [] (by kernel_rfl) ?_
 refine AW.seq (AW.seq ?_)
 refine AW.join (ι := Bool) (fun v => ⟨[(0, vl 1 Ru32 p0), (1, vl 1 Ru32 p1), (4, .c (.ptr 0 2 0 0)), (21, vb v)], [(0, .box 44 [.t (.v (.slice none 0 0)), .t (.v (.slice none 0 0))])], 1⟩) (fun v : Bool => rl_ref11_Make_k1 p0 p1 v = some r) (fun x1 h => ?_) ?_
 ·
  unfold rl_ref11_Make_k1 at h
  refine AW.tn ?_
  refine AW.co h (by kernel_rfl) (fun c2 h => ?_) (fun c2 h => ?_)
  ·
   refine AW.sg tt_ok1 [(5, vi64 20)] [0] [(0, .box 44 [.t (.v (.slice none 0 0)), .t (.v (.slice none 0 0))])] 4 [] (by kernel_rfl) ?_
   refine AW.ret (AW.tr ?_)
   obtain rfl := some_inj h
   exact fnR (.inr rfl) [] 0 (.tup [.agg [cl 1 Ru32 ([] : List Int), cl 1 Ru32 ([] : List Int)], vi64 20]) (conv_box (id := 0) (ty := 44) (cs := [.t (.v (.slice none 0 0)), .t (.v (.slice none 0 0))]) (ds := [cl 1 Ru32 ([] : List Int), cl 1 Ru32 ([] : List Int)]) (by kernel_rfl) ⟨CLe.nil rfl, CLe.nil rfl, tv⟩) (by kernel_rfl)
  ·
   refine AW.skip (AW.tn (AW.seq ?_))
   refine AW.sg tt_ok1 [(25, vb ((p1.length : Int) == 0))] [] [] 4 [] (by kernel_rfl) ?_
   refine AW.co h (by kernel_rfl) (fun c3 h => ?_) (fun c3 h => ?_)
   ·
    refine AW.sg tt_ok1 [(5, vi64 9)] [0] [(0, .box 44 [.t (.v (.slice none 0 0)), .t (.v (.slice none 0 0))])] 7 [] (by kernel_rfl) ?_
    refine AW.ret (AW.tr ?_)
    obtain rfl := some_inj h
    exact fnR (.inr rfl) [] 0 (.tup [.agg [cl 1 Ru32 ([] : List Int), cl 1 Ru32 ([] : List Int)], vi64 9]) (conv_box (id := 0) (ty := 44) (cs := [.t (.v (.slice none 0 0)), .t (.v (.slice none 0 0))]) (ds := [cl 1 Ru32 ([] : List Int), cl 1 Ru32 ([] : List Int)]) (by kernel_rfl) ⟨CLe.nil rfl, CLe.nil rfl, tv⟩) (by kernel_rfl)
   ·
    refine AW.skip (AW.tn ?_)
    obtain ⟨y4, y5, e6, h⟩ := bind2_some h
    refine AW.sg tt_ok1 [(6, vl 1 Ru32 y4)] [] [] 11 [hn, hn, hk (rl_ref10_GCD_con p0 p1 (y4, y5) e6)] (by kernel_rfl) ?_
    obtain ⟨y7, y8, y9, e10, h⟩ := bind3_some h
    refine AW.sg tt_ok1 [(8, vl 1 Ru32 y7)] [] [] 20 [hn, hn, hk (rl_ref10_DivMod_con p0 y4 (y7, y8, y9) e10)] (by kernel_rfl) ?_
    obtain ⟨y11, y12, y13, e14, h⟩ := bind3_some h
    refine AW.sg tt_ok1 [(11, vl 1 Ru32 y11)] [] [] 29 [hn, hn, hk (rl_ref10_DivMod_con p1 y4 (y11, y12, y13) e14)] (by kernel_rfl) ?_
    refine AW.sg tt_ok1 [(5, vi64 0)] [0] [(0, .box 44 [cl 1 Ru32 y7, cl 1 Ru32 y11])] 34 [] (by kernel_rfl) ?_
    refine AW.ret ?_
    obtain rfl := some_inj h
    exact fn0 (.inr rfl) [] 0 (.tup [.agg [cl 1 Ru32 y7, cl 1 Ru32 y11], vi64 0]) (by kernel_rfl)
 ·
  obtain ⟨y15, e16, h⟩ := bnd_some h
  rcases ifs h with ⟨c17, h⟩ | ⟨c17, h⟩
  ·
   refine AW.rg tt_ok1 [(21, vb true)] [] [] 9 [hn, hk (rl_ref10_Valid_con p0 y15 e16), ht c17] (by kernel_rfl) ?_
   exact jl true h (conv_re [(0, 0)] (by kernel_rfl))
  ·
   obtain ⟨y18, e19, h⟩ := bnd_some h
   refine AW.rg tt_ok1 [(21, vb (!y18))] [] [] 8 [hn, hk (rl_ref10_Valid_con p0 y15 e16), hf c17, hn, hn, hk (rl_ref10_Valid_con p1 y18 e19)] (by kernel_rfl) ?_
   exact jl (!y18) h (conv_re [(0, 0)] (by kernel_rfl))
/-! recordlink/recordlinkref24.Posterior -/
noncomputable def rl_ref24_Posterior (p0 : S_em_model) (p1 : Int) : Option (S_api_Rational × Int) := (rl_ref24_Check p0).bind fun y1 => (if (y1 != 0) = true then (some ((⟨([] : List Int), ([] : List Int)⟩ : S_api_Rational), y1)) else (bind2 (rl_ref17_Digits p1 ((p0.Match.length : Nat) : Int)) fun y4 y5 => (if (y5 != 0) = true then (some ((⟨([] : List Int), ([] : List Int)⟩ : S_api_Rational), y5)) else ((rl_ref24_weight p0.Prior p0.Match y4).bind fun y8 => ((rl_ref24_weight (i64.wrap (65536 - p0.Prior)) p0.Random y4).bind fun y10 => (bind2 (rl_ref10_Add y8 y10) fun y12 y13 => (bind2 (rl_ref11_Make y8 y12) fun y15 y16 => (some (y15, y16)))))))))
set_option maxRecDepth 100000 in
theorem rl_ref24_Posterior_con (p0 : S_em_model) (p1 : Int) (r : S_api_Rational × Int) (h : rl_ref24_Posterior p0 p1 = some r) : Con Tryz.prog 26 [.agg [ci64 p0.Prior, cl 1 Ri64 p0.Match, cl 1 Ri64 p0.Random], vi64 p1] [] (.tup [.agg [cl 1 Ru32 r.1.Num, cl 1 Ru32 r.1.Den], vi64 r.2]) [] := by
 refine con_of tt_ok1 0 Tryz.func26 (by kernel_rfl) rfl (by kernel_rfl) (fun base X _ => AW.post ?_)
 unfold rl_ref24_Posterior at h
 refine AW.sg tt_ok1 [(4, .c (.ptr 1 2 0 0)), (2, .c (.ptr 0 3 0 0))] [0, 1] [(1, .box 44 [.t (.v (.slice none 0 0)), .t (.v (.slice none 0 0))]), (0, .box 24 [ci64 p0.Prior, cl 1 Ri64 p0.Match, cl 1 Ri64 p0.Random])] 3 [] (by kernel_rfl) ?_
 refine AW.seq ?_
 obtain ⟨y1, e2, h⟩ := bnd_some h
 refine AW.sg tt_ok1 [(6, vi64 y1)] [] [] 5 [hn, hk (rl_ref24_Check_con p0 y1 e2)] (by kernel_rfl) ?_
 refine AW.sg tt_ok1 [(16, vb (y1 != 0))] [] [] 7 [] (by kernel_rfl) ?_
 refine AW.co h (by kernel_rfl) (fun c3 h => ?_) (fun c3 h => ?_)
 ·
  refine AW.sg tt_ok1 [(5, vi64 y1)] [1] [(1, .box 44 [.t (.v (.slice none 0 0)), .t (.v (.slice none 0 0))])] 11 [] (by kernel_rfl) ?_
  refine AW.ret (AW.tr ?_)
  obtain rfl := some_inj h
  exact fnR (.inr rfl) [] 0 (.tup [.agg [cl 1 Ru32 ([] : List Int), cl 1 Ru32 ([] : List Int)], vi64 y1]) (conv_box (id := 1) (ty := 44) (cs := [.t (.v (.slice none 0 0)), .t (.v (.slice none 0 0))]) (ds := [cl 1 Ru32 ([] : List Int), cl 1 Ru32 ([] : List Int)]) (by kernel_rfl) ⟨CLe.nil rfl, CLe.nil rfl, tv⟩) (by kernel_rfl)
 ·
  refine AW.skip (AW.tn ?_)
  obtain ⟨y4, y5, e6, h⟩ := bind2_some h
  refine AW.sg tt_ok1 [(8, vi64 y5), (7, .c (.ref 11 1 0 y4.length))] [11] [(11, .row 3 false 1 y4.length (Ri64 y4))] 17 [hn, hn, hn, hn, hm [] [] 1 (rl_ref17_Digits_con p1 ((p0.Match.length : Nat) : Int) (y4, y5) e6) ⟨rowL_flat Vi64 _ _ _, tv⟩] (by kernel_rfl) ?_
  refine AW.seq ?_
  refine AW.sg tt_ok1 [(28, vb (y5 != 0))] [] [] 19 [] (by kernel_rfl) ?_
  refine AW.co h (by kernel_rfl) (fun c7 h => ?_) (fun c7 h => ?_)
  ·
   refine AW.sg tt_ok1 [(5, vi64 y5)] [1] [(1, .box 44 [.t (.v (.slice none 0 0)), .t (.v (.slice none 0 0))])] 23 [] (by kernel_rfl) ?_
   refine AW.ret (AW.tr ?_)
   obtain rfl := some_inj h
   exact fnR (.inr rfl) [] 0 (.tup [.agg [cl 1 Ru32 ([] : List Int), cl 1 Ru32 ([] : List Int)], vi64 y5]) (conv_box (id := 1) (ty := 44) (cs := [.t (.v (.slice none 0 0)), .t (.v (.slice none 0 0))]) (ds := [cl 1 Ru32 ([] : List Int), cl 1 Ru32 ([] : List Int)]) (by kernel_rfl) ⟨CLe.nil rfl, CLe.nil rfl, tv⟩) (by kernel_rfl)
  ·
   refine AW.skip (AW.tn ?_)
   obtain ⟨y8, e9, h⟩ := bnd_some h
   obtain ⟨y10, e11, h⟩ := bnd_some h
   refine AW.sd tt_ok1 mo1 [[], [], [], [], [], [11]] [(10, vl 1 Ru32 y10), (9, vl 1 Ru32 y8)] [] 32 [hn, hn, hn, hn, hn, hg [] [11] false 0 (q := (True) ∧ (True) ∧ (0 + y4.length ≤ y4.length) ∧ (True)) ⟨tv, tv, le0, tv⟩ (a0 := [vi64 p0.Prior, vl 1 Ri64 p0.Match, vl 1 Ri64 y4]) (rl_ref24_weight_con p0.Prior p0.Match y4 y8 e9) ⟨ArgLe.refl _, ArgLe.refl _, ArgLe.refl _, tv⟩ (fun h => by cases h), hn, hn, hn, hn, hn, hn, hg [] [] false 0 (q := (True) ∧ (True) ∧ (0 + y4.length ≤ y4.length) ∧ (True)) ⟨tv, tv, le0, tv⟩ (a0 := [vi64 (i64.wrap (65536 - p0.Prior)), vl 1 Ri64 p0.Random, vl 1 Ri64 y4]) (rl_ref24_weight_con (i64.wrap (65536 - p0.Prior)) p0.Random y4 y10 e11) ⟨ArgLe.refl _, ArgLe.refl _, ArgLe.refl _, tv⟩ (fun h => by cases h)] (by kernel_rfl) ?_
   obtain ⟨y12, y13, e14, h⟩ := bind2_some h
   refine AW.sg tt_ok1 [(11, vl 1 Ru32 y12)] [] [] 39 [hn, hn, hk (rl_ref10_Add_con y8 y10 (y12, y13) e14)] (by kernel_rfl) ?_
   obtain ⟨y15, y16, e17, h⟩ := bind2_some h
   refine AW.sg tt_ok1 [(5, vi64 y16)] [1] [(1, .box 44 [cl 1 Ru32 y15.Num, cl 1 Ru32 y15.Den])] 45 [hn, hn, hk (rl_ref11_Make_con y8 y12 (y15, y16) e17)] (by kernel_rfl) ?_
   refine AW.ret ?_
   obtain rfl := some_inj h
   exact fn0 (.inr rfl) [] 0 (.tup [.agg [cl 1 Ru32 y15.Num, cl 1 Ru32 y15.Den], vi64 y16]) (by kernel_rfl)
/-! recordlink/recordlinkref10.Same -/
noncomputable def rl_ref10_Same_l1 (p0 : List Int) (p1 : List Int) (x3 : Int) : Option (Int ⊕ (Unit ⊕ Unit)) := if (decide (x3 < (p0.length : Int))) = true then (if 0 ≤ x3 then (if x3 < (p0.length : Int) then (if x3 < (p1.length : Int) then (if ((p0.getD x3.toNat 0) != (p1.getD x3.toNat 0)) = true then (some (.inr (.inr ()))) else (some (.inl (i64.wrap (x3 + 1))))) else none) else none) else none) else (some (.inr (.inl ())))
noncomputable def rl_ref10_Same_a2 : Option Bool := some true
noncomputable def rl_ref10_Same_a3 : Option Bool := some false
noncomputable def rl_ref10_Same (p0 : List Int) (p1 : List Int) : Option Bool := if ((p0.length : Int) != (p1.length : Int)) = true then (some false) else (bindE (loop (fun v : Int => rl_ref10_Same_l1 p0 p1 v) 0) (fun t => rl_ref10_Same_a2) (fun t => rl_ref10_Same_a3))
set_option maxRecDepth 100000 in
theorem rl_ref10_Same_con (p0 : List Int) (p1 : List Int) (r : Bool) (h : rl_ref10_Same p0 p1 = some r) : Con Tryz.prog 45 [vl 1 Ru32 p0, vl 1 Ru32 p1] [] (vb r) [] := by
 refine con_of tt_ok1 0 Tryz.func45 (by kernel_rfl) rfl (by kernel_rfl) (fun base X _ => AW.post ?_)
 unfold rl_ref10_Same at h
 refine AW.sg tt_ok1 [] [] [] 1 [] (by kernel_rfl) ?_
 refine AW.seq ?_
 refine AW.sg tt_ok1 [(10, vb ((p0.length : Int) != (p1.length : Int)))] [] [] 6 [] (by kernel_rfl) ?_
 refine AW.co h (by kernel_rfl) (fun c1 h => ?_) (fun c1 h => ?_)
 ·
  refine AW.sg tt_ok1 [(4, vb false)] [] [] 7 [] (by kernel_rfl) ?_
  refine AW.ret (AW.tr ?_)
  obtain rfl := some_inj h
  exact fn0 (.inr rfl) [] 0 (vb false) (by kernel_rfl)
 ·
  refine AW.skip (AW.tn (AW.seq ?_))
  refine AW.sg tt_ok1 [(5, vi64 0)] [] [] 7 [] (by kernel_rfl) ?_
  refine AW.block ?_
  refine AW.lpE h (fun v => ⟨[(0, vl 1 Ru32 p0), (1, vl 1 Ru32 p1), (5, vi64 v)], [], 0⟩) (fun t => (.exit 0, ⟨[], [], 0⟩)) (fun t => (.ret, ⟨[(4, vb false)], [], 0⟩)) (conv_re [] (by kernel_rfl)) (fun _ => tv) (fun _ => tv) ?_ (fun t h => ?_) (fun t h => ?_)
  ·
   clear h
   intro x3 o h
   unfold rl_ref10_Same_l1 at h
   refine AW.seq ?_
   refine AW.sg tt_ok1 [(14, vb (decide (x3 < (p0.length : Int))))] [] [] 4 [] (by kernel_rfl) ?_
   refine AW.co h (by kernel_rfl) (fun c4 h => ?_) (fun c4 h => ?_)
   ·
    refine AW.skip (AW.tn ?_)
    refine AW.seq (AW.block ?_)
    obtain ⟨g5, g6, h⟩ := ifd h
    obtain ⟨g7, h⟩ := ifc h
    refine AW.sd tt_ok1 mo1 [] [(25, vb ((p0.getD x3.toNat 0) != (p1.getD x3.toNat 0)))] [] 13 [hn, hn, hq g5 g6, hn, hn, hn, hq g5 g7] (by kernel_rfl) ?_
    refine AW.co h (by kernel_rfl) (fun c8 h => ?_) (fun c8 h => ?_)
    ·
     refine AW.sg tt_ok1 [(4, vb false)] [] [] 14 [] (by kernel_rfl) ?_
     refine AW.ret (AW.inBlock_ret (AW.tr ?_))
     exact lpo h rfl (conv_re [] (by kernel_rfl))
    ·
     refine AW.skip (AW.inBlock_normal (AW.tn ?_))
     refine AW.rg tt_ok1 [(5, vi64 (i64.wrap (x3 + 1)))] [] [] 16 [] (by kernel_rfl) ?_
     exact lpn h (conv_re [] (by kernel_rfl))
   ·
    refine AW.exit (AW.thenQ_exit ?_)
    exact lpo h rfl (conv_re [] (by kernel_rfl))
  ·
   replace h : rl_ref10_Same_a2 = some r := h
   unfold rl_ref10_Same_a2 at h
   show (_ : Exit → St → Prop) (.exit 0) _
   refine AW.inBlock_hit (AW.tn ?_)
   refine AW.sg tt_ok1 [(4, vb true)] [] [] 1 [] (by kernel_rfl) ?_
   refine AW.ret ?_
   obtain rfl := some_inj h
   exact fn0 (.inr rfl) [] 0 (vb true) (by kernel_rfl)
  ·
   replace h : rl_ref10_Same_a3 = some r := h
   unfold rl_ref10_Same_a3 at h
   show (_ : Exit → St → Prop) (.ret) _
   refine AW.inBlock_ret (AW.tr ?_)
   obtain rfl := some_inj h
   exact fn0 (.inr rfl) [] 0 (vb false) (by kernel_rfl)
/-! recordlink/recordlinkref11.Valid -/
noncomputable def rl_ref11_Valid_k1 (p0 : S_api_Rational) (x1 : Bool) : Option Bool := if x1 = true then (some false) else (bind2 (rl_ref10_GCD p0.Num p0.Den) fun y3 y4 => ((rl_ref10_Same y3 ([1] : List Int)).bind fun y6 => (some y6)))
noncomputable def rl_ref11_Valid (p0 : S_api_Rational) : Option Bool := (rl_ref10_Valid p0.Num).bind fun y8 => (if (!y8) = true then (rl_ref11_Valid_k1 p0 true) else ((rl_ref10_Valid p0.Den).bind fun y11 => (if (!y11) = true then (rl_ref11_Valid_k1 p0 true) else (rl_ref11_Valid_k1 p0 (((p0.Den.length : Nat) : Int) == 0)))))
set_option maxRecDepth 100000 in
theorem rl_ref11_Valid_con (p0 : S_api_Rational) (r : Bool) (h : rl_ref11_Valid p0 = some r) : Con Tryz.prog 95 [.agg [cl 1 Ru32 p0.Num, cl 1 Ru32 p0.Den]] [] (vb r) [] := by
 refine con_of tt_ok1 0 Tryz.func95 (by kernel_rfl) rfl (by kernel_rfl) (fun base X _ => AW.post ?_)
 unfold rl_ref11_Valid at h
 refine AW.sg tt_ok1 [(1, .c (.ptr 0 2 0 0))] [0] [(0, .box 44 [cl 1 Ru32 p0.Num, cl 1 Ru32 p0.Den])] 2 [] (by kernel_rfl) ?_
 refine AW.seq (AW.seq ?_)
 refine AW.join (ι := Bool) (fun v => ⟨[(1, .c (.ptr 0 2 0 0)), (20, vb v)], [(0, .box 44 [cl 1 Ru32 p0.Num, cl 1 Ru32 p0.Den])], 1⟩) (fun v : Bool => rl_ref11_Valid_k1 p0 v = some r) (fun x1 h => ?_) ?_
 ·
  unfold rl_ref11_Valid_k1 at h
  refine AW.tn ?_
  refine AW.co h (by kernel_rfl) (fun c2 h => ?_) (fun c2 h => ?_)
  ·
   refine AW.sg tt_ok1 [(2, vb false)] [] [] 2 [] (by kernel_rfl) ?_
   refine AW.ret (AW.tr ?_)
   obtain rfl := some_inj h
   exact fn0 (.inr rfl) [] 0 (vb false) (by kernel_rfl)
  ·
   refine AW.skip (AW.tn ?_)
   obtain ⟨y3, y4, e5, h⟩ := bind2_some h
   refine AW.sg tt_ok1 [(3, vl 1 Ru32 y3)] [] [] 10 [hn, hn, hn, hn, hk (rl_ref10_GCD_con p0.Num p0.Den (y3, y4) e5)] (by kernel_rfl) ?_
   obtain ⟨y6, e7, h⟩ := bnd_some h
   refine AW.sg tt_ok1 [(2, vb y6)] [11] [] 13 [hn, hlit 0 Eu32 1 (fun _ => rfl) ([1] : List Int), hg [] [] true 0 (q := (True) ∧ (0 + ([1] : List Int).length ≤ ([1] : List Int).length) ∧ (True)) ⟨tv, le0, tv⟩ (a0 := [vl 1 Ru32 y3, vl 1 Ru32 ([1] : List Int)]) (rl_ref10_Same_con y3 ([1] : List Int) y6 e7) ⟨ArgLe.refl _, ArgLe.refl _, tv⟩ (fun _ => tv)] (by kernel_rfl) ?_
   refine AW.ret ?_
   obtain rfl := some_inj h
   exact fn0 (.inr rfl) [] 0 (vb y6) (by kernel_rfl)
 ·
  obtain ⟨y8, e9, h⟩ := bnd_some h
  rcases ifs h with ⟨c10, h⟩ | ⟨c10, h⟩
  ·
   refine AW.rg tt_ok1 [(20, vb true)] [] [] 17 [hn, hn, hk (rl_ref10_Valid_con p0.Num y8 e9), ht c10] (by kernel_rfl) ?_
   exact jl true h (conv_re [(0, 0)] (by kernel_rfl))
  ·
   obtain ⟨y11, e12, h⟩ := bnd_some h
   rcases ifs h with ⟨c13, h⟩ | ⟨c13, h⟩
   ·
    refine AW.rg tt_ok1 [(20, vb true)] [] [] 16 [hn, hn, hk (rl_ref10_Valid_con p0.Num y8 e9), hf c10, hn, hn, hn, hk (rl_ref10_Valid_con p0.Den y11 e12), ht c13] (by kernel_rfl) ?_
    exact jl true h (conv_re [(0, 0)] (by kernel_rfl))
   ·
    refine AW.rg tt_ok1 [(20, vb (((p0.Den.length : Nat) : Int) == 0))] [] [] 16 [hn, hn, hk (rl_ref10_Valid_con p0.Num y8 e9), hf c10, hn, hn, hn, hk (rl_ref10_Valid_con p0.Den y11 e12), hf c13] (by kernel_rfl) ?_
    exact jl (((p0.Den.length : Nat) : Int) == 0) h (conv_re [(0, 0)] (by kernel_rfl))
/-! recordlink/recordlinkref10.Int -/
noncomputable def rl_ref10_Int_l2 (p0 : List Int) (x5 : Int) (x6 : Int) : Option ((Int × Int) ⊕ Int) := if (decide (x6 ≥ 0)) = true then (if 0 ≤ x6 then (if x6 < (p0.length : Int) then ((some (ior .i64 (ishl .i64 x5 32) (i64.wrap (p0.getD x6.toNat 0)))).bind fun z11 => (some (.inl (z11, i64.wrap (x6 - 1))))) else none) else none) else (some (.inr x5))
noncomputable def rl_ref10_Int_k1 (p0 : List Int) (x1 : Bool) : Option (Int × Bool) := if x1 = true then (some (0, false)) else ((loop (fun v : Int × Int => rl_ref10_Int_l2 p0 v.1 v.2) (0, i64.wrap ((p0.length : Int) - 1))).bind fun x13 => (some (x13, true)))
noncomputable def rl_ref10_Int (p0 : List Int) : Option (Int × Bool) := (rl_ref10_Valid p0).bind fun y15 => (if (!y15) = true then (rl_ref10_Int_k1 p0 true) else (if (decide ((p0.length : Int) > 2)) = true then (rl_ref10_Int_k1 p0 true) else (if ((p0.length : Int) == 2) = true then (if (1 : Int) < (p0.length : Int) then (rl_ref10_Int_k1 p0 (decide ((p0.getD 1 0) ≥ 2147483648))) else none) else (rl_ref10_Int_k1 p0 false))))
set_option maxRecDepth 100000 in
theorem rl_ref10_Int_con (p0 : List Int) (r : Int × Bool) (h : rl_ref10_Int p0 = some r) : Con Tryz.prog 96 [vl 1 Ru32 p0] [] (.tup [vi64 r.1, vb r.2]) [] := by
 refine con_of tt_ok1 0 Tryz.func96 (by kernel_rfl) rfl (by kernel_rfl) (fun base X _ => AW.post ?_)
 unfold rl_ref10_Int at h
 refine AW.sg tt_ok1 [] [] [] 2 [] (by kernel_rfl) ?_
 refine AW.seq (AW.seq ?_)
 refine AW.join (ι := Bool) (fun v => ⟨[(0, vl 1 Ru32 p0), (24, vb v)], [], 0⟩) (fun v : Bool => rl_ref10_Int_k1 p0 v = some r) (fun x1 h => ?_) ?_
 ·
  unfold rl_ref10_Int_k1 at h
  refine AW.tn ?_
  refine AW.co h (by kernel_rfl) (fun c2 h => ?_) (fun c2 h => ?_)
  ·
   refine AW.sg tt_ok1 [(3, vb false), (2, vi64 0)] [] [] 2 [] (by kernel_rfl) ?_
   refine AW.ret (AW.tr ?_)
   obtain rfl := some_inj h
   exact fn0 (.inr rfl) [] 0 (.tup [vi64 0, vb false]) (by kernel_rfl)
  ·
   refine AW.skip (AW.tn ?_)
   refine AW.sg tt_ok1 [(4, vi64 0)] [] [] 1 [] (by kernel_rfl) ?_
   refine AW.seq ?_
   refine AW.sg tt_ok1 [(5, vi64 (i64.wrap ((p0.length : Int) - 1)))] [] [] 5 [] (by kernel_rfl) ?_
   refine AW.block ?_
   obtain ⟨x13, l14, h⟩ := bnd_some h
   refine AW.lp l14 (fun v => ⟨[(0, vl 1 Ru32 p0), (4, vi64 v.1), (5, vi64 v.2)], [], 0⟩) (fun t : Int => (.exit 0, ⟨[(4, vi64 t)], [], 0⟩)) (conv_re [] (by kernel_rfl)) (fun _ => tv) ?_ ?_
   ·
    clear l14 h
    intro v o h
    obtain ⟨x5, x6⟩ := v
    replace h : rl_ref10_Int_l2 p0 x5 x6 = some o := h
    unfold rl_ref10_Int_l2 at h
    refine AW.seq ?_
    refine AW.sg tt_ok1 [(29, vb (decide (x6 ≥ 0)))] [] [] 2 [] (by kernel_rfl) ?_
    refine AW.co h (by kernel_rfl) (fun c8 h => ?_) (fun c8 h => ?_)
    ·
     refine AW.skip (AW.tn ?_)
     refine AW.seq (AW.block ?_)
     obtain ⟨g9, g10, h⟩ := ifd h
     obtain ⟨z11, n12, h⟩ := bnd_some h
     replace n12 := some_inj n12
     refine AW.rg tt_ok1 [(4, vi64 z11)] [] [] 11 [hn, ho (p := 0 ≤ (32 : Int)) (by decide), hn, hn, hq g9 g10] (by subst n12; kernel_rfl) ?_
     refine AW.inBlock_normal (AW.tn ?_)
     refine AW.rg tt_ok1 [(5, vi64 (i64.wrap (x6 - 1)))] [] [] 14 [] (by kernel_rfl) ?_
     exact lpn h (conv_re [] (by kernel_rfl))
    ·
     refine AW.exit (AW.thenQ_exit ?_)
     exact lpo h rfl (conv_re [] (by kernel_rfl))
   ·
    show (_ : Exit → St → Prop) (.exit 0) _
    refine AW.inBlock_hit (AW.tn ?_)
    refine AW.sg tt_ok1 [(3, vb true), (2, vi64 x13)] [] [] 3 [] (by kernel_rfl) ?_
    refine AW.ret ?_
    obtain rfl := some_inj h
    exact fn0 (.inr rfl) [] 0 (.tup [vi64 x13, vb true]) (by kernel_rfl)
 ·
  obtain ⟨y15, e16, h⟩ := bnd_some h
  rcases ifs h with ⟨c17, h⟩ | ⟨c17, h⟩
  ·
   refine AW.rg tt_ok1 [(24, vb true)] [] [] 20 [hn, hk (rl_ref10_Valid_con p0 y15 e16), ht c17] (by kernel_rfl) ?_
   exact jl true h (conv_re [] (by kernel_rfl))
  ·
   rcases ifs h with ⟨c18, h⟩ | ⟨c18, h⟩
   ·
    refine AW.rg tt_ok1 [(24, vb true)] [] [] 20 [hn, hk (rl_ref10_Valid_con p0 y15 e16), hf c17, hn, hn, hn, ht c18] (by kernel_rfl) ?_
    exact jl true h (conv_re [] (by kernel_rfl))
   ·
    rcases ifs h with ⟨c19, h⟩ | ⟨c19, h⟩
    ·
     obtain ⟨g20, h⟩ := ifc h
     refine AW.rg tt_ok1 [(24, vb (decide ((p0.getD 1 0) ≥ 2147483648)))] [] [] 20 [hn, hk (rl_ref10_Valid_con p0 y15 e16), hf c17, hn, hn, hn, hf c18, hn, hn, hn, hn, ht c19, hn, hn, ho (p := (0 ≤ (1 : Int)) ∧ ((1 : Int) < (p0.length : Int))) (⟨(by decide), g20⟩)] (by kernel_rfl) ?_
     exact jl (decide ((p0.getD 1 0) ≥ 2147483648)) h (conv_re [] (by kernel_rfl))
    ·
     refine AW.rg tt_ok1 [(24, vb false)] [] [] 20 [hn, hk (rl_ref10_Valid_con p0 y15 e16), hf c17, hn, hn, hn, hf c18, hn, hn, hn, hn, hf c19] (by kernel_rfl) ?_
     exact jl false h (conv_re [] (by kernel_rfl))
/-! recordlink/recordlinkref11.Round -/
noncomputable def rl_ref11_Round_k1 (p0 : S_api_Rational) (p1 : Int) (x4 : Bool) : Option (Int × Int) := if x4 = true then (some (0, 2)) else (bind2 (rl_ref10_FromInt (i64.wrap (2 * p1))) fun y6 y7 => (bind2 (rl_ref10_Mul p0.Num y6) fun y9 y10 => (if (y10 != 0) = true then (some (0, y10)) else (bind2 (rl_ref10_Add y9 p0.Den) fun y13 y14 => (if (y14 != 0) = true then (some (0, y14)) else (bind2 (rl_ref10_Add p0.Den p0.Den) fun y17 y18 => (if (y18 != 0) = true then (some (0, y18)) else (bind3 (rl_ref10_DivMod y13 y17) fun y21 y22 y23 => (bind2 (rl_ref10_Int y21) fun y25 y26 => (if (!y26) = true then (some (0, 1)) else (some (y25, 0))))))))))))
noncomputable def rl_ref11_Round (p0 : S_api_Rational) (p1 : Int) : Option (Int × Int) := (rl_ref11_Valid p0).bind fun y1 => (if (!y1) = true then (some (0, 20)) else (if (decide (p1 < 1)) = true then (rl_ref11_Round_k1 p0 p1 true) else (rl_ref11_Round_k1 p0 p1 (decide (p1 > 4294967296)))))
set_option maxRecDepth 100000 in
theorem rl_ref11_Round_con (p0 : S_api_Rational) (p1 : Int) (r : Int × Int) (h : rl_ref11_Round p0 p1 = some r) : Con Tryz.prog 57 [.agg [cl 1 Ru32 p0.Num, cl 1 Ru32 p0.Den], vi64 p1] [] (.tup [vi64 r.1, vi64 r.2]) [] := by
 refine con_of tt_ok1 0 Tryz.func57 (by kernel_rfl) rfl (by kernel_rfl) (fun base X _ => AW.post ?_)
 unfold rl_ref11_Round at h
 refine AW.sg tt_ok1 [(2, .c (.ptr 0 2 0 0))] [0] [(0, .box 44 [cl 1 Ru32 p0.Num, cl 1 Ru32 p0.Den])] 3 [] (by kernel_rfl) ?_
 refine AW.seq ?_
 obtain ⟨y1, e2, h⟩ := bnd_some h
 refine AW.sg tt_ok1 [(18, vb (!y1))] [] [] 5 [hn, hk (rl_ref11_Valid_con p0 y1 e2)] (by kernel_rfl) ?_
 refine AW.co h (by kernel_rfl) (fun c3 h => ?_) (fun c3 h => ?_)
 ·
  refine AW.sg tt_ok1 [(5, vi64 20), (4, vi64 0)] [] [] 7 [] (by kernel_rfl) ?_
  refine AW.ret (AW.tr ?_)
  obtain rfl := some_inj h
  exact fn0 (.inr rfl) [] 0 (.tup [vi64 0, vi64 20]) (by kernel_rfl)
 ·
  refine AW.skip (AW.tn ?_)
  refine AW.seq (AW.seq ?_)
  refine AW.join (ι := Bool) (fun v => ⟨[(1, vi64 p1), (2, .c (.ptr 0 2 0 0)), (24, vb v)], [(0, .box 44 [cl 1 Ru32 p0.Num, cl 1 Ru32 p0.Den])], 1⟩) (fun v : Bool => rl_ref11_Round_k1 p0 p1 v = some r) (fun x4 h => ?_) ?_
  ·
   unfold rl_ref11_Round_k1 at h
   refine AW.tn ?_
   refine AW.co h (by kernel_rfl) (fun c5 h => ?_) (fun c5 h => ?_)
   ·
    refine AW.sg tt_ok1 [(5, vi64 2), (4, vi64 0)] [] [] 3 [] (by kernel_rfl) ?_
    refine AW.ret (AW.tr ?_)
    obtain rfl := some_inj h
    exact fn0 (.inr rfl) [] 0 (.tup [vi64 0, vi64 2]) (by kernel_rfl)
   ·
    refine AW.skip (AW.tn ?_)
    obtain ⟨y6, y7, e8, h⟩ := bind2_some h
    refine AW.sg tt_ok1 [(6, vl 1 Ru32 y6)] [] [] 8 [hn, hn, hk (rl_ref10_FromInt_con (i64.wrap (2 * p1)) (y6, y7) e8)] (by kernel_rfl) ?_
    obtain ⟨y9, y10, e11, h⟩ := bind2_some h
    refine AW.sg tt_ok1 [(9, vi64 y10), (8, vl 1 Ru32 y9)] [] [] 16 [hn, hn, hn, hk (rl_ref10_Mul_con p0.Num y6 (y9, y10) e11)] (by kernel_rfl) ?_
    refine AW.seq ?_
    refine AW.sg tt_ok1 [(39, vb (y10 != 0))] [] [] 18 [] (by kernel_rfl) ?_
    refine AW.co h (by kernel_rfl) (fun c12 h => ?_) (fun c12 h => ?_)
    ·
     refine AW.sg tt_ok1 [(5, vi64 y10), (4, vi64 0)] [] [] 21 [] (by kernel_rfl) ?_
     refine AW.ret (AW.tr ?_)
     obtain rfl := some_inj h
     exact fn0 (.inr rfl) [] 0 (.tup [vi64 0, vi64 y10]) (by kernel_rfl)
    ·
     refine AW.skip (AW.tn (AW.seq ?_))
     obtain ⟨y13, y14, e15, h⟩ := bind2_some h
     refine AW.sg tt_ok1 [(9, vi64 y14), (8, vl 1 Ru32 y13)] [] [] 26 [hn, hn, hn, hk (rl_ref10_Add_con y9 p0.Den (y13, y14) e15)] (by kernel_rfl) ?_
     refine AW.sg tt_ok1 [(49, vb (y14 != 0))] [] [] 28 [] (by kernel_rfl) ?_
     refine AW.co h (by kernel_rfl) (fun c16 h => ?_) (fun c16 h => ?_)
     ·
      refine AW.sg tt_ok1 [(5, vi64 y14), (4, vi64 0)] [] [] 31 [] (by kernel_rfl) ?_
      refine AW.ret (AW.tr ?_)
      obtain rfl := some_inj h
      exact fn0 (.inr rfl) [] 0 (.tup [vi64 0, vi64 y14]) (by kernel_rfl)
     ·
      refine AW.skip (AW.tn ?_)
      obtain ⟨y17, y18, e19, h⟩ := bind2_some h
      refine AW.sg tt_ok1 [(9, vi64 y18), (10, vl 1 Ru32 y17)] [] [] 37 [hn, hn, hn, hn, hk (rl_ref10_Add_con p0.Den p0.Den (y17, y18) e19)] (by kernel_rfl) ?_
      refine AW.seq ?_
      refine AW.sg tt_ok1 [(60, vb (y18 != 0))] [] [] 39 [] (by kernel_rfl) ?_
      refine AW.co h (by kernel_rfl) (fun c20 h => ?_) (fun c20 h => ?_)
      ·
       refine AW.sg tt_ok1 [(5, vi64 y18), (4, vi64 0)] [] [] 42 [] (by kernel_rfl) ?_
       refine AW.ret (AW.tr ?_)
       obtain rfl := some_inj h
       exact fn0 (.inr rfl) [] 0 (.tup [vi64 0, vi64 y18]) (by kernel_rfl)
      ·
       refine AW.skip (AW.tn ?_)
       obtain ⟨y21, y22, y23, e24, h⟩ := bind3_some h
       refine AW.sg tt_ok1 [(11, vl 1 Ru32 y21)] [] [] 48 [hn, hn, hk (rl_ref10_DivMod_con y13 y17 (y21, y22, y23) e24)] (by kernel_rfl) ?_
       obtain ⟨y25, y26, e27, h⟩ := bind2_some h
       refine AW.sg tt_ok1 [(15, vb y26), (14, vi64 y25)] [] [] 54 [hn, hk (rl_ref10_Int_con y21 (y25, y26) e27)] (by kernel_rfl) ?_
       refine AW.seq ?_
       refine AW.sg tt_ok1 [(75, vb (!y26))] [] [] 56 [] (by kernel_rfl) ?_
       refine AW.co h (by kernel_rfl) (fun c28 h => ?_) (fun c28 h => ?_)
       ·
        refine AW.sg tt_ok1 [(5, vi64 1), (4, vi64 0)] [] [] 58 [] (by kernel_rfl) ?_
        refine AW.ret (AW.tr ?_)
        obtain rfl := some_inj h
        exact fn0 (.inr rfl) [] 0 (.tup [vi64 0, vi64 1]) (by kernel_rfl)
       ·
        refine AW.skip (AW.tn ?_)
        refine AW.sg tt_ok1 [(5, vi64 0), (4, vi64 y25)] [] [] 59 [] (by kernel_rfl) ?_
        refine AW.ret ?_
        obtain rfl := some_inj h
        exact fn0 (.inr rfl) [] 0 (.tup [vi64 y25, vi64 0]) (by kernel_rfl)
  ·
   rcases ifs h with ⟨c29, h⟩ | ⟨c29, h⟩
   ·
    refine AW.rg tt_ok1 [(24, vb true)] [] [] 11 [hn, ht c29] (by kernel_rfl) ?_
    exact jl true h (conv_re [(0, 0)] (by kernel_rfl))
   ·
    refine AW.rg tt_ok1 [(24, vb (decide (p1 > 4294967296)))] [] [] 11 [hn, hf c29] (by kernel_rfl) ?_
    exact jl (decide (p1 > 4294967296)) h (conv_re [(0, 0)] (by kernel_rfl))
/-! recordlink/recordlinkref24.Share -/
noncomputable def rl_ref24_Share (p0 : S_em_model) (p1 : Int) : Option (Int × Int) := bind2 (rl_ref24_Posterior p0 p1) fun y1 y2 => (if (y2 != 0) = true then (some (0, y2)) else (bind2 (rl_ref11_Round y1 1073741824) fun y5 y6 => (some (y5, y6))))
set_option maxRecDepth 100000 in
theorem rl_ref24_Share_con (p0 : S_em_model) (p1 : Int) (r : Int × Int) (h : rl_ref24_Share p0 p1 = some r) : Con Tryz.prog 28 [.agg [ci64 p0.Prior, cl 1 Ri64 p0.Match, cl 1 Ri64 p0.Random], vi64 p1] [] (.tup [vi64 r.1, vi64 r.2]) [] := by
 refine con_of tt_ok1 0 Tryz.func28 (by kernel_rfl) rfl (by kernel_rfl) (fun base X _ => AW.post ?_)
 unfold rl_ref24_Share at h
 refine AW.sg tt_ok1 [(2, .c (.ptr 0 3 0 0))] [0] [(0, .box 24 [ci64 p0.Prior, cl 1 Ri64 p0.Match, cl 1 Ri64 p0.Random])] 3 [] (by kernel_rfl) ?_
 obtain ⟨y1, y2, e3, h⟩ := bind2_some h
 refine AW.sg tt_ok1 [(7, vi64 y2), (6, .c (.ptr 8 2 0 0))] [8] [(8, .box 44 [cl 1 Ru32 y1.Num, cl 1 Ru32 y1.Den])] 11 [hn, hn, hk (rl_ref24_Posterior_con p0 p1 (y1, y2) e3)] (by kernel_rfl) ?_
 refine AW.seq ?_
 refine AW.sg tt_ok1 [(15, vb (y2 != 0))] [] [] 13 [] (by kernel_rfl) ?_
 refine AW.co h (by kernel_rfl) (fun c4 h => ?_) (fun c4 h => ?_)
 ·
  refine AW.sg tt_ok1 [(5, vi64 y2), (4, vi64 0)] [] [] 16 [] (by kernel_rfl) ?_
  refine AW.ret (AW.tr ?_)
  obtain rfl := some_inj h
  exact fn0 (.inr rfl) [] 0 (.tup [vi64 0, vi64 y2]) (by kernel_rfl)
 ·
  refine AW.skip (AW.tn ?_)
  obtain ⟨y5, y6, e7, h⟩ := bind2_some h
  refine AW.sg tt_ok1 [(5, vi64 y6), (4, vi64 y5)] [] [] 18 [hn, hk (rl_ref11_Round_con y1 1073741824 (y5, y6) e7)] (by kernel_rfl) ?_
  refine AW.ret ?_
  obtain rfl := some_inj h
  exact fn0 (.inr rfl) [] 0 (.tup [vi64 y5, vi64 y6]) (by kernel_rfl)
/-! recordlink/recordlinkref33.Of -/
noncomputable def rl_ref33_Of_l2 (p0 : S_em_model) (p1 : List S_api_Candidate) (x9 : Int) (x10 : Int) (x11 : Int) : Option ((Int × Int × Int) ⊕ ((Int × Int) ⊕ Int)) := if (decide (x9 < (p1.length : Int))) = true then (if 0 ≤ x9 then (if x9 < (p1.length : Int) then (bind2 (rl_ref24_Share p0 ((p1.getD x9.toNat dS_api_Candidate).Pattern)) fun y18 y19 => (if (y19 != 0) = true then (some (.inr (.inr y19))) else ((some (i64.wrap (x10 + (i64.wrap (1073741824 - y18))))).bind fun z22 => (some (.inl (i64.wrap (x9 + 1), z22, i64.wrap (x11 + y18))))))) else none) else none) else (some (.inr (.inl (x10, x11))))
noncomputable def rl_ref33_Of_l3 (p0 : S_em_model) (p2 : List S_api_Candidate) (x28 : Int) (x29 : Int) : Option ((Int × Int) ⊕ (Int ⊕ Int)) := if (decide (x28 < (p2.length : Int))) = true then (if 0 ≤ x28 then (if x28 < (p2.length : Int) then (bind2 (rl_ref24_Share p0 ((p2.getD x28.toNat dS_api_Candidate).Pattern)) fun y35 y36 => (if (y36 != 0) = true then (some (.inr (.inr y36))) else (some (.inl (i64.wrap (x28 + 1), i64.wrap (x29 + y35)))))) else none) else none) else (some (.inr (.inl x29)))
noncomputable def rl_ref33_Of_a4 (x24 : Int) (x25 : Int) (x39 : Int) : Option (S_api_Estimate × Int) := some ((⟨x24, x39, x25⟩ : S_api_Estimate), 0)
noncomputable def rl_ref33_Of_a5 (x40 : Int) : Option (S_api_Estimate × Int) := some ((⟨0, 0, 0⟩ : S_api_Estimate), x40)
noncomputable def rl_ref33_Of_a6 (p0 : S_em_model) (p2 : List S_api_Candidate) (x24 : Int) (x25 : Int) : Option (S_api_Estimate × Int) := bindE (loop (fun v : Int × Int => rl_ref33_Of_l3 p0 p2 v.1 v.2) (0, 0)) (fun t => rl_ref33_Of_a4 x24 x25 t) (fun t => rl_ref33_Of_a5 t)
noncomputable def rl_ref33_Of_a7 (x42 : Int) : Option (S_api_Estimate × Int) := some ((⟨0, 0, 0⟩ : S_api_Estimate), x42)
noncomputable def rl_ref33_Of_k1 (p0 : S_em_model) (p1 : List S_api_Candidate) (p2 : List S_api_Candidate) (x4 : Bool) : Option (S_api_Estimate × Int) := if x4 = true then (some ((⟨0, 0, 0⟩ : S_api_Estimate), 1)) else (bindE (loop (fun v : Int × Int × Int => rl_ref33_Of_l2 p0 p1 v.1 v.2.1 v.2.2) (0, 0, 0)) (fun t => rl_ref33_Of_a6 p0 p2 t.1 t.2) (fun t => rl_ref33_Of_a7 t))
noncomputable def rl_ref33_Of (p0 : S_em_model) (p1 : List S_api_Candidate) (p2 : List S_api_Candidate) : Option (S_api_Estimate × Int) := (rl_ref24_Check p0).bind fun y1 => (if (y1 != 0) = true then (some ((⟨0, 0, 0⟩ : S_api_Estimate), y1)) else (if (decide ((p1.length : Int) > 4096)) = true then (rl_ref33_Of_k1 p0 p1 p2 true) else (rl_ref33_Of_k1 p0 p1 p2 (decide ((p2.length : Int) > 4096)))))
set_option maxRecDepth 100000 in
theorem rl_ref33_Of_con (p0 : S_em_model) (p1 : List S_api_Candidate) (p2 : List S_api_Candidate) (r : S_api_Estimate × Int) (h : rl_ref33_Of p0 p1 p2 = some r) : Con Tryz.prog 12 [.agg [ci64 p0.Prior, cl 1 Ri64 p0.Match, cl 1 Ri64 p0.Random], vl 6 RS_api_Candidate p1, vl 6 RS_api_Candidate p2] [] (.tup [.agg [ci64 r.1.False, ci64 r.1.Missed, ci64 r.1.True], vi64 r.2]) [] := by
 refine con_of tt_ok1 0 Tryz.func12 (by kernel_rfl) rfl (by kernel_rfl) (fun base X _ => AW.post ?_)
 unfold rl_ref33_Of at h
 refine AW.sg tt_ok1 [(6, .c (.ptr 1 3 0 0)), (3, .c (.ptr 0 3 0 0))] [0, 1] [(1, .box 27 [ci64 0, ci64 0, ci64 0]), (0, .box 24 [ci64 p0.Prior, cl 1 Ri64 p0.Match, cl 1 Ri64 p0.Random])] 3 [] (by kernel_rfl) ?_
 refine AW.seq ?_
 obtain ⟨y1, e2, h⟩ := bnd_some h
 refine AW.sg tt_ok1 [(8, vi64 y1)] [] [] 5 [hn, hk (rl_ref24_Check_con p0 y1 e2)] (by kernel_rfl) ?_
 refine AW.sg tt_ok1 [(19, vb (y1 != 0))] [] [] 7 [] (by kernel_rfl) ?_
 refine AW.co h (by kernel_rfl) (fun c3 h => ?_) (fun c3 h => ?_)
 ·
  refine AW.sg tt_ok1 [(7, vi64 y1)] [1] [(1, .box 27 [ci64 0, ci64 0, ci64 0])] 11 [] (by kernel_rfl) ?_
  refine AW.ret (AW.tr ?_)
  obtain rfl := some_inj h
  exact fn0 (.inr rfl) [] 0 (.tup [.agg [ci64 0, ci64 0, ci64 0], vi64 y1]) (by kernel_rfl)
 ·
  refine AW.skip (AW.tn ?_)
  refine AW.seq (AW.seq ?_)
  refine AW.join (ι := Bool) (fun v => ⟨[(1, vl 6 RS_api_Candidate p1), (2, vl 6 RS_api_Candidate p2), (3, .c (.ptr 0 3 0 0)), (6, .c (.ptr 1 3 0 0)), (29, vb v)], [(0, .box 24 [ci64 p0.Prior, cl 1 Ri64 p0.Match, cl 1 Ri64 p0.Random]), (1, .box 27 [ci64 0, ci64 0, ci64 0])], 2⟩) (fun v : Bool => rl_ref33_Of_k1 p0 p1 p2 v = some r) (fun x4 h => ?_) ?_
  ·
   unfold rl_ref33_Of_k1 at h
   refine AW.tn ?_
   refine AW.co h (by kernel_rfl) (fun c5 h => ?_) (fun c5 h => ?_)
   ·
    refine AW.sg tt_ok1 [(7, vi64 1)] [1] [(1, .box 27 [ci64 0, ci64 0, ci64 0])] 5 [] (by kernel_rfl) ?_
    refine AW.ret (AW.tr ?_)
    obtain rfl := some_inj h
    exact fn0 (.inr rfl) [] 0 (.tup [.agg [ci64 0, ci64 0, ci64 0], vi64 1]) (by kernel_rfl)
   ·
    refine AW.skip (AW.tn ?_)
    refine AW.sg tt_ok1 [(9, .c (.ptr 2 3 0 0))] [2] [(2, .box 27 [ci64 0, ci64 0, ci64 0])] 3 [] (by kernel_rfl) ?_
    refine AW.seq ?_
    refine AW.sg tt_ok1 [(10, vi64 0)] [] [] 4 [] (by kernel_rfl) ?_
    refine AW.block ?_
    refine AW.lpE h (fun v => ⟨[(1, vl 6 RS_api_Candidate p1), (2, vl 6 RS_api_Candidate p2), (3, .c (.ptr 0 3 0 0)), (6, .c (.ptr 1 3 0 0)), (9, .c (.ptr 2 3 0 0)), (10, vi64 v.1)], [(0, .box 24 [ci64 p0.Prior, cl 1 Ri64 p0.Match, cl 1 Ri64 p0.Random]), (1, .box 27 [ci64 0, ci64 0, ci64 0]), (2, .box 27 [ci64 v.2.1, ci64 0, ci64 v.2.2])], 3⟩) (fun t => (.exit 0, ⟨[(2, vl 6 RS_api_Candidate p2), (3, .c (.ptr 0 3 0 0)), (6, .c (.ptr 1 3 0 0)), (9, .c (.ptr 2 3 0 0))], [(0, .box 24 [ci64 p0.Prior, cl 1 Ri64 p0.Match, cl 1 Ri64 p0.Random]), (1, .box 27 [ci64 0, ci64 0, ci64 0]), (2, .box 27 [ci64 t.1, ci64 0, ci64 t.2])], 3⟩)) (fun t => (.ret, ⟨[(6, .c (.ptr 0 3 0 0)), (7, vi64 t)], [(0, .box 27 [ci64 0, ci64 0, ci64 0])], 1⟩)) (conv_re [(0, 0), (1, 1), (2, 2)] (by kernel_rfl)) (fun _ => tv) (fun _ => tv) ?_ (fun t h => ?_) (fun x42 h => ?_)
    ·
     clear h
     intro v o h
     obtain ⟨x9, x10, x11⟩ := v
     replace h : rl_ref33_Of_l2 p0 p1 x9 x10 x11 = some o := h
     unfold rl_ref33_Of_l2 at h
     refine AW.seq ?_
     refine AW.sg tt_ok1 [(34, vb (decide (x9 < (p1.length : Int))))] [] [] 7 [] (by kernel_rfl) ?_
     refine AW.co h (by kernel_rfl) (fun c15 h => ?_) (fun c15 h => ?_)
     ·
      refine AW.skip (AW.tn ?_)
      refine AW.seq (AW.block ?_)
      obtain ⟨g16, g17, h⟩ := ifd h
      obtain ⟨y18, y19, e20, h⟩ := bind2_some h
      refine AW.sd tt_ok1 mo1 [] [(12, vi64 y19), (11, vi64 y18)] [] 18 [hn, hn, hn, hq g16 g17, hn, hn, hk (rl_ref24_Share_con p0 ((p1.getD x9.toNat dS_api_Candidate).Pattern) (y18, y19) e20)] (by kernel_rfl) ?_
      refine AW.seq ?_
      refine AW.sg tt_ok1 [(48, vb (y19 != 0))] [] [] 20 [] (by kernel_rfl) ?_
      refine AW.co h (by kernel_rfl) (fun c21 h => ?_) (fun c21 h => ?_)
      ·
       refine AW.sg tt_ok1 [(7, vi64 y19)] [1] [(1, .box 27 [ci64 0, ci64 0, ci64 0])] 24 [] (by kernel_rfl) ?_
       refine AW.ret (AW.tr ?_)
       refine AW.inBlock_ret (AW.tr ?_)
       exact lpo h rfl (conv_re [(0, 1)] (by kernel_rfl))
      ·
       refine AW.skip (AW.tn ?_)
       refine AW.sg tt_ok1 [] [2] [(2, .box 27 [ci64 x10, ci64 0, ci64 (i64.wrap (x11 + y18))])] 26 [] (by kernel_rfl) ?_
       obtain ⟨z22, n23, h⟩ := bnd_some h
       replace n23 := some_inj n23
       refine AW.rg tt_ok1 [] [2] [(2, .box 27 [ci64 z22, ci64 0, ci64 (i64.wrap (x11 + y18))])] 33 [] (by subst n23; kernel_rfl) ?_
       refine AW.inBlock_normal (AW.tn ?_)
       refine AW.rg tt_ok1 [(10, vi64 (i64.wrap (x9 + 1)))] [] [] 36 [] (by kernel_rfl) ?_
       exact lpn h (conv_re [(0, 0), (1, 1), (2, 2)] (by kernel_rfl))
     ·
      refine AW.exit (AW.thenQ_exit ?_)
      exact lpo h rfl (conv_re [(0, 0), (1, 1), (2, 2)] (by kernel_rfl))
    ·
     obtain ⟨x24, x25⟩ := t
     replace h : rl_ref33_Of_a6 p0 p2 x24 x25 = some r := h
     unfold rl_ref33_Of_a6 at h
     show (_ : Exit → St → Prop) (.exit 0) _
     refine AW.inBlock_hit (AW.tn (AW.seq ?_))
     refine AW.sg tt_ok1 [(13, vi64 0)] [] [] 4 [] (by kernel_rfl) ?_
     refine AW.block ?_
     refine AW.lpE h (fun v => ⟨[(2, vl 6 RS_api_Candidate p2), (3, .c (.ptr 0 3 0 0)), (6, .c (.ptr 1 3 0 0)), (9, .c (.ptr 2 3 0 0)), (13, vi64 v.1)], [(0, .box 24 [ci64 p0.Prior, cl 1 Ri64 p0.Match, cl 1 Ri64 p0.Random]), (1, .box 27 [ci64 0, ci64 0, ci64 0]), (2, .box 27 [ci64 x24, ci64 v.2, ci64 x25])], 3⟩) (fun t => (.exit 2, ⟨[(6, .c (.ptr 0 3 0 0)), (9, .c (.ptr 1 3 0 0))], [(0, .box 27 [ci64 0, ci64 0, ci64 0]), (1, .box 27 [ci64 x24, ci64 t, ci64 x25])], 2⟩)) (fun t => (.ret, ⟨[(6, .c (.ptr 0 3 0 0)), (7, vi64 t)], [(0, .box 27 [ci64 0, ci64 0, ci64 0])], 1⟩)) (conv_re [(0, 0), (1, 1), (2, 2)] (by kernel_rfl)) (fun _ => tv) (fun _ => tv) ?_ (fun x39 h => ?_) (fun x40 h => ?_)
     ·
      clear h
      intro v o h
      obtain ⟨x28, x29⟩ := v
      replace h : rl_ref33_Of_l3 p0 p2 x28 x29 = some o := h
      unfold rl_ref33_Of_l3 at h
      refine AW.seq ?_
      refine AW.sg tt_ok1 [(65, vb (decide (x28 < (p2.length : Int))))] [] [] 7 [] (by kernel_rfl) ?_
      refine AW.co h (by kernel_rfl) (fun c32 h => ?_) (fun c32 h => ?_)
      ·
       refine AW.skip (AW.tn ?_)
       refine AW.seq (AW.block ?_)
       obtain ⟨g33, g34, h⟩ := ifd h
       obtain ⟨y35, y36, e37, h⟩ := bind2_some h
       refine AW.sd tt_ok1 mo1 [] [(15, vi64 y36), (14, vi64 y35)] [] 18 [hn, hn, hn, hq g33 g34, hn, hn, hk (rl_ref24_Share_con p0 ((p2.getD x28.toNat dS_api_Candidate).Pattern) (y35, y36) e37)] (by kernel_rfl) ?_
       refine AW.seq ?_
       refine AW.sg tt_ok1 [(79, vb (y36 != 0))] [] [] 20 [] (by kernel_rfl) ?_
       refine AW.co h (by kernel_rfl) (fun c38 h => ?_) (fun c38 h => ?_)
       ·
        refine AW.sg tt_ok1 [(7, vi64 y36)] [1] [(1, .box 27 [ci64 0, ci64 0, ci64 0])] 24 [] (by kernel_rfl) ?_
        refine AW.ret (AW.tr ?_)
        refine AW.inBlock_ret (AW.tr ?_)
        exact lpo h rfl (conv_re [(0, 1)] (by kernel_rfl))
       ·
        refine AW.skip (AW.tn ?_)
        refine AW.rg tt_ok1 [] [2] [(2, .box 27 [ci64 x24, ci64 (i64.wrap (x29 + y35)), ci64 x25])] 26 [] (by kernel_rfl) ?_
        refine AW.inBlock_normal (AW.tn ?_)
        refine AW.rg tt_ok1 [(13, vi64 (i64.wrap (x28 + 1)))] [] [] 29 [] (by kernel_rfl) ?_
        exact lpn h (conv_re [(0, 0), (1, 1), (2, 2)] (by kernel_rfl))
      ·
       refine AW.exit (AW.thenQ_exit ?_)
       exact lpo h rfl (conv_re [(0, 1), (1, 2)] (by kernel_rfl))
     ·
      unfold rl_ref33_Of_a4 at h
      show (_ : Exit → St → Prop) (.exit 2) _
      refine AW.inBlock_hit (AW.tn ?_)
      refine AW.sg tt_ok1 [(7, vi64 0)] [0] [(0, .box 27 [ci64 x24, ci64 x39, ci64 x25])] 5 [] (by kernel_rfl) ?_
      refine AW.ret ?_
      obtain rfl := some_inj h
      exact fn0 (.inr rfl) [] 0 (.tup [.agg [ci64 x24, ci64 x39, ci64 x25], vi64 0]) (by kernel_rfl)
     ·
      unfold rl_ref33_Of_a5 at h
      show (_ : Exit → St → Prop) (.ret) _
      refine AW.inBlock_ret (AW.tr ?_)
      obtain rfl := some_inj h
      exact fn0 (.inr rfl) [] 0 (.tup [.agg [ci64 0, ci64 0, ci64 0], vi64 x40]) (by kernel_rfl)
    ·
     unfold rl_ref33_Of_a7 at h
     show (_ : Exit → St → Prop) (.ret) _
     refine AW.inBlock_ret (AW.tr ?_)
     obtain rfl := some_inj h
     exact fn0 (.inr rfl) [] 0 (.tup [.agg [ci64 0, ci64 0, ci64 0], vi64 x42]) (by kernel_rfl)
  ·
   rcases ifs h with ⟨c44, h⟩ | ⟨c44, h⟩
   ·
    refine AW.rg tt_ok1 [(29, vb true)] [] [] 15 [hn, hn, ht c44] (by kernel_rfl) ?_
    exact jl true h (conv_re [(0, 0), (1, 1)] (by kernel_rfl))
   ·
    refine AW.rg tt_ok1 [(29, vb (decide ((p2.length : Int) > 4096)))] [] [] 15 [hn, hn, hf c44] (by kernel_rfl) ?_
    exact jl (decide ((p2.length : Int) > 4096)) h (conv_re [(0, 0), (1, 1)] (by kernel_rfl))
def ES_api_Estimate (x : S_api_Estimate) : List T := [.v (.int .i64 x.False), .v (.int .i64 x.Missed), .v (.int .i64 x.True)]
def RS_api_Estimate (xs : List S_api_Estimate) : Nat → Nat → T := rowL dS_api_Estimate ES_api_Estimate xs
theorem VS_api_Estimate : ∀ x, allV (ES_api_Estimate x) := fun _ => ⟨tv, tv, tv, tv⟩
/-! recordlink/recordlinkref33.Check -/
noncomputable def rl_ref33_Check_k1 (x1 : Bool) : Option Int := if x1 = true then (some 2) else (some 0)
noncomputable def rl_ref33_Check (p0 : S_api_Estimate) : Option Int := if (decide (p0.False < 0)) = true then (rl_ref33_Check_k1 true) else (if (decide (p0.False > 4398046511104)) = true then (rl_ref33_Check_k1 true) else (if (decide (p0.Missed < 0)) = true then (rl_ref33_Check_k1 true) else (if (decide (p0.Missed > 4398046511104)) = true then (rl_ref33_Check_k1 true) else (if (decide (p0.True < 0)) = true then (rl_ref33_Check_k1 true) else (rl_ref33_Check_k1 (decide (p0.True > 4398046511104)))))))
set_option maxRecDepth 100000 in
theorem rl_ref33_Check_con (p0 : S_api_Estimate) (r : Int) (h : rl_ref33_Check p0 = some r) : Con Tryz.prog 19 [.agg [ci64 p0.False, ci64 p0.Missed, ci64 p0.True]] [] (vi64 r) [] := by
 refine con_of tt_ok1 0 Tryz.func19 (by kernel_rfl) rfl (by kernel_rfl) (fun base X _ => AW.post ?_)
 unfold rl_ref33_Check at h
 refine AW.sg tt_ok1 [(1, .c (.ptr 0 3 0 0))] [0] [(0, .box 27 [ci64 p0.False, ci64 p0.Missed, ci64 p0.True])] 2 [] (by kernel_rfl) ?_
 refine AW.seq (AW.seq ?_)
 refine AW.join (ι := Bool) (fun v => ⟨[(30, vb v)], [], 0⟩) (fun v : Bool => rl_ref33_Check_k1 v = some r) (fun x1 h => ?_) ?_
 ·
  unfold rl_ref33_Check_k1 at h
  refine AW.tn ?_
  refine AW.co h (by kernel_rfl) (fun c2 h => ?_) (fun c2 h => ?_)
  ·
   refine AW.sg tt_ok1 [(2, vi64 2)] [] [] 1 [] (by kernel_rfl) ?_
   refine AW.ret (AW.tr ?_)
   obtain rfl := some_inj h
   exact fn0 (.inr rfl) [] 0 (vi64 2) (by kernel_rfl)
  ·
   refine AW.skip (AW.tn ?_)
   refine AW.sg tt_ok1 [(2, vi64 0)] [] [] 1 [] (by kernel_rfl) ?_
   refine AW.ret ?_
   obtain rfl := some_inj h
   exact fn0 (.inr rfl) [] 0 (vi64 0) (by kernel_rfl)
 ·
  rcases ifs h with ⟨c3, h⟩ | ⟨c3, h⟩
  ·
   refine AW.rg tt_ok1 [(30, vb true)] [] [] 30 [hn, hn, ht c3] (by kernel_rfl) ?_
   exact jl true h (conv_re [] (by kernel_rfl))
  ·
   rcases ifs h with ⟨c4, h⟩ | ⟨c4, h⟩
   ·
    refine AW.rg tt_ok1 [(30, vb true)] [] [] 30 [hn, hn, hf c3, hn, hn, hn, ht c4] (by kernel_rfl) ?_
    exact jl true h (conv_re [] (by kernel_rfl))
   ·
    rcases ifs h with ⟨c5, h⟩ | ⟨c5, h⟩
    ·
     refine AW.rg tt_ok1 [(30, vb true)] [] [] 30 [hn, hn, hf c3, hn, hn, hn, hf c4, hn, hn, hn, hn, ht c5] (by kernel_rfl) ?_
     exact jl true h (conv_re [] (by kernel_rfl))
    ·
     rcases ifs h with ⟨c6, h⟩ | ⟨c6, h⟩
     ·
      refine AW.rg tt_ok1 [(30, vb true)] [] [] 30 [hn, hn, hf c3, hn, hn, hn, hf c4, hn, hn, hn, hn, hf c5, hn, hn, hn, hn, ht c6] (by kernel_rfl) ?_
      exact jl true h (conv_re [] (by kernel_rfl))
     ·
      rcases ifs h with ⟨c7, h⟩ | ⟨c7, h⟩
      ·
       refine AW.rg tt_ok1 [(30, vb true)] [] [] 30 [hn, hn, hf c3, hn, hn, hn, hf c4, hn, hn, hn, hn, hf c5, hn, hn, hn, hn, hf c6, hn, hn, hn, hn, ht c7] (by kernel_rfl) ?_
       exact jl true h (conv_re [] (by kernel_rfl))
      ·
       refine AW.rg tt_ok1 [(30, vb (decide (p0.True > 4398046511104)))] [] [] 30 [hn, hn, hf c3, hn, hn, hn, hf c4, hn, hn, hn, hn, hf c5, hn, hn, hn, hn, hf c6, hn, hn, hn, hn, hf c7] (by kernel_rfl) ?_
       exact jl (decide (p0.True > 4398046511104)) h (conv_re [] (by kernel_rfl))
/-! recordlink/recordlinkref11.Of -/
noncomputable def rl_ref11_Of_k1 (p0 : Int) (p1 : Int) (x1 : Bool) : Option (S_api_Rational × Int) := if x1 = true then (some ((⟨([] : List Int), ([] : List Int)⟩ : S_api_Rational), 2)) else (bind2 (rl_ref10_FromInt p0) fun y3 y4 => (bind2 (rl_ref10_FromInt p1) fun y6 y7 => (bind2 (rl_ref11_Make y3 y6) fun y9 y10 => (some (y9, y10)))))
noncomputable def rl_ref11_Of (p0 : Int) (p1 : Int) : Option (S_api_Rational × Int) := if (decide (p0 < 0)) = true then (rl_ref11_Of_k1 p0 p1 true) else (rl_ref11_Of_k1 p0 p1 (decide (p1 < 0)))
set_option maxRecDepth 100000 in
theorem rl_ref11_Of_con (p0 : Int) (p1 : Int) (r : S_api_Rational × Int) (h : rl_ref11_Of p0 p1 = some r) : Con Tryz.prog 71 [vi64 p0, vi64 p1] [] (.tup [.agg [cl 1 Ru32 r.1.Num, cl 1 Ru32 r.1.Den], vi64 r.2]) [] := by
 refine con_of tt_ok1 0 Tryz.func71 (by kernel_rfl) rfl (by kernel_rfl) (fun base X _ => AW.post ?_)
 unfold rl_ref11_Of at h
 refine AW.sg tt_ok1 [(4, .c (.ptr 0 2 0 0))] [0] [(0, .box 44 [.t (.v (.slice none 0 0)), .t (.v (.slice none 0 0))])] 2 [] (by kernel_rfl) ?_
 refine AW.seq (AW.seq ?_)
 refine AW.join (ι := Bool) (fun v => ⟨[(0, vi64 p0), (1, vi64 p1), (4, .c (.ptr 0 2 0 0)), (15, vb v)], [(0, .box 44 [.t (.v (.slice none 0 0)), .t (.v (.slice none 0 0))])], 1⟩) (fun v : Bool => rl_ref11_Of_k1 p0 p1 v = some r) (fun x1 h => ?_) ?_
 ·
  unfold rl_ref11_Of_k1 at h
  refine AW.tn ?_
  refine AW.co h (by kernel_rfl) (fun c2 h => ?_) (fun c2 h => ?_)
  ·
   refine AW.sg tt_ok1 [(5, vi64 2)] [0] [(0, .box 44 [.t (.v (.slice none 0 0)), .t (.v (.slice none 0 0))])] 4 [] (by kernel_rfl) ?_
   refine AW.ret (AW.tr ?_)
   obtain rfl := some_inj h
   exact fnR (.inr rfl) [] 0 (.tup [.agg [cl 1 Ru32 ([] : List Int), cl 1 Ru32 ([] : List Int)], vi64 2]) (conv_box (id := 0) (ty := 44) (cs := [.t (.v (.slice none 0 0)), .t (.v (.slice none 0 0))]) (ds := [cl 1 Ru32 ([] : List Int), cl 1 Ru32 ([] : List Int)]) (by kernel_rfl) ⟨CLe.nil rfl, CLe.nil rfl, tv⟩) (by kernel_rfl)
  ·
   refine AW.skip (AW.tn ?_)
   obtain ⟨y3, y4, e5, h⟩ := bind2_some h
   refine AW.sg tt_ok1 [(6, vl 1 Ru32 y3)] [] [] 7 [hn, hk (rl_ref10_FromInt_con p0 (y3, y4) e5)] (by kernel_rfl) ?_
   obtain ⟨y6, y7, e8, h⟩ := bind2_some h
   refine AW.sg tt_ok1 [(8, vl 1 Ru32 y6)] [] [] 13 [hn, hk (rl_ref10_FromInt_con p1 (y6, y7) e8)] (by kernel_rfl) ?_
   obtain ⟨y9, y10, e11, h⟩ := bind2_some h
   refine AW.sg tt_ok1 [(5, vi64 y10)] [0] [(0, .box 44 [cl 1 Ru32 y9.Num, cl 1 Ru32 y9.Den])] 19 [hn, hn, hk (rl_ref11_Make_con y3 y6 (y9, y10) e11)] (by kernel_rfl) ?_
   refine AW.ret ?_
   obtain rfl := some_inj h
   exact fn0 (.inr rfl) [] 0 (.tup [.agg [cl 1 Ru32 y9.Num, cl 1 Ru32 y9.Den], vi64 y10]) (by kernel_rfl)
 ·
  rcases ifs h with ⟨c12, h⟩ | ⟨c12, h⟩
  ·
   refine AW.rg tt_ok1 [(15, vb true)] [] [] 8 [hn, ht c12] (by kernel_rfl) ?_
   exact jl true h (conv_re [(0, 0)] (by kernel_rfl))
  ·
   refine AW.rg tt_ok1 [(15, vb (decide (p1 < 0)))] [] [] 8 [hn, hf c12] (by kernel_rfl) ?_
   exact jl (decide (p1 < 0)) h (conv_re [(0, 0)] (by kernel_rfl))
/-! recordlink/recordlinkref33.part -/
noncomputable def rl_ref33_part (p0 : S_api_Estimate) (p1 : Int) (p2 : Int) : Option (S_api_Rational × Int) := (rl_ref33_Check p0).bind fun y1 => (if (y1 != 0) = true then (some ((⟨([] : List Int), ([] : List Int)⟩ : S_api_Rational), y1)) else (bind2 (rl_ref11_Of p1 (i64.wrap (p1 + p2))) fun y4 y5 => (some (y4, y5))))
set_option maxRecDepth 100000 in
theorem rl_ref33_part_con (p0 : S_api_Estimate) (p1 : Int) (p2 : Int) (r : S_api_Rational × Int) (h : rl_ref33_part p0 p1 p2 = some r) : Con Tryz.prog 44 [.agg [ci64 p0.False, ci64 p0.Missed, ci64 p0.True], vi64 p1, vi64 p2] [] (.tup [.agg [cl 1 Ru32 r.1.Num, cl 1 Ru32 r.1.Den], vi64 r.2]) [] := by
 refine con_of tt_ok1 0 Tryz.func44 (by kernel_rfl) rfl (by kernel_rfl) (fun base X _ => AW.post ?_)
 unfold rl_ref33_part at h
 refine AW.sg tt_ok1 [(6, .c (.ptr 1 2 0 0)), (3, .c (.ptr 0 3 0 0))] [0, 1] [(1, .box 44 [.t (.v (.slice none 0 0)), .t (.v (.slice none 0 0))]), (0, .box 27 [ci64 p0.False, ci64 p0.Missed, ci64 p0.True])] 3 [] (by kernel_rfl) ?_
 refine AW.seq ?_
 obtain ⟨y1, e2, h⟩ := bnd_some h
 refine AW.sg tt_ok1 [(8, vi64 y1)] [] [] 5 [hn, hk (rl_ref33_Check_con p0 y1 e2)] (by kernel_rfl) ?_
 refine AW.sg tt_ok1 [(12, vb (y1 != 0))] [] [] 7 [] (by kernel_rfl) ?_
 refine AW.co h (by kernel_rfl) (fun c3 h => ?_) (fun c3 h => ?_)
 ·
  refine AW.sg tt_ok1 [(7, vi64 y1)] [1] [(1, .box 44 [.t (.v (.slice none 0 0)), .t (.v (.slice none 0 0))])] 11 [] (by kernel_rfl) ?_
  refine AW.ret (AW.tr ?_)
  obtain rfl := some_inj h
  exact fnR (.inr rfl) [] 0 (.tup [.agg [cl 1 Ru32 ([] : List Int), cl 1 Ru32 ([] : List Int)], vi64 y1]) (conv_box (id := 1) (ty := 44) (cs := [.t (.v (.slice none 0 0)), .t (.v (.slice none 0 0))]) (ds := [cl 1 Ru32 ([] : List Int), cl 1 Ru32 ([] : List Int)]) (by kernel_rfl) ⟨CLe.nil rfl, CLe.nil rfl, tv⟩) (by kernel_rfl)
 ·
  refine AW.skip (AW.tn ?_)
  obtain ⟨y4, y5, e6, h⟩ := bind2_some h
  refine AW.sg tt_ok1 [(7, vi64 y5)] [1] [(1, .box 44 [cl 1 Ru32 y4.Num, cl 1 Ru32 y4.Den])] 15 [hn, hn, hn, hn, hk (rl_ref11_Of_con p1 (i64.wrap (p1 + p2)) (y4, y5) e6)] (by kernel_rfl) ?_
  refine AW.ret ?_
  obtain rfl := some_inj h
  exact fn0 (.inr rfl) [] 0 (.tup [.agg [cl 1 Ru32 y4.Num, cl 1 Ru32 y4.Den], vi64 y5]) (by kernel_rfl)
/-! recordlink/recordlinkref33.Precision -/
noncomputable def rl_ref33_Precision (p0 : S_api_Estimate) : Option (S_api_Rational × Int) := bind2 (rl_ref33_part p0 p0.True p0.False) fun y1 y2 => (some (y1, y2))
set_option maxRecDepth 100000 in
theorem rl_ref33_Precision_con (p0 : S_api_Estimate) (r : S_api_Rational × Int) (h : rl_ref33_Precision p0 = some r) : Con Tryz.prog 14 [.agg [ci64 p0.False, ci64 p0.Missed, ci64 p0.True]] [] (.tup [.agg [cl 1 Ru32 r.1.Num, cl 1 Ru32 r.1.Den], vi64 r.2]) [] := by
 refine con_of tt_ok1 0 Tryz.func14 (by kernel_rfl) rfl (by kernel_rfl) (fun base X _ => AW.post ?_)
 unfold rl_ref33_Precision at h
 refine AW.sg tt_ok1 [(2, .c (.ptr 1 2 0 0)), (1, .c (.ptr 0 3 0 0))] [0, 1] [(1, .box 44 [.t (.v (.slice none 0 0)), .t (.v (.slice none 0 0))]), (0, .box 27 [ci64 p0.False, ci64 p0.Missed, ci64 p0.True])] 3 [] (by kernel_rfl) ?_
 obtain ⟨y1, y2, e3, h⟩ := bind2_some h
 refine AW.sg tt_ok1 [(3, vi64 y2)] [1] [(1, .box 44 [cl 1 Ru32 y1.Num, cl 1 Ru32 y1.Den])] 12 [hn, hn, hn, hn, hn, hk (rl_ref33_part_con p0 p0.True p0.False (y1, y2) e3)] (by kernel_rfl) ?_
 refine AW.ret ?_
 obtain rfl := some_inj h
 exact fn0 (.inr rfl) [] 0 (.tup [.agg [cl 1 Ru32 y1.Num, cl 1 Ru32 y1.Den], vi64 y2]) (by kernel_rfl)
/-! recordlink/quality.Recall -/
noncomputable def quality_Recall (p0 : S_api_Estimate) : Option (S_api_Rational × Int) := bind2 (quality_part p0 p0.True p0.Missed) fun y1 y2 => (some (y1, y2))
set_option maxRecDepth 100000 in
theorem quality_Recall_con (p0 : S_api_Estimate) (r : S_api_Rational × Int) (h : quality_Recall p0 = some r) : Con Tryz.prog 15 [.agg [ci64 p0.False, ci64 p0.Missed, ci64 p0.True]] [] (.tup [.agg [cl 1 Ru32 r.1.Num, cl 1 Ru32 r.1.Den], vi64 r.2]) [] := by
 refine con_of tt_ok1 0 Tryz.func15 (by kernel_rfl) rfl (by kernel_rfl) (fun base X _ => AW.post ?_)
 unfold quality_Recall at h
 refine AW.sg tt_ok1 [(2, .c (.ptr 1 2 0 0)), (1, .c (.ptr 0 3 0 0))] [0, 1] [(1, .box 44 [.t (.v (.slice none 0 0)), .t (.v (.slice none 0 0))]), (0, .box 27 [ci64 p0.False, ci64 p0.Missed, ci64 p0.True])] 3 [] (by kernel_rfl) ?_
 obtain ⟨y1, y2, e3, h⟩ := bind2_some h
 refine AW.sg tt_ok1 [(3, vi64 y2)] [1] [(1, .box 44 [cl 1 Ru32 y1.Num, cl 1 Ru32 y1.Den])] 12 [hn, hn, hn, hn, hn, hk (quality_part_con p0 p0.True p0.Missed (y1, y2) e3)] (by kernel_rfl) ?_
 refine AW.ret ?_
 obtain rfl := some_inj h
 exact fn0 (.inr rfl) [] 0 (.tup [.agg [cl 1 Ru32 y1.Num, cl 1 Ru32 y1.Den], vi64 y2]) (by kernel_rfl)
/-! recordlink/recordlinkref33.Recall -/
noncomputable def rl_ref33_Recall (p0 : S_api_Estimate) : Option (S_api_Rational × Int) := bind2 (rl_ref33_part p0 p0.True p0.Missed) fun y1 y2 => (some (y1, y2))
set_option maxRecDepth 100000 in
theorem rl_ref33_Recall_con (p0 : S_api_Estimate) (r : S_api_Rational × Int) (h : rl_ref33_Recall p0 = some r) : Con Tryz.prog 16 [.agg [ci64 p0.False, ci64 p0.Missed, ci64 p0.True]] [] (.tup [.agg [cl 1 Ru32 r.1.Num, cl 1 Ru32 r.1.Den], vi64 r.2]) [] := by
 refine con_of tt_ok1 0 Tryz.func16 (by kernel_rfl) rfl (by kernel_rfl) (fun base X _ => AW.post ?_)
 unfold rl_ref33_Recall at h
 refine AW.sg tt_ok1 [(2, .c (.ptr 1 2 0 0)), (1, .c (.ptr 0 3 0 0))] [0, 1] [(1, .box 44 [.t (.v (.slice none 0 0)), .t (.v (.slice none 0 0))]), (0, .box 27 [ci64 p0.False, ci64 p0.Missed, ci64 p0.True])] 3 [] (by kernel_rfl) ?_
 obtain ⟨y1, y2, e3, h⟩ := bind2_some h
 refine AW.sg tt_ok1 [(3, vi64 y2)] [1] [(1, .box 44 [cl 1 Ru32 y1.Num, cl 1 Ru32 y1.Den])] 12 [hn, hn, hn, hn, hn, hk (rl_ref33_part_con p0 p0.True p0.Missed (y1, y2) e3)] (by kernel_rfl) ?_
 refine AW.ret ?_
 obtain rfl := some_inj h
 exact fn0 (.inr rfl) [] 0 (.tup [.agg [cl 1 Ru32 y1.Num, cl 1 Ru32 y1.Den], vi64 y2]) (by kernel_rfl)
/-! recordlink/recordlinkref11.Same -/
noncomputable def rl_ref11_Same_k1 (x1 : Bool) : Option Bool := some x1
noncomputable def rl_ref11_Same (p0 : S_api_Rational) (p1 : S_api_Rational) : Option Bool := (rl_ref10_Same p0.Num p1.Num).bind fun y2 => (if y2 = true then ((rl_ref10_Same p0.Den p1.Den).bind fun y5 => (rl_ref11_Same_k1 y5)) else (rl_ref11_Same_k1 false))
set_option maxRecDepth 100000 in
theorem rl_ref11_Same_con (p0 : S_api_Rational) (p1 : S_api_Rational) (r : Bool) (h : rl_ref11_Same p0 p1 = some r) : Con Tryz.prog 17 [.agg [cl 1 Ru32 p0.Num, cl 1 Ru32 p0.Den], .agg [cl 1 Ru32 p1.Num, cl 1 Ru32 p1.Den]] [] (vb r) [] := by
 refine con_of tt_ok1 0 Tryz.func17 (by kernel_rfl) rfl (by kernel_rfl) (fun base X _ => AW.post ?_)
 unfold rl_ref11_Same at h
 refine AW.sg tt_ok1 [(3, .c (.ptr 1 2 0 0)), (2, .c (.ptr 0 2 0 0))] [0, 1] [(1, .box 44 [cl 1 Ru32 p1.Num, cl 1 Ru32 p1.Den]), (0, .box 44 [cl 1 Ru32 p0.Num, cl 1 Ru32 p0.Den])] 3 [] (by kernel_rfl) ?_
 refine AW.seq ?_
 refine AW.join (ι := Bool) (fun v => ⟨[(4, vb v)], [], 0⟩) (fun v : Bool => rl_ref11_Same_k1 v = some r) (fun x1 h => ?_) ?_
 ·
  unfold rl_ref11_Same_k1 at h
  refine AW.tn (AW.ret ?_)
  obtain rfl := some_inj h
  exact fn0 (.inr rfl) [] 0 (vb x1) (by kernel_rfl)
 ·
  obtain ⟨y2, e3, h⟩ := bnd_some h
  rcases ifs h with ⟨c4, hs⟩ | ⟨c4, hs⟩
  ·clear h; subst c4; have h := hs; clear hs
   obtain ⟨y5, e6, h⟩ := bnd_some h
   refine AW.rg tt_ok1 [(4, vb y5)] [] [] 14 [hn, hn, hn, hn, hk (rl_ref10_Same_con p0.Num p1.Num true e3), hn, hn, hn, hn, hn, hk (rl_ref10_Same_con p0.Den p1.Den y5 e6)] (by kernel_rfl) ?_
   exact jl y5 h (conv_re [] (by kernel_rfl))
  ·clear h; subst c4; have h := hs; clear hs
   refine AW.rg tt_ok1 [(4, vb false)] [] [] 15 [hn, hn, hn, hn, hk (rl_ref10_Same_con p0.Num p1.Num false e3)] (by kernel_rfl) ?_
   exact jl false h (conv_re [] (by kernel_rfl))
def Ea2i64 (x : List Int) : List T := [.v (.int .i64 (x.getD 0 0)), .v (.int .i64 (x.getD 1 0))]
def Ra2i64 (xs : List (List Int)) : Nat → Nat → T := rowL (List.replicate 2 (0 : Int)) Ea2i64 xs
theorem Va2i64 : ∀ x, allV (Ea2i64 x) := fun _ => ⟨tv, tv, tv⟩
/-! recordlink/recordlinkref33.Meets -/
noncomputable def rl_ref33_Meets_k2 (x6 : Bool) : Option (Bool × Int) := some (x6, 0)
noncomputable def rl_ref33_Meets_k1 (p0 : S_api_Estimate) (p1 : Int) (p2 : Int) (x4 : Bool) : Option (Bool × Int) := if x4 = true then (some (false, 2)) else (if (decide ((i64.wrap (1000 * p0.True)) ≥ (i64.wrap (p1 * (i64.wrap (p0.True + p0.False)))))) = true then (rl_ref33_Meets_k2 (decide ((i64.wrap (1000 * p0.True)) ≥ (i64.wrap (p2 * (i64.wrap (p0.True + p0.Missed))))))) else (rl_ref33_Meets_k2 false))
noncomputable def rl_ref33_Meets (p0 : S_api_Estimate) (p1 : Int) (p2 : Int) : Option (Bool × Int) := (rl_ref33_Check p0).bind fun y1 => (if (y1 != 0) = true then (some (false, y1)) else (if (decide (p1 < 0)) = true then (rl_ref33_Meets_k1 p0 p1 p2 true) else (if (decide (p1 > 1000)) = true then (rl_ref33_Meets_k1 p0 p1 p2 true) else (if (decide (p2 < 0)) = true then (rl_ref33_Meets_k1 p0 p1 p2 true) else (rl_ref33_Meets_k1 p0 p1 p2 (decide (p2 > 1000)))))))
set_option maxRecDepth 100000 in
theorem rl_ref33_Meets_con (p0 : S_api_Estimate) (p1 : Int) (p2 : Int) (r : Bool × Int) (h : rl_ref33_Meets p0 p1 p2 = some r) : Con Tryz.prog 21 [.agg [ci64 p0.False, ci64 p0.Missed, ci64 p0.True], vi64 p1, vi64 p2] [] (.tup [vb r.1, vi64 r.2]) [] := by
 refine con_of tt_ok1 0 Tryz.func21 (by kernel_rfl) rfl (by kernel_rfl) (fun base X _ => AW.post ?_)
 unfold rl_ref33_Meets at h
 refine AW.sg tt_ok1 [(3, .c (.ptr 0 3 0 0))] [0] [(0, .box 27 [ci64 p0.False, ci64 p0.Missed, ci64 p0.True])] 3 [] (by kernel_rfl) ?_
 refine AW.seq ?_
 obtain ⟨y1, e2, h⟩ := bnd_some h
 refine AW.sg tt_ok1 [(8, vi64 y1)] [] [] 5 [hn, hk (rl_ref33_Check_con p0 y1 e2)] (by kernel_rfl) ?_
 refine AW.sg tt_ok1 [(12, vb (y1 != 0))] [] [] 7 [] (by kernel_rfl) ?_
 refine AW.co h (by kernel_rfl) (fun c3 h => ?_) (fun c3 h => ?_)
 ·
  refine AW.sg tt_ok1 [(7, vi64 y1), (6, vb false)] [] [] 10 [] (by kernel_rfl) ?_
  refine AW.ret (AW.tr ?_)
  obtain rfl := some_inj h
  exact fn0 (.inr rfl) [] 0 (.tup [vb false, vi64 y1]) (by kernel_rfl)
 ·
  refine AW.skip (AW.tn ?_)
  refine AW.seq (AW.seq ?_)
  refine AW.join (ι := Bool) (fun v => ⟨[(1, vi64 p1), (2, vi64 p2), (3, .c (.ptr 0 3 0 0)), (27, vb v)], [(0, .box 27 [ci64 p0.False, ci64 p0.Missed, ci64 p0.True])], 1⟩) (fun v : Bool => rl_ref33_Meets_k1 p0 p1 p2 v = some r) (fun x4 h => ?_) ?_
  ·
   unfold rl_ref33_Meets_k1 at h
   refine AW.tn ?_
   refine AW.co h (by kernel_rfl) (fun c5 h => ?_) (fun c5 h => ?_)
   ·
    refine AW.sg tt_ok1 [(7, vi64 2), (6, vb false)] [] [] 3 [] (by kernel_rfl) ?_
    refine AW.ret (AW.tr ?_)
    obtain rfl := some_inj h
    exact fn0 (.inr rfl) [] 0 (.tup [vb false, vi64 2]) (by kernel_rfl)
   ·
    refine AW.skip (AW.tn (AW.seq ?_))
    refine AW.join (ι := Bool) (fun v => ⟨[(6, vb v), (7, vi64 0)], [], 0⟩) (fun v : Bool => rl_ref33_Meets_k2 v = some r) (fun x6 h => ?_) ?_
    ·
     unfold rl_ref33_Meets_k2 at h
     refine AW.tn (AW.ret ?_)
     obtain rfl := some_inj h
     exact fn0 (.inr rfl) [] 0 (.tup [vb x6, vi64 0]) (by kernel_rfl)
    ·
     rcases ifs h with ⟨c7, h⟩ | ⟨c7, h⟩
     ·
      refine AW.rg tt_ok1 [(7, vi64 0), (6, vb (decide ((i64.wrap (1000 * p0.True)) ≥ (i64.wrap (p2 * (i64.wrap (p0.True + p0.Missed)))))))] [] [] 27 [hn, hn, hn, hn, hn, hn, hn, hn, hn, hn, ht c7] (by kernel_rfl) ?_
      exact jl (decide ((i64.wrap (1000 * p0.True)) ≥ (i64.wrap (p2 * (i64.wrap (p0.True + p0.Missed)))))) h (conv_re [] (by kernel_rfl))
     ·
      refine AW.rg tt_ok1 [(7, vi64 0), (6, vb false)] [] [] 27 [hn, hn, hn, hn, hn, hn, hn, hn, hn, hn, hf c7] (by kernel_rfl) ?_
      exact jl false h (conv_re [] (by kernel_rfl))
  ·
   rcases ifs h with ⟨c8, h⟩ | ⟨c8, h⟩
   ·
    refine AW.rg tt_ok1 [(27, vb true)] [] [] 21 [hn, ht c8] (by kernel_rfl) ?_
    exact jl true h (conv_re [(0, 0)] (by kernel_rfl))
   ·
    rcases ifs h with ⟨c9, h⟩ | ⟨c9, h⟩
    ·
     refine AW.rg tt_ok1 [(27, vb true)] [] [] 21 [hn, hf c8, hn, hn, ht c9] (by kernel_rfl) ?_
     exact jl true h (conv_re [(0, 0)] (by kernel_rfl))
    ·
     rcases ifs h with ⟨c10, h⟩ | ⟨c10, h⟩
     ·
      refine AW.rg tt_ok1 [(27, vb true)] [] [] 21 [hn, hf c8, hn, hn, hf c9, hn, hn, hn, ht c10] (by kernel_rfl) ?_
      exact jl true h (conv_re [(0, 0)] (by kernel_rfl))
     ·
      refine AW.rg tt_ok1 [(27, vb (decide (p2 > 1000)))] [] [] 21 [hn, hf c8, hn, hn, hf c9, hn, hn, hn, hf c10] (by kernel_rfl) ?_
      exact jl (decide (p2 > 1000)) h (conv_re [(0, 0)] (by kernel_rfl))
/-! recordlink/quality.Add -/
noncomputable def quality_Add (p0 : S_api_Estimate) (p1 : S_api_Estimate) : Option (S_api_Estimate × Int) := (quality_Check p0).bind fun y1 => (if (y1 != 0) = true then (some ((⟨0, 0, 0⟩ : S_api_Estimate), y1)) else ((quality_Check p1).bind fun y4 => (if (y4 != 0) = true then (some ((⟨0, 0, 0⟩ : S_api_Estimate), y4)) else ((quality_Check (⟨i64.wrap (p0.False + p1.False), i64.wrap (p0.Missed + p1.Missed), i64.wrap (p0.True + p1.True)⟩ : S_api_Estimate)).bind fun y7 => (if (y7 != 0) = true then (some ((⟨0, 0, 0⟩ : S_api_Estimate), 1)) else (some ((⟨i64.wrap (p0.False + p1.False), i64.wrap (p0.Missed + p1.Missed), i64.wrap (p0.True + p1.True)⟩ : S_api_Estimate), 0)))))))
set_option maxRecDepth 100000 in
theorem quality_Add_con (p0 : S_api_Estimate) (p1 : S_api_Estimate) (r : S_api_Estimate × Int) (h : quality_Add p0 p1 = some r) : Con Tryz.prog 22 [.agg [ci64 p0.False, ci64 p0.Missed, ci64 p0.True], .agg [ci64 p1.False, ci64 p1.Missed, ci64 p1.True]] [] (.tup [.agg [ci64 r.1.False, ci64 r.1.Missed, ci64 r.1.True], vi64 r.2]) [] := by
 refine con_of tt_ok1 0 Tryz.func22 (by kernel_rfl) rfl (by kernel_rfl) (fun base X _ => AW.post ?_)
 unfold quality_Add at h
 refine AW.sg tt_ok1 [(4, .c (.ptr 2 3 0 0)), (3, .c (.ptr 1 3 0 0)), (2, .c (.ptr 0 3 0 0))] [0, 1, 2] [(2, .box 27 [ci64 0, ci64 0, ci64 0]), (1, .box 27 [ci64 p1.False, ci64 p1.Missed, ci64 p1.True]), (0, .box 27 [ci64 p0.False, ci64 p0.Missed, ci64 p0.True])] 4 [] (by kernel_rfl) ?_
 refine AW.seq ?_
 obtain ⟨y1, e2, h⟩ := bnd_some h
 refine AW.sg tt_ok1 [(6, vi64 y1)] [] [] 6 [hn, hk (quality_Check_con p0 y1 e2)] (by kernel_rfl) ?_
 refine AW.sg tt_ok1 [(12, vb (y1 != 0))] [] [] 8 [] (by kernel_rfl) ?_
 refine AW.co h (by kernel_rfl) (fun c3 h => ?_) (fun c3 h => ?_)
 ·
  refine AW.sg tt_ok1 [(5, vi64 y1)] [2] [(2, .box 27 [ci64 0, ci64 0, ci64 0])] 12 [] (by kernel_rfl) ?_
  refine AW.ret (AW.tr ?_)
  obtain rfl := some_inj h
  exact fn0 (.inr rfl) [] 0 (.tup [.agg [ci64 0, ci64 0, ci64 0], vi64 y1]) (by kernel_rfl)
 ·
  refine AW.skip (AW.tn (AW.seq ?_))
  obtain ⟨y4, e5, h⟩ := bnd_some h
  refine AW.sg tt_ok1 [(7, vi64 y4)] [] [] 10 [hn, hk (quality_Check_con p1 y4 e5)] (by kernel_rfl) ?_
  refine AW.sg tt_ok1 [(18, vb (y4 != 0))] [] [] 12 [] (by kernel_rfl) ?_
  refine AW.co h (by kernel_rfl) (fun c6 h => ?_) (fun c6 h => ?_)
  ·
   refine AW.sg tt_ok1 [(5, vi64 y4)] [2] [(2, .box 27 [ci64 0, ci64 0, ci64 0])] 16 [] (by kernel_rfl) ?_
   refine AW.ret (AW.tr ?_)
   obtain rfl := some_inj h
   exact fn0 (.inr rfl) [] 0 (.tup [.agg [ci64 0, ci64 0, ci64 0], vi64 y4]) (by kernel_rfl)
  ·
   refine AW.skip (AW.tn ?_)
   refine AW.sg tt_ok1 [(8, .c (.ptr 28 3 0 0))] [28] [(28, .box 27 [ci64 (i64.wrap (p0.False + p1.False)), ci64 (i64.wrap (p0.Missed + p1.Missed)), ci64 (i64.wrap (p0.True + p1.True))])] 30 [] (by kernel_rfl) ?_
   refine AW.seq ?_
   obtain ⟨y7, e8, h⟩ := bnd_some h
   refine AW.sg tt_ok1 [(39, vb (y7 != 0))] [] [] 32 [hn, hk (quality_Check_con (⟨i64.wrap (p0.False + p1.False), i64.wrap (p0.Missed + p1.Missed), i64.wrap (p0.True + p1.True)⟩ : S_api_Estimate) y7 e8)] (by kernel_rfl) ?_
   refine AW.co h (by kernel_rfl) (fun c9 h => ?_) (fun c9 h => ?_)
   ·
    refine AW.sg tt_ok1 [(5, vi64 1)] [2] [(2, .box 27 [ci64 0, ci64 0, ci64 0])] 35 [] (by kernel_rfl) ?_
    refine AW.ret (AW.tr ?_)
    obtain rfl := some_inj h
    exact fn0 (.inr rfl) [] 0 (.tup [.agg [ci64 0, ci64 0, ci64 0], vi64 1]) (by kernel_rfl)
   ·
    refine AW.skip (AW.tn ?_)
    refine AW.sg tt_ok1 [(5, vi64 0)] [2] [(2, .box 27 [ci64 (i64.wrap (p0.False + p1.False)), ci64 (i64.wrap (p0.Missed + p1.Missed)), ci64 (i64.wrap (p0.True + p1.True))])] 35 [] (by kernel_rfl) ?_
    refine AW.ret ?_
    obtain rfl := some_inj h
    exact fn0 (.inr rfl) [] 0 (.tup [.agg [ci64 (i64.wrap (p0.False + p1.False)), ci64 (i64.wrap (p0.Missed + p1.Missed)), ci64 (i64.wrap (p0.True + p1.True))], vi64 0]) (by kernel_rfl)
/-! recordlink/recordlinkref33.Add -/
noncomputable def rl_ref33_Add (p0 : S_api_Estimate) (p1 : S_api_Estimate) : Option (S_api_Estimate × Int) := (rl_ref33_Check p0).bind fun y1 => (if (y1 != 0) = true then (some ((⟨0, 0, 0⟩ : S_api_Estimate), y1)) else ((rl_ref33_Check p1).bind fun y4 => (if (y4 != 0) = true then (some ((⟨0, 0, 0⟩ : S_api_Estimate), y4)) else ((rl_ref33_Check (⟨i64.wrap (p0.False + p1.False), i64.wrap (p0.Missed + p1.Missed), i64.wrap (p0.True + p1.True)⟩ : S_api_Estimate)).bind fun y7 => (if (y7 != 0) = true then (some ((⟨0, 0, 0⟩ : S_api_Estimate), 1)) else (some ((⟨i64.wrap (p0.False + p1.False), i64.wrap (p0.Missed + p1.Missed), i64.wrap (p0.True + p1.True)⟩ : S_api_Estimate), 0)))))))
set_option maxRecDepth 100000 in
theorem rl_ref33_Add_con (p0 : S_api_Estimate) (p1 : S_api_Estimate) (r : S_api_Estimate × Int) (h : rl_ref33_Add p0 p1 = some r) : Con Tryz.prog 23 [.agg [ci64 p0.False, ci64 p0.Missed, ci64 p0.True], .agg [ci64 p1.False, ci64 p1.Missed, ci64 p1.True]] [] (.tup [.agg [ci64 r.1.False, ci64 r.1.Missed, ci64 r.1.True], vi64 r.2]) [] := by
 refine con_of tt_ok1 0 Tryz.func23 (by kernel_rfl) rfl (by kernel_rfl) (fun base X _ => AW.post ?_)
 unfold rl_ref33_Add at h
 refine AW.sg tt_ok1 [(4, .c (.ptr 2 3 0 0)), (3, .c (.ptr 1 3 0 0)), (2, .c (.ptr 0 3 0 0))] [0, 1, 2] [(2, .box 27 [ci64 0, ci64 0, ci64 0]), (1, .box 27 [ci64 p1.False, ci64 p1.Missed, ci64 p1.True]), (0, .box 27 [ci64 p0.False, ci64 p0.Missed, ci64 p0.True])] 4 [] (by kernel_rfl) ?_
 refine AW.seq ?_
 obtain ⟨y1, e2, h⟩ := bnd_some h
 refine AW.sg tt_ok1 [(6, vi64 y1)] [] [] 6 [hn, hk (rl_ref33_Check_con p0 y1 e2)] (by kernel_rfl) ?_
 refine AW.sg tt_ok1 [(12, vb (y1 != 0))] [] [] 8 [] (by kernel_rfl) ?_
 refine AW.co h (by kernel_rfl) (fun c3 h => ?_) (fun c3 h => ?_)
 ·
  refine AW.sg tt_ok1 [(5, vi64 y1)] [2] [(2, .box 27 [ci64 0, ci64 0, ci64 0])] 12 [] (by kernel_rfl) ?_
  refine AW.ret (AW.tr ?_)
  obtain rfl := some_inj h
  exact fn0 (.inr rfl) [] 0 (.tup [.agg [ci64 0, ci64 0, ci64 0], vi64 y1]) (by kernel_rfl)
 ·
  refine AW.skip (AW.tn (AW.seq ?_))
  obtain ⟨y4, e5, h⟩ := bnd_some h
  refine AW.sg tt_ok1 [(7, vi64 y4)] [] [] 10 [hn, hk (rl_ref33_Check_con p1 y4 e5)] (by kernel_rfl) ?_
  refine AW.sg tt_ok1 [(18, vb (y4 != 0))] [] [] 12 [] (by kernel_rfl) ?_
  refine AW.co h (by kernel_rfl) (fun c6 h => ?_) (fun c6 h => ?_)
  ·
   refine AW.sg tt_ok1 [(5, vi64 y4)] [2] [(2, .box 27 [ci64 0, ci64 0, ci64 0])] 16 [] (by kernel_rfl) ?_
   refine AW.ret (AW.tr ?_)
   obtain rfl := some_inj h
   exact fn0 (.inr rfl) [] 0 (.tup [.agg [ci64 0, ci64 0, ci64 0], vi64 y4]) (by kernel_rfl)
  ·
   refine AW.skip (AW.tn ?_)
   refine AW.sg tt_ok1 [(8, .c (.ptr 28 3 0 0))] [28] [(28, .box 27 [ci64 (i64.wrap (p0.False + p1.False)), ci64 (i64.wrap (p0.Missed + p1.Missed)), ci64 (i64.wrap (p0.True + p1.True))])] 30 [] (by kernel_rfl) ?_
   refine AW.seq ?_
   obtain ⟨y7, e8, h⟩ := bnd_some h
   refine AW.sg tt_ok1 [(39, vb (y7 != 0))] [] [] 32 [hn, hk (rl_ref33_Check_con (⟨i64.wrap (p0.False + p1.False), i64.wrap (p0.Missed + p1.Missed), i64.wrap (p0.True + p1.True)⟩ : S_api_Estimate) y7 e8)] (by kernel_rfl) ?_
   refine AW.co h (by kernel_rfl) (fun c9 h => ?_) (fun c9 h => ?_)
   ·
    refine AW.sg tt_ok1 [(5, vi64 1)] [2] [(2, .box 27 [ci64 0, ci64 0, ci64 0])] 35 [] (by kernel_rfl) ?_
    refine AW.ret (AW.tr ?_)
    obtain rfl := some_inj h
    exact fn0 (.inr rfl) [] 0 (.tup [.agg [ci64 0, ci64 0, ci64 0], vi64 1]) (by kernel_rfl)
   ·
    refine AW.skip (AW.tn ?_)
    refine AW.sg tt_ok1 [(5, vi64 0)] [2] [(2, .box 27 [ci64 (i64.wrap (p0.False + p1.False)), ci64 (i64.wrap (p0.Missed + p1.Missed)), ci64 (i64.wrap (p0.True + p1.True))])] 35 [] (by kernel_rfl) ?_
    refine AW.ret ?_
    obtain rfl := some_inj h
    exact fn0 (.inr rfl) [] 0 (.tup [.agg [ci64 (i64.wrap (p0.False + p1.False)), ci64 (i64.wrap (p0.Missed + p1.Missed)), ci64 (i64.wrap (p0.True + p1.True))], vi64 0]) (by kernel_rfl)
end Go.Proofs.YtilpgjoidgfbiaaGreat
