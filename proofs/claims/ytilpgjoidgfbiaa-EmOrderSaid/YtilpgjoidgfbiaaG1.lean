/- Printed by a program of mine (vmgen.py): Go functions, and what they come to. -/
import Derived.Test.YtilpgjoidgfbiaaVr
import Derived.Test.YtilpgjoidgfbiaaRows
import Derived.Test.YtilpgjoidgfbiaaG0
namespace Go.Proofs.Ytilpgjoidgfbiaa
open Vm
open IntKind (i64 u64 u32 u8)
set_option maxHeartbeats 10000000
set_option linter.unusedVariables false
set_option linter.unusedSimpArgs false
set_option linter.constructorNameAsVariable false
def ttl1 : List (Nat × TI) := [(3, ⟨.int .i64, 1, 8, [.int .i64 0], false⟩), (4, ⟨.bool, 1, 1, [.bool false], false⟩), (5, ⟨.int .u8, 1, 1, [.int .u8 0], false⟩), (9, ⟨.str, 1, 16, [.string ⟨#[]⟩], false⟩), (22, ⟨.slice 3, 1, 24, [.slice none 0 0], false⟩), (23, ⟨.int .u16, 1, 2, [.int .u16 0], false⟩), (26, ⟨.ptr 72, 1, 8, [.pointer none], false⟩), (29, ⟨.slice 54, 1, 24, [.slice none 0 0], false⟩), (32, ⟨.struct [(3, 0), (22, 1), (22, 2)], 3, 56, [.int .i64 0, .slice none 0 0, .slice none 0 0], false⟩), (35, ⟨.struct [(3, 0), (3, 1), (3, 2)], 3, 24, [.int .i64 0, .int .i64 0, .int .i64 0], true⟩), (36, ⟨.int .i64, 1, 8, [.int .i64 0], false⟩), (42, ⟨.slice 69, 1, 24, [.slice none 0 0], false⟩), (44, ⟨.struct [(42, 0), (42, 1)], 2, 48, [.slice none 0 0, .slice none 0 0], false⟩), (52, ⟨.struct [(3, 0), (3, 1)], 2, 16, [.int .i64 0, .int .i64 0], true⟩), (54, ⟨.struct [(52, 0), (52, 2), (3, 4), (3, 5)], 6, 48, [.int .i64 0, .int .i64 0, .int .i64 0, .int .i64 0, .int .i64 0, .int .i64 0], true⟩), (69, ⟨.int .u32, 1, 4, [.int .u32 0], false⟩), (70, ⟨.int .u64, 1, 8, [.int .u64 0], false⟩), (72, ⟨.struct [(22, 0), (3, 1), (70, 2)], 3, 40, [.slice none 0 0, .int .i64 0, .int .u64 0], false⟩), (75, ⟨.slice 78, 1, 24, [.slice none 0 0], false⟩), (78, ⟨.struct [(52, 0), (52, 2), (3, 4)], 5, 40, [.int .i64 0, .int .i64 0, .int .i64 0, .int .i64 0, .int .i64 0], true⟩), (106, ⟨.struct [(3, 0), (22, 1), (22, 2)], 3, 56, [.int .i64 0, .slice none 0 0, .slice none 0 0], false⟩), (110, ⟨.struct [(3, 0), (3, 1), (3, 2), (3, 3)], 4, 32, [.int .i64 0, .int .i64 0, .int .i64 0, .int .i64 0], true⟩), (111, ⟨.slice 110, 1, 24, [.slice none 0 0], false⟩), (115, ⟨.arr 6 3, 6, 48, [.int .i64 0, .int .i64 0, .int .i64 0, .int .i64 0, .int .i64 0, .int .i64 0], true⟩), (121, ⟨.struct [(42, 0), (36, 1)], 2, 32, [.slice none 0 0, .int .i64 0], false⟩), (132, ⟨.slice 121, 1, 24, [.slice none 0 0], false⟩)]
theorem tt_ok1 : TTok Try.prog (Vm.look ttl1) := ttok_of ⟨⟨by kernel_rfl, by kernel_rfl, by kernel_rfl⟩, ⟨by kernel_rfl, by kernel_rfl, by kernel_rfl⟩, ⟨by kernel_rfl, by kernel_rfl, by kernel_rfl⟩, ⟨by kernel_rfl, by kernel_rfl, by kernel_rfl⟩, ⟨by kernel_rfl, by kernel_rfl, by kernel_rfl⟩, ⟨by kernel_rfl, by kernel_rfl, by kernel_rfl⟩, ⟨by kernel_rfl, by kernel_rfl, by kernel_rfl⟩, ⟨by kernel_rfl, by kernel_rfl, by kernel_rfl⟩, ⟨by kernel_rfl, by kernel_rfl, by kernel_rfl⟩, ⟨by kernel_rfl, by kernel_rfl, by kernel_rfl⟩, ⟨by kernel_rfl, by kernel_rfl, by kernel_rfl⟩, ⟨by kernel_rfl, by kernel_rfl, by kernel_rfl⟩, ⟨by kernel_rfl, by kernel_rfl, by kernel_rfl⟩, ⟨by kernel_rfl, by kernel_rfl, by kernel_rfl⟩, ⟨by kernel_rfl, by kernel_rfl, by kernel_rfl⟩, ⟨by kernel_rfl, by kernel_rfl, by kernel_rfl⟩, ⟨by kernel_rfl, by kernel_rfl, by kernel_rfl⟩, ⟨by kernel_rfl, by kernel_rfl, by kernel_rfl⟩, ⟨by kernel_rfl, by kernel_rfl, by kernel_rfl⟩, ⟨by kernel_rfl, by kernel_rfl, by kernel_rfl⟩, ⟨by kernel_rfl, by kernel_rfl, by kernel_rfl⟩, ⟨by kernel_rfl, by kernel_rfl, by kernel_rfl⟩, ⟨by kernel_rfl, by kernel_rfl, by kernel_rfl⟩, ⟨by kernel_rfl, by kernel_rfl, by kernel_rfl⟩, ⟨by kernel_rfl, by kernel_rfl, by kernel_rfl⟩, ⟨by kernel_rfl, by kernel_rfl, by kernel_rfl⟩, trivial⟩
theorem mo1 : Try.prog.follows .mixedOrders = true := by kernel_rfl
structure S_api_Bond where
 A : S_api_Ref
 B : S_api_Ref
 Weight : Int
def dS_api_Bond : S_api_Bond := ⟨dS_api_Ref, dS_api_Ref, 0⟩
instance : Inhabited S_api_Bond := ⟨dS_api_Bond⟩
def ES_api_Bond (x : S_api_Bond) : List T := [.v (.int .i64 x.A.Registry), .v (.int .i64 x.A.ID), .v (.int .i64 x.B.Registry), .v (.int .i64 x.B.ID), .v (.int .i64 x.Weight)]
def RS_api_Bond (xs : List S_api_Bond) : Nat → Nat → T := rowL dS_api_Bond ES_api_Bond xs
theorem VS_api_Bond : ∀ x, allV (ES_api_Bond x) := fun _ => ⟨tv, tv, tv, tv, tv, tv⟩
/-! recordlink/recordlinkplay.Bonds -/
noncomputable def rl_play_Bonds_k5 (x52 : Int) (x61 : List S_api_Bond) (x62 : List Int) (x63 : Int) (x64 : Int) : Option (((List S_api_Bond) × Int × (List Int) × Int × Int) ⊕ ((List S_api_Bond) × (List Int) × Int × Int)) := some (.inl (x61, i64.wrap (x52 + 1), x62, x63, x64))
noncomputable def rl_play_Bonds_l4 (p2 : Int) (p3 : Int) (x7 : Int) (x22 : Int) (x37 : Int) (x51 : List S_api_Bond) (x52 : Int) (x53 : List Int) (x54 : Int) (x55 : Int) : Option (((List S_api_Bond) × Int × (List Int) × Int × Int) ⊕ ((List S_api_Bond) × (List Int) × Int × Int)) := if (decide (x52 ≤ p2)) = true then (bind2 (rl_make_Deck_One (⟨x53, x54, x55⟩ : S_recordlinkmake_Deck) p3) fun y65 y66 => (if y65 = true then (bind2 (rl_make_Deck_Next y66 9) fun y69 y70 => (if x51.length + ([(⟨(⟨x7, x22⟩ : S_api_Ref), (⟨x37, x52⟩ : S_api_Ref), i64.wrap (1 + y69)⟩ : S_api_Bond)] : List S_api_Bond).length ≤ 1099511627776 then (rl_play_Bonds_k5 x52 (x51 ++ ([(⟨(⟨x7, x22⟩ : S_api_Ref), (⟨x37, x52⟩ : S_api_Ref), i64.wrap (1 + y69)⟩ : S_api_Bond)] : List S_api_Bond)) y70.list y70.at_ y70.state) else none)) else (rl_play_Bonds_k5 x52 x51 y66.list y66.at_ y66.state))) else (some (.inr (x51, x53, x54, x55)))
noncomputable def rl_play_Bonds_l3 (p1 : Int) (p2 : Int) (p3 : Int) (x7 : Int) (x22 : Int) (x36 : List S_api_Bond) (x37 : Int) (x38 : List Int) (x39 : Int) (x40 : Int) : Option (((List S_api_Bond) × Int × (List Int) × Int × Int) ⊕ ((List S_api_Bond) × (List Int) × Int × Int)) := if (decide (x37 < p1)) = true then (bind4 (loop (fun v : (List S_api_Bond) × Int × (List Int) × Int × Int => rl_play_Bonds_l4 p2 p3 x7 x22 x37 v.1 v.2.1 v.2.2.1 v.2.2.2.1 v.2.2.2.2) (x36, 1, x38, x39, x40)) fun x73 x74 x75 x76 => (some (.inl (x73, i64.wrap (x37 + 1), x74, x75, x76)))) else (some (.inr (x36, x38, x39, x40)))
noncomputable def rl_play_Bonds_l2 (p1 : Int) (p2 : Int) (p3 : Int) (x7 : Int) (x21 : List S_api_Bond) (x22 : Int) (x23 : List Int) (x24 : Int) (x25 : Int) : Option (((List S_api_Bond) × Int × (List Int) × Int × Int) ⊕ ((List S_api_Bond) × (List Int) × Int × Int)) := if (decide (x22 ≤ p2)) = true then (bind4 (loop (fun v : (List S_api_Bond) × Int × (List Int) × Int × Int => rl_play_Bonds_l3 p1 p2 p3 x7 x22 v.1 v.2.1 v.2.2.1 v.2.2.2.1 v.2.2.2.2) (x21, i64.wrap (x7 + 1), x23, x24, x25)) fun x78 x79 x80 x81 => (some (.inl (x78, i64.wrap (x22 + 1), x79, x80, x81)))) else (some (.inr (x21, x23, x24, x25)))
noncomputable def rl_play_Bonds_l1 (p1 : Int) (p2 : Int) (p3 : Int) (x6 : List S_api_Bond) (x7 : Int) (x8 : List Int) (x9 : Int) (x10 : Int) : Option (((List S_api_Bond) × Int × (List Int) × Int × Int) ⊕ ((List S_api_Bond) × (List Int) × Int × Int)) := if (decide (x7 < p1)) = true then (bind4 (loop (fun v : (List S_api_Bond) × Int × (List Int) × Int × Int => rl_play_Bonds_l2 p1 p2 p3 x7 v.1 v.2.1 v.2.2.1 v.2.2.2.1 v.2.2.2.2) (x6, 1, x8, x9, x10)) fun x83 x84 x85 x86 => (some (.inl (x83, i64.wrap (x7 + 1), x84, x85, x86)))) else (some (.inr (x6, x8, x9, x10)))
noncomputable def rl_play_Bonds (p0 : S_recordlinkmake_Deck) (p1 : Int) (p2 : Int) (p3 : Int) : Option ((List S_api_Bond) × S_recordlinkmake_Deck) := bind4 (loop (fun v : (List S_api_Bond) × Int × (List Int) × Int × Int => rl_play_Bonds_l1 p1 p2 p3 v.1 v.2.1 v.2.2.1 v.2.2.2.1 v.2.2.2.2) (([] : List S_api_Bond), 0, p0.list, p0.at_, p0.state)) fun x88 x89 x90 x91 => (some (x88, (⟨x89, x90, x91⟩ : S_recordlinkmake_Deck)))
set_option maxRecDepth 100000 in
theorem rl_play_Bonds_con (p0 : S_recordlinkmake_Deck) (p1 : Int) (p2 : Int) (p3 : Int) (r : (List S_api_Bond) × S_recordlinkmake_Deck) (h : rl_play_Bonds p0 p1 p2 p3 = some r) : Con Try.prog 34 [.c (.ptr 0 3 0 0), vi64 p1, vi64 p2, vi64 p3] [(0, .box 72 [cl 1 Ri64 p0.list, ci64 p0.at_, cu64 p0.state])] (.c (.ref 1 5 0 r.1.length)) [(0, .box 72 [cl 1 Ri64 r.2.list, ci64 r.2.at_, cu64 r.2.state]), (1, .row 78 false 5 r.1.length (RS_api_Bond r.1))] := by
 refine con_of tt_ok1 1 Try.func34 (by kernel_rfl) rfl (by kernel_rfl) (fun base X _ => AW.post ?_)
 unfold rl_play_Bonds at h
 refine AW.sg tt_ok1 [] [] [] 2 [] (by kernel_rfl) ?_
 refine AW.sg tt_ok1 [(9, .c (.t (.v (.slice none 0 0))))] [] [] 3 [] (by kernel_rfl) ?_
 refine AW.seq ?_
 refine AW.sg tt_ok1 [(10, vi64 0)] [] [] 4 [] (by kernel_rfl) ?_
 refine AW.block ?_
 obtain ⟨x88, x89, x90, x91, l92, h⟩ := bind4_some h
 refine AW.lp l92 (fun v => ⟨[(0, .c (.ptr 0 3 0 0)), (1, vi64 p1), (2, vi64 p2), (3, vi64 p3), (9, .c (.ref 1 5 0 v.1.length)), (10, vi64 v.2.1)], [(0, .box 72 [cl 1 Ri64 v.2.2.1, ci64 v.2.2.2.1, cu64 v.2.2.2.2]), (1, .row 78 false 5 v.1.length (RS_api_Bond v.1))], 2⟩) (fun t : (List S_api_Bond) × (List Int) × Int × Int => (.exit 0, ⟨[(9, .c (.ref 1 5 0 t.1.length))], [(0, .box 72 [cl 1 Ri64 t.2.1, ci64 t.2.2.1, cu64 t.2.2.2]), (1, .row 78 false 5 t.1.length (RS_api_Bond t.1))], 2⟩)) (Conv.trans (conv_adopt (t := 9) (ty := 78) (sz := 5) (n := ([] : List S_api_Bond).length) (f := RS_api_Bond ([] : List S_api_Bond)) (by kernel_rfl) rfl) (conv_re [(0, 0), (1, 4)] (by kernel_rfl))) (fun _ => tv) ?_ ?_
 ·
  clear l92 h
  intro v o h
  obtain ⟨x6, x7, x8, x9, x10⟩ := v
  replace h : rl_play_Bonds_l1 p1 p2 p3 x6 x7 x8 x9 x10 = some o := h
  unfold rl_play_Bonds_l1 at h
  refine AW.seq ?_
  refine AW.sg tt_ok1 [(16, vb (decide (x7 < p1)))] [] [] 5 [] (by kernel_rfl) ?_
  refine AW.co h (by kernel_rfl) (fun c15 h => ?_) (fun c15 h => ?_)
  ·
   refine AW.skip (AW.tn ?_)
   refine AW.seq (AW.block ?_)
   refine AW.sg tt_ok1 [(11, vi64 1)] [] [] 6 [] (by kernel_rfl) ?_
   refine AW.block ?_
   obtain ⟨x83, x84, x85, x86, l87, h⟩ := bind4_some h
   refine AW.lp l87 (fun v => ⟨[(0, .c (.ptr 0 3 0 0)), (1, vi64 p1), (2, vi64 p2), (3, vi64 p3), (9, .c (.ref 1 5 0 v.1.length)), (10, vi64 x7), (11, vi64 v.2.1)], [(0, .box 72 [cl 1 Ri64 v.2.2.1, ci64 v.2.2.2.1, cu64 v.2.2.2.2]), (1, .row 78 false 5 v.1.length (RS_api_Bond v.1))], 2⟩) (fun t : (List S_api_Bond) × (List Int) × Int × Int => (.exit 2, ⟨[(0, .c (.ptr 0 3 0 0)), (1, vi64 p1), (2, vi64 p2), (3, vi64 p3), (9, .c (.ref 1 5 0 t.1.length)), (10, vi64 x7)], [(0, .box 72 [cl 1 Ri64 t.2.1, ci64 t.2.2.1, cu64 t.2.2.2]), (1, .row 78 false 5 t.1.length (RS_api_Bond t.1))], 2⟩)) (conv_re [(0, 0), (1, 1)] (by kernel_rfl)) (fun _ => tv) ?_ ?_
   ·
    clear l87 h
    intro v o h
    obtain ⟨x21, x22, x23, x24, x25⟩ := v
    replace h : rl_play_Bonds_l2 p1 p2 p3 x7 x21 x22 x23 x24 x25 = some o := h
    unfold rl_play_Bonds_l2 at h
    refine AW.seq ?_
    refine AW.sg tt_ok1 [(21, vb (decide (x22 ≤ p2)))] [] [] 5 [] (by kernel_rfl) ?_
    refine AW.co h (by kernel_rfl) (fun c30 h => ?_) (fun c30 h => ?_)
    ·
     refine AW.skip (AW.tn ?_)
     refine AW.seq (AW.block ?_)
     refine AW.sg tt_ok1 [(12, vi64 (i64.wrap (x7 + 1)))] [] [] 8 [] (by kernel_rfl) ?_
     refine AW.block ?_
     obtain ⟨x78, x79, x80, x81, l82, h⟩ := bind4_some h
     refine AW.lp l82 (fun v => ⟨[(0, .c (.ptr 0 3 0 0)), (1, vi64 p1), (2, vi64 p2), (3, vi64 p3), (9, .c (.ref 1 5 0 v.1.length)), (10, vi64 x7), (11, vi64 x22), (12, vi64 v.2.1)], [(0, .box 72 [cl 1 Ri64 v.2.2.1, ci64 v.2.2.2.1, cu64 v.2.2.2.2]), (1, .row 78 false 5 v.1.length (RS_api_Bond v.1))], 2⟩) (fun t : (List S_api_Bond) × (List Int) × Int × Int => (.exit 4, ⟨[(0, .c (.ptr 0 3 0 0)), (1, vi64 p1), (2, vi64 p2), (3, vi64 p3), (9, .c (.ref 1 5 0 t.1.length)), (10, vi64 x7), (11, vi64 x22)], [(0, .box 72 [cl 1 Ri64 t.2.1, ci64 t.2.2.1, cu64 t.2.2.2]), (1, .row 78 false 5 t.1.length (RS_api_Bond t.1))], 2⟩)) (conv_re [(0, 0), (1, 1)] (by kernel_rfl)) (fun _ => tv) ?_ ?_
     ·
      clear l82 h
      intro v o h
      obtain ⟨x36, x37, x38, x39, x40⟩ := v
      replace h : rl_play_Bonds_l3 p1 p2 p3 x7 x22 x36 x37 x38 x39 x40 = some o := h
      unfold rl_play_Bonds_l3 at h
      refine AW.seq ?_
      refine AW.sg tt_ok1 [(28, vb (decide (x37 < p1)))] [] [] 5 [] (by kernel_rfl) ?_
      refine AW.co h (by kernel_rfl) (fun c45 h => ?_) (fun c45 h => ?_)
      ·
       refine AW.skip (AW.tn ?_)
       refine AW.seq (AW.block ?_)
       refine AW.sg tt_ok1 [(13, vi64 1)] [] [] 6 [] (by kernel_rfl) ?_
       refine AW.block ?_
       obtain ⟨x73, x74, x75, x76, l77, h⟩ := bind4_some h
       refine AW.lp l77 (fun v => ⟨[(0, .c (.ptr 0 3 0 0)), (1, vi64 p1), (2, vi64 p2), (3, vi64 p3), (9, .c (.ref 1 5 0 v.1.length)), (10, vi64 x7), (11, vi64 x22), (12, vi64 x37), (13, vi64 v.2.1)], [(0, .box 72 [cl 1 Ri64 v.2.2.1, ci64 v.2.2.2.1, cu64 v.2.2.2.2]), (1, .row 78 false 5 v.1.length (RS_api_Bond v.1))], 2⟩) (fun t : (List S_api_Bond) × (List Int) × Int × Int => (.exit 6, ⟨[(0, .c (.ptr 0 3 0 0)), (1, vi64 p1), (2, vi64 p2), (3, vi64 p3), (9, .c (.ref 1 5 0 t.1.length)), (10, vi64 x7), (11, vi64 x22), (12, vi64 x37)], [(0, .box 72 [cl 1 Ri64 t.2.1, ci64 t.2.2.1, cu64 t.2.2.2]), (1, .row 78 false 5 t.1.length (RS_api_Bond t.1))], 2⟩)) (conv_re [(0, 0), (1, 1)] (by kernel_rfl)) (fun _ => tv) ?_ ?_
       ·
        clear l77 h
        intro v o h
        obtain ⟨x51, x52, x53, x54, x55⟩ := v
        replace h : rl_play_Bonds_l4 p2 p3 x7 x22 x37 x51 x52 x53 x54 x55 = some o := h
        unfold rl_play_Bonds_l4 at h
        refine AW.seq ?_
        refine AW.sg tt_ok1 [(33, vb (decide (x52 ≤ p2)))] [] [] 5 [] (by kernel_rfl) ?_
        refine AW.co h (by kernel_rfl) (fun c60 h => ?_) (fun c60 h => ?_)
        ·
         refine AW.skip (AW.tn (AW.seq ?_))
         refine AW.join (ι := (List S_api_Bond) × (List Int) × Int × Int) (fun v => ⟨[(0, .c (.ptr 0 3 0 0)), (1, vi64 p1), (2, vi64 p2), (3, vi64 p3), (9, .c (.ref 1 5 0 v.1.length)), (10, vi64 x7), (11, vi64 x22), (12, vi64 x37), (13, vi64 x52)], [(0, .box 72 [cl 1 Ri64 v.2.1, ci64 v.2.2.1, cu64 v.2.2.2]), (1, .row 78 false 5 v.1.length (RS_api_Bond v.1))], 2⟩) (fun v : (List S_api_Bond) × (List Int) × Int × Int => rl_play_Bonds_k5 x52 v.1 v.2.1 v.2.2.1 v.2.2.2 = some o) (fun v h => ?_) ?_
         ·
          obtain ⟨x61, x62, x63, x64⟩ := v
          replace h : rl_play_Bonds_k5 x52 x61 x62 x63 x64 = some o := h
          unfold rl_play_Bonds_k5 at h
          refine AW.tn ?_
          refine AW.rg tt_ok1 [(13, vi64 (i64.wrap (x52 + 1)))] [] [] 5 [] (by kernel_rfl) ?_
          exact lpn h (conv_re [(0, 0), (1, 1)] (by kernel_rfl))
         ·
          refine AW.block ?_
          obtain ⟨y65, y66, e67, h⟩ := bind2_some h
          refine AW.sg tt_ok1 [(38, vb y65)] [0] [(0, .box 72 [cl 1 Ri64 y66.list, ci64 y66.at_, cu64 y66.state])] 7 [hn, hn, hl [0] [] 0 (rl_make_Deck_One_con (⟨x53, x54, x55⟩ : S_recordlinkmake_Deck) p3 (y65, y66) e67)] (by kernel_rfl) ?_
          refine AW.co h (by kernel_rfl) (fun c68 h => ?_) (fun c68 h => ?_)
          ·
           obtain ⟨y69, y70, e71, h⟩ := bind2_some h
           obtain ⟨g72, h⟩ := ifc h
           refine AW.rg tt_ok1 [(9, .c (.ref 18 5 0 ((x51 ++ ([(⟨(⟨x7, x22⟩ : S_api_Ref), (⟨x37, x52⟩ : S_api_Ref), i64.wrap (1 + y69)⟩ : S_api_Bond)] : List S_api_Bond)).length)))] [0, 1, 17, 18] [(18, .row 78 false 5 (x51 ++ ([(⟨(⟨x7, x22⟩ : S_api_Ref), (⟨x37, x52⟩ : S_api_Ref), i64.wrap (1 + y69)⟩ : S_api_Bond)] : List S_api_Bond)).length (RS_api_Bond (x51 ++ ([(⟨(⟨x7, x22⟩ : S_api_Ref), (⟨x37, x52⟩ : S_api_Ref), i64.wrap (1 + y69)⟩ : S_api_Bond)] : List S_api_Bond)))), (0, .box 72 [cl 1 Ri64 y70.list, ci64 y70.at_, cu64 y70.state])] 20 [hn, hn, hn, hn, hn, hn, hn, hn, hl [0] [] 0 (rl_make_Deck_Next_con y66 9 (y69, y70) e71), hn, hn, hlit dS_api_Bond ES_api_Bond 5 (fun _ => rfl) ([(⟨(⟨x7, x22⟩ : S_api_Ref), (⟨x37, x52⟩ : S_api_Ref), i64.wrap (1 + y69)⟩ : S_api_Bond)] : List S_api_Bond), happ dS_api_Bond ES_api_Bond 5 40 x51 ([(⟨(⟨x7, x22⟩ : S_api_Ref), (⟨x37, x52⟩ : S_api_Ref), i64.wrap (1 + y69)⟩ : S_api_Bond)] : List S_api_Bond) g72 (by decide)] (by kernel_rfl) ?_
           refine AW.inBlock_normal ?_
           exact jl ((x51 ++ ([(⟨(⟨x7, x22⟩ : S_api_Ref), (⟨x37, x52⟩ : S_api_Ref), i64.wrap (1 + y69)⟩ : S_api_Bond)] : List S_api_Bond)), y70.list, y70.at_, y70.state) h (conv_re [(0, 0), (1, 18)] (by kernel_rfl))
          ·
           refine AW.skip (AW.inBlock_normal ?_)
           exact jl (x51, y66.list, y66.at_, y66.state) h (conv_re [(0, 0), (1, 1)] (by kernel_rfl))
        ·
         refine AW.exit (AW.thenQ_exit ?_)
         exact lpo h rfl (conv_re [(0, 0), (1, 1)] (by kernel_rfl))
       ·
        show (_ : Exit → St → Prop) (.exit 6) _
        refine AW.inBlock_hit (AW.inBlock_normal (AW.tn ?_))
        refine AW.rg tt_ok1 [(12, vi64 (i64.wrap (x37 + 1)))] [] [] 5 [] (by kernel_rfl) ?_
        exact lpn h (conv_re [(0, 0), (1, 1)] (by kernel_rfl))
      ·
       refine AW.exit (AW.thenQ_exit ?_)
       exact lpo h rfl (conv_re [(0, 0), (1, 1)] (by kernel_rfl))
     ·
      show (_ : Exit → St → Prop) (.exit 4) _
      refine AW.inBlock_hit (AW.inBlock_normal (AW.tn ?_))
      refine AW.rg tt_ok1 [(11, vi64 (i64.wrap (x22 + 1)))] [] [] 5 [] (by kernel_rfl) ?_
      exact lpn h (conv_re [(0, 0), (1, 1)] (by kernel_rfl))
    ·
     refine AW.exit (AW.thenQ_exit ?_)
     exact lpo h rfl (conv_re [(0, 0), (1, 1)] (by kernel_rfl))
   ·
    show (_ : Exit → St → Prop) (.exit 2) _
    refine AW.inBlock_hit (AW.inBlock_normal (AW.tn ?_))
    refine AW.rg tt_ok1 [(10, vi64 (i64.wrap (x7 + 1)))] [] [] 5 [] (by kernel_rfl) ?_
    exact lpn h (conv_re [(0, 0), (1, 1)] (by kernel_rfl))
  ·
   refine AW.exit (AW.thenQ_exit ?_)
   exact lpo h rfl (conv_re [(0, 0), (1, 1)] (by kernel_rfl))
 ·
  show (_ : Exit → St → Prop) (.exit 0) _
  refine AW.inBlock_hit (AW.tn ?_)
  refine AW.sg tt_ok1 [(8, .c (.ref 1 5 0 x88.length))] [] [] 4 [] (by kernel_rfl) ?_
  refine AW.ret ?_
  obtain rfl := some_inj h
  exact fn0 (.inr rfl) [(0, 0), (1, 1)] 2 (.c (.ref 1 5 0 x88.length)) (by kernel_rfl)
/-! recordlink/recordlinkplay.Range -/
noncomputable def rl_play_Range (p0 : S_recordlinkmake_Deck) (p1 : Int) (p2 : Int) : Option (Int × S_recordlinkmake_Deck) := bind2 (rl_make_Deck_Next p0 (i64.wrap ((i64.wrap (p2 - p1)) + 1))) fun y1 y2 => (some (i64.wrap (p1 + y1), y2))
set_option maxRecDepth 100000 in
theorem rl_play_Range_con (p0 : S_recordlinkmake_Deck) (p1 : Int) (p2 : Int) (r : Int × S_recordlinkmake_Deck) (h : rl_play_Range p0 p1 p2 = some r) : Con Try.prog 35 [.c (.ptr 0 3 0 0), vi64 p1, vi64 p2] [(0, .box 72 [cl 1 Ri64 p0.list, ci64 p0.at_, cu64 p0.state])] (vi64 r.1) [(0, .box 72 [cl 1 Ri64 r.2.list, ci64 r.2.at_, cu64 r.2.state])] := by
 refine con_of tt_ok1 1 Try.func35 (by kernel_rfl) rfl (by kernel_rfl) (fun base X _ => AW.post ?_)
 unfold rl_play_Range at h
 refine AW.sg tt_ok1 [] [] [] 2 [] (by kernel_rfl) ?_
 obtain ⟨y1, y2, e3, h⟩ := bind2_some h
 refine AW.sg tt_ok1 [(6, vi64 (i64.wrap (p1 + y1)))] [0] [(0, .box 72 [cl 1 Ri64 y2.list, ci64 y2.at_, cu64 y2.state])] 10 [hn, hn, hn, hn, hn, hn, hl [0] [] 0 (rl_make_Deck_Next_con p0 (i64.wrap ((i64.wrap (p2 - p1)) + 1)) (y1, y2) e3)] (by kernel_rfl) ?_
 refine AW.ret ?_
 obtain rfl := some_inj h
 exact fn0 (.inr rfl) [(0, 0)] 1 (vi64 (i64.wrap (p1 + y1))) (by kernel_rfl)
/-! recordlink/recordlinkplay.Candidates -/
noncomputable def rl_play_Candidates_l1 (p1 : Int) (x3 : Int) (x4 : Int) : Option ((Int × Int) ⊕ Int) := if (decide (x4 < p1)) = true then (some (.inl (i64.wrap (x3 * 3), i64.wrap (x4 + 1)))) else (some (.inr x3))
noncomputable def rl_play_Candidates_l2 (x7 : Int) (y8 : List S_api_Bond) (x16 : List S_api_Candidate) (x17 : Int) (x18 : List Int) (x19 : Int) (x20 : Int) : Option (((List S_api_Candidate) × Int × (List Int) × Int × Int) ⊕ ((List S_api_Candidate) × (List Int) × Int × Int)) := if (decide (x17 < (y8.length : Int))) = true then (if 0 ≤ x17 then (if x17 < (y8.length : Int) then (bind2 (rl_make_Deck_Next (⟨x18, x19, x20⟩ : S_recordlinkmake_Deck) x7) fun y28 y29 => (bind2 (rl_play_Range y29 (-30) 90) fun y31 y32 => (if x16.length + ([(⟨((y8.getD (0 + x17.toNat) dS_api_Bond).A), ((y8.getD (0 + x17.toNat) dS_api_Bond).B), y28, y31⟩ : S_api_Candidate)] : List S_api_Candidate).length ≤ 1099511627776 then (some (.inl ((x16 ++ ([(⟨((y8.getD (0 + x17.toNat) dS_api_Bond).A), ((y8.getD (0 + x17.toNat) dS_api_Bond).B), y28, y31⟩ : S_api_Candidate)] : List S_api_Candidate)), i64.wrap (x17 + 1), y32.list, y32.at_, y32.state))) else none))) else none) else none) else (some (.inr (x16, x18, x19, x20)))
noncomputable def rl_play_Candidates (p0 : S_recordlinkmake_Deck) (p1 : Int) : Option ((List S_api_Candidate) × S_recordlinkmake_Deck) := (loop (fun v : Int × Int => rl_play_Candidates_l1 p1 v.1 v.2) (1, 0)).bind fun x7 => (bind2 (rl_play_Bonds p0 3 3 4) fun y8 y9 => (bind4 (loop (fun v : (List S_api_Candidate) × Int × (List Int) × Int × Int => rl_play_Candidates_l2 x7 y8 v.1 v.2.1 v.2.2.1 v.2.2.2.1 v.2.2.2.2) (([] : List S_api_Candidate), 0, y9.list, y9.at_, y9.state)) fun x35 x36 x37 x38 => (some (x35, (⟨x36, x37, x38⟩ : S_recordlinkmake_Deck)))))
set_option maxRecDepth 100000 in
theorem rl_play_Candidates_con (p0 : S_recordlinkmake_Deck) (p1 : Int) (r : (List S_api_Candidate) × S_recordlinkmake_Deck) (h : rl_play_Candidates p0 p1 = some r) : Con Try.prog 15 [.c (.ptr 0 3 0 0), vi64 p1] [(0, .box 72 [cl 1 Ri64 p0.list, ci64 p0.at_, cu64 p0.state])] (.c (.ref 1 6 0 r.1.length)) [(0, .box 72 [cl 1 Ri64 r.2.list, ci64 r.2.at_, cu64 r.2.state]), (1, .row 54 false 6 r.1.length (RS_api_Candidate r.1))] := by
 refine con_of tt_ok1 1 Try.func15 (by kernel_rfl) rfl (by kernel_rfl) (fun base X _ => AW.post ?_)
 unfold rl_play_Candidates at h
 refine AW.sg tt_ok1 [] [] [] 2 [] (by kernel_rfl) ?_
 refine AW.sg tt_ok1 [(5, vi64 1)] [] [] 3 [] (by kernel_rfl) ?_
 refine AW.seq ?_
 refine AW.sg tt_ok1 [(6, vi64 0)] [] [] 4 [] (by kernel_rfl) ?_
 refine AW.block ?_
 obtain ⟨x7, l40, h⟩ := bnd_some h
 refine AW.lp l40 (fun v => ⟨[(0, .c (.ptr 0 3 0 0)), (1, vi64 p1), (5, vi64 v.1), (6, vi64 v.2)], [(0, .box 72 [cl 1 Ri64 p0.list, ci64 p0.at_, cu64 p0.state])], 1⟩) (fun t : Int => (.exit 0, ⟨[(0, .c (.ptr 0 3 0 0)), (5, vi64 t)], [(0, .box 72 [cl 1 Ri64 p0.list, ci64 p0.at_, cu64 p0.state])], 1⟩)) (conv_re [(0, 0)] (by kernel_rfl)) (fun _ => tv) ?_ ?_
 ·
  clear l40 h
  intro v o h
  obtain ⟨x3, x4⟩ := v
  replace h : rl_play_Candidates_l1 p1 x3 x4 = some o := h
  unfold rl_play_Candidates_l1 at h
  refine AW.seq ?_
  refine AW.sg tt_ok1 [(12, vb (decide (x4 < p1)))] [] [] 4 [] (by kernel_rfl) ?_
  refine AW.co h (by kernel_rfl) (fun c6 h => ?_) (fun c6 h => ?_)
  ·
   refine AW.skip (AW.tn ?_)
   refine AW.seq (AW.block ?_)
   refine AW.rg tt_ok1 [(5, vi64 (i64.wrap (x3 * 3)))] [] [] 7 [] (by kernel_rfl) ?_
   refine AW.inBlock_normal (AW.tn ?_)
   refine AW.rg tt_ok1 [(6, vi64 (i64.wrap (x4 + 1)))] [] [] 10 [] (by kernel_rfl) ?_
   exact lpn h (conv_re [(0, 0)] (by kernel_rfl))
  ·
   refine AW.exit (AW.thenQ_exit ?_)
   exact lpo h rfl (conv_re [(0, 0)] (by kernel_rfl))
 ·
  show (_ : Exit → St → Prop) (.exit 0) _
  refine AW.inBlock_hit (AW.tn ?_)
  refine AW.sg tt_ok1 [(7, .c (.t (.v (.slice none 0 0))))] [] [] 2 [] (by kernel_rfl) ?_
  refine AW.seq ?_
  obtain ⟨y8, y9, e10, h⟩ := bind2_some h
  refine AW.sg tt_ok1 [(20, vi64 0), (19, vi64 (y8.length : Int)), (18, .c (.ref 3 5 0 y8.length))] [0, 3] [(0, .box 72 [cl 1 Ri64 y9.list, ci64 y9.at_, cu64 y9.state]), (3, .row 78 false 5 y8.length (RS_api_Bond y8))] 6 [hn, hl [0] [] 1 (rl_play_Bonds_con p0 3 3 4 (y8, y9) e10)] (by kernel_rfl) ?_
  refine AW.block ?_
  obtain ⟨x35, x36, x37, x38, l39, h⟩ := bind4_some h
  refine AW.lp l39 (fun v => ⟨[(0, .c (.ptr 0 3 0 0)), (5, vi64 x7), (7, .c (.ref 1 6 0 v.1.length)), (18, .c (.ref 2 5 0 y8.length)), (19, vi64 (y8.length : Int)), (20, vi64 v.2.1)], [(0, .box 72 [cl 1 Ri64 v.2.2.1, ci64 v.2.2.2.1, cu64 v.2.2.2.2]), (1, .row 54 false 6 v.1.length (RS_api_Candidate v.1)), (2, .row 78 false 5 y8.length (RS_api_Bond y8))], 3⟩) (fun t : (List S_api_Candidate) × (List Int) × Int × Int => (.exit 2, ⟨[(7, .c (.ref 1 6 0 t.1.length))], [(0, .box 72 [cl 1 Ri64 t.2.1, ci64 t.2.2.1, cu64 t.2.2.2]), (1, .row 54 false 6 t.1.length (RS_api_Candidate t.1))], 2⟩)) (Conv.trans (conv_adopt (t := 7) (ty := 54) (sz := 6) (n := ([] : List S_api_Candidate).length) (f := RS_api_Candidate ([] : List S_api_Candidate)) (by kernel_rfl) rfl) (conv_re [(0, 0), (1, 6), (2, 3)] (by kernel_rfl))) (fun _ => tv) ?_ ?_
  ·
   clear l39 h
   intro v o h
   obtain ⟨x16, x17, x18, x19, x20⟩ := v
   replace h : rl_play_Candidates_l2 x7 y8 x16 x17 x18 x19 x20 = some o := h
   unfold rl_play_Candidates_l2 at h
   refine AW.sg tt_ok1 [(21, vb (decide (x17 < (y8.length : Int))))] [] [] 4 [] (by kernel_rfl) ?_
   refine AW.seq ?_
   refine AW.co h (by kernel_rfl) (fun c25 h => ?_) (fun c25 h => ?_)
   ·
    refine AW.skip (AW.tn ?_)
    refine AW.seq (AW.block ?_)
    obtain ⟨g26, g27, h⟩ := ifd h
    refine AW.sg tt_ok1 [(9, .c (.ptr 6 5 0 0))] [6] [(6, .box 78 [ci64 (((y8.getD (0 + x17.toNat) dS_api_Bond).A).Registry), ci64 (((y8.getD (0 + x17.toNat) dS_api_Bond).A).ID), ci64 (((y8.getD (0 + x17.toNat) dS_api_Bond).B).Registry), ci64 (((y8.getD (0 + x17.toNat) dS_api_Bond).B).ID), ci64 ((y8.getD (0 + x17.toNat) dS_api_Bond).Weight)])] 8 [hq g26 g27, ho (p := (0 + x17.toNat) < y8.length) (by have h1 : 0 ≤ x17 := g26; have h2 : x17 < (y8.length : Int) := g27; omega)] (by kernel_rfl) ?_
    obtain ⟨y28, y29, e30, h⟩ := bind2_some h
    obtain ⟨y31, y32, e33, h⟩ := bind2_some h
    obtain ⟨g34, h⟩ := ifc h
    refine AW.rd tt_ok1 mo1 [[], [], [], [], [], [], [], [0], [], [0], [], [17], [18, 1]] [(7, .c (.ref 18 6 0 ((x16 ++ ([(⟨((y8.getD (0 + x17.toNat) dS_api_Bond).A), ((y8.getD (0 + x17.toNat) dS_api_Bond).B), y28, y31⟩ : S_api_Candidate)] : List S_api_Candidate)).length)))] [(18, .row 54 false 6 (x16 ++ ([(⟨((y8.getD (0 + x17.toNat) dS_api_Bond).A), ((y8.getD (0 + x17.toNat) dS_api_Bond).B), y28, y31⟩ : S_api_Candidate)] : List S_api_Candidate)).length (RS_api_Candidate (x16 ++ ([(⟨((y8.getD (0 + x17.toNat) dS_api_Bond).A), ((y8.getD (0 + x17.toNat) dS_api_Bond).B), y28, y31⟩ : S_api_Candidate)] : List S_api_Candidate)))), (0, .box 72 [cl 1 Ri64 y32.list, ci64 y32.at_, cu64 y32.state])] 20 [hn, hn, hn, hn, hn, hn, hn, hl [0] [] 0 (rl_make_Deck_Next_con (⟨x18, x19, x20⟩ : S_recordlinkmake_Deck) x7 (y28, y29) e30), hn, hl [0] [] 0 (rl_play_Range_con y29 (-30) 90 (y31, y32) e33), hn, hlit dS_api_Candidate ES_api_Candidate 6 (fun _ => rfl) ([(⟨((y8.getD (0 + x17.toNat) dS_api_Bond).A), ((y8.getD (0 + x17.toNat) dS_api_Bond).B), y28, y31⟩ : S_api_Candidate)] : List S_api_Candidate), happ dS_api_Candidate ES_api_Candidate 6 48 x16 ([(⟨((y8.getD (0 + x17.toNat) dS_api_Bond).A), ((y8.getD (0 + x17.toNat) dS_api_Bond).B), y28, y31⟩ : S_api_Candidate)] : List S_api_Candidate) g34 (by decide)] (by kernel_rfl) ?_
    refine AW.inBlock_normal (AW.tn ?_)
    refine AW.rg tt_ok1 [(20, vi64 (i64.wrap (x17 + 1)))] [] [] 22 [] (by kernel_rfl) ?_
    exact lpn h (conv_re [(0, 0), (1, 18), (2, 2)] (by kernel_rfl))
   ·
    refine AW.exit (AW.thenQ_exit ?_)
    exact lpo h rfl (conv_re [(0, 0), (1, 1)] (by kernel_rfl))
  ·
   show (_ : Exit → St → Prop) (.exit 2) _
   refine AW.inBlock_hit (AW.tn ?_)
   refine AW.sg tt_ok1 [(4, .c (.ref 1 6 0 x35.length))] [] [] 4 [] (by kernel_rfl) ?_
   refine AW.ret ?_
   obtain rfl := some_inj h
   exact fn0 (.inr rfl) [(0, 0), (1, 1)] 2 (.c (.ref 1 6 0 x35.length)) (by kernel_rfl)
/-! (*recordlink/recordlinkmake.Deck).Model -/
noncomputable def rl_make_Deck_Model_k2 (x10 : Int) (x22 : List Int) (x23 : Int) (x24 : Int) (x25 : List Int) (x26 : List Int) : Option ((Int × (List Int) × Int × Int × (List Int) × (List Int)) ⊕ ((List Int) × Int × Int × (List Int) × (List Int))) := some (.inl (i64.wrap (x10 + 1), x22, x23, x24, x25, x26))
noncomputable def rl_make_Deck_Model_l1 (p1 : Int) (x10 : Int) (x11 : List Int) (x12 : Int) (x13 : Int) (x14 : List Int) (x15 : List Int) : Option ((Int × (List Int) × Int × Int × (List Int) × (List Int)) ⊕ ((List Int) × Int × Int × (List Int) × (List Int))) := if (decide (x10 < p1)) = true then (bind2 (rl_make_Deck_Next (⟨x11, x12, x13⟩ : S_recordlinkmake_Deck) 32768) fun y27 y28 => (if x14.length + ([i64.wrap (32768 + y27)] : List Int).length ≤ 1099511627776 then (bind2 (rl_make_Deck_Next y28 32768) fun y31 y32 => (if x15.length + ([i64.wrap (1 + y31)] : List Int).length ≤ 1099511627776 then (bind2 (rl_make_Deck_One y32 6) fun y35 y36 => (if y35 = true then (bind2 (rl_make_Deck_Next y36 2) fun y39 y40 => (if 0 ≤ y39 then (if y39 < ((([1, 65535] : List Int).length : Nat) : Int) then (if 0 ≤ x10 then (if x10 < (((x14 ++ ([i64.wrap (32768 + y27)] : List Int)).length : Nat) : Int) then (rl_make_Deck_Model_k2 x10 y40.list y40.at_ y40.state ((x14 ++ ([i64.wrap (32768 + y27)] : List Int)).set (0 + x10.toNat) (([1, 65535] : List Int).getD (0 + y39.toNat) 0)) (x15 ++ ([i64.wrap (1 + y31)] : List Int))) else none) else none) else none) else none)) else (rl_make_Deck_Model_k2 x10 y36.list y36.at_ y36.state (x14 ++ ([i64.wrap (32768 + y27)] : List Int)) (x15 ++ ([i64.wrap (1 + y31)] : List Int))))) else none)) else none)) else (some (.inr (x11, x12, x13, x14, x15)))
noncomputable def rl_make_Deck_Model (p0 : S_recordlinkmake_Deck) (p1 : Int) : Option (S_em_model × S_recordlinkmake_Deck) := bind2 (rl_make_Deck_Next p0 65535) fun y1 y2 => (bind5 (loop (fun v : Int × (List Int) × Int × Int × (List Int) × (List Int) => rl_make_Deck_Model_l1 p1 v.1 v.2.1 v.2.2.1 v.2.2.2.1 v.2.2.2.2.1 v.2.2.2.2.2) (0, y2.list, y2.at_, y2.state, ([] : List Int), ([] : List Int))) fun x46 x47 x48 x49 x50 => (some ((⟨i64.wrap (1 + y1), x49, x50⟩ : S_em_model), (⟨x46, x47, x48⟩ : S_recordlinkmake_Deck))))
set_option maxRecDepth 100000 in
theorem rl_make_Deck_Model_con (p0 : S_recordlinkmake_Deck) (p1 : Int) (r : S_em_model × S_recordlinkmake_Deck) (h : rl_make_Deck_Model p0 p1 = some r) : Con Try.prog 16 [.c (.ptr 0 3 0 0), vi64 p1] [(0, .box 72 [cl 1 Ri64 p0.list, ci64 p0.at_, cu64 p0.state])] (.agg [ci64 r.1.Prior, .ref 1 1 0 r.1.Match.length, .ref 2 1 0 r.1.Random.length]) [(0, .box 72 [cl 1 Ri64 r.2.list, ci64 r.2.at_, cu64 r.2.state]), (1, .row 3 false 1 r.1.Match.length (Ri64 r.1.Match)), (2, .row 3 false 1 r.1.Random.length (Ri64 r.1.Random))] := by
 refine con_of tt_ok1 1 Try.func16 (by kernel_rfl) rfl (by kernel_rfl) (fun base X _ => AW.post ?_)
 unfold rl_make_Deck_Model at h
 refine AW.sg tt_ok1 [(4, .c (.ptr 1 3 0 0))] [1] [(1, .box 32 [ci64 0, .t (.v (.slice none 0 0)), .t (.v (.slice none 0 0))])] 2 [] (by kernel_rfl) ?_
 obtain ⟨y1, y2, e3, h⟩ := bind2_some h
 refine AW.sg tt_ok1 [(5, .c (.ptr 5 3 0 0))] [0, 5] [(5, .box 32 [ci64 (i64.wrap (1 + y1)), .t (.v (.slice none 0 0)), .t (.v (.slice none 0 0))]), (0, .box 72 [cl 1 Ri64 y2.list, ci64 y2.at_, cu64 y2.state])] 7 [hn, hl [0] [] 0 (rl_make_Deck_Next_con p0 65535 (y1, y2) e3)] (by kernel_rfl) ?_
 refine AW.seq ?_
 refine AW.sg tt_ok1 [(6, vi64 0)] [] [] 8 [] (by kernel_rfl) ?_
 refine AW.block ?_
 obtain ⟨x46, x47, x48, x49, x50, l51, h⟩ := bind5_some h
 refine AW.lp l51 (fun v => ⟨[(0, .c (.ptr 0 3 0 0)), (1, vi64 p1), (4, .c (.ptr 1 3 0 0)), (5, .c (.ptr 2 3 0 0)), (6, vi64 v.1)], [(0, .box 72 [cl 1 Ri64 v.2.1, ci64 v.2.2.1, cu64 v.2.2.2.1]), (1, .box 32 [ci64 0, .t (.v (.slice none 0 0)), .t (.v (.slice none 0 0))]), (2, .box 32 [ci64 (i64.wrap (1 + y1)), .ref 3 1 0 v.2.2.2.2.1.length, .ref 4 1 0 v.2.2.2.2.2.length]), (3, .row 3 false 1 v.2.2.2.2.1.length (Ri64 v.2.2.2.2.1)), (4, .row 3 false 1 v.2.2.2.2.2.length (Ri64 v.2.2.2.2.2))], 5⟩) (fun t : (List Int) × Int × Int × (List Int) × (List Int) => (.exit 0, ⟨[(4, .c (.ptr 1 3 0 0)), (5, .c (.ptr 2 3 0 0))], [(0, .box 72 [cl 1 Ri64 t.1, ci64 t.2.1, cu64 t.2.2.1]), (1, .box 32 [ci64 0, .t (.v (.slice none 0 0)), .t (.v (.slice none 0 0))]), (2, .box 32 [ci64 (i64.wrap (1 + y1)), .ref 3 1 0 t.2.2.2.1.length, .ref 4 1 0 t.2.2.2.2.length]), (3, .row 3 false 1 t.2.2.2.1.length (Ri64 t.2.2.2.1)), (4, .row 3 false 1 t.2.2.2.2.length (Ri64 t.2.2.2.2))], 5⟩)) (Conv.trans (conv_adoptB (id := 5) (ty0 := 32) (cs := [ci64 (i64.wrap (1 + y1)), .t (.v (.slice none 0 0)), .t (.v (.slice none 0 0))]) 1 (ty := 3) (sz := 1) (n := ([] : List Int).length) (f := Ri64 ([] : List Int)) (by kernel_rfl) (by kernel_rfl) rfl) (Conv.trans (conv_adoptB (id := 5) (ty0 := 32) (cs := [ci64 (i64.wrap (1 + y1)), .ref 8 1 0 (([] : List Int).length), .t (.v (.slice none 0 0))]) 2 (ty := 3) (sz := 1) (n := ([] : List Int).length) (f := Ri64 ([] : List Int)) (by kernel_rfl) (by kernel_rfl) rfl) (conv_re [(0, 0), (1, 1), (2, 5), (3, 8), (4, 9)] (by kernel_rfl)))) (fun _ => tv) ?_ ?_
 ·
  clear l51 h
  intro v o h
  obtain ⟨x10, x11, x12, x13, x14, x15⟩ := v
  replace h : rl_make_Deck_Model_l1 p1 x10 x11 x12 x13 x14 x15 = some o := h
  unfold rl_make_Deck_Model_l1 at h
  refine AW.seq ?_
  refine AW.sg tt_ok1 [(13, vb (decide (x10 < p1)))] [] [] 8 [] (by kernel_rfl) ?_
  refine AW.co h (by kernel_rfl) (fun c21 h => ?_) (fun c21 h => ?_)
  ·
   refine AW.skip (AW.tn (AW.seq ?_))
   refine AW.join (ι := (List Int) × Int × Int × (List Int) × (List Int)) (fun v => ⟨[(0, .c (.ptr 0 3 0 0)), (1, vi64 p1), (4, .c (.ptr 1 3 0 0)), (5, .c (.ptr 2 3 0 0)), (6, vi64 x10)], [(0, .box 72 [cl 1 Ri64 v.1, ci64 v.2.1, cu64 v.2.2.1]), (1, .box 32 [ci64 0, .t (.v (.slice none 0 0)), .t (.v (.slice none 0 0))]), (2, .box 32 [ci64 (i64.wrap (1 + y1)), .ref 3 1 0 v.2.2.2.1.length, .ref 4 1 0 v.2.2.2.2.length]), (3, .row 3 false 1 v.2.2.2.1.length (Ri64 v.2.2.2.1)), (4, .row 3 false 1 v.2.2.2.2.length (Ri64 v.2.2.2.2))], 5⟩) (fun v : (List Int) × Int × Int × (List Int) × (List Int) => rl_make_Deck_Model_k2 x10 v.1 v.2.1 v.2.2.1 v.2.2.2.1 v.2.2.2.2 = some o) (fun v h => ?_) ?_
   ·
    obtain ⟨x22, x23, x24, x25, x26⟩ := v
    replace h : rl_make_Deck_Model_k2 x10 x22 x23 x24 x25 x26 = some o := h
    unfold rl_make_Deck_Model_k2 at h
    refine AW.tn ?_
    refine AW.rg tt_ok1 [(6, vi64 (i64.wrap (x10 + 1)))] [] [] 8 [] (by kernel_rfl) ?_
    exact lpn h (conv_re [(0, 0), (1, 1), (2, 2), (3, 3), (4, 4)] (by kernel_rfl))
   ·
    refine AW.block ?_
    obtain ⟨y27, y28, e29, h⟩ := bind2_some h
    obtain ⟨g30, h⟩ := ifc h
    refine AW.sd tt_ok1 mo1 [[], [], [], [0], [], [12], [13, 3], [], [2]] [] [(2, .box 32 [ci64 (i64.wrap (1 + y1)), .ref 13 1 0 ((x14 ++ ([i64.wrap (32768 + y27)] : List Int)).length), .ref 4 1 0 x15.length]), (13, .row 3 false 1 (x14 ++ ([i64.wrap (32768 + y27)] : List Int)).length (Ri64 (x14 ++ ([i64.wrap (32768 + y27)] : List Int)))), (0, .box 72 [cl 1 Ri64 y28.list, ci64 y28.at_, cu64 y28.state])] 16 [hn, hn, hn, hl [0] [] 0 (rl_make_Deck_Next_con (⟨x11, x12, x13⟩ : S_recordlinkmake_Deck) 32768 (y27, y28) e29), hn, hlit 0 Ei64 1 (fun _ => rfl) ([i64.wrap (32768 + y27)] : List Int), happ 0 Ei64 1 8 x14 ([i64.wrap (32768 + y27)] : List Int) g30 (by decide)] (by kernel_rfl) ?_
    obtain ⟨y31, y32, e33, h⟩ := bind2_some h
    obtain ⟨g34, h⟩ := ifc h
    refine AW.sd tt_ok1 mo1 [[], [], [], [0], [], [20], [21, 4], [], [2]] [] [(2, .box 32 [ci64 (i64.wrap (1 + y1)), .ref 13 1 0 ((x14 ++ ([i64.wrap (32768 + y27)] : List Int)).length), .ref 21 1 0 ((x15 ++ ([i64.wrap (1 + y31)] : List Int)).length)]), (21, .row 3 false 1 (x15 ++ ([i64.wrap (1 + y31)] : List Int)).length (Ri64 (x15 ++ ([i64.wrap (1 + y31)] : List Int)))), (0, .box 72 [cl 1 Ri64 y32.list, ci64 y32.at_, cu64 y32.state])] 24 [hn, hn, hn, hl [0] [] 0 (rl_make_Deck_Next_con y28 32768 (y31, y32) e33), hn, hlit 0 Ei64 1 (fun _ => rfl) ([i64.wrap (1 + y31)] : List Int), happ 0 Ei64 1 8 x15 ([i64.wrap (1 + y31)] : List Int) g34 (by decide)] (by kernel_rfl) ?_
    obtain ⟨y35, y36, e37, h⟩ := bind2_some h
    refine AW.sg tt_ok1 [(33, vb y35)] [0] [(0, .box 72 [cl 1 Ri64 y36.list, ci64 y36.at_, cu64 y36.state])] 25 [hn, hl [0] [] 0 (rl_make_Deck_One_con y32 6 (y35, y36) e37)] (by kernel_rfl) ?_
    refine AW.co h (by kernel_rfl) (fun c38 h => ?_) (fun c38 h => ?_)
    ·
     obtain ⟨y39, y40, e41, h⟩ := bind2_some h
     obtain ⟨g42, g43, h⟩ := ifd h
     obtain ⟨g44, g45, h⟩ := ifd h
     refine AW.rd tt_ok1 mo1 [[], [], [], [28], [], [0], [], [], [], [13]] [] [(13, .row 3 false 1 (x14 ++ ([i64.wrap (32768 + y27)] : List Int)).length (Ri64 ((x14 ++ ([i64.wrap (32768 + y27)] : List Int)).set (0 + x10.toNat) (([1, 65535] : List Int).getD (0 + y39.toNat) 0)))), (0, .box 72 [cl 1 Ri64 y40.list, ci64 y40.at_, cu64 y40.state])] 34 [hn, hn, hn, hlit 0 Ei64 1 (fun _ => rfl) ([1, 65535] : List Int), hn, hl [0] [] 0 (rl_make_Deck_Next_con y36 2 (y39, y40) e41), hq g42 g43, ho (p := (0 + y39.toNat) < ([1, 65535] : List Int).length) (by have h1 : 0 ≤ y39 := g42; have h2 : y39 < ((([1, 65535] : List Int).length : Nat) : Int) := g43; omega), hq g44 g45, hset 0 Ei64 (x14 ++ ([i64.wrap (32768 + y27)] : List Int)) (0 + x10.toNat) (([1, 65535] : List Int).getD (0 + y39.toNat) 0) (n := (x14 ++ ([i64.wrap (32768 + y27)] : List Int)).length) (by have h1 : 0 ≤ x10 := g44; have h2 : x10 < (((x14 ++ ([i64.wrap (32768 + y27)] : List Int)).length : Nat) : Int) := g45; omega) rfl] (by kernel_rfl) ?_
     refine AW.inBlock_normal ?_
     exact jl (y40.list, y40.at_, y40.state, ((x14 ++ ([i64.wrap (32768 + y27)] : List Int)).set (0 + x10.toNat) (([1, 65535] : List Int).getD (0 + y39.toNat) 0)), (x15 ++ ([i64.wrap (1 + y31)] : List Int))) h (Conv.trans (conv_re (S' := ⟨[(0, .c (.ptr 0 3 0 0)), (1, vi64 p1), (4, .c (.ptr 1 3 0 0)), (5, .c (.ptr 2 3 0 0)), (6, vi64 x10)], [(13, .row 3 false 1 (x14 ++ ([i64.wrap (32768 + y27)] : List Int)).length (Ri64 ((x14 ++ ([i64.wrap (32768 + y27)] : List Int)).set (0 + x10.toNat) (([1, 65535] : List Int).getD (0 + y39.toNat) 0)))), (0, .box 72 [cl 1 Ri64 y40.list, ci64 y40.at_, cu64 y40.state]), (2, .box 32 [ci64 (i64.wrap (1 + y1)), .ref 13 1 0 ((x14 ++ ([i64.wrap (32768 + y27)] : List Int)).length), .ref 21 1 0 ((x15 ++ ([i64.wrap (1 + y31)] : List Int)).length)]), (21, .row 3 false 1 (x15 ++ ([i64.wrap (1 + y31)] : List Int)).length (Ri64 (x15 ++ ([i64.wrap (1 + y31)] : List Int)))), (1, .box 32 [ci64 0, .t (.v (.slice none 0 0)), .t (.v (.slice none 0 0))])], 34⟩) [(13, 13), (0, 0), (2, 2), (21, 21), (1, 1)] (by kernel_rfl)) (Conv.trans (conv_len (S' := ⟨[(0, .c (.ptr 0 3 0 0)), (1, vi64 p1), (4, .c (.ptr 1 3 0 0)), (5, .c (.ptr 2 3 0 0)), (6, vi64 x10)], [(13, .row 3 false 1 ((x14 ++ ([i64.wrap (32768 + y27)] : List Int)).set (0 + x10.toNat) (([1, 65535] : List Int).getD (0 + y39.toNat) 0)).length (Ri64 ((x14 ++ ([i64.wrap (32768 + y27)] : List Int)).set (0 + x10.toNat) (([1, 65535] : List Int).getD (0 + y39.toNat) 0)))), (0, .box 72 [cl 1 Ri64 y40.list, ci64 y40.at_, cu64 y40.state]), (2, .box 32 [ci64 (i64.wrap (1 + y1)), .ref 13 1 0 (((x14 ++ ([i64.wrap (32768 + y27)] : List Int)).set (0 + x10.toNat) (([1, 65535] : List Int).getD (0 + y39.toNat) 0)).length), .ref 21 1 0 ((x15 ++ ([i64.wrap (1 + y31)] : List Int)).length)]), (21, .row 3 false 1 (x15 ++ ([i64.wrap (1 + y31)] : List Int)).length (Ri64 (x15 ++ ([i64.wrap (1 + y31)] : List Int)))), (1, .box 32 [ci64 0, .t (.v (.slice none 0 0)), .t (.v (.slice none 0 0))])], 34⟩) (by simp only [List.length_set])) (conv_re [(0, 0), (1, 1), (2, 2), (3, 13), (4, 21)] (by kernel_rfl))))
    ·
     refine AW.skip (AW.inBlock_normal ?_)
     exact jl (y36.list, y36.at_, y36.state, (x14 ++ ([i64.wrap (32768 + y27)] : List Int)), (x15 ++ ([i64.wrap (1 + y31)] : List Int))) h (conv_re [(0, 0), (1, 1), (2, 2), (3, 13), (4, 21)] (by kernel_rfl))
  ·
   refine AW.exit (AW.thenQ_exit ?_)
   exact lpo h rfl (conv_re [(0, 0), (1, 1), (2, 2), (3, 3), (4, 4)] (by kernel_rfl))
 ·
  show (_ : Exit → St → Prop) (.exit 0) _
  refine AW.inBlock_hit (AW.tn ?_)
  refine AW.sg tt_ok1 [] [1] [(1, .box 32 [ci64 (i64.wrap (1 + y1)), .ref 3 1 0 x49.length, .ref 4 1 0 x50.length])] 7 [] (by kernel_rfl) ?_
  refine AW.ret ?_
  obtain rfl := some_inj h
  exact fn0 (.inr rfl) [(0, 0), (1, 3), (2, 4)] 3 (.agg [ci64 (i64.wrap (1 + y1)), .ref 3 1 0 x49.length, .ref 4 1 0 x50.length]) (by kernel_rfl)
/-! recordlink/recordlinkref10.trim -/
noncomputable def rl_ref10_trim_k2 (x2 : List Int) (x4 : Bool) : Option ((List Int) ⊕ (List Int)) := if x4 = true then (if 0 ≤ (i64.wrap ((x2.length : Int) - 1)) then (if ((i64.wrap ((x2.length : Int) - 1)).toNat) ≤ x2.length then (some (.inl (x2.take ((i64.wrap ((x2.length : Int) - 1)).toNat)))) else none) else none) else (some (.inr x2))
noncomputable def rl_ref10_trim_l1 (x2 : List Int) : Option ((List Int) ⊕ (List Int)) := if (decide ((x2.length : Int) > 0)) = true then (if 0 ≤ (i64.wrap ((x2.length : Int) - 1)) then (if (i64.wrap ((x2.length : Int) - 1)) < (x2.length : Int) then (rl_ref10_trim_k2 x2 ((x2.getD ((i64.wrap ((x2.length : Int) - 1)).toNat) 0) == 0)) else none) else none) else (rl_ref10_trim_k2 x2 false)
noncomputable def rl_ref10_trim (p0 : List Int) : Option (List Int) := (loop (fun v : List Int => rl_ref10_trim_l1 v) p0).bind fun x11 => (some x11)
set_option maxRecDepth 100000 in
theorem rl_ref10_trim_con (p0 : List Int) (r : List Int) (h : rl_ref10_trim p0 = some r) : Con Try.prog 61 [vl 1 Ru32 p0] [] (vl 1 Ru32 r) [] := by
 refine con_of tt_ok1 0 Try.func61 (by kernel_rfl) rfl (by kernel_rfl) (fun base X _ => AW.post ?_)
 unfold rl_ref10_trim at h
 refine AW.sg tt_ok1 [] [] [] 1 [] (by kernel_rfl) ?_
 refine AW.seq (AW.block ?_)
 obtain ⟨x11, l12, h⟩ := bnd_some h
 refine AW.lp l12 (fun v => ⟨[(0, vl 1 Ru32 v)], [], 0⟩) (fun t : List Int => (.exit 0, ⟨[(0, vl 1 Ru32 t)], [], 0⟩)) (conv_re [] (by kernel_rfl)) (fun _ => tv) ?_ ?_
 ·
  clear l12 h
  intro x2 o h
  unfold rl_ref10_trim_l1 at h
  refine AW.seq (AW.seq ?_)
  refine AW.join (ι := Bool) (fun v => ⟨[(0, vl 1 Ru32 x2), (14, vb v)], [], 0⟩) (fun v : Bool => rl_ref10_trim_k2 x2 v = some o) (fun x4 h => ?_) ?_
  ·
   unfold rl_ref10_trim_k2 at h
   refine AW.tn ?_
   refine AW.co h (by kernel_rfl) (fun c5 h => ?_) (fun c5 h => ?_)
   ·
    refine AW.skip (AW.tn (AW.block ?_))
    obtain ⟨g6, g7, h⟩ := ifd h
    refine AW.rg tt_ok1 [(0, .c (.t (.tree ((i64.wrap ((x2.length : Int) - 1)).toNat) 1 (Ru32 x2))))] [] [] 6 [hn, hn, hn, hn, ho (p := (True) ∧ (0 ≤ (i64.wrap ((x2.length : Int) - 1))) ∧ (0 ≤ ((i64.wrap ((x2.length : Int) - 1)).toNat)) ∧ (((i64.wrap ((x2.length : Int) - 1)).toNat) ≤ x2.length)) (⟨tv, g6, (Nat.zero_le _), g7⟩)] (by kernel_rfl) ?_
    refine AW.inBlock_normal ?_
    exact lpn h (Conv.trans (conv_tms [(0, vl 1 Ru32 (x2.take ((i64.wrap ((x2.length : Int) - 1)).toNat)))] ⟨⟨.c (.t (.tree ((i64.wrap ((x2.length : Int) - 1)).toNat) 1 (Ru32 x2))), by kernel_rfl, ALe.c (CAle.cle (CAle.tree (take_row (by omega))))⟩, tv⟩) (conv_re [] (by kernel_rfl)))
   ·
    refine AW.exit (AW.thenQ_exit ?_)
    exact lpo h rfl (conv_re [] (by kernel_rfl))
  ·
   rcases ifs h with ⟨c8, h⟩ | ⟨c8, h⟩
   ·
    obtain ⟨g9, g10, h⟩ := ifd h
    refine AW.rg tt_ok1 [(14, vb ((x2.getD ((i64.wrap ((x2.length : Int) - 1)).toNat) 0) == 0))] [] [] 12 [hn, hn, ht c8, hn, hn, hn, hn, hn, hq g9 g10] (by kernel_rfl) ?_
    exact jl ((x2.getD ((i64.wrap ((x2.length : Int) - 1)).toNat) 0) == 0) h (conv_re [] (by kernel_rfl))
   ·
    refine AW.rg tt_ok1 [(14, vb false)] [] [] 12 [hn, hn, hf c8] (by kernel_rfl) ?_
    exact jl false h (conv_re [] (by kernel_rfl))
 ·
  show (_ : Exit → St → Prop) (.exit 0) _
  refine AW.inBlock_hit (AW.tn ?_)
  refine AW.sg tt_ok1 [(2, vl 1 Ru32 x11)] [] [] 2 [] (by kernel_rfl) ?_
  refine AW.ret ?_
  obtain rfl := some_inj h
  exact fn0 (.inr rfl) [] 0 (vl 1 Ru32 x11) (by kernel_rfl)
/-! recordlink/recordlinkref10.FromInt -/
noncomputable def rl_ref10_FromInt (p0 : Int) : Option ((List Int) × Int) := if (decide (p0 < 0)) = true then (some (([] : List Int), 2)) else ((rl_ref10_trim ([u32.wrap p0, u32.wrap (ishr .i64 p0 32)] : List Int)).bind fun y2 => (some (y2, 0)))
set_option maxRecDepth 100000 in
theorem rl_ref10_FromInt_con (p0 : Int) (r : (List Int) × Int) (h : rl_ref10_FromInt p0 = some r) : Con Try.prog 41 [vi64 p0] [] (.tup [vl 1 Ru32 r.1, vi64 r.2]) [] := by
 refine con_of tt_ok1 0 Try.func41 (by kernel_rfl) rfl (by kernel_rfl) (fun base X _ => AW.post ?_)
 unfold rl_ref10_FromInt at h
 refine AW.sg tt_ok1 [] [] [] 2 [] (by kernel_rfl) ?_
 refine AW.seq ?_
 refine AW.sg tt_ok1 [(5, vb (decide (p0 < 0)))] [] [] 4 [] (by kernel_rfl) ?_
 refine AW.co h (by kernel_rfl) (fun c1 h => ?_) (fun c1 h => ?_)
 ·
  refine AW.sg tt_ok1 [(3, vi64 2), (2, .c (.t (.v (.slice none 0 0))))] [] [] 6 [] (by kernel_rfl) ?_
  refine AW.ret (AW.tr ?_)
  obtain rfl := some_inj h
  exact fnR (.inr rfl) [] 0 (.tup [vl 1 Ru32 ([] : List Int), vi64 2]) (conv_tms [(2, vl 1 Ru32 ([] : List Int))] ⟨⟨.c (.t (.v (.slice none 0 0))), by kernel_rfl, ALe.c (CLe.nil rfl)⟩, tv⟩) (by kernel_rfl)
 ·
  refine AW.skip (AW.tn ?_)
  obtain ⟨y2, e3, h⟩ := bnd_some h
  refine AW.sg tt_ok1 [(3, vi64 0), (2, vl 1 Ru32 y2)] [9] [] 12 [hn, hn, hn, ho (p := 0 ≤ (32 : Int)) (by decide), hn, hlit 0 Eu32 1 (fun _ => rfl) ([u32.wrap p0, u32.wrap (ishr .i64 p0 32)] : List Int), hg [] [9] false 0 (q := (0 + ([u32.wrap p0, u32.wrap (ishr .i64 p0 32)] : List Int).length ≤ ([u32.wrap p0, u32.wrap (ishr .i64 p0 32)] : List Int).length) ∧ (True)) ⟨le0, tv⟩ (a0 := [vl 1 Ru32 ([u32.wrap p0, u32.wrap (ishr .i64 p0 32)] : List Int)]) (rl_ref10_trim_con ([u32.wrap p0, u32.wrap (ishr .i64 p0 32)] : List Int) y2 e3) ⟨ArgLe.refl _, tv⟩ (fun h => by cases h)] (by kernel_rfl) ?_
  refine AW.ret ?_
  obtain rfl := some_inj h
  exact fn0 (.inr rfl) [] 0 (.tup [vl 1 Ru32 y2, vi64 0]) (by kernel_rfl)
/-! recordlink/recordlinkref10.Valid -/
noncomputable def rl_ref10_Valid_k1 (x1 : Bool) : Option Bool := some x1
noncomputable def rl_ref10_Valid (p0 : List Int) : Option Bool := if (decide ((p0.length : Int) ≤ 64)) = true then (if ((p0.length : Int) == 0) = true then (rl_ref10_Valid_k1 true) else (if 0 ≤ (i64.wrap ((p0.length : Int) - 1)) then (if (i64.wrap ((p0.length : Int) - 1)) < (p0.length : Int) then (rl_ref10_Valid_k1 ((p0.getD ((i64.wrap ((p0.length : Int) - 1)).toNat) 0) != 0)) else none) else none)) else (rl_ref10_Valid_k1 false)
set_option maxRecDepth 100000 in
theorem rl_ref10_Valid_con (p0 : List Int) (r : Bool) (h : rl_ref10_Valid p0 = some r) : Con Try.prog 62 [vl 1 Ru32 p0] [] (vb r) [] := by
 refine con_of tt_ok1 0 Try.func62 (by kernel_rfl) rfl (by kernel_rfl) (fun base X _ => AW.post ?_)
 unfold rl_ref10_Valid at h
 refine AW.sg tt_ok1 [] [] [] 1 [] (by kernel_rfl) ?_
 refine AW.seq ?_
 refine AW.join (ι := Bool) (fun v => ⟨[(2, vb v)], [], 0⟩) (fun v : Bool => rl_ref10_Valid_k1 v = some r) (fun x1 h => ?_) ?_
 ·
  unfold rl_ref10_Valid_k1 at h
  refine AW.tn (AW.ret ?_)
  obtain rfl := some_inj h
  exact fn0 (.inr rfl) [] 0 (vb x1) (by kernel_rfl)
 ·
  rcases ifs h with ⟨c2, h⟩ | ⟨c2, h⟩
  ·
   rcases ifs h with ⟨c3, h⟩ | ⟨c3, h⟩
   ·
    refine AW.rg tt_ok1 [(2, vb true)] [] [] 19 [hn, hn, ht c2, hn, hn, hn, ht c3] (by kernel_rfl) ?_
    exact jl true h (conv_re [] (by kernel_rfl))
   ·
    obtain ⟨g4, g5, h⟩ := ifd h
    refine AW.rg tt_ok1 [(2, vb ((p0.getD ((i64.wrap ((p0.length : Int) - 1)).toNat) 0) != 0))] [] [] 19 [hn, hn, ht c2, hn, hn, hn, hf c3, hn, hn, hn, hn, hn, hq g4 g5] (by kernel_rfl) ?_
    exact jl ((p0.getD ((i64.wrap ((p0.length : Int) - 1)).toNat) 0) != 0) h (conv_re [] (by kernel_rfl))
  ·
   refine AW.rg tt_ok1 [(2, vb false)] [] [] 19 [hn, hn, hf c2] (by kernel_rfl) ?_
   exact jl false h (conv_re [] (by kernel_rfl))
/-! recordlink/recordlinkref10.half -/
noncomputable def rl_ref10_half_k2 (x3 : List Int) (x4 : Int) (x9 : Int) : Option (((List Int) × Int) ⊕ (List Int)) := if x3.length + ([x9] : List Int).length ≤ 1099511627776 then (some (.inl ((x3 ++ ([x9] : List Int)), i64.wrap (x4 + 1)))) else none
noncomputable def rl_ref10_half_l1 (p0 : List Int) (x3 : List Int) (x4 : Int) : Option (((List Int) × Int) ⊕ (List Int)) := if (decide (x4 < (p0.length : Int))) = true then (if 0 ≤ x4 then (if x4 < (p0.length : Int) then (if (decide ((i64.wrap (x4 + 1)) < (p0.length : Int))) = true then (if 0 ≤ (i64.wrap (x4 + 1)) then (if (i64.wrap (x4 + 1)) < (p0.length : Int) then ((some (ior .u32 (ishr .u32 (p0.getD x4.toNat 0) 1) (ishl .u32 (p0.getD ((i64.wrap (x4 + 1)).toNat) 0) 31))).bind fun z14 => (rl_ref10_half_k2 x3 x4 z14)) else none) else none) else (rl_ref10_half_k2 x3 x4 (ishr .u32 (p0.getD x4.toNat 0) 1))) else none) else none) else (some (.inr x3))
noncomputable def rl_ref10_half (p0 : List Int) : Option (List Int) := (loop (fun v : (List Int) × Int => rl_ref10_half_l1 p0 v.1 v.2) (([] : List Int), 0)).bind fun x16 => ((rl_ref10_trim x16).bind fun y17 => (some y17))
set_option maxRecDepth 100000 in
theorem rl_ref10_half_con (p0 : List Int) (r : List Int) (h : rl_ref10_half p0 = some r) : Con Try.prog 83 [vl 1 Ru32 p0] [] (vl 1 Ru32 r) [] := by
 refine con_of tt_ok1 0 Try.func83 (by kernel_rfl) rfl (by kernel_rfl) (fun base X _ => AW.post ?_)
 unfold rl_ref10_half at h
 refine AW.sg tt_ok1 [] [] [] 1 [] (by kernel_rfl) ?_
 refine AW.sg tt_ok1 [(3, .c (.t (.v (.slice none 0 0))))] [] [] 2 [] (by kernel_rfl) ?_
 refine AW.seq ?_
 refine AW.sg tt_ok1 [(4, vi64 0)] [] [] 3 [] (by kernel_rfl) ?_
 refine AW.block ?_
 obtain ⟨x16, l19, h⟩ := bnd_some h
 refine AW.lp l19 (fun v => ⟨[(0, vl 1 Ru32 p0), (3, .c (.ref 0 1 0 v.1.length)), (4, vi64 v.2)], [(0, .row 69 false 1 v.1.length (Ru32 v.1))], 1⟩) (fun t : List Int => (.exit 0, ⟨[(3, .c (.ref 0 1 0 t.length))], [(0, .row 69 false 1 t.length (Ru32 t))], 1⟩)) (Conv.trans (conv_adopt (t := 3) (ty := 69) (sz := 1) (n := ([] : List Int).length) (f := Ru32 ([] : List Int)) (by kernel_rfl) rfl) (conv_re [(0, 3)] (by kernel_rfl))) (fun _ => tv) ?_ ?_
 ·
  clear l19 h
  intro v o h
  obtain ⟨x3, x4⟩ := v
  replace h : rl_ref10_half_l1 p0 x3 x4 = some o := h
  unfold rl_ref10_half_l1 at h
  refine AW.seq ?_
  refine AW.sg tt_ok1 [(9, vb (decide (x4 < (p0.length : Int))))] [] [] 5 [] (by kernel_rfl) ?_
  refine AW.co h (by kernel_rfl) (fun c6 h => ?_) (fun c6 h => ?_)
  ·
   refine AW.skip (AW.tn ?_)
   refine AW.seq (AW.block ?_)
   obtain ⟨g7, g8, h⟩ := ifd h
   refine AW.sg tt_ok1 [(5, vu32 (ishr .u32 (p0.getD x4.toNat 0) 1))] [] [] 11 [hn, hn, hq g7 g8, hn, ho (p := 0 ≤ (1 : Int)) (by decide)] (by kernel_rfl) ?_
   refine AW.seq ?_
   refine AW.join (ι := Int) (fun v => ⟨[(0, vl 1 Ru32 p0), (3, .c (.ref 0 1 0 x3.length)), (4, vi64 x4), (5, vu32 v)], [(0, .row 69 false 1 x3.length (Ru32 x3))], 1⟩) (fun v : Int => rl_ref10_half_k2 x3 x4 v = some o) (fun x9 h => ?_) ?_
   ·
    unfold rl_ref10_half_k2 at h
    refine AW.tn ?_
    obtain ⟨g10, h⟩ := ifc h
    refine AW.rg tt_ok1 [(3, .c (.ref 4 1 0 ((x3 ++ ([x9] : List Int)).length)))] [0, 3, 4] [(4, .row 69 false 1 (x3 ++ ([x9] : List Int)).length (Ru32 (x3 ++ ([x9] : List Int))))] 6 [hn, hn, hlit 0 Eu32 1 (fun _ => rfl) ([x9] : List Int), happ 0 Eu32 1 4 x3 ([x9] : List Int) g10 (by decide)] (by kernel_rfl) ?_
    refine AW.inBlock_normal (AW.tn ?_)
    refine AW.rg tt_ok1 [(4, vi64 (i64.wrap (x4 + 1)))] [] [] 9 [] (by kernel_rfl) ?_
    exact lpn h (conv_re [(0, 4)] (by kernel_rfl))
   ·
    refine AW.sg tt_ok1 [(21, vb (decide ((i64.wrap (x4 + 1)) < (p0.length : Int))))] [] [] 16 [] (by kernel_rfl) ?_
    refine AW.co h (by kernel_rfl) (fun c11 h => ?_) (fun c11 h => ?_)
    ·
     obtain ⟨g12, g13, h⟩ := ifd h
     obtain ⟨z14, n15, h⟩ := bnd_some h
     replace n15 := some_inj n15
     refine AW.rg tt_ok1 [(5, vu32 z14)] [] [] 25 [hn, hn, hn, hn, hq g12 g13, hn, ho (p := 0 ≤ (31 : Int)) (by decide)] (by subst n15; kernel_rfl) ?_
     exact jl z14 h (conv_re [(0, 0)] (by kernel_rfl))
    ·
     refine AW.skip ?_
     exact jl (ishr .u32 (p0.getD x4.toNat 0) 1) h (conv_re [(0, 0)] (by kernel_rfl))
  ·
   refine AW.exit (AW.thenQ_exit ?_)
   exact lpo h rfl (conv_re [(0, 0)] (by kernel_rfl))
 ·
  show (_ : Exit → St → Prop) (.exit 0) _
  refine AW.inBlock_hit (AW.tn ?_)
  obtain ⟨y17, e18, h⟩ := bnd_some h
  refine AW.sg tt_ok1 [(2, vl 1 Ru32 y17)] [0] [] 3 [hn, hg [] [0] false 0 (q := (0 + x16.length ≤ x16.length) ∧ (True)) ⟨le0, tv⟩ (a0 := [vl 1 Ru32 x16]) (rl_ref10_trim_con x16 y17 e18) ⟨ArgLe.refl _, tv⟩ (fun h => by cases h)] (by kernel_rfl) ?_
  refine AW.ret ?_
  obtain rfl := some_inj h
  exact fn0 (.inr rfl) [] 0 (vl 1 Ru32 y17) (by kernel_rfl)
/-! recordlink/recordlinkref10.Compare -/
noncomputable def rl_ref10_Compare_l1 (y1 : List Int) (y3 : List Int) (x8 : Int) : Option (Int ⊕ (Unit ⊕ Int)) := if (decide (x8 ≥ 0)) = true then (if 0 ≤ x8 then (if x8 < (y1.length : Int) then (if x8 < (y3.length : Int) then (if (decide ((y1.getD x8.toNat 0) < (y3.getD x8.toNat 0))) = true then (some (.inr (.inr (-1)))) else (if (decide ((y1.getD x8.toNat 0) > (y3.getD x8.toNat 0))) = true then (some (.inr (.inr 1))) else (some (.inl (i64.wrap (x8 - 1)))))) else none) else none) else none) else (some (.inr (.inl ())))
noncomputable def rl_ref10_Compare_a2 : Option Int := some 0
noncomputable def rl_ref10_Compare_a3 (x16 : Int) : Option Int := some x16
noncomputable def rl_ref10_Compare (p0 : List Int) (p1 : List Int) : Option Int := (rl_ref10_trim p0).bind fun y1 => ((rl_ref10_trim p1).bind fun y3 => (if ((y1.length : Int) != (y3.length : Int)) = true then (if (decide ((y1.length : Int) < (y3.length : Int))) = true then (some (-1)) else (some 1)) else (bindE (loop (fun v : Int => rl_ref10_Compare_l1 y1 y3 v) (i64.wrap ((y1.length : Int) - 1))) (fun t => rl_ref10_Compare_a2) (fun t => rl_ref10_Compare_a3 t))))
set_option maxRecDepth 100000 in
theorem rl_ref10_Compare_con (p0 : List Int) (p1 : List Int) (r : Int) (h : rl_ref10_Compare p0 p1 = some r) : Con Try.prog 45 [vl 1 Ru32 p0, vl 1 Ru32 p1] [] (vi64 r) [] := by
 refine con_of tt_ok1 0 Try.func45 (by kernel_rfl) rfl (by kernel_rfl) (fun base X _ => AW.post ?_)
 unfold rl_ref10_Compare at h
 refine AW.sg tt_ok1 [] [] [] 1 [] (by kernel_rfl) ?_
 obtain ⟨y1, e2, h⟩ := bnd_some h
 obtain ⟨y3, e4, h⟩ := bnd_some h
 refine AW.sg tt_ok1 [(1, vl 1 Ru32 y3), (0, vl 1 Ru32 y1)] [] [] 5 [hn, hk (rl_ref10_trim_con p0 y1 e2), hn, hk (rl_ref10_trim_con p1 y3 e4)] (by kernel_rfl) ?_
 refine AW.seq ?_
 refine AW.sg tt_ok1 [(14, vb ((y1.length : Int) != (y3.length : Int)))] [] [] 10 [] (by kernel_rfl) ?_
 refine AW.co h (by kernel_rfl) (fun c5 h => ?_) (fun c5 h => ?_)
 ·
  refine AW.seq ?_
  refine AW.sg tt_ok1 [(19, vb (decide ((y1.length : Int) < (y3.length : Int))))] [] [] 15 [] (by kernel_rfl) ?_
  refine AW.co h (by kernel_rfl) (fun c6 h => ?_) (fun c6 h => ?_)
  ·
   refine AW.sg tt_ok1 [(4, vi64 (-1))] [] [] 16 [] (by kernel_rfl) ?_
   refine AW.ret (AW.tr (AW.tr ?_))
   obtain rfl := some_inj h
   exact fn0 (.inr rfl) [] 0 (vi64 (-1)) (by kernel_rfl)
  ·
   refine AW.skip (AW.tn ?_)
   refine AW.sg tt_ok1 [(4, vi64 1)] [] [] 16 [] (by kernel_rfl) ?_
   refine AW.ret (AW.tr ?_)
   obtain rfl := some_inj h
   exact fn0 (.inr rfl) [] 0 (vi64 1) (by kernel_rfl)
 ·
  refine AW.skip (AW.tn (AW.seq ?_))
  refine AW.sg tt_ok1 [(5, vi64 (i64.wrap ((y1.length : Int) - 1)))] [] [] 14 [] (by kernel_rfl) ?_
  refine AW.block ?_
  refine AW.lpE h (fun v => ⟨[(0, vl 1 Ru32 y1), (1, vl 1 Ru32 y3), (5, vi64 v)], [], 0⟩) (fun t => (.exit 0, ⟨[], [], 0⟩)) (fun t => (.ret, ⟨[(4, vi64 t)], [], 0⟩)) (conv_re [] (by kernel_rfl)) (fun _ => tv) (fun _ => tv) ?_ (fun t h => ?_) (fun x16 h => ?_)
  ·
   clear h
   intro x8 o h
   unfold rl_ref10_Compare_l1 at h
   refine AW.seq ?_
   refine AW.sg tt_ok1 [(24, vb (decide (x8 ≥ 0)))] [] [] 2 [] (by kernel_rfl) ?_
   refine AW.co h (by kernel_rfl) (fun c10 h => ?_) (fun c10 h => ?_)
   ·
    refine AW.skip (AW.tn ?_)
    refine AW.seq (AW.block (AW.seq ?_))
    obtain ⟨g11, g12, h⟩ := ifd h
    obtain ⟨g13, h⟩ := ifc h
    refine AW.sd tt_ok1 mo1 [] [(35, vb (decide ((y1.getD x8.toNat 0) < (y3.getD x8.toNat 0))))] [] 11 [hn, hn, hq g11 g12, hn, hn, hn, hq g11 g13] (by kernel_rfl) ?_
    refine AW.co h (by kernel_rfl) (fun c14 h => ?_) (fun c14 h => ?_)
    ·
     refine AW.sg tt_ok1 [(4, vi64 (-1))] [] [] 12 [] (by kernel_rfl) ?_
     refine AW.ret (AW.tr ?_)
     refine AW.inBlock_ret (AW.tr ?_)
     exact lpo h rfl (conv_re [] (by kernel_rfl))
    ·
     refine AW.skip (AW.tn ?_)
     refine AW.sd tt_ok1 mo1 [] [(44, vb (decide ((y1.getD x8.toNat 0) > (y3.getD x8.toNat 0))))] [] 20 [hn, hn, hq g11 g12, hn, hn, hn, hq g11 g13] (by kernel_rfl) ?_
     refine AW.co h (by kernel_rfl) (fun c15 h => ?_) (fun c15 h => ?_)
     ·
      refine AW.sg tt_ok1 [(4, vi64 1)] [] [] 21 [] (by kernel_rfl) ?_
      refine AW.ret (AW.inBlock_ret (AW.tr ?_))
      exact lpo h rfl (conv_re [] (by kernel_rfl))
     ·
      refine AW.skip (AW.inBlock_normal (AW.tn ?_))
      refine AW.rg tt_ok1 [(5, vi64 (i64.wrap (x8 - 1)))] [] [] 23 [] (by kernel_rfl) ?_
      exact lpn h (conv_re [] (by kernel_rfl))
   ·
    refine AW.exit (AW.thenQ_exit ?_)
    exact lpo h rfl (conv_re [] (by kernel_rfl))
  ·
   replace h : rl_ref10_Compare_a2 = some r := h
   unfold rl_ref10_Compare_a2 at h
   show (_ : Exit → St → Prop) (.exit 0) _
   refine AW.inBlock_hit (AW.tn ?_)
   refine AW.sg tt_ok1 [(4, vi64 0)] [] [] 1 [] (by kernel_rfl) ?_
   refine AW.ret ?_
   obtain rfl := some_inj h
   exact fn0 (.inr rfl) [] 0 (vi64 0) (by kernel_rfl)
  ·
   unfold rl_ref10_Compare_a3 at h
   show (_ : Exit → St → Prop) (.ret) _
   refine AW.inBlock_ret (AW.tr ?_)
   obtain rfl := some_inj h
   exact fn0 (.inr rfl) [] 0 (vi64 x16) (by kernel_rfl)
/-! recordlink/recordlinkref10.less -/
noncomputable def rl_ref10_less_k2 (x4 : List Int) (x6 : Int) (x13 : Int) : Option (((List Int) × Int × Int) ⊕ (List Int)) := if x4.length + ([u32.wrap x13] : List Int).length ≤ 1099511627776 then (some (.inl ((x4 ++ ([u32.wrap x13] : List Int)), ishr .u64 x13 63, i64.wrap (x6 + 1)))) else none
noncomputable def rl_ref10_less_l1 (p0 : List Int) (p1 : List Int) (x4 : List Int) (x5 : Int) (x6 : Int) : Option (((List Int) × Int × Int) ⊕ (List Int)) := if (decide (x6 < (p0.length : Int))) = true then (if 0 ≤ x6 then (if x6 < (p0.length : Int) then ((some (u64.wrap ((u64.wrap (p0.getD x6.toNat 0)) - x5))).bind fun z11 => (if (decide (x6 < (p1.length : Int))) = true then (if x6 < (p1.length : Int) then ((some (u64.wrap (z11 - (u64.wrap (p1.getD x6.toNat 0))))).bind fun z17 => (rl_ref10_less_k2 x4 x6 z17)) else none) else (rl_ref10_less_k2 x4 x6 z11))) else none) else none) else (some (.inr x4))
noncomputable def rl_ref10_less (p0 : List Int) (p1 : List Int) : Option (List Int) := (loop (fun v : (List Int) × Int × Int => rl_ref10_less_l1 p0 p1 v.1 v.2.1 v.2.2) (([] : List Int), 0, 0)).bind fun x19 => ((rl_ref10_trim x19).bind fun y20 => (some y20))
set_option maxRecDepth 100000 in
theorem rl_ref10_less_con (p0 : List Int) (p1 : List Int) (r : List Int) (h : rl_ref10_less p0 p1 = some r) : Con Try.prog 84 [vl 1 Ru32 p0, vl 1 Ru32 p1] [] (vl 1 Ru32 r) [] := by
 refine con_of tt_ok1 0 Try.func84 (by kernel_rfl) rfl (by kernel_rfl) (fun base X _ => AW.post ?_)
 unfold rl_ref10_less at h
 refine AW.sg tt_ok1 [] [] [] 1 [] (by kernel_rfl) ?_
 refine AW.sg tt_ok1 [(5, .c (.t (.v (.slice none 0 0))))] [] [] 2 [] (by kernel_rfl) ?_
 refine AW.sg tt_ok1 [(6, vu64 0)] [] [] 3 [] (by kernel_rfl) ?_
 refine AW.seq ?_
 refine AW.sg tt_ok1 [(7, vi64 0)] [] [] 4 [] (by kernel_rfl) ?_
 refine AW.block ?_
 obtain ⟨x19, l22, h⟩ := bnd_some h
 refine AW.lp l22 (fun v => ⟨[(0, vl 1 Ru32 p0), (1, vl 1 Ru32 p1), (5, .c (.ref 0 1 0 v.1.length)), (6, vu64 v.2.1), (7, vi64 v.2.2)], [(0, .row 69 false 1 v.1.length (Ru32 v.1))], 1⟩) (fun t : List Int => (.exit 0, ⟨[(5, .c (.ref 0 1 0 t.length))], [(0, .row 69 false 1 t.length (Ru32 t))], 1⟩)) (Conv.trans (conv_adopt (t := 5) (ty := 69) (sz := 1) (n := ([] : List Int).length) (f := Ru32 ([] : List Int)) (by kernel_rfl) rfl) (conv_re [(0, 4)] (by kernel_rfl))) (fun _ => tv) ?_ ?_
 ·
  clear l22 h
  intro v o h
  obtain ⟨x4, x5, x6⟩ := v
  replace h : rl_ref10_less_l1 p0 p1 x4 x5 x6 = some o := h
  unfold rl_ref10_less_l1 at h
  refine AW.seq ?_
  refine AW.sg tt_ok1 [(12, vb (decide (x6 < (p0.length : Int))))] [] [] 5 [] (by kernel_rfl) ?_
  refine AW.co h (by kernel_rfl) (fun c8 h => ?_) (fun c8 h => ?_)
  ·
   refine AW.skip (AW.tn ?_)
   refine AW.seq (AW.block ?_)
   obtain ⟨g9, g10, h⟩ := ifd h
   obtain ⟨z11, n12, h⟩ := bnd_some h
   replace n12 := some_inj n12
   refine AW.sg tt_ok1 [(8, vu64 z11)] [] [] 13 [hn, hn, hq g9 g10] (by subst n12; kernel_rfl) ?_
   refine AW.seq ?_
   refine AW.join (ι := Int) (fun v => ⟨[(0, vl 1 Ru32 p0), (1, vl 1 Ru32 p1), (5, .c (.ref 0 1 0 x4.length)), (7, vi64 x6), (8, vu64 v)], [(0, .row 69 false 1 x4.length (Ru32 x4))], 1⟩) (fun v : Int => rl_ref10_less_k2 x4 x6 v = some o) (fun x13 h => ?_) ?_
   ·
    unfold rl_ref10_less_k2 at h
    refine AW.tn ?_
    obtain ⟨g14, h⟩ := ifc h
    refine AW.sg tt_ok1 [(5, .c (.ref 5 1 0 ((x4 ++ ([u32.wrap x13] : List Int)).length)))] [0, 4, 5] [(5, .row 69 false 1 (x4 ++ ([u32.wrap x13] : List Int)).length (Ru32 (x4 ++ ([u32.wrap x13] : List Int))))] 7 [hn, hn, hn, hlit 0 Eu32 1 (fun _ => rfl) ([u32.wrap x13] : List Int), happ 0 Eu32 1 4 x4 ([u32.wrap x13] : List Int) g14 (by decide)] (by kernel_rfl) ?_
    refine AW.rg tt_ok1 [(6, vu64 (ishr .u64 x13 63))] [] [] 10 [hn, ho (p := 0 ≤ (63 : Int)) (by decide)] (by kernel_rfl) ?_
    refine AW.inBlock_normal (AW.tn ?_)
    refine AW.rg tt_ok1 [(7, vi64 (i64.wrap (x6 + 1)))] [] [] 13 [] (by kernel_rfl) ?_
    exact lpn h (conv_re [(0, 5)] (by kernel_rfl))
   ·
    refine AW.sg tt_ok1 [(25, vb (decide (x6 < (p1.length : Int))))] [] [] 17 [] (by kernel_rfl) ?_
    refine AW.co h (by kernel_rfl) (fun c15 h => ?_) (fun c15 h => ?_)
    ·
     obtain ⟨g16, h⟩ := ifc h
     obtain ⟨z17, n18, h⟩ := bnd_some h
     replace n18 := some_inj n18
     refine AW.rg tt_ok1 [(8, vu64 z17)] [] [] 25 [hn, hn, hn, hq g9 g16] (by subst n18; kernel_rfl) ?_
     exact jl z17 h (conv_re [(0, 0)] (by kernel_rfl))
    ·
     refine AW.skip ?_
     exact jl z11 h (conv_re [(0, 0)] (by kernel_rfl))
  ·
   refine AW.exit (AW.thenQ_exit ?_)
   exact lpo h rfl (conv_re [(0, 0)] (by kernel_rfl))
 ·
  show (_ : Exit → St → Prop) (.exit 0) _
  refine AW.inBlock_hit (AW.tn ?_)
  obtain ⟨y20, e21, h⟩ := bnd_some h
  refine AW.sg tt_ok1 [(4, vl 1 Ru32 y20)] [0] [] 3 [hn, hg [] [0] false 0 (q := (0 + x19.length ≤ x19.length) ∧ (True)) ⟨le0, tv⟩ (a0 := [vl 1 Ru32 x19]) (rl_ref10_trim_con x19 y20 e21) ⟨ArgLe.refl _, tv⟩ (fun h => by cases h)] (by kernel_rfl) ?_
  refine AW.ret ?_
  obtain rfl := some_inj h
  exact fn0 (.inr rfl) [] 0 (vl 1 Ru32 y20) (by kernel_rfl)
/-! recordlink/recordlinkref10.sum -/
noncomputable def rl_ref10_sum_k4 (x4 : List Int) (x6 : Int) (x11 : Int) : Option (((List Int) × Int × Int) ⊕ (List Int)) := if x4.length + ([u32.wrap x11] : List Int).length ≤ 1099511627776 then (some (.inl ((x4 ++ ([u32.wrap x11] : List Int)), ishr .u64 x11 32, i64.wrap (x6 + 1)))) else none
noncomputable def rl_ref10_sum_k3 (p1 : List Int) (x4 : List Int) (x6 : Int) (x10 : Int) : Option (((List Int) × Int × Int) ⊕ (List Int)) := if (decide (x6 < (p1.length : Int))) = true then (if 0 ≤ x6 then (if x6 < (p1.length : Int) then ((some (u64.wrap (x10 + (u64.wrap (p1.getD x6.toNat 0))))).bind fun z16 => (rl_ref10_sum_k4 x4 x6 z16)) else none) else none) else (rl_ref10_sum_k4 x4 x6 x10)
noncomputable def rl_ref10_sum_k2 (p0 : List Int) (p1 : List Int) (x4 : List Int) (x5 : Int) (x6 : Int) (x8 : Bool) : Option (((List Int) × Int × Int) ⊕ (List Int)) := if x8 = true then (if (decide (x6 < (p0.length : Int))) = true then (if 0 ≤ x6 then (if x6 < (p0.length : Int) then ((some (u64.wrap (x5 + (u64.wrap (p0.getD x6.toNat 0))))).bind fun z21 => (rl_ref10_sum_k3 p1 x4 x6 z21)) else none) else none) else (rl_ref10_sum_k3 p1 x4 x6 x5)) else (some (.inr x4))
noncomputable def rl_ref10_sum_l1 (p0 : List Int) (p1 : List Int) (x4 : List Int) (x5 : Int) (x6 : Int) : Option (((List Int) × Int × Int) ⊕ (List Int)) := if (decide (x6 < (p0.length : Int))) = true then (rl_ref10_sum_k2 p0 p1 x4 x5 x6 true) else (if (decide (x6 < (p1.length : Int))) = true then (rl_ref10_sum_k2 p0 p1 x4 x5 x6 true) else (rl_ref10_sum_k2 p0 p1 x4 x5 x6 (decide (x5 > 0))))
noncomputable def rl_ref10_sum (p0 : List Int) (p1 : List Int) : Option (List Int) := (loop (fun v : (List Int) × Int × Int => rl_ref10_sum_l1 p0 p1 v.1 v.2.1 v.2.2) (([] : List Int), 0, 0)).bind fun x25 => ((rl_ref10_trim x25).bind fun y26 => (some y26))
set_option maxRecDepth 100000 in
theorem rl_ref10_sum_con (p0 : List Int) (p1 : List Int) (r : List Int) (h : rl_ref10_sum p0 p1 = some r) : Con Try.prog 85 [vl 1 Ru32 p0, vl 1 Ru32 p1] [] (vl 1 Ru32 r) [] := by
 refine con_of tt_ok1 0 Try.func85 (by kernel_rfl) rfl (by kernel_rfl) (fun base X _ => AW.post ?_)
 unfold rl_ref10_sum at h
 refine AW.sg tt_ok1 [] [] [] 1 [] (by kernel_rfl) ?_
 refine AW.sg tt_ok1 [(5, .c (.t (.v (.slice none 0 0))))] [] [] 2 [] (by kernel_rfl) ?_
 refine AW.sg tt_ok1 [(6, vu64 0)] [] [] 3 [] (by kernel_rfl) ?_
 refine AW.seq ?_
 refine AW.sg tt_ok1 [(7, vi64 0)] [] [] 4 [] (by kernel_rfl) ?_
 refine AW.block ?_
 obtain ⟨x25, l28, h⟩ := bnd_some h
 refine AW.lp l28 (fun v => ⟨[(0, vl 1 Ru32 p0), (1, vl 1 Ru32 p1), (5, .c (.ref 0 1 0 v.1.length)), (6, vu64 v.2.1), (7, vi64 v.2.2)], [(0, .row 69 false 1 v.1.length (Ru32 v.1))], 1⟩) (fun t : List Int => (.exit 0, ⟨[(5, .c (.ref 0 1 0 t.length))], [(0, .row 69 false 1 t.length (Ru32 t))], 1⟩)) (Conv.trans (conv_adopt (t := 5) (ty := 69) (sz := 1) (n := ([] : List Int).length) (f := Ru32 ([] : List Int)) (by kernel_rfl) rfl) (conv_re [(0, 4)] (by kernel_rfl))) (fun _ => tv) ?_ ?_
 ·
  clear l28 h
  intro v o h
  obtain ⟨x4, x5, x6⟩ := v
  replace h : rl_ref10_sum_l1 p0 p1 x4 x5 x6 = some o := h
  unfold rl_ref10_sum_l1 at h
  refine AW.seq (AW.seq ?_)
  refine AW.join (ι := Bool) (fun v => ⟨[(0, vl 1 Ru32 p0), (1, vl 1 Ru32 p1), (5, .c (.ref 0 1 0 x4.length)), (6, vu64 x5), (7, vi64 x6), (21, vb v)], [(0, .row 69 false 1 x4.length (Ru32 x4))], 1⟩) (fun v : Bool => rl_ref10_sum_k2 p0 p1 x4 x5 x6 v = some o) (fun x8 h => ?_) ?_
  ·
   unfold rl_ref10_sum_k2 at h
   refine AW.tn ?_
   refine AW.co h (by kernel_rfl) (fun c9 h => ?_) (fun c9 h => ?_)
   ·
    refine AW.skip (AW.tn ?_)
    refine AW.seq (AW.block (AW.seq ?_))
    refine AW.join (ι := Int) (fun v => ⟨[(0, vl 1 Ru32 p0), (1, vl 1 Ru32 p1), (5, .c (.ref 0 1 0 x4.length)), (6, vu64 v), (7, vi64 x6)], [(0, .row 69 false 1 x4.length (Ru32 x4))], 1⟩) (fun v : Int => rl_ref10_sum_k3 p1 x4 x6 v = some o) (fun x10 h => ?_) ?_
    ·
     unfold rl_ref10_sum_k3 at h
     refine AW.tn (AW.seq ?_)
     refine AW.join (ι := Int) (fun v => ⟨[(0, vl 1 Ru32 p0), (1, vl 1 Ru32 p1), (5, .c (.ref 0 1 0 x4.length)), (6, vu64 v), (7, vi64 x6)], [(0, .row 69 false 1 x4.length (Ru32 x4))], 1⟩) (fun v : Int => rl_ref10_sum_k4 x4 x6 v = some o) (fun x11 h => ?_) ?_
     ·
      unfold rl_ref10_sum_k4 at h
      refine AW.tn ?_
      obtain ⟨g12, h⟩ := ifc h
      refine AW.sg tt_ok1 [(5, .c (.ref 5 1 0 ((x4 ++ ([u32.wrap x11] : List Int)).length)))] [0, 4, 5] [(5, .row 69 false 1 (x4 ++ ([u32.wrap x11] : List Int)).length (Ru32 (x4 ++ ([u32.wrap x11] : List Int))))] 7 [hn, hn, hn, hlit 0 Eu32 1 (fun _ => rfl) ([u32.wrap x11] : List Int), happ 0 Eu32 1 4 x4 ([u32.wrap x11] : List Int) g12 (by decide)] (by kernel_rfl) ?_
      refine AW.rg tt_ok1 [(6, vu64 (ishr .u64 x11 32))] [] [] 10 [hn, ho (p := 0 ≤ (32 : Int)) (by decide)] (by kernel_rfl) ?_
      refine AW.inBlock_normal (AW.tn ?_)
      refine AW.rg tt_ok1 [(7, vi64 (i64.wrap (x6 + 1)))] [] [] 13 [] (by kernel_rfl) ?_
      exact lpn h (conv_re [(0, 5)] (by kernel_rfl))
     ·
      refine AW.sg tt_ok1 [(38, vb (decide (x6 < (p1.length : Int))))] [] [] 5 [] (by kernel_rfl) ?_
      refine AW.co h (by kernel_rfl) (fun c13 h => ?_) (fun c13 h => ?_)
      ·
       obtain ⟨g14, g15, h⟩ := ifd h
       obtain ⟨z16, n17, h⟩ := bnd_some h
       replace n17 := some_inj n17
       refine AW.rg tt_ok1 [(6, vu64 z16)] [] [] 13 [hn, hn, hn, hq g14 g15] (by subst n17; kernel_rfl) ?_
       exact jl z16 h (conv_re [(0, 0)] (by kernel_rfl))
      ·
       refine AW.skip ?_
       exact jl x10 h (conv_re [(0, 0)] (by kernel_rfl))
    ·
     refine AW.sg tt_ok1 [(27, vb (decide (x6 < (p0.length : Int))))] [] [] 5 [] (by kernel_rfl) ?_
     refine AW.co h (by kernel_rfl) (fun c18 h => ?_) (fun c18 h => ?_)
     ·
      obtain ⟨g19, g20, h⟩ := ifd h
      obtain ⟨z21, n22, h⟩ := bnd_some h
      replace n22 := some_inj n22
      refine AW.rg tt_ok1 [(6, vu64 z21)] [] [] 13 [hn, hn, hn, hq g19 g20] (by subst n22; kernel_rfl) ?_
      exact jl z21 h (conv_re [(0, 0)] (by kernel_rfl))
     ·
      refine AW.skip ?_
      exact jl x5 h (conv_re [(0, 0)] (by kernel_rfl))
   ·
    refine AW.exit (AW.thenQ_exit ?_)
    exact lpo h rfl (conv_re [(0, 0)] (by kernel_rfl))
  ·
   rcases ifs h with ⟨c23, h⟩ | ⟨c23, h⟩
   ·
    refine AW.rg tt_ok1 [(21, vb true)] [] [] 15 [hn, hn, hn, ht c23] (by kernel_rfl) ?_
    exact jl true h (conv_re [(0, 0)] (by kernel_rfl))
   ·
    rcases ifs h with ⟨c24, h⟩ | ⟨c24, h⟩
    ·
     refine AW.rg tt_ok1 [(21, vb true)] [] [] 15 [hn, hn, hn, hf c23, hn, hn, hn, hn, ht c24] (by kernel_rfl) ?_
     exact jl true h (conv_re [(0, 0)] (by kernel_rfl))
    ·
     refine AW.rg tt_ok1 [(21, vb (decide (x5 > 0)))] [] [] 15 [hn, hn, hn, hf c23, hn, hn, hn, hn, hf c24] (by kernel_rfl) ?_
     exact jl (decide (x5 > 0)) h (conv_re [(0, 0)] (by kernel_rfl))
 ·
  show (_ : Exit → St → Prop) (.exit 0) _
  refine AW.inBlock_hit (AW.tn ?_)
  obtain ⟨y26, e27, h⟩ := bnd_some h
  refine AW.sg tt_ok1 [(4, vl 1 Ru32 y26)] [0] [] 3 [hn, hg [] [0] false 0 (q := (0 + x25.length ≤ x25.length) ∧ (True)) ⟨le0, tv⟩ (a0 := [vl 1 Ru32 x25]) (rl_ref10_trim_con x25 y26 e27) ⟨ArgLe.refl _, tv⟩ (fun h => by cases h)] (by kernel_rfl) ?_
  refine AW.ret ?_
  obtain rfl := some_inj h
  exact fn0 (.inr rfl) [] 0 (vl 1 Ru32 y26) (by kernel_rfl)
/-! recordlink/recordlinkref10.GCD -/
noncomputable def rl_ref10_GCD_k4 (x10 : List Int) (x11 : List Int) (x12 : Int) (x16 : Bool) : Option (((List Int) × (List Int) × Int) ⊕ ((List Int) × (List Int) × Int)) := if x16 = true then ((rl_ref10_half x10).bind fun y18 => ((rl_ref10_half x11).bind fun y20 => (some (.inl (y18, y20, i64.wrap (x12 + 1)))))) else (some (.inr (x10, x11, x12)))
noncomputable def rl_ref10_GCD_l3 (x10 : List Int) (x11 : List Int) (x12 : Int) : Option (((List Int) × (List Int) × Int) ⊕ ((List Int) × (List Int) × Int)) := if (0 : Int) < (x10.length : Int) then (if ((iand .u32 (x10.getD 0 0) 1) == 0) = true then (if (0 : Int) < (x11.length : Int) then (rl_ref10_GCD_k4 x10 x11 x12 ((iand .u32 (x11.getD 0 0) 1) == 0)) else none) else (rl_ref10_GCD_k4 x10 x11 x12 false)) else none
noncomputable def rl_ref10_GCD_l6 (x35 : List Int) : Option ((List Int) ⊕ (List Int)) := if (0 : Int) < (x35.length : Int) then (if ((iand .u32 (x35.getD 0 0) 1) == 0) = true then ((rl_ref10_half x35).bind fun y39 => (some (.inl y39))) else (some (.inr x35))) else none
noncomputable def rl_ref10_GCD_l7 (x43 : List Int) : Option ((List Int) ⊕ (List Int)) := if (0 : Int) < (x43.length : Int) then (if ((iand .u32 (x43.getD 0 0) 1) == 0) = true then ((rl_ref10_half x43).bind fun y47 => (some (.inl y47))) else (some (.inr x43))) else none
noncomputable def rl_ref10_GCD_k8 (x50 : List Int) (x51 : List Int) : Option (((List Int) × (List Int)) ⊕ (List Int)) := (rl_ref10_less x50 x51).bind fun y52 => (some (.inl (y52, x51)))
noncomputable def rl_ref10_GCD_l5 (x30 : List Int) (x31 : List Int) : Option (((List Int) × (List Int)) ⊕ (List Int)) := if (decide ((x30.length : Int) > 0)) = true then ((loop (fun v : List Int => rl_ref10_GCD_l6 v) x30).bind fun x41 => ((loop (fun v : List Int => rl_ref10_GCD_l7 v) x31).bind fun x49 => ((rl_ref10_Compare x41 x49).bind fun y54 => (if (decide (y54 < 0)) = true then (rl_ref10_GCD_k8 x49 x41) else (rl_ref10_GCD_k8 x41 x49))))) else (some (.inr x31))
noncomputable def rl_ref10_GCD_l9 (x27 : Int) (x63 : List Int) (x64 : Int) : Option (((List Int) × Int) ⊕ (List Int)) := if (decide (x64 < x27)) = true then ((rl_ref10_sum x63 x63).bind fun y67 => (some (.inl (y67, i64.wrap (x64 + 1))))) else (some (.inr x63))
noncomputable def rl_ref10_GCD_k2 (p0 : List Int) (p1 : List Int) (x3 : Bool) : Option ((List Int) × Int) := if x3 = true then (if 0 + p0.length ≤ 1099511627776 then (if (([] : List Int) ++ p0).length + p1.length ≤ 1099511627776 then (some (((([] : List Int) ++ p0) ++ p1), 0)) else none) else none) else (bind3 (loop (fun v : (List Int) × (List Int) × Int => rl_ref10_GCD_l3 v.1 v.2.1 v.2.2) (p0, p1, 0)) fun x25 x26 x27 => ((loop (fun v : (List Int) × (List Int) => rl_ref10_GCD_l5 v.1 v.2) (x25, x26)).bind fun x59 => (if 0 + x59.length ≤ 1099511627776 then ((loop (fun v : (List Int) × Int => rl_ref10_GCD_l9 x27 v.1 v.2) ((([] : List Int) ++ x59), 0)).bind fun x69 => (some (x69, 0))) else none)))
noncomputable def rl_ref10_GCD_k1 (p0 : List Int) (p1 : List Int) (x1 : Bool) : Option ((List Int) × Int) := if x1 = true then (some (([] : List Int), 20)) else (if ((p0.length : Int) == 0) = true then (rl_ref10_GCD_k2 p0 p1 true) else (rl_ref10_GCD_k2 p0 p1 ((p1.length : Int) == 0)))
noncomputable def rl_ref10_GCD (p0 : List Int) (p1 : List Int) : Option ((List Int) × Int) := (rl_ref10_Valid p0).bind fun y74 => (if (!y74) = true then (rl_ref10_GCD_k1 p0 p1 true) else ((rl_ref10_Valid p1).bind fun y77 => (rl_ref10_GCD_k1 p0 p1 (!y77))))
set_option maxRecDepth 100000 in
theorem rl_ref10_GCD_con (p0 : List Int) (p1 : List Int) (r : (List Int) × Int) (h : rl_ref10_GCD p0 p1 = some r) : Con Try.prog 63 [vl 1 Ru32 p0, vl 1 Ru32 p1] [] (.tup [vl 1 Ru32 r.1, vi64 r.2]) [] := by
 refine con_of tt_ok1 0 Try.func63 (by kernel_rfl) rfl (by kernel_rfl) (fun base X _ => AW.post ?_)
 unfold rl_ref10_GCD at h
 refine AW.sg tt_ok1 [] [] [] 2 [] (by kernel_rfl) ?_
 refine AW.seq (AW.seq ?_)
 refine AW.join (ι := Bool) (fun v => ⟨[(0, vl 1 Ru32 p0), (1, vl 1 Ru32 p1), (15, vb v)], [], 0⟩) (fun v : Bool => rl_ref10_GCD_k1 p0 p1 v = some r) (fun x1 h => ?_) ?_
 ·
  unfold rl_ref10_GCD_k1 at h
  refine AW.tn ?_
  refine AW.co h (by kernel_rfl) (fun c2 h => ?_) (fun c2 h => ?_)
  ·
   refine AW.sg tt_ok1 [(5, vi64 20), (4, .c (.t (.v (.slice none 0 0))))] [] [] 2 [] (by kernel_rfl) ?_
   refine AW.ret (AW.tr ?_)
   obtain rfl := some_inj h
   exact fnR (.inr rfl) [] 0 (.tup [vl 1 Ru32 ([] : List Int), vi64 20]) (conv_tms [(4, vl 1 Ru32 ([] : List Int))] ⟨⟨.c (.t (.v (.slice none 0 0))), by kernel_rfl, ALe.c (CLe.nil rfl)⟩, tv⟩) (by kernel_rfl)
  ·
   refine AW.skip (AW.tn ?_)
   refine AW.seq (AW.seq ?_)
   refine AW.join (ι := Bool) (fun v => ⟨[(0, vl 1 Ru32 p0), (1, vl 1 Ru32 p1), (23, vb v)], [], 0⟩) (fun v : Bool => rl_ref10_GCD_k2 p0 p1 v = some r) (fun x3 h => ?_) ?_
   ·
    unfold rl_ref10_GCD_k2 at h
    refine AW.tn ?_
    refine AW.co h (by kernel_rfl) (fun c4 h => ?_) (fun c4 h => ?_)
    ·
     obtain ⟨g5, g6, h⟩ := ifd h
     refine AW.sg tt_ok1 [(5, vi64 0), (4, .c (.ref 3 1 0 (((([] : List Int) ++ p0) ++ p1).length)))] [1, 3] [(3, .row 69 false 1 ((([] : List Int) ++ p0) ++ p1).length (Ru32 ((([] : List Int) ++ p0) ++ p1)))] 6 [hn, hr ((([] : List Int) ++ p0).length) (Ru32 (([] : List Int) ++ p0)) (p := (True) ∧ (True) ∧ ((0 + p0.length ≤ 1099511627776) ∧ ((4 : Nat) ≤ 128)) ∧ (0 + p0.length = (([] : List Int) ++ p0).length ∧ ∀ i, i < (([] : List Int) ++ p0).length → ∀ j, j < 1 → TLe ((appRow 0 (fun _ _ => .v undef) (Ru32 p0)) i j) (Ru32 (([] : List Int) ++ p0) i j))) (⟨tv, tv, ⟨g5, (by decide)⟩, rowT (app_row rfl rfl row_nil row_rfl)⟩), hn, hr (((([] : List Int) ++ p0) ++ p1).length) (Ru32 ((([] : List Int) ++ p0) ++ p1)) (p := ((([] : List Int) ++ p0).length = (([] : List Int) ++ p0).length) ∧ (True) ∧ (((([] : List Int) ++ p0).length + p1.length ≤ 1099511627776) ∧ ((4 : Nat) ≤ 128)) ∧ ((([] : List Int) ++ p0).length + p1.length = ((([] : List Int) ++ p0) ++ p1).length ∧ ∀ i, i < ((([] : List Int) ++ p0) ++ p1).length → ∀ j, j < 1 → TLe ((appRow ((([] : List Int) ++ p0).length) (Ru32 (([] : List Int) ++ p0)) (Ru32 p1)) i j) (Ru32 ((([] : List Int) ++ p0) ++ p1) i j))) (⟨rfl, tv, ⟨g6, (by decide)⟩, rowT (app_row rfl rfl row_rfl row_rfl)⟩)] (by kernel_rfl) ?_
     refine AW.ret (AW.tr ?_)
     obtain rfl := some_inj h
     exact fnR (.inr rfl) [] 0 (.tup [vl 1 Ru32 ((([] : List Int) ++ p0) ++ p1), vi64 0]) (Conv.trans (cfz 3 69 1 (((([] : List Int) ++ p0) ++ p1).length) (Ru32 ((([] : List Int) ++ p0) ++ p1)) (by kernel_rfl)) (conv_tms [(4, vl 1 Ru32 ((([] : List Int) ++ p0) ++ p1))] ⟨⟨.c (.ref 3 1 0 (((([] : List Int) ++ p0) ++ p1).length)), by kernel_rfl, ALe.c (CLe.ref (ty := 69) (f := Ru32 ((([] : List Int) ++ p0) ++ p1)) (by kernel_rfl) le0)⟩, tv⟩)) (by kernel_rfl)
    ·
     refine AW.skip (AW.tn ?_)
     refine AW.sg tt_ok1 [(6, vi64 0)] [] [] 1 [] (by kernel_rfl) ?_
     refine AW.seq (AW.block ?_)
     obtain ⟨x25, x26, x27, l72, h⟩ := bind3_some h
     refine AW.lp l72 (fun v => ⟨[(0, vl 1 Ru32 v.1), (1, vl 1 Ru32 v.2.1), (6, vi64 v.2.2)], [], 0⟩) (fun t : (List Int) × (List Int) × Int => (.exit 0, ⟨[(0, vl 1 Ru32 t.1), (1, vl 1 Ru32 t.2.1), (6, vi64 t.2.2)], [], 0⟩)) (conv_re [] (by kernel_rfl)) (fun _ => tv) ?_ ?_
     ·
      clear l72 h
      intro v o h
      obtain ⟨x10, x11, x12⟩ := v
      replace h : rl_ref10_GCD_l3 x10 x11 x12 = some o := h
      unfold rl_ref10_GCD_l3 at h
      refine AW.seq (AW.seq ?_)
      refine AW.join (ι := Bool) (fun v => ⟨[(0, vl 1 Ru32 x10), (1, vl 1 Ru32 x11), (6, vi64 x12), (39, vb v)], [], 0⟩) (fun v : Bool => rl_ref10_GCD_k4 x10 x11 x12 v = some o) (fun x16 h => ?_) ?_
      ·
       unfold rl_ref10_GCD_k4 at h
       refine AW.tn ?_
       refine AW.co h (by kernel_rfl) (fun c17 h => ?_) (fun c17 h => ?_)
       ·
        refine AW.skip (AW.tn (AW.block ?_))
        obtain ⟨y18, e19, h⟩ := bnd_some h
        obtain ⟨y20, e21, h⟩ := bnd_some h
        refine AW.sg tt_ok1 [(1, vl 1 Ru32 y20), (0, vl 1 Ru32 y18)] [] [] 4 [hn, hk (rl_ref10_half_con x10 y18 e19), hn, hk (rl_ref10_half_con x11 y20 e21)] (by kernel_rfl) ?_
        refine AW.rg tt_ok1 [(6, vi64 (i64.wrap (x12 + 1)))] [] [] 7 [] (by kernel_rfl) ?_
        refine AW.inBlock_normal ?_
        exact lpn h (conv_re [] (by kernel_rfl))
       ·
        refine AW.exit (AW.thenQ_exit ?_)
        exact lpo h rfl (conv_re [] (by kernel_rfl))
      ·
       obtain ⟨g22, h⟩ := ifc h
       rcases ifs h with ⟨c23, h⟩ | ⟨c23, h⟩
       ·
        obtain ⟨g24, h⟩ := ifc h
        refine AW.rg tt_ok1 [(39, vb ((iand .u32 (x11.getD 0 0) 1) == 0))] [] [] 12 [hn, ho (p := (0 ≤ (0 : Int)) ∧ ((0 : Int) < (x10.length : Int))) (⟨(by decide), g22⟩), hn, hn, ht c23, hn, hn, ho (p := (0 ≤ (0 : Int)) ∧ ((0 : Int) < (x11.length : Int))) (⟨(by decide), g24⟩)] (by kernel_rfl) ?_
        exact jl ((iand .u32 (x11.getD 0 0) 1) == 0) h (conv_re [] (by kernel_rfl))
       ·
        refine AW.rg tt_ok1 [(39, vb false)] [] [] 12 [hn, ho (p := (0 ≤ (0 : Int)) ∧ ((0 : Int) < (x10.length : Int))) (⟨(by decide), g22⟩), hn, hn, hf c23] (by kernel_rfl) ?_
        exact jl false h (conv_re [] (by kernel_rfl))
     ·
      show (_ : Exit → St → Prop) (.exit 0) _
      refine AW.inBlock_hit (AW.tn ?_)
      refine AW.seq (AW.block ?_)
      obtain ⟨x59, l71, h⟩ := bnd_some h
      refine AW.lp l71 (fun v => ⟨[(0, vl 1 Ru32 v.1), (1, vl 1 Ru32 v.2), (6, vi64 x27)], [], 0⟩) (fun t : List Int => (.exit 2, ⟨[(1, vl 1 Ru32 t), (6, vi64 x27)], [], 0⟩)) (conv_re [] (by kernel_rfl)) (fun _ => tv) ?_ ?_
      ·
       clear l71 h
       intro v o h
       obtain ⟨x30, x31⟩ := v
       replace h : rl_ref10_GCD_l5 x30 x31 = some o := h
       unfold rl_ref10_GCD_l5 at h
       refine AW.seq ?_
       refine AW.sg tt_ok1 [(48, vb (decide ((x30.length : Int) > 0)))] [] [] 3 [] (by kernel_rfl) ?_
       refine AW.co h (by kernel_rfl) (fun c33 h => ?_) (fun c33 h => ?_)
       ·
        refine AW.skip (AW.tn ?_)
        refine AW.block (AW.seq (AW.block ?_))
        obtain ⟨x41, l58, h⟩ := bnd_some h
        refine AW.lp l58 (fun v => ⟨[(0, vl 1 Ru32 v), (1, vl 1 Ru32 x31), (6, vi64 x27)], [], 0⟩) (fun t : List Int => (.exit 4, ⟨[(0, vl 1 Ru32 t), (1, vl 1 Ru32 x31), (6, vi64 x27)], [], 0⟩)) (conv_re [] (by kernel_rfl)) (fun _ => tv) ?_ ?_
        ·
         clear l58 h
         intro x35 o h
         unfold rl_ref10_GCD_l6 at h
         refine AW.seq ?_
         obtain ⟨g37, h⟩ := ifc h
         refine AW.sg tt_ok1 [(53, vb ((iand .u32 (x35.getD 0 0) 1) == 0))] [] [] 5 [hn, ho (p := (0 ≤ (0 : Int)) ∧ ((0 : Int) < (x35.length : Int))) (⟨(by decide), g37⟩)] (by kernel_rfl) ?_
         refine AW.co h (by kernel_rfl) (fun c38 h => ?_) (fun c38 h => ?_)
         ·
          refine AW.skip (AW.tn (AW.block ?_))
          obtain ⟨y39, e40, h⟩ := bnd_some h
          refine AW.rg tt_ok1 [(0, vl 1 Ru32 y39)] [] [] 7 [hn, hk (rl_ref10_half_con x35 y39 e40)] (by kernel_rfl) ?_
          refine AW.inBlock_normal ?_
          exact lpn h (conv_re [] (by kernel_rfl))
         ·
          refine AW.exit (AW.thenQ_exit ?_)
          exact lpo h rfl (conv_re [] (by kernel_rfl))
        ·
         show (_ : Exit → St → Prop) (.exit 4) _
         refine AW.inBlock_hit (AW.tn ?_)
         refine AW.seq (AW.block ?_)
         obtain ⟨x49, l57, h⟩ := bnd_some h
         refine AW.lp l57 (fun v => ⟨[(0, vl 1 Ru32 x41), (1, vl 1 Ru32 v), (6, vi64 x27)], [], 0⟩) (fun t : List Int => (.exit 6, ⟨[(0, vl 1 Ru32 x41), (1, vl 1 Ru32 t), (6, vi64 x27)], [], 0⟩)) (conv_re [] (by kernel_rfl)) (fun _ => tv) ?_ ?_
         ·
          clear l57 h
          intro x43 o h
          unfold rl_ref10_GCD_l7 at h
          refine AW.seq ?_
          obtain ⟨g45, h⟩ := ifc h
          refine AW.sg tt_ok1 [(60, vb ((iand .u32 (x43.getD 0 0) 1) == 0))] [] [] 5 [hn, ho (p := (0 ≤ (0 : Int)) ∧ ((0 : Int) < (x43.length : Int))) (⟨(by decide), g45⟩)] (by kernel_rfl) ?_
          refine AW.co h (by kernel_rfl) (fun c46 h => ?_) (fun c46 h => ?_)
          ·
           refine AW.skip (AW.tn (AW.block ?_))
           obtain ⟨y47, e48, h⟩ := bnd_some h
           refine AW.rg tt_ok1 [(1, vl 1 Ru32 y47)] [] [] 7 [hn, hk (rl_ref10_half_con x43 y47 e48)] (by kernel_rfl) ?_
           refine AW.inBlock_normal ?_
           exact lpn h (conv_re [] (by kernel_rfl))
          ·
           refine AW.exit (AW.thenQ_exit ?_)
           exact lpo h rfl (conv_re [] (by kernel_rfl))
         ·
          show (_ : Exit → St → Prop) (.exit 6) _
          refine AW.inBlock_hit (AW.tn (AW.seq ?_))
          refine AW.join (ι := (List Int) × (List Int)) (fun v => ⟨[(0, vl 1 Ru32 v.1), (1, vl 1 Ru32 v.2), (6, vi64 x27)], [], 0⟩) (fun v : (List Int) × (List Int) => rl_ref10_GCD_k8 v.1 v.2 = some o) (fun v h => ?_) ?_
          ·
           obtain ⟨x50, x51⟩ := v
           replace h : rl_ref10_GCD_k8 x50 x51 = some o := h
           unfold rl_ref10_GCD_k8 at h
           refine AW.tn ?_
           obtain ⟨y52, e53, h⟩ := bnd_some h
           refine AW.rg tt_ok1 [(0, vl 1 Ru32 y52)] [] [] 3 [hn, hn, hk (rl_ref10_less_con x50 x51 y52 e53)] (by kernel_rfl) ?_
           refine AW.inBlock_normal ?_
           exact lpn h (conv_re [] (by kernel_rfl))
          ·
           obtain ⟨y54, e55, h⟩ := bnd_some h
           refine AW.sg tt_ok1 [(66, vb (decide (y54 < 0)))] [] [] 3 [hn, hn, hk (rl_ref10_Compare_con x41 x49 y54 e55)] (by kernel_rfl) ?_
           refine AW.co h (by kernel_rfl) (fun c56 h => ?_) (fun c56 h => ?_)
           ·
            refine AW.rg tt_ok1 [(1, vl 1 Ru32 x41), (0, vl 1 Ru32 x49)] [] [] 7 [] (by kernel_rfl) ?_
            exact jl (x49, x41) h (conv_re [] (by kernel_rfl))
           ·
            refine AW.skip ?_
            exact jl (x41, x49) h (conv_re [] (by kernel_rfl))
       ·
        refine AW.exit (AW.thenQ_exit ?_)
        exact lpo h rfl (conv_re [] (by kernel_rfl))
      ·
       show (_ : Exit → St → Prop) (.exit 2) _
       refine AW.inBlock_hit (AW.tn ?_)
       obtain ⟨g60, h⟩ := ifc h
       refine AW.sg tt_ok1 [(1, .c (.ref 1 1 0 ((([] : List Int) ++ x59).length)))] [1] [(1, .row 69 false 1 (([] : List Int) ++ x59).length (Ru32 (([] : List Int) ++ x59)))] 3 [hn, hr ((([] : List Int) ++ x59).length) (Ru32 (([] : List Int) ++ x59)) (p := (True) ∧ (True) ∧ ((0 + x59.length ≤ 1099511627776) ∧ ((4 : Nat) ≤ 128)) ∧ (0 + x59.length = (([] : List Int) ++ x59).length ∧ ∀ i, i < (([] : List Int) ++ x59).length → ∀ j, j < 1 → TLe ((appRow 0 (fun _ _ => .v undef) (Ru32 x59)) i j) (Ru32 (([] : List Int) ++ x59) i j))) (⟨tv, tv, ⟨g60, (by decide)⟩, rowT (app_row rfl rfl row_nil row_rfl)⟩)] (by kernel_rfl) ?_
       refine AW.seq ?_
       refine AW.sg tt_ok1 [(7, vi64 0)] [] [] 4 [] (by kernel_rfl) ?_
       refine AW.block ?_
       obtain ⟨x69, l70, h⟩ := bnd_some h
       refine AW.lp l70 (fun v => ⟨[(1, vl 1 Ru32 v.1), (6, vi64 x27), (7, vi64 v.2)], [], 0⟩) (fun t : List Int => (.exit 8, ⟨[(1, vl 1 Ru32 t)], [], 0⟩)) (Conv.trans (cfz 1 69 1 ((([] : List Int) ++ x59).length) (Ru32 (([] : List Int) ++ x59)) (by kernel_rfl)) (Conv.trans (conv_tms [(1, vl 1 Ru32 (([] : List Int) ++ x59))] ⟨⟨.c (.ref 1 1 0 ((([] : List Int) ++ x59).length)), by kernel_rfl, ALe.c (CLe.ref (ty := 69) (f := Ru32 (([] : List Int) ++ x59)) (by kernel_rfl) le0)⟩, tv⟩) (conv_re [] (by kernel_rfl)))) (fun _ => tv) ?_ ?_
       ·
        clear l70 h
        intro v o h
        obtain ⟨x63, x64⟩ := v
        replace h : rl_ref10_GCD_l9 x27 x63 x64 = some o := h
        unfold rl_ref10_GCD_l9 at h
        refine AW.seq ?_
        refine AW.sg tt_ok1 [(76, vb (decide (x64 < x27)))] [] [] 3 [] (by kernel_rfl) ?_
        refine AW.co h (by kernel_rfl) (fun c66 h => ?_) (fun c66 h => ?_)
        ·
         refine AW.skip (AW.tn ?_)
         refine AW.seq (AW.block ?_)
         obtain ⟨y67, e68, h⟩ := bnd_some h
         refine AW.rg tt_ok1 [(1, vl 1 Ru32 y67)] [] [] 6 [hn, hn, hk (rl_ref10_sum_con x63 x63 y67 e68)] (by kernel_rfl) ?_
         refine AW.inBlock_normal (AW.tn ?_)
         refine AW.rg tt_ok1 [(7, vi64 (i64.wrap (x64 + 1)))] [] [] 9 [] (by kernel_rfl) ?_
         exact lpn h (conv_re [] (by kernel_rfl))
        ·
         refine AW.exit (AW.thenQ_exit ?_)
         exact lpo h rfl (conv_re [] (by kernel_rfl))
       ·
        show (_ : Exit → St → Prop) (.exit 8) _
        refine AW.inBlock_hit (AW.tn ?_)
        refine AW.sg tt_ok1 [(5, vi64 0), (4, vl 1 Ru32 x69)] [] [] 3 [] (by kernel_rfl) ?_
        refine AW.ret ?_
        obtain rfl := some_inj h
        exact fn0 (.inr rfl) [] 0 (.tup [vl 1 Ru32 x69, vi64 0]) (by kernel_rfl)
   ·
    rcases ifs h with ⟨c73, h⟩ | ⟨c73, h⟩
    ·
     refine AW.rg tt_ok1 [(23, vb true)] [] [] 8 [hn, hn, ht c73] (by kernel_rfl) ?_
     exact jl true h (conv_re [] (by kernel_rfl))
    ·
     refine AW.rg tt_ok1 [(23, vb ((p1.length : Int) == 0))] [] [] 8 [hn, hn, hf c73] (by kernel_rfl) ?_
     exact jl ((p1.length : Int) == 0) h (conv_re [] (by kernel_rfl))
 ·
  obtain ⟨y74, e75, h⟩ := bnd_some h
  rcases ifs h with ⟨c76, h⟩ | ⟨c76, h⟩
  ·
   refine AW.rg tt_ok1 [(15, vb true)] [] [] 9 [hn, hk (rl_ref10_Valid_con p0 y74 e75), ht c76] (by kernel_rfl) ?_
   exact jl true h (conv_re [] (by kernel_rfl))
  ·
   obtain ⟨y77, e78, h⟩ := bnd_some h
   refine AW.rg tt_ok1 [(15, vb (!y77))] [] [] 8 [hn, hk (rl_ref10_Valid_con p0 y74 e75), hf c76, hn, hn, hk (rl_ref10_Valid_con p1 y77 e78)] (by kernel_rfl) ?_
   exact jl (!y77) h (conv_re [] (by kernel_rfl))
/-! recordlink/recordlinkref10.DivMod -/
noncomputable def rl_ref10_DivMod_k3 (x13 : Int) (x17 : List Int) (x18 : List Int) : Option (((List Int) × (List Int) × Int) ⊕ ((List Int) × (List Int))) := some (.inl (x17, x18, i64.wrap (x13 - 1)))
noncomputable def rl_ref10_DivMod_k4 (p1 : List Int) (x11 : List Int) (x13 : Int) (x21 : List Int) : Option (((List Int) × (List Int) × Int) ⊕ ((List Int) × (List Int))) := (rl_ref10_Compare x21 p1).bind fun y22 => (if (decide (y22 ≥ 0)) = true then ((rl_ref10_less x21 p1).bind fun y25 => (if 0 ≤ (i64.wrap (x13.tdiv 32)) then (if (i64.wrap (x13.tdiv 32)) < (x11.length : Int) then (if 0 ≤ (x13.tmod 32) then (rl_ref10_DivMod_k3 x13 (x11.set (0 + (i64.wrap (x13.tdiv 32)).toNat) (ior .u32 (x11.getD (0 + (i64.wrap (x13.tdiv 32)).toNat) 0) (ishl .u32 1 (x13.tmod 32)))) y25) else none) else none) else none)) else (rl_ref10_DivMod_k3 x13 x11 x21))
noncomputable def rl_ref10_DivMod_l2 (p0 : List Int) (p1 : List Int) (x11 : List Int) (x12 : List Int) (x13 : Int) : Option (((List Int) × (List Int) × Int) ⊕ ((List Int) × (List Int))) := if (decide (x13 ≥ 0)) = true then ((rl_ref10_sum x12 x12).bind fun y19 => (if 0 ≤ (i64.wrap (x13.tdiv 32)) then (if (i64.wrap (x13.tdiv 32)) < (p0.length : Int) then (if 0 ≤ (x13.tmod 32) then (if ((iand .u32 (ishr .u32 (p0.getD ((i64.wrap (x13.tdiv 32)).toNat) 0) (x13.tmod 32)) 1) == 1) = true then ((rl_ref10_sum y19 ([1] : List Int)).bind fun y34 => (rl_ref10_DivMod_k4 p1 x11 x13 y34)) else (rl_ref10_DivMod_k4 p1 x11 x13 y19)) else none) else none) else none)) else (some (.inr (x11, x12)))
noncomputable def rl_ref10_DivMod_k1 (p0 : List Int) (p1 : List Int) (x1 : Bool) : Option ((List Int) × (List Int) × Int) := if x1 = true then (some (([] : List Int), ([] : List Int), 20)) else (if ((p1.length : Int) == 0) = true then (some (([] : List Int), ([] : List Int), 9)) else (if 0 ≤ (p0.length : Int) then (if (p0.length : Int) ≤ 1099511627776 then ((some (i64.wrap ((i64.wrap (32 * (p0.length : Int))) - 1))).bind fun z6 => (bind2 (loop (fun v : (List Int) × (List Int) × Int => rl_ref10_DivMod_l2 p0 p1 v.1 v.2.1 v.2.2) ((List.replicate ((p0.length : Int).toNat) (0 : Int)), [], z6)) fun x36 x37 => ((rl_ref10_trim x36).bind fun y38 => (some (y38, x37, 0))))) else none) else none))
noncomputable def rl_ref10_DivMod (p0 : List Int) (p1 : List Int) : Option ((List Int) × (List Int) × Int) := (rl_ref10_Valid p0).bind fun y41 => (if (!y41) = true then (rl_ref10_DivMod_k1 p0 p1 true) else ((rl_ref10_Valid p1).bind fun y44 => (rl_ref10_DivMod_k1 p0 p1 (!y44))))
set_option maxRecDepth 100000 in
theorem rl_ref10_DivMod_con (p0 : List Int) (p1 : List Int) (r : (List Int) × (List Int) × Int) (h : rl_ref10_DivMod p0 p1 = some r) : Con Try.prog 64 [vl 1 Ru32 p0, vl 1 Ru32 p1] [] (.tup [vl 1 Ru32 r.1, vl 1 Ru32 r.2.1, vi64 r.2.2]) [] := by
 refine con_of tt_ok1 0 Try.func64 (by kernel_rfl) rfl (by kernel_rfl) (fun base X _ => AW.post ?_)
 unfold rl_ref10_DivMod at h
 refine AW.sg tt_ok1 [] [] [] 3 [] (by kernel_rfl) ?_
 refine AW.seq (AW.seq ?_)
 refine AW.join (ι := Bool) (fun v => ⟨[(0, vl 1 Ru32 p0), (1, vl 1 Ru32 p1), (17, vb v)], [], 0⟩) (fun v : Bool => rl_ref10_DivMod_k1 p0 p1 v = some r) (fun x1 h => ?_) ?_
 ·
  unfold rl_ref10_DivMod_k1 at h
  refine AW.tn ?_
  refine AW.co h (by kernel_rfl) (fun c2 h => ?_) (fun c2 h => ?_)
  ·
   refine AW.sg tt_ok1 [(6, vi64 20), (5, .c (.t (.v (.slice none 0 0)))), (4, .c (.t (.v (.slice none 0 0))))] [] [] 3 [] (by kernel_rfl) ?_
   refine AW.ret (AW.tr ?_)
   obtain rfl := some_inj h
   exact fnR (.inr rfl) [] 0 (.tup [vl 1 Ru32 ([] : List Int), vl 1 Ru32 ([] : List Int), vi64 20]) (Conv.trans (conv_tms [(4, vl 1 Ru32 ([] : List Int))] ⟨⟨.c (.t (.v (.slice none 0 0))), by kernel_rfl, ALe.c (CLe.nil rfl)⟩, tv⟩) (conv_tms [(5, vl 1 Ru32 ([] : List Int))] ⟨⟨.c (.t (.v (.slice none 0 0))), by kernel_rfl, ALe.c (CLe.nil rfl)⟩, tv⟩)) (by kernel_rfl)
  ·
   refine AW.skip (AW.tn (AW.seq ?_))
   refine AW.sg tt_ok1 [(20, vb ((p1.length : Int) == 0))] [] [] 3 [] (by kernel_rfl) ?_
   refine AW.co h (by kernel_rfl) (fun c3 h => ?_) (fun c3 h => ?_)
   ·
    refine AW.sg tt_ok1 [(6, vi64 9), (5, .c (.t (.v (.slice none 0 0)))), (4, .c (.t (.v (.slice none 0 0))))] [] [] 6 [] (by kernel_rfl) ?_
    refine AW.ret (AW.tr ?_)
    obtain rfl := some_inj h
    exact fnR (.inr rfl) [] 0 (.tup [vl 1 Ru32 ([] : List Int), vl 1 Ru32 ([] : List Int), vi64 9]) (Conv.trans (conv_tms [(4, vl 1 Ru32 ([] : List Int))] ⟨⟨.c (.t (.v (.slice none 0 0))), by kernel_rfl, ALe.c (CLe.nil rfl)⟩, tv⟩) (conv_tms [(5, vl 1 Ru32 ([] : List Int))] ⟨⟨.c (.t (.v (.slice none 0 0))), by kernel_rfl, ALe.c (CLe.nil rfl)⟩, tv⟩)) (by kernel_rfl)
   ·
    refine AW.skip (AW.tn ?_)
    obtain ⟨g4, g5, h⟩ := ifd h
    refine AW.sg tt_ok1 [(7, .c (.ref 5 1 0 ((List.replicate ((p0.length : Int).toNat) (0 : Int)).length)))] [5] [(5, .row 69 false 1 (List.replicate ((p0.length : Int).toNat) (0 : Int)).length (Ru32 (List.replicate ((p0.length : Int).toNat) (0 : Int))))] 7 [hn, hn, hmk 0 Eu32 1 4 [.int .u32 0] rfl rfl (p0.length : Int) (p0.length : Int) g4 (Int.le_refl _) g5 (by decide)] (by kernel_rfl) ?_
    refine AW.sg tt_ok1 [(8, .c (.t (.v (.slice none 0 0))))] [] [] 8 [] (by kernel_rfl) ?_
    refine AW.seq ?_
    obtain ⟨z6, n7, h⟩ := bnd_some h
    replace n7 := some_inj n7
    refine AW.sg tt_ok1 [(9, vi64 z6)] [] [] 13 [] (by subst n7; kernel_rfl) ?_
    refine AW.block ?_
    obtain ⟨x36, x37, l40, h⟩ := bind2_some h
    refine AW.lp l40 (fun v => ⟨[(0, vl 1 Ru32 p0), (1, vl 1 Ru32 p1), (7, .c (.ref 0 1 0 v.1.length)), (8, vl 1 Ru32 v.2.1), (9, vi64 v.2.2)], [(0, .row 69 false 1 v.1.length (Ru32 v.1))], 1⟩) (fun t : (List Int) × (List Int) => (.exit 0, ⟨[(7, .c (.ref 0 1 0 t.1.length)), (8, vl 1 Ru32 t.2)], [(0, .row 69 false 1 t.1.length (Ru32 t.1))], 1⟩)) (Conv.trans (conv_tms [(8, vl 1 Ru32 ([] : List Int))] ⟨⟨.c (.t (.v (.slice none 0 0))), by kernel_rfl, ALe.c (CLe.nil rfl)⟩, tv⟩) (conv_re [(0, 5)] (by kernel_rfl))) (fun _ => tv) ?_ ?_
    ·
     clear l40 h
     intro v o h
     obtain ⟨x11, x12, x13⟩ := v
     replace h : rl_ref10_DivMod_l2 p0 p1 x11 x12 x13 = some o := h
     unfold rl_ref10_DivMod_l2 at h
     refine AW.seq ?_
     refine AW.sg tt_ok1 [(29, vb (decide (x13 ≥ 0)))] [] [] 3 [] (by kernel_rfl) ?_
     refine AW.co h (by kernel_rfl) (fun c16 h => ?_) (fun c16 h => ?_)
     ·
      refine AW.skip (AW.tn (AW.seq ?_))
      refine AW.join (ι := (List Int) × (List Int)) (fun v => ⟨[(0, vl 1 Ru32 p0), (1, vl 1 Ru32 p1), (7, .c (.ref 0 1 0 v.1.length)), (8, vl 1 Ru32 v.2), (9, vi64 x13)], [(0, .row 69 false 1 v.1.length (Ru32 v.1))], 1⟩) (fun v : (List Int) × (List Int) => rl_ref10_DivMod_k3 x13 v.1 v.2 = some o) (fun v h => ?_) ?_
      ·
       obtain ⟨x17, x18⟩ := v
       replace h : rl_ref10_DivMod_k3 x13 x17 x18 = some o := h
       unfold rl_ref10_DivMod_k3 at h
       refine AW.tn ?_
       refine AW.rg tt_ok1 [(9, vi64 (i64.wrap (x13 - 1)))] [] [] 4 [] (by kernel_rfl) ?_
       exact lpn h (conv_re [(0, 0)] (by kernel_rfl))
      ·
       refine AW.block ?_
       obtain ⟨y19, e20, h⟩ := bnd_some h
       refine AW.sg tt_ok1 [(8, vl 1 Ru32 y19)] [] [] 6 [hn, hn, hk (rl_ref10_sum_con x12 x12 y19 e20)] (by kernel_rfl) ?_
       refine AW.seq ?_
       refine AW.join (ι := List Int) (fun v => ⟨[(0, vl 1 Ru32 p0), (1, vl 1 Ru32 p1), (7, .c (.ref 0 1 0 x11.length)), (8, vl 1 Ru32 v), (9, vi64 x13)], [(0, .row 69 false 1 x11.length (Ru32 x11))], 1⟩) (fun v : List Int => rl_ref10_DivMod_k4 p1 x11 x13 v = some o) (fun x21 h => ?_) ?_
       ·
        unfold rl_ref10_DivMod_k4 at h
        refine AW.tn ?_
        obtain ⟨y22, e23, h⟩ := bnd_some h
        refine AW.sg tt_ok1 [(51, vb (decide (y22 ≥ 0)))] [] [] 4 [hn, hn, hk (rl_ref10_Compare_con x21 p1 y22 e23)] (by kernel_rfl) ?_
        refine AW.co h (by kernel_rfl) (fun c24 h => ?_) (fun c24 h => ?_)
        ·
         obtain ⟨y25, e26, h⟩ := bnd_some h
         refine AW.sg tt_ok1 [(8, vl 1 Ru32 y25)] [] [] 7 [hn, hn, hk (rl_ref10_less_con x21 p1 y25 e26)] (by kernel_rfl) ?_
         obtain ⟨g27, g28, h⟩ := ifd h
         obtain ⟨g29, h⟩ := ifc h
         refine AW.rd tt_ok1 mo1 [[], [], [], [], [], [], [], [], [], [], [0]] [] [(0, .row 69 false 1 x11.length (Ru32 (x11.set (0 + (i64.wrap (x13.tdiv 32)).toNat) (ior .u32 (x11.getD (0 + (i64.wrap (x13.tdiv 32)).toNat) 0) (ishl .u32 1 (x13.tmod 32))))))] 18 [hn, hn, ho (p := (32 : Int) ≠ 0) (by decide), hq g27 g28, ho (p := (0 + (i64.wrap (x13.tdiv 32)).toNat) < x11.length) (by have h1 : 0 ≤ (i64.wrap (x13.tdiv 32)) := g27; have h2 : (i64.wrap (x13.tdiv 32)) < (x11.length : Int) := g28; omega), hn, ho (p := (32 : Int) ≠ 0) (by decide), ho g29, hn, hq g27 g28, hset 0 Eu32 x11 (0 + (i64.wrap (x13.tdiv 32)).toNat) (ior .u32 (x11.getD (0 + (i64.wrap (x13.tdiv 32)).toNat) 0) (ishl .u32 1 (x13.tmod 32))) (n := x11.length) (by have h1 : 0 ≤ (i64.wrap (x13.tdiv 32)) := g27; have h2 : (i64.wrap (x13.tdiv 32)) < (x11.length : Int) := g28; omega) rfl] (by kernel_rfl) ?_
         refine AW.inBlock_normal ?_
         exact jl ((x11.set (0 + (i64.wrap (x13.tdiv 32)).toNat) (ior .u32 (x11.getD (0 + (i64.wrap (x13.tdiv 32)).toNat) 0) (ishl .u32 1 (x13.tmod 32)))), y25) h (Conv.trans (conv_tms [(7, .c (.ref 0 1 0 ((x11.set (0 + (i64.wrap (x13.tdiv 32)).toNat) (ior .u32 (x11.getD (0 + (i64.wrap (x13.tdiv 32)).toNat) 0) (ishl .u32 1 (x13.tmod 32)))).length)))] ⟨⟨.c (.ref 0 1 0 x11.length), by kernel_rfl, ALe.len (by simp only [List.length_set])⟩, tv⟩) (Conv.trans (conv_rowN 0 69 false 1 x11.length ((x11.set (0 + (i64.wrap (x13.tdiv 32)).toNat) (ior .u32 (x11.getD (0 + (i64.wrap (x13.tdiv 32)).toNat) 0) (ishl .u32 1 (x13.tmod 32)))).length) (Ru32 (x11.set (0 + (i64.wrap (x13.tdiv 32)).toNat) (ior .u32 (x11.getD (0 + (i64.wrap (x13.tdiv 32)).toNat) 0) (ishl .u32 1 (x13.tmod 32))))) (by kernel_rfl) (by simp only [List.length_set])) (conv_re [(0, 0)] (by kernel_rfl))))
        ·
         refine AW.skip (AW.inBlock_normal ?_)
         exact jl (x11, x21) h (conv_re [(0, 0)] (by kernel_rfl))
       ·
        obtain ⟨g30, g31, h⟩ := ifd h
        obtain ⟨g32, h⟩ := ifc h
        refine AW.sg tt_ok1 [(44, vb ((iand .u32 (ishr .u32 (p0.getD ((i64.wrap (x13.tdiv 32)).toNat) 0) (x13.tmod 32)) 1) == 1))] [] [] 16 [hn, hn, ho (p := (32 : Int) ≠ 0) (by decide), hq g30 g31, hn, hn, ho (p := (32 : Int) ≠ 0) (by decide), ho g32] (by kernel_rfl) ?_
        refine AW.co h (by kernel_rfl) (fun c33 h => ?_) (fun c33 h => ?_)
        ·
         obtain ⟨y34, e35, h⟩ := bnd_some h
         refine AW.rg tt_ok1 [(8, vl 1 Ru32 y34)] [17] [] 19 [hn, hlit 0 Eu32 1 (fun _ => rfl) ([1] : List Int), hg [] [17] false 0 (q := (True) ∧ (0 + ([1] : List Int).length ≤ ([1] : List Int).length) ∧ (True)) ⟨tv, le0, tv⟩ (a0 := [vl 1 Ru32 y19, vl 1 Ru32 ([1] : List Int)]) (rl_ref10_sum_con y19 ([1] : List Int) y34 e35) ⟨ArgLe.refl _, ArgLe.refl _, tv⟩ (fun h => by cases h)] (by kernel_rfl) ?_
         exact jl y34 h (conv_re [(0, 0)] (by kernel_rfl))
        ·
         refine AW.skip ?_
         exact jl y19 h (conv_re [(0, 0)] (by kernel_rfl))
     ·
      refine AW.exit (AW.thenQ_exit ?_)
      exact lpo h rfl (conv_re [(0, 0)] (by kernel_rfl))
    ·
     show (_ : Exit → St → Prop) (.exit 0) _
     refine AW.inBlock_hit (AW.tn ?_)
     obtain ⟨y38, e39, h⟩ := bnd_some h
     refine AW.sg tt_ok1 [(6, vi64 0), (5, vl 1 Ru32 x37), (4, vl 1 Ru32 y38)] [0] [] 6 [hn, hg [] [0] false 0 (q := (0 + x36.length ≤ x36.length) ∧ (True)) ⟨le0, tv⟩ (a0 := [vl 1 Ru32 x36]) (rl_ref10_trim_con x36 y38 e39) ⟨ArgLe.refl _, tv⟩ (fun h => by cases h)] (by kernel_rfl) ?_
     refine AW.ret ?_
     obtain rfl := some_inj h
     exact fn0 (.inr rfl) [] 0 (.tup [vl 1 Ru32 y38, vl 1 Ru32 x37, vi64 0]) (by kernel_rfl)
 ·
  obtain ⟨y41, e42, h⟩ := bnd_some h
  rcases ifs h with ⟨c43, h⟩ | ⟨c43, h⟩
  ·
   refine AW.rg tt_ok1 [(17, vb true)] [] [] 10 [hn, hk (rl_ref10_Valid_con p0 y41 e42), ht c43] (by kernel_rfl) ?_
   exact jl true h (conv_re [] (by kernel_rfl))
  ·
   obtain ⟨y44, e45, h⟩ := bnd_some h
   refine AW.rg tt_ok1 [(17, vb (!y44))] [] [] 9 [hn, hk (rl_ref10_Valid_con p0 y41 e42), hf c43, hn, hn, hk (rl_ref10_Valid_con p1 y44 e45)] (by kernel_rfl) ?_
   exact jl (!y44) h (conv_re [] (by kernel_rfl))
/-! recordlink/recordlinkref11.Make -/
noncomputable def rl_ref11_Make_k1 (p0 : List Int) (p1 : List Int) (x1 : Bool) : Option (S_api_Rational × Int) := if x1 = true then (some ((⟨([] : List Int), ([] : List Int)⟩ : S_api_Rational), 20)) else (if ((p1.length : Int) == 0) = true then (some ((⟨([] : List Int), ([] : List Int)⟩ : S_api_Rational), 9)) else (bind2 (rl_ref10_GCD p0 p1) fun y4 y5 => (bind3 (rl_ref10_DivMod p0 y4) fun y7 y8 y9 => (bind3 (rl_ref10_DivMod p1 y4) fun y11 y12 y13 => (some ((⟨y7, y11⟩ : S_api_Rational), 0))))))
noncomputable def rl_ref11_Make (p0 : List Int) (p1 : List Int) : Option (S_api_Rational × Int) := (rl_ref10_Valid p0).bind fun y15 => (if (!y15) = true then (rl_ref11_Make_k1 p0 p1 true) else ((rl_ref10_Valid p1).bind fun y18 => (rl_ref11_Make_k1 p0 p1 (!y18))))
set_option maxRecDepth 100000 in
theorem rl_ref11_Make_con (p0 : List Int) (p1 : List Int) (r : S_api_Rational × Int) (h : rl_ref11_Make p0 p1 = some r) : Con Try.prog 42 [vl 1 Ru32 p0, vl 1 Ru32 p1] [] (.tup [.agg [cl 1 Ru32 r.1.Num, cl 1 Ru32 r.1.Den], vi64 r.2]) [] := by
 refine con_of tt_ok1 0 Try.func42 (by kernel_rfl) rfl (by kernel_rfl) (fun base X _ => AW.post ?_)
 unfold rl_ref11_Make at h
 refine AW.sg tt_ok1 [(4, .c (.ptr 0 2 0 0))] [0] [(0, .box 44 [.t (.v (.slice none 0 0)), .t (.v (.slice none 0 0))])] 2 [] (by kernel_rfl) ?_
 refine AW.seq (AW.seq ?_)
 refine AW.join (ι := Bool) (fun v => ⟨[(0, vl 1 Ru32 p0), (1, vl 1 Ru32 p1), (4, .c (.ptr 0 2 0 0)), (21, vb v)], [(0, .box 44 [.t (.v (.slice none 0 0)), .t (.v (.slice none 0 0))])], 1⟩) (fun v : Bool => rl_ref11_Make_k1 p0 p1 v = some r) (fun x1 h => ?_) ?_
 ·
  unfold rl_ref11_Make_k1 at h
  refine AW.tn ?_
  refine AW.co h (by kernel_rfl) (fun c2 h => ?_) (fun c2 h => ?_)
  ·
   refine AW.sg tt_ok1 [(5, vi64 20)] [0] [(0, .box 44 [.t (.v (.slice none 0 0)), .t (.v (.slice none 0 0))])] 4 [] (by kernel_rfl) ?_
   refine AW.ret (AW.tr ?_)
   obtain rfl := some_inj h
   exact fnR (.inr rfl) [] 0 (.tup [.agg [cl 1 Ru32 ([] : List Int), cl 1 Ru32 ([] : List Int)], vi64 20]) (conv_box (id := 0) (ty := 44) (cs := [.t (.v (.slice none 0 0)), .t (.v (.slice none 0 0))]) (ds := [cl 1 Ru32 ([] : List Int), cl 1 Ru32 ([] : List Int)]) (by kernel_rfl) ⟨CLe.nil rfl, CLe.nil rfl, tv⟩) (by kernel_rfl)
  ·
   refine AW.skip (AW.tn (AW.seq ?_))
   refine AW.sg tt_ok1 [(25, vb ((p1.length : Int) == 0))] [] [] 4 [] (by kernel_rfl) ?_
   refine AW.co h (by kernel_rfl) (fun c3 h => ?_) (fun c3 h => ?_)
   ·
    refine AW.sg tt_ok1 [(5, vi64 9)] [0] [(0, .box 44 [.t (.v (.slice none 0 0)), .t (.v (.slice none 0 0))])] 7 [] (by kernel_rfl) ?_
    refine AW.ret (AW.tr ?_)
    obtain rfl := some_inj h
    exact fnR (.inr rfl) [] 0 (.tup [.agg [cl 1 Ru32 ([] : List Int), cl 1 Ru32 ([] : List Int)], vi64 9]) (conv_box (id := 0) (ty := 44) (cs := [.t (.v (.slice none 0 0)), .t (.v (.slice none 0 0))]) (ds := [cl 1 Ru32 ([] : List Int), cl 1 Ru32 ([] : List Int)]) (by kernel_rfl) ⟨CLe.nil rfl, CLe.nil rfl, tv⟩) (by kernel_rfl)
   ·
    refine AW.skip (AW.tn ?_)
    obtain ⟨y4, y5, e6, h⟩ := bind2_some h
    refine AW.sg tt_ok1 [(6, vl 1 Ru32 y4)] [] [] 11 [hn, hn, hk (rl_ref10_GCD_con p0 p1 (y4, y5) e6)] (by kernel_rfl) ?_
    obtain ⟨y7, y8, y9, e10, h⟩ := bind3_some h
    refine AW.sg tt_ok1 [(8, vl 1 Ru32 y7)] [] [] 20 [hn, hn, hk (rl_ref10_DivMod_con p0 y4 (y7, y8, y9) e10)] (by kernel_rfl) ?_
    obtain ⟨y11, y12, y13, e14, h⟩ := bind3_some h
    refine AW.sg tt_ok1 [(11, vl 1 Ru32 y11)] [] [] 29 [hn, hn, hk (rl_ref10_DivMod_con p1 y4 (y11, y12, y13) e14)] (by kernel_rfl) ?_
    refine AW.sg tt_ok1 [(5, vi64 0)] [0] [(0, .box 44 [cl 1 Ru32 y7, cl 1 Ru32 y11])] 34 [] (by kernel_rfl) ?_
    refine AW.ret ?_
    obtain rfl := some_inj h
    exact fn0 (.inr rfl) [] 0 (.tup [.agg [cl 1 Ru32 y7, cl 1 Ru32 y11], vi64 0]) (by kernel_rfl)
 ·
  obtain ⟨y15, e16, h⟩ := bnd_some h
  rcases ifs h with ⟨c17, h⟩ | ⟨c17, h⟩
  ·
   refine AW.rg tt_ok1 [(21, vb true)] [] [] 9 [hn, hk (rl_ref10_Valid_con p0 y15 e16), ht c17] (by kernel_rfl) ?_
   exact jl true h (conv_re [(0, 0)] (by kernel_rfl))
  ·
   obtain ⟨y18, e19, h⟩ := bnd_some h
   refine AW.rg tt_ok1 [(21, vb (!y18))] [] [] 8 [hn, hk (rl_ref10_Valid_con p0 y15 e16), hf c17, hn, hn, hk (rl_ref10_Valid_con p1 y18 e19)] (by kernel_rfl) ?_
   exact jl (!y18) h (conv_re [(0, 0)] (by kernel_rfl))
/-! recordlink/recordlinkref11.Of -/
noncomputable def rl_ref11_Of_k1 (p0 : Int) (p1 : Int) (x1 : Bool) : Option (S_api_Rational × Int) := if x1 = true then (some ((⟨([] : List Int), ([] : List Int)⟩ : S_api_Rational), 2)) else (bind2 (rl_ref10_FromInt p0) fun y3 y4 => (bind2 (rl_ref10_FromInt p1) fun y6 y7 => (bind2 (rl_ref11_Make y3 y6) fun y9 y10 => (some (y9, y10)))))
noncomputable def rl_ref11_Of (p0 : Int) (p1 : Int) : Option (S_api_Rational × Int) := if (decide (p0 < 0)) = true then (rl_ref11_Of_k1 p0 p1 true) else (rl_ref11_Of_k1 p0 p1 (decide (p1 < 0)))
set_option maxRecDepth 100000 in
theorem rl_ref11_Of_con (p0 : Int) (p1 : Int) (r : S_api_Rational × Int) (h : rl_ref11_Of p0 p1 = some r) : Con Try.prog 20 [vi64 p0, vi64 p1] [] (.tup [.agg [cl 1 Ru32 r.1.Num, cl 1 Ru32 r.1.Den], vi64 r.2]) [] := by
 refine con_of tt_ok1 0 Try.func20 (by kernel_rfl) rfl (by kernel_rfl) (fun base X _ => AW.post ?_)
 unfold rl_ref11_Of at h
 refine AW.sg tt_ok1 [(4, .c (.ptr 0 2 0 0))] [0] [(0, .box 44 [.t (.v (.slice none 0 0)), .t (.v (.slice none 0 0))])] 2 [] (by kernel_rfl) ?_
 refine AW.seq (AW.seq ?_)
 refine AW.join (ι := Bool) (fun v => ⟨[(0, vi64 p0), (1, vi64 p1), (4, .c (.ptr 0 2 0 0)), (15, vb v)], [(0, .box 44 [.t (.v (.slice none 0 0)), .t (.v (.slice none 0 0))])], 1⟩) (fun v : Bool => rl_ref11_Of_k1 p0 p1 v = some r) (fun x1 h => ?_) ?_
 ·
  unfold rl_ref11_Of_k1 at h
  refine AW.tn ?_
  refine AW.co h (by kernel_rfl) (fun c2 h => ?_) (fun c2 h => ?_)
  ·
   refine AW.sg tt_ok1 [(5, vi64 2)] [0] [(0, .box 44 [.t (.v (.slice none 0 0)), .t (.v (.slice none 0 0))])] 4 [] (by kernel_rfl) ?_
   refine AW.ret (AW.tr ?_)
   obtain rfl := some_inj h
   exact fnR (.inr rfl) [] 0 (.tup [.agg [cl 1 Ru32 ([] : List Int), cl 1 Ru32 ([] : List Int)], vi64 2]) (conv_box (id := 0) (ty := 44) (cs := [.t (.v (.slice none 0 0)), .t (.v (.slice none 0 0))]) (ds := [cl 1 Ru32 ([] : List Int), cl 1 Ru32 ([] : List Int)]) (by kernel_rfl) ⟨CLe.nil rfl, CLe.nil rfl, tv⟩) (by kernel_rfl)
  ·
   refine AW.skip (AW.tn ?_)
   obtain ⟨y3, y4, e5, h⟩ := bind2_some h
   refine AW.sg tt_ok1 [(6, vl 1 Ru32 y3)] [] [] 7 [hn, hk (rl_ref10_FromInt_con p0 (y3, y4) e5)] (by kernel_rfl) ?_
   obtain ⟨y6, y7, e8, h⟩ := bind2_some h
   refine AW.sg tt_ok1 [(8, vl 1 Ru32 y6)] [] [] 13 [hn, hk (rl_ref10_FromInt_con p1 (y6, y7) e8)] (by kernel_rfl) ?_
   obtain ⟨y9, y10, e11, h⟩ := bind2_some h
   refine AW.sg tt_ok1 [(5, vi64 y10)] [0] [(0, .box 44 [cl 1 Ru32 y9.Num, cl 1 Ru32 y9.Den])] 19 [hn, hn, hk (rl_ref11_Make_con y3 y6 (y9, y10) e11)] (by kernel_rfl) ?_
   refine AW.ret ?_
   obtain rfl := some_inj h
   exact fn0 (.inr rfl) [] 0 (.tup [.agg [cl 1 Ru32 y9.Num, cl 1 Ru32 y9.Den], vi64 y10]) (by kernel_rfl)
 ·
  rcases ifs h with ⟨c12, h⟩ | ⟨c12, h⟩
  ·
   refine AW.rg tt_ok1 [(15, vb true)] [] [] 8 [hn, ht c12] (by kernel_rfl) ?_
   exact jl true h (conv_re [(0, 0)] (by kernel_rfl))
  ·
   refine AW.rg tt_ok1 [(15, vb (decide (p1 < 0)))] [] [] 8 [hn, hf c12] (by kernel_rfl) ?_
   exact jl (decide (p1 < 0)) h (conv_re [(0, 0)] (by kernel_rfl))
/-! recordlink/recordlinkref10.Same -/
noncomputable def rl_ref10_Same_l1 (p0 : List Int) (p1 : List Int) (x3 : Int) : Option (Int ⊕ (Unit ⊕ Unit)) := if (decide (x3 < (p0.length : Int))) = true then (if 0 ≤ x3 then (if x3 < (p0.length : Int) then (if x3 < (p1.length : Int) then (if ((p0.getD x3.toNat 0) != (p1.getD x3.toNat 0)) = true then (some (.inr (.inr ()))) else (some (.inl (i64.wrap (x3 + 1))))) else none) else none) else none) else (some (.inr (.inl ())))
noncomputable def rl_ref10_Same_a2 : Option Bool := some true
noncomputable def rl_ref10_Same_a3 : Option Bool := some false
noncomputable def rl_ref10_Same (p0 : List Int) (p1 : List Int) : Option Bool := if ((p0.length : Int) != (p1.length : Int)) = true then (some false) else (bindE (loop (fun v : Int => rl_ref10_Same_l1 p0 p1 v) 0) (fun t => rl_ref10_Same_a2) (fun t => rl_ref10_Same_a3))
set_option maxRecDepth 100000 in
theorem rl_ref10_Same_con (p0 : List Int) (p1 : List Int) (r : Bool) (h : rl_ref10_Same p0 p1 = some r) : Con Try.prog 86 [vl 1 Ru32 p0, vl 1 Ru32 p1] [] (vb r) [] := by
 refine con_of tt_ok1 0 Try.func86 (by kernel_rfl) rfl (by kernel_rfl) (fun base X _ => AW.post ?_)
 unfold rl_ref10_Same at h
 refine AW.sg tt_ok1 [] [] [] 1 [] (by kernel_rfl) ?_
 refine AW.seq ?_
 refine AW.sg tt_ok1 [(10, vb ((p0.length : Int) != (p1.length : Int)))] [] [] 6 [] (by kernel_rfl) ?_
 refine AW.co h (by kernel_rfl) (fun c1 h => ?_) (fun c1 h => ?_)
 ·
  refine AW.sg tt_ok1 [(4, vb false)] [] [] 7 [] (by kernel_rfl) ?_
  refine AW.ret (AW.tr ?_)
  obtain rfl := some_inj h
  exact fn0 (.inr rfl) [] 0 (vb false) (by kernel_rfl)
 ·
  refine AW.skip (AW.tn (AW.seq ?_))
  refine AW.sg tt_ok1 [(5, vi64 0)] [] [] 7 [] (by kernel_rfl) ?_
  refine AW.block ?_
  refine AW.lpE h (fun v => ⟨[(0, vl 1 Ru32 p0), (1, vl 1 Ru32 p1), (5, vi64 v)], [], 0⟩) (fun t => (.exit 0, ⟨[], [], 0⟩)) (fun t => (.ret, ⟨[(4, vb false)], [], 0⟩)) (conv_re [] (by kernel_rfl)) (fun _ => tv) (fun _ => tv) ?_ (fun t h => ?_) (fun t h => ?_)
  ·
   clear h
   intro x3 o h
   unfold rl_ref10_Same_l1 at h
   refine AW.seq ?_
   refine AW.sg tt_ok1 [(14, vb (decide (x3 < (p0.length : Int))))] [] [] 4 [] (by kernel_rfl) ?_
   refine AW.co h (by kernel_rfl) (fun c4 h => ?_) (fun c4 h => ?_)
   ·
    refine AW.skip (AW.tn ?_)
    refine AW.seq (AW.block ?_)
    obtain ⟨g5, g6, h⟩ := ifd h
    obtain ⟨g7, h⟩ := ifc h
    refine AW.sd tt_ok1 mo1 [] [(25, vb ((p0.getD x3.toNat 0) != (p1.getD x3.toNat 0)))] [] 13 [hn, hn, hq g5 g6, hn, hn, hn, hq g5 g7] (by kernel_rfl) ?_
    refine AW.co h (by kernel_rfl) (fun c8 h => ?_) (fun c8 h => ?_)
    ·
     refine AW.sg tt_ok1 [(4, vb false)] [] [] 14 [] (by kernel_rfl) ?_
     refine AW.ret (AW.inBlock_ret (AW.tr ?_))
     exact lpo h rfl (conv_re [] (by kernel_rfl))
    ·
     refine AW.skip (AW.inBlock_normal (AW.tn ?_))
     refine AW.rg tt_ok1 [(5, vi64 (i64.wrap (x3 + 1)))] [] [] 16 [] (by kernel_rfl) ?_
     exact lpn h (conv_re [] (by kernel_rfl))
   ·
    refine AW.exit (AW.thenQ_exit ?_)
    exact lpo h rfl (conv_re [] (by kernel_rfl))
  ·
   replace h : rl_ref10_Same_a2 = some r := h
   unfold rl_ref10_Same_a2 at h
   show (_ : Exit → St → Prop) (.exit 0) _
   refine AW.inBlock_hit (AW.tn ?_)
   refine AW.sg tt_ok1 [(4, vb true)] [] [] 1 [] (by kernel_rfl) ?_
   refine AW.ret ?_
   obtain rfl := some_inj h
   exact fn0 (.inr rfl) [] 0 (vb true) (by kernel_rfl)
  ·
   replace h : rl_ref10_Same_a3 = some r := h
   unfold rl_ref10_Same_a3 at h
   show (_ : Exit → St → Prop) (.ret) _
   refine AW.inBlock_ret (AW.tr ?_)
   obtain rfl := some_inj h
   exact fn0 (.inr rfl) [] 0 (vb false) (by kernel_rfl)
/-! recordlink/recordlinkref11.Valid -/
noncomputable def rl_ref11_Valid_k1 (p0 : S_api_Rational) (x1 : Bool) : Option Bool := if x1 = true then (some false) else (bind2 (rl_ref10_GCD p0.Num p0.Den) fun y3 y4 => ((rl_ref10_Same y3 ([1] : List Int)).bind fun y6 => (some y6)))
noncomputable def rl_ref11_Valid (p0 : S_api_Rational) : Option Bool := (rl_ref10_Valid p0.Num).bind fun y8 => (if (!y8) = true then (rl_ref11_Valid_k1 p0 true) else ((rl_ref10_Valid p0.Den).bind fun y11 => (if (!y11) = true then (rl_ref11_Valid_k1 p0 true) else (rl_ref11_Valid_k1 p0 (((p0.Den.length : Nat) : Int) == 0)))))
set_option maxRecDepth 100000 in
theorem rl_ref11_Valid_con (p0 : S_api_Rational) (r : Bool) (h : rl_ref11_Valid p0 = some r) : Con Try.prog 65 [.agg [cl 1 Ru32 p0.Num, cl 1 Ru32 p0.Den]] [] (vb r) [] := by
 refine con_of tt_ok1 0 Try.func65 (by kernel_rfl) rfl (by kernel_rfl) (fun base X _ => AW.post ?_)
 unfold rl_ref11_Valid at h
 refine AW.sg tt_ok1 [(1, .c (.ptr 0 2 0 0))] [0] [(0, .box 44 [cl 1 Ru32 p0.Num, cl 1 Ru32 p0.Den])] 2 [] (by kernel_rfl) ?_
 refine AW.seq (AW.seq ?_)
 refine AW.join (ι := Bool) (fun v => ⟨[(1, .c (.ptr 0 2 0 0)), (20, vb v)], [(0, .box 44 [cl 1 Ru32 p0.Num, cl 1 Ru32 p0.Den])], 1⟩) (fun v : Bool => rl_ref11_Valid_k1 p0 v = some r) (fun x1 h => ?_) ?_
 ·
  unfold rl_ref11_Valid_k1 at h
  refine AW.tn ?_
  refine AW.co h (by kernel_rfl) (fun c2 h => ?_) (fun c2 h => ?_)
  ·
   refine AW.sg tt_ok1 [(2, vb false)] [] [] 2 [] (by kernel_rfl) ?_
   refine AW.ret (AW.tr ?_)
   obtain rfl := some_inj h
   exact fn0 (.inr rfl) [] 0 (vb false) (by kernel_rfl)
  ·
   refine AW.skip (AW.tn ?_)
   obtain ⟨y3, y4, e5, h⟩ := bind2_some h
   refine AW.sg tt_ok1 [(3, vl 1 Ru32 y3)] [] [] 10 [hn, hn, hn, hn, hk (rl_ref10_GCD_con p0.Num p0.Den (y3, y4) e5)] (by kernel_rfl) ?_
   obtain ⟨y6, e7, h⟩ := bnd_some h
   refine AW.sg tt_ok1 [(2, vb y6)] [11] [] 13 [hn, hlit 0 Eu32 1 (fun _ => rfl) ([1] : List Int), hg [] [] true 0 (q := (True) ∧ (0 + ([1] : List Int).length ≤ ([1] : List Int).length) ∧ (True)) ⟨tv, le0, tv⟩ (a0 := [vl 1 Ru32 y3, vl 1 Ru32 ([1] : List Int)]) (rl_ref10_Same_con y3 ([1] : List Int) y6 e7) ⟨ArgLe.refl _, ArgLe.refl _, tv⟩ (fun _ => tv)] (by kernel_rfl) ?_
   refine AW.ret ?_
   obtain rfl := some_inj h
   exact fn0 (.inr rfl) [] 0 (vb y6) (by kernel_rfl)
 ·
  obtain ⟨y8, e9, h⟩ := bnd_some h
  rcases ifs h with ⟨c10, h⟩ | ⟨c10, h⟩
  ·
   refine AW.rg tt_ok1 [(20, vb true)] [] [] 17 [hn, hn, hk (rl_ref10_Valid_con p0.Num y8 e9), ht c10] (by kernel_rfl) ?_
   exact jl true h (conv_re [(0, 0)] (by kernel_rfl))
  ·
   obtain ⟨y11, e12, h⟩ := bnd_some h
   rcases ifs h with ⟨c13, h⟩ | ⟨c13, h⟩
   ·
    refine AW.rg tt_ok1 [(20, vb true)] [] [] 16 [hn, hn, hk (rl_ref10_Valid_con p0.Num y8 e9), hf c10, hn, hn, hn, hk (rl_ref10_Valid_con p0.Den y11 e12), ht c13] (by kernel_rfl) ?_
    exact jl true h (conv_re [(0, 0)] (by kernel_rfl))
   ·
    refine AW.rg tt_ok1 [(20, vb (((p0.Den.length : Nat) : Int) == 0))] [] [] 16 [hn, hn, hk (rl_ref10_Valid_con p0.Num y8 e9), hf c10, hn, hn, hn, hk (rl_ref10_Valid_con p0.Den y11 e12), hf c13] (by kernel_rfl) ?_
    exact jl (((p0.Den.length : Nat) : Int) == 0) h (conv_re [(0, 0)] (by kernel_rfl))
/-! recordlink/recordlinkref11.both -/
noncomputable def rl_ref11_both_k1 (x1 : Bool) : Option Bool := some x1
noncomputable def rl_ref11_both (p0 : S_api_Rational) (p1 : S_api_Rational) : Option Bool := (rl_ref11_Valid p0).bind fun y2 => (if y2 = true then ((rl_ref11_Valid p1).bind fun y5 => (rl_ref11_both_k1 y5)) else (rl_ref11_both_k1 false))
set_option maxRecDepth 100000 in
theorem rl_ref11_both_con (p0 : S_api_Rational) (p1 : S_api_Rational) (r : Bool) (h : rl_ref11_both p0 p1 = some r) : Con Try.prog 43 [.agg [cl 1 Ru32 p0.Num, cl 1 Ru32 p0.Den], .agg [cl 1 Ru32 p1.Num, cl 1 Ru32 p1.Den]] [] (vb r) [] := by
 refine con_of tt_ok1 0 Try.func43 (by kernel_rfl) rfl (by kernel_rfl) (fun base X _ => AW.post ?_)
 unfold rl_ref11_both at h
 refine AW.sg tt_ok1 [(3, .c (.ptr 1 2 0 0)), (2, .c (.ptr 0 2 0 0))] [0, 1] [(1, .box 44 [cl 1 Ru32 p1.Num, cl 1 Ru32 p1.Den]), (0, .box 44 [cl 1 Ru32 p0.Num, cl 1 Ru32 p0.Den])] 3 [] (by kernel_rfl) ?_
 refine AW.seq ?_
 refine AW.join (ι := Bool) (fun v => ⟨[(4, vb v)], [], 0⟩) (fun v : Bool => rl_ref11_both_k1 v = some r) (fun x1 h => ?_) ?_
 ·
  unfold rl_ref11_both_k1 at h
  refine AW.tn (AW.ret ?_)
  obtain rfl := some_inj h
  exact fn0 (.inr rfl) [] 0 (vb x1) (by kernel_rfl)
 ·
  obtain ⟨y2, e3, h⟩ := bnd_some h
  rcases ifs h with ⟨c4, hs⟩ | ⟨c4, hs⟩
  ·clear h; subst c4; have h := hs; clear hs
   obtain ⟨y5, e6, h⟩ := bnd_some h
   refine AW.rg tt_ok1 [(4, vb y5)] [] [] 8 [hn, hk (rl_ref11_Valid_con p0 true e3), hn, hn, hk (rl_ref11_Valid_con p1 y5 e6)] (by kernel_rfl) ?_
   exact jl y5 h (conv_re [] (by kernel_rfl))
  ·clear h; subst c4; have h := hs; clear hs
   refine AW.rg tt_ok1 [(4, vb false)] [] [] 9 [hn, hk (rl_ref11_Valid_con p0 false e3)] (by kernel_rfl) ?_
   exact jl false h (conv_re [] (by kernel_rfl))
/-! recordlink/recordlinkref10.product -/
noncomputable def rl_ref10_product_l2 (p0 : List Int) (p1 : List Int) (x6 : Int) (x12 : List Int) (x13 : Int) (x14 : Int) : Option (((List Int) × Int × Int) ⊕ ((List Int) × Int)) := if (decide (x14 < (p1.length : Int))) = true then (if 0 ≤ x6 then (if x6 < (p0.length : Int) then (if 0 ≤ x14 then (if x14 < (p1.length : Int) then (if 0 ≤ (i64.wrap (x6 + x14)) then (if (i64.wrap (x6 + x14)) < (x12.length : Int) then ((some (u64.wrap ((u64.wrap ((u64.wrap ((u64.wrap (p0.getD x6.toNat 0)) * (u64.wrap (p1.getD x14.toNat 0)))) + (u64.wrap (x12.getD (0 + (i64.wrap (x6 + x14)).toNat) 0)))) + x13))).bind fun z24 => (some (.inl ((x12.set (0 + (i64.wrap (x6 + x14)).toNat) (u32.wrap z24)), ishr .u64 z24 32, i64.wrap (x14 + 1))))) else none) else none) else none) else none) else none) else none) else (some (.inr (x12, x13)))
noncomputable def rl_ref10_product_l1 (p0 : List Int) (p1 : List Int) (x5 : List Int) (x6 : Int) : Option (((List Int) × Int) ⊕ (List Int)) := if (decide (x6 < (p0.length : Int))) = true then (bind2 (loop (fun v : (List Int) × Int × Int => rl_ref10_product_l2 p0 p1 x6 v.1 v.2.1 v.2.2) (x5, 0, 0)) fun x26 x27 => (if 0 ≤ (i64.wrap (x6 + (p1.length : Int))) then (if (i64.wrap (x6 + (p1.length : Int))) < (x26.length : Int) then (some (.inl ((x26.set (0 + (i64.wrap (x6 + (p1.length : Int))).toNat) (u32.wrap x27)), i64.wrap (x6 + 1)))) else none) else none)) else (some (.inr x5))
noncomputable def rl_ref10_product (p0 : List Int) (p1 : List Int) : Option (List Int) := if 0 ≤ (i64.wrap ((p0.length : Int) + (p1.length : Int))) then (if (i64.wrap ((p0.length : Int) + (p1.length : Int))) ≤ 1099511627776 then ((loop (fun v : (List Int) × Int => rl_ref10_product_l1 p0 p1 v.1 v.2) ((List.replicate ((i64.wrap ((p0.length : Int) + (p1.length : Int))).toNat) (0 : Int)), 0)).bind fun x31 => ((rl_ref10_trim x31).bind fun y32 => (some y32))) else none) else none
set_option maxRecDepth 100000 in
theorem rl_ref10_product_con (p0 : List Int) (p1 : List Int) (r : List Int) (h : rl_ref10_product p0 p1 = some r) : Con Try.prog 88 [vl 1 Ru32 p0, vl 1 Ru32 p1] [] (vl 1 Ru32 r) [] := by
 refine con_of tt_ok1 0 Try.func88 (by kernel_rfl) rfl (by kernel_rfl) (fun base X _ => AW.post ?_)
 unfold rl_ref10_product at h
 refine AW.sg tt_ok1 [] [] [] 1 [] (by kernel_rfl) ?_
 obtain ⟨g1, g2, h⟩ := ifd h
 refine AW.sg tt_ok1 [(5, .c (.ref 6 1 0 ((List.replicate ((i64.wrap ((p0.length : Int) + (p1.length : Int))).toNat) (0 : Int)).length)))] [6] [(6, .row 69 false 1 (List.replicate ((i64.wrap ((p0.length : Int) + (p1.length : Int))).toNat) (0 : Int)).length (Ru32 (List.replicate ((i64.wrap ((p0.length : Int) + (p1.length : Int))).toNat) (0 : Int))))] 8 [hn, hn, hn, hn, hn, hmk 0 Eu32 1 4 [.int .u32 0] rfl rfl (i64.wrap ((p0.length : Int) + (p1.length : Int))) (i64.wrap ((p0.length : Int) + (p1.length : Int))) g1 (Int.le_refl _) g2 (by decide)] (by kernel_rfl) ?_
 refine AW.seq ?_
 refine AW.sg tt_ok1 [(6, vi64 0)] [] [] 9 [] (by kernel_rfl) ?_
 refine AW.block ?_
 obtain ⟨x31, l34, h⟩ := bnd_some h
 refine AW.lp l34 (fun v => ⟨[(0, vl 1 Ru32 p0), (1, vl 1 Ru32 p1), (5, .c (.ref 0 1 0 v.1.length)), (6, vi64 v.2)], [(0, .row 69 false 1 v.1.length (Ru32 v.1))], 1⟩) (fun t : List Int => (.exit 0, ⟨[(5, .c (.ref 0 1 0 t.length))], [(0, .row 69 false 1 t.length (Ru32 t))], 1⟩)) (conv_re [(0, 6)] (by kernel_rfl)) (fun _ => tv) ?_ ?_
 ·
  clear l34 h
  intro v o h
  obtain ⟨x5, x6⟩ := v
  replace h : rl_ref10_product_l1 p0 p1 x5 x6 = some o := h
  unfold rl_ref10_product_l1 at h
  refine AW.seq ?_
  refine AW.sg tt_ok1 [(19, vb (decide (x6 < (p0.length : Int))))] [] [] 5 [] (by kernel_rfl) ?_
  refine AW.co h (by kernel_rfl) (fun c8 h => ?_) (fun c8 h => ?_)
  ·
   refine AW.skip (AW.tn ?_)
   refine AW.seq (AW.block ?_)
   refine AW.sg tt_ok1 [(7, vu64 0)] [] [] 6 [] (by kernel_rfl) ?_
   refine AW.seq ?_
   refine AW.sg tt_ok1 [(8, vi64 0)] [] [] 7 [] (by kernel_rfl) ?_
   refine AW.block ?_
   obtain ⟨x26, x27, l30, h⟩ := bind2_some h
   refine AW.lp l30 (fun v => ⟨[(0, vl 1 Ru32 p0), (1, vl 1 Ru32 p1), (5, .c (.ref 0 1 0 v.1.length)), (6, vi64 x6), (7, vu64 v.2.1), (8, vi64 v.2.2)], [(0, .row 69 false 1 v.1.length (Ru32 v.1))], 1⟩) (fun t : (List Int) × Int => (.exit 2, ⟨[(0, vl 1 Ru32 p0), (1, vl 1 Ru32 p1), (5, .c (.ref 0 1 0 t.1.length)), (6, vi64 x6), (7, vu64 t.2)], [(0, .row 69 false 1 t.1.length (Ru32 t.1))], 1⟩)) (conv_re [(0, 0)] (by kernel_rfl)) (fun _ => tv) ?_ ?_
   ·
    clear l30 h
    intro v o h
    obtain ⟨x12, x13, x14⟩ := v
    replace h : rl_ref10_product_l2 p0 p1 x6 x12 x13 x14 = some o := h
    unfold rl_ref10_product_l2 at h
    refine AW.seq ?_
    refine AW.sg tt_ok1 [(25, vb (decide (x14 < (p1.length : Int))))] [] [] 5 [] (by kernel_rfl) ?_
    refine AW.co h (by kernel_rfl) (fun c17 h => ?_) (fun c17 h => ?_)
    ·
     refine AW.skip (AW.tn ?_)
     refine AW.seq (AW.block ?_)
     obtain ⟨g18, g19, h⟩ := ifd h
     obtain ⟨g20, g21, h⟩ := ifd h
     obtain ⟨g22, g23, h⟩ := ifd h
     obtain ⟨z24, n25, h⟩ := bnd_some h
     replace n25 := some_inj n25
     refine AW.sd tt_ok1 mo1 [] [(9, vu64 z24)] [] 27 [hn, hn, hq g18 g19, hn, hn, hn, hn, hq g20 g21, hn, hn, hn, hn, hn, hn, hn, hq g22 g23, ho (p := (0 + (i64.wrap (x6 + x14)).toNat) < x12.length) (by have h1 : 0 ≤ (i64.wrap (x6 + x14)) := g22; have h2 : (i64.wrap (x6 + x14)) < (x12.length : Int) := g23; omega)] (by subst n25; kernel_rfl) ?_
     refine AW.sg tt_ok1 [] [0] [(0, .row 69 false 1 x12.length (Ru32 (x12.set (0 + (i64.wrap (x6 + x14)).toNat) (u32.wrap z24))))] 35 [hn, hn, hn, hn, hn, hn, hq g22 g23, hset 0 Eu32 x12 (0 + (i64.wrap (x6 + x14)).toNat) (u32.wrap z24) (n := x12.length) (by have h1 : 0 ≤ (i64.wrap (x6 + x14)) := g22; have h2 : (i64.wrap (x6 + x14)) < (x12.length : Int) := g23; omega) rfl] (by kernel_rfl) ?_
     refine AW.rg tt_ok1 [(7, vu64 (ishr .u64 z24 32))] [] [] 38 [hn, ho (p := 0 ≤ (32 : Int)) (by decide)] (by kernel_rfl) ?_
     refine AW.inBlock_normal (AW.tn ?_)
     refine AW.rg tt_ok1 [(8, vi64 (i64.wrap (x14 + 1)))] [] [] 41 [] (by kernel_rfl) ?_
     exact lpn h (Conv.trans (conv_tms [(5, .c (.ref 0 1 0 ((x12.set (0 + (i64.wrap (x6 + x14)).toNat) (u32.wrap z24)).length)))] ⟨⟨.c (.ref 0 1 0 x12.length), by kernel_rfl, ALe.len (by simp only [List.length_set])⟩, tv⟩) (Conv.trans (conv_rowN 0 69 false 1 x12.length ((x12.set (0 + (i64.wrap (x6 + x14)).toNat) (u32.wrap z24)).length) (Ru32 (x12.set (0 + (i64.wrap (x6 + x14)).toNat) (u32.wrap z24))) (by kernel_rfl) (by simp only [List.length_set])) (conv_re [(0, 0)] (by kernel_rfl))))
    ·
     refine AW.exit (AW.thenQ_exit ?_)
     exact lpo h rfl (conv_re [(0, 0)] (by kernel_rfl))
   ·
    show (_ : Exit → St → Prop) (.exit 2) _
    refine AW.inBlock_hit (AW.tn ?_)
    obtain ⟨g28, g29, h⟩ := ifd h
    refine AW.rg tt_ok1 [] [0] [(0, .row 69 false 1 x26.length (Ru32 (x26.set (0 + (i64.wrap (x6 + (p1.length : Int))).toNat) (u32.wrap x27))))] 10 [hn, hn, hn, hn, hn, hn, hn, hq g28 g29, hset 0 Eu32 x26 (0 + (i64.wrap (x6 + (p1.length : Int))).toNat) (u32.wrap x27) (n := x26.length) (by have h1 : 0 ≤ (i64.wrap (x6 + (p1.length : Int))) := g28; have h2 : (i64.wrap (x6 + (p1.length : Int))) < (x26.length : Int) := g29; omega) rfl] (by kernel_rfl) ?_
    refine AW.inBlock_normal (AW.tn ?_)
    refine AW.rg tt_ok1 [(6, vi64 (i64.wrap (x6 + 1)))] [] [] 13 [] (by kernel_rfl) ?_
    exact lpn h (Conv.trans (conv_tms [(5, .c (.ref 0 1 0 ((x26.set (0 + (i64.wrap (x6 + (p1.length : Int))).toNat) (u32.wrap x27)).length)))] ⟨⟨.c (.ref 0 1 0 x26.length), by kernel_rfl, ALe.len (by simp only [List.length_set])⟩, tv⟩) (Conv.trans (conv_rowN 0 69 false 1 x26.length ((x26.set (0 + (i64.wrap (x6 + (p1.length : Int))).toNat) (u32.wrap x27)).length) (Ru32 (x26.set (0 + (i64.wrap (x6 + (p1.length : Int))).toNat) (u32.wrap x27))) (by kernel_rfl) (by simp only [List.length_set])) (conv_re [(0, 0)] (by kernel_rfl))))
  ·
   refine AW.exit (AW.thenQ_exit ?_)
   exact lpo h rfl (conv_re [(0, 0)] (by kernel_rfl))
 ·
  show (_ : Exit → St → Prop) (.exit 0) _
  refine AW.inBlock_hit (AW.tn ?_)
  obtain ⟨y32, e33, h⟩ := bnd_some h
  refine AW.sg tt_ok1 [(4, vl 1 Ru32 y32)] [0] [] 3 [hn, hg [] [0] false 0 (q := (0 + x31.length ≤ x31.length) ∧ (True)) ⟨le0, tv⟩ (a0 := [vl 1 Ru32 x31]) (rl_ref10_trim_con x31 y32 e33) ⟨ArgLe.refl _, tv⟩ (fun h => by cases h)] (by kernel_rfl) ?_
  refine AW.ret ?_
  obtain rfl := some_inj h
  exact fn0 (.inr rfl) [] 0 (vl 1 Ru32 y32) (by kernel_rfl)
/-! recordlink/recordlinkref10.limited -/
noncomputable def rl_ref10_limited (p0 : List Int) : Option ((List Int) × Int) := if (decide ((p0.length : Int) > 64)) = true then (some (([] : List Int), 1)) else (some (p0, 0))
set_option maxRecDepth 100000 in
theorem rl_ref10_limited_con (p0 : List Int) (r : (List Int) × Int) (h : rl_ref10_limited p0 = some r) : Con Try.prog 87 [vl 1 Ru32 p0] [] (.tup [vl 1 Ru32 r.1, vi64 r.2]) [] := by
 refine con_of tt_ok1 0 Try.func87 (by kernel_rfl) rfl (by kernel_rfl) (fun base X _ => AW.post ?_)
 unfold rl_ref10_limited at h
 refine AW.sg tt_ok1 [] [] [] 2 [] (by kernel_rfl) ?_
 refine AW.seq ?_
 refine AW.sg tt_ok1 [(6, vb (decide ((p0.length : Int) > 64)))] [] [] 5 [] (by kernel_rfl) ?_
 refine AW.co h (by kernel_rfl) (fun c1 h => ?_) (fun c1 h => ?_)
 ·
  refine AW.sg tt_ok1 [(3, vi64 1), (2, .c (.t (.v (.slice none 0 0))))] [] [] 7 [] (by kernel_rfl) ?_
  refine AW.ret (AW.tr ?_)
  obtain rfl := some_inj h
  exact fnR (.inr rfl) [] 0 (.tup [vl 1 Ru32 ([] : List Int), vi64 1]) (conv_tms [(2, vl 1 Ru32 ([] : List Int))] ⟨⟨.c (.t (.v (.slice none 0 0))), by kernel_rfl, ALe.c (CLe.nil rfl)⟩, tv⟩) (by kernel_rfl)
 ·
  refine AW.skip (AW.tn ?_)
  refine AW.sg tt_ok1 [(3, vi64 0), (2, vl 1 Ru32 p0)] [] [] 8 [] (by kernel_rfl) ?_
  refine AW.ret ?_
  obtain rfl := some_inj h
  exact fn0 (.inr rfl) [] 0 (.tup [vl 1 Ru32 p0, vi64 0]) (by kernel_rfl)
/-! recordlink/recordlinkref10.Mul -/
noncomputable def rl_ref10_Mul_k1 (p0 : List Int) (p1 : List Int) (x1 : Bool) : Option ((List Int) × Int) := if x1 = true then (some (([] : List Int), 20)) else ((rl_ref10_product p0 p1).bind fun y3 => (bind2 (rl_ref10_limited y3) fun y5 y6 => (some (y5, y6))))
noncomputable def rl_ref10_Mul (p0 : List Int) (p1 : List Int) : Option ((List Int) × Int) := (rl_ref10_Valid p0).bind fun y8 => (if (!y8) = true then (rl_ref10_Mul_k1 p0 p1 true) else ((rl_ref10_Valid p1).bind fun y11 => (rl_ref10_Mul_k1 p0 p1 (!y11))))
set_option maxRecDepth 100000 in
theorem rl_ref10_Mul_con (p0 : List Int) (p1 : List Int) (r : (List Int) × Int) (h : rl_ref10_Mul p0 p1 = some r) : Con Try.prog 66 [vl 1 Ru32 p0, vl 1 Ru32 p1] [] (.tup [vl 1 Ru32 r.1, vi64 r.2]) [] := by
 refine con_of tt_ok1 0 Try.func66 (by kernel_rfl) rfl (by kernel_rfl) (fun base X _ => AW.post ?_)
 unfold rl_ref10_Mul at h
 refine AW.sg tt_ok1 [] [] [] 2 [] (by kernel_rfl) ?_
 refine AW.seq (AW.seq ?_)
 refine AW.join (ι := Bool) (fun v => ⟨[(0, vl 1 Ru32 p0), (1, vl 1 Ru32 p1), (13, vb v)], [], 0⟩) (fun v : Bool => rl_ref10_Mul_k1 p0 p1 v = some r) (fun x1 h => ?_) ?_
 ·
  unfold rl_ref10_Mul_k1 at h
  refine AW.tn ?_
  refine AW.co h (by kernel_rfl) (fun c2 h => ?_) (fun c2 h => ?_)
  ·
   refine AW.sg tt_ok1 [(5, vi64 20), (4, .c (.t (.v (.slice none 0 0))))] [] [] 2 [] (by kernel_rfl) ?_
   refine AW.ret (AW.tr ?_)
   obtain rfl := some_inj h
   exact fnR (.inr rfl) [] 0 (.tup [vl 1 Ru32 ([] : List Int), vi64 20]) (conv_tms [(4, vl 1 Ru32 ([] : List Int))] ⟨⟨.c (.t (.v (.slice none 0 0))), by kernel_rfl, ALe.c (CLe.nil rfl)⟩, tv⟩) (by kernel_rfl)
  ·
   refine AW.skip (AW.tn ?_)
   obtain ⟨y3, e4, h⟩ := bnd_some h
   obtain ⟨y5, y6, e7, h⟩ := bind2_some h
   refine AW.sg tt_ok1 [(5, vi64 y6), (4, vl 1 Ru32 y5)] [] [] 6 [hn, hn, hk (rl_ref10_product_con p0 p1 y3 e4), hk (rl_ref10_limited_con y3 (y5, y6) e7)] (by kernel_rfl) ?_
   refine AW.ret ?_
   obtain rfl := some_inj h
   exact fn0 (.inr rfl) [] 0 (.tup [vl 1 Ru32 y5, vi64 y6]) (by kernel_rfl)
 ·
  obtain ⟨y8, e9, h⟩ := bnd_some h
  rcases ifs h with ⟨c10, h⟩ | ⟨c10, h⟩
  ·
   refine AW.rg tt_ok1 [(13, vb true)] [] [] 9 [hn, hk (rl_ref10_Valid_con p0 y8 e9), ht c10] (by kernel_rfl) ?_
   exact jl true h (conv_re [] (by kernel_rfl))
  ·
   obtain ⟨y11, e12, h⟩ := bnd_some h
   refine AW.rg tt_ok1 [(13, vb (!y11))] [] [] 8 [hn, hk (rl_ref10_Valid_con p0 y8 e9), hf c10, hn, hn, hk (rl_ref10_Valid_con p1 y11 e12)] (by kernel_rfl) ?_
   exact jl (!y11) h (conv_re [] (by kernel_rfl))
/-! recordlink/recordlinkref11.cross -/
noncomputable def rl_ref11_cross_k1 (y1 : List Int) (y4 : List Int) (y7 : List Int) (y8 : Int) (x10 : Int) : Option ((List Int) × (List Int) × (List Int) × Int × Int) := some (y1, y4, y7, x10, y8)
noncomputable def rl_ref11_cross (p0 : S_api_Rational) (p1 : S_api_Rational) : Option ((List Int) × (List Int) × (List Int) × Int × Int) := bind2 (rl_ref10_Mul p0.Num p1.Den) fun y1 y2 => (bind2 (rl_ref10_Mul p1.Num p0.Den) fun y4 y5 => (bind2 (rl_ref10_Mul p0.Den p1.Den) fun y7 y8 => (if (y2 == 0) = true then (rl_ref11_cross_k1 y1 y4 y7 y8 y5) else (rl_ref11_cross_k1 y1 y4 y7 y8 y2))))
set_option maxRecDepth 100000 in
theorem rl_ref11_cross_con (p0 : S_api_Rational) (p1 : S_api_Rational) (r : (List Int) × (List Int) × (List Int) × Int × Int) (h : rl_ref11_cross p0 p1 = some r) : Con Try.prog 44 [.agg [cl 1 Ru32 p0.Num, cl 1 Ru32 p0.Den], .agg [cl 1 Ru32 p1.Num, cl 1 Ru32 p1.Den]] [] (.tup [vl 1 Ru32 r.1, vl 1 Ru32 r.2.1, vl 1 Ru32 r.2.2.1, vi64 r.2.2.2.1, vi64 r.2.2.2.2]) [] := by
 refine con_of tt_ok1 0 Try.func44 (by kernel_rfl) rfl (by kernel_rfl) (fun base X _ => AW.post ?_)
 unfold rl_ref11_cross at h
 refine AW.sg tt_ok1 [(3, .c (.ptr 1 2 0 0)), (2, .c (.ptr 0 2 0 0))] [0, 1] [(1, .box 44 [cl 1 Ru32 p1.Num, cl 1 Ru32 p1.Den]), (0, .box 44 [cl 1 Ru32 p0.Num, cl 1 Ru32 p0.Den])] 7 [] (by kernel_rfl) ?_
 obtain ⟨y1, y2, e3, h⟩ := bind2_some h
 refine AW.sg tt_ok1 [(10, vi64 y2), (9, vl 1 Ru32 y1)] [] [] 16 [hn, hn, hn, hn, hk (rl_ref10_Mul_con p0.Num p1.Den (y1, y2) e3)] (by kernel_rfl) ?_
 obtain ⟨y4, y5, e6, h⟩ := bind2_some h
 refine AW.sg tt_ok1 [(12, vi64 y5), (11, vl 1 Ru32 y4)] [] [] 25 [hn, hn, hn, hn, hk (rl_ref10_Mul_con p1.Num p0.Den (y4, y5) e6)] (by kernel_rfl) ?_
 obtain ⟨y7, y8, e9, h⟩ := bind2_some h
 refine AW.sg tt_ok1 [(14, vi64 y8), (13, vl 1 Ru32 y7)] [] [] 34 [hn, hn, hn, hn, hk (rl_ref10_Mul_con p0.Den p1.Den (y7, y8) e9)] (by kernel_rfl) ?_
 refine AW.seq ?_
 refine AW.join (ι := Int) (fun v => ⟨[(9, vl 1 Ru32 y1), (10, vi64 v), (11, vl 1 Ru32 y4), (13, vl 1 Ru32 y7), (14, vi64 y8)], [], 0⟩) (fun v : Int => rl_ref11_cross_k1 y1 y4 y7 y8 v = some r) (fun x10 h => ?_) ?_
 ·
  unfold rl_ref11_cross_k1 at h
  refine AW.tn ?_
  refine AW.sg tt_ok1 [(8, vi64 y8), (7, vi64 x10), (6, vl 1 Ru32 y7), (5, vl 1 Ru32 y4), (4, vl 1 Ru32 y1)] [] [] 10 [] (by kernel_rfl) ?_
  refine AW.ret ?_
  obtain rfl := some_inj h
  exact fn0 (.inr rfl) [] 0 (.tup [vl 1 Ru32 y1, vl 1 Ru32 y4, vl 1 Ru32 y7, vi64 x10, vi64 y8]) (by kernel_rfl)
 ·
  refine AW.sg tt_ok1 [(40, vb (y2 == 0))] [] [] 36 [] (by kernel_rfl) ?_
  refine AW.co h (by kernel_rfl) (fun c11 h => ?_) (fun c11 h => ?_)
  ·
   refine AW.rg tt_ok1 [(10, vi64 y5)] [] [] 38 [] (by kernel_rfl) ?_
   exact jl y5 h (conv_re [] (by kernel_rfl))
  ·
   refine AW.skip ?_
   exact jl y2 h (conv_re [] (by kernel_rfl))
/-! recordlink/recordlinkref11.Compare -/
noncomputable def rl_ref11_Compare (p0 : S_api_Rational) (p1 : S_api_Rational) : Option (Int × Int) := (rl_ref11_both p0 p1).bind fun y1 => (if (!y1) = true then (some (0, 20)) else (bind5 (rl_ref11_cross p0 p1) fun y4 y5 y6 y7 y8 => (if (y7 != 0) = true then (some (0, y7)) else ((rl_ref10_Compare y4 y5).bind fun y11 => (some (y11, 0))))))
set_option maxRecDepth 100000 in
theorem rl_ref11_Compare_con (p0 : S_api_Rational) (p1 : S_api_Rational) (r : Int × Int) (h : rl_ref11_Compare p0 p1 = some r) : Con Try.prog 21 [.agg [cl 1 Ru32 p0.Num, cl 1 Ru32 p0.Den], .agg [cl 1 Ru32 p1.Num, cl 1 Ru32 p1.Den]] [] (.tup [vi64 r.1, vi64 r.2]) [] := by
 refine con_of tt_ok1 0 Try.func21 (by kernel_rfl) rfl (by kernel_rfl) (fun base X _ => AW.post ?_)
 unfold rl_ref11_Compare at h
 refine AW.sg tt_ok1 [(3, .c (.ptr 1 2 0 0)), (2, .c (.ptr 0 2 0 0))] [0, 1] [(1, .box 44 [cl 1 Ru32 p1.Num, cl 1 Ru32 p1.Den]), (0, .box 44 [cl 1 Ru32 p0.Num, cl 1 Ru32 p0.Den])] 4 [] (by kernel_rfl) ?_
 refine AW.seq ?_
 obtain ⟨y1, e2, h⟩ := bnd_some h
 refine AW.sg tt_ok1 [(14, vb (!y1))] [] [] 7 [hn, hn, hk (rl_ref11_both_con p0 p1 y1 e2)] (by kernel_rfl) ?_
 refine AW.co h (by kernel_rfl) (fun c3 h => ?_) (fun c3 h => ?_)
 ·
  refine AW.sg tt_ok1 [(5, vi64 20), (4, vi64 0)] [] [] 9 [] (by kernel_rfl) ?_
  refine AW.ret (AW.tr ?_)
  obtain rfl := some_inj h
  exact fn0 (.inr rfl) [] 0 (.tup [vi64 0, vi64 20]) (by kernel_rfl)
 ·
  refine AW.skip (AW.tn ?_)
  obtain ⟨y4, y5, y6, y7, y8, e9, h⟩ := bind5_some h
  refine AW.sg tt_ok1 [(9, vi64 y7), (7, vl 1 Ru32 y5), (6, vl 1 Ru32 y4)] [] [] 20 [hn, hn, hk (rl_ref11_cross_con p0 p1 (y4, y5, y6, y7, y8) e9)] (by kernel_rfl) ?_
  refine AW.seq ?_
  refine AW.sg tt_ok1 [(25, vb (y7 != 0))] [] [] 22 [] (by kernel_rfl) ?_
  refine AW.co h (by kernel_rfl) (fun c10 h => ?_) (fun c10 h => ?_)
  ·
   refine AW.sg tt_ok1 [(5, vi64 y7), (4, vi64 0)] [] [] 25 [] (by kernel_rfl) ?_
   refine AW.ret (AW.tr ?_)
   obtain rfl := some_inj h
   exact fn0 (.inr rfl) [] 0 (.tup [vi64 0, vi64 y7]) (by kernel_rfl)
  ·
   refine AW.skip (AW.tn ?_)
   obtain ⟨y11, e12, h⟩ := bnd_some h
   refine AW.sg tt_ok1 [(5, vi64 0), (4, vi64 y11)] [] [] 26 [hn, hn, hk (rl_ref10_Compare_con y4 y5 y11 e12)] (by kernel_rfl) ?_
   refine AW.ret ?_
   obtain rfl := some_inj h
   exact fn0 (.inr rfl) [] 0 (.tup [vi64 y11, vi64 0]) (by kernel_rfl)
/-! recordlink/quality.Add -/
noncomputable def quality_Add (p0 : S_api_Estimate) (p1 : S_api_Estimate) : Option (S_api_Estimate × Int) := (quality_Check p0).bind fun y1 => (if (y1 != 0) = true then (some ((⟨0, 0, 0⟩ : S_api_Estimate), y1)) else ((quality_Check p1).bind fun y4 => (if (y4 != 0) = true then (some ((⟨0, 0, 0⟩ : S_api_Estimate), y4)) else ((quality_Check (⟨i64.wrap (p0.False + p1.False), i64.wrap (p0.Missed + p1.Missed), i64.wrap (p0.True + p1.True)⟩ : S_api_Estimate)).bind fun y7 => (if (y7 != 0) = true then (some ((⟨0, 0, 0⟩ : S_api_Estimate), 1)) else (some ((⟨i64.wrap (p0.False + p1.False), i64.wrap (p0.Missed + p1.Missed), i64.wrap (p0.True + p1.True)⟩ : S_api_Estimate), 0)))))))
set_option maxRecDepth 100000 in
theorem quality_Add_con (p0 : S_api_Estimate) (p1 : S_api_Estimate) (r : S_api_Estimate × Int) (h : quality_Add p0 p1 = some r) : Con Try.prog 22 [.agg [ci64 p0.False, ci64 p0.Missed, ci64 p0.True], .agg [ci64 p1.False, ci64 p1.Missed, ci64 p1.True]] [] (.tup [.agg [ci64 r.1.False, ci64 r.1.Missed, ci64 r.1.True], vi64 r.2]) [] := by
 refine con_of tt_ok1 0 Try.func22 (by kernel_rfl) rfl (by kernel_rfl) (fun base X _ => AW.post ?_)
 unfold quality_Add at h
 refine AW.sg tt_ok1 [(4, .c (.ptr 2 3 0 0)), (3, .c (.ptr 1 3 0 0)), (2, .c (.ptr 0 3 0 0))] [0, 1, 2] [(2, .box 35 [ci64 0, ci64 0, ci64 0]), (1, .box 35 [ci64 p1.False, ci64 p1.Missed, ci64 p1.True]), (0, .box 35 [ci64 p0.False, ci64 p0.Missed, ci64 p0.True])] 4 [] (by kernel_rfl) ?_
 refine AW.seq ?_
 obtain ⟨y1, e2, h⟩ := bnd_some h
 refine AW.sg tt_ok1 [(6, vi64 y1)] [] [] 6 [hn, hk (quality_Check_con p0 y1 e2)] (by kernel_rfl) ?_
 refine AW.sg tt_ok1 [(12, vb (y1 != 0))] [] [] 8 [] (by kernel_rfl) ?_
 refine AW.co h (by kernel_rfl) (fun c3 h => ?_) (fun c3 h => ?_)
 ·
  refine AW.sg tt_ok1 [(5, vi64 y1)] [2] [(2, .box 35 [ci64 0, ci64 0, ci64 0])] 12 [] (by kernel_rfl) ?_
  refine AW.ret (AW.tr ?_)
  obtain rfl := some_inj h
  exact fn0 (.inr rfl) [] 0 (.tup [.agg [ci64 0, ci64 0, ci64 0], vi64 y1]) (by kernel_rfl)
 ·
  refine AW.skip (AW.tn (AW.seq ?_))
  obtain ⟨y4, e5, h⟩ := bnd_some h
  refine AW.sg tt_ok1 [(7, vi64 y4)] [] [] 10 [hn, hk (quality_Check_con p1 y4 e5)] (by kernel_rfl) ?_
  refine AW.sg tt_ok1 [(18, vb (y4 != 0))] [] [] 12 [] (by kernel_rfl) ?_
  refine AW.co h (by kernel_rfl) (fun c6 h => ?_) (fun c6 h => ?_)
  ·
   refine AW.sg tt_ok1 [(5, vi64 y4)] [2] [(2, .box 35 [ci64 0, ci64 0, ci64 0])] 16 [] (by kernel_rfl) ?_
   refine AW.ret (AW.tr ?_)
   obtain rfl := some_inj h
   exact fn0 (.inr rfl) [] 0 (.tup [.agg [ci64 0, ci64 0, ci64 0], vi64 y4]) (by kernel_rfl)
  ·
   refine AW.skip (AW.tn ?_)
   refine AW.sg tt_ok1 [(8, .c (.ptr 28 3 0 0))] [28] [(28, .box 35 [ci64 (i64.wrap (p0.False + p1.False)), ci64 (i64.wrap (p0.Missed + p1.Missed)), ci64 (i64.wrap (p0.True + p1.True))])] 30 [] (by kernel_rfl) ?_
   refine AW.seq ?_
   obtain ⟨y7, e8, h⟩ := bnd_some h
   refine AW.sg tt_ok1 [(39, vb (y7 != 0))] [] [] 32 [hn, hk (quality_Check_con (⟨i64.wrap (p0.False + p1.False), i64.wrap (p0.Missed + p1.Missed), i64.wrap (p0.True + p1.True)⟩ : S_api_Estimate) y7 e8)] (by kernel_rfl) ?_
   refine AW.co h (by kernel_rfl) (fun c9 h => ?_) (fun c9 h => ?_)
   ·
    refine AW.sg tt_ok1 [(5, vi64 1)] [2] [(2, .box 35 [ci64 0, ci64 0, ci64 0])] 35 [] (by kernel_rfl) ?_
    refine AW.ret (AW.tr ?_)
    obtain rfl := some_inj h
    exact fn0 (.inr rfl) [] 0 (.tup [.agg [ci64 0, ci64 0, ci64 0], vi64 1]) (by kernel_rfl)
   ·
    refine AW.skip (AW.tn ?_)
    refine AW.sg tt_ok1 [(5, vi64 0)] [2] [(2, .box 35 [ci64 (i64.wrap (p0.False + p1.False)), ci64 (i64.wrap (p0.Missed + p1.Missed)), ci64 (i64.wrap (p0.True + p1.True))])] 35 [] (by kernel_rfl) ?_
    refine AW.ret ?_
    obtain rfl := some_inj h
    exact fn0 (.inr rfl) [] 0 (.tup [.agg [ci64 (i64.wrap (p0.False + p1.False)), ci64 (i64.wrap (p0.Missed + p1.Missed)), ci64 (i64.wrap (p0.True + p1.True))], vi64 0]) (by kernel_rfl)
/-! recordlink/pattern.Size -/
noncomputable def pattern_Size_l2 (p0 : Int) (x5 : Int) (x6 : Int) : Option ((Int × Int) ⊕ Int) := if (decide (x6 < p0)) = true then (some (.inl (i64.wrap (x5 * 3), i64.wrap (x6 + 1)))) else (some (.inr x5))
noncomputable def pattern_Size_k1 (p0 : Int) (x1 : Bool) : Option (Int × Int) := if x1 = true then (some (0, 8)) else ((loop (fun v : Int × Int => pattern_Size_l2 p0 v.1 v.2) (1, 0)).bind fun x9 => (some (x9, 0)))
noncomputable def pattern_Size (p0 : Int) : Option (Int × Int) := if (decide (p0 < 1)) = true then (pattern_Size_k1 p0 true) else (pattern_Size_k1 p0 (decide (p0 > 5)))
set_option maxRecDepth 100000 in
theorem pattern_Size_con (p0 : Int) (r : Int × Int) (h : pattern_Size p0 = some r) : Con Try.prog 95 [vi64 p0] [] (.tup [vi64 r.1, vi64 r.2]) [] := by
 refine con_of tt_ok1 0 Try.func95 (by kernel_rfl) rfl (by kernel_rfl) (fun base X _ => AW.post ?_)
 unfold pattern_Size at h
 refine AW.sg tt_ok1 [] [] [] 2 [] (by kernel_rfl) ?_
 refine AW.seq (AW.seq ?_)
 refine AW.join (ι := Bool) (fun v => ⟨[(0, vi64 p0), (10, vb v)], [], 0⟩) (fun v : Bool => pattern_Size_k1 p0 v = some r) (fun x1 h => ?_) ?_
 ·
  unfold pattern_Size_k1 at h
  refine AW.tn ?_
  refine AW.co h (by kernel_rfl) (fun c2 h => ?_) (fun c2 h => ?_)
  ·
   refine AW.sg tt_ok1 [(3, vi64 8), (2, vi64 0)] [] [] 2 [] (by kernel_rfl) ?_
   refine AW.ret (AW.tr ?_)
   obtain rfl := some_inj h
   exact fn0 (.inr rfl) [] 0 (.tup [vi64 0, vi64 8]) (by kernel_rfl)
  ·
   refine AW.skip (AW.tn ?_)
   refine AW.sg tt_ok1 [(4, vi64 1)] [] [] 1 [] (by kernel_rfl) ?_
   refine AW.seq ?_
   refine AW.sg tt_ok1 [(12, vi64 0), (11, vi64 p0)] [] [] 3 [] (by kernel_rfl) ?_
   refine AW.block ?_
   obtain ⟨x9, l10, h⟩ := bnd_some h
   refine AW.lp l10 (fun v => ⟨[(4, vi64 v.1), (11, vi64 p0), (12, vi64 v.2)], [], 0⟩) (fun t : Int => (.exit 0, ⟨[(4, vi64 t)], [], 0⟩)) (conv_re [] (by kernel_rfl)) (fun _ => tv) ?_ ?_
   ·
    clear l10 h
    intro v o h
    obtain ⟨x5, x6⟩ := v
    replace h : pattern_Size_l2 p0 x5 x6 = some o := h
    unfold pattern_Size_l2 at h
    refine AW.sg tt_ok1 [(13, vb (decide (x6 < p0)))] [] [] 1 [] (by kernel_rfl) ?_
    refine AW.seq ?_
    refine AW.co h (by kernel_rfl) (fun c8 h => ?_) (fun c8 h => ?_)
    ·
     refine AW.skip (AW.tn ?_)
     refine AW.seq (AW.block ?_)
     refine AW.rg tt_ok1 [(4, vi64 (i64.wrap (x5 * 3)))] [] [] 4 [] (by kernel_rfl) ?_
     refine AW.inBlock_normal (AW.tn ?_)
     refine AW.rg tt_ok1 [(12, vi64 (i64.wrap (x6 + 1)))] [] [] 6 [] (by kernel_rfl) ?_
     exact lpn h (conv_re [] (by kernel_rfl))
    ·
     refine AW.exit (AW.thenQ_exit ?_)
     exact lpo h rfl (conv_re [] (by kernel_rfl))
   ·
    show (_ : Exit → St → Prop) (.exit 0) _
    refine AW.inBlock_hit (AW.tn ?_)
    refine AW.sg tt_ok1 [(3, vi64 0), (2, vi64 x9)] [] [] 3 [] (by kernel_rfl) ?_
    refine AW.ret ?_
    obtain rfl := some_inj h
    exact fn0 (.inr rfl) [] 0 (.tup [vi64 x9, vi64 0]) (by kernel_rfl)
 ·
  rcases ifs h with ⟨c11, h⟩ | ⟨c11, h⟩
  ·
   refine AW.rg tt_ok1 [(10, vb true)] [] [] 8 [hn, ht c11] (by kernel_rfl) ?_
   exact jl true h (conv_re [] (by kernel_rfl))
  ·
   refine AW.rg tt_ok1 [(10, vb (decide (p0 > 5)))] [] [] 8 [hn, hf c11] (by kernel_rfl) ?_
   exact jl (decide (p0 > 5)) h (conv_re [] (by kernel_rfl))
/-! recordlink/pattern.count -/
noncomputable def pattern_count_k1 (x1 : Bool) : Option Bool := some x1
noncomputable def pattern_count (p0 : Int) : Option Bool := if (decide (p0 ≥ 0)) = true then (pattern_count_k1 (decide (p0 ≤ 4096))) else (pattern_count_k1 false)
set_option maxRecDepth 100000 in
theorem pattern_count_con (p0 : Int) (r : Bool) (h : pattern_count p0 = some r) : Con Try.prog 97 [vi64 p0] [] (vb r) [] := by
 refine con_of tt_ok1 0 Try.func97 (by kernel_rfl) rfl (by kernel_rfl) (fun base X _ => AW.post ?_)
 unfold pattern_count at h
 refine AW.sg tt_ok1 [] [] [] 1 [] (by kernel_rfl) ?_
 refine AW.seq ?_
 refine AW.join (ι := Bool) (fun v => ⟨[(2, vb v)], [], 0⟩) (fun v : Bool => pattern_count_k1 v = some r) (fun x1 h => ?_) ?_
 ·
  unfold pattern_count_k1 at h
  refine AW.tn (AW.ret ?_)
  obtain rfl := some_inj h
  exact fn0 (.inr rfl) [] 0 (vb x1) (by kernel_rfl)
 ·
  rcases ifs h with ⟨c2, h⟩ | ⟨c2, h⟩
  ·
   refine AW.rg tt_ok1 [(2, vb (decide (p0 ≤ 4096)))] [] [] 8 [hn, ht c2] (by kernel_rfl) ?_
   exact jl (decide (p0 ≤ 4096)) h (conv_re [] (by kernel_rfl))
  ·
   refine AW.rg tt_ok1 [(2, vb false)] [] [] 8 [hn, hf c2] (by kernel_rfl) ?_
   exact jl false h (conv_re [] (by kernel_rfl))
/-! recordlink/pattern.sum -/
noncomputable def pattern_sum_l1 (p0 : List Int) (x3 : Int) (x4 : Int) : Option ((Int × Int) ⊕ (Int ⊕ Unit)) := if (decide (x4 < (p0.length : Int))) = true then (if 0 ≤ x4 then (if x4 < (p0.length : Int) then ((pattern_count (p0.getD x4.toNat 0)).bind fun y9 => (if (!y9) = true then (some (.inr (.inr ()))) else (some (.inl (i64.wrap (x3 + (p0.getD x4.toNat 0)), i64.wrap (x4 + 1)))))) else none) else none) else (some (.inr (.inl x3)))
noncomputable def pattern_sum_a2 (x12 : Int) : Option (Int × Bool) := some (x12, true)
noncomputable def pattern_sum_a3 : Option (Int × Bool) := some (0, false)
noncomputable def pattern_sum (p0 : List Int) : Option (Int × Bool) := bindE (loop (fun v : Int × Int => pattern_sum_l1 p0 v.1 v.2) (0, 0)) (fun t => pattern_sum_a2 t) (fun t => pattern_sum_a3)
set_option maxRecDepth 100000 in
theorem pattern_sum_con (p0 : List Int) (r : Int × Bool) (h : pattern_sum p0 = some r) : Con Try.prog 96 [vl 1 Ri64 p0] [] (.tup [vi64 r.1, vb r.2]) [] := by
 refine con_of tt_ok1 0 Try.func96 (by kernel_rfl) rfl (by kernel_rfl) (fun base X _ => AW.post ?_)
 unfold pattern_sum at h
 refine AW.sg tt_ok1 [] [] [] 2 [] (by kernel_rfl) ?_
 refine AW.sg tt_ok1 [(4, vi64 0)] [] [] 3 [] (by kernel_rfl) ?_
 refine AW.seq ?_
 refine AW.sg tt_ok1 [(9, vi64 0), (8, vi64 (p0.length : Int)), (7, vl 1 Ri64 p0)] [] [] 6 [] (by kernel_rfl) ?_
 refine AW.block ?_
 refine AW.lpE h (fun v => ⟨[(4, vi64 v.1), (7, vl 1 Ri64 p0), (8, vi64 (p0.length : Int)), (9, vi64 v.2)], [], 0⟩) (fun t => (.exit 0, ⟨[(4, vi64 t)], [], 0⟩)) (fun t => (.ret, ⟨[(2, vi64 0), (3, vb false)], [], 0⟩)) (conv_re [] (by kernel_rfl)) (fun _ => tv) (fun _ => tv) ?_ (fun x12 h => ?_) (fun t h => ?_)
 ·
  clear h
  intro v o h
  obtain ⟨x3, x4⟩ := v
  replace h : pattern_sum_l1 p0 x3 x4 = some o := h
  unfold pattern_sum_l1 at h
  refine AW.sg tt_ok1 [(10, vb (decide (x4 < (p0.length : Int))))] [] [] 1 [] (by kernel_rfl) ?_
  refine AW.seq ?_
  refine AW.co h (by kernel_rfl) (fun c6 h => ?_) (fun c6 h => ?_)
  ·
   refine AW.skip (AW.tn ?_)
   refine AW.seq (AW.block ?_)
   obtain ⟨g7, g8, h⟩ := ifd h
   refine AW.sg tt_ok1 [(6, vi64 (p0.getD x4.toNat 0))] [] [] 4 [hq g7 g8] (by kernel_rfl) ?_
   refine AW.seq ?_
   obtain ⟨y9, e10, h⟩ := bnd_some h
   refine AW.sg tt_ok1 [(15, vb (!y9))] [] [] 6 [hn, hk (pattern_count_con (p0.getD x4.toNat 0) y9 e10)] (by kernel_rfl) ?_
   refine AW.co h (by kernel_rfl) (fun c11 h => ?_) (fun c11 h => ?_)
   ·
    refine AW.sg tt_ok1 [(3, vb false), (2, vi64 0)] [] [] 8 [] (by kernel_rfl) ?_
    refine AW.ret (AW.tr ?_)
    refine AW.inBlock_ret (AW.tr ?_)
    exact lpo h rfl (conv_re [] (by kernel_rfl))
   ·
    refine AW.skip (AW.tn ?_)
    refine AW.rg tt_ok1 [(4, vi64 (i64.wrap (x3 + (p0.getD x4.toNat 0))))] [] [] 10 [] (by kernel_rfl) ?_
    refine AW.inBlock_normal (AW.tn ?_)
    refine AW.rg tt_ok1 [(9, vi64 (i64.wrap (x4 + 1)))] [] [] 12 [] (by kernel_rfl) ?_
    exact lpn h (conv_re [] (by kernel_rfl))
  ·
   refine AW.exit (AW.thenQ_exit ?_)
   exact lpo h rfl (conv_re [] (by kernel_rfl))
 ·
  unfold pattern_sum_a2 at h
  show (_ : Exit → St → Prop) (.exit 0) _
  refine AW.inBlock_hit (AW.tn ?_)
  refine AW.sg tt_ok1 [(3, vb true), (2, vi64 x12)] [] [] 3 [] (by kernel_rfl) ?_
  refine AW.ret ?_
  obtain rfl := some_inj h
  exact fn0 (.inr rfl) [] 0 (.tup [vi64 x12, vb true]) (by kernel_rfl)
 ·
  replace h : pattern_sum_a3 = some r := h
  unfold pattern_sum_a3 at h
  show (_ : Exit → St → Prop) (.ret) _
  refine AW.inBlock_ret (AW.tr ?_)
  obtain rfl := some_inj h
  exact fn0 (.inr rfl) [] 0 (.tup [vi64 0, vb false]) (by kernel_rfl)
/-! recordlink/pattern.Check -/
noncomputable def pattern_Check_k1 (x9 : Bool) : Option Int := if x9 = true then (some 19) else (some 0)
noncomputable def pattern_Check (p0 : List Int) (p1 : Int) : Option Int := bind2 (pattern_Size p1) fun y1 y2 => (if (y2 != 0) = true then (some y2) else (if ((p0.length : Int) != y1) = true then (some 8) else (bind2 (pattern_sum p0) fun y6 y7 => (if (!y7) = true then (pattern_Check_k1 true) else ((pattern_count y6).bind fun y12 => (pattern_Check_k1 (!y12)))))))
set_option maxRecDepth 100000 in
theorem pattern_Check_con (p0 : List Int) (p1 : Int) (r : Int) (h : pattern_Check p0 p1 = some r) : Con Try.prog 69 [vl 1 Ri64 p0, vi64 p1] [] (vi64 r) [] := by
 refine con_of tt_ok1 0 Try.func69 (by kernel_rfl) rfl (by kernel_rfl) (fun base X _ => AW.post ?_)
 unfold pattern_Check at h
 refine AW.sg tt_ok1 [] [] [] 1 [] (by kernel_rfl) ?_
 obtain ⟨y1, y2, e3, h⟩ := bind2_some h
 refine AW.sg tt_ok1 [(6, vi64 y2), (5, vi64 y1)] [] [] 7 [hn, hk (pattern_Size_con p1 (y1, y2) e3)] (by kernel_rfl) ?_
 refine AW.seq ?_
 refine AW.sg tt_ok1 [(15, vb (y2 != 0))] [] [] 9 [] (by kernel_rfl) ?_
 refine AW.co h (by kernel_rfl) (fun c4 h => ?_) (fun c4 h => ?_)
 ·
  refine AW.sg tt_ok1 [(4, vi64 y2)] [] [] 11 [] (by kernel_rfl) ?_
  refine AW.ret (AW.tr ?_)
  obtain rfl := some_inj h
  exact fn0 (.inr rfl) [] 0 (vi64 y2) (by kernel_rfl)
 ·
  refine AW.skip (AW.tn (AW.seq ?_))
  refine AW.sg tt_ok1 [(20, vb ((p0.length : Int) != y1))] [] [] 13 [] (by kernel_rfl) ?_
  refine AW.co h (by kernel_rfl) (fun c5 h => ?_) (fun c5 h => ?_)
  ·
   refine AW.sg tt_ok1 [(4, vi64 8)] [] [] 14 [] (by kernel_rfl) ?_
   refine AW.ret (AW.tr ?_)
   obtain rfl := some_inj h
   exact fn0 (.inr rfl) [] 0 (vi64 8) (by kernel_rfl)
  ·
   refine AW.skip (AW.tn (AW.seq ?_))
   obtain ⟨y6, y7, e8, h⟩ := bind2_some h
   refine AW.sg tt_ok1 [(8, vb y7), (7, vi64 y6)] [] [] 19 [hn, hk (pattern_sum_con p0 (y6, y7) e8)] (by kernel_rfl) ?_
   refine AW.seq ?_
   refine AW.join (ι := Bool) (fun v => ⟨[(32, vb v)], [], 0⟩) (fun v : Bool => pattern_Check_k1 v = some r) (fun x9 h => ?_) ?_
   ·
    unfold pattern_Check_k1 at h
    refine AW.tn ?_
    refine AW.co h (by kernel_rfl) (fun c10 h => ?_) (fun c10 h => ?_)
    ·
     refine AW.sg tt_ok1 [(4, vi64 19)] [] [] 1 [] (by kernel_rfl) ?_
     refine AW.ret (AW.tr ?_)
     obtain rfl := some_inj h
     exact fn0 (.inr rfl) [] 0 (vi64 19) (by kernel_rfl)
    ·
     refine AW.skip (AW.tn ?_)
     refine AW.sg tt_ok1 [(4, vi64 0)] [] [] 1 [] (by kernel_rfl) ?_
     refine AW.ret ?_
     obtain rfl := some_inj h
     exact fn0 (.inr rfl) [] 0 (vi64 0) (by kernel_rfl)
   ·
    rcases ifs h with ⟨c11, h⟩ | ⟨c11, h⟩
    ·
     refine AW.rg tt_ok1 [(32, vb true)] [] [] 26 [hn, ht c11] (by kernel_rfl) ?_
     exact jl true h (conv_re [] (by kernel_rfl))
    ·
     obtain ⟨y12, e13, h⟩ := bnd_some h
     refine AW.rg tt_ok1 [(32, vb (!y12))] [] [] 25 [hn, hf c11, hn, hn, hk (pattern_count_con y6 y12 e13)] (by kernel_rfl) ?_
     exact jl (!y12) h (conv_re [] (by kernel_rfl))
/-! recordlink/em.check -/
noncomputable def em_check (p0 : S_em_model) (p1 : List Int) : Option Int := (em_Check p0).bind fun y1 => (if (y1 != 0) = true then (some y1) else ((pattern_Check p1 ((p0.Match.length : Nat) : Int)).bind fun y4 => (some y4)))
set_option maxRecDepth 100000 in
theorem em_check_con (p0 : S_em_model) (p1 : List Int) (r : Int) (h : em_check p0 p1 = some r) : Con Try.prog 48 [.agg [ci64 p0.Prior, cl 1 Ri64 p0.Match, cl 1 Ri64 p0.Random], vl 1 Ri64 p1] [] (vi64 r) [] := by
 refine con_of tt_ok1 0 Try.func48 (by kernel_rfl) rfl (by kernel_rfl) (fun base X _ => AW.post ?_)
 unfold em_check at h
 refine AW.sg tt_ok1 [(2, .c (.ptr 0 3 0 0))] [0] [(0, .box 32 [ci64 p0.Prior, cl 1 Ri64 p0.Match, cl 1 Ri64 p0.Random])] 2 [] (by kernel_rfl) ?_
 refine AW.seq ?_
 obtain ⟨y1, e2, h⟩ := bnd_some h
 refine AW.sg tt_ok1 [(5, vi64 y1)] [] [] 4 [hn, hk (em_Check_con p0 y1 e2)] (by kernel_rfl) ?_
 refine AW.sg tt_ok1 [(9, vb (y1 != 0))] [] [] 6 [] (by kernel_rfl) ?_
 refine AW.co h (by kernel_rfl) (fun c3 h => ?_) (fun c3 h => ?_)
 ·
  refine AW.sg tt_ok1 [(4, vi64 y1)] [] [] 8 [] (by kernel_rfl) ?_
  refine AW.ret (AW.tr ?_)
  obtain rfl := some_inj h
  exact fn0 (.inr rfl) [] 0 (vi64 y1) (by kernel_rfl)
 ·
  refine AW.skip (AW.tn ?_)
  obtain ⟨y4, e5, h⟩ := bnd_some h
  refine AW.sg tt_ok1 [(4, vi64 y4)] [] [] 11 [hn, hn, hn, hn, hk (pattern_Check_con p1 ((p0.Match.length : Nat) : Int) y4 e5)] (by kernel_rfl) ?_
  refine AW.ret ?_
  obtain rfl := some_inj h
  exact fn0 (.inr rfl) [] 0 (vi64 y4) (by kernel_rfl)
structure S_em_sums where
 match_ : Int
 matchAgree : Int
 random : Int
 randomAgree : Int
def dS_em_sums : S_em_sums := ⟨0, 0, 0, 0⟩
instance : Inhabited S_em_sums := ⟨dS_em_sums⟩
def ES_em_sums (x : S_em_sums) : List T := [.v (.int .i64 x.match_), .v (.int .i64 x.matchAgree), .v (.int .i64 x.random), .v (.int .i64 x.randomAgree)]
def RS_em_sums (xs : List S_em_sums) : Nat → Nat → T := rowL dS_em_sums ES_em_sums xs
theorem VS_em_sums : ∀ x, allV (ES_em_sums x) := fun _ => ⟨tv, tv, tv, tv, tv⟩
/-! (recordlink/em.sums).with -/
noncomputable def em_sums_with_k1 (p0 : S_em_sums) (p1 : Int) (p2 : Int) (z1 : Int) (x3 : Int) (x4 : Int) : Option S_em_sums := some (⟨i64.wrap (p0.match_ + (i64.wrap (p1 * p2))), x3, z1, x4⟩ : S_em_sums)
noncomputable def em_sums_with (p0 : S_em_sums) (p1 : Int) (p2 : Int) (p3 : Bool) : Option S_em_sums := (some (i64.wrap (p0.random + (i64.wrap (p1 * (i64.wrap (1073741824 - p2))))))).bind fun z1 => (if p3 = true then ((some (i64.wrap (p0.matchAgree + (i64.wrap (p1 * p2))))).bind fun z6 => ((some (i64.wrap (p0.randomAgree + (i64.wrap (p1 * (i64.wrap (1073741824 - p2))))))).bind fun z8 => (em_sums_with_k1 p0 p1 p2 z1 z6 z8))) else (em_sums_with_k1 p0 p1 p2 z1 p0.matchAgree p0.randomAgree))
set_option maxRecDepth 100000 in
theorem em_sums_with_con (p0 : S_em_sums) (p1 : Int) (p2 : Int) (p3 : Bool) (r : S_em_sums) (h : em_sums_with p0 p1 p2 p3 = some r) : Con Try.prog 70 [.agg [ci64 p0.match_, ci64 p0.matchAgree, ci64 p0.random, ci64 p0.randomAgree], vi64 p1, vi64 p2, vb p3] [] (.agg [ci64 r.match_, ci64 r.matchAgree, ci64 r.random, ci64 r.randomAgree]) [] := by
 refine con_of tt_ok1 0 Try.func70 (by kernel_rfl) rfl (by kernel_rfl) (fun base X _ => AW.post ?_)
 unfold em_sums_with at h
 refine AW.sg tt_ok1 [(8, .c (.ptr 1 4 0 0)), (4, .c (.ptr 0 4 0 0))] [0, 1] [(1, .box 110 [ci64 0, ci64 0, ci64 0, ci64 0]), (0, .box 110 [ci64 p0.match_, ci64 p0.matchAgree, ci64 p0.random, ci64 p0.randomAgree])] 2 [] (by kernel_rfl) ?_
 refine AW.sg tt_ok1 [] [0] [(0, .box 110 [ci64 (i64.wrap (p0.match_ + (i64.wrap (p1 * p2)))), ci64 p0.matchAgree, ci64 p0.random, ci64 p0.randomAgree])] 10 [] (by kernel_rfl) ?_
 obtain ⟨z1, n2, h⟩ := bnd_some h
 replace n2 := some_inj n2
 refine AW.sg tt_ok1 [] [0] [(0, .box 110 [ci64 (i64.wrap (p0.match_ + (i64.wrap (p1 * p2)))), ci64 p0.matchAgree, ci64 z1, ci64 p0.randomAgree])] 19 [] (by subst n2; kernel_rfl) ?_
 refine AW.seq ?_
 refine AW.join (ι := Int × Int) (fun v => ⟨[(4, .c (.ptr 0 4 0 0)), (8, .c (.ptr 1 4 0 0))], [(0, .box 110 [ci64 (i64.wrap (p0.match_ + (i64.wrap (p1 * p2)))), ci64 v.1, ci64 z1, ci64 v.2]), (1, .box 110 [ci64 0, ci64 0, ci64 0, ci64 0])], 2⟩) (fun v : Int × Int => em_sums_with_k1 p0 p1 p2 z1 v.1 v.2 = some r) (fun v h => ?_) ?_
 ·
  obtain ⟨x3, x4⟩ := v
  replace h : em_sums_with_k1 p0 p1 p2 z1 x3 x4 = some r := h
  unfold em_sums_with_k1 at h
  refine AW.tn ?_
  refine AW.sg tt_ok1 [] [1] [(1, .box 110 [ci64 (i64.wrap (p0.match_ + (i64.wrap (p1 * p2)))), ci64 x3, ci64 z1, ci64 x4])] 4 [] (by kernel_rfl) ?_
  refine AW.ret ?_
  obtain rfl := some_inj h
  exact fn0 (.inr rfl) [] 0 (.agg [ci64 (i64.wrap (p0.match_ + (i64.wrap (p1 * p2)))), ci64 x3, ci64 z1, ci64 x4]) (by kernel_rfl)
 ·
  refine AW.sg tt_ok1 [(24, vb p3)] [] [] 20 [] (by kernel_rfl) ?_
  refine AW.co h (by kernel_rfl) (fun c5 h => ?_) (fun c5 h => ?_)
  ·
   obtain ⟨z6, n7, h⟩ := bnd_some h
   replace n7 := some_inj n7
   refine AW.sg tt_ok1 [] [0] [(0, .box 110 [ci64 (i64.wrap (p0.match_ + (i64.wrap (p1 * p2)))), ci64 z6, ci64 z1, ci64 p0.randomAgree])] 28 [] (by subst n7; kernel_rfl) ?_
   obtain ⟨z8, n9, h⟩ := bnd_some h
   replace n9 := some_inj n9
   refine AW.rg tt_ok1 [] [0] [(0, .box 110 [ci64 (i64.wrap (p0.match_ + (i64.wrap (p1 * p2)))), ci64 z6, ci64 z1, ci64 z8])] 37 [] (by subst n9; kernel_rfl) ?_
   exact jl (z6, z8) h (conv_re [(0, 0), (1, 1)] (by kernel_rfl))
  ·
   refine AW.skip ?_
   exact jl (p0.matchAgree, p0.randomAgree) h (conv_re [(0, 0), (1, 1)] (by kernel_rfl))
/-! recordlink/em.quotient -/
noncomputable def em_quotient (p0 : Int) (p1 : Int) (p2 : Int) : Option Int := if (p1 == 0) = true then (some p2) else (if (i64.wrap (2 * p1)) ≠ 0 then ((some ((if (65535 : Int) < (if (1 : Int) > (i64.wrap ((i64.wrap ((i64.wrap (131072 * p0)) + p1)).tdiv (i64.wrap (2 * p1)))) then 1 else (i64.wrap ((i64.wrap ((i64.wrap (131072 * p0)) + p1)).tdiv (i64.wrap (2 * p1))))) then 65535 else (if (1 : Int) > (i64.wrap ((i64.wrap ((i64.wrap (131072 * p0)) + p1)).tdiv (i64.wrap (2 * p1)))) then 1 else (i64.wrap ((i64.wrap ((i64.wrap (131072 * p0)) + p1)).tdiv (i64.wrap (2 * p1)))))))).bind fun z3 => (some z3)) else none)
set_option maxRecDepth 100000 in
theorem em_quotient_con (p0 : Int) (p1 : Int) (p2 : Int) (r : Int) (h : em_quotient p0 p1 p2 = some r) : Con Try.prog 71 [vi64 p0, vi64 p1, vi64 p2] [] (vi64 r) [] := by
 refine con_of tt_ok1 0 Try.func71 (by kernel_rfl) rfl (by kernel_rfl) (fun base X _ => AW.post ?_)
 unfold em_quotient at h
 refine AW.sg tt_ok1 [] [] [] 1 [] (by kernel_rfl) ?_
 refine AW.seq ?_
 refine AW.sg tt_ok1 [(8, vb (p1 == 0))] [] [] 3 [] (by kernel_rfl) ?_
 refine AW.co h (by kernel_rfl) (fun c1 h => ?_) (fun c1 h => ?_)
 ·
  refine AW.sg tt_ok1 [(6, vi64 p2)] [] [] 5 [] (by kernel_rfl) ?_
  refine AW.ret (AW.tr ?_)
  obtain rfl := some_inj h
  exact fn0 (.inr rfl) [] 0 (vi64 p2) (by kernel_rfl)
 ·
  refine AW.skip (AW.tn ?_)
  obtain ⟨g2, h⟩ := ifc h
  obtain ⟨z3, n4, h⟩ := bnd_some h
  replace n4 := some_inj n4
  refine AW.sg tt_ok1 [(6, vi64 z3)] [] [] 13 [hn, hn, hn, hn, hn, hn, ho g2] (by subst n4; kernel_rfl) ?_
  refine AW.ret ?_
  obtain rfl := some_inj h
  exact fn0 (.inr rfl) [] 0 (vi64 z3) (by kernel_rfl)
/-! recordlink/em.step -/
noncomputable def em_step_k2 (x10 : Int) (x21 : List S_em_sums) (x22 : Int) (x23 : Int) (x24 : Int) (x25 : Int) : Option (((List S_em_sums) × Int × Int × Int × Int × Int) ⊕ ((List S_em_sums) × Int × Int × Int × Int)) := some (.inl (x21, i64.wrap (x10 + 1), x22, x23, x24, x25))
noncomputable def em_step_k4 (x40 : Int) (x43 : List S_em_sums) : Option (((List S_em_sums) × Int) ⊕ (List S_em_sums)) := some (.inl (x43, i64.wrap (x40 + 1)))
noncomputable def em_step_l3 (p1 : List Int) (x10 : Int) (y29 : Int) (y32 : List Int) (x39 : List S_em_sums) (x40 : Int) : Option (((List S_em_sums) × Int) ⊕ (List S_em_sums)) := if (decide (x40 < (y32.length : Int))) = true then (if 0 ≤ x40 then (if x40 < (y32.length : Int) then (if (decide ((y32.getD (0 + x40.toNat) 0) > 0)) = true then (if x40 < (x39.length : Int) then ((em_sums_with (x39.getD (0 + x40.toNat) dS_em_sums) (p1.getD x10.toNat 0) y29 ((y32.getD (0 + x40.toNat) 0) == 2)).bind fun y48 => (em_step_k4 x40 (x39.set (0 + x40.toNat) y48))) else none) else (em_step_k4 x40 x39)) else none) else none) else (some (.inr x39))
noncomputable def em_step_l1 (p0 : S_em_model) (p1 : List Int) (x9 : List S_em_sums) (x10 : Int) (x11 : Int) (x12 : Int) (x13 : Int) (x14 : Int) : Option (((List S_em_sums) × Int × Int × Int × Int × Int) ⊕ ((List S_em_sums) × Int × Int × Int × Int)) := if (decide (x10 < (p1.length : Int))) = true then (if 0 ≤ x10 then (if x10 < (p1.length : Int) then (if ((p1.getD x10.toNat 0) == 0) = true then (em_step_k2 x10 x9 x11 x12 x13 x14) else (bind2 (em_Share p0 x10) fun y29 y30 => (bind2 (similarity_Digits x10 (x9.length : Int)) fun y32 y33 => ((em_sums_with (⟨x11, x12, x13, x14⟩ : S_em_sums) (p1.getD x10.toNat 0) y29 true).bind fun y35 => ((loop (fun v : (List S_em_sums) × Int => em_step_l3 p1 x10 y29 y32 v.1 v.2) (x9, 0)).bind fun x50 => (em_step_k2 x10 x50 y35.match_ y35.matchAgree y35.random y35.randomAgree)))))) else none) else none) else (some (.inr (x9, x11, x12, x13, x14)))
noncomputable def em_step_l5 (p0 : S_em_model) (x52 : List S_em_sums) (x62 : Int) (x63 : List Int) (x64 : List Int) : Option ((Int × (List Int) × (List Int)) ⊕ ((List Int) × (List Int))) := if (decide (x62 < (x52.length : Int))) = true then (if 0 ≤ x62 then (if x62 < (x52.length : Int) then (if x62 < ((p0.Match.length : Nat) : Int) then ((em_quotient ((x52.getD (0 + x62.toNat) dS_em_sums).matchAgree) ((x52.getD (0 + x62.toNat) dS_em_sums).match_) (p0.Match.getD x62.toNat 0)).bind fun y71 => (if x63.length + ([y71] : List Int).length ≤ 1099511627776 then (if x62 < ((p0.Random.length : Nat) : Int) then ((em_quotient ((x52.getD (0 + x62.toNat) dS_em_sums).randomAgree) ((x52.getD (0 + x62.toNat) dS_em_sums).random) (p0.Random.getD x62.toNat 0)).bind fun y75 => (if x64.length + ([y75] : List Int).length ≤ 1099511627776 then (some (.inl (i64.wrap (x62 + 1), (x63 ++ ([y71] : List Int)), (x64 ++ ([y75] : List Int))))) else none)) else none) else none)) else none) else none) else none) else (some (.inr (x63, x64)))
noncomputable def em_step (p0 : S_em_model) (p1 : List Int) : Option S_em_model := if 0 ≤ ((p0.Match.length : Nat) : Int) then (if ((p0.Match.length : Nat) : Int) ≤ 1099511627776 then (bind5 (loop (fun v : (List S_em_sums) × Int × Int × Int × Int × Int => em_step_l1 p0 p1 v.1 v.2.1 v.2.2.1 v.2.2.2.1 v.2.2.2.2.1 v.2.2.2.2.2) ((List.replicate (((p0.Match.length : Nat) : Int).toNat) (dS_em_sums : S_em_sums)), 0, 0, 0, 0, 0)) fun x52 x53 x54 x55 x56 => ((em_quotient x53 (i64.wrap (x53 + x55)) p0.Prior).bind fun y57 => (bind2 (loop (fun v : Int × (List Int) × (List Int) => em_step_l5 p0 x52 v.1 v.2.1 v.2.2) (0, ([] : List Int), ([] : List Int))) fun x78 x79 => (some (⟨y57, x78, x79⟩ : S_em_model))))) else none) else none
set_option maxRecDepth 100000 in
theorem em_step_con (p0 : S_em_model) (p1 : List Int) (r : S_em_model) (h : em_step p0 p1 = some r) : Con Try.prog 49 [.agg [ci64 p0.Prior, cl 1 Ri64 p0.Match, cl 1 Ri64 p0.Random], vl 1 Ri64 p1] [] (.agg [ci64 r.Prior, .ref 0 1 0 r.Match.length, .ref 1 1 0 r.Random.length]) [(0, .row 3 false 1 r.Match.length (Ri64 r.Match)), (1, .row 3 false 1 r.Random.length (Ri64 r.Random))] := by
 refine con_of tt_ok1 0 Try.func49 (by kernel_rfl) rfl (by kernel_rfl) (fun base X _ => AW.post ?_)
 unfold em_step at h
 refine AW.sg tt_ok1 [(4, .c (.ptr 1 3 0 0)), (2, .c (.ptr 0 3 0 0))] [0, 1] [(1, .box 32 [ci64 0, .t (.v (.slice none 0 0)), .t (.v (.slice none 0 0))]), (0, .box 32 [ci64 p0.Prior, cl 1 Ri64 p0.Match, cl 1 Ri64 p0.Random])] 2 [] (by kernel_rfl) ?_
 refine AW.sg tt_ok1 [(5, .c (.ptr 2 4 0 0))] [2] [(2, .box 110 [ci64 0, ci64 0, ci64 0, ci64 0])] 3 [] (by kernel_rfl) ?_
 obtain ⟨g1, g2, h⟩ := ifd h
 refine AW.sg tt_ok1 [(6, .c (.ref 6 4 0 ((List.replicate (((p0.Match.length : Nat) : Int).toNat) (dS_em_sums : S_em_sums)).length)))] [6] [(6, .row 110 false 4 (List.replicate (((p0.Match.length : Nat) : Int).toNat) (dS_em_sums : S_em_sums)).length (RS_em_sums (List.replicate (((p0.Match.length : Nat) : Int).toNat) (dS_em_sums : S_em_sums))))] 8 [hn, hn, hn, hmk dS_em_sums ES_em_sums 4 32 [.int .i64 0, .int .i64 0, .int .i64 0, .int .i64 0] rfl rfl ((p0.Match.length : Nat) : Int) ((p0.Match.length : Nat) : Int) g1 (Int.le_refl _) g2 (by decide)] (by kernel_rfl) ?_
 refine AW.seq ?_
 refine AW.sg tt_ok1 [(24, vi64 0), (23, vi64 (p1.length : Int)), (22, vl 1 Ri64 p1)] [] [] 11 [] (by kernel_rfl) ?_
 refine AW.block ?_
 obtain ⟨x52, x53, x54, x55, x56, l81, h⟩ := bind5_some h
 refine AW.lp l81 (fun v => ⟨[(2, .c (.ptr 0 3 0 0)), (4, .c (.ptr 1 3 0 0)), (5, .c (.ptr 2 4 0 0)), (6, .c (.ref 3 4 0 v.1.length)), (22, vl 1 Ri64 p1), (23, vi64 (p1.length : Int)), (24, vi64 v.2.1)], [(0, .box 32 [ci64 p0.Prior, cl 1 Ri64 p0.Match, cl 1 Ri64 p0.Random]), (1, .box 32 [ci64 0, .t (.v (.slice none 0 0)), .t (.v (.slice none 0 0))]), (2, .box 110 [ci64 v.2.2.1, ci64 v.2.2.2.1, ci64 v.2.2.2.2.1, ci64 v.2.2.2.2.2]), (3, .row 110 false 4 v.1.length (RS_em_sums v.1))], 4⟩) (fun t : (List S_em_sums) × Int × Int × Int × Int => (.exit 0, ⟨[(2, .c (.ptr 0 3 0 0)), (4, .c (.ptr 1 3 0 0)), (5, .c (.ptr 2 4 0 0)), (6, .c (.ref 3 4 0 t.1.length))], [(0, .box 32 [ci64 p0.Prior, cl 1 Ri64 p0.Match, cl 1 Ri64 p0.Random]), (1, .box 32 [ci64 0, .t (.v (.slice none 0 0)), .t (.v (.slice none 0 0))]), (2, .box 110 [ci64 t.2.1, ci64 t.2.2.1, ci64 t.2.2.2.1, ci64 t.2.2.2.2]), (3, .row 110 false 4 t.1.length (RS_em_sums t.1))], 4⟩)) (conv_re [(0, 0), (1, 1), (2, 2), (3, 6)] (by kernel_rfl)) (fun _ => tv) ?_ ?_
 ·
  clear l81 h
  intro v o h
  obtain ⟨x9, x10, x11, x12, x13, x14⟩ := v
  replace h : em_step_l1 p0 p1 x9 x10 x11 x12 x13 x14 = some o := h
  unfold em_step_l1 at h
  refine AW.sg tt_ok1 [(25, vb (decide (x10 < (p1.length : Int))))] [] [] 5 [] (by kernel_rfl) ?_
  refine AW.seq ?_
  refine AW.co h (by kernel_rfl) (fun c20 h => ?_) (fun c20 h => ?_)
  ·
   refine AW.skip (AW.tn (AW.seq ?_))
   refine AW.join (ι := (List S_em_sums) × Int × Int × Int × Int) (fun v => ⟨[(2, .c (.ptr 0 3 0 0)), (4, .c (.ptr 1 3 0 0)), (5, .c (.ptr 2 4 0 0)), (6, .c (.ref 3 4 0 v.1.length)), (22, vl 1 Ri64 p1), (23, vi64 (p1.length : Int)), (24, vi64 x10)], [(0, .box 32 [ci64 p0.Prior, cl 1 Ri64 p0.Match, cl 1 Ri64 p0.Random]), (1, .box 32 [ci64 0, .t (.v (.slice none 0 0)), .t (.v (.slice none 0 0))]), (2, .box 110 [ci64 v.2.1, ci64 v.2.2.1, ci64 v.2.2.2.1, ci64 v.2.2.2.2]), (3, .row 110 false 4 v.1.length (RS_em_sums v.1))], 4⟩) (fun v : (List S_em_sums) × Int × Int × Int × Int => em_step_k2 x10 v.1 v.2.1 v.2.2.1 v.2.2.2.1 v.2.2.2.2 = some o) (fun v h => ?_) ?_
   ·
    obtain ⟨x21, x22, x23, x24, x25⟩ := v
    replace h : em_step_k2 x10 x21 x22 x23 x24 x25 = some o := h
    unfold em_step_k2 at h
    refine AW.tn ?_
    refine AW.rg tt_ok1 [(24, vi64 (i64.wrap (x10 + 1)))] [] [] 6 [] (by kernel_rfl) ?_
    exact lpn h (conv_re [(0, 0), (1, 1), (2, 2), (3, 3)] (by kernel_rfl))
   ·
    refine AW.block ?_
    obtain ⟨g26, g27, h⟩ := ifd h
    refine AW.sg tt_ok1 [(8, vi64 (p1.getD x10.toNat 0)), (7, vi64 x10)] [] [] 10 [hn, hq g26 g27] (by kernel_rfl) ?_
    refine AW.seq ?_
    refine AW.sg tt_ok1 [(30, vb ((p1.getD x10.toNat 0) == 0))] [] [] 12 [] (by kernel_rfl) ?_
    refine AW.co h (by kernel_rfl) (fun c28 h => ?_) (fun c28 h => ?_)
    ·
     refine AW.exit (AW.thenQ_exit (AW.inBlock_hit ?_))
     exact jl (x9, x11, x12, x13, x14) h (conv_re [(0, 0), (1, 1), (2, 2), (3, 3)] (by kernel_rfl))
    ·
     refine AW.skip (AW.tn ?_)
     obtain ⟨y29, y30, e31, h⟩ := bind2_some h
     refine AW.sg tt_ok1 [(9, vi64 y29)] [] [] 19 [hn, hn, hk (em_Share_con p0 x10 (y29, y30) e31)] (by kernel_rfl) ?_
     obtain ⟨y32, y33, e34, h⟩ := bind2_some h
     refine AW.sg tt_ok1 [(11, .c (.ref 22 1 0 y32.length))] [22] [(22, .row 3 false 1 y32.length (Ri64 y32))] 28 [hn, hn, hn, hm [] [] 1 (similarity_Digits_con x10 (x9.length : Int) (y32, y33) e34) ⟨rowL_flat Vi64 _ _ _, tv⟩] (by kernel_rfl) ?_
     obtain ⟨y35, e36, h⟩ := bnd_some h
     refine AW.sg tt_ok1 [] [2] [(2, .box 110 [ci64 y35.match_, ci64 y35.matchAgree, ci64 y35.random, ci64 y35.randomAgree])] 32 [hn, hn, hn, hk (em_sums_with_con (⟨x11, x12, x13, x14⟩ : S_em_sums) (p1.getD x10.toNat 0) y29 true y35 e36)] (by kernel_rfl) ?_
     refine AW.sg tt_ok1 [(50, vi64 0), (49, vi64 (y32.length : Int)), (48, .c (.ref 22 1 0 y32.length))] [] [] 35 [] (by kernel_rfl) ?_
     refine AW.block ?_
     obtain ⟨x50, l51, h⟩ := bnd_some h
     refine AW.lp l51 (fun v => ⟨[(2, .c (.ptr 0 3 0 0)), (4, .c (.ptr 1 3 0 0)), (5, .c (.ptr 2 4 0 0)), (6, .c (.ref 3 4 0 v.1.length)), (8, vi64 (p1.getD x10.toNat 0)), (9, vi64 y29), (22, vl 1 Ri64 p1), (23, vi64 (p1.length : Int)), (24, vi64 x10), (48, .c (.ref 4 1 0 y32.length)), (49, vi64 (y32.length : Int)), (50, vi64 v.2)], [(0, .box 32 [ci64 p0.Prior, cl 1 Ri64 p0.Match, cl 1 Ri64 p0.Random]), (1, .box 32 [ci64 0, .t (.v (.slice none 0 0)), .t (.v (.slice none 0 0))]), (2, .box 110 [ci64 y35.match_, ci64 y35.matchAgree, ci64 y35.random, ci64 y35.randomAgree]), (3, .row 110 false 4 v.1.length (RS_em_sums v.1)), (4, .row 3 false 1 y32.length (Ri64 y32))], 5⟩) (fun t : List S_em_sums => (.exit 2, ⟨[(2, .c (.ptr 0 3 0 0)), (4, .c (.ptr 1 3 0 0)), (5, .c (.ptr 2 4 0 0)), (6, .c (.ref 3 4 0 t.length)), (22, vl 1 Ri64 p1), (23, vi64 (p1.length : Int)), (24, vi64 x10)], [(0, .box 32 [ci64 p0.Prior, cl 1 Ri64 p0.Match, cl 1 Ri64 p0.Random]), (1, .box 32 [ci64 0, .t (.v (.slice none 0 0)), .t (.v (.slice none 0 0))]), (2, .box 110 [ci64 y35.match_, ci64 y35.matchAgree, ci64 y35.random, ci64 y35.randomAgree]), (3, .row 110 false 4 t.length (RS_em_sums t))], 4⟩)) (conv_re [(0, 0), (1, 1), (2, 2), (3, 3), (4, 22)] (by kernel_rfl)) (fun _ => tv) ?_ ?_
     ·
      clear l51 h
      intro v o h
      obtain ⟨x39, x40⟩ := v
      replace h : em_step_l3 p1 x10 y29 y32 x39 x40 = some o := h
      unfold em_step_l3 at h
      refine AW.sg tt_ok1 [(51, vb (decide (x40 < (y32.length : Int))))] [] [] 6 [] (by kernel_rfl) ?_
      refine AW.seq ?_
      refine AW.co h (by kernel_rfl) (fun c42 h => ?_) (fun c42 h => ?_)
      ·
       refine AW.skip (AW.tn (AW.seq ?_))
       refine AW.join (ι := List S_em_sums) (fun v => ⟨[(2, .c (.ptr 0 3 0 0)), (4, .c (.ptr 1 3 0 0)), (5, .c (.ptr 2 4 0 0)), (6, .c (.ref 3 4 0 v.length)), (8, vi64 (p1.getD x10.toNat 0)), (9, vi64 y29), (22, vl 1 Ri64 p1), (23, vi64 (p1.length : Int)), (24, vi64 x10), (48, .c (.ref 4 1 0 y32.length)), (49, vi64 (y32.length : Int)), (50, vi64 x40)], [(0, .box 32 [ci64 p0.Prior, cl 1 Ri64 p0.Match, cl 1 Ri64 p0.Random]), (1, .box 32 [ci64 0, .t (.v (.slice none 0 0)), .t (.v (.slice none 0 0))]), (2, .box 110 [ci64 y35.match_, ci64 y35.matchAgree, ci64 y35.random, ci64 y35.randomAgree]), (3, .row 110 false 4 v.length (RS_em_sums v)), (4, .row 3 false 1 y32.length (Ri64 y32))], 5⟩) (fun v : List S_em_sums => em_step_k4 x40 v = some o) (fun x43 h => ?_) ?_
       ·
        unfold em_step_k4 at h
        refine AW.tn ?_
        refine AW.rg tt_ok1 [(50, vi64 (i64.wrap (x40 + 1)))] [] [] 7 [] (by kernel_rfl) ?_
        exact lpn h (conv_re [(0, 0), (1, 1), (2, 2), (3, 3), (4, 4)] (by kernel_rfl))
       ·
        refine AW.block ?_
        obtain ⟨g44, g45, h⟩ := ifd h
        refine AW.sg tt_ok1 [(14, vi64 (y32.getD (0 + x40.toNat) 0)), (13, vi64 x40)] [] [] 11 [hn, hq g44 g45, ho (p := (0 + x40.toNat) < y32.length) (by have h1 : 0 ≤ x40 := g44; have h2 : x40 < (y32.length : Int) := g45; omega)] (by kernel_rfl) ?_
        refine AW.sg tt_ok1 [(56, vb (decide ((y32.getD (0 + x40.toNat) 0) > 0)))] [] [] 13 [] (by kernel_rfl) ?_
        refine AW.co h (by kernel_rfl) (fun c46 h => ?_) (fun c46 h => ?_)
        ·
         obtain ⟨g47, h⟩ := ifc h
         obtain ⟨y48, e49, h⟩ := bnd_some h
         refine AW.rg tt_ok1 [] [3] [(3, .row 110 false 4 x39.length (RS_em_sums (x39.set (0 + x40.toNat) y48)))] 25 [hn, hn, hn, hn, hq g44 g47, ho (p := (0 + x40.toNat) < x39.length) (by have h1 : 0 ≤ x40 := g44; have h2 : x40 < (x39.length : Int) := g47; omega), hn, hn, hn, hn, hk (em_sums_with_con (x39.getD (0 + x40.toNat) dS_em_sums) (p1.getD x10.toNat 0) y29 ((y32.getD (0 + x40.toNat) 0) == 2) y48 e49), hq g44 g47, hset dS_em_sums ES_em_sums x39 (0 + x40.toNat) y48 (n := x39.length) (by have h1 : 0 ≤ x40 := g44; have h2 : x40 < (x39.length : Int) := g47; omega) rfl] (by kernel_rfl) ?_
         refine AW.inBlock_normal ?_
         exact jl (x39.set (0 + x40.toNat) y48) h (Conv.trans (conv_tms [(6, .c (.ref 3 4 0 ((x39.set (0 + x40.toNat) y48).length)))] ⟨⟨.c (.ref 3 4 0 x39.length), by kernel_rfl, ALe.len (by simp only [List.length_set])⟩, tv⟩) (Conv.trans (conv_rowN 3 110 false 4 x39.length ((x39.set (0 + x40.toNat) y48).length) (RS_em_sums (x39.set (0 + x40.toNat) y48)) (by kernel_rfl) (by simp only [List.length_set])) (conv_re [(0, 0), (1, 1), (2, 2), (3, 3), (4, 4)] (by kernel_rfl))))
        ·
         refine AW.skip (AW.inBlock_normal ?_)
         exact jl x39 h (conv_re [(0, 0), (1, 1), (2, 2), (3, 3), (4, 4)] (by kernel_rfl))
      ·
       refine AW.exit (AW.thenQ_exit ?_)
       exact lpo h rfl (conv_re [(0, 0), (1, 1), (2, 2), (3, 3)] (by kernel_rfl))
     ·
      show (_ : Exit → St → Prop) (.exit 2) _
      refine AW.inBlock_hit (AW.inBlock_normal ?_)
      exact jl (x50, y35.match_, y35.matchAgree, y35.random, y35.randomAgree) h (conv_re [(0, 0), (1, 1), (2, 2), (3, 3)] (by kernel_rfl))
  ·
   refine AW.exit (AW.thenQ_exit ?_)
   exact lpo h rfl (conv_re [(0, 0), (1, 1), (2, 2), (3, 3)] (by kernel_rfl))
 ·
  show (_ : Exit → St → Prop) (.exit 0) _
  refine AW.inBlock_hit (AW.tn ?_)
  obtain ⟨y57, e58, h⟩ := bnd_some h
  refine AW.sg tt_ok1 [(15, .c (.ptr 14 3 0 0))] [14] [(14, .box 32 [ci64 y57, .t (.v (.slice none 0 0)), .t (.v (.slice none 0 0))])] 16 [hn, hn, hn, hn, hn, hn, hn, hn, hn, hk (em_quotient_con x53 (i64.wrap (x53 + x55)) p0.Prior y57 e58)] (by kernel_rfl) ?_
  refine AW.seq ?_
  refine AW.sg tt_ok1 [(84, vi64 0), (83, vi64 (x52.length : Int)), (82, .c (.ref 3 4 0 x52.length))] [] [] 19 [] (by kernel_rfl) ?_
  refine AW.block ?_
  obtain ⟨x78, x79, l80, h⟩ := bind2_some h
  refine AW.lp l80 (fun v => ⟨[(2, .c (.ptr 0 3 0 0)), (4, .c (.ptr 1 3 0 0)), (15, .c (.ptr 2 3 0 0)), (82, .c (.ref 3 4 0 x52.length)), (83, vi64 (x52.length : Int)), (84, vi64 v.1)], [(0, .box 32 [ci64 p0.Prior, cl 1 Ri64 p0.Match, cl 1 Ri64 p0.Random]), (1, .box 32 [ci64 0, .t (.v (.slice none 0 0)), .t (.v (.slice none 0 0))]), (2, .box 32 [ci64 y57, .ref 4 1 0 v.2.1.length, .ref 5 1 0 v.2.2.length]), (3, .row 110 false 4 x52.length (RS_em_sums x52)), (4, .row 3 false 1 v.2.1.length (Ri64 v.2.1)), (5, .row 3 false 1 v.2.2.length (Ri64 v.2.2))], 6⟩) (fun t : (List Int) × (List Int) => (.exit 4, ⟨[(4, .c (.ptr 0 3 0 0)), (15, .c (.ptr 1 3 0 0))], [(0, .box 32 [ci64 0, .t (.v (.slice none 0 0)), .t (.v (.slice none 0 0))]), (1, .box 32 [ci64 y57, .ref 2 1 0 t.1.length, .ref 3 1 0 t.2.length]), (2, .row 3 false 1 t.1.length (Ri64 t.1)), (3, .row 3 false 1 t.2.length (Ri64 t.2))], 4⟩)) (Conv.trans (conv_adoptB (id := 14) (ty0 := 32) (cs := [ci64 y57, .t (.v (.slice none 0 0)), .t (.v (.slice none 0 0))]) 1 (ty := 3) (sz := 1) (n := ([] : List Int).length) (f := Ri64 ([] : List Int)) (by kernel_rfl) (by kernel_rfl) rfl) (Conv.trans (conv_adoptB (id := 14) (ty0 := 32) (cs := [ci64 y57, .ref 19 1 0 (([] : List Int).length), .t (.v (.slice none 0 0))]) 2 (ty := 3) (sz := 1) (n := ([] : List Int).length) (f := Ri64 ([] : List Int)) (by kernel_rfl) (by kernel_rfl) rfl) (conv_re [(0, 0), (1, 1), (2, 14), (3, 3), (4, 19), (5, 20)] (by kernel_rfl)))) (fun _ => tv) ?_ ?_
  ·
   clear l80 h
   intro v o h
   obtain ⟨x62, x63, x64⟩ := v
   replace h : em_step_l5 p0 x52 x62 x63 x64 = some o := h
   unfold em_step_l5 at h
   refine AW.sg tt_ok1 [(85, vb (decide (x62 < (x52.length : Int))))] [] [] 7 [] (by kernel_rfl) ?_
   refine AW.seq ?_
   refine AW.co h (by kernel_rfl) (fun c67 h => ?_) (fun c67 h => ?_)
   ·
    refine AW.skip (AW.tn ?_)
    refine AW.seq (AW.block ?_)
    obtain ⟨g68, g69, h⟩ := ifd h
    refine AW.sg tt_ok1 [(16, vi64 x62), (17, .c (.ptr 10 4 0 0))] [10] [(10, .box 110 [ci64 ((x52.getD (0 + x62.toNat) dS_em_sums).match_), ci64 ((x52.getD (0 + x62.toNat) dS_em_sums).matchAgree), ci64 ((x52.getD (0 + x62.toNat) dS_em_sums).random), ci64 ((x52.getD (0 + x62.toNat) dS_em_sums).randomAgree)])] 13 [hn, hq g68 g69, ho (p := (0 + x62.toNat) < x52.length) (by have h1 : 0 ≤ x62 := g68; have h2 : x62 < (x52.length : Int) := g69; omega)] (by kernel_rfl) ?_
    obtain ⟨g70, h⟩ := ifc h
    obtain ⟨y71, e72, h⟩ := bnd_some h
    obtain ⟨g73, h⟩ := ifc h
    refine AW.sd tt_ok1 mo1 [[], [], [], [], [], [], [], [], [], [], [], [], [24], [25, 4], [], [2]] [] [(2, .box 32 [ci64 y57, .ref 25 1 0 ((x63 ++ ([y71] : List Int)).length), .ref 5 1 0 x64.length]), (25, .row 3 false 1 (x63 ++ ([y71] : List Int)).length (Ri64 (x63 ++ ([y71] : List Int))))] 28 [hn, hn, hn, hn, hn, hn, hn, hn, hn, hq g68 g70, hn, hk (em_quotient_con ((x52.getD (0 + x62.toNat) dS_em_sums).matchAgree) ((x52.getD (0 + x62.toNat) dS_em_sums).match_) (p0.Match.getD x62.toNat 0) y71 e72), hlit 0 Ei64 1 (fun _ => rfl) ([y71] : List Int), happ 0 Ei64 1 8 x63 ([y71] : List Int) g73 (by decide)] (by kernel_rfl) ?_
    obtain ⟨g74, h⟩ := ifc h
    obtain ⟨y75, e76, h⟩ := bnd_some h
    obtain ⟨g77, h⟩ := ifc h
    refine AW.rd tt_ok1 mo1 [[], [], [], [], [], [], [], [], [], [], [], [], [39], [40, 5], [], [2]] [] [(2, .box 32 [ci64 y57, .ref 25 1 0 ((x63 ++ ([y71] : List Int)).length), .ref 40 1 0 ((x64 ++ ([y75] : List Int)).length)]), (40, .row 3 false 1 (x64 ++ ([y75] : List Int)).length (Ri64 (x64 ++ ([y75] : List Int))))] 43 [hn, hn, hn, hn, hn, hn, hn, hn, hn, hq g68 g74, hn, hk (em_quotient_con ((x52.getD (0 + x62.toNat) dS_em_sums).randomAgree) ((x52.getD (0 + x62.toNat) dS_em_sums).random) (p0.Random.getD x62.toNat 0) y75 e76), hlit 0 Ei64 1 (fun _ => rfl) ([y75] : List Int), happ 0 Ei64 1 8 x64 ([y75] : List Int) g77 (by decide)] (by kernel_rfl) ?_
    refine AW.inBlock_normal (AW.tn ?_)
    refine AW.rg tt_ok1 [(84, vi64 (i64.wrap (x62 + 1)))] [] [] 45 [] (by kernel_rfl) ?_
    exact lpn h (conv_re [(0, 0), (1, 1), (2, 2), (3, 3), (4, 25), (5, 40)] (by kernel_rfl))
   ·
    refine AW.exit (AW.thenQ_exit ?_)
    exact lpo h rfl (conv_re [(0, 1), (1, 2), (2, 4), (3, 5)] (by kernel_rfl))
  ·
   show (_ : Exit → St → Prop) (.exit 4) _
   refine AW.inBlock_hit (AW.tn ?_)
   refine AW.sg tt_ok1 [] [0] [(0, .box 32 [ci64 y57, .ref 2 1 0 x78.length, .ref 3 1 0 x79.length])] 6 [] (by kernel_rfl) ?_
   refine AW.ret ?_
   obtain rfl := some_inj h
   exact fn0 (.inr rfl) [(0, 2), (1, 3)] 2 (.agg [ci64 y57, .ref 2 1 0 x78.length, .ref 3 1 0 x79.length]) (by kernel_rfl)
/-! recordlink/em.Step -/
noncomputable def em_Step (p0 : S_em_model) (p1 : List Int) : Option (S_em_model × Int) := (em_check p0 p1).bind fun y1 => (if (y1 != 0) = true then (some ((⟨0, ([] : List Int), ([] : List Int)⟩ : S_em_model), y1)) else ((em_step p0 p1).bind fun y4 => (some (y4, 0))))
set_option maxRecDepth 100000 in
theorem em_Step_con (p0 : S_em_model) (p1 : List Int) (r : S_em_model × Int) (h : em_Step p0 p1 = some r) : Con Try.prog 24 [.agg [ci64 p0.Prior, cl 1 Ri64 p0.Match, cl 1 Ri64 p0.Random], vl 1 Ri64 p1] [] (.tup [.agg [ci64 r.1.Prior, .ref 0 1 0 r.1.Match.length, .ref 1 1 0 r.1.Random.length], vi64 r.2]) [(0, .row 3 false 1 r.1.Match.length (Ri64 r.1.Match)), (1, .row 3 false 1 r.1.Random.length (Ri64 r.1.Random))] := by
 refine con_of tt_ok1 0 Try.func24 (by kernel_rfl) rfl (by kernel_rfl) (fun base X _ => AW.post ?_)
 unfold em_Step at h
 refine AW.sg tt_ok1 [(4, .c (.ptr 1 3 0 0)), (2, .c (.ptr 0 3 0 0))] [0, 1] [(1, .box 32 [ci64 0, .t (.v (.slice none 0 0)), .t (.v (.slice none 0 0))]), (0, .box 32 [ci64 p0.Prior, cl 1 Ri64 p0.Match, cl 1 Ri64 p0.Random])] 3 [] (by kernel_rfl) ?_
 refine AW.seq ?_
 obtain ⟨y1, e2, h⟩ := bnd_some h
 refine AW.sg tt_ok1 [(6, vi64 y1)] [] [] 6 [hn, hn, hk (em_check_con p0 p1 y1 e2)] (by kernel_rfl) ?_
 refine AW.sg tt_ok1 [(11, vb (y1 != 0))] [] [] 8 [] (by kernel_rfl) ?_
 refine AW.co h (by kernel_rfl) (fun c3 h => ?_) (fun c3 h => ?_)
 ·
  refine AW.sg tt_ok1 [(5, vi64 y1)] [1] [(1, .box 32 [ci64 0, .t (.v (.slice none 0 0)), .t (.v (.slice none 0 0))])] 12 [] (by kernel_rfl) ?_
  refine AW.ret (AW.tr ?_)
  obtain rfl := some_inj h
  exact fnR (.inr rfl) [(0, 12), (1, 13)] 2 (.tup [.agg [ci64 0, .ref 12 1 0 (([] : List Int).length), .ref 13 1 0 (([] : List Int).length)], vi64 y1]) (Conv.trans (conv_adoptB (id := 1) (ty0 := 32) (cs := [ci64 0, .t (.v (.slice none 0 0)), .t (.v (.slice none 0 0))]) 1 (ty := 3) (sz := 1) (n := ([] : List Int).length) (f := Ri64 ([] : List Int)) (by kernel_rfl) (by kernel_rfl) rfl) (conv_adoptB (id := 1) (ty0 := 32) (cs := [ci64 0, .ref 12 1 0 (([] : List Int).length), .t (.v (.slice none 0 0))]) 2 (ty := 3) (sz := 1) (n := ([] : List Int).length) (f := Ri64 ([] : List Int)) (by kernel_rfl) (by kernel_rfl) rfl)) (by kernel_rfl)
 ·
  refine AW.skip (AW.tn ?_)
  obtain ⟨y4, e5, h⟩ := bnd_some h
  refine AW.sg tt_ok1 [(5, vi64 0)] [1, 10, 11] [(1, .box 32 [ci64 y4.Prior, .ref 10 1 0 y4.Match.length, .ref 11 1 0 y4.Random.length]), (10, .row 3 false 1 y4.Match.length (Ri64 y4.Match)), (11, .row 3 false 1 y4.Random.length (Ri64 y4.Random))] 14 [hn, hn, hm [] [] 2 (em_step_con p0 p1 y4 e5) ⟨rowL_flat Vi64 _ _ _, rowL_flat Vi64 _ _ _, tv⟩] (by kernel_rfl) ?_
  refine AW.ret ?_
  obtain rfl := some_inj h
  exact fn0 (.inr rfl) [(0, 10), (1, 11)] 2 (.tup [.agg [ci64 y4.Prior, .ref 10 1 0 y4.Match.length, .ref 11 1 0 y4.Random.length], vi64 0]) (by kernel_rfl)
/-! slices.Equal[[]int,int] -/
noncomputable def slices_Equal_int_l1 (p0 : List Int) (p1 : List Int) (x3 : Int) : Option (Int ⊕ (Unit ⊕ Unit)) := if (decide (x3 < (p0.length : Int))) = true then (if 0 ≤ x3 then (if x3 < (p0.length : Int) then (if x3 < (p1.length : Int) then (if ((p0.getD x3.toNat 0) != (p1.getD x3.toNat 0)) = true then (some (.inr (.inr ()))) else (some (.inl (i64.wrap (x3 + 1))))) else none) else none) else none) else (some (.inr (.inl ())))
noncomputable def slices_Equal_int_a2 : Option Bool := some true
noncomputable def slices_Equal_int_a3 : Option Bool := some false
noncomputable def slices_Equal_int (p0 : List Int) (p1 : List Int) : Option Bool := if ((p0.length : Int) != (p1.length : Int)) = true then (some false) else (bindE (loop (fun v : Int => slices_Equal_int_l1 p0 p1 v) 0) (fun t => slices_Equal_int_a2) (fun t => slices_Equal_int_a3))
set_option maxRecDepth 100000 in
theorem slices_Equal_int_con (p0 : List Int) (p1 : List Int) (r : Bool) (h : slices_Equal_int p0 p1 = some r) : Con Try.prog 94 [vl 1 Ri64 p0, vl 1 Ri64 p1] [] (vb r) [] := by
 refine con_of tt_ok1 0 Try.func94 (by kernel_rfl) rfl (by kernel_rfl) (fun base X _ => AW.post ?_)
 unfold slices_Equal_int at h
 refine AW.sg tt_ok1 [] [] [] 1 [] (by kernel_rfl) ?_
 refine AW.seq ?_
 refine AW.sg tt_ok1 [(10, vb ((p0.length : Int) != (p1.length : Int)))] [] [] 6 [] (by kernel_rfl) ?_
 refine AW.co h (by kernel_rfl) (fun c1 h => ?_) (fun c1 h => ?_)
 ·
  refine AW.sg tt_ok1 [(4, vb false)] [] [] 7 [] (by kernel_rfl) ?_
  refine AW.ret (AW.tr ?_)
  obtain rfl := some_inj h
  exact fn0 (.inr rfl) [] 0 (vb false) (by kernel_rfl)
 ·
  refine AW.skip (AW.tn (AW.seq ?_))
  refine AW.sg tt_ok1 [(13, vi64 0), (12, vi64 (p0.length : Int))] [] [] 9 [] (by kernel_rfl) ?_
  refine AW.block ?_
  refine AW.lpE h (fun v => ⟨[(0, vl 1 Ri64 p0), (1, vl 1 Ri64 p1), (12, vi64 (p0.length : Int)), (13, vi64 v)], [], 0⟩) (fun t => (.exit 0, ⟨[], [], 0⟩)) (fun t => (.ret, ⟨[(4, vb false)], [], 0⟩)) (conv_re [] (by kernel_rfl)) (fun _ => tv) (fun _ => tv) ?_ (fun t h => ?_) (fun t h => ?_)
  ·
   clear h
   intro x3 o h
   unfold slices_Equal_int_l1 at h
   refine AW.sg tt_ok1 [(14, vb (decide (x3 < (p0.length : Int))))] [] [] 1 [] (by kernel_rfl) ?_
   refine AW.seq ?_
   refine AW.co h (by kernel_rfl) (fun c4 h => ?_) (fun c4 h => ?_)
   ·
    refine AW.skip (AW.tn ?_)
    refine AW.seq (AW.block ?_)
    refine AW.sg tt_ok1 [(5, vi64 x3)] [] [] 3 [] (by kernel_rfl) ?_
    obtain ⟨g5, g6, h⟩ := ifd h
    obtain ⟨g7, h⟩ := ifc h
    refine AW.sd tt_ok1 mo1 [] [(24, vb ((p0.getD x3.toNat 0) != (p1.getD x3.toNat 0)))] [] 12 [hn, hn, hq g5 g6, hn, hn, hn, hq g5 g7] (by kernel_rfl) ?_
    refine AW.co h (by kernel_rfl) (fun c8 h => ?_) (fun c8 h => ?_)
    ·
     refine AW.sg tt_ok1 [(4, vb false)] [] [] 13 [] (by kernel_rfl) ?_
     refine AW.ret (AW.inBlock_ret (AW.tr ?_))
     exact lpo h rfl (conv_re [] (by kernel_rfl))
    ·
     refine AW.skip (AW.inBlock_normal (AW.tn ?_))
     refine AW.rg tt_ok1 [(13, vi64 (i64.wrap (x3 + 1)))] [] [] 14 [] (by kernel_rfl) ?_
     exact lpn h (conv_re [] (by kernel_rfl))
   ·
    refine AW.exit (AW.thenQ_exit ?_)
    exact lpo h rfl (conv_re [] (by kernel_rfl))
  ·
   replace h : slices_Equal_int_a2 = some r := h
   unfold slices_Equal_int_a2 at h
   show (_ : Exit → St → Prop) (.exit 0) _
   refine AW.inBlock_hit (AW.tn ?_)
   refine AW.sg tt_ok1 [(4, vb true)] [] [] 1 [] (by kernel_rfl) ?_
   refine AW.ret ?_
   obtain rfl := some_inj h
   exact fn0 (.inr rfl) [] 0 (vb true) (by kernel_rfl)
  ·
   replace h : slices_Equal_int_a3 = some r := h
   unfold slices_Equal_int_a3 at h
   show (_ : Exit → St → Prop) (.ret) _
   refine AW.inBlock_ret (AW.tr ?_)
   obtain rfl := some_inj h
   exact fn0 (.inr rfl) [] 0 (vb false) (by kernel_rfl)
/-! (recordlink/em.model).same -/
noncomputable def em_model_same_k1 (x1 : Bool) : Option Bool := some x1
noncomputable def em_model_same (p0 : S_em_model) (p1 : S_em_model) : Option Bool := if (p0.Prior == p1.Prior) = true then ((slices_Equal_int p0.Match p1.Match).bind fun y3 => (if y3 = true then ((slices_Equal_int p0.Random p1.Random).bind fun y6 => (em_model_same_k1 y6)) else (em_model_same_k1 false))) else (em_model_same_k1 false)
set_option maxRecDepth 100000 in
theorem em_model_same_con (p0 : S_em_model) (p1 : S_em_model) (r : Bool) (h : em_model_same p0 p1 = some r) : Con Try.prog 68 [.agg [ci64 p0.Prior, cl 1 Ri64 p0.Match, cl 1 Ri64 p0.Random], .agg [ci64 p1.Prior, cl 1 Ri64 p1.Match, cl 1 Ri64 p1.Random]] [] (vb r) [] := by
 refine con_of tt_ok1 0 Try.func68 (by kernel_rfl) rfl (by kernel_rfl) (fun base X _ => AW.post ?_)
 unfold em_model_same at h
 refine AW.sg tt_ok1 [(3, .c (.ptr 1 3 0 0)), (2, .c (.ptr 0 3 0 0))] [0, 1] [(1, .box 106 [ci64 p1.Prior, cl 1 Ri64 p1.Match, cl 1 Ri64 p1.Random]), (0, .box 106 [ci64 p0.Prior, cl 1 Ri64 p0.Match, cl 1 Ri64 p0.Random])] 3 [] (by kernel_rfl) ?_
 refine AW.seq ?_
 refine AW.join (ι := Bool) (fun v => ⟨[(4, vb v)], [], 0⟩) (fun v : Bool => em_model_same_k1 v = some r) (fun x1 h => ?_) ?_
 ·
  unfold em_model_same_k1 at h
  refine AW.tn (AW.ret ?_)
  obtain rfl := some_inj h
  exact fn0 (.inr rfl) [] 0 (vb x1) (by kernel_rfl)
 ·
  rcases ifs h with ⟨c2, h⟩ | ⟨c2, h⟩
  ·
   obtain ⟨y3, e4, h⟩ := bnd_some h
   rcases ifs h with ⟨c5, hs⟩ | ⟨c5, hs⟩
   ·clear h; subst c5; have h := hs; clear hs
    obtain ⟨y6, e7, h⟩ := bnd_some h
    refine AW.rg tt_ok1 [(4, vb y6)] [] [] 21 [hn, hn, hn, hn, ht c2, hn, hn, hn, hn, hn, hk (slices_Equal_int_con p0.Match p1.Match true e4), hn, hn, hn, hn, hn, hn, hk (slices_Equal_int_con p0.Random p1.Random y6 e7)] (by kernel_rfl) ?_
    exact jl y6 h (conv_re [] (by kernel_rfl))
   ·clear h; subst c5; have h := hs; clear hs
    refine AW.rg tt_ok1 [(4, vb false)] [] [] 22 [hn, hn, hn, hn, ht c2, hn, hn, hn, hn, hn, hk (slices_Equal_int_con p0.Match p1.Match false e4)] (by kernel_rfl) ?_
    exact jl false h (conv_re [] (by kernel_rfl))
  ·
   refine AW.rg tt_ok1 [(4, vb false)] [] [] 23 [hn, hn, hn, hn, hf c2] (by kernel_rfl) ?_
   exact jl false h (conv_re [] (by kernel_rfl))
/-! recordlink/em.Same -/
noncomputable def em_Same (p0 : S_em_model) (p1 : S_em_model) : Option Bool := (em_model_same p0 p1).bind fun y1 => (some y1)
set_option maxRecDepth 100000 in
theorem em_Same_con (p0 : S_em_model) (p1 : S_em_model) (r : Bool) (h : em_Same p0 p1 = some r) : Con Try.prog 47 [.agg [ci64 p0.Prior, cl 1 Ri64 p0.Match, cl 1 Ri64 p0.Random], .agg [ci64 p1.Prior, cl 1 Ri64 p1.Match, cl 1 Ri64 p1.Random]] [] (vb r) [] := by
 refine con_of tt_ok1 0 Try.func47 (by kernel_rfl) rfl (by kernel_rfl) (fun base X _ => AW.post ?_)
 unfold em_Same at h
 refine AW.sg tt_ok1 [(3, .c (.ptr 1 3 0 0)), (2, .c (.ptr 0 3 0 0))] [0, 1] [(1, .box 32 [ci64 p1.Prior, cl 1 Ri64 p1.Match, cl 1 Ri64 p1.Random]), (0, .box 32 [ci64 p0.Prior, cl 1 Ri64 p0.Match, cl 1 Ri64 p0.Random])] 3 [] (by kernel_rfl) ?_
 obtain ⟨y1, e2, h⟩ := bnd_some h
 refine AW.sg tt_ok1 [(4, vb y1)] [] [] 6 [hn, hn, hk (em_model_same_con p0 p1 y1 e2)] (by kernel_rfl) ?_
 refine AW.ret ?_
 obtain rfl := some_inj h
 exact fn0 (.inr rfl) [] 0 (vb y1) (by kernel_rfl)
/-! recordlink/recordlinklaw24.awake -/
noncomputable def rl_law24_awake_k1 (x10 : Bool) : Option Bool := some x10
noncomputable def rl_law24_awake : Option Bool := bind2 (em_Posterior (⟨32768, ([58982] : List Int), ([6554] : List Int)⟩ : S_em_model) 2) fun y1 y2 => (bind2 (em_Share (⟨32768, ([58982] : List Int), ([6554] : List Int)⟩ : S_em_model) 2) fun y4 y5 => (bind2 (em_Step (⟨32768, ([58982] : List Int), ([6554] : List Int)⟩ : S_em_model) ([0, 10, 10] : List Int)) fun y7 y8 => (if (y2 == 0) = true then (if (y5 == 0) = true then (if (y8 == 0) = true then (if (((y1.Num.length : Nat) : Int) == 1) = true then (if (0 : Int) < ((y1.Num.length : Nat) : Int) then (if ((y1.Num.getD 0 0) == 29491) = true then (if (((y1.Den.length : Nat) : Int) == 1) = true then (if (0 : Int) < ((y1.Den.length : Nat) : Int) then (if ((y1.Den.getD 0 0) == 32768) = true then (if (y4 == 966361088) = true then (if (((y7.Match.length : Nat) : Int) == 1) = true then (if (y7.Prior == 32768) = true then ((em_Check (⟨32768, ([58982] : List Int), ([6554] : List Int)⟩ : S_em_model)).bind fun y23 => (if (y23 == 0) = true then ((em_Same (⟨32768, ([58982] : List Int), ([6554] : List Int)⟩ : S_em_model) (⟨32768, ([58982] : List Int), ([6554] : List Int)⟩ : S_em_model)).bind fun y26 => (rl_law24_awake_k1 y26)) else (rl_law24_awake_k1 false))) else (rl_law24_awake_k1 false)) else (rl_law24_awake_k1 false)) else (rl_law24_awake_k1 false)) else (rl_law24_awake_k1 false)) else none) else (rl_law24_awake_k1 false)) else (rl_law24_awake_k1 false)) else none) else (rl_law24_awake_k1 false)) else (rl_law24_awake_k1 false)) else (rl_law24_awake_k1 false)) else (rl_law24_awake_k1 false))))
set_option maxRecDepth 100000 in
theorem rl_law24_awake_con (r : Bool) (h : rl_law24_awake = some r) : Con Try.prog 23 [] [] (vb r) [] := by
 refine con_of tt_ok1 0 Try.func23 (by kernel_rfl) rfl (by kernel_rfl) (fun base X _ => AW.post ?_)
 unfold rl_law24_awake at h
 refine AW.sg tt_ok1 [] [] [] 1 [] (by kernel_rfl) ?_
 refine AW.sg tt_ok1 [(1, .c (.ptr 4 3 0 0))] [1, 2, 4] [(4, .box 32 [ci64 32768, .ref 1 1 0 (([58982] : List Int).length), .ref 2 1 0 (([6554] : List Int).length)]), (2, .row 3 false 1 ([6554] : List Int).length (Ri64 ([6554] : List Int))), (1, .row 3 false 1 ([58982] : List Int).length (Ri64 ([58982] : List Int)))] 6 [hlit 0 Ei64 1 (fun _ => rfl) ([58982] : List Int), hlit 0 Ei64 1 (fun _ => rfl) ([6554] : List Int)] (by kernel_rfl) ?_
 obtain ⟨y1, y2, e3, h⟩ := bind2_some h
 refine AW.sg tt_ok1 [(3, vi64 y2), (2, .c (.ptr 10 2 0 0))] [1, 2, 10] [(10, .box 44 [cl 1 Ru32 y1.Num, cl 1 Ru32 y1.Den]), (1, .row 3 true 1 ([58982] : List Int).length (Ri64 ([58982] : List Int))), (2, .row 3 true 1 ([6554] : List Int).length (Ri64 ([6554] : List Int)))] 13 [hn, hg [] [1, 2] false 0 (q := ((True) ∧ (0 + ([58982] : List Int).length ≤ ([58982] : List Int).length) ∧ (0 + ([6554] : List Int).length ≤ ([6554] : List Int).length) ∧ (True)) ∧ (True) ∧ (True)) ⟨⟨tv, le0, le0, tv⟩, tv, tv⟩ (a0 := [.agg [ci64 32768, cl 1 Ri64 ([58982] : List Int), cl 1 Ri64 ([6554] : List Int)], vi64 2]) (em_Posterior_con (⟨32768, ([58982] : List Int), ([6554] : List Int)⟩ : S_em_model) 2 (y1, y2) e3) ⟨ArgLe.refl _, ArgLe.refl _, tv⟩ (fun h => by cases h)] (by kernel_rfl) ?_
 obtain ⟨y4, y5, e6, h⟩ := bind2_some h
 refine AW.sg tt_ok1 [(5, vi64 y5), (4, vi64 y4)] [] [] 19 [hn, hg [] [] true 0 (q := ((True) ∧ (0 + ([58982] : List Int).length ≤ ([58982] : List Int).length) ∧ (0 + ([6554] : List Int).length ≤ ([6554] : List Int).length) ∧ (True)) ∧ (True) ∧ (True)) ⟨⟨tv, le0, le0, tv⟩, tv, tv⟩ (a0 := [.agg [ci64 32768, cl 1 Ri64 ([58982] : List Int), cl 1 Ri64 ([6554] : List Int)], vi64 2]) (em_Share_con (⟨32768, ([58982] : List Int), ([6554] : List Int)⟩ : S_em_model) 2 (y4, y5) e6) ⟨ArgLe.refl _, ArgLe.refl _, tv⟩ (fun _ => tv)] (by kernel_rfl) ?_
 obtain ⟨y7, y8, e9, h⟩ := bind2_some h
 refine AW.sg tt_ok1 [(7, vi64 y8), (6, .c (.ptr 26 3 0 0))] [20, 21, 22, 26] [(26, .box 32 [ci64 y7.Prior, .ref 21 1 0 y7.Match.length, .ref 22 1 0 y7.Random.length]), (21, .row 3 false 1 y7.Match.length (Ri64 y7.Match)), (22, .row 3 false 1 y7.Random.length (Ri64 y7.Random))] 29 [hn, hlit 0 Ei64 1 (fun _ => rfl) ([0, 10, 10] : List Int), hg [] [] true 2 (q := ((True) ∧ (0 + ([58982] : List Int).length ≤ ([58982] : List Int).length) ∧ (0 + ([6554] : List Int).length ≤ ([6554] : List Int).length) ∧ (True)) ∧ (0 + ([0, 10, 10] : List Int).length ≤ ([0, 10, 10] : List Int).length) ∧ (True)) ⟨⟨tv, le0, le0, tv⟩, le0, tv⟩ (a0 := [.agg [ci64 32768, cl 1 Ri64 ([58982] : List Int), cl 1 Ri64 ([6554] : List Int)], vl 1 Ri64 ([0, 10, 10] : List Int)]) (em_Step_con (⟨32768, ([58982] : List Int), ([6554] : List Int)⟩ : S_em_model) ([0, 10, 10] : List Int) (y7, y8) e9) ⟨ArgLe.refl _, ArgLe.refl _, tv⟩ (fun _ => ⟨rowL_flat Vi64 _ _ _, rowL_flat Vi64 _ _ _, tv⟩)] (by kernel_rfl) ?_
 refine AW.seq ?_
 refine AW.join (ι := Bool) (fun v => ⟨[(0, vb v)], [], 0⟩) (fun v : Bool => rl_law24_awake_k1 v = some r) (fun x10 h => ?_) ?_
 ·
  unfold rl_law24_awake_k1 at h
  refine AW.tn (AW.ret ?_)
  obtain rfl := some_inj h
  exact fn0 (.inr rfl) [] 0 (vb x10) (by kernel_rfl)
 ·
  rcases ifs h with ⟨c11, h⟩ | ⟨c11, h⟩
  ·
   rcases ifs h with ⟨c12, h⟩ | ⟨c12, h⟩
   ·
    rcases ifs h with ⟨c13, h⟩ | ⟨c13, h⟩
    ·
     rcases ifs h with ⟨c14, h⟩ | ⟨c14, h⟩
     ·
      obtain ⟨g15, h⟩ := ifc h
      rcases ifs h with ⟨c16, h⟩ | ⟨c16, h⟩
      ·
       rcases ifs h with ⟨c17, h⟩ | ⟨c17, h⟩
       ·
        obtain ⟨g18, h⟩ := ifc h
        rcases ifs h with ⟨c19, h⟩ | ⟨c19, h⟩
        ·
         rcases ifs h with ⟨c20, h⟩ | ⟨c20, h⟩
         ·
          rcases ifs h with ⟨c21, h⟩ | ⟨c21, h⟩
          ·
           rcases ifs h with ⟨c22, h⟩ | ⟨c22, h⟩
           ·
            obtain ⟨y23, e24, h⟩ := bnd_some h
            rcases ifs h with ⟨c25, h⟩ | ⟨c25, h⟩
            ·
             obtain ⟨y26, e27, h⟩ := bnd_some h
             refine AW.rg tt_ok1 [(0, vb y26)] [] [] 89 [hn, ht c11, hn, hn, ht c12, hn, hn, hn, ht c13, hn, hn, hn, hn, hn, ht c14, hn, hn, hn, hn, ho (p := (0 ≤ (0 : Int)) ∧ ((0 : Int) < ((y1.Num.length : Nat) : Int))) (⟨(by decide), g15⟩), hn, ht c16, hn, hn, hn, hn, hn, ht c17, hn, hn, hn, hn, ho (p := (0 ≤ (0 : Int)) ∧ ((0 : Int) < ((y1.Den.length : Nat) : Int))) (⟨(by decide), g18⟩), hn, ht c19, hn, hn, hn, ht c20, hn, hn, hn, hn, hn, ht c21, hn, hn, hn, hn, ht c22, hn, hn, hn, hg [] [] true 0 (q := ((True) ∧ (0 + ([58982] : List Int).length ≤ ([58982] : List Int).length) ∧ (0 + ([6554] : List Int).length ≤ ([6554] : List Int).length) ∧ (True)) ∧ (True)) ⟨⟨tv, le0, le0, tv⟩, tv⟩ (a0 := [.agg [ci64 32768, cl 1 Ri64 ([58982] : List Int), cl 1 Ri64 ([6554] : List Int)]]) (em_Check_con (⟨32768, ([58982] : List Int), ([6554] : List Int)⟩ : S_em_model) y23 e24) ⟨ArgLe.refl _, tv⟩ (fun _ => tv), ht c25, hn, hn, hn, hn, hg [] [] true 0 (q := ((True) ∧ (0 + ([58982] : List Int).length ≤ ([58982] : List Int).length) ∧ (0 + ([6554] : List Int).length ≤ ([6554] : List Int).length) ∧ (True)) ∧ ((True) ∧ (0 + ([58982] : List Int).length ≤ ([58982] : List Int).length) ∧ (0 + ([6554] : List Int).length ≤ ([6554] : List Int).length) ∧ (True)) ∧ (True)) ⟨⟨tv, le0, le0, tv⟩, ⟨tv, le0, le0, tv⟩, tv⟩ (a0 := [.agg [ci64 32768, cl 1 Ri64 ([58982] : List Int), cl 1 Ri64 ([6554] : List Int)], .agg [ci64 32768, cl 1 Ri64 ([58982] : List Int), cl 1 Ri64 ([6554] : List Int)]]) (em_Same_con (⟨32768, ([58982] : List Int), ([6554] : List Int)⟩ : S_em_model) (⟨32768, ([58982] : List Int), ([6554] : List Int)⟩ : S_em_model) y26 e27) ⟨ArgLe.refl _, ArgLe.refl _, tv⟩ (fun _ => tv)] (by kernel_rfl) ?_
             exact jl y26 h (conv_re [] (by kernel_rfl))
            ·
             refine AW.rg tt_ok1 [(0, vb false)] [] [] 90 [hn, ht c11, hn, hn, ht c12, hn, hn, hn, ht c13, hn, hn, hn, hn, hn, ht c14, hn, hn, hn, hn, ho (p := (0 ≤ (0 : Int)) ∧ ((0 : Int) < ((y1.Num.length : Nat) : Int))) (⟨(by decide), g15⟩), hn, ht c16, hn, hn, hn, hn, hn, ht c17, hn, hn, hn, hn, ho (p := (0 ≤ (0 : Int)) ∧ ((0 : Int) < ((y1.Den.length : Nat) : Int))) (⟨(by decide), g18⟩), hn, ht c19, hn, hn, hn, ht c20, hn, hn, hn, hn, hn, ht c21, hn, hn, hn, hn, ht c22, hn, hn, hn, hg [] [] true 0 (q := ((True) ∧ (0 + ([58982] : List Int).length ≤ ([58982] : List Int).length) ∧ (0 + ([6554] : List Int).length ≤ ([6554] : List Int).length) ∧ (True)) ∧ (True)) ⟨⟨tv, le0, le0, tv⟩, tv⟩ (a0 := [.agg [ci64 32768, cl 1 Ri64 ([58982] : List Int), cl 1 Ri64 ([6554] : List Int)]]) (em_Check_con (⟨32768, ([58982] : List Int), ([6554] : List Int)⟩ : S_em_model) y23 e24) ⟨ArgLe.refl _, tv⟩ (fun _ => tv), hf c25] (by kernel_rfl) ?_
             exact jl false h (conv_re [] (by kernel_rfl))
           ·
            refine AW.rg tt_ok1 [(0, vb false)] [] [] 91 [hn, ht c11, hn, hn, ht c12, hn, hn, hn, ht c13, hn, hn, hn, hn, hn, ht c14, hn, hn, hn, hn, ho (p := (0 ≤ (0 : Int)) ∧ ((0 : Int) < ((y1.Num.length : Nat) : Int))) (⟨(by decide), g15⟩), hn, ht c16, hn, hn, hn, hn, hn, ht c17, hn, hn, hn, hn, ho (p := (0 ≤ (0 : Int)) ∧ ((0 : Int) < ((y1.Den.length : Nat) : Int))) (⟨(by decide), g18⟩), hn, ht c19, hn, hn, hn, ht c20, hn, hn, hn, hn, hn, ht c21, hn, hn, hn, hn, hf c22] (by kernel_rfl) ?_
            exact jl false h (conv_re [] (by kernel_rfl))
          ·
           refine AW.rg tt_ok1 [(0, vb false)] [] [] 91 [hn, ht c11, hn, hn, ht c12, hn, hn, hn, ht c13, hn, hn, hn, hn, hn, ht c14, hn, hn, hn, hn, ho (p := (0 ≤ (0 : Int)) ∧ ((0 : Int) < ((y1.Num.length : Nat) : Int))) (⟨(by decide), g15⟩), hn, ht c16, hn, hn, hn, hn, hn, ht c17, hn, hn, hn, hn, ho (p := (0 ≤ (0 : Int)) ∧ ((0 : Int) < ((y1.Den.length : Nat) : Int))) (⟨(by decide), g18⟩), hn, ht c19, hn, hn, hn, ht c20, hn, hn, hn, hn, hn, hf c21] (by kernel_rfl) ?_
           exact jl false h (conv_re [] (by kernel_rfl))
         ·
          refine AW.rg tt_ok1 [(0, vb false)] [] [] 91 [hn, ht c11, hn, hn, ht c12, hn, hn, hn, ht c13, hn, hn, hn, hn, hn, ht c14, hn, hn, hn, hn, ho (p := (0 ≤ (0 : Int)) ∧ ((0 : Int) < ((y1.Num.length : Nat) : Int))) (⟨(by decide), g15⟩), hn, ht c16, hn, hn, hn, hn, hn, ht c17, hn, hn, hn, hn, ho (p := (0 ≤ (0 : Int)) ∧ ((0 : Int) < ((y1.Den.length : Nat) : Int))) (⟨(by decide), g18⟩), hn, ht c19, hn, hn, hn, hf c20] (by kernel_rfl) ?_
          exact jl false h (conv_re [] (by kernel_rfl))
        ·
         refine AW.rg tt_ok1 [(0, vb false)] [] [] 91 [hn, ht c11, hn, hn, ht c12, hn, hn, hn, ht c13, hn, hn, hn, hn, hn, ht c14, hn, hn, hn, hn, ho (p := (0 ≤ (0 : Int)) ∧ ((0 : Int) < ((y1.Num.length : Nat) : Int))) (⟨(by decide), g15⟩), hn, ht c16, hn, hn, hn, hn, hn, ht c17, hn, hn, hn, hn, ho (p := (0 ≤ (0 : Int)) ∧ ((0 : Int) < ((y1.Den.length : Nat) : Int))) (⟨(by decide), g18⟩), hn, hf c19] (by kernel_rfl) ?_
         exact jl false h (conv_re [] (by kernel_rfl))
       ·
        refine AW.rg tt_ok1 [(0, vb false)] [] [] 91 [hn, ht c11, hn, hn, ht c12, hn, hn, hn, ht c13, hn, hn, hn, hn, hn, ht c14, hn, hn, hn, hn, ho (p := (0 ≤ (0 : Int)) ∧ ((0 : Int) < ((y1.Num.length : Nat) : Int))) (⟨(by decide), g15⟩), hn, ht c16, hn, hn, hn, hn, hn, hf c17] (by kernel_rfl) ?_
        exact jl false h (conv_re [] (by kernel_rfl))
      ·
       refine AW.rg tt_ok1 [(0, vb false)] [] [] 91 [hn, ht c11, hn, hn, ht c12, hn, hn, hn, ht c13, hn, hn, hn, hn, hn, ht c14, hn, hn, hn, hn, ho (p := (0 ≤ (0 : Int)) ∧ ((0 : Int) < ((y1.Num.length : Nat) : Int))) (⟨(by decide), g15⟩), hn, hf c16] (by kernel_rfl) ?_
       exact jl false h (conv_re [] (by kernel_rfl))
     ·
      refine AW.rg tt_ok1 [(0, vb false)] [] [] 91 [hn, ht c11, hn, hn, ht c12, hn, hn, hn, ht c13, hn, hn, hn, hn, hn, hf c14] (by kernel_rfl) ?_
      exact jl false h (conv_re [] (by kernel_rfl))
    ·
     refine AW.rg tt_ok1 [(0, vb false)] [] [] 91 [hn, ht c11, hn, hn, ht c12, hn, hn, hn, hf c13] (by kernel_rfl) ?_
     exact jl false h (conv_re [] (by kernel_rfl))
   ·
    refine AW.rg tt_ok1 [(0, vb false)] [] [] 91 [hn, ht c11, hn, hn, hf c12] (by kernel_rfl) ?_
    exact jl false h (conv_re [] (by kernel_rfl))
  ·
   refine AW.rg tt_ok1 [(0, vb false)] [] [] 91 [hn, hf c11] (by kernel_rfl) ?_
   exact jl false h (conv_re [] (by kernel_rfl))
/-! (*recordlink/recordlinkmake.Deck).Counts -/
noncomputable def rl_make_Deck_Counts_l1 (p1 : Int) (x3 : Int) (x4 : Int) : Option ((Int × Int) ⊕ Int) := if (decide (x4 < p1)) = true then (some (.inl (i64.wrap (x3 * 3), i64.wrap (x4 + 1)))) else (some (.inr x3))
noncomputable def rl_make_Deck_Counts_l2 (x7 : Int) (x18 : List Int) (x19 : Int) (x20 : List Int) (x21 : Int) (x22 : Int) : Option (((List Int) × Int × (List Int) × Int × Int) ⊕ ((List Int) × (List Int) × Int × Int)) := if (decide (x19 > 0)) = true then (bind2 (rl_make_Deck_Next (⟨x20, x21, x22⟩ : S_recordlinkmake_Deck) x7) fun y28 y29 => (if 0 ≤ y28 then (if y28 < (x18.length : Int) then (bind2 (rl_make_Deck_Next y29 40) fun y33 y34 => (some (.inl ((x18.set (0 + y28.toNat) (i64.wrap ((x18.getD (0 + y28.toNat) 0) + y33))), i64.wrap (x19 - 1), y34.list, y34.at_, y34.state)))) else none) else none)) else (some (.inr (x18, x20, x21, x22)))
noncomputable def rl_make_Deck_Counts (p0 : S_recordlinkmake_Deck) (p1 : Int) : Option ((List Int) × S_recordlinkmake_Deck) := (loop (fun v : Int × Int => rl_make_Deck_Counts_l1 p1 v.1 v.2) (1, 0)).bind fun x7 => (if 0 ≤ x7 then (if x7 ≤ 1099511627776 then (bind2 (rl_make_Deck_Next p0 20) fun y10 y11 => (bind4 (loop (fun v : (List Int) × Int × (List Int) × Int × Int => rl_make_Deck_Counts_l2 x7 v.1 v.2.1 v.2.2.1 v.2.2.2.1 v.2.2.2.2) ((List.replicate x7.toNat (0 : Int)), y10, y11.list, y11.at_, y11.state)) fun x36 x37 x38 x39 => (some (x36, (⟨x37, x38, x39⟩ : S_recordlinkmake_Deck))))) else none) else none)
set_option maxRecDepth 100000 in
theorem rl_make_Deck_Counts_con (p0 : S_recordlinkmake_Deck) (p1 : Int) (r : (List Int) × S_recordlinkmake_Deck) (h : rl_make_Deck_Counts p0 p1 = some r) : Con Try.prog 25 [.c (.ptr 0 3 0 0), vi64 p1] [(0, .box 72 [cl 1 Ri64 p0.list, ci64 p0.at_, cu64 p0.state])] (.c (.ref 1 1 0 r.1.length)) [(0, .box 72 [cl 1 Ri64 r.2.list, ci64 r.2.at_, cu64 r.2.state]), (1, .row 3 false 1 r.1.length (Ri64 r.1))] := by
 refine con_of tt_ok1 1 Try.func25 (by kernel_rfl) rfl (by kernel_rfl) (fun base X _ => AW.post ?_)
 unfold rl_make_Deck_Counts at h
 refine AW.sg tt_ok1 [] [] [] 2 [] (by kernel_rfl) ?_
 refine AW.sg tt_ok1 [(5, vi64 1)] [] [] 3 [] (by kernel_rfl) ?_
 refine AW.seq ?_
 refine AW.sg tt_ok1 [(6, vi64 0)] [] [] 4 [] (by kernel_rfl) ?_
 refine AW.block ?_
 obtain ⟨x7, l41, h⟩ := bnd_some h
 refine AW.lp l41 (fun v => ⟨[(0, .c (.ptr 0 3 0 0)), (1, vi64 p1), (5, vi64 v.1), (6, vi64 v.2)], [(0, .box 72 [cl 1 Ri64 p0.list, ci64 p0.at_, cu64 p0.state])], 1⟩) (fun t : Int => (.exit 0, ⟨[(0, .c (.ptr 0 3 0 0)), (5, vi64 t)], [(0, .box 72 [cl 1 Ri64 p0.list, ci64 p0.at_, cu64 p0.state])], 1⟩)) (conv_re [(0, 0)] (by kernel_rfl)) (fun _ => tv) ?_ ?_
 ·
  clear l41 h
  intro v o h
  obtain ⟨x3, x4⟩ := v
  replace h : rl_make_Deck_Counts_l1 p1 x3 x4 = some o := h
  unfold rl_make_Deck_Counts_l1 at h
  refine AW.seq ?_
  refine AW.sg tt_ok1 [(11, vb (decide (x4 < p1)))] [] [] 4 [] (by kernel_rfl) ?_
  refine AW.co h (by kernel_rfl) (fun c6 h => ?_) (fun c6 h => ?_)
  ·
   refine AW.skip (AW.tn ?_)
   refine AW.seq (AW.block ?_)
   refine AW.rg tt_ok1 [(5, vi64 (i64.wrap (x3 * 3)))] [] [] 7 [] (by kernel_rfl) ?_
   refine AW.inBlock_normal (AW.tn ?_)
   refine AW.rg tt_ok1 [(6, vi64 (i64.wrap (x4 + 1)))] [] [] 10 [] (by kernel_rfl) ?_
   exact lpn h (conv_re [(0, 0)] (by kernel_rfl))
  ·
   refine AW.exit (AW.thenQ_exit ?_)
   exact lpo h rfl (conv_re [(0, 0)] (by kernel_rfl))
 ·
  show (_ : Exit → St → Prop) (.exit 0) _
  refine AW.inBlock_hit (AW.tn ?_)
  obtain ⟨g8, g9, h⟩ := ifd h
  refine AW.sg tt_ok1 [(7, .c (.ref 2 1 0 ((List.replicate x7.toNat (0 : Int)).length)))] [2] [(2, .row 3 false 1 (List.replicate x7.toNat (0 : Int)).length (Ri64 (List.replicate x7.toNat (0 : Int))))] 4 [hn, hmk 0 Ei64 1 8 [.int .i64 0] rfl rfl x7 x7 g8 (Int.le_refl _) g9 (by decide)] (by kernel_rfl) ?_
  refine AW.seq ?_
  obtain ⟨y10, y11, e12, h⟩ := bind2_some h
  refine AW.sg tt_ok1 [(8, vi64 y10)] [0] [(0, .box 72 [cl 1 Ri64 y11.list, ci64 y11.at_, cu64 y11.state])] 6 [hn, hl [0] [] 0 (rl_make_Deck_Next_con p0 20 (y10, y11) e12)] (by kernel_rfl) ?_
  refine AW.block ?_
  obtain ⟨x36, x37, x38, x39, l40, h⟩ := bind4_some h
  refine AW.lp l40 (fun v => ⟨[(0, .c (.ptr 0 3 0 0)), (5, vi64 x7), (7, .c (.ref 1 1 0 v.1.length)), (8, vi64 v.2.1)], [(0, .box 72 [cl 1 Ri64 v.2.2.1, ci64 v.2.2.2.1, cu64 v.2.2.2.2]), (1, .row 3 false 1 v.1.length (Ri64 v.1))], 2⟩) (fun t : (List Int) × (List Int) × Int × Int => (.exit 2, ⟨[(7, .c (.ref 1 1 0 t.1.length))], [(0, .box 72 [cl 1 Ri64 t.2.1, ci64 t.2.2.1, cu64 t.2.2.2]), (1, .row 3 false 1 t.1.length (Ri64 t.1))], 2⟩)) (conv_re [(0, 0), (1, 2)] (by kernel_rfl)) (fun _ => tv) ?_ ?_
  ·
   clear l40 h
   intro v o h
   obtain ⟨x18, x19, x20, x21, x22⟩ := v
   replace h : rl_make_Deck_Counts_l2 x7 x18 x19 x20 x21 x22 = some o := h
   unfold rl_make_Deck_Counts_l2 at h
   refine AW.seq ?_
   refine AW.sg tt_ok1 [(21, vb (decide (x19 > 0)))] [] [] 4 [] (by kernel_rfl) ?_
   refine AW.co h (by kernel_rfl) (fun c27 h => ?_) (fun c27 h => ?_)
   ·
    refine AW.skip (AW.tn ?_)
    refine AW.seq (AW.block ?_)
    obtain ⟨y28, y29, e30, h⟩ := bind2_some h
    obtain ⟨g31, g32, h⟩ := ifd h
    obtain ⟨y33, y34, e35, h⟩ := bind2_some h
    refine AW.rd tt_ok1 mo1 [[], [], [], [0], [], [], [], [0], [], [], [1]] [] [(1, .row 3 false 1 x18.length (Ri64 (x18.set (0 + y28.toNat) (i64.wrap ((x18.getD (0 + y28.toNat) 0) + y33))))), (0, .box 72 [cl 1 Ri64 y34.list, ci64 y34.at_, cu64 y34.state])] 13 [hn, hn, hn, hl [0] [] 0 (rl_make_Deck_Next_con (⟨x20, x21, x22⟩ : S_recordlinkmake_Deck) x7 (y28, y29) e30), hq g31 g32, ho (p := (0 + y28.toNat) < x18.length) (by have h1 : 0 ≤ y28 := g31; have h2 : y28 < (x18.length : Int) := g32; omega), hn, hl [0] [] 0 (rl_make_Deck_Next_con y29 40 (y33, y34) e35), hn, hq g31 g32, hset 0 Ei64 x18 (0 + y28.toNat) (i64.wrap ((x18.getD (0 + y28.toNat) 0) + y33)) (n := x18.length) (by have h1 : 0 ≤ y28 := g31; have h2 : y28 < (x18.length : Int) := g32; omega) rfl] (by kernel_rfl) ?_
    refine AW.inBlock_normal (AW.tn ?_)
    refine AW.rg tt_ok1 [(8, vi64 (i64.wrap (x19 - 1)))] [] [] 16 [] (by kernel_rfl) ?_
    exact lpn h (Conv.trans (conv_tms [(7, .c (.ref 1 1 0 ((x18.set (0 + y28.toNat) (i64.wrap ((x18.getD (0 + y28.toNat) 0) + y33))).length)))] ⟨⟨.c (.ref 1 1 0 x18.length), by kernel_rfl, ALe.len (by simp only [List.length_set])⟩, tv⟩) (Conv.trans (conv_rowN 1 3 false 1 x18.length ((x18.set (0 + y28.toNat) (i64.wrap ((x18.getD (0 + y28.toNat) 0) + y33))).length) (Ri64 (x18.set (0 + y28.toNat) (i64.wrap ((x18.getD (0 + y28.toNat) 0) + y33)))) (by kernel_rfl) (by simp only [List.length_set])) (conv_re [(0, 0), (1, 1)] (by kernel_rfl))))
   ·
    refine AW.exit (AW.thenQ_exit ?_)
    exact lpo h rfl (conv_re [(0, 0), (1, 1)] (by kernel_rfl))
  ·
   show (_ : Exit → St → Prop) (.exit 2) _
   refine AW.inBlock_hit (AW.tn ?_)
   refine AW.sg tt_ok1 [(4, .c (.ref 1 1 0 x36.length))] [] [] 4 [] (by kernel_rfl) ?_
   refine AW.ret ?_
   obtain rfl := some_inj h
   exact fn0 (.inr rfl) [(0, 0), (1, 1)] 2 (.c (.ref 1 1 0 x36.length)) (by kernel_rfl)
/-! recordlink/recordlinkref17.Size -/
noncomputable def rl_ref17_Size_l1 (p0 : Int) (x3 : Int) (x4 : Int) : Option ((Int × Int) ⊕ Int) := if (decide (x4 < p0)) = true then (some (.inl (i64.wrap (x3 * 3), i64.wrap (x4 + 1)))) else (some (.inr x3))
noncomputable def rl_ref17_Size (p0 : Int) : Option Int := (loop (fun v : Int × Int => rl_ref17_Size_l1 p0 v.1 v.2) (1, 0)).bind fun x7 => (some x7)
set_option maxRecDepth 100000 in
theorem rl_ref17_Size_con (p0 : Int) (r : Int) (h : rl_ref17_Size p0 = some r) : Con Try.prog 26 [vi64 p0] [] (vi64 r) [] := by
 refine con_of tt_ok1 0 Try.func26 (by kernel_rfl) rfl (by kernel_rfl) (fun base X _ => AW.post ?_)
 unfold rl_ref17_Size at h
 refine AW.sg tt_ok1 [] [] [] 1 [] (by kernel_rfl) ?_
 refine AW.sg tt_ok1 [(3, vi64 1)] [] [] 2 [] (by kernel_rfl) ?_
 refine AW.seq ?_
 refine AW.sg tt_ok1 [(4, vi64 0)] [] [] 3 [] (by kernel_rfl) ?_
 refine AW.block ?_
 obtain ⟨x7, l8, h⟩ := bnd_some h
 refine AW.lp l8 (fun v => ⟨[(0, vi64 p0), (3, vi64 v.1), (4, vi64 v.2)], [], 0⟩) (fun t : Int => (.exit 0, ⟨[(3, vi64 t)], [], 0⟩)) (conv_re [] (by kernel_rfl)) (fun _ => tv) ?_ ?_
 ·
  clear l8 h
  intro v o h
  obtain ⟨x3, x4⟩ := v
  replace h : rl_ref17_Size_l1 p0 x3 x4 = some o := h
  unfold rl_ref17_Size_l1 at h
  refine AW.seq ?_
  refine AW.sg tt_ok1 [(7, vb (decide (x4 < p0)))] [] [] 3 [] (by kernel_rfl) ?_
  refine AW.co h (by kernel_rfl) (fun c6 h => ?_) (fun c6 h => ?_)
  ·
   refine AW.skip (AW.tn ?_)
   refine AW.seq (AW.block ?_)
   refine AW.rg tt_ok1 [(3, vi64 (i64.wrap (x3 * 3)))] [] [] 6 [] (by kernel_rfl) ?_
   refine AW.inBlock_normal (AW.tn ?_)
   refine AW.rg tt_ok1 [(4, vi64 (i64.wrap (x4 + 1)))] [] [] 9 [] (by kernel_rfl) ?_
   exact lpn h (conv_re [] (by kernel_rfl))
  ·
   refine AW.exit (AW.thenQ_exit ?_)
   exact lpo h rfl (conv_re [] (by kernel_rfl))
 ·
  show (_ : Exit → St → Prop) (.exit 0) _
  refine AW.inBlock_hit (AW.tn ?_)
  refine AW.sg tt_ok1 [(2, vi64 x7)] [] [] 2 [] (by kernel_rfl) ?_
  refine AW.ret ?_
  obtain rfl := some_inj h
  exact fn0 (.inr rfl) [] 0 (vi64 x7) (by kernel_rfl)
/-! recordlink/recordlinkref01.Ints -/
noncomputable def rl_ref01_Ints_l1 (p0 : List Int) (p1 : List Int) (x3 : Int) : Option (Int ⊕ (Unit ⊕ Unit)) := if (decide (x3 < (p0.length : Int))) = true then (if 0 ≤ x3 then (if x3 < (p0.length : Int) then (if x3 < (p1.length : Int) then (if ((p0.getD x3.toNat 0) != (p1.getD x3.toNat 0)) = true then (some (.inr (.inr ()))) else (some (.inl (i64.wrap (x3 + 1))))) else none) else none) else none) else (some (.inr (.inl ())))
noncomputable def rl_ref01_Ints_a2 : Option Bool := some true
noncomputable def rl_ref01_Ints_a3 : Option Bool := some false
noncomputable def rl_ref01_Ints (p0 : List Int) (p1 : List Int) : Option Bool := if ((p0.length : Int) != (p1.length : Int)) = true then (some false) else (bindE (loop (fun v : Int => rl_ref01_Ints_l1 p0 p1 v) 0) (fun t => rl_ref01_Ints_a2) (fun t => rl_ref01_Ints_a3))
set_option maxRecDepth 100000 in
theorem rl_ref01_Ints_con (p0 : List Int) (p1 : List Int) (r : Bool) (h : rl_ref01_Ints p0 p1 = some r) : Con Try.prog 53 [vl 1 Ri64 p0, vl 1 Ri64 p1] [] (vb r) [] := by
 refine con_of tt_ok1 0 Try.func53 (by kernel_rfl) rfl (by kernel_rfl) (fun base X _ => AW.post ?_)
 unfold rl_ref01_Ints at h
 refine AW.sg tt_ok1 [] [] [] 1 [] (by kernel_rfl) ?_
 refine AW.seq ?_
 refine AW.sg tt_ok1 [(10, vb ((p0.length : Int) != (p1.length : Int)))] [] [] 6 [] (by kernel_rfl) ?_
 refine AW.co h (by kernel_rfl) (fun c1 h => ?_) (fun c1 h => ?_)
 ·
  refine AW.sg tt_ok1 [(4, vb false)] [] [] 7 [] (by kernel_rfl) ?_
  refine AW.ret (AW.tr ?_)
  obtain rfl := some_inj h
  exact fn0 (.inr rfl) [] 0 (vb false) (by kernel_rfl)
 ·
  refine AW.skip (AW.tn (AW.seq ?_))
  refine AW.sg tt_ok1 [(5, vi64 0)] [] [] 7 [] (by kernel_rfl) ?_
  refine AW.block ?_
  refine AW.lpE h (fun v => ⟨[(0, vl 1 Ri64 p0), (1, vl 1 Ri64 p1), (5, vi64 v)], [], 0⟩) (fun t => (.exit 0, ⟨[], [], 0⟩)) (fun t => (.ret, ⟨[(4, vb false)], [], 0⟩)) (conv_re [] (by kernel_rfl)) (fun _ => tv) (fun _ => tv) ?_ (fun t h => ?_) (fun t h => ?_)
  ·
   clear h
   intro x3 o h
   unfold rl_ref01_Ints_l1 at h
   refine AW.seq ?_
   refine AW.sg tt_ok1 [(14, vb (decide (x3 < (p0.length : Int))))] [] [] 4 [] (by kernel_rfl) ?_
   refine AW.co h (by kernel_rfl) (fun c4 h => ?_) (fun c4 h => ?_)
   ·
    refine AW.skip (AW.tn ?_)
    refine AW.seq (AW.block ?_)
    obtain ⟨g5, g6, h⟩ := ifd h
    obtain ⟨g7, h⟩ := ifc h
    refine AW.sd tt_ok1 mo1 [] [(25, vb ((p0.getD x3.toNat 0) != (p1.getD x3.toNat 0)))] [] 13 [hn, hn, hq g5 g6, hn, hn, hn, hq g5 g7] (by kernel_rfl) ?_
    refine AW.co h (by kernel_rfl) (fun c8 h => ?_) (fun c8 h => ?_)
    ·
     refine AW.sg tt_ok1 [(4, vb false)] [] [] 14 [] (by kernel_rfl) ?_
     refine AW.ret (AW.inBlock_ret (AW.tr ?_))
     exact lpo h rfl (conv_re [] (by kernel_rfl))
    ·
     refine AW.skip (AW.inBlock_normal (AW.tn ?_))
     refine AW.rg tt_ok1 [(5, vi64 (i64.wrap (x3 + 1)))] [] [] 16 [] (by kernel_rfl) ?_
     exact lpn h (conv_re [] (by kernel_rfl))
   ·
    refine AW.exit (AW.thenQ_exit ?_)
    exact lpo h rfl (conv_re [] (by kernel_rfl))
  ·
   replace h : rl_ref01_Ints_a2 = some r := h
   unfold rl_ref01_Ints_a2 at h
   show (_ : Exit → St → Prop) (.exit 0) _
   refine AW.inBlock_hit (AW.tn ?_)
   refine AW.sg tt_ok1 [(4, vb true)] [] [] 1 [] (by kernel_rfl) ?_
   refine AW.ret ?_
   obtain rfl := some_inj h
   exact fn0 (.inr rfl) [] 0 (vb true) (by kernel_rfl)
  ·
   replace h : rl_ref01_Ints_a3 = some r := h
   unfold rl_ref01_Ints_a3 at h
   show (_ : Exit → St → Prop) (.ret) _
   refine AW.inBlock_ret (AW.tr ?_)
   obtain rfl := some_inj h
   exact fn0 (.inr rfl) [] 0 (vb false) (by kernel_rfl)
/-! recordlink/recordlinkref24.Same -/
noncomputable def rl_ref24_Same_k1 (x1 : Bool) : Option Bool := some x1
noncomputable def rl_ref24_Same (p0 : S_em_model) (p1 : S_em_model) : Option Bool := if (p0.Prior == p1.Prior) = true then ((rl_ref01_Ints p0.Match p1.Match).bind fun y3 => (if y3 = true then ((rl_ref01_Ints p0.Random p1.Random).bind fun y6 => (rl_ref24_Same_k1 y6)) else (rl_ref24_Same_k1 false))) else (rl_ref24_Same_k1 false)
set_option maxRecDepth 100000 in
theorem rl_ref24_Same_con (p0 : S_em_model) (p1 : S_em_model) (r : Bool) (h : rl_ref24_Same p0 p1 = some r) : Con Try.prog 28 [.agg [ci64 p0.Prior, cl 1 Ri64 p0.Match, cl 1 Ri64 p0.Random], .agg [ci64 p1.Prior, cl 1 Ri64 p1.Match, cl 1 Ri64 p1.Random]] [] (vb r) [] := by
 refine con_of tt_ok1 0 Try.func28 (by kernel_rfl) rfl (by kernel_rfl) (fun base X _ => AW.post ?_)
 unfold rl_ref24_Same at h
 refine AW.sg tt_ok1 [(3, .c (.ptr 1 3 0 0)), (2, .c (.ptr 0 3 0 0))] [0, 1] [(1, .box 32 [ci64 p1.Prior, cl 1 Ri64 p1.Match, cl 1 Ri64 p1.Random]), (0, .box 32 [ci64 p0.Prior, cl 1 Ri64 p0.Match, cl 1 Ri64 p0.Random])] 3 [] (by kernel_rfl) ?_
 refine AW.seq ?_
 refine AW.join (ι := Bool) (fun v => ⟨[(4, vb v)], [], 0⟩) (fun v : Bool => rl_ref24_Same_k1 v = some r) (fun x1 h => ?_) ?_
 ·
  unfold rl_ref24_Same_k1 at h
  refine AW.tn (AW.ret ?_)
  obtain rfl := some_inj h
  exact fn0 (.inr rfl) [] 0 (vb x1) (by kernel_rfl)
 ·
  rcases ifs h with ⟨c2, h⟩ | ⟨c2, h⟩
  ·
   obtain ⟨y3, e4, h⟩ := bnd_some h
   rcases ifs h with ⟨c5, hs⟩ | ⟨c5, hs⟩
   ·clear h; subst c5; have h := hs; clear hs
    obtain ⟨y6, e7, h⟩ := bnd_some h
    refine AW.rg tt_ok1 [(4, vb y6)] [] [] 21 [hn, hn, hn, hn, ht c2, hn, hn, hn, hn, hn, hk (rl_ref01_Ints_con p0.Match p1.Match true e4), hn, hn, hn, hn, hn, hn, hk (rl_ref01_Ints_con p0.Random p1.Random y6 e7)] (by kernel_rfl) ?_
    exact jl y6 h (conv_re [] (by kernel_rfl))
   ·clear h; subst c5; have h := hs; clear hs
    refine AW.rg tt_ok1 [(4, vb false)] [] [] 22 [hn, hn, hn, hn, ht c2, hn, hn, hn, hn, hn, hk (rl_ref01_Ints_con p0.Match p1.Match false e4)] (by kernel_rfl) ?_
    exact jl false h (conv_re [] (by kernel_rfl))
  ·
   refine AW.rg tt_ok1 [(4, vb false)] [] [] 23 [hn, hn, hn, hn, hf c2] (by kernel_rfl) ?_
   exact jl false h (conv_re [] (by kernel_rfl))
/-! recordlink/recordlinkref17.Digits -/
noncomputable def rl_ref17_Digits_l3 (p1 : Int) (x8 : Int) (x9 : List Int) (x10 : Int) : Option ((Int × (List Int) × Int) ⊕ (List Int)) := if (decide (x10 < p1)) = true then (if x9.length + ([(x8.tmod 3)] : List Int).length ≤ 1099511627776 then (some (.inl (i64.wrap (x8.tdiv 3), (x9 ++ ([(x8.tmod 3)] : List Int)), i64.wrap (x10 + 1)))) else none) else (some (.inr x9))
noncomputable def rl_ref17_Digits_k2 (p0 : Int) (p1 : Int) (x3 : Bool) : Option ((List Int) × Int) := if x3 = true then (some (([] : List Int), 2)) else ((loop (fun v : Int × (List Int) × Int => rl_ref17_Digits_l3 p1 v.1 v.2.1 v.2.2) (p0, ([] : List Int), 0)).bind fun x14 => (some (x14, 0)))
noncomputable def rl_ref17_Digits_k1 (p0 : Int) (p1 : Int) (x1 : Bool) : Option ((List Int) × Int) := if x1 = true then (some (([] : List Int), 8)) else (if (decide (p0 < 0)) = true then (rl_ref17_Digits_k2 p0 p1 true) else ((rl_ref17_Size p1).bind fun y17 => (rl_ref17_Digits_k2 p0 p1 (decide (p0 ≥ y17)))))
noncomputable def rl_ref17_Digits (p0 : Int) (p1 : Int) : Option ((List Int) × Int) := if (decide (p1 < 1)) = true then (rl_ref17_Digits_k1 p0 p1 true) else (rl_ref17_Digits_k1 p0 p1 (decide (p1 > 5)))
set_option maxRecDepth 100000 in
theorem rl_ref17_Digits_con (p0 : Int) (p1 : Int) (r : (List Int) × Int) (h : rl_ref17_Digits p0 p1 = some r) : Con Try.prog 29 [vi64 p0, vi64 p1] [] (.tup [.c (.ref 0 1 0 r.1.length), vi64 r.2]) [(0, .row 3 false 1 r.1.length (Ri64 r.1))] := by
 refine con_of tt_ok1 0 Try.func29 (by kernel_rfl) rfl (by kernel_rfl) (fun base X _ => AW.post ?_)
 unfold rl_ref17_Digits at h
 refine AW.sg tt_ok1 [] [] [] 2 [] (by kernel_rfl) ?_
 refine AW.seq (AW.seq ?_)
 refine AW.join (ι := Bool) (fun v => ⟨[(0, vi64 p0), (1, vi64 p1), (13, vb v)], [], 0⟩) (fun v : Bool => rl_ref17_Digits_k1 p0 p1 v = some r) (fun x1 h => ?_) ?_
 ·
  unfold rl_ref17_Digits_k1 at h
  refine AW.tn ?_
  refine AW.co h (by kernel_rfl) (fun c2 h => ?_) (fun c2 h => ?_)
  ·
   refine AW.sg tt_ok1 [(5, vi64 8), (4, .c (.t (.v (.slice none 0 0))))] [] [] 2 [] (by kernel_rfl) ?_
   refine AW.ret (AW.tr ?_)
   obtain rfl := some_inj h
   exact fnR (.inr rfl) [(0, 2)] 1 (.tup [.c (.ref 2 1 0 (([] : List Int).length)), vi64 8]) (conv_adopt (t := 4) (ty := 3) (sz := 1) (n := ([] : List Int).length) (f := Ri64 ([] : List Int)) (by kernel_rfl) rfl) (by kernel_rfl)
  ·
   refine AW.skip (AW.tn ?_)
   refine AW.seq (AW.seq ?_)
   refine AW.join (ι := Bool) (fun v => ⟨[(0, vi64 p0), (1, vi64 p1), (21, vb v)], [], 0⟩) (fun v : Bool => rl_ref17_Digits_k2 p0 p1 v = some r) (fun x3 h => ?_) ?_
   ·
    unfold rl_ref17_Digits_k2 at h
    refine AW.tn ?_
    refine AW.co h (by kernel_rfl) (fun c4 h => ?_) (fun c4 h => ?_)
    ·
     refine AW.sg tt_ok1 [(5, vi64 2), (4, .c (.t (.v (.slice none 0 0))))] [] [] 2 [] (by kernel_rfl) ?_
     refine AW.ret (AW.tr ?_)
     obtain rfl := some_inj h
     exact fnR (.inr rfl) [(0, 2)] 1 (.tup [.c (.ref 2 1 0 (([] : List Int).length)), vi64 2]) (conv_adopt (t := 4) (ty := 3) (sz := 1) (n := ([] : List Int).length) (f := Ri64 ([] : List Int)) (by kernel_rfl) rfl) (by kernel_rfl)
    ·
     refine AW.skip (AW.tn ?_)
     refine AW.sg tt_ok1 [(6, .c (.t (.v (.slice none 0 0))))] [] [] 1 [] (by kernel_rfl) ?_
     refine AW.seq ?_
     refine AW.sg tt_ok1 [(7, vi64 0)] [] [] 2 [] (by kernel_rfl) ?_
     refine AW.block ?_
     obtain ⟨x14, l15, h⟩ := bnd_some h
     refine AW.lp l15 (fun v => ⟨[(0, vi64 v.1), (1, vi64 p1), (6, .c (.ref 0 1 0 v.2.1.length)), (7, vi64 v.2.2)], [(0, .row 3 false 1 v.2.1.length (Ri64 v.2.1))], 1⟩) (fun t : List Int => (.exit 0, ⟨[(6, .c (.ref 0 1 0 t.length))], [(0, .row 3 false 1 t.length (Ri64 t))], 1⟩)) (Conv.trans (conv_adopt (t := 6) (ty := 3) (sz := 1) (n := ([] : List Int).length) (f := Ri64 ([] : List Int)) (by kernel_rfl) rfl) (conv_re [(0, 2)] (by kernel_rfl))) (fun _ => tv) ?_ ?_
     ·
      clear l15 h
      intro v o h
      obtain ⟨x8, x9, x10⟩ := v
      replace h : rl_ref17_Digits_l3 p1 x8 x9 x10 = some o := h
      unfold rl_ref17_Digits_l3 at h
      refine AW.seq ?_
      refine AW.sg tt_ok1 [(24, vb (decide (x10 < p1)))] [] [] 4 [] (by kernel_rfl) ?_
      refine AW.co h (by kernel_rfl) (fun c12 h => ?_) (fun c12 h => ?_)
      ·
       refine AW.skip (AW.tn ?_)
       refine AW.seq (AW.block ?_)
       obtain ⟨g13, h⟩ := ifc h
       refine AW.sg tt_ok1 [(6, .c (.ref 8 1 0 ((x9 ++ ([(x8.tmod 3)] : List Int)).length)))] [0, 7, 8] [(8, .row 3 false 1 (x9 ++ ([(x8.tmod 3)] : List Int)).length (Ri64 (x9 ++ ([(x8.tmod 3)] : List Int))))] 10 [hn, hn, ho (p := (3 : Int) ≠ 0) (by decide), hlit 0 Ei64 1 (fun _ => rfl) ([(x8.tmod 3)] : List Int), happ 0 Ei64 1 8 x9 ([(x8.tmod 3)] : List Int) g13 (by decide)] (by kernel_rfl) ?_
       refine AW.rg tt_ok1 [(0, vi64 (i64.wrap (x8.tdiv 3)))] [] [] 13 [hn, ho (p := (3 : Int) ≠ 0) (by decide)] (by kernel_rfl) ?_
       refine AW.inBlock_normal (AW.tn ?_)
       refine AW.rg tt_ok1 [(7, vi64 (i64.wrap (x10 + 1)))] [] [] 16 [] (by kernel_rfl) ?_
       exact lpn h (conv_re [(0, 8)] (by kernel_rfl))
      ·
       refine AW.exit (AW.thenQ_exit ?_)
       exact lpo h rfl (conv_re [(0, 0)] (by kernel_rfl))
     ·
      show (_ : Exit → St → Prop) (.exit 0) _
      refine AW.inBlock_hit (AW.tn ?_)
      refine AW.sg tt_ok1 [(5, vi64 0), (4, .c (.ref 0 1 0 x14.length))] [] [] 4 [] (by kernel_rfl) ?_
      refine AW.ret ?_
      obtain rfl := some_inj h
      exact fn0 (.inr rfl) [(0, 0)] 1 (.tup [.c (.ref 0 1 0 x14.length), vi64 0]) (by kernel_rfl)
   ·
    rcases ifs h with ⟨c16, h⟩ | ⟨c16, h⟩
    ·
     refine AW.rg tt_ok1 [(21, vb true)] [] [] 8 [hn, ht c16] (by kernel_rfl) ?_
     exact jl true h (conv_re [] (by kernel_rfl))
    ·
     obtain ⟨y17, e18, h⟩ := bnd_some h
     refine AW.rg tt_ok1 [(21, vb (decide (p0 ≥ y17)))] [] [] 7 [hn, hf c16, hn, hn, hn, hk (rl_ref17_Size_con p1 y17 e18)] (by kernel_rfl) ?_
     exact jl (decide (p0 ≥ y17)) h (conv_re [] (by kernel_rfl))
 ·
  rcases ifs h with ⟨c19, h⟩ | ⟨c19, h⟩
  ·
   refine AW.rg tt_ok1 [(13, vb true)] [] [] 8 [hn, ht c19] (by kernel_rfl) ?_
   exact jl true h (conv_re [] (by kernel_rfl))
  ·
   refine AW.rg tt_ok1 [(13, vb (decide (p1 > 5)))] [] [] 8 [hn, hf c19] (by kernel_rfl) ?_
   exact jl (decide (p1 > 5)) h (conv_re [] (by kernel_rfl))
end Go.Proofs.Ytilpgjoidgfbiaa
