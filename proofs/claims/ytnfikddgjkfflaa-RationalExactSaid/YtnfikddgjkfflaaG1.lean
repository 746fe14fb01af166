/- Printed by a program of mine (vmgen.py): Go functions, and what they come to. -/
import Derived.Test.YtnfikddgjkfflaaVr
import Derived.Test.YtnfikddgjkfflaaRows
import Derived.Test.YtnfikddgjkfflaaG0
namespace Go.Proofs.Ytnfikddgjkfflaa
open Vm
open IntKind (i64 u64 u32 u8)
set_option maxHeartbeats 10000000
set_option linter.unusedVariables false
set_option linter.unusedSimpArgs false
set_option linter.constructorNameAsVariable false
def ttl1 : List (Nat × TI) := [(3, ⟨.int .i64, 1, 8, [.int .i64 0]⟩), (4, ⟨.bool, 1, 1, [.bool false]⟩), (5, ⟨.int .u8, 1, 1, [.int .u8 0]⟩), (9, ⟨.str, 1, 16, [.string ⟨#[]⟩]⟩), (22, ⟨.slice 3, 1, 24, [.slice none 0 0]⟩), (25, ⟨.ptr 55, 1, 8, [.pointer none]⟩), (27, ⟨.slice 52, 1, 24, [.slice none 0 0]⟩), (28, ⟨.slice 52, 1, 24, [.slice none 0 0]⟩), (30, ⟨.struct [(28, 0), (28, 1)], 2, 48, [.slice none 0 0, .slice none 0 0]⟩), (32, ⟨.int .i64, 1, 8, [.int .i64 0]⟩), (41, ⟨.int .u16, 1, 2, [.int .u16 0]⟩), (48, ⟨.arr 2 3, 2, 16, [.int .i64 0, .int .i64 0]⟩), (49, ⟨.slice 48, 1, 24, [.slice none 0 0]⟩), (50, ⟨.slice 30, 1, 24, [.slice none 0 0]⟩), (52, ⟨.int .u32, 1, 4, [.int .u32 0]⟩), (53, ⟨.int .u64, 1, 8, [.int .u64 0]⟩), (55, ⟨.struct [(22, 0), (3, 1), (53, 2)], 3, 40, [.slice none 0 0, .int .i64 0, .int .u64 0]⟩), (62, ⟨.struct [(28, 0), (32, 1)], 2, 32, [.slice none 0 0, .int .i64 0]⟩), (81, ⟨.slice 62, 1, 24, [.slice none 0 0]⟩)]
theorem tt_ok1 : TTok Try.prog (Vm.look ttl1) := ttok_of ⟨⟨by kernel_rfl, by kernel_rfl⟩, ⟨by kernel_rfl, by kernel_rfl⟩, ⟨by kernel_rfl, by kernel_rfl⟩, ⟨by kernel_rfl, by kernel_rfl⟩, ⟨by kernel_rfl, by kernel_rfl⟩, ⟨by kernel_rfl, by kernel_rfl⟩, ⟨by kernel_rfl, by kernel_rfl⟩, ⟨by kernel_rfl, by kernel_rfl⟩, ⟨by kernel_rfl, by kernel_rfl⟩, ⟨by kernel_rfl, by kernel_rfl⟩, ⟨by kernel_rfl, by kernel_rfl⟩, ⟨by kernel_rfl, by kernel_rfl⟩, ⟨by kernel_rfl, by kernel_rfl⟩, ⟨by kernel_rfl, by kernel_rfl⟩, ⟨by kernel_rfl, by kernel_rfl⟩, ⟨by kernel_rfl, by kernel_rfl⟩, ⟨by kernel_rfl, by kernel_rfl⟩, ⟨by kernel_rfl, by kernel_rfl⟩, ⟨by kernel_rfl, by kernel_rfl⟩, trivial⟩
theorem mo1 : Try.prog.follows .mixedOrders = true := by kernel_rfl
/-! recordlink/recordlinkref10.DivMod -/
noncomputable def rl_ref10_DivMod_k3 (x13 : Int) (x17 : List Int) (x18 : List Int) : Option (((List Int) × (List Int) × Int) ⊕ ((List Int) × (List Int))) := some (.inl (x17, x18, i64.wrap (x13 - 1)))
noncomputable def rl_ref10_DivMod_k4 (p1 : List Int) (x11 : List Int) (x13 : Int) (x21 : List Int) : Option (((List Int) × (List Int) × Int) ⊕ ((List Int) × (List Int))) := (rl_ref10_Compare x21 p1).bind fun y22 => (if (decide (y22 ≥ 0)) = true then ((rl_ref10_less x21 p1).bind fun y25 => (if 0 ≤ (i64.wrap (x13.tdiv 32)) then (if (i64.wrap (x13.tdiv 32)) < (x11.length : Int) then (if 0 ≤ (x13.tmod 32) then (rl_ref10_DivMod_k3 x13 (x11.set (0 + (i64.wrap (x13.tdiv 32)).toNat) (ior .u32 (x11.getD (0 + (i64.wrap (x13.tdiv 32)).toNat) 0) (ishl .u32 1 (x13.tmod 32)))) y25) else none) else none) else none)) else (rl_ref10_DivMod_k3 x13 x11 x21))
noncomputable def rl_ref10_DivMod_l2 (p0 : List Int) (p1 : List Int) (x11 : List Int) (x12 : List Int) (x13 : Int) : Option (((List Int) × (List Int) × Int) ⊕ ((List Int) × (List Int))) := if (decide (x13 ≥ 0)) = true then ((rl_ref10_sum x12 x12).bind fun y19 => (if 0 ≤ (i64.wrap (x13.tdiv 32)) then (if (i64.wrap (x13.tdiv 32)) < (p0.length : Int) then (if 0 ≤ (x13.tmod 32) then (if ((iand .u32 (ishr .u32 (p0.getD ((i64.wrap (x13.tdiv 32)).toNat) 0) (x13.tmod 32)) 1) == 1) = true then ((rl_ref10_sum y19 ([1] : List Int)).bind fun y34 => (rl_ref10_DivMod_k4 p1 x11 x13 y34)) else (rl_ref10_DivMod_k4 p1 x11 x13 y19)) else none) else none) else none)) else (some (.inr (x11, x12)))
noncomputable def rl_ref10_DivMod_k1 (p0 : List Int) (p1 : List Int) (x1 : Bool) : Option ((List Int) × (List Int) × Int) := if x1 = true then (some (([] : List Int), ([] : List Int), 20)) else (if ((p1.length : Int) == 0) = true then (some (([] : List Int), ([] : List Int), 9)) else (if 0 ≤ (p0.length : Int) then (if (p0.length : Int) ≤ 1099511627776 then ((some (i64.wrap ((i64.wrap (32 * (p0.length : Int))) - 1))).bind fun z6 => (bind2 (loop (fun v : (List Int) × (List Int) × Int => rl_ref10_DivMod_l2 p0 p1 v.1 v.2.1 v.2.2) ((List.replicate ((p0.length : Int).toNat) (0 : Int)), [], z6)) fun x36 x37 => ((rl_ref10_trim x36).bind fun y38 => (some (y38, x37, 0))))) else none) else none))
noncomputable def rl_ref10_DivMod (p0 : List Int) (p1 : List Int) : Option ((List Int) × (List Int) × Int) := (rl_ref10_Valid p0).bind fun y41 => (if (!y41) = true then (rl_ref10_DivMod_k1 p0 p1 true) else ((rl_ref10_Valid p1).bind fun y44 => (rl_ref10_DivMod_k1 p0 p1 (!y44))))
set_option maxRecDepth 100000 in
theorem rl_ref10_DivMod_con (p0 : List Int) (p1 : List Int) (r : (List Int) × (List Int) × Int) (h : rl_ref10_DivMod p0 p1 = some r) : Con Try.prog 57 [vl 1 Ru32 p0, vl 1 Ru32 p1] [] (.tup [vl 1 Ru32 r.1, vl 1 Ru32 r.2.1, vi64 r.2.2]) [] := by
 refine con_of tt_ok1 0 Try.func57 (by kernel_rfl) rfl (by kernel_rfl) (fun base X _ => AW.post ?_)
 unfold rl_ref10_DivMod at h
 refine AW.sg tt_ok1 [] [] [] 3 [] (by kernel_rfl) ?_
 refine AW.seq (AW.seq ?_)
 refine AW.join (ι := Bool) (fun v => ⟨[(0, vl 1 Ru32 p0), (1, vl 1 Ru32 p1), (17, vb v)], [], 0⟩) (fun v : Bool => rl_ref10_DivMod_k1 p0 p1 v = some r) (fun x1 h => ?_) ?_
 ·
  unfold rl_ref10_DivMod_k1 at h
  refine AW.tn ?_
  refine AW.co h (by kernel_rfl) (fun c2 h => ?_) (fun c2 h => ?_)
  ·
   refine AW.sg tt_ok1 [(6, vi64 20), (5, .c (.t (.v (.slice none 0 0)))), (4, .c (.t (.v (.slice none 0 0))))] [] [] 3 [] (by kernel_rfl) ?_
   refine AW.ret (AW.tr ?_)
   obtain rfl := some_inj h
   exact fnR (.inr rfl) [] 0 (.tup [vl 1 Ru32 ([] : List Int), vl 1 Ru32 ([] : List Int), vi64 20]) (Conv.trans (conv_tms [(4, vl 1 Ru32 ([] : List Int))] ⟨⟨.c (.t (.v (.slice none 0 0))), by kernel_rfl, ALe.c (CLe.nil rfl)⟩, tv⟩) (conv_tms [(5, vl 1 Ru32 ([] : List Int))] ⟨⟨.c (.t (.v (.slice none 0 0))), by kernel_rfl, ALe.c (CLe.nil rfl)⟩, tv⟩)) (by kernel_rfl)
  ·
   refine AW.skip (AW.tn (AW.seq ?_))
   refine AW.sg tt_ok1 [(20, vb ((p1.length : Int) == 0))] [] [] 3 [] (by kernel_rfl) ?_
   refine AW.co h (by kernel_rfl) (fun c3 h => ?_) (fun c3 h => ?_)
   ·
    refine AW.sg tt_ok1 [(6, vi64 9), (5, .c (.t (.v (.slice none 0 0)))), (4, .c (.t (.v (.slice none 0 0))))] [] [] 6 [] (by kernel_rfl) ?_
    refine AW.ret (AW.tr ?_)
    obtain rfl := some_inj h
    exact fnR (.inr rfl) [] 0 (.tup [vl 1 Ru32 ([] : List Int), vl 1 Ru32 ([] : List Int), vi64 9]) (Conv.trans (conv_tms [(4, vl 1 Ru32 ([] : List Int))] ⟨⟨.c (.t (.v (.slice none 0 0))), by kernel_rfl, ALe.c (CLe.nil rfl)⟩, tv⟩) (conv_tms [(5, vl 1 Ru32 ([] : List Int))] ⟨⟨.c (.t (.v (.slice none 0 0))), by kernel_rfl, ALe.c (CLe.nil rfl)⟩, tv⟩)) (by kernel_rfl)
   ·
    refine AW.skip (AW.tn ?_)
    obtain ⟨g4, g5, h⟩ := ifd h
    refine AW.sg tt_ok1 [(7, .c (.ref 5 1 0 ((List.replicate ((p0.length : Int).toNat) (0 : Int)).length)))] [5] [(5, .row 52 false 1 (List.replicate ((p0.length : Int).toNat) (0 : Int)).length (Ru32 (List.replicate ((p0.length : Int).toNat) (0 : Int))))] 7 [hn, hn, hmk 0 Eu32 1 4 [.int .u32 0] rfl rfl (p0.length : Int) (p0.length : Int) g4 (Int.le_refl _) g5 (by decide)] (by kernel_rfl) ?_
    refine AW.sg tt_ok1 [(8, .c (.t (.v (.slice none 0 0))))] [] [] 8 [] (by kernel_rfl) ?_
    refine AW.seq ?_
    obtain ⟨z6, n7, h⟩ := bnd_some h
    replace n7 := some_inj n7
    refine AW.sg tt_ok1 [(9, vi64 z6)] [] [] 13 [] (by subst n7; kernel_rfl) ?_
    refine AW.block ?_
    obtain ⟨x36, x37, l40, h⟩ := bind2_some h
    refine AW.lp l40 (fun v => ⟨[(0, vl 1 Ru32 p0), (1, vl 1 Ru32 p1), (7, .c (.ref 0 1 0 v.1.length)), (8, vl 1 Ru32 v.2.1), (9, vi64 v.2.2)], [(0, .row 52 false 1 v.1.length (Ru32 v.1))], 1⟩) (fun t : (List Int) × (List Int) => (.exit 0, ⟨[(7, .c (.ref 0 1 0 t.1.length)), (8, vl 1 Ru32 t.2)], [(0, .row 52 false 1 t.1.length (Ru32 t.1))], 1⟩)) (Conv.trans (conv_tms [(8, vl 1 Ru32 ([] : List Int))] ⟨⟨.c (.t (.v (.slice none 0 0))), by kernel_rfl, ALe.c (CLe.nil rfl)⟩, tv⟩) (conv_re [(0, 5)] (by kernel_rfl))) (fun _ => tv) ?_ ?_
    ·
     clear l40 h
     intro v o h
     obtain ⟨x11, x12, x13⟩ := v
     replace h : rl_ref10_DivMod_l2 p0 p1 x11 x12 x13 = some o := h
     unfold rl_ref10_DivMod_l2 at h
     refine AW.seq ?_
     refine AW.sg tt_ok1 [(29, vb (decide (x13 ≥ 0)))] [] [] 3 [] (by kernel_rfl) ?_
     refine AW.co h (by kernel_rfl) (fun c16 h => ?_) (fun c16 h => ?_)
     ·
      refine AW.skip (AW.tn (AW.seq ?_))
      refine AW.join (ι := (List Int) × (List Int)) (fun v => ⟨[(0, vl 1 Ru32 p0), (1, vl 1 Ru32 p1), (7, .c (.ref 0 1 0 v.1.length)), (8, vl 1 Ru32 v.2), (9, vi64 x13)], [(0, .row 52 false 1 v.1.length (Ru32 v.1))], 1⟩) (fun v : (List Int) × (List Int) => rl_ref10_DivMod_k3 x13 v.1 v.2 = some o) (fun v h => ?_) ?_
      ·
       obtain ⟨x17, x18⟩ := v
       replace h : rl_ref10_DivMod_k3 x13 x17 x18 = some o := h
       unfold rl_ref10_DivMod_k3 at h
       refine AW.tn ?_
       refine AW.rg tt_ok1 [(9, vi64 (i64.wrap (x13 - 1)))] [] [] 4 [] (by kernel_rfl) ?_
       exact lpn h (conv_re [(0, 0)] (by kernel_rfl))
      ·
       refine AW.block ?_
       obtain ⟨y19, e20, h⟩ := bnd_some h
       refine AW.sg tt_ok1 [(8, vl 1 Ru32 y19)] [] [] 6 [hn, hn, hk (rl_ref10_sum_con x12 x12 y19 e20)] (by kernel_rfl) ?_
       refine AW.seq ?_
       refine AW.join (ι := List Int) (fun v => ⟨[(0, vl 1 Ru32 p0), (1, vl 1 Ru32 p1), (7, .c (.ref 0 1 0 x11.length)), (8, vl 1 Ru32 v), (9, vi64 x13)], [(0, .row 52 false 1 x11.length (Ru32 x11))], 1⟩) (fun v : List Int => rl_ref10_DivMod_k4 p1 x11 x13 v = some o) (fun x21 h => ?_) ?_
       ·
        unfold rl_ref10_DivMod_k4 at h
        refine AW.tn ?_
        obtain ⟨y22, e23, h⟩ := bnd_some h
        refine AW.sg tt_ok1 [(51, vb (decide (y22 ≥ 0)))] [] [] 4 [hn, hn, hk (rl_ref10_Compare_con x21 p1 y22 e23)] (by kernel_rfl) ?_
        refine AW.co h (by kernel_rfl) (fun c24 h => ?_) (fun c24 h => ?_)
        ·
         obtain ⟨y25, e26, h⟩ := bnd_some h
         refine AW.sg tt_ok1 [(8, vl 1 Ru32 y25)] [] [] 7 [hn, hn, hk (rl_ref10_less_con x21 p1 y25 e26)] (by kernel_rfl) ?_
         obtain ⟨g27, g28, h⟩ := ifd h
         obtain ⟨g29, h⟩ := ifc h
         refine AW.rd tt_ok1 mo1 [[], [], [], [], [], [], [], [], [], [], [0]] [] [(0, .row 52 false 1 x11.length (Ru32 (x11.set (0 + (i64.wrap (x13.tdiv 32)).toNat) (ior .u32 (x11.getD (0 + (i64.wrap (x13.tdiv 32)).toNat) 0) (ishl .u32 1 (x13.tmod 32))))))] 18 [hn, hn, ho (p := (32 : Int) ≠ 0) (by decide), hq g27 g28, ho (p := (0 + (i64.wrap (x13.tdiv 32)).toNat) < x11.length) (by have h1 : 0 ≤ (i64.wrap (x13.tdiv 32)) := g27; have h2 : (i64.wrap (x13.tdiv 32)) < (x11.length : Int) := g28; omega), hn, ho (p := (32 : Int) ≠ 0) (by decide), ho g29, hn, hq g27 g28, hset 0 Eu32 x11 (0 + (i64.wrap (x13.tdiv 32)).toNat) (ior .u32 (x11.getD (0 + (i64.wrap (x13.tdiv 32)).toNat) 0) (ishl .u32 1 (x13.tmod 32))) (n := x11.length) (by have h1 : 0 ≤ (i64.wrap (x13.tdiv 32)) := g27; have h2 : (i64.wrap (x13.tdiv 32)) < (x11.length : Int) := g28; omega) rfl] (by kernel_rfl) ?_
         refine AW.inBlock_normal ?_
         exact jl ((x11.set (0 + (i64.wrap (x13.tdiv 32)).toNat) (ior .u32 (x11.getD (0 + (i64.wrap (x13.tdiv 32)).toNat) 0) (ishl .u32 1 (x13.tmod 32)))), y25) h (Conv.trans (conv_tms [(7, .c (.ref 0 1 0 ((x11.set (0 + (i64.wrap (x13.tdiv 32)).toNat) (ior .u32 (x11.getD (0 + (i64.wrap (x13.tdiv 32)).toNat) 0) (ishl .u32 1 (x13.tmod 32)))).length)))] ⟨⟨.c (.ref 0 1 0 x11.length), by kernel_rfl, ALe.len (by simp only [List.length_set])⟩, tv⟩) (Conv.trans (conv_rowN 0 52 false 1 x11.length ((x11.set (0 + (i64.wrap (x13.tdiv 32)).toNat) (ior .u32 (x11.getD (0 + (i64.wrap (x13.tdiv 32)).toNat) 0) (ishl .u32 1 (x13.tmod 32)))).length) (Ru32 (x11.set (0 + (i64.wrap (x13.tdiv 32)).toNat) (ior .u32 (x11.getD (0 + (i64.wrap (x13.tdiv 32)).toNat) 0) (ishl .u32 1 (x13.tmod 32))))) (by kernel_rfl) (by simp only [List.length_set])) (conv_re [(0, 0)] (by kernel_rfl))))
        ·
         refine AW.skip (AW.inBlock_normal ?_)
         exact jl (x11, x21) h (conv_re [(0, 0)] (by kernel_rfl))
       ·
        obtain ⟨g30, g31, h⟩ := ifd h
        obtain ⟨g32, h⟩ := ifc h
        refine AW.sg tt_ok1 [(44, vb ((iand .u32 (ishr .u32 (p0.getD ((i64.wrap (x13.tdiv 32)).toNat) 0) (x13.tmod 32)) 1) == 1))] [] [] 16 [hn, hn, ho (p := (32 : Int) ≠ 0) (by decide), hq g30 g31, hn, hn, ho (p := (32 : Int) ≠ 0) (by decide), ho g32] (by kernel_rfl) ?_
        refine AW.co h (by kernel_rfl) (fun c33 h => ?_) (fun c33 h => ?_)
        ·
         obtain ⟨y34, e35, h⟩ := bnd_some h
         refine AW.rg tt_ok1 [(8, vl 1 Ru32 y34)] [17] [] 19 [hn, hlit 0 Eu32 1 (fun _ => rfl) ([1] : List Int), hg [] [17] false 0 (q := (True) ∧ (0 + ([1] : List Int).length ≤ ([1] : List Int).length) ∧ (True)) ⟨tv, le0, tv⟩ (a0 := [vl 1 Ru32 y19, vl 1 Ru32 ([1] : List Int)]) (rl_ref10_sum_con y19 ([1] : List Int) y34 e35) ⟨ArgLe.refl _, ArgLe.refl _, tv⟩ (fun h => by cases h)] (by kernel_rfl) ?_
         exact jl y34 h (conv_re [(0, 0)] (by kernel_rfl))
        ·
         refine AW.skip ?_
         exact jl y19 h (conv_re [(0, 0)] (by kernel_rfl))
     ·
      refine AW.exit (AW.thenQ_exit ?_)
      exact lpo h rfl (conv_re [(0, 0)] (by kernel_rfl))
    ·
     show (_ : Exit → St → Prop) (.exit 0) _
     refine AW.inBlock_hit (AW.tn ?_)
     obtain ⟨y38, e39, h⟩ := bnd_some h
     refine AW.sg tt_ok1 [(6, vi64 0), (5, vl 1 Ru32 x37), (4, vl 1 Ru32 y38)] [0] [] 6 [hn, hg [] [0] false 0 (q := (0 + x36.length ≤ x36.length) ∧ (True)) ⟨le0, tv⟩ (a0 := [vl 1 Ru32 x36]) (rl_ref10_trim_con x36 y38 e39) ⟨ArgLe.refl _, tv⟩ (fun h => by cases h)] (by kernel_rfl) ?_
     refine AW.ret ?_
     obtain rfl := some_inj h
     exact fn0 (.inr rfl) [] 0 (.tup [vl 1 Ru32 y38, vl 1 Ru32 x37, vi64 0]) (by kernel_rfl)
 ·
  obtain ⟨y41, e42, h⟩ := bnd_some h
  rcases ifs h with ⟨c43, h⟩ | ⟨c43, h⟩
  ·
   refine AW.rg tt_ok1 [(17, vb true)] [] [] 10 [hn, hk (rl_ref10_Valid_con p0 y41 e42), ht c43] (by kernel_rfl) ?_
   exact jl true h (conv_re [] (by kernel_rfl))
  ·
   obtain ⟨y44, e45, h⟩ := bnd_some h
   refine AW.rg tt_ok1 [(17, vb (!y44))] [] [] 9 [hn, hk (rl_ref10_Valid_con p0 y41 e42), hf c43, hn, hn, hk (rl_ref10_Valid_con p1 y44 e45)] (by kernel_rfl) ?_
   exact jl (!y44) h (conv_re [] (by kernel_rfl))
/-! recordlink/recordlinkref11.Make -/
noncomputable def rl_ref11_Make_k1 (p0 : List Int) (p1 : List Int) (x1 : Bool) : Option (S_api_Rational × Int) := if x1 = true then (some ((⟨([] : List Int), ([] : List Int)⟩ : S_api_Rational), 20)) else (if ((p1.length : Int) == 0) = true then (some ((⟨([] : List Int), ([] : List Int)⟩ : S_api_Rational), 9)) else (bind2 (rl_ref10_GCD p0 p1) fun y4 y5 => (bind3 (rl_ref10_DivMod p0 y4) fun y7 y8 y9 => (bind3 (rl_ref10_DivMod p1 y4) fun y11 y12 y13 => (some ((⟨y7, y11⟩ : S_api_Rational), 0))))))
noncomputable def rl_ref11_Make (p0 : List Int) (p1 : List Int) : Option (S_api_Rational × Int) := (rl_ref10_Valid p0).bind fun y15 => (if (!y15) = true then (rl_ref11_Make_k1 p0 p1 true) else ((rl_ref10_Valid p1).bind fun y18 => (rl_ref11_Make_k1 p0 p1 (!y18))))
set_option maxRecDepth 100000 in
theorem rl_ref11_Make_con (p0 : List Int) (p1 : List Int) (r : S_api_Rational × Int) (h : rl_ref11_Make p0 p1 = some r) : Con Try.prog 27 [vl 1 Ru32 p0, vl 1 Ru32 p1] [] (.tup [.agg [cl 1 Ru32 r.1.Num, cl 1 Ru32 r.1.Den], vi64 r.2]) [] := by
 refine con_of tt_ok1 0 Try.func27 (by kernel_rfl) rfl (by kernel_rfl) (fun base X _ => AW.post ?_)
 unfold rl_ref11_Make at h
 refine AW.sg tt_ok1 [(4, .c (.ptr 0 2 0 0))] [0] [(0, .box 30 [.t (.v (.slice none 0 0)), .t (.v (.slice none 0 0))])] 2 [] (by kernel_rfl) ?_
 refine AW.seq (AW.seq ?_)
 refine AW.join (ι := Bool) (fun v => ⟨[(0, vl 1 Ru32 p0), (1, vl 1 Ru32 p1), (4, .c (.ptr 0 2 0 0)), (21, vb v)], [(0, .box 30 [.t (.v (.slice none 0 0)), .t (.v (.slice none 0 0))])], 1⟩) (fun v : Bool => rl_ref11_Make_k1 p0 p1 v = some r) (fun x1 h => ?_) ?_
 ·
  unfold rl_ref11_Make_k1 at h
  refine AW.tn ?_
  refine AW.co h (by kernel_rfl) (fun c2 h => ?_) (fun c2 h => ?_)
  ·
   refine AW.sg tt_ok1 [(5, vi64 20)] [0] [(0, .box 30 [.t (.v (.slice none 0 0)), .t (.v (.slice none 0 0))])] 4 [] (by kernel_rfl) ?_
   refine AW.ret (AW.tr ?_)
   obtain rfl := some_inj h
   exact fnR (.inr rfl) [] 0 (.tup [.agg [cl 1 Ru32 ([] : List Int), cl 1 Ru32 ([] : List Int)], vi64 20]) (conv_box (id := 0) (ty := 30) (cs := [.t (.v (.slice none 0 0)), .t (.v (.slice none 0 0))]) (ds := [cl 1 Ru32 ([] : List Int), cl 1 Ru32 ([] : List Int)]) (by kernel_rfl) ⟨CLe.nil rfl, CLe.nil rfl, tv⟩) (by kernel_rfl)
  ·
   refine AW.skip (AW.tn (AW.seq ?_))
   refine AW.sg tt_ok1 [(25, vb ((p1.length : Int) == 0))] [] [] 4 [] (by kernel_rfl) ?_
   refine AW.co h (by kernel_rfl) (fun c3 h => ?_) (fun c3 h => ?_)
   ·
    refine AW.sg tt_ok1 [(5, vi64 9)] [0] [(0, .box 30 [.t (.v (.slice none 0 0)), .t (.v (.slice none 0 0))])] 7 [] (by kernel_rfl) ?_
    refine AW.ret (AW.tr ?_)
    obtain rfl := some_inj h
    exact fnR (.inr rfl) [] 0 (.tup [.agg [cl 1 Ru32 ([] : List Int), cl 1 Ru32 ([] : List Int)], vi64 9]) (conv_box (id := 0) (ty := 30) (cs := [.t (.v (.slice none 0 0)), .t (.v (.slice none 0 0))]) (ds := [cl 1 Ru32 ([] : List Int), cl 1 Ru32 ([] : List Int)]) (by kernel_rfl) ⟨CLe.nil rfl, CLe.nil rfl, tv⟩) (by kernel_rfl)
   ·
    refine AW.skip (AW.tn ?_)
    obtain ⟨y4, y5, e6, h⟩ := bind2_some h
    refine AW.sg tt_ok1 [(6, vl 1 Ru32 y4)] [] [] 11 [hn, hn, hk (rl_ref10_GCD_con p0 p1 (y4, y5) e6)] (by kernel_rfl) ?_
    obtain ⟨y7, y8, y9, e10, h⟩ := bind3_some h
    refine AW.sg tt_ok1 [(8, vl 1 Ru32 y7)] [] [] 20 [hn, hn, hk (rl_ref10_DivMod_con p0 y4 (y7, y8, y9) e10)] (by kernel_rfl) ?_
    obtain ⟨y11, y12, y13, e14, h⟩ := bind3_some h
    refine AW.sg tt_ok1 [(11, vl 1 Ru32 y11)] [] [] 29 [hn, hn, hk (rl_ref10_DivMod_con p1 y4 (y11, y12, y13) e14)] (by kernel_rfl) ?_
    refine AW.sg tt_ok1 [(5, vi64 0)] [0] [(0, .box 30 [cl 1 Ru32 y7, cl 1 Ru32 y11])] 34 [] (by kernel_rfl) ?_
    refine AW.ret ?_
    obtain rfl := some_inj h
    exact fn0 (.inr rfl) [] 0 (.tup [.agg [cl 1 Ru32 y7, cl 1 Ru32 y11], vi64 0]) (by kernel_rfl)
 ·
  obtain ⟨y15, e16, h⟩ := bnd_some h
  rcases ifs h with ⟨c17, h⟩ | ⟨c17, h⟩
  ·
   refine AW.rg tt_ok1 [(21, vb true)] [] [] 9 [hn, hk (rl_ref10_Valid_con p0 y15 e16), ht c17] (by kernel_rfl) ?_
   exact jl true h (conv_re [(0, 0)] (by kernel_rfl))
  ·
   obtain ⟨y18, e19, h⟩ := bnd_some h
   refine AW.rg tt_ok1 [(21, vb (!y18))] [] [] 8 [hn, hk (rl_ref10_Valid_con p0 y15 e16), hf c17, hn, hn, hk (rl_ref10_Valid_con p1 y18 e19)] (by kernel_rfl) ?_
   exact jl (!y18) h (conv_re [(0, 0)] (by kernel_rfl))
/-! recordlink/recordlinkref11.Of -/
noncomputable def rl_ref11_Of_k1 (p0 : Int) (p1 : Int) (x1 : Bool) : Option (S_api_Rational × Int) := if x1 = true then (some ((⟨([] : List Int), ([] : List Int)⟩ : S_api_Rational), 2)) else (bind2 (rl_ref10_FromInt p0) fun y3 y4 => (bind2 (rl_ref10_FromInt p1) fun y6 y7 => (bind2 (rl_ref11_Make y3 y6) fun y9 y10 => (some (y9, y10)))))
noncomputable def rl_ref11_Of (p0 : Int) (p1 : Int) : Option (S_api_Rational × Int) := if (decide (p0 < 0)) = true then (rl_ref11_Of_k1 p0 p1 true) else (rl_ref11_Of_k1 p0 p1 (decide (p1 < 0)))
set_option maxRecDepth 100000 in
theorem rl_ref11_Of_con (p0 : Int) (p1 : Int) (r : S_api_Rational × Int) (h : rl_ref11_Of p0 p1 = some r) : Con Try.prog 20 [vi64 p0, vi64 p1] [] (.tup [.agg [cl 1 Ru32 r.1.Num, cl 1 Ru32 r.1.Den], vi64 r.2]) [] := by
 refine con_of tt_ok1 0 Try.func20 (by kernel_rfl) rfl (by kernel_rfl) (fun base X _ => AW.post ?_)
 unfold rl_ref11_Of at h
 refine AW.sg tt_ok1 [(4, .c (.ptr 0 2 0 0))] [0] [(0, .box 30 [.t (.v (.slice none 0 0)), .t (.v (.slice none 0 0))])] 2 [] (by kernel_rfl) ?_
 refine AW.seq (AW.seq ?_)
 refine AW.join (ι := Bool) (fun v => ⟨[(0, vi64 p0), (1, vi64 p1), (4, .c (.ptr 0 2 0 0)), (15, vb v)], [(0, .box 30 [.t (.v (.slice none 0 0)), .t (.v (.slice none 0 0))])], 1⟩) (fun v : Bool => rl_ref11_Of_k1 p0 p1 v = some r) (fun x1 h => ?_) ?_
 ·
  unfold rl_ref11_Of_k1 at h
  refine AW.tn ?_
  refine AW.co h (by kernel_rfl) (fun c2 h => ?_) (fun c2 h => ?_)
  ·
   refine AW.sg tt_ok1 [(5, vi64 2)] [0] [(0, .box 30 [.t (.v (.slice none 0 0)), .t (.v (.slice none 0 0))])] 4 [] (by kernel_rfl) ?_
   refine AW.ret (AW.tr ?_)
   obtain rfl := some_inj h
   exact fnR (.inr rfl) [] 0 (.tup [.agg [cl 1 Ru32 ([] : List Int), cl 1 Ru32 ([] : List Int)], vi64 2]) (conv_box (id := 0) (ty := 30) (cs := [.t (.v (.slice none 0 0)), .t (.v (.slice none 0 0))]) (ds := [cl 1 Ru32 ([] : List Int), cl 1 Ru32 ([] : List Int)]) (by kernel_rfl) ⟨CLe.nil rfl, CLe.nil rfl, tv⟩) (by kernel_rfl)
  ·
   refine AW.skip (AW.tn ?_)
   obtain ⟨y3, y4, e5, h⟩ := bind2_some h
   refine AW.sg tt_ok1 [(6, vl 1 Ru32 y3)] [] [] 7 [hn, hk (rl_ref10_FromInt_con p0 (y3, y4) e5)] (by kernel_rfl) ?_
   obtain ⟨y6, y7, e8, h⟩ := bind2_some h
   refine AW.sg tt_ok1 [(8, vl 1 Ru32 y6)] [] [] 13 [hn, hk (rl_ref10_FromInt_con p1 (y6, y7) e8)] (by kernel_rfl) ?_
   obtain ⟨y9, y10, e11, h⟩ := bind2_some h
   refine AW.sg tt_ok1 [(5, vi64 y10)] [0] [(0, .box 30 [cl 1 Ru32 y9.Num, cl 1 Ru32 y9.Den])] 19 [hn, hn, hk (rl_ref11_Make_con y3 y6 (y9, y10) e11)] (by kernel_rfl) ?_
   refine AW.ret ?_
   obtain rfl := some_inj h
   exact fn0 (.inr rfl) [] 0 (.tup [.agg [cl 1 Ru32 y9.Num, cl 1 Ru32 y9.Den], vi64 y10]) (by kernel_rfl)
 ·
  rcases ifs h with ⟨c12, h⟩ | ⟨c12, h⟩
  ·
   refine AW.rg tt_ok1 [(15, vb true)] [] [] 8 [hn, ht c12] (by kernel_rfl) ?_
   exact jl true h (conv_re [(0, 0)] (by kernel_rfl))
  ·
   refine AW.rg tt_ok1 [(15, vb (decide (p1 < 0)))] [] [] 8 [hn, hf c12] (by kernel_rfl) ?_
   exact jl (decide (p1 < 0)) h (conv_re [(0, 0)] (by kernel_rfl))
/-! (*recordlink/recordlinkmake.Deck).Rational -/
noncomputable def rl_make_Deck_Rational_k1 (p1 : Int) (y2 : S_recordlinkmake_Deck) (x4 : List Int) : Option (S_api_Rational × S_recordlinkmake_Deck) := bind2 (rl_make_Deck_One y2 3) fun y5 y6 => (if y5 = true then (bind2 (rl_make_Deck_Next y6 20) fun y9 y10 => (bind2 (rl_make_Deck_Next y10 20) fun y12 y13 => (bind2 (rl_ref11_Of y9 (i64.wrap (1 + y12))) fun y15 y16 => (some (y15, y13))))) else (bind2 (rl_make_Deck_Natural y6 p1) fun y18 y19 => (bind2 (rl_ref11_Make y18 x4) fun y21 y22 => (some (y21, y19)))))
noncomputable def rl_make_Deck_Rational (p0 : S_recordlinkmake_Deck) (p1 : Int) : Option (S_api_Rational × S_recordlinkmake_Deck) := bind2 (rl_make_Deck_Natural p0 p1) fun y1 y2 => (if ((y1.length : Int) == 0) = true then (rl_make_Deck_Rational_k1 p1 y2 ([1] : List Int)) else (rl_make_Deck_Rational_k1 p1 y2 y1))
set_option maxRecDepth 100000 in
theorem rl_make_Deck_Rational_con (p0 : S_recordlinkmake_Deck) (p1 : Int) (r : S_api_Rational × S_recordlinkmake_Deck) (h : rl_make_Deck_Rational p0 p1 = some r) : Con Try.prog 12 [.c (.ptr 0 3 0 0), vi64 p1] [(0, .box 55 [cl 1 Ri64 p0.list, ci64 p0.at_, cu64 p0.state])] (.agg [cl 1 Ru32 r.1.Num, cl 1 Ru32 r.1.Den]) [(0, .box 55 [cl 1 Ri64 r.2.list, ci64 r.2.at_, cu64 r.2.state])] := by
 refine con_of tt_ok1 1 Try.func12 (by kernel_rfl) rfl (by kernel_rfl) (fun base X _ => AW.post ?_)
 unfold rl_make_Deck_Rational at h
 refine AW.sg tt_ok1 [(4, .c (.ptr 1 2 0 0))] [1] [(1, .box 30 [.t (.v (.slice none 0 0)), .t (.v (.slice none 0 0))])] 2 [] (by kernel_rfl) ?_
 obtain ⟨y1, y2, e3, h⟩ := bind2_some h
 refine AW.sg tt_ok1 [(5, .c (.ref 4 1 0 y1.length))] [0, 4] [(0, .box 55 [cl 1 Ri64 y2.list, ci64 y2.at_, cu64 y2.state]), (4, .row 52 false 1 y1.length (Ru32 y1))] 6 [hn, hn, hl [0] [] 1 (rl_make_Deck_Natural_con p0 p1 (y1, y2) e3)] (by kernel_rfl) ?_
 refine AW.seq ?_
 refine AW.join (ι := List Int) (fun v => ⟨[(0, .c (.ptr 0 3 0 0)), (1, vi64 p1), (4, .c (.ptr 1 2 0 0)), (5, .c (.ref 2 1 0 v.length))], [(0, .box 55 [cl 1 Ri64 y2.list, ci64 y2.at_, cu64 y2.state]), (1, .box 30 [.t (.v (.slice none 0 0)), .t (.v (.slice none 0 0))]), (2, .row 52 false 1 v.length (Ru32 v))], 3⟩) (fun v : List Int => rl_make_Deck_Rational_k1 p1 y2 v = some r) (fun x4 h => ?_) ?_
 ·
  unfold rl_make_Deck_Rational_k1 at h
  refine AW.tn (AW.seq ?_)
  obtain ⟨y5, y6, e7, h⟩ := bind2_some h
  refine AW.sg tt_ok1 [(18, vb y5)] [0] [(0, .box 55 [cl 1 Ri64 y6.list, ci64 y6.at_, cu64 y6.state])] 4 [hn, hl [0] [] 0 (rl_make_Deck_One_con y2 3 (y5, y6) e7)] (by kernel_rfl) ?_
  refine AW.co h (by kernel_rfl) (fun c8 h => ?_) (fun c8 h => ?_)
  ·
   obtain ⟨y9, y10, e11, h⟩ := bind2_some h
   obtain ⟨y12, y13, e14, h⟩ := bind2_some h
   obtain ⟨y15, y16, e17, h⟩ := bind2_some h
   refine AW.sg tt_ok1 [(6, .c (.ptr 10 2 0 0))] [0, 10] [(10, .box 30 [cl 1 Ru32 y15.Num, cl 1 Ru32 y15.Den]), (0, .box 55 [cl 1 Ri64 y13.list, ci64 y13.at_, cu64 y13.state])] 13 [hn, hl [0] [] 0 (rl_make_Deck_Next_con y6 20 (y9, y10) e11), hn, hl [0] [] 0 (rl_make_Deck_Next_con y10 20 (y12, y13) e14), hn, hk (rl_ref11_Of_con y9 (i64.wrap (1 + y12)) (y15, y16) e17)] (by kernel_rfl) ?_
   refine AW.sg tt_ok1 [] [1] [(1, .box 30 [cl 1 Ru32 y15.Num, cl 1 Ru32 y15.Den])] 15 [] (by kernel_rfl) ?_
   refine AW.ret (AW.tr ?_)
   obtain rfl := some_inj h
   exact fn0 (.inr rfl) [(0, 0)] 1 (.agg [cl 1 Ru32 y15.Num, cl 1 Ru32 y15.Den]) (by kernel_rfl)
  ·
   refine AW.skip (AW.tn ?_)
   obtain ⟨y18, y19, e20, h⟩ := bind2_some h
   obtain ⟨y21, y22, e23, h⟩ := bind2_some h
   refine AW.sg tt_ok1 [(8, .c (.ptr 11 2 0 0))] [0, 2, 6, 11] [(11, .box 30 [cl 1 Ru32 y21.Num, cl 1 Ru32 y21.Den]), (0, .box 55 [cl 1 Ri64 y19.list, ci64 y19.at_, cu64 y19.state])] 14 [hn, hn, hl [0] [] 1 (rl_make_Deck_Natural_con y6 p1 (y18, y19) e20), hn, hg [] [6, 2] false 0 (q := (0 + y18.length ≤ y18.length) ∧ (0 + x4.length ≤ x4.length) ∧ (True)) ⟨le0, le0, tv⟩ (a0 := [vl 1 Ru32 y18, vl 1 Ru32 x4]) (rl_ref11_Make_con y18 x4 (y21, y22) e23) ⟨ArgLe.refl _, ArgLe.refl _, tv⟩ (fun h => by cases h)] (by kernel_rfl) ?_
   refine AW.sg tt_ok1 [] [1] [(1, .box 30 [cl 1 Ru32 y21.Num, cl 1 Ru32 y21.Den])] 16 [] (by kernel_rfl) ?_
   refine AW.ret ?_
   obtain rfl := some_inj h
   exact fn0 (.inr rfl) [(0, 0)] 1 (.agg [cl 1 Ru32 y21.Num, cl 1 Ru32 y21.Den]) (by kernel_rfl)
 ·
  refine AW.sg tt_ok1 [(15, vb ((y1.length : Int) == 0))] [] [] 9 [] (by kernel_rfl) ?_
  refine AW.co h (by kernel_rfl) (fun c24 h => ?_) (fun c24 h => ?_)
  ·
   refine AW.rg tt_ok1 [(5, .c (.ref 9 1 0 (([1] : List Int).length)))] [9] [(9, .row 52 false 1 ([1] : List Int).length (Ru32 ([1] : List Int)))] 11 [hlit 0 Eu32 1 (fun _ => rfl) ([1] : List Int)] (by kernel_rfl) ?_
   exact jl ([1] : List Int) h (conv_re [(0, 0), (1, 1), (2, 9)] (by kernel_rfl))
  ·
   refine AW.skip ?_
   exact jl y1 h (conv_re [(0, 0), (1, 1), (2, 4)] (by kernel_rfl))
/-! recordlink/rational.Mul -/
noncomputable def rational_Mul (p0 : S_api_Rational) (p1 : S_api_Rational) : Option (S_api_Rational × Int) := (rational_check p0 p1).bind fun y1 => (if (y1 != 0) = true then (some ((⟨([] : List Int), ([] : List Int)⟩ : S_api_Rational), y1)) else ((rational_of p0.Num).bind fun y4 => ((rational_of p1.Num).bind fun y6 => ((rational_number_times y4 y6).bind fun y8 => ((rational_of p0.Den).bind fun y10 => ((rational_of p1.Den).bind fun y12 => ((rational_number_times y10 y12).bind fun y14 => (bind2 (rational_reduced y8 y14) fun y16 y17 => (some (y16, y17))))))))))
set_option maxRecDepth 100000 in
theorem rational_Mul_con (p0 : S_api_Rational) (p1 : S_api_Rational) (r : S_api_Rational × Int) (h : rational_Mul p0 p1 = some r) : Con Try.prog 14 [.agg [cl 1 Ru32 p0.Num, cl 1 Ru32 p0.Den], .agg [cl 1 Ru32 p1.Num, cl 1 Ru32 p1.Den]] [] (.tup [.agg [cl 1 Ru32 r.1.Num, cl 1 Ru32 r.1.Den], vi64 r.2]) [] := by
 refine con_of tt_ok1 0 Try.func14 (by kernel_rfl) rfl (by kernel_rfl) (fun base X _ => AW.post ?_)
 unfold rational_Mul at h
 refine AW.sg tt_ok1 [(4, .c (.ptr 2 2 0 0)), (3, .c (.ptr 1 2 0 0)), (2, .c (.ptr 0 2 0 0))] [0, 1, 2] [(2, .box 30 [.t (.v (.slice none 0 0)), .t (.v (.slice none 0 0))]), (1, .box 30 [cl 1 Ru32 p1.Num, cl 1 Ru32 p1.Den]), (0, .box 30 [cl 1 Ru32 p0.Num, cl 1 Ru32 p0.Den])] 4 [] (by kernel_rfl) ?_
 refine AW.seq ?_
 obtain ⟨y1, e2, h⟩ := bnd_some h
 refine AW.sg tt_ok1 [(6, vi64 y1)] [] [] 7 [hn, hn, hk (rational_check_con p0 p1 y1 e2)] (by kernel_rfl) ?_
 refine AW.sg tt_ok1 [(11, vb (y1 != 0))] [] [] 9 [] (by kernel_rfl) ?_
 refine AW.co h (by kernel_rfl) (fun c3 h => ?_) (fun c3 h => ?_)
 ·
  refine AW.sg tt_ok1 [(5, vi64 y1)] [2] [(2, .box 30 [.t (.v (.slice none 0 0)), .t (.v (.slice none 0 0))])] 13 [] (by kernel_rfl) ?_
  refine AW.ret (AW.tr ?_)
  obtain rfl := some_inj h
  exact fnR (.inr rfl) [] 0 (.tup [.agg [cl 1 Ru32 ([] : List Int), cl 1 Ru32 ([] : List Int)], vi64 y1]) (conv_box (id := 2) (ty := 30) (cs := [.t (.v (.slice none 0 0)), .t (.v (.slice none 0 0))]) (ds := [cl 1 Ru32 ([] : List Int), cl 1 Ru32 ([] : List Int)]) (by kernel_rfl) ⟨CLe.nil rfl, CLe.nil rfl, tv⟩) (by kernel_rfl)
 ·
  refine AW.skip (AW.tn ?_)
  obtain ⟨y4, e5, h⟩ := bnd_some h
  obtain ⟨y6, e7, h⟩ := bnd_some h
  obtain ⟨y8, e9, h⟩ := bnd_some h
  obtain ⟨y10, e11, h⟩ := bnd_some h
  obtain ⟨y12, e13, h⟩ := bnd_some h
  obtain ⟨y14, e15, h⟩ := bnd_some h
  obtain ⟨y16, y17, e18, h⟩ := bind2_some h
  refine AW.sd tt_ok1 mo1 [[], [], [], [], [], [], [], [], [], [], [], [], [], [], [], [], [], [2]] [(5, vi64 y17)] [(2, .box 30 [cl 1 Ru32 y16.Num, cl 1 Ru32 y16.Den])] 21 [hn, hn, hk (rational_of_con p0.Num y4 e5), hn, hn, hk (rational_of_con p1.Num y6 e7), hk (rational_number_times_con y4 y6 y8 e9), hn, hn, hk (rational_of_con p0.Den y10 e11), hn, hn, hk (rational_of_con p1.Den y12 e13), hk (rational_number_times_con y10 y12 y14 e15), hk (rational_reduced_con y8 y14 (y16, y17) e18)] (by kernel_rfl) ?_
  refine AW.ret ?_
  obtain rfl := some_inj h
  exact fn0 (.inr rfl) [] 0 (.tup [.agg [cl 1 Ru32 y16.Num, cl 1 Ru32 y16.Den], vi64 y17]) (by kernel_rfl)
/-! recordlink/recordlinkref10.Same -/
noncomputable def rl_ref10_Same_l1 (p0 : List Int) (p1 : List Int) (x3 : Int) : Option (Int ⊕ (Unit ⊕ Unit)) := if (decide (x3 < (p0.length : Int))) = true then (if 0 ≤ x3 then (if x3 < (p0.length : Int) then (if x3 < (p1.length : Int) then (if ((p0.getD x3.toNat 0) != (p1.getD x3.toNat 0)) = true then (some (.inr (.inr ()))) else (some (.inl (i64.wrap (x3 + 1))))) else none) else none) else none) else (some (.inr (.inl ())))
noncomputable def rl_ref10_Same_a2 : Option Bool := some true
noncomputable def rl_ref10_Same_a3 : Option Bool := some false
noncomputable def rl_ref10_Same (p0 : List Int) (p1 : List Int) : Option Bool := if ((p0.length : Int) != (p1.length : Int)) = true then (some false) else (bindE (loop (fun v : Int => rl_ref10_Same_l1 p0 p1 v) 0) (fun t => rl_ref10_Same_a2) (fun t => rl_ref10_Same_a3))
set_option maxRecDepth 100000 in
theorem rl_ref10_Same_con (p0 : List Int) (p1 : List Int) (r : Bool) (h : rl_ref10_Same p0 p1 = some r) : Con Try.prog 38 [vl 1 Ru32 p0, vl 1 Ru32 p1] [] (vb r) [] := by
 refine con_of tt_ok1 0 Try.func38 (by kernel_rfl) rfl (by kernel_rfl) (fun base X _ => AW.post ?_)
 unfold rl_ref10_Same at h
 refine AW.sg tt_ok1 [] [] [] 1 [] (by kernel_rfl) ?_
 refine AW.seq ?_
 refine AW.sg tt_ok1 [(10, vb ((p0.length : Int) != (p1.length : Int)))] [] [] 6 [] (by kernel_rfl) ?_
 refine AW.co h (by kernel_rfl) (fun c1 h => ?_) (fun c1 h => ?_)
 ·
  refine AW.sg tt_ok1 [(4, vb false)] [] [] 7 [] (by kernel_rfl) ?_
  refine AW.ret (AW.tr ?_)
  obtain rfl := some_inj h
  exact fn0 (.inr rfl) [] 0 (vb false) (by kernel_rfl)
 ·
  refine AW.skip (AW.tn (AW.seq ?_))
  refine AW.sg tt_ok1 [(5, vi64 0)] [] [] 7 [] (by kernel_rfl) ?_
  refine AW.block ?_
  refine AW.lpE h (fun v => ⟨[(0, vl 1 Ru32 p0), (1, vl 1 Ru32 p1), (5, vi64 v)], [], 0⟩) (fun t => (.exit 0, ⟨[], [], 0⟩)) (fun t => (.ret, ⟨[(4, vb false)], [], 0⟩)) (conv_re [] (by kernel_rfl)) (fun _ => tv) (fun _ => tv) ?_ (fun t h => ?_) (fun t h => ?_)
  ·
   clear h
   intro x3 o h
   unfold rl_ref10_Same_l1 at h
   refine AW.seq ?_
   refine AW.sg tt_ok1 [(14, vb (decide (x3 < (p0.length : Int))))] [] [] 4 [] (by kernel_rfl) ?_
   refine AW.co h (by kernel_rfl) (fun c4 h => ?_) (fun c4 h => ?_)
   ·
    refine AW.skip (AW.tn ?_)
    refine AW.seq (AW.block ?_)
    obtain ⟨g5, g6, h⟩ := ifd h
    obtain ⟨g7, h⟩ := ifc h
    refine AW.sd tt_ok1 mo1 [] [(25, vb ((p0.getD x3.toNat 0) != (p1.getD x3.toNat 0)))] [] 13 [hn, hn, hq g5 g6, hn, hn, hn, hq g5 g7] (by kernel_rfl) ?_
    refine AW.co h (by kernel_rfl) (fun c8 h => ?_) (fun c8 h => ?_)
    ·
     refine AW.sg tt_ok1 [(4, vb false)] [] [] 14 [] (by kernel_rfl) ?_
     refine AW.ret (AW.inBlock_ret (AW.tr ?_))
     exact lpo h rfl (conv_re [] (by kernel_rfl))
    ·
     refine AW.skip (AW.inBlock_normal (AW.tn ?_))
     refine AW.rg tt_ok1 [(5, vi64 (i64.wrap (x3 + 1)))] [] [] 16 [] (by kernel_rfl) ?_
     exact lpn h (conv_re [] (by kernel_rfl))
   ·
    refine AW.exit (AW.thenQ_exit ?_)
    exact lpo h rfl (conv_re [] (by kernel_rfl))
  ·
   replace h : rl_ref10_Same_a2 = some r := h
   unfold rl_ref10_Same_a2 at h
   show (_ : Exit → St → Prop) (.exit 0) _
   refine AW.inBlock_hit (AW.tn ?_)
   refine AW.sg tt_ok1 [(4, vb true)] [] [] 1 [] (by kernel_rfl) ?_
   refine AW.ret ?_
   obtain rfl := some_inj h
   exact fn0 (.inr rfl) [] 0 (vb true) (by kernel_rfl)
  ·
   replace h : rl_ref10_Same_a3 = some r := h
   unfold rl_ref10_Same_a3 at h
   show (_ : Exit → St → Prop) (.ret) _
   refine AW.inBlock_ret (AW.tr ?_)
   obtain rfl := some_inj h
   exact fn0 (.inr rfl) [] 0 (vb false) (by kernel_rfl)
/-! recordlink/recordlinkref11.Same -/
noncomputable def rl_ref11_Same_k1 (x1 : Bool) : Option Bool := some x1
noncomputable def rl_ref11_Same (p0 : S_api_Rational) (p1 : S_api_Rational) : Option Bool := (rl_ref10_Same p0.Num p1.Num).bind fun y2 => (if y2 = true then ((rl_ref10_Same p0.Den p1.Den).bind fun y5 => (rl_ref11_Same_k1 y5)) else (rl_ref11_Same_k1 false))
set_option maxRecDepth 100000 in
theorem rl_ref11_Same_con (p0 : S_api_Rational) (p1 : S_api_Rational) (r : Bool) (h : rl_ref11_Same p0 p1 = some r) : Con Try.prog 15 [.agg [cl 1 Ru32 p0.Num, cl 1 Ru32 p0.Den], .agg [cl 1 Ru32 p1.Num, cl 1 Ru32 p1.Den]] [] (vb r) [] := by
 refine con_of tt_ok1 0 Try.func15 (by kernel_rfl) rfl (by kernel_rfl) (fun base X _ => AW.post ?_)
 unfold rl_ref11_Same at h
 refine AW.sg tt_ok1 [(3, .c (.ptr 1 2 0 0)), (2, .c (.ptr 0 2 0 0))] [0, 1] [(1, .box 30 [cl 1 Ru32 p1.Num, cl 1 Ru32 p1.Den]), (0, .box 30 [cl 1 Ru32 p0.Num, cl 1 Ru32 p0.Den])] 3 [] (by kernel_rfl) ?_
 refine AW.seq ?_
 refine AW.join (ι := Bool) (fun v => ⟨[(4, vb v)], [], 0⟩) (fun v : Bool => rl_ref11_Same_k1 v = some r) (fun x1 h => ?_) ?_
 ·
  unfold rl_ref11_Same_k1 at h
  refine AW.tn (AW.ret ?_)
  obtain rfl := some_inj h
  exact fn0 (.inr rfl) [] 0 (vb x1) (by kernel_rfl)
 ·
  obtain ⟨y2, e3, h⟩ := bnd_some h
  rcases ifs h with ⟨c4, hs⟩ | ⟨c4, hs⟩
  ·clear h; subst c4; have h := hs; clear hs
   obtain ⟨y5, e6, h⟩ := bnd_some h
   refine AW.rg tt_ok1 [(4, vb y5)] [] [] 14 [hn, hn, hn, hn, hk (rl_ref10_Same_con p0.Num p1.Num true e3), hn, hn, hn, hn, hn, hk (rl_ref10_Same_con p0.Den p1.Den y5 e6)] (by kernel_rfl) ?_
   exact jl y5 h (conv_re [] (by kernel_rfl))
  ·clear h; subst c4; have h := hs; clear hs
   refine AW.rg tt_ok1 [(4, vb false)] [] [] 15 [hn, hn, hn, hn, hk (rl_ref10_Same_con p0.Num p1.Num false e3)] (by kernel_rfl) ?_
   exact jl false h (conv_re [] (by kernel_rfl))
/-! recordlink/recordlinkref10.product -/
noncomputable def rl_ref10_product_l2 (p0 : List Int) (p1 : List Int) (x6 : Int) (x12 : List Int) (x13 : Int) (x14 : Int) : Option (((List Int) × Int × Int) ⊕ ((List Int) × Int)) := if (decide (x14 < (p1.length : Int))) = true then (if 0 ≤ x6 then (if x6 < (p0.length : Int) then (if 0 ≤ x14 then (if x14 < (p1.length : Int) then (if 0 ≤ (i64.wrap (x6 + x14)) then (if (i64.wrap (x6 + x14)) < (x12.length : Int) then ((some (u64.wrap ((u64.wrap ((u64.wrap ((u64.wrap (p0.getD x6.toNat 0)) * (u64.wrap (p1.getD x14.toNat 0)))) + (u64.wrap (x12.getD (0 + (i64.wrap (x6 + x14)).toNat) 0)))) + x13))).bind fun z24 => (some (.inl ((x12.set (0 + (i64.wrap (x6 + x14)).toNat) (u32.wrap z24)), ishr .u64 z24 32, i64.wrap (x14 + 1))))) else none) else none) else none) else none) else none) else none) else (some (.inr (x12, x13)))
noncomputable def rl_ref10_product_l1 (p0 : List Int) (p1 : List Int) (x5 : List Int) (x6 : Int) : Option (((List Int) × Int) ⊕ (List Int)) := if (decide (x6 < (p0.length : Int))) = true then (bind2 (loop (fun v : (List Int) × Int × Int => rl_ref10_product_l2 p0 p1 x6 v.1 v.2.1 v.2.2) (x5, 0, 0)) fun x26 x27 => (if 0 ≤ (i64.wrap (x6 + (p1.length : Int))) then (if (i64.wrap (x6 + (p1.length : Int))) < (x26.length : Int) then (some (.inl ((x26.set (0 + (i64.wrap (x6 + (p1.length : Int))).toNat) (u32.wrap x27)), i64.wrap (x6 + 1)))) else none) else none)) else (some (.inr x5))
noncomputable def rl_ref10_product (p0 : List Int) (p1 : List Int) : Option (List Int) := if 0 ≤ (i64.wrap ((p0.length : Int) + (p1.length : Int))) then (if (i64.wrap ((p0.length : Int) + (p1.length : Int))) ≤ 1099511627776 then ((loop (fun v : (List Int) × Int => rl_ref10_product_l1 p0 p1 v.1 v.2) ((List.replicate ((i64.wrap ((p0.length : Int) + (p1.length : Int))).toNat) (0 : Int)), 0)).bind fun x31 => ((rl_ref10_trim x31).bind fun y32 => (some y32))) else none) else none
set_option maxRecDepth 100000 in
theorem rl_ref10_product_con (p0 : List Int) (p1 : List Int) (r : List Int) (h : rl_ref10_product p0 p1 = some r) : Con Try.prog 45 [vl 1 Ru32 p0, vl 1 Ru32 p1] [] (vl 1 Ru32 r) [] := by
 refine con_of tt_ok1 0 Try.func45 (by kernel_rfl) rfl (by kernel_rfl) (fun base X _ => AW.post ?_)
 unfold rl_ref10_product at h
 refine AW.sg tt_ok1 [] [] [] 1 [] (by kernel_rfl) ?_
 obtain ⟨g1, g2, h⟩ := ifd h
 refine AW.sg tt_ok1 [(5, .c (.ref 6 1 0 ((List.replicate ((i64.wrap ((p0.length : Int) + (p1.length : Int))).toNat) (0 : Int)).length)))] [6] [(6, .row 52 false 1 (List.replicate ((i64.wrap ((p0.length : Int) + (p1.length : Int))).toNat) (0 : Int)).length (Ru32 (List.replicate ((i64.wrap ((p0.length : Int) + (p1.length : Int))).toNat) (0 : Int))))] 8 [hn, hn, hn, hn, hn, hmk 0 Eu32 1 4 [.int .u32 0] rfl rfl (i64.wrap ((p0.length : Int) + (p1.length : Int))) (i64.wrap ((p0.length : Int) + (p1.length : Int))) g1 (Int.le_refl _) g2 (by decide)] (by kernel_rfl) ?_
 refine AW.seq ?_
 refine AW.sg tt_ok1 [(6, vi64 0)] [] [] 9 [] (by kernel_rfl) ?_
 refine AW.block ?_
 obtain ⟨x31, l34, h⟩ := bnd_some h
 refine AW.lp l34 (fun v => ⟨[(0, vl 1 Ru32 p0), (1, vl 1 Ru32 p1), (5, .c (.ref 0 1 0 v.1.length)), (6, vi64 v.2)], [(0, .row 52 false 1 v.1.length (Ru32 v.1))], 1⟩) (fun t : List Int => (.exit 0, ⟨[(5, .c (.ref 0 1 0 t.length))], [(0, .row 52 false 1 t.length (Ru32 t))], 1⟩)) (conv_re [(0, 6)] (by kernel_rfl)) (fun _ => tv) ?_ ?_
 ·
  clear l34 h
  intro v o h
  obtain ⟨x5, x6⟩ := v
  replace h : rl_ref10_product_l1 p0 p1 x5 x6 = some o := h
  unfold rl_ref10_product_l1 at h
  refine AW.seq ?_
  refine AW.sg tt_ok1 [(19, vb (decide (x6 < (p0.length : Int))))] [] [] 5 [] (by kernel_rfl) ?_
  refine AW.co h (by kernel_rfl) (fun c8 h => ?_) (fun c8 h => ?_)
  ·
   refine AW.skip (AW.tn ?_)
   refine AW.seq (AW.block ?_)
   refine AW.sg tt_ok1 [(7, vu64 0)] [] [] 6 [] (by kernel_rfl) ?_
   refine AW.seq ?_
   refine AW.sg tt_ok1 [(8, vi64 0)] [] [] 7 [] (by kernel_rfl) ?_
   refine AW.block ?_
   obtain ⟨x26, x27, l30, h⟩ := bind2_some h
   refine AW.lp l30 (fun v => ⟨[(0, vl 1 Ru32 p0), (1, vl 1 Ru32 p1), (5, .c (.ref 0 1 0 v.1.length)), (6, vi64 x6), (7, vu64 v.2.1), (8, vi64 v.2.2)], [(0, .row 52 false 1 v.1.length (Ru32 v.1))], 1⟩) (fun t : (List Int) × Int => (.exit 2, ⟨[(0, vl 1 Ru32 p0), (1, vl 1 Ru32 p1), (5, .c (.ref 0 1 0 t.1.length)), (6, vi64 x6), (7, vu64 t.2)], [(0, .row 52 false 1 t.1.length (Ru32 t.1))], 1⟩)) (conv_re [(0, 0)] (by kernel_rfl)) (fun _ => tv) ?_ ?_
   ·
    clear l30 h
    intro v o h
    obtain ⟨x12, x13, x14⟩ := v
    replace h : rl_ref10_product_l2 p0 p1 x6 x12 x13 x14 = some o := h
    unfold rl_ref10_product_l2 at h
    refine AW.seq ?_
    refine AW.sg tt_ok1 [(25, vb (decide (x14 < (p1.length : Int))))] [] [] 5 [] (by kernel_rfl) ?_
    refine AW.co h (by kernel_rfl) (fun c17 h => ?_) (fun c17 h => ?_)
    ·
     refine AW.skip (AW.tn ?_)
     refine AW.seq (AW.block ?_)
     obtain ⟨g18, g19, h⟩ := ifd h
     obtain ⟨g20, g21, h⟩ := ifd h
     obtain ⟨g22, g23, h⟩ := ifd h
     obtain ⟨z24, n25, h⟩ := bnd_some h
     replace n25 := some_inj n25
     refine AW.sd tt_ok1 mo1 [] [(9, vu64 z24)] [] 27 [hn, hn, hq g18 g19, hn, hn, hn, hn, hq g20 g21, hn, hn, hn, hn, hn, hn, hn, hq g22 g23, ho (p := (0 + (i64.wrap (x6 + x14)).toNat) < x12.length) (by have h1 : 0 ≤ (i64.wrap (x6 + x14)) := g22; have h2 : (i64.wrap (x6 + x14)) < (x12.length : Int) := g23; omega)] (by subst n25; kernel_rfl) ?_
     refine AW.sg tt_ok1 [] [0] [(0, .row 52 false 1 x12.length (Ru32 (x12.set (0 + (i64.wrap (x6 + x14)).toNat) (u32.wrap z24))))] 35 [hn, hn, hn, hn, hn, hn, hq g22 g23, hset 0 Eu32 x12 (0 + (i64.wrap (x6 + x14)).toNat) (u32.wrap z24) (n := x12.length) (by have h1 : 0 ≤ (i64.wrap (x6 + x14)) := g22; have h2 : (i64.wrap (x6 + x14)) < (x12.length : Int) := g23; omega) rfl] (by kernel_rfl) ?_
     refine AW.rg tt_ok1 [(7, vu64 (ishr .u64 z24 32))] [] [] 38 [hn, ho (p := 0 ≤ (32 : Int)) (by decide)] (by kernel_rfl) ?_
     refine AW.inBlock_normal (AW.tn ?_)
     refine AW.rg tt_ok1 [(8, vi64 (i64.wrap (x14 + 1)))] [] [] 41 [] (by kernel_rfl) ?_
     exact lpn h (Conv.trans (conv_tms [(5, .c (.ref 0 1 0 ((x12.set (0 + (i64.wrap (x6 + x14)).toNat) (u32.wrap z24)).length)))] ⟨⟨.c (.ref 0 1 0 x12.length), by kernel_rfl, ALe.len (by simp only [List.length_set])⟩, tv⟩) (Conv.trans (conv_rowN 0 52 false 1 x12.length ((x12.set (0 + (i64.wrap (x6 + x14)).toNat) (u32.wrap z24)).length) (Ru32 (x12.set (0 + (i64.wrap (x6 + x14)).toNat) (u32.wrap z24))) (by kernel_rfl) (by simp only [List.length_set])) (conv_re [(0, 0)] (by kernel_rfl))))
    ·
     refine AW.exit (AW.thenQ_exit ?_)
     exact lpo h rfl (conv_re [(0, 0)] (by kernel_rfl))
   ·
    show (_ : Exit → St → Prop) (.exit 2) _
    refine AW.inBlock_hit (AW.tn ?_)
    obtain ⟨g28, g29, h⟩ := ifd h
    refine AW.rg tt_ok1 [] [0] [(0, .row 52 false 1 x26.length (Ru32 (x26.set (0 + (i64.wrap (x6 + (p1.length : Int))).toNat) (u32.wrap x27))))] 10 [hn, hn, hn, hn, hn, hn, hn, hq g28 g29, hset 0 Eu32 x26 (0 + (i64.wrap (x6 + (p1.length : Int))).toNat) (u32.wrap x27) (n := x26.length) (by have h1 : 0 ≤ (i64.wrap (x6 + (p1.length : Int))) := g28; have h2 : (i64.wrap (x6 + (p1.length : Int))) < (x26.length : Int) := g29; omega) rfl] (by kernel_rfl) ?_
    refine AW.inBlock_normal (AW.tn ?_)
    refine AW.rg tt_ok1 [(6, vi64 (i64.wrap (x6 + 1)))] [] [] 13 [] (by kernel_rfl) ?_
    exact lpn h (Conv.trans (conv_tms [(5, .c (.ref 0 1 0 ((x26.set (0 + (i64.wrap (x6 + (p1.length : Int))).toNat) (u32.wrap x27)).length)))] ⟨⟨.c (.ref 0 1 0 x26.length), by kernel_rfl, ALe.len (by simp only [List.length_set])⟩, tv⟩) (Conv.trans (conv_rowN 0 52 false 1 x26.length ((x26.set (0 + (i64.wrap (x6 + (p1.length : Int))).toNat) (u32.wrap x27)).length) (Ru32 (x26.set (0 + (i64.wrap (x6 + (p1.length : Int))).toNat) (u32.wrap x27))) (by kernel_rfl) (by simp only [List.length_set])) (conv_re [(0, 0)] (by kernel_rfl))))
  ·
   refine AW.exit (AW.thenQ_exit ?_)
   exact lpo h rfl (conv_re [(0, 0)] (by kernel_rfl))
 ·
  show (_ : Exit → St → Prop) (.exit 0) _
  refine AW.inBlock_hit (AW.tn ?_)
  obtain ⟨y32, e33, h⟩ := bnd_some h
  refine AW.sg tt_ok1 [(4, vl 1 Ru32 y32)] [0] [] 3 [hn, hg [] [0] false 0 (q := (0 + x31.length ≤ x31.length) ∧ (True)) ⟨le0, tv⟩ (a0 := [vl 1 Ru32 x31]) (rl_ref10_trim_con x31 y32 e33) ⟨ArgLe.refl _, tv⟩ (fun h => by cases h)] (by kernel_rfl) ?_
  refine AW.ret ?_
  obtain rfl := some_inj h
  exact fn0 (.inr rfl) [] 0 (vl 1 Ru32 y32) (by kernel_rfl)
/-! recordlink/recordlinkref10.limited -/
noncomputable def rl_ref10_limited (p0 : List Int) : Option ((List Int) × Int) := if (decide ((p0.length : Int) > 64)) = true then (some (([] : List Int), 1)) else (some (p0, 0))
set_option maxRecDepth 100000 in
theorem rl_ref10_limited_con (p0 : List Int) (r : (List Int) × Int) (h : rl_ref10_limited p0 = some r) : Con Try.prog 44 [vl 1 Ru32 p0] [] (.tup [vl 1 Ru32 r.1, vi64 r.2]) [] := by
 refine con_of tt_ok1 0 Try.func44 (by kernel_rfl) rfl (by kernel_rfl) (fun base X _ => AW.post ?_)
 unfold rl_ref10_limited at h
 refine AW.sg tt_ok1 [] [] [] 2 [] (by kernel_rfl) ?_
 refine AW.seq ?_
 refine AW.sg tt_ok1 [(6, vb (decide ((p0.length : Int) > 64)))] [] [] 5 [] (by kernel_rfl) ?_
 refine AW.co h (by kernel_rfl) (fun c1 h => ?_) (fun c1 h => ?_)
 ·
  refine AW.sg tt_ok1 [(3, vi64 1), (2, .c (.t (.v (.slice none 0 0))))] [] [] 7 [] (by kernel_rfl) ?_
  refine AW.ret (AW.tr ?_)
  obtain rfl := some_inj h
  exact fnR (.inr rfl) [] 0 (.tup [vl 1 Ru32 ([] : List Int), vi64 1]) (conv_tms [(2, vl 1 Ru32 ([] : List Int))] ⟨⟨.c (.t (.v (.slice none 0 0))), by kernel_rfl, ALe.c (CLe.nil rfl)⟩, tv⟩) (by kernel_rfl)
 ·
  refine AW.skip (AW.tn ?_)
  refine AW.sg tt_ok1 [(3, vi64 0), (2, vl 1 Ru32 p0)] [] [] 8 [] (by kernel_rfl) ?_
  refine AW.ret ?_
  obtain rfl := some_inj h
  exact fn0 (.inr rfl) [] 0 (.tup [vl 1 Ru32 p0, vi64 0]) (by kernel_rfl)
/-! recordlink/recordlinkref10.Mul -/
noncomputable def rl_ref10_Mul_k1 (p0 : List Int) (p1 : List Int) (x1 : Bool) : Option ((List Int) × Int) := if x1 = true then (some (([] : List Int), 20)) else ((rl_ref10_product p0 p1).bind fun y3 => (bind2 (rl_ref10_limited y3) fun y5 y6 => (some (y5, y6))))
noncomputable def rl_ref10_Mul (p0 : List Int) (p1 : List Int) : Option ((List Int) × Int) := (rl_ref10_Valid p0).bind fun y8 => (if (!y8) = true then (rl_ref10_Mul_k1 p0 p1 true) else ((rl_ref10_Valid p1).bind fun y11 => (rl_ref10_Mul_k1 p0 p1 (!y11))))
set_option maxRecDepth 100000 in
theorem rl_ref10_Mul_con (p0 : List Int) (p1 : List Int) (r : (List Int) × Int) (h : rl_ref10_Mul p0 p1 = some r) : Con Try.prog 18 [vl 1 Ru32 p0, vl 1 Ru32 p1] [] (.tup [vl 1 Ru32 r.1, vi64 r.2]) [] := by
 refine con_of tt_ok1 0 Try.func18 (by kernel_rfl) rfl (by kernel_rfl) (fun base X _ => AW.post ?_)
 unfold rl_ref10_Mul at h
 refine AW.sg tt_ok1 [] [] [] 2 [] (by kernel_rfl) ?_
 refine AW.seq (AW.seq ?_)
 refine AW.join (ι := Bool) (fun v => ⟨[(0, vl 1 Ru32 p0), (1, vl 1 Ru32 p1), (13, vb v)], [], 0⟩) (fun v : Bool => rl_ref10_Mul_k1 p0 p1 v = some r) (fun x1 h => ?_) ?_
 ·
  unfold rl_ref10_Mul_k1 at h
  refine AW.tn ?_
  refine AW.co h (by kernel_rfl) (fun c2 h => ?_) (fun c2 h => ?_)
  ·
   refine AW.sg tt_ok1 [(5, vi64 20), (4, .c (.t (.v (.slice none 0 0))))] [] [] 2 [] (by kernel_rfl) ?_
   refine AW.ret (AW.tr ?_)
   obtain rfl := some_inj h
   exact fnR (.inr rfl) [] 0 (.tup [vl 1 Ru32 ([] : List Int), vi64 20]) (conv_tms [(4, vl 1 Ru32 ([] : List Int))] ⟨⟨.c (.t (.v (.slice none 0 0))), by kernel_rfl, ALe.c (CLe.nil rfl)⟩, tv⟩) (by kernel_rfl)
  ·
   refine AW.skip (AW.tn ?_)
   obtain ⟨y3, e4, h⟩ := bnd_some h
   obtain ⟨y5, y6, e7, h⟩ := bind2_some h
   refine AW.sg tt_ok1 [(5, vi64 y6), (4, vl 1 Ru32 y5)] [] [] 6 [hn, hn, hk (rl_ref10_product_con p0 p1 y3 e4), hk (rl_ref10_limited_con y3 (y5, y6) e7)] (by kernel_rfl) ?_
   refine AW.ret ?_
   obtain rfl := some_inj h
   exact fn0 (.inr rfl) [] 0 (.tup [vl 1 Ru32 y5, vi64 y6]) (by kernel_rfl)
 ·
  obtain ⟨y8, e9, h⟩ := bnd_some h
  rcases ifs h with ⟨c10, h⟩ | ⟨c10, h⟩
  ·
   refine AW.rg tt_ok1 [(13, vb true)] [] [] 9 [hn, hk (rl_ref10_Valid_con p0 y8 e9), ht c10] (by kernel_rfl) ?_
   exact jl true h (conv_re [] (by kernel_rfl))
  ·
   obtain ⟨y11, e12, h⟩ := bnd_some h
   refine AW.rg tt_ok1 [(13, vb (!y11))] [] [] 8 [hn, hk (rl_ref10_Valid_con p0 y8 e9), hf c10, hn, hn, hk (rl_ref10_Valid_con p1 y11 e12)] (by kernel_rfl) ?_
   exact jl (!y11) h (conv_re [] (by kernel_rfl))
/-! recordlink/rational.Make -/
noncomputable def rational_Make_k1 (p0 : List Int) (p1 : List Int) (x1 : Bool) : Option (S_api_Rational × Int) := if x1 = true then (some ((⟨([] : List Int), ([] : List Int)⟩ : S_api_Rational), 20)) else (if ((p1.length : Int) == 0) = true then (some ((⟨([] : List Int), ([] : List Int)⟩ : S_api_Rational), 9)) else ((rational_of p0).bind fun y4 => ((rational_of p1).bind fun y6 => (bind2 (rational_reduced y4 y6) fun y8 y9 => (some (y8, y9))))))
noncomputable def rational_Make (p0 : List Int) (p1 : List Int) : Option (S_api_Rational × Int) := (natural_Valid p0).bind fun y11 => (if (!y11) = true then (rational_Make_k1 p0 p1 true) else ((natural_Valid p1).bind fun y14 => (rational_Make_k1 p0 p1 (!y14))))
set_option maxRecDepth 100000 in
theorem rational_Make_con (p0 : List Int) (p1 : List Int) (r : S_api_Rational × Int) (h : rational_Make p0 p1 = some r) : Con Try.prog 19 [vl 1 Ru32 p0, vl 1 Ru32 p1] [] (.tup [.agg [cl 1 Ru32 r.1.Num, cl 1 Ru32 r.1.Den], vi64 r.2]) [] := by
 refine con_of tt_ok1 0 Try.func19 (by kernel_rfl) rfl (by kernel_rfl) (fun base X _ => AW.post ?_)
 unfold rational_Make at h
 refine AW.sg tt_ok1 [(4, .c (.ptr 0 2 0 0))] [0] [(0, .box 30 [.t (.v (.slice none 0 0)), .t (.v (.slice none 0 0))])] 2 [] (by kernel_rfl) ?_
 refine AW.seq (AW.block (AW.seq ?_))
 refine AW.join (ι := Bool) (fun v => ⟨[(0, vl 1 Ru32 p0), (1, vl 1 Ru32 p1), (4, .c (.ptr 0 2 0 0)), (6, vb v)], [(0, .box 30 [.t (.v (.slice none 0 0)), .t (.v (.slice none 0 0))])], 1⟩) (fun v : Bool => rational_Make_k1 p0 p1 v = some r) (fun x1 h => ?_) ?_
 ·
  unfold rational_Make_k1 at h
  refine AW.tn ?_
  refine AW.co h (by kernel_rfl) (fun c2 h => ?_) (fun c2 h => ?_)
  ·
   refine AW.sg tt_ok1 [(5, vi64 20)] [0] [(0, .box 30 [.t (.v (.slice none 0 0)), .t (.v (.slice none 0 0))])] 4 [] (by kernel_rfl) ?_
   refine AW.ret (AW.inBlock_ret (AW.tr ?_))
   obtain rfl := some_inj h
   exact fnR (.inr rfl) [] 0 (.tup [.agg [cl 1 Ru32 ([] : List Int), cl 1 Ru32 ([] : List Int)], vi64 20]) (conv_box (id := 0) (ty := 30) (cs := [.t (.v (.slice none 0 0)), .t (.v (.slice none 0 0))]) (ds := [cl 1 Ru32 ([] : List Int), cl 1 Ru32 ([] : List Int)]) (by kernel_rfl) ⟨CLe.nil rfl, CLe.nil rfl, tv⟩) (by kernel_rfl)
  ·
   refine AW.sg tt_ok1 [(16, vb ((p1.length : Int) == 0))] [] [] 5 [] (by kernel_rfl) ?_
   refine AW.co h (by kernel_rfl) (fun c3 h => ?_) (fun c3 h => ?_)
   ·
    refine AW.sg tt_ok1 [(5, vi64 9)] [0] [(0, .box 30 [.t (.v (.slice none 0 0)), .t (.v (.slice none 0 0))])] 8 [] (by kernel_rfl) ?_
    refine AW.ret (AW.inBlock_ret (AW.tr ?_))
    obtain rfl := some_inj h
    exact fnR (.inr rfl) [] 0 (.tup [.agg [cl 1 Ru32 ([] : List Int), cl 1 Ru32 ([] : List Int)], vi64 9]) (conv_box (id := 0) (ty := 30) (cs := [.t (.v (.slice none 0 0)), .t (.v (.slice none 0 0))]) (ds := [cl 1 Ru32 ([] : List Int), cl 1 Ru32 ([] : List Int)]) (by kernel_rfl) ⟨CLe.nil rfl, CLe.nil rfl, tv⟩) (by kernel_rfl)
   ·
    refine AW.skip (AW.inBlock_normal (AW.tn ?_))
    obtain ⟨y4, e5, h⟩ := bnd_some h
    obtain ⟨y6, e7, h⟩ := bnd_some h
    obtain ⟨y8, y9, e10, h⟩ := bind2_some h
    refine AW.sg tt_ok1 [(5, vi64 y9)] [0] [(0, .box 30 [cl 1 Ru32 y8.Num, cl 1 Ru32 y8.Den])] 11 [hn, hk (rational_of_con p0 y4 e5), hn, hk (rational_of_con p1 y6 e7), hk (rational_reduced_con y4 y6 (y8, y9) e10)] (by kernel_rfl) ?_
    refine AW.ret ?_
    obtain rfl := some_inj h
    exact fn0 (.inr rfl) [] 0 (.tup [.agg [cl 1 Ru32 y8.Num, cl 1 Ru32 y8.Den], vi64 y9]) (by kernel_rfl)
 ·
  obtain ⟨y11, e12, h⟩ := bnd_some h
  rcases ifs h with ⟨c13, h⟩ | ⟨c13, h⟩
  ·
   refine AW.rg tt_ok1 [(6, vb true)] [] [] 10 [hn, hk (natural_Valid_con p0 y11 e12), ht c13] (by kernel_rfl) ?_
   exact jl true h (conv_re [(0, 0)] (by kernel_rfl))
  ·
   obtain ⟨y14, e15, h⟩ := bnd_some h
   refine AW.rg tt_ok1 [(6, vb (!y14))] [] [] 9 [hn, hk (natural_Valid_con p0 y11 e12), hf c13, hn, hn, hk (natural_Valid_con p1 y14 e15)] (by kernel_rfl) ?_
   exact jl (!y14) h (conv_re [(0, 0)] (by kernel_rfl))
/-! recordlink/rational.Compare -/
noncomputable def rational_Compare_k1 (y4 : S_rational_number) (y5 : S_rational_number) (x7 : Bool) : Option (Int × Int) := if x7 = true then (some (0, 1)) else ((natural_Compare y4.n y5.n).bind fun y9 => (some (y9, 0)))
noncomputable def rational_Compare (p0 : S_api_Rational) (p1 : S_api_Rational) : Option (Int × Int) := (rational_check p0 p1).bind fun y1 => (if (y1 != 0) = true then (some (0, y1)) else (bind2 (rational_cross p0 p1) fun y4 y5 => (if (y4.e != 0) = true then (rational_Compare_k1 y4 y5 true) else (rational_Compare_k1 y4 y5 (y5.e != 0)))))
set_option maxRecDepth 100000 in
theorem rational_Compare_con (p0 : S_api_Rational) (p1 : S_api_Rational) (r : Int × Int) (h : rational_Compare p0 p1 = some r) : Con Try.prog 24 [.agg [cl 1 Ru32 p0.Num, cl 1 Ru32 p0.Den], .agg [cl 1 Ru32 p1.Num, cl 1 Ru32 p1.Den]] [] (.tup [vi64 r.1, vi64 r.2]) [] := by
 refine con_of tt_ok1 0 Try.func24 (by kernel_rfl) rfl (by kernel_rfl) (fun base X _ => AW.post ?_)
 unfold rational_Compare at h
 refine AW.sg tt_ok1 [(3, .c (.ptr 1 2 0 0)), (2, .c (.ptr 0 2 0 0))] [0, 1] [(1, .box 30 [cl 1 Ru32 p1.Num, cl 1 Ru32 p1.Den]), (0, .box 30 [cl 1 Ru32 p0.Num, cl 1 Ru32 p0.Den])] 4 [] (by kernel_rfl) ?_
 refine AW.seq ?_
 obtain ⟨y1, e2, h⟩ := bnd_some h
 refine AW.sg tt_ok1 [(6, vi64 y1)] [] [] 7 [hn, hn, hk (rational_check_con p0 p1 y1 e2)] (by kernel_rfl) ?_
 refine AW.sg tt_ok1 [(13, vb (y1 != 0))] [] [] 9 [] (by kernel_rfl) ?_
 refine AW.co h (by kernel_rfl) (fun c3 h => ?_) (fun c3 h => ?_)
 ·
  refine AW.sg tt_ok1 [(5, vi64 y1), (4, vi64 0)] [] [] 12 [] (by kernel_rfl) ?_
  refine AW.ret (AW.tr ?_)
  obtain rfl := some_inj h
  exact fn0 (.inr rfl) [] 0 (.tup [vi64 0, vi64 y1]) (by kernel_rfl)
 ·
  refine AW.skip (AW.tn ?_)
  obtain ⟨y4, y5, e6, h⟩ := bind2_some h
  refine AW.sg tt_ok1 [(8, .c (.ptr 15 2 0 0)), (7, .c (.ptr 14 2 0 0))] [14, 15] [(15, .box 62 [cl 1 Ru32 y5.n, ci64 y5.e]), (14, .box 62 [cl 1 Ru32 y4.n, ci64 y4.e])] 18 [hn, hn, hk (rational_cross_con p0 p1 (y4, y5) e6)] (by kernel_rfl) ?_
  refine AW.seq (AW.seq ?_)
  refine AW.join (ι := Bool) (fun v => ⟨[(7, .c (.ptr 0 2 0 0)), (8, .c (.ptr 1 2 0 0)), (28, vb v)], [(0, .box 62 [cl 1 Ru32 y4.n, ci64 y4.e]), (1, .box 62 [cl 1 Ru32 y5.n, ci64 y5.e])], 2⟩) (fun v : Bool => rational_Compare_k1 y4 y5 v = some r) (fun x7 h => ?_) ?_
  ·
   unfold rational_Compare_k1 at h
   refine AW.tn ?_
   refine AW.co h (by kernel_rfl) (fun c8 h => ?_) (fun c8 h => ?_)
   ·
    refine AW.sg tt_ok1 [(5, vi64 1), (4, vi64 0)] [] [] 4 [] (by kernel_rfl) ?_
    refine AW.ret (AW.tr ?_)
    obtain rfl := some_inj h
    exact fn0 (.inr rfl) [] 0 (.tup [vi64 0, vi64 1]) (by kernel_rfl)
   ·
    refine AW.skip (AW.tn ?_)
    obtain ⟨y9, e10, h⟩ := bnd_some h
    refine AW.sg tt_ok1 [(5, vi64 0), (4, vi64 y9)] [] [] 8 [hn, hn, hn, hn, hk (natural_Compare_con y4.n y5.n y9 e10)] (by kernel_rfl) ?_
    refine AW.ret ?_
    obtain rfl := some_inj h
    exact fn0 (.inr rfl) [] 0 (.tup [vi64 y9, vi64 0]) (by kernel_rfl)
  ·
   rcases ifs h with ⟨c11, h⟩ | ⟨c11, h⟩
   ·
    refine AW.rg tt_ok1 [(28, vb true)] [] [] 26 [hn, hn, ht c11] (by kernel_rfl) ?_
    exact jl true h (conv_re [(0, 14), (1, 15)] (by kernel_rfl))
   ·
    refine AW.rg tt_ok1 [(28, vb (y5.e != 0))] [] [] 26 [hn, hn, hf c11] (by kernel_rfl) ?_
    exact jl (y5.e != 0) h (conv_re [(0, 14), (1, 15)] (by kernel_rfl))
/-! recordlink/rational.greater -/
noncomputable def rational_greater_k2 (x6 : List Int) (x8 : List Int) (y11 : List Int) (y15 : List Int) (x21 : Bool) : Option (((List Int) × (List Int) × (List Int) × (List Int)) ⊕ Bool) := if x21 = true then (some (.inr (decide ((y11.length : Int) > 0)))) else (some (.inl (x8, y15, x6, y11)))
noncomputable def rational_greater_l1 (x5 : List Int) (x6 : List Int) (x7 : List Int) (x8 : List Int) : Option (((List Int) × (List Int) × (List Int) × (List Int)) ⊕ Bool) := bind3 (natural_DivMod x5 x6) fun y10 y11 y12 => (bind3 (natural_DivMod x7 x8) fun y14 y15 y16 => ((natural_Compare y10 y14).bind fun y18 => (if (y18 != 0) = true then (some (.inr (decide (y18 > 0)))) else (if ((y11.length : Int) == 0) = true then (rational_greater_k2 x6 x8 y11 y15 true) else (rational_greater_k2 x6 x8 y11 y15 ((y15.length : Int) == 0))))))
noncomputable def rational_greater (p0 : S_api_Rational) (p1 : S_api_Rational) : Option Bool := (loop (fun v : (List Int) × (List Int) × (List Int) × (List Int) => rational_greater_l1 v.1 v.2.1 v.2.2.1 v.2.2.2) (p0.Num, p0.Den, p1.Num, p1.Den)).bind fun x24 => (some x24)
set_option maxRecDepth 100000 in
theorem rational_greater_con (p0 : S_api_Rational) (p1 : S_api_Rational) (r : Bool) (h : rational_greater p0 p1 = some r) : Con Try.prog 52 [.agg [cl 1 Ru32 p0.Num, cl 1 Ru32 p0.Den], .agg [cl 1 Ru32 p1.Num, cl 1 Ru32 p1.Den]] [] (vb r) [] := by
 refine con_of tt_ok1 0 Try.func52 (by kernel_rfl) rfl (by kernel_rfl) (fun base X _ => AW.post ?_)
 unfold rational_greater at h
 refine AW.sg tt_ok1 [(3, .c (.ptr 1 2 0 0)), (2, .c (.ptr 0 2 0 0))] [0, 1] [(1, .box 30 [cl 1 Ru32 p1.Num, cl 1 Ru32 p1.Den]), (0, .box 30 [cl 1 Ru32 p0.Num, cl 1 Ru32 p0.Den])] 3 [] (by kernel_rfl) ?_
 refine AW.block ?_
 obtain ⟨x24, l25, h⟩ := bnd_some h
 refine AW.lp l25 (fun v => ⟨[(2, .c (.ptr 0 2 0 0)), (3, .c (.ptr 1 2 0 0))], [(0, .box 30 [cl 1 Ru32 v.1, cl 1 Ru32 v.2.1]), (1, .box 30 [cl 1 Ru32 v.2.2.1, cl 1 Ru32 v.2.2.2])], 2⟩) (fun t : Bool => (.ret, ⟨[(4, vb t)], [], 0⟩)) (conv_re [(0, 0), (1, 1)] (by kernel_rfl)) (fun _ => tv) ?_ ?_
 ·
  clear l25 h
  intro v o h
  obtain ⟨x5, x6, x7, x8⟩ := v
  replace h : rational_greater_l1 x5 x6 x7 x8 = some o := h
  unfold rational_greater_l1 at h
  refine AW.block ?_
  obtain ⟨y10, y11, y12, e13, h⟩ := bind3_some h
  refine AW.sg tt_ok1 [(6, vl 1 Ru32 y11), (5, vl 1 Ru32 y10)] [] [] 13 [hn, hn, hn, hn, hk (natural_DivMod_con x5 x6 (y10, y11, y12) e13)] (by kernel_rfl) ?_
  obtain ⟨y14, y15, y16, e17, h⟩ := bind3_some h
  refine AW.sg tt_ok1 [(9, vl 1 Ru32 y15), (8, vl 1 Ru32 y14)] [] [] 24 [hn, hn, hn, hn, hk (natural_DivMod_con x7 x8 (y14, y15, y16) e17)] (by kernel_rfl) ?_
  refine AW.seq ?_
  obtain ⟨y18, e19, h⟩ := bnd_some h
  refine AW.sg tt_ok1 [(11, vi64 y18)] [] [] 27 [hn, hn, hk (natural_Compare_con y10 y14 y18 e19)] (by kernel_rfl) ?_
  refine AW.sg tt_ok1 [(34, vb (y18 != 0))] [] [] 29 [] (by kernel_rfl) ?_
  refine AW.co h (by kernel_rfl) (fun c20 h => ?_) (fun c20 h => ?_)
  ·
   refine AW.sg tt_ok1 [(4, vb (decide (y18 > 0)))] [] [] 32 [] (by kernel_rfl) ?_
   refine AW.ret (AW.tr (AW.inBlock_ret ?_))
   exact lpo h rfl (conv_re [] (by kernel_rfl))
  ·
   refine AW.skip (AW.tn ?_)
   refine AW.seq (AW.seq ?_)
   refine AW.join (ι := Bool) (fun v => ⟨[(2, .c (.ptr 0 2 0 0)), (3, .c (.ptr 1 2 0 0)), (6, vl 1 Ru32 y11), (9, vl 1 Ru32 y15), (44, vb v)], [(0, .box 30 [cl 1 Ru32 x5, cl 1 Ru32 x6]), (1, .box 30 [cl 1 Ru32 x7, cl 1 Ru32 x8])], 2⟩) (fun v : Bool => rational_greater_k2 x6 x8 y11 y15 v = some o) (fun x21 h => ?_) ?_
   ·
    unfold rational_greater_k2 at h
    refine AW.tn ?_
    refine AW.co h (by kernel_rfl) (fun c22 h => ?_) (fun c22 h => ?_)
    ·
     refine AW.sg tt_ok1 [(4, vb (decide ((y11.length : Int) > 0)))] [] [] 6 [] (by kernel_rfl) ?_
     refine AW.ret (AW.tr (AW.inBlock_ret ?_))
     exact lpo h rfl (conv_re [] (by kernel_rfl))
    ·
     refine AW.skip (AW.tn ?_)
     refine AW.rg tt_ok1 [] [0, 1] [(1, .box 30 [cl 1 Ru32 x6, cl 1 Ru32 y11]), (0, .box 30 [cl 1 Ru32 x8, cl 1 Ru32 y15])] 12 [] (by kernel_rfl) ?_
     refine AW.inBlock_normal ?_
     exact lpn h (conv_re [(0, 0), (1, 1)] (by kernel_rfl))
   ·
    rcases ifs h with ⟨c23, h⟩ | ⟨c23, h⟩
    ·
     refine AW.rg tt_ok1 [(44, vb true)] [] [] 37 [hn, hn, ht c23] (by kernel_rfl) ?_
     exact jl true h (conv_re [(0, 0), (1, 1)] (by kernel_rfl))
    ·
     refine AW.rg tt_ok1 [(44, vb ((y15.length : Int) == 0))] [] [] 37 [hn, hn, hf c23] (by kernel_rfl) ?_
     exact jl ((y15.length : Int) == 0) h (conv_re [(0, 0), (1, 1)] (by kernel_rfl))
 ·
  show (_ : Exit → St → Prop) (.ret) _
  refine AW.inBlock_ret ?_
  obtain rfl := some_inj h
  exact fn0 (.inr rfl) [] 0 (vb x24) (by kernel_rfl)
/-! recordlink/natural.Sub -/
noncomputable def natural_Sub_k2 (p0 : List Int) (x12 : List Int) (x14 : Int) (x19 : Int) : Option (((List Int) × Int × Int) ⊕ (List Int)) := (some (u64.wrap ((u64.wrap (p0.getD x14.toNat 0)) - x19))).bind fun z20 => (if x14 < (x12.length : Int) then (some (.inl ((x12.set (0 + x14.toNat) (u32.wrap z20)), ishr .u64 z20 63, i64.wrap (x14 + 1)))) else none)
noncomputable def natural_Sub_l1 (p0 : List Int) (p1 : List Int) (x12 : List Int) (x13 : Int) (x14 : Int) : Option (((List Int) × Int × Int) ⊕ (List Int)) := if (decide (x14 < (p0.length : Int))) = true then (if 0 ≤ x14 then (if x14 < (p0.length : Int) then (if (decide (x14 < (p1.length : Int))) = true then (if x14 < (p1.length : Int) then ((some (u64.wrap (x13 + (u64.wrap (p1.getD x14.toNat 0))))).bind fun z25 => (natural_Sub_k2 p0 x12 x14 z25)) else none) else (natural_Sub_k2 p0 x12 x14 x13)) else none) else none) else (some (.inr x12))
noncomputable def natural_Sub (p0 : List Int) (p1 : List Int) : Option ((List Int) × Int) := (natural_both p0 p1).bind fun y1 => (if (y1 != 0) = true then (some (([] : List Int), y1)) else ((natural_Compare p0 p1).bind fun y4 => (if (decide (y4 < 0)) = true then (some (([] : List Int), 2)) else (if 0 ≤ (p0.length : Int) then (if (p0.length : Int) ≤ 1099511627776 then ((loop (fun v : (List Int) × Int × Int => natural_Sub_l1 p0 p1 v.1 v.2.1 v.2.2) ((List.replicate ((p0.length : Int).toNat) (0 : Int)), 0, 0)).bind fun x27 => (bind2 (natural_done x27) fun y28 y29 => (some (y28, y29)))) else none) else none))))
set_option maxRecDepth 100000 in
theorem natural_Sub_con (p0 : List Int) (p1 : List Int) (r : (List Int) × Int) (h : natural_Sub p0 p1 = some r) : Con Try.prog 55 [vl 1 Ru32 p0, vl 1 Ru32 p1] [] (.tup [vl 1 Ru32 r.1, vi64 r.2]) [] := by
 refine con_of tt_ok1 0 Try.func55 (by kernel_rfl) rfl (by kernel_rfl) (fun base X _ => AW.post ?_)
 unfold natural_Sub at h
 refine AW.sg tt_ok1 [] [] [] 2 [] (by kernel_rfl) ?_
 refine AW.seq ?_
 obtain ⟨y1, e2, h⟩ := bnd_some h
 refine AW.sg tt_ok1 [(6, vi64 y1)] [] [] 5 [hn, hn, hk (natural_both_con p0 p1 y1 e2)] (by kernel_rfl) ?_
 refine AW.sg tt_ok1 [(17, vb (y1 != 0))] [] [] 7 [] (by kernel_rfl) ?_
 refine AW.co h (by kernel_rfl) (fun c3 h => ?_) (fun c3 h => ?_)
 ·
  refine AW.sg tt_ok1 [(5, vi64 y1), (4, .c (.t (.v (.slice none 0 0))))] [] [] 10 [] (by kernel_rfl) ?_
  refine AW.ret (AW.tr ?_)
  obtain rfl := some_inj h
  exact fnR (.inr rfl) [] 0 (.tup [vl 1 Ru32 ([] : List Int), vi64 y1]) (conv_tms [(4, vl 1 Ru32 ([] : List Int))] ⟨⟨.c (.t (.v (.slice none 0 0))), by kernel_rfl, ALe.c (CLe.nil rfl)⟩, tv⟩) (by kernel_rfl)
 ·
  refine AW.skip (AW.tn (AW.seq ?_))
  obtain ⟨y4, e5, h⟩ := bnd_some h
  refine AW.sg tt_ok1 [(22, vb (decide (y4 < 0)))] [] [] 10 [hn, hn, hk (natural_Compare_con p0 p1 y4 e5)] (by kernel_rfl) ?_
  refine AW.co h (by kernel_rfl) (fun c6 h => ?_) (fun c6 h => ?_)
  ·
   refine AW.sg tt_ok1 [(5, vi64 2), (4, .c (.t (.v (.slice none 0 0))))] [] [] 12 [] (by kernel_rfl) ?_
   refine AW.ret (AW.tr ?_)
   obtain rfl := some_inj h
   exact fnR (.inr rfl) [] 0 (.tup [vl 1 Ru32 ([] : List Int), vi64 2]) (conv_tms [(4, vl 1 Ru32 ([] : List Int))] ⟨⟨.c (.t (.v (.slice none 0 0))), by kernel_rfl, ALe.c (CLe.nil rfl)⟩, tv⟩) (by kernel_rfl)
  ·
   refine AW.skip (AW.tn ?_)
   obtain ⟨g7, g8, h⟩ := ifd h
   refine AW.sg tt_ok1 [(7, .c (.ref 12 1 0 ((List.replicate ((p0.length : Int).toNat) (0 : Int)).length)))] [12] [(12, .row 52 false 1 (List.replicate ((p0.length : Int).toNat) (0 : Int)).length (Ru32 (List.replicate ((p0.length : Int).toNat) (0 : Int))))] 14 [hn, hn, hmk 0 Eu32 1 4 [.int .u32 0] rfl rfl (p0.length : Int) (p0.length : Int) g7 (Int.le_refl _) g8 (by decide)] (by kernel_rfl) ?_
   refine AW.sg tt_ok1 [(8, vu64 0)] [] [] 15 [] (by kernel_rfl) ?_
   refine AW.seq ?_
   refine AW.sg tt_ok1 [(28, vi64 0), (27, vi64 (p0.length : Int)), (26, vl 1 Ru32 p0)] [] [] 18 [] (by kernel_rfl) ?_
   refine AW.block ?_
   obtain ⟨x27, l31, h⟩ := bnd_some h
   refine AW.lp l31 (fun v => ⟨[(1, vl 1 Ru32 p1), (7, .c (.ref 0 1 0 v.1.length)), (8, vu64 v.2.1), (26, vl 1 Ru32 p0), (27, vi64 (p0.length : Int)), (28, vi64 v.2.2)], [(0, .row 52 false 1 v.1.length (Ru32 v.1))], 1⟩) (fun t : List Int => (.exit 0, ⟨[(7, .c (.ref 0 1 0 t.length))], [(0, .row 52 false 1 t.length (Ru32 t))], 1⟩)) (conv_re [(0, 12)] (by kernel_rfl)) (fun _ => tv) ?_ ?_
   ·
    clear l31 h
    intro v o h
    obtain ⟨x12, x13, x14⟩ := v
    replace h : natural_Sub_l1 p0 p1 x12 x13 x14 = some o := h
    unfold natural_Sub_l1 at h
    refine AW.sg tt_ok1 [(29, vb (decide (x14 < (p0.length : Int))))] [] [] 2 [] (by kernel_rfl) ?_
    refine AW.seq ?_
    refine AW.co h (by kernel_rfl) (fun c16 h => ?_) (fun c16 h => ?_)
    ·
     refine AW.skip (AW.tn ?_)
     refine AW.seq (AW.block ?_)
     obtain ⟨g17, g18, h⟩ := ifd h
     refine AW.sg tt_ok1 [(10, vu32 (p0.getD x14.toNat 0)), (9, vi64 x14)] [] [] 7 [hn, hq g17 g18] (by kernel_rfl) ?_
     refine AW.sg tt_ok1 [(11, vu64 x13)] [] [] 9 [] (by kernel_rfl) ?_
     refine AW.seq ?_
     refine AW.join (ι := Int) (fun v => ⟨[(1, vl 1 Ru32 p1), (7, .c (.ref 0 1 0 x12.length)), (9, vi64 x14), (10, vu32 (p0.getD x14.toNat 0)), (11, vu64 v), (26, vl 1 Ru32 p0), (27, vi64 (p0.length : Int)), (28, vi64 x14)], [(0, .row 52 false 1 x12.length (Ru32 x12))], 1⟩) (fun v : Int => natural_Sub_k2 p0 x12 x14 v = some o) (fun x19 h => ?_) ?_
     ·
      unfold natural_Sub_k2 at h
      refine AW.tn ?_
      obtain ⟨z20, n21, h⟩ := bnd_some h
      replace n21 := some_inj n21
      refine AW.sg tt_ok1 [(12, vu64 z20)] [] [] 6 [] (by subst n21; kernel_rfl) ?_
      obtain ⟨g22, h⟩ := ifc h
      refine AW.rg tt_ok1 [(8, vu64 (ishr .u64 z20 63))] [0] [(0, .row 52 false 1 x12.length (Ru32 (x12.set (0 + x14.toNat) (u32.wrap z20))))] 15 [hn, hn, hn, hn, hn, ho (p := 0 ≤ (63 : Int)) (by decide), hq g17 g22, hset 0 Eu32 x12 (0 + x14.toNat) (u32.wrap z20) (n := x12.length) (by have h1 : 0 ≤ x14 := g17; have h2 : x14 < (x12.length : Int) := g22; omega) rfl] (by kernel_rfl) ?_
      refine AW.inBlock_normal (AW.tn ?_)
      refine AW.rg tt_ok1 [(28, vi64 (i64.wrap (x14 + 1)))] [] [] 17 [] (by kernel_rfl) ?_
      exact lpn h (Conv.trans (conv_tms [(7, .c (.ref 0 1 0 ((x12.set (0 + x14.toNat) (u32.wrap z20)).length)))] ⟨⟨.c (.ref 0 1 0 x12.length), by kernel_rfl, ALe.len (by simp only [List.length_set])⟩, tv⟩) (Conv.trans (conv_rowN 0 52 false 1 x12.length ((x12.set (0 + x14.toNat) (u32.wrap z20)).length) (Ru32 (x12.set (0 + x14.toNat) (u32.wrap z20))) (by kernel_rfl) (by simp only [List.length_set])) (conv_re [(0, 0)] (by kernel_rfl))))
     ·
      refine AW.sg tt_ok1 [(37, vb (decide (x14 < (p1.length : Int))))] [] [] 13 [] (by kernel_rfl) ?_
      refine AW.co h (by kernel_rfl) (fun c23 h => ?_) (fun c23 h => ?_)
      ·
       obtain ⟨g24, h⟩ := ifc h
       obtain ⟨z25, n26, h⟩ := bnd_some h
       replace n26 := some_inj n26
       refine AW.rg tt_ok1 [(11, vu64 z25)] [] [] 21 [hn, hn, hn, hq g17 g24] (by subst n26; kernel_rfl) ?_
       exact jl z25 h (conv_re [(0, 0)] (by kernel_rfl))
      ·
       refine AW.skip ?_
       exact jl x13 h (conv_re [(0, 0)] (by kernel_rfl))
    ·
     refine AW.exit (AW.thenQ_exit ?_)
     exact lpo h rfl (conv_re [(0, 0)] (by kernel_rfl))
   ·
    show (_ : Exit → St → Prop) (.exit 0) _
    refine AW.inBlock_hit (AW.tn ?_)
    obtain ⟨y28, y29, e30, h⟩ := bind2_some h
    refine AW.sg tt_ok1 [(5, vi64 y29), (4, vl 1 Ru32 y28)] [0] [] 6 [hn, hg [] [0] false 0 (q := (0 + x27.length ≤ x27.length) ∧ (True)) ⟨le0, tv⟩ (a0 := [vl 1 Ru32 x27]) (natural_done_con x27 (y28, y29) e30) ⟨ArgLe.refl _, tv⟩ (fun h => by cases h)] (by kernel_rfl) ?_
    refine AW.ret ?_
    obtain rfl := some_inj h
    exact fn0 (.inr rfl) [] 0 (.tup [vl 1 Ru32 y28, vi64 y29]) (by kernel_rfl)
/-! (recordlink/rational.number).with -/
noncomputable def rational_number_with_natural_Sub (p0 : S_rational_number) (p1 : S_rational_number) : Option S_rational_number := if (p0.e != 0) = true then (some p0) else (if (p1.e != 0) = true then (some p1) else (bind2 (natural_Sub p0.n p1.n) fun y3 y4 => (some (⟨y3, y4⟩ : S_rational_number))))
set_option maxRecDepth 100000 in
theorem rational_number_with_natural_Sub_con (p0 : S_rational_number) (p1 : S_rational_number) (r : S_rational_number) (h : rational_number_with_natural_Sub p0 p1 = some r) : Con Try.prog 54 [.agg [cl 1 Ru32 p0.n, ci64 p0.e], .agg [cl 1 Ru32 p1.n, ci64 p1.e], .c (.t (.v (.func (.func 55) #[] #[])))] [] (.agg [cl 1 Ru32 r.n, ci64 r.e]) [] := by
 refine con_of tt_ok1 0 Try.func54 (by kernel_rfl) rfl (by kernel_rfl) (fun base X _ => AW.post ?_)
 unfold rational_number_with_natural_Sub at h
 refine AW.sg tt_ok1 [(6, .c (.ptr 2 2 0 0)), (4, .c (.ptr 1 2 0 0)), (3, .c (.ptr 0 2 0 0))] [0, 1, 2] [(2, .box 62 [.t (.v (.slice none 0 0)), ci64 0]), (1, .box 62 [cl 1 Ru32 p1.n, ci64 p1.e]), (0, .box 62 [cl 1 Ru32 p0.n, ci64 p0.e])] 3 [] (by kernel_rfl) ?_
 refine AW.seq (AW.block ?_)
 refine AW.sg tt_ok1 [(9, vb (p0.e != 0))] [] [] 7 [] (by kernel_rfl) ?_
 refine AW.co h (by kernel_rfl) (fun c1 h => ?_) (fun c1 h => ?_)
 ·
  refine AW.sg tt_ok1 [] [2] [(2, .box 62 [cl 1 Ru32 p0.n, ci64 p0.e])] 9 [] (by kernel_rfl) ?_
  refine AW.ret (AW.inBlock_ret (AW.tr ?_))
  obtain rfl := some_inj h
  exact fn0 (.inr rfl) [] 0 (.agg [cl 1 Ru32 p0.n, ci64 p0.e]) (by kernel_rfl)
 ·
  refine AW.sg tt_ok1 [(14, vb (p1.e != 0))] [] [] 11 [] (by kernel_rfl) ?_
  refine AW.co h (by kernel_rfl) (fun c2 h => ?_) (fun c2 h => ?_)
  ·
   refine AW.sg tt_ok1 [] [2] [(2, .box 62 [cl 1 Ru32 p1.n, ci64 p1.e])] 13 [] (by kernel_rfl) ?_
   refine AW.ret (AW.inBlock_ret (AW.tr ?_))
   obtain rfl := some_inj h
   exact fn0 (.inr rfl) [] 0 (.agg [cl 1 Ru32 p1.n, ci64 p1.e]) (by kernel_rfl)
  ·
   refine AW.skip (AW.inBlock_normal (AW.tn ?_))
   obtain ⟨y3, y4, e5, h⟩ := bind2_some h
   refine AW.sg tt_ok1 [(8, vi64 y4), (7, vl 1 Ru32 y3)] [] [] 21 [hn, hn, hn, hn, hn, hk (natural_Sub_con p0.n p1.n (y3, y4) e5)] (by kernel_rfl) ?_
   refine AW.sg tt_ok1 [] [2] [(2, .box 62 [cl 1 Ru32 y3, ci64 y4])] 25 [] (by kernel_rfl) ?_
   refine AW.ret ?_
   obtain rfl := some_inj h
   exact fn0 (.inr rfl) [] 0 (.agg [cl 1 Ru32 y3, ci64 y4]) (by kernel_rfl)
/-! recordlink/rational.Sub$1 -/
noncomputable def rational_Sub_f1 (p0 : S_rational_number) (p1 : S_rational_number) : Option S_rational_number := (rational_number_with_natural_Sub p0 p1).bind fun y1 => (some y1)
set_option maxRecDepth 100000 in
theorem rational_Sub_f1_con (p0 : S_rational_number) (p1 : S_rational_number) (r : S_rational_number) (h : rational_Sub_f1 p0 p1 = some r) : Con Try.prog 53 [.agg [cl 1 Ru32 p0.n, ci64 p0.e], .agg [cl 1 Ru32 p1.n, ci64 p1.e]] [] (.agg [cl 1 Ru32 r.n, ci64 r.e]) [] := by
 refine con_of tt_ok1 0 Try.func53 (by kernel_rfl) rfl (by kernel_rfl) (fun base X _ => AW.post ?_)
 unfold rational_Sub_f1 at h
 refine AW.sg tt_ok1 [(4, .c (.ptr 2 2 0 0)), (3, .c (.ptr 1 2 0 0)), (2, .c (.ptr 0 2 0 0))] [0, 1, 2] [(2, .box 62 [.t (.v (.slice none 0 0)), ci64 0]), (1, .box 62 [cl 1 Ru32 p1.n, ci64 p1.e]), (0, .box 62 [cl 1 Ru32 p0.n, ci64 p0.e])] 3 [] (by kernel_rfl) ?_
 obtain ⟨y1, e2, h⟩ := bnd_some h
 refine AW.sg tt_ok1 [] [2] [(2, .box 62 [cl 1 Ru32 y1.n, ci64 y1.e])] 6 [hn, hn, hk (rational_number_with_natural_Sub_con p0 p1 y1 e2)] (by kernel_rfl) ?_
 refine AW.ret ?_
 obtain rfl := some_inj h
 exact fn0 (.inr rfl) [] 0 (.agg [cl 1 Ru32 y1.n, ci64 y1.e]) (by kernel_rfl)
/-! recordlink/rational.joined -/
noncomputable def rational_joined_rational_Sub_f1 (p0 : S_api_Rational) (p1 : S_api_Rational) : Option (S_api_Rational × Int) := bind2 (rational_cross p0 p1) fun y1 y2 => ((rational_Sub_f1 y1 y2).bind fun y4 => ((rational_of p0.Den).bind fun y6 => ((rational_of p1.Den).bind fun y8 => ((rational_number_times y6 y8).bind fun y10 => (bind2 (rational_reduced y4 y10) fun y12 y13 => (some (y12, y13)))))))
set_option maxRecDepth 100000 in
theorem rational_joined_rational_Sub_f1_con (p0 : S_api_Rational) (p1 : S_api_Rational) (r : S_api_Rational × Int) (h : rational_joined_rational_Sub_f1 p0 p1 = some r) : Con Try.prog 33 [.agg [cl 1 Ru32 p0.Num, cl 1 Ru32 p0.Den], .agg [cl 1 Ru32 p1.Num, cl 1 Ru32 p1.Den], .c (.t (.v (.func (.func 53) #[] #[])))] [] (.tup [.agg [cl 1 Ru32 r.1.Num, cl 1 Ru32 r.1.Den], vi64 r.2]) [] := by
 refine con_of tt_ok1 0 Try.func33 (by kernel_rfl) rfl (by kernel_rfl) (fun base X _ => AW.post ?_)
 unfold rational_joined_rational_Sub_f1 at h
 refine AW.sg tt_ok1 [(6, .c (.ptr 2 2 0 0)), (4, .c (.ptr 1 2 0 0)), (3, .c (.ptr 0 2 0 0))] [0, 1, 2] [(2, .box 30 [.t (.v (.slice none 0 0)), .t (.v (.slice none 0 0))]), (1, .box 30 [cl 1 Ru32 p1.Num, cl 1 Ru32 p1.Den]), (0, .box 30 [cl 1 Ru32 p0.Num, cl 1 Ru32 p0.Den])] 4 [] (by kernel_rfl) ?_
 obtain ⟨y1, y2, e3, h⟩ := bind2_some h
 refine AW.sg tt_ok1 [(9, .c (.ptr 10 2 0 0)), (8, .c (.ptr 9 2 0 0))] [9, 10] [(10, .box 62 [cl 1 Ru32 y2.n, ci64 y2.e]), (9, .box 62 [cl 1 Ru32 y1.n, ci64 y1.e])] 13 [hn, hn, hk (rational_cross_con p0 p1 (y1, y2) e3)] (by kernel_rfl) ?_
 obtain ⟨y4, e5, h⟩ := bnd_some h
 obtain ⟨y6, e7, h⟩ := bnd_some h
 obtain ⟨y8, e9, h⟩ := bnd_some h
 obtain ⟨y10, e11, h⟩ := bnd_some h
 obtain ⟨y12, y13, e14, h⟩ := bind2_some h
 refine AW.sd tt_ok1 mo1 [[], [], [], [], [], [], [], [], [], [], [], [], [], [], [2]] [(7, vi64 y13)] [(2, .box 30 [cl 1 Ru32 y12.Num, cl 1 Ru32 y12.Den])] 24 [hn, hn, hn, hk (rational_Sub_f1_con y1 y2 y4 e5), hn, hn, hk (rational_of_con p0.Den y6 e7), hn, hn, hk (rational_of_con p1.Den y8 e9), hk (rational_number_times_con y6 y8 y10 e11), hk (rational_reduced_con y4 y10 (y12, y13) e14)] (by kernel_rfl) ?_
 refine AW.ret ?_
 obtain rfl := some_inj h
 exact fn0 (.inr rfl) [] 0 (.tup [.agg [cl 1 Ru32 y12.Num, cl 1 Ru32 y12.Den], vi64 y13]) (by kernel_rfl)
/-! recordlink/rational.Sub -/
noncomputable def rational_Sub (p0 : S_api_Rational) (p1 : S_api_Rational) : Option (S_api_Rational × Int) := (rational_check p0 p1).bind fun y1 => (if (y1 != 0) = true then (some ((⟨([] : List Int), ([] : List Int)⟩ : S_api_Rational), y1)) else ((rational_greater p1 p0).bind fun y4 => (if y4 = true then (some ((⟨([] : List Int), ([] : List Int)⟩ : S_api_Rational), 2)) else (bind2 (rational_joined_rational_Sub_f1 p0 p1) fun y7 y8 => (some (y7, y8))))))
set_option maxRecDepth 100000 in
theorem rational_Sub_con (p0 : S_api_Rational) (p1 : S_api_Rational) (r : S_api_Rational × Int) (h : rational_Sub p0 p1 = some r) : Con Try.prog 25 [.agg [cl 1 Ru32 p0.Num, cl 1 Ru32 p0.Den], .agg [cl 1 Ru32 p1.Num, cl 1 Ru32 p1.Den]] [] (.tup [.agg [cl 1 Ru32 r.1.Num, cl 1 Ru32 r.1.Den], vi64 r.2]) [] := by
 refine con_of tt_ok1 0 Try.func25 (by kernel_rfl) rfl (by kernel_rfl) (fun base X _ => AW.post ?_)
 unfold rational_Sub at h
 refine AW.sg tt_ok1 [(4, .c (.ptr 2 2 0 0)), (3, .c (.ptr 1 2 0 0)), (2, .c (.ptr 0 2 0 0))] [0, 1, 2] [(2, .box 30 [.t (.v (.slice none 0 0)), .t (.v (.slice none 0 0))]), (1, .box 30 [cl 1 Ru32 p1.Num, cl 1 Ru32 p1.Den]), (0, .box 30 [cl 1 Ru32 p0.Num, cl 1 Ru32 p0.Den])] 4 [] (by kernel_rfl) ?_
 refine AW.seq ?_
 obtain ⟨y1, e2, h⟩ := bnd_some h
 refine AW.sg tt_ok1 [(6, vi64 y1)] [] [] 7 [hn, hn, hk (rational_check_con p0 p1 y1 e2)] (by kernel_rfl) ?_
 refine AW.sg tt_ok1 [(11, vb (y1 != 0))] [] [] 9 [] (by kernel_rfl) ?_
 refine AW.co h (by kernel_rfl) (fun c3 h => ?_) (fun c3 h => ?_)
 ·
  refine AW.sg tt_ok1 [(5, vi64 y1)] [2] [(2, .box 30 [.t (.v (.slice none 0 0)), .t (.v (.slice none 0 0))])] 13 [] (by kernel_rfl) ?_
  refine AW.ret (AW.tr ?_)
  obtain rfl := some_inj h
  exact fnR (.inr rfl) [] 0 (.tup [.agg [cl 1 Ru32 ([] : List Int), cl 1 Ru32 ([] : List Int)], vi64 y1]) (conv_box (id := 2) (ty := 30) (cs := [.t (.v (.slice none 0 0)), .t (.v (.slice none 0 0))]) (ds := [cl 1 Ru32 ([] : List Int), cl 1 Ru32 ([] : List Int)]) (by kernel_rfl) ⟨CLe.nil rfl, CLe.nil rfl, tv⟩) (by kernel_rfl)
 ·
  refine AW.skip (AW.tn (AW.seq ?_))
  obtain ⟨y4, e5, h⟩ := bnd_some h
  refine AW.sg tt_ok1 [(16, vb y4)] [] [] 11 [hn, hn, hk (rational_greater_con p1 p0 y4 e5)] (by kernel_rfl) ?_
  refine AW.co h (by kernel_rfl) (fun c6 h => ?_) (fun c6 h => ?_)
  ·
   refine AW.sg tt_ok1 [(5, vi64 2)] [2] [(2, .box 30 [.t (.v (.slice none 0 0)), .t (.v (.slice none 0 0))])] 14 [] (by kernel_rfl) ?_
   refine AW.ret (AW.tr ?_)
   obtain rfl := some_inj h
   exact fnR (.inr rfl) [] 0 (.tup [.agg [cl 1 Ru32 ([] : List Int), cl 1 Ru32 ([] : List Int)], vi64 2]) (conv_box (id := 2) (ty := 30) (cs := [.t (.v (.slice none 0 0)), .t (.v (.slice none 0 0))]) (ds := [cl 1 Ru32 ([] : List Int), cl 1 Ru32 ([] : List Int)]) (by kernel_rfl) ⟨CLe.nil rfl, CLe.nil rfl, tv⟩) (by kernel_rfl)
  ·
   refine AW.skip (AW.tn ?_)
   obtain ⟨y7, y8, e9, h⟩ := bind2_some h
   refine AW.sg tt_ok1 [(5, vi64 y8)] [2] [(2, .box 30 [cl 1 Ru32 y7.Num, cl 1 Ru32 y7.Den])] 17 [hn, hn, hk (rational_joined_rational_Sub_f1_con p0 p1 (y7, y8) e9)] (by kernel_rfl) ?_
   refine AW.ret ?_
   obtain rfl := some_inj h
   exact fn0 (.inr rfl) [] 0 (.tup [.agg [cl 1 Ru32 y7.Num, cl 1 Ru32 y7.Den], vi64 y8]) (by kernel_rfl)
/-! recordlink/rational.Div -/
noncomputable def rational_Div (p0 : S_api_Rational) (p1 : S_api_Rational) : Option (S_api_Rational × Int) := (rational_check p0 p1).bind fun y1 => (if (y1 != 0) = true then (some ((⟨([] : List Int), ([] : List Int)⟩ : S_api_Rational), y1)) else (if (((p1.Num.length : Nat) : Int) == 0) = true then (some ((⟨([] : List Int), ([] : List Int)⟩ : S_api_Rational), 9)) else ((rational_of p0.Num).bind fun y5 => ((rational_of p1.Den).bind fun y7 => ((rational_number_times y5 y7).bind fun y9 => ((rational_of p0.Den).bind fun y11 => ((rational_of p1.Num).bind fun y13 => ((rational_number_times y11 y13).bind fun y15 => (bind2 (rational_reduced y9 y15) fun y17 y18 => (some (y17, y18)))))))))))
set_option maxRecDepth 100000 in
theorem rational_Div_con (p0 : S_api_Rational) (p1 : S_api_Rational) (r : S_api_Rational × Int) (h : rational_Div p0 p1 = some r) : Con Try.prog 26 [.agg [cl 1 Ru32 p0.Num, cl 1 Ru32 p0.Den], .agg [cl 1 Ru32 p1.Num, cl 1 Ru32 p1.Den]] [] (.tup [.agg [cl 1 Ru32 r.1.Num, cl 1 Ru32 r.1.Den], vi64 r.2]) [] := by
 refine con_of tt_ok1 0 Try.func26 (by kernel_rfl) rfl (by kernel_rfl) (fun base X _ => AW.post ?_)
 unfold rational_Div at h
 refine AW.sg tt_ok1 [(4, .c (.ptr 2 2 0 0)), (3, .c (.ptr 1 2 0 0)), (2, .c (.ptr 0 2 0 0))] [0, 1, 2] [(2, .box 30 [.t (.v (.slice none 0 0)), .t (.v (.slice none 0 0))]), (1, .box 30 [cl 1 Ru32 p1.Num, cl 1 Ru32 p1.Den]), (0, .box 30 [cl 1 Ru32 p0.Num, cl 1 Ru32 p0.Den])] 4 [] (by kernel_rfl) ?_
 refine AW.seq ?_
 obtain ⟨y1, e2, h⟩ := bnd_some h
 refine AW.sg tt_ok1 [(6, vi64 y1)] [] [] 7 [hn, hn, hk (rational_check_con p0 p1 y1 e2)] (by kernel_rfl) ?_
 refine AW.sg tt_ok1 [(11, vb (y1 != 0))] [] [] 9 [] (by kernel_rfl) ?_
 refine AW.co h (by kernel_rfl) (fun c3 h => ?_) (fun c3 h => ?_)
 ·
  refine AW.sg tt_ok1 [(5, vi64 y1)] [2] [(2, .box 30 [.t (.v (.slice none 0 0)), .t (.v (.slice none 0 0))])] 13 [] (by kernel_rfl) ?_
  refine AW.ret (AW.tr ?_)
  obtain rfl := some_inj h
  exact fnR (.inr rfl) [] 0 (.tup [.agg [cl 1 Ru32 ([] : List Int), cl 1 Ru32 ([] : List Int)], vi64 y1]) (conv_box (id := 2) (ty := 30) (cs := [.t (.v (.slice none 0 0)), .t (.v (.slice none 0 0))]) (ds := [cl 1 Ru32 ([] : List Int), cl 1 Ru32 ([] : List Int)]) (by kernel_rfl) ⟨CLe.nil rfl, CLe.nil rfl, tv⟩) (by kernel_rfl)
 ·
  refine AW.skip (AW.tn (AW.seq ?_))
  refine AW.sg tt_ok1 [(17, vb (((p1.Num.length : Nat) : Int) == 0))] [] [] 13 [] (by kernel_rfl) ?_
  refine AW.co h (by kernel_rfl) (fun c4 h => ?_) (fun c4 h => ?_)
  ·
   refine AW.sg tt_ok1 [(5, vi64 9)] [2] [(2, .box 30 [.t (.v (.slice none 0 0)), .t (.v (.slice none 0 0))])] 16 [] (by kernel_rfl) ?_
   refine AW.ret (AW.tr ?_)
   obtain rfl := some_inj h
   exact fnR (.inr rfl) [] 0 (.tup [.agg [cl 1 Ru32 ([] : List Int), cl 1 Ru32 ([] : List Int)], vi64 9]) (conv_box (id := 2) (ty := 30) (cs := [.t (.v (.slice none 0 0)), .t (.v (.slice none 0 0))]) (ds := [cl 1 Ru32 ([] : List Int), cl 1 Ru32 ([] : List Int)]) (by kernel_rfl) ⟨CLe.nil rfl, CLe.nil rfl, tv⟩) (by kernel_rfl)
  ·
   refine AW.skip (AW.tn ?_)
   obtain ⟨y5, e6, h⟩ := bnd_some h
   obtain ⟨y7, e8, h⟩ := bnd_some h
   obtain ⟨y9, e10, h⟩ := bnd_some h
   obtain ⟨y11, e12, h⟩ := bnd_some h
   obtain ⟨y13, e14, h⟩ := bnd_some h
   obtain ⟨y15, e16, h⟩ := bnd_some h
   obtain ⟨y17, y18, e19, h⟩ := bind2_some h
   refine AW.sd tt_ok1 mo1 [[], [], [], [], [], [], [], [], [], [], [], [], [], [], [], [], [], [2]] [(5, vi64 y18)] [(2, .box 30 [cl 1 Ru32 y17.Num, cl 1 Ru32 y17.Den])] 25 [hn, hn, hk (rational_of_con p0.Num y5 e6), hn, hn, hk (rational_of_con p1.Den y7 e8), hk (rational_number_times_con y5 y7 y9 e10), hn, hn, hk (rational_of_con p0.Den y11 e12), hn, hn, hk (rational_of_con p1.Num y13 e14), hk (rational_number_times_con y11 y13 y15 e16), hk (rational_reduced_con y9 y15 (y17, y18) e19)] (by kernel_rfl) ?_
   refine AW.ret ?_
   obtain rfl := some_inj h
   exact fn0 (.inr rfl) [] 0 (.tup [.agg [cl 1 Ru32 y17.Num, cl 1 Ru32 y17.Den], vi64 y18]) (by kernel_rfl)
def Ea2i64 (x : List Int) : List T := [.v (.int .i64 (x.getD 0 0)), .v (.int .i64 (x.getD 1 0))]
def Ra2i64 (xs : List (List Int)) : Nat → Nat → T := rowL (List.replicate 2 (0 : Int)) Ea2i64 xs
theorem Va2i64 : ∀ x, allV (Ea2i64 x) := fun _ => ⟨tv, tv, tv⟩
def ES_api_Rational (x : S_api_Rational) : List T := [.tree x.Num.length 1 (Ru32 x.Num), .tree x.Den.length 1 (Ru32 x.Den)]
def RS_api_Rational (xs : List S_api_Rational) : Nat → Nat → T := rowL dS_api_Rational ES_api_Rational xs
/-! recordlink/recordlinkref11.Valid -/
noncomputable def rl_ref11_Valid_k1 (p0 : S_api_Rational) (x1 : Bool) : Option Bool := if x1 = true then (some false) else (bind2 (rl_ref10_GCD p0.Num p0.Den) fun y3 y4 => ((rl_ref10_Same y3 ([1] : List Int)).bind fun y6 => (some y6)))
noncomputable def rl_ref11_Valid (p0 : S_api_Rational) : Option Bool := (rl_ref10_Valid p0.Num).bind fun y8 => (if (!y8) = true then (rl_ref11_Valid_k1 p0 true) else ((rl_ref10_Valid p0.Den).bind fun y11 => (if (!y11) = true then (rl_ref11_Valid_k1 p0 true) else (rl_ref11_Valid_k1 p0 (((p0.Den.length : Nat) : Int) == 0)))))
set_option maxRecDepth 100000 in
theorem rl_ref11_Valid_con (p0 : S_api_Rational) (r : Bool) (h : rl_ref11_Valid p0 = some r) : Con Try.prog 30 [.agg [cl 1 Ru32 p0.Num, cl 1 Ru32 p0.Den]] [] (vb r) [] := by
 refine con_of tt_ok1 0 Try.func30 (by kernel_rfl) rfl (by kernel_rfl) (fun base X _ => AW.post ?_)
 unfold rl_ref11_Valid at h
 refine AW.sg tt_ok1 [(1, .c (.ptr 0 2 0 0))] [0] [(0, .box 30 [cl 1 Ru32 p0.Num, cl 1 Ru32 p0.Den])] 2 [] (by kernel_rfl) ?_
 refine AW.seq (AW.seq ?_)
 refine AW.join (ι := Bool) (fun v => ⟨[(1, .c (.ptr 0 2 0 0)), (20, vb v)], [(0, .box 30 [cl 1 Ru32 p0.Num, cl 1 Ru32 p0.Den])], 1⟩) (fun v : Bool => rl_ref11_Valid_k1 p0 v = some r) (fun x1 h => ?_) ?_
 ·
  unfold rl_ref11_Valid_k1 at h
  refine AW.tn ?_
  refine AW.co h (by kernel_rfl) (fun c2 h => ?_) (fun c2 h => ?_)
  ·
   refine AW.sg tt_ok1 [(2, vb false)] [] [] 2 [] (by kernel_rfl) ?_
   refine AW.ret (AW.tr ?_)
   obtain rfl := some_inj h
   exact fn0 (.inr rfl) [] 0 (vb false) (by kernel_rfl)
  ·
   refine AW.skip (AW.tn ?_)
   obtain ⟨y3, y4, e5, h⟩ := bind2_some h
   refine AW.sg tt_ok1 [(3, vl 1 Ru32 y3)] [] [] 10 [hn, hn, hn, hn, hk (rl_ref10_GCD_con p0.Num p0.Den (y3, y4) e5)] (by kernel_rfl) ?_
   obtain ⟨y6, e7, h⟩ := bnd_some h
   refine AW.sg tt_ok1 [(2, vb y6)] [11] [] 13 [hn, hlit 0 Eu32 1 (fun _ => rfl) ([1] : List Int), hg [] [] true 0 (q := (True) ∧ (0 + ([1] : List Int).length ≤ ([1] : List Int).length) ∧ (True)) ⟨tv, le0, tv⟩ (a0 := [vl 1 Ru32 y3, vl 1 Ru32 ([1] : List Int)]) (rl_ref10_Same_con y3 ([1] : List Int) y6 e7) ⟨ArgLe.refl _, ArgLe.refl _, tv⟩ (fun _ => tv)] (by kernel_rfl) ?_
   refine AW.ret ?_
   obtain rfl := some_inj h
   exact fn0 (.inr rfl) [] 0 (vb y6) (by kernel_rfl)
 ·
  obtain ⟨y8, e9, h⟩ := bnd_some h
  rcases ifs h with ⟨c10, h⟩ | ⟨c10, h⟩
  ·
   refine AW.rg tt_ok1 [(20, vb true)] [] [] 17 [hn, hn, hk (rl_ref10_Valid_con p0.Num y8 e9), ht c10] (by kernel_rfl) ?_
   exact jl true h (conv_re [(0, 0)] (by kernel_rfl))
  ·
   obtain ⟨y11, e12, h⟩ := bnd_some h
   rcases ifs h with ⟨c13, h⟩ | ⟨c13, h⟩
   ·
    refine AW.rg tt_ok1 [(20, vb true)] [] [] 16 [hn, hn, hk (rl_ref10_Valid_con p0.Num y8 e9), hf c10, hn, hn, hn, hk (rl_ref10_Valid_con p0.Den y11 e12), ht c13] (by kernel_rfl) ?_
    exact jl true h (conv_re [(0, 0)] (by kernel_rfl))
   ·
    refine AW.rg tt_ok1 [(20, vb (((p0.Den.length : Nat) : Int) == 0))] [] [] 16 [hn, hn, hk (rl_ref10_Valid_con p0.Num y8 e9), hf c10, hn, hn, hn, hk (rl_ref10_Valid_con p0.Den y11 e12), hf c13] (by kernel_rfl) ?_
    exact jl (((p0.Den.length : Nat) : Int) == 0) h (conv_re [(0, 0)] (by kernel_rfl))
/-! recordlink/recordlinkref11.both -/
noncomputable def rl_ref11_both_k1 (x1 : Bool) : Option Bool := some x1
noncomputable def rl_ref11_both (p0 : S_api_Rational) (p1 : S_api_Rational) : Option Bool := (rl_ref11_Valid p0).bind fun y2 => (if y2 = true then ((rl_ref11_Valid p1).bind fun y5 => (rl_ref11_both_k1 y5)) else (rl_ref11_both_k1 false))
set_option maxRecDepth 100000 in
theorem rl_ref11_both_con (p0 : S_api_Rational) (p1 : S_api_Rational) (r : Bool) (h : rl_ref11_both p0 p1 = some r) : Con Try.prog 80 [.agg [cl 1 Ru32 p0.Num, cl 1 Ru32 p0.Den], .agg [cl 1 Ru32 p1.Num, cl 1 Ru32 p1.Den]] [] (vb r) [] := by
 refine con_of tt_ok1 0 Try.func80 (by kernel_rfl) rfl (by kernel_rfl) (fun base X _ => AW.post ?_)
 unfold rl_ref11_both at h
 refine AW.sg tt_ok1 [(3, .c (.ptr 1 2 0 0)), (2, .c (.ptr 0 2 0 0))] [0, 1] [(1, .box 30 [cl 1 Ru32 p1.Num, cl 1 Ru32 p1.Den]), (0, .box 30 [cl 1 Ru32 p0.Num, cl 1 Ru32 p0.Den])] 3 [] (by kernel_rfl) ?_
 refine AW.seq ?_
 refine AW.join (ι := Bool) (fun v => ⟨[(4, vb v)], [], 0⟩) (fun v : Bool => rl_ref11_both_k1 v = some r) (fun x1 h => ?_) ?_
 ·
  unfold rl_ref11_both_k1 at h
  refine AW.tn (AW.ret ?_)
  obtain rfl := some_inj h
  exact fn0 (.inr rfl) [] 0 (vb x1) (by kernel_rfl)
 ·
  obtain ⟨y2, e3, h⟩ := bnd_some h
  rcases ifs h with ⟨c4, hs⟩ | ⟨c4, hs⟩
  ·clear h; subst c4; have h := hs; clear hs
   obtain ⟨y5, e6, h⟩ := bnd_some h
   refine AW.rg tt_ok1 [(4, vb y5)] [] [] 8 [hn, hk (rl_ref11_Valid_con p0 true e3), hn, hn, hk (rl_ref11_Valid_con p1 y5 e6)] (by kernel_rfl) ?_
   exact jl y5 h (conv_re [] (by kernel_rfl))
  ·clear h; subst c4; have h := hs; clear hs
   refine AW.rg tt_ok1 [(4, vb false)] [] [] 9 [hn, hk (rl_ref11_Valid_con p0 false e3)] (by kernel_rfl) ?_
   exact jl false h (conv_re [] (by kernel_rfl))
/-! recordlink/recordlinkref11.cross -/
noncomputable def rl_ref11_cross_k1 (y1 : List Int) (y4 : List Int) (y7 : List Int) (y8 : Int) (x10 : Int) : Option ((List Int) × (List Int) × (List Int) × Int × Int) := some (y1, y4, y7, x10, y8)
noncomputable def rl_ref11_cross (p0 : S_api_Rational) (p1 : S_api_Rational) : Option ((List Int) × (List Int) × (List Int) × Int × Int) := bind2 (rl_ref10_Mul p0.Num p1.Den) fun y1 y2 => (bind2 (rl_ref10_Mul p1.Num p0.Den) fun y4 y5 => (bind2 (rl_ref10_Mul p0.Den p1.Den) fun y7 y8 => (if (y2 == 0) = true then (rl_ref11_cross_k1 y1 y4 y7 y8 y5) else (rl_ref11_cross_k1 y1 y4 y7 y8 y2))))
set_option maxRecDepth 100000 in
theorem rl_ref11_cross_con (p0 : S_api_Rational) (p1 : S_api_Rational) (r : (List Int) × (List Int) × (List Int) × Int × Int) (h : rl_ref11_cross p0 p1 = some r) : Con Try.prog 81 [.agg [cl 1 Ru32 p0.Num, cl 1 Ru32 p0.Den], .agg [cl 1 Ru32 p1.Num, cl 1 Ru32 p1.Den]] [] (.tup [vl 1 Ru32 r.1, vl 1 Ru32 r.2.1, vl 1 Ru32 r.2.2.1, vi64 r.2.2.2.1, vi64 r.2.2.2.2]) [] := by
 refine con_of tt_ok1 0 Try.func81 (by kernel_rfl) rfl (by kernel_rfl) (fun base X _ => AW.post ?_)
 unfold rl_ref11_cross at h
 refine AW.sg tt_ok1 [(3, .c (.ptr 1 2 0 0)), (2, .c (.ptr 0 2 0 0))] [0, 1] [(1, .box 30 [cl 1 Ru32 p1.Num, cl 1 Ru32 p1.Den]), (0, .box 30 [cl 1 Ru32 p0.Num, cl 1 Ru32 p0.Den])] 7 [] (by kernel_rfl) ?_
 obtain ⟨y1, y2, e3, h⟩ := bind2_some h
 refine AW.sg tt_ok1 [(10, vi64 y2), (9, vl 1 Ru32 y1)] [] [] 16 [hn, hn, hn, hn, hk (rl_ref10_Mul_con p0.Num p1.Den (y1, y2) e3)] (by kernel_rfl) ?_
 obtain ⟨y4, y5, e6, h⟩ := bind2_some h
 refine AW.sg tt_ok1 [(12, vi64 y5), (11, vl 1 Ru32 y4)] [] [] 25 [hn, hn, hn, hn, hk (rl_ref10_Mul_con p1.Num p0.Den (y4, y5) e6)] (by kernel_rfl) ?_
 obtain ⟨y7, y8, e9, h⟩ := bind2_some h
 refine AW.sg tt_ok1 [(14, vi64 y8), (13, vl 1 Ru32 y7)] [] [] 34 [hn, hn, hn, hn, hk (rl_ref10_Mul_con p0.Den p1.Den (y7, y8) e9)] (by kernel_rfl) ?_
 refine AW.seq ?_
 refine AW.join (ι := Int) (fun v => ⟨[(9, vl 1 Ru32 y1), (10, vi64 v), (11, vl 1 Ru32 y4), (13, vl 1 Ru32 y7), (14, vi64 y8)], [], 0⟩) (fun v : Int => rl_ref11_cross_k1 y1 y4 y7 y8 v = some r) (fun x10 h => ?_) ?_
 ·
  unfold rl_ref11_cross_k1 at h
  refine AW.tn ?_
  refine AW.sg tt_ok1 [(8, vi64 y8), (7, vi64 x10), (6, vl 1 Ru32 y7), (5, vl 1 Ru32 y4), (4, vl 1 Ru32 y1)] [] [] 10 [] (by kernel_rfl) ?_
  refine AW.ret ?_
  obtain rfl := some_inj h
  exact fn0 (.inr rfl) [] 0 (.tup [vl 1 Ru32 y1, vl 1 Ru32 y4, vl 1 Ru32 y7, vi64 x10, vi64 y8]) (by kernel_rfl)
 ·
  refine AW.sg tt_ok1 [(40, vb (y2 == 0))] [] [] 36 [] (by kernel_rfl) ?_
  refine AW.co h (by kernel_rfl) (fun c11 h => ?_) (fun c11 h => ?_)
  ·
   refine AW.rg tt_ok1 [(10, vi64 y5)] [] [] 38 [] (by kernel_rfl) ?_
   exact jl y5 h (conv_re [] (by kernel_rfl))
  ·
   refine AW.skip ?_
   exact jl y2 h (conv_re [] (by kernel_rfl))
/-! recordlink/recordlinkref10.Add -/
noncomputable def rl_ref10_Add_k1 (p0 : List Int) (p1 : List Int) (x1 : Bool) : Option ((List Int) × Int) := if x1 = true then (some (([] : List Int), 20)) else ((rl_ref10_sum p0 p1).bind fun y3 => (bind2 (rl_ref10_limited y3) fun y5 y6 => (some (y5, y6))))
noncomputable def rl_ref10_Add (p0 : List Int) (p1 : List Int) : Option ((List Int) × Int) := (rl_ref10_Valid p0).bind fun y8 => (if (!y8) = true then (rl_ref10_Add_k1 p0 p1 true) else ((rl_ref10_Valid p1).bind fun y11 => (rl_ref10_Add_k1 p0 p1 (!y11))))
set_option maxRecDepth 100000 in
theorem rl_ref10_Add_con (p0 : List Int) (p1 : List Int) (r : (List Int) × Int) (h : rl_ref10_Add p0 p1 = some r) : Con Try.prog 63 [vl 1 Ru32 p0, vl 1 Ru32 p1] [] (.tup [vl 1 Ru32 r.1, vi64 r.2]) [] := by
 refine con_of tt_ok1 0 Try.func63 (by kernel_rfl) rfl (by kernel_rfl) (fun base X _ => AW.post ?_)
 unfold rl_ref10_Add at h
 refine AW.sg tt_ok1 [] [] [] 2 [] (by kernel_rfl) ?_
 refine AW.seq (AW.seq ?_)
 refine AW.join (ι := Bool) (fun v => ⟨[(0, vl 1 Ru32 p0), (1, vl 1 Ru32 p1), (13, vb v)], [], 0⟩) (fun v : Bool => rl_ref10_Add_k1 p0 p1 v = some r) (fun x1 h => ?_) ?_
 ·
  unfold rl_ref10_Add_k1 at h
  refine AW.tn ?_
  refine AW.co h (by kernel_rfl) (fun c2 h => ?_) (fun c2 h => ?_)
  ·
   refine AW.sg tt_ok1 [(5, vi64 20), (4, .c (.t (.v (.slice none 0 0))))] [] [] 2 [] (by kernel_rfl) ?_
   refine AW.ret (AW.tr ?_)
   obtain rfl := some_inj h
   exact fnR (.inr rfl) [] 0 (.tup [vl 1 Ru32 ([] : List Int), vi64 20]) (conv_tms [(4, vl 1 Ru32 ([] : List Int))] ⟨⟨.c (.t (.v (.slice none 0 0))), by kernel_rfl, ALe.c (CLe.nil rfl)⟩, tv⟩) (by kernel_rfl)
  ·
   refine AW.skip (AW.tn ?_)
   obtain ⟨y3, e4, h⟩ := bnd_some h
   obtain ⟨y5, y6, e7, h⟩ := bind2_some h
   refine AW.sg tt_ok1 [(5, vi64 y6), (4, vl 1 Ru32 y5)] [] [] 6 [hn, hn, hk (rl_ref10_sum_con p0 p1 y3 e4), hk (rl_ref10_limited_con y3 (y5, y6) e7)] (by kernel_rfl) ?_
   refine AW.ret ?_
   obtain rfl := some_inj h
   exact fn0 (.inr rfl) [] 0 (.tup [vl 1 Ru32 y5, vi64 y6]) (by kernel_rfl)
 ·
  obtain ⟨y8, e9, h⟩ := bnd_some h
  rcases ifs h with ⟨c10, h⟩ | ⟨c10, h⟩
  ·
   refine AW.rg tt_ok1 [(13, vb true)] [] [] 9 [hn, hk (rl_ref10_Valid_con p0 y8 e9), ht c10] (by kernel_rfl) ?_
   exact jl true h (conv_re [] (by kernel_rfl))
  ·
   obtain ⟨y11, e12, h⟩ := bnd_some h
   refine AW.rg tt_ok1 [(13, vb (!y11))] [] [] 8 [hn, hk (rl_ref10_Valid_con p0 y8 e9), hf c10, hn, hn, hk (rl_ref10_Valid_con p1 y11 e12)] (by kernel_rfl) ?_
   exact jl (!y11) h (conv_re [] (by kernel_rfl))
/-! recordlink/recordlinkref11.Add -/
noncomputable def rl_ref11_Add_k1 (y4 : List Int) (y5 : List Int) (y6 : List Int) (x10 : Bool) : Option (S_api_Rational × Int) := if x10 = true then (some ((⟨([] : List Int), ([] : List Int)⟩ : S_api_Rational), 1)) else (bind2 (rl_ref10_Add y4 y5) fun y12 y13 => (if (y13 != 0) = true then (some ((⟨([] : List Int), ([] : List Int)⟩ : S_api_Rational), y13)) else (bind2 (rl_ref11_Make y12 y6) fun y16 y17 => (some (y16, y17)))))
noncomputable def rl_ref11_Add (p0 : S_api_Rational) (p1 : S_api_Rational) : Option (S_api_Rational × Int) := (rl_ref11_both p0 p1).bind fun y1 => (if (!y1) = true then (some ((⟨([] : List Int), ([] : List Int)⟩ : S_api_Rational), 20)) else (bind5 (rl_ref11_cross p0 p1) fun y4 y5 y6 y7 y8 => (if (y7 != 0) = true then (rl_ref11_Add_k1 y4 y5 y6 true) else (rl_ref11_Add_k1 y4 y5 y6 (y8 != 0)))))
set_option maxRecDepth 100000 in
theorem rl_ref11_Add_con (p0 : S_api_Rational) (p1 : S_api_Rational) (r : S_api_Rational × Int) (h : rl_ref11_Add p0 p1 = some r) : Con Try.prog 58 [.agg [cl 1 Ru32 p0.Num, cl 1 Ru32 p0.Den], .agg [cl 1 Ru32 p1.Num, cl 1 Ru32 p1.Den]] [] (.tup [.agg [cl 1 Ru32 r.1.Num, cl 1 Ru32 r.1.Den], vi64 r.2]) [] := by
 refine con_of tt_ok1 0 Try.func58 (by kernel_rfl) rfl (by kernel_rfl) (fun base X _ => AW.post ?_)
 unfold rl_ref11_Add at h
 refine AW.sg tt_ok1 [(4, .c (.ptr 2 2 0 0)), (3, .c (.ptr 1 2 0 0)), (2, .c (.ptr 0 2 0 0))] [0, 1, 2] [(2, .box 30 [.t (.v (.slice none 0 0)), .t (.v (.slice none 0 0))]), (1, .box 30 [cl 1 Ru32 p1.Num, cl 1 Ru32 p1.Den]), (0, .box 30 [cl 1 Ru32 p0.Num, cl 1 Ru32 p0.Den])] 4 [] (by kernel_rfl) ?_
 refine AW.seq ?_
 obtain ⟨y1, e2, h⟩ := bnd_some h
 refine AW.sg tt_ok1 [(15, vb (!y1))] [] [] 7 [hn, hn, hk (rl_ref11_both_con p0 p1 y1 e2)] (by kernel_rfl) ?_
 refine AW.co h (by kernel_rfl) (fun c3 h => ?_) (fun c3 h => ?_)
 ·
  refine AW.sg tt_ok1 [(5, vi64 20)] [2] [(2, .box 30 [.t (.v (.slice none 0 0)), .t (.v (.slice none 0 0))])] 10 [] (by kernel_rfl) ?_
  refine AW.ret (AW.tr ?_)
  obtain rfl := some_inj h
  exact fnR (.inr rfl) [] 0 (.tup [.agg [cl 1 Ru32 ([] : List Int), cl 1 Ru32 ([] : List Int)], vi64 20]) (conv_box (id := 2) (ty := 30) (cs := [.t (.v (.slice none 0 0)), .t (.v (.slice none 0 0))]) (ds := [cl 1 Ru32 ([] : List Int), cl 1 Ru32 ([] : List Int)]) (by kernel_rfl) ⟨CLe.nil rfl, CLe.nil rfl, tv⟩) (by kernel_rfl)
 ·
  refine AW.skip (AW.tn ?_)
  obtain ⟨y4, y5, y6, y7, y8, e9, h⟩ := bind5_some h
  refine AW.sg tt_ok1 [(10, vi64 y8), (9, vi64 y7), (8, vl 1 Ru32 y6), (7, vl 1 Ru32 y5), (6, vl 1 Ru32 y4)] [] [] 20 [hn, hn, hk (rl_ref11_cross_con p0 p1 (y4, y5, y6, y7, y8) e9)] (by kernel_rfl) ?_
  refine AW.seq (AW.seq ?_)
  refine AW.join (ι := Bool) (fun v => ⟨[(4, .c (.ptr 0 2 0 0)), (6, vl 1 Ru32 y4), (7, vl 1 Ru32 y5), (8, vl 1 Ru32 y6), (31, vb v)], [(0, .box 30 [.t (.v (.slice none 0 0)), .t (.v (.slice none 0 0))])], 1⟩) (fun v : Bool => rl_ref11_Add_k1 y4 y5 y6 v = some r) (fun x10 h => ?_) ?_
  ·
   unfold rl_ref11_Add_k1 at h
   refine AW.tn ?_
   refine AW.co h (by kernel_rfl) (fun c11 h => ?_) (fun c11 h => ?_)
   ·
    refine AW.sg tt_ok1 [(5, vi64 1)] [0] [(0, .box 30 [.t (.v (.slice none 0 0)), .t (.v (.slice none 0 0))])] 4 [] (by kernel_rfl) ?_
    refine AW.ret (AW.tr ?_)
    obtain rfl := some_inj h
    exact fnR (.inr rfl) [] 0 (.tup [.agg [cl 1 Ru32 ([] : List Int), cl 1 Ru32 ([] : List Int)], vi64 1]) (conv_box (id := 0) (ty := 30) (cs := [.t (.v (.slice none 0 0)), .t (.v (.slice none 0 0))]) (ds := [cl 1 Ru32 ([] : List Int), cl 1 Ru32 ([] : List Int)]) (by kernel_rfl) ⟨CLe.nil rfl, CLe.nil rfl, tv⟩) (by kernel_rfl)
   ·
    refine AW.skip (AW.tn ?_)
    obtain ⟨y12, y13, e14, h⟩ := bind2_some h
    refine AW.sg tt_ok1 [(9, vi64 y13), (11, vl 1 Ru32 y12)] [] [] 8 [hn, hn, hk (rl_ref10_Add_con y4 y5 (y12, y13) e14)] (by kernel_rfl) ?_
    refine AW.seq ?_
    refine AW.sg tt_ok1 [(40, vb (y13 != 0))] [] [] 10 [] (by kernel_rfl) ?_
    refine AW.co h (by kernel_rfl) (fun c15 h => ?_) (fun c15 h => ?_)
    ·
     refine AW.sg tt_ok1 [(5, vi64 y13)] [0] [(0, .box 30 [.t (.v (.slice none 0 0)), .t (.v (.slice none 0 0))])] 14 [] (by kernel_rfl) ?_
     refine AW.ret (AW.tr ?_)
     obtain rfl := some_inj h
     exact fnR (.inr rfl) [] 0 (.tup [.agg [cl 1 Ru32 ([] : List Int), cl 1 Ru32 ([] : List Int)], vi64 y13]) (conv_box (id := 0) (ty := 30) (cs := [.t (.v (.slice none 0 0)), .t (.v (.slice none 0 0))]) (ds := [cl 1 Ru32 ([] : List Int), cl 1 Ru32 ([] : List Int)]) (by kernel_rfl) ⟨CLe.nil rfl, CLe.nil rfl, tv⟩) (by kernel_rfl)
    ·
     refine AW.skip (AW.tn ?_)
     obtain ⟨y16, y17, e18, h⟩ := bind2_some h
     refine AW.sg tt_ok1 [(5, vi64 y17)] [0] [(0, .box 30 [cl 1 Ru32 y16.Num, cl 1 Ru32 y16.Den])] 16 [hn, hn, hk (rl_ref11_Make_con y12 y6 (y16, y17) e18)] (by kernel_rfl) ?_
     refine AW.ret ?_
     obtain rfl := some_inj h
     exact fn0 (.inr rfl) [] 0 (.tup [.agg [cl 1 Ru32 y16.Num, cl 1 Ru32 y16.Den], vi64 y17]) (by kernel_rfl)
  ·
   rcases ifs h with ⟨c19, h⟩ | ⟨c19, h⟩
   ·
    refine AW.rg tt_ok1 [(31, vb true)] [] [] 26 [hn, ht c19] (by kernel_rfl) ?_
    exact jl true h (conv_re [(0, 2)] (by kernel_rfl))
   ·
    refine AW.rg tt_ok1 [(31, vb (y8 != 0))] [] [] 26 [hn, hf c19] (by kernel_rfl) ?_
    exact jl (y8 != 0) h (conv_re [(0, 2)] (by kernel_rfl))
/-! recordlink/recordlinkref11.larger -/
noncomputable def rl_ref11_larger_b (self_ : S_api_Rational × S_api_Rational → Option Bool) (p0 : S_api_Rational) (p1 : S_api_Rational) : Option Bool := bind3 (rl_ref10_DivMod p0.Num p0.Den) fun y1 y2 y3 => (bind3 (rl_ref10_DivMod p1.Num p1.Den) fun y5 y6 y7 => ((rl_ref10_Compare y1 y5).bind fun y9 => (if (y9 != 0) = true then (some (decide (y9 > 0))) else (if ((y2.length : Int) == 0) = true then (some false) else (if ((y6.length : Int) == 0) = true then (some true) else ((self_ ((⟨p1.Den, y6⟩ : S_api_Rational), (⟨p0.Den, y2⟩ : S_api_Rational))).bind fun y14 => (some y14)))))))
noncomputable def rl_ref11_larger (p0 : S_api_Rational) (p1 : S_api_Rational) : Option Bool := recF (fun s v => rl_ref11_larger_b s v.1 v.2) (p0, p1)
set_option maxRecDepth 100000 in
theorem rl_ref11_larger_con_b (self_ : S_api_Rational × S_api_Rational → Option Bool) (ih : ∀ (v : S_api_Rational × S_api_Rational) (r : Bool), self_ v = some r → Con Try.prog 82 [.agg [cl 1 Ru32 v.1.Num, cl 1 Ru32 v.1.Den], .agg [cl 1 Ru32 v.2.Num, cl 1 Ru32 v.2.Den]] [] (vb r) []) (p0 : S_api_Rational) (p1 : S_api_Rational) (r : Bool) (h : rl_ref11_larger_b self_ p0 p1 = some r) : Con Try.prog 82 [.agg [cl 1 Ru32 p0.Num, cl 1 Ru32 p0.Den], .agg [cl 1 Ru32 p1.Num, cl 1 Ru32 p1.Den]] [] (vb r) [] := by
 refine con_of tt_ok1 0 Try.func82 (by kernel_rfl) rfl (by kernel_rfl) (fun base X _ => AW.post ?_)
 unfold rl_ref11_larger_b at h
 refine AW.sg tt_ok1 [(3, .c (.ptr 1 2 0 0)), (2, .c (.ptr 0 2 0 0))] [0, 1] [(1, .box 30 [cl 1 Ru32 p1.Num, cl 1 Ru32 p1.Den]), (0, .box 30 [cl 1 Ru32 p0.Num, cl 1 Ru32 p0.Den])] 3 [] (by kernel_rfl) ?_
 obtain ⟨y1, y2, y3, e4, h⟩ := bind3_some h
 refine AW.sg tt_ok1 [(6, vl 1 Ru32 y2), (5, vl 1 Ru32 y1)] [] [] 14 [hn, hn, hn, hn, hk (rl_ref10_DivMod_con p0.Num p0.Den (y1, y2, y3) e4)] (by kernel_rfl) ?_
 obtain ⟨y5, y6, y7, e8, h⟩ := bind3_some h
 refine AW.sg tt_ok1 [(9, vl 1 Ru32 y6), (8, vl 1 Ru32 y5)] [] [] 25 [hn, hn, hn, hn, hk (rl_ref10_DivMod_con p1.Num p1.Den (y5, y6, y7) e8)] (by kernel_rfl) ?_
 refine AW.seq ?_
 obtain ⟨y9, e10, h⟩ := bnd_some h
 refine AW.sg tt_ok1 [(11, vi64 y9)] [] [] 28 [hn, hn, hk (rl_ref10_Compare_con y1 y5 y9 e10)] (by kernel_rfl) ?_
 refine AW.sg tt_ok1 [(34, vb (y9 != 0))] [] [] 30 [] (by kernel_rfl) ?_
 refine AW.co h (by kernel_rfl) (fun c11 h => ?_) (fun c11 h => ?_)
 ·
  refine AW.sg tt_ok1 [(4, vb (decide (y9 > 0)))] [] [] 33 [] (by kernel_rfl) ?_
  refine AW.ret (AW.tr ?_)
  obtain rfl := some_inj h
  exact fn0 (.inr rfl) [] 0 (vb (decide (y9 > 0))) (by kernel_rfl)
 ·
  refine AW.skip (AW.tn (AW.seq ?_))
  refine AW.sg tt_ok1 [(39, vb ((y2.length : Int) == 0))] [] [] 33 [] (by kernel_rfl) ?_
  refine AW.co h (by kernel_rfl) (fun c12 h => ?_) (fun c12 h => ?_)
  ·
   refine AW.sg tt_ok1 [(4, vb false)] [] [] 34 [] (by kernel_rfl) ?_
   refine AW.ret (AW.tr ?_)
   obtain rfl := some_inj h
   exact fn0 (.inr rfl) [] 0 (vb false) (by kernel_rfl)
  ·
   refine AW.skip (AW.tn (AW.seq ?_))
   refine AW.sg tt_ok1 [(42, vb ((y6.length : Int) == 0))] [] [] 36 [] (by kernel_rfl) ?_
   refine AW.co h (by kernel_rfl) (fun c13 h => ?_) (fun c13 h => ?_)
   ·
    refine AW.sg tt_ok1 [(4, vb true)] [] [] 37 [] (by kernel_rfl) ?_
    refine AW.ret (AW.tr ?_)
    obtain rfl := some_inj h
    exact fn0 (.inr rfl) [] 0 (vb true) (by kernel_rfl)
   ·
    refine AW.skip (AW.tn ?_)
    obtain ⟨y14, e15, h⟩ := bnd_some h
    refine AW.sg tt_ok1 [(4, vb y14)] [] [] 45 [hn, hn, hn, hn, hn, hn, hn, hn, hk (ih ((⟨p1.Den, y6⟩ : S_api_Rational), (⟨p0.Den, y2⟩ : S_api_Rational)) y14 e15)] (by kernel_rfl) ?_
    refine AW.ret ?_
    obtain rfl := some_inj h
    exact fn0 (.inr rfl) [] 0 (vb y14) (by kernel_rfl)
theorem rl_ref11_larger_con (p0 : S_api_Rational) (p1 : S_api_Rational) (r : Bool) (h : rl_ref11_larger p0 p1 = some r) : Con Try.prog 82 [.agg [cl 1 Ru32 p0.Num, cl 1 Ru32 p0.Den], .agg [cl 1 Ru32 p1.Num, cl 1 Ru32 p1.Den]] [] (vb r) [] := by
 exact rec_con (C := fun (v : S_api_Rational × S_api_Rational) (r : Bool) => Con Try.prog 82 [.agg [cl 1 Ru32 v.1.Num, cl 1 Ru32 v.1.Den], .agg [cl 1 Ru32 v.2.Num, cl 1 Ru32 v.2.Den]] [] (vb r) []) (fun s ih v r h => rl_ref11_larger_con_b s ih v.1 v.2 r h) (p0, p1) r h
/-! recordlink/recordlinkref10.Sub -/
noncomputable def rl_ref10_Sub_k1 (p0 : List Int) (p1 : List Int) (x1 : Bool) : Option ((List Int) × Int) := if x1 = true then (some (([] : List Int), 20)) else ((rl_ref10_Compare p0 p1).bind fun y3 => (if (decide (y3 < 0)) = true then (some (([] : List Int), 2)) else ((rl_ref10_less p0 p1).bind fun y6 => (some (y6, 0)))))
noncomputable def rl_ref10_Sub (p0 : List Int) (p1 : List Int) : Option ((List Int) × Int) := (rl_ref10_Valid p0).bind fun y8 => (if (!y8) = true then (rl_ref10_Sub_k1 p0 p1 true) else ((rl_ref10_Valid p1).bind fun y11 => (rl_ref10_Sub_k1 p0 p1 (!y11))))
set_option maxRecDepth 100000 in
theorem rl_ref10_Sub_con (p0 : List Int) (p1 : List Int) (r : (List Int) × Int) (h : rl_ref10_Sub p0 p1 = some r) : Con Try.prog 83 [vl 1 Ru32 p0, vl 1 Ru32 p1] [] (.tup [vl 1 Ru32 r.1, vi64 r.2]) [] := by
 refine con_of tt_ok1 0 Try.func83 (by kernel_rfl) rfl (by kernel_rfl) (fun base X _ => AW.post ?_)
 unfold rl_ref10_Sub at h
 refine AW.sg tt_ok1 [] [] [] 2 [] (by kernel_rfl) ?_
 refine AW.seq (AW.seq ?_)
 refine AW.join (ι := Bool) (fun v => ⟨[(0, vl 1 Ru32 p0), (1, vl 1 Ru32 p1), (13, vb v)], [], 0⟩) (fun v : Bool => rl_ref10_Sub_k1 p0 p1 v = some r) (fun x1 h => ?_) ?_
 ·
  unfold rl_ref10_Sub_k1 at h
  refine AW.tn ?_
  refine AW.co h (by kernel_rfl) (fun c2 h => ?_) (fun c2 h => ?_)
  ·
   refine AW.sg tt_ok1 [(5, vi64 20), (4, .c (.t (.v (.slice none 0 0))))] [] [] 2 [] (by kernel_rfl) ?_
   refine AW.ret (AW.tr ?_)
   obtain rfl := some_inj h
   exact fnR (.inr rfl) [] 0 (.tup [vl 1 Ru32 ([] : List Int), vi64 20]) (conv_tms [(4, vl 1 Ru32 ([] : List Int))] ⟨⟨.c (.t (.v (.slice none 0 0))), by kernel_rfl, ALe.c (CLe.nil rfl)⟩, tv⟩) (by kernel_rfl)
  ·
   refine AW.skip (AW.tn (AW.seq ?_))
   obtain ⟨y3, e4, h⟩ := bnd_some h
   refine AW.sg tt_ok1 [(17, vb (decide (y3 < 0)))] [] [] 3 [hn, hn, hk (rl_ref10_Compare_con p0 p1 y3 e4)] (by kernel_rfl) ?_
   refine AW.co h (by kernel_rfl) (fun c5 h => ?_) (fun c5 h => ?_)
   ·
    refine AW.sg tt_ok1 [(5, vi64 2), (4, .c (.t (.v (.slice none 0 0))))] [] [] 5 [] (by kernel_rfl) ?_
    refine AW.ret (AW.tr ?_)
    obtain rfl := some_inj h
    exact fnR (.inr rfl) [] 0 (.tup [vl 1 Ru32 ([] : List Int), vi64 2]) (conv_tms [(4, vl 1 Ru32 ([] : List Int))] ⟨⟨.c (.t (.v (.slice none 0 0))), by kernel_rfl, ALe.c (CLe.nil rfl)⟩, tv⟩) (by kernel_rfl)
   ·
    refine AW.skip (AW.tn ?_)
    obtain ⟨y6, e7, h⟩ := bnd_some h
    refine AW.sg tt_ok1 [(5, vi64 0), (4, vl 1 Ru32 y6)] [] [] 7 [hn, hn, hk (rl_ref10_less_con p0 p1 y6 e7)] (by kernel_rfl) ?_
    refine AW.ret ?_
    obtain rfl := some_inj h
    exact fn0 (.inr rfl) [] 0 (.tup [vl 1 Ru32 y6, vi64 0]) (by kernel_rfl)
 ·
  obtain ⟨y8, e9, h⟩ := bnd_some h
  rcases ifs h with ⟨c10, h⟩ | ⟨c10, h⟩
  ·
   refine AW.rg tt_ok1 [(13, vb true)] [] [] 9 [hn, hk (rl_ref10_Valid_con p0 y8 e9), ht c10] (by kernel_rfl) ?_
   exact jl true h (conv_re [] (by kernel_rfl))
  ·
   obtain ⟨y11, e12, h⟩ := bnd_some h
   refine AW.rg tt_ok1 [(13, vb (!y11))] [] [] 8 [hn, hk (rl_ref10_Valid_con p0 y8 e9), hf c10, hn, hn, hk (rl_ref10_Valid_con p1 y11 e12)] (by kernel_rfl) ?_
   exact jl (!y11) h (conv_re [] (by kernel_rfl))
/-! recordlink/recordlinkref11.Sub -/
noncomputable def rl_ref11_Sub_k1 (y7 : List Int) (y8 : List Int) (y9 : List Int) (x13 : Bool) : Option (S_api_Rational × Int) := if x13 = true then (some ((⟨([] : List Int), ([] : List Int)⟩ : S_api_Rational), 1)) else (bind2 (rl_ref10_Sub y7 y8) fun y15 y16 => (bind2 (rl_ref11_Make y15 y9) fun y18 y19 => (some (y18, y19))))
noncomputable def rl_ref11_Sub (p0 : S_api_Rational) (p1 : S_api_Rational) : Option (S_api_Rational × Int) := (rl_ref11_both p0 p1).bind fun y1 => (if (!y1) = true then (some ((⟨([] : List Int), ([] : List Int)⟩ : S_api_Rational), 20)) else ((rl_ref11_larger p1 p0).bind fun y4 => (if y4 = true then (some ((⟨([] : List Int), ([] : List Int)⟩ : S_api_Rational), 2)) else (bind5 (rl_ref11_cross p0 p1) fun y7 y8 y9 y10 y11 => (if (y10 != 0) = true then (rl_ref11_Sub_k1 y7 y8 y9 true) else (rl_ref11_Sub_k1 y7 y8 y9 (y11 != 0)))))))
set_option maxRecDepth 100000 in
theorem rl_ref11_Sub_con (p0 : S_api_Rational) (p1 : S_api_Rational) (r : S_api_Rational × Int) (h : rl_ref11_Sub p0 p1 = some r) : Con Try.prog 59 [.agg [cl 1 Ru32 p0.Num, cl 1 Ru32 p0.Den], .agg [cl 1 Ru32 p1.Num, cl 1 Ru32 p1.Den]] [] (.tup [.agg [cl 1 Ru32 r.1.Num, cl 1 Ru32 r.1.Den], vi64 r.2]) [] := by
 refine con_of tt_ok1 0 Try.func59 (by kernel_rfl) rfl (by kernel_rfl) (fun base X _ => AW.post ?_)
 unfold rl_ref11_Sub at h
 refine AW.sg tt_ok1 [(4, .c (.ptr 2 2 0 0)), (3, .c (.ptr 1 2 0 0)), (2, .c (.ptr 0 2 0 0))] [0, 1, 2] [(2, .box 30 [.t (.v (.slice none 0 0)), .t (.v (.slice none 0 0))]), (1, .box 30 [cl 1 Ru32 p1.Num, cl 1 Ru32 p1.Den]), (0, .box 30 [cl 1 Ru32 p0.Num, cl 1 Ru32 p0.Den])] 4 [] (by kernel_rfl) ?_
 refine AW.seq ?_
 obtain ⟨y1, e2, h⟩ := bnd_some h
 refine AW.sg tt_ok1 [(16, vb (!y1))] [] [] 7 [hn, hn, hk (rl_ref11_both_con p0 p1 y1 e2)] (by kernel_rfl) ?_
 refine AW.co h (by kernel_rfl) (fun c3 h => ?_) (fun c3 h => ?_)
 ·
  refine AW.sg tt_ok1 [(5, vi64 20)] [2] [(2, .box 30 [.t (.v (.slice none 0 0)), .t (.v (.slice none 0 0))])] 10 [] (by kernel_rfl) ?_
  refine AW.ret (AW.tr ?_)
  obtain rfl := some_inj h
  exact fnR (.inr rfl) [] 0 (.tup [.agg [cl 1 Ru32 ([] : List Int), cl 1 Ru32 ([] : List Int)], vi64 20]) (conv_box (id := 2) (ty := 30) (cs := [.t (.v (.slice none 0 0)), .t (.v (.slice none 0 0))]) (ds := [cl 1 Ru32 ([] : List Int), cl 1 Ru32 ([] : List Int)]) (by kernel_rfl) ⟨CLe.nil rfl, CLe.nil rfl, tv⟩) (by kernel_rfl)
 ·
  refine AW.skip (AW.tn (AW.seq ?_))
  obtain ⟨y4, e5, h⟩ := bnd_some h
  refine AW.sg tt_ok1 [(20, vb y4)] [] [] 9 [hn, hn, hk (rl_ref11_larger_con p1 p0 y4 e5)] (by kernel_rfl) ?_
  refine AW.co h (by kernel_rfl) (fun c6 h => ?_) (fun c6 h => ?_)
  ·
   refine AW.sg tt_ok1 [(5, vi64 2)] [2] [(2, .box 30 [.t (.v (.slice none 0 0)), .t (.v (.slice none 0 0))])] 12 [] (by kernel_rfl) ?_
   refine AW.ret (AW.tr ?_)
   obtain rfl := some_inj h
   exact fnR (.inr rfl) [] 0 (.tup [.agg [cl 1 Ru32 ([] : List Int), cl 1 Ru32 ([] : List Int)], vi64 2]) (conv_box (id := 2) (ty := 30) (cs := [.t (.v (.slice none 0 0)), .t (.v (.slice none 0 0))]) (ds := [cl 1 Ru32 ([] : List Int), cl 1 Ru32 ([] : List Int)]) (by kernel_rfl) ⟨CLe.nil rfl, CLe.nil rfl, tv⟩) (by kernel_rfl)
  ·
   refine AW.skip (AW.tn ?_)
   obtain ⟨y7, y8, y9, y10, y11, e12, h⟩ := bind5_some h
   refine AW.sg tt_ok1 [(10, vi64 y11), (9, vi64 y10), (8, vl 1 Ru32 y9), (7, vl 1 Ru32 y8), (6, vl 1 Ru32 y7)] [] [] 22 [hn, hn, hk (rl_ref11_cross_con p0 p1 (y7, y8, y9, y10, y11) e12)] (by kernel_rfl) ?_
   refine AW.seq (AW.seq ?_)
   refine AW.join (ι := Bool) (fun v => ⟨[(4, .c (.ptr 0 2 0 0)), (6, vl 1 Ru32 y7), (7, vl 1 Ru32 y8), (8, vl 1 Ru32 y9), (36, vb v)], [(0, .box 30 [.t (.v (.slice none 0 0)), .t (.v (.slice none 0 0))])], 1⟩) (fun v : Bool => rl_ref11_Sub_k1 y7 y8 y9 v = some r) (fun x13 h => ?_) ?_
   ·
    unfold rl_ref11_Sub_k1 at h
    refine AW.tn ?_
    refine AW.co h (by kernel_rfl) (fun c14 h => ?_) (fun c14 h => ?_)
    ·
     refine AW.sg tt_ok1 [(5, vi64 1)] [0] [(0, .box 30 [.t (.v (.slice none 0 0)), .t (.v (.slice none 0 0))])] 4 [] (by kernel_rfl) ?_
     refine AW.ret (AW.tr ?_)
     obtain rfl := some_inj h
     exact fnR (.inr rfl) [] 0 (.tup [.agg [cl 1 Ru32 ([] : List Int), cl 1 Ru32 ([] : List Int)], vi64 1]) (conv_box (id := 0) (ty := 30) (cs := [.t (.v (.slice none 0 0)), .t (.v (.slice none 0 0))]) (ds := [cl 1 Ru32 ([] : List Int), cl 1 Ru32 ([] : List Int)]) (by kernel_rfl) ⟨CLe.nil rfl, CLe.nil rfl, tv⟩) (by kernel_rfl)
    ·
     refine AW.skip (AW.tn ?_)
     obtain ⟨y15, y16, e17, h⟩ := bind2_some h
     refine AW.sg tt_ok1 [(11, vl 1 Ru32 y15)] [] [] 8 [hn, hn, hk (rl_ref10_Sub_con y7 y8 (y15, y16) e17)] (by kernel_rfl) ?_
     obtain ⟨y18, y19, e20, h⟩ := bind2_some h
     refine AW.sg tt_ok1 [(5, vi64 y19)] [0] [(0, .box 30 [cl 1 Ru32 y18.Num, cl 1 Ru32 y18.Den])] 14 [hn, hn, hk (rl_ref11_Make_con y15 y9 (y18, y19) e20)] (by kernel_rfl) ?_
     refine AW.ret ?_
     obtain rfl := some_inj h
     exact fn0 (.inr rfl) [] 0 (.tup [.agg [cl 1 Ru32 y18.Num, cl 1 Ru32 y18.Den], vi64 y19]) (by kernel_rfl)
   ·
    rcases ifs h with ⟨c21, h⟩ | ⟨c21, h⟩
    ·
     refine AW.rg tt_ok1 [(36, vb true)] [] [] 28 [hn, ht c21] (by kernel_rfl) ?_
     exact jl true h (conv_re [(0, 2)] (by kernel_rfl))
    ·
     refine AW.rg tt_ok1 [(36, vb (y11 != 0))] [] [] 28 [hn, hf c21] (by kernel_rfl) ?_
     exact jl (y11 != 0) h (conv_re [(0, 2)] (by kernel_rfl))
/-! recordlink/recordlinkref11.Mul -/
noncomputable def rl_ref11_Mul_k1 (y4 : List Int) (y7 : List Int) (x10 : Bool) : Option (S_api_Rational × Int) := if x10 = true then (some ((⟨([] : List Int), ([] : List Int)⟩ : S_api_Rational), 1)) else (bind2 (rl_ref11_Make y4 y7) fun y12 y13 => (some (y12, y13)))
noncomputable def rl_ref11_Mul (p0 : S_api_Rational) (p1 : S_api_Rational) : Option (S_api_Rational × Int) := (rl_ref11_both p0 p1).bind fun y1 => (if (!y1) = true then (some ((⟨([] : List Int), ([] : List Int)⟩ : S_api_Rational), 20)) else (bind2 (rl_ref10_Mul p0.Num p1.Num) fun y4 y5 => (bind2 (rl_ref10_Mul p0.Den p1.Den) fun y7 y8 => (if (y5 != 0) = true then (rl_ref11_Mul_k1 y4 y7 true) else (rl_ref11_Mul_k1 y4 y7 (y8 != 0))))))
set_option maxRecDepth 100000 in
theorem rl_ref11_Mul_con (p0 : S_api_Rational) (p1 : S_api_Rational) (r : S_api_Rational × Int) (h : rl_ref11_Mul p0 p1 = some r) : Con Try.prog 60 [.agg [cl 1 Ru32 p0.Num, cl 1 Ru32 p0.Den], .agg [cl 1 Ru32 p1.Num, cl 1 Ru32 p1.Den]] [] (.tup [.agg [cl 1 Ru32 r.1.Num, cl 1 Ru32 r.1.Den], vi64 r.2]) [] := by
 refine con_of tt_ok1 0 Try.func60 (by kernel_rfl) rfl (by kernel_rfl) (fun base X _ => AW.post ?_)
 unfold rl_ref11_Mul at h
 refine AW.sg tt_ok1 [(4, .c (.ptr 2 2 0 0)), (3, .c (.ptr 1 2 0 0)), (2, .c (.ptr 0 2 0 0))] [0, 1, 2] [(2, .box 30 [.t (.v (.slice none 0 0)), .t (.v (.slice none 0 0))]), (1, .box 30 [cl 1 Ru32 p1.Num, cl 1 Ru32 p1.Den]), (0, .box 30 [cl 1 Ru32 p0.Num, cl 1 Ru32 p0.Den])] 4 [] (by kernel_rfl) ?_
 refine AW.seq ?_
 obtain ⟨y1, e2, h⟩ := bnd_some h
 refine AW.sg tt_ok1 [(13, vb (!y1))] [] [] 7 [hn, hn, hk (rl_ref11_both_con p0 p1 y1 e2)] (by kernel_rfl) ?_
 refine AW.co h (by kernel_rfl) (fun c3 h => ?_) (fun c3 h => ?_)
 ·
  refine AW.sg tt_ok1 [(5, vi64 20)] [2] [(2, .box 30 [.t (.v (.slice none 0 0)), .t (.v (.slice none 0 0))])] 10 [] (by kernel_rfl) ?_
  refine AW.ret (AW.tr ?_)
  obtain rfl := some_inj h
  exact fnR (.inr rfl) [] 0 (.tup [.agg [cl 1 Ru32 ([] : List Int), cl 1 Ru32 ([] : List Int)], vi64 20]) (conv_box (id := 2) (ty := 30) (cs := [.t (.v (.slice none 0 0)), .t (.v (.slice none 0 0))]) (ds := [cl 1 Ru32 ([] : List Int), cl 1 Ru32 ([] : List Int)]) (by kernel_rfl) ⟨CLe.nil rfl, CLe.nil rfl, tv⟩) (by kernel_rfl)
 ·
  refine AW.skip (AW.tn ?_)
  obtain ⟨y4, y5, e6, h⟩ := bind2_some h
  refine AW.sg tt_ok1 [(7, vi64 y5), (6, vl 1 Ru32 y4)] [] [] 16 [hn, hn, hn, hn, hk (rl_ref10_Mul_con p0.Num p1.Num (y4, y5) e6)] (by kernel_rfl) ?_
  obtain ⟨y7, y8, e9, h⟩ := bind2_some h
  refine AW.sg tt_ok1 [(9, vi64 y8), (8, vl 1 Ru32 y7)] [] [] 25 [hn, hn, hn, hn, hk (rl_ref10_Mul_con p0.Den p1.Den (y7, y8) e9)] (by kernel_rfl) ?_
  refine AW.seq (AW.seq ?_)
  refine AW.join (ι := Bool) (fun v => ⟨[(4, .c (.ptr 0 2 0 0)), (6, vl 1 Ru32 y4), (8, vl 1 Ru32 y7), (36, vb v)], [(0, .box 30 [.t (.v (.slice none 0 0)), .t (.v (.slice none 0 0))])], 1⟩) (fun v : Bool => rl_ref11_Mul_k1 y4 y7 v = some r) (fun x10 h => ?_) ?_
  ·
   unfold rl_ref11_Mul_k1 at h
   refine AW.tn ?_
   refine AW.co h (by kernel_rfl) (fun c11 h => ?_) (fun c11 h => ?_)
   ·
    refine AW.sg tt_ok1 [(5, vi64 1)] [0] [(0, .box 30 [.t (.v (.slice none 0 0)), .t (.v (.slice none 0 0))])] 4 [] (by kernel_rfl) ?_
    refine AW.ret (AW.tr ?_)
    obtain rfl := some_inj h
    exact fnR (.inr rfl) [] 0 (.tup [.agg [cl 1 Ru32 ([] : List Int), cl 1 Ru32 ([] : List Int)], vi64 1]) (conv_box (id := 0) (ty := 30) (cs := [.t (.v (.slice none 0 0)), .t (.v (.slice none 0 0))]) (ds := [cl 1 Ru32 ([] : List Int), cl 1 Ru32 ([] : List Int)]) (by kernel_rfl) ⟨CLe.nil rfl, CLe.nil rfl, tv⟩) (by kernel_rfl)
   ·
    refine AW.skip (AW.tn ?_)
    obtain ⟨y12, y13, e14, h⟩ := bind2_some h
    refine AW.sg tt_ok1 [(5, vi64 y13)] [0] [(0, .box 30 [cl 1 Ru32 y12.Num, cl 1 Ru32 y12.Den])] 7 [hn, hn, hk (rl_ref11_Make_con y4 y7 (y12, y13) e14)] (by kernel_rfl) ?_
    refine AW.ret ?_
    obtain rfl := some_inj h
    exact fn0 (.inr rfl) [] 0 (.tup [.agg [cl 1 Ru32 y12.Num, cl 1 Ru32 y12.Den], vi64 y13]) (by kernel_rfl)
  ·
   rcases ifs h with ⟨c15, h⟩ | ⟨c15, h⟩
   ·
    refine AW.rg tt_ok1 [(36, vb true)] [] [] 31 [hn, ht c15] (by kernel_rfl) ?_
    exact jl true h (conv_re [(0, 2)] (by kernel_rfl))
   ·
    refine AW.rg tt_ok1 [(36, vb (y8 != 0))] [] [] 31 [hn, hf c15] (by kernel_rfl) ?_
    exact jl (y8 != 0) h (conv_re [(0, 2)] (by kernel_rfl))
/-! recordlink/recordlinkref11.Div -/
noncomputable def rl_ref11_Div_k1 (y5 : List Int) (y8 : List Int) (x11 : Bool) : Option (S_api_Rational × Int) := if x11 = true then (some ((⟨([] : List Int), ([] : List Int)⟩ : S_api_Rational), 1)) else (bind2 (rl_ref11_Make y5 y8) fun y13 y14 => (some (y13, y14)))
noncomputable def rl_ref11_Div (p0 : S_api_Rational) (p1 : S_api_Rational) : Option (S_api_Rational × Int) := (rl_ref11_both p0 p1).bind fun y1 => (if (!y1) = true then (some ((⟨([] : List Int), ([] : List Int)⟩ : S_api_Rational), 20)) else (if (((p1.Num.length : Nat) : Int) == 0) = true then (some ((⟨([] : List Int), ([] : List Int)⟩ : S_api_Rational), 9)) else (bind2 (rl_ref10_Mul p0.Num p1.Den) fun y5 y6 => (bind2 (rl_ref10_Mul p0.Den p1.Num) fun y8 y9 => (if (y6 != 0) = true then (rl_ref11_Div_k1 y5 y8 true) else (rl_ref11_Div_k1 y5 y8 (y9 != 0)))))))
set_option maxRecDepth 100000 in
theorem rl_ref11_Div_con (p0 : S_api_Rational) (p1 : S_api_Rational) (r : S_api_Rational × Int) (h : rl_ref11_Div p0 p1 = some r) : Con Try.prog 61 [.agg [cl 1 Ru32 p0.Num, cl 1 Ru32 p0.Den], .agg [cl 1 Ru32 p1.Num, cl 1 Ru32 p1.Den]] [] (.tup [.agg [cl 1 Ru32 r.1.Num, cl 1 Ru32 r.1.Den], vi64 r.2]) [] := by
 refine con_of tt_ok1 0 Try.func61 (by kernel_rfl) rfl (by kernel_rfl) (fun base X _ => AW.post ?_)
 unfold rl_ref11_Div at h
 refine AW.sg tt_ok1 [(4, .c (.ptr 2 2 0 0)), (3, .c (.ptr 1 2 0 0)), (2, .c (.ptr 0 2 0 0))] [0, 1, 2] [(2, .box 30 [.t (.v (.slice none 0 0)), .t (.v (.slice none 0 0))]), (1, .box 30 [cl 1 Ru32 p1.Num, cl 1 Ru32 p1.Den]), (0, .box 30 [cl 1 Ru32 p0.Num, cl 1 Ru32 p0.Den])] 4 [] (by kernel_rfl) ?_
 refine AW.seq ?_
 obtain ⟨y1, e2, h⟩ := bnd_some h
 refine AW.sg tt_ok1 [(13, vb (!y1))] [] [] 7 [hn, hn, hk (rl_ref11_both_con p0 p1 y1 e2)] (by kernel_rfl) ?_
 refine AW.co h (by kernel_rfl) (fun c3 h => ?_) (fun c3 h => ?_)
 ·
  refine AW.sg tt_ok1 [(5, vi64 20)] [2] [(2, .box 30 [.t (.v (.slice none 0 0)), .t (.v (.slice none 0 0))])] 10 [] (by kernel_rfl) ?_
  refine AW.ret (AW.tr ?_)
  obtain rfl := some_inj h
  exact fnR (.inr rfl) [] 0 (.tup [.agg [cl 1 Ru32 ([] : List Int), cl 1 Ru32 ([] : List Int)], vi64 20]) (conv_box (id := 2) (ty := 30) (cs := [.t (.v (.slice none 0 0)), .t (.v (.slice none 0 0))]) (ds := [cl 1 Ru32 ([] : List Int), cl 1 Ru32 ([] : List Int)]) (by kernel_rfl) ⟨CLe.nil rfl, CLe.nil rfl, tv⟩) (by kernel_rfl)
 ·
  refine AW.skip (AW.tn (AW.seq ?_))
  refine AW.sg tt_ok1 [(18, vb (((p1.Num.length : Nat) : Int) == 0))] [] [] 11 [] (by kernel_rfl) ?_
  refine AW.co h (by kernel_rfl) (fun c4 h => ?_) (fun c4 h => ?_)
  ·
   refine AW.sg tt_ok1 [(5, vi64 9)] [2] [(2, .box 30 [.t (.v (.slice none 0 0)), .t (.v (.slice none 0 0))])] 14 [] (by kernel_rfl) ?_
   refine AW.ret (AW.tr ?_)
   obtain rfl := some_inj h
   exact fnR (.inr rfl) [] 0 (.tup [.agg [cl 1 Ru32 ([] : List Int), cl 1 Ru32 ([] : List Int)], vi64 9]) (conv_box (id := 2) (ty := 30) (cs := [.t (.v (.slice none 0 0)), .t (.v (.slice none 0 0))]) (ds := [cl 1 Ru32 ([] : List Int), cl 1 Ru32 ([] : List Int)]) (by kernel_rfl) ⟨CLe.nil rfl, CLe.nil rfl, tv⟩) (by kernel_rfl)
  ·
   refine AW.skip (AW.tn ?_)
   obtain ⟨y5, y6, e7, h⟩ := bind2_some h
   refine AW.sg tt_ok1 [(7, vi64 y6), (6, vl 1 Ru32 y5)] [] [] 20 [hn, hn, hn, hn, hk (rl_ref10_Mul_con p0.Num p1.Den (y5, y6) e7)] (by kernel_rfl) ?_
   obtain ⟨y8, y9, e10, h⟩ := bind2_some h
   refine AW.sg tt_ok1 [(9, vi64 y9), (8, vl 1 Ru32 y8)] [] [] 29 [hn, hn, hn, hn, hk (rl_ref10_Mul_con p0.Den p1.Num (y8, y9) e10)] (by kernel_rfl) ?_
   refine AW.seq (AW.seq ?_)
   refine AW.join (ι := Bool) (fun v => ⟨[(4, .c (.ptr 0 2 0 0)), (6, vl 1 Ru32 y5), (8, vl 1 Ru32 y8), (41, vb v)], [(0, .box 30 [.t (.v (.slice none 0 0)), .t (.v (.slice none 0 0))])], 1⟩) (fun v : Bool => rl_ref11_Div_k1 y5 y8 v = some r) (fun x11 h => ?_) ?_
   ·
    unfold rl_ref11_Div_k1 at h
    refine AW.tn ?_
    refine AW.co h (by kernel_rfl) (fun c12 h => ?_) (fun c12 h => ?_)
    ·
     refine AW.sg tt_ok1 [(5, vi64 1)] [0] [(0, .box 30 [.t (.v (.slice none 0 0)), .t (.v (.slice none 0 0))])] 4 [] (by kernel_rfl) ?_
     refine AW.ret (AW.tr ?_)
     obtain rfl := some_inj h
     exact fnR (.inr rfl) [] 0 (.tup [.agg [cl 1 Ru32 ([] : List Int), cl 1 Ru32 ([] : List Int)], vi64 1]) (conv_box (id := 0) (ty := 30) (cs := [.t (.v (.slice none 0 0)), .t (.v (.slice none 0 0))]) (ds := [cl 1 Ru32 ([] : List Int), cl 1 Ru32 ([] : List Int)]) (by kernel_rfl) ⟨CLe.nil rfl, CLe.nil rfl, tv⟩) (by kernel_rfl)
    ·
     refine AW.skip (AW.tn ?_)
     obtain ⟨y13, y14, e15, h⟩ := bind2_some h
     refine AW.sg tt_ok1 [(5, vi64 y14)] [0] [(0, .box 30 [cl 1 Ru32 y13.Num, cl 1 Ru32 y13.Den])] 7 [hn, hn, hk (rl_ref11_Make_con y5 y8 (y13, y14) e15)] (by kernel_rfl) ?_
     refine AW.ret ?_
     obtain rfl := some_inj h
     exact fn0 (.inr rfl) [] 0 (.tup [.agg [cl 1 Ru32 y13.Num, cl 1 Ru32 y13.Den], vi64 y14]) (by kernel_rfl)
   ·
    rcases ifs h with ⟨c16, h⟩ | ⟨c16, h⟩
    ·
     refine AW.rg tt_ok1 [(41, vb true)] [] [] 35 [hn, ht c16] (by kernel_rfl) ?_
     exact jl true h (conv_re [(0, 2)] (by kernel_rfl))
    ·
     refine AW.rg tt_ok1 [(41, vb (y9 != 0))] [] [] 35 [hn, hf c16] (by kernel_rfl) ?_
     exact jl (y9 != 0) h (conv_re [(0, 2)] (by kernel_rfl))
/-! recordlink/recordlinkref11.Compare -/
noncomputable def rl_ref11_Compare (p0 : S_api_Rational) (p1 : S_api_Rational) : Option (Int × Int) := (rl_ref11_both p0 p1).bind fun y1 => (if (!y1) = true then (some (0, 20)) else (bind5 (rl_ref11_cross p0 p1) fun y4 y5 y6 y7 y8 => (if (y7 != 0) = true then (some (0, y7)) else ((rl_ref10_Compare y4 y5).bind fun y11 => (some (y11, 0))))))
set_option maxRecDepth 100000 in
theorem rl_ref11_Compare_con (p0 : S_api_Rational) (p1 : S_api_Rational) (r : Int × Int) (h : rl_ref11_Compare p0 p1 = some r) : Con Try.prog 62 [.agg [cl 1 Ru32 p0.Num, cl 1 Ru32 p0.Den], .agg [cl 1 Ru32 p1.Num, cl 1 Ru32 p1.Den]] [] (.tup [vi64 r.1, vi64 r.2]) [] := by
 refine con_of tt_ok1 0 Try.func62 (by kernel_rfl) rfl (by kernel_rfl) (fun base X _ => AW.post ?_)
 unfold rl_ref11_Compare at h
 refine AW.sg tt_ok1 [(3, .c (.ptr 1 2 0 0)), (2, .c (.ptr 0 2 0 0))] [0, 1] [(1, .box 30 [cl 1 Ru32 p1.Num, cl 1 Ru32 p1.Den]), (0, .box 30 [cl 1 Ru32 p0.Num, cl 1 Ru32 p0.Den])] 4 [] (by kernel_rfl) ?_
 refine AW.seq ?_
 obtain ⟨y1, e2, h⟩ := bnd_some h
 refine AW.sg tt_ok1 [(14, vb (!y1))] [] [] 7 [hn, hn, hk (rl_ref11_both_con p0 p1 y1 e2)] (by kernel_rfl) ?_
 refine AW.co h (by kernel_rfl) (fun c3 h => ?_) (fun c3 h => ?_)
 ·
  refine AW.sg tt_ok1 [(5, vi64 20), (4, vi64 0)] [] [] 9 [] (by kernel_rfl) ?_
  refine AW.ret (AW.tr ?_)
  obtain rfl := some_inj h
  exact fn0 (.inr rfl) [] 0 (.tup [vi64 0, vi64 20]) (by kernel_rfl)
 ·
  refine AW.skip (AW.tn ?_)
  obtain ⟨y4, y5, y6, y7, y8, e9, h⟩ := bind5_some h
  refine AW.sg tt_ok1 [(9, vi64 y7), (7, vl 1 Ru32 y5), (6, vl 1 Ru32 y4)] [] [] 20 [hn, hn, hk (rl_ref11_cross_con p0 p1 (y4, y5, y6, y7, y8) e9)] (by kernel_rfl) ?_
  refine AW.seq ?_
  refine AW.sg tt_ok1 [(25, vb (y7 != 0))] [] [] 22 [] (by kernel_rfl) ?_
  refine AW.co h (by kernel_rfl) (fun c10 h => ?_) (fun c10 h => ?_)
  ·
   refine AW.sg tt_ok1 [(5, vi64 y7), (4, vi64 0)] [] [] 25 [] (by kernel_rfl) ?_
   refine AW.ret (AW.tr ?_)
   obtain rfl := some_inj h
   exact fn0 (.inr rfl) [] 0 (.tup [vi64 0, vi64 y7]) (by kernel_rfl)
  ·
   refine AW.skip (AW.tn ?_)
   obtain ⟨y11, e12, h⟩ := bnd_some h
   refine AW.sg tt_ok1 [(5, vi64 0), (4, vi64 y11)] [] [] 26 [hn, hn, hk (rl_ref10_Compare_con y4 y5 y11 e12)] (by kernel_rfl) ?_
   refine AW.ret ?_
   obtain rfl := some_inj h
   exact fn0 (.inr rfl) [] 0 (.tup [vi64 y11, vi64 0]) (by kernel_rfl)
/-! recordlink/recordlinklaw11.two -/
noncomputable def rl_law11_two_k5 (x39 : Bool) : Option Bool := some x39
noncomputable def rl_law11_two_k4 (p0 : S_api_Rational) (p1 : S_api_Rational) (x31 : Bool) : Option Bool := if x31 = true then (some false) else (bind2 (rational_Compare p0 p1) fun y33 y34 => (bind2 (rl_ref11_Compare p0 p1) fun y36 y37 => (if (y33 == y36) = true then (rl_law11_two_k5 (y34 == y37)) else (rl_law11_two_k5 false))))
noncomputable def rl_law11_two_k3 (p0 : S_api_Rational) (p1 : S_api_Rational) (x23 : Bool) : Option Bool := if x23 = true then (some false) else (bind2 (rational_Div p0 p1) fun y25 y26 => (bind2 (rl_ref11_Div p0 p1) fun y28 y29 => (if (y26 != y29) = true then (rl_law11_two_k4 p0 p1 true) else ((rl_ref11_Same y25 y28).bind fun y42 => (rl_law11_two_k4 p0 p1 (!y42))))))
noncomputable def rl_law11_two_k2 (p0 : S_api_Rational) (p1 : S_api_Rational) (x15 : Bool) : Option Bool := if x15 = true then (some false) else (bind2 (rational_Mul p0 p1) fun y17 y18 => (bind2 (rl_ref11_Mul p0 p1) fun y20 y21 => (if (y18 != y21) = true then (rl_law11_two_k3 p0 p1 true) else ((rl_ref11_Same y17 y20).bind fun y45 => (rl_law11_two_k3 p0 p1 (!y45))))))
noncomputable def rl_law11_two_k1 (p0 : S_api_Rational) (p1 : S_api_Rational) (x7 : Bool) : Option Bool := if x7 = true then (some false) else (bind2 (rational_Sub p0 p1) fun y9 y10 => (bind2 (rl_ref11_Sub p0 p1) fun y12 y13 => (if (y10 != y13) = true then (rl_law11_two_k2 p0 p1 true) else ((rl_ref11_Same y9 y12).bind fun y48 => (rl_law11_two_k2 p0 p1 (!y48))))))
noncomputable def rl_law11_two (p0 : S_api_Rational) (p1 : S_api_Rational) : Option Bool := bind2 (rational_Add p0 p1) fun y1 y2 => (bind2 (rl_ref11_Add p0 p1) fun y4 y5 => (if (y2 != y5) = true then (rl_law11_two_k1 p0 p1 true) else ((rl_ref11_Same y1 y4).bind fun y51 => (rl_law11_two_k1 p0 p1 (!y51)))))
set_option maxRecDepth 100000 in
theorem rl_law11_two_con (p0 : S_api_Rational) (p1 : S_api_Rational) (r : Bool) (h : rl_law11_two p0 p1 = some r) : Con Try.prog 28 [.agg [cl 1 Ru32 p0.Num, cl 1 Ru32 p0.Den], .agg [cl 1 Ru32 p1.Num, cl 1 Ru32 p1.Den]] [] (vb r) [] := by
 refine con_of tt_ok1 0 Try.func28 (by kernel_rfl) rfl (by kernel_rfl) (fun base X _ => AW.post ?_)
 unfold rl_law11_two at h
 refine AW.sg tt_ok1 [(3, .c (.ptr 1 2 0 0)), (2, .c (.ptr 0 2 0 0))] [0, 1] [(1, .box 30 [cl 1 Ru32 p1.Num, cl 1 Ru32 p1.Den]), (0, .box 30 [cl 1 Ru32 p0.Num, cl 1 Ru32 p0.Den])] 3 [] (by kernel_rfl) ?_
 obtain ⟨y1, y2, e3, h⟩ := bind2_some h
 refine AW.sg tt_ok1 [(6, vi64 y2), (5, .c (.ptr 8 2 0 0))] [8] [(8, .box 30 [cl 1 Ru32 y1.Num, cl 1 Ru32 y1.Den])] 11 [hn, hn, hk (rational_Add_con p0 p1 (y1, y2) e3)] (by kernel_rfl) ?_
 obtain ⟨y4, y5, e6, h⟩ := bind2_some h
 refine AW.sg tt_ok1 [(8, vi64 y5), (7, .c (.ptr 16 2 0 0))] [16] [(16, .box 30 [cl 1 Ru32 y4.Num, cl 1 Ru32 y4.Den])] 19 [hn, hn, hk (rl_ref11_Add_con p0 p1 (y4, y5) e6)] (by kernel_rfl) ?_
 refine AW.seq (AW.seq ?_)
 refine AW.join (ι := Bool) (fun v => ⟨[(2, .c (.ptr 0 2 0 0)), (3, .c (.ptr 1 2 0 0)), (5, .c (.ptr 2 2 0 0)), (7, .c (.ptr 3 2 0 0)), (33, vb v)], [(0, .box 30 [cl 1 Ru32 p0.Num, cl 1 Ru32 p0.Den]), (1, .box 30 [cl 1 Ru32 p1.Num, cl 1 Ru32 p1.Den]), (2, .box 30 [cl 1 Ru32 y1.Num, cl 1 Ru32 y1.Den]), (3, .box 30 [cl 1 Ru32 y4.Num, cl 1 Ru32 y4.Den])], 4⟩) (fun v : Bool => rl_law11_two_k1 p0 p1 v = some r) (fun x7 h => ?_) ?_
 ·
  unfold rl_law11_two_k1 at h
  refine AW.tn ?_
  refine AW.co h (by kernel_rfl) (fun c8 h => ?_) (fun c8 h => ?_)
  ·
   refine AW.sg tt_ok1 [(4, vb false)] [] [] 5 [] (by kernel_rfl) ?_
   refine AW.ret (AW.tr ?_)
   obtain rfl := some_inj h
   exact fn0 (.inr rfl) [] 0 (vb false) (by kernel_rfl)
  ·
   refine AW.skip (AW.tn ?_)
   obtain ⟨y9, y10, e11, h⟩ := bind2_some h
   refine AW.sg tt_ok1 [(6, vi64 y10)] [2] [(2, .box 30 [cl 1 Ru32 y9.Num, cl 1 Ru32 y9.Den])] 11 [hn, hn, hk (rational_Sub_con p0 p1 (y9, y10) e11)] (by kernel_rfl) ?_
   obtain ⟨y12, y13, e14, h⟩ := bind2_some h
   refine AW.sg tt_ok1 [(8, vi64 y13)] [3] [(3, .box 30 [cl 1 Ru32 y12.Num, cl 1 Ru32 y12.Den])] 18 [hn, hn, hk (rl_ref11_Sub_con p0 p1 (y12, y13) e14)] (by kernel_rfl) ?_
   refine AW.seq (AW.seq ?_)
   refine AW.join (ι := Bool) (fun v => ⟨[(2, .c (.ptr 0 2 0 0)), (3, .c (.ptr 1 2 0 0)), (5, .c (.ptr 2 2 0 0)), (7, .c (.ptr 3 2 0 0)), (54, vb v)], [(0, .box 30 [cl 1 Ru32 p0.Num, cl 1 Ru32 p0.Den]), (1, .box 30 [cl 1 Ru32 p1.Num, cl 1 Ru32 p1.Den]), (2, .box 30 [cl 1 Ru32 y9.Num, cl 1 Ru32 y9.Den]), (3, .box 30 [cl 1 Ru32 y12.Num, cl 1 Ru32 y12.Den])], 4⟩) (fun v : Bool => rl_law11_two_k2 p0 p1 v = some r) (fun x15 h => ?_) ?_
   ·
    unfold rl_law11_two_k2 at h
    refine AW.tn ?_
    refine AW.co h (by kernel_rfl) (fun c16 h => ?_) (fun c16 h => ?_)
    ·
     refine AW.sg tt_ok1 [(4, vb false)] [] [] 5 [] (by kernel_rfl) ?_
     refine AW.ret (AW.tr ?_)
     obtain rfl := some_inj h
     exact fn0 (.inr rfl) [] 0 (vb false) (by kernel_rfl)
    ·
     refine AW.skip (AW.tn ?_)
     obtain ⟨y17, y18, e19, h⟩ := bind2_some h
     refine AW.sg tt_ok1 [(6, vi64 y18)] [2] [(2, .box 30 [cl 1 Ru32 y17.Num, cl 1 Ru32 y17.Den])] 11 [hn, hn, hk (rational_Mul_con p0 p1 (y17, y18) e19)] (by kernel_rfl) ?_
     obtain ⟨y20, y21, e22, h⟩ := bind2_some h
     refine AW.sg tt_ok1 [(8, vi64 y21)] [3] [(3, .box 30 [cl 1 Ru32 y20.Num, cl 1 Ru32 y20.Den])] 18 [hn, hn, hk (rl_ref11_Mul_con p0 p1 (y20, y21) e22)] (by kernel_rfl) ?_
     refine AW.seq (AW.seq ?_)
     refine AW.join (ι := Bool) (fun v => ⟨[(2, .c (.ptr 0 2 0 0)), (3, .c (.ptr 1 2 0 0)), (5, .c (.ptr 2 2 0 0)), (7, .c (.ptr 3 2 0 0)), (75, vb v)], [(0, .box 30 [cl 1 Ru32 p0.Num, cl 1 Ru32 p0.Den]), (1, .box 30 [cl 1 Ru32 p1.Num, cl 1 Ru32 p1.Den]), (2, .box 30 [cl 1 Ru32 y17.Num, cl 1 Ru32 y17.Den]), (3, .box 30 [cl 1 Ru32 y20.Num, cl 1 Ru32 y20.Den])], 4⟩) (fun v : Bool => rl_law11_two_k3 p0 p1 v = some r) (fun x23 h => ?_) ?_
     ·
      unfold rl_law11_two_k3 at h
      refine AW.tn ?_
      refine AW.co h (by kernel_rfl) (fun c24 h => ?_) (fun c24 h => ?_)
      ·
       refine AW.sg tt_ok1 [(4, vb false)] [] [] 5 [] (by kernel_rfl) ?_
       refine AW.ret (AW.tr ?_)
       obtain rfl := some_inj h
       exact fn0 (.inr rfl) [] 0 (vb false) (by kernel_rfl)
      ·
       refine AW.skip (AW.tn ?_)
       obtain ⟨y25, y26, e27, h⟩ := bind2_some h
       refine AW.sg tt_ok1 [(6, vi64 y26)] [2] [(2, .box 30 [cl 1 Ru32 y25.Num, cl 1 Ru32 y25.Den])] 11 [hn, hn, hk (rational_Div_con p0 p1 (y25, y26) e27)] (by kernel_rfl) ?_
       obtain ⟨y28, y29, e30, h⟩ := bind2_some h
       refine AW.sg tt_ok1 [(8, vi64 y29)] [3] [(3, .box 30 [cl 1 Ru32 y28.Num, cl 1 Ru32 y28.Den])] 18 [hn, hn, hk (rl_ref11_Div_con p0 p1 (y28, y29) e30)] (by kernel_rfl) ?_
       refine AW.seq (AW.seq ?_)
       refine AW.join (ι := Bool) (fun v => ⟨[(2, .c (.ptr 0 2 0 0)), (3, .c (.ptr 1 2 0 0)), (96, vb v)], [(0, .box 30 [cl 1 Ru32 p0.Num, cl 1 Ru32 p0.Den]), (1, .box 30 [cl 1 Ru32 p1.Num, cl 1 Ru32 p1.Den])], 2⟩) (fun v : Bool => rl_law11_two_k4 p0 p1 v = some r) (fun x31 h => ?_) ?_
       ·
        unfold rl_law11_two_k4 at h
        refine AW.tn ?_
        refine AW.co h (by kernel_rfl) (fun c32 h => ?_) (fun c32 h => ?_)
        ·
         refine AW.sg tt_ok1 [(4, vb false)] [] [] 3 [] (by kernel_rfl) ?_
         refine AW.ret (AW.tr ?_)
         obtain rfl := some_inj h
         exact fn0 (.inr rfl) [] 0 (vb false) (by kernel_rfl)
        ·
         refine AW.skip (AW.tn ?_)
         obtain ⟨y33, y34, e35, h⟩ := bind2_some h
         refine AW.sg tt_ok1 [(10, vi64 y34), (9, vi64 y33)] [] [] 9 [hn, hn, hk (rational_Compare_con p0 p1 (y33, y34) e35)] (by kernel_rfl) ?_
         obtain ⟨y36, y37, e38, h⟩ := bind2_some h
         refine AW.sg tt_ok1 [(12, vi64 y37), (11, vi64 y36)] [] [] 16 [hn, hn, hk (rl_ref11_Compare_con p0 p1 (y36, y37) e38)] (by kernel_rfl) ?_
         refine AW.seq ?_
         refine AW.join (ι := Bool) (fun v => ⟨[(4, vb v)], [], 0⟩) (fun v : Bool => rl_law11_two_k5 v = some r) (fun x39 h => ?_) ?_
         ·
          unfold rl_law11_two_k5 at h
          refine AW.tn (AW.ret ?_)
          obtain rfl := some_inj h
          exact fn0 (.inr rfl) [] 0 (vb x39) (by kernel_rfl)
         ·
          rcases ifs h with ⟨c40, h⟩ | ⟨c40, h⟩
          ·
           refine AW.rg tt_ok1 [(4, vb (y34 == y37))] [] [] 25 [hn, hn, ht c40] (by kernel_rfl) ?_
           exact jl (y34 == y37) h (conv_re [] (by kernel_rfl))
          ·
           refine AW.rg tt_ok1 [(4, vb false)] [] [] 25 [hn, hn, hf c40] (by kernel_rfl) ?_
           exact jl false h (conv_re [] (by kernel_rfl))
       ·
        rcases ifs h with ⟨c41, h⟩ | ⟨c41, h⟩
        ·
         refine AW.rg tt_ok1 [(96, vb true)] [] [] 27 [hn, hn, ht c41] (by kernel_rfl) ?_
         exact jl true h (conv_re [(0, 0), (1, 1)] (by kernel_rfl))
        ·
         obtain ⟨y42, e43, h⟩ := bnd_some h
         refine AW.rg tt_ok1 [(96, vb (!y42))] [] [] 26 [hn, hn, hf c41, hn, hn, hn, hk (rl_ref11_Same_con y25 y28 y42 e43)] (by kernel_rfl) ?_
         exact jl (!y42) h (conv_re [(0, 0), (1, 1)] (by kernel_rfl))
     ·
      rcases ifs h with ⟨c44, h⟩ | ⟨c44, h⟩
      ·
       refine AW.rg tt_ok1 [(75, vb true)] [] [] 27 [hn, hn, ht c44] (by kernel_rfl) ?_
       exact jl true h (conv_re [(0, 0), (1, 1), (2, 2), (3, 3)] (by kernel_rfl))
      ·
       obtain ⟨y45, e46, h⟩ := bnd_some h
       refine AW.rg tt_ok1 [(75, vb (!y45))] [] [] 26 [hn, hn, hf c44, hn, hn, hn, hk (rl_ref11_Same_con y17 y20 y45 e46)] (by kernel_rfl) ?_
       exact jl (!y45) h (conv_re [(0, 0), (1, 1), (2, 2), (3, 3)] (by kernel_rfl))
   ·
    rcases ifs h with ⟨c47, h⟩ | ⟨c47, h⟩
    ·
     refine AW.rg tt_ok1 [(54, vb true)] [] [] 27 [hn, hn, ht c47] (by kernel_rfl) ?_
     exact jl true h (conv_re [(0, 0), (1, 1), (2, 2), (3, 3)] (by kernel_rfl))
    ·
     obtain ⟨y48, e49, h⟩ := bnd_some h
     refine AW.rg tt_ok1 [(54, vb (!y48))] [] [] 26 [hn, hn, hf c47, hn, hn, hn, hk (rl_ref11_Same_con y9 y12 y48 e49)] (by kernel_rfl) ?_
     exact jl (!y48) h (conv_re [(0, 0), (1, 1), (2, 2), (3, 3)] (by kernel_rfl))
 ·
  rcases ifs h with ⟨c50, h⟩ | ⟨c50, h⟩
  ·
   refine AW.rg tt_ok1 [(33, vb true)] [] [] 28 [hn, hn, ht c50] (by kernel_rfl) ?_
   exact jl true h (conv_re [(0, 0), (1, 1), (2, 8), (3, 16)] (by kernel_rfl))
  ·
   obtain ⟨y51, e52, h⟩ := bnd_some h
   refine AW.rg tt_ok1 [(33, vb (!y51))] [] [] 27 [hn, hn, hf c50, hn, hn, hn, hk (rl_ref11_Same_con y1 y4 y51 e52)] (by kernel_rfl) ?_
   exact jl (!y51) h (conv_re [(0, 0), (1, 1), (2, 8), (3, 16)] (by kernel_rfl))
/-! recordlink/recordlinkref10.Int -/
noncomputable def rl_ref10_Int_l2 (p0 : List Int) (x5 : Int) (x6 : Int) : Option ((Int × Int) ⊕ Int) := if (decide (x6 ≥ 0)) = true then (if 0 ≤ x6 then (if x6 < (p0.length : Int) then ((some (ior .i64 (ishl .i64 x5 32) (i64.wrap (p0.getD x6.toNat 0)))).bind fun z11 => (some (.inl (z11, i64.wrap (x6 - 1))))) else none) else none) else (some (.inr x5))
noncomputable def rl_ref10_Int_k1 (p0 : List Int) (x1 : Bool) : Option (Int × Bool) := if x1 = true then (some (0, false)) else ((loop (fun v : Int × Int => rl_ref10_Int_l2 p0 v.1 v.2) (0, i64.wrap ((p0.length : Int) - 1))).bind fun x13 => (some (x13, true)))
noncomputable def rl_ref10_Int (p0 : List Int) : Option (Int × Bool) := (rl_ref10_Valid p0).bind fun y15 => (if (!y15) = true then (rl_ref10_Int_k1 p0 true) else (if (decide ((p0.length : Int) > 2)) = true then (rl_ref10_Int_k1 p0 true) else (if ((p0.length : Int) == 2) = true then (if (1 : Int) < (p0.length : Int) then (rl_ref10_Int_k1 p0 (decide ((p0.getD 1 0) ≥ 2147483648))) else none) else (rl_ref10_Int_k1 p0 false))))
set_option maxRecDepth 100000 in
theorem rl_ref10_Int_con (p0 : List Int) (r : Int × Bool) (h : rl_ref10_Int p0 = some r) : Con Try.prog 64 [vl 1 Ru32 p0] [] (.tup [vi64 r.1, vb r.2]) [] := by
 refine con_of tt_ok1 0 Try.func64 (by kernel_rfl) rfl (by kernel_rfl) (fun base X _ => AW.post ?_)
 unfold rl_ref10_Int at h
 refine AW.sg tt_ok1 [] [] [] 2 [] (by kernel_rfl) ?_
 refine AW.seq (AW.seq ?_)
 refine AW.join (ι := Bool) (fun v => ⟨[(0, vl 1 Ru32 p0), (24, vb v)], [], 0⟩) (fun v : Bool => rl_ref10_Int_k1 p0 v = some r) (fun x1 h => ?_) ?_
 ·
  unfold rl_ref10_Int_k1 at h
  refine AW.tn ?_
  refine AW.co h (by kernel_rfl) (fun c2 h => ?_) (fun c2 h => ?_)
  ·
   refine AW.sg tt_ok1 [(3, vb false), (2, vi64 0)] [] [] 2 [] (by kernel_rfl) ?_
   refine AW.ret (AW.tr ?_)
   obtain rfl := some_inj h
   exact fn0 (.inr rfl) [] 0 (.tup [vi64 0, vb false]) (by kernel_rfl)
  ·
   refine AW.skip (AW.tn ?_)
   refine AW.sg tt_ok1 [(4, vi64 0)] [] [] 1 [] (by kernel_rfl) ?_
   refine AW.seq ?_
   refine AW.sg tt_ok1 [(5, vi64 (i64.wrap ((p0.length : Int) - 1)))] [] [] 5 [] (by kernel_rfl) ?_
   refine AW.block ?_
   obtain ⟨x13, l14, h⟩ := bnd_some h
   refine AW.lp l14 (fun v => ⟨[(0, vl 1 Ru32 p0), (4, vi64 v.1), (5, vi64 v.2)], [], 0⟩) (fun t : Int => (.exit 0, ⟨[(4, vi64 t)], [], 0⟩)) (conv_re [] (by kernel_rfl)) (fun _ => tv) ?_ ?_
   ·
    clear l14 h
    intro v o h
    obtain ⟨x5, x6⟩ := v
    replace h : rl_ref10_Int_l2 p0 x5 x6 = some o := h
    unfold rl_ref10_Int_l2 at h
    refine AW.seq ?_
    refine AW.sg tt_ok1 [(29, vb (decide (x6 ≥ 0)))] [] [] 2 [] (by kernel_rfl) ?_
    refine AW.co h (by kernel_rfl) (fun c8 h => ?_) (fun c8 h => ?_)
    ·
     refine AW.skip (AW.tn ?_)
     refine AW.seq (AW.block ?_)
     obtain ⟨g9, g10, h⟩ := ifd h
     obtain ⟨z11, n12, h⟩ := bnd_some h
     replace n12 := some_inj n12
     refine AW.rg tt_ok1 [(4, vi64 z11)] [] [] 11 [hn, ho (p := 0 ≤ (32 : Int)) (by decide), hn, hn, hq g9 g10] (by subst n12; kernel_rfl) ?_
     refine AW.inBlock_normal (AW.tn ?_)
     refine AW.rg tt_ok1 [(5, vi64 (i64.wrap (x6 - 1)))] [] [] 14 [] (by kernel_rfl) ?_
     exact lpn h (conv_re [] (by kernel_rfl))
    ·
     refine AW.exit (AW.thenQ_exit ?_)
     exact lpo h rfl (conv_re [] (by kernel_rfl))
   ·
    show (_ : Exit → St → Prop) (.exit 0) _
    refine AW.inBlock_hit (AW.tn ?_)
    refine AW.sg tt_ok1 [(3, vb true), (2, vi64 x13)] [] [] 3 [] (by kernel_rfl) ?_
    refine AW.ret ?_
    obtain rfl := some_inj h
    exact fn0 (.inr rfl) [] 0 (.tup [vi64 x13, vb true]) (by kernel_rfl)
 ·
  obtain ⟨y15, e16, h⟩ := bnd_some h
  rcases ifs h with ⟨c17, h⟩ | ⟨c17, h⟩
  ·
   refine AW.rg tt_ok1 [(24, vb true)] [] [] 20 [hn, hk (rl_ref10_Valid_con p0 y15 e16), ht c17] (by kernel_rfl) ?_
   exact jl true h (conv_re [] (by kernel_rfl))
  ·
   rcases ifs h with ⟨c18, h⟩ | ⟨c18, h⟩
   ·
    refine AW.rg tt_ok1 [(24, vb true)] [] [] 20 [hn, hk (rl_ref10_Valid_con p0 y15 e16), hf c17, hn, hn, hn, ht c18] (by kernel_rfl) ?_
    exact jl true h (conv_re [] (by kernel_rfl))
   ·
    rcases ifs h with ⟨c19, h⟩ | ⟨c19, h⟩
    ·
     obtain ⟨g20, h⟩ := ifc h
     refine AW.rg tt_ok1 [(24, vb (decide ((p0.getD 1 0) ≥ 2147483648)))] [] [] 20 [hn, hk (rl_ref10_Valid_con p0 y15 e16), hf c17, hn, hn, hn, hf c18, hn, hn, hn, hn, ht c19, hn, hn, ho (p := (0 ≤ (1 : Int)) ∧ ((1 : Int) < (p0.length : Int))) (⟨(by decide), g20⟩)] (by kernel_rfl) ?_
     exact jl (decide ((p0.getD 1 0) ≥ 2147483648)) h (conv_re [] (by kernel_rfl))
    ·
     refine AW.rg tt_ok1 [(24, vb false)] [] [] 20 [hn, hk (rl_ref10_Valid_con p0 y15 e16), hf c17, hn, hn, hn, hf c18, hn, hn, hn, hn, hf c19] (by kernel_rfl) ?_
     exact jl false h (conv_re [] (by kernel_rfl))
/-! recordlink/recordlinkref11.Round -/
noncomputable def rl_ref11_Round_k1 (p0 : S_api_Rational) (p1 : Int) (x4 : Bool) : Option (Int × Int) := if x4 = true then (some (0, 2)) else (bind2 (rl_ref10_FromInt (i64.wrap (2 * p1))) fun y6 y7 => (bind2 (rl_ref10_Mul p0.Num y6) fun y9 y10 => (if (y10 != 0) = true then (some (0, y10)) else (bind2 (rl_ref10_Add y9 p0.Den) fun y13 y14 => (if (y14 != 0) = true then (some (0, y14)) else (bind2 (rl_ref10_Add p0.Den p0.Den) fun y17 y18 => (if (y18 != 0) = true then (some (0, y18)) else (bind3 (rl_ref10_DivMod y13 y17) fun y21 y22 y23 => (bind2 (rl_ref10_Int y21) fun y25 y26 => (if (!y26) = true then (some (0, 1)) else (some (y25, 0))))))))))))
noncomputable def rl_ref11_Round (p0 : S_api_Rational) (p1 : Int) : Option (Int × Int) := (rl_ref11_Valid p0).bind fun y1 => (if (!y1) = true then (some (0, 20)) else (if (decide (p1 < 1)) = true then (rl_ref11_Round_k1 p0 p1 true) else (rl_ref11_Round_k1 p0 p1 (decide (p1 > 4294967296)))))
set_option maxRecDepth 100000 in
theorem rl_ref11_Round_con (p0 : S_api_Rational) (p1 : Int) (r : Int × Int) (h : rl_ref11_Round p0 p1 = some r) : Con Try.prog 29 [.agg [cl 1 Ru32 p0.Num, cl 1 Ru32 p0.Den], vi64 p1] [] (.tup [vi64 r.1, vi64 r.2]) [] := by
 refine con_of tt_ok1 0 Try.func29 (by kernel_rfl) rfl (by kernel_rfl) (fun base X _ => AW.post ?_)
 unfold rl_ref11_Round at h
 refine AW.sg tt_ok1 [(2, .c (.ptr 0 2 0 0))] [0] [(0, .box 30 [cl 1 Ru32 p0.Num, cl 1 Ru32 p0.Den])] 3 [] (by kernel_rfl) ?_
 refine AW.seq ?_
 obtain ⟨y1, e2, h⟩ := bnd_some h
 refine AW.sg tt_ok1 [(18, vb (!y1))] [] [] 5 [hn, hk (rl_ref11_Valid_con p0 y1 e2)] (by kernel_rfl) ?_
 refine AW.co h (by kernel_rfl) (fun c3 h => ?_) (fun c3 h => ?_)
 ·
  refine AW.sg tt_ok1 [(5, vi64 20), (4, vi64 0)] [] [] 7 [] (by kernel_rfl) ?_
  refine AW.ret (AW.tr ?_)
  obtain rfl := some_inj h
  exact fn0 (.inr rfl) [] 0 (.tup [vi64 0, vi64 20]) (by kernel_rfl)
 ·
  refine AW.skip (AW.tn ?_)
  refine AW.seq (AW.seq ?_)
  refine AW.join (ι := Bool) (fun v => ⟨[(1, vi64 p1), (2, .c (.ptr 0 2 0 0)), (24, vb v)], [(0, .box 30 [cl 1 Ru32 p0.Num, cl 1 Ru32 p0.Den])], 1⟩) (fun v : Bool => rl_ref11_Round_k1 p0 p1 v = some r) (fun x4 h => ?_) ?_
  ·
   unfold rl_ref11_Round_k1 at h
   refine AW.tn ?_
   refine AW.co h (by kernel_rfl) (fun c5 h => ?_) (fun c5 h => ?_)
   ·
    refine AW.sg tt_ok1 [(5, vi64 2), (4, vi64 0)] [] [] 3 [] (by kernel_rfl) ?_
    refine AW.ret (AW.tr ?_)
    obtain rfl := some_inj h
    exact fn0 (.inr rfl) [] 0 (.tup [vi64 0, vi64 2]) (by kernel_rfl)
   ·
    refine AW.skip (AW.tn ?_)
    obtain ⟨y6, y7, e8, h⟩ := bind2_some h
    refine AW.sg tt_ok1 [(6, vl 1 Ru32 y6)] [] [] 8 [hn, hn, hk (rl_ref10_FromInt_con (i64.wrap (2 * p1)) (y6, y7) e8)] (by kernel_rfl) ?_
    obtain ⟨y9, y10, e11, h⟩ := bind2_some h
    refine AW.sg tt_ok1 [(9, vi64 y10), (8, vl 1 Ru32 y9)] [] [] 16 [hn, hn, hn, hk (rl_ref10_Mul_con p0.Num y6 (y9, y10) e11)] (by kernel_rfl) ?_
    refine AW.seq ?_
    refine AW.sg tt_ok1 [(39, vb (y10 != 0))] [] [] 18 [] (by kernel_rfl) ?_
    refine AW.co h (by kernel_rfl) (fun c12 h => ?_) (fun c12 h => ?_)
    ·
     refine AW.sg tt_ok1 [(5, vi64 y10), (4, vi64 0)] [] [] 21 [] (by kernel_rfl) ?_
     refine AW.ret (AW.tr ?_)
     obtain rfl := some_inj h
     exact fn0 (.inr rfl) [] 0 (.tup [vi64 0, vi64 y10]) (by kernel_rfl)
    ·
     refine AW.skip (AW.tn (AW.seq ?_))
     obtain ⟨y13, y14, e15, h⟩ := bind2_some h
     refine AW.sg tt_ok1 [(9, vi64 y14), (8, vl 1 Ru32 y13)] [] [] 26 [hn, hn, hn, hk (rl_ref10_Add_con y9 p0.Den (y13, y14) e15)] (by kernel_rfl) ?_
     refine AW.sg tt_ok1 [(49, vb (y14 != 0))] [] [] 28 [] (by kernel_rfl) ?_
     refine AW.co h (by kernel_rfl) (fun c16 h => ?_) (fun c16 h => ?_)
     ·
      refine AW.sg tt_ok1 [(5, vi64 y14), (4, vi64 0)] [] [] 31 [] (by kernel_rfl) ?_
      refine AW.ret (AW.tr ?_)
      obtain rfl := some_inj h
      exact fn0 (.inr rfl) [] 0 (.tup [vi64 0, vi64 y14]) (by kernel_rfl)
     ·
      refine AW.skip (AW.tn ?_)
      obtain ⟨y17, y18, e19, h⟩ := bind2_some h
      refine AW.sg tt_ok1 [(9, vi64 y18), (10, vl 1 Ru32 y17)] [] [] 37 [hn, hn, hn, hn, hk (rl_ref10_Add_con p0.Den p0.Den (y17, y18) e19)] (by kernel_rfl) ?_
      refine AW.seq ?_
      refine AW.sg tt_ok1 [(60, vb (y18 != 0))] [] [] 39 [] (by kernel_rfl) ?_
      refine AW.co h (by kernel_rfl) (fun c20 h => ?_) (fun c20 h => ?_)
      ·
       refine AW.sg tt_ok1 [(5, vi64 y18), (4, vi64 0)] [] [] 42 [] (by kernel_rfl) ?_
       refine AW.ret (AW.tr ?_)
       obtain rfl := some_inj h
       exact fn0 (.inr rfl) [] 0 (.tup [vi64 0, vi64 y18]) (by kernel_rfl)
      ·
       refine AW.skip (AW.tn ?_)
       obtain ⟨y21, y22, y23, e24, h⟩ := bind3_some h
       refine AW.sg tt_ok1 [(11, vl 1 Ru32 y21)] [] [] 48 [hn, hn, hk (rl_ref10_DivMod_con y13 y17 (y21, y22, y23) e24)] (by kernel_rfl) ?_
       obtain ⟨y25, y26, e27, h⟩ := bind2_some h
       refine AW.sg tt_ok1 [(15, vb y26), (14, vi64 y25)] [] [] 54 [hn, hk (rl_ref10_Int_con y21 (y25, y26) e27)] (by kernel_rfl) ?_
       refine AW.seq ?_
       refine AW.sg tt_ok1 [(75, vb (!y26))] [] [] 56 [] (by kernel_rfl) ?_
       refine AW.co h (by kernel_rfl) (fun c28 h => ?_) (fun c28 h => ?_)
       ·
        refine AW.sg tt_ok1 [(5, vi64 1), (4, vi64 0)] [] [] 58 [] (by kernel_rfl) ?_
        refine AW.ret (AW.tr ?_)
        obtain rfl := some_inj h
        exact fn0 (.inr rfl) [] 0 (.tup [vi64 0, vi64 1]) (by kernel_rfl)
       ·
        refine AW.skip (AW.tn ?_)
        refine AW.sg tt_ok1 [(5, vi64 0), (4, vi64 y25)] [] [] 59 [] (by kernel_rfl) ?_
        refine AW.ret ?_
        obtain rfl := some_inj h
        exact fn0 (.inr rfl) [] 0 (.tup [vi64 y25, vi64 0]) (by kernel_rfl)
  ·
   rcases ifs h with ⟨c29, h⟩ | ⟨c29, h⟩
   ·
    refine AW.rg tt_ok1 [(24, vb true)] [] [] 11 [hn, ht c29] (by kernel_rfl) ?_
    exact jl true h (conv_re [(0, 0)] (by kernel_rfl))
   ·
    refine AW.rg tt_ok1 [(24, vb (decide (p1 > 4294967296)))] [] [] 11 [hn, hf c29] (by kernel_rfl) ?_
    exact jl (decide (p1 > 4294967296)) h (conv_re [(0, 0)] (by kernel_rfl))
end Go.Proofs.Ytnfikddgjkfflaa
