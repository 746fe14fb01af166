/- Printed by a program of mine (vmgen.py): Go functions, and what they come to. -/
import Derived.Test.YtjedagkkeicpkaaVr
import Derived.Test.YtjedagkkeicpkaaRows
import Derived.Test.YtjedagkkeicpkaaG0
namespace Go.Proofs.Ytjedagkkeicpkaa
open Vm
open IntKind (i64 u64 u32 u8)
set_option maxHeartbeats 10000000
set_option linter.unusedVariables false
set_option linter.unusedSimpArgs false
set_option linter.constructorNameAsVariable false
def ttlL5 : List (Nat × TI) := [(3, ⟨.int .i64, 1, 8, [.int .i64 0], false⟩), (4, ⟨.bool, 1, 1, [.bool false], false⟩), (5, ⟨.int .u8, 1, 1, [.int .u8 0], false⟩), (9, ⟨.str, 1, 16, [.string ⟨#[]⟩], false⟩), (22, ⟨.slice 3, 1, 24, [.slice none 0 0], false⟩), (23, ⟨.int .u64, 1, 8, [.int .u64 0], false⟩), (26, ⟨.ptr 49, 1, 8, [.pointer none], false⟩), (28, ⟨.slice 9, 1, 24, [.slice none 0 0], false⟩), (31, ⟨.slice 5, 1, 24, [.slice none 0 0], false⟩), (34, ⟨.int .i64, 1, 8, [.int .i64 0], false⟩), (45, ⟨.int .u64, 1, 8, [.int .u64 0], false⟩), (49, ⟨.struct [(22, 0), (3, 1), (23, 2)], 3, 40, [.slice none 0 0, .int .i64 0, .int .u64 0], false⟩), (52, ⟨.struct [(23, 0), (23, 1)], 2, 16, [.int .u64 0, .int .u64 0], true⟩), (62, ⟨.struct [(23, 0), (23, 1), (23, 2), (23, 3)], 4, 32, [.int .u64 0, .int .u64 0, .int .u64 0, .int .u64 0], true⟩), (66, ⟨.arr 4 23, 4, 32, [.int .u64 0, .int .u64 0, .int .u64 0, .int .u64 0], true⟩)]
theorem tt_okL5 : TTok Try.prog (Vm.look ttlL5) := ttok_of ⟨⟨by kernel_rfl, by kernel_rfl, by kernel_rfl⟩, ⟨by kernel_rfl, by kernel_rfl, by kernel_rfl⟩, ⟨by kernel_rfl, by kernel_rfl, by kernel_rfl⟩, ⟨by kernel_rfl, by kernel_rfl, by kernel_rfl⟩, ⟨by kernel_rfl, by kernel_rfl, by kernel_rfl⟩, ⟨by kernel_rfl, by kernel_rfl, by kernel_rfl⟩, ⟨by kernel_rfl, by kernel_rfl, by kernel_rfl⟩, ⟨by kernel_rfl, by kernel_rfl, by kernel_rfl⟩, ⟨by kernel_rfl, by kernel_rfl, by kernel_rfl⟩, ⟨by kernel_rfl, by kernel_rfl, by kernel_rfl⟩, ⟨by kernel_rfl, by kernel_rfl, by kernel_rfl⟩, ⟨by kernel_rfl, by kernel_rfl, by kernel_rfl⟩, ⟨by kernel_rfl, by kernel_rfl, by kernel_rfl⟩, ⟨by kernel_rfl, by kernel_rfl, by kernel_rfl⟩, ⟨by kernel_rfl, by kernel_rfl, by kernel_rfl⟩, trivial⟩
theorem moL5 : Try.prog.follows .mixedOrders = true := by kernel_rfl
/-! recordlink/recordlinklaw38.JournalTorn -/
noncomputable def rl_law38_JournalTorn_k3 (x20 : Int) (x24 : Int) (x25 : Int) (x26 : Int) : Option ((Int × Int × Int × Int) ⊕ (Int × Int)) := some (.inl (x24, x25, x26, i64.wrap (x20 + 1)))
noncomputable def rl_law38_JournalTorn_l2 (y8 : List ByteArray) (y11 : Int) (x17 : Int) (x18 : Int) (x19 : Int) (x20 : Int) : Option ((Int × Int × Int × Int) ⊕ (Int × Int)) := if (decide (x20 < (y8.length : Int))) = true then (if 0 ≤ x20 then (if x20 < (y8.length : Int) then ((some (i64.wrap (x17 + (i64.wrap (12 + (((y8.getD (0 + x20.toNat) ByteArray.empty).size : Nat) : Int)))))).bind fun z29 => (if (decide (z29 ≤ y11)) = true then (rl_law38_JournalTorn_k3 x20 z29 (i64.wrap (x18 + 1)) z29) else (rl_law38_JournalTorn_k3 x20 z29 x18 x19))) else none) else none) else (some (.inr (x18, x19)))
noncomputable def rl_law38_JournalTorn_k4 (x40 : Bool) : Option Bool := some x40
noncomputable def rl_law38_JournalTorn_k1 (p0 : List Int) (p1 : Int) (x1 : Bool) : Option Bool := if x1 = true then ((rl_law38_awake).bind fun y3 => (some y3)) else ((rl_make_New p0).bind fun y5 => (bind3 (rl_law38_made y5 5) fun y7 y8 y9 => ((rl_make_Mod p1 (i64.wrap (((y7.size : Nat) : Int) + 1))).bind fun y11 => (bind2 (loop (fun v : Int × Int × Int × Int => rl_law38_JournalTorn_l2 y8 y11 v.1 v.2.1 v.2.2.1 v.2.2.2) (0, 0, 0, 0)) fun x32 x33 => (if 0 ≤ y11 then (if y11.toNat ≤ y7.size then (bind3 (journal_Read (y7.extract 0 y11.toNat)) fun y36 y37 y38 => (if ((y36.length : Int) == x32) = true then (if (y37 == x33) = true then (if ((y38 == 0) == (y37 == y11)) = true then (if (y38 == 0) = true then (if 0 ≤ x32 then (if x32.toNat ≤ y8.length then ((rl_ref38_Same y36 (y8.take x32.toNat)).bind fun y47 => (if 0 + x32.toNat ≤ y8.length then (if y47 = true then ((journal_Whole (y7.extract 0 y11.toNat)).bind fun y51 => (if 0 ≤ x33 then (if x33.toNat ≤ y7.size then (rl_law38_JournalTorn_k4 (y51.toList == (y7.extract 0 x33.toNat).toList)) else none) else none)) else (rl_law38_JournalTorn_k4 false)) else none)) else none) else none) else (if (y38 == 15) = true then (if 0 ≤ x32 then (if x32.toNat ≤ y8.length then ((rl_ref38_Same y36 (y8.take x32.toNat)).bind fun y58 => (if 0 + x32.toNat ≤ y8.length then (if y58 = true then ((journal_Whole (y7.extract 0 y11.toNat)).bind fun y62 => (if 0 ≤ x33 then (if x33.toNat ≤ y7.size then (rl_law38_JournalTorn_k4 (y62.toList == (y7.extract 0 x33.toNat).toList)) else none) else none)) else (rl_law38_JournalTorn_k4 false)) else none)) else none) else none) else (rl_law38_JournalTorn_k4 false))) else (rl_law38_JournalTorn_k4 false)) else (rl_law38_JournalTorn_k4 false)) else (rl_law38_JournalTorn_k4 false))) else none) else none)))))
noncomputable def rl_law38_JournalTorn (p0 : List Int) (p1 : Int) : Option Bool := (rl_law38_awake).bind fun y67 => (if (!y67) = true then (rl_law38_JournalTorn_k1 p0 p1 true) else ((rl_make_Few p0).bind fun y70 => (rl_law38_JournalTorn_k1 p0 p1 (!y70))))
set_option maxRecDepth 100000 in
theorem rl_law38_JournalTorn_con (p0 : List Int) (p1 : Int) (r : Bool) (h : rl_law38_JournalTorn p0 p1 = some r) : Con Try.prog 5 [vl 1 Ri64 p0, vi64 p1] [] (vb r) [] := by
 refine con_of tt_okL5 0 Try.func5 (by kernel_rfl) rfl (by kernel_rfl) (fun base X _ => AW.post ?_)
 unfold rl_law38_JournalTorn at h
 refine AW.sg tt_okL5 [] [] [] 1 [] (by kernel_rfl) ?_
 refine AW.seq (AW.seq ?_)
 refine AW.join (ι := Bool) (fun v => ⟨[(0, vl 1 Ri64 p0), (1, vi64 p1), (22, vb v)], [], 0⟩) (fun v : Bool => rl_law38_JournalTorn_k1 p0 p1 v = some r) (fun x1 h => ?_) ?_
 ·
  unfold rl_law38_JournalTorn_k1 at h
  refine AW.tn ?_
  refine AW.co h (by kernel_rfl) (fun c2 h => ?_) (fun c2 h => ?_)
  ·
   obtain ⟨y3, e4, h⟩ := bnd_some h
   refine AW.sg tt_okL5 [(4, vb y3)] [] [] 1 [hk (rl_law38_awake_con y3 e4)] (by kernel_rfl) ?_
   refine AW.ret (AW.tr ?_)
   obtain rfl := some_inj h
   exact fn0 (.inr rfl) [] 0 (vb y3) (by kernel_rfl)
  ·
   refine AW.skip (AW.tn ?_)
   obtain ⟨y5, e6, h⟩ := bnd_some h
   obtain ⟨y7, y8, y9, e10, h⟩ := bind3_some h
   refine AW.sg tt_okL5 [(6, .c (.ref 2 1 0 y8.length)), (5, vs y7)] [1, 2] [(2, .row 9 false 1 y8.length (Rs y8))] 8 [hn, hl [] [] 1 (rl_make_New_con p0 y5 e6), hl [1] [] 1 (rl_law38_made_con y5 5 (y7, y8, y9) e10)] (by kernel_rfl) ?_
   obtain ⟨y11, e12, h⟩ := bnd_some h
   refine AW.sg tt_okL5 [(7, vi64 y11)] [] [] 13 [hn, hn, hn, hn, hk (rl_make_Mod_con p1 (i64.wrap (((y7.size : Nat) : Int) + 1)) y11 e12)] (by kernel_rfl) ?_
   refine AW.sg tt_okL5 [(10, vi64 0), (9, vi64 0), (8, vi64 0)] [] [] 16 [] (by kernel_rfl) ?_
   refine AW.seq ?_
   refine AW.sg tt_okL5 [(37, vi64 0), (36, vi64 (y8.length : Int)), (35, .c (.ref 2 1 0 y8.length))] [] [] 19 [] (by kernel_rfl) ?_
   refine AW.block ?_
   obtain ⟨x32, x33, l66, h⟩ := bind2_some h
   refine AW.lp l66 (fun v => ⟨[(5, vs y7), (6, .c (.ref 0 1 0 y8.length)), (7, vi64 y11), (8, vi64 v.1), (9, vi64 v.2.1), (10, vi64 v.2.2.1), (35, .c (.ref 0 1 0 y8.length)), (36, vi64 (y8.length : Int)), (37, vi64 v.2.2.2)], [(0, .row 9 false 1 y8.length (Rs y8))], 1⟩) (fun t : Int × Int => (.exit 0, ⟨[(5, vs y7), (6, .c (.ref 0 1 0 y8.length)), (7, vi64 y11), (9, vi64 t.1), (10, vi64 t.2)], [(0, .row 9 false 1 y8.length (Rs y8))], 1⟩)) (conv_re [(0, 2)] (by kernel_rfl)) (fun _ => tv) ?_ ?_
   ·
    clear l66 h
    intro v o h
    obtain ⟨x17, x18, x19, x20⟩ := v
    replace h : rl_law38_JournalTorn_l2 y8 y11 x17 x18 x19 x20 = some o := h
    unfold rl_law38_JournalTorn_l2 at h
    refine AW.sg tt_okL5 [(38, vb (decide (x20 < (y8.length : Int))))] [] [] 2 [] (by kernel_rfl) ?_
    refine AW.seq ?_
    refine AW.co h (by kernel_rfl) (fun c23 h => ?_) (fun c23 h => ?_)
    ·
     refine AW.skip (AW.tn (AW.seq ?_))
     refine AW.join (ι := Int × Int × Int) (fun v => ⟨[(5, vs y7), (6, .c (.ref 0 1 0 y8.length)), (7, vi64 y11), (8, vi64 v.1), (9, vi64 v.2.1), (10, vi64 v.2.2), (35, .c (.ref 0 1 0 y8.length)), (36, vi64 (y8.length : Int)), (37, vi64 x20)], [(0, .row 9 false 1 y8.length (Rs y8))], 1⟩) (fun v : Int × Int × Int => rl_law38_JournalTorn_k3 x20 v.1 v.2.1 v.2.2 = some o) (fun v h => ?_) ?_
     ·
      obtain ⟨x24, x25, x26⟩ := v
      replace h : rl_law38_JournalTorn_k3 x20 x24 x25 x26 = some o := h
      unfold rl_law38_JournalTorn_k3 at h
      refine AW.tn ?_
      refine AW.rg tt_okL5 [(37, vi64 (i64.wrap (x20 + 1)))] [] [] 3 [] (by kernel_rfl) ?_
      exact lpn h (conv_re [(0, 0)] (by kernel_rfl))
     ·
      refine AW.block ?_
      obtain ⟨g27, g28, h⟩ := ifd h
      refine AW.sg tt_okL5 [(12, vs (y8.getD (0 + x20.toNat) ByteArray.empty))] [] [] 5 [hq g27 g28, ho (p := (0 + x20.toNat) < y8.length) (by have h1 : 0 ≤ x20 := g27; have h2 : x20 < (y8.length : Int) := g28; omega)] (by kernel_rfl) ?_
      obtain ⟨z29, n30, h⟩ := bnd_some h
      replace n30 := some_inj n30
      refine AW.sg tt_okL5 [(8, vi64 z29)] [] [] 11 [] (by subst n30; kernel_rfl) ?_
      refine AW.sg tt_okL5 [(48, vb (decide (z29 ≤ y11)))] [] [] 14 [] (by kernel_rfl) ?_
      refine AW.co h (by kernel_rfl) (fun c31 h => ?_) (fun c31 h => ?_)
      ·
       refine AW.rg tt_okL5 [(10, vi64 z29), (9, vi64 (i64.wrap (x18 + 1)))] [] [] 19 [] (by kernel_rfl) ?_
       refine AW.inBlock_normal ?_
       exact jl (z29, i64.wrap (x18 + 1), z29) h (conv_re [(0, 0)] (by kernel_rfl))
      ·
       refine AW.skip (AW.inBlock_normal ?_)
       exact jl (z29, x18, x19) h (conv_re [(0, 0)] (by kernel_rfl))
    ·
     refine AW.exit (AW.thenQ_exit ?_)
     exact lpo h rfl (conv_re [(0, 0)] (by kernel_rfl))
   ·
    show (_ : Exit → St → Prop) (.exit 0) _
    refine AW.inBlock_hit (AW.tn ?_)
    obtain ⟨g34, g35, h⟩ := ifd h
    obtain ⟨y36, y37, y38, e39, h⟩ := bind3_some h
    refine AW.sg tt_okL5 [(15, vi64 y38), (14, vi64 y37), (13, .c (.ref 4 1 0 y36.length))] [4] [(4, .row 9 false 1 y36.length (Rs y36))] 12 [hn, hn, ho (p := (True) ∧ (0 ≤ y11) ∧ (0 ≤ y11.toNat) ∧ (y11.toNat ≤ y7.size)) (⟨tv, g34, (Nat.zero_le _), g35⟩), hm [] [] 1 (journal_Read_con (y7.extract 0 y11.toNat) (y36, y37, y38) e39) ⟨rowL_flat Vs _ _ _, tv⟩] (by kernel_rfl) ?_
    refine AW.seq ?_
    refine AW.join (ι := Bool) (fun v => ⟨[(4, vb v)], [], 0⟩) (fun v : Bool => rl_law38_JournalTorn_k4 v = some r) (fun x40 h => ?_) ?_
    ·
     unfold rl_law38_JournalTorn_k4 at h
     refine AW.tn (AW.ret ?_)
     obtain rfl := some_inj h
     exact fn0 (.inr rfl) [] 0 (vb x40) (by kernel_rfl)
    ·
     rcases ifs h with ⟨c41, h⟩ | ⟨c41, h⟩
     ·
      rcases ifs h with ⟨c42, h⟩ | ⟨c42, h⟩
      ·
       rcases ifs h with ⟨c43, h⟩ | ⟨c43, h⟩
       ·
        rcases ifs h with ⟨c44, h⟩ | ⟨c44, h⟩
        ·
         obtain ⟨g45, g46, h⟩ := ifd h
         obtain ⟨y47, e48, h⟩ := bnd_some h
         obtain ⟨g49, h⟩ := ifc h
         rcases ifs h with ⟨c50, hs⟩ | ⟨c50, hs⟩
         ·clear h; subst c50; have h := hs; clear hs
          obtain ⟨y51, e52, h⟩ := bnd_some h
          obtain ⟨g53, g54, h⟩ := ifd h
          refine AW.rd tt_okL5 moL5 [] [(4, vb (y51.toList == (y7.extract 0 x33.toNat).toList))] [] 53 [hn, hn, hn, ht c41, hn, hn, hn, ht c42, hn, hn, hn, hn, hn, hn, hn, ht c43, hn, hn, hn, ht c44, hn, hn, hn, hn, hn, hn, hn, hn, hn, ho (p := (True) ∧ (0 ≤ x32) ∧ (0 ≤ x32.toNat) ∧ (x32.toNat ≤ y8.length)) (⟨tv, g45, (Nat.zero_le _), g46⟩), hg [] [] true 0 (q := (0 + y36.length ≤ y36.length) ∧ (0 + x32.toNat ≤ y8.length) ∧ (True)) ⟨le0, g49, tv⟩ (a0 := [vl 1 Rs y36, .c (.t (.tree x32.toNat 1 (Rs y8)))]) (rl_ref38_Same_con y36 (y8.take x32.toNat) true e48) ⟨ArgLe.refl _, ArgLe.c (CAle.tree (take_row (by omega))), tv⟩ (fun _ => tv), hn, hn, hn, hn, ho (p := (True) ∧ (0 ≤ y11) ∧ (0 ≤ y11.toNat) ∧ (y11.toNat ≤ y7.size)) (⟨tv, g34, (Nat.zero_le _), g35⟩), hk (journal_Whole_con (y7.extract 0 y11.toNat) y51 e52), hn, hn, ho (p := (True) ∧ (0 ≤ x33) ∧ (0 ≤ x33.toNat) ∧ (x33.toNat ≤ y7.size)) (⟨tv, g53, (Nat.zero_le _), g54⟩)] (by kernel_rfl) ?_
          exact jl (y51.toList == (y7.extract 0 x33.toNat).toList) h (conv_re [] (by kernel_rfl))
         ·clear h; subst c50; have h := hs; clear hs
          refine AW.rd tt_okL5 moL5 [] [(4, vb false)] [] 54 [hn, hn, hn, ht c41, hn, hn, hn, ht c42, hn, hn, hn, hn, hn, hn, hn, ht c43, hn, hn, hn, ht c44, hn, hn, hn, hn, hn, hn, hn, hn, hn, ho (p := (True) ∧ (0 ≤ x32) ∧ (0 ≤ x32.toNat) ∧ (x32.toNat ≤ y8.length)) (⟨tv, g45, (Nat.zero_le _), g46⟩), hg [] [] true 0 (q := (0 + y36.length ≤ y36.length) ∧ (0 + x32.toNat ≤ y8.length) ∧ (True)) ⟨le0, g49, tv⟩ (a0 := [vl 1 Rs y36, .c (.t (.tree x32.toNat 1 (Rs y8)))]) (rl_ref38_Same_con y36 (y8.take x32.toNat) false e48) ⟨ArgLe.refl _, ArgLe.c (CAle.tree (take_row (by omega))), tv⟩ (fun _ => tv)] (by kernel_rfl) ?_
          exact jl false h (conv_re [] (by kernel_rfl))
        ·
         rcases ifs h with ⟨c55, h⟩ | ⟨c55, h⟩
         ·
          obtain ⟨g56, g57, h⟩ := ifd h
          obtain ⟨y58, e59, h⟩ := bnd_some h
          obtain ⟨g60, h⟩ := ifc h
          rcases ifs h with ⟨c61, hs⟩ | ⟨c61, hs⟩
          ·clear h; subst c61; have h := hs; clear hs
           obtain ⟨y62, e63, h⟩ := bnd_some h
           obtain ⟨g64, g65, h⟩ := ifd h
           refine AW.rd tt_okL5 moL5 [] [(4, vb (y62.toList == (y7.extract 0 x33.toNat).toList))] [] 53 [hn, hn, hn, ht c41, hn, hn, hn, ht c42, hn, hn, hn, hn, hn, hn, hn, ht c43, hn, hn, hn, hf c44, hn, hn, ht c55, hn, hn, hn, hn, hn, hn, ho (p := (True) ∧ (0 ≤ x32) ∧ (0 ≤ x32.toNat) ∧ (x32.toNat ≤ y8.length)) (⟨tv, g56, (Nat.zero_le _), g57⟩), hg [] [] true 0 (q := (0 + y36.length ≤ y36.length) ∧ (0 + x32.toNat ≤ y8.length) ∧ (True)) ⟨le0, g60, tv⟩ (a0 := [vl 1 Rs y36, .c (.t (.tree x32.toNat 1 (Rs y8)))]) (rl_ref38_Same_con y36 (y8.take x32.toNat) true e59) ⟨ArgLe.refl _, ArgLe.c (CAle.tree (take_row (by omega))), tv⟩ (fun _ => tv), hn, hn, hn, hn, ho (p := (True) ∧ (0 ≤ y11) ∧ (0 ≤ y11.toNat) ∧ (y11.toNat ≤ y7.size)) (⟨tv, g34, (Nat.zero_le _), g35⟩), hk (journal_Whole_con (y7.extract 0 y11.toNat) y62 e63), hn, hn, ho (p := (True) ∧ (0 ≤ x33) ∧ (0 ≤ x33.toNat) ∧ (x33.toNat ≤ y7.size)) (⟨tv, g64, (Nat.zero_le _), g65⟩)] (by kernel_rfl) ?_
           exact jl (y62.toList == (y7.extract 0 x33.toNat).toList) h (conv_re [] (by kernel_rfl))
          ·clear h; subst c61; have h := hs; clear hs
           refine AW.rd tt_okL5 moL5 [] [(4, vb false)] [] 54 [hn, hn, hn, ht c41, hn, hn, hn, ht c42, hn, hn, hn, hn, hn, hn, hn, ht c43, hn, hn, hn, hf c44, hn, hn, ht c55, hn, hn, hn, hn, hn, hn, ho (p := (True) ∧ (0 ≤ x32) ∧ (0 ≤ x32.toNat) ∧ (x32.toNat ≤ y8.length)) (⟨tv, g56, (Nat.zero_le _), g57⟩), hg [] [] true 0 (q := (0 + y36.length ≤ y36.length) ∧ (0 + x32.toNat ≤ y8.length) ∧ (True)) ⟨le0, g60, tv⟩ (a0 := [vl 1 Rs y36, .c (.t (.tree x32.toNat 1 (Rs y8)))]) (rl_ref38_Same_con y36 (y8.take x32.toNat) false e59) ⟨ArgLe.refl _, ArgLe.c (CAle.tree (take_row (by omega))), tv⟩ (fun _ => tv)] (by kernel_rfl) ?_
           exact jl false h (conv_re [] (by kernel_rfl))
         ·
          refine AW.rd tt_okL5 moL5 [] [(4, vb false)] [] 55 [hn, hn, hn, ht c41, hn, hn, hn, ht c42, hn, hn, hn, hn, hn, hn, hn, ht c43, hn, hn, hn, hf c44, hn, hn, hf c55] (by kernel_rfl) ?_
          exact jl false h (conv_re [] (by kernel_rfl))
       ·
        refine AW.rd tt_okL5 moL5 [] [(4, vb false)] [] 55 [hn, hn, hn, ht c41, hn, hn, hn, ht c42, hn, hn, hn, hn, hn, hn, hn, hf c43] (by kernel_rfl) ?_
        exact jl false h (conv_re [] (by kernel_rfl))
      ·
       refine AW.rd tt_okL5 moL5 [] [(4, vb false)] [] 55 [hn, hn, hn, ht c41, hn, hn, hn, hf c42] (by kernel_rfl) ?_
       exact jl false h (conv_re [] (by kernel_rfl))
     ·
      refine AW.rd tt_okL5 moL5 [] [(4, vb false)] [] 55 [hn, hn, hn, hf c41] (by kernel_rfl) ?_
      exact jl false h (conv_re [] (by kernel_rfl))
 ·
  obtain ⟨y67, e68, h⟩ := bnd_some h
  rcases ifs h with ⟨c69, h⟩ | ⟨c69, h⟩
  ·
   refine AW.rg tt_okL5 [(22, vb true)] [] [] 7 [hk (rl_law38_awake_con y67 e68), ht c69] (by kernel_rfl) ?_
   exact jl true h (conv_re [] (by kernel_rfl))
  ·
   obtain ⟨y70, e71, h⟩ := bnd_some h
   refine AW.rg tt_okL5 [(22, vb (!y70))] [] [] 6 [hk (rl_law38_awake_con y67 e68), hf c69, hn, hn, hk (rl_make_Few_con p0 y70 e71)] (by kernel_rfl) ?_
   exact jl (!y70) h (conv_re [] (by kernel_rfl))
end Go.Proofs.Ytjedagkkeicpkaa
