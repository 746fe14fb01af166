/- Printed by a program of mine (vmgen.py): Go functions, and what they come to. -/
import Derived.Test.YtjedagkkeicpkaaVr
import Derived.Test.YtjedagkkeicpkaaRows
import Derived.Test.YtjedagkkeicpkaaG0
namespace Go.Proofs.Ytjedagkkeicpkaa
open Vm
open IntKind (i64 u64 u32 u8)
set_option maxHeartbeats 10000000
set_option linter.unusedVariables false
set_option linter.unusedSimpArgs false
set_option linter.constructorNameAsVariable false
def ttlL6 : List (Nat × TI) := [(3, ⟨.int .i64, 1, 8, [.int .i64 0], false⟩), (4, ⟨.bool, 1, 1, [.bool false], false⟩), (5, ⟨.int .u8, 1, 1, [.int .u8 0], false⟩), (9, ⟨.str, 1, 16, [.string ⟨#[]⟩], false⟩), (22, ⟨.slice 3, 1, 24, [.slice none 0 0], false⟩), (23, ⟨.int .u64, 1, 8, [.int .u64 0], false⟩), (26, ⟨.ptr 49, 1, 8, [.pointer none], false⟩), (28, ⟨.slice 9, 1, 24, [.slice none 0 0], false⟩), (31, ⟨.slice 5, 1, 24, [.slice none 0 0], false⟩), (34, ⟨.int .i64, 1, 8, [.int .i64 0], false⟩), (45, ⟨.int .u64, 1, 8, [.int .u64 0], false⟩), (49, ⟨.struct [(22, 0), (3, 1), (23, 2)], 3, 40, [.slice none 0 0, .int .i64 0, .int .u64 0], false⟩), (52, ⟨.struct [(23, 0), (23, 1)], 2, 16, [.int .u64 0, .int .u64 0], true⟩), (62, ⟨.struct [(23, 0), (23, 1), (23, 2), (23, 3)], 4, 32, [.int .u64 0, .int .u64 0, .int .u64 0, .int .u64 0], true⟩), (66, ⟨.arr 4 23, 4, 32, [.int .u64 0, .int .u64 0, .int .u64 0, .int .u64 0], true⟩)]
theorem tt_okL6 : TTok Try.prog (Vm.look ttlL6) := ttok_of ⟨⟨by kernel_rfl, by kernel_rfl, by kernel_rfl⟩, ⟨by kernel_rfl, by kernel_rfl, by kernel_rfl⟩, ⟨by kernel_rfl, by kernel_rfl, by kernel_rfl⟩, ⟨by kernel_rfl, by kernel_rfl, by kernel_rfl⟩, ⟨by kernel_rfl, by kernel_rfl, by kernel_rfl⟩, ⟨by kernel_rfl, by kernel_rfl, by kernel_rfl⟩, ⟨by kernel_rfl, by kernel_rfl, by kernel_rfl⟩, ⟨by kernel_rfl, by kernel_rfl, by kernel_rfl⟩, ⟨by kernel_rfl, by kernel_rfl, by kernel_rfl⟩, ⟨by kernel_rfl, by kernel_rfl, by kernel_rfl⟩, ⟨by kernel_rfl, by kernel_rfl, by kernel_rfl⟩, ⟨by kernel_rfl, by kernel_rfl, by kernel_rfl⟩, ⟨by kernel_rfl, by kernel_rfl, by kernel_rfl⟩, ⟨by kernel_rfl, by kernel_rfl, by kernel_rfl⟩, ⟨by kernel_rfl, by kernel_rfl, by kernel_rfl⟩, trivial⟩
theorem moL6 : Try.prog.follows .mixedOrders = true := by kernel_rfl
/-! recordlink/recordlinklaw38.JournalDamage -/
noncomputable def rl_law38_JournalDamage_k3 (x21 : Int) (x25 : Int) (x26 : Int) (x27 : Int) : Option ((Int × Int × Int × Int) ⊕ (Int × Int)) := some (.inl (x25, x26, x27, i64.wrap (x21 + 1)))
noncomputable def rl_law38_JournalDamage_l2 (y8 : List ByteArray) (y12 : Int) (x18 : Int) (x19 : Int) (x20 : Int) (x21 : Int) : Option ((Int × Int × Int × Int) ⊕ (Int × Int)) := if (decide (x21 < (y8.length : Int))) = true then (if 0 ≤ x21 then (if x21 < (y8.length : Int) then ((some (i64.wrap (x19 + (i64.wrap (12 + (((y8.getD (0 + x21.toNat) ByteArray.empty).size : Nat) : Int)))))).bind fun z30 => (if (decide (z30 ≤ y12)) = true then (rl_law38_JournalDamage_k3 x21 (i64.wrap (x18 + 1)) z30 (i64.wrap (y12 - z30))) else (rl_law38_JournalDamage_k3 x21 x18 z30 x20))) else none) else none) else (some (.inr (x18, x20)))
noncomputable def rl_law38_JournalDamage_k4 (x44 : Bool) : Option Bool := some x44
noncomputable def rl_law38_JournalDamage_k5 (x49 : Bool) : Option Bool := some x49
noncomputable def rl_law38_JournalDamage_l6 (y8 : List ByteArray) (x33 : Int) (x59 : List Int) (x60 : Int) (x61 : Int) : Option (((List Int) × Int × Int) ⊕ ((List Int) × Int)) := if (decide (x61 < ((x33.toNat : Nat) : Int))) = true then (if 0 ≤ x61 then (if x61 < ((x33.toNat : Nat) : Int) then (if (0 + x61.toNat) < y8.length then ((rl_ref38_Sum x60 (y8.getD (0 + x61.toNat) ByteArray.empty)).bind fun y68 => (some (.inl (x59, y68, i64.wrap (x61 + 1))))) else none) else none) else none) else (some (.inr (x59, x60)))
noncomputable def rl_law38_JournalDamage_k7 (x72 : Bool) : Option Bool := some x72
noncomputable def rl_law38_JournalDamage_k1 (p0 : List Int) (p1 : Int) (p2 : Int) (x1 : Bool) : Option Bool := if x1 = true then ((rl_law38_awake).bind fun y3 => (some y3)) else ((rl_make_New p0).bind fun y5 => (bind3 (rl_law38_made y5 5) fun y7 y8 y9 => (if (((y7.size : Nat) : Int) == 0) = true then (some true) else ((rl_make_Mod p1 ((y7.size : Nat) : Int)).bind fun y12 => (bind2 (loop (fun v : Int × Int × Int × Int => rl_law38_JournalDamage_l2 y8 y12 v.1 v.2.1 v.2.2.1 v.2.2.2) (0, 0, y12, 0)) fun x33 x34 => (if y7.size ≤ maxLen then (if 0 ≤ y12 then (if y12 < (((bytesL y7).length : Nat) : Int) then (if 0 + (bytesL y7).length ≤ (bytesL y7).length then (bind3 (journal_Read (strP 0 ((bytesL y7).length) ((bytesL y7).set (0 + y12.toNat) (ixor .u8 ((bytesL y7).getD (0 + y12.toNat) 0) p2)))) fun y39 y40 y41 => (if (decide (x34 < 4)) = true then (if (y41 == 14) = true then (rl_law38_JournalDamage_k4 ((y39.length : Int) == x33)) else (rl_law38_JournalDamage_k4 false)) else (if 0 ≤ x33 then (if x33 < (y8.length : Int) then (if (decide (x34 ≥ (i64.wrap (4 + (((y8.getD (0 + x33.toNat) ByteArray.empty).size : Nat) : Int))))) = true then (if (y41 == 16) = true then (rl_law38_JournalDamage_k5 ((y39.length : Int) == x33)) else (rl_law38_JournalDamage_k5 false)) else (if (y8.getD (0 + x33.toNat) ByteArray.empty).size ≤ maxLen then (if 0 ≤ (i64.wrap (x34 - 4)) then (if (i64.wrap (x34 - 4)) < (((bytesL (y8.getD (0 + x33.toNat) ByteArray.empty)).length : Nat) : Int) then (if x33.toNat ≤ y8.length then (bind2 (loop (fun v : (List Int) × Int × Int => rl_law38_JournalDamage_l6 y8 x33 v.1 v.2.1 v.2.2) (((bytesL (y8.getD (0 + x33.toNat) ByteArray.empty)).set (0 + (i64.wrap (x34 - 4)).toNat) (ixor .u8 ((bytesL (y8.getD (0 + x33.toNat) ByteArray.empty)).getD (0 + (i64.wrap (x34 - 4)).toNat) 0) p2)), 0, 0)) fun x70 x71 => ((rl_ref38_Sum x71 (strOf x70)).bind fun y73 => ((rl_ref38_Sum x71 (y8.getD (0 + x33.toNat) ByteArray.empty)).bind fun y75 => (if (y73 == y75) = true then (rl_law38_JournalDamage_k7 true) else (if (y41 == 16) = true then (rl_law38_JournalDamage_k7 ((y39.length : Int) == x33)) else (rl_law38_JournalDamage_k7 false)))))) else none) else none) else none) else none)) else none) else none))) else none) else none) else none) else none))))))
noncomputable def rl_law38_JournalDamage (p0 : List Int) (p1 : Int) (p2 : Int) : Option Bool := (rl_law38_awake).bind fun y81 => (if (!y81) = true then (rl_law38_JournalDamage_k1 p0 p1 p2 true) else ((rl_make_Few p0).bind fun y84 => (if (!y84) = true then (rl_law38_JournalDamage_k1 p0 p1 p2 true) else (rl_law38_JournalDamage_k1 p0 p1 p2 (p2 == 0)))))
set_option maxRecDepth 100000 in
theorem rl_law38_JournalDamage_con (p0 : List Int) (p1 : Int) (p2 : Int) (r : Bool) (h : rl_law38_JournalDamage p0 p1 p2 = some r) : Con Try.prog 6 [vl 1 Ri64 p0, vi64 p1, vu8 p2] [] (vb r) [] := by
 refine con_of tt_okL6 0 Try.func6 (by kernel_rfl) rfl (by kernel_rfl) (fun base X _ => AW.post ?_)
 unfold rl_law38_JournalDamage at h
 refine AW.sg tt_okL6 [] [] [] 1 [] (by kernel_rfl) ?_
 refine AW.seq (AW.seq ?_)
 refine AW.join (ι := Bool) (fun v => ⟨[(0, vl 1 Ri64 p0), (1, vi64 p1), (2, vu8 p2), (33, vb v)], [], 0⟩) (fun v : Bool => rl_law38_JournalDamage_k1 p0 p1 p2 v = some r) (fun x1 h => ?_) ?_
 ·
  unfold rl_law38_JournalDamage_k1 at h
  refine AW.tn ?_
  refine AW.co h (by kernel_rfl) (fun c2 h => ?_) (fun c2 h => ?_)
  ·
   obtain ⟨y3, e4, h⟩ := bnd_some h
   refine AW.sg tt_okL6 [(6, vb y3)] [] [] 1 [hk (rl_law38_awake_con y3 e4)] (by kernel_rfl) ?_
   refine AW.ret (AW.tr ?_)
   obtain rfl := some_inj h
   exact fn0 (.inr rfl) [] 0 (vb y3) (by kernel_rfl)
  ·
   refine AW.skip (AW.tn ?_)
   obtain ⟨y5, e6, h⟩ := bnd_some h
   obtain ⟨y7, y8, y9, e10, h⟩ := bind3_some h
   refine AW.sg tt_okL6 [(8, .c (.ref 2 1 0 y8.length)), (7, vs y7)] [1, 2] [(2, .row 9 false 1 y8.length (Rs y8))] 8 [hn, hl [] [] 1 (rl_make_New_con p0 y5 e6), hl [1] [] 1 (rl_law38_made_con y5 5 (y7, y8, y9) e10)] (by kernel_rfl) ?_
   refine AW.seq ?_
   refine AW.sg tt_okL6 [(43, vb (((y7.size : Nat) : Int) == 0))] [] [] 11 [] (by kernel_rfl) ?_
   refine AW.co h (by kernel_rfl) (fun c11 h => ?_) (fun c11 h => ?_)
   ·
    refine AW.sg tt_okL6 [(6, vb true)] [] [] 12 [] (by kernel_rfl) ?_
    refine AW.ret (AW.tr ?_)
    obtain rfl := some_inj h
    exact fn0 (.inr rfl) [] 0 (vb true) (by kernel_rfl)
   ·
    refine AW.skip (AW.tn ?_)
    obtain ⟨y12, e13, h⟩ := bnd_some h
    refine AW.sg tt_okL6 [(9, vi64 y12)] [] [] 15 [hn, hn, hn, hk (rl_make_Mod_con p1 ((y7.size : Nat) : Int) y12 e13)] (by kernel_rfl) ?_
    refine AW.sg tt_okL6 [(12, vi64 y12), (11, vi64 0), (10, vi64 0)] [] [] 19 [] (by kernel_rfl) ?_
    refine AW.seq ?_
    refine AW.sg tt_okL6 [(51, vi64 0), (50, vi64 (y8.length : Int)), (49, .c (.ref 2 1 0 y8.length))] [] [] 22 [] (by kernel_rfl) ?_
    refine AW.block ?_
    obtain ⟨x33, x34, l80, h⟩ := bind2_some h
    refine AW.lp l80 (fun v => ⟨[(2, vu8 p2), (7, vs y7), (8, .c (.ref 0 1 0 y8.length)), (9, vi64 y12), (10, vi64 v.1), (11, vi64 v.2.1), (12, vi64 v.2.2.1), (49, .c (.ref 0 1 0 y8.length)), (50, vi64 (y8.length : Int)), (51, vi64 v.2.2.2)], [(0, .row 9 false 1 y8.length (Rs y8))], 1⟩) (fun t : Int × Int => (.exit 0, ⟨[(2, vu8 p2), (7, vs y7), (8, .c (.ref 0 1 0 y8.length)), (9, vi64 y12), (10, vi64 t.1), (12, vi64 t.2)], [(0, .row 9 false 1 y8.length (Rs y8))], 1⟩)) (conv_re [(0, 2)] (by kernel_rfl)) (fun _ => tv) ?_ ?_
    ·
     clear l80 h
     intro v o h
     obtain ⟨x18, x19, x20, x21⟩ := v
     replace h : rl_law38_JournalDamage_l2 y8 y12 x18 x19 x20 x21 = some o := h
     unfold rl_law38_JournalDamage_l2 at h
     refine AW.sg tt_okL6 [(52, vb (decide (x21 < (y8.length : Int))))] [] [] 2 [] (by kernel_rfl) ?_
     refine AW.seq ?_
     refine AW.co h (by kernel_rfl) (fun c24 h => ?_) (fun c24 h => ?_)
     ·
      refine AW.skip (AW.tn (AW.seq ?_))
      refine AW.join (ι := Int × Int × Int) (fun v => ⟨[(2, vu8 p2), (7, vs y7), (8, .c (.ref 0 1 0 y8.length)), (9, vi64 y12), (10, vi64 v.1), (11, vi64 v.2.1), (12, vi64 v.2.2), (49, .c (.ref 0 1 0 y8.length)), (50, vi64 (y8.length : Int)), (51, vi64 x21)], [(0, .row 9 false 1 y8.length (Rs y8))], 1⟩) (fun v : Int × Int × Int => rl_law38_JournalDamage_k3 x21 v.1 v.2.1 v.2.2 = some o) (fun v h => ?_) ?_
      ·
       obtain ⟨x25, x26, x27⟩ := v
       replace h : rl_law38_JournalDamage_k3 x21 x25 x26 x27 = some o := h
       unfold rl_law38_JournalDamage_k3 at h
       refine AW.tn ?_
       refine AW.rg tt_okL6 [(51, vi64 (i64.wrap (x21 + 1)))] [] [] 3 [] (by kernel_rfl) ?_
       exact lpn h (conv_re [(0, 0)] (by kernel_rfl))
      ·
       refine AW.block ?_
       obtain ⟨g28, g29, h⟩ := ifd h
       refine AW.sg tt_okL6 [(14, vs (y8.getD (0 + x21.toNat) ByteArray.empty))] [] [] 5 [hq g28 g29, ho (p := (0 + x21.toNat) < y8.length) (by have h1 : 0 ≤ x21 := g28; have h2 : x21 < (y8.length : Int) := g29; omega)] (by kernel_rfl) ?_
       obtain ⟨z30, n31, h⟩ := bnd_some h
       replace n31 := some_inj n31
       refine AW.sg tt_okL6 [(11, vi64 z30)] [] [] 11 [] (by subst n31; kernel_rfl) ?_
       refine AW.sg tt_okL6 [(62, vb (decide (z30 ≤ y12)))] [] [] 14 [] (by kernel_rfl) ?_
       refine AW.co h (by kernel_rfl) (fun c32 h => ?_) (fun c32 h => ?_)
       ·
        refine AW.rg tt_okL6 [(12, vi64 (i64.wrap (y12 - z30))), (10, vi64 (i64.wrap (x18 + 1)))] [] [] 21 [] (by kernel_rfl) ?_
        refine AW.inBlock_normal ?_
        exact jl (i64.wrap (x18 + 1), z30, i64.wrap (y12 - z30)) h (conv_re [(0, 0)] (by kernel_rfl))
       ·
        refine AW.skip (AW.inBlock_normal ?_)
        exact jl (x18, z30, x20) h (conv_re [(0, 0)] (by kernel_rfl))
     ·
      refine AW.exit (AW.thenQ_exit ?_)
      exact lpo h rfl (conv_re [(0, 0)] (by kernel_rfl))
    ·
     show (_ : Exit → St → Prop) (.exit 0) _
     refine AW.inBlock_hit (AW.tn ?_)
     obtain ⟨g35, h⟩ := ifc h
     refine AW.sg tt_okL6 [(15, .c (.ref 2 1 0 ((bytesL y7).length)))] [2] [(2, .row 5 false 1 (bytesL y7).length (Ru8 (bytesL y7)))] 4 [hn, hr ((bytesL y7).length) (Ru8 (bytesL y7)) (p := (y7.size ≤ maxLen) ∧ (y7.size = (bytesL y7).length ∧ ∀ i, i < (bytesL y7).length → ∀ j, j < 1 → TLe ((bytesT y7) i j) (Ru8 (bytesL y7) i j))) (⟨g35, rowT ⟨bytesL_length _, fun i hi => bytesL_row i (bytesL_length _ ▸ hi)⟩⟩)] (by kernel_rfl) ?_
     obtain ⟨g36, g37, h⟩ := ifd h
     refine AW.sg tt_okL6 [] [2] [(2, .row 5 false 1 (bytesL y7).length (Ru8 ((bytesL y7).set (0 + y12.toNat) (ixor .u8 ((bytesL y7).getD (0 + y12.toNat) 0) p2))))] 12 [hn, hn, hq g36 g37, ho (p := (0 + y12.toNat) < (bytesL y7).length) (by have h1 : 0 ≤ y12 := g36; have h2 : y12 < (((bytesL y7).length : Nat) : Int) := g37; omega), hn, hn, hq g36 g37, hset 0 Eu8 (bytesL y7) (0 + y12.toNat) (ixor .u8 ((bytesL y7).getD (0 + y12.toNat) 0) p2) (n := (bytesL y7).length) (by have h1 : 0 ≤ y12 := g36; have h2 : y12 < (((bytesL y7).length : Nat) : Int) := g37; omega) rfl] (by kernel_rfl) ?_
     obtain ⟨g38, h⟩ := ifc h
     obtain ⟨y39, y40, y41, e42, h⟩ := bind3_some h
     refine AW.sg tt_okL6 [(18, vi64 y41), (16, .c (.ref 14 1 0 y39.length))] [14] [(14, .row 9 false 1 y39.length (Rs y39))] 22 [hn, hi (fun i => ((bytesL y7).set (0 + y12.toNat) (ixor .u8 ((bytesL y7).getD (0 + y12.toNat) 0) p2)).getD (0 + i) 0) (p := (0 + (bytesL y7).length ≤ (bytesL y7).length) ∧ (∀ i, i < (bytesL y7).length → (fun i j => Ru8 ((bytesL y7).set (0 + y12.toNat) (ixor .u8 ((bytesL y7).getD (0 + y12.toNat) 0) p2)) (0 + i) j) i 0 = .v (.int .u8 (((bytesL y7).set (0 + y12.toNat) (ixor .u8 ((bytesL y7).getD (0 + y12.toNat) 0) p2)).getD (0 + i) 0)))) (⟨g38, (fun i _ => rfl)⟩), hm [] [] 1 (journal_Read_con (strP 0 ((bytesL y7).length) ((bytesL y7).set (0 + y12.toNat) (ixor .u8 ((bytesL y7).getD (0 + y12.toNat) 0) p2))) (y39, y40, y41) e42) ⟨rowL_flat Vs _ _ _, tv⟩] (by kernel_rfl) ?_
     refine AW.seq ?_
     refine AW.sg tt_okL6 [(86, vb (decide (x34 < 4)))] [] [] 24 [] (by kernel_rfl) ?_
     refine AW.co h (by kernel_rfl) (fun c43 h => ?_) (fun c43 h => ?_)
     ·
      refine AW.seq ?_
      refine AW.join (ι := Bool) (fun v => ⟨[(6, vb v)], [], 0⟩) (fun v : Bool => rl_law38_JournalDamage_k4 v = some r) (fun x44 h => ?_) ?_
      ·
       unfold rl_law38_JournalDamage_k4 at h
       refine AW.tn (AW.ret (AW.tr ?_))
       obtain rfl := some_inj h
       exact fn0 (.inr rfl) [] 0 (vb x44) (by kernel_rfl)
      ·
       rcases ifs h with ⟨c45, h⟩ | ⟨c45, h⟩
       ·
        refine AW.rg tt_okL6 [(6, vb ((y39.length : Int) == x33))] [] [] 33 [hn, ht c45] (by kernel_rfl) ?_
        exact jl ((y39.length : Int) == x33) h (conv_re [] (by kernel_rfl))
       ·
        refine AW.rg tt_okL6 [(6, vb false)] [] [] 33 [hn, hf c45] (by kernel_rfl) ?_
        exact jl false h (conv_re [] (by kernel_rfl))
     ·
      refine AW.skip (AW.tn (AW.seq ?_))
      obtain ⟨g46, g47, h⟩ := ifd h
      refine AW.sg tt_okL6 [(102, vb (decide (x34 ≥ (i64.wrap (4 + (((y8.getD (0 + x33.toNat) ByteArray.empty).size : Nat) : Int))))))] [] [] 32 [hn, hn, hn, hq g46 g47, ho (p := (0 + x33.toNat) < y8.length) (by have h1 : 0 ≤ x33 := g46; have h2 : x33 < (y8.length : Int) := g47; omega)] (by kernel_rfl) ?_
      refine AW.co h (by kernel_rfl) (fun c48 h => ?_) (fun c48 h => ?_)
      ·
       refine AW.seq ?_
       refine AW.join (ι := Bool) (fun v => ⟨[(6, vb v)], [], 0⟩) (fun v : Bool => rl_law38_JournalDamage_k5 v = some r) (fun x49 h => ?_) ?_
       ·
        unfold rl_law38_JournalDamage_k5 at h
        refine AW.tn (AW.ret (AW.tr ?_))
        obtain rfl := some_inj h
        exact fn0 (.inr rfl) [] 0 (vb x49) (by kernel_rfl)
       ·
        rcases ifs h with ⟨c50, h⟩ | ⟨c50, h⟩
        ·
         refine AW.rg tt_okL6 [(6, vb ((y39.length : Int) == x33))] [] [] 41 [hn, ht c50] (by kernel_rfl) ?_
         exact jl ((y39.length : Int) == x33) h (conv_re [] (by kernel_rfl))
        ·
         refine AW.rg tt_okL6 [(6, vb false)] [] [] 41 [hn, hf c50] (by kernel_rfl) ?_
         exact jl false h (conv_re [] (by kernel_rfl))
      ·
       refine AW.skip (AW.tn ?_)
       obtain ⟨g51, h⟩ := ifc h
       refine AW.sg tt_okL6 [(19, .c (.ref 36 1 0 ((bytesL (y8.getD (0 + x33.toNat) ByteArray.empty)).length)))] [36] [(36, .row 5 false 1 (bytesL (y8.getD (0 + x33.toNat) ByteArray.empty)).length (Ru8 (bytesL (y8.getD (0 + x33.toNat) ByteArray.empty))))] 38 [hn, hn, hq g46 g47, ho (p := (0 + x33.toNat) < y8.length) (by have h1 : 0 ≤ x33 := g46; have h2 : x33 < (y8.length : Int) := g47; omega), hr ((bytesL (y8.getD (0 + x33.toNat) ByteArray.empty)).length) (Ru8 (bytesL (y8.getD (0 + x33.toNat) ByteArray.empty))) (p := ((y8.getD (0 + x33.toNat) ByteArray.empty).size ≤ maxLen) ∧ ((y8.getD (0 + x33.toNat) ByteArray.empty).size = (bytesL (y8.getD (0 + x33.toNat) ByteArray.empty)).length ∧ ∀ i, i < (bytesL (y8.getD (0 + x33.toNat) ByteArray.empty)).length → ∀ j, j < 1 → TLe ((bytesT (y8.getD (0 + x33.toNat) ByteArray.empty)) i j) (Ru8 (bytesL (y8.getD (0 + x33.toNat) ByteArray.empty)) i j))) (⟨g51, rowT ⟨bytesL_length _, fun i hi => bytesL_row i (bytesL_length _ ▸ hi)⟩⟩)] (by kernel_rfl) ?_
       obtain ⟨g52, g53, h⟩ := ifd h
       refine AW.sg tt_okL6 [] [36] [(36, .row 5 false 1 (bytesL (y8.getD (0 + x33.toNat) ByteArray.empty)).length (Ru8 ((bytesL (y8.getD (0 + x33.toNat) ByteArray.empty)).set (0 + (i64.wrap (x34 - 4)).toNat) (ixor .u8 ((bytesL (y8.getD (0 + x33.toNat) ByteArray.empty)).getD (0 + (i64.wrap (x34 - 4)).toNat) 0) p2))))] 47 [hn, hn, hn, hq g52 g53, ho (p := (0 + (i64.wrap (x34 - 4)).toNat) < (bytesL (y8.getD (0 + x33.toNat) ByteArray.empty)).length) (by have h1 : 0 ≤ (i64.wrap (x34 - 4)) := g52; have h2 : (i64.wrap (x34 - 4)) < (((bytesL (y8.getD (0 + x33.toNat) ByteArray.empty)).length : Nat) : Int) := g53; omega), hn, hn, hq g52 g53, hset 0 Eu8 (bytesL (y8.getD (0 + x33.toNat) ByteArray.empty)) (0 + (i64.wrap (x34 - 4)).toNat) (ixor .u8 ((bytesL (y8.getD (0 + x33.toNat) ByteArray.empty)).getD (0 + (i64.wrap (x34 - 4)).toNat) 0) p2) (n := (bytesL (y8.getD (0 + x33.toNat) ByteArray.empty)).length) (by have h1 : 0 ≤ (i64.wrap (x34 - 4)) := g52; have h2 : (i64.wrap (x34 - 4)) < (((bytesL (y8.getD (0 + x33.toNat) ByteArray.empty)).length : Nat) : Int) := g53; omega) rfl] (by kernel_rfl) ?_
       refine AW.sg tt_okL6 [(20, vu64 0)] [] [] 48 [] (by kernel_rfl) ?_
       refine AW.seq ?_
       obtain ⟨g54, h⟩ := ifc h
       refine AW.sg tt_okL6 [(128, vi64 0), (127, vi64 ((x33.toNat : Nat) : Int)), (126, .c (.ref 0 1 0 x33.toNat))] [] [] 53 [hn, hn, ho (p := (True) ∧ (0 ≤ x33) ∧ (0 ≤ x33.toNat) ∧ (x33.toNat ≤ y8.length)) (⟨tv, g46, (Nat.zero_le _), g54⟩)] (by kernel_rfl) ?_
       refine AW.block ?_
       obtain ⟨x70, x71, l79, h⟩ := bind2_some h
       refine AW.lp l79 (fun v => ⟨[(8, .c (.ref 0 1 0 y8.length)), (10, vi64 x33), (16, .c (.ref 1 1 0 y39.length)), (18, vi64 y41), (19, .c (.ref 2 1 0 v.1.length)), (20, vu64 v.2.1), (126, .c (.ref 0 1 0 x33.toNat)), (127, vi64 ((x33.toNat : Nat) : Int)), (128, vi64 v.2.2)], [(0, .row 9 false 1 y8.length (Rs y8)), (1, .row 9 false 1 y39.length (Rs y39)), (2, .row 5 false 1 v.1.length (Ru8 v.1))], 3⟩) (fun t : (List Int) × Int => (.exit 2, ⟨[(8, .c (.ref 0 1 0 y8.length)), (10, vi64 x33), (16, .c (.ref 1 1 0 y39.length)), (18, vi64 y41), (19, .c (.ref 2 1 0 t.1.length)), (20, vu64 t.2)], [(0, .row 9 false 1 y8.length (Rs y8)), (1, .row 9 false 1 y39.length (Rs y39)), (2, .row 5 false 1 t.1.length (Ru8 t.1))], 3⟩)) (Conv.trans (conv_tms [(19, .c (.ref 36 1 0 (((bytesL (y8.getD (0 + x33.toNat) ByteArray.empty)).set (0 + (i64.wrap (x34 - 4)).toNat) (ixor .u8 ((bytesL (y8.getD (0 + x33.toNat) ByteArray.empty)).getD (0 + (i64.wrap (x34 - 4)).toNat) 0) p2)).length)))] ⟨⟨.c (.ref 36 1 0 ((bytesL (y8.getD (0 + x33.toNat) ByteArray.empty)).length)), by kernel_rfl, ALe.len (by simp only [List.length_set])⟩, tv⟩) (Conv.trans (conv_rowN 36 5 false 1 ((bytesL (y8.getD (0 + x33.toNat) ByteArray.empty)).length) (((bytesL (y8.getD (0 + x33.toNat) ByteArray.empty)).set (0 + (i64.wrap (x34 - 4)).toNat) (ixor .u8 ((bytesL (y8.getD (0 + x33.toNat) ByteArray.empty)).getD (0 + (i64.wrap (x34 - 4)).toNat) 0) p2)).length) (Ru8 ((bytesL (y8.getD (0 + x33.toNat) ByteArray.empty)).set (0 + (i64.wrap (x34 - 4)).toNat) (ixor .u8 ((bytesL (y8.getD (0 + x33.toNat) ByteArray.empty)).getD (0 + (i64.wrap (x34 - 4)).toNat) 0) p2))) (by kernel_rfl) (by simp only [List.length_set])) (conv_re [(0, 0), (1, 14), (2, 36)] (by kernel_rfl)))) (fun _ => tv) ?_ ?_
       ·
        clear l79 h
        intro v o h
        obtain ⟨x59, x60, x61⟩ := v
        replace h : rl_law38_JournalDamage_l6 y8 x33 x59 x60 x61 = some o := h
        unfold rl_law38_JournalDamage_l6 at h
        refine AW.sg tt_okL6 [(129, vb (decide (x61 < ((x33.toNat : Nat) : Int))))] [] [] 4 [] (by kernel_rfl) ?_
        refine AW.seq ?_
        refine AW.co h (by kernel_rfl) (fun c64 h => ?_) (fun c64 h => ?_)
        ·
         refine AW.skip (AW.tn ?_)
         refine AW.seq (AW.block ?_)
         obtain ⟨g65, g66, h⟩ := ifd h
         obtain ⟨g67, h⟩ := ifc h
         refine AW.sg tt_okL6 [(22, vs (y8.getD (0 + x61.toNat) ByteArray.empty))] [] [] 7 [hq g65 g66, ho g67] (by kernel_rfl) ?_
         obtain ⟨y68, e69, h⟩ := bnd_some h
         refine AW.rg tt_okL6 [(20, vu64 y68)] [] [] 10 [hn, hn, hk (rl_ref38_Sum_con x60 (y8.getD (0 + x61.toNat) ByteArray.empty) y68 e69)] (by kernel_rfl) ?_
         refine AW.inBlock_normal (AW.tn ?_)
         refine AW.rg tt_okL6 [(128, vi64 (i64.wrap (x61 + 1)))] [] [] 12 [] (by kernel_rfl) ?_
         exact lpn h (conv_re [(0, 0), (1, 1), (2, 2)] (by kernel_rfl))
        ·
         refine AW.exit (AW.thenQ_exit ?_)
         exact lpo h rfl (conv_re [(0, 0), (1, 1), (2, 2)] (by kernel_rfl))
       ·
        show (_ : Exit → St → Prop) (.exit 2) _
        refine AW.inBlock_hit (AW.tn (AW.seq ?_))
        refine AW.join (ι := Bool) (fun v => ⟨[(6, vb v)], [], 0⟩) (fun v : Bool => rl_law38_JournalDamage_k7 v = some r) (fun x72 h => ?_) ?_
        ·
         unfold rl_law38_JournalDamage_k7 at h
         refine AW.tn (AW.ret ?_)
         obtain rfl := some_inj h
         exact fn0 (.inr rfl) [] 0 (vb x72) (by kernel_rfl)
        ·
         obtain ⟨y73, e74, h⟩ := bnd_some h
         obtain ⟨y75, e76, h⟩ := bnd_some h
         rcases ifs h with ⟨c77, h⟩ | ⟨c77, h⟩
         ·
          refine AW.rd tt_okL6 moL6 [] [(6, vb true)] [] 23 [hn, hn, hi (fun i => x70.getD i 0) (p := (0 + x70.length ≤ x70.length) ∧ ∀ i, i < x70.length → (fun i j => Ru8 x70 (0 + i) j) i 0 = .v (.int .u8 (x70.getD i 0))) (⟨le0, fun i _ => by simp only [Nat.zero_add] <;> rfl⟩), hk (rl_ref38_Sum_con x71 (strOf x70) y73 e74), hn, hn, hn, hq g46 g47, ho (p := (0 + x33.toNat) < y8.length) (by have h1 : 0 ≤ x33 := g46; have h2 : x33 < (y8.length : Int) := g47; omega), hk (rl_ref38_Sum_con x71 (y8.getD (0 + x33.toNat) ByteArray.empty) y75 e76), ht c77] (by kernel_rfl) ?_
          exact jl true h (conv_re [] (by kernel_rfl))
         ·
          rcases ifs h with ⟨c78, h⟩ | ⟨c78, h⟩
          ·
           refine AW.rd tt_okL6 moL6 [] [(6, vb ((y39.length : Int) == x33))] [] 23 [hn, hn, hi (fun i => x70.getD i 0) (p := (0 + x70.length ≤ x70.length) ∧ ∀ i, i < x70.length → (fun i j => Ru8 x70 (0 + i) j) i 0 = .v (.int .u8 (x70.getD i 0))) (⟨le0, fun i _ => by simp only [Nat.zero_add] <;> rfl⟩), hk (rl_ref38_Sum_con x71 (strOf x70) y73 e74), hn, hn, hn, hq g46 g47, ho (p := (0 + x33.toNat) < y8.length) (by have h1 : 0 ≤ x33 := g46; have h2 : x33 < (y8.length : Int) := g47; omega), hk (rl_ref38_Sum_con x71 (y8.getD (0 + x33.toNat) ByteArray.empty) y75 e76), hf c77, hn, hn, ht c78] (by kernel_rfl) ?_
           exact jl ((y39.length : Int) == x33) h (conv_re [] (by kernel_rfl))
          ·
           refine AW.rd tt_okL6 moL6 [] [(6, vb false)] [] 23 [hn, hn, hi (fun i => x70.getD i 0) (p := (0 + x70.length ≤ x70.length) ∧ ∀ i, i < x70.length → (fun i j => Ru8 x70 (0 + i) j) i 0 = .v (.int .u8 (x70.getD i 0))) (⟨le0, fun i _ => by simp only [Nat.zero_add] <;> rfl⟩), hk (rl_ref38_Sum_con x71 (strOf x70) y73 e74), hn, hn, hn, hq g46 g47, ho (p := (0 + x33.toNat) < y8.length) (by have h1 : 0 ≤ x33 := g46; have h2 : x33 < (y8.length : Int) := g47; omega), hk (rl_ref38_Sum_con x71 (y8.getD (0 + x33.toNat) ByteArray.empty) y75 e76), hf c77, hn, hn, hf c78] (by kernel_rfl) ?_
           exact jl false h (conv_re [] (by kernel_rfl))
 ·
  obtain ⟨y81, e82, h⟩ := bnd_some h
  rcases ifs h with ⟨c83, h⟩ | ⟨c83, h⟩
  ·
   refine AW.rg tt_okL6 [(33, vb true)] [] [] 11 [hk (rl_law38_awake_con y81 e82), ht c83] (by kernel_rfl) ?_
   exact jl true h (conv_re [] (by kernel_rfl))
  ·
   obtain ⟨y84, e85, h⟩ := bnd_some h
   rcases ifs h with ⟨c86, h⟩ | ⟨c86, h⟩
   ·
    refine AW.rg tt_okL6 [(33, vb true)] [] [] 10 [hk (rl_law38_awake_con y81 e82), hf c83, hn, hn, hk (rl_make_Few_con p0 y84 e85), ht c86] (by kernel_rfl) ?_
    exact jl true h (conv_re [] (by kernel_rfl))
   ·
    refine AW.rg tt_okL6 [(33, vb (p2 == 0))] [] [] 10 [hk (rl_law38_awake_con y81 e82), hf c83, hn, hn, hk (rl_make_Few_con p0 y84 e85), hf c86] (by kernel_rfl) ?_
    exact jl (p2 == 0) h (conv_re [] (by kernel_rfl))
end Go.Proofs.Ytjedagkkeicpkaa
