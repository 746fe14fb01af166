/- Printed by a program of mine (vmgen.py): Go functions, and what they come to. -/
import Derived.Test.YtjedagkkeicpkaaVr
import Derived.Test.YtjedagkkeicpkaaRows
import Derived.Test.YtjedagkkeicpkaaG0
namespace Go.Proofs.Ytjedagkkeicpkaa
open Vm
open IntKind (i64 u64 u32 u8)
set_option maxHeartbeats 10000000
set_option linter.unusedVariables false
set_option linter.unusedSimpArgs false
set_option linter.constructorNameAsVariable false
def ttlL7 : List (Nat × TI) := [(3, ⟨.int .i64, 1, 8, [.int .i64 0], false⟩), (4, ⟨.bool, 1, 1, [.bool false], false⟩), (5, ⟨.int .u8, 1, 1, [.int .u8 0], false⟩), (9, ⟨.str, 1, 16, [.string ⟨#[]⟩], false⟩), (22, ⟨.slice 3, 1, 24, [.slice none 0 0], false⟩), (23, ⟨.int .u64, 1, 8, [.int .u64 0], false⟩), (26, ⟨.ptr 49, 1, 8, [.pointer none], false⟩), (28, ⟨.slice 9, 1, 24, [.slice none 0 0], false⟩), (31, ⟨.slice 5, 1, 24, [.slice none 0 0], false⟩), (34, ⟨.int .i64, 1, 8, [.int .i64 0], false⟩), (45, ⟨.int .u64, 1, 8, [.int .u64 0], false⟩), (49, ⟨.struct [(22, 0), (3, 1), (23, 2)], 3, 40, [.slice none 0 0, .int .i64 0, .int .u64 0], false⟩), (52, ⟨.struct [(23, 0), (23, 1)], 2, 16, [.int .u64 0, .int .u64 0], true⟩), (62, ⟨.struct [(23, 0), (23, 1), (23, 2), (23, 3)], 4, 32, [.int .u64 0, .int .u64 0, .int .u64 0, .int .u64 0], true⟩), (66, ⟨.arr 4 23, 4, 32, [.int .u64 0, .int .u64 0, .int .u64 0, .int .u64 0], true⟩)]
theorem tt_okL7 : TTok Try.prog (Vm.look ttlL7) := ttok_of ⟨⟨by kernel_rfl, by kernel_rfl, by kernel_rfl⟩, ⟨by kernel_rfl, by kernel_rfl, by kernel_rfl⟩, ⟨by kernel_rfl, by kernel_rfl, by kernel_rfl⟩, ⟨by kernel_rfl, by kernel_rfl, by kernel_rfl⟩, ⟨by kernel_rfl, by kernel_rfl, by kernel_rfl⟩, ⟨by kernel_rfl, by kernel_rfl, by kernel_rfl⟩, ⟨by kernel_rfl, by kernel_rfl, by kernel_rfl⟩, ⟨by kernel_rfl, by kernel_rfl, by kernel_rfl⟩, ⟨by kernel_rfl, by kernel_rfl, by kernel_rfl⟩, ⟨by kernel_rfl, by kernel_rfl, by kernel_rfl⟩, ⟨by kernel_rfl, by kernel_rfl, by kernel_rfl⟩, ⟨by kernel_rfl, by kernel_rfl, by kernel_rfl⟩, ⟨by kernel_rfl, by kernel_rfl, by kernel_rfl⟩, ⟨by kernel_rfl, by kernel_rfl, by kernel_rfl⟩, ⟨by kernel_rfl, by kernel_rfl, by kernel_rfl⟩, trivial⟩
theorem moL7 : Try.prog.follows .mixedOrders = true := by kernel_rfl
/-! recordlink/recordlinklaw38.JournalChain -/
noncomputable def rl_law38_JournalChain_l2 (p1 : Int) (y8 : List ByteArray) (x18 : Int) (x19 : Int) (x20 : Int) : Option ((Int × Int × Int) ⊕ (Int × Int)) := if (decide (x20 < ((((i64.wrap p1).tmod (i64.wrap ((y8.length : Int) - 1))).toNat : Nat) : Int))) = true then (if 0 ≤ x20 then (if x20 < ((((i64.wrap p1).tmod (i64.wrap ((y8.length : Int) - 1))).toNat : Nat) : Int) then (if (0 + x20.toNat) < y8.length then ((some (i64.wrap (x18 + (i64.wrap (12 + (((y8.getD (0 + x20.toNat) ByteArray.empty).size : Nat) : Int)))))).bind fun z27 => ((rl_ref38_Sum x19 (y8.getD (0 + x20.toNat) ByteArray.empty)).bind fun y29 => (some (.inl (z27, y29, i64.wrap (x20 + 1)))))) else none) else none) else none) else (some (.inr (x18, x19)))
noncomputable def rl_law38_JournalChain_k3 (x54 : Bool) : Option Bool := some x54
noncomputable def rl_law38_JournalChain_k1 (p0 : List Int) (p1 : Int) (x1 : Bool) : Option Bool := if x1 = true then ((rl_law38_awake).bind fun y3 => (some y3)) else ((rl_make_New p0).bind fun y5 => (bind3 (rl_law38_made y5 6) fun y7 y8 y9 => (if (decide ((y8.length : Int) < 2)) = true then (some true) else (if (i64.wrap ((y8.length : Int) - 1)) ≠ 0 then (if 0 ≤ ((i64.wrap p1).tmod (i64.wrap ((y8.length : Int) - 1))) then (if (((i64.wrap p1).tmod (i64.wrap ((y8.length : Int) - 1))).toNat) ≤ y8.length then (bind2 (loop (fun v : Int × Int × Int => rl_law38_JournalChain_l2 p1 y8 v.1 v.2.1 v.2.2) (0, 0, 0)) fun x31 x32 => (if ((i64.wrap p1).tmod (i64.wrap ((y8.length : Int) - 1))) < (y8.length : Int) then ((some (i64.wrap ((i64.wrap (x31 + 12)) + (((y8.getD (0 + ((i64.wrap p1).tmod (i64.wrap ((y8.length : Int) - 1))).toNat) ByteArray.empty).size : Nat) : Int)))).bind fun z34 => ((rl_ref38_Sum x32 (y8.getD (0 + ((i64.wrap p1).tmod (i64.wrap ((y8.length : Int) - 1))).toNat) ByteArray.empty)).bind fun y36 => (if 0 ≤ x31 then (if x31.toNat ≤ y7.size then (if 0 ≤ z34 then (if z34.toNat ≤ y7.size then (if (y7.extract 0 x31.toNat).size + (y7.extract z34.toNat y7.size).size ≤ maxStr then (bind3 (journal_Read ((y7.extract 0 x31.toNat) ++ (y7.extract z34.toNat y7.size))) fun y43 y44 y45 => (if 0 ≤ (i64.wrap (((i64.wrap p1).tmod (i64.wrap ((y8.length : Int) - 1))) + 1)) then (if (i64.wrap (((i64.wrap p1).tmod (i64.wrap ((y8.length : Int) - 1))) + 1)) < (y8.length : Int) then ((rl_ref38_Sum x32 (y8.getD (0 + (i64.wrap (((i64.wrap p1).tmod (i64.wrap ((y8.length : Int) - 1))) + 1)).toNat) ByteArray.empty)).bind fun y49 => ((rl_ref38_Sum y36 (y8.getD (0 + (i64.wrap (((i64.wrap p1).tmod (i64.wrap ((y8.length : Int) - 1))) + 1)).toNat) ByteArray.empty)).bind fun y51 => (if (y49 == y51) = true then (some true) else (if (y45 == 16) = true then (if ((y43.length : Int) == ((i64.wrap p1).tmod (i64.wrap ((y8.length : Int) - 1)))) = true then (rl_law38_JournalChain_k3 (y44 == x31)) else (rl_law38_JournalChain_k3 false)) else (rl_law38_JournalChain_k3 false))))) else none) else none)) else none) else none) else none) else none) else none))) else none)) else none) else none) else none))))
noncomputable def rl_law38_JournalChain (p0 : List Int) (p1 : Int) : Option Bool := (rl_law38_awake).bind fun y58 => (if (!y58) = true then (rl_law38_JournalChain_k1 p0 p1 true) else ((rl_make_Few p0).bind fun y61 => (rl_law38_JournalChain_k1 p0 p1 (!y61))))
set_option maxRecDepth 100000 in
theorem rl_law38_JournalChain_con (p0 : List Int) (p1 : Int) (r : Bool) (h : rl_law38_JournalChain p0 p1 = some r) : Con Try.prog 7 [vl 1 Ri64 p0, vu8 p1] [] (vb r) [] := by
 refine con_of tt_okL7 0 Try.func7 (by kernel_rfl) rfl (by kernel_rfl) (fun base X _ => AW.post ?_)
 unfold rl_law38_JournalChain at h
 refine AW.sg tt_okL7 [] [] [] 1 [] (by kernel_rfl) ?_
 refine AW.seq (AW.seq ?_)
 refine AW.join (ι := Bool) (fun v => ⟨[(0, vl 1 Ri64 p0), (1, vu8 p1), (23, vb v)], [], 0⟩) (fun v : Bool => rl_law38_JournalChain_k1 p0 p1 v = some r) (fun x1 h => ?_) ?_
 ·
  unfold rl_law38_JournalChain_k1 at h
  refine AW.tn ?_
  refine AW.co h (by kernel_rfl) (fun c2 h => ?_) (fun c2 h => ?_)
  ·
   obtain ⟨y3, e4, h⟩ := bnd_some h
   refine AW.sg tt_okL7 [(4, vb y3)] [] [] 1 [hk (rl_law38_awake_con y3 e4)] (by kernel_rfl) ?_
   refine AW.ret (AW.tr ?_)
   obtain rfl := some_inj h
   exact fn0 (.inr rfl) [] 0 (vb y3) (by kernel_rfl)
  ·
   refine AW.skip (AW.tn ?_)
   obtain ⟨y5, e6, h⟩ := bnd_some h
   obtain ⟨y7, y8, y9, e10, h⟩ := bind3_some h
   refine AW.sg tt_okL7 [(6, .c (.ref 2 1 0 y8.length)), (5, vs y7)] [1, 2] [(2, .row 9 false 1 y8.length (Rs y8))] 8 [hn, hl [] [] 1 (rl_make_New_con p0 y5 e6), hl [1] [] 1 (rl_law38_made_con y5 6 (y7, y8, y9) e10)] (by kernel_rfl) ?_
   refine AW.seq ?_
   refine AW.sg tt_okL7 [(33, vb (decide ((y8.length : Int) < 2)))] [] [] 11 [] (by kernel_rfl) ?_
   refine AW.co h (by kernel_rfl) (fun c11 h => ?_) (fun c11 h => ?_)
   ·
    refine AW.sg tt_okL7 [(4, vb true)] [] [] 12 [] (by kernel_rfl) ?_
    refine AW.ret (AW.tr ?_)
    obtain rfl := some_inj h
    exact fn0 (.inr rfl) [] 0 (vb true) (by kernel_rfl)
   ·
    refine AW.skip (AW.tn ?_)
    obtain ⟨g12, h⟩ := ifc h
    refine AW.sg tt_okL7 [(7, vi64 ((i64.wrap p1).tmod (i64.wrap ((y8.length : Int) - 1))))] [] [] 18 [hn, hn, hn, hn, hn, ho g12] (by kernel_rfl) ?_
    refine AW.sg tt_okL7 [(8, vi64 0)] [] [] 19 [] (by kernel_rfl) ?_
    refine AW.sg tt_okL7 [(9, vu64 0)] [] [] 21 [] (by kernel_rfl) ?_
    refine AW.seq ?_
    obtain ⟨g13, g14, h⟩ := ifd h
    refine AW.sg tt_okL7 [(44, vi64 0), (43, vi64 ((((i64.wrap p1).tmod (i64.wrap ((y8.length : Int) - 1))).toNat : Nat) : Int)), (42, .c (.ref 2 1 0 (((i64.wrap p1).tmod (i64.wrap ((y8.length : Int) - 1))).toNat)))] [] [] 26 [hn, hn, ho (p := (True) ∧ (0 ≤ ((i64.wrap p1).tmod (i64.wrap ((y8.length : Int) - 1)))) ∧ (0 ≤ (((i64.wrap p1).tmod (i64.wrap ((y8.length : Int) - 1))).toNat)) ∧ ((((i64.wrap p1).tmod (i64.wrap ((y8.length : Int) - 1))).toNat) ≤ y8.length)) (⟨tv, g13, (Nat.zero_le _), g14⟩)] (by kernel_rfl) ?_
    refine AW.block ?_
    obtain ⟨x31, x32, l57, h⟩ := bind2_some h
    refine AW.lp l57 (fun v => ⟨[(5, vs y7), (6, .c (.ref 0 1 0 y8.length)), (7, vi64 ((i64.wrap p1).tmod (i64.wrap ((y8.length : Int) - 1)))), (8, vi64 v.1), (9, vu64 v.2.1), (42, .c (.ref 0 1 0 (((i64.wrap p1).tmod (i64.wrap ((y8.length : Int) - 1))).toNat))), (43, vi64 ((((i64.wrap p1).tmod (i64.wrap ((y8.length : Int) - 1))).toNat : Nat) : Int)), (44, vi64 v.2.2)], [(0, .row 9 false 1 y8.length (Rs y8))], 1⟩) (fun t : Int × Int => (.exit 0, ⟨[(5, vs y7), (6, .c (.ref 0 1 0 y8.length)), (7, vi64 ((i64.wrap p1).tmod (i64.wrap ((y8.length : Int) - 1)))), (8, vi64 t.1), (9, vu64 t.2)], [(0, .row 9 false 1 y8.length (Rs y8))], 1⟩)) (conv_re [(0, 2)] (by kernel_rfl)) (fun _ => tv) ?_ ?_
    ·
     clear l57 h
     intro v o h
     obtain ⟨x18, x19, x20⟩ := v
     replace h : rl_law38_JournalChain_l2 p1 y8 x18 x19 x20 = some o := h
     unfold rl_law38_JournalChain_l2 at h
     refine AW.sg tt_okL7 [(45, vb (decide (x20 < ((((i64.wrap p1).tmod (i64.wrap ((y8.length : Int) - 1))).toNat : Nat) : Int))))] [] [] 2 [] (by kernel_rfl) ?_
     refine AW.seq ?_
     refine AW.co h (by kernel_rfl) (fun c23 h => ?_) (fun c23 h => ?_)
     ·
      refine AW.skip (AW.tn ?_)
      refine AW.seq (AW.block ?_)
      obtain ⟨g24, g25, h⟩ := ifd h
      obtain ⟨g26, h⟩ := ifc h
      refine AW.sg tt_okL7 [(12, vs (y8.getD (0 + x20.toNat) ByteArray.empty))] [] [] 5 [hq g24 g25, ho g26] (by kernel_rfl) ?_
      obtain ⟨z27, n28, h⟩ := bnd_some h
      replace n28 := some_inj n28
      refine AW.sg tt_okL7 [(8, vi64 z27)] [] [] 11 [] (by subst n28; kernel_rfl) ?_
      obtain ⟨y29, e30, h⟩ := bnd_some h
      refine AW.rg tt_okL7 [(9, vu64 y29)] [] [] 14 [hn, hn, hk (rl_ref38_Sum_con x19 (y8.getD (0 + x20.toNat) ByteArray.empty) y29 e30)] (by kernel_rfl) ?_
      refine AW.inBlock_normal (AW.tn ?_)
      refine AW.rg tt_okL7 [(44, vi64 (i64.wrap (x20 + 1)))] [] [] 16 [] (by kernel_rfl) ?_
      exact lpn h (conv_re [(0, 0)] (by kernel_rfl))
     ·
      refine AW.exit (AW.thenQ_exit ?_)
      exact lpo h rfl (conv_re [(0, 0)] (by kernel_rfl))
    ·
     show (_ : Exit → St → Prop) (.exit 0) _
     refine AW.inBlock_hit (AW.tn ?_)
     refine AW.sg tt_okL7 [(10, vu64 x32)] [] [] 3 [] (by kernel_rfl) ?_
     obtain ⟨g33, h⟩ := ifc h
     obtain ⟨z34, n35, h⟩ := bnd_some h
     replace n35 := some_inj n35
     refine AW.sg tt_okL7 [(13, vi64 z34)] [] [] 12 [hn, hn, hn, hn, hq g13 g33, ho (p := (0 + ((i64.wrap p1).tmod (i64.wrap ((y8.length : Int) - 1))).toNat) < y8.length) (by have h1 : 0 ≤ ((i64.wrap p1).tmod (i64.wrap ((y8.length : Int) - 1))) := g13; have h2 : ((i64.wrap p1).tmod (i64.wrap ((y8.length : Int) - 1))) < (y8.length : Int) := g33; omega)] (by subst n35; kernel_rfl) ?_
     obtain ⟨y36, e37, h⟩ := bnd_some h
     refine AW.sg tt_okL7 [(9, vu64 y36)] [] [] 18 [hn, hn, hn, hq g13 g33, ho (p := (0 + ((i64.wrap p1).tmod (i64.wrap ((y8.length : Int) - 1))).toNat) < y8.length) (by have h1 : 0 ≤ ((i64.wrap p1).tmod (i64.wrap ((y8.length : Int) - 1))) := g13; have h2 : ((i64.wrap p1).tmod (i64.wrap ((y8.length : Int) - 1))) < (y8.length : Int) := g33; omega), hk (rl_ref38_Sum_con x32 (y8.getD (0 + ((i64.wrap p1).tmod (i64.wrap ((y8.length : Int) - 1))).toNat) ByteArray.empty) y36 e37)] (by kernel_rfl) ?_
     obtain ⟨g38, g39, h⟩ := ifd h
     obtain ⟨g40, g41, h⟩ := ifd h
     obtain ⟨g42, h⟩ := ifc h
     obtain ⟨y43, y44, y45, e46, h⟩ := bind3_some h
     refine AW.sd tt_okL7 moL7 [[], [], [], [], [], [], [], [25]] [(16, vi64 y45), (15, vi64 y44), (14, .c (.ref 25 1 0 y43.length))] [(25, .row 9 false 1 y43.length (Rs y43))] 33 [hn, hn, ho (p := (True) ∧ (0 ≤ x31) ∧ (0 ≤ x31.toNat) ∧ (x31.toNat ≤ y7.size)) (⟨tv, g38, (Nat.zero_le _), g39⟩), hn, hn, ho (p := (0 ≤ z34) ∧ (True) ∧ (z34.toNat ≤ y7.size) ∧ (y7.size ≤ y7.size)) (⟨g40, tv, g41, (Nat.le_refl _)⟩), ho g42, hm [] [] 1 (journal_Read_con ((y7.extract 0 x31.toNat) ++ (y7.extract z34.toNat y7.size)) (y43, y44, y45) e46) ⟨rowL_flat Vs _ _ _, tv⟩] (by kernel_rfl) ?_
     refine AW.seq ?_
     obtain ⟨g47, g48, h⟩ := ifd h
     obtain ⟨y49, e50, h⟩ := bnd_some h
     obtain ⟨y51, e52, h⟩ := bnd_some h
     refine AW.sd tt_okL7 moL7 [] [(98, vb (y49 == y51))] [] 46 [hn, hn, hn, hn, hq g47 g48, ho (p := (0 + (i64.wrap (((i64.wrap p1).tmod (i64.wrap ((y8.length : Int) - 1))) + 1)).toNat) < y8.length) (by have h1 : 0 ≤ (i64.wrap (((i64.wrap p1).tmod (i64.wrap ((y8.length : Int) - 1))) + 1)) := g47; have h2 : (i64.wrap (((i64.wrap p1).tmod (i64.wrap ((y8.length : Int) - 1))) + 1)) < (y8.length : Int) := g48; omega), hk (rl_ref38_Sum_con x32 (y8.getD (0 + (i64.wrap (((i64.wrap p1).tmod (i64.wrap ((y8.length : Int) - 1))) + 1)).toNat) ByteArray.empty) y49 e50), hn, hn, hn, hn, hq g47 g48, ho (p := (0 + (i64.wrap (((i64.wrap p1).tmod (i64.wrap ((y8.length : Int) - 1))) + 1)).toNat) < y8.length) (by have h1 : 0 ≤ (i64.wrap (((i64.wrap p1).tmod (i64.wrap ((y8.length : Int) - 1))) + 1)) := g47; have h2 : (i64.wrap (((i64.wrap p1).tmod (i64.wrap ((y8.length : Int) - 1))) + 1)) < (y8.length : Int) := g48; omega), hk (rl_ref38_Sum_con y36 (y8.getD (0 + (i64.wrap (((i64.wrap p1).tmod (i64.wrap ((y8.length : Int) - 1))) + 1)).toNat) ByteArray.empty) y51 e52)] (by kernel_rfl) ?_
     refine AW.co h (by kernel_rfl) (fun c53 h => ?_) (fun c53 h => ?_)
     ·
      refine AW.sg tt_okL7 [(4, vb true)] [] [] 47 [] (by kernel_rfl) ?_
      refine AW.ret (AW.tr ?_)
      obtain rfl := some_inj h
      exact fn0 (.inr rfl) [] 0 (vb true) (by kernel_rfl)
     ·
      refine AW.skip (AW.tn (AW.seq ?_))
      refine AW.join (ι := Bool) (fun v => ⟨[(4, vb v)], [], 0⟩) (fun v : Bool => rl_law38_JournalChain_k3 v = some r) (fun x54 h => ?_) ?_
      ·
       unfold rl_law38_JournalChain_k3 at h
       refine AW.tn (AW.ret ?_)
       obtain rfl := some_inj h
       exact fn0 (.inr rfl) [] 0 (vb x54) (by kernel_rfl)
      ·
       rcases ifs h with ⟨c55, h⟩ | ⟨c55, h⟩
       ·
        rcases ifs h with ⟨c56, h⟩ | ⟨c56, h⟩
        ·
         refine AW.rg tt_okL7 [(4, vb (y44 == x31))] [] [] 60 [hn, ht c55, hn, hn, hn, hn, ht c56] (by kernel_rfl) ?_
         exact jl (y44 == x31) h (conv_re [] (by kernel_rfl))
        ·
         refine AW.rg tt_okL7 [(4, vb false)] [] [] 60 [hn, ht c55, hn, hn, hn, hn, hf c56] (by kernel_rfl) ?_
         exact jl false h (conv_re [] (by kernel_rfl))
       ·
        refine AW.rg tt_okL7 [(4, vb false)] [] [] 60 [hn, hf c55] (by kernel_rfl) ?_
        exact jl false h (conv_re [] (by kernel_rfl))
 ·
  obtain ⟨y58, e59, h⟩ := bnd_some h
  rcases ifs h with ⟨c60, h⟩ | ⟨c60, h⟩
  ·
   refine AW.rg tt_okL7 [(23, vb true)] [] [] 7 [hk (rl_law38_awake_con y58 e59), ht c60] (by kernel_rfl) ?_
   exact jl true h (conv_re [] (by kernel_rfl))
  ·
   obtain ⟨y61, e62, h⟩ := bnd_some h
   refine AW.rg tt_okL7 [(23, vb (!y61))] [] [] 6 [hk (rl_law38_awake_con y58 e59), hf c60, hn, hn, hk (rl_make_Few_con p0 y61 e62)] (by kernel_rfl) ?_
   exact jl (!y61) h (conv_re [] (by kernel_rfl))
end Go.Proofs.Ytjedagkkeicpkaa
