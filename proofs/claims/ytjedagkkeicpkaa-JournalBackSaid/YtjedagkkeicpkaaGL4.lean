/- Printed by a program of mine (vmgen.py): Go functions, and what they come to. -/
import Derived.Test.YtjedagkkeicpkaaVr
import Derived.Test.YtjedagkkeicpkaaRows
import Derived.Test.YtjedagkkeicpkaaG0
namespace Go.Proofs.Ytjedagkkeicpkaa
open Vm
open IntKind (i64 u64 u32 u8)
set_option maxHeartbeats 10000000
set_option linter.unusedVariables false
set_option linter.unusedSimpArgs false
set_option linter.constructorNameAsVariable false
def ttlL4 : List (Nat × TI) := [(3, ⟨.int .i64, 1, 8, [.int .i64 0], false⟩), (4, ⟨.bool, 1, 1, [.bool false], false⟩), (5, ⟨.int .u8, 1, 1, [.int .u8 0], false⟩), (9, ⟨.str, 1, 16, [.string ⟨#[]⟩], false⟩), (22, ⟨.slice 3, 1, 24, [.slice none 0 0], false⟩), (23, ⟨.int .u64, 1, 8, [.int .u64 0], false⟩), (26, ⟨.ptr 49, 1, 8, [.pointer none], false⟩), (28, ⟨.slice 9, 1, 24, [.slice none 0 0], false⟩), (31, ⟨.slice 5, 1, 24, [.slice none 0 0], false⟩), (34, ⟨.int .i64, 1, 8, [.int .i64 0], false⟩), (45, ⟨.int .u64, 1, 8, [.int .u64 0], false⟩), (49, ⟨.struct [(22, 0), (3, 1), (23, 2)], 3, 40, [.slice none 0 0, .int .i64 0, .int .u64 0], false⟩), (52, ⟨.struct [(23, 0), (23, 1)], 2, 16, [.int .u64 0, .int .u64 0], true⟩), (62, ⟨.struct [(23, 0), (23, 1), (23, 2), (23, 3)], 4, 32, [.int .u64 0, .int .u64 0, .int .u64 0, .int .u64 0], true⟩), (66, ⟨.arr 4 23, 4, 32, [.int .u64 0, .int .u64 0, .int .u64 0, .int .u64 0], true⟩)]
theorem tt_okL4 : TTok Try.prog (Vm.look ttlL4) := ttok_of ⟨⟨by kernel_rfl, by kernel_rfl, by kernel_rfl⟩, ⟨by kernel_rfl, by kernel_rfl, by kernel_rfl⟩, ⟨by kernel_rfl, by kernel_rfl, by kernel_rfl⟩, ⟨by kernel_rfl, by kernel_rfl, by kernel_rfl⟩, ⟨by kernel_rfl, by kernel_rfl, by kernel_rfl⟩, ⟨by kernel_rfl, by kernel_rfl, by kernel_rfl⟩, ⟨by kernel_rfl, by kernel_rfl, by kernel_rfl⟩, ⟨by kernel_rfl, by kernel_rfl, by kernel_rfl⟩, ⟨by kernel_rfl, by kernel_rfl, by kernel_rfl⟩, ⟨by kernel_rfl, by kernel_rfl, by kernel_rfl⟩, ⟨by kernel_rfl, by kernel_rfl, by kernel_rfl⟩, ⟨by kernel_rfl, by kernel_rfl, by kernel_rfl⟩, ⟨by kernel_rfl, by kernel_rfl, by kernel_rfl⟩, ⟨by kernel_rfl, by kernel_rfl, by kernel_rfl⟩, ⟨by kernel_rfl, by kernel_rfl, by kernel_rfl⟩, trivial⟩
theorem moL4 : Try.prog.follows .mixedOrders = true := by kernel_rfl
/-! recordlink/recordlinklaw38.JournalBack -/
noncomputable def rl_law38_JournalBack_k3 (x14 : Int) (y19 : ByteArray) (x22 : Bool) : Option ((ByteArray × Int) ⊕ (ByteArray ⊕ Unit)) := if x22 = true then (some (.inr (.inr ()))) else (some (.inl (y19, i64.wrap (x14 + 1))))
noncomputable def rl_law38_JournalBack_l2 (y8 : List ByteArray) (x13 : ByteArray) (x14 : Int) : Option ((ByteArray × Int) ⊕ (ByteArray ⊕ Unit)) := if (decide (x14 < (y8.length : Int))) = true then (if 0 ≤ x14 then (if x14 < (y8.length : Int) then (bind2 (journal_Append x13 (y8.getD (0 + x14.toNat) ByteArray.empty)) fun y19 y20 => (if (y20 != 0) = true then (rl_law38_JournalBack_k3 x14 y19 true) else (if (((y19.size : Nat) : Int) != (i64.wrap ((i64.wrap (((x13.size : Nat) : Int) + 12)) + (((y8.getD (0 + x14.toNat) ByteArray.empty).size : Nat) : Int)))) = true then (rl_law38_JournalBack_k3 x14 y19 true) else (if 0 ≤ ((x13.size : Nat) : Int) then (if (((x13.size : Nat) : Int).toNat) ≤ y19.size then (rl_law38_JournalBack_k3 x14 y19 (!((y19.extract 0 (((x13.size : Nat) : Int).toNat)).toList == x13.toList))) else none) else none)))) else none) else none) else (some (.inr (.inl x13)))
noncomputable def rl_law38_JournalBack_k4 (x33 : Bool) : Option Bool := some x33
noncomputable def rl_law38_JournalBack_a5 (y8 : List ByteArray) (x28 : ByteArray) : Option Bool := bind3 (journal_Read x28) fun y29 y30 y31 => (if (y31 == 0) = true then (if (y30 == ((x28.size : Nat) : Int)) = true then ((rl_ref38_Same y29 y8).bind fun y36 => (if y36 = true then ((journal_Whole x28).bind fun y39 => (rl_law38_JournalBack_k4 (y39.toList == x28.toList))) else (rl_law38_JournalBack_k4 false))) else (rl_law38_JournalBack_k4 false)) else (rl_law38_JournalBack_k4 false))
noncomputable def rl_law38_JournalBack_a6 : Option Bool := some false
noncomputable def rl_law38_JournalBack_k1 (p0 : List Int) (x1 : Bool) : Option Bool := if x1 = true then ((rl_law38_awake).bind fun y3 => (some y3)) else ((rl_make_New p0).bind fun y5 => (bind3 (rl_law38_made y5 8) fun y7 y8 y9 => (bindE (loop (fun v : ByteArray × Int => rl_law38_JournalBack_l2 y8 v.1 v.2) ((ByteArray.mk #[]), 0)) (fun t => rl_law38_JournalBack_a5 y8 t) (fun t => rl_law38_JournalBack_a6))))
noncomputable def rl_law38_JournalBack (p0 : List Int) : Option Bool := (rl_law38_awake).bind fun y42 => (if (!y42) = true then (rl_law38_JournalBack_k1 p0 true) else ((rl_make_Few p0).bind fun y45 => (rl_law38_JournalBack_k1 p0 (!y45))))
set_option maxRecDepth 100000 in
theorem rl_law38_JournalBack_con (p0 : List Int) (r : Bool) (h : rl_law38_JournalBack p0 = some r) : Con Try.prog 4 [vl 1 Ri64 p0] [] (vb r) [] := by
 refine con_of tt_okL4 0 Try.func4 (by kernel_rfl) rfl (by kernel_rfl) (fun base X _ => AW.post ?_)
 unfold rl_law38_JournalBack at h
 refine AW.sg tt_okL4 [] [] [] 1 [] (by kernel_rfl) ?_
 refine AW.seq (AW.seq ?_)
 refine AW.join (ι := Bool) (fun v => ⟨[(0, vl 1 Ri64 p0), (19, vb v)], [], 0⟩) (fun v : Bool => rl_law38_JournalBack_k1 p0 v = some r) (fun x1 h => ?_) ?_
 ·
  unfold rl_law38_JournalBack_k1 at h
  refine AW.tn ?_
  refine AW.co h (by kernel_rfl) (fun c2 h => ?_) (fun c2 h => ?_)
  ·
   obtain ⟨y3, e4, h⟩ := bnd_some h
   refine AW.sg tt_okL4 [(2, vb y3)] [] [] 1 [hk (rl_law38_awake_con y3 e4)] (by kernel_rfl) ?_
   refine AW.ret (AW.tr ?_)
   obtain rfl := some_inj h
   exact fn0 (.inr rfl) [] 0 (vb y3) (by kernel_rfl)
  ·
   refine AW.skip (AW.tn ?_)
   obtain ⟨y5, e6, h⟩ := bnd_some h
   obtain ⟨y7, y8, y9, e10, h⟩ := bind3_some h
   refine AW.sg tt_okL4 [(4, .c (.ref 2 1 0 y8.length))] [1, 2] [(2, .row 9 false 1 y8.length (Rs y8))] 8 [hn, hl [] [] 1 (rl_make_New_con p0 y5 e6), hl [1] [] 1 (rl_law38_made_con y5 8 (y7, y8, y9) e10)] (by kernel_rfl) ?_
   refine AW.sg tt_okL4 [(5, vs (ByteArray.mk #[]))] [] [] 9 [] (by kernel_rfl) ?_
   refine AW.seq ?_
   refine AW.sg tt_okL4 [(29, vi64 0), (28, vi64 (y8.length : Int)), (27, .c (.ref 2 1 0 y8.length))] [] [] 12 [] (by kernel_rfl) ?_
   refine AW.block ?_
   refine AW.lpE h (fun v => ⟨[(4, .c (.ref 0 1 0 y8.length)), (5, vs v.1), (27, .c (.ref 0 1 0 y8.length)), (28, vi64 (y8.length : Int)), (29, vi64 v.2)], [(0, .row 9 false 1 y8.length (Rs y8))], 1⟩) (fun t => (.exit 0, ⟨[(4, .c (.ref 0 1 0 y8.length)), (5, vs t)], [(0, .row 9 false 1 y8.length (Rs y8))], 1⟩)) (fun t => (.ret, ⟨[(2, vb false)], [], 0⟩)) (conv_re [(0, 2)] (by kernel_rfl)) (fun _ => tv) (fun _ => tv) ?_ (fun x28 h => ?_) (fun t h => ?_)
   ·
    clear h
    intro v o h
    obtain ⟨x13, x14⟩ := v
    replace h : rl_law38_JournalBack_l2 y8 x13 x14 = some o := h
    unfold rl_law38_JournalBack_l2 at h
    refine AW.sg tt_okL4 [(30, vb (decide (x14 < (y8.length : Int))))] [] [] 2 [] (by kernel_rfl) ?_
    refine AW.seq ?_
    refine AW.co h (by kernel_rfl) (fun c16 h => ?_) (fun c16 h => ?_)
    ·
     refine AW.skip (AW.tn ?_)
     refine AW.seq (AW.block ?_)
     obtain ⟨g17, g18, h⟩ := ifd h
     refine AW.sg tt_okL4 [(7, vs (y8.getD (0 + x14.toNat) ByteArray.empty))] [] [] 5 [hq g17 g18, ho (p := (0 + x14.toNat) < y8.length) (by have h1 : 0 ≤ x14 := g17; have h2 : x14 < (y8.length : Int) := g18; omega)] (by kernel_rfl) ?_
     obtain ⟨y19, y20, e21, h⟩ := bind2_some h
     refine AW.sg tt_okL4 [(9, vi64 y20), (8, vs y19)] [] [] 12 [hn, hn, hk (journal_Append_con x13 (y8.getD (0 + x14.toNat) ByteArray.empty) (y19, y20) e21)] (by kernel_rfl) ?_
     refine AW.seq (AW.seq ?_)
     refine AW.join (ι := Bool) (fun v => ⟨[(4, .c (.ref 0 1 0 y8.length)), (8, vs y19), (27, .c (.ref 0 1 0 y8.length)), (28, vi64 (y8.length : Int)), (29, vi64 x14), (59, vb v)], [(0, .row 9 false 1 y8.length (Rs y8))], 1⟩) (fun v : Bool => rl_law38_JournalBack_k3 x14 y19 v = some o) (fun x22 h => ?_) ?_
     ·
      unfold rl_law38_JournalBack_k3 at h
      refine AW.tn ?_
      refine AW.co h (by kernel_rfl) (fun c23 h => ?_) (fun c23 h => ?_)
      ·
       refine AW.sg tt_okL4 [(2, vb false)] [] [] 2 [] (by kernel_rfl) ?_
       refine AW.ret (AW.tr ?_)
       refine AW.inBlock_ret (AW.tr ?_)
       exact lpo h rfl (conv_re [] (by kernel_rfl))
      ·
       refine AW.skip (AW.tn ?_)
       refine AW.rg tt_okL4 [(5, vs y19)] [] [] 3 [] (by kernel_rfl) ?_
       refine AW.inBlock_normal (AW.tn ?_)
       refine AW.rg tt_okL4 [(29, vi64 (i64.wrap (x14 + 1)))] [] [] 5 [] (by kernel_rfl) ?_
       exact lpn h (conv_re [(0, 0)] (by kernel_rfl))
     ·
      rcases ifs h with ⟨c24, h⟩ | ⟨c24, h⟩
      ·
       refine AW.rg tt_okL4 [(59, vb true)] [] [] 33 [hn, ht c24] (by kernel_rfl) ?_
       exact jl true h (conv_re [(0, 0)] (by kernel_rfl))
      ·
       rcases ifs h with ⟨c25, h⟩ | ⟨c25, h⟩
       ·
        refine AW.rg tt_okL4 [(59, vb true)] [] [] 33 [hn, hf c24, hn, hn, hn, hn, hn, hn, hn, hn, hn, ht c25] (by kernel_rfl) ?_
        exact jl true h (conv_re [(0, 0)] (by kernel_rfl))
       ·
        obtain ⟨g26, g27, h⟩ := ifd h
        refine AW.rg tt_okL4 [(59, vb (!((y19.extract 0 (((x13.size : Nat) : Int).toNat)).toList == x13.toList)))] [] [] 33 [hn, hf c24, hn, hn, hn, hn, hn, hn, hn, hn, hn, hf c25, hn, hn, hn, hn, hn, ho (p := (True) ∧ (0 ≤ ((x13.size : Nat) : Int)) ∧ (0 ≤ (((x13.size : Nat) : Int).toNat)) ∧ ((((x13.size : Nat) : Int).toNat) ≤ y19.size)) (⟨tv, g26, (Nat.zero_le _), g27⟩)] (by kernel_rfl) ?_
        exact jl (!((y19.extract 0 (((x13.size : Nat) : Int).toNat)).toList == x13.toList)) h (conv_re [(0, 0)] (by kernel_rfl))
    ·
     refine AW.exit (AW.thenQ_exit ?_)
     exact lpo h rfl (conv_re [(0, 0)] (by kernel_rfl))
   ·
    unfold rl_law38_JournalBack_a5 at h
    show (_ : Exit → St → Prop) (.exit 0) _
    refine AW.inBlock_hit (AW.tn ?_)
    obtain ⟨y29, y30, y31, e32, h⟩ := bind3_some h
    refine AW.sg tt_okL4 [(12, vi64 y31), (11, vi64 y30), (10, .c (.ref 2 1 0 y29.length))] [2] [(2, .row 9 false 1 y29.length (Rs y29))] 10 [hn, hm [] [] 1 (journal_Read_con x28 (y29, y30, y31) e32) ⟨rowL_flat Vs _ _ _, tv⟩] (by kernel_rfl) ?_
    refine AW.seq ?_
    refine AW.join (ι := Bool) (fun v => ⟨[(2, vb v)], [], 0⟩) (fun v : Bool => rl_law38_JournalBack_k4 v = some r) (fun x33 h => ?_) ?_
    ·
     unfold rl_law38_JournalBack_k4 at h
     refine AW.tn (AW.ret ?_)
     obtain rfl := some_inj h
     exact fn0 (.inr rfl) [] 0 (vb x33) (by kernel_rfl)
    ·
     rcases ifs h with ⟨c34, h⟩ | ⟨c34, h⟩
     ·
      rcases ifs h with ⟨c35, h⟩ | ⟨c35, h⟩
      ·
       obtain ⟨y36, e37, h⟩ := bnd_some h
       rcases ifs h with ⟨c38, hs⟩ | ⟨c38, hs⟩
       ·clear h; subst c38; have h := hs; clear hs
        obtain ⟨y39, e40, h⟩ := bnd_some h
        refine AW.rg tt_okL4 [(2, vb (y39.toList == x28.toList))] [] [] 28 [hn, ht c34, hn, hn, hn, hn, ht c35, hn, hn, hn, hn, hg [] [] true 0 (q := (0 + y29.length ≤ y29.length) ∧ (0 + y8.length ≤ y8.length) ∧ (True)) ⟨le0, le0, tv⟩ (a0 := [vl 1 Rs y29, vl 1 Rs y8]) (rl_ref38_Same_con y29 y8 true e37) ⟨ArgLe.refl _, ArgLe.refl _, tv⟩ (fun _ => tv), hn, hn, hn, hk (journal_Whole_con x28 y39 e40)] (by kernel_rfl) ?_
        exact jl (y39.toList == x28.toList) h (conv_re [] (by kernel_rfl))
       ·clear h; subst c38; have h := hs; clear hs
        refine AW.rg tt_okL4 [(2, vb false)] [] [] 29 [hn, ht c34, hn, hn, hn, hn, ht c35, hn, hn, hn, hn, hg [] [] true 0 (q := (0 + y29.length ≤ y29.length) ∧ (0 + y8.length ≤ y8.length) ∧ (True)) ⟨le0, le0, tv⟩ (a0 := [vl 1 Rs y29, vl 1 Rs y8]) (rl_ref38_Same_con y29 y8 false e37) ⟨ArgLe.refl _, ArgLe.refl _, tv⟩ (fun _ => tv)] (by kernel_rfl) ?_
        exact jl false h (conv_re [] (by kernel_rfl))
      ·
       refine AW.rg tt_okL4 [(2, vb false)] [] [] 30 [hn, ht c34, hn, hn, hn, hn, hf c35] (by kernel_rfl) ?_
       exact jl false h (conv_re [] (by kernel_rfl))
     ·
      refine AW.rg tt_okL4 [(2, vb false)] [] [] 30 [hn, hf c34] (by kernel_rfl) ?_
      exact jl false h (conv_re [] (by kernel_rfl))
   ·
    replace h : rl_law38_JournalBack_a6 = some r := h
    unfold rl_law38_JournalBack_a6 at h
    show (_ : Exit → St → Prop) (.ret) _
    refine AW.inBlock_ret (AW.tr ?_)
    obtain rfl := some_inj h
    exact fn0 (.inr rfl) [] 0 (vb false) (by kernel_rfl)
 ·
  obtain ⟨y42, e43, h⟩ := bnd_some h
  rcases ifs h with ⟨c44, h⟩ | ⟨c44, h⟩
  ·
   refine AW.rg tt_okL4 [(19, vb true)] [] [] 7 [hk (rl_law38_awake_con y42 e43), ht c44] (by kernel_rfl) ?_
   exact jl true h (conv_re [] (by kernel_rfl))
  ·
   obtain ⟨y45, e46, h⟩ := bnd_some h
   refine AW.rg tt_okL4 [(19, vb (!y45))] [] [] 6 [hk (rl_law38_awake_con y42 e43), hf c44, hn, hn, hk (rl_make_Few_con p0 y45 e46)] (by kernel_rfl) ?_
   exact jl (!y45) h (conv_re [] (by kernel_rfl))
end Go.Proofs.Ytjedagkkeicpkaa
