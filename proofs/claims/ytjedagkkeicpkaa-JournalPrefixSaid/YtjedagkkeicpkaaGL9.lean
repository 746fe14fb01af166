/- Printed by a program of mine (vmgen.py): Go functions, and what they come to. -/
import Derived.Test.YtjedagkkeicpkaaVr
import Derived.Test.YtjedagkkeicpkaaRows
import Derived.Test.YtjedagkkeicpkaaG0
namespace Go.Proofs.Ytjedagkkeicpkaa
open Vm
open IntKind (i64 u64 u32 u8)
set_option maxHeartbeats 10000000
set_option linter.unusedVariables false
set_option linter.unusedSimpArgs false
set_option linter.constructorNameAsVariable false
def ttlL9 : List (Nat × TI) := [(3, ⟨.int .i64, 1, 8, [.int .i64 0], false⟩), (4, ⟨.bool, 1, 1, [.bool false], false⟩), (5, ⟨.int .u8, 1, 1, [.int .u8 0], false⟩), (9, ⟨.str, 1, 16, [.string ⟨#[]⟩], false⟩), (22, ⟨.slice 3, 1, 24, [.slice none 0 0], false⟩), (23, ⟨.int .u64, 1, 8, [.int .u64 0], false⟩), (26, ⟨.ptr 49, 1, 8, [.pointer none], false⟩), (28, ⟨.slice 9, 1, 24, [.slice none 0 0], false⟩), (31, ⟨.slice 5, 1, 24, [.slice none 0 0], false⟩), (34, ⟨.int .i64, 1, 8, [.int .i64 0], false⟩), (45, ⟨.int .u64, 1, 8, [.int .u64 0], false⟩), (49, ⟨.struct [(22, 0), (3, 1), (23, 2)], 3, 40, [.slice none 0 0, .int .i64 0, .int .u64 0], false⟩), (52, ⟨.struct [(23, 0), (23, 1)], 2, 16, [.int .u64 0, .int .u64 0], true⟩), (62, ⟨.struct [(23, 0), (23, 1), (23, 2), (23, 3)], 4, 32, [.int .u64 0, .int .u64 0, .int .u64 0, .int .u64 0], true⟩), (66, ⟨.arr 4 23, 4, 32, [.int .u64 0, .int .u64 0, .int .u64 0, .int .u64 0], true⟩)]
theorem tt_okL9 : TTok Try.prog (Vm.look ttlL9) := ttok_of ⟨⟨by kernel_rfl, by kernel_rfl, by kernel_rfl⟩, ⟨by kernel_rfl, by kernel_rfl, by kernel_rfl⟩, ⟨by kernel_rfl, by kernel_rfl, by kernel_rfl⟩, ⟨by kernel_rfl, by kernel_rfl, by kernel_rfl⟩, ⟨by kernel_rfl, by kernel_rfl, by kernel_rfl⟩, ⟨by kernel_rfl, by kernel_rfl, by kernel_rfl⟩, ⟨by kernel_rfl, by kernel_rfl, by kernel_rfl⟩, ⟨by kernel_rfl, by kernel_rfl, by kernel_rfl⟩, ⟨by kernel_rfl, by kernel_rfl, by kernel_rfl⟩, ⟨by kernel_rfl, by kernel_rfl, by kernel_rfl⟩, ⟨by kernel_rfl, by kernel_rfl, by kernel_rfl⟩, ⟨by kernel_rfl, by kernel_rfl, by kernel_rfl⟩, ⟨by kernel_rfl, by kernel_rfl, by kernel_rfl⟩, ⟨by kernel_rfl, by kernel_rfl, by kernel_rfl⟩, ⟨by kernel_rfl, by kernel_rfl, by kernel_rfl⟩, trivial⟩
theorem moL9 : Try.prog.follows .mixedOrders = true := by kernel_rfl
/-! recordlink/recordlinklaw38.JournalPrefix -/
noncomputable def rl_law38_JournalPrefix_l2 (y8 : List ByteArray) (y11 : Int) (x19 : ByteArray) (x20 : Int) (x21 : Int) : Option ((ByteArray × Int × Int) ⊕ ((ByteArray × Int) ⊕ Unit)) := if (decide (x21 < ((y11.toNat : Nat) : Int))) = true then (if 0 ≤ x21 then (if x21 < ((y11.toNat : Nat) : Int) then (if (0 + x21.toNat) < y8.length then (bind2 (journal_Append x19 (y8.getD (0 + x21.toNat) ByteArray.empty)) fun y28 y29 => (if (y29 != 0) = true then (some (.inr (.inr ()))) else ((some (i64.wrap (x20 + (i64.wrap (12 + (((y8.getD (0 + x21.toNat) ByteArray.empty).size : Nat) : Int)))))).bind fun z32 => (some (.inl (y28, z32, i64.wrap (x21 + 1))))))) else none) else none) else none) else (some (.inr (.inl (x19, x20))))
noncomputable def rl_law38_JournalPrefix_k3 (x50 : Bool) : Option Bool := some x50
noncomputable def rl_law38_JournalPrefix_a4 (y7 : ByteArray) (y8 : List ByteArray) (y11 : Int) (y12 : S_recordlinkmake_Deck) (x34 : ByteArray) (x35 : Int) : Option Bool := if 0 ≤ x35 then (if x35.toNat ≤ y7.size then (if (!(x34.toList == (y7.extract 0 x35.toNat).toList)) = true then (some false) else (bind2 (rl_make_Deck_Next y12 256) fun y39 y40 => (if (ByteArray.mk #[111, 116, 104, 101, 114]).size + (strOf ([u8.wrap y39] : List Int)).size ≤ maxStr then (bind2 (journal_Append x34 ((ByteArray.mk #[111, 116, 104, 101, 114]) ++ (strOf ([u8.wrap y39] : List Int)))) fun y43 y44 => (bind3 (journal_Read y43) fun y46 y47 y48 => (if (y44 == 0) = true then (if (y48 == 0) = true then (if (y47 == ((y43.size : Nat) : Int)) = true then (if ((y46.length : Int) == (i64.wrap (y11 + 1))) = true then (if y11.toNat ≤ y46.length then ((rl_ref38_Same (y46.take y11.toNat) (y8.take y11.toNat)).bind fun y56 => (if 0 + y11.toNat ≤ y46.length then (if 0 + y11.toNat ≤ y8.length then (rl_law38_JournalPrefix_k3 y56) else none) else none)) else none) else (rl_law38_JournalPrefix_k3 false)) else (rl_law38_JournalPrefix_k3 false)) else (rl_law38_JournalPrefix_k3 false)) else (rl_law38_JournalPrefix_k3 false)))) else none))) else none) else none
noncomputable def rl_law38_JournalPrefix_a5 : Option Bool := some false
noncomputable def rl_law38_JournalPrefix_k1 (p0 : List Int) (x1 : Bool) : Option Bool := if x1 = true then ((rl_law38_awake).bind fun y3 => (some y3)) else ((rl_make_New p0).bind fun y5 => (bind3 (rl_law38_made y5 5) fun y7 y8 y9 => (bind2 (rl_make_Deck_Next y9 (i64.wrap ((y8.length : Int) + 1))) fun y11 y12 => (if 0 ≤ y11 then (if y11.toNat ≤ y8.length then (bindE (loop (fun v : ByteArray × Int × Int => rl_law38_JournalPrefix_l2 y8 y11 v.1 v.2.1 v.2.2) ((ByteArray.mk #[]), 0, 0)) (fun t => rl_law38_JournalPrefix_a4 y7 y8 y11 y12 t.1 t.2) (fun t => rl_law38_JournalPrefix_a5)) else none) else none))))
noncomputable def rl_law38_JournalPrefix (p0 : List Int) : Option Bool := (rl_law38_awake).bind fun y61 => (if (!y61) = true then (rl_law38_JournalPrefix_k1 p0 true) else ((rl_make_Few p0).bind fun y64 => (rl_law38_JournalPrefix_k1 p0 (!y64))))
set_option maxRecDepth 100000 in
theorem rl_law38_JournalPrefix_con (p0 : List Int) (r : Bool) (h : rl_law38_JournalPrefix p0 = some r) : Con Try.prog 9 [vl 1 Ri64 p0] [] (vb r) [] := by
 refine con_of tt_okL9 0 Try.func9 (by kernel_rfl) rfl (by kernel_rfl) (fun base X _ => AW.post ?_)
 unfold rl_law38_JournalPrefix at h
 refine AW.sg tt_okL9 [] [] [] 1 [] (by kernel_rfl) ?_
 refine AW.seq (AW.seq ?_)
 refine AW.join (ι := Bool) (fun v => ⟨[(0, vl 1 Ri64 p0), (24, vb v)], [], 0⟩) (fun v : Bool => rl_law38_JournalPrefix_k1 p0 v = some r) (fun x1 h => ?_) ?_
 ·
  unfold rl_law38_JournalPrefix_k1 at h
  refine AW.tn ?_
  refine AW.co h (by kernel_rfl) (fun c2 h => ?_) (fun c2 h => ?_)
  ·
   obtain ⟨y3, e4, h⟩ := bnd_some h
   refine AW.sg tt_okL9 [(2, vb y3)] [] [] 1 [hk (rl_law38_awake_con y3 e4)] (by kernel_rfl) ?_
   refine AW.ret (AW.tr ?_)
   obtain rfl := some_inj h
   exact fn0 (.inr rfl) [] 0 (vb y3) (by kernel_rfl)
  ·
   refine AW.skip (AW.tn ?_)
   obtain ⟨y5, e6, h⟩ := bnd_some h
   refine AW.sg tt_okL9 [(3, .c (.ptr 1 3 0 0))] [1] [(1, .box 49 [cl 1 Ri64 y5.list, ci64 y5.at_, cu64 y5.state])] 3 [hn, hl [] [] 1 (rl_make_New_con p0 y5 e6)] (by kernel_rfl) ?_
   obtain ⟨y7, y8, y9, e10, h⟩ := bind3_some h
   refine AW.sg tt_okL9 [(5, .c (.ref 4 1 0 y8.length)), (4, vs y7)] [1, 4] [(1, .box 49 [cl 1 Ri64 y9.list, ci64 y9.at_, cu64 y9.state]), (4, .row 9 false 1 y8.length (Rs y8))] 10 [hn, hl [1] [] 1 (rl_law38_made_con y5 5 (y7, y8, y9) e10)] (by kernel_rfl) ?_
   obtain ⟨y11, y12, e13, h⟩ := bind2_some h
   refine AW.sg tt_okL9 [(6, vi64 y11)] [1] [(1, .box 49 [cl 1 Ri64 y12.list, ci64 y12.at_, cu64 y12.state])] 15 [hn, hn, hn, hn, hl [1] [] 0 (rl_make_Deck_Next_con y9 (i64.wrap ((y8.length : Int) + 1)) (y11, y12) e13)] (by kernel_rfl) ?_
   refine AW.sg tt_okL9 [(7, vs (ByteArray.mk #[]))] [] [] 16 [] (by kernel_rfl) ?_
   refine AW.sg tt_okL9 [(8, vi64 0)] [] [] 17 [] (by kernel_rfl) ?_
   refine AW.seq ?_
   obtain ⟨g14, g15, h⟩ := ifd h
   refine AW.sg tt_okL9 [(42, vi64 0), (41, vi64 ((y11.toNat : Nat) : Int)), (40, .c (.ref 4 1 0 y11.toNat))] [] [] 22 [hn, hn, ho (p := (True) ∧ (0 ≤ y11) ∧ (0 ≤ y11.toNat) ∧ (y11.toNat ≤ y8.length)) (⟨tv, g14, (Nat.zero_le _), g15⟩)] (by kernel_rfl) ?_
   refine AW.block ?_
   refine AW.lpE h (fun v => ⟨[(3, .c (.ptr 0 3 0 0)), (4, vs y7), (5, .c (.ref 1 1 0 y8.length)), (6, vi64 y11), (7, vs v.1), (8, vi64 v.2.1), (40, .c (.ref 1 1 0 y11.toNat)), (41, vi64 ((y11.toNat : Nat) : Int)), (42, vi64 v.2.2)], [(0, .box 49 [cl 1 Ri64 y12.list, ci64 y12.at_, cu64 y12.state]), (1, .row 9 false 1 y8.length (Rs y8))], 2⟩) (fun t => (.exit 0, ⟨[(3, .c (.ptr 0 3 0 0)), (4, vs y7), (5, .c (.ref 1 1 0 y8.length)), (6, vi64 y11), (7, vs t.1), (8, vi64 t.2)], [(0, .box 49 [cl 1 Ri64 y12.list, ci64 y12.at_, cu64 y12.state]), (1, .row 9 false 1 y8.length (Rs y8))], 2⟩)) (fun t => (.ret, ⟨[(2, vb false)], [], 0⟩)) (conv_re [(0, 1), (1, 4)] (by kernel_rfl)) (fun _ => tv) (fun _ => tv) ?_ (fun t h => ?_) (fun t h => ?_)
   ·
    clear h
    intro v o h
    obtain ⟨x19, x20, x21⟩ := v
    replace h : rl_law38_JournalPrefix_l2 y8 y11 x19 x20 x21 = some o := h
    unfold rl_law38_JournalPrefix_l2 at h
    refine AW.sg tt_okL9 [(43, vb (decide (x21 < ((y11.toNat : Nat) : Int))))] [] [] 3 [] (by kernel_rfl) ?_
    refine AW.seq ?_
    refine AW.co h (by kernel_rfl) (fun c24 h => ?_) (fun c24 h => ?_)
    ·
     refine AW.skip (AW.tn ?_)
     refine AW.seq (AW.block ?_)
     obtain ⟨g25, g26, h⟩ := ifd h
     obtain ⟨g27, h⟩ := ifc h
     refine AW.sg tt_okL9 [(10, vs (y8.getD (0 + x21.toNat) ByteArray.empty))] [] [] 6 [hq g25 g26, ho g27] (by kernel_rfl) ?_
     obtain ⟨y28, y29, e30, h⟩ := bind2_some h
     refine AW.sg tt_okL9 [(12, vi64 y29), (11, vs y28)] [] [] 13 [hn, hn, hk (journal_Append_con x19 (y8.getD (0 + x21.toNat) ByteArray.empty) (y28, y29) e30)] (by kernel_rfl) ?_
     refine AW.seq ?_
     refine AW.sg tt_okL9 [(53, vb (y29 != 0))] [] [] 15 [] (by kernel_rfl) ?_
     refine AW.co h (by kernel_rfl) (fun c31 h => ?_) (fun c31 h => ?_)
     ·
      refine AW.sg tt_okL9 [(2, vb false)] [] [] 16 [] (by kernel_rfl) ?_
      refine AW.ret (AW.tr ?_)
      refine AW.inBlock_ret (AW.tr ?_)
      exact lpo h rfl (conv_re [] (by kernel_rfl))
     ·
      refine AW.skip (AW.tn ?_)
      refine AW.sg tt_okL9 [(7, vs y28)] [] [] 17 [] (by kernel_rfl) ?_
      obtain ⟨z32, n33, h⟩ := bnd_some h
      replace n33 := some_inj n33
      refine AW.rg tt_okL9 [(8, vi64 z32)] [] [] 23 [] (by subst n33; kernel_rfl) ?_
      refine AW.inBlock_normal (AW.tn ?_)
      refine AW.rg tt_okL9 [(42, vi64 (i64.wrap (x21 + 1)))] [] [] 25 [] (by kernel_rfl) ?_
      exact lpn h (conv_re [(0, 0), (1, 1)] (by kernel_rfl))
    ·
     refine AW.exit (AW.thenQ_exit ?_)
     exact lpo h rfl (conv_re [(0, 0), (1, 1)] (by kernel_rfl))
   ·
    obtain ⟨x34, x35⟩ := t
    replace h : rl_law38_JournalPrefix_a4 y7 y8 y11 y12 x34 x35 = some r := h
    unfold rl_law38_JournalPrefix_a4 at h
    show (_ : Exit → St → Prop) (.exit 0) _
    refine AW.inBlock_hit (AW.tn (AW.seq ?_))
    obtain ⟨g36, g37, h⟩ := ifd h
    refine AW.sg tt_okL9 [(65, vb (!(x34.toList == (y7.extract 0 x35.toNat).toList)))] [] [] 7 [hn, hn, hn, ho (p := (True) ∧ (0 ≤ x35) ∧ (0 ≤ x35.toNat) ∧ (x35.toNat ≤ y7.size)) (⟨tv, g36, (Nat.zero_le _), g37⟩)] (by kernel_rfl) ?_
    refine AW.co h (by kernel_rfl) (fun c38 h => ?_) (fun c38 h => ?_)
    ·
     refine AW.sg tt_okL9 [(2, vb false)] [] [] 8 [] (by kernel_rfl) ?_
     refine AW.ret (AW.tr ?_)
     obtain rfl := some_inj h
     exact fn0 (.inr rfl) [] 0 (vb false) (by kernel_rfl)
    ·
     refine AW.skip (AW.tn ?_)
     obtain ⟨y39, y40, e41, h⟩ := bind2_some h
     obtain ⟨g42, h⟩ := ifc h
     obtain ⟨y43, y44, e45, h⟩ := bind2_some h
     refine AW.sg tt_okL9 [(14, vi64 y44), (13, vs y43)] [0, 10] [] 18 [hn, hn, hl [0] [] 0 (rl_make_Deck_Next_con y12 256 (y39, y40) e41), hn, hlit 0 Eu8 1 (fun _ => rfl) ([u8.wrap y39] : List Int), hi (fun i => ([u8.wrap y39] : List Int).getD i 0) (p := (0 + ([u8.wrap y39] : List Int).length ≤ ([u8.wrap y39] : List Int).length) ∧ ∀ i, i < ([u8.wrap y39] : List Int).length → (fun i j => Ru8 ([u8.wrap y39] : List Int) (0 + i) j) i 0 = .v (.int .u8 (([u8.wrap y39] : List Int).getD i 0))) (⟨le0, fun i _ => by simp only [Nat.zero_add] <;> rfl⟩), ho g42, hk (journal_Append_con x34 ((ByteArray.mk #[111, 116, 104, 101, 114]) ++ (strOf ([u8.wrap y39] : List Int))) (y43, y44) e45)] (by kernel_rfl) ?_
     obtain ⟨y46, y47, y48, e49, h⟩ := bind3_some h
     refine AW.sg tt_okL9 [(17, vi64 y48), (16, vi64 y47), (15, .c (.ref 19 1 0 y46.length))] [19] [(19, .row 9 false 1 y46.length (Rs y46))] 27 [hn, hm [] [] 1 (journal_Read_con y43 (y46, y47, y48) e49) ⟨rowL_flat Vs _ _ _, tv⟩] (by kernel_rfl) ?_
     refine AW.seq ?_
     refine AW.join (ι := Bool) (fun v => ⟨[(2, vb v)], [], 0⟩) (fun v : Bool => rl_law38_JournalPrefix_k3 v = some r) (fun x50 h => ?_) ?_
     ·
      unfold rl_law38_JournalPrefix_k3 at h
      refine AW.tn (AW.ret ?_)
      obtain rfl := some_inj h
      exact fn0 (.inr rfl) [] 0 (vb x50) (by kernel_rfl)
     ·
      rcases ifs h with ⟨c51, h⟩ | ⟨c51, h⟩
      ·
       rcases ifs h with ⟨c52, h⟩ | ⟨c52, h⟩
       ·
        rcases ifs h with ⟨c53, h⟩ | ⟨c53, h⟩
        ·
         rcases ifs h with ⟨c54, h⟩ | ⟨c54, h⟩
         ·
          obtain ⟨g55, h⟩ := ifc h
          obtain ⟨y56, e57, h⟩ := bnd_some h
          obtain ⟨g58, g59, h⟩ := ifd h
          refine AW.rd tt_okL9 moL9 [] [(2, vb y56)] [] 55 [hn, ht c51, hn, hn, ht c52, hn, hn, hn, hn, hn, ht c53, hn, hn, hn, hn, hn, hn, ht c54, hn, hn, hn, hn, ho (p := (True) ∧ (0 ≤ y11) ∧ (0 ≤ y11.toNat) ∧ (y11.toNat ≤ y46.length)) (⟨tv, g14, (Nat.zero_le _), g55⟩), hn, hn, ho (p := (True) ∧ (0 ≤ y11) ∧ (0 ≤ y11.toNat) ∧ (y11.toNat ≤ y8.length)) (⟨tv, g14, (Nat.zero_le _), g15⟩), hg [] [] true 0 (q := (0 + y11.toNat ≤ y46.length) ∧ (0 + y11.toNat ≤ y8.length) ∧ (True)) ⟨g58, g59, tv⟩ (a0 := [.c (.t (.tree y11.toNat 1 (Rs y46))), .c (.t (.tree y11.toNat 1 (Rs y8)))]) (rl_ref38_Same_con (y46.take y11.toNat) (y8.take y11.toNat) y56 e57) ⟨ArgLe.c (CAle.tree (take_row (by omega))), ArgLe.c (CAle.tree (take_row (by omega))), tv⟩ (fun _ => tv)] (by kernel_rfl) ?_
          exact jl y56 h (conv_re [] (by kernel_rfl))
         ·
          refine AW.rd tt_okL9 moL9 [] [(2, vb false)] [] 56 [hn, ht c51, hn, hn, ht c52, hn, hn, hn, hn, hn, ht c53, hn, hn, hn, hn, hn, hn, hf c54] (by kernel_rfl) ?_
          exact jl false h (conv_re [] (by kernel_rfl))
        ·
         refine AW.rd tt_okL9 moL9 [] [(2, vb false)] [] 56 [hn, ht c51, hn, hn, ht c52, hn, hn, hn, hn, hn, hf c53] (by kernel_rfl) ?_
         exact jl false h (conv_re [] (by kernel_rfl))
       ·
        refine AW.rd tt_okL9 moL9 [] [(2, vb false)] [] 56 [hn, ht c51, hn, hn, hf c52] (by kernel_rfl) ?_
        exact jl false h (conv_re [] (by kernel_rfl))
      ·
       refine AW.rd tt_okL9 moL9 [] [(2, vb false)] [] 56 [hn, hf c51] (by kernel_rfl) ?_
       exact jl false h (conv_re [] (by kernel_rfl))
   ·
    replace h : rl_law38_JournalPrefix_a5 = some r := h
    unfold rl_law38_JournalPrefix_a5 at h
    show (_ : Exit → St → Prop) (.ret) _
    refine AW.inBlock_ret (AW.tr ?_)
    obtain rfl := some_inj h
    exact fn0 (.inr rfl) [] 0 (vb false) (by kernel_rfl)
 ·
  obtain ⟨y61, e62, h⟩ := bnd_some h
  rcases ifs h with ⟨c63, h⟩ | ⟨c63, h⟩
  ·
   refine AW.rg tt_okL9 [(24, vb true)] [] [] 7 [hk (rl_law38_awake_con y61 e62), ht c63] (by kernel_rfl) ?_
   exact jl true h (conv_re [] (by kernel_rfl))
  ·
   obtain ⟨y64, e65, h⟩ := bnd_some h
   refine AW.rg tt_okL9 [(24, vb (!y64))] [] [] 6 [hk (rl_law38_awake_con y61 e62), hf c63, hn, hn, hk (rl_make_Few_con p0 y64 e65)] (by kernel_rfl) ?_
   exact jl (!y64) h (conv_re [] (by kernel_rfl))
end Go.Proofs.Ytjedagkkeicpkaa
