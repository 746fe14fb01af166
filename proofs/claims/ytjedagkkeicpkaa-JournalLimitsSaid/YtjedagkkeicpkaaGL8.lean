/- Printed by a program of mine (vmgen.py): Go functions, and what they come to. -/
import Derived.Test.YtjedagkkeicpkaaVr
import Derived.Test.YtjedagkkeicpkaaRows
import Derived.Test.YtjedagkkeicpkaaG0
namespace Go.Proofs.Ytjedagkkeicpkaa
open Vm
open IntKind (i64 u64 u32 u8)
set_option maxHeartbeats 10000000
set_option linter.unusedVariables false
set_option linter.unusedSimpArgs false
set_option linter.constructorNameAsVariable false
def ttlL8 : List (Nat × TI) := [(3, ⟨.int .i64, 1, 8, [.int .i64 0], false⟩), (4, ⟨.bool, 1, 1, [.bool false], false⟩), (5, ⟨.int .u8, 1, 1, [.int .u8 0], false⟩), (9, ⟨.str, 1, 16, [.string ⟨#[]⟩], false⟩), (22, ⟨.slice 3, 1, 24, [.slice none 0 0], false⟩), (23, ⟨.int .u64, 1, 8, [.int .u64 0], false⟩), (26, ⟨.ptr 49, 1, 8, [.pointer none], false⟩), (28, ⟨.slice 9, 1, 24, [.slice none 0 0], false⟩), (31, ⟨.slice 5, 1, 24, [.slice none 0 0], false⟩), (34, ⟨.int .i64, 1, 8, [.int .i64 0], false⟩), (45, ⟨.int .u64, 1, 8, [.int .u64 0], false⟩), (49, ⟨.struct [(22, 0), (3, 1), (23, 2)], 3, 40, [.slice none 0 0, .int .i64 0, .int .u64 0], false⟩), (52, ⟨.struct [(23, 0), (23, 1)], 2, 16, [.int .u64 0, .int .u64 0], true⟩), (62, ⟨.struct [(23, 0), (23, 1), (23, 2), (23, 3)], 4, 32, [.int .u64 0, .int .u64 0, .int .u64 0, .int .u64 0], true⟩), (66, ⟨.arr 4 23, 4, 32, [.int .u64 0, .int .u64 0, .int .u64 0, .int .u64 0], true⟩)]
theorem tt_okL8 : TTok Try.prog (Vm.look ttlL8) := ttok_of ⟨⟨by kernel_rfl, by kernel_rfl, by kernel_rfl⟩, ⟨by kernel_rfl, by kernel_rfl, by kernel_rfl⟩, ⟨by kernel_rfl, by kernel_rfl, by kernel_rfl⟩, ⟨by kernel_rfl, by kernel_rfl, by kernel_rfl⟩, ⟨by kernel_rfl, by kernel_rfl, by kernel_rfl⟩, ⟨by kernel_rfl, by kernel_rfl, by kernel_rfl⟩, ⟨by kernel_rfl, by kernel_rfl, by kernel_rfl⟩, ⟨by kernel_rfl, by kernel_rfl, by kernel_rfl⟩, ⟨by kernel_rfl, by kernel_rfl, by kernel_rfl⟩, ⟨by kernel_rfl, by kernel_rfl, by kernel_rfl⟩, ⟨by kernel_rfl, by kernel_rfl, by kernel_rfl⟩, ⟨by kernel_rfl, by kernel_rfl, by kernel_rfl⟩, ⟨by kernel_rfl, by kernel_rfl, by kernel_rfl⟩, ⟨by kernel_rfl, by kernel_rfl, by kernel_rfl⟩, ⟨by kernel_rfl, by kernel_rfl, by kernel_rfl⟩, trivial⟩
theorem moL8 : Try.prog.follows .mixedOrders = true := by kernel_rfl
/-! recordlink/recordlinklaw38.JournalLimits -/
noncomputable def rl_law38_JournalLimits_l2 (y12 : Int) (x16 : List Int) (x17 : Int) : Option (((List Int) × Int) ⊕ (List Int)) := if (decide (x17 ≥ 0)) = true then (if 0 ≤ (u64.wrap x17) then (if x16.length + ([u8.wrap (ishr .u64 y12 (u64.wrap x17))] : List Int).length ≤ 1099511627776 then (some (.inl ((x16 ++ ([u8.wrap (ishr .u64 y12 (u64.wrap x17))] : List Int)), i64.wrap (x17 - 8)))) else none) else none) else (some (.inr x16))
noncomputable def rl_law38_JournalLimits_l1 (x7 : ByteArray) (x8 : Int) (x9 : Int) : Option ((ByteArray × Int × Int) ⊕ ByteArray) := if (decide (x9 < 512)) = true then ((rl_ref38_Sum x8 (ByteArray.mk #[])).bind fun y12 => ((loop (fun v : (List Int) × Int => rl_law38_JournalLimits_l2 y12 v.1 v.2) (([0, 0, 255, 255] : List Int), 56)).bind fun x22 => (if x7.size + (strOf x22).size ≤ maxStr then (some (.inl ((x7 ++ (strOf x22)), y12, i64.wrap (x9 + 1)))) else none))) else (some (.inr x7))
noncomputable def rl_law38_JournalLimits_k3 (x56 : Bool) : Option Bool := some x56
noncomputable def rl_law38_JournalLimits (p0 : Int) : Option Bool := (rl_law38_awake).bind fun y1 => (if (!y1) = true then (some false) else ((loop (fun v : ByteArray × Int × Int => rl_law38_JournalLimits_l1 v.1 v.2.1 v.2.2) ((ByteArray.mk #[]), 0, 0)).bind fun x25 => (bind3 (journal_Read x25) fun y26 y27 y28 => (bind2 (journal_Append x25 (ByteArray.mk #[])) fun y30 y31 => (if 0 ≤ (i64.wrap (((x25.size : Nat) : Int) - 12)) then (if ((i64.wrap (((x25.size : Nat) : Int) - 12)).toNat) ≤ x25.size then (bind2 (journal_Append (x25.extract 0 ((i64.wrap (((x25.size : Nat) : Int) - 12)).toNat)) (ByteArray.mk #[97])) fun y35 y36 => (if x25.size + (ByteArray.mk #[120]).size ≤ maxStr then (bind3 (journal_Read (x25 ++ (ByteArray.mk #[120]))) fun y39 y40 y41 => (bind2 (journal_Append (ByteArray.mk #[]) (strOf (List.replicate 60000 (0 : Int)))) fun y43 y44 => (if (strOf (List.replicate 60000 (0 : Int))).size + (ByteArray.mk #[122]).size ≤ maxStr then (bind2 (journal_Append (ByteArray.mk #[]) ((strOf (List.replicate 60000 (0 : Int))) ++ (ByteArray.mk #[122]))) fun y47 y48 => (if 0 ≤ (i64.wrap (1 + (i64.wrap p0))) then (if (i64.wrap (1 + (i64.wrap p0))) ≤ 1099511627776 then (if (strOf (List.replicate 60000 (0 : Int))).size + (strOf (List.replicate ((i64.wrap (1 + (i64.wrap p0))).toNat) (0 : Int))).size ≤ maxStr then (bind2 (journal_Append (ByteArray.mk #[]) ((strOf (List.replicate 60000 (0 : Int))) ++ (strOf (List.replicate ((i64.wrap (1 + (i64.wrap p0))).toNat) (0 : Int))))) fun y53 y54 => (if (y28 == 0) = true then (if ((y26.length : Int) == 512) = true then (if (y27 == ((x25.size : Nat) : Int)) = true then (if (y31 == 1) = true then (if (y36 == 0) = true then (if (((y35.size : Nat) : Int) == (i64.wrap (((x25.size : Nat) : Int) + 1))) = true then (if (y41 == 1) = true then (if (y40 == ((x25.size : Nat) : Int)) = true then (if (y44 == 0) = true then (if (((y43.size : Nat) : Int) == 60012) = true then (if (y48 == 1) = true then (rl_law38_JournalLimits_k3 (y54 == 1)) else (rl_law38_JournalLimits_k3 false)) else (rl_law38_JournalLimits_k3 false)) else (rl_law38_JournalLimits_k3 false)) else (rl_law38_JournalLimits_k3 false)) else (rl_law38_JournalLimits_k3 false)) else (rl_law38_JournalLimits_k3 false)) else (rl_law38_JournalLimits_k3 false)) else (rl_law38_JournalLimits_k3 false)) else (rl_law38_JournalLimits_k3 false)) else (rl_law38_JournalLimits_k3 false)) else (rl_law38_JournalLimits_k3 false))) else none) else none) else none)) else none))) else none)) else none) else none)))))
set_option maxRecDepth 100000 in
theorem rl_law38_JournalLimits_con (p0 : Int) (r : Bool) (h : rl_law38_JournalLimits p0 = some r) : Con Try.prog 8 [vu8 p0] [] (vb r) [] := by
 refine con_of tt_okL8 0 Try.func8 (by kernel_rfl) rfl (by kernel_rfl) (fun base X _ => AW.post ?_)
 unfold rl_law38_JournalLimits at h
 refine AW.sg tt_okL8 [] [] [] 1 [] (by kernel_rfl) ?_
 refine AW.seq ?_
 obtain ⟨y1, e2, h⟩ := bnd_some h
 refine AW.sg tt_okL8 [(26, vb (!y1))] [] [] 2 [hk (rl_law38_awake_con y1 e2)] (by kernel_rfl) ?_
 refine AW.co h (by kernel_rfl) (fun c3 h => ?_) (fun c3 h => ?_)
 ·
  refine AW.sg tt_okL8 [(2, vb false)] [] [] 3 [] (by kernel_rfl) ?_
  refine AW.ret (AW.tr ?_)
  obtain rfl := some_inj h
  exact fn0 (.inr rfl) [] 0 (vb false) (by kernel_rfl)
 ·
  refine AW.skip (AW.tn ?_)
  refine AW.sg tt_okL8 [(3, vs (ByteArray.mk #[]))] [] [] 3 [] (by kernel_rfl) ?_
  refine AW.sg tt_okL8 [(4, vu64 0)] [] [] 4 [] (by kernel_rfl) ?_
  refine AW.seq ?_
  refine AW.sg tt_okL8 [(5, vi64 0)] [] [] 5 [] (by kernel_rfl) ?_
  refine AW.block ?_
  obtain ⟨x25, l68, h⟩ := bnd_some h
  refine AW.lp l68 (fun v => ⟨[(0, vu8 p0), (3, vs v.1), (4, vu64 v.2.1), (5, vi64 v.2.2)], [], 0⟩) (fun t : ByteArray => (.exit 0, ⟨[(0, vu8 p0), (3, vs t)], [], 0⟩)) (conv_re [] (by kernel_rfl)) (fun _ => tv) ?_ ?_
  ·
   clear l68 h
   intro v o h
   obtain ⟨x7, x8, x9⟩ := v
   replace h : rl_law38_JournalLimits_l1 x7 x8 x9 = some o := h
   unfold rl_law38_JournalLimits_l1 at h
   refine AW.seq ?_
   refine AW.sg tt_okL8 [(28, vb (decide (x9 < 512)))] [] [] 2 [] (by kernel_rfl) ?_
   refine AW.co h (by kernel_rfl) (fun c11 h => ?_) (fun c11 h => ?_)
   ·
    refine AW.skip (AW.tn ?_)
    refine AW.seq (AW.block ?_)
    obtain ⟨y12, e13, h⟩ := bnd_some h
    refine AW.sg tt_okL8 [(4, vu64 y12)] [] [] 4 [hn, hk (rl_ref38_Sum_con x8 (ByteArray.mk #[]) y12 e13)] (by kernel_rfl) ?_
    refine AW.sg tt_okL8 [(6, .c (.ref 4 1 0 (([0, 0, 255, 255] : List Int).length)))] [4] [(4, .row 5 false 1 ([0, 0, 255, 255] : List Int).length (Ru8 ([0, 0, 255, 255] : List Int)))] 6 [hlit 0 Eu8 1 (fun _ => rfl) ([0, 0, 255, 255] : List Int)] (by kernel_rfl) ?_
    refine AW.seq ?_
    refine AW.sg tt_okL8 [(7, vi64 56)] [] [] 7 [] (by kernel_rfl) ?_
    refine AW.block ?_
    obtain ⟨x22, l24, h⟩ := bnd_some h
    refine AW.lp l24 (fun v => ⟨[(0, vu8 p0), (3, vs x7), (4, vu64 y12), (5, vi64 x9), (6, .c (.ref 0 1 0 v.1.length)), (7, vi64 v.2)], [(0, .row 5 false 1 v.1.length (Ru8 v.1))], 1⟩) (fun t : List Int => (.exit 2, ⟨[(0, vu8 p0), (3, vs x7), (4, vu64 y12), (5, vi64 x9), (6, .c (.ref 0 1 0 t.length))], [(0, .row 5 false 1 t.length (Ru8 t))], 1⟩)) (conv_re [(0, 4)] (by kernel_rfl)) (fun _ => tv) ?_ ?_
    ·
     clear l24 h
     intro v o h
     obtain ⟨x16, x17⟩ := v
     replace h : rl_law38_JournalLimits_l2 y12 x16 x17 = some o := h
     unfold rl_law38_JournalLimits_l2 at h
     refine AW.seq ?_
     refine AW.sg tt_okL8 [(35, vb (decide (x17 ≥ 0)))] [] [] 3 [] (by kernel_rfl) ?_
     refine AW.co h (by kernel_rfl) (fun c19 h => ?_) (fun c19 h => ?_)
     ·
      refine AW.skip (AW.tn ?_)
      refine AW.seq (AW.block ?_)
      obtain ⟨g20, g21, h⟩ := ifd h
      refine AW.rg tt_okL8 [(6, .c (.ref 10 1 0 ((x16 ++ ([u8.wrap (ishr .u64 y12 (u64.wrap x17))] : List Int)).length)))] [0, 9, 10] [(10, .row 5 false 1 (x16 ++ ([u8.wrap (ishr .u64 y12 (u64.wrap x17))] : List Int)).length (Ru8 (x16 ++ ([u8.wrap (ishr .u64 y12 (u64.wrap x17))] : List Int))))] 12 [hn, hn, hn, hn, ho g20, hn, hlit 0 Eu8 1 (fun _ => rfl) ([u8.wrap (ishr .u64 y12 (u64.wrap x17))] : List Int), happ 0 Eu8 1 1 x16 ([u8.wrap (ishr .u64 y12 (u64.wrap x17))] : List Int) g21 (by decide)] (by kernel_rfl) ?_
      refine AW.inBlock_normal (AW.tn ?_)
      refine AW.rg tt_okL8 [(7, vi64 (i64.wrap (x17 - 8)))] [] [] 15 [] (by kernel_rfl) ?_
      exact lpn h (conv_re [(0, 10)] (by kernel_rfl))
     ·
      refine AW.exit (AW.thenQ_exit ?_)
      exact lpo h rfl (conv_re [(0, 0)] (by kernel_rfl))
    ·
     show (_ : Exit → St → Prop) (.exit 2) _
     refine AW.inBlock_hit (AW.tn ?_)
     obtain ⟨g23, h⟩ := ifc h
     refine AW.rg tt_okL8 [(3, vs (x7 ++ (strOf x22)))] [] [] 6 [hn, hn, hi (fun i => x22.getD i 0) (p := (0 + x22.length ≤ x22.length) ∧ ∀ i, i < x22.length → (fun i j => Ru8 x22 (0 + i) j) i 0 = .v (.int .u8 (x22.getD i 0))) (⟨le0, fun i _ => by simp only [Nat.zero_add] <;> rfl⟩), ho g23] (by kernel_rfl) ?_
     refine AW.inBlock_normal (AW.tn ?_)
     refine AW.rg tt_okL8 [(5, vi64 (i64.wrap (x9 + 1)))] [] [] 9 [] (by kernel_rfl) ?_
     exact lpn h (conv_re [] (by kernel_rfl))
   ·
    refine AW.exit (AW.thenQ_exit ?_)
    exact lpo h rfl (conv_re [] (by kernel_rfl))
  ·
   show (_ : Exit → St → Prop) (.exit 0) _
   refine AW.inBlock_hit (AW.tn ?_)
   obtain ⟨y26, y27, y28, e29, h⟩ := bind3_some h
   refine AW.sg tt_okL8 [(10, vi64 y28), (9, vi64 y27), (8, .c (.ref 1 1 0 y26.length))] [1] [(1, .row 9 false 1 y26.length (Rs y26))] 9 [hn, hm [] [] 1 (journal_Read_con x25 (y26, y27, y28) e29) ⟨rowL_flat Vs _ _ _, tv⟩] (by kernel_rfl) ?_
   obtain ⟨y30, y31, e32, h⟩ := bind2_some h
   refine AW.sg tt_okL8 [(12, vi64 y31)] [] [] 15 [hn, hk (journal_Append_con x25 (ByteArray.mk #[]) (y30, y31) e32)] (by kernel_rfl) ?_
   obtain ⟨g33, g34, h⟩ := ifd h
   obtain ⟨y35, y36, e37, h⟩ := bind2_some h
   refine AW.sg tt_okL8 [(14, vi64 y36), (13, vs y35)] [] [] 25 [hn, hn, hn, hn, ho (p := (True) ∧ (0 ≤ (i64.wrap (((x25.size : Nat) : Int) - 12))) ∧ (0 ≤ ((i64.wrap (((x25.size : Nat) : Int) - 12)).toNat)) ∧ (((i64.wrap (((x25.size : Nat) : Int) - 12)).toNat) ≤ x25.size)) (⟨tv, g33, (Nat.zero_le _), g34⟩), hk (journal_Append_con (x25.extract 0 ((i64.wrap (((x25.size : Nat) : Int) - 12)).toNat)) (ByteArray.mk #[97]) (y35, y36) e37)] (by kernel_rfl) ?_
   obtain ⟨g38, h⟩ := ifc h
   obtain ⟨y39, y40, y41, e42, h⟩ := bind3_some h
   refine AW.sg tt_okL8 [(17, vi64 y41), (16, vi64 y40)] [27] [] 35 [hn, ho g38, hm [] [] 1 (journal_Read_con (x25 ++ (ByteArray.mk #[120])) (y39, y40, y41) e42) ⟨rowL_flat Vs _ _ _, tv⟩] (by kernel_rfl) ?_
   refine AW.sg tt_okL8 [(18, vs (strOf (List.replicate 60000 (0 : Int))))] [35] [] 38 [hmk 0 Eu8 1 1 [.int .u8 0] rfl rfl (60000 : Int) (60000 : Int) (by decide) (Int.le_refl _) (by decide) (by decide), hi (fun i => (List.replicate 60000 (0 : Int)).getD i 0) (p := (0 + (List.replicate 60000 (0 : Int)).length ≤ (List.replicate 60000 (0 : Int)).length) ∧ ∀ i, i < (List.replicate 60000 (0 : Int)).length → (fun i j => Ru8 (List.replicate 60000 (0 : Int)) (0 + i) j) i 0 = .v (.int .u8 ((List.replicate 60000 (0 : Int)).getD i 0))) (⟨le0, fun i _ => by simp only [Nat.zero_add] <;> rfl⟩)] (by kernel_rfl) ?_
   obtain ⟨y43, y44, e45, h⟩ := bind2_some h
   refine AW.sg tt_okL8 [(20, vi64 y44), (19, vs y43)] [] [] 44 [hn, hk (journal_Append_con (ByteArray.mk #[]) (strOf (List.replicate 60000 (0 : Int))) (y43, y44) e45)] (by kernel_rfl) ?_
   obtain ⟨g46, h⟩ := ifc h
   obtain ⟨y47, y48, e49, h⟩ := bind2_some h
   refine AW.sg tt_okL8 [(22, vi64 y48)] [] [] 51 [hn, ho g46, hk (journal_Append_con (ByteArray.mk #[]) ((strOf (List.replicate 60000 (0 : Int))) ++ (ByteArray.mk #[122])) (y47, y48) e49)] (by kernel_rfl) ?_
   obtain ⟨g50, g51, h⟩ := ifd h
   obtain ⟨g52, h⟩ := ifc h
   obtain ⟨y53, y54, e55, h⟩ := bind2_some h
   refine AW.sg tt_okL8 [(24, vi64 y54)] [55] [] 63 [hn, hn, hn, hn, hmk 0 Eu8 1 1 [.int .u8 0] rfl rfl (i64.wrap (1 + (i64.wrap p0))) (i64.wrap (1 + (i64.wrap p0))) g50 (Int.le_refl _) g51 (by decide), hi (fun i => (List.replicate ((i64.wrap (1 + (i64.wrap p0))).toNat) (0 : Int)).getD i 0) (p := (0 + (List.replicate ((i64.wrap (1 + (i64.wrap p0))).toNat) (0 : Int)).length ≤ (List.replicate ((i64.wrap (1 + (i64.wrap p0))).toNat) (0 : Int)).length) ∧ ∀ i, i < (List.replicate ((i64.wrap (1 + (i64.wrap p0))).toNat) (0 : Int)).length → (fun i j => Ru8 (List.replicate ((i64.wrap (1 + (i64.wrap p0))).toNat) (0 : Int)) (0 + i) j) i 0 = .v (.int .u8 ((List.replicate ((i64.wrap (1 + (i64.wrap p0))).toNat) (0 : Int)).getD i 0))) (⟨le0, fun i _ => by simp only [Nat.zero_add] <;> rfl⟩), ho g52, hk (journal_Append_con (ByteArray.mk #[]) ((strOf (List.replicate 60000 (0 : Int))) ++ (strOf (List.replicate ((i64.wrap (1 + (i64.wrap p0))).toNat) (0 : Int)))) (y53, y54) e55)] (by kernel_rfl) ?_
   refine AW.seq ?_
   refine AW.join (ι := Bool) (fun v => ⟨[(2, vb v)], [], 0⟩) (fun v : Bool => rl_law38_JournalLimits_k3 v = some r) (fun x56 h => ?_) ?_
   ·
    unfold rl_law38_JournalLimits_k3 at h
    refine AW.tn (AW.ret ?_)
    obtain rfl := some_inj h
    exact fn0 (.inr rfl) [] 0 (vb x56) (by kernel_rfl)
   ·
    rcases ifs h with ⟨c57, h⟩ | ⟨c57, h⟩
    ·
     rcases ifs h with ⟨c58, h⟩ | ⟨c58, h⟩
     ·
      rcases ifs h with ⟨c59, h⟩ | ⟨c59, h⟩
      ·
       rcases ifs h with ⟨c60, h⟩ | ⟨c60, h⟩
       ·
        rcases ifs h with ⟨c61, h⟩ | ⟨c61, h⟩
        ·
         rcases ifs h with ⟨c62, h⟩ | ⟨c62, h⟩
         ·
          rcases ifs h with ⟨c63, h⟩ | ⟨c63, h⟩
          ·
           rcases ifs h with ⟨c64, h⟩ | ⟨c64, h⟩
           ·
            rcases ifs h with ⟨c65, h⟩ | ⟨c65, h⟩
            ·
             rcases ifs h with ⟨c66, h⟩ | ⟨c66, h⟩
             ·
              rcases ifs h with ⟨c67, h⟩ | ⟨c67, h⟩
              ·
               refine AW.rg tt_okL8 [(2, vb (y54 == 1))] [] [] 120 [hn, ht c57, hn, hn, hn, ht c58, hn, hn, hn, hn, hn, ht c59, hn, hn, hn, ht c60, hn, hn, hn, ht c61, hn, hn, hn, hn, hn, hn, hn, ht c62, hn, hn, hn, ht c63, hn, hn, hn, hn, hn, ht c64, hn, hn, hn, ht c65, hn, hn, hn, hn, ht c66, hn, hn, hn, ht c67] (by kernel_rfl) ?_
               exact jl (y54 == 1) h (conv_re [] (by kernel_rfl))
              ·
               refine AW.rg tt_okL8 [(2, vb false)] [] [] 120 [hn, ht c57, hn, hn, hn, ht c58, hn, hn, hn, hn, hn, ht c59, hn, hn, hn, ht c60, hn, hn, hn, ht c61, hn, hn, hn, hn, hn, hn, hn, ht c62, hn, hn, hn, ht c63, hn, hn, hn, hn, hn, ht c64, hn, hn, hn, ht c65, hn, hn, hn, hn, ht c66, hn, hn, hn, hf c67] (by kernel_rfl) ?_
               exact jl false h (conv_re [] (by kernel_rfl))
             ·
              refine AW.rg tt_okL8 [(2, vb false)] [] [] 120 [hn, ht c57, hn, hn, hn, ht c58, hn, hn, hn, hn, hn, ht c59, hn, hn, hn, ht c60, hn, hn, hn, ht c61, hn, hn, hn, hn, hn, hn, hn, ht c62, hn, hn, hn, ht c63, hn, hn, hn, hn, hn, ht c64, hn, hn, hn, ht c65, hn, hn, hn, hn, hf c66] (by kernel_rfl) ?_
              exact jl false h (conv_re [] (by kernel_rfl))
            ·
             refine AW.rg tt_okL8 [(2, vb false)] [] [] 120 [hn, ht c57, hn, hn, hn, ht c58, hn, hn, hn, hn, hn, ht c59, hn, hn, hn, ht c60, hn, hn, hn, ht c61, hn, hn, hn, hn, hn, hn, hn, ht c62, hn, hn, hn, ht c63, hn, hn, hn, hn, hn, ht c64, hn, hn, hn, hf c65] (by kernel_rfl) ?_
             exact jl false h (conv_re [] (by kernel_rfl))
           ·
            refine AW.rg tt_okL8 [(2, vb false)] [] [] 120 [hn, ht c57, hn, hn, hn, ht c58, hn, hn, hn, hn, hn, ht c59, hn, hn, hn, ht c60, hn, hn, hn, ht c61, hn, hn, hn, hn, hn, hn, hn, ht c62, hn, hn, hn, ht c63, hn, hn, hn, hn, hn, hf c64] (by kernel_rfl) ?_
            exact jl false h (conv_re [] (by kernel_rfl))
          ·
           refine AW.rg tt_okL8 [(2, vb false)] [] [] 120 [hn, ht c57, hn, hn, hn, ht c58, hn, hn, hn, hn, hn, ht c59, hn, hn, hn, ht c60, hn, hn, hn, ht c61, hn, hn, hn, hn, hn, hn, hn, ht c62, hn, hn, hn, hf c63] (by kernel_rfl) ?_
           exact jl false h (conv_re [] (by kernel_rfl))
         ·
          refine AW.rg tt_okL8 [(2, vb false)] [] [] 120 [hn, ht c57, hn, hn, hn, ht c58, hn, hn, hn, hn, hn, ht c59, hn, hn, hn, ht c60, hn, hn, hn, ht c61, hn, hn, hn, hn, hn, hn, hn, hf c62] (by kernel_rfl) ?_
          exact jl false h (conv_re [] (by kernel_rfl))
        ·
         refine AW.rg tt_okL8 [(2, vb false)] [] [] 120 [hn, ht c57, hn, hn, hn, ht c58, hn, hn, hn, hn, hn, ht c59, hn, hn, hn, ht c60, hn, hn, hn, hf c61] (by kernel_rfl) ?_
         exact jl false h (conv_re [] (by kernel_rfl))
       ·
        refine AW.rg tt_okL8 [(2, vb false)] [] [] 120 [hn, ht c57, hn, hn, hn, ht c58, hn, hn, hn, hn, hn, ht c59, hn, hn, hn, hf c60] (by kernel_rfl) ?_
        exact jl false h (conv_re [] (by kernel_rfl))
      ·
       refine AW.rg tt_okL8 [(2, vb false)] [] [] 120 [hn, ht c57, hn, hn, hn, ht c58, hn, hn, hn, hn, hn, hf c59] (by kernel_rfl) ?_
       exact jl false h (conv_re [] (by kernel_rfl))
     ·
      refine AW.rg tt_okL8 [(2, vb false)] [] [] 120 [hn, ht c57, hn, hn, hn, hf c58] (by kernel_rfl) ?_
      exact jl false h (conv_re [] (by kernel_rfl))
    ·
     refine AW.rg tt_okL8 [(2, vb false)] [] [] 120 [hn, hf c57] (by kernel_rfl) ?_
     exact jl false h (conv_re [] (by kernel_rfl))
end Go.Proofs.Ytjedagkkeicpkaa
