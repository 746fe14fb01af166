/- Printed by a program of mine (vmgen.py): Go functions, and what they come to. -/
import Derived.Test.YtjedagkkeicpkaaVr
import Derived.Test.YtjedagkkeicpkaaRows
import Derived.Test.YtjedagkkeicpkaaG0
namespace Go.Proofs.Ytjedagkkeicpkaa
open Vm
open IntKind (i64 u64 u32 u8)
set_option maxHeartbeats 10000000
set_option linter.unusedVariables false
set_option linter.unusedSimpArgs false
set_option linter.constructorNameAsVariable false
def ttlL3 : List (Nat × TI) := [(3, ⟨.int .i64, 1, 8, [.int .i64 0], false⟩), (4, ⟨.bool, 1, 1, [.bool false], false⟩), (5, ⟨.int .u8, 1, 1, [.int .u8 0], false⟩), (9, ⟨.str, 1, 16, [.string ⟨#[]⟩], false⟩), (22, ⟨.slice 3, 1, 24, [.slice none 0 0], false⟩), (23, ⟨.int .u64, 1, 8, [.int .u64 0], false⟩), (26, ⟨.ptr 49, 1, 8, [.pointer none], false⟩), (28, ⟨.slice 9, 1, 24, [.slice none 0 0], false⟩), (31, ⟨.slice 5, 1, 24, [.slice none 0 0], false⟩), (34, ⟨.int .i64, 1, 8, [.int .i64 0], false⟩), (45, ⟨.int .u64, 1, 8, [.int .u64 0], false⟩), (49, ⟨.struct [(22, 0), (3, 1), (23, 2)], 3, 40, [.slice none 0 0, .int .i64 0, .int .u64 0], false⟩), (52, ⟨.struct [(23, 0), (23, 1)], 2, 16, [.int .u64 0, .int .u64 0], true⟩), (62, ⟨.struct [(23, 0), (23, 1), (23, 2), (23, 3)], 4, 32, [.int .u64 0, .int .u64 0, .int .u64 0, .int .u64 0], true⟩), (66, ⟨.arr 4 23, 4, 32, [.int .u64 0, .int .u64 0, .int .u64 0, .int .u64 0], true⟩)]
theorem tt_okL3 : TTok Try.prog (Vm.look ttlL3) := ttok_of ⟨⟨by kernel_rfl, by kernel_rfl, by kernel_rfl⟩, ⟨by kernel_rfl, by kernel_rfl, by kernel_rfl⟩, ⟨by kernel_rfl, by kernel_rfl, by kernel_rfl⟩, ⟨by kernel_rfl, by kernel_rfl, by kernel_rfl⟩, ⟨by kernel_rfl, by kernel_rfl, by kernel_rfl⟩, ⟨by kernel_rfl, by kernel_rfl, by kernel_rfl⟩, ⟨by kernel_rfl, by kernel_rfl, by kernel_rfl⟩, ⟨by kernel_rfl, by kernel_rfl, by kernel_rfl⟩, ⟨by kernel_rfl, by kernel_rfl, by kernel_rfl⟩, ⟨by kernel_rfl, by kernel_rfl, by kernel_rfl⟩, ⟨by kernel_rfl, by kernel_rfl, by kernel_rfl⟩, ⟨by kernel_rfl, by kernel_rfl, by kernel_rfl⟩, ⟨by kernel_rfl, by kernel_rfl, by kernel_rfl⟩, ⟨by kernel_rfl, by kernel_rfl, by kernel_rfl⟩, ⟨by kernel_rfl, by kernel_rfl, by kernel_rfl⟩, trivial⟩
theorem moL3 : Try.prog.follows .mixedOrders = true := by kernel_rfl
/-! recordlink/recordlinklaw38.JournalExact -/
noncomputable def rl_law38_JournalExact_k4 (x27 : Int) (x45 : Bool) : Option (Int ⊕ (Unit ⊕ Unit)) := if x45 = true then (some (.inr (.inr ()))) else (some (.inl (i64.wrap (x27 + 1))))
noncomputable def rl_law38_JournalExact_l3 (p1 : ByteArray) (p2 : ByteArray) (y7 : ByteArray) (x12 : List Int) (y18 : Int) (x27 : Int) : Option (Int ⊕ (Unit ⊕ Unit)) := if (decide (x27 < ((([y7, (strOf x12), (y7.extract 0 y18.toNat), (y7 ++ p1), p1, (y7 ++ y7), ((ByteArray.mk #[255, 255, 0, 0]) ++ p1), ((ByteArray.mk #[234, 97, 21, 158]) ++ p1)] : List ByteArray).length : Nat) : Int))) = true then (if 0 ≤ x27 then (if x27 < ((([y7, (strOf x12), (y7.extract 0 y18.toNat), (y7 ++ p1), p1, (y7 ++ y7), ((ByteArray.mk #[255, 255, 0, 0]) ++ p1), ((ByteArray.mk #[234, 97, 21, 158]) ++ p1)] : List ByteArray).length : Nat) : Int) then (bind3 (journal_Read (([y7, (strOf x12), (y7.extract 0 y18.toNat), (y7 ++ p1), p1, (y7 ++ y7), ((ByteArray.mk #[255, 255, 0, 0]) ++ p1), ((ByteArray.mk #[234, 97, 21, 158]) ++ p1)] : List ByteArray).getD (0 + x27.toNat) ByteArray.empty)) fun y31 y32 y33 => (bind3 (rl_ref38_Read (([y7, (strOf x12), (y7.extract 0 y18.toNat), (y7 ++ p1), p1, (y7 ++ y7), ((ByteArray.mk #[255, 255, 0, 0]) ++ p1), ((ByteArray.mk #[234, 97, 21, 158]) ++ p1)] : List ByteArray).getD (0 + x27.toNat) ByteArray.empty)) fun y35 y36 y37 => (bind2 (journal_Append (([y7, (strOf x12), (y7.extract 0 y18.toNat), (y7 ++ p1), p1, (y7 ++ y7), ((ByteArray.mk #[255, 255, 0, 0]) ++ p1), ((ByteArray.mk #[234, 97, 21, 158]) ++ p1)] : List ByteArray).getD (0 + x27.toNat) ByteArray.empty) p2) fun y39 y40 => (bind2 (rl_ref38_Append (([y7, (strOf x12), (y7.extract 0 y18.toNat), (y7 ++ p1), p1, (y7 ++ y7), ((ByteArray.mk #[255, 255, 0, 0]) ++ p1), ((ByteArray.mk #[234, 97, 21, 158]) ++ p1)] : List ByteArray).getD (0 + x27.toNat) ByteArray.empty) p2) fun y42 y43 => (if (y32 != y36) = true then (rl_law38_JournalExact_k4 x27 true) else (if (y33 != y37) = true then (rl_law38_JournalExact_k4 x27 true) else (if (y40 != y43) = true then (rl_law38_JournalExact_k4 x27 true) else (if (!(y39.toList == y42.toList)) = true then (rl_law38_JournalExact_k4 x27 true) else ((rl_ref38_Same y31 y35).bind fun y51 => (if (!y51) = true then (rl_law38_JournalExact_k4 x27 true) else ((journal_Whole (([y7, (strOf x12), (y7.extract 0 y18.toNat), (y7 ++ p1), p1, (y7 ++ y7), ((ByteArray.mk #[255, 255, 0, 0]) ++ p1), ((ByteArray.mk #[234, 97, 21, 158]) ++ p1)] : List ByteArray).getD (0 + x27.toNat) ByteArray.empty)).bind fun y54 => ((rl_ref38_Whole (([y7, (strOf x12), (y7.extract 0 y18.toNat), (y7 ++ p1), p1, (y7 ++ y7), ((ByteArray.mk #[255, 255, 0, 0]) ++ p1), ((ByteArray.mk #[234, 97, 21, 158]) ++ p1)] : List ByteArray).getD (0 + x27.toNat) ByteArray.empty)).bind fun y56 => (rl_law38_JournalExact_k4 x27 (!(y54.toList == y56.toList))))))))))))))) else none) else none) else (some (.inr (.inl ())))
noncomputable def rl_law38_JournalExact_a5 : Option Bool := some true
noncomputable def rl_law38_JournalExact_a6 : Option Bool := some false
noncomputable def rl_law38_JournalExact_k2 (p1 : ByteArray) (p2 : ByteArray) (p3 : Int) (p4 : Int) (y7 : ByteArray) (x12 : List Int) : Option Bool := (journal_Sum p3 p2).bind fun y13 => ((rl_ref38_Sum p3 p2).bind fun y15 => (if (y13 != y15) = true then (some false) else ((rl_make_Mod p4 (i64.wrap (((y7.size : Nat) : Int) + 1))).bind fun y18 => (if 0 ≤ y18 then (if y18.toNat ≤ y7.size then (if y7.size + p1.size ≤ maxStr then (if y7.size + y7.size ≤ maxStr then (if (ByteArray.mk #[255, 255, 0, 0]).size + p1.size ≤ maxStr then (if (ByteArray.mk #[234, 97, 21, 158]).size + p1.size ≤ maxStr then (bindE (loop (fun v : Int => rl_law38_JournalExact_l3 p1 p2 y7 x12 y18 v) 0) (fun t => rl_law38_JournalExact_a5) (fun t => rl_law38_JournalExact_a6)) else none) else none) else none) else none) else none) else none))))
noncomputable def rl_law38_JournalExact_k1 (p0 : List Int) (p1 : ByteArray) (p2 : ByteArray) (p3 : Int) (p4 : Int) (p5 : Int) (x1 : Bool) : Option Bool := if x1 = true then ((rl_law38_awake).bind fun y3 => (some y3)) else ((rl_make_New p0).bind fun y5 => (bind3 (rl_law38_made y5 5) fun y7 y8 y9 => (if y7.size ≤ maxLen then (if (decide ((((bytesL y7).length : Nat) : Int) > 0)) = true then ((rl_make_Mod p4 (((bytesL y7).length : Nat) : Int)).bind fun y60 => (if 0 ≤ y60 then (if y60 < (((bytesL y7).length : Nat) : Int) then (rl_law38_JournalExact_k2 p1 p2 p3 p4 y7 ((bytesL y7).set (0 + y60.toNat) (ixor .u8 ((bytesL y7).getD (0 + y60.toNat) 0) p5))) else none) else none)) else (rl_law38_JournalExact_k2 p1 p2 p3 p4 y7 (bytesL y7))) else none)))
noncomputable def rl_law38_JournalExact (p0 : List Int) (p1 : ByteArray) (p2 : ByteArray) (p3 : Int) (p4 : Int) (p5 : Int) : Option Bool := (rl_law38_awake).bind fun y64 => (if (!y64) = true then (rl_law38_JournalExact_k1 p0 p1 p2 p3 p4 p5 true) else ((rl_make_Few p0).bind fun y67 => (if (!y67) = true then (rl_law38_JournalExact_k1 p0 p1 p2 p3 p4 p5 true) else (if (decide (((p1.size : Nat) : Int) > 500)) = true then (rl_law38_JournalExact_k1 p0 p1 p2 p3 p4 p5 true) else (rl_law38_JournalExact_k1 p0 p1 p2 p3 p4 p5 (decide (((p2.size : Nat) : Int) > 500)))))))
set_option maxRecDepth 100000 in
theorem rl_law38_JournalExact_con (p0 : List Int) (p1 : ByteArray) (p2 : ByteArray) (p3 : Int) (p4 : Int) (p5 : Int) (r : Bool) (h : rl_law38_JournalExact p0 p1 p2 p3 p4 p5 = some r) : Con Try.prog 3 [vl 1 Ri64 p0, vs p1, vs p2, vu64 p3, vi64 p4, vu8 p5] [] (vb r) [] := by
 refine con_of tt_okL3 0 Try.func3 (by kernel_rfl) rfl (by kernel_rfl) (fun base X _ => AW.post ?_)
 unfold rl_law38_JournalExact at h
 refine AW.sg tt_okL3 [] [] [] 1 [] (by kernel_rfl) ?_
 refine AW.seq (AW.seq ?_)
 refine AW.join (ι := Bool) (fun v => ⟨[(0, vl 1 Ri64 p0), (1, vs p1), (2, vs p2), (3, vu64 p3), (4, vi64 p4), (5, vu8 p5), (45, vb v)], [], 0⟩) (fun v : Bool => rl_law38_JournalExact_k1 p0 p1 p2 p3 p4 p5 v = some r) (fun x1 h => ?_) ?_
 ·
  unfold rl_law38_JournalExact_k1 at h
  refine AW.tn ?_
  refine AW.co h (by kernel_rfl) (fun c2 h => ?_) (fun c2 h => ?_)
  ·
   obtain ⟨y3, e4, h⟩ := bnd_some h
   refine AW.sg tt_okL3 [(12, vb y3)] [] [] 1 [hk (rl_law38_awake_con y3 e4)] (by kernel_rfl) ?_
   refine AW.ret (AW.tr ?_)
   obtain rfl := some_inj h
   exact fn0 (.inr rfl) [] 0 (vb y3) (by kernel_rfl)
  ·
   refine AW.skip (AW.tn ?_)
   obtain ⟨y5, e6, h⟩ := bnd_some h
   refine AW.sg tt_okL3 [(13, .c (.ptr 1 3 0 0))] [1] [(1, .box 49 [cl 1 Ri64 y5.list, ci64 y5.at_, cu64 y5.state])] 3 [hn, hl [] [] 1 (rl_make_New_con p0 y5 e6)] (by kernel_rfl) ?_
   obtain ⟨y7, y8, y9, e10, h⟩ := bind3_some h
   refine AW.sg tt_okL3 [(14, vs y7)] [1, 4] [] 10 [hn, hl [1] [] 1 (rl_law38_made_con y5 5 (y7, y8, y9) e10)] (by kernel_rfl) ?_
   obtain ⟨g11, h⟩ := ifc h
   refine AW.sg tt_okL3 [(16, .c (.ref 11 1 0 ((bytesL y7).length)))] [11] [(11, .row 5 false 1 (bytesL y7).length (Ru8 (bytesL y7)))] 13 [hn, hr ((bytesL y7).length) (Ru8 (bytesL y7)) (p := (y7.size ≤ maxLen) ∧ (y7.size = (bytesL y7).length ∧ ∀ i, i < (bytesL y7).length → ∀ j, j < 1 → TLe ((bytesT y7) i j) (Ru8 (bytesL y7) i j))) (⟨g11, rowT ⟨bytesL_length _, fun i hi => bytesL_row i (bytesL_length _ ▸ hi)⟩⟩)] (by kernel_rfl) ?_
   refine AW.seq ?_
   refine AW.join (ι := List Int) (fun v => ⟨[(1, vs p1), (2, vs p2), (3, vu64 p3), (4, vi64 p4), (14, vs y7), (16, .c (.ref 0 1 0 v.length))], [(0, .row 5 false 1 v.length (Ru8 v))], 1⟩) (fun v : List Int => rl_law38_JournalExact_k2 p1 p2 p3 p4 y7 v = some r) (fun x12 h => ?_) ?_
   ·
    unfold rl_law38_JournalExact_k2 at h
    refine AW.tn (AW.seq ?_)
    obtain ⟨y13, e14, h⟩ := bnd_some h
    obtain ⟨y15, e16, h⟩ := bnd_some h
    refine AW.sg tt_okL3 [(75, vb (y13 != y15))] [] [] 6 [hn, hn, hk (journal_Sum_con p3 p2 y13 e14), hn, hn, hk (rl_ref38_Sum_con p3 p2 y15 e16)] (by kernel_rfl) ?_
    refine AW.co h (by kernel_rfl) (fun c17 h => ?_) (fun c17 h => ?_)
    ·
     refine AW.sg tt_okL3 [(12, vb false)] [] [] 7 [] (by kernel_rfl) ?_
     refine AW.ret (AW.tr ?_)
     obtain rfl := some_inj h
     exact fn0 (.inr rfl) [] 0 (vb false) (by kernel_rfl)
    ·
     refine AW.skip (AW.tn (AW.seq ?_))
     obtain ⟨y18, e19, h⟩ := bnd_some h
     obtain ⟨g20, g21, h⟩ := ifd h
     obtain ⟨g22, g23, h⟩ := ifd h
     obtain ⟨g24, g25, h⟩ := ifd h
     refine AW.sd tt_okL3 moL3 [[], [], [], [], [], [], [], [], [], [], [], [], [], [], [], [], [], [], [], [], [], [26]] [(99, vi64 0), (98, vi64 ((([y7, (strOf x12), (y7.extract 0 y18.toNat), (y7 ++ p1), p1, (y7 ++ y7), ((ByteArray.mk #[255, 255, 0, 0]) ++ p1), ((ByteArray.mk #[234, 97, 21, 158]) ++ p1)] : List ByteArray).length : Nat) : Int)), (97, .c (.ref 26 1 0 (([y7, (strOf x12), (y7.extract 0 y18.toNat), (y7 ++ p1), p1, (y7 ++ y7), ((ByteArray.mk #[255, 255, 0, 0]) ++ p1), ((ByteArray.mk #[234, 97, 21, 158]) ++ p1)] : List ByteArray).length)))] [(26, .row 9 false 1 ([y7, (strOf x12), (y7.extract 0 y18.toNat), (y7 ++ p1), p1, (y7 ++ y7), ((ByteArray.mk #[255, 255, 0, 0]) ++ p1), ((ByteArray.mk #[234, 97, 21, 158]) ++ p1)] : List ByteArray).length (Rs ([y7, (strOf x12), (y7.extract 0 y18.toNat), (y7 ++ p1), p1, (y7 ++ y7), ((ByteArray.mk #[255, 255, 0, 0]) ++ p1), ((ByteArray.mk #[234, 97, 21, 158]) ++ p1)] : List ByteArray)))] 29 [hn, hn, hi (fun i => x12.getD i 0) (p := (0 + x12.length ≤ x12.length) ∧ ∀ i, i < x12.length → (fun i j => Ru8 x12 (0 + i) j) i 0 = .v (.int .u8 (x12.getD i 0))) (⟨le0, fun i _ => by simp only [Nat.zero_add] <;> rfl⟩), hn, hn, hn, hn, hn, hk (rl_make_Mod_con p4 (i64.wrap (((y7.size : Nat) : Int) + 1)) y18 e19), ho (p := (True) ∧ (0 ≤ y18) ∧ (0 ≤ y18.toNat) ∧ (y18.toNat ≤ y7.size)) (⟨tv, g20, (Nat.zero_le _), g21⟩), hn, hn, ho g22, hn, hn, hn, ho g23, hn, ho g24, hn, ho g25, hlit ByteArray.empty Es 1 (fun _ => rfl) ([y7, (strOf x12), (y7.extract 0 y18.toNat), (y7 ++ p1), p1, (y7 ++ y7), ((ByteArray.mk #[255, 255, 0, 0]) ++ p1), ((ByteArray.mk #[234, 97, 21, 158]) ++ p1)] : List ByteArray)] (by kernel_rfl) ?_
     refine AW.block ?_
     refine AW.lpE h (fun v => ⟨[(2, vs p2), (97, .c (.ref 0 1 0 (([y7, (strOf x12), (y7.extract 0 y18.toNat), (y7 ++ p1), p1, (y7 ++ y7), ((ByteArray.mk #[255, 255, 0, 0]) ++ p1), ((ByteArray.mk #[234, 97, 21, 158]) ++ p1)] : List ByteArray).length))), (98, vi64 ((([y7, (strOf x12), (y7.extract 0 y18.toNat), (y7 ++ p1), p1, (y7 ++ y7), ((ByteArray.mk #[255, 255, 0, 0]) ++ p1), ((ByteArray.mk #[234, 97, 21, 158]) ++ p1)] : List ByteArray).length : Nat) : Int)), (99, vi64 v)], [(0, .row 9 false 1 ([y7, (strOf x12), (y7.extract 0 y18.toNat), (y7 ++ p1), p1, (y7 ++ y7), ((ByteArray.mk #[255, 255, 0, 0]) ++ p1), ((ByteArray.mk #[234, 97, 21, 158]) ++ p1)] : List ByteArray).length (Rs ([y7, (strOf x12), (y7.extract 0 y18.toNat), (y7 ++ p1), p1, (y7 ++ y7), ((ByteArray.mk #[255, 255, 0, 0]) ++ p1), ((ByteArray.mk #[234, 97, 21, 158]) ++ p1)] : List ByteArray)))], 1⟩) (fun t => (.exit 0, ⟨[], [], 0⟩)) (fun t => (.ret, ⟨[(12, vb false)], [], 0⟩)) (conv_re [(0, 26)] (by kernel_rfl)) (fun _ => tv) (fun _ => tv) ?_ (fun t h => ?_) (fun t h => ?_)
     ·
      clear h
      intro x27 o h
      unfold rl_law38_JournalExact_l3 at h
      refine AW.sg tt_okL3 [(100, vb (decide (x27 < ((([y7, (strOf x12), (y7.extract 0 y18.toNat), (y7 ++ p1), p1, (y7 ++ y7), ((ByteArray.mk #[255, 255, 0, 0]) ++ p1), ((ByteArray.mk #[234, 97, 21, 158]) ++ p1)] : List ByteArray).length : Nat) : Int))))] [] [] 2 [] (by kernel_rfl) ?_
      refine AW.seq ?_
      refine AW.co h (by kernel_rfl) (fun c28 h => ?_) (fun c28 h => ?_)
      ·
       refine AW.skip (AW.tn ?_)
       refine AW.seq (AW.block ?_)
       obtain ⟨g29, g30, h⟩ := ifd h
       refine AW.sg tt_okL3 [(18, vs (([y7, (strOf x12), (y7.extract 0 y18.toNat), (y7 ++ p1), p1, (y7 ++ y7), ((ByteArray.mk #[255, 255, 0, 0]) ++ p1), ((ByteArray.mk #[234, 97, 21, 158]) ++ p1)] : List ByteArray).getD (0 + x27.toNat) ByteArray.empty))] [] [] 5 [hq g29 g30, ho (p := (0 + x27.toNat) < ([y7, (strOf x12), (y7.extract 0 y18.toNat), (y7 ++ p1), p1, (y7 ++ y7), ((ByteArray.mk #[255, 255, 0, 0]) ++ p1), ((ByteArray.mk #[234, 97, 21, 158]) ++ p1)] : List ByteArray).length) (by have h1 : 0 ≤ x27 := g29; have h2 : x27 < ((([y7, (strOf x12), (y7.extract 0 y18.toNat), (y7 ++ p1), p1, (y7 ++ y7), ((ByteArray.mk #[255, 255, 0, 0]) ++ p1), ((ByteArray.mk #[234, 97, 21, 158]) ++ p1)] : List ByteArray).length : Nat) : Int) := g30; omega)] (by kernel_rfl) ?_
       obtain ⟨y31, y32, y33, e34, h⟩ := bind3_some h
       refine AW.sg tt_okL3 [(21, vi64 y33), (20, vi64 y32), (19, .c (.ref 6 1 0 y31.length))] [6] [(6, .row 9 false 1 y31.length (Rs y31))] 14 [hn, hm [] [] 1 (journal_Read_con (([y7, (strOf x12), (y7.extract 0 y18.toNat), (y7 ++ p1), p1, (y7 ++ y7), ((ByteArray.mk #[255, 255, 0, 0]) ++ p1), ((ByteArray.mk #[234, 97, 21, 158]) ++ p1)] : List ByteArray).getD (0 + x27.toNat) ByteArray.empty) (y31, y32, y33) e34) ⟨rowL_flat Vs _ _ _, tv⟩] (by kernel_rfl) ?_
       obtain ⟨y35, y36, y37, e38, h⟩ := bind3_some h
       refine AW.sg tt_okL3 [(24, vi64 y37), (23, vi64 y36), (22, .c (.ref 15 1 0 y35.length))] [15] [(15, .row 9 false 1 y35.length (Rs y35))] 23 [hn, hm [] [] 1 (rl_ref38_Read_con (([y7, (strOf x12), (y7.extract 0 y18.toNat), (y7 ++ p1), p1, (y7 ++ y7), ((ByteArray.mk #[255, 255, 0, 0]) ++ p1), ((ByteArray.mk #[234, 97, 21, 158]) ++ p1)] : List ByteArray).getD (0 + x27.toNat) ByteArray.empty) (y35, y36, y37) e38) ⟨rowL_flat Vs _ _ _, tv⟩] (by kernel_rfl) ?_
       obtain ⟨y39, y40, e41, h⟩ := bind2_some h
       refine AW.sg tt_okL3 [(26, vi64 y40), (25, vs y39)] [] [] 30 [hn, hn, hk (journal_Append_con (([y7, (strOf x12), (y7.extract 0 y18.toNat), (y7 ++ p1), p1, (y7 ++ y7), ((ByteArray.mk #[255, 255, 0, 0]) ++ p1), ((ByteArray.mk #[234, 97, 21, 158]) ++ p1)] : List ByteArray).getD (0 + x27.toNat) ByteArray.empty) p2 (y39, y40) e41)] (by kernel_rfl) ?_
       obtain ⟨y42, y43, e44, h⟩ := bind2_some h
       refine AW.sg tt_okL3 [(28, vi64 y43), (27, vs y42)] [] [] 37 [hn, hn, hk (rl_ref38_Append_con (([y7, (strOf x12), (y7.extract 0 y18.toNat), (y7 ++ p1), p1, (y7 ++ y7), ((ByteArray.mk #[255, 255, 0, 0]) ++ p1), ((ByteArray.mk #[234, 97, 21, 158]) ++ p1)] : List ByteArray).getD (0 + x27.toNat) ByteArray.empty) p2 (y42, y43) e44)] (by kernel_rfl) ?_
       refine AW.seq ?_
       refine AW.join (ι := Bool) (fun v => ⟨[(2, vs p2), (97, .c (.ref 0 1 0 (([y7, (strOf x12), (y7.extract 0 y18.toNat), (y7 ++ p1), p1, (y7 ++ y7), ((ByteArray.mk #[255, 255, 0, 0]) ++ p1), ((ByteArray.mk #[234, 97, 21, 158]) ++ p1)] : List ByteArray).length))), (98, vi64 ((([y7, (strOf x12), (y7.extract 0 y18.toNat), (y7 ++ p1), p1, (y7 ++ y7), ((ByteArray.mk #[255, 255, 0, 0]) ++ p1), ((ByteArray.mk #[234, 97, 21, 158]) ++ p1)] : List ByteArray).length : Nat) : Int)), (99, vi64 x27), (157, vb v)], [(0, .row 9 false 1 ([y7, (strOf x12), (y7.extract 0 y18.toNat), (y7 ++ p1), p1, (y7 ++ y7), ((ByteArray.mk #[255, 255, 0, 0]) ++ p1), ((ByteArray.mk #[234, 97, 21, 158]) ++ p1)] : List ByteArray).length (Rs ([y7, (strOf x12), (y7.extract 0 y18.toNat), (y7 ++ p1), p1, (y7 ++ y7), ((ByteArray.mk #[255, 255, 0, 0]) ++ p1), ((ByteArray.mk #[234, 97, 21, 158]) ++ p1)] : List ByteArray)))], 1⟩) (fun v : Bool => rl_law38_JournalExact_k4 x27 v = some o) (fun x45 h => ?_) ?_
       ·
        unfold rl_law38_JournalExact_k4 at h
        refine AW.tn ?_
        refine AW.co h (by kernel_rfl) (fun c46 h => ?_) (fun c46 h => ?_)
        ·
         refine AW.sg tt_okL3 [(12, vb false)] [] [] 2 [] (by kernel_rfl) ?_
         refine AW.ret (AW.inBlock_ret (AW.tr ?_))
         exact lpo h rfl (conv_re [] (by kernel_rfl))
        ·
         refine AW.skip (AW.inBlock_normal (AW.tn ?_))
         refine AW.rg tt_okL3 [(99, vi64 (i64.wrap (x27 + 1)))] [] [] 3 [] (by kernel_rfl) ?_
         exact lpn h (conv_re [(0, 0)] (by kernel_rfl))
       ·
        rcases ifs h with ⟨c47, h⟩ | ⟨c47, h⟩
        ·
         refine AW.rg tt_okL3 [(157, vb true)] [] [] 68 [hn, hn, ht c47] (by kernel_rfl) ?_
         exact jl true h (conv_re [(0, 0)] (by kernel_rfl))
        ·
         rcases ifs h with ⟨c48, h⟩ | ⟨c48, h⟩
         ·
          refine AW.rg tt_okL3 [(157, vb true)] [] [] 68 [hn, hn, hf c47, hn, hn, hn, ht c48] (by kernel_rfl) ?_
          exact jl true h (conv_re [(0, 0)] (by kernel_rfl))
         ·
          rcases ifs h with ⟨c49, h⟩ | ⟨c49, h⟩
          ·
           refine AW.rg tt_okL3 [(157, vb true)] [] [] 68 [hn, hn, hf c47, hn, hn, hn, hf c48, hn, hn, hn, hn, ht c49] (by kernel_rfl) ?_
           exact jl true h (conv_re [(0, 0)] (by kernel_rfl))
          ·
           rcases ifs h with ⟨c50, h⟩ | ⟨c50, h⟩
           ·
            refine AW.rg tt_okL3 [(157, vb true)] [] [] 68 [hn, hn, hf c47, hn, hn, hn, hf c48, hn, hn, hn, hn, hf c49, hn, hn, hn, hn, ht c50] (by kernel_rfl) ?_
            exact jl true h (conv_re [(0, 0)] (by kernel_rfl))
           ·
            obtain ⟨y51, e52, h⟩ := bnd_some h
            rcases ifs h with ⟨c53, h⟩ | ⟨c53, h⟩
            ·
             refine AW.rg tt_okL3 [(157, vb true)] [] [] 67 [hn, hn, hf c47, hn, hn, hn, hf c48, hn, hn, hn, hn, hf c49, hn, hn, hn, hn, hf c50, hn, hn, hn, hn, hg [] [] true 0 (q := (0 + y31.length ≤ y31.length) ∧ (0 + y35.length ≤ y35.length) ∧ (True)) ⟨le0, le0, tv⟩ (a0 := [vl 1 Rs y31, vl 1 Rs y35]) (rl_ref38_Same_con y31 y35 y51 e52) ⟨ArgLe.refl _, ArgLe.refl _, tv⟩ (fun _ => tv), ht c53] (by kernel_rfl) ?_
             exact jl true h (conv_re [(0, 0)] (by kernel_rfl))
            ·
             obtain ⟨y54, e55, h⟩ := bnd_some h
             obtain ⟨y56, e57, h⟩ := bnd_some h
             refine AW.rg tt_okL3 [(157, vb (!(y54.toList == y56.toList)))] [] [] 65 [hn, hn, hf c47, hn, hn, hn, hf c48, hn, hn, hn, hn, hf c49, hn, hn, hn, hn, hf c50, hn, hn, hn, hn, hg [] [] true 0 (q := (0 + y31.length ≤ y31.length) ∧ (0 + y35.length ≤ y35.length) ∧ (True)) ⟨le0, le0, tv⟩ (a0 := [vl 1 Rs y31, vl 1 Rs y35]) (rl_ref38_Same_con y31 y35 y51 e52) ⟨ArgLe.refl _, ArgLe.refl _, tv⟩ (fun _ => tv), hf c53, hn, hn, hn, hk (journal_Whole_con (([y7, (strOf x12), (y7.extract 0 y18.toNat), (y7 ++ p1), p1, (y7 ++ y7), ((ByteArray.mk #[255, 255, 0, 0]) ++ p1), ((ByteArray.mk #[234, 97, 21, 158]) ++ p1)] : List ByteArray).getD (0 + x27.toNat) ByteArray.empty) y54 e55), hn, hk (rl_ref38_Whole_con (([y7, (strOf x12), (y7.extract 0 y18.toNat), (y7 ++ p1), p1, (y7 ++ y7), ((ByteArray.mk #[255, 255, 0, 0]) ++ p1), ((ByteArray.mk #[234, 97, 21, 158]) ++ p1)] : List ByteArray).getD (0 + x27.toNat) ByteArray.empty) y56 e57)] (by kernel_rfl) ?_
             exact jl (!(y54.toList == y56.toList)) h (conv_re [(0, 0)] (by kernel_rfl))
      ·
       refine AW.exit (AW.thenQ_exit ?_)
       exact lpo h rfl (conv_re [] (by kernel_rfl))
     ·
      replace h : rl_law38_JournalExact_a5 = some r := h
      unfold rl_law38_JournalExact_a5 at h
      show (_ : Exit → St → Prop) (.exit 0) _
      refine AW.inBlock_hit (AW.tn ?_)
      refine AW.sg tt_okL3 [(12, vb true)] [] [] 1 [] (by kernel_rfl) ?_
      refine AW.ret ?_
      obtain rfl := some_inj h
      exact fn0 (.inr rfl) [] 0 (vb true) (by kernel_rfl)
     ·
      replace h : rl_law38_JournalExact_a6 = some r := h
      unfold rl_law38_JournalExact_a6 at h
      show (_ : Exit → St → Prop) (.ret) _
      refine AW.inBlock_ret (AW.tr ?_)
      obtain rfl := some_inj h
      exact fn0 (.inr rfl) [] 0 (vb false) (by kernel_rfl)
   ·
    refine AW.sg tt_okL3 [(58, vb (decide ((((bytesL y7).length : Nat) : Int) > 0)))] [] [] 16 [] (by kernel_rfl) ?_
    refine AW.co h (by kernel_rfl) (fun c59 h => ?_) (fun c59 h => ?_)
    ·
     obtain ⟨y60, e61, h⟩ := bnd_some h
     obtain ⟨g62, g63, h⟩ := ifd h
     refine AW.rg tt_okL3 [] [11] [(11, .row 5 false 1 (bytesL y7).length (Ru8 ((bytesL y7).set (0 + y60.toNat) (ixor .u8 ((bytesL y7).getD (0 + y60.toNat) 0) p5))))] 26 [hn, hn, hn, hn, hk (rl_make_Mod_con p4 (((bytesL y7).length : Nat) : Int) y60 e61), hq g62 g63, ho (p := (0 + y60.toNat) < (bytesL y7).length) (by have h1 : 0 ≤ y60 := g62; have h2 : y60 < (((bytesL y7).length : Nat) : Int) := g63; omega), hn, hn, hq g62 g63, hset 0 Eu8 (bytesL y7) (0 + y60.toNat) (ixor .u8 ((bytesL y7).getD (0 + y60.toNat) 0) p5) (n := (bytesL y7).length) (by have h1 : 0 ≤ y60 := g62; have h2 : y60 < (((bytesL y7).length : Nat) : Int) := g63; omega) rfl] (by kernel_rfl) ?_
     exact jl ((bytesL y7).set (0 + y60.toNat) (ixor .u8 ((bytesL y7).getD (0 + y60.toNat) 0) p5)) h (Conv.trans (conv_tms [(16, .c (.ref 11 1 0 (((bytesL y7).set (0 + y60.toNat) (ixor .u8 ((bytesL y7).getD (0 + y60.toNat) 0) p5)).length)))] ⟨⟨.c (.ref 11 1 0 ((bytesL y7).length)), by kernel_rfl, ALe.len (by simp only [List.length_set])⟩, tv⟩) (Conv.trans (conv_rowN 11 5 false 1 ((bytesL y7).length) (((bytesL y7).set (0 + y60.toNat) (ixor .u8 ((bytesL y7).getD (0 + y60.toNat) 0) p5)).length) (Ru8 ((bytesL y7).set (0 + y60.toNat) (ixor .u8 ((bytesL y7).getD (0 + y60.toNat) 0) p5))) (by kernel_rfl) (by simp only [List.length_set])) (conv_re [(0, 11)] (by kernel_rfl))))
    ·
     refine AW.skip ?_
     exact jl (bytesL y7) h (conv_re [(0, 11)] (by kernel_rfl))
 ·
  obtain ⟨y64, e65, h⟩ := bnd_some h
  rcases ifs h with ⟨c66, h⟩ | ⟨c66, h⟩
  ·
   refine AW.rg tt_okL3 [(45, vb true)] [] [] 17 [hk (rl_law38_awake_con y64 e65), ht c66] (by kernel_rfl) ?_
   exact jl true h (conv_re [] (by kernel_rfl))
  ·
   obtain ⟨y67, e68, h⟩ := bnd_some h
   rcases ifs h with ⟨c69, h⟩ | ⟨c69, h⟩
   ·
    refine AW.rg tt_okL3 [(45, vb true)] [] [] 16 [hk (rl_law38_awake_con y64 e65), hf c66, hn, hn, hk (rl_make_Few_con p0 y67 e68), ht c69] (by kernel_rfl) ?_
    exact jl true h (conv_re [] (by kernel_rfl))
   ·
    rcases ifs h with ⟨c70, h⟩ | ⟨c70, h⟩
    ·
     refine AW.rg tt_okL3 [(45, vb true)] [] [] 16 [hk (rl_law38_awake_con y64 e65), hf c66, hn, hn, hk (rl_make_Few_con p0 y67 e68), hf c69, hn, hn, hn, hn, ht c70] (by kernel_rfl) ?_
     exact jl true h (conv_re [] (by kernel_rfl))
    ·
     refine AW.rg tt_okL3 [(45, vb (decide (((p2.size : Nat) : Int) > 500)))] [] [] 16 [hk (rl_law38_awake_con y64 e65), hf c66, hn, hn, hk (rl_make_Few_con p0 y67 e68), hf c69, hn, hn, hn, hn, hf c70] (by kernel_rfl) ?_
     exact jl (decide (((p2.size : Nat) : Int) > 500)) h (conv_re [] (by kernel_rfl))
end Go.Proofs.Ytjedagkkeicpkaa
