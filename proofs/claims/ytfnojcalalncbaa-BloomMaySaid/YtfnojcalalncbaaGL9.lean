/- Printed by a program of mine (vmgen.py): Go functions, and what they come to. -/
import Derived.Test.YtfnojcalalncbaaVr
import Derived.Test.YtfnojcalalncbaaRows
import Derived.Test.YtfnojcalalncbaaG0
namespace Go.Proofs.Ytfnojcalalncbaa
open Vm
open IntKind (i64 u64 u32 u8)
set_option maxHeartbeats 10000000
set_option linter.unusedVariables false
set_option linter.unusedSimpArgs false
set_option linter.constructorNameAsVariable false
def ttlL9 : List (Nat × TI) := [(3, ⟨.int .i64, 1, 8, [.int .i64 0], false⟩), (4, ⟨.bool, 1, 1, [.bool false], false⟩), (5, ⟨.int .u8, 1, 1, [.int .u8 0], false⟩), (9, ⟨.str, 1, 16, [.string ⟨#[]⟩], false⟩), (22, ⟨.slice 3, 1, 24, [.slice none 0 0], false⟩), (25, ⟨.ptr 66, 1, 8, [.pointer none], false⟩), (28, ⟨.struct [(3, 0), (3, 1), (3, 2)], 3, 24, [.int .i64 0, .int .i64 0, .int .i64 0], true⟩), (29, ⟨.slice 28, 1, 24, [.slice none 0 0], false⟩), (32, ⟨.int .i64, 1, 8, [.int .i64 0], false⟩), (43, ⟨.int .u64, 1, 8, [.int .u64 0], false⟩), (45, ⟨.struct [(43, 0), (43, 1)], 2, 16, [.int .u64 0, .int .u64 0], true⟩), (47, ⟨.slice 9, 1, 24, [.slice none 0 0], false⟩), (49, ⟨.slice 43, 1, 24, [.slice none 0 0], false⟩), (51, ⟨.struct [(3, 0), (49, 1)], 2, 32, [.int .i64 0, .slice none 0 0], false⟩), (66, ⟨.struct [(22, 0), (3, 1), (43, 2)], 3, 40, [.slice none 0 0, .int .i64 0, .int .u64 0], false⟩), (69, ⟨.int .u64, 1, 8, [.int .u64 0], false⟩), (84, ⟨.slice 5, 1, 24, [.slice none 0 0], false⟩), (87, ⟨.struct [(43, 0), (43, 1), (43, 2), (43, 3)], 4, 32, [.int .u64 0, .int .u64 0, .int .u64 0, .int .u64 0], true⟩)]
theorem tt_okL9 : TTok Try.prog (Vm.look ttlL9) := ttok_of ⟨⟨by kernel_rfl, by kernel_rfl, by kernel_rfl⟩, ⟨by kernel_rfl, by kernel_rfl, by kernel_rfl⟩, ⟨by kernel_rfl, by kernel_rfl, by kernel_rfl⟩, ⟨by kernel_rfl, by kernel_rfl, by kernel_rfl⟩, ⟨by kernel_rfl, by kernel_rfl, by kernel_rfl⟩, ⟨by kernel_rfl, by kernel_rfl, by kernel_rfl⟩, ⟨by kernel_rfl, by kernel_rfl, by kernel_rfl⟩, ⟨by kernel_rfl, by kernel_rfl, by kernel_rfl⟩, ⟨by kernel_rfl, by kernel_rfl, by kernel_rfl⟩, ⟨by kernel_rfl, by kernel_rfl, by kernel_rfl⟩, ⟨by kernel_rfl, by kernel_rfl, by kernel_rfl⟩, ⟨by kernel_rfl, by kernel_rfl, by kernel_rfl⟩, ⟨by kernel_rfl, by kernel_rfl, by kernel_rfl⟩, ⟨by kernel_rfl, by kernel_rfl, by kernel_rfl⟩, ⟨by kernel_rfl, by kernel_rfl, by kernel_rfl⟩, ⟨by kernel_rfl, by kernel_rfl, by kernel_rfl⟩, ⟨by kernel_rfl, by kernel_rfl, by kernel_rfl⟩, ⟨by kernel_rfl, by kernel_rfl, by kernel_rfl⟩, trivial⟩
theorem moL9 : Try.prog.follows .mixedOrders = true := by kernel_rfl
/-! recordlink/recordlinklaw14.BloomMay -/
noncomputable def rl_law14_BloomMay_l5 (y17 : S_api_Bits) (y32 : List Int) (x36 : Int) : Option (Int ⊕ (Unit ⊕ Unit)) := if (decide (x36 < (y32.length : Int))) = true then (if 0 ≤ x36 then (if x36 < (y32.length : Int) then ((rl_ref09_Has y17 (y32.getD (0 + x36.toNat) 0)).bind fun y40 => (if (!y40) = true then (some (.inr (.inr ()))) else (some (.inl (i64.wrap (x36 + 1)))))) else none) else none) else (some (.inr (.inl ())))
noncomputable def rl_law14_BloomMay_a6 (x26 : Int) (y33 : Int) : Option (Int ⊕ (Unit ⊕ Unit)) := if (y33 != 0) = true then (some (.inr (.inr ()))) else (some (.inl (i64.wrap (x26 + 1))))
noncomputable def rl_law14_BloomMay_a7 : Option (Int ⊕ (Unit ⊕ Unit)) := some (.inr (.inr ()))
noncomputable def rl_law14_BloomMay_k4 (y7 : List S_api_Parameters) (y11 : S_api_Key) (y14 : List ByteArray) (y17 : S_api_Bits) (x26 : Int) (x30 : Bool) : Option (Int ⊕ (Unit ⊕ Unit)) := if x30 = true then (some (.inr (.inr ()))) else (bind2 (bloom_Positions (y7.getD (0 + 0) dS_api_Parameters) y11 (y14.getD (0 + x26.toNat) ByteArray.empty)) fun y32 y33 => (bindE (loop (fun v : Int => rl_law14_BloomMay_l5 y17 y32 v) 0) (fun t => rl_law14_BloomMay_a6 x26 y33) (fun t => rl_law14_BloomMay_a7)))
noncomputable def rl_law14_BloomMay_l3 (y7 : List S_api_Parameters) (y11 : S_api_Key) (y14 : List ByteArray) (y17 : S_api_Bits) (y20 : S_api_Bits) (x26 : Int) : Option (Int ⊕ (Unit ⊕ Unit)) := if (decide (x26 < (y14.length : Int))) = true then (if 0 ≤ x26 then (if x26 < (y14.length : Int) then ((bloom_May (y7.getD (0 + 0) dS_api_Parameters) y11 (y14.getD (0 + x26.toNat) ByteArray.empty) y17).bind fun y45 => (if (!y45) = true then (rl_law14_BloomMay_k4 y7 y11 y14 y17 x26 true) else ((bloom_May (y7.getD (0 + 0) dS_api_Parameters) y11 (y14.getD (0 + x26.toNat) ByteArray.empty) y20).bind fun y48 => (rl_law14_BloomMay_k4 y7 y11 y14 y17 x26 y48)))) else none) else none) else (some (.inr (.inl ())))
noncomputable def rl_law14_BloomMay_a8 : Option Bool := some true
noncomputable def rl_law14_BloomMay_a9 : Option Bool := some false
noncomputable def rl_law14_BloomMay_k2 (y7 : List S_api_Parameters) (y11 : S_api_Key) (y14 : List ByteArray) (y17 : S_api_Bits) (y20 : S_api_Bits) (x23 : Bool) : Option Bool := if x23 = true then (some false) else (bindE (loop (fun v : Int => rl_law14_BloomMay_l3 y7 y11 y14 y17 y20 v) 0) (fun t => rl_law14_BloomMay_a8) (fun t => rl_law14_BloomMay_a9))
noncomputable def rl_law14_BloomMay_k1 (p0 : List Int) (x1 : Bool) : Option Bool := if x1 = true then ((rl_law14_awake).bind fun y3 => (some y3)) else ((rl_make_New p0).bind fun y5 => (bind2 (rl_make_Deck_Parameters y5 1) fun y7 y8 => (if (0 : Int) < (y7.length : Int) then (bind2 (rl_make_Deck_Key y8) fun y11 y12 => (bind2 (rl_law14_grams y12) fun y14 y15 => (bind2 (bloom_Encode (y7.getD (0 + 0) dS_api_Parameters) y11 y14) fun y17 y18 => (bind2 (rl_ref09_New ((y7.getD (0 + 0) dS_api_Parameters).Length)) fun y20 y21 => (if (y18 != 0) = true then (rl_law14_BloomMay_k2 y7 y11 y14 y17 y20 true) else (rl_law14_BloomMay_k2 y7 y11 y14 y17 y20 (y21 != 0))))))) else none)))
noncomputable def rl_law14_BloomMay (p0 : List Int) : Option Bool := (rl_law14_awake).bind fun y52 => (if (!y52) = true then (rl_law14_BloomMay_k1 p0 true) else ((rl_make_Few p0).bind fun y55 => (rl_law14_BloomMay_k1 p0 (!y55))))
set_option maxRecDepth 100000 in
theorem rl_law14_BloomMay_con (p0 : List Int) (r : Bool) (h : rl_law14_BloomMay p0 = some r) : Con Try.prog 9 [vl 1 Ri64 p0] [] (vb r) [] := by
 refine con_of tt_okL9 0 Try.func9 (by kernel_rfl) rfl (by kernel_rfl) (fun base X _ => AW.post ?_)
 unfold rl_law14_BloomMay at h
 refine AW.sg tt_okL9 [] [] [] 1 [] (by kernel_rfl) ?_
 refine AW.seq (AW.seq ?_)
 refine AW.join (ι := Bool) (fun v => ⟨[(0, vl 1 Ri64 p0), (23, vb v)], [], 0⟩) (fun v : Bool => rl_law14_BloomMay_k1 p0 v = some r) (fun x1 h => ?_) ?_
 ·
  unfold rl_law14_BloomMay_k1 at h
  refine AW.tn ?_
  refine AW.co h (by kernel_rfl) (fun c2 h => ?_) (fun c2 h => ?_)
  ·
   obtain ⟨y3, e4, h⟩ := bnd_some h
   refine AW.sg tt_okL9 [(2, vb y3)] [] [] 1 [hk (rl_law14_awake_con y3 e4)] (by kernel_rfl) ?_
   refine AW.ret (AW.tr ?_)
   obtain rfl := some_inj h
   exact fn0 (.inr rfl) [] 0 (vb y3) (by kernel_rfl)
  ·
   refine AW.skip (AW.tn ?_)
   obtain ⟨y5, e6, h⟩ := bnd_some h
   refine AW.sg tt_okL9 [(3, .c (.ptr 1 3 0 0))] [1] [(1, .box 66 [cl 1 Ri64 y5.list, ci64 y5.at_, cu64 y5.state])] 3 [hn, hl [] [] 1 (rl_make_New_con p0 y5 e6)] (by kernel_rfl) ?_
   obtain ⟨y7, y8, e9, h⟩ := bind2_some h
   obtain ⟨g10, h⟩ := ifc h
   obtain ⟨y11, y12, e13, h⟩ := bind2_some h
   refine AW.sd tt_okL9 moL9 [[], [1, 4], [], [], [], [1], [8], [9], [8], [9]] [(5, .c (.ptr 9 2 0 0)), (4, .c (.ptr 8 3 0 0))] [(9, .box 45 [cu64 y11.A, cu64 y11.B]), (8, .box 28 [ci64 ((y7.getD (0 + 0) dS_api_Parameters).Length), ci64 ((y7.getD (0 + 0) dS_api_Parameters).Hashes), ci64 ((y7.getD (0 + 0) dS_api_Parameters).Salt)]), (1, .box 66 [cl 1 Ri64 y12.list, ci64 y12.at_, cu64 y12.state])] 12 [hn, hl [1] [] 1 (rl_make_Deck_Parameters_con y5 1 (y7, y8) e9), ho (p := (0 ≤ (0 : Int)) ∧ ((0 : Int) < (y7.length : Int))) (⟨(by decide), g10⟩), ho (p := (0 + 0) < y7.length) (by have h1 : 0 ≤ (0 : Int) := (by decide); have h2 : (0 : Int) < (y7.length : Int) := g10; omega), hn, hl [1] [] 0 (rl_make_Deck_Key_con y8 (y11, y12) e13)] (by kernel_rfl) ?_
   obtain ⟨y14, y15, e16, h⟩ := bind2_some h
   refine AW.sg tt_okL9 [(6, .c (.ref 13 1 0 y14.length))] [1, 13] [(13, .row 9 false 1 y14.length (Rs y14))] 15 [hn, hl [1] [] 1 (rl_law14_grams_con y12 (y14, y15) e16)] (by kernel_rfl) ?_
   obtain ⟨y17, y18, e19, h⟩ := bind2_some h
   refine AW.sg tt_okL9 [(8, vi64 y18), (7, .c (.ptr 22 2 0 0))] [18, 22] [(22, .box 51 [ci64 y17.Length, .ref 18 1 0 y17.Words.length]), (18, .row 43 false 1 y17.Words.length (Ru64 y17.Words))] 25 [hn, hn, hn, hg [] [] true 1 (q := ((True) ∧ (True) ∧ (True) ∧ (True)) ∧ ((True) ∧ (True) ∧ (True)) ∧ (0 + y14.length ≤ y14.length) ∧ (True)) ⟨⟨tv, tv, tv, tv⟩, ⟨tv, tv, tv⟩, le0, tv⟩ (a0 := [.agg [ci64 ((y7.getD (0 + 0) dS_api_Parameters).Length), ci64 ((y7.getD (0 + 0) dS_api_Parameters).Hashes), ci64 ((y7.getD (0 + 0) dS_api_Parameters).Salt)], .agg [cu64 y11.A, cu64 y11.B], vl 1 Rs y14]) (bloom_Encode_con (y7.getD (0 + 0) dS_api_Parameters) y11 y14 (y17, y18) e19) ⟨ArgLe.refl _, ArgLe.refl _, ArgLe.refl _, tv⟩ (fun _ => ⟨rowL_flat Vu64 _ _ _, tv⟩)] (by kernel_rfl) ?_
   obtain ⟨y20, y21, e22, h⟩ := bind2_some h
   refine AW.sg tt_okL9 [(10, vi64 y21), (9, .c (.ptr 31 2 0 0))] [27, 31] [(31, .box 51 [ci64 y20.Length, .ref 27 1 0 y20.Words.length]), (27, .row 43 false 1 y20.Words.length (Ru64 y20.Words))] 34 [hn, hn, hm [] [] 1 (rl_ref09_New_con ((y7.getD (0 + 0) dS_api_Parameters).Length) (y20, y21) e22) ⟨rowL_flat Vu64 _ _ _, tv⟩] (by kernel_rfl) ?_
   refine AW.seq (AW.seq ?_)
   refine AW.join (ι := Bool) (fun v => ⟨[(4, .c (.ptr 0 3 0 0)), (5, .c (.ptr 1 2 0 0)), (6, .c (.ref 2 1 0 y14.length)), (7, .c (.ptr 3 2 0 0)), (9, .c (.ptr 4 2 0 0)), (53, vb v)], [(0, .box 28 [ci64 ((y7.getD (0 + 0) dS_api_Parameters).Length), ci64 ((y7.getD (0 + 0) dS_api_Parameters).Hashes), ci64 ((y7.getD (0 + 0) dS_api_Parameters).Salt)]), (1, .box 45 [cu64 y11.A, cu64 y11.B]), (2, .row 9 false 1 y14.length (Rs y14)), (3, .box 51 [ci64 y17.Length, .ref 5 1 0 y17.Words.length]), (4, .box 51 [ci64 y20.Length, .ref 6 1 0 y20.Words.length]), (5, .row 43 false 1 y17.Words.length (Ru64 y17.Words)), (6, .row 43 false 1 y20.Words.length (Ru64 y20.Words))], 7⟩) (fun v : Bool => rl_law14_BloomMay_k2 y7 y11 y14 y17 y20 v = some r) (fun x23 h => ?_) ?_
   ·
    unfold rl_law14_BloomMay_k2 at h
    refine AW.tn ?_
    refine AW.co h (by kernel_rfl) (fun c24 h => ?_) (fun c24 h => ?_)
    ·
     refine AW.sg tt_okL9 [(2, vb false)] [] [] 8 [] (by kernel_rfl) ?_
     refine AW.ret (AW.tr ?_)
     obtain rfl := some_inj h
     exact fn0 (.inr rfl) [] 0 (vb false) (by kernel_rfl)
    ·
     refine AW.skip (AW.tn (AW.seq ?_))
     refine AW.sg tt_okL9 [(56, vi64 0), (55, vi64 (y14.length : Int)), (54, .c (.ref 2 1 0 y14.length))] [] [] 10 [] (by kernel_rfl) ?_
     refine AW.block ?_
     refine AW.lpE h (fun v => ⟨[(4, .c (.ptr 0 3 0 0)), (5, .c (.ptr 1 2 0 0)), (7, .c (.ptr 2 2 0 0)), (9, .c (.ptr 3 2 0 0)), (54, .c (.ref 4 1 0 y14.length)), (55, vi64 (y14.length : Int)), (56, vi64 v)], [(0, .box 28 [ci64 ((y7.getD (0 + 0) dS_api_Parameters).Length), ci64 ((y7.getD (0 + 0) dS_api_Parameters).Hashes), ci64 ((y7.getD (0 + 0) dS_api_Parameters).Salt)]), (1, .box 45 [cu64 y11.A, cu64 y11.B]), (2, .box 51 [ci64 y17.Length, .ref 5 1 0 y17.Words.length]), (3, .box 51 [ci64 y20.Length, .ref 6 1 0 y20.Words.length]), (4, .row 9 false 1 y14.length (Rs y14)), (5, .row 43 false 1 y17.Words.length (Ru64 y17.Words)), (6, .row 43 false 1 y20.Words.length (Ru64 y20.Words))], 7⟩) (fun t => (.exit 0, ⟨[], [], 0⟩)) (fun t => (.ret, ⟨[(2, vb false)], [], 0⟩)) (conv_re [(0, 0), (1, 1), (2, 3), (3, 4), (4, 2), (5, 5), (6, 6)] (by kernel_rfl)) (fun _ => tv) (fun _ => tv) ?_ (fun t h => ?_) (fun t h => ?_)
     ·
      clear h
      intro x26 o h
      unfold rl_law14_BloomMay_l3 at h
      refine AW.sg tt_okL9 [(57, vb (decide (x26 < (y14.length : Int))))] [] [] 8 [] (by kernel_rfl) ?_
      refine AW.seq ?_
      refine AW.co h (by kernel_rfl) (fun c27 h => ?_) (fun c27 h => ?_)
      ·
       refine AW.skip (AW.tn ?_)
       refine AW.seq (AW.block ?_)
       obtain ⟨g28, g29, h⟩ := ifd h
       refine AW.sg tt_okL9 [(12, vs (y14.getD (0 + x26.toNat) ByteArray.empty))] [] [] 11 [hq g28 g29, ho (p := (0 + x26.toNat) < y14.length) (by have h1 : 0 ≤ x26 := g28; have h2 : x26 < (y14.length : Int) := g29; omega)] (by kernel_rfl) ?_
       refine AW.seq (AW.seq ?_)
       refine AW.join (ι := Bool) (fun v => ⟨[(4, .c (.ptr 0 3 0 0)), (5, .c (.ptr 1 2 0 0)), (7, .c (.ptr 2 2 0 0)), (9, .c (.ptr 3 2 0 0)), (12, vs (y14.getD (0 + x26.toNat) ByteArray.empty)), (54, .c (.ref 4 1 0 y14.length)), (55, vi64 (y14.length : Int)), (56, vi64 x26), (72, vb v)], [(0, .box 28 [ci64 ((y7.getD (0 + 0) dS_api_Parameters).Length), ci64 ((y7.getD (0 + 0) dS_api_Parameters).Hashes), ci64 ((y7.getD (0 + 0) dS_api_Parameters).Salt)]), (1, .box 45 [cu64 y11.A, cu64 y11.B]), (2, .box 51 [ci64 y17.Length, .ref 5 1 0 y17.Words.length]), (3, .box 51 [ci64 y20.Length, .ref 6 1 0 y20.Words.length]), (4, .row 9 false 1 y14.length (Rs y14)), (5, .row 43 false 1 y17.Words.length (Ru64 y17.Words)), (6, .row 43 false 1 y20.Words.length (Ru64 y20.Words))], 7⟩) (fun v : Bool => rl_law14_BloomMay_k4 y7 y11 y14 y17 x26 v = some o) (fun x30 h => ?_) ?_
       ·
        unfold rl_law14_BloomMay_k4 at h
        refine AW.tn ?_
        refine AW.co h (by kernel_rfl) (fun c31 h => ?_) (fun c31 h => ?_)
        ·
         refine AW.sg tt_okL9 [(2, vb false)] [] [] 8 [] (by kernel_rfl) ?_
         refine AW.ret (AW.tr ?_)
         refine AW.inBlock_ret (AW.tr ?_)
         exact lpo h rfl (conv_re [] (by kernel_rfl))
        ·
         refine AW.skip (AW.tn ?_)
         obtain ⟨y32, y33, e34, h⟩ := bind2_some h
         refine AW.sg tt_okL9 [(14, vi64 y33), (13, .c (.ref 10 1 0 y32.length))] [10] [(10, .row 3 false 1 y32.length (Ri64 y32))] 16 [hn, hn, hn, hm [] [] 1 (bloom_Positions_con (y7.getD (0 + 0) dS_api_Parameters) y11 (y14.getD (0 + x26.toNat) ByteArray.empty) (y32, y33) e34) ⟨rowL_flat Vi64 _ _ _, tv⟩] (by kernel_rfl) ?_
         refine AW.seq ?_
         refine AW.sg tt_okL9 [(82, vi64 0), (81, vi64 (y32.length : Int)), (80, .c (.ref 10 1 0 y32.length))] [] [] 19 [] (by kernel_rfl) ?_
         refine AW.block ?_
         refine AW.lpE h (fun v => ⟨[(4, .c (.ptr 0 3 0 0)), (5, .c (.ptr 1 2 0 0)), (7, .c (.ptr 2 2 0 0)), (9, .c (.ptr 3 2 0 0)), (14, vi64 y33), (54, .c (.ref 4 1 0 y14.length)), (55, vi64 (y14.length : Int)), (56, vi64 x26), (80, .c (.ref 5 1 0 y32.length)), (81, vi64 (y32.length : Int)), (82, vi64 v)], [(0, .box 28 [ci64 ((y7.getD (0 + 0) dS_api_Parameters).Length), ci64 ((y7.getD (0 + 0) dS_api_Parameters).Hashes), ci64 ((y7.getD (0 + 0) dS_api_Parameters).Salt)]), (1, .box 45 [cu64 y11.A, cu64 y11.B]), (2, .box 51 [ci64 y17.Length, .ref 6 1 0 y17.Words.length]), (3, .box 51 [ci64 y20.Length, .ref 7 1 0 y20.Words.length]), (4, .row 9 false 1 y14.length (Rs y14)), (5, .row 3 false 1 y32.length (Ri64 y32)), (6, .row 43 false 1 y17.Words.length (Ru64 y17.Words)), (7, .row 43 false 1 y20.Words.length (Ru64 y20.Words))], 8⟩) (fun t => (.exit 2, ⟨[(4, .c (.ptr 0 3 0 0)), (5, .c (.ptr 1 2 0 0)), (7, .c (.ptr 2 2 0 0)), (9, .c (.ptr 3 2 0 0)), (14, vi64 y33), (54, .c (.ref 4 1 0 y14.length)), (55, vi64 (y14.length : Int)), (56, vi64 x26)], [(0, .box 28 [ci64 ((y7.getD (0 + 0) dS_api_Parameters).Length), ci64 ((y7.getD (0 + 0) dS_api_Parameters).Hashes), ci64 ((y7.getD (0 + 0) dS_api_Parameters).Salt)]), (1, .box 45 [cu64 y11.A, cu64 y11.B]), (2, .box 51 [ci64 y17.Length, .ref 5 1 0 y17.Words.length]), (3, .box 51 [ci64 y20.Length, .ref 6 1 0 y20.Words.length]), (4, .row 9 false 1 y14.length (Rs y14)), (5, .row 43 false 1 y17.Words.length (Ru64 y17.Words)), (6, .row 43 false 1 y20.Words.length (Ru64 y20.Words))], 7⟩)) (fun t => (.ret, ⟨[(2, vb false)], [], 0⟩)) (conv_re [(0, 0), (1, 1), (2, 2), (3, 3), (4, 4), (5, 10), (6, 5), (7, 6)] (by kernel_rfl)) (fun _ => tv) (fun _ => tv) ?_ (fun t h => ?_) (fun t h => ?_)
         ·
          clear h
          intro x36 o h
          unfold rl_law14_BloomMay_l5 at h
          refine AW.sg tt_okL9 [(83, vb (decide (x36 < (y32.length : Int))))] [] [] 9 [] (by kernel_rfl) ?_
          refine AW.seq ?_
          refine AW.co h (by kernel_rfl) (fun c37 h => ?_) (fun c37 h => ?_)
          ·
           refine AW.skip (AW.tn ?_)
           refine AW.seq (AW.block ?_)
           obtain ⟨g38, g39, h⟩ := ifd h
           refine AW.sg tt_okL9 [(16, vi64 (y32.getD (0 + x36.toNat) 0))] [] [] 12 [hq g38 g39, ho (p := (0 + x36.toNat) < y32.length) (by have h1 : 0 ≤ x36 := g38; have h2 : x36 < (y32.length : Int) := g39; omega)] (by kernel_rfl) ?_
           obtain ⟨y40, e41, h⟩ := bnd_some h
           refine AW.sg tt_okL9 [(89, vb (!y40))] [] [] 15 [hn, hn, hg [] [] true 0 (q := ((True) ∧ (0 + y17.Words.length ≤ y17.Words.length) ∧ (True)) ∧ (True) ∧ (True)) ⟨⟨tv, le0, tv⟩, tv, tv⟩ (a0 := [.agg [ci64 y17.Length, cl 1 Ru64 y17.Words], vi64 (y32.getD (0 + x36.toNat) 0)]) (rl_ref09_Has_con y17 (y32.getD (0 + x36.toNat) 0) y40 e41) ⟨ArgLe.refl _, ArgLe.refl _, tv⟩ (fun _ => tv)] (by kernel_rfl) ?_
           refine AW.co h (by kernel_rfl) (fun c42 h => ?_) (fun c42 h => ?_)
           ·
            refine AW.sg tt_okL9 [(2, vb false)] [] [] 16 [] (by kernel_rfl) ?_
            refine AW.ret (AW.inBlock_ret (AW.tr ?_))
            exact lpo h rfl (conv_re [] (by kernel_rfl))
           ·
            refine AW.skip (AW.inBlock_normal (AW.tn ?_))
            refine AW.rg tt_okL9 [(82, vi64 (i64.wrap (x36 + 1)))] [] [] 17 [] (by kernel_rfl) ?_
            exact lpn h (conv_re [(0, 0), (1, 1), (2, 2), (3, 3), (4, 4), (5, 5), (6, 6), (7, 7)] (by kernel_rfl))
          ·
           refine AW.exit (AW.thenQ_exit ?_)
           exact lpo h rfl (conv_re [(0, 0), (1, 1), (2, 2), (3, 3), (4, 4), (5, 6), (6, 7)] (by kernel_rfl))
         ·
          replace h : rl_law14_BloomMay_a6 x26 y33 = some o := h
          unfold rl_law14_BloomMay_a6 at h
          show (_ : Exit → St → Prop) (.exit 2) _
          refine AW.inBlock_hit (AW.tn ?_)
          refine AW.sg tt_okL9 [(92, vb (y33 != 0))] [] [] 9 [] (by kernel_rfl) ?_
          refine AW.co h (by kernel_rfl) (fun c43 h => ?_) (fun c43 h => ?_)
          ·
           refine AW.sg tt_okL9 [(2, vb false)] [] [] 10 [] (by kernel_rfl) ?_
           refine AW.ret (AW.inBlock_ret (AW.tr ?_))
           exact lpo h rfl (conv_re [] (by kernel_rfl))
          ·
           refine AW.skip (AW.inBlock_normal (AW.tn ?_))
           refine AW.rg tt_okL9 [(56, vi64 (i64.wrap (x26 + 1)))] [] [] 11 [] (by kernel_rfl) ?_
           exact lpn h (conv_re [(0, 0), (1, 1), (2, 2), (3, 3), (4, 4), (5, 5), (6, 6)] (by kernel_rfl))
         ·
          replace h : rl_law14_BloomMay_a7 = some o := h
          unfold rl_law14_BloomMay_a7 at h
          show (_ : Exit → St → Prop) (.ret) _
          refine AW.inBlock_ret (AW.tr ?_)
          refine AW.inBlock_ret (AW.tr ?_)
          exact lpo h rfl (conv_re [] (by kernel_rfl))
       ·
        obtain ⟨y45, e46, h⟩ := bnd_some h
        rcases ifs h with ⟨c47, h⟩ | ⟨c47, h⟩
        ·
         refine AW.rg tt_okL9 [(72, vb true)] [] [] 23 [hn, hn, hn, hn, hg [] [] true 0 (q := ((True) ∧ (True) ∧ (True) ∧ (True)) ∧ ((True) ∧ (True) ∧ (True)) ∧ (True) ∧ ((True) ∧ (0 + y17.Words.length ≤ y17.Words.length) ∧ (True)) ∧ (True)) ⟨⟨tv, tv, tv, tv⟩, ⟨tv, tv, tv⟩, tv, ⟨tv, le0, tv⟩, tv⟩ (a0 := [.agg [ci64 ((y7.getD (0 + 0) dS_api_Parameters).Length), ci64 ((y7.getD (0 + 0) dS_api_Parameters).Hashes), ci64 ((y7.getD (0 + 0) dS_api_Parameters).Salt)], .agg [cu64 y11.A, cu64 y11.B], vs (y14.getD (0 + x26.toNat) ByteArray.empty), .agg [ci64 y17.Length, cl 1 Ru64 y17.Words]]) (bloom_May_con (y7.getD (0 + 0) dS_api_Parameters) y11 (y14.getD (0 + x26.toNat) ByteArray.empty) y17 y45 e46) ⟨ArgLe.refl _, ArgLe.refl _, ArgLe.refl _, ArgLe.refl _, tv⟩ (fun _ => tv), ht c47] (by kernel_rfl) ?_
         exact jl true h (conv_re [(0, 0), (1, 1), (2, 2), (3, 3), (4, 4), (5, 5), (6, 6)] (by kernel_rfl))
        ·
         obtain ⟨y48, e49, h⟩ := bnd_some h
         refine AW.rg tt_okL9 [(72, vb y48)] [] [] 22 [hn, hn, hn, hn, hg [] [] true 0 (q := ((True) ∧ (True) ∧ (True) ∧ (True)) ∧ ((True) ∧ (True) ∧ (True)) ∧ (True) ∧ ((True) ∧ (0 + y17.Words.length ≤ y17.Words.length) ∧ (True)) ∧ (True)) ⟨⟨tv, tv, tv, tv⟩, ⟨tv, tv, tv⟩, tv, ⟨tv, le0, tv⟩, tv⟩ (a0 := [.agg [ci64 ((y7.getD (0 + 0) dS_api_Parameters).Length), ci64 ((y7.getD (0 + 0) dS_api_Parameters).Hashes), ci64 ((y7.getD (0 + 0) dS_api_Parameters).Salt)], .agg [cu64 y11.A, cu64 y11.B], vs (y14.getD (0 + x26.toNat) ByteArray.empty), .agg [ci64 y17.Length, cl 1 Ru64 y17.Words]]) (bloom_May_con (y7.getD (0 + 0) dS_api_Parameters) y11 (y14.getD (0 + x26.toNat) ByteArray.empty) y17 y45 e46) ⟨ArgLe.refl _, ArgLe.refl _, ArgLe.refl _, ArgLe.refl _, tv⟩ (fun _ => tv), hf c47, hn, hn, hn, hn, hn, hg [] [] true 0 (q := ((True) ∧ (True) ∧ (True) ∧ (True)) ∧ ((True) ∧ (True) ∧ (True)) ∧ (True) ∧ ((True) ∧ (0 + y20.Words.length ≤ y20.Words.length) ∧ (True)) ∧ (True)) ⟨⟨tv, tv, tv, tv⟩, ⟨tv, tv, tv⟩, tv, ⟨tv, le0, tv⟩, tv⟩ (a0 := [.agg [ci64 ((y7.getD (0 + 0) dS_api_Parameters).Length), ci64 ((y7.getD (0 + 0) dS_api_Parameters).Hashes), ci64 ((y7.getD (0 + 0) dS_api_Parameters).Salt)], .agg [cu64 y11.A, cu64 y11.B], vs (y14.getD (0 + x26.toNat) ByteArray.empty), .agg [ci64 y20.Length, cl 1 Ru64 y20.Words]]) (bloom_May_con (y7.getD (0 + 0) dS_api_Parameters) y11 (y14.getD (0 + x26.toNat) ByteArray.empty) y20 y48 e49) ⟨ArgLe.refl _, ArgLe.refl _, ArgLe.refl _, ArgLe.refl _, tv⟩ (fun _ => tv)] (by kernel_rfl) ?_
         exact jl y48 h (conv_re [(0, 0), (1, 1), (2, 2), (3, 3), (4, 4), (5, 5), (6, 6)] (by kernel_rfl))
      ·
       refine AW.exit (AW.thenQ_exit ?_)
       exact lpo h rfl (conv_re [] (by kernel_rfl))
     ·
      replace h : rl_law14_BloomMay_a8 = some r := h
      unfold rl_law14_BloomMay_a8 at h
      show (_ : Exit → St → Prop) (.exit 0) _
      refine AW.inBlock_hit (AW.tn ?_)
      refine AW.sg tt_okL9 [(2, vb true)] [] [] 1 [] (by kernel_rfl) ?_
      refine AW.ret ?_
      obtain rfl := some_inj h
      exact fn0 (.inr rfl) [] 0 (vb true) (by kernel_rfl)
     ·
      replace h : rl_law14_BloomMay_a9 = some r := h
      unfold rl_law14_BloomMay_a9 at h
      show (_ : Exit → St → Prop) (.ret) _
      refine AW.inBlock_ret (AW.tr ?_)
      obtain rfl := some_inj h
      exact fn0 (.inr rfl) [] 0 (vb false) (by kernel_rfl)
   ·
    rcases ifs h with ⟨c51, h⟩ | ⟨c51, h⟩
    ·
     refine AW.rg tt_okL9 [(53, vb true)] [] [] 40 [hn, ht c51] (by kernel_rfl) ?_
     exact jl true h (conv_re [(0, 8), (1, 9), (2, 13), (3, 22), (4, 31), (5, 18), (6, 27)] (by kernel_rfl))
    ·
     refine AW.rg tt_okL9 [(53, vb (y21 != 0))] [] [] 40 [hn, hf c51] (by kernel_rfl) ?_
     exact jl (y21 != 0) h (conv_re [(0, 8), (1, 9), (2, 13), (3, 22), (4, 31), (5, 18), (6, 27)] (by kernel_rfl))
 ·
  obtain ⟨y52, e53, h⟩ := bnd_some h
  rcases ifs h with ⟨c54, h⟩ | ⟨c54, h⟩
  ·
   refine AW.rg tt_okL9 [(23, vb true)] [] [] 7 [hk (rl_law14_awake_con y52 e53), ht c54] (by kernel_rfl) ?_
   exact jl true h (conv_re [] (by kernel_rfl))
  ·
   obtain ⟨y55, e56, h⟩ := bnd_some h
   refine AW.rg tt_okL9 [(23, vb (!y55))] [] [] 6 [hk (rl_law14_awake_con y52 e53), hf c54, hn, hn, hk (rl_make_Few_con p0 y55 e56)] (by kernel_rfl) ?_
   exact jl (!y55) h (conv_re [] (by kernel_rfl))
end Go.Proofs.Ytfnojcalalncbaa
