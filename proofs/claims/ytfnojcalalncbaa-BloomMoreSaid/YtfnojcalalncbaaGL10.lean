/- Printed by a program of mine (vmgen.py): Go functions, and what they come to. -/
import Derived.Test.YtfnojcalalncbaaVr
import Derived.Test.YtfnojcalalncbaaRows
import Derived.Test.YtfnojcalalncbaaG0
namespace Go.Proofs.Ytfnojcalalncbaa
open Vm
open IntKind (i64 u64 u32 u8)
set_option maxHeartbeats 10000000
set_option linter.unusedVariables false
set_option linter.unusedSimpArgs false
set_option linter.constructorNameAsVariable false
def ttlL10 : List (Nat × TI) := [(3, ⟨.int .i64, 1, 8, [.int .i64 0], false⟩), (4, ⟨.bool, 1, 1, [.bool false], false⟩), (5, ⟨.int .u8, 1, 1, [.int .u8 0], false⟩), (9, ⟨.str, 1, 16, [.string ⟨#[]⟩], false⟩), (22, ⟨.slice 3, 1, 24, [.slice none 0 0], false⟩), (25, ⟨.ptr 66, 1, 8, [.pointer none], false⟩), (28, ⟨.struct [(3, 0), (3, 1), (3, 2)], 3, 24, [.int .i64 0, .int .i64 0, .int .i64 0], true⟩), (29, ⟨.slice 28, 1, 24, [.slice none 0 0], false⟩), (32, ⟨.int .i64, 1, 8, [.int .i64 0], false⟩), (43, ⟨.int .u64, 1, 8, [.int .u64 0], false⟩), (45, ⟨.struct [(43, 0), (43, 1)], 2, 16, [.int .u64 0, .int .u64 0], true⟩), (47, ⟨.slice 9, 1, 24, [.slice none 0 0], false⟩), (49, ⟨.slice 43, 1, 24, [.slice none 0 0], false⟩), (51, ⟨.struct [(3, 0), (49, 1)], 2, 32, [.int .i64 0, .slice none 0 0], false⟩), (66, ⟨.struct [(22, 0), (3, 1), (43, 2)], 3, 40, [.slice none 0 0, .int .i64 0, .int .u64 0], false⟩), (69, ⟨.int .u64, 1, 8, [.int .u64 0], false⟩), (84, ⟨.slice 5, 1, 24, [.slice none 0 0], false⟩), (87, ⟨.struct [(43, 0), (43, 1), (43, 2), (43, 3)], 4, 32, [.int .u64 0, .int .u64 0, .int .u64 0, .int .u64 0], true⟩)]
theorem tt_okL10 : TTok Try.prog (Vm.look ttlL10) := ttok_of ⟨⟨by kernel_rfl, by kernel_rfl, by kernel_rfl⟩, ⟨by kernel_rfl, by kernel_rfl, by kernel_rfl⟩, ⟨by kernel_rfl, by kernel_rfl, by kernel_rfl⟩, ⟨by kernel_rfl, by kernel_rfl, by kernel_rfl⟩, ⟨by kernel_rfl, by kernel_rfl, by kernel_rfl⟩, ⟨by kernel_rfl, by kernel_rfl, by kernel_rfl⟩, ⟨by kernel_rfl, by kernel_rfl, by kernel_rfl⟩, ⟨by kernel_rfl, by kernel_rfl, by kernel_rfl⟩, ⟨by kernel_rfl, by kernel_rfl, by kernel_rfl⟩, ⟨by kernel_rfl, by kernel_rfl, by kernel_rfl⟩, ⟨by kernel_rfl, by kernel_rfl, by kernel_rfl⟩, ⟨by kernel_rfl, by kernel_rfl, by kernel_rfl⟩, ⟨by kernel_rfl, by kernel_rfl, by kernel_rfl⟩, ⟨by kernel_rfl, by kernel_rfl, by kernel_rfl⟩, ⟨by kernel_rfl, by kernel_rfl, by kernel_rfl⟩, ⟨by kernel_rfl, by kernel_rfl, by kernel_rfl⟩, ⟨by kernel_rfl, by kernel_rfl, by kernel_rfl⟩, ⟨by kernel_rfl, by kernel_rfl, by kernel_rfl⟩, trivial⟩
theorem moL10 : Try.prog.follows .mixedOrders = true := by kernel_rfl
/-! recordlink/recordlinklaw14.BloomMore -/
noncomputable def rl_law14_BloomMore_k2 (x37 : Bool) : Option Bool := some x37
noncomputable def rl_law14_BloomMore_k1 (p0 : List Int) (x1 : Bool) : Option Bool := if x1 = true then ((rl_law14_awake).bind fun y3 => (some y3)) else ((rl_make_New p0).bind fun y5 => (bind2 (rl_make_Deck_Parameters y5 1) fun y7 y8 => (if (0 : Int) < (y7.length : Int) then (bind2 (rl_make_Deck_Key y8) fun y11 y12 => (bind2 (rl_make_Deck_Next y12 4) fun y14 y15 => ((some ((if (i64.wrap ((i64.wrap (((y7.getD (0 + 0) dS_api_Parameters).Hashes) + 1)) + y14)) < 16 then (i64.wrap ((i64.wrap (((y7.getD (0 + 0) dS_api_Parameters).Hashes) + 1)) + y14)) else 16))).bind fun z17 => (bind2 (rl_law14_grams y15) fun y19 y20 => (bind2 (bloom_Encode (y7.getD (0 + 0) dS_api_Parameters) y11 y19) fun y22 y23 => (bind2 (bloom_Encode (⟨(y7.getD (0 + 0) dS_api_Parameters).Length, z17, (y7.getD (0 + 0) dS_api_Parameters).Salt⟩ : S_api_Parameters) y11 y19) fun y25 y26 => (bind2 (rl_ref09_And y22 y25) fun y28 y29 => (bind2 (bloom_Positions (y7.getD (0 + 0) dS_api_Parameters) y11 (ByteArray.mk #[97, 110])) fun y31 y32 => (bind2 (bloom_Positions (⟨(y7.getD (0 + 0) dS_api_Parameters).Length, z17, (y7.getD (0 + 0) dS_api_Parameters).Salt⟩ : S_api_Parameters) y11 (ByteArray.mk #[97, 110])) fun y34 y35 => (if (y23 == 0) = true then (if (y26 == 0) = true then (if (y29 == 0) = true then (if (y32 == 0) = true then (if (y35 == 0) = true then ((rl_ref09_Compare y28 y22).bind fun y43 => (if (y43 == 0) = true then ((rl_ref09_Count y25).bind fun y46 => (if (decide (y46 ≤ (i64.wrap (z17 * 8)))) = true then (if ((y31.length : Int) == ((y7.getD (0 + 0) dS_api_Parameters).Hashes)) = true then (if ((y34.length : Int) == z17) = true then (if 0 ≤ (y31.length : Int) then (if ((y31.length : Int).toNat) ≤ y34.length then ((rl_ref01_Ints y31 (y34.take ((y31.length : Int).toNat))).bind fun y53 => (if 0 + (y31.length : Int).toNat ≤ y34.length then (rl_law14_BloomMore_k2 y53) else none)) else none) else none) else (rl_law14_BloomMore_k2 false)) else (rl_law14_BloomMore_k2 false)) else (rl_law14_BloomMore_k2 false))) else (rl_law14_BloomMore_k2 false))) else (rl_law14_BloomMore_k2 false)) else (rl_law14_BloomMore_k2 false)) else (rl_law14_BloomMore_k2 false)) else (rl_law14_BloomMore_k2 false)) else (rl_law14_BloomMore_k2 false))))))))))) else none)))
noncomputable def rl_law14_BloomMore (p0 : List Int) : Option Bool := (rl_law14_awake).bind fun y56 => (if (!y56) = true then (rl_law14_BloomMore_k1 p0 true) else ((rl_make_Few p0).bind fun y59 => (rl_law14_BloomMore_k1 p0 (!y59))))
set_option maxRecDepth 100000 in
theorem rl_law14_BloomMore_con (p0 : List Int) (r : Bool) (h : rl_law14_BloomMore p0 = some r) : Con Try.prog 10 [vl 1 Ri64 p0] [] (vb r) [] := by
 refine con_of tt_okL10 0 Try.func10 (by kernel_rfl) rfl (by kernel_rfl) (fun base X _ => AW.post ?_)
 unfold rl_law14_BloomMore at h
 refine AW.sg tt_okL10 [] [] [] 1 [] (by kernel_rfl) ?_
 refine AW.seq (AW.seq ?_)
 refine AW.join (ι := Bool) (fun v => ⟨[(0, vl 1 Ri64 p0), (24, vb v)], [], 0⟩) (fun v : Bool => rl_law14_BloomMore_k1 p0 v = some r) (fun x1 h => ?_) ?_
 ·
  unfold rl_law14_BloomMore_k1 at h
  refine AW.tn ?_
  refine AW.co h (by kernel_rfl) (fun c2 h => ?_) (fun c2 h => ?_)
  ·
   obtain ⟨y3, e4, h⟩ := bnd_some h
   refine AW.sg tt_okL10 [(2, vb y3)] [] [] 1 [hk (rl_law14_awake_con y3 e4)] (by kernel_rfl) ?_
   refine AW.ret (AW.tr ?_)
   obtain rfl := some_inj h
   exact fn0 (.inr rfl) [] 0 (vb y3) (by kernel_rfl)
  ·
   refine AW.skip (AW.tn ?_)
   obtain ⟨y5, e6, h⟩ := bnd_some h
   refine AW.sg tt_okL10 [(3, .c (.ptr 1 3 0 0))] [1] [(1, .box 66 [cl 1 Ri64 y5.list, ci64 y5.at_, cu64 y5.state])] 3 [hn, hl [] [] 1 (rl_make_New_con p0 y5 e6)] (by kernel_rfl) ?_
   obtain ⟨y7, y8, e9, h⟩ := bind2_some h
   obtain ⟨g10, h⟩ := ifc h
   obtain ⟨y11, y12, e13, h⟩ := bind2_some h
   refine AW.sd tt_okL10 moL10 [[], [1, 4], [], [], [], [1], [8], [9], [8], [9]] [(5, .c (.ptr 9 2 0 0)), (4, .c (.ptr 8 3 0 0))] [(9, .box 45 [cu64 y11.A, cu64 y11.B]), (8, .box 28 [ci64 ((y7.getD (0 + 0) dS_api_Parameters).Length), ci64 ((y7.getD (0 + 0) dS_api_Parameters).Hashes), ci64 ((y7.getD (0 + 0) dS_api_Parameters).Salt)]), (1, .box 66 [cl 1 Ri64 y12.list, ci64 y12.at_, cu64 y12.state])] 12 [hn, hl [1] [] 1 (rl_make_Deck_Parameters_con y5 1 (y7, y8) e9), ho (p := (0 ≤ (0 : Int)) ∧ ((0 : Int) < (y7.length : Int))) (⟨(by decide), g10⟩), ho (p := (0 + 0) < y7.length) (by have h1 : 0 ≤ (0 : Int) := (by decide); have h2 : (0 : Int) < (y7.length : Int) := g10; omega), hn, hl [1] [] 0 (rl_make_Deck_Key_con y8 (y11, y12) e13)] (by kernel_rfl) ?_
   refine AW.sg tt_okL10 [(6, .c (.ptr 13 3 0 0))] [13] [(13, .box 28 [ci64 ((y7.getD (0 + 0) dS_api_Parameters).Length), ci64 ((y7.getD (0 + 0) dS_api_Parameters).Hashes), ci64 ((y7.getD (0 + 0) dS_api_Parameters).Salt)])] 15 [] (by kernel_rfl) ?_
   obtain ⟨y14, y15, e16, h⟩ := bind2_some h
   obtain ⟨z17, n18, h⟩ := bnd_some h
   replace n18 := some_inj n18
   refine AW.sd tt_okL10 moL10 [[], [], [], [], [1], [], [], [], [13]] [] [(13, .box 28 [ci64 ((y7.getD (0 + 0) dS_api_Parameters).Length), ci64 z17, ci64 ((y7.getD (0 + 0) dS_api_Parameters).Salt)]), (1, .box 66 [cl 1 Ri64 y15.list, ci64 y15.at_, cu64 y15.state])] 23 [hn, hn, hn, hn, hl [1] [] 0 (rl_make_Deck_Next_con y12 4 (y14, y15) e16)] (by subst n18; kernel_rfl) ?_
   obtain ⟨y19, y20, e21, h⟩ := bind2_some h
   refine AW.sg tt_okL10 [(7, .c (.ref 24 1 0 y19.length))] [1, 24] [(24, .row 9 false 1 y19.length (Rs y19))] 26 [hn, hl [1] [] 1 (rl_law14_grams_con y15 (y19, y20) e21)] (by kernel_rfl) ?_
   obtain ⟨y22, y23, e24, h⟩ := bind2_some h
   refine AW.sg tt_okL10 [(9, vi64 y23), (8, .c (.ptr 33 2 0 0))] [29, 33] [(33, .box 51 [ci64 y22.Length, .ref 29 1 0 y22.Words.length]), (29, .row 43 false 1 y22.Words.length (Ru64 y22.Words))] 36 [hn, hn, hn, hg [] [] true 1 (q := ((True) ∧ (True) ∧ (True) ∧ (True)) ∧ ((True) ∧ (True) ∧ (True)) ∧ (0 + y19.length ≤ y19.length) ∧ (True)) ⟨⟨tv, tv, tv, tv⟩, ⟨tv, tv, tv⟩, le0, tv⟩ (a0 := [.agg [ci64 ((y7.getD (0 + 0) dS_api_Parameters).Length), ci64 ((y7.getD (0 + 0) dS_api_Parameters).Hashes), ci64 ((y7.getD (0 + 0) dS_api_Parameters).Salt)], .agg [cu64 y11.A, cu64 y11.B], vl 1 Rs y19]) (bloom_Encode_con (y7.getD (0 + 0) dS_api_Parameters) y11 y19 (y22, y23) e24) ⟨ArgLe.refl _, ArgLe.refl _, ArgLe.refl _, tv⟩ (fun _ => ⟨rowL_flat Vu64 _ _ _, tv⟩)] (by kernel_rfl) ?_
   obtain ⟨y25, y26, e27, h⟩ := bind2_some h
   refine AW.sg tt_okL10 [(11, vi64 y26), (10, .c (.ptr 43 2 0 0))] [39, 43] [(43, .box 51 [ci64 y25.Length, .ref 39 1 0 y25.Words.length]), (39, .row 43 false 1 y25.Words.length (Ru64 y25.Words))] 46 [hn, hn, hn, hg [] [] true 1 (q := ((True) ∧ (True) ∧ (True) ∧ (True)) ∧ ((True) ∧ (True) ∧ (True)) ∧ (0 + y19.length ≤ y19.length) ∧ (True)) ⟨⟨tv, tv, tv, tv⟩, ⟨tv, tv, tv⟩, le0, tv⟩ (a0 := [.agg [ci64 ((y7.getD (0 + 0) dS_api_Parameters).Length), ci64 z17, ci64 ((y7.getD (0 + 0) dS_api_Parameters).Salt)], .agg [cu64 y11.A, cu64 y11.B], vl 1 Rs y19]) (bloom_Encode_con (⟨(y7.getD (0 + 0) dS_api_Parameters).Length, z17, (y7.getD (0 + 0) dS_api_Parameters).Salt⟩ : S_api_Parameters) y11 y19 (y25, y26) e27) ⟨ArgLe.refl _, ArgLe.refl _, ArgLe.refl _, tv⟩ (fun _ => ⟨rowL_flat Vu64 _ _ _, tv⟩)] (by kernel_rfl) ?_
   obtain ⟨y28, y29, e30, h⟩ := bind2_some h
   refine AW.sg tt_okL10 [(13, vi64 y29), (12, .c (.ptr 52 2 0 0))] [48, 52] [(52, .box 51 [ci64 y28.Length, .ref 48 1 0 y28.Words.length]), (48, .row 43 false 1 y28.Words.length (Ru64 y28.Words))] 55 [hn, hn, hg [] [] true 1 (q := ((True) ∧ (0 + y22.Words.length ≤ y22.Words.length) ∧ (True)) ∧ ((True) ∧ (0 + y25.Words.length ≤ y25.Words.length) ∧ (True)) ∧ (True)) ⟨⟨tv, le0, tv⟩, ⟨tv, le0, tv⟩, tv⟩ (a0 := [.agg [ci64 y22.Length, cl 1 Ru64 y22.Words], .agg [ci64 y25.Length, cl 1 Ru64 y25.Words]]) (rl_ref09_And_con y22 y25 (y28, y29) e30) ⟨ArgLe.refl _, ArgLe.refl _, tv⟩ (fun _ => ⟨rowL_flat Vu64 _ _ _, tv⟩)] (by kernel_rfl) ?_
   obtain ⟨y31, y32, e33, h⟩ := bind2_some h
   refine AW.sg tt_okL10 [(15, vi64 y32), (14, .c (.ref 57 1 0 y31.length))] [57] [(57, .row 3 false 1 y31.length (Ri64 y31))] 63 [hn, hn, hm [] [] 1 (bloom_Positions_con (y7.getD (0 + 0) dS_api_Parameters) y11 (ByteArray.mk #[97, 110]) (y31, y32) e33) ⟨rowL_flat Vi64 _ _ _, tv⟩] (by kernel_rfl) ?_
   obtain ⟨y34, y35, e36, h⟩ := bind2_some h
   refine AW.sg tt_okL10 [(17, vi64 y35), (16, .c (.ref 65 1 0 y34.length))] [65] [(65, .row 3 false 1 y34.length (Ri64 y34))] 71 [hn, hn, hm [] [] 1 (bloom_Positions_con (⟨(y7.getD (0 + 0) dS_api_Parameters).Length, z17, (y7.getD (0 + 0) dS_api_Parameters).Salt⟩ : S_api_Parameters) y11 (ByteArray.mk #[97, 110]) (y34, y35) e36) ⟨rowL_flat Vi64 _ _ _, tv⟩] (by kernel_rfl) ?_
   refine AW.seq ?_
   refine AW.join (ι := Bool) (fun v => ⟨[(2, vb v)], [], 0⟩) (fun v : Bool => rl_law14_BloomMore_k2 v = some r) (fun x37 h => ?_) ?_
   ·
    unfold rl_law14_BloomMore_k2 at h
    refine AW.tn (AW.ret ?_)
    obtain rfl := some_inj h
    exact fn0 (.inr rfl) [] 0 (vb x37) (by kernel_rfl)
   ·
    rcases ifs h with ⟨c38, h⟩ | ⟨c38, h⟩
    ·
     rcases ifs h with ⟨c39, h⟩ | ⟨c39, h⟩
     ·
      rcases ifs h with ⟨c40, h⟩ | ⟨c40, h⟩
      ·
       rcases ifs h with ⟨c41, h⟩ | ⟨c41, h⟩
       ·
        rcases ifs h with ⟨c42, h⟩ | ⟨c42, h⟩
        ·
         obtain ⟨y43, e44, h⟩ := bnd_some h
         rcases ifs h with ⟨c45, h⟩ | ⟨c45, h⟩
         ·
          obtain ⟨y46, e47, h⟩ := bnd_some h
          rcases ifs h with ⟨c48, h⟩ | ⟨c48, h⟩
          ·
           rcases ifs h with ⟨c49, h⟩ | ⟨c49, h⟩
           ·
            rcases ifs h with ⟨c50, h⟩ | ⟨c50, h⟩
            ·
             obtain ⟨g51, g52, h⟩ := ifd h
             obtain ⟨y53, e54, h⟩ := bnd_some h
             obtain ⟨g55, h⟩ := ifc h
             refine AW.rd tt_okL10 moL10 [] [(2, vb y53)] [] 123 [hn, ht c38, hn, hn, ht c39, hn, hn, hn, ht c40, hn, hn, hn, ht c41, hn, hn, hn, ht c42, hn, hn, hn, hn, hg [] [] true 0 (q := ((True) ∧ (0 + y28.Words.length ≤ y28.Words.length) ∧ (True)) ∧ ((True) ∧ (0 + y22.Words.length ≤ y22.Words.length) ∧ (True)) ∧ (True)) ⟨⟨tv, le0, tv⟩, ⟨tv, le0, tv⟩, tv⟩ (a0 := [.agg [ci64 y28.Length, cl 1 Ru64 y28.Words], .agg [ci64 y22.Length, cl 1 Ru64 y22.Words]]) (rl_ref09_Compare_con y28 y22 y43 e44) ⟨ArgLe.refl _, ArgLe.refl _, tv⟩ (fun _ => tv), ht c45, hn, hn, hn, hg [] [] true 0 (q := ((True) ∧ (0 + y25.Words.length ≤ y25.Words.length) ∧ (True)) ∧ (True)) ⟨⟨tv, le0, tv⟩, tv⟩ (a0 := [.agg [ci64 y25.Length, cl 1 Ru64 y25.Words]]) (rl_ref09_Count_con y25 y46 e47) ⟨ArgLe.refl _, tv⟩ (fun _ => tv), hn, hn, hn, ht c48, hn, hn, hn, hn, hn, hn, ht c49, hn, hn, hn, hn, hn, hn, ht c50, hn, hn, hn, hn, hn, hn, ho (p := (True) ∧ (0 ≤ (y31.length : Int)) ∧ (0 ≤ ((y31.length : Int).toNat)) ∧ (((y31.length : Int).toNat) ≤ y34.length)) (⟨tv, g51, (Nat.zero_le _), g52⟩), hg [] [] true 0 (q := (0 + y31.length ≤ y31.length) ∧ (0 + (y31.length : Int).toNat ≤ y34.length) ∧ (True)) ⟨le0, g55, tv⟩ (a0 := [vl 1 Ri64 y31, .c (.t (.tree ((y31.length : Int).toNat) 1 (Ri64 y34)))]) (rl_ref01_Ints_con y31 (y34.take ((y31.length : Int).toNat)) y53 e54) ⟨ArgLe.refl _, ArgLe.c (CAle.tree (take_row (by omega))), tv⟩ (fun _ => tv)] (by kernel_rfl) ?_
             exact jl y53 h (conv_re [] (by kernel_rfl))
            ·
             refine AW.rd tt_okL10 moL10 [] [(2, vb false)] [] 124 [hn, ht c38, hn, hn, ht c39, hn, hn, hn, ht c40, hn, hn, hn, ht c41, hn, hn, hn, ht c42, hn, hn, hn, hn, hg [] [] true 0 (q := ((True) ∧ (0 + y28.Words.length ≤ y28.Words.length) ∧ (True)) ∧ ((True) ∧ (0 + y22.Words.length ≤ y22.Words.length) ∧ (True)) ∧ (True)) ⟨⟨tv, le0, tv⟩, ⟨tv, le0, tv⟩, tv⟩ (a0 := [.agg [ci64 y28.Length, cl 1 Ru64 y28.Words], .agg [ci64 y22.Length, cl 1 Ru64 y22.Words]]) (rl_ref09_Compare_con y28 y22 y43 e44) ⟨ArgLe.refl _, ArgLe.refl _, tv⟩ (fun _ => tv), ht c45, hn, hn, hn, hg [] [] true 0 (q := ((True) ∧ (0 + y25.Words.length ≤ y25.Words.length) ∧ (True)) ∧ (True)) ⟨⟨tv, le0, tv⟩, tv⟩ (a0 := [.agg [ci64 y25.Length, cl 1 Ru64 y25.Words]]) (rl_ref09_Count_con y25 y46 e47) ⟨ArgLe.refl _, tv⟩ (fun _ => tv), hn, hn, hn, ht c48, hn, hn, hn, hn, hn, hn, ht c49, hn, hn, hn, hn, hn, hn, hf c50] (by kernel_rfl) ?_
             exact jl false h (conv_re [] (by kernel_rfl))
           ·
            refine AW.rd tt_okL10 moL10 [] [(2, vb false)] [] 124 [hn, ht c38, hn, hn, ht c39, hn, hn, hn, ht c40, hn, hn, hn, ht c41, hn, hn, hn, ht c42, hn, hn, hn, hn, hg [] [] true 0 (q := ((True) ∧ (0 + y28.Words.length ≤ y28.Words.length) ∧ (True)) ∧ ((True) ∧ (0 + y22.Words.length ≤ y22.Words.length) ∧ (True)) ∧ (True)) ⟨⟨tv, le0, tv⟩, ⟨tv, le0, tv⟩, tv⟩ (a0 := [.agg [ci64 y28.Length, cl 1 Ru64 y28.Words], .agg [ci64 y22.Length, cl 1 Ru64 y22.Words]]) (rl_ref09_Compare_con y28 y22 y43 e44) ⟨ArgLe.refl _, ArgLe.refl _, tv⟩ (fun _ => tv), ht c45, hn, hn, hn, hg [] [] true 0 (q := ((True) ∧ (0 + y25.Words.length ≤ y25.Words.length) ∧ (True)) ∧ (True)) ⟨⟨tv, le0, tv⟩, tv⟩ (a0 := [.agg [ci64 y25.Length, cl 1 Ru64 y25.Words]]) (rl_ref09_Count_con y25 y46 e47) ⟨ArgLe.refl _, tv⟩ (fun _ => tv), hn, hn, hn, ht c48, hn, hn, hn, hn, hn, hn, hf c49] (by kernel_rfl) ?_
            exact jl false h (conv_re [] (by kernel_rfl))
          ·
           refine AW.rd tt_okL10 moL10 [] [(2, vb false)] [] 124 [hn, ht c38, hn, hn, ht c39, hn, hn, hn, ht c40, hn, hn, hn, ht c41, hn, hn, hn, ht c42, hn, hn, hn, hn, hg [] [] true 0 (q := ((True) ∧ (0 + y28.Words.length ≤ y28.Words.length) ∧ (True)) ∧ ((True) ∧ (0 + y22.Words.length ≤ y22.Words.length) ∧ (True)) ∧ (True)) ⟨⟨tv, le0, tv⟩, ⟨tv, le0, tv⟩, tv⟩ (a0 := [.agg [ci64 y28.Length, cl 1 Ru64 y28.Words], .agg [ci64 y22.Length, cl 1 Ru64 y22.Words]]) (rl_ref09_Compare_con y28 y22 y43 e44) ⟨ArgLe.refl _, ArgLe.refl _, tv⟩ (fun _ => tv), ht c45, hn, hn, hn, hg [] [] true 0 (q := ((True) ∧ (0 + y25.Words.length ≤ y25.Words.length) ∧ (True)) ∧ (True)) ⟨⟨tv, le0, tv⟩, tv⟩ (a0 := [.agg [ci64 y25.Length, cl 1 Ru64 y25.Words]]) (rl_ref09_Count_con y25 y46 e47) ⟨ArgLe.refl _, tv⟩ (fun _ => tv), hn, hn, hn, hf c48] (by kernel_rfl) ?_
           exact jl false h (conv_re [] (by kernel_rfl))
         ·
          refine AW.rd tt_okL10 moL10 [] [(2, vb false)] [] 125 [hn, ht c38, hn, hn, ht c39, hn, hn, hn, ht c40, hn, hn, hn, ht c41, hn, hn, hn, ht c42, hn, hn, hn, hn, hg [] [] true 0 (q := ((True) ∧ (0 + y28.Words.length ≤ y28.Words.length) ∧ (True)) ∧ ((True) ∧ (0 + y22.Words.length ≤ y22.Words.length) ∧ (True)) ∧ (True)) ⟨⟨tv, le0, tv⟩, ⟨tv, le0, tv⟩, tv⟩ (a0 := [.agg [ci64 y28.Length, cl 1 Ru64 y28.Words], .agg [ci64 y22.Length, cl 1 Ru64 y22.Words]]) (rl_ref09_Compare_con y28 y22 y43 e44) ⟨ArgLe.refl _, ArgLe.refl _, tv⟩ (fun _ => tv), hf c45] (by kernel_rfl) ?_
          exact jl false h (conv_re [] (by kernel_rfl))
        ·
         refine AW.rd tt_okL10 moL10 [] [(2, vb false)] [] 126 [hn, ht c38, hn, hn, ht c39, hn, hn, hn, ht c40, hn, hn, hn, ht c41, hn, hn, hn, hf c42] (by kernel_rfl) ?_
         exact jl false h (conv_re [] (by kernel_rfl))
       ·
        refine AW.rd tt_okL10 moL10 [] [(2, vb false)] [] 126 [hn, ht c38, hn, hn, ht c39, hn, hn, hn, ht c40, hn, hn, hn, hf c41] (by kernel_rfl) ?_
        exact jl false h (conv_re [] (by kernel_rfl))
      ·
       refine AW.rd tt_okL10 moL10 [] [(2, vb false)] [] 126 [hn, ht c38, hn, hn, ht c39, hn, hn, hn, hf c40] (by kernel_rfl) ?_
       exact jl false h (conv_re [] (by kernel_rfl))
     ·
      refine AW.rd tt_okL10 moL10 [] [(2, vb false)] [] 126 [hn, ht c38, hn, hn, hf c39] (by kernel_rfl) ?_
      exact jl false h (conv_re [] (by kernel_rfl))
    ·
     refine AW.rd tt_okL10 moL10 [] [(2, vb false)] [] 126 [hn, hf c38] (by kernel_rfl) ?_
     exact jl false h (conv_re [] (by kernel_rfl))
 ·
  obtain ⟨y56, e57, h⟩ := bnd_some h
  rcases ifs h with ⟨c58, h⟩ | ⟨c58, h⟩
  ·
   refine AW.rg tt_okL10 [(24, vb true)] [] [] 7 [hk (rl_law14_awake_con y56 e57), ht c58] (by kernel_rfl) ?_
   exact jl true h (conv_re [] (by kernel_rfl))
  ·
   obtain ⟨y59, e60, h⟩ := bnd_some h
   refine AW.rg tt_okL10 [(24, vb (!y59))] [] [] 6 [hk (rl_law14_awake_con y56 e57), hf c58, hn, hn, hk (rl_make_Few_con p0 y59 e60)] (by kernel_rfl) ?_
   exact jl (!y59) h (conv_re [] (by kernel_rfl))
end Go.Proofs.Ytfnojcalalncbaa
