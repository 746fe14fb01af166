/- Printed by a program of mine (vmgen.py): Go functions, and what they come to. -/
import Derived.Test.YtfnojcalalncbaaVr
import Derived.Test.YtfnojcalalncbaaRows
import Derived.Test.YtfnojcalalncbaaG0
namespace Go.Proofs.Ytfnojcalalncbaa
open Vm
open IntKind (i64 u64 u32 u8)
set_option maxHeartbeats 10000000
set_option linter.unusedVariables false
set_option linter.unusedSimpArgs false
set_option linter.constructorNameAsVariable false
def ttlL8 : List (Nat × TI) := [(3, ⟨.int .i64, 1, 8, [.int .i64 0], false⟩), (4, ⟨.bool, 1, 1, [.bool false], false⟩), (5, ⟨.int .u8, 1, 1, [.int .u8 0], false⟩), (9, ⟨.str, 1, 16, [.string ⟨#[]⟩], false⟩), (22, ⟨.slice 3, 1, 24, [.slice none 0 0], false⟩), (25, ⟨.ptr 66, 1, 8, [.pointer none], false⟩), (28, ⟨.struct [(3, 0), (3, 1), (3, 2)], 3, 24, [.int .i64 0, .int .i64 0, .int .i64 0], true⟩), (29, ⟨.slice 28, 1, 24, [.slice none 0 0], false⟩), (32, ⟨.int .i64, 1, 8, [.int .i64 0], false⟩), (43, ⟨.int .u64, 1, 8, [.int .u64 0], false⟩), (45, ⟨.struct [(43, 0), (43, 1)], 2, 16, [.int .u64 0, .int .u64 0], true⟩), (47, ⟨.slice 9, 1, 24, [.slice none 0 0], false⟩), (49, ⟨.slice 43, 1, 24, [.slice none 0 0], false⟩), (51, ⟨.struct [(3, 0), (49, 1)], 2, 32, [.int .i64 0, .slice none 0 0], false⟩), (66, ⟨.struct [(22, 0), (3, 1), (43, 2)], 3, 40, [.slice none 0 0, .int .i64 0, .int .u64 0], false⟩), (69, ⟨.int .u64, 1, 8, [.int .u64 0], false⟩), (84, ⟨.slice 5, 1, 24, [.slice none 0 0], false⟩), (87, ⟨.struct [(43, 0), (43, 1), (43, 2), (43, 3)], 4, 32, [.int .u64 0, .int .u64 0, .int .u64 0, .int .u64 0], true⟩)]
theorem tt_okL8 : TTok Try.prog (Vm.look ttlL8) := ttok_of ⟨⟨by kernel_rfl, by kernel_rfl, by kernel_rfl⟩, ⟨by kernel_rfl, by kernel_rfl, by kernel_rfl⟩, ⟨by kernel_rfl, by kernel_rfl, by kernel_rfl⟩, ⟨by kernel_rfl, by kernel_rfl, by kernel_rfl⟩, ⟨by kernel_rfl, by kernel_rfl, by kernel_rfl⟩, ⟨by kernel_rfl, by kernel_rfl, by kernel_rfl⟩, ⟨by kernel_rfl, by kernel_rfl, by kernel_rfl⟩, ⟨by kernel_rfl, by kernel_rfl, by kernel_rfl⟩, ⟨by kernel_rfl, by kernel_rfl, by kernel_rfl⟩, ⟨by kernel_rfl, by kernel_rfl, by kernel_rfl⟩, ⟨by kernel_rfl, by kernel_rfl, by kernel_rfl⟩, ⟨by kernel_rfl, by kernel_rfl, by kernel_rfl⟩, ⟨by kernel_rfl, by kernel_rfl, by kernel_rfl⟩, ⟨by kernel_rfl, by kernel_rfl, by kernel_rfl⟩, ⟨by kernel_rfl, by kernel_rfl, by kernel_rfl⟩, ⟨by kernel_rfl, by kernel_rfl, by kernel_rfl⟩, ⟨by kernel_rfl, by kernel_rfl, by kernel_rfl⟩, ⟨by kernel_rfl, by kernel_rfl, by kernel_rfl⟩, trivial⟩
theorem moL8 : Try.prog.follows .mixedOrders = true := by kernel_rfl
/-! recordlink/recordlinklaw14.BloomSets -/
noncomputable def rl_law14_BloomSets_l2 (y14 : List ByteArray) (x22 : List ByteArray) (x23 : Int) : Option (((List ByteArray) × Int) ⊕ (List ByteArray)) := if (decide (x23 ≥ 0)) = true then (if 0 ≤ x23 then (if x23 < (y14.length : Int) then (if x22.length + ([(y14.getD (0 + x23.toNat) ByteArray.empty), (y14.getD (0 + x23.toNat) ByteArray.empty)] : List ByteArray).length ≤ 1099511627776 then (some (.inl ((x22 ++ ([(y14.getD (0 + x23.toNat) ByteArray.empty), (y14.getD (0 + x23.toNat) ByteArray.empty)] : List ByteArray)), i64.wrap (x23 - 1)))) else none) else none) else none) else (some (.inr x22))
noncomputable def rl_law14_BloomSets_k3 (x47 : Bool) : Option Bool := some x47
noncomputable def rl_law14_BloomSets_k1 (p0 : List Int) (x1 : Bool) : Option Bool := if x1 = true then ((rl_law14_awake).bind fun y3 => (some y3)) else ((rl_make_New p0).bind fun y5 => (bind2 (rl_make_Deck_Parameters y5 1) fun y7 y8 => (if (0 : Int) < (y7.length : Int) then (bind2 (rl_make_Deck_Key y8) fun y11 y12 => (bind2 (rl_law14_grams y12) fun y14 y15 => (bind2 (rl_law14_grams y15) fun y17 y18 => ((loop (fun v : (List ByteArray) × Int => rl_law14_BloomSets_l2 y14 v.1 v.2) (([] : List ByteArray), i64.wrap ((y14.length : Int) - 1))).bind fun x29 => (bind2 (bloom_Encode (y7.getD (0 + 0) dS_api_Parameters) y11 y14) fun y30 y31 => (bind2 (bloom_Encode (y7.getD (0 + 0) dS_api_Parameters) y11 x29) fun y33 y34 => (bind2 (bloom_Encode (y7.getD (0 + 0) dS_api_Parameters) y11 y17) fun y36 y37 => (if 0 + y14.length ≤ 1099511627776 then (if (([] : List ByteArray) ++ y14).length + y17.length ≤ 1099511627776 then (bind2 (bloom_Encode (y7.getD (0 + 0) dS_api_Parameters) y11 ((([] : List ByteArray) ++ y14) ++ y17)) fun y41 y42 => (bind2 (rl_ref09_Or y30 y36) fun y44 y45 => (if (y31 == 0) = true then (if (y34 == 0) = true then (if (y37 == 0) = true then (if (y42 == 0) = true then (if (y45 == 0) = true then ((rl_ref09_Compare y30 y33).bind fun y53 => (if (y53 == 0) = true then ((rl_ref09_Compare y41 y44).bind fun y56 => (rl_law14_BloomSets_k3 (y56 == 0))) else (rl_law14_BloomSets_k3 false))) else (rl_law14_BloomSets_k3 false)) else (rl_law14_BloomSets_k3 false)) else (rl_law14_BloomSets_k3 false)) else (rl_law14_BloomSets_k3 false)) else (rl_law14_BloomSets_k3 false)))) else none) else none)))))))) else none)))
noncomputable def rl_law14_BloomSets (p0 : List Int) : Option Bool := (rl_law14_awake).bind fun y59 => (if (!y59) = true then (rl_law14_BloomSets_k1 p0 true) else ((rl_make_Few p0).bind fun y62 => (rl_law14_BloomSets_k1 p0 (!y62))))
set_option maxRecDepth 100000 in
theorem rl_law14_BloomSets_con (p0 : List Int) (r : Bool) (h : rl_law14_BloomSets p0 = some r) : Con Try.prog 8 [vl 1 Ri64 p0] [] (vb r) [] := by
 refine con_of tt_okL8 0 Try.func8 (by kernel_rfl) rfl (by kernel_rfl) (fun base X _ => AW.post ?_)
 unfold rl_law14_BloomSets at h
 refine AW.sg tt_okL8 [] [] [] 1 [] (by kernel_rfl) ?_
 refine AW.seq (AW.seq ?_)
 refine AW.join (ι := Bool) (fun v => ⟨[(0, vl 1 Ri64 p0), (26, vb v)], [], 0⟩) (fun v : Bool => rl_law14_BloomSets_k1 p0 v = some r) (fun x1 h => ?_) ?_
 ·
  unfold rl_law14_BloomSets_k1 at h
  refine AW.tn ?_
  refine AW.co h (by kernel_rfl) (fun c2 h => ?_) (fun c2 h => ?_)
  ·
   obtain ⟨y3, e4, h⟩ := bnd_some h
   refine AW.sg tt_okL8 [(2, vb y3)] [] [] 1 [hk (rl_law14_awake_con y3 e4)] (by kernel_rfl) ?_
   refine AW.ret (AW.tr ?_)
   obtain rfl := some_inj h
   exact fn0 (.inr rfl) [] 0 (vb y3) (by kernel_rfl)
  ·
   refine AW.skip (AW.tn ?_)
   obtain ⟨y5, e6, h⟩ := bnd_some h
   refine AW.sg tt_okL8 [(3, .c (.ptr 1 3 0 0))] [1] [(1, .box 66 [cl 1 Ri64 y5.list, ci64 y5.at_, cu64 y5.state])] 3 [hn, hl [] [] 1 (rl_make_New_con p0 y5 e6)] (by kernel_rfl) ?_
   obtain ⟨y7, y8, e9, h⟩ := bind2_some h
   obtain ⟨g10, h⟩ := ifc h
   obtain ⟨y11, y12, e13, h⟩ := bind2_some h
   refine AW.sd tt_okL8 moL8 [[], [1, 4], [], [], [], [1], [8], [9], [8], [9]] [(5, .c (.ptr 9 2 0 0)), (4, .c (.ptr 8 3 0 0))] [(9, .box 45 [cu64 y11.A, cu64 y11.B]), (8, .box 28 [ci64 ((y7.getD (0 + 0) dS_api_Parameters).Length), ci64 ((y7.getD (0 + 0) dS_api_Parameters).Hashes), ci64 ((y7.getD (0 + 0) dS_api_Parameters).Salt)]), (1, .box 66 [cl 1 Ri64 y12.list, ci64 y12.at_, cu64 y12.state])] 12 [hn, hl [1] [] 1 (rl_make_Deck_Parameters_con y5 1 (y7, y8) e9), ho (p := (0 ≤ (0 : Int)) ∧ ((0 : Int) < (y7.length : Int))) (⟨(by decide), g10⟩), ho (p := (0 + 0) < y7.length) (by have h1 : 0 ≤ (0 : Int) := (by decide); have h2 : (0 : Int) < (y7.length : Int) := g10; omega), hn, hl [1] [] 0 (rl_make_Deck_Key_con y8 (y11, y12) e13)] (by kernel_rfl) ?_
   obtain ⟨y14, y15, e16, h⟩ := bind2_some h
   obtain ⟨y17, y18, e19, h⟩ := bind2_some h
   refine AW.sg tt_okL8 [(7, .c (.ref 15 1 0 y17.length)), (6, .c (.ref 13 1 0 y14.length))] [1, 13, 15] [(15, .row 9 false 1 y17.length (Rs y17)), (13, .row 9 false 1 y14.length (Rs y14))] 18 [hn, hl [1] [] 1 (rl_law14_grams_con y12 (y14, y15) e16), hn, hl [1] [] 1 (rl_law14_grams_con y15 (y17, y18) e19)] (by kernel_rfl) ?_
   refine AW.sg tt_okL8 [(8, .c (.t (.v (.slice none 0 0))))] [] [] 19 [] (by kernel_rfl) ?_
   refine AW.seq ?_
   refine AW.sg tt_okL8 [(9, vi64 (i64.wrap ((y14.length : Int) - 1)))] [] [] 23 [] (by kernel_rfl) ?_
   refine AW.block ?_
   obtain ⟨x29, l58, h⟩ := bnd_some h
   refine AW.lp l58 (fun v => ⟨[(4, .c (.ptr 0 3 0 0)), (5, .c (.ptr 1 2 0 0)), (6, .c (.ref 2 1 0 y14.length)), (7, .c (.ref 3 1 0 y17.length)), (8, .c (.ref 4 1 0 v.1.length)), (9, vi64 v.2)], [(0, .box 28 [ci64 ((y7.getD (0 + 0) dS_api_Parameters).Length), ci64 ((y7.getD (0 + 0) dS_api_Parameters).Hashes), ci64 ((y7.getD (0 + 0) dS_api_Parameters).Salt)]), (1, .box 45 [cu64 y11.A, cu64 y11.B]), (2, .row 9 false 1 y14.length (Rs y14)), (3, .row 9 false 1 y17.length (Rs y17)), (4, .row 9 false 1 v.1.length (Rs v.1))], 5⟩) (fun t : List ByteArray => (.exit 0, ⟨[(4, .c (.ptr 0 3 0 0)), (5, .c (.ptr 1 2 0 0)), (6, .c (.ref 2 1 0 y14.length)), (7, .c (.ref 3 1 0 y17.length)), (8, .c (.ref 4 1 0 t.length))], [(0, .box 28 [ci64 ((y7.getD (0 + 0) dS_api_Parameters).Length), ci64 ((y7.getD (0 + 0) dS_api_Parameters).Hashes), ci64 ((y7.getD (0 + 0) dS_api_Parameters).Salt)]), (1, .box 45 [cu64 y11.A, cu64 y11.B]), (2, .row 9 false 1 y14.length (Rs y14)), (3, .row 9 false 1 y17.length (Rs y17)), (4, .row 9 false 1 t.length (Rs t))], 5⟩)) (Conv.trans (conv_adopt (t := 8) (ty := 9) (sz := 1) (n := ([] : List ByteArray).length) (f := Rs ([] : List ByteArray)) (by kernel_rfl) rfl) (conv_re [(0, 8), (1, 9), (2, 13), (3, 15), (4, 23)] (by kernel_rfl))) (fun _ => tv) ?_ ?_
   ·
    clear l58 h
    intro v o h
    obtain ⟨x22, x23⟩ := v
    replace h : rl_law14_BloomSets_l2 y14 x22 x23 = some o := h
    unfold rl_law14_BloomSets_l2 at h
    refine AW.seq ?_
    refine AW.sg tt_okL8 [(44, vb (decide (x23 ≥ 0)))] [] [] 7 [] (by kernel_rfl) ?_
    refine AW.co h (by kernel_rfl) (fun c25 h => ?_) (fun c25 h => ?_)
    ·
     refine AW.skip (AW.tn ?_)
     refine AW.seq (AW.block ?_)
     obtain ⟨g26, g27, h⟩ := ifd h
     obtain ⟨g28, h⟩ := ifc h
     refine AW.rd tt_okL8 moL8 [[], [], [], [], [], [], [], [], [], [16], [17, 4]] [(8, .c (.ref 17 1 0 ((x22 ++ ([(y14.getD (0 + x23.toNat) ByteArray.empty), (y14.getD (0 + x23.toNat) ByteArray.empty)] : List ByteArray)).length)))] [(17, .row 9 false 1 (x22 ++ ([(y14.getD (0 + x23.toNat) ByteArray.empty), (y14.getD (0 + x23.toNat) ByteArray.empty)] : List ByteArray)).length (Rs (x22 ++ ([(y14.getD (0 + x23.toNat) ByteArray.empty), (y14.getD (0 + x23.toNat) ByteArray.empty)] : List ByteArray))))] 19 [hn, hn, hn, hq g26 g27, ho (p := (0 + x23.toNat) < y14.length) (by have h1 : 0 ≤ x23 := g26; have h2 : x23 < (y14.length : Int) := g27; omega), hn, hn, hq g26 g27, ho (p := (0 + x23.toNat) < y14.length) (by have h1 : 0 ≤ x23 := g26; have h2 : x23 < (y14.length : Int) := g27; omega), hlit ByteArray.empty Es 1 (fun _ => rfl) ([(y14.getD (0 + x23.toNat) ByteArray.empty), (y14.getD (0 + x23.toNat) ByteArray.empty)] : List ByteArray), happ ByteArray.empty Es 1 16 x22 ([(y14.getD (0 + x23.toNat) ByteArray.empty), (y14.getD (0 + x23.toNat) ByteArray.empty)] : List ByteArray) g28 (by decide)] (by kernel_rfl) ?_
     refine AW.inBlock_normal (AW.tn ?_)
     refine AW.rg tt_okL8 [(9, vi64 (i64.wrap (x23 - 1)))] [] [] 22 [] (by kernel_rfl) ?_
     exact lpn h (conv_re [(0, 0), (1, 1), (2, 2), (3, 3), (4, 17)] (by kernel_rfl))
    ·
     refine AW.exit (AW.thenQ_exit ?_)
     exact lpo h rfl (conv_re [(0, 0), (1, 1), (2, 2), (3, 3), (4, 4)] (by kernel_rfl))
   ·
    show (_ : Exit → St → Prop) (.exit 0) _
    refine AW.inBlock_hit (AW.tn ?_)
    obtain ⟨y30, y31, e32, h⟩ := bind2_some h
    refine AW.sg tt_okL8 [(11, vi64 y31), (10, .c (.ptr 12 2 0 0))] [8, 12] [(12, .box 51 [ci64 y30.Length, .ref 8 1 0 y30.Words.length]), (8, .row 43 false 1 y30.Words.length (Ru64 y30.Words))] 15 [hn, hn, hn, hg [] [] true 1 (q := ((True) ∧ (True) ∧ (True) ∧ (True)) ∧ ((True) ∧ (True) ∧ (True)) ∧ (0 + y14.length ≤ y14.length) ∧ (True)) ⟨⟨tv, tv, tv, tv⟩, ⟨tv, tv, tv⟩, le0, tv⟩ (a0 := [.agg [ci64 ((y7.getD (0 + 0) dS_api_Parameters).Length), ci64 ((y7.getD (0 + 0) dS_api_Parameters).Hashes), ci64 ((y7.getD (0 + 0) dS_api_Parameters).Salt)], .agg [cu64 y11.A, cu64 y11.B], vl 1 Rs y14]) (bloom_Encode_con (y7.getD (0 + 0) dS_api_Parameters) y11 y14 (y30, y31) e32) ⟨ArgLe.refl _, ArgLe.refl _, ArgLe.refl _, tv⟩ (fun _ => ⟨rowL_flat Vu64 _ _ _, tv⟩)] (by kernel_rfl) ?_
    obtain ⟨y33, y34, e35, h⟩ := bind2_some h
    refine AW.sg tt_okL8 [(13, vi64 y34), (12, .c (.ptr 22 2 0 0))] [18, 22] [(22, .box 51 [ci64 y33.Length, .ref 18 1 0 y33.Words.length]), (18, .row 43 false 1 y33.Words.length (Ru64 y33.Words))] 25 [hn, hn, hn, hg [] [] true 1 (q := ((True) ∧ (True) ∧ (True) ∧ (True)) ∧ ((True) ∧ (True) ∧ (True)) ∧ (0 + x29.length ≤ x29.length) ∧ (True)) ⟨⟨tv, tv, tv, tv⟩, ⟨tv, tv, tv⟩, le0, tv⟩ (a0 := [.agg [ci64 ((y7.getD (0 + 0) dS_api_Parameters).Length), ci64 ((y7.getD (0 + 0) dS_api_Parameters).Hashes), ci64 ((y7.getD (0 + 0) dS_api_Parameters).Salt)], .agg [cu64 y11.A, cu64 y11.B], vl 1 Rs x29]) (bloom_Encode_con (y7.getD (0 + 0) dS_api_Parameters) y11 x29 (y33, y34) e35) ⟨ArgLe.refl _, ArgLe.refl _, ArgLe.refl _, tv⟩ (fun _ => ⟨rowL_flat Vu64 _ _ _, tv⟩)] (by kernel_rfl) ?_
    obtain ⟨y36, y37, e38, h⟩ := bind2_some h
    refine AW.sg tt_okL8 [(15, vi64 y37), (14, .c (.ptr 32 2 0 0))] [28, 32] [(32, .box 51 [ci64 y36.Length, .ref 28 1 0 y36.Words.length]), (28, .row 43 false 1 y36.Words.length (Ru64 y36.Words))] 35 [hn, hn, hn, hg [] [] true 1 (q := ((True) ∧ (True) ∧ (True) ∧ (True)) ∧ ((True) ∧ (True) ∧ (True)) ∧ (0 + y17.length ≤ y17.length) ∧ (True)) ⟨⟨tv, tv, tv, tv⟩, ⟨tv, tv, tv⟩, le0, tv⟩ (a0 := [.agg [ci64 ((y7.getD (0 + 0) dS_api_Parameters).Length), ci64 ((y7.getD (0 + 0) dS_api_Parameters).Hashes), ci64 ((y7.getD (0 + 0) dS_api_Parameters).Salt)], .agg [cu64 y11.A, cu64 y11.B], vl 1 Rs y17]) (bloom_Encode_con (y7.getD (0 + 0) dS_api_Parameters) y11 y17 (y36, y37) e38) ⟨ArgLe.refl _, ArgLe.refl _, ArgLe.refl _, tv⟩ (fun _ => ⟨rowL_flat Vu64 _ _ _, tv⟩)] (by kernel_rfl) ?_
    obtain ⟨g39, g40, h⟩ := ifd h
    obtain ⟨y41, y42, e43, h⟩ := bind2_some h
    refine AW.sd tt_okL8 moL8 [[], [], [], [38], [], [40, 38], [41], [], [], [], [45], [45]] [(17, vi64 y42), (16, .c (.ptr 45 2 0 0))] [(45, .box 51 [ci64 y41.Length, .ref 41 1 0 y41.Words.length]), (41, .row 43 false 1 y41.Words.length (Ru64 y41.Words))] 48 [hn, hn, hn, happ0 ByteArray.empty Es 1 16 y14 g39 (by decide), hn, happ ByteArray.empty Es 1 16 (([] : List ByteArray) ++ y14) y17 g40 (by decide), hg [] [] true 1 (q := ((True) ∧ (True) ∧ (True) ∧ (True)) ∧ ((True) ∧ (True) ∧ (True)) ∧ (0 + ((([] : List ByteArray) ++ y14) ++ y17).length ≤ ((([] : List ByteArray) ++ y14) ++ y17).length) ∧ (True)) ⟨⟨tv, tv, tv, tv⟩, ⟨tv, tv, tv⟩, le0, tv⟩ (a0 := [.agg [ci64 ((y7.getD (0 + 0) dS_api_Parameters).Length), ci64 ((y7.getD (0 + 0) dS_api_Parameters).Hashes), ci64 ((y7.getD (0 + 0) dS_api_Parameters).Salt)], .agg [cu64 y11.A, cu64 y11.B], vl 1 Rs ((([] : List ByteArray) ++ y14) ++ y17)]) (bloom_Encode_con (y7.getD (0 + 0) dS_api_Parameters) y11 ((([] : List ByteArray) ++ y14) ++ y17) (y41, y42) e43) ⟨ArgLe.refl _, ArgLe.refl _, ArgLe.refl _, tv⟩ (fun _ => ⟨rowL_flat Vu64 _ _ _, tv⟩)] (by kernel_rfl) ?_
    obtain ⟨y44, y45, e46, h⟩ := bind2_some h
    refine AW.sg tt_okL8 [(19, vi64 y45), (18, .c (.ptr 54 2 0 0))] [50, 54] [(54, .box 51 [ci64 y44.Length, .ref 50 1 0 y44.Words.length]), (50, .row 43 false 1 y44.Words.length (Ru64 y44.Words))] 57 [hn, hn, hg [] [] true 1 (q := ((True) ∧ (0 + y30.Words.length ≤ y30.Words.length) ∧ (True)) ∧ ((True) ∧ (0 + y36.Words.length ≤ y36.Words.length) ∧ (True)) ∧ (True)) ⟨⟨tv, le0, tv⟩, ⟨tv, le0, tv⟩, tv⟩ (a0 := [.agg [ci64 y30.Length, cl 1 Ru64 y30.Words], .agg [ci64 y36.Length, cl 1 Ru64 y36.Words]]) (rl_ref09_Or_con y30 y36 (y44, y45) e46) ⟨ArgLe.refl _, ArgLe.refl _, tv⟩ (fun _ => ⟨rowL_flat Vu64 _ _ _, tv⟩)] (by kernel_rfl) ?_
    refine AW.seq ?_
    refine AW.join (ι := Bool) (fun v => ⟨[(2, vb v)], [], 0⟩) (fun v : Bool => rl_law14_BloomSets_k3 v = some r) (fun x47 h => ?_) ?_
    ·
     unfold rl_law14_BloomSets_k3 at h
     refine AW.tn (AW.ret ?_)
     obtain rfl := some_inj h
     exact fn0 (.inr rfl) [] 0 (vb x47) (by kernel_rfl)
    ·
     rcases ifs h with ⟨c48, h⟩ | ⟨c48, h⟩
     ·
      rcases ifs h with ⟨c49, h⟩ | ⟨c49, h⟩
      ·
       rcases ifs h with ⟨c50, h⟩ | ⟨c50, h⟩
       ·
        rcases ifs h with ⟨c51, h⟩ | ⟨c51, h⟩
        ·
         rcases ifs h with ⟨c52, h⟩ | ⟨c52, h⟩
         ·
          obtain ⟨y53, e54, h⟩ := bnd_some h
          rcases ifs h with ⟨c55, h⟩ | ⟨c55, h⟩
          ·
           obtain ⟨y56, e57, h⟩ := bnd_some h
           refine AW.rg tt_okL8 [(2, vb (y56 == 0))] [] [] 86 [hn, ht c48, hn, hn, ht c49, hn, hn, hn, ht c50, hn, hn, hn, ht c51, hn, hn, hn, ht c52, hn, hn, hn, hn, hg [] [] true 0 (q := ((True) ∧ (0 + y30.Words.length ≤ y30.Words.length) ∧ (True)) ∧ ((True) ∧ (0 + y33.Words.length ≤ y33.Words.length) ∧ (True)) ∧ (True)) ⟨⟨tv, le0, tv⟩, ⟨tv, le0, tv⟩, tv⟩ (a0 := [.agg [ci64 y30.Length, cl 1 Ru64 y30.Words], .agg [ci64 y33.Length, cl 1 Ru64 y33.Words]]) (rl_ref09_Compare_con y30 y33 y53 e54) ⟨ArgLe.refl _, ArgLe.refl _, tv⟩ (fun _ => tv), ht c55, hn, hn, hn, hn, hg [] [] true 0 (q := ((True) ∧ (0 + y41.Words.length ≤ y41.Words.length) ∧ (True)) ∧ ((True) ∧ (0 + y44.Words.length ≤ y44.Words.length) ∧ (True)) ∧ (True)) ⟨⟨tv, le0, tv⟩, ⟨tv, le0, tv⟩, tv⟩ (a0 := [.agg [ci64 y41.Length, cl 1 Ru64 y41.Words], .agg [ci64 y44.Length, cl 1 Ru64 y44.Words]]) (rl_ref09_Compare_con y41 y44 y56 e57) ⟨ArgLe.refl _, ArgLe.refl _, tv⟩ (fun _ => tv)] (by kernel_rfl) ?_
           exact jl (y56 == 0) h (conv_re [] (by kernel_rfl))
          ·
           refine AW.rg tt_okL8 [(2, vb false)] [] [] 87 [hn, ht c48, hn, hn, ht c49, hn, hn, hn, ht c50, hn, hn, hn, ht c51, hn, hn, hn, ht c52, hn, hn, hn, hn, hg [] [] true 0 (q := ((True) ∧ (0 + y30.Words.length ≤ y30.Words.length) ∧ (True)) ∧ ((True) ∧ (0 + y33.Words.length ≤ y33.Words.length) ∧ (True)) ∧ (True)) ⟨⟨tv, le0, tv⟩, ⟨tv, le0, tv⟩, tv⟩ (a0 := [.agg [ci64 y30.Length, cl 1 Ru64 y30.Words], .agg [ci64 y33.Length, cl 1 Ru64 y33.Words]]) (rl_ref09_Compare_con y30 y33 y53 e54) ⟨ArgLe.refl _, ArgLe.refl _, tv⟩ (fun _ => tv), hf c55] (by kernel_rfl) ?_
           exact jl false h (conv_re [] (by kernel_rfl))
         ·
          refine AW.rg tt_okL8 [(2, vb false)] [] [] 88 [hn, ht c48, hn, hn, ht c49, hn, hn, hn, ht c50, hn, hn, hn, ht c51, hn, hn, hn, hf c52] (by kernel_rfl) ?_
          exact jl false h (conv_re [] (by kernel_rfl))
        ·
         refine AW.rg tt_okL8 [(2, vb false)] [] [] 88 [hn, ht c48, hn, hn, ht c49, hn, hn, hn, ht c50, hn, hn, hn, hf c51] (by kernel_rfl) ?_
         exact jl false h (conv_re [] (by kernel_rfl))
       ·
        refine AW.rg tt_okL8 [(2, vb false)] [] [] 88 [hn, ht c48, hn, hn, ht c49, hn, hn, hn, hf c50] (by kernel_rfl) ?_
        exact jl false h (conv_re [] (by kernel_rfl))
      ·
       refine AW.rg tt_okL8 [(2, vb false)] [] [] 88 [hn, ht c48, hn, hn, hf c49] (by kernel_rfl) ?_
       exact jl false h (conv_re [] (by kernel_rfl))
     ·
      refine AW.rg tt_okL8 [(2, vb false)] [] [] 88 [hn, hf c48] (by kernel_rfl) ?_
      exact jl false h (conv_re [] (by kernel_rfl))
 ·
  obtain ⟨y59, e60, h⟩ := bnd_some h
  rcases ifs h with ⟨c61, h⟩ | ⟨c61, h⟩
  ·
   refine AW.rg tt_okL8 [(26, vb true)] [] [] 7 [hk (rl_law14_awake_con y59 e60), ht c61] (by kernel_rfl) ?_
   exact jl true h (conv_re [] (by kernel_rfl))
  ·
   obtain ⟨y62, e63, h⟩ := bnd_some h
   refine AW.rg tt_okL8 [(26, vb (!y62))] [] [] 6 [hk (rl_law14_awake_con y59 e60), hf c61, hn, hn, hk (rl_make_Few_con p0 y62 e63)] (by kernel_rfl) ?_
   exact jl (!y62) h (conv_re [] (by kernel_rfl))
end Go.Proofs.Ytfnojcalalncbaa
