/- Printed by a program of mine (vmgen.py): Go functions, and what they come to. -/
import Derived.Test.YtfnojcalalncbaaVr
import Derived.Test.YtfnojcalalncbaaRows
import Derived.Test.YtfnojcalalncbaaG0
namespace Go.Proofs.Ytfnojcalalncbaa
open Vm
open IntKind (i64 u64 u32 u8)
set_option maxHeartbeats 10000000
set_option linter.unusedVariables false
set_option linter.unusedSimpArgs false
set_option linter.constructorNameAsVariable false
def ttlL11 : List (Nat × TI) := [(3, ⟨.int .i64, 1, 8, [.int .i64 0], false⟩), (4, ⟨.bool, 1, 1, [.bool false], false⟩), (5, ⟨.int .u8, 1, 1, [.int .u8 0], false⟩), (9, ⟨.str, 1, 16, [.string ⟨#[]⟩], false⟩), (22, ⟨.slice 3, 1, 24, [.slice none 0 0], false⟩), (25, ⟨.ptr 66, 1, 8, [.pointer none], false⟩), (28, ⟨.struct [(3, 0), (3, 1), (3, 2)], 3, 24, [.int .i64 0, .int .i64 0, .int .i64 0], true⟩), (29, ⟨.slice 28, 1, 24, [.slice none 0 0], false⟩), (32, ⟨.int .i64, 1, 8, [.int .i64 0], false⟩), (43, ⟨.int .u64, 1, 8, [.int .u64 0], false⟩), (45, ⟨.struct [(43, 0), (43, 1)], 2, 16, [.int .u64 0, .int .u64 0], true⟩), (47, ⟨.slice 9, 1, 24, [.slice none 0 0], false⟩), (49, ⟨.slice 43, 1, 24, [.slice none 0 0], false⟩), (51, ⟨.struct [(3, 0), (49, 1)], 2, 32, [.int .i64 0, .slice none 0 0], false⟩), (66, ⟨.struct [(22, 0), (3, 1), (43, 2)], 3, 40, [.slice none 0 0, .int .i64 0, .int .u64 0], false⟩), (69, ⟨.int .u64, 1, 8, [.int .u64 0], false⟩), (84, ⟨.slice 5, 1, 24, [.slice none 0 0], false⟩), (87, ⟨.struct [(43, 0), (43, 1), (43, 2), (43, 3)], 4, 32, [.int .u64 0, .int .u64 0, .int .u64 0, .int .u64 0], true⟩)]
theorem tt_okL11 : TTok Try.prog (Vm.look ttlL11) := ttok_of ⟨⟨by kernel_rfl, by kernel_rfl, by kernel_rfl⟩, ⟨by kernel_rfl, by kernel_rfl, by kernel_rfl⟩, ⟨by kernel_rfl, by kernel_rfl, by kernel_rfl⟩, ⟨by kernel_rfl, by kernel_rfl, by kernel_rfl⟩, ⟨by kernel_rfl, by kernel_rfl, by kernel_rfl⟩, ⟨by kernel_rfl, by kernel_rfl, by kernel_rfl⟩, ⟨by kernel_rfl, by kernel_rfl, by kernel_rfl⟩, ⟨by kernel_rfl, by kernel_rfl, by kernel_rfl⟩, ⟨by kernel_rfl, by kernel_rfl, by kernel_rfl⟩, ⟨by kernel_rfl, by kernel_rfl, by kernel_rfl⟩, ⟨by kernel_rfl, by kernel_rfl, by kernel_rfl⟩, ⟨by kernel_rfl, by kernel_rfl, by kernel_rfl⟩, ⟨by kernel_rfl, by kernel_rfl, by kernel_rfl⟩, ⟨by kernel_rfl, by kernel_rfl, by kernel_rfl⟩, ⟨by kernel_rfl, by kernel_rfl, by kernel_rfl⟩, ⟨by kernel_rfl, by kernel_rfl, by kernel_rfl⟩, ⟨by kernel_rfl, by kernel_rfl, by kernel_rfl⟩, ⟨by kernel_rfl, by kernel_rfl, by kernel_rfl⟩, trivial⟩
theorem moL11 : Try.prog.follows .mixedOrders = true := by kernel_rfl
/-! recordlink/recordlinklaw14.BloomSteps -/
noncomputable def rl_law14_BloomSteps_k4 (x30 : Int) (x32 : Bool) : Option (Int ⊕ (Unit ⊕ Unit)) := if x32 = true then (some (.inr (.inr ()))) else (some (.inl (i64.wrap (x30 + 1))))
noncomputable def rl_law14_BloomSteps_l3 (y7 : List S_api_Parameters) (y20 : List Int) (y27 : Int) (x30 : Int) : Option (Int ⊕ (Unit ⊕ Unit)) := if (decide (x30 < (y20.length : Int))) = true then (if 0 ≤ x30 then (if x30 < (y20.length : Int) then (if (decide ((y20.getD (0 + x30.toNat) 0) < 0)) = true then (rl_law14_BloomSteps_k4 x30 true) else (if (decide ((y20.getD (0 + x30.toNat) 0) ≥ ((y7.getD (0 + 0) dS_api_Parameters).Length))) = true then (rl_law14_BloomSteps_k4 x30 true) else (if (decide (x30 > 0)) = true then (if 0 ≤ (i64.wrap (x30 - 1)) then (if (i64.wrap (x30 - 1)) < (y20.length : Int) then ((rl_make_Mod (i64.wrap ((y20.getD (0 + x30.toNat) 0) - (y20.getD (0 + (i64.wrap (x30 - 1)).toNat) 0))) ((y7.getD (0 + 0) dS_api_Parameters).Length)).bind fun y41 => (rl_law14_BloomSteps_k4 x30 (y41 != y27))) else none) else none) else (rl_law14_BloomSteps_k4 x30 false)))) else none) else none) else (some (.inr (.inl ())))
noncomputable def rl_law14_BloomSteps_a5 (y27 : Int) : Option Bool := some (y27 != 0)
noncomputable def rl_law14_BloomSteps_a6 : Option Bool := some false
noncomputable def rl_law14_BloomSteps_k2 (y7 : List S_api_Parameters) (y20 : List Int) (x23 : Bool) : Option Bool := if x23 = true then (some false) else (if (1 : Int) < (y20.length : Int) then (if (0 : Int) < (y20.length : Int) then ((rl_make_Mod (i64.wrap ((y20.getD (0 + 1) 0) - (y20.getD (0 + 0) 0))) ((y7.getD (0 + 0) dS_api_Parameters).Length)).bind fun y27 => (bindE (loop (fun v : Int => rl_law14_BloomSteps_l3 y7 y20 y27 v) 0) (fun t => rl_law14_BloomSteps_a5 y27) (fun t => rl_law14_BloomSteps_a6))) else none) else none)
noncomputable def rl_law14_BloomSteps_k1 (p0 : List Int) (x1 : Bool) : Option Bool := if x1 = true then ((rl_law14_awake).bind fun y3 => (some y3)) else ((rl_make_New p0).bind fun y5 => (bind2 (rl_make_Deck_Parameters y5 1) fun y7 y8 => (if (0 : Int) < (y7.length : Int) then (bind2 (rl_make_Deck_Key y8) fun y11 y12 => (bind2 (rl_make_Deck_Next y12 15) fun y14 y15 => (bind2 (rl_make_Deck_Pick y15 ([(ByteArray.mk #[97, 110]), (ByteArray.mk #[95, 97]), (ByteArray.mk #[]), (ByteArray.mk #[61, 56, 48, 48, 49])] : List ByteArray)) fun y17 y18 => (bind2 (bloom_Positions (⟨(y7.getD (0 + 0) dS_api_Parameters).Length, i64.wrap (2 + y14), (y7.getD (0 + 0) dS_api_Parameters).Salt⟩ : S_api_Parameters) y11 y17) fun y20 y21 => (if (y21 != 0) = true then (rl_law14_BloomSteps_k2 y7 y20 true) else (rl_law14_BloomSteps_k2 y7 y20 ((y20.length : Int) != (i64.wrap (2 + y14))))))))) else none)))
noncomputable def rl_law14_BloomSteps (p0 : List Int) : Option Bool := (rl_law14_awake).bind fun y45 => (if (!y45) = true then (rl_law14_BloomSteps_k1 p0 true) else ((rl_make_Few p0).bind fun y48 => (rl_law14_BloomSteps_k1 p0 (!y48))))
set_option maxRecDepth 100000 in
theorem rl_law14_BloomSteps_con (p0 : List Int) (r : Bool) (h : rl_law14_BloomSteps p0 = some r) : Con Try.prog 11 [vl 1 Ri64 p0] [] (vb r) [] := by
 refine con_of tt_okL11 0 Try.func11 (by kernel_rfl) rfl (by kernel_rfl) (fun base X _ => AW.post ?_)
 unfold rl_law14_BloomSteps at h
 refine AW.sg tt_okL11 [] [] [] 1 [] (by kernel_rfl) ?_
 refine AW.seq (AW.seq ?_)
 refine AW.join (ι := Bool) (fun v => ⟨[(0, vl 1 Ri64 p0), (16, vb v)], [], 0⟩) (fun v : Bool => rl_law14_BloomSteps_k1 p0 v = some r) (fun x1 h => ?_) ?_
 ·
  unfold rl_law14_BloomSteps_k1 at h
  refine AW.tn ?_
  refine AW.co h (by kernel_rfl) (fun c2 h => ?_) (fun c2 h => ?_)
  ·
   obtain ⟨y3, e4, h⟩ := bnd_some h
   refine AW.sg tt_okL11 [(2, vb y3)] [] [] 1 [hk (rl_law14_awake_con y3 e4)] (by kernel_rfl) ?_
   refine AW.ret (AW.tr ?_)
   obtain rfl := some_inj h
   exact fn0 (.inr rfl) [] 0 (vb y3) (by kernel_rfl)
  ·
   refine AW.skip (AW.tn ?_)
   obtain ⟨y5, e6, h⟩ := bnd_some h
   refine AW.sg tt_okL11 [(3, .c (.ptr 1 3 0 0))] [1] [(1, .box 66 [cl 1 Ri64 y5.list, ci64 y5.at_, cu64 y5.state])] 3 [hn, hl [] [] 1 (rl_make_New_con p0 y5 e6)] (by kernel_rfl) ?_
   obtain ⟨y7, y8, e9, h⟩ := bind2_some h
   obtain ⟨g10, h⟩ := ifc h
   obtain ⟨y11, y12, e13, h⟩ := bind2_some h
   refine AW.sd tt_okL11 moL11 [[], [1, 4], [], [], [], [1], [8], [9], [8], [9]] [(5, .c (.ptr 9 2 0 0)), (4, .c (.ptr 8 3 0 0))] [(9, .box 45 [cu64 y11.A, cu64 y11.B]), (8, .box 28 [ci64 ((y7.getD (0 + 0) dS_api_Parameters).Length), ci64 ((y7.getD (0 + 0) dS_api_Parameters).Hashes), ci64 ((y7.getD (0 + 0) dS_api_Parameters).Salt)]), (1, .box 66 [cl 1 Ri64 y12.list, ci64 y12.at_, cu64 y12.state])] 12 [hn, hl [1] [] 1 (rl_make_Deck_Parameters_con y5 1 (y7, y8) e9), ho (p := (0 ≤ (0 : Int)) ∧ ((0 : Int) < (y7.length : Int))) (⟨(by decide), g10⟩), ho (p := (0 + 0) < y7.length) (by have h1 : 0 ≤ (0 : Int) := (by decide); have h2 : (0 : Int) < (y7.length : Int) := g10; omega), hn, hl [1] [] 0 (rl_make_Deck_Key_con y8 (y11, y12) e13)] (by kernel_rfl) ?_
   obtain ⟨y14, y15, e16, h⟩ := bind2_some h
   refine AW.sg tt_okL11 [] [1, 8] [(8, .box 28 [ci64 ((y7.getD (0 + 0) dS_api_Parameters).Length), ci64 (i64.wrap (2 + y14)), ci64 ((y7.getD (0 + 0) dS_api_Parameters).Salt)]), (1, .box 66 [cl 1 Ri64 y15.list, ci64 y15.at_, cu64 y15.state])] 16 [hn, hl [1] [] 0 (rl_make_Deck_Next_con y12 15 (y14, y15) e16)] (by kernel_rfl) ?_
   obtain ⟨y17, y18, e19, h⟩ := bind2_some h
   obtain ⟨y20, y21, e22, h⟩ := bind2_some h
   refine AW.sd tt_okL11 moL11 [[], [], [], [19], [1, 19], [20]] [(7, vi64 y21), (6, .c (.ref 20 1 0 y20.length))] [(20, .row 3 false 1 y20.length (Ri64 y20))] 26 [hn, hn, hn, hlit ByteArray.empty Es 1 (fun _ => rfl) ([(ByteArray.mk #[97, 110]), (ByteArray.mk #[95, 97]), (ByteArray.mk #[]), (ByteArray.mk #[61, 56, 48, 48, 49])] : List ByteArray), hg [1] [19] false 0 (q := (True) ∧ (0 + ([(ByteArray.mk #[97, 110]), (ByteArray.mk #[95, 97]), (ByteArray.mk #[]), (ByteArray.mk #[61, 56, 48, 48, 49])] : List ByteArray).length ≤ ([(ByteArray.mk #[97, 110]), (ByteArray.mk #[95, 97]), (ByteArray.mk #[]), (ByteArray.mk #[61, 56, 48, 48, 49])] : List ByteArray).length) ∧ (True)) ⟨tv, le0, tv⟩ (a0 := [.c (.ptr 0 3 0 0), vl 1 Rs ([(ByteArray.mk #[97, 110]), (ByteArray.mk #[95, 97]), (ByteArray.mk #[]), (ByteArray.mk #[61, 56, 48, 48, 49])] : List ByteArray)]) (rl_make_Deck_Pick_con y15 ([(ByteArray.mk #[97, 110]), (ByteArray.mk #[95, 97]), (ByteArray.mk #[]), (ByteArray.mk #[61, 56, 48, 48, 49])] : List ByteArray) (y17, y18) e19) ⟨ArgLe.refl _, ArgLe.refl _, tv⟩ (fun h => by cases h), hm [] [] 1 (bloom_Positions_con (⟨(y7.getD (0 + 0) dS_api_Parameters).Length, i64.wrap (2 + y14), (y7.getD (0 + 0) dS_api_Parameters).Salt⟩ : S_api_Parameters) y11 y17 (y20, y21) e22) ⟨rowL_flat Vi64 _ _ _, tv⟩] (by kernel_rfl) ?_
   refine AW.seq (AW.seq ?_)
   refine AW.join (ι := Bool) (fun v => ⟨[(4, .c (.ptr 0 3 0 0)), (6, .c (.ref 1 1 0 y20.length)), (47, vb v)], [(0, .box 28 [ci64 ((y7.getD (0 + 0) dS_api_Parameters).Length), ci64 (i64.wrap (2 + y14)), ci64 ((y7.getD (0 + 0) dS_api_Parameters).Salt)]), (1, .row 3 false 1 y20.length (Ri64 y20))], 2⟩) (fun v : Bool => rl_law14_BloomSteps_k2 y7 y20 v = some r) (fun x23 h => ?_) ?_
   ·
    unfold rl_law14_BloomSteps_k2 at h
    refine AW.tn ?_
    refine AW.co h (by kernel_rfl) (fun c24 h => ?_) (fun c24 h => ?_)
    ·
     refine AW.sg tt_okL11 [(2, vb false)] [] [] 3 [] (by kernel_rfl) ?_
     refine AW.ret (AW.tr ?_)
     obtain rfl := some_inj h
     exact fn0 (.inr rfl) [] 0 (vb false) (by kernel_rfl)
    ·
     refine AW.skip (AW.tn ?_)
     obtain ⟨g25, g26, h⟩ := ifd h
     obtain ⟨y27, e28, h⟩ := bnd_some h
     refine AW.sd tt_okL11 moL11 [] [(8, vi64 y27)] [] 12 [hn, ho (p := (0 ≤ (1 : Int)) ∧ ((1 : Int) < (y20.length : Int))) (⟨(by decide), g25⟩), ho (p := (0 + 1) < y20.length) (by have h1 : 0 ≤ (1 : Int) := (by decide); have h2 : (1 : Int) < (y20.length : Int) := g25; omega), hn, ho (p := (0 ≤ (0 : Int)) ∧ ((0 : Int) < (y20.length : Int))) (⟨(by decide), g26⟩), ho (p := (0 + 0) < y20.length) (by have h1 : 0 ≤ (0 : Int) := (by decide); have h2 : (0 : Int) < (y20.length : Int) := g26; omega), hn, hn, hn, hk (rl_make_Mod_con (i64.wrap ((y20.getD (0 + 1) 0) - (y20.getD (0 + 0) 0))) ((y7.getD (0 + 0) dS_api_Parameters).Length) y27 e28)] (by kernel_rfl) ?_
     refine AW.seq ?_
     refine AW.sg tt_okL11 [(60, vi64 0), (59, vi64 (y20.length : Int))] [] [] 15 [] (by kernel_rfl) ?_
     refine AW.block ?_
     refine AW.lpE h (fun v => ⟨[(4, .c (.ptr 0 3 0 0)), (6, .c (.ref 1 1 0 y20.length)), (8, vi64 y27), (59, vi64 (y20.length : Int)), (60, vi64 v)], [(0, .box 28 [ci64 ((y7.getD (0 + 0) dS_api_Parameters).Length), ci64 (i64.wrap (2 + y14)), ci64 ((y7.getD (0 + 0) dS_api_Parameters).Salt)]), (1, .row 3 false 1 y20.length (Ri64 y20))], 2⟩) (fun t => (.exit 0, ⟨[(8, vi64 y27)], [], 0⟩)) (fun t => (.ret, ⟨[(2, vb false)], [], 0⟩)) (conv_re [(0, 0), (1, 1)] (by kernel_rfl)) (fun _ => tv) (fun _ => tv) ?_ (fun t h => ?_) (fun t h => ?_)
     ·
      clear h
      intro x30 o h
      unfold rl_law14_BloomSteps_l3 at h
      refine AW.sg tt_okL11 [(61, vb (decide (x30 < (y20.length : Int))))] [] [] 3 [] (by kernel_rfl) ?_
      refine AW.seq ?_
      refine AW.co h (by kernel_rfl) (fun c31 h => ?_) (fun c31 h => ?_)
      ·
       refine AW.skip (AW.tn ?_)
       refine AW.seq (AW.block ?_)
       refine AW.sg tt_okL11 [(9, vi64 x30)] [] [] 5 [] (by kernel_rfl) ?_
       refine AW.seq ?_
       refine AW.join (ι := Bool) (fun v => ⟨[(4, .c (.ptr 0 3 0 0)), (6, .c (.ref 1 1 0 y20.length)), (8, vi64 y27), (59, vi64 (y20.length : Int)), (60, vi64 x30), (97, vb v)], [(0, .box 28 [ci64 ((y7.getD (0 + 0) dS_api_Parameters).Length), ci64 (i64.wrap (2 + y14)), ci64 ((y7.getD (0 + 0) dS_api_Parameters).Salt)]), (1, .row 3 false 1 y20.length (Ri64 y20))], 2⟩) (fun v : Bool => rl_law14_BloomSteps_k4 x30 v = some o) (fun x32 h => ?_) ?_
       ·
        unfold rl_law14_BloomSteps_k4 at h
        refine AW.tn ?_
        refine AW.co h (by kernel_rfl) (fun c33 h => ?_) (fun c33 h => ?_)
        ·
         refine AW.sg tt_okL11 [(2, vb false)] [] [] 3 [] (by kernel_rfl) ?_
         refine AW.ret (AW.inBlock_ret (AW.tr ?_))
         exact lpo h rfl (conv_re [] (by kernel_rfl))
        ·
         refine AW.skip (AW.inBlock_normal (AW.tn ?_))
         refine AW.rg tt_okL11 [(60, vi64 (i64.wrap (x30 + 1)))] [] [] 4 [] (by kernel_rfl) ?_
         exact lpn h (conv_re [(0, 0), (1, 1)] (by kernel_rfl))
       ·
        obtain ⟨g34, g35, h⟩ := ifd h
        rcases ifs h with ⟨c36, h⟩ | ⟨c36, h⟩
        ·
         refine AW.rd tt_okL11 moL11 [] [(97, vb true)] [] 40 [hn, hn, hq g34 g35, ho (p := (0 + x30.toNat) < y20.length) (by have h1 : 0 ≤ x30 := g34; have h2 : x30 < (y20.length : Int) := g35; omega), ht c36] (by kernel_rfl) ?_
         exact jl true h (conv_re [(0, 0), (1, 1)] (by kernel_rfl))
        ·
         rcases ifs h with ⟨c37, h⟩ | ⟨c37, h⟩
         ·
          refine AW.rd tt_okL11 moL11 [] [(97, vb true)] [] 40 [hn, hn, hq g34 g35, ho (p := (0 + x30.toNat) < y20.length) (by have h1 : 0 ≤ x30 := g34; have h2 : x30 < (y20.length : Int) := g35; omega), hf c36, hn, hn, hn, hq g34 g35, ho (p := (0 + x30.toNat) < y20.length) (by have h1 : 0 ≤ x30 := g34; have h2 : x30 < (y20.length : Int) := g35; omega), hn, hn, ht c37] (by kernel_rfl) ?_
          exact jl true h (conv_re [(0, 0), (1, 1)] (by kernel_rfl))
         ·
          rcases ifs h with ⟨c38, h⟩ | ⟨c38, h⟩
          ·
           obtain ⟨g39, g40, h⟩ := ifd h
           obtain ⟨y41, e42, h⟩ := bnd_some h
           refine AW.rd tt_okL11 moL11 [] [(97, vb (y41 != y27))] [] 39 [hn, hn, hq g34 g35, ho (p := (0 + x30.toNat) < y20.length) (by have h1 : 0 ≤ x30 := g34; have h2 : x30 < (y20.length : Int) := g35; omega), hf c36, hn, hn, hn, hq g34 g35, ho (p := (0 + x30.toNat) < y20.length) (by have h1 : 0 ≤ x30 := g34; have h2 : x30 < (y20.length : Int) := g35; omega), hn, hn, hf c37, hn, hn, hn, ht c38, hn, hn, hn, hq g34 g35, ho (p := (0 + x30.toNat) < y20.length) (by have h1 : 0 ≤ x30 := g34; have h2 : x30 < (y20.length : Int) := g35; omega), hn, hn, hn, hq g39 g40, ho (p := (0 + (i64.wrap (x30 - 1)).toNat) < y20.length) (by have h1 : 0 ≤ (i64.wrap (x30 - 1)) := g39; have h2 : (i64.wrap (x30 - 1)) < (y20.length : Int) := g40; omega), hn, hn, hn, hk (rl_make_Mod_con (i64.wrap ((y20.getD (0 + x30.toNat) 0) - (y20.getD (0 + (i64.wrap (x30 - 1)).toNat) 0))) ((y7.getD (0 + 0) dS_api_Parameters).Length) y41 e42)] (by kernel_rfl) ?_
           exact jl (y41 != y27) h (conv_re [(0, 0), (1, 1)] (by kernel_rfl))
          ·
           refine AW.rd tt_okL11 moL11 [] [(97, vb false)] [] 40 [hn, hn, hq g34 g35, ho (p := (0 + x30.toNat) < y20.length) (by have h1 : 0 ≤ x30 := g34; have h2 : x30 < (y20.length : Int) := g35; omega), hf c36, hn, hn, hn, hq g34 g35, ho (p := (0 + x30.toNat) < y20.length) (by have h1 : 0 ≤ x30 := g34; have h2 : x30 < (y20.length : Int) := g35; omega), hn, hn, hf c37, hn, hn, hn, hf c38] (by kernel_rfl) ?_
           exact jl false h (conv_re [(0, 0), (1, 1)] (by kernel_rfl))
      ·
       refine AW.exit (AW.thenQ_exit ?_)
       exact lpo h rfl (conv_re [] (by kernel_rfl))
     ·
      replace h : rl_law14_BloomSteps_a5 y27 = some r := h
      unfold rl_law14_BloomSteps_a5 at h
      show (_ : Exit → St → Prop) (.exit 0) _
      refine AW.inBlock_hit (AW.tn ?_)
      refine AW.sg tt_okL11 [(2, vb (y27 != 0))] [] [] 3 [] (by kernel_rfl) ?_
      refine AW.ret ?_
      obtain rfl := some_inj h
      exact fn0 (.inr rfl) [] 0 (vb (y27 != 0)) (by kernel_rfl)
     ·
      replace h : rl_law14_BloomSteps_a6 = some r := h
      unfold rl_law14_BloomSteps_a6 at h
      show (_ : Exit → St → Prop) (.ret) _
      refine AW.inBlock_ret (AW.tr ?_)
      obtain rfl := some_inj h
      exact fn0 (.inr rfl) [] 0 (vb false) (by kernel_rfl)
   ·
    rcases ifs h with ⟨c44, h⟩ | ⟨c44, h⟩
    ·
     refine AW.rg tt_okL11 [(47, vb true)] [] [] 35 [hn, ht c44] (by kernel_rfl) ?_
     exact jl true h (conv_re [(0, 8), (1, 20)] (by kernel_rfl))
    ·
     refine AW.rg tt_okL11 [(47, vb ((y20.length : Int) != (i64.wrap (2 + y14))))] [] [] 35 [hn, hf c44] (by kernel_rfl) ?_
     exact jl ((y20.length : Int) != (i64.wrap (2 + y14))) h (conv_re [(0, 8), (1, 20)] (by kernel_rfl))
 ·
  obtain ⟨y45, e46, h⟩ := bnd_some h
  rcases ifs h with ⟨c47, h⟩ | ⟨c47, h⟩
  ·
   refine AW.rg tt_okL11 [(16, vb true)] [] [] 7 [hk (rl_law14_awake_con y45 e46), ht c47] (by kernel_rfl) ?_
   exact jl true h (conv_re [] (by kernel_rfl))
  ·
   obtain ⟨y48, e49, h⟩ := bnd_some h
   refine AW.rg tt_okL11 [(16, vb (!y48))] [] [] 6 [hk (rl_law14_awake_con y45 e46), hf c47, hn, hn, hk (rl_make_Few_con p0 y48 e49)] (by kernel_rfl) ?_
   exact jl (!y48) h (conv_re [] (by kernel_rfl))
end Go.Proofs.Ytfnojcalalncbaa
