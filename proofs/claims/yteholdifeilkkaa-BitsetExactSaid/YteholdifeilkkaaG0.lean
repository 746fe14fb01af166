/- Printed by a program of mine (vmgen.py): Go functions, and what they come to. -/
import Derived.Test.YteholdifeilkkaaVr
import Derived.Test.YteholdifeilkkaaRows
namespace Go.Proofs.Yteholdifeilkkaa
open Vm
open IntKind (i64 u64 u32 u8)
set_option maxHeartbeats 10000000
set_option linter.unusedVariables false
set_option linter.unusedSimpArgs false
set_option linter.constructorNameAsVariable false
def ttl0 : List (Nat × TI) := [(3, ⟨.int .i64, 1, 8, [.int .i64 0], false⟩), (4, ⟨.bool, 1, 1, [.bool false], false⟩), (5, ⟨.int .u8, 1, 1, [.int .u8 0], false⟩), (9, ⟨.str, 1, 16, [.string ⟨#[]⟩], false⟩), (22, ⟨.slice 3, 1, 24, [.slice none 0 0], false⟩), (25, ⟨.ptr 66, 1, 8, [.pointer none], false⟩), (27, ⟨.slice 33, 1, 24, [.slice none 0 0], false⟩), (29, ⟨.struct [(3, 0), (27, 1)], 2, 32, [.int .i64 0, .slice none 0 0], false⟩), (33, ⟨.int .u64, 1, 8, [.int .u64 0], false⟩), (35, ⟨.int .i64, 1, 8, [.int .i64 0], false⟩), (41, ⟨.slice 29, 1, 24, [.slice none 0 0], false⟩), (63, ⟨.slice 9, 1, 24, [.slice none 0 0], false⟩), (66, ⟨.struct [(22, 0), (3, 1), (33, 2)], 3, 40, [.slice none 0 0, .int .i64 0, .int .u64 0], false⟩), (74, ⟨.slice 5, 1, 24, [.slice none 0 0], false⟩)]
theorem tt_ok0 : TTok Try.prog (Vm.look ttl0) := ttok_of ⟨⟨by kernel_rfl, by kernel_rfl, by kernel_rfl⟩, ⟨by kernel_rfl, by kernel_rfl, by kernel_rfl⟩, ⟨by kernel_rfl, by kernel_rfl, by kernel_rfl⟩, ⟨by kernel_rfl, by kernel_rfl, by kernel_rfl⟩, ⟨by kernel_rfl, by kernel_rfl, by kernel_rfl⟩, ⟨by kernel_rfl, by kernel_rfl, by kernel_rfl⟩, ⟨by kernel_rfl, by kernel_rfl, by kernel_rfl⟩, ⟨by kernel_rfl, by kernel_rfl, by kernel_rfl⟩, ⟨by kernel_rfl, by kernel_rfl, by kernel_rfl⟩, ⟨by kernel_rfl, by kernel_rfl, by kernel_rfl⟩, ⟨by kernel_rfl, by kernel_rfl, by kernel_rfl⟩, ⟨by kernel_rfl, by kernel_rfl, by kernel_rfl⟩, ⟨by kernel_rfl, by kernel_rfl, by kernel_rfl⟩, ⟨by kernel_rfl, by kernel_rfl, by kernel_rfl⟩, trivial⟩
theorem mo0 : Try.prog.follows .mixedOrders = true := by kernel_rfl
structure S_api_Bits where
 Length : Int
 Words : List Int
def dS_api_Bits : S_api_Bits := ⟨0, ([] : List Int)⟩
instance : Inhabited S_api_Bits := ⟨dS_api_Bits⟩
def Eu64 (x : Int) : List T := [.v (.int .u64 x)]
def Ru64 (xs : List Int) : Nat → Nat → T := rowL 0 Eu64 xs
theorem Vu64 : ∀ x, allV (Eu64 x) := fun _ => ⟨tv, tv⟩
/-! recordlink/bitset.right -/
noncomputable def bitset_right_k1 (x1 : Bool) : Option Bool := some x1
noncomputable def bitset_right (p0 : Int) : Option Bool := if (decide (p0 ≥ 64)) = true then (if (decide (p0 ≤ 512)) = true then (bitset_right_k1 ((p0.tmod 64) == 0)) else (bitset_right_k1 false)) else (bitset_right_k1 false)
set_option maxRecDepth 100000 in
theorem bitset_right_con (p0 : Int) (r : Bool) (h : bitset_right p0 = some r) : Con Try.prog 66 [vi64 p0] [] (vb r) [] := by
 refine con_of tt_ok0 0 Try.func66 (by kernel_rfl) rfl (by kernel_rfl) (fun base X _ => AW.post ?_)
 unfold bitset_right at h
 refine AW.sg tt_ok0 [] [] [] 1 [] (by kernel_rfl) ?_
 refine AW.seq ?_
 refine AW.join (ι := Bool) (fun v => ⟨[(2, vb v)], [], 0⟩) (fun v : Bool => bitset_right_k1 v = some r) (fun x1 h => ?_) ?_
 ·
  unfold bitset_right_k1 at h
  refine AW.tn (AW.ret ?_)
  obtain rfl := some_inj h
  exact fn0 (.inr rfl) [] 0 (vb x1) (by kernel_rfl)
 ·
  rcases ifs h with ⟨c2, h⟩ | ⟨c2, h⟩
  ·
   rcases ifs h with ⟨c3, h⟩ | ⟨c3, h⟩
   ·
    refine AW.rg tt_ok0 [(2, vb ((p0.tmod 64) == 0))] [] [] 13 [hn, ht c2, hn, hn, ht c3, hn, hn, hn, ho (p := (64 : Int) ≠ 0) (by decide)] (by kernel_rfl) ?_
    exact jl ((p0.tmod 64) == 0) h (conv_re [] (by kernel_rfl))
   ·
    refine AW.rg tt_ok0 [(2, vb false)] [] [] 13 [hn, ht c2, hn, hn, hf c3] (by kernel_rfl) ?_
    exact jl false h (conv_re [] (by kernel_rfl))
  ·
   refine AW.rg tt_ok0 [(2, vb false)] [] [] 13 [hn, hf c2] (by kernel_rfl) ?_
   exact jl false h (conv_re [] (by kernel_rfl))
/-! recordlink/bitset.New -/
noncomputable def bitset_New (p0 : Int) : Option (S_api_Bits × Int) := (bitset_right p0).bind fun y1 => (if (!y1) = true then (some ((⟨0, ([] : List Int)⟩ : S_api_Bits), 2)) else (if 0 ≤ (i64.wrap (p0.tdiv 64)) then (if (i64.wrap (p0.tdiv 64)) ≤ 1099511627776 then (some ((⟨p0, (List.replicate ((i64.wrap (p0.tdiv 64)).toNat) (0 : Int))⟩ : S_api_Bits), 0)) else none) else none))
set_option maxRecDepth 100000 in
theorem bitset_New_con (p0 : Int) (r : S_api_Bits × Int) (h : bitset_New p0 = some r) : Con Try.prog 39 [vi64 p0] [] (.tup [.agg [ci64 r.1.Length, .ref 0 1 0 r.1.Words.length], vi64 r.2]) [(0, .row 33 false 1 r.1.Words.length (Ru64 r.1.Words))] := by
 refine con_of tt_ok0 0 Try.func39 (by kernel_rfl) rfl (by kernel_rfl) (fun base X _ => AW.post ?_)
 unfold bitset_New at h
 refine AW.sg tt_ok0 [(2, .c (.ptr 0 2 0 0))] [0] [(0, .box 29 [ci64 0, .t (.v (.slice none 0 0))])] 2 [] (by kernel_rfl) ?_
 refine AW.seq ?_
 obtain ⟨y1, e2, h⟩ := bnd_some h
 refine AW.sg tt_ok0 [(6, vb (!y1))] [] [] 4 [hn, hk (bitset_right_con p0 y1 e2)] (by kernel_rfl) ?_
 refine AW.co h (by kernel_rfl) (fun c3 h => ?_) (fun c3 h => ?_)
 ·
  refine AW.sg tt_ok0 [(3, vi64 2)] [0] [(0, .box 29 [ci64 0, .t (.v (.slice none 0 0))])] 7 [] (by kernel_rfl) ?_
  refine AW.ret (AW.tr ?_)
  obtain rfl := some_inj h
  exact fnR (.inr rfl) [(0, 7)] 1 (.tup [.agg [ci64 0, .ref 7 1 0 (([] : List Int).length)], vi64 2]) (conv_adoptB (id := 0) (ty0 := 29) (cs := [ci64 0, .t (.v (.slice none 0 0))]) 1 (ty := 33) (sz := 1) (n := ([] : List Int).length) (f := Ru64 ([] : List Int)) (by kernel_rfl) (by kernel_rfl) rfl) (by kernel_rfl)
 ·
  refine AW.skip (AW.tn ?_)
  obtain ⟨g4, g5, h⟩ := ifd h
  refine AW.sg tt_ok0 [(3, vi64 0)] [0, 7] [(0, .box 29 [ci64 p0, .ref 7 1 0 ((List.replicate ((i64.wrap (p0.tdiv 64)).toNat) (0 : Int)).length)]), (7, .row 33 false 1 (List.replicate ((i64.wrap (p0.tdiv 64)).toNat) (0 : Int)).length (Ru64 (List.replicate ((i64.wrap (p0.tdiv 64)).toNat) (0 : Int))))] 11 [hn, hn, ho (p := (64 : Int) ≠ 0) (by decide), hmk 0 Eu64 1 8 [.int .u64 0] rfl rfl (i64.wrap (p0.tdiv 64)) (i64.wrap (p0.tdiv 64)) g4 (Int.le_refl _) g5 (by decide)] (by kernel_rfl) ?_
  refine AW.ret ?_
  obtain rfl := some_inj h
  exact fn0 (.inr rfl) [(0, 7)] 1 (.tup [.agg [ci64 p0, .ref 7 1 0 ((List.replicate ((i64.wrap (p0.tdiv 64)).toNat) (0 : Int)).length)], vi64 0]) (by kernel_rfl)
/-! recordlink/bitset.Valid -/
noncomputable def bitset_Valid_k1 (x1 : Bool) : Option Bool := some x1
noncomputable def bitset_Valid (p0 : S_api_Bits) : Option Bool := (bitset_right p0.Length).bind fun y2 => (if y2 = true then (bitset_Valid_k1 (((p0.Words.length : Nat) : Int) == (i64.wrap (p0.Length.tdiv 64)))) else (bitset_Valid_k1 false))
set_option maxRecDepth 100000 in
theorem bitset_Valid_con (p0 : S_api_Bits) (r : Bool) (h : bitset_Valid p0 = some r) : Con Try.prog 49 [.agg [ci64 p0.Length, cl 1 Ru64 p0.Words]] [] (vb r) [] := by
 refine con_of tt_ok0 0 Try.func49 (by kernel_rfl) rfl (by kernel_rfl) (fun base X _ => AW.post ?_)
 unfold bitset_Valid at h
 refine AW.sg tt_ok0 [(1, .c (.ptr 0 2 0 0))] [0] [(0, .box 29 [ci64 p0.Length, cl 1 Ru64 p0.Words])] 2 [] (by kernel_rfl) ?_
 refine AW.seq ?_
 refine AW.join (ι := Bool) (fun v => ⟨[(2, vb v)], [], 0⟩) (fun v : Bool => bitset_Valid_k1 v = some r) (fun x1 h => ?_) ?_
 ·
  unfold bitset_Valid_k1 at h
  refine AW.tn (AW.ret ?_)
  obtain rfl := some_inj h
  exact fn0 (.inr rfl) [] 0 (vb x1) (by kernel_rfl)
 ·
  obtain ⟨y2, e3, h⟩ := bnd_some h
  rcases ifs h with ⟨c4, hs⟩ | ⟨c4, hs⟩
  ·clear h; subst c4; have h := hs; clear hs
   refine AW.rg tt_ok0 [(2, vb (((p0.Words.length : Nat) : Int) == (i64.wrap (p0.Length.tdiv 64))))] [] [] 14 [hn, hn, hk (bitset_right_con p0.Length true e3), hn, hn, hn, hn, hn, hn, ho (p := (64 : Int) ≠ 0) (by decide)] (by kernel_rfl) ?_
   exact jl (((p0.Words.length : Nat) : Int) == (i64.wrap (p0.Length.tdiv 64))) h (conv_re [] (by kernel_rfl))
  ·clear h; subst c4; have h := hs; clear hs
   refine AW.rg tt_ok0 [(2, vb false)] [] [] 14 [hn, hn, hk (bitset_right_con p0.Length false e3)] (by kernel_rfl) ?_
   exact jl false h (conv_re [] (by kernel_rfl))
/-! slices.Clone[[]uint64,uint64] -/
noncomputable def slices_Clone_uint64 (p0 : List Int) : Option (List Int) := orBoth (p0.length = 0) (some ([] : List Int)) (if ([] : List Int).length + p0.length ≤ 1099511627776 then (some (([] : List Int) ++ p0)) else none)
set_option maxRecDepth 100000 in
theorem slices_Clone_uint64_con (p0 : List Int) (r : List Int) (h : slices_Clone_uint64 p0 = some r) : Con Try.prog 54 [vl 1 Ru64 p0] [] (.c (.ref 0 1 0 r.length)) [(0, .row 33 false 1 r.length (Ru64 r))] := by
 refine con_of tt_ok0 0 Try.func54 (by kernel_rfl) rfl (by kernel_rfl) (fun base X _ => AW.post ?_)
 unfold slices_Clone_uint64 at h
 refine AW.sg tt_ok0 [] [] [] 1 [] (by kernel_rfl) ?_
 refine AW.seq ?_
 refine AW.sg tt_ok0 [(4, .c (.t (.tst (p0.length = 0))))] [] [] 3 [hn, ho (p := (1 : Nat) ≠ 0) (by decide)] (by kernel_rfl) ?_
 refine AW.cond_tst (p := p0.length = 0) (by kernel_rfl) (fun c1 => ?_) ?_
 ·replace h := (orBoth_some h).1 c1
  refine AW.sg tt_ok0 [(2, .c (.t (.v (.slice none 0 0))))] [] [] 4 [] (by kernel_rfl) ?_
  refine AW.ret (AW.tr ?_)
  obtain rfl := some_inj h
  exact fnR (.inr rfl) [(0, 4)] 1 (.c (.ref 4 1 0 (([] : List Int).length))) (conv_adopt (t := 2) (ty := 33) (sz := 1) (n := ([] : List Int).length) (f := Ru64 ([] : List Int)) (by kernel_rfl) rfl) (by kernel_rfl)
 ·replace h := (orBoth_some h).2
  refine AW.skip (AW.tn ?_)
  obtain ⟨g2, h⟩ := ifc h
  refine AW.sg tt_ok0 [(2, .c (.ref 5 1 0 ((([] : List Int) ++ p0).length)))] [3, 5] [(5, .row 33 false 1 (([] : List Int) ++ p0).length (Ru64 (([] : List Int) ++ p0)))] 7 [hlit 0 Eu64 1 (fun _ => rfl) ([] : List Int), hn, hr ((([] : List Int) ++ p0).length) (Ru64 (([] : List Int) ++ p0)) (p := (([] : List Int).length = ([] : List Int).length) ∧ (True) ∧ ((([] : List Int).length + p0.length ≤ 1099511627776) ∧ ((8 : Nat) ≤ 128)) ∧ (([] : List Int).length + p0.length = (([] : List Int) ++ p0).length ∧ ∀ i, i < (([] : List Int) ++ p0).length → ∀ j, j < 1 → TLe ((appRow (([] : List Int).length) (Ru64 ([] : List Int)) (Ru64 p0)) i j) (Ru64 (([] : List Int) ++ p0) i j))) (⟨rfl, tv, ⟨g2, (by decide)⟩, rowT (app_row rfl rfl row_rfl row_rfl)⟩)] (by kernel_rfl) ?_
  refine AW.ret ?_
  obtain rfl := some_inj h
  exact fn0 (.inr rfl) [(0, 5)] 1 (.c (.ref 5 1 0 ((([] : List Int) ++ p0).length))) (by kernel_rfl)
/-! recordlink/bitset.Set -/
noncomputable def bitset_Set_k1 (p0 : S_api_Bits) (p1 : Int) (x4 : Bool) : Option (S_api_Bits × Int) := if x4 = true then (some ((⟨0, ([] : List Int)⟩ : S_api_Bits), 2)) else ((slices_Clone_uint64 p0.Words).bind fun y6 => (if 0 ≤ (i64.wrap (p1.tdiv 64)) then (if (i64.wrap (p1.tdiv 64)) < (y6.length : Int) then (if 0 ≤ (p1.tmod 64) then (some ((⟨p0.Length, (y6.set (0 + (i64.wrap (p1.tdiv 64)).toNat) (ior .u64 (y6.getD (0 + (i64.wrap (p1.tdiv 64)).toNat) 0) (ishl .u64 1 (p1.tmod 64))))⟩ : S_api_Bits), 0)) else none) else none) else none))
noncomputable def bitset_Set (p0 : S_api_Bits) (p1 : Int) : Option (S_api_Bits × Int) := (bitset_Valid p0).bind fun y1 => (if (!y1) = true then (some ((⟨0, ([] : List Int)⟩ : S_api_Bits), 8)) else (if (decide (p1 < 0)) = true then (bitset_Set_k1 p0 p1 true) else (bitset_Set_k1 p0 p1 (decide (p1 ≥ p0.Length)))))
set_option maxRecDepth 100000 in
theorem bitset_Set_con (p0 : S_api_Bits) (p1 : Int) (r : S_api_Bits × Int) (h : bitset_Set p0 p1 = some r) : Con Try.prog 19 [.agg [ci64 p0.Length, cl 1 Ru64 p0.Words], vi64 p1] [] (.tup [.agg [ci64 r.1.Length, .ref 0 1 0 r.1.Words.length], vi64 r.2]) [(0, .row 33 false 1 r.1.Words.length (Ru64 r.1.Words))] := by
 refine con_of tt_ok0 0 Try.func19 (by kernel_rfl) rfl (by kernel_rfl) (fun base X _ => AW.post ?_)
 unfold bitset_Set at h
 refine AW.sg tt_ok0 [(4, .c (.ptr 1 2 0 0)), (2, .c (.ptr 0 2 0 0))] [0, 1] [(1, .box 29 [ci64 0, .t (.v (.slice none 0 0))]), (0, .box 29 [ci64 p0.Length, cl 1 Ru64 p0.Words])] 3 [] (by kernel_rfl) ?_
 refine AW.seq (AW.block ?_)
 obtain ⟨y1, e2, h⟩ := bnd_some h
 refine AW.sg tt_ok0 [(6, vb (!y1))] [] [] 6 [hn, hk (bitset_Valid_con p0 y1 e2)] (by kernel_rfl) ?_
 refine AW.co h (by kernel_rfl) (fun c3 h => ?_) (fun c3 h => ?_)
 ·
  refine AW.sg tt_ok0 [(5, vi64 8)] [1] [(1, .box 29 [ci64 0, .t (.v (.slice none 0 0))])] 9 [] (by kernel_rfl) ?_
  refine AW.ret (AW.inBlock_ret (AW.tr ?_))
  obtain rfl := some_inj h
  exact fnR (.inr rfl) [(0, 9)] 1 (.tup [.agg [ci64 0, .ref 9 1 0 (([] : List Int).length)], vi64 8]) (conv_adoptB (id := 1) (ty0 := 29) (cs := [ci64 0, .t (.v (.slice none 0 0))]) 1 (ty := 33) (sz := 1) (n := ([] : List Int).length) (f := Ru64 ([] : List Int)) (by kernel_rfl) (by kernel_rfl) rfl) (by kernel_rfl)
 ·
  refine AW.seq ?_
  refine AW.join (ι := Bool) (fun v => ⟨[(1, vi64 p1), (2, .c (.ptr 0 2 0 0)), (4, .c (.ptr 1 2 0 0)), (11, vb v)], [(0, .box 29 [ci64 p0.Length, cl 1 Ru64 p0.Words]), (1, .box 29 [ci64 0, .t (.v (.slice none 0 0))])], 2⟩) (fun v : Bool => bitset_Set_k1 p0 p1 v = some r) (fun x4 h => ?_) ?_
  ·
   unfold bitset_Set_k1 at h
   refine AW.tn ?_
   refine AW.co h (by kernel_rfl) (fun c5 h => ?_) (fun c5 h => ?_)
   ·
    refine AW.sg tt_ok0 [(5, vi64 2)] [1] [(1, .box 29 [ci64 0, .t (.v (.slice none 0 0))])] 5 [] (by kernel_rfl) ?_
    refine AW.ret (AW.inBlock_ret (AW.tr ?_))
    obtain rfl := some_inj h
    exact fnR (.inr rfl) [(0, 5)] 1 (.tup [.agg [ci64 0, .ref 5 1 0 (([] : List Int).length)], vi64 2]) (conv_adoptB (id := 1) (ty0 := 29) (cs := [ci64 0, .t (.v (.slice none 0 0))]) 1 (ty := 33) (sz := 1) (n := ([] : List Int).length) (f := Ru64 ([] : List Int)) (by kernel_rfl) (by kernel_rfl) rfl) (by kernel_rfl)
   ·
    refine AW.skip (AW.inBlock_normal (AW.tn ?_))
    obtain ⟨y6, e7, h⟩ := bnd_some h
    refine AW.sg tt_ok0 [] [0, 4] [(0, .box 29 [ci64 p0.Length, .ref 4 1 0 y6.length]), (4, .row 33 false 1 y6.length (Ru64 y6))] 7 [hn, hn, hm [] [] 1 (slices_Clone_uint64_con p0.Words y6 e7) ⟨rowL_flat Vu64 _ _ _, tv⟩] (by kernel_rfl) ?_
    obtain ⟨g8, g9, h⟩ := ifd h
    obtain ⟨g10, h⟩ := ifc h
    refine AW.sd tt_ok0 mo0 [[], [], [], [], [], [], [], [], [], [], [], [4]] [] [(4, .row 33 false 1 y6.length (Ru64 (y6.set (0 + (i64.wrap (p1.tdiv 64)).toNat) (ior .u64 (y6.getD (0 + (i64.wrap (p1.tdiv 64)).toNat) 0) (ishl .u64 1 (p1.tmod 64))))))] 19 [hn, hn, hn, ho (p := (64 : Int) ≠ 0) (by decide), hq g8 g9, ho (p := (0 + (i64.wrap (p1.tdiv 64)).toNat) < y6.length) (by have h1 : 0 ≤ (i64.wrap (p1.tdiv 64)) := g8; have h2 : (i64.wrap (p1.tdiv 64)) < (y6.length : Int) := g9; omega), hn, ho (p := (64 : Int) ≠ 0) (by decide), ho g10, hn, hq g8 g9, hset 0 Eu64 y6 (0 + (i64.wrap (p1.tdiv 64)).toNat) (ior .u64 (y6.getD (0 + (i64.wrap (p1.tdiv 64)).toNat) 0) (ishl .u64 1 (p1.tmod 64))) (n := y6.length) (by have h1 : 0 ≤ (i64.wrap (p1.tdiv 64)) := g8; have h2 : (i64.wrap (p1.tdiv 64)) < (y6.length : Int) := g9; omega) rfl] (by kernel_rfl) ?_
    refine AW.sg tt_ok0 [(5, vi64 0)] [1] [(1, .box 29 [ci64 p0.Length, .ref 4 1 0 y6.length])] 22 [] (by kernel_rfl) ?_
    refine AW.ret ?_
    obtain rfl := some_inj h
    exact fnR (.inr rfl) [(0, 4)] 1 (.tup [.agg [ci64 p0.Length, .ref 4 1 0 ((y6.set (0 + (i64.wrap (p1.tdiv 64)).toNat) (ior .u64 (y6.getD (0 + (i64.wrap (p1.tdiv 64)).toNat) 0) (ishl .u64 1 (p1.tmod 64)))).length)], vi64 0]) (Conv.trans (conv_re (S' := ⟨[(5, vi64 0), (4, .c (.ptr 1 2 0 0))], [(1, .box 29 [ci64 p0.Length, .ref 4 1 0 y6.length]), (4, .row 33 false 1 y6.length (Ru64 (y6.set (0 + (i64.wrap (p1.tdiv 64)).toNat) (ior .u64 (y6.getD (0 + (i64.wrap (p1.tdiv 64)).toNat) 0) (ishl .u64 1 (p1.tmod 64))))))], 22⟩) [(1, 1), (4, 4)] (by kernel_rfl)) (conv_len (S' := ⟨[(5, vi64 0), (4, .c (.ptr 1 2 0 0))], [(1, .box 29 [ci64 p0.Length, .ref 4 1 0 ((y6.set (0 + (i64.wrap (p1.tdiv 64)).toNat) (ior .u64 (y6.getD (0 + (i64.wrap (p1.tdiv 64)).toNat) 0) (ishl .u64 1 (p1.tmod 64)))).length)]), (4, .row 33 false 1 (y6.set (0 + (i64.wrap (p1.tdiv 64)).toNat) (ior .u64 (y6.getD (0 + (i64.wrap (p1.tdiv 64)).toNat) 0) (ishl .u64 1 (p1.tmod 64)))).length (Ru64 (y6.set (0 + (i64.wrap (p1.tdiv 64)).toNat) (ior .u64 (y6.getD (0 + (i64.wrap (p1.tdiv 64)).toNat) 0) (ishl .u64 1 (p1.tmod 64))))))], 22⟩) (by simp only [List.length_set]))) (by kernel_rfl)
  ·
   rcases ifs h with ⟨c11, h⟩ | ⟨c11, h⟩
   ·
    refine AW.rg tt_ok0 [(11, vb true)] [] [] 15 [hn, ht c11] (by kernel_rfl) ?_
    exact jl true h (conv_re [(0, 0), (1, 1)] (by kernel_rfl))
   ·
    refine AW.rg tt_ok0 [(11, vb (decide (p1 ≥ p0.Length)))] [] [] 15 [hn, hf c11] (by kernel_rfl) ?_
    exact jl (decide (p1 ≥ p0.Length)) h (conv_re [(0, 0), (1, 1)] (by kernel_rfl))
def Eu8 (x : Int) : List T := [.v (.int .u8 x)]
def Ru8 (xs : List Int) : Nat → Nat → T := rowL 0 Eu8 xs
theorem Vu8 : ∀ x, allV (Eu8 x) := fun _ => ⟨tv, tv⟩
/-! recordlink/bitset.Hex -/
noncomputable def bitset_Hex_l2 (p0 : S_api_Bits) (x7 : Int) (x14 : List Int) (x15 : Int) : Option (((List Int) × Int) ⊕ (List Int)) := if (decide (x15 ≥ 0)) = true then (if 0 ≤ x15 then (if 0 ≤ (iand .u64 (ishr .u64 (p0.Words.getD x7.toNat 0) x15) 15) then (if (iand .u64 (ishr .u64 (p0.Words.getD x7.toNat 0) x15) 15) < (((ByteArray.mk #[48, 49, 50, 51, 52, 53, 54, 55, 56, 57, 97, 98, 99, 100, 101, 102]).size : Nat) : Int) then (if x14.length + ([(((ByteArray.mk #[48, 49, 50, 51, 52, 53, 54, 55, 56, 57, 97, 98, 99, 100, 101, 102]).data.toList.getD ((iand .u64 (ishr .u64 (p0.Words.getD x7.toNat 0) x15) 15).toNat) 0).toNat : Int)] : List Int).length ≤ 1099511627776 then (some (.inl ((x14 ++ ([(((ByteArray.mk #[48, 49, 50, 51, 52, 53, 54, 55, 56, 57, 97, 98, 99, 100, 101, 102]).data.toList.getD ((iand .u64 (ishr .u64 (p0.Words.getD x7.toNat 0) x15) 15).toNat) 0).toNat : Int)] : List Int)), i64.wrap (x15 - 4)))) else none) else none) else none) else none) else (some (.inr x14))
noncomputable def bitset_Hex_l1 (p0 : S_api_Bits) (x6 : List Int) (x7 : Int) : Option (((List Int) × Int) ⊕ (List Int)) := if (decide (x7 < ((p0.Words.length : Nat) : Int))) = true then (if 0 ≤ x7 then (if x7 < ((p0.Words.length : Nat) : Int) then ((loop (fun v : (List Int) × Int => bitset_Hex_l2 p0 x7 v.1 v.2) (x6, 60)).bind fun x22 => (some (.inl (x22, i64.wrap (x7 + 1))))) else none) else none) else (some (.inr x6))
noncomputable def bitset_Hex (p0 : S_api_Bits) : Option (ByteArray × Int) := (bitset_Valid p0).bind fun y1 => (if (!y1) = true then (some ((ByteArray.mk #[]), 8)) else ((loop (fun v : (List Int) × Int => bitset_Hex_l1 p0 v.1 v.2) (([] : List Int), 0)).bind fun x24 => (some ((strOf x24), 0))))
set_option maxRecDepth 100000 in
theorem bitset_Hex_con (p0 : S_api_Bits) (r : ByteArray × Int) (h : bitset_Hex p0 = some r) : Con Try.prog 36 [.agg [ci64 p0.Length, cl 1 Ru64 p0.Words]] [] (.tup [vs r.1, vi64 r.2]) [] := by
 refine con_of tt_ok0 0 Try.func36 (by kernel_rfl) rfl (by kernel_rfl) (fun base X _ => AW.post ?_)
 unfold bitset_Hex at h
 refine AW.sg tt_ok0 [(1, .c (.ptr 0 2 0 0))] [0] [(0, .box 29 [ci64 p0.Length, cl 1 Ru64 p0.Words])] 3 [] (by kernel_rfl) ?_
 refine AW.seq ?_
 obtain ⟨y1, e2, h⟩ := bnd_some h
 refine AW.sg tt_ok0 [(10, vb (!y1))] [] [] 5 [hn, hk (bitset_Valid_con p0 y1 e2)] (by kernel_rfl) ?_
 refine AW.co h (by kernel_rfl) (fun c3 h => ?_) (fun c3 h => ?_)
 ·
  refine AW.sg tt_ok0 [(3, vi64 8), (2, vs (ByteArray.mk #[]))] [] [] 7 [] (by kernel_rfl) ?_
  refine AW.ret (AW.tr ?_)
  obtain rfl := some_inj h
  exact fn0 (.inr rfl) [] 0 (.tup [vs (ByteArray.mk #[]), vi64 8]) (by kernel_rfl)
 ·
  refine AW.skip (AW.tn ?_)
  refine AW.sg tt_ok0 [(4, .c (.t (.v (.slice none 0 0))))] [] [] 6 [] (by kernel_rfl) ?_
  refine AW.seq ?_
  refine AW.sg tt_ok0 [(14, vi64 0), (13, vi64 ((p0.Words.length : Nat) : Int)), (12, vl 1 Ru64 p0.Words)] [] [] 10 [] (by kernel_rfl) ?_
  refine AW.block ?_
  obtain ⟨x24, l25, h⟩ := bnd_some h
  refine AW.lp l25 (fun v => ⟨[(4, .c (.ref 0 1 0 v.1.length)), (12, vl 1 Ru64 p0.Words), (13, vi64 ((p0.Words.length : Nat) : Int)), (14, vi64 v.2)], [(0, .row 5 false 1 v.1.length (Ru8 v.1))], 1⟩) (fun t : List Int => (.exit 0, ⟨[(4, .c (.ref 0 1 0 t.length))], [(0, .row 5 false 1 t.length (Ru8 t))], 1⟩)) (Conv.trans (conv_adopt (t := 4) (ty := 5) (sz := 1) (n := ([] : List Int).length) (f := Ru8 ([] : List Int)) (by kernel_rfl) rfl) (conv_re [(0, 10)] (by kernel_rfl))) (fun _ => tv) ?_ ?_
  ·
   clear l25 h
   intro v o h
   obtain ⟨x6, x7⟩ := v
   replace h : bitset_Hex_l1 p0 x6 x7 = some o := h
   unfold bitset_Hex_l1 at h
   refine AW.sg tt_ok0 [(15, vb (decide (x7 < ((p0.Words.length : Nat) : Int))))] [] [] 2 [] (by kernel_rfl) ?_
   refine AW.seq ?_
   refine AW.co h (by kernel_rfl) (fun c9 h => ?_) (fun c9 h => ?_)
   ·
    refine AW.skip (AW.tn ?_)
    refine AW.seq (AW.block ?_)
    obtain ⟨g10, g11, h⟩ := ifd h
    refine AW.sg tt_ok0 [(6, vu64 (p0.Words.getD x7.toNat 0))] [] [] 5 [hq g10 g11] (by kernel_rfl) ?_
    refine AW.sg tt_ok0 [(7, vi64 60)] [] [] 6 [] (by kernel_rfl) ?_
    refine AW.block ?_
    obtain ⟨x22, l23, h⟩ := bnd_some h
    refine AW.lp l23 (fun v => ⟨[(4, .c (.ref 0 1 0 v.1.length)), (6, vu64 (p0.Words.getD x7.toNat 0)), (7, vi64 v.2), (12, vl 1 Ru64 p0.Words), (13, vi64 ((p0.Words.length : Nat) : Int)), (14, vi64 x7)], [(0, .row 5 false 1 v.1.length (Ru8 v.1))], 1⟩) (fun t : List Int => (.exit 2, ⟨[(4, .c (.ref 0 1 0 t.length)), (12, vl 1 Ru64 p0.Words), (13, vi64 ((p0.Words.length : Nat) : Int)), (14, vi64 x7)], [(0, .row 5 false 1 t.length (Ru8 t))], 1⟩)) (conv_re [(0, 0)] (by kernel_rfl)) (fun _ => tv) ?_ ?_
    ·
     clear l23 h
     intro v o h
     obtain ⟨x14, x15⟩ := v
     replace h : bitset_Hex_l2 p0 x7 x14 x15 = some o := h
     unfold bitset_Hex_l2 at h
     refine AW.seq ?_
     refine AW.sg tt_ok0 [(19, vb (decide (x15 ≥ 0)))] [] [] 3 [] (by kernel_rfl) ?_
     refine AW.co h (by kernel_rfl) (fun c17 h => ?_) (fun c17 h => ?_)
     ·
      refine AW.skip (AW.tn ?_)
      refine AW.seq (AW.block ?_)
      obtain ⟨g18, g19, h⟩ := ifd h
      obtain ⟨g20, g21, h⟩ := ifd h
      refine AW.rg tt_ok0 [(4, .c (.ref 10 1 0 ((x14 ++ ([(((ByteArray.mk #[48, 49, 50, 51, 52, 53, 54, 55, 56, 57, 97, 98, 99, 100, 101, 102]).data.toList.getD ((iand .u64 (ishr .u64 (p0.Words.getD x7.toNat 0) x15) 15).toNat) 0).toNat : Int)] : List Int)).length)))] [0, 9, 10] [(10, .row 5 false 1 (x14 ++ ([(((ByteArray.mk #[48, 49, 50, 51, 52, 53, 54, 55, 56, 57, 97, 98, 99, 100, 101, 102]).data.toList.getD ((iand .u64 (ishr .u64 (p0.Words.getD x7.toNat 0) x15) 15).toNat) 0).toNat : Int)] : List Int)).length (Ru8 (x14 ++ ([(((ByteArray.mk #[48, 49, 50, 51, 52, 53, 54, 55, 56, 57, 97, 98, 99, 100, 101, 102]).data.toList.getD ((iand .u64 (ishr .u64 (p0.Words.getD x7.toNat 0) x15) 15).toNat) 0).toNat : Int)] : List Int))))] 12 [hn, hn, hn, ho g18, hn, hq g19 g20, hlit 0 Eu8 1 (fun _ => rfl) ([(((ByteArray.mk #[48, 49, 50, 51, 52, 53, 54, 55, 56, 57, 97, 98, 99, 100, 101, 102]).data.toList.getD ((iand .u64 (ishr .u64 (p0.Words.getD x7.toNat 0) x15) 15).toNat) 0).toNat : Int)] : List Int), happ 0 Eu8 1 1 x14 ([(((ByteArray.mk #[48, 49, 50, 51, 52, 53, 54, 55, 56, 57, 97, 98, 99, 100, 101, 102]).data.toList.getD ((iand .u64 (ishr .u64 (p0.Words.getD x7.toNat 0) x15) 15).toNat) 0).toNat : Int)] : List Int) g21 (by decide)] (by kernel_rfl) ?_
      refine AW.inBlock_normal (AW.tn ?_)
      refine AW.rg tt_ok0 [(7, vi64 (i64.wrap (x15 - 4)))] [] [] 15 [] (by kernel_rfl) ?_
      exact lpn h (conv_re [(0, 10)] (by kernel_rfl))
     ·
      refine AW.exit (AW.thenQ_exit ?_)
      exact lpo h rfl (conv_re [(0, 0)] (by kernel_rfl))
    ·
     show (_ : Exit → St → Prop) (.exit 2) _
     refine AW.inBlock_hit (AW.inBlock_normal (AW.tn ?_))
     refine AW.rg tt_ok0 [(14, vi64 (i64.wrap (x7 + 1)))] [] [] 3 [] (by kernel_rfl) ?_
     exact lpn h (conv_re [(0, 0)] (by kernel_rfl))
   ·
    refine AW.exit (AW.thenQ_exit ?_)
    exact lpo h rfl (conv_re [(0, 0)] (by kernel_rfl))
  ·
   show (_ : Exit → St → Prop) (.exit 0) _
   refine AW.inBlock_hit (AW.tn ?_)
   refine AW.sg tt_ok0 [(3, vi64 0), (2, vs (strOf x24))] [] [] 5 [hn, hi (fun i => x24.getD i 0) (p := (0 + x24.length ≤ x24.length) ∧ ∀ i, i < x24.length → (fun i j => Ru8 x24 (0 + i) j) i 0 = .v (.int .u8 (x24.getD i 0))) (⟨le0, fun i _ => by simp only [Nat.zero_add] <;> rfl⟩)] (by kernel_rfl) ?_
   refine AW.ret ?_
   obtain rfl := some_inj h
   exact fn0 (.inr rfl) [] 0 (.tup [vs (strOf x24), vi64 0]) (by kernel_rfl)
/-! math/bits.OnesCount64 -/
noncomputable def bits_OnesCount64 (p0 : Int) : Option Int := (some (u64.wrap ((iand .u64 (ishr .u64 p0 1) 6148914691236517205) + (iand .u64 p0 6148914691236517205)))).bind fun z1 => ((some (u64.wrap ((iand .u64 (ishr .u64 z1 2) 3689348814741910323) + (iand .u64 z1 3689348814741910323)))).bind fun z3 => ((some (iand .u64 (u64.wrap ((ishr .u64 z3 4) + z3)) 1085102592571150095)).bind fun z5 => ((some (u64.wrap ((u64.wrap (z5 + (ishr .u64 z5 8))) + (ishr .u64 (u64.wrap (z5 + (ishr .u64 z5 8))) 16)))).bind fun z7 => ((some (iand .i64 (i64.wrap (u64.wrap (z7 + (ishr .u64 z7 32)))) 127)).bind fun z9 => (some z9)))))
set_option maxRecDepth 100000 in
theorem bits_OnesCount64_con (p0 : Int) (r : Int) (h : bits_OnesCount64 p0 = some r) : Con Try.prog 55 [vu64 p0] [] (vi64 r) [] := by
 refine con_of tt_ok0 0 Try.func55 (by kernel_rfl) rfl (by kernel_rfl) (fun base X _ => AW.post ?_)
 unfold bits_OnesCount64 at h
 refine AW.sg tt_ok0 [] [] [] 1 [] (by kernel_rfl) ?_
 obtain ⟨z1, n2, h⟩ := bnd_some h
 replace n2 := some_inj n2
 refine AW.sg tt_ok0 [(0, vu64 z1)] [] [] 8 [hn, ho (p := 0 ≤ (1 : Int)) (by decide)] (by subst n2; kernel_rfl) ?_
 obtain ⟨z3, n4, h⟩ := bnd_some h
 replace n4 := some_inj n4
 refine AW.sg tt_ok0 [(0, vu64 z3)] [] [] 15 [hn, ho (p := 0 ≤ (2 : Int)) (by decide)] (by subst n4; kernel_rfl) ?_
 obtain ⟨z5, n6, h⟩ := bnd_some h
 replace n6 := some_inj n6
 refine AW.sg tt_ok0 [(0, vu64 z5)] [] [] 21 [hn, ho (p := 0 ≤ (4 : Int)) (by decide)] (by subst n6; kernel_rfl) ?_
 refine AW.sg tt_ok0 [(0, vu64 (u64.wrap (z5 + (ishr .u64 z5 8))))] [] [] 26 [hn, hn, ho (p := 0 ≤ (8 : Int)) (by decide)] (by kernel_rfl) ?_
 obtain ⟨z7, n8, h⟩ := bnd_some h
 replace n8 := some_inj n8
 refine AW.sg tt_ok0 [(0, vu64 z7)] [] [] 31 [hn, hn, ho (p := 0 ≤ (16 : Int)) (by decide)] (by subst n8; kernel_rfl) ?_
 refine AW.sg tt_ok0 [(0, vu64 (u64.wrap (z7 + (ishr .u64 z7 32))))] [] [] 36 [hn, hn, ho (p := 0 ≤ (32 : Int)) (by decide)] (by kernel_rfl) ?_
 obtain ⟨z9, n10, h⟩ := bnd_some h
 replace n10 := some_inj n10
 refine AW.sg tt_ok0 [(2, vi64 z9)] [] [] 40 [] (by subst n10; kernel_rfl) ?_
 refine AW.ret ?_
 obtain rfl := some_inj h
 exact fn0 (.inr rfl) [] 0 (vi64 z9) (by kernel_rfl)
/-! recordlink/bitset.Count -/
noncomputable def bitset_Count_l1 (p0 : S_api_Bits) (x6 : Int) (x7 : Int) : Option ((Int × Int) ⊕ Int) := if (decide (x7 < ((p0.Words.length : Nat) : Int))) = true then (if 0 ≤ x7 then (if x7 < ((p0.Words.length : Nat) : Int) then ((bits_OnesCount64 (p0.Words.getD x7.toNat 0)).bind fun y12 => (some (.inl (i64.wrap (x6 + y12), i64.wrap (x7 + 1))))) else none) else none) else (some (.inr x6))
noncomputable def bitset_Count (p0 : S_api_Bits) : Option Int := (bitset_Valid p0).bind fun y1 => (if (!y1) = true then (some 0) else ((loop (fun v : Int × Int => bitset_Count_l1 p0 v.1 v.2) (0, 0)).bind fun x14 => (some x14)))
set_option maxRecDepth 100000 in
theorem bitset_Count_con (p0 : S_api_Bits) (r : Int) (h : bitset_Count p0 = some r) : Con Try.prog 22 [.agg [ci64 p0.Length, cl 1 Ru64 p0.Words]] [] (vi64 r) [] := by
 refine con_of tt_ok0 0 Try.func22 (by kernel_rfl) rfl (by kernel_rfl) (fun base X _ => AW.post ?_)
 unfold bitset_Count at h
 refine AW.sg tt_ok0 [(1, .c (.ptr 0 2 0 0))] [0] [(0, .box 29 [ci64 p0.Length, cl 1 Ru64 p0.Words])] 2 [] (by kernel_rfl) ?_
 refine AW.seq ?_
 obtain ⟨y1, e2, h⟩ := bnd_some h
 refine AW.sg tt_ok0 [(8, vb (!y1))] [] [] 4 [hn, hk (bitset_Valid_con p0 y1 e2)] (by kernel_rfl) ?_
 refine AW.co h (by kernel_rfl) (fun c3 h => ?_) (fun c3 h => ?_)
 ·
  refine AW.sg tt_ok0 [(2, vi64 0)] [] [] 5 [] (by kernel_rfl) ?_
  refine AW.ret (AW.tr ?_)
  obtain rfl := some_inj h
  exact fn0 (.inr rfl) [] 0 (vi64 0) (by kernel_rfl)
 ·
  refine AW.skip (AW.tn ?_)
  refine AW.sg tt_ok0 [(3, vi64 0)] [] [] 5 [] (by kernel_rfl) ?_
  refine AW.seq ?_
  refine AW.sg tt_ok0 [(12, vi64 0), (11, vi64 ((p0.Words.length : Nat) : Int)), (10, vl 1 Ru64 p0.Words)] [] [] 9 [] (by kernel_rfl) ?_
  refine AW.block ?_
  obtain ⟨x14, l15, h⟩ := bnd_some h
  refine AW.lp l15 (fun v => ⟨[(3, vi64 v.1), (10, vl 1 Ru64 p0.Words), (11, vi64 ((p0.Words.length : Nat) : Int)), (12, vi64 v.2)], [], 0⟩) (fun t : Int => (.exit 0, ⟨[(3, vi64 t)], [], 0⟩)) (conv_re [] (by kernel_rfl)) (fun _ => tv) ?_ ?_
  ·
   clear l15 h
   intro v o h
   obtain ⟨x6, x7⟩ := v
   replace h : bitset_Count_l1 p0 x6 x7 = some o := h
   unfold bitset_Count_l1 at h
   refine AW.sg tt_ok0 [(13, vb (decide (x7 < ((p0.Words.length : Nat) : Int))))] [] [] 1 [] (by kernel_rfl) ?_
   refine AW.seq ?_
   refine AW.co h (by kernel_rfl) (fun c9 h => ?_) (fun c9 h => ?_)
   ·
    refine AW.skip (AW.tn ?_)
    refine AW.seq (AW.block ?_)
    obtain ⟨g10, g11, h⟩ := ifd h
    refine AW.sg tt_ok0 [(5, vu64 (p0.Words.getD x7.toNat 0))] [] [] 4 [hq g10 g11] (by kernel_rfl) ?_
    obtain ⟨y12, e13, h⟩ := bnd_some h
    refine AW.rg tt_ok0 [(3, vi64 (i64.wrap (x6 + y12)))] [] [] 8 [hn, hn, hk (bits_OnesCount64_con (p0.Words.getD x7.toNat 0) y12 e13)] (by kernel_rfl) ?_
    refine AW.inBlock_normal (AW.tn ?_)
    refine AW.rg tt_ok0 [(12, vi64 (i64.wrap (x7 + 1)))] [] [] 10 [] (by kernel_rfl) ?_
    exact lpn h (conv_re [] (by kernel_rfl))
   ·
    refine AW.exit (AW.thenQ_exit ?_)
    exact lpo h rfl (conv_re [] (by kernel_rfl))
  ·
   show (_ : Exit → St → Prop) (.exit 0) _
   refine AW.inBlock_hit (AW.tn ?_)
   refine AW.sg tt_ok0 [(2, vi64 x14)] [] [] 2 [] (by kernel_rfl) ?_
   refine AW.ret ?_
   obtain rfl := some_inj h
   exact fn0 (.inr rfl) [] 0 (vi64 x14) (by kernel_rfl)
/-! recordlink/bitset.Has -/
noncomputable def bitset_Has_k1 (x1 : Bool) : Option Bool := some x1
noncomputable def bitset_Has (p0 : S_api_Bits) (p1 : Int) : Option Bool := (bitset_Valid p0).bind fun y2 => (if y2 = true then (if (decide (p1 ≥ 0)) = true then (if (decide (p1 < p0.Length)) = true then (if 0 ≤ (i64.wrap (p1.tdiv 64)) then (if (i64.wrap (p1.tdiv 64)) < ((p0.Words.length : Nat) : Int) then (if 0 ≤ (p1.tmod 64) then (bitset_Has_k1 ((iand .u64 (ishr .u64 (p0.Words.getD ((i64.wrap (p1.tdiv 64)).toNat) 0) (p1.tmod 64)) 1) == 1)) else none) else none) else none) else (bitset_Has_k1 false)) else (bitset_Has_k1 false)) else (bitset_Has_k1 false))
set_option maxRecDepth 100000 in
theorem bitset_Has_con (p0 : S_api_Bits) (p1 : Int) (r : Bool) (h : bitset_Has p0 p1 = some r) : Con Try.prog 21 [.agg [ci64 p0.Length, cl 1 Ru64 p0.Words], vi64 p1] [] (vb r) [] := by
 refine con_of tt_ok0 0 Try.func21 (by kernel_rfl) rfl (by kernel_rfl) (fun base X _ => AW.post ?_)
 unfold bitset_Has at h
 refine AW.sg tt_ok0 [(2, .c (.ptr 0 2 0 0))] [0] [(0, .box 29 [ci64 p0.Length, cl 1 Ru64 p0.Words])] 2 [] (by kernel_rfl) ?_
 refine AW.seq ?_
 refine AW.join (ι := Bool) (fun v => ⟨[(4, vb v)], [], 0⟩) (fun v : Bool => bitset_Has_k1 v = some r) (fun x1 h => ?_) ?_
 ·
  unfold bitset_Has_k1 at h
  refine AW.tn (AW.ret ?_)
  obtain rfl := some_inj h
  exact fn0 (.inr rfl) [] 0 (vb x1) (by kernel_rfl)
 ·
  obtain ⟨y2, e3, h⟩ := bnd_some h
  rcases ifs h with ⟨c4, hs⟩ | ⟨c4, hs⟩
  ·clear h; subst c4; have h := hs; clear hs
   rcases ifs h with ⟨c5, h⟩ | ⟨c5, h⟩
   ·
    rcases ifs h with ⟨c6, h⟩ | ⟨c6, h⟩
    ·
     obtain ⟨g7, g8, h⟩ := ifd h
     obtain ⟨g9, h⟩ := ifc h
     refine AW.rg tt_ok0 [(4, vb ((iand .u64 (ishr .u64 (p0.Words.getD ((i64.wrap (p1.tdiv 64)).toNat) 0) (p1.tmod 64)) 1) == 1))] [] [] 27 [hn, hk (bitset_Valid_con p0 true e3), hn, hn, ht c5, hn, hn, hn, hn, hn, ht c6, hn, hn, hn, hn, hn, ho (p := (64 : Int) ≠ 0) (by decide), hq g7 g8, hn, hn, ho (p := (64 : Int) ≠ 0) (by decide), ho g9] (by kernel_rfl) ?_
     exact jl ((iand .u64 (ishr .u64 (p0.Words.getD ((i64.wrap (p1.tdiv 64)).toNat) 0) (p1.tmod 64)) 1) == 1) h (conv_re [] (by kernel_rfl))
    ·
     refine AW.rg tt_ok0 [(4, vb false)] [] [] 27 [hn, hk (bitset_Valid_con p0 true e3), hn, hn, ht c5, hn, hn, hn, hn, hn, hf c6] (by kernel_rfl) ?_
     exact jl false h (conv_re [] (by kernel_rfl))
   ·
    refine AW.rg tt_ok0 [(4, vb false)] [] [] 27 [hn, hk (bitset_Valid_con p0 true e3), hn, hn, hf c5] (by kernel_rfl) ?_
    exact jl false h (conv_re [] (by kernel_rfl))
  ·clear h; subst c4; have h := hs; clear hs
   refine AW.rg tt_ok0 [(4, vb false)] [] [] 27 [hn, hk (bitset_Valid_con p0 false e3)] (by kernel_rfl) ?_
   exact jl false h (conv_re [] (by kernel_rfl))
/-! recordlink/recordlinklaw09.awake -/
noncomputable def rl_law09_awake_k1 (x13 : Bool) : Option Bool := some x13
noncomputable def rl_law09_awake : Option Bool := bind2 (bitset_New 64) fun y1 y2 => (bind2 (bitset_Set y1 63) fun y4 y5 => (bind2 (bitset_Set y4 0) fun y7 y8 => (bind2 (bitset_Hex y7) fun y10 y11 => (if (y2 == 0) = true then (if (y5 == 0) = true then (if (y8 == 0) = true then (if (y11 == 0) = true then (if (y10.toList == (ByteArray.mk #[56, 48, 48, 48, 48, 48, 48, 48, 48, 48, 48, 48, 48, 48, 48, 49]).toList) = true then ((bitset_Count y7).bind fun y19 => (if (y19 == 2) = true then ((bitset_Has y7 63).bind fun y22 => (if y22 = true then ((bitset_Has y7 1).bind fun y25 => (rl_law09_awake_k1 (!y25))) else (rl_law09_awake_k1 false))) else (rl_law09_awake_k1 false))) else (rl_law09_awake_k1 false)) else (rl_law09_awake_k1 false)) else (rl_law09_awake_k1 false)) else (rl_law09_awake_k1 false)) else (rl_law09_awake_k1 false)))))
set_option maxRecDepth 100000 in
theorem rl_law09_awake_con (r : Bool) (h : rl_law09_awake = some r) : Con Try.prog 18 [] [] (vb r) [] := by
 refine con_of tt_ok0 0 Try.func18 (by kernel_rfl) rfl (by kernel_rfl) (fun base X _ => AW.post ?_)
 unfold rl_law09_awake at h
 refine AW.sg tt_ok0 [] [] [] 1 [] (by kernel_rfl) ?_
 obtain ⟨y1, y2, e3, h⟩ := bind2_some h
 refine AW.sg tt_ok0 [(2, vi64 y2), (1, .c (.ptr 5 2 0 0))] [1, 5] [(5, .box 29 [ci64 y1.Length, .ref 1 1 0 y1.Words.length]), (1, .row 33 false 1 y1.Words.length (Ru64 y1.Words))] 8 [hm [] [] 1 (bitset_New_con 64 (y1, y2) e3) ⟨rowL_flat Vu64 _ _ _, tv⟩] (by kernel_rfl) ?_
 obtain ⟨y4, y5, e6, h⟩ := bind2_some h
 refine AW.sg tt_ok0 [(3, vi64 y5)] [5, 9] [(5, .box 29 [ci64 y4.Length, .ref 9 1 0 y4.Words.length]), (9, .row 33 false 1 y4.Words.length (Ru64 y4.Words))] 15 [hn, hg [] [] true 1 (q := ((True) ∧ (0 + y1.Words.length ≤ y1.Words.length) ∧ (True)) ∧ (True) ∧ (True)) ⟨⟨tv, le0, tv⟩, tv, tv⟩ (a0 := [.agg [ci64 y1.Length, cl 1 Ru64 y1.Words], vi64 63]) (bitset_Set_con y1 63 (y4, y5) e6) ⟨ArgLe.refl _, ArgLe.refl _, tv⟩ (fun _ => ⟨rowL_flat Vu64 _ _ _, tv⟩)] (by kernel_rfl) ?_
 obtain ⟨y7, y8, e9, h⟩ := bind2_some h
 refine AW.sg tt_ok0 [(4, vi64 y8)] [5, 16] [(5, .box 29 [ci64 y7.Length, .ref 16 1 0 y7.Words.length]), (16, .row 33 false 1 y7.Words.length (Ru64 y7.Words))] 22 [hn, hg [] [] true 1 (q := ((True) ∧ (0 + y4.Words.length ≤ y4.Words.length) ∧ (True)) ∧ (True) ∧ (True)) ⟨⟨tv, le0, tv⟩, tv, tv⟩ (a0 := [.agg [ci64 y4.Length, cl 1 Ru64 y4.Words], vi64 0]) (bitset_Set_con y4 0 (y7, y8) e9) ⟨ArgLe.refl _, ArgLe.refl _, tv⟩ (fun _ => ⟨rowL_flat Vu64 _ _ _, tv⟩)] (by kernel_rfl) ?_
 obtain ⟨y10, y11, e12, h⟩ := bind2_some h
 refine AW.sg tt_ok0 [(6, vi64 y11), (5, vs y10)] [] [] 28 [hn, hg [] [] true 0 (q := ((True) ∧ (0 + y7.Words.length ≤ y7.Words.length) ∧ (True)) ∧ (True)) ⟨⟨tv, le0, tv⟩, tv⟩ (a0 := [.agg [ci64 y7.Length, cl 1 Ru64 y7.Words]]) (bitset_Hex_con y7 (y10, y11) e12) ⟨ArgLe.refl _, tv⟩ (fun _ => tv)] (by kernel_rfl) ?_
 refine AW.seq ?_
 refine AW.join (ι := Bool) (fun v => ⟨[(0, vb v)], [], 0⟩) (fun v : Bool => rl_law09_awake_k1 v = some r) (fun x13 h => ?_) ?_
 ·
  unfold rl_law09_awake_k1 at h
  refine AW.tn (AW.ret ?_)
  obtain rfl := some_inj h
  exact fn0 (.inr rfl) [] 0 (vb x13) (by kernel_rfl)
 ·
  rcases ifs h with ⟨c14, h⟩ | ⟨c14, h⟩
  ·
   rcases ifs h with ⟨c15, h⟩ | ⟨c15, h⟩
   ·
    rcases ifs h with ⟨c16, h⟩ | ⟨c16, h⟩
    ·
     rcases ifs h with ⟨c17, h⟩ | ⟨c17, h⟩
     ·
      rcases ifs h with ⟨c18, h⟩ | ⟨c18, h⟩
      ·
       obtain ⟨y19, e20, h⟩ := bnd_some h
       rcases ifs h with ⟨c21, h⟩ | ⟨c21, h⟩
       ·
        obtain ⟨y22, e23, h⟩ := bnd_some h
        rcases ifs h with ⟨c24, hs⟩ | ⟨c24, hs⟩
        ·clear h; subst c24; have h := hs; clear hs
         obtain ⟨y25, e26, h⟩ := bnd_some h
         refine AW.rg tt_ok0 [(0, vb (!y25))] [] [] 58 [hn, ht c14, hn, hn, ht c15, hn, hn, hn, ht c16, hn, hn, hn, ht c17, hn, hn, hn, ht c18, hn, hn, hn, hg [] [] true 0 (q := ((True) ∧ (0 + y7.Words.length ≤ y7.Words.length) ∧ (True)) ∧ (True)) ⟨⟨tv, le0, tv⟩, tv⟩ (a0 := [.agg [ci64 y7.Length, cl 1 Ru64 y7.Words]]) (bitset_Count_con y7 y19 e20) ⟨ArgLe.refl _, tv⟩ (fun _ => tv), ht c21, hn, hn, hn, hg [] [] true 0 (q := ((True) ∧ (0 + y7.Words.length ≤ y7.Words.length) ∧ (True)) ∧ (True) ∧ (True)) ⟨⟨tv, le0, tv⟩, tv, tv⟩ (a0 := [.agg [ci64 y7.Length, cl 1 Ru64 y7.Words], vi64 63]) (bitset_Has_con y7 63 true e23) ⟨ArgLe.refl _, ArgLe.refl _, tv⟩ (fun _ => tv), hn, hn, hn, hg [] [] true 0 (q := ((True) ∧ (0 + y7.Words.length ≤ y7.Words.length) ∧ (True)) ∧ (True) ∧ (True)) ⟨⟨tv, le0, tv⟩, tv, tv⟩ (a0 := [.agg [ci64 y7.Length, cl 1 Ru64 y7.Words], vi64 1]) (bitset_Has_con y7 1 y25 e26) ⟨ArgLe.refl _, ArgLe.refl _, tv⟩ (fun _ => tv)] (by kernel_rfl) ?_
         exact jl (!y25) h (conv_re [] (by kernel_rfl))
        ·clear h; subst c24; have h := hs; clear hs
         refine AW.rg tt_ok0 [(0, vb false)] [] [] 59 [hn, ht c14, hn, hn, ht c15, hn, hn, hn, ht c16, hn, hn, hn, ht c17, hn, hn, hn, ht c18, hn, hn, hn, hg [] [] true 0 (q := ((True) ∧ (0 + y7.Words.length ≤ y7.Words.length) ∧ (True)) ∧ (True)) ⟨⟨tv, le0, tv⟩, tv⟩ (a0 := [.agg [ci64 y7.Length, cl 1 Ru64 y7.Words]]) (bitset_Count_con y7 y19 e20) ⟨ArgLe.refl _, tv⟩ (fun _ => tv), ht c21, hn, hn, hn, hg [] [] true 0 (q := ((True) ∧ (0 + y7.Words.length ≤ y7.Words.length) ∧ (True)) ∧ (True) ∧ (True)) ⟨⟨tv, le0, tv⟩, tv, tv⟩ (a0 := [.agg [ci64 y7.Length, cl 1 Ru64 y7.Words], vi64 63]) (bitset_Has_con y7 63 false e23) ⟨ArgLe.refl _, ArgLe.refl _, tv⟩ (fun _ => tv)] (by kernel_rfl) ?_
         exact jl false h (conv_re [] (by kernel_rfl))
       ·
        refine AW.rg tt_ok0 [(0, vb false)] [] [] 60 [hn, ht c14, hn, hn, ht c15, hn, hn, hn, ht c16, hn, hn, hn, ht c17, hn, hn, hn, ht c18, hn, hn, hn, hg [] [] true 0 (q := ((True) ∧ (0 + y7.Words.length ≤ y7.Words.length) ∧ (True)) ∧ (True)) ⟨⟨tv, le0, tv⟩, tv⟩ (a0 := [.agg [ci64 y7.Length, cl 1 Ru64 y7.Words]]) (bitset_Count_con y7 y19 e20) ⟨ArgLe.refl _, tv⟩ (fun _ => tv), hf c21] (by kernel_rfl) ?_
        exact jl false h (conv_re [] (by kernel_rfl))
      ·
       refine AW.rg tt_ok0 [(0, vb false)] [] [] 61 [hn, ht c14, hn, hn, ht c15, hn, hn, hn, ht c16, hn, hn, hn, ht c17, hn, hn, hn, hf c18] (by kernel_rfl) ?_
       exact jl false h (conv_re [] (by kernel_rfl))
     ·
      refine AW.rg tt_ok0 [(0, vb false)] [] [] 61 [hn, ht c14, hn, hn, ht c15, hn, hn, hn, ht c16, hn, hn, hn, hf c17] (by kernel_rfl) ?_
      exact jl false h (conv_re [] (by kernel_rfl))
    ·
     refine AW.rg tt_ok0 [(0, vb false)] [] [] 61 [hn, ht c14, hn, hn, ht c15, hn, hn, hn, hf c16] (by kernel_rfl) ?_
     exact jl false h (conv_re [] (by kernel_rfl))
   ·
    refine AW.rg tt_ok0 [(0, vb false)] [] [] 61 [hn, ht c14, hn, hn, hf c15] (by kernel_rfl) ?_
    exact jl false h (conv_re [] (by kernel_rfl))
  ·
   refine AW.rg tt_ok0 [(0, vb false)] [] [] 61 [hn, hf c14] (by kernel_rfl) ?_
   exact jl false h (conv_re [] (by kernel_rfl))
def Ei64 (x : Int) : List T := [.v (.int .i64 x)]
def Ri64 (xs : List Int) : Nat → Nat → T := rowL 0 Ei64 xs
theorem Vi64 : ∀ x, allV (Ei64 x) := fun _ => ⟨tv, tv⟩
/-! recordlink/recordlinkmake.Few -/
noncomputable def rl_make_Few (p0 : List Int) : Option Bool := some (decide ((p0.length : Int) ≤ 400))
set_option maxRecDepth 100000 in
theorem rl_make_Few_con (p0 : List Int) (r : Bool) (h : rl_make_Few p0 = some r) : Con Try.prog 13 [vl 1 Ri64 p0] [] (vb r) [] := by
 refine con_of tt_ok0 0 Try.func13 (by kernel_rfl) rfl (by kernel_rfl) (fun base X _ => AW.post ?_)
 unfold rl_make_Few at h
 refine AW.sg tt_ok0 [] [] [] 1 [] (by kernel_rfl) ?_
 refine AW.sg tt_ok0 [(2, vb (decide ((p0.length : Int) ≤ 400)))] [] [] 5 [] (by kernel_rfl) ?_
 refine AW.ret ?_
 obtain rfl := some_inj h
 exact fn0 (.inr rfl) [] 0 (vb (decide ((p0.length : Int) ≤ 400))) (by kernel_rfl)
structure S_recordlinkmake_Deck where
 list : List Int
 at_ : Int
 state : Int
def dS_recordlinkmake_Deck : S_recordlinkmake_Deck := ⟨([] : List Int), 0, 0⟩
instance : Inhabited S_recordlinkmake_Deck := ⟨dS_recordlinkmake_Deck⟩
/-! recordlink/recordlinkmake.New -/
noncomputable def rl_make_New (p0 : List Int) : Option S_recordlinkmake_Deck := some (⟨p0, 0, 11400714819323198485⟩ : S_recordlinkmake_Deck)
set_option maxRecDepth 100000 in
theorem rl_make_New_con (p0 : List Int) (r : S_recordlinkmake_Deck) (h : rl_make_New p0 = some r) : Con Try.prog 14 [vl 1 Ri64 p0] [] (.c (.ptr 0 3 0 0)) [(0, .box 66 [cl 1 Ri64 r.list, ci64 r.at_, cu64 r.state])] := by
 refine con_of tt_ok0 0 Try.func14 (by kernel_rfl) rfl (by kernel_rfl) (fun base X _ => AW.post ?_)
 unfold rl_make_New at h
 refine AW.sg tt_ok0 [] [] [] 1 [] (by kernel_rfl) ?_
 refine AW.sg tt_ok0 [(2, .c (.ptr 3 3 0 0))] [3] [(3, .box 66 [cl 1 Ri64 p0, ci64 0, cu64 11400714819323198485])] 5 [] (by kernel_rfl) ?_
 refine AW.ret ?_
 obtain rfl := some_inj h
 exact fn0 (.inr rfl) [(0, 3)] 1 (.c (.ptr 3 3 0 0)) (by kernel_rfl)
/-! (*recordlink/recordlinkmake.Deck).Word -/
noncomputable def rl_make_Deck_Word_k1 (p0 : S_recordlinkmake_Deck) (x1 : Int) (x2 : Int) : Option (Int × S_recordlinkmake_Deck) := (some (u64.wrap ((u64.wrap ((u64.wrap (p0.state + x1)) * 6364136223846793005)) + 1442695040888963407))).bind fun z3 => ((some (u64.wrap ((ixor .u64 z3 (ishr .u64 z3 33)) * 18397679294719823053))).bind fun z5 => (some (ixor .u64 z5 (ishr .u64 z5 29), (⟨p0.list, x2, z3⟩ : S_recordlinkmake_Deck))))
noncomputable def rl_make_Deck_Word (p0 : S_recordlinkmake_Deck) : Option (Int × S_recordlinkmake_Deck) := if (decide (p0.at_ < ((p0.list.length : Nat) : Int))) = true then (if 0 ≤ p0.at_ then (if p0.at_ < ((p0.list.length : Nat) : Int) then (rl_make_Deck_Word_k1 p0 (u64.wrap (p0.list.getD p0.at_.toNat 0)) (i64.wrap (p0.at_ + 1))) else none) else none) else (rl_make_Deck_Word_k1 p0 0 p0.at_)
set_option maxRecDepth 100000 in
theorem rl_make_Deck_Word_con (p0 : S_recordlinkmake_Deck) (r : Int × S_recordlinkmake_Deck) (h : rl_make_Deck_Word p0 = some r) : Con Try.prog 53 [.c (.ptr 0 3 0 0)] [(0, .box 66 [cl 1 Ri64 p0.list, ci64 p0.at_, cu64 p0.state])] (vu64 r.1) [(0, .box 66 [cl 1 Ri64 r.2.list, ci64 r.2.at_, cu64 r.2.state])] := by
 refine con_of tt_ok0 1 Try.func53 (by kernel_rfl) rfl (by kernel_rfl) (fun base X _ => AW.post ?_)
 unfold rl_make_Deck_Word at h
 refine AW.sg tt_ok0 [] [] [] 2 [] (by kernel_rfl) ?_
 refine AW.sg tt_ok0 [(3, vu64 0)] [] [] 3 [] (by kernel_rfl) ?_
 refine AW.seq ?_
 refine AW.join (ι := Int × Int) (fun v => ⟨[(0, .c (.ptr 0 3 0 0)), (3, vu64 v.1)], [(0, .box 66 [cl 1 Ri64 p0.list, ci64 v.2, cu64 p0.state])], 1⟩) (fun v : Int × Int => rl_make_Deck_Word_k1 p0 v.1 v.2 = some r) (fun v h => ?_) ?_
 ·
  obtain ⟨x1, x2⟩ := v
  replace h : rl_make_Deck_Word_k1 p0 x1 x2 = some r := h
  unfold rl_make_Deck_Word_k1 at h
  refine AW.tn ?_
  obtain ⟨z3, n4, h⟩ := bnd_some h
  replace n4 := some_inj n4
  refine AW.sg tt_ok0 [] [0] [(0, .box 66 [cl 1 Ri64 p0.list, ci64 x2, cu64 z3])] 13 [] (by subst n4; kernel_rfl) ?_
  refine AW.sd tt_ok0 mo0 [] [(4, vu64 (ixor .u64 z3 (ishr .u64 z3 33)))] [] 24 [hn, hn, hn, hn, hn, hn, hn, hn, ho (p := 0 ≤ (33 : Int)) (by decide)] (by kernel_rfl) ?_
  obtain ⟨z5, n6, h⟩ := bnd_some h
  replace n6 := some_inj n6
  refine AW.sg tt_ok0 [(4, vu64 z5)] [] [] 27 [] (by subst n6; kernel_rfl) ?_
  refine AW.sg tt_ok0 [(2, vu64 (ixor .u64 z5 (ishr .u64 z5 29)))] [] [] 32 [hn, hn, ho (p := 0 ≤ (29 : Int)) (by decide)] (by kernel_rfl) ?_
  refine AW.ret ?_
  obtain rfl := some_inj h
  exact fn0 (.inr rfl) [(0, 0)] 1 (vu64 (ixor .u64 z5 (ishr .u64 z5 29))) (by kernel_rfl)
 ·
  refine AW.sd tt_ok0 mo0 [] [(14, vb (decide (p0.at_ < ((p0.list.length : Nat) : Int))))] [] 13 [] (by kernel_rfl) ?_
  refine AW.co h (by kernel_rfl) (fun c7 h => ?_) (fun c7 h => ?_)
  ·
   obtain ⟨g8, g9, h⟩ := ifd h
   refine AW.sd tt_ok0 mo0 [] [(3, vu64 (u64.wrap (p0.list.getD p0.at_.toNat 0)))] [] 25 [hn, hn, hn, hn, hn, hn, hn, hn, hq g8 g9] (by kernel_rfl) ?_
   refine AW.rg tt_ok0 [] [0] [(0, .box 66 [cl 1 Ri64 p0.list, ci64 (i64.wrap (p0.at_ + 1)), cu64 p0.state])] 33 [] (by kernel_rfl) ?_
   exact jl (u64.wrap (p0.list.getD p0.at_.toNat 0), i64.wrap (p0.at_ + 1)) h (conv_re [(0, 0)] (by kernel_rfl))
  ·
   refine AW.skip ?_
   exact jl (0, p0.at_) h (conv_re [(0, 0)] (by kernel_rfl))
/-! (*recordlink/recordlinkmake.Deck).Next -/
noncomputable def rl_make_Deck_Next (p0 : S_recordlinkmake_Deck) (p1 : Int) : Option (Int × S_recordlinkmake_Deck) := if (decide (p1 < 1)) = true then (some (0, p0)) else (bind2 (rl_make_Deck_Word p0) fun y2 y3 => (if p1 ≠ 0 then (some (((i64.wrap (ishr .u64 y2 1)).tmod p1), y3)) else none))
set_option maxRecDepth 100000 in
theorem rl_make_Deck_Next_con (p0 : S_recordlinkmake_Deck) (p1 : Int) (r : Int × S_recordlinkmake_Deck) (h : rl_make_Deck_Next p0 p1 = some r) : Con Try.prog 16 [.c (.ptr 0 3 0 0), vi64 p1] [(0, .box 66 [cl 1 Ri64 p0.list, ci64 p0.at_, cu64 p0.state])] (vi64 r.1) [(0, .box 66 [cl 1 Ri64 r.2.list, ci64 r.2.at_, cu64 r.2.state])] := by
 refine con_of tt_ok0 1 Try.func16 (by kernel_rfl) rfl (by kernel_rfl) (fun base X _ => AW.post ?_)
 unfold rl_make_Deck_Next at h
 refine AW.sg tt_ok0 [] [] [] 2 [] (by kernel_rfl) ?_
 refine AW.seq ?_
 refine AW.sg tt_ok0 [(6, vb (decide (p1 < 1)))] [] [] 4 [] (by kernel_rfl) ?_
 refine AW.co h (by kernel_rfl) (fun c1 h => ?_) (fun c1 h => ?_)
 ·
  refine AW.sg tt_ok0 [(4, vi64 0)] [] [] 5 [] (by kernel_rfl) ?_
  refine AW.ret (AW.tr ?_)
  obtain rfl := some_inj h
  exact fn0 (.inr rfl) [(0, 0)] 1 (vi64 0) (by kernel_rfl)
 ·
  refine AW.skip (AW.tn ?_)
  obtain ⟨y2, y3, e4, h⟩ := bind2_some h
  obtain ⟨g5, h⟩ := ifc h
  refine AW.sg tt_ok0 [(4, vi64 ((i64.wrap (ishr .u64 y2 1)).tmod p1))] [0] [(0, .box 66 [cl 1 Ri64 y3.list, ci64 y3.at_, cu64 y3.state])] 10 [hn, hl [0] [] 0 (rl_make_Deck_Word_con p0 (y2, y3) e4), ho (p := 0 ≤ (1 : Int)) (by decide), hn, hn, ho g5] (by kernel_rfl) ?_
  refine AW.ret ?_
  obtain rfl := some_inj h
  exact fn0 (.inr rfl) [(0, 0)] 1 (vi64 ((i64.wrap (ishr .u64 y2 1)).tmod p1)) (by kernel_rfl)
/-! (*recordlink/recordlinkmake.Deck).Bits -/
noncomputable def rl_make_Deck_Bits_k2 (x6 : Int) (x10 : List Int) (x19 : Int) (x20 : List Int) (x21 : Int) (x22 : Int) : Option ((Int × (List Int) × Int × Int × (List Int)) ⊕ ((List Int) × Int × Int × (List Int))) := if x10.length + ([x19] : List Int).length ≤ 1099511627776 then (some (.inl (i64.wrap (x6 + 1), x20, x21, x22, (x10 ++ ([x19] : List Int))))) else none
noncomputable def rl_make_Deck_Bits_l1 (p1 : Int) (x6 : Int) (x7 : List Int) (x8 : Int) (x9 : Int) (x10 : List Int) : Option ((Int × (List Int) × Int × Int × (List Int)) ⊕ ((List Int) × Int × Int × (List Int))) := if (decide (x6 < (i64.wrap (p1.tdiv 64)))) = true then (bind2 (rl_make_Deck_Word (⟨x7, x8, x9⟩ : S_recordlinkmake_Deck)) fun y16 y17 => (bind2 (rl_make_Deck_Next y17 4) fun y24 y25 => (if (y24 == 0) = true then (bind2 (rl_make_Deck_Word y25) fun y28 y29 => (bind2 (rl_make_Deck_Word y29) fun y31 y32 => (rl_make_Deck_Bits_k2 x6 x10 (iand .u64 y16 (iand .u64 y28 y31)) y32.list y32.at_ y32.state))) else (if (y24 == 1) = true then (rl_make_Deck_Bits_k2 x6 x10 0 y25.list y25.at_ y25.state) else (rl_make_Deck_Bits_k2 x6 x10 y16 y25.list y25.at_ y25.state))))) else (some (.inr (x7, x8, x9, x10)))
noncomputable def rl_make_Deck_Bits (p0 : S_recordlinkmake_Deck) (p1 : Int) : Option (S_api_Bits × S_recordlinkmake_Deck) := bind4 (loop (fun v : Int × (List Int) × Int × Int × (List Int) => rl_make_Deck_Bits_l1 p1 v.1 v.2.1 v.2.2.1 v.2.2.2.1 v.2.2.2.2) (0, p0.list, p0.at_, p0.state, ([] : List Int))) fun x35 x36 x37 x38 => (some ((⟨p1, x38⟩ : S_api_Bits), (⟨x35, x36, x37⟩ : S_recordlinkmake_Deck)))
set_option maxRecDepth 100000 in
theorem rl_make_Deck_Bits_con (p0 : S_recordlinkmake_Deck) (p1 : Int) (r : S_api_Bits × S_recordlinkmake_Deck) (h : rl_make_Deck_Bits p0 p1 = some r) : Con Try.prog 15 [.c (.ptr 0 3 0 0), vi64 p1] [(0, .box 66 [cl 1 Ri64 p0.list, ci64 p0.at_, cu64 p0.state])] (.agg [ci64 r.1.Length, .ref 1 1 0 r.1.Words.length]) [(0, .box 66 [cl 1 Ri64 r.2.list, ci64 r.2.at_, cu64 r.2.state]), (1, .row 33 false 1 r.1.Words.length (Ru64 r.1.Words))] := by
 refine con_of tt_ok0 1 Try.func15 (by kernel_rfl) rfl (by kernel_rfl) (fun base X _ => AW.post ?_)
 unfold rl_make_Deck_Bits at h
 refine AW.sg tt_ok0 [(4, .c (.ptr 1 2 0 0))] [1] [(1, .box 29 [ci64 0, .t (.v (.slice none 0 0))])] 2 [] (by kernel_rfl) ?_
 refine AW.sg tt_ok0 [(5, .c (.ptr 4 2 0 0))] [4] [(4, .box 29 [ci64 p1, .t (.v (.slice none 0 0))])] 6 [] (by kernel_rfl) ?_
 refine AW.seq ?_
 refine AW.sg tt_ok0 [(6, vi64 0)] [] [] 7 [] (by kernel_rfl) ?_
 refine AW.block ?_
 obtain ⟨x35, x36, x37, x38, l39, h⟩ := bind4_some h
 refine AW.lp l39 (fun v => ⟨[(0, .c (.ptr 0 3 0 0)), (1, vi64 p1), (4, .c (.ptr 1 2 0 0)), (5, .c (.ptr 2 2 0 0)), (6, vi64 v.1)], [(0, .box 66 [cl 1 Ri64 v.2.1, ci64 v.2.2.1, cu64 v.2.2.2.1]), (1, .box 29 [ci64 0, .t (.v (.slice none 0 0))]), (2, .box 29 [ci64 p1, .ref 3 1 0 v.2.2.2.2.length]), (3, .row 33 false 1 v.2.2.2.2.length (Ru64 v.2.2.2.2))], 4⟩) (fun t : (List Int) × Int × Int × (List Int) => (.exit 0, ⟨[(4, .c (.ptr 1 2 0 0)), (5, .c (.ptr 2 2 0 0))], [(0, .box 66 [cl 1 Ri64 t.1, ci64 t.2.1, cu64 t.2.2.1]), (1, .box 29 [ci64 0, .t (.v (.slice none 0 0))]), (2, .box 29 [ci64 p1, .ref 3 1 0 t.2.2.2.length]), (3, .row 33 false 1 t.2.2.2.length (Ru64 t.2.2.2))], 4⟩)) (Conv.trans (conv_adoptB (id := 4) (ty0 := 29) (cs := [ci64 p1, .t (.v (.slice none 0 0))]) 1 (ty := 33) (sz := 1) (n := ([] : List Int).length) (f := Ru64 ([] : List Int)) (by kernel_rfl) (by kernel_rfl) rfl) (conv_re [(0, 0), (1, 1), (2, 4), (3, 7)] (by kernel_rfl))) (fun _ => tv) ?_ ?_
 ·
  clear l39 h
  intro v o h
  obtain ⟨x6, x7, x8, x9, x10⟩ := v
  replace h : rl_make_Deck_Bits_l1 p1 x6 x7 x8 x9 x10 = some o := h
  unfold rl_make_Deck_Bits_l1 at h
  refine AW.seq ?_
  refine AW.sg tt_ok0 [(13, vb (decide (x6 < (i64.wrap (p1.tdiv 64)))))] [] [] 8 [hn, hn, ho (p := (64 : Int) ≠ 0) (by decide)] (by kernel_rfl) ?_
  refine AW.co h (by kernel_rfl) (fun c15 h => ?_) (fun c15 h => ?_)
  ·
   refine AW.skip (AW.tn ?_)
   refine AW.seq (AW.block ?_)
   obtain ⟨y16, y17, e18, h⟩ := bind2_some h
   refine AW.sg tt_ok0 [(7, vu64 y16)] [0] [(0, .box 66 [cl 1 Ri64 y17.list, ci64 y17.at_, cu64 y17.state])] 10 [hn, hl [0] [] 0 (rl_make_Deck_Word_con (⟨x7, x8, x9⟩ : S_recordlinkmake_Deck) (y16, y17) e18)] (by kernel_rfl) ?_
   refine AW.seq ?_
   refine AW.join (ι := Int × (List Int) × Int × Int) (fun v => ⟨[(0, .c (.ptr 0 3 0 0)), (1, vi64 p1), (4, .c (.ptr 1 2 0 0)), (5, .c (.ptr 2 2 0 0)), (6, vi64 x6), (7, vu64 v.1)], [(0, .box 66 [cl 1 Ri64 v.2.1, ci64 v.2.2.1, cu64 v.2.2.2]), (1, .box 29 [ci64 0, .t (.v (.slice none 0 0))]), (2, .box 29 [ci64 p1, .ref 3 1 0 x10.length]), (3, .row 33 false 1 x10.length (Ru64 x10))], 4⟩) (fun v : Int × (List Int) × Int × Int => rl_make_Deck_Bits_k2 x6 x10 v.1 v.2.1 v.2.2.1 v.2.2.2 = some o) (fun v h => ?_) ?_
   ·
    obtain ⟨x19, x20, x21, x22⟩ := v
    replace h : rl_make_Deck_Bits_k2 x6 x10 x19 x20 x21 x22 = some o := h
    unfold rl_make_Deck_Bits_k2 at h
    refine AW.tn ?_
    obtain ⟨g23, h⟩ := ifc h
    refine AW.rg tt_ok0 [] [2, 3, 7, 8] [(2, .box 29 [ci64 p1, .ref 8 1 0 ((x10 ++ ([x19] : List Int)).length)]), (8, .row 33 false 1 (x10 ++ ([x19] : List Int)).length (Ru64 (x10 ++ ([x19] : List Int))))] 11 [hn, hn, hn, hlit 0 Eu64 1 (fun _ => rfl) ([x19] : List Int), happ 0 Eu64 1 8 x10 ([x19] : List Int) g23 (by decide)] (by kernel_rfl) ?_
    refine AW.inBlock_normal (AW.tn ?_)
    refine AW.rg tt_ok0 [(6, vi64 (i64.wrap (x6 + 1)))] [] [] 14 [] (by kernel_rfl) ?_
    exact lpn h (conv_re [(0, 0), (1, 1), (2, 2), (3, 8)] (by kernel_rfl))
   ·
    obtain ⟨y24, y25, e26, h⟩ := bind2_some h
    refine AW.sg tt_ok0 [(19, vi64 y24)] [0] [(0, .box 66 [cl 1 Ri64 y25.list, ci64 y25.at_, cu64 y25.state])] 11 [hn, hl [0] [] 0 (rl_make_Deck_Next_con y17 4 (y24, y25) e26)] (by kernel_rfl) ?_
    refine AW.block ?_
    refine AW.sg tt_ok0 [(20, vb (y24 == 0))] [] [] 13 [] (by kernel_rfl) ?_
    refine AW.co h (by kernel_rfl) (fun c27 h => ?_) (fun c27 h => ?_)
    ·
     obtain ⟨y28, y29, e30, h⟩ := bind2_some h
     obtain ⟨y31, y32, e33, h⟩ := bind2_some h
     refine AW.rg tt_ok0 [(7, vu64 (iand .u64 y16 (iand .u64 y28 y31)))] [0] [(0, .box 66 [cl 1 Ri64 y32.list, ci64 y32.at_, cu64 y32.state])] 19 [hn, hn, hl [0] [] 0 (rl_make_Deck_Word_con y25 (y28, y29) e30), hn, hl [0] [] 0 (rl_make_Deck_Word_con y29 (y31, y32) e33)] (by kernel_rfl) ?_
     refine AW.inBlock_normal ?_
     exact jl (iand .u64 y16 (iand .u64 y28 y31), y32.list, y32.at_, y32.state) h (conv_re [(0, 0), (1, 1), (2, 2), (3, 3)] (by kernel_rfl))
    ·
     refine AW.sg tt_ok0 [(29, vb (y24 == 1))] [] [] 15 [] (by kernel_rfl) ?_
     refine AW.co h (by kernel_rfl) (fun c34 h => ?_) (fun c34 h => ?_)
     ·
      refine AW.rg tt_ok0 [(7, vu64 0)] [] [] 16 [] (by kernel_rfl) ?_
      refine AW.inBlock_normal ?_
      exact jl (0, y25.list, y25.at_, y25.state) h (conv_re [(0, 0), (1, 1), (2, 2), (3, 3)] (by kernel_rfl))
     ·
      refine AW.skip (AW.inBlock_normal ?_)
      exact jl (y16, y25.list, y25.at_, y25.state) h (conv_re [(0, 0), (1, 1), (2, 2), (3, 3)] (by kernel_rfl))
  ·
   refine AW.exit (AW.thenQ_exit ?_)
   exact lpo h rfl (conv_re [(0, 0), (1, 1), (2, 2), (3, 3)] (by kernel_rfl))
 ·
  show (_ : Exit → St → Prop) (.exit 0) _
  refine AW.inBlock_hit (AW.tn ?_)
  refine AW.sg tt_ok0 [] [1] [(1, .box 29 [ci64 p1, .ref 3 1 0 x38.length])] 6 [] (by kernel_rfl) ?_
  refine AW.ret ?_
  obtain rfl := some_inj h
  exact fn0 (.inr rfl) [(0, 0), (1, 3)] 2 (.agg [ci64 p1, .ref 3 1 0 x38.length]) (by kernel_rfl)
/-! recordlink/recordlinkref09.length -/
noncomputable def rl_ref09_length_k1 (x1 : Bool) : Option Bool := some x1
noncomputable def rl_ref09_length (p0 : Int) : Option Bool := if (decide (p0 ≥ 64)) = true then (if (decide (p0 ≤ 512)) = true then (rl_ref09_length_k1 ((p0.tmod 64) == 0)) else (rl_ref09_length_k1 false)) else (rl_ref09_length_k1 false)
set_option maxRecDepth 100000 in
theorem rl_ref09_length_con (p0 : Int) (r : Bool) (h : rl_ref09_length p0 = some r) : Con Try.prog 67 [vi64 p0] [] (vb r) [] := by
 refine con_of tt_ok0 0 Try.func67 (by kernel_rfl) rfl (by kernel_rfl) (fun base X _ => AW.post ?_)
 unfold rl_ref09_length at h
 refine AW.sg tt_ok0 [] [] [] 1 [] (by kernel_rfl) ?_
 refine AW.seq ?_
 refine AW.join (ι := Bool) (fun v => ⟨[(2, vb v)], [], 0⟩) (fun v : Bool => rl_ref09_length_k1 v = some r) (fun x1 h => ?_) ?_
 ·
  unfold rl_ref09_length_k1 at h
  refine AW.tn (AW.ret ?_)
  obtain rfl := some_inj h
  exact fn0 (.inr rfl) [] 0 (vb x1) (by kernel_rfl)
 ·
  rcases ifs h with ⟨c2, h⟩ | ⟨c2, h⟩
  ·
   rcases ifs h with ⟨c3, h⟩ | ⟨c3, h⟩
   ·
    refine AW.rg tt_ok0 [(2, vb ((p0.tmod 64) == 0))] [] [] 13 [hn, ht c2, hn, hn, ht c3, hn, hn, hn, ho (p := (64 : Int) ≠ 0) (by decide)] (by kernel_rfl) ?_
    exact jl ((p0.tmod 64) == 0) h (conv_re [] (by kernel_rfl))
   ·
    refine AW.rg tt_ok0 [(2, vb false)] [] [] 13 [hn, ht c2, hn, hn, hf c3] (by kernel_rfl) ?_
    exact jl false h (conv_re [] (by kernel_rfl))
  ·
   refine AW.rg tt_ok0 [(2, vb false)] [] [] 13 [hn, hf c2] (by kernel_rfl) ?_
   exact jl false h (conv_re [] (by kernel_rfl))
/-! recordlink/recordlinkref09.New -/
noncomputable def rl_ref09_New (p0 : Int) : Option (S_api_Bits × Int) := (rl_ref09_length p0).bind fun y1 => (if (!y1) = true then (some ((⟨0, ([] : List Int)⟩ : S_api_Bits), 2)) else (if 0 ≤ (i64.wrap (p0.tdiv 64)) then (if (i64.wrap (p0.tdiv 64)) ≤ 1099511627776 then (some ((⟨p0, (List.replicate ((i64.wrap (p0.tdiv 64)).toNat) (0 : Int))⟩ : S_api_Bits), 0)) else none) else none))
set_option maxRecDepth 100000 in
theorem rl_ref09_New_con (p0 : Int) (r : S_api_Bits × Int) (h : rl_ref09_New p0 = some r) : Con Try.prog 40 [vi64 p0] [] (.tup [.agg [ci64 r.1.Length, .ref 0 1 0 r.1.Words.length], vi64 r.2]) [(0, .row 33 false 1 r.1.Words.length (Ru64 r.1.Words))] := by
 refine con_of tt_ok0 0 Try.func40 (by kernel_rfl) rfl (by kernel_rfl) (fun base X _ => AW.post ?_)
 unfold rl_ref09_New at h
 refine AW.sg tt_ok0 [(2, .c (.ptr 0 2 0 0))] [0] [(0, .box 29 [ci64 0, .t (.v (.slice none 0 0))])] 2 [] (by kernel_rfl) ?_
 refine AW.seq ?_
 obtain ⟨y1, e2, h⟩ := bnd_some h
 refine AW.sg tt_ok0 [(6, vb (!y1))] [] [] 4 [hn, hk (rl_ref09_length_con p0 y1 e2)] (by kernel_rfl) ?_
 refine AW.co h (by kernel_rfl) (fun c3 h => ?_) (fun c3 h => ?_)
 ·
  refine AW.sg tt_ok0 [(3, vi64 2)] [0] [(0, .box 29 [ci64 0, .t (.v (.slice none 0 0))])] 7 [] (by kernel_rfl) ?_
  refine AW.ret (AW.tr ?_)
  obtain rfl := some_inj h
  exact fnR (.inr rfl) [(0, 7)] 1 (.tup [.agg [ci64 0, .ref 7 1 0 (([] : List Int).length)], vi64 2]) (conv_adoptB (id := 0) (ty0 := 29) (cs := [ci64 0, .t (.v (.slice none 0 0))]) 1 (ty := 33) (sz := 1) (n := ([] : List Int).length) (f := Ru64 ([] : List Int)) (by kernel_rfl) (by kernel_rfl) rfl) (by kernel_rfl)
 ·
  refine AW.skip (AW.tn ?_)
  obtain ⟨g4, g5, h⟩ := ifd h
  refine AW.sg tt_ok0 [(3, vi64 0)] [0, 7] [(0, .box 29 [ci64 p0, .ref 7 1 0 ((List.replicate ((i64.wrap (p0.tdiv 64)).toNat) (0 : Int)).length)]), (7, .row 33 false 1 (List.replicate ((i64.wrap (p0.tdiv 64)).toNat) (0 : Int)).length (Ru64 (List.replicate ((i64.wrap (p0.tdiv 64)).toNat) (0 : Int))))] 11 [hn, hn, ho (p := (64 : Int) ≠ 0) (by decide), hmk 0 Eu64 1 8 [.int .u64 0] rfl rfl (i64.wrap (p0.tdiv 64)) (i64.wrap (p0.tdiv 64)) g4 (Int.le_refl _) g5 (by decide)] (by kernel_rfl) ?_
  refine AW.ret ?_
  obtain rfl := some_inj h
  exact fn0 (.inr rfl) [(0, 7)] 1 (.tup [.agg [ci64 p0, .ref 7 1 0 ((List.replicate ((i64.wrap (p0.tdiv 64)).toNat) (0 : Int)).length)], vi64 0]) (by kernel_rfl)
/-! recordlink/recordlinkref09.order -/
noncomputable def rl_ref09_order (p0 : Int) (p1 : Int) : Option Int := if (decide (p0 < p1)) = true then (some (-1)) else (if (decide (p0 > p1)) = true then (some 1) else (some 0))
set_option maxRecDepth 100000 in
theorem rl_ref09_order_con (p0 : Int) (p1 : Int) (r : Int) (h : rl_ref09_order p0 p1 = some r) : Con Try.prog 69 [vi64 p0, vi64 p1] [] (vi64 r) [] := by
 refine con_of tt_ok0 0 Try.func69 (by kernel_rfl) rfl (by kernel_rfl) (fun base X _ => AW.post ?_)
 unfold rl_ref09_order at h
 refine AW.sg tt_ok0 [] [] [] 1 [] (by kernel_rfl) ?_
 refine AW.seq ?_
 refine AW.sg tt_ok0 [(7, vb (decide (p0 < p1)))] [] [] 4 [] (by kernel_rfl) ?_
 refine AW.co h (by kernel_rfl) (fun c1 h => ?_) (fun c1 h => ?_)
 ·
  refine AW.sg tt_ok0 [(4, vi64 (-1))] [] [] 5 [] (by kernel_rfl) ?_
  refine AW.ret (AW.tr ?_)
  obtain rfl := some_inj h
  exact fn0 (.inr rfl) [] 0 (vi64 (-1)) (by kernel_rfl)
 ·
  refine AW.skip (AW.tn (AW.seq ?_))
  refine AW.sg tt_ok0 [(10, vb (decide (p0 > p1)))] [] [] 7 [] (by kernel_rfl) ?_
  refine AW.co h (by kernel_rfl) (fun c2 h => ?_) (fun c2 h => ?_)
  ·
   refine AW.sg tt_ok0 [(4, vi64 1)] [] [] 8 [] (by kernel_rfl) ?_
   refine AW.ret (AW.tr ?_)
   obtain rfl := some_inj h
   exact fn0 (.inr rfl) [] 0 (vi64 1) (by kernel_rfl)
  ·
   refine AW.skip (AW.tn ?_)
   refine AW.sg tt_ok0 [(4, vi64 0)] [] [] 8 [] (by kernel_rfl) ?_
   refine AW.ret ?_
   obtain rfl := some_inj h
   exact fn0 (.inr rfl) [] 0 (vi64 0) (by kernel_rfl)
/-! recordlink/recordlinkref09.Compare -/
noncomputable def rl_ref09_Compare_l1 (p0 : S_api_Bits) (p1 : S_api_Bits) (x8 : Int) : Option (Int ⊕ (Unit ⊕ Int)) := if (decide (x8 < ((p0.Words.length : Nat) : Int))) = true then (if 0 ≤ x8 then (if x8 < ((p0.Words.length : Nat) : Int) then (if x8 < ((p1.Words.length : Nat) : Int) then (if (decide ((p0.Words.getD x8.toNat 0) < (p1.Words.getD x8.toNat 0))) = true then (some (.inr (.inr (-1)))) else (if (decide ((p0.Words.getD x8.toNat 0) > (p1.Words.getD x8.toNat 0))) = true then (some (.inr (.inr 1))) else (some (.inl (i64.wrap (x8 + 1)))))) else none) else none) else none) else (some (.inr (.inl ())))
noncomputable def rl_ref09_Compare_a2 : Option Int := some 0
noncomputable def rl_ref09_Compare_a3 (x16 : Int) : Option Int := some x16
noncomputable def rl_ref09_Compare (p0 : S_api_Bits) (p1 : S_api_Bits) : Option Int := (rl_ref09_order p0.Length p1.Length).bind fun y1 => (if (y1 != 0) = true then (some y1) else ((rl_ref09_order ((p0.Words.length : Nat) : Int) ((p1.Words.length : Nat) : Int)).bind fun y4 => (if (y4 != 0) = true then (some y4) else (bindE (loop (fun v : Int => rl_ref09_Compare_l1 p0 p1 v) 0) (fun t => rl_ref09_Compare_a2) (fun t => rl_ref09_Compare_a3 t)))))
set_option maxRecDepth 100000 in
theorem rl_ref09_Compare_con (p0 : S_api_Bits) (p1 : S_api_Bits) (r : Int) (h : rl_ref09_Compare p0 p1 = some r) : Con Try.prog 44 [.agg [ci64 p0.Length, cl 1 Ru64 p0.Words], .agg [ci64 p1.Length, cl 1 Ru64 p1.Words]] [] (vi64 r) [] := by
 refine con_of tt_ok0 0 Try.func44 (by kernel_rfl) rfl (by kernel_rfl) (fun base X _ => AW.post ?_)
 unfold rl_ref09_Compare at h
 refine AW.sg tt_ok0 [(3, .c (.ptr 1 2 0 0)), (2, .c (.ptr 0 2 0 0))] [0, 1] [(1, .box 29 [ci64 p1.Length, cl 1 Ru64 p1.Words]), (0, .box 29 [ci64 p0.Length, cl 1 Ru64 p0.Words])] 3 [] (by kernel_rfl) ?_
 refine AW.seq ?_
 obtain ⟨y1, e2, h⟩ := bnd_some h
 refine AW.sg tt_ok0 [(5, vi64 y1)] [] [] 8 [hn, hn, hn, hn, hk (rl_ref09_order_con p0.Length p1.Length y1 e2)] (by kernel_rfl) ?_
 refine AW.sg tt_ok0 [(14, vb (y1 != 0))] [] [] 10 [] (by kernel_rfl) ?_
 refine AW.co h (by kernel_rfl) (fun c3 h => ?_) (fun c3 h => ?_)
 ·
  refine AW.sg tt_ok0 [(4, vi64 y1)] [] [] 12 [] (by kernel_rfl) ?_
  refine AW.ret (AW.tr ?_)
  obtain rfl := some_inj h
  exact fn0 (.inr rfl) [] 0 (vi64 y1) (by kernel_rfl)
 ·
  refine AW.skip (AW.tn (AW.seq ?_))
  obtain ⟨y4, e5, h⟩ := bnd_some h
  refine AW.sg tt_ok0 [(6, vi64 y4)] [] [] 17 [hn, hn, hn, hn, hn, hn, hk (rl_ref09_order_con ((p0.Words.length : Nat) : Int) ((p1.Words.length : Nat) : Int) y4 e5)] (by kernel_rfl) ?_
  refine AW.sg tt_ok0 [(24, vb (y4 != 0))] [] [] 19 [] (by kernel_rfl) ?_
  refine AW.co h (by kernel_rfl) (fun c6 h => ?_) (fun c6 h => ?_)
  ·
   refine AW.sg tt_ok0 [(4, vi64 y4)] [] [] 21 [] (by kernel_rfl) ?_
   refine AW.ret (AW.tr ?_)
   obtain rfl := some_inj h
   exact fn0 (.inr rfl) [] 0 (vi64 y4) (by kernel_rfl)
  ·
   refine AW.skip (AW.tn (AW.seq ?_))
   refine AW.sg tt_ok0 [(7, vi64 0)] [] [] 20 [] (by kernel_rfl) ?_
   refine AW.block ?_
   refine AW.lpE h (fun v => ⟨[(2, .c (.ptr 0 2 0 0)), (3, .c (.ptr 1 2 0 0)), (7, vi64 v)], [(0, .box 29 [ci64 p0.Length, cl 1 Ru64 p0.Words]), (1, .box 29 [ci64 p1.Length, cl 1 Ru64 p1.Words])], 2⟩) (fun t => (.exit 0, ⟨[], [], 0⟩)) (fun t => (.ret, ⟨[(4, vi64 t)], [], 0⟩)) (conv_re [(0, 0), (1, 1)] (by kernel_rfl)) (fun _ => tv) (fun _ => tv) ?_ (fun t h => ?_) (fun x16 h => ?_)
   ·
    clear h
    intro x8 o h
    unfold rl_ref09_Compare_l1 at h
    refine AW.seq ?_
    refine AW.sg tt_ok0 [(30, vb (decide (x8 < ((p0.Words.length : Nat) : Int))))] [] [] 7 [] (by kernel_rfl) ?_
    refine AW.co h (by kernel_rfl) (fun c10 h => ?_) (fun c10 h => ?_)
    ·
     refine AW.skip (AW.tn ?_)
     refine AW.seq (AW.block (AW.seq ?_))
     obtain ⟨g11, g12, h⟩ := ifd h
     obtain ⟨g13, h⟩ := ifc h
     refine AW.sd tt_ok0 mo0 [] [(43, vb (decide ((p0.Words.getD x8.toNat 0) < (p1.Words.getD x8.toNat 0))))] [] 18 [hn, hn, hn, hq g11 g12, hn, hn, hn, hn, hq g11 g13] (by kernel_rfl) ?_
     refine AW.co h (by kernel_rfl) (fun c14 h => ?_) (fun c14 h => ?_)
     ·
      refine AW.sg tt_ok0 [(4, vi64 (-1))] [] [] 19 [] (by kernel_rfl) ?_
      refine AW.ret (AW.tr ?_)
      refine AW.inBlock_ret (AW.tr ?_)
      exact lpo h rfl (conv_re [] (by kernel_rfl))
     ·
      refine AW.skip (AW.tn ?_)
      refine AW.sd tt_ok0 mo0 [] [(54, vb (decide ((p0.Words.getD x8.toNat 0) > (p1.Words.getD x8.toNat 0))))] [] 29 [hn, hn, hn, hq g11 g12, hn, hn, hn, hn, hq g11 g13] (by kernel_rfl) ?_
      refine AW.co h (by kernel_rfl) (fun c15 h => ?_) (fun c15 h => ?_)
      ·
       refine AW.sg tt_ok0 [(4, vi64 1)] [] [] 30 [] (by kernel_rfl) ?_
       refine AW.ret (AW.inBlock_ret (AW.tr ?_))
       exact lpo h rfl (conv_re [] (by kernel_rfl))
      ·
       refine AW.skip (AW.inBlock_normal (AW.tn ?_))
       refine AW.rg tt_ok0 [(7, vi64 (i64.wrap (x8 + 1)))] [] [] 32 [] (by kernel_rfl) ?_
       exact lpn h (conv_re [(0, 0), (1, 1)] (by kernel_rfl))
    ·
     refine AW.exit (AW.thenQ_exit ?_)
     exact lpo h rfl (conv_re [] (by kernel_rfl))
   ·
    replace h : rl_ref09_Compare_a2 = some r := h
    unfold rl_ref09_Compare_a2 at h
    show (_ : Exit → St → Prop) (.exit 0) _
    refine AW.inBlock_hit (AW.tn ?_)
    refine AW.sg tt_ok0 [(4, vi64 0)] [] [] 1 [] (by kernel_rfl) ?_
    refine AW.ret ?_
    obtain rfl := some_inj h
    exact fn0 (.inr rfl) [] 0 (vi64 0) (by kernel_rfl)
   ·
    unfold rl_ref09_Compare_a3 at h
    show (_ : Exit → St → Prop) (.ret) _
    refine AW.inBlock_ret (AW.tr ?_)
    obtain rfl := some_inj h
    exact fn0 (.inr rfl) [] 0 (vi64 x16) (by kernel_rfl)
/-! recordlink/recordlinklaw09.same -/
noncomputable def rl_law09_same (p0 : S_api_Bits) (p1 : S_api_Bits) : Option Bool := (rl_ref09_Compare p0 p1).bind fun y1 => (some (y1 == 0))
set_option maxRecDepth 100000 in
theorem rl_law09_same_con (p0 : S_api_Bits) (p1 : S_api_Bits) (r : Bool) (h : rl_law09_same p0 p1 = some r) : Con Try.prog 20 [.agg [ci64 p0.Length, cl 1 Ru64 p0.Words], .agg [ci64 p1.Length, cl 1 Ru64 p1.Words]] [] (vb r) [] := by
 refine con_of tt_ok0 0 Try.func20 (by kernel_rfl) rfl (by kernel_rfl) (fun base X _ => AW.post ?_)
 unfold rl_law09_same at h
 refine AW.sg tt_ok0 [(3, .c (.ptr 1 2 0 0)), (2, .c (.ptr 0 2 0 0))] [0, 1] [(1, .box 29 [ci64 p1.Length, cl 1 Ru64 p1.Words]), (0, .box 29 [ci64 p0.Length, cl 1 Ru64 p0.Words])] 3 [] (by kernel_rfl) ?_
 obtain ⟨y1, e2, h⟩ := bnd_some h
 refine AW.sg tt_ok0 [(4, vb (y1 == 0))] [] [] 7 [hn, hn, hk (rl_ref09_Compare_con p0 p1 y1 e2)] (by kernel_rfl) ?_
 refine AW.ret ?_
 obtain rfl := some_inj h
 exact fn0 (.inr rfl) [] 0 (vb (y1 == 0)) (by kernel_rfl)
def ES_api_Bits (x : S_api_Bits) : List T := [.v (.int .i64 x.Length), .tree x.Words.length 1 (Ru64 x.Words)]
def RS_api_Bits (xs : List S_api_Bits) : Nat → Nat → T := rowL dS_api_Bits ES_api_Bits xs
/-! recordlink/bitset.And$1 -/
noncomputable def bitset_And_f1 (p0 : Int) (p1 : Int) : Option Int := some (iand .u64 p0 p1)
set_option maxRecDepth 100000 in
theorem bitset_And_f1_con (p0 : Int) (p1 : Int) (r : Int) (h : bitset_And_f1 p0 p1 = some r) : Con Try.prog 59 [vu64 p0, vu64 p1] [] (vu64 r) [] := by
 refine con_of tt_ok0 0 Try.func59 (by kernel_rfl) rfl (by kernel_rfl) (fun base X _ => AW.post ?_)
 unfold bitset_And_f1 at h
 refine AW.sg tt_ok0 [] [] [] 1 [] (by kernel_rfl) ?_
 refine AW.sg tt_ok0 [(4, vu64 (iand .u64 p0 p1))] [] [] 5 [] (by kernel_rfl) ?_
 refine AW.ret ?_
 obtain rfl := some_inj h
 exact fn0 (.inr rfl) [] 0 (vu64 (iand .u64 p0 p1)) (by kernel_rfl)
/-! recordlink/bitset.both -/
noncomputable def bitset_both_bitset_And_f1_l2 (p0 : S_api_Bits) (p1 : S_api_Bits) (x7 : Int) (x8 : List Int) : Option ((Int × (List Int)) ⊕ (List Int)) := if (decide (x7 < ((p0.Words.length : Nat) : Int))) = true then (if 0 ≤ x7 then (if x7 < ((p0.Words.length : Nat) : Int) then (if x7 < ((p1.Words.length : Nat) : Int) then ((bitset_And_f1 (p0.Words.getD x7.toNat 0) (p1.Words.getD x7.toNat 0)).bind fun y14 => (if x7 < (x8.length : Int) then (some (.inl (i64.wrap (x7 + 1), (x8.set (0 + x7.toNat) y14)))) else none)) else none) else none) else none) else (some (.inr x8))
noncomputable def bitset_both_bitset_And_f1_k1 (p0 : S_api_Bits) (p1 : S_api_Bits) (x1 : Bool) : Option (S_api_Bits × Int) := if x1 = true then (some ((⟨0, ([] : List Int)⟩ : S_api_Bits), 8)) else (if 0 ≤ ((p0.Words.length : Nat) : Int) then (if ((p0.Words.length : Nat) : Int) ≤ 1099511627776 then ((loop (fun v : Int × (List Int) => bitset_both_bitset_And_f1_l2 p0 p1 v.1 v.2) (0, (List.replicate (((p0.Words.length : Nat) : Int).toNat) (0 : Int)))).bind fun x17 => (some ((⟨p0.Length, x17⟩ : S_api_Bits), 0))) else none) else none)
noncomputable def bitset_both_bitset_And_f1 (p0 : S_api_Bits) (p1 : S_api_Bits) : Option (S_api_Bits × Int) := (bitset_Valid p0).bind fun y19 => (if (!y19) = true then (bitset_both_bitset_And_f1_k1 p0 p1 true) else ((bitset_Valid p1).bind fun y22 => (if (!y22) = true then (bitset_both_bitset_And_f1_k1 p0 p1 true) else (bitset_both_bitset_And_f1_k1 p0 p1 (p0.Length != p1.Length)))))
set_option maxRecDepth 100000 in
theorem bitset_both_bitset_And_f1_con (p0 : S_api_Bits) (p1 : S_api_Bits) (r : S_api_Bits × Int) (h : bitset_both_bitset_And_f1 p0 p1 = some r) : Con Try.prog 58 [.agg [ci64 p0.Length, cl 1 Ru64 p0.Words], .agg [ci64 p1.Length, cl 1 Ru64 p1.Words], .c (.t (.v (.func (.func 59) #[] #[])))] [] (.tup [.agg [ci64 r.1.Length, .ref 0 1 0 r.1.Words.length], vi64 r.2]) [(0, .row 33 false 1 r.1.Words.length (Ru64 r.1.Words))] := by
 refine con_of tt_ok0 0 Try.func58 (by kernel_rfl) rfl (by kernel_rfl) (fun base X _ => AW.post ?_)
 unfold bitset_both_bitset_And_f1 at h
 refine AW.sg tt_ok0 [(6, .c (.ptr 2 2 0 0)), (4, .c (.ptr 1 2 0 0)), (3, .c (.ptr 0 2 0 0))] [0, 1, 2] [(2, .box 29 [ci64 0, .t (.v (.slice none 0 0))]), (1, .box 29 [ci64 p1.Length, cl 1 Ru64 p1.Words]), (0, .box 29 [ci64 p0.Length, cl 1 Ru64 p0.Words])] 4 [] (by kernel_rfl) ?_
 refine AW.seq (AW.seq ?_)
 refine AW.join (ι := Bool) (fun v => ⟨[(2, .c (.t (.v (.func (.func 59) #[] #[])))), (3, .c (.ptr 0 2 0 0)), (4, .c (.ptr 1 2 0 0)), (6, .c (.ptr 2 2 0 0)), (25, vb v)], [(0, .box 29 [ci64 p0.Length, cl 1 Ru64 p0.Words]), (1, .box 29 [ci64 p1.Length, cl 1 Ru64 p1.Words]), (2, .box 29 [ci64 0, .t (.v (.slice none 0 0))])], 3⟩) (fun v : Bool => bitset_both_bitset_And_f1_k1 p0 p1 v = some r) (fun x1 h => ?_) ?_
 ·
  unfold bitset_both_bitset_And_f1_k1 at h
  refine AW.tn ?_
  refine AW.co h (by kernel_rfl) (fun c2 h => ?_) (fun c2 h => ?_)
  ·
   refine AW.sg tt_ok0 [(7, vi64 8)] [2] [(2, .box 29 [ci64 0, .t (.v (.slice none 0 0))])] 6 [] (by kernel_rfl) ?_
   refine AW.ret (AW.tr ?_)
   obtain rfl := some_inj h
   exact fnR (.inr rfl) [(0, 6)] 1 (.tup [.agg [ci64 0, .ref 6 1 0 (([] : List Int).length)], vi64 8]) (conv_adoptB (id := 2) (ty0 := 29) (cs := [ci64 0, .t (.v (.slice none 0 0))]) 1 (ty := 33) (sz := 1) (n := ([] : List Int).length) (f := Ru64 ([] : List Int)) (by kernel_rfl) (by kernel_rfl) rfl) (by kernel_rfl)
  ·
   refine AW.skip (AW.tn ?_)
   obtain ⟨g3, g4, h⟩ := ifd h
   refine AW.sd tt_ok0 mo0 [[], [], [], [], [], [8], [], [10], [10]] [(8, .c (.ptr 10 2 0 0))] [(10, .box 29 [ci64 p0.Length, .ref 8 1 0 ((List.replicate (((p0.Words.length : Nat) : Int).toNat) (0 : Int)).length)]), (8, .row 33 false 1 (List.replicate (((p0.Words.length : Nat) : Int).toNat) (0 : Int)).length (Ru64 (List.replicate (((p0.Words.length : Nat) : Int).toNat) (0 : Int))))] 12 [hn, hn, hn, hn, hn, hmk 0 Eu64 1 8 [.int .u64 0] rfl rfl ((p0.Words.length : Nat) : Int) ((p0.Words.length : Nat) : Int) g3 (Int.le_refl _) g4 (by decide)] (by kernel_rfl) ?_
   refine AW.seq ?_
   refine AW.sg tt_ok0 [(37, vi64 0), (36, vi64 ((p0.Words.length : Nat) : Int)), (35, vl 1 Ru64 p0.Words)] [] [] 16 [] (by kernel_rfl) ?_
   refine AW.block ?_
   obtain ⟨x17, l18, h⟩ := bnd_some h
   refine AW.lp l18 (fun v => ⟨[(2, .c (.t (.v (.func (.func 59) #[] #[])))), (4, .c (.ptr 0 2 0 0)), (6, .c (.ptr 1 2 0 0)), (8, .c (.ptr 2 2 0 0)), (35, vl 1 Ru64 p0.Words), (36, vi64 ((p0.Words.length : Nat) : Int)), (37, vi64 v.1)], [(0, .box 29 [ci64 p1.Length, cl 1 Ru64 p1.Words]), (1, .box 29 [ci64 0, .t (.v (.slice none 0 0))]), (2, .box 29 [ci64 p0.Length, .ref 3 1 0 v.2.length]), (3, .row 33 false 1 v.2.length (Ru64 v.2))], 4⟩) (fun t : List Int => (.exit 0, ⟨[(6, .c (.ptr 0 2 0 0)), (8, .c (.ptr 1 2 0 0))], [(0, .box 29 [ci64 0, .t (.v (.slice none 0 0))]), (1, .box 29 [ci64 p0.Length, .ref 2 1 0 t.length]), (2, .row 33 false 1 t.length (Ru64 t))], 3⟩)) (conv_re [(0, 1), (1, 2), (2, 10), (3, 8)] (by kernel_rfl)) (fun _ => tv) ?_ ?_
   ·
    clear l18 h
    intro v o h
    obtain ⟨x7, x8⟩ := v
    replace h : bitset_both_bitset_And_f1_l2 p0 p1 x7 x8 = some o := h
    unfold bitset_both_bitset_And_f1_l2 at h
    refine AW.sg tt_ok0 [(38, vb (decide (x7 < ((p0.Words.length : Nat) : Int))))] [] [] 5 [] (by kernel_rfl) ?_
    refine AW.seq ?_
    refine AW.co h (by kernel_rfl) (fun c10 h => ?_) (fun c10 h => ?_)
    ·
     refine AW.skip (AW.tn ?_)
     refine AW.seq (AW.block ?_)
     obtain ⟨g11, g12, h⟩ := ifd h
     refine AW.sg tt_ok0 [(10, vu64 (p0.Words.getD x7.toNat 0)), (9, vi64 x7)] [] [] 10 [hn, hq g11 g12] (by kernel_rfl) ?_
     obtain ⟨g13, h⟩ := ifc h
     obtain ⟨y14, e15, h⟩ := bnd_some h
     obtain ⟨g16, h⟩ := ifc h
     refine AW.rd tt_ok0 mo0 [[], [], [], [], [], [], [], [], [], [], [], [], [3]] [] [(3, .row 33 false 1 x8.length (Ru64 (x8.set (0 + x7.toNat) y14)))] 22 [hn, hn, hn, hn, hn, hn, hn, hn, hq g11 g13, hn, hk (bitset_And_f1_con (p0.Words.getD x7.toNat 0) (p1.Words.getD x7.toNat 0) y14 e15), hq g11 g16, hset 0 Eu64 x8 (0 + x7.toNat) y14 (n := x8.length) (by have h1 : 0 ≤ x7 := g11; have h2 : x7 < (x8.length : Int) := g16; omega) rfl] (by kernel_rfl) ?_
     refine AW.inBlock_normal (AW.tn ?_)
     refine AW.rg tt_ok0 [(37, vi64 (i64.wrap (x7 + 1)))] [] [] 24 [] (by kernel_rfl) ?_
     exact lpn h (Conv.trans (conv_re (S' := ⟨[(37, vi64 (i64.wrap (x7 + 1))), (2, .c (.t (.v (.func (.func 59) #[] #[])))), (4, .c (.ptr 0 2 0 0)), (6, .c (.ptr 1 2 0 0)), (8, .c (.ptr 2 2 0 0)), (35, vl 1 Ru64 p0.Words), (36, vi64 ((p0.Words.length : Nat) : Int))], [(3, .row 33 false 1 x8.length (Ru64 (x8.set (0 + x7.toNat) y14))), (0, .box 29 [ci64 p1.Length, cl 1 Ru64 p1.Words]), (1, .box 29 [ci64 0, .t (.v (.slice none 0 0))]), (2, .box 29 [ci64 p0.Length, .ref 3 1 0 x8.length])], 24⟩) [(3, 3), (0, 0), (1, 1), (2, 2)] (by kernel_rfl)) (Conv.trans (conv_len (S' := ⟨[(37, vi64 (i64.wrap (x7 + 1))), (2, .c (.t (.v (.func (.func 59) #[] #[])))), (4, .c (.ptr 0 2 0 0)), (6, .c (.ptr 1 2 0 0)), (8, .c (.ptr 2 2 0 0)), (35, vl 1 Ru64 p0.Words), (36, vi64 ((p0.Words.length : Nat) : Int))], [(3, .row 33 false 1 (x8.set (0 + x7.toNat) y14).length (Ru64 (x8.set (0 + x7.toNat) y14))), (0, .box 29 [ci64 p1.Length, cl 1 Ru64 p1.Words]), (1, .box 29 [ci64 0, .t (.v (.slice none 0 0))]), (2, .box 29 [ci64 p0.Length, .ref 3 1 0 ((x8.set (0 + x7.toNat) y14).length)])], 24⟩) (by simp only [List.length_set])) (conv_re [(0, 0), (1, 1), (2, 2), (3, 3)] (by kernel_rfl))))
    ·
     refine AW.exit (AW.thenQ_exit ?_)
     exact lpo h rfl (conv_re [(0, 1), (1, 2), (2, 3)] (by kernel_rfl))
   ·
    show (_ : Exit → St → Prop) (.exit 0) _
    refine AW.inBlock_hit (AW.tn ?_)
    refine AW.sg tt_ok0 [(7, vi64 0)] [0] [(0, .box 29 [ci64 p0.Length, .ref 2 1 0 x17.length])] 6 [] (by kernel_rfl) ?_
    refine AW.ret ?_
    obtain rfl := some_inj h
    exact fn0 (.inr rfl) [(0, 2)] 1 (.tup [.agg [ci64 p0.Length, .ref 2 1 0 x17.length], vi64 0]) (by kernel_rfl)
 ·
  obtain ⟨y19, e20, h⟩ := bnd_some h
  rcases ifs h with ⟨c21, h⟩ | ⟨c21, h⟩
  ·
   refine AW.rg tt_ok0 [(25, vb true)] [] [] 18 [hn, hk (bitset_Valid_con p0 y19 e20), ht c21] (by kernel_rfl) ?_
   exact jl true h (conv_re [(0, 0), (1, 1), (2, 2)] (by kernel_rfl))
  ·
   obtain ⟨y22, e23, h⟩ := bnd_some h
   rcases ifs h with ⟨c24, h⟩ | ⟨c24, h⟩
   ·
    refine AW.rg tt_ok0 [(25, vb true)] [] [] 17 [hn, hk (bitset_Valid_con p0 y19 e20), hf c21, hn, hn, hk (bitset_Valid_con p1 y22 e23), ht c24] (by kernel_rfl) ?_
    exact jl true h (conv_re [(0, 0), (1, 1), (2, 2)] (by kernel_rfl))
   ·
    refine AW.rg tt_ok0 [(25, vb (p0.Length != p1.Length))] [] [] 17 [hn, hk (bitset_Valid_con p0 y19 e20), hf c21, hn, hn, hk (bitset_Valid_con p1 y22 e23), hf c24] (by kernel_rfl) ?_
    exact jl (p0.Length != p1.Length) h (conv_re [(0, 0), (1, 1), (2, 2)] (by kernel_rfl))
/-! recordlink/bitset.And -/
noncomputable def bitset_And (p0 : S_api_Bits) (p1 : S_api_Bits) : Option (S_api_Bits × Int) := bind2 (bitset_both_bitset_And_f1 p0 p1) fun y1 y2 => (some (y1, y2))
set_option maxRecDepth 100000 in
theorem bitset_And_con (p0 : S_api_Bits) (p1 : S_api_Bits) (r : S_api_Bits × Int) (h : bitset_And p0 p1 = some r) : Con Try.prog 29 [.agg [ci64 p0.Length, cl 1 Ru64 p0.Words], .agg [ci64 p1.Length, cl 1 Ru64 p1.Words]] [] (.tup [.agg [ci64 r.1.Length, .ref 0 1 0 r.1.Words.length], vi64 r.2]) [(0, .row 33 false 1 r.1.Words.length (Ru64 r.1.Words))] := by
 refine con_of tt_ok0 0 Try.func29 (by kernel_rfl) rfl (by kernel_rfl) (fun base X _ => AW.post ?_)
 unfold bitset_And at h
 refine AW.sg tt_ok0 [(4, .c (.ptr 2 2 0 0)), (3, .c (.ptr 1 2 0 0)), (2, .c (.ptr 0 2 0 0))] [0, 1, 2] [(2, .box 29 [ci64 0, .t (.v (.slice none 0 0))]), (1, .box 29 [ci64 p1.Length, cl 1 Ru64 p1.Words]), (0, .box 29 [ci64 p0.Length, cl 1 Ru64 p0.Words])] 4 [] (by kernel_rfl) ?_
 obtain ⟨y1, y2, e3, h⟩ := bind2_some h
 refine AW.sg tt_ok0 [(5, vi64 y2)] [2, 6] [(2, .box 29 [ci64 y1.Length, .ref 6 1 0 y1.Words.length]), (6, .row 33 false 1 y1.Words.length (Ru64 y1.Words))] 11 [hn, hn, hm [] [] 1 (bitset_both_bitset_And_f1_con p0 p1 (y1, y2) e3) ⟨rowL_flat Vu64 _ _ _, tv⟩] (by kernel_rfl) ?_
 refine AW.ret ?_
 obtain rfl := some_inj h
 exact fn0 (.inr rfl) [(0, 6)] 1 (.tup [.agg [ci64 y1.Length, .ref 6 1 0 y1.Words.length], vi64 y2]) (by kernel_rfl)
/-! recordlink/recordlinkref09.Valid -/
noncomputable def rl_ref09_Valid_k1 (x1 : Bool) : Option Bool := some x1
noncomputable def rl_ref09_Valid (p0 : S_api_Bits) : Option Bool := (rl_ref09_length p0.Length).bind fun y2 => (if y2 = true then (rl_ref09_Valid_k1 (((p0.Words.length : Nat) : Int) == (i64.wrap (p0.Length.tdiv 64)))) else (rl_ref09_Valid_k1 false))
set_option maxRecDepth 100000 in
theorem rl_ref09_Valid_con (p0 : S_api_Bits) (r : Bool) (h : rl_ref09_Valid p0 = some r) : Con Try.prog 50 [.agg [ci64 p0.Length, cl 1 Ru64 p0.Words]] [] (vb r) [] := by
 refine con_of tt_ok0 0 Try.func50 (by kernel_rfl) rfl (by kernel_rfl) (fun base X _ => AW.post ?_)
 unfold rl_ref09_Valid at h
 refine AW.sg tt_ok0 [(1, .c (.ptr 0 2 0 0))] [0] [(0, .box 29 [ci64 p0.Length, cl 1 Ru64 p0.Words])] 2 [] (by kernel_rfl) ?_
 refine AW.seq ?_
 refine AW.join (ι := Bool) (fun v => ⟨[(2, vb v)], [], 0⟩) (fun v : Bool => rl_ref09_Valid_k1 v = some r) (fun x1 h => ?_) ?_
 ·
  unfold rl_ref09_Valid_k1 at h
  refine AW.tn (AW.ret ?_)
  obtain rfl := some_inj h
  exact fn0 (.inr rfl) [] 0 (vb x1) (by kernel_rfl)
 ·
  obtain ⟨y2, e3, h⟩ := bnd_some h
  rcases ifs h with ⟨c4, hs⟩ | ⟨c4, hs⟩
  ·clear h; subst c4; have h := hs; clear hs
   refine AW.rg tt_ok0 [(2, vb (((p0.Words.length : Nat) : Int) == (i64.wrap (p0.Length.tdiv 64))))] [] [] 14 [hn, hn, hk (rl_ref09_length_con p0.Length true e3), hn, hn, hn, hn, hn, hn, ho (p := (64 : Int) ≠ 0) (by decide)] (by kernel_rfl) ?_
   exact jl (((p0.Words.length : Nat) : Int) == (i64.wrap (p0.Length.tdiv 64))) h (conv_re [] (by kernel_rfl))
  ·clear h; subst c4; have h := hs; clear hs
   refine AW.rg tt_ok0 [(2, vb false)] [] [] 14 [hn, hn, hk (rl_ref09_length_con p0.Length false e3)] (by kernel_rfl) ?_
   exact jl false h (conv_re [] (by kernel_rfl))
/-! recordlink/recordlinkref09.Copy -/
noncomputable def rl_ref09_Copy (p0 : S_api_Bits) : Option S_api_Bits := if 0 + p0.Words.length ≤ 1099511627776 then (some (⟨p0.Length, (([] : List Int) ++ p0.Words)⟩ : S_api_Bits)) else none
set_option maxRecDepth 100000 in
theorem rl_ref09_Copy_con (p0 : S_api_Bits) (r : S_api_Bits) (h : rl_ref09_Copy p0 = some r) : Con Try.prog 35 [.agg [ci64 p0.Length, cl 1 Ru64 p0.Words]] [] (.agg [ci64 r.Length, .ref 0 1 0 r.Words.length]) [(0, .row 33 false 1 r.Words.length (Ru64 r.Words))] := by
 refine con_of tt_ok0 0 Try.func35 (by kernel_rfl) rfl (by kernel_rfl) (fun base X _ => AW.post ?_)
 unfold rl_ref09_Copy at h
 refine AW.sg tt_ok0 [(2, .c (.ptr 1 2 0 0)), (1, .c (.ptr 0 2 0 0))] [0, 1] [(1, .box 29 [ci64 0, .t (.v (.slice none 0 0))]), (0, .box 29 [ci64 p0.Length, cl 1 Ru64 p0.Words])] 2 [] (by kernel_rfl) ?_
 obtain ⟨g1, h⟩ := ifc h
 refine AW.sd tt_ok0 mo0 [[], [], [], [], [6], [], [1]] [] [(1, .box 29 [ci64 p0.Length, .ref 6 1 0 ((([] : List Int) ++ p0.Words).length)]), (6, .row 33 false 1 (([] : List Int) ++ p0.Words).length (Ru64 (([] : List Int) ++ p0.Words)))] 9 [hn, hn, hn, hn, hr ((([] : List Int) ++ p0.Words).length) (Ru64 (([] : List Int) ++ p0.Words)) (p := (True) ∧ (True) ∧ ((0 + p0.Words.length ≤ 1099511627776) ∧ ((8 : Nat) ≤ 128)) ∧ (0 + p0.Words.length = (([] : List Int) ++ p0.Words).length ∧ ∀ i, i < (([] : List Int) ++ p0.Words).length → ∀ j, j < 1 → TLe ((appRow 0 (fun _ _ => .v undef) (Ru64 p0.Words)) i j) (Ru64 (([] : List Int) ++ p0.Words) i j))) (⟨tv, tv, ⟨g1, (by decide)⟩, rowT (app_row rfl rfl row_nil row_rfl)⟩)] (by kernel_rfl) ?_
 refine AW.ret ?_
 obtain rfl := some_inj h
 exact fn0 (.inr rfl) [(0, 6)] 1 (.agg [ci64 p0.Length, .ref 6 1 0 ((([] : List Int) ++ p0.Words).length)]) (by kernel_rfl)
/-! recordlink/recordlinkref09.combine -/
noncomputable def rl_ref09_combine_k3 (x7 : Int) (x11 : List Int) : Option ((Int × (List Int)) ⊕ (List Int)) := some (.inl (i64.wrap (x7 + 1), x11))
noncomputable def rl_ref09_combine_l2 (p1 : S_api_Bits) (p2 : Int) (x7 : Int) (x8 : List Int) : Option ((Int × (List Int)) ⊕ (List Int)) := if (decide (x7 < (x8.length : Int))) = true then (if (p2 == 0) = true then (if 0 ≤ x7 then (if x7 < (x8.length : Int) then (if x7 < ((p1.Words.length : Nat) : Int) then (rl_ref09_combine_k3 x7 (x8.set (0 + x7.toNat) (iand .u64 (x8.getD (0 + x7.toNat) 0) (p1.Words.getD x7.toNat 0)))) else none) else none) else none) else (if (p2 == 1) = true then (if 0 ≤ x7 then (if x7 < (x8.length : Int) then (if x7 < ((p1.Words.length : Nat) : Int) then (rl_ref09_combine_k3 x7 (x8.set (0 + x7.toNat) (ior .u64 (x8.getD (0 + x7.toNat) 0) (p1.Words.getD x7.toNat 0)))) else none) else none) else none) else (if 0 ≤ x7 then (if x7 < (x8.length : Int) then (if x7 < ((p1.Words.length : Nat) : Int) then (rl_ref09_combine_k3 x7 (x8.set (0 + x7.toNat) (ixor .u64 (x8.getD (0 + x7.toNat) 0) (p1.Words.getD x7.toNat 0)))) else none) else none) else none))) else (some (.inr x8))
noncomputable def rl_ref09_combine_k1 (p0 : S_api_Bits) (p1 : S_api_Bits) (p2 : Int) (x1 : Bool) : Option (S_api_Bits × Int) := if x1 = true then (some ((⟨0, ([] : List Int)⟩ : S_api_Bits), 8)) else ((rl_ref09_Copy p0).bind fun y3 => ((loop (fun v : Int × (List Int) => rl_ref09_combine_l2 p1 p2 v.1 v.2) (0, y3.Words)).bind fun x23 => (some ((⟨y3.Length, x23⟩ : S_api_Bits), 0))))
noncomputable def rl_ref09_combine (p0 : S_api_Bits) (p1 : S_api_Bits) (p2 : Int) : Option (S_api_Bits × Int) := (rl_ref09_Valid p0).bind fun y25 => (if (!y25) = true then (rl_ref09_combine_k1 p0 p1 p2 true) else ((rl_ref09_Valid p1).bind fun y28 => (if (!y28) = true then (rl_ref09_combine_k1 p0 p1 p2 true) else (rl_ref09_combine_k1 p0 p1 p2 (p0.Length != p1.Length)))))
set_option maxRecDepth 100000 in
theorem rl_ref09_combine_con (p0 : S_api_Bits) (p1 : S_api_Bits) (p2 : Int) (r : S_api_Bits × Int) (h : rl_ref09_combine p0 p1 p2 = some r) : Con Try.prog 68 [.agg [ci64 p0.Length, cl 1 Ru64 p0.Words], .agg [ci64 p1.Length, cl 1 Ru64 p1.Words], vi64 p2] [] (.tup [.agg [ci64 r.1.Length, .ref 0 1 0 r.1.Words.length], vi64 r.2]) [(0, .row 33 false 1 r.1.Words.length (Ru64 r.1.Words))] := by
 refine con_of tt_ok0 0 Try.func68 (by kernel_rfl) rfl (by kernel_rfl) (fun base X _ => AW.post ?_)
 unfold rl_ref09_combine at h
 refine AW.sg tt_ok0 [(6, .c (.ptr 2 2 0 0)), (4, .c (.ptr 1 2 0 0)), (3, .c (.ptr 0 2 0 0))] [0, 1, 2] [(2, .box 29 [ci64 0, .t (.v (.slice none 0 0))]), (1, .box 29 [ci64 p1.Length, cl 1 Ru64 p1.Words]), (0, .box 29 [ci64 p0.Length, cl 1 Ru64 p0.Words])] 4 [] (by kernel_rfl) ?_
 refine AW.seq (AW.seq ?_)
 refine AW.join (ι := Bool) (fun v => ⟨[(2, vi64 p2), (3, .c (.ptr 0 2 0 0)), (4, .c (.ptr 1 2 0 0)), (6, .c (.ptr 2 2 0 0)), (24, vb v)], [(0, .box 29 [ci64 p0.Length, cl 1 Ru64 p0.Words]), (1, .box 29 [ci64 p1.Length, cl 1 Ru64 p1.Words]), (2, .box 29 [ci64 0, .t (.v (.slice none 0 0))])], 3⟩) (fun v : Bool => rl_ref09_combine_k1 p0 p1 p2 v = some r) (fun x1 h => ?_) ?_
 ·
  unfold rl_ref09_combine_k1 at h
  refine AW.tn ?_
  refine AW.co h (by kernel_rfl) (fun c2 h => ?_) (fun c2 h => ?_)
  ·
   refine AW.sg tt_ok0 [(7, vi64 8)] [2] [(2, .box 29 [ci64 0, .t (.v (.slice none 0 0))])] 6 [] (by kernel_rfl) ?_
   refine AW.ret (AW.tr ?_)
   obtain rfl := some_inj h
   exact fnR (.inr rfl) [(0, 6)] 1 (.tup [.agg [ci64 0, .ref 6 1 0 (([] : List Int).length)], vi64 8]) (conv_adoptB (id := 2) (ty0 := 29) (cs := [ci64 0, .t (.v (.slice none 0 0))]) 1 (ty := 33) (sz := 1) (n := ([] : List Int).length) (f := Ru64 ([] : List Int)) (by kernel_rfl) (by kernel_rfl) rfl) (by kernel_rfl)
  ·
   refine AW.skip (AW.tn ?_)
   obtain ⟨y3, e4, h⟩ := bnd_some h
   refine AW.sg tt_ok0 [(8, .c (.ptr 5 2 0 0))] [4, 5] [(5, .box 29 [ci64 y3.Length, .ref 4 1 0 y3.Words.length]), (4, .row 33 false 1 y3.Words.length (Ru64 y3.Words))] 7 [hn, hm [] [] 1 (rl_ref09_Copy_con p0 y3 e4) ⟨rowL_flat Vu64 _ _ _, tv⟩] (by kernel_rfl) ?_
   refine AW.seq ?_
   refine AW.sg tt_ok0 [(9, vi64 0)] [] [] 8 [] (by kernel_rfl) ?_
   refine AW.block ?_
   obtain ⟨x23, l24, h⟩ := bnd_some h
   refine AW.lp l24 (fun v => ⟨[(2, vi64 p2), (4, .c (.ptr 0 2 0 0)), (6, .c (.ptr 1 2 0 0)), (8, .c (.ptr 2 2 0 0)), (9, vi64 v.1)], [(0, .box 29 [ci64 p1.Length, cl 1 Ru64 p1.Words]), (1, .box 29 [ci64 0, .t (.v (.slice none 0 0))]), (2, .box 29 [ci64 y3.Length, .ref 3 1 0 v.2.length]), (3, .row 33 false 1 v.2.length (Ru64 v.2))], 4⟩) (fun t : List Int => (.exit 0, ⟨[(6, .c (.ptr 0 2 0 0)), (8, .c (.ptr 1 2 0 0))], [(0, .box 29 [ci64 0, .t (.v (.slice none 0 0))]), (1, .box 29 [ci64 y3.Length, .ref 2 1 0 t.length]), (2, .row 33 false 1 t.length (Ru64 t))], 3⟩)) (conv_re [(0, 1), (1, 2), (2, 5), (3, 4)] (by kernel_rfl)) (fun _ => tv) ?_ ?_
   ·
    clear l24 h
    intro v o h
    obtain ⟨x7, x8⟩ := v
    replace h : rl_ref09_combine_l2 p1 p2 x7 x8 = some o := h
    unfold rl_ref09_combine_l2 at h
    refine AW.seq ?_
    refine AW.sg tt_ok0 [(32, vb (decide (x7 < (x8.length : Int))))] [] [] 9 [] (by kernel_rfl) ?_
    refine AW.co h (by kernel_rfl) (fun c10 h => ?_) (fun c10 h => ?_)
    ·
     refine AW.skip (AW.tn (AW.seq ?_))
     refine AW.join (ι := List Int) (fun v => ⟨[(2, vi64 p2), (4, .c (.ptr 0 2 0 0)), (6, .c (.ptr 1 2 0 0)), (8, .c (.ptr 2 2 0 0)), (9, vi64 x7)], [(0, .box 29 [ci64 p1.Length, cl 1 Ru64 p1.Words]), (1, .box 29 [ci64 0, .t (.v (.slice none 0 0))]), (2, .box 29 [ci64 y3.Length, .ref 3 1 0 v.length]), (3, .row 33 false 1 v.length (Ru64 v))], 4⟩) (fun v : List Int => rl_ref09_combine_k3 x7 v = some o) (fun x11 h => ?_) ?_
     ·
      unfold rl_ref09_combine_k3 at h
      refine AW.tn ?_
      refine AW.rg tt_ok0 [(9, vi64 (i64.wrap (x7 + 1)))] [] [] 7 [] (by kernel_rfl) ?_
      exact lpn h (conv_re [(0, 0), (1, 1), (2, 2), (3, 3)] (by kernel_rfl))
     ·
      refine AW.block ?_
      refine AW.sg tt_ok0 [(35, vi64 p2)] [] [] 10 [] (by kernel_rfl) ?_
      refine AW.block ?_
      refine AW.sg tt_ok0 [(48, vb (p2 == 0))] [] [] 12 [] (by kernel_rfl) ?_
      refine AW.co h (by kernel_rfl) (fun c12 h => ?_) (fun c12 h => ?_)
      ·
       obtain ⟨g13, g14, h⟩ := ifd h
       obtain ⟨g15, h⟩ := ifc h
       refine AW.rd tt_ok0 mo0 [[], [], [], [], [], [], [], [], [], [], [], [], [3]] [] [(3, .row 33 false 1 x8.length (Ru64 (x8.set (0 + x7.toNat) (iand .u64 (x8.getD (0 + x7.toNat) 0) (p1.Words.getD x7.toNat 0)))))] 25 [hn, hn, hn, hq g13 g14, ho (p := (0 + x7.toNat) < x8.length) (by have h1 : 0 ≤ x7 := g13; have h2 : x7 < (x8.length : Int) := g14; omega), hn, hn, hn, hq g13 g15, hn, hn, hq g13 g14, hset 0 Eu64 x8 (0 + x7.toNat) (iand .u64 (x8.getD (0 + x7.toNat) 0) (p1.Words.getD x7.toNat 0)) (n := x8.length) (by have h1 : 0 ≤ x7 := g13; have h2 : x7 < (x8.length : Int) := g14; omega) rfl] (by kernel_rfl) ?_
       refine AW.inBlock_normal (AW.inBlock_normal ?_)
       exact jl (x8.set (0 + x7.toNat) (iand .u64 (x8.getD (0 + x7.toNat) 0) (p1.Words.getD x7.toNat 0))) h (Conv.trans (conv_re (S' := ⟨[(2, vi64 p2), (4, .c (.ptr 0 2 0 0)), (6, .c (.ptr 1 2 0 0)), (8, .c (.ptr 2 2 0 0)), (9, vi64 x7)], [(3, .row 33 false 1 x8.length (Ru64 (x8.set (0 + x7.toNat) (iand .u64 (x8.getD (0 + x7.toNat) 0) (p1.Words.getD x7.toNat 0))))), (0, .box 29 [ci64 p1.Length, cl 1 Ru64 p1.Words]), (1, .box 29 [ci64 0, .t (.v (.slice none 0 0))]), (2, .box 29 [ci64 y3.Length, .ref 3 1 0 x8.length])], 25⟩) [(3, 3), (0, 0), (1, 1), (2, 2)] (by kernel_rfl)) (Conv.trans (conv_len (S' := ⟨[(2, vi64 p2), (4, .c (.ptr 0 2 0 0)), (6, .c (.ptr 1 2 0 0)), (8, .c (.ptr 2 2 0 0)), (9, vi64 x7)], [(3, .row 33 false 1 (x8.set (0 + x7.toNat) (iand .u64 (x8.getD (0 + x7.toNat) 0) (p1.Words.getD x7.toNat 0))).length (Ru64 (x8.set (0 + x7.toNat) (iand .u64 (x8.getD (0 + x7.toNat) 0) (p1.Words.getD x7.toNat 0))))), (0, .box 29 [ci64 p1.Length, cl 1 Ru64 p1.Words]), (1, .box 29 [ci64 0, .t (.v (.slice none 0 0))]), (2, .box 29 [ci64 y3.Length, .ref 3 1 0 ((x8.set (0 + x7.toNat) (iand .u64 (x8.getD (0 + x7.toNat) 0) (p1.Words.getD x7.toNat 0))).length)])], 25⟩) (by simp only [List.length_set])) (conv_re [(0, 0), (1, 1), (2, 2), (3, 3)] (by kernel_rfl))))
      ·
       refine AW.sg tt_ok0 [(62, vb (p2 == 1))] [] [] 14 [] (by kernel_rfl) ?_
       refine AW.co h (by kernel_rfl) (fun c16 h => ?_) (fun c16 h => ?_)
       ·
        obtain ⟨g17, g18, h⟩ := ifd h
        obtain ⟨g19, h⟩ := ifc h
        refine AW.rd tt_ok0 mo0 [[], [], [], [], [], [], [], [], [], [], [], [], [3]] [] [(3, .row 33 false 1 x8.length (Ru64 (x8.set (0 + x7.toNat) (ior .u64 (x8.getD (0 + x7.toNat) 0) (p1.Words.getD x7.toNat 0)))))] 27 [hn, hn, hn, hq g17 g18, ho (p := (0 + x7.toNat) < x8.length) (by have h1 : 0 ≤ x7 := g17; have h2 : x7 < (x8.length : Int) := g18; omega), hn, hn, hn, hq g17 g19, hn, hn, hq g17 g18, hset 0 Eu64 x8 (0 + x7.toNat) (ior .u64 (x8.getD (0 + x7.toNat) 0) (p1.Words.getD x7.toNat 0)) (n := x8.length) (by have h1 : 0 ≤ x7 := g17; have h2 : x7 < (x8.length : Int) := g18; omega) rfl] (by kernel_rfl) ?_
        refine AW.inBlock_normal (AW.inBlock_normal ?_)
        exact jl (x8.set (0 + x7.toNat) (ior .u64 (x8.getD (0 + x7.toNat) 0) (p1.Words.getD x7.toNat 0))) h (Conv.trans (conv_re (S' := ⟨[(2, vi64 p2), (4, .c (.ptr 0 2 0 0)), (6, .c (.ptr 1 2 0 0)), (8, .c (.ptr 2 2 0 0)), (9, vi64 x7)], [(3, .row 33 false 1 x8.length (Ru64 (x8.set (0 + x7.toNat) (ior .u64 (x8.getD (0 + x7.toNat) 0) (p1.Words.getD x7.toNat 0))))), (0, .box 29 [ci64 p1.Length, cl 1 Ru64 p1.Words]), (1, .box 29 [ci64 0, .t (.v (.slice none 0 0))]), (2, .box 29 [ci64 y3.Length, .ref 3 1 0 x8.length])], 27⟩) [(3, 3), (0, 0), (1, 1), (2, 2)] (by kernel_rfl)) (Conv.trans (conv_len (S' := ⟨[(2, vi64 p2), (4, .c (.ptr 0 2 0 0)), (6, .c (.ptr 1 2 0 0)), (8, .c (.ptr 2 2 0 0)), (9, vi64 x7)], [(3, .row 33 false 1 (x8.set (0 + x7.toNat) (ior .u64 (x8.getD (0 + x7.toNat) 0) (p1.Words.getD x7.toNat 0))).length (Ru64 (x8.set (0 + x7.toNat) (ior .u64 (x8.getD (0 + x7.toNat) 0) (p1.Words.getD x7.toNat 0))))), (0, .box 29 [ci64 p1.Length, cl 1 Ru64 p1.Words]), (1, .box 29 [ci64 0, .t (.v (.slice none 0 0))]), (2, .box 29 [ci64 y3.Length, .ref 3 1 0 ((x8.set (0 + x7.toNat) (ior .u64 (x8.getD (0 + x7.toNat) 0) (p1.Words.getD x7.toNat 0))).length)])], 27⟩) (by simp only [List.length_set])) (conv_re [(0, 0), (1, 1), (2, 2), (3, 3)] (by kernel_rfl))))
       ·
        obtain ⟨g20, g21, h⟩ := ifd h
        obtain ⟨g22, h⟩ := ifc h
        refine AW.rd tt_ok0 mo0 [[], [], [], [], [], [], [], [], [], [], [], [], [3]] [] [(3, .row 33 false 1 x8.length (Ru64 (x8.set (0 + x7.toNat) (ixor .u64 (x8.getD (0 + x7.toNat) 0) (p1.Words.getD x7.toNat 0)))))] 27 [hn, hn, hn, hq g20 g21, ho (p := (0 + x7.toNat) < x8.length) (by have h1 : 0 ≤ x7 := g20; have h2 : x7 < (x8.length : Int) := g21; omega), hn, hn, hn, hq g20 g22, hn, hn, hq g20 g21, hset 0 Eu64 x8 (0 + x7.toNat) (ixor .u64 (x8.getD (0 + x7.toNat) 0) (p1.Words.getD x7.toNat 0)) (n := x8.length) (by have h1 : 0 ≤ x7 := g20; have h2 : x7 < (x8.length : Int) := g21; omega) rfl] (by kernel_rfl) ?_
        refine AW.inBlock_normal (AW.inBlock_normal ?_)
        exact jl (x8.set (0 + x7.toNat) (ixor .u64 (x8.getD (0 + x7.toNat) 0) (p1.Words.getD x7.toNat 0))) h (Conv.trans (conv_re (S' := ⟨[(2, vi64 p2), (4, .c (.ptr 0 2 0 0)), (6, .c (.ptr 1 2 0 0)), (8, .c (.ptr 2 2 0 0)), (9, vi64 x7)], [(3, .row 33 false 1 x8.length (Ru64 (x8.set (0 + x7.toNat) (ixor .u64 (x8.getD (0 + x7.toNat) 0) (p1.Words.getD x7.toNat 0))))), (0, .box 29 [ci64 p1.Length, cl 1 Ru64 p1.Words]), (1, .box 29 [ci64 0, .t (.v (.slice none 0 0))]), (2, .box 29 [ci64 y3.Length, .ref 3 1 0 x8.length])], 27⟩) [(3, 3), (0, 0), (1, 1), (2, 2)] (by kernel_rfl)) (Conv.trans (conv_len (S' := ⟨[(2, vi64 p2), (4, .c (.ptr 0 2 0 0)), (6, .c (.ptr 1 2 0 0)), (8, .c (.ptr 2 2 0 0)), (9, vi64 x7)], [(3, .row 33 false 1 (x8.set (0 + x7.toNat) (ixor .u64 (x8.getD (0 + x7.toNat) 0) (p1.Words.getD x7.toNat 0))).length (Ru64 (x8.set (0 + x7.toNat) (ixor .u64 (x8.getD (0 + x7.toNat) 0) (p1.Words.getD x7.toNat 0))))), (0, .box 29 [ci64 p1.Length, cl 1 Ru64 p1.Words]), (1, .box 29 [ci64 0, .t (.v (.slice none 0 0))]), (2, .box 29 [ci64 y3.Length, .ref 3 1 0 ((x8.set (0 + x7.toNat) (ixor .u64 (x8.getD (0 + x7.toNat) 0) (p1.Words.getD x7.toNat 0))).length)])], 27⟩) (by simp only [List.length_set])) (conv_re [(0, 0), (1, 1), (2, 2), (3, 3)] (by kernel_rfl))))
    ·
     refine AW.exit (AW.thenQ_exit ?_)
     exact lpo h rfl (conv_re [(0, 1), (1, 2), (2, 3)] (by kernel_rfl))
   ·
    show (_ : Exit → St → Prop) (.exit 0) _
    refine AW.inBlock_hit (AW.tn ?_)
    refine AW.sg tt_ok0 [(7, vi64 0)] [0] [(0, .box 29 [ci64 y3.Length, .ref 2 1 0 x23.length])] 6 [] (by kernel_rfl) ?_
    refine AW.ret ?_
    obtain rfl := some_inj h
    exact fn0 (.inr rfl) [(0, 2)] 1 (.tup [.agg [ci64 y3.Length, .ref 2 1 0 x23.length], vi64 0]) (by kernel_rfl)
 ·
  obtain ⟨y25, e26, h⟩ := bnd_some h
  rcases ifs h with ⟨c27, h⟩ | ⟨c27, h⟩
  ·
   refine AW.rg tt_ok0 [(24, vb true)] [] [] 18 [hn, hk (rl_ref09_Valid_con p0 y25 e26), ht c27] (by kernel_rfl) ?_
   exact jl true h (conv_re [(0, 0), (1, 1), (2, 2)] (by kernel_rfl))
  ·
   obtain ⟨y28, e29, h⟩ := bnd_some h
   rcases ifs h with ⟨c30, h⟩ | ⟨c30, h⟩
   ·
    refine AW.rg tt_ok0 [(24, vb true)] [] [] 17 [hn, hk (rl_ref09_Valid_con p0 y25 e26), hf c27, hn, hn, hk (rl_ref09_Valid_con p1 y28 e29), ht c30] (by kernel_rfl) ?_
    exact jl true h (conv_re [(0, 0), (1, 1), (2, 2)] (by kernel_rfl))
   ·
    refine AW.rg tt_ok0 [(24, vb (p0.Length != p1.Length))] [] [] 17 [hn, hk (rl_ref09_Valid_con p0 y25 e26), hf c27, hn, hn, hk (rl_ref09_Valid_con p1 y28 e29), hf c30] (by kernel_rfl) ?_
    exact jl (p0.Length != p1.Length) h (conv_re [(0, 0), (1, 1), (2, 2)] (by kernel_rfl))
/-! recordlink/recordlinkref09.And -/
noncomputable def rl_ref09_And (p0 : S_api_Bits) (p1 : S_api_Bits) : Option (S_api_Bits × Int) := bind2 (rl_ref09_combine p0 p1 0) fun y1 y2 => (some (y1, y2))
set_option maxRecDepth 100000 in
theorem rl_ref09_And_con (p0 : S_api_Bits) (p1 : S_api_Bits) (r : S_api_Bits × Int) (h : rl_ref09_And p0 p1 = some r) : Con Try.prog 41 [.agg [ci64 p0.Length, cl 1 Ru64 p0.Words], .agg [ci64 p1.Length, cl 1 Ru64 p1.Words]] [] (.tup [.agg [ci64 r.1.Length, .ref 0 1 0 r.1.Words.length], vi64 r.2]) [(0, .row 33 false 1 r.1.Words.length (Ru64 r.1.Words))] := by
 refine con_of tt_ok0 0 Try.func41 (by kernel_rfl) rfl (by kernel_rfl) (fun base X _ => AW.post ?_)
 unfold rl_ref09_And at h
 refine AW.sg tt_ok0 [(4, .c (.ptr 2 2 0 0)), (3, .c (.ptr 1 2 0 0)), (2, .c (.ptr 0 2 0 0))] [0, 1, 2] [(2, .box 29 [ci64 0, .t (.v (.slice none 0 0))]), (1, .box 29 [ci64 p1.Length, cl 1 Ru64 p1.Words]), (0, .box 29 [ci64 p0.Length, cl 1 Ru64 p0.Words])] 4 [] (by kernel_rfl) ?_
 obtain ⟨y1, y2, e3, h⟩ := bind2_some h
 refine AW.sg tt_ok0 [(5, vi64 y2)] [2, 6] [(2, .box 29 [ci64 y1.Length, .ref 6 1 0 y1.Words.length]), (6, .row 33 false 1 y1.Words.length (Ru64 y1.Words))] 11 [hn, hn, hm [] [] 1 (rl_ref09_combine_con p0 p1 0 (y1, y2) e3) ⟨rowL_flat Vu64 _ _ _, tv⟩] (by kernel_rfl) ?_
 refine AW.ret ?_
 obtain rfl := some_inj h
 exact fn0 (.inr rfl) [(0, 6)] 1 (.tup [.agg [ci64 y1.Length, .ref 6 1 0 y1.Words.length], vi64 y2]) (by kernel_rfl)
/-! recordlink/bitset.Or$1 -/
noncomputable def bitset_Or_f1 (p0 : Int) (p1 : Int) : Option Int := some (ior .u64 p0 p1)
set_option maxRecDepth 100000 in
theorem bitset_Or_f1_con (p0 : Int) (p1 : Int) (r : Int) (h : bitset_Or_f1 p0 p1 = some r) : Con Try.prog 60 [vu64 p0, vu64 p1] [] (vu64 r) [] := by
 refine con_of tt_ok0 0 Try.func60 (by kernel_rfl) rfl (by kernel_rfl) (fun base X _ => AW.post ?_)
 unfold bitset_Or_f1 at h
 refine AW.sg tt_ok0 [] [] [] 1 [] (by kernel_rfl) ?_
 refine AW.sg tt_ok0 [(4, vu64 (ior .u64 p0 p1))] [] [] 5 [] (by kernel_rfl) ?_
 refine AW.ret ?_
 obtain rfl := some_inj h
 exact fn0 (.inr rfl) [] 0 (vu64 (ior .u64 p0 p1)) (by kernel_rfl)
/-! recordlink/bitset.both -/
noncomputable def bitset_both_bitset_Or_f1_l2 (p0 : S_api_Bits) (p1 : S_api_Bits) (x7 : Int) (x8 : List Int) : Option ((Int × (List Int)) ⊕ (List Int)) := if (decide (x7 < ((p0.Words.length : Nat) : Int))) = true then (if 0 ≤ x7 then (if x7 < ((p0.Words.length : Nat) : Int) then (if x7 < ((p1.Words.length : Nat) : Int) then ((bitset_Or_f1 (p0.Words.getD x7.toNat 0) (p1.Words.getD x7.toNat 0)).bind fun y14 => (if x7 < (x8.length : Int) then (some (.inl (i64.wrap (x7 + 1), (x8.set (0 + x7.toNat) y14)))) else none)) else none) else none) else none) else (some (.inr x8))
noncomputable def bitset_both_bitset_Or_f1_k1 (p0 : S_api_Bits) (p1 : S_api_Bits) (x1 : Bool) : Option (S_api_Bits × Int) := if x1 = true then (some ((⟨0, ([] : List Int)⟩ : S_api_Bits), 8)) else (if 0 ≤ ((p0.Words.length : Nat) : Int) then (if ((p0.Words.length : Nat) : Int) ≤ 1099511627776 then ((loop (fun v : Int × (List Int) => bitset_both_bitset_Or_f1_l2 p0 p1 v.1 v.2) (0, (List.replicate (((p0.Words.length : Nat) : Int).toNat) (0 : Int)))).bind fun x17 => (some ((⟨p0.Length, x17⟩ : S_api_Bits), 0))) else none) else none)
noncomputable def bitset_both_bitset_Or_f1 (p0 : S_api_Bits) (p1 : S_api_Bits) : Option (S_api_Bits × Int) := (bitset_Valid p0).bind fun y19 => (if (!y19) = true then (bitset_both_bitset_Or_f1_k1 p0 p1 true) else ((bitset_Valid p1).bind fun y22 => (if (!y22) = true then (bitset_both_bitset_Or_f1_k1 p0 p1 true) else (bitset_both_bitset_Or_f1_k1 p0 p1 (p0.Length != p1.Length)))))
set_option maxRecDepth 100000 in
theorem bitset_both_bitset_Or_f1_con (p0 : S_api_Bits) (p1 : S_api_Bits) (r : S_api_Bits × Int) (h : bitset_both_bitset_Or_f1 p0 p1 = some r) : Con Try.prog 58 [.agg [ci64 p0.Length, cl 1 Ru64 p0.Words], .agg [ci64 p1.Length, cl 1 Ru64 p1.Words], .c (.t (.v (.func (.func 60) #[] #[])))] [] (.tup [.agg [ci64 r.1.Length, .ref 0 1 0 r.1.Words.length], vi64 r.2]) [(0, .row 33 false 1 r.1.Words.length (Ru64 r.1.Words))] := by
 refine con_of tt_ok0 0 Try.func58 (by kernel_rfl) rfl (by kernel_rfl) (fun base X _ => AW.post ?_)
 unfold bitset_both_bitset_Or_f1 at h
 refine AW.sg tt_ok0 [(6, .c (.ptr 2 2 0 0)), (4, .c (.ptr 1 2 0 0)), (3, .c (.ptr 0 2 0 0))] [0, 1, 2] [(2, .box 29 [ci64 0, .t (.v (.slice none 0 0))]), (1, .box 29 [ci64 p1.Length, cl 1 Ru64 p1.Words]), (0, .box 29 [ci64 p0.Length, cl 1 Ru64 p0.Words])] 4 [] (by kernel_rfl) ?_
 refine AW.seq (AW.seq ?_)
 refine AW.join (ι := Bool) (fun v => ⟨[(2, .c (.t (.v (.func (.func 60) #[] #[])))), (3, .c (.ptr 0 2 0 0)), (4, .c (.ptr 1 2 0 0)), (6, .c (.ptr 2 2 0 0)), (25, vb v)], [(0, .box 29 [ci64 p0.Length, cl 1 Ru64 p0.Words]), (1, .box 29 [ci64 p1.Length, cl 1 Ru64 p1.Words]), (2, .box 29 [ci64 0, .t (.v (.slice none 0 0))])], 3⟩) (fun v : Bool => bitset_both_bitset_Or_f1_k1 p0 p1 v = some r) (fun x1 h => ?_) ?_
 ·
  unfold bitset_both_bitset_Or_f1_k1 at h
  refine AW.tn ?_
  refine AW.co h (by kernel_rfl) (fun c2 h => ?_) (fun c2 h => ?_)
  ·
   refine AW.sg tt_ok0 [(7, vi64 8)] [2] [(2, .box 29 [ci64 0, .t (.v (.slice none 0 0))])] 6 [] (by kernel_rfl) ?_
   refine AW.ret (AW.tr ?_)
   obtain rfl := some_inj h
   exact fnR (.inr rfl) [(0, 6)] 1 (.tup [.agg [ci64 0, .ref 6 1 0 (([] : List Int).length)], vi64 8]) (conv_adoptB (id := 2) (ty0 := 29) (cs := [ci64 0, .t (.v (.slice none 0 0))]) 1 (ty := 33) (sz := 1) (n := ([] : List Int).length) (f := Ru64 ([] : List Int)) (by kernel_rfl) (by kernel_rfl) rfl) (by kernel_rfl)
  ·
   refine AW.skip (AW.tn ?_)
   obtain ⟨g3, g4, h⟩ := ifd h
   refine AW.sd tt_ok0 mo0 [[], [], [], [], [], [8], [], [10], [10]] [(8, .c (.ptr 10 2 0 0))] [(10, .box 29 [ci64 p0.Length, .ref 8 1 0 ((List.replicate (((p0.Words.length : Nat) : Int).toNat) (0 : Int)).length)]), (8, .row 33 false 1 (List.replicate (((p0.Words.length : Nat) : Int).toNat) (0 : Int)).length (Ru64 (List.replicate (((p0.Words.length : Nat) : Int).toNat) (0 : Int))))] 12 [hn, hn, hn, hn, hn, hmk 0 Eu64 1 8 [.int .u64 0] rfl rfl ((p0.Words.length : Nat) : Int) ((p0.Words.length : Nat) : Int) g3 (Int.le_refl _) g4 (by decide)] (by kernel_rfl) ?_
   refine AW.seq ?_
   refine AW.sg tt_ok0 [(37, vi64 0), (36, vi64 ((p0.Words.length : Nat) : Int)), (35, vl 1 Ru64 p0.Words)] [] [] 16 [] (by kernel_rfl) ?_
   refine AW.block ?_
   obtain ⟨x17, l18, h⟩ := bnd_some h
   refine AW.lp l18 (fun v => ⟨[(2, .c (.t (.v (.func (.func 60) #[] #[])))), (4, .c (.ptr 0 2 0 0)), (6, .c (.ptr 1 2 0 0)), (8, .c (.ptr 2 2 0 0)), (35, vl 1 Ru64 p0.Words), (36, vi64 ((p0.Words.length : Nat) : Int)), (37, vi64 v.1)], [(0, .box 29 [ci64 p1.Length, cl 1 Ru64 p1.Words]), (1, .box 29 [ci64 0, .t (.v (.slice none 0 0))]), (2, .box 29 [ci64 p0.Length, .ref 3 1 0 v.2.length]), (3, .row 33 false 1 v.2.length (Ru64 v.2))], 4⟩) (fun t : List Int => (.exit 0, ⟨[(6, .c (.ptr 0 2 0 0)), (8, .c (.ptr 1 2 0 0))], [(0, .box 29 [ci64 0, .t (.v (.slice none 0 0))]), (1, .box 29 [ci64 p0.Length, .ref 2 1 0 t.length]), (2, .row 33 false 1 t.length (Ru64 t))], 3⟩)) (conv_re [(0, 1), (1, 2), (2, 10), (3, 8)] (by kernel_rfl)) (fun _ => tv) ?_ ?_
   ·
    clear l18 h
    intro v o h
    obtain ⟨x7, x8⟩ := v
    replace h : bitset_both_bitset_Or_f1_l2 p0 p1 x7 x8 = some o := h
    unfold bitset_both_bitset_Or_f1_l2 at h
    refine AW.sg tt_ok0 [(38, vb (decide (x7 < ((p0.Words.length : Nat) : Int))))] [] [] 5 [] (by kernel_rfl) ?_
    refine AW.seq ?_
    refine AW.co h (by kernel_rfl) (fun c10 h => ?_) (fun c10 h => ?_)
    ·
     refine AW.skip (AW.tn ?_)
     refine AW.seq (AW.block ?_)
     obtain ⟨g11, g12, h⟩ := ifd h
     refine AW.sg tt_ok0 [(10, vu64 (p0.Words.getD x7.toNat 0)), (9, vi64 x7)] [] [] 10 [hn, hq g11 g12] (by kernel_rfl) ?_
     obtain ⟨g13, h⟩ := ifc h
     obtain ⟨y14, e15, h⟩ := bnd_some h
     obtain ⟨g16, h⟩ := ifc h
     refine AW.rd tt_ok0 mo0 [[], [], [], [], [], [], [], [], [], [], [], [], [3]] [] [(3, .row 33 false 1 x8.length (Ru64 (x8.set (0 + x7.toNat) y14)))] 22 [hn, hn, hn, hn, hn, hn, hn, hn, hq g11 g13, hn, hk (bitset_Or_f1_con (p0.Words.getD x7.toNat 0) (p1.Words.getD x7.toNat 0) y14 e15), hq g11 g16, hset 0 Eu64 x8 (0 + x7.toNat) y14 (n := x8.length) (by have h1 : 0 ≤ x7 := g11; have h2 : x7 < (x8.length : Int) := g16; omega) rfl] (by kernel_rfl) ?_
     refine AW.inBlock_normal (AW.tn ?_)
     refine AW.rg tt_ok0 [(37, vi64 (i64.wrap (x7 + 1)))] [] [] 24 [] (by kernel_rfl) ?_
     exact lpn h (Conv.trans (conv_re (S' := ⟨[(37, vi64 (i64.wrap (x7 + 1))), (2, .c (.t (.v (.func (.func 60) #[] #[])))), (4, .c (.ptr 0 2 0 0)), (6, .c (.ptr 1 2 0 0)), (8, .c (.ptr 2 2 0 0)), (35, vl 1 Ru64 p0.Words), (36, vi64 ((p0.Words.length : Nat) : Int))], [(3, .row 33 false 1 x8.length (Ru64 (x8.set (0 + x7.toNat) y14))), (0, .box 29 [ci64 p1.Length, cl 1 Ru64 p1.Words]), (1, .box 29 [ci64 0, .t (.v (.slice none 0 0))]), (2, .box 29 [ci64 p0.Length, .ref 3 1 0 x8.length])], 24⟩) [(3, 3), (0, 0), (1, 1), (2, 2)] (by kernel_rfl)) (Conv.trans (conv_len (S' := ⟨[(37, vi64 (i64.wrap (x7 + 1))), (2, .c (.t (.v (.func (.func 60) #[] #[])))), (4, .c (.ptr 0 2 0 0)), (6, .c (.ptr 1 2 0 0)), (8, .c (.ptr 2 2 0 0)), (35, vl 1 Ru64 p0.Words), (36, vi64 ((p0.Words.length : Nat) : Int))], [(3, .row 33 false 1 (x8.set (0 + x7.toNat) y14).length (Ru64 (x8.set (0 + x7.toNat) y14))), (0, .box 29 [ci64 p1.Length, cl 1 Ru64 p1.Words]), (1, .box 29 [ci64 0, .t (.v (.slice none 0 0))]), (2, .box 29 [ci64 p0.Length, .ref 3 1 0 ((x8.set (0 + x7.toNat) y14).length)])], 24⟩) (by simp only [List.length_set])) (conv_re [(0, 0), (1, 1), (2, 2), (3, 3)] (by kernel_rfl))))
    ·
     refine AW.exit (AW.thenQ_exit ?_)
     exact lpo h rfl (conv_re [(0, 1), (1, 2), (2, 3)] (by kernel_rfl))
   ·
    show (_ : Exit → St → Prop) (.exit 0) _
    refine AW.inBlock_hit (AW.tn ?_)
    refine AW.sg tt_ok0 [(7, vi64 0)] [0] [(0, .box 29 [ci64 p0.Length, .ref 2 1 0 x17.length])] 6 [] (by kernel_rfl) ?_
    refine AW.ret ?_
    obtain rfl := some_inj h
    exact fn0 (.inr rfl) [(0, 2)] 1 (.tup [.agg [ci64 p0.Length, .ref 2 1 0 x17.length], vi64 0]) (by kernel_rfl)
 ·
  obtain ⟨y19, e20, h⟩ := bnd_some h
  rcases ifs h with ⟨c21, h⟩ | ⟨c21, h⟩
  ·
   refine AW.rg tt_ok0 [(25, vb true)] [] [] 18 [hn, hk (bitset_Valid_con p0 y19 e20), ht c21] (by kernel_rfl) ?_
   exact jl true h (conv_re [(0, 0), (1, 1), (2, 2)] (by kernel_rfl))
  ·
   obtain ⟨y22, e23, h⟩ := bnd_some h
   rcases ifs h with ⟨c24, h⟩ | ⟨c24, h⟩
   ·
    refine AW.rg tt_ok0 [(25, vb true)] [] [] 17 [hn, hk (bitset_Valid_con p0 y19 e20), hf c21, hn, hn, hk (bitset_Valid_con p1 y22 e23), ht c24] (by kernel_rfl) ?_
    exact jl true h (conv_re [(0, 0), (1, 1), (2, 2)] (by kernel_rfl))
   ·
    refine AW.rg tt_ok0 [(25, vb (p0.Length != p1.Length))] [] [] 17 [hn, hk (bitset_Valid_con p0 y19 e20), hf c21, hn, hn, hk (bitset_Valid_con p1 y22 e23), hf c24] (by kernel_rfl) ?_
    exact jl (p0.Length != p1.Length) h (conv_re [(0, 0), (1, 1), (2, 2)] (by kernel_rfl))
/-! recordlink/bitset.Or -/
noncomputable def bitset_Or (p0 : S_api_Bits) (p1 : S_api_Bits) : Option (S_api_Bits × Int) := bind2 (bitset_both_bitset_Or_f1 p0 p1) fun y1 y2 => (some (y1, y2))
set_option maxRecDepth 100000 in
theorem bitset_Or_con (p0 : S_api_Bits) (p1 : S_api_Bits) (r : S_api_Bits × Int) (h : bitset_Or p0 p1 = some r) : Con Try.prog 30 [.agg [ci64 p0.Length, cl 1 Ru64 p0.Words], .agg [ci64 p1.Length, cl 1 Ru64 p1.Words]] [] (.tup [.agg [ci64 r.1.Length, .ref 0 1 0 r.1.Words.length], vi64 r.2]) [(0, .row 33 false 1 r.1.Words.length (Ru64 r.1.Words))] := by
 refine con_of tt_ok0 0 Try.func30 (by kernel_rfl) rfl (by kernel_rfl) (fun base X _ => AW.post ?_)
 unfold bitset_Or at h
 refine AW.sg tt_ok0 [(4, .c (.ptr 2 2 0 0)), (3, .c (.ptr 1 2 0 0)), (2, .c (.ptr 0 2 0 0))] [0, 1, 2] [(2, .box 29 [ci64 0, .t (.v (.slice none 0 0))]), (1, .box 29 [ci64 p1.Length, cl 1 Ru64 p1.Words]), (0, .box 29 [ci64 p0.Length, cl 1 Ru64 p0.Words])] 4 [] (by kernel_rfl) ?_
 obtain ⟨y1, y2, e3, h⟩ := bind2_some h
 refine AW.sg tt_ok0 [(5, vi64 y2)] [2, 6] [(2, .box 29 [ci64 y1.Length, .ref 6 1 0 y1.Words.length]), (6, .row 33 false 1 y1.Words.length (Ru64 y1.Words))] 11 [hn, hn, hm [] [] 1 (bitset_both_bitset_Or_f1_con p0 p1 (y1, y2) e3) ⟨rowL_flat Vu64 _ _ _, tv⟩] (by kernel_rfl) ?_
 refine AW.ret ?_
 obtain rfl := some_inj h
 exact fn0 (.inr rfl) [(0, 6)] 1 (.tup [.agg [ci64 y1.Length, .ref 6 1 0 y1.Words.length], vi64 y2]) (by kernel_rfl)
/-! recordlink/recordlinkref09.Or -/
noncomputable def rl_ref09_Or (p0 : S_api_Bits) (p1 : S_api_Bits) : Option (S_api_Bits × Int) := bind2 (rl_ref09_combine p0 p1 1) fun y1 y2 => (some (y1, y2))
set_option maxRecDepth 100000 in
theorem rl_ref09_Or_con (p0 : S_api_Bits) (p1 : S_api_Bits) (r : S_api_Bits × Int) (h : rl_ref09_Or p0 p1 = some r) : Con Try.prog 42 [.agg [ci64 p0.Length, cl 1 Ru64 p0.Words], .agg [ci64 p1.Length, cl 1 Ru64 p1.Words]] [] (.tup [.agg [ci64 r.1.Length, .ref 0 1 0 r.1.Words.length], vi64 r.2]) [(0, .row 33 false 1 r.1.Words.length (Ru64 r.1.Words))] := by
 refine con_of tt_ok0 0 Try.func42 (by kernel_rfl) rfl (by kernel_rfl) (fun base X _ => AW.post ?_)
 unfold rl_ref09_Or at h
 refine AW.sg tt_ok0 [(4, .c (.ptr 2 2 0 0)), (3, .c (.ptr 1 2 0 0)), (2, .c (.ptr 0 2 0 0))] [0, 1, 2] [(2, .box 29 [ci64 0, .t (.v (.slice none 0 0))]), (1, .box 29 [ci64 p1.Length, cl 1 Ru64 p1.Words]), (0, .box 29 [ci64 p0.Length, cl 1 Ru64 p0.Words])] 4 [] (by kernel_rfl) ?_
 obtain ⟨y1, y2, e3, h⟩ := bind2_some h
 refine AW.sg tt_ok0 [(5, vi64 y2)] [2, 6] [(2, .box 29 [ci64 y1.Length, .ref 6 1 0 y1.Words.length]), (6, .row 33 false 1 y1.Words.length (Ru64 y1.Words))] 11 [hn, hn, hm [] [] 1 (rl_ref09_combine_con p0 p1 1 (y1, y2) e3) ⟨rowL_flat Vu64 _ _ _, tv⟩] (by kernel_rfl) ?_
 refine AW.ret ?_
 obtain rfl := some_inj h
 exact fn0 (.inr rfl) [(0, 6)] 1 (.tup [.agg [ci64 y1.Length, .ref 6 1 0 y1.Words.length], vi64 y2]) (by kernel_rfl)
/-! recordlink/bitset.Xor$1 -/
noncomputable def bitset_Xor_f1 (p0 : Int) (p1 : Int) : Option Int := some (ixor .u64 p0 p1)
set_option maxRecDepth 100000 in
theorem bitset_Xor_f1_con (p0 : Int) (p1 : Int) (r : Int) (h : bitset_Xor_f1 p0 p1 = some r) : Con Try.prog 61 [vu64 p0, vu64 p1] [] (vu64 r) [] := by
 refine con_of tt_ok0 0 Try.func61 (by kernel_rfl) rfl (by kernel_rfl) (fun base X _ => AW.post ?_)
 unfold bitset_Xor_f1 at h
 refine AW.sg tt_ok0 [] [] [] 1 [] (by kernel_rfl) ?_
 refine AW.sg tt_ok0 [(4, vu64 (ixor .u64 p0 p1))] [] [] 5 [] (by kernel_rfl) ?_
 refine AW.ret ?_
 obtain rfl := some_inj h
 exact fn0 (.inr rfl) [] 0 (vu64 (ixor .u64 p0 p1)) (by kernel_rfl)
/-! recordlink/bitset.both -/
noncomputable def bitset_both_bitset_Xor_f1_l2 (p0 : S_api_Bits) (p1 : S_api_Bits) (x7 : Int) (x8 : List Int) : Option ((Int × (List Int)) ⊕ (List Int)) := if (decide (x7 < ((p0.Words.length : Nat) : Int))) = true then (if 0 ≤ x7 then (if x7 < ((p0.Words.length : Nat) : Int) then (if x7 < ((p1.Words.length : Nat) : Int) then ((bitset_Xor_f1 (p0.Words.getD x7.toNat 0) (p1.Words.getD x7.toNat 0)).bind fun y14 => (if x7 < (x8.length : Int) then (some (.inl (i64.wrap (x7 + 1), (x8.set (0 + x7.toNat) y14)))) else none)) else none) else none) else none) else (some (.inr x8))
noncomputable def bitset_both_bitset_Xor_f1_k1 (p0 : S_api_Bits) (p1 : S_api_Bits) (x1 : Bool) : Option (S_api_Bits × Int) := if x1 = true then (some ((⟨0, ([] : List Int)⟩ : S_api_Bits), 8)) else (if 0 ≤ ((p0.Words.length : Nat) : Int) then (if ((p0.Words.length : Nat) : Int) ≤ 1099511627776 then ((loop (fun v : Int × (List Int) => bitset_both_bitset_Xor_f1_l2 p0 p1 v.1 v.2) (0, (List.replicate (((p0.Words.length : Nat) : Int).toNat) (0 : Int)))).bind fun x17 => (some ((⟨p0.Length, x17⟩ : S_api_Bits), 0))) else none) else none)
noncomputable def bitset_both_bitset_Xor_f1 (p0 : S_api_Bits) (p1 : S_api_Bits) : Option (S_api_Bits × Int) := (bitset_Valid p0).bind fun y19 => (if (!y19) = true then (bitset_both_bitset_Xor_f1_k1 p0 p1 true) else ((bitset_Valid p1).bind fun y22 => (if (!y22) = true then (bitset_both_bitset_Xor_f1_k1 p0 p1 true) else (bitset_both_bitset_Xor_f1_k1 p0 p1 (p0.Length != p1.Length)))))
set_option maxRecDepth 100000 in
theorem bitset_both_bitset_Xor_f1_con (p0 : S_api_Bits) (p1 : S_api_Bits) (r : S_api_Bits × Int) (h : bitset_both_bitset_Xor_f1 p0 p1 = some r) : Con Try.prog 58 [.agg [ci64 p0.Length, cl 1 Ru64 p0.Words], .agg [ci64 p1.Length, cl 1 Ru64 p1.Words], .c (.t (.v (.func (.func 61) #[] #[])))] [] (.tup [.agg [ci64 r.1.Length, .ref 0 1 0 r.1.Words.length], vi64 r.2]) [(0, .row 33 false 1 r.1.Words.length (Ru64 r.1.Words))] := by
 refine con_of tt_ok0 0 Try.func58 (by kernel_rfl) rfl (by kernel_rfl) (fun base X _ => AW.post ?_)
 unfold bitset_both_bitset_Xor_f1 at h
 refine AW.sg tt_ok0 [(6, .c (.ptr 2 2 0 0)), (4, .c (.ptr 1 2 0 0)), (3, .c (.ptr 0 2 0 0))] [0, 1, 2] [(2, .box 29 [ci64 0, .t (.v (.slice none 0 0))]), (1, .box 29 [ci64 p1.Length, cl 1 Ru64 p1.Words]), (0, .box 29 [ci64 p0.Length, cl 1 Ru64 p0.Words])] 4 [] (by kernel_rfl) ?_
 refine AW.seq (AW.seq ?_)
 refine AW.join (ι := Bool) (fun v => ⟨[(2, .c (.t (.v (.func (.func 61) #[] #[])))), (3, .c (.ptr 0 2 0 0)), (4, .c (.ptr 1 2 0 0)), (6, .c (.ptr 2 2 0 0)), (25, vb v)], [(0, .box 29 [ci64 p0.Length, cl 1 Ru64 p0.Words]), (1, .box 29 [ci64 p1.Length, cl 1 Ru64 p1.Words]), (2, .box 29 [ci64 0, .t (.v (.slice none 0 0))])], 3⟩) (fun v : Bool => bitset_both_bitset_Xor_f1_k1 p0 p1 v = some r) (fun x1 h => ?_) ?_
 ·
  unfold bitset_both_bitset_Xor_f1_k1 at h
  refine AW.tn ?_
  refine AW.co h (by kernel_rfl) (fun c2 h => ?_) (fun c2 h => ?_)
  ·
   refine AW.sg tt_ok0 [(7, vi64 8)] [2] [(2, .box 29 [ci64 0, .t (.v (.slice none 0 0))])] 6 [] (by kernel_rfl) ?_
   refine AW.ret (AW.tr ?_)
   obtain rfl := some_inj h
   exact fnR (.inr rfl) [(0, 6)] 1 (.tup [.agg [ci64 0, .ref 6 1 0 (([] : List Int).length)], vi64 8]) (conv_adoptB (id := 2) (ty0 := 29) (cs := [ci64 0, .t (.v (.slice none 0 0))]) 1 (ty := 33) (sz := 1) (n := ([] : List Int).length) (f := Ru64 ([] : List Int)) (by kernel_rfl) (by kernel_rfl) rfl) (by kernel_rfl)
  ·
   refine AW.skip (AW.tn ?_)
   obtain ⟨g3, g4, h⟩ := ifd h
   refine AW.sd tt_ok0 mo0 [[], [], [], [], [], [8], [], [10], [10]] [(8, .c (.ptr 10 2 0 0))] [(10, .box 29 [ci64 p0.Length, .ref 8 1 0 ((List.replicate (((p0.Words.length : Nat) : Int).toNat) (0 : Int)).length)]), (8, .row 33 false 1 (List.replicate (((p0.Words.length : Nat) : Int).toNat) (0 : Int)).length (Ru64 (List.replicate (((p0.Words.length : Nat) : Int).toNat) (0 : Int))))] 12 [hn, hn, hn, hn, hn, hmk 0 Eu64 1 8 [.int .u64 0] rfl rfl ((p0.Words.length : Nat) : Int) ((p0.Words.length : Nat) : Int) g3 (Int.le_refl _) g4 (by decide)] (by kernel_rfl) ?_
   refine AW.seq ?_
   refine AW.sg tt_ok0 [(37, vi64 0), (36, vi64 ((p0.Words.length : Nat) : Int)), (35, vl 1 Ru64 p0.Words)] [] [] 16 [] (by kernel_rfl) ?_
   refine AW.block ?_
   obtain ⟨x17, l18, h⟩ := bnd_some h
   refine AW.lp l18 (fun v => ⟨[(2, .c (.t (.v (.func (.func 61) #[] #[])))), (4, .c (.ptr 0 2 0 0)), (6, .c (.ptr 1 2 0 0)), (8, .c (.ptr 2 2 0 0)), (35, vl 1 Ru64 p0.Words), (36, vi64 ((p0.Words.length : Nat) : Int)), (37, vi64 v.1)], [(0, .box 29 [ci64 p1.Length, cl 1 Ru64 p1.Words]), (1, .box 29 [ci64 0, .t (.v (.slice none 0 0))]), (2, .box 29 [ci64 p0.Length, .ref 3 1 0 v.2.length]), (3, .row 33 false 1 v.2.length (Ru64 v.2))], 4⟩) (fun t : List Int => (.exit 0, ⟨[(6, .c (.ptr 0 2 0 0)), (8, .c (.ptr 1 2 0 0))], [(0, .box 29 [ci64 0, .t (.v (.slice none 0 0))]), (1, .box 29 [ci64 p0.Length, .ref 2 1 0 t.length]), (2, .row 33 false 1 t.length (Ru64 t))], 3⟩)) (conv_re [(0, 1), (1, 2), (2, 10), (3, 8)] (by kernel_rfl)) (fun _ => tv) ?_ ?_
   ·
    clear l18 h
    intro v o h
    obtain ⟨x7, x8⟩ := v
    replace h : bitset_both_bitset_Xor_f1_l2 p0 p1 x7 x8 = some o := h
    unfold bitset_both_bitset_Xor_f1_l2 at h
    refine AW.sg tt_ok0 [(38, vb (decide (x7 < ((p0.Words.length : Nat) : Int))))] [] [] 5 [] (by kernel_rfl) ?_
    refine AW.seq ?_
    refine AW.co h (by kernel_rfl) (fun c10 h => ?_) (fun c10 h => ?_)
    ·
     refine AW.skip (AW.tn ?_)
     refine AW.seq (AW.block ?_)
     obtain ⟨g11, g12, h⟩ := ifd h
     refine AW.sg tt_ok0 [(10, vu64 (p0.Words.getD x7.toNat 0)), (9, vi64 x7)] [] [] 10 [hn, hq g11 g12] (by kernel_rfl) ?_
     obtain ⟨g13, h⟩ := ifc h
     obtain ⟨y14, e15, h⟩ := bnd_some h
     obtain ⟨g16, h⟩ := ifc h
     refine AW.rd tt_ok0 mo0 [[], [], [], [], [], [], [], [], [], [], [], [], [3]] [] [(3, .row 33 false 1 x8.length (Ru64 (x8.set (0 + x7.toNat) y14)))] 22 [hn, hn, hn, hn, hn, hn, hn, hn, hq g11 g13, hn, hk (bitset_Xor_f1_con (p0.Words.getD x7.toNat 0) (p1.Words.getD x7.toNat 0) y14 e15), hq g11 g16, hset 0 Eu64 x8 (0 + x7.toNat) y14 (n := x8.length) (by have h1 : 0 ≤ x7 := g11; have h2 : x7 < (x8.length : Int) := g16; omega) rfl] (by kernel_rfl) ?_
     refine AW.inBlock_normal (AW.tn ?_)
     refine AW.rg tt_ok0 [(37, vi64 (i64.wrap (x7 + 1)))] [] [] 24 [] (by kernel_rfl) ?_
     exact lpn h (Conv.trans (conv_re (S' := ⟨[(37, vi64 (i64.wrap (x7 + 1))), (2, .c (.t (.v (.func (.func 61) #[] #[])))), (4, .c (.ptr 0 2 0 0)), (6, .c (.ptr 1 2 0 0)), (8, .c (.ptr 2 2 0 0)), (35, vl 1 Ru64 p0.Words), (36, vi64 ((p0.Words.length : Nat) : Int))], [(3, .row 33 false 1 x8.length (Ru64 (x8.set (0 + x7.toNat) y14))), (0, .box 29 [ci64 p1.Length, cl 1 Ru64 p1.Words]), (1, .box 29 [ci64 0, .t (.v (.slice none 0 0))]), (2, .box 29 [ci64 p0.Length, .ref 3 1 0 x8.length])], 24⟩) [(3, 3), (0, 0), (1, 1), (2, 2)] (by kernel_rfl)) (Conv.trans (conv_len (S' := ⟨[(37, vi64 (i64.wrap (x7 + 1))), (2, .c (.t (.v (.func (.func 61) #[] #[])))), (4, .c (.ptr 0 2 0 0)), (6, .c (.ptr 1 2 0 0)), (8, .c (.ptr 2 2 0 0)), (35, vl 1 Ru64 p0.Words), (36, vi64 ((p0.Words.length : Nat) : Int))], [(3, .row 33 false 1 (x8.set (0 + x7.toNat) y14).length (Ru64 (x8.set (0 + x7.toNat) y14))), (0, .box 29 [ci64 p1.Length, cl 1 Ru64 p1.Words]), (1, .box 29 [ci64 0, .t (.v (.slice none 0 0))]), (2, .box 29 [ci64 p0.Length, .ref 3 1 0 ((x8.set (0 + x7.toNat) y14).length)])], 24⟩) (by simp only [List.length_set])) (conv_re [(0, 0), (1, 1), (2, 2), (3, 3)] (by kernel_rfl))))
    ·
     refine AW.exit (AW.thenQ_exit ?_)
     exact lpo h rfl (conv_re [(0, 1), (1, 2), (2, 3)] (by kernel_rfl))
   ·
    show (_ : Exit → St → Prop) (.exit 0) _
    refine AW.inBlock_hit (AW.tn ?_)
    refine AW.sg tt_ok0 [(7, vi64 0)] [0] [(0, .box 29 [ci64 p0.Length, .ref 2 1 0 x17.length])] 6 [] (by kernel_rfl) ?_
    refine AW.ret ?_
    obtain rfl := some_inj h
    exact fn0 (.inr rfl) [(0, 2)] 1 (.tup [.agg [ci64 p0.Length, .ref 2 1 0 x17.length], vi64 0]) (by kernel_rfl)
 ·
  obtain ⟨y19, e20, h⟩ := bnd_some h
  rcases ifs h with ⟨c21, h⟩ | ⟨c21, h⟩
  ·
   refine AW.rg tt_ok0 [(25, vb true)] [] [] 18 [hn, hk (bitset_Valid_con p0 y19 e20), ht c21] (by kernel_rfl) ?_
   exact jl true h (conv_re [(0, 0), (1, 1), (2, 2)] (by kernel_rfl))
  ·
   obtain ⟨y22, e23, h⟩ := bnd_some h
   rcases ifs h with ⟨c24, h⟩ | ⟨c24, h⟩
   ·
    refine AW.rg tt_ok0 [(25, vb true)] [] [] 17 [hn, hk (bitset_Valid_con p0 y19 e20), hf c21, hn, hn, hk (bitset_Valid_con p1 y22 e23), ht c24] (by kernel_rfl) ?_
    exact jl true h (conv_re [(0, 0), (1, 1), (2, 2)] (by kernel_rfl))
   ·
    refine AW.rg tt_ok0 [(25, vb (p0.Length != p1.Length))] [] [] 17 [hn, hk (bitset_Valid_con p0 y19 e20), hf c21, hn, hn, hk (bitset_Valid_con p1 y22 e23), hf c24] (by kernel_rfl) ?_
    exact jl (p0.Length != p1.Length) h (conv_re [(0, 0), (1, 1), (2, 2)] (by kernel_rfl))
/-! recordlink/bitset.Xor -/
noncomputable def bitset_Xor (p0 : S_api_Bits) (p1 : S_api_Bits) : Option (S_api_Bits × Int) := bind2 (bitset_both_bitset_Xor_f1 p0 p1) fun y1 y2 => (some (y1, y2))
set_option maxRecDepth 100000 in
theorem bitset_Xor_con (p0 : S_api_Bits) (p1 : S_api_Bits) (r : S_api_Bits × Int) (h : bitset_Xor p0 p1 = some r) : Con Try.prog 31 [.agg [ci64 p0.Length, cl 1 Ru64 p0.Words], .agg [ci64 p1.Length, cl 1 Ru64 p1.Words]] [] (.tup [.agg [ci64 r.1.Length, .ref 0 1 0 r.1.Words.length], vi64 r.2]) [(0, .row 33 false 1 r.1.Words.length (Ru64 r.1.Words))] := by
 refine con_of tt_ok0 0 Try.func31 (by kernel_rfl) rfl (by kernel_rfl) (fun base X _ => AW.post ?_)
 unfold bitset_Xor at h
 refine AW.sg tt_ok0 [(4, .c (.ptr 2 2 0 0)), (3, .c (.ptr 1 2 0 0)), (2, .c (.ptr 0 2 0 0))] [0, 1, 2] [(2, .box 29 [ci64 0, .t (.v (.slice none 0 0))]), (1, .box 29 [ci64 p1.Length, cl 1 Ru64 p1.Words]), (0, .box 29 [ci64 p0.Length, cl 1 Ru64 p0.Words])] 4 [] (by kernel_rfl) ?_
 obtain ⟨y1, y2, e3, h⟩ := bind2_some h
 refine AW.sg tt_ok0 [(5, vi64 y2)] [2, 6] [(2, .box 29 [ci64 y1.Length, .ref 6 1 0 y1.Words.length]), (6, .row 33 false 1 y1.Words.length (Ru64 y1.Words))] 11 [hn, hn, hm [] [] 1 (bitset_both_bitset_Xor_f1_con p0 p1 (y1, y2) e3) ⟨rowL_flat Vu64 _ _ _, tv⟩] (by kernel_rfl) ?_
 refine AW.ret ?_
 obtain rfl := some_inj h
 exact fn0 (.inr rfl) [(0, 6)] 1 (.tup [.agg [ci64 y1.Length, .ref 6 1 0 y1.Words.length], vi64 y2]) (by kernel_rfl)
/-! recordlink/recordlinkref09.Xor -/
noncomputable def rl_ref09_Xor (p0 : S_api_Bits) (p1 : S_api_Bits) : Option (S_api_Bits × Int) := bind2 (rl_ref09_combine p0 p1 2) fun y1 y2 => (some (y1, y2))
set_option maxRecDepth 100000 in
theorem rl_ref09_Xor_con (p0 : S_api_Bits) (p1 : S_api_Bits) (r : S_api_Bits × Int) (h : rl_ref09_Xor p0 p1 = some r) : Con Try.prog 43 [.agg [ci64 p0.Length, cl 1 Ru64 p0.Words], .agg [ci64 p1.Length, cl 1 Ru64 p1.Words]] [] (.tup [.agg [ci64 r.1.Length, .ref 0 1 0 r.1.Words.length], vi64 r.2]) [(0, .row 33 false 1 r.1.Words.length (Ru64 r.1.Words))] := by
 refine con_of tt_ok0 0 Try.func43 (by kernel_rfl) rfl (by kernel_rfl) (fun base X _ => AW.post ?_)
 unfold rl_ref09_Xor at h
 refine AW.sg tt_ok0 [(4, .c (.ptr 2 2 0 0)), (3, .c (.ptr 1 2 0 0)), (2, .c (.ptr 0 2 0 0))] [0, 1, 2] [(2, .box 29 [ci64 0, .t (.v (.slice none 0 0))]), (1, .box 29 [ci64 p1.Length, cl 1 Ru64 p1.Words]), (0, .box 29 [ci64 p0.Length, cl 1 Ru64 p0.Words])] 4 [] (by kernel_rfl) ?_
 obtain ⟨y1, y2, e3, h⟩ := bind2_some h
 refine AW.sg tt_ok0 [(5, vi64 y2)] [2, 6] [(2, .box 29 [ci64 y1.Length, .ref 6 1 0 y1.Words.length]), (6, .row 33 false 1 y1.Words.length (Ru64 y1.Words))] 11 [hn, hn, hm [] [] 1 (rl_ref09_combine_con p0 p1 2 (y1, y2) e3) ⟨rowL_flat Vu64 _ _ _, tv⟩] (by kernel_rfl) ?_
 refine AW.ret ?_
 obtain rfl := some_inj h
 exact fn0 (.inr rfl) [(0, 6)] 1 (.tup [.agg [ci64 y1.Length, .ref 6 1 0 y1.Words.length], vi64 y2]) (by kernel_rfl)
/-! cmp.isNaN[int] -/
noncomputable def cmp_isNaN_int (p0 : Int) : Option Bool := some (p0 != p0)
set_option maxRecDepth 100000 in
theorem cmp_isNaN_int_con (p0 : Int) (r : Bool) (h : cmp_isNaN_int p0 = some r) : Con Try.prog 72 [vi64 p0] [] (vb r) [] := by
 refine con_of tt_ok0 0 Try.func72 (by kernel_rfl) rfl (by kernel_rfl) (fun base X _ => AW.post ?_)
 unfold cmp_isNaN_int at h
 refine AW.sg tt_ok0 [] [] [] 1 [] (by kernel_rfl) ?_
 refine AW.sg tt_ok0 [(2, vb (p0 != p0))] [] [] 5 [] (by kernel_rfl) ?_
 refine AW.ret ?_
 obtain rfl := some_inj h
 exact fn0 (.inr rfl) [] 0 (vb (p0 != p0)) (by kernel_rfl)
/-! cmp.Compare[int] -/
noncomputable def cmp_Compare_int (p0 : Int) (p1 : Int) : Option Int := (cmp_isNaN_int p0).bind fun y1 => ((cmp_isNaN_int p1).bind fun y3 => (if y1 = true then (if y3 = true then (some 0) else (some (-1))) else (if y3 = true then (some 1) else (if (decide (p0 < p1)) = true then (some (-1)) else (if (decide (p0 > p1)) = true then (some 1) else (some 0))))))
set_option maxRecDepth 100000 in
theorem cmp_Compare_int_con (p0 : Int) (p1 : Int) (r : Int) (h : cmp_Compare_int p0 p1 = some r) : Con Try.prog 64 [vi64 p0, vi64 p1] [] (vi64 r) [] := by
 refine con_of tt_ok0 0 Try.func64 (by kernel_rfl) rfl (by kernel_rfl) (fun base X _ => AW.post ?_)
 unfold cmp_Compare_int at h
 refine AW.sg tt_ok0 [] [] [] 1 [] (by kernel_rfl) ?_
 obtain ⟨y1, e2, h⟩ := bnd_some h
 refine AW.sg tt_ok0 [(5, vb y1)] [] [] 3 [hn, hk (cmp_isNaN_int_con p0 y1 e2)] (by kernel_rfl) ?_
 obtain ⟨y3, e4, h⟩ := bnd_some h
 refine AW.sg tt_ok0 [(6, vb y3)] [] [] 5 [hn, hk (cmp_isNaN_int_con p1 y3 e4)] (by kernel_rfl) ?_
 refine AW.seq ?_
 refine AW.sg tt_ok0 [(11, vb y1)] [] [] 6 [] (by kernel_rfl) ?_
 refine AW.co h (by kernel_rfl) (fun c5 h => ?_) (fun c5 h => ?_)
 ·
  refine AW.seq ?_
  refine AW.sg tt_ok0 [(12, vb y3)] [] [] 7 [] (by kernel_rfl) ?_
  refine AW.co h (by kernel_rfl) (fun c6 h => ?_) (fun c6 h => ?_)
  ·
   refine AW.sg tt_ok0 [(4, vi64 0)] [] [] 8 [] (by kernel_rfl) ?_
   refine AW.ret (AW.tr (AW.tr ?_))
   obtain rfl := some_inj h
   exact fn0 (.inr rfl) [] 0 (vi64 0) (by kernel_rfl)
  ·
   refine AW.skip (AW.tn ?_)
   refine AW.sg tt_ok0 [(4, vi64 (-1))] [] [] 8 [] (by kernel_rfl) ?_
   refine AW.ret (AW.tr ?_)
   obtain rfl := some_inj h
   exact fn0 (.inr rfl) [] 0 (vi64 (-1)) (by kernel_rfl)
 ·
  refine AW.skip (AW.tn (AW.seq ?_))
  refine AW.sg tt_ok0 [(13, vb y3)] [] [] 7 [] (by kernel_rfl) ?_
  refine AW.co h (by kernel_rfl) (fun c7 h => ?_) (fun c7 h => ?_)
  ·
   refine AW.sg tt_ok0 [(4, vi64 1)] [] [] 8 [] (by kernel_rfl) ?_
   refine AW.ret (AW.tr ?_)
   obtain rfl := some_inj h
   exact fn0 (.inr rfl) [] 0 (vi64 1) (by kernel_rfl)
  ·
   refine AW.skip (AW.tn (AW.seq ?_))
   refine AW.sg tt_ok0 [(16, vb (decide (p0 < p1)))] [] [] 10 [] (by kernel_rfl) ?_
   refine AW.co h (by kernel_rfl) (fun c8 h => ?_) (fun c8 h => ?_)
   ·
    refine AW.sg tt_ok0 [(4, vi64 (-1))] [] [] 11 [] (by kernel_rfl) ?_
    refine AW.ret (AW.tr ?_)
    obtain rfl := some_inj h
    exact fn0 (.inr rfl) [] 0 (vi64 (-1)) (by kernel_rfl)
   ·
    refine AW.skip (AW.tn (AW.seq ?_))
    refine AW.sg tt_ok0 [(19, vb (decide (p0 > p1)))] [] [] 13 [] (by kernel_rfl) ?_
    refine AW.co h (by kernel_rfl) (fun c9 h => ?_) (fun c9 h => ?_)
    ·
     refine AW.sg tt_ok0 [(4, vi64 1)] [] [] 14 [] (by kernel_rfl) ?_
     refine AW.ret (AW.tr ?_)
     obtain rfl := some_inj h
     exact fn0 (.inr rfl) [] 0 (vi64 1) (by kernel_rfl)
    ·
     refine AW.skip (AW.tn ?_)
     refine AW.sg tt_ok0 [(4, vi64 0)] [] [] 14 [] (by kernel_rfl) ?_
     refine AW.ret ?_
     obtain rfl := some_inj h
     exact fn0 (.inr rfl) [] 0 (vi64 0) (by kernel_rfl)
/-! cmp.isNaN[uint64] -/
noncomputable def cmp_isNaN_uint64 (p0 : Int) : Option Bool := some (p0 != p0)
set_option maxRecDepth 100000 in
theorem cmp_isNaN_uint64_con (p0 : Int) (r : Bool) (h : cmp_isNaN_uint64 p0 = some r) : Con Try.prog 74 [vu64 p0] [] (vb r) [] := by
 refine con_of tt_ok0 0 Try.func74 (by kernel_rfl) rfl (by kernel_rfl) (fun base X _ => AW.post ?_)
 unfold cmp_isNaN_uint64 at h
 refine AW.sg tt_ok0 [] [] [] 1 [] (by kernel_rfl) ?_
 refine AW.sg tt_ok0 [(2, vb (p0 != p0))] [] [] 5 [] (by kernel_rfl) ?_
 refine AW.ret ?_
 obtain rfl := some_inj h
 exact fn0 (.inr rfl) [] 0 (vb (p0 != p0)) (by kernel_rfl)
/-! cmp.Compare[uint64] -/
noncomputable def cmp_Compare_uint64 (p0 : Int) (p1 : Int) : Option Int := (cmp_isNaN_uint64 p0).bind fun y1 => ((cmp_isNaN_uint64 p1).bind fun y3 => (if y1 = true then (if y3 = true then (some 0) else (some (-1))) else (if y3 = true then (some 1) else (if (decide (p0 < p1)) = true then (some (-1)) else (if (decide (p0 > p1)) = true then (some 1) else (some 0))))))
set_option maxRecDepth 100000 in
theorem cmp_Compare_uint64_con (p0 : Int) (p1 : Int) (r : Int) (h : cmp_Compare_uint64 p0 p1 = some r) : Con Try.prog 73 [vu64 p0, vu64 p1] [] (vi64 r) [] := by
 refine con_of tt_ok0 0 Try.func73 (by kernel_rfl) rfl (by kernel_rfl) (fun base X _ => AW.post ?_)
 unfold cmp_Compare_uint64 at h
 refine AW.sg tt_ok0 [] [] [] 1 [] (by kernel_rfl) ?_
 obtain ⟨y1, e2, h⟩ := bnd_some h
 refine AW.sg tt_ok0 [(5, vb y1)] [] [] 3 [hn, hk (cmp_isNaN_uint64_con p0 y1 e2)] (by kernel_rfl) ?_
 obtain ⟨y3, e4, h⟩ := bnd_some h
 refine AW.sg tt_ok0 [(6, vb y3)] [] [] 5 [hn, hk (cmp_isNaN_uint64_con p1 y3 e4)] (by kernel_rfl) ?_
 refine AW.seq ?_
 refine AW.sg tt_ok0 [(11, vb y1)] [] [] 6 [] (by kernel_rfl) ?_
 refine AW.co h (by kernel_rfl) (fun c5 h => ?_) (fun c5 h => ?_)
 ·
  refine AW.seq ?_
  refine AW.sg tt_ok0 [(12, vb y3)] [] [] 7 [] (by kernel_rfl) ?_
  refine AW.co h (by kernel_rfl) (fun c6 h => ?_) (fun c6 h => ?_)
  ·
   refine AW.sg tt_ok0 [(4, vi64 0)] [] [] 8 [] (by kernel_rfl) ?_
   refine AW.ret (AW.tr (AW.tr ?_))
   obtain rfl := some_inj h
   exact fn0 (.inr rfl) [] 0 (vi64 0) (by kernel_rfl)
  ·
   refine AW.skip (AW.tn ?_)
   refine AW.sg tt_ok0 [(4, vi64 (-1))] [] [] 8 [] (by kernel_rfl) ?_
   refine AW.ret (AW.tr ?_)
   obtain rfl := some_inj h
   exact fn0 (.inr rfl) [] 0 (vi64 (-1)) (by kernel_rfl)
 ·
  refine AW.skip (AW.tn (AW.seq ?_))
  refine AW.sg tt_ok0 [(13, vb y3)] [] [] 7 [] (by kernel_rfl) ?_
  refine AW.co h (by kernel_rfl) (fun c7 h => ?_) (fun c7 h => ?_)
  ·
   refine AW.sg tt_ok0 [(4, vi64 1)] [] [] 8 [] (by kernel_rfl) ?_
   refine AW.ret (AW.tr ?_)
   obtain rfl := some_inj h
   exact fn0 (.inr rfl) [] 0 (vi64 1) (by kernel_rfl)
  ·
   refine AW.skip (AW.tn (AW.seq ?_))
   refine AW.sg tt_ok0 [(16, vb (decide (p0 < p1)))] [] [] 10 [] (by kernel_rfl) ?_
   refine AW.co h (by kernel_rfl) (fun c8 h => ?_) (fun c8 h => ?_)
   ·
    refine AW.sg tt_ok0 [(4, vi64 (-1))] [] [] 11 [] (by kernel_rfl) ?_
    refine AW.ret (AW.tr ?_)
    obtain rfl := some_inj h
    exact fn0 (.inr rfl) [] 0 (vi64 (-1)) (by kernel_rfl)
   ·
    refine AW.skip (AW.tn (AW.seq ?_))
    refine AW.sg tt_ok0 [(19, vb (decide (p0 > p1)))] [] [] 13 [] (by kernel_rfl) ?_
    refine AW.co h (by kernel_rfl) (fun c9 h => ?_) (fun c9 h => ?_)
    ·
     refine AW.sg tt_ok0 [(4, vi64 1)] [] [] 14 [] (by kernel_rfl) ?_
     refine AW.ret (AW.tr ?_)
     obtain rfl := some_inj h
     exact fn0 (.inr rfl) [] 0 (vi64 1) (by kernel_rfl)
    ·
     refine AW.skip (AW.tn ?_)
     refine AW.sg tt_ok0 [(4, vi64 0)] [] [] 14 [] (by kernel_rfl) ?_
     refine AW.ret ?_
     obtain rfl := some_inj h
     exact fn0 (.inr rfl) [] 0 (vi64 0) (by kernel_rfl)
/-! slices.Compare[[]uint64,uint64] -/
noncomputable def slices_Compare_uint64_l1 (p0 : List Int) (p1 : List Int) (x2 : Int) : Option (Int ⊕ (Unit ⊕ Int)) := if (decide (x2 < (p0.length : Int))) = true then (if 0 ≤ x2 then (if x2 < (p0.length : Int) then (if (decide (x2 ≥ (p1.length : Int))) = true then (some (.inr (.inr 1))) else (if x2 < (p1.length : Int) then ((cmp_Compare_uint64 (p0.getD x2.toNat 0) (p1.getD x2.toNat 0)).bind fun y9 => (if (y9 != 0) = true then (some (.inr (.inr y9))) else (some (.inl (i64.wrap (x2 + 1)))))) else none)) else none) else none) else (some (.inr (.inl ())))
noncomputable def slices_Compare_uint64_a2 (p0 : List Int) (p1 : List Int) : Option Int := if (decide ((p0.length : Int) < (p1.length : Int))) = true then (some (-1)) else (some 0)
noncomputable def slices_Compare_uint64_a3 (x13 : Int) : Option Int := some x13
noncomputable def slices_Compare_uint64 (p0 : List Int) (p1 : List Int) : Option Int := bindE (loop (fun v : Int => slices_Compare_uint64_l1 p0 p1 v) 0) (fun t => slices_Compare_uint64_a2 p0 p1) (fun t => slices_Compare_uint64_a3 t)
set_option maxRecDepth 100000 in
theorem slices_Compare_uint64_con (p0 : List Int) (p1 : List Int) (r : Int) (h : slices_Compare_uint64 p0 p1 = some r) : Con Try.prog 65 [vl 1 Ru64 p0, vl 1 Ru64 p1] [] (vi64 r) [] := by
 refine con_of tt_ok0 0 Try.func65 (by kernel_rfl) rfl (by kernel_rfl) (fun base X _ => AW.post ?_)
 unfold slices_Compare_uint64 at h
 refine AW.sg tt_ok0 [] [] [] 1 [] (by kernel_rfl) ?_
 refine AW.seq ?_
 refine AW.sg tt_ok0 [(11, vi64 0), (10, vi64 (p0.length : Int)), (9, vl 1 Ru64 p0)] [] [] 4 [] (by kernel_rfl) ?_
 refine AW.block ?_
 refine AW.lpE h (fun v => ⟨[(0, vl 1 Ru64 p0), (1, vl 1 Ru64 p1), (9, vl 1 Ru64 p0), (10, vi64 (p0.length : Int)), (11, vi64 v)], [], 0⟩) (fun t => (.exit 0, ⟨[(0, vl 1 Ru64 p0), (1, vl 1 Ru64 p1)], [], 0⟩)) (fun t => (.ret, ⟨[(4, vi64 t)], [], 0⟩)) (conv_re [] (by kernel_rfl)) (fun _ => tv) (fun _ => tv) ?_ (fun t h => ?_) (fun x13 h => ?_)
 ·
  clear h
  intro x2 o h
  unfold slices_Compare_uint64_l1 at h
  refine AW.sg tt_ok0 [(12, vb (decide (x2 < (p0.length : Int))))] [] [] 1 [] (by kernel_rfl) ?_
  refine AW.seq ?_
  refine AW.co h (by kernel_rfl) (fun c4 h => ?_) (fun c4 h => ?_)
  ·
   refine AW.skip (AW.tn ?_)
   refine AW.seq (AW.block ?_)
   obtain ⟨g5, g6, h⟩ := ifd h
   refine AW.sg tt_ok0 [(6, vu64 (p0.getD x2.toNat 0)), (5, vi64 x2)] [] [] 6 [hn, hq g5 g6] (by kernel_rfl) ?_
   refine AW.seq ?_
   refine AW.sg tt_ok0 [(19, vb (decide (x2 ≥ (p1.length : Int))))] [] [] 10 [] (by kernel_rfl) ?_
   refine AW.co h (by kernel_rfl) (fun c7 h => ?_) (fun c7 h => ?_)
   ·
    refine AW.sg tt_ok0 [(4, vi64 1)] [] [] 11 [] (by kernel_rfl) ?_
    refine AW.ret (AW.tr ?_)
    refine AW.inBlock_ret (AW.tr ?_)
    exact lpo h rfl (conv_re [] (by kernel_rfl))
   ·
    refine AW.skip (AW.tn ?_)
    obtain ⟨g8, h⟩ := ifc h
    refine AW.sg tt_ok0 [(7, vu64 (p1.getD x2.toNat 0))] [] [] 15 [hn, hn, hq g5 g8] (by kernel_rfl) ?_
    obtain ⟨y9, e10, h⟩ := bnd_some h
    refine AW.sg tt_ok0 [(8, vi64 y9)] [] [] 18 [hn, hn, hk (cmp_Compare_uint64_con (p0.getD x2.toNat 0) (p1.getD x2.toNat 0) y9 e10)] (by kernel_rfl) ?_
    refine AW.sg tt_ok0 [(28, vb (y9 != 0))] [] [] 20 [] (by kernel_rfl) ?_
    refine AW.co h (by kernel_rfl) (fun c11 h => ?_) (fun c11 h => ?_)
    ·
     refine AW.sg tt_ok0 [(4, vi64 y9)] [] [] 22 [] (by kernel_rfl) ?_
     refine AW.ret (AW.inBlock_ret (AW.tr ?_))
     exact lpo h rfl (conv_re [] (by kernel_rfl))
    ·
     refine AW.skip (AW.inBlock_normal (AW.tn ?_))
     refine AW.rg tt_ok0 [(11, vi64 (i64.wrap (x2 + 1)))] [] [] 22 [] (by kernel_rfl) ?_
     exact lpn h (conv_re [] (by kernel_rfl))
  ·
   refine AW.exit (AW.thenQ_exit ?_)
   exact lpo h rfl (conv_re [] (by kernel_rfl))
 ·
  replace h : slices_Compare_uint64_a2 p0 p1 = some r := h
  unfold slices_Compare_uint64_a2 at h
  show (_ : Exit → St → Prop) (.exit 0) _
  refine AW.inBlock_hit (AW.tn (AW.seq ?_))
  refine AW.sg tt_ok0 [(35, vb (decide ((p0.length : Int) < (p1.length : Int))))] [] [] 5 [] (by kernel_rfl) ?_
  refine AW.co h (by kernel_rfl) (fun c12 h => ?_) (fun c12 h => ?_)
  ·
   refine AW.sg tt_ok0 [(4, vi64 (-1))] [] [] 6 [] (by kernel_rfl) ?_
   refine AW.ret (AW.tr ?_)
   obtain rfl := some_inj h
   exact fn0 (.inr rfl) [] 0 (vi64 (-1)) (by kernel_rfl)
  ·
   refine AW.skip (AW.tn ?_)
   refine AW.sg tt_ok0 [(4, vi64 0)] [] [] 6 [] (by kernel_rfl) ?_
   refine AW.ret ?_
   obtain rfl := some_inj h
   exact fn0 (.inr rfl) [] 0 (vi64 0) (by kernel_rfl)
 ·
  unfold slices_Compare_uint64_a3 at h
  show (_ : Exit → St → Prop) (.ret) _
  refine AW.inBlock_ret (AW.tr ?_)
  obtain rfl := some_inj h
  exact fn0 (.inr rfl) [] 0 (vi64 x13) (by kernel_rfl)
/-! cmp.Or[int] -/
noncomputable def cmp_Or_int_l1 (p0 : List Int) (x2 : Int) : Option (Int ⊕ (Unit ⊕ Int)) := if (decide (x2 < (p0.length : Int))) = true then (if 0 ≤ x2 then (if x2 < (p0.length : Int) then (if ((p0.getD x2.toNat 0) != 0) = true then (some (.inr (.inr (p0.getD x2.toNat 0)))) else (some (.inl (i64.wrap (x2 + 1))))) else none) else none) else (some (.inr (.inl ())))
noncomputable def cmp_Or_int_a2 : Option Int := some 0
noncomputable def cmp_Or_int_a3 (x8 : Int) : Option Int := some x8
noncomputable def cmp_Or_int (p0 : List Int) : Option Int := bindE (loop (fun v : Int => cmp_Or_int_l1 p0 v) 0) (fun t => cmp_Or_int_a2) (fun t => cmp_Or_int_a3 t)
set_option maxRecDepth 100000 in
theorem cmp_Or_int_con (p0 : List Int) (r : Int) (h : cmp_Or_int p0 = some r) : Con Try.prog 63 [vl 1 Ri64 p0] [] (vi64 r) [] := by
 refine con_of tt_ok0 0 Try.func63 (by kernel_rfl) rfl (by kernel_rfl) (fun base X _ => AW.post ?_)
 unfold cmp_Or_int at h
 refine AW.sg tt_ok0 [] [] [] 1 [] (by kernel_rfl) ?_
 refine AW.sg tt_ok0 [(3, vi64 0)] [] [] 2 [] (by kernel_rfl) ?_
 refine AW.seq ?_
 refine AW.sg tt_ok0 [(8, vi64 0), (7, vi64 (p0.length : Int)), (6, vl 1 Ri64 p0)] [] [] 5 [] (by kernel_rfl) ?_
 refine AW.block ?_
 refine AW.lpE h (fun v => ⟨[(3, vi64 0), (6, vl 1 Ri64 p0), (7, vi64 (p0.length : Int)), (8, vi64 v)], [], 0⟩) (fun t => (.exit 0, ⟨[(3, vi64 0)], [], 0⟩)) (fun t => (.ret, ⟨[(2, vi64 t)], [], 0⟩)) (conv_re [] (by kernel_rfl)) (fun _ => tv) (fun _ => tv) ?_ (fun t h => ?_) (fun x8 h => ?_)
 ·
  clear h
  intro x2 o h
  unfold cmp_Or_int_l1 at h
  refine AW.sg tt_ok0 [(9, vb (decide (x2 < (p0.length : Int))))] [] [] 1 [] (by kernel_rfl) ?_
  refine AW.seq ?_
  refine AW.co h (by kernel_rfl) (fun c4 h => ?_) (fun c4 h => ?_)
  ·
   refine AW.skip (AW.tn ?_)
   refine AW.seq (AW.block ?_)
   obtain ⟨g5, g6, h⟩ := ifd h
   refine AW.sg tt_ok0 [(5, vi64 (p0.getD x2.toNat 0))] [] [] 4 [hq g5 g6] (by kernel_rfl) ?_
   refine AW.sg tt_ok0 [(14, vb ((p0.getD x2.toNat 0) != 0))] [] [] 7 [] (by kernel_rfl) ?_
   refine AW.co h (by kernel_rfl) (fun c7 h => ?_) (fun c7 h => ?_)
   ·
    refine AW.sg tt_ok0 [(2, vi64 (p0.getD x2.toNat 0))] [] [] 9 [] (by kernel_rfl) ?_
    refine AW.ret (AW.inBlock_ret (AW.tr ?_))
    exact lpo h rfl (conv_re [] (by kernel_rfl))
   ·
    refine AW.skip (AW.inBlock_normal (AW.tn ?_))
    refine AW.rg tt_ok0 [(8, vi64 (i64.wrap (x2 + 1)))] [] [] 9 [] (by kernel_rfl) ?_
    exact lpn h (conv_re [] (by kernel_rfl))
  ·
   refine AW.exit (AW.thenQ_exit ?_)
   exact lpo h rfl (conv_re [] (by kernel_rfl))
 ·
  replace h : cmp_Or_int_a2 = some r := h
  unfold cmp_Or_int_a2 at h
  show (_ : Exit → St → Prop) (.exit 0) _
  refine AW.inBlock_hit (AW.tn ?_)
  refine AW.sg tt_ok0 [(2, vi64 0)] [] [] 2 [] (by kernel_rfl) ?_
  refine AW.ret ?_
  obtain rfl := some_inj h
  exact fn0 (.inr rfl) [] 0 (vi64 0) (by kernel_rfl)
 ·
  unfold cmp_Or_int_a3 at h
  show (_ : Exit → St → Prop) (.ret) _
  refine AW.inBlock_ret (AW.tr ?_)
  obtain rfl := some_inj h
  exact fn0 (.inr rfl) [] 0 (vi64 x8) (by kernel_rfl)
/-! recordlink/bitset.Compare -/
noncomputable def bitset_Compare (p0 : S_api_Bits) (p1 : S_api_Bits) : Option Int := (cmp_Compare_int p0.Length p1.Length).bind fun y1 => ((cmp_Compare_int ((p0.Words.length : Nat) : Int) ((p1.Words.length : Nat) : Int)).bind fun y3 => ((slices_Compare_uint64 p0.Words p1.Words).bind fun y5 => ((cmp_Or_int ([y1, y3, y5] : List Int)).bind fun y7 => (some y7))))
set_option maxRecDepth 100000 in
theorem bitset_Compare_con (p0 : S_api_Bits) (p1 : S_api_Bits) (r : Int) (h : bitset_Compare p0 p1 = some r) : Con Try.prog 38 [.agg [ci64 p0.Length, cl 1 Ru64 p0.Words], .agg [ci64 p1.Length, cl 1 Ru64 p1.Words]] [] (vi64 r) [] := by
 refine con_of tt_ok0 0 Try.func38 (by kernel_rfl) rfl (by kernel_rfl) (fun base X _ => AW.post ?_)
 unfold bitset_Compare at h
 refine AW.sg tt_ok0 [(3, .c (.ptr 1 2 0 0)), (2, .c (.ptr 0 2 0 0))] [0, 1] [(1, .box 29 [ci64 p1.Length, cl 1 Ru64 p1.Words]), (0, .box 29 [ci64 p0.Length, cl 1 Ru64 p0.Words])] 3 [] (by kernel_rfl) ?_
 obtain ⟨y1, e2, h⟩ := bnd_some h
 obtain ⟨y3, e4, h⟩ := bnd_some h
 obtain ⟨y5, e6, h⟩ := bnd_some h
 obtain ⟨y7, e8, h⟩ := bnd_some h
 refine AW.sd tt_ok0 mo0 [[], [], [], [], [], [], [], [], [], [], [], [], [], [], [], [], [], [17]] [(4, vi64 y7)] [] 19 [hn, hn, hn, hn, hk (cmp_Compare_int_con p0.Length p1.Length y1 e2), hn, hn, hn, hn, hn, hn, hk (cmp_Compare_int_con ((p0.Words.length : Nat) : Int) ((p1.Words.length : Nat) : Int) y3 e4), hn, hn, hn, hn, hk (slices_Compare_uint64_con p0.Words p1.Words y5 e6), hlit 0 Ei64 1 (fun _ => rfl) ([y1, y3, y5] : List Int), hg [] [] true 0 (q := (0 + ([y1, y3, y5] : List Int).length ≤ ([y1, y3, y5] : List Int).length) ∧ (True)) ⟨le0, tv⟩ (a0 := [vl 1 Ri64 ([y1, y3, y5] : List Int)]) (cmp_Or_int_con ([y1, y3, y5] : List Int) y7 e8) ⟨ArgLe.refl _, tv⟩ (fun _ => tv)] (by kernel_rfl) ?_
 refine AW.ret ?_
 obtain rfl := some_inj h
 exact fn0 (.inr rfl) [] 0 (vi64 y7) (by kernel_rfl)
/-! recordlink/recordlinkref09.Set -/
noncomputable def rl_ref09_Set_k1 (p0 : S_api_Bits) (p1 : Int) (x4 : Bool) : Option (S_api_Bits × Int) := if x4 = true then (some ((⟨0, ([] : List Int)⟩ : S_api_Bits), 2)) else ((rl_ref09_Copy p0).bind fun y6 => (if 0 ≤ (i64.wrap (p1.tdiv 64)) then (if (i64.wrap (p1.tdiv 64)) < ((y6.Words.length : Nat) : Int) then (if 0 ≤ (p1.tmod 64) then (some ((⟨y6.Length, (y6.Words.set (0 + (i64.wrap (p1.tdiv 64)).toNat) (ior .u64 (y6.Words.getD (0 + (i64.wrap (p1.tdiv 64)).toNat) 0) (ishl .u64 1 (p1.tmod 64))))⟩ : S_api_Bits), 0)) else none) else none) else none))
noncomputable def rl_ref09_Set (p0 : S_api_Bits) (p1 : Int) : Option (S_api_Bits × Int) := (rl_ref09_Valid p0).bind fun y1 => (if (!y1) = true then (some ((⟨0, ([] : List Int)⟩ : S_api_Bits), 8)) else (if (decide (p1 < 0)) = true then (rl_ref09_Set_k1 p0 p1 true) else (rl_ref09_Set_k1 p0 p1 (decide (p1 ≥ p0.Length)))))
set_option maxRecDepth 100000 in
theorem rl_ref09_Set_con (p0 : S_api_Bits) (p1 : Int) (r : S_api_Bits × Int) (h : rl_ref09_Set p0 p1 = some r) : Con Try.prog 45 [.agg [ci64 p0.Length, cl 1 Ru64 p0.Words], vi64 p1] [] (.tup [.agg [ci64 r.1.Length, .ref 0 1 0 r.1.Words.length], vi64 r.2]) [(0, .row 33 false 1 r.1.Words.length (Ru64 r.1.Words))] := by
 refine con_of tt_ok0 0 Try.func45 (by kernel_rfl) rfl (by kernel_rfl) (fun base X _ => AW.post ?_)
 unfold rl_ref09_Set at h
 refine AW.sg tt_ok0 [(4, .c (.ptr 1 2 0 0)), (2, .c (.ptr 0 2 0 0))] [0, 1] [(1, .box 29 [ci64 0, .t (.v (.slice none 0 0))]), (0, .box 29 [ci64 p0.Length, cl 1 Ru64 p0.Words])] 3 [] (by kernel_rfl) ?_
 refine AW.seq ?_
 obtain ⟨y1, e2, h⟩ := bnd_some h
 refine AW.sg tt_ok0 [(9, vb (!y1))] [] [] 5 [hn, hk (rl_ref09_Valid_con p0 y1 e2)] (by kernel_rfl) ?_
 refine AW.co h (by kernel_rfl) (fun c3 h => ?_) (fun c3 h => ?_)
 ·
  refine AW.sg tt_ok0 [(5, vi64 8)] [1] [(1, .box 29 [ci64 0, .t (.v (.slice none 0 0))])] 8 [] (by kernel_rfl) ?_
  refine AW.ret (AW.tr ?_)
  obtain rfl := some_inj h
  exact fnR (.inr rfl) [(0, 8)] 1 (.tup [.agg [ci64 0, .ref 8 1 0 (([] : List Int).length)], vi64 8]) (conv_adoptB (id := 1) (ty0 := 29) (cs := [ci64 0, .t (.v (.slice none 0 0))]) 1 (ty := 33) (sz := 1) (n := ([] : List Int).length) (f := Ru64 ([] : List Int)) (by kernel_rfl) (by kernel_rfl) rfl) (by kernel_rfl)
 ·
  refine AW.skip (AW.tn ?_)
  refine AW.seq (AW.seq ?_)
  refine AW.join (ι := Bool) (fun v => ⟨[(1, vi64 p1), (2, .c (.ptr 0 2 0 0)), (4, .c (.ptr 1 2 0 0)), (18, vb v)], [(0, .box 29 [ci64 p0.Length, cl 1 Ru64 p0.Words]), (1, .box 29 [ci64 0, .t (.v (.slice none 0 0))])], 2⟩) (fun v : Bool => rl_ref09_Set_k1 p0 p1 v = some r) (fun x4 h => ?_) ?_
  ·
   unfold rl_ref09_Set_k1 at h
   refine AW.tn ?_
   refine AW.co h (by kernel_rfl) (fun c5 h => ?_) (fun c5 h => ?_)
   ·
    refine AW.sg tt_ok0 [(5, vi64 2)] [1] [(1, .box 29 [ci64 0, .t (.v (.slice none 0 0))])] 5 [] (by kernel_rfl) ?_
    refine AW.ret (AW.tr ?_)
    obtain rfl := some_inj h
    exact fnR (.inr rfl) [(0, 5)] 1 (.tup [.agg [ci64 0, .ref 5 1 0 (([] : List Int).length)], vi64 2]) (conv_adoptB (id := 1) (ty0 := 29) (cs := [ci64 0, .t (.v (.slice none 0 0))]) 1 (ty := 33) (sz := 1) (n := ([] : List Int).length) (f := Ru64 ([] : List Int)) (by kernel_rfl) (by kernel_rfl) rfl) (by kernel_rfl)
   ·
    refine AW.skip (AW.tn ?_)
    obtain ⟨y6, e7, h⟩ := bnd_some h
    refine AW.sg tt_ok0 [(6, .c (.ptr 4 2 0 0))] [3, 4] [(4, .box 29 [ci64 y6.Length, .ref 3 1 0 y6.Words.length]), (3, .row 33 false 1 y6.Words.length (Ru64 y6.Words))] 6 [hn, hm [] [] 1 (rl_ref09_Copy_con p0 y6 e7) ⟨rowL_flat Vu64 _ _ _, tv⟩] (by kernel_rfl) ?_
    obtain ⟨g8, g9, h⟩ := ifd h
    obtain ⟨g10, h⟩ := ifc h
    refine AW.sd tt_ok0 mo0 [[], [], [], [], [], [], [], [], [], [], [], [3]] [] [(3, .row 33 false 1 y6.Words.length (Ru64 (y6.Words.set (0 + (i64.wrap (p1.tdiv 64)).toNat) (ior .u64 (y6.Words.getD (0 + (i64.wrap (p1.tdiv 64)).toNat) 0) (ishl .u64 1 (p1.tmod 64))))))] 18 [hn, hn, hn, ho (p := (64 : Int) ≠ 0) (by decide), hq g8 g9, ho (p := (0 + (i64.wrap (p1.tdiv 64)).toNat) < y6.Words.length) (by have h1 : 0 ≤ (i64.wrap (p1.tdiv 64)) := g8; have h2 : (i64.wrap (p1.tdiv 64)) < ((y6.Words.length : Nat) : Int) := g9; omega), hn, ho (p := (64 : Int) ≠ 0) (by decide), ho g10, hn, hq g8 g9, hset 0 Eu64 y6.Words (0 + (i64.wrap (p1.tdiv 64)).toNat) (ior .u64 (y6.Words.getD (0 + (i64.wrap (p1.tdiv 64)).toNat) 0) (ishl .u64 1 (p1.tmod 64))) (n := y6.Words.length) (by have h1 : 0 ≤ (i64.wrap (p1.tdiv 64)) := g8; have h2 : (i64.wrap (p1.tdiv 64)) < ((y6.Words.length : Nat) : Int) := g9; omega) rfl] (by kernel_rfl) ?_
    refine AW.sg tt_ok0 [(5, vi64 0)] [1] [(1, .box 29 [ci64 y6.Length, .ref 3 1 0 y6.Words.length])] 21 [] (by kernel_rfl) ?_
    refine AW.ret ?_
    obtain rfl := some_inj h
    exact fnR (.inr rfl) [(0, 3)] 1 (.tup [.agg [ci64 y6.Length, .ref 3 1 0 ((y6.Words.set (0 + (i64.wrap (p1.tdiv 64)).toNat) (ior .u64 (y6.Words.getD (0 + (i64.wrap (p1.tdiv 64)).toNat) 0) (ishl .u64 1 (p1.tmod 64)))).length)], vi64 0]) (Conv.trans (conv_re (S' := ⟨[(5, vi64 0), (4, .c (.ptr 1 2 0 0))], [(1, .box 29 [ci64 y6.Length, .ref 3 1 0 y6.Words.length]), (3, .row 33 false 1 y6.Words.length (Ru64 (y6.Words.set (0 + (i64.wrap (p1.tdiv 64)).toNat) (ior .u64 (y6.Words.getD (0 + (i64.wrap (p1.tdiv 64)).toNat) 0) (ishl .u64 1 (p1.tmod 64))))))], 21⟩) [(1, 1), (3, 3)] (by kernel_rfl)) (conv_len (S' := ⟨[(5, vi64 0), (4, .c (.ptr 1 2 0 0))], [(1, .box 29 [ci64 y6.Length, .ref 3 1 0 ((y6.Words.set (0 + (i64.wrap (p1.tdiv 64)).toNat) (ior .u64 (y6.Words.getD (0 + (i64.wrap (p1.tdiv 64)).toNat) 0) (ishl .u64 1 (p1.tmod 64)))).length)]), (3, .row 33 false 1 (y6.Words.set (0 + (i64.wrap (p1.tdiv 64)).toNat) (ior .u64 (y6.Words.getD (0 + (i64.wrap (p1.tdiv 64)).toNat) 0) (ishl .u64 1 (p1.tmod 64)))).length (Ru64 (y6.Words.set (0 + (i64.wrap (p1.tdiv 64)).toNat) (ior .u64 (y6.Words.getD (0 + (i64.wrap (p1.tdiv 64)).toNat) 0) (ishl .u64 1 (p1.tmod 64))))))], 21⟩) (by simp only [List.length_set]))) (by kernel_rfl)
  ·
   rcases ifs h with ⟨c11, h⟩ | ⟨c11, h⟩
   ·
    refine AW.rg tt_ok0 [(18, vb true)] [] [] 13 [hn, ht c11] (by kernel_rfl) ?_
    exact jl true h (conv_re [(0, 0), (1, 1)] (by kernel_rfl))
   ·
    refine AW.rg tt_ok0 [(18, vb (decide (p1 ≥ p0.Length)))] [] [] 13 [hn, hf c11] (by kernel_rfl) ?_
    exact jl (decide (p1 ≥ p0.Length)) h (conv_re [(0, 0), (1, 1)] (by kernel_rfl))
/-! recordlink/recordlinkref09.Has -/
noncomputable def rl_ref09_Has_k1 (x1 : Bool) : Option Bool := some x1
noncomputable def rl_ref09_Has (p0 : S_api_Bits) (p1 : Int) : Option Bool := (rl_ref09_Valid p0).bind fun y2 => (if y2 = true then (if (decide (p1 ≥ 0)) = true then (if (decide (p1 < p0.Length)) = true then (if 0 ≤ (i64.wrap (p1.tdiv 64)) then (if (i64.wrap (p1.tdiv 64)) < ((p0.Words.length : Nat) : Int) then (if 0 ≤ (p1.tmod 64) then (rl_ref09_Has_k1 ((iand .u64 (ishr .u64 (p0.Words.getD ((i64.wrap (p1.tdiv 64)).toNat) 0) (p1.tmod 64)) 1) == 1)) else none) else none) else none) else (rl_ref09_Has_k1 false)) else (rl_ref09_Has_k1 false)) else (rl_ref09_Has_k1 false))
set_option maxRecDepth 100000 in
theorem rl_ref09_Has_con (p0 : S_api_Bits) (p1 : Int) (r : Bool) (h : rl_ref09_Has p0 p1 = some r) : Con Try.prog 46 [.agg [ci64 p0.Length, cl 1 Ru64 p0.Words], vi64 p1] [] (vb r) [] := by
 refine con_of tt_ok0 0 Try.func46 (by kernel_rfl) rfl (by kernel_rfl) (fun base X _ => AW.post ?_)
 unfold rl_ref09_Has at h
 refine AW.sg tt_ok0 [(2, .c (.ptr 0 2 0 0))] [0] [(0, .box 29 [ci64 p0.Length, cl 1 Ru64 p0.Words])] 2 [] (by kernel_rfl) ?_
 refine AW.seq ?_
 refine AW.join (ι := Bool) (fun v => ⟨[(4, vb v)], [], 0⟩) (fun v : Bool => rl_ref09_Has_k1 v = some r) (fun x1 h => ?_) ?_
 ·
  unfold rl_ref09_Has_k1 at h
  refine AW.tn (AW.ret ?_)
  obtain rfl := some_inj h
  exact fn0 (.inr rfl) [] 0 (vb x1) (by kernel_rfl)
 ·
  obtain ⟨y2, e3, h⟩ := bnd_some h
  rcases ifs h with ⟨c4, hs⟩ | ⟨c4, hs⟩
  ·clear h; subst c4; have h := hs; clear hs
   rcases ifs h with ⟨c5, h⟩ | ⟨c5, h⟩
   ·
    rcases ifs h with ⟨c6, h⟩ | ⟨c6, h⟩
    ·
     obtain ⟨g7, g8, h⟩ := ifd h
     obtain ⟨g9, h⟩ := ifc h
     refine AW.rg tt_ok0 [(4, vb ((iand .u64 (ishr .u64 (p0.Words.getD ((i64.wrap (p1.tdiv 64)).toNat) 0) (p1.tmod 64)) 1) == 1))] [] [] 27 [hn, hk (rl_ref09_Valid_con p0 true e3), hn, hn, ht c5, hn, hn, hn, hn, hn, ht c6, hn, hn, hn, hn, hn, ho (p := (64 : Int) ≠ 0) (by decide), hq g7 g8, hn, hn, ho (p := (64 : Int) ≠ 0) (by decide), ho g9] (by kernel_rfl) ?_
     exact jl ((iand .u64 (ishr .u64 (p0.Words.getD ((i64.wrap (p1.tdiv 64)).toNat) 0) (p1.tmod 64)) 1) == 1) h (conv_re [] (by kernel_rfl))
    ·
     refine AW.rg tt_ok0 [(4, vb false)] [] [] 27 [hn, hk (rl_ref09_Valid_con p0 true e3), hn, hn, ht c5, hn, hn, hn, hn, hn, hf c6] (by kernel_rfl) ?_
     exact jl false h (conv_re [] (by kernel_rfl))
   ·
    refine AW.rg tt_ok0 [(4, vb false)] [] [] 27 [hn, hk (rl_ref09_Valid_con p0 true e3), hn, hn, hf c5] (by kernel_rfl) ?_
    exact jl false h (conv_re [] (by kernel_rfl))
  ·clear h; subst c4; have h := hs; clear hs
   refine AW.rg tt_ok0 [(4, vb false)] [] [] 27 [hn, hk (rl_ref09_Valid_con p0 false e3)] (by kernel_rfl) ?_
   exact jl false h (conv_re [] (by kernel_rfl))
/-! recordlink/bitset.Fold -/
noncomputable def bitset_Fold (p0 : S_api_Bits) : Option (S_api_Bits × Int) := (bitset_Valid p0).bind fun y1 => (if (!y1) = true then (some ((⟨0, ([] : List Int)⟩ : S_api_Bits), 8)) else (if ((p0.Length.tmod 128) != 0) = true then (some ((⟨0, ([] : List Int)⟩ : S_api_Bits), 2)) else (if 0 ≤ (i64.wrap (((p0.Words.length : Nat) : Int).tdiv 2)) then (if ((i64.wrap (((p0.Words.length : Nat) : Int).tdiv 2)).toNat) ≤ p0.Words.length then (bind2 (bitset_Xor (⟨i64.wrap ((i64.wrap (((p0.Words.length : Nat) : Int).tdiv 2)) * 64), (p0.Words.take ((i64.wrap (((p0.Words.length : Nat) : Int).tdiv 2)).toNat))⟩ : S_api_Bits) (⟨i64.wrap ((i64.wrap (((p0.Words.length : Nat) : Int).tdiv 2)) * 64), ((p0.Words.drop ((i64.wrap (((p0.Words.length : Nat) : Int).tdiv 2)).toNat)).take (p0.Words.length - (i64.wrap (((p0.Words.length : Nat) : Int).tdiv 2)).toNat))⟩ : S_api_Bits)) fun y7 y8 => (some (y7, y8))) else none) else none)))
set_option maxRecDepth 100000 in
theorem bitset_Fold_con (p0 : S_api_Bits) (r : S_api_Bits × Int) (h : bitset_Fold p0 = some r) : Con Try.prog 32 [.agg [ci64 p0.Length, cl 1 Ru64 p0.Words]] [] (.tup [.agg [ci64 r.1.Length, .ref 0 1 0 r.1.Words.length], vi64 r.2]) [(0, .row 33 false 1 r.1.Words.length (Ru64 r.1.Words))] := by
 refine con_of tt_ok0 0 Try.func32 (by kernel_rfl) rfl (by kernel_rfl) (fun base X _ => AW.post ?_)
 unfold bitset_Fold at h
 refine AW.sg tt_ok0 [(2, .c (.ptr 1 2 0 0)), (1, .c (.ptr 0 2 0 0))] [0, 1] [(1, .box 29 [ci64 0, .t (.v (.slice none 0 0))]), (0, .box 29 [ci64 p0.Length, cl 1 Ru64 p0.Words])] 3 [] (by kernel_rfl) ?_
 refine AW.seq (AW.block ?_)
 obtain ⟨y1, e2, h⟩ := bnd_some h
 refine AW.sg tt_ok0 [(5, vb (!y1))] [] [] 6 [hn, hk (bitset_Valid_con p0 y1 e2)] (by kernel_rfl) ?_
 refine AW.co h (by kernel_rfl) (fun c3 h => ?_) (fun c3 h => ?_)
 ·
  refine AW.sg tt_ok0 [(3, vi64 8)] [1] [(1, .box 29 [ci64 0, .t (.v (.slice none 0 0))])] 9 [] (by kernel_rfl) ?_
  refine AW.ret (AW.inBlock_ret (AW.tr ?_))
  obtain rfl := some_inj h
  exact fnR (.inr rfl) [(0, 9)] 1 (.tup [.agg [ci64 0, .ref 9 1 0 (([] : List Int).length)], vi64 8]) (conv_adoptB (id := 1) (ty0 := 29) (cs := [ci64 0, .t (.v (.slice none 0 0))]) 1 (ty := 33) (sz := 1) (n := ([] : List Int).length) (f := Ru64 ([] : List Int)) (by kernel_rfl) (by kernel_rfl) rfl) (by kernel_rfl)
 ·
  refine AW.sg tt_ok0 [(10, vb ((p0.Length.tmod 128) != 0))] [] [] 11 [hn, hn, ho (p := (128 : Int) ≠ 0) (by decide)] (by kernel_rfl) ?_
  refine AW.co h (by kernel_rfl) (fun c4 h => ?_) (fun c4 h => ?_)
  ·
   refine AW.sg tt_ok0 [(3, vi64 2)] [1] [(1, .box 29 [ci64 0, .t (.v (.slice none 0 0))])] 14 [] (by kernel_rfl) ?_
   refine AW.ret (AW.inBlock_ret (AW.tr ?_))
   obtain rfl := some_inj h
   exact fnR (.inr rfl) [(0, 14)] 1 (.tup [.agg [ci64 0, .ref 14 1 0 (([] : List Int).length)], vi64 2]) (conv_adoptB (id := 1) (ty0 := 29) (cs := [ci64 0, .t (.v (.slice none 0 0))]) 1 (ty := 33) (sz := 1) (n := ([] : List Int).length) (f := Ru64 ([] : List Int)) (by kernel_rfl) (by kernel_rfl) rfl) (by kernel_rfl)
  ·
   refine AW.skip (AW.inBlock_normal (AW.tn ?_))
   refine AW.sg tt_ok0 [(4, vi64 (i64.wrap (((p0.Words.length : Nat) : Int).tdiv 2)))] [] [] 16 [hn, hn, hn, ho (p := (2 : Int) ≠ 0) (by decide)] (by kernel_rfl) ?_
   obtain ⟨g5, g6, h⟩ := ifd h
   obtain ⟨y7, y8, e9, h⟩ := bind2_some h
   refine AW.sd tt_ok0 mo0 [[], [], [], [], [], [], [], [], [], [], [], [], [], [], [30], [], [], [1]] [(3, vi64 y8)] [(1, .box 29 [ci64 y7.Length, .ref 30 1 0 y7.Words.length]), (30, .row 33 false 1 y7.Words.length (Ru64 y7.Words))] 35 [hn, hn, hn, hn, hn, ho (p := (True) ∧ (0 ≤ (i64.wrap (((p0.Words.length : Nat) : Int).tdiv 2))) ∧ (0 ≤ ((i64.wrap (((p0.Words.length : Nat) : Int).tdiv 2)).toNat)) ∧ (((i64.wrap (((p0.Words.length : Nat) : Int).tdiv 2)).toNat) ≤ p0.Words.length)) (⟨tv, g5, (Nat.zero_le _), g6⟩), hn, hn, hn, hn, hn, hn, ho (p := (0 ≤ (i64.wrap (((p0.Words.length : Nat) : Int).tdiv 2))) ∧ (True) ∧ (((i64.wrap (((p0.Words.length : Nat) : Int).tdiv 2)).toNat) ≤ p0.Words.length) ∧ (p0.Words.length ≤ p0.Words.length)) (⟨g5, tv, g6, (Nat.le_refl _)⟩), hn, hg [] [] true 1 (q := ((True) ∧ (True) ∧ (True)) ∧ ((True) ∧ (True) ∧ (True)) ∧ (True)) ⟨⟨tv, tv, tv⟩, ⟨tv, tv, tv⟩, tv⟩ (a0 := [.agg [ci64 (i64.wrap ((i64.wrap (((p0.Words.length : Nat) : Int).tdiv 2)) * 64)), .t (.tree ((i64.wrap (((p0.Words.length : Nat) : Int).tdiv 2)).toNat) 1 (Ru64 p0.Words))], .agg [ci64 (i64.wrap ((i64.wrap (((p0.Words.length : Nat) : Int).tdiv 2)) * 64)), .t (.tree (p0.Words.length - (i64.wrap (((p0.Words.length : Nat) : Int).tdiv 2)).toNat) 1 (fun i j => Ru64 p0.Words ((i64.wrap (((p0.Words.length : Nat) : Int).tdiv 2)).toNat + i) j))]]) (bitset_Xor_con (⟨i64.wrap ((i64.wrap (((p0.Words.length : Nat) : Int).tdiv 2)) * 64), (p0.Words.take ((i64.wrap (((p0.Words.length : Nat) : Int).tdiv 2)).toNat))⟩ : S_api_Bits) (⟨i64.wrap ((i64.wrap (((p0.Words.length : Nat) : Int).tdiv 2)) * 64), ((p0.Words.drop ((i64.wrap (((p0.Words.length : Nat) : Int).tdiv 2)).toNat)).take (p0.Words.length - (i64.wrap (((p0.Words.length : Nat) : Int).tdiv 2)).toNat))⟩ : S_api_Bits) (y7, y8) e9) ⟨ArgLe.agg ⟨CAle.refl _, CAle.tree (take_row (by omega)), tv⟩, ArgLe.agg ⟨CAle.refl _, CAle.tree (part_row (by omega)), tv⟩, tv⟩ (fun _ => ⟨rowL_flat Vu64 _ _ _, tv⟩)] (by kernel_rfl) ?_
   refine AW.ret ?_
   obtain rfl := some_inj h
   exact fn0 (.inr rfl) [(0, 30)] 1 (.tup [.agg [ci64 y7.Length, .ref 30 1 0 y7.Words.length], vi64 y8]) (by kernel_rfl)
/-! recordlink/recordlinkref09.Fold -/
noncomputable def rl_ref09_Fold_l1 (p0 : S_api_Bits) (x7 : Int) (x8 : List Int) : Option ((Int × (List Int)) ⊕ (List Int)) := if (decide (x7 < (i64.wrap (((p0.Words.length : Nat) : Int).tdiv 2)))) = true then (if 0 ≤ x7 then (if x7 < ((p0.Words.length : Nat) : Int) then (if 0 ≤ (i64.wrap ((i64.wrap (((p0.Words.length : Nat) : Int).tdiv 2)) + x7)) then (if (i64.wrap ((i64.wrap (((p0.Words.length : Nat) : Int).tdiv 2)) + x7)) < ((p0.Words.length : Nat) : Int) then (if x8.length + ([ixor .u64 (p0.Words.getD x7.toNat 0) (p0.Words.getD ((i64.wrap ((i64.wrap (((p0.Words.length : Nat) : Int).tdiv 2)) + x7)).toNat) 0)] : List Int).length ≤ 1099511627776 then (some (.inl (i64.wrap (x7 + 1), (x8 ++ ([ixor .u64 (p0.Words.getD x7.toNat 0) (p0.Words.getD ((i64.wrap ((i64.wrap (((p0.Words.length : Nat) : Int).tdiv 2)) + x7)).toNat) 0)] : List Int))))) else none) else none) else none) else none) else none) else (some (.inr x8))
noncomputable def rl_ref09_Fold (p0 : S_api_Bits) : Option (S_api_Bits × Int) := (rl_ref09_Valid p0).bind fun y1 => (if (!y1) = true then (some ((⟨0, ([] : List Int)⟩ : S_api_Bits), 8)) else (if ((p0.Length.tmod 128) != 0) = true then (some ((⟨0, ([] : List Int)⟩ : S_api_Bits), 2)) else ((loop (fun v : Int × (List Int) => rl_ref09_Fold_l1 p0 v.1 v.2) (0, ([] : List Int))).bind fun x16 => (some ((⟨i64.wrap (p0.Length.tdiv 2), x16⟩ : S_api_Bits), 0)))))
set_option maxRecDepth 100000 in
theorem rl_ref09_Fold_con (p0 : S_api_Bits) (r : S_api_Bits × Int) (h : rl_ref09_Fold p0 = some r) : Con Try.prog 47 [.agg [ci64 p0.Length, cl 1 Ru64 p0.Words]] [] (.tup [.agg [ci64 r.1.Length, .ref 0 1 0 r.1.Words.length], vi64 r.2]) [(0, .row 33 false 1 r.1.Words.length (Ru64 r.1.Words))] := by
 refine con_of tt_ok0 0 Try.func47 (by kernel_rfl) rfl (by kernel_rfl) (fun base X _ => AW.post ?_)
 unfold rl_ref09_Fold at h
 refine AW.sg tt_ok0 [(2, .c (.ptr 1 2 0 0)), (1, .c (.ptr 0 2 0 0))] [0, 1] [(1, .box 29 [ci64 0, .t (.v (.slice none 0 0))]), (0, .box 29 [ci64 p0.Length, cl 1 Ru64 p0.Words])] 3 [] (by kernel_rfl) ?_
 refine AW.seq ?_
 obtain ⟨y1, e2, h⟩ := bnd_some h
 refine AW.sg tt_ok0 [(9, vb (!y1))] [] [] 5 [hn, hk (rl_ref09_Valid_con p0 y1 e2)] (by kernel_rfl) ?_
 refine AW.co h (by kernel_rfl) (fun c3 h => ?_) (fun c3 h => ?_)
 ·
  refine AW.sg tt_ok0 [(3, vi64 8)] [1] [(1, .box 29 [ci64 0, .t (.v (.slice none 0 0))])] 8 [] (by kernel_rfl) ?_
  refine AW.ret (AW.tr ?_)
  obtain rfl := some_inj h
  exact fnR (.inr rfl) [(0, 8)] 1 (.tup [.agg [ci64 0, .ref 8 1 0 (([] : List Int).length)], vi64 8]) (conv_adoptB (id := 1) (ty0 := 29) (cs := [ci64 0, .t (.v (.slice none 0 0))]) 1 (ty := 33) (sz := 1) (n := ([] : List Int).length) (f := Ru64 ([] : List Int)) (by kernel_rfl) (by kernel_rfl) rfl) (by kernel_rfl)
 ·
  refine AW.skip (AW.tn (AW.seq ?_))
  refine AW.sg tt_ok0 [(14, vb ((p0.Length.tmod 128) != 0))] [] [] 9 [hn, hn, ho (p := (128 : Int) ≠ 0) (by decide)] (by kernel_rfl) ?_
  refine AW.co h (by kernel_rfl) (fun c4 h => ?_) (fun c4 h => ?_)
  ·
   refine AW.sg tt_ok0 [(3, vi64 2)] [1] [(1, .box 29 [ci64 0, .t (.v (.slice none 0 0))])] 12 [] (by kernel_rfl) ?_
   refine AW.ret (AW.tr ?_)
   obtain rfl := some_inj h
   exact fnR (.inr rfl) [(0, 12)] 1 (.tup [.agg [ci64 0, .ref 12 1 0 (([] : List Int).length)], vi64 2]) (conv_adoptB (id := 1) (ty0 := 29) (cs := [ci64 0, .t (.v (.slice none 0 0))]) 1 (ty := 33) (sz := 1) (n := ([] : List Int).length) (f := Ru64 ([] : List Int)) (by kernel_rfl) (by kernel_rfl) rfl) (by kernel_rfl)
  ·
   refine AW.skip (AW.tn ?_)
   refine AW.sg tt_ok0 [(4, vi64 (i64.wrap (((p0.Words.length : Nat) : Int).tdiv 2)))] [] [] 14 [hn, hn, hn, ho (p := (2 : Int) ≠ 0) (by decide)] (by kernel_rfl) ?_
   refine AW.sg tt_ok0 [(5, .c (.ptr 18 2 0 0))] [18] [(18, .box 29 [ci64 (i64.wrap (p0.Length.tdiv 2)), .t (.v (.slice none 0 0))])] 20 [hn, hn, ho (p := (2 : Int) ≠ 0) (by decide)] (by kernel_rfl) ?_
   refine AW.seq ?_
   refine AW.sg tt_ok0 [(6, vi64 0)] [] [] 21 [] (by kernel_rfl) ?_
   refine AW.block ?_
   obtain ⟨x16, l17, h⟩ := bnd_some h
   refine AW.lp l17 (fun v => ⟨[(1, .c (.ptr 0 2 0 0)), (2, .c (.ptr 1 2 0 0)), (4, vi64 (i64.wrap (((p0.Words.length : Nat) : Int).tdiv 2))), (5, .c (.ptr 2 2 0 0)), (6, vi64 v.1)], [(0, .box 29 [ci64 p0.Length, cl 1 Ru64 p0.Words]), (1, .box 29 [ci64 0, .t (.v (.slice none 0 0))]), (2, .box 29 [ci64 (i64.wrap (p0.Length.tdiv 2)), .ref 3 1 0 v.2.length]), (3, .row 33 false 1 v.2.length (Ru64 v.2))], 4⟩) (fun t : List Int => (.exit 0, ⟨[(2, .c (.ptr 0 2 0 0)), (5, .c (.ptr 1 2 0 0))], [(0, .box 29 [ci64 0, .t (.v (.slice none 0 0))]), (1, .box 29 [ci64 (i64.wrap (p0.Length.tdiv 2)), .ref 2 1 0 t.length]), (2, .row 33 false 1 t.length (Ru64 t))], 3⟩)) (Conv.trans (conv_adoptB (id := 18) (ty0 := 29) (cs := [ci64 (i64.wrap (p0.Length.tdiv 2)), .t (.v (.slice none 0 0))]) 1 (ty := 33) (sz := 1) (n := ([] : List Int).length) (f := Ru64 ([] : List Int)) (by kernel_rfl) (by kernel_rfl) rfl) (conv_re [(0, 0), (1, 1), (2, 18), (3, 21)] (by kernel_rfl))) (fun _ => tv) ?_ ?_
   ·
    clear l17 h
    intro v o h
    obtain ⟨x7, x8⟩ := v
    replace h : rl_ref09_Fold_l1 p0 x7 x8 = some o := h
    unfold rl_ref09_Fold_l1 at h
    refine AW.seq ?_
    refine AW.sg tt_ok0 [(26, vb (decide (x7 < (i64.wrap (((p0.Words.length : Nat) : Int).tdiv 2)))))] [] [] 7 [] (by kernel_rfl) ?_
    refine AW.co h (by kernel_rfl) (fun c10 h => ?_) (fun c10 h => ?_)
    ·
     refine AW.skip (AW.tn ?_)
     refine AW.seq (AW.block ?_)
     obtain ⟨g11, g12, h⟩ := ifd h
     obtain ⟨g13, g14, h⟩ := ifd h
     obtain ⟨g15, h⟩ := ifc h
     refine AW.rd tt_ok0 mo0 [[], [], [], [], [], [], [], [], [], [], [], [], [], [], [], [22], [23, 3], [], [2]] [] [(2, .box 29 [ci64 (i64.wrap (p0.Length.tdiv 2)), .ref 23 1 0 ((x8 ++ ([ixor .u64 (p0.Words.getD x7.toNat 0) (p0.Words.getD ((i64.wrap ((i64.wrap (((p0.Words.length : Nat) : Int).tdiv 2)) + x7)).toNat) 0)] : List Int)).length)]), (23, .row 33 false 1 (x8 ++ ([ixor .u64 (p0.Words.getD x7.toNat 0) (p0.Words.getD ((i64.wrap ((i64.wrap (((p0.Words.length : Nat) : Int).tdiv 2)) + x7)).toNat) 0)] : List Int)).length (Ru64 (x8 ++ ([ixor .u64 (p0.Words.getD x7.toNat 0) (p0.Words.getD ((i64.wrap ((i64.wrap (((p0.Words.length : Nat) : Int).tdiv 2)) + x7)).toNat) 0)] : List Int))))] 26 [hn, hn, hn, hn, hn, hq g11 g12, hn, hn, hn, hn, hn, hn, hq g13 g14, hn, hn, hlit 0 Eu64 1 (fun _ => rfl) ([ixor .u64 (p0.Words.getD x7.toNat 0) (p0.Words.getD ((i64.wrap ((i64.wrap (((p0.Words.length : Nat) : Int).tdiv 2)) + x7)).toNat) 0)] : List Int), happ 0 Eu64 1 8 x8 ([ixor .u64 (p0.Words.getD x7.toNat 0) (p0.Words.getD ((i64.wrap ((i64.wrap (((p0.Words.length : Nat) : Int).tdiv 2)) + x7)).toNat) 0)] : List Int) g15 (by decide)] (by kernel_rfl) ?_
     refine AW.inBlock_normal (AW.tn ?_)
     refine AW.rg tt_ok0 [(6, vi64 (i64.wrap (x7 + 1)))] [] [] 29 [] (by kernel_rfl) ?_
     exact lpn h (conv_re [(0, 0), (1, 1), (2, 2), (3, 23)] (by kernel_rfl))
    ·
     refine AW.exit (AW.thenQ_exit ?_)
     exact lpo h rfl (conv_re [(0, 1), (1, 2), (2, 3)] (by kernel_rfl))
   ·
    show (_ : Exit → St → Prop) (.exit 0) _
    refine AW.inBlock_hit (AW.tn ?_)
    refine AW.sg tt_ok0 [(3, vi64 0)] [0] [(0, .box 29 [ci64 (i64.wrap (p0.Length.tdiv 2)), .ref 2 1 0 x16.length])] 6 [] (by kernel_rfl) ?_
    refine AW.ret ?_
    obtain rfl := some_inj h
    exact fn0 (.inr rfl) [(0, 2)] 1 (.tup [.agg [ci64 (i64.wrap (p0.Length.tdiv 2)), .ref 2 1 0 x16.length], vi64 0]) (by kernel_rfl)
/-! recordlink/recordlinkref09.Word -/
noncomputable def rl_ref09_Word_l1 (p0 : Int) (x3 : ByteArray) (x4 : Int) : Option ((ByteArray × Int) ⊕ ByteArray) := if (decide (x4 ≥ 0)) = true then (if 0 ≤ x4 then (if 0 ≤ (iand .u64 (ishr .u64 p0 x4) 15) then (if 0 ≤ (u64.wrap ((iand .u64 (ishr .u64 p0 x4) 15) + 1)) then (if ((iand .u64 (ishr .u64 p0 x4) 15).toNat) ≤ ((u64.wrap ((iand .u64 (ishr .u64 p0 x4) 15) + 1)).toNat) then (if ((u64.wrap ((iand .u64 (ishr .u64 p0 x4) 15) + 1)).toNat) ≤ ((ByteArray.mk #[48, 49, 50, 51, 52, 53, 54, 55, 56, 57, 97, 98, 99, 100, 101, 102]).size) then (if x3.size + ((ByteArray.mk #[48, 49, 50, 51, 52, 53, 54, 55, 56, 57, 97, 98, 99, 100, 101, 102]).extract ((iand .u64 (ishr .u64 p0 x4) 15).toNat) ((u64.wrap ((iand .u64 (ishr .u64 p0 x4) 15) + 1)).toNat)).size ≤ maxStr then (some (.inl ((x3 ++ ((ByteArray.mk #[48, 49, 50, 51, 52, 53, 54, 55, 56, 57, 97, 98, 99, 100, 101, 102]).extract ((iand .u64 (ishr .u64 p0 x4) 15).toNat) ((u64.wrap ((iand .u64 (ishr .u64 p0 x4) 15) + 1)).toNat))), i64.wrap (x4 - 4)))) else none) else none) else none) else none) else none) else none) else (some (.inr x3))
noncomputable def rl_ref09_Word (p0 : Int) : Option ByteArray := (loop (fun v : ByteArray × Int => rl_ref09_Word_l1 p0 v.1 v.2) ((ByteArray.mk #[]), 60)).bind fun x13 => (some x13)
set_option maxRecDepth 100000 in
theorem rl_ref09_Word_con (p0 : Int) (r : ByteArray) (h : rl_ref09_Word p0 = some r) : Con Try.prog 70 [vu64 p0] [] (vs r) [] := by
 refine con_of tt_ok0 0 Try.func70 (by kernel_rfl) rfl (by kernel_rfl) (fun base X _ => AW.post ?_)
 unfold rl_ref09_Word at h
 refine AW.sg tt_ok0 [] [] [] 1 [] (by kernel_rfl) ?_
 refine AW.sg tt_ok0 [(3, vs (ByteArray.mk #[]))] [] [] 2 [] (by kernel_rfl) ?_
 refine AW.seq ?_
 refine AW.sg tt_ok0 [(4, vi64 60)] [] [] 3 [] (by kernel_rfl) ?_
 refine AW.block ?_
 obtain ⟨x13, l14, h⟩ := bnd_some h
 refine AW.lp l14 (fun v => ⟨[(0, vu64 p0), (3, vs v.1), (4, vi64 v.2)], [], 0⟩) (fun t : ByteArray => (.exit 0, ⟨[(3, vs t)], [], 0⟩)) (conv_re [] (by kernel_rfl)) (fun _ => tv) ?_ ?_
 ·
  clear l14 h
  intro v o h
  obtain ⟨x3, x4⟩ := v
  replace h : rl_ref09_Word_l1 p0 x3 x4 = some o := h
  unfold rl_ref09_Word_l1 at h
  refine AW.seq ?_
  refine AW.sg tt_ok0 [(7, vb (decide (x4 ≥ 0)))] [] [] 2 [] (by kernel_rfl) ?_
  refine AW.co h (by kernel_rfl) (fun c6 h => ?_) (fun c6 h => ?_)
  ·
   refine AW.skip (AW.tn ?_)
   refine AW.seq (AW.block ?_)
   obtain ⟨g7, h⟩ := ifc h
   refine AW.sg tt_ok0 [(5, vu64 (iand .u64 (ishr .u64 p0 x4) 15))] [] [] 7 [hn, hn, ho g7] (by kernel_rfl) ?_
   obtain ⟨g8, g9, h⟩ := ifd h
   obtain ⟨g10, g11, h⟩ := ifd h
   obtain ⟨g12, h⟩ := ifc h
   refine AW.rg tt_ok0 [(3, vs (x3 ++ ((ByteArray.mk #[48, 49, 50, 51, 52, 53, 54, 55, 56, 57, 97, 98, 99, 100, 101, 102]).extract ((iand .u64 (ishr .u64 p0 x4) 15).toNat) ((u64.wrap ((iand .u64 (ishr .u64 p0 x4) 15) + 1)).toNat))))] [] [] 14 [hn, hn, hn, hn, ho (p := (0 ≤ (iand .u64 (ishr .u64 p0 x4) 15)) ∧ (0 ≤ (u64.wrap ((iand .u64 (ishr .u64 p0 x4) 15) + 1))) ∧ (((iand .u64 (ishr .u64 p0 x4) 15).toNat) ≤ ((u64.wrap ((iand .u64 (ishr .u64 p0 x4) 15) + 1)).toNat)) ∧ (((u64.wrap ((iand .u64 (ishr .u64 p0 x4) 15) + 1)).toNat) ≤ ((ByteArray.mk #[48, 49, 50, 51, 52, 53, 54, 55, 56, 57, 97, 98, 99, 100, 101, 102]).size))) (⟨g8, g9, g10, g11⟩), ho g12] (by kernel_rfl) ?_
   refine AW.inBlock_normal (AW.tn ?_)
   refine AW.rg tt_ok0 [(4, vi64 (i64.wrap (x4 - 4)))] [] [] 17 [] (by kernel_rfl) ?_
   exact lpn h (conv_re [] (by kernel_rfl))
  ·
   refine AW.exit (AW.thenQ_exit ?_)
   exact lpo h rfl (conv_re [] (by kernel_rfl))
 ·
  show (_ : Exit → St → Prop) (.exit 0) _
  refine AW.inBlock_hit (AW.tn ?_)
  refine AW.sg tt_ok0 [(2, vs x13)] [] [] 2 [] (by kernel_rfl) ?_
  refine AW.ret ?_
  obtain rfl := some_inj h
  exact fn0 (.inr rfl) [] 0 (vs x13) (by kernel_rfl)
/-! recordlink/recordlinkref09.Hex -/
noncomputable def rl_ref09_Hex_l1 (p0 : S_api_Bits) (x6 : ByteArray) (x7 : Int) : Option ((ByteArray × Int) ⊕ ByteArray) := if (decide (x7 < ((p0.Words.length : Nat) : Int))) = true then (if 0 ≤ x7 then (if x7 < ((p0.Words.length : Nat) : Int) then ((rl_ref09_Word (p0.Words.getD x7.toNat 0)).bind fun y12 => (if x6.size + y12.size ≤ maxStr then (some (.inl ((x6 ++ y12), i64.wrap (x7 + 1)))) else none)) else none) else none) else (some (.inr x6))
noncomputable def rl_ref09_Hex (p0 : S_api_Bits) : Option (ByteArray × Int) := (rl_ref09_Valid p0).bind fun y1 => (if (!y1) = true then (some ((ByteArray.mk #[]), 8)) else ((loop (fun v : ByteArray × Int => rl_ref09_Hex_l1 p0 v.1 v.2) ((ByteArray.mk #[]), 0)).bind fun x15 => (some (x15, 0))))
set_option maxRecDepth 100000 in
theorem rl_ref09_Hex_con (p0 : S_api_Bits) (r : ByteArray × Int) (h : rl_ref09_Hex p0 = some r) : Con Try.prog 48 [.agg [ci64 p0.Length, cl 1 Ru64 p0.Words]] [] (.tup [vs r.1, vi64 r.2]) [] := by
 refine con_of tt_ok0 0 Try.func48 (by kernel_rfl) rfl (by kernel_rfl) (fun base X _ => AW.post ?_)
 unfold rl_ref09_Hex at h
 refine AW.sg tt_ok0 [(1, .c (.ptr 0 2 0 0))] [0] [(0, .box 29 [ci64 p0.Length, cl 1 Ru64 p0.Words])] 3 [] (by kernel_rfl) ?_
 refine AW.seq ?_
 obtain ⟨y1, e2, h⟩ := bnd_some h
 refine AW.sg tt_ok0 [(8, vb (!y1))] [] [] 5 [hn, hk (rl_ref09_Valid_con p0 y1 e2)] (by kernel_rfl) ?_
 refine AW.co h (by kernel_rfl) (fun c3 h => ?_) (fun c3 h => ?_)
 ·
  refine AW.sg tt_ok0 [(3, vi64 8), (2, vs (ByteArray.mk #[]))] [] [] 7 [] (by kernel_rfl) ?_
  refine AW.ret (AW.tr ?_)
  obtain rfl := some_inj h
  exact fn0 (.inr rfl) [] 0 (.tup [vs (ByteArray.mk #[]), vi64 8]) (by kernel_rfl)
 ·
  refine AW.skip (AW.tn ?_)
  refine AW.sg tt_ok0 [(4, vs (ByteArray.mk #[]))] [] [] 6 [] (by kernel_rfl) ?_
  refine AW.seq ?_
  refine AW.sg tt_ok0 [(5, vi64 0)] [] [] 7 [] (by kernel_rfl) ?_
  refine AW.block ?_
  obtain ⟨x15, l16, h⟩ := bnd_some h
  refine AW.lp l16 (fun v => ⟨[(1, .c (.ptr 0 2 0 0)), (4, vs v.1), (5, vi64 v.2)], [(0, .box 29 [ci64 p0.Length, cl 1 Ru64 p0.Words])], 1⟩) (fun t : ByteArray => (.exit 0, ⟨[(4, vs t)], [], 0⟩)) (conv_re [(0, 0)] (by kernel_rfl)) (fun _ => tv) ?_ ?_
  ·
   clear l16 h
   intro v o h
   obtain ⟨x6, x7⟩ := v
   replace h : rl_ref09_Hex_l1 p0 x6 x7 = some o := h
   unfold rl_ref09_Hex_l1 at h
   refine AW.seq ?_
   refine AW.sg tt_ok0 [(13, vb (decide (x7 < ((p0.Words.length : Nat) : Int))))] [] [] 6 [] (by kernel_rfl) ?_
   refine AW.co h (by kernel_rfl) (fun c9 h => ?_) (fun c9 h => ?_)
   ·
    refine AW.skip (AW.tn ?_)
    refine AW.seq (AW.block ?_)
    obtain ⟨g10, g11, h⟩ := ifd h
    obtain ⟨y12, e13, h⟩ := bnd_some h
    obtain ⟨g14, h⟩ := ifc h
    refine AW.rg tt_ok0 [(4, vs (x6 ++ y12))] [] [] 14 [hn, hn, hn, hn, hq g10 g11, hn, hk (rl_ref09_Word_con (p0.Words.getD x7.toNat 0) y12 e13), ho g14] (by kernel_rfl) ?_
    refine AW.inBlock_normal (AW.tn ?_)
    refine AW.rg tt_ok0 [(5, vi64 (i64.wrap (x7 + 1)))] [] [] 17 [] (by kernel_rfl) ?_
    exact lpn h (conv_re [(0, 0)] (by kernel_rfl))
   ·
    refine AW.exit (AW.thenQ_exit ?_)
    exact lpo h rfl (conv_re [] (by kernel_rfl))
  ·
   show (_ : Exit → St → Prop) (.exit 0) _
   refine AW.inBlock_hit (AW.tn ?_)
   refine AW.sg tt_ok0 [(3, vi64 0), (2, vs x15)] [] [] 3 [] (by kernel_rfl) ?_
   refine AW.ret ?_
   obtain rfl := some_inj h
   exact fn0 (.inr rfl) [] 0 (.tup [vs x15, vi64 0]) (by kernel_rfl)
/-! recordlink/recordlinkref09.Count -/
noncomputable def rl_ref09_Count_k3 (x4 : Int) (x8 : Int) : Option ((Int × Int) ⊕ Int) := some (.inl (x8, i64.wrap (x4 + 1)))
noncomputable def rl_ref09_Count_k2 (p0 : S_api_Bits) (x3 : Int) (x4 : Int) (x6 : Bool) : Option ((Int × Int) ⊕ Int) := if x6 = true then ((rl_ref09_Has p0 x4).bind fun y9 => (if y9 = true then (rl_ref09_Count_k3 x4 (i64.wrap (x3 + 1))) else (rl_ref09_Count_k3 x4 x3))) else (some (.inr x3))
noncomputable def rl_ref09_Count_l1 (p0 : S_api_Bits) (x3 : Int) (x4 : Int) : Option ((Int × Int) ⊕ Int) := (rl_ref09_Valid p0).bind fun y12 => (if y12 = true then (rl_ref09_Count_k2 p0 x3 x4 (decide (x4 < p0.Length))) else (rl_ref09_Count_k2 p0 x3 x4 false))
noncomputable def rl_ref09_Count (p0 : S_api_Bits) : Option Int := (loop (fun v : Int × Int => rl_ref09_Count_l1 p0 v.1 v.2) (0, 0)).bind fun x15 => (some x15)
set_option maxRecDepth 100000 in
theorem rl_ref09_Count_con (p0 : S_api_Bits) (r : Int) (h : rl_ref09_Count p0 = some r) : Con Try.prog 51 [.agg [ci64 p0.Length, cl 1 Ru64 p0.Words]] [] (vi64 r) [] := by
 refine con_of tt_ok0 0 Try.func51 (by kernel_rfl) rfl (by kernel_rfl) (fun base X _ => AW.post ?_)
 unfold rl_ref09_Count at h
 refine AW.sg tt_ok0 [(1, .c (.ptr 0 2 0 0))] [0] [(0, .box 29 [ci64 p0.Length, cl 1 Ru64 p0.Words])] 2 [] (by kernel_rfl) ?_
 refine AW.sg tt_ok0 [(3, vi64 0)] [] [] 3 [] (by kernel_rfl) ?_
 refine AW.seq ?_
 refine AW.sg tt_ok0 [(4, vi64 0)] [] [] 4 [] (by kernel_rfl) ?_
 refine AW.block ?_
 obtain ⟨x15, l16, h⟩ := bnd_some h
 refine AW.lp l16 (fun v => ⟨[(1, .c (.ptr 0 2 0 0)), (3, vi64 v.1), (4, vi64 v.2)], [(0, .box 29 [ci64 p0.Length, cl 1 Ru64 p0.Words])], 1⟩) (fun t : Int => (.exit 0, ⟨[(3, vi64 t)], [], 0⟩)) (conv_re [(0, 0)] (by kernel_rfl)) (fun _ => tv) ?_ ?_
 ·
  clear l16 h
  intro v o h
  obtain ⟨x3, x4⟩ := v
  replace h : rl_ref09_Count_l1 p0 x3 x4 = some o := h
  unfold rl_ref09_Count_l1 at h
  refine AW.seq (AW.seq ?_)
  refine AW.join (ι := Bool) (fun v => ⟨[(1, .c (.ptr 0 2 0 0)), (3, vi64 x3), (4, vi64 x4), (12, vb v)], [(0, .box 29 [ci64 p0.Length, cl 1 Ru64 p0.Words])], 1⟩) (fun v : Bool => rl_ref09_Count_k2 p0 x3 x4 v = some o) (fun x6 h => ?_) ?_
  ·
   unfold rl_ref09_Count_k2 at h
   refine AW.tn ?_
   refine AW.co h (by kernel_rfl) (fun c7 h => ?_) (fun c7 h => ?_)
   ·
    refine AW.skip (AW.tn (AW.seq ?_))
    refine AW.join (ι := Int) (fun v => ⟨[(1, .c (.ptr 0 2 0 0)), (3, vi64 v), (4, vi64 x4)], [(0, .box 29 [ci64 p0.Length, cl 1 Ru64 p0.Words])], 1⟩) (fun v : Int => rl_ref09_Count_k3 x4 v = some o) (fun x8 h => ?_) ?_
    ·
     unfold rl_ref09_Count_k3 at h
     refine AW.tn ?_
     refine AW.rg tt_ok0 [(4, vi64 (i64.wrap (x4 + 1)))] [] [] 4 [] (by kernel_rfl) ?_
     exact lpn h (conv_re [(0, 0)] (by kernel_rfl))
    ·
     refine AW.block ?_
     obtain ⟨y9, e10, h⟩ := bnd_some h
     refine AW.sg tt_ok0 [(17, vb y9)] [] [] 3 [hn, hn, hk (rl_ref09_Has_con p0 x4 y9 e10)] (by kernel_rfl) ?_
     refine AW.co h (by kernel_rfl) (fun c11 h => ?_) (fun c11 h => ?_)
     ·
      refine AW.rg tt_ok0 [(3, vi64 (i64.wrap (x3 + 1)))] [] [] 6 [] (by kernel_rfl) ?_
      refine AW.inBlock_normal ?_
      exact jl (i64.wrap (x3 + 1)) h (conv_re [(0, 0)] (by kernel_rfl))
     ·
      refine AW.skip (AW.inBlock_normal ?_)
      exact jl x3 h (conv_re [(0, 0)] (by kernel_rfl))
   ·
    refine AW.exit (AW.thenQ_exit ?_)
    exact lpo h rfl (conv_re [] (by kernel_rfl))
  ·
   obtain ⟨y12, e13, h⟩ := bnd_some h
   rcases ifs h with ⟨c14, hs⟩ | ⟨c14, hs⟩
   ·clear h; subst c14; have h := hs; clear hs
    refine AW.rg tt_ok0 [(12, vb (decide (x4 < p0.Length)))] [] [] 8 [hn, hk (rl_ref09_Valid_con p0 true e13)] (by kernel_rfl) ?_
    exact jl (decide (x4 < p0.Length)) h (conv_re [(0, 0)] (by kernel_rfl))
   ·clear h; subst c14; have h := hs; clear hs
    refine AW.rg tt_ok0 [(12, vb false)] [] [] 8 [hn, hk (rl_ref09_Valid_con p0 false e13)] (by kernel_rfl) ?_
    exact jl false h (conv_re [(0, 0)] (by kernel_rfl))
 ·
  show (_ : Exit → St → Prop) (.exit 0) _
  refine AW.inBlock_hit (AW.tn ?_)
  refine AW.sg tt_ok0 [(2, vi64 x15)] [] [] 2 [] (by kernel_rfl) ?_
  refine AW.ret ?_
  obtain rfl := some_inj h
  exact fn0 (.inr rfl) [] 0 (vi64 x15) (by kernel_rfl)
def Es (x : ByteArray) : List T := [.v (.string x)]
def Rs (xs : List ByteArray) : Nat → Nat → T := rowL ByteArray.empty Es xs
theorem Vs : ∀ x, allV (Es x) := fun _ => ⟨tv, tv⟩
/-! recordlink/bitset.value -/
noncomputable def bitset_value_k2 (p0 : Int) (x3 : Bool) : Option (Int × Bool) := if x3 = true then ((some (u64.wrap ((u64.wrap (u8.wrap (p0 - 97))) + 10))).bind fun z5 => (some (z5, true))) else (some (0, false))
noncomputable def bitset_value_k1 (p0 : Int) (x1 : Bool) : Option (Int × Bool) := if x1 = true then (some (u64.wrap (u8.wrap (p0 - 48)), true)) else (if (decide (p0 ≥ 97)) = true then (bitset_value_k2 p0 (decide (p0 ≤ 102))) else (bitset_value_k2 p0 false))
noncomputable def bitset_value (p0 : Int) : Option (Int × Bool) := if (decide (p0 ≥ 48)) = true then (bitset_value_k1 p0 (decide (p0 ≤ 57))) else (bitset_value_k1 p0 false)
set_option maxRecDepth 100000 in
theorem bitset_value_con (p0 : Int) (r : Int × Bool) (h : bitset_value p0 = some r) : Con Try.prog 62 [vu8 p0] [] (.tup [vu64 r.1, vb r.2]) [] := by
 refine con_of tt_ok0 0 Try.func62 (by kernel_rfl) rfl (by kernel_rfl) (fun base X _ => AW.post ?_)
 unfold bitset_value at h
 refine AW.sg tt_ok0 [] [] [] 2 [] (by kernel_rfl) ?_
 refine AW.seq (AW.block (AW.seq ?_))
 refine AW.join (ι := Bool) (fun v => ⟨[(0, vu8 p0), (4, vb v)], [], 0⟩) (fun v : Bool => bitset_value_k1 p0 v = some r) (fun x1 h => ?_) ?_
 ·
  unfold bitset_value_k1 at h
  refine AW.tn ?_
  refine AW.co h (by kernel_rfl) (fun c2 h => ?_) (fun c2 h => ?_)
  ·
   refine AW.sg tt_ok0 [(3, vb true), (2, vu64 (u64.wrap (u8.wrap (p0 - 48))))] [] [] 5 [] (by kernel_rfl) ?_
   refine AW.ret (AW.inBlock_ret (AW.tr ?_))
   obtain rfl := some_inj h
   exact fn0 (.inr rfl) [] 0 (.tup [vu64 (u64.wrap (u8.wrap (p0 - 48))), vb true]) (by kernel_rfl)
  ·
   refine AW.seq ?_
   refine AW.join (ι := Bool) (fun v => ⟨[(0, vu8 p0), (14, vb v)], [], 0⟩) (fun v : Bool => bitset_value_k2 p0 v = some r) (fun x3 h => ?_) ?_
   ·
    unfold bitset_value_k2 at h
    refine AW.tn ?_
    refine AW.co h (by kernel_rfl) (fun c4 h => ?_) (fun c4 h => ?_)
    ·
     obtain ⟨z5, n6, h⟩ := bnd_some h
     replace n6 := some_inj n6
     refine AW.sg tt_ok0 [(3, vb true), (2, vu64 z5)] [] [] 6 [] (by subst n6; kernel_rfl) ?_
     refine AW.ret (AW.inBlock_ret (AW.tr ?_))
     obtain rfl := some_inj h
     exact fn0 (.inr rfl) [] 0 (.tup [vu64 z5, vb true]) (by kernel_rfl)
    ·
     refine AW.skip (AW.inBlock_normal (AW.tn ?_))
     refine AW.sg tt_ok0 [(3, vb false), (2, vu64 0)] [] [] 2 [] (by kernel_rfl) ?_
     refine AW.ret ?_
     obtain rfl := some_inj h
     exact fn0 (.inr rfl) [] 0 (.tup [vu64 0, vb false]) (by kernel_rfl)
   ·
    rcases ifs h with ⟨c7, h⟩ | ⟨c7, h⟩
    ·
     refine AW.rg tt_ok0 [(14, vb (decide (p0 ≤ 102)))] [] [] 7 [hn, ht c7] (by kernel_rfl) ?_
     exact jl (decide (p0 ≤ 102)) h (conv_re [] (by kernel_rfl))
    ·
     refine AW.rg tt_ok0 [(14, vb false)] [] [] 7 [hn, hf c7] (by kernel_rfl) ?_
     exact jl false h (conv_re [] (by kernel_rfl))
 ·
  rcases ifs h with ⟨c8, h⟩ | ⟨c8, h⟩
  ·
   refine AW.rg tt_ok0 [(4, vb (decide (p0 ≤ 57)))] [] [] 9 [hn, ht c8] (by kernel_rfl) ?_
   exact jl (decide (p0 ≤ 57)) h (conv_re [] (by kernel_rfl))
  ·
   refine AW.rg tt_ok0 [(4, vb false)] [] [] 9 [hn, hf c8] (by kernel_rfl) ?_
   exact jl false h (conv_re [] (by kernel_rfl))
/-! recordlink/bitset.Parse -/
noncomputable def bitset_Parse_l1 (p0 : ByteArray) (x7 : Int) (x8 : List Int) : Option ((Int × (List Int)) ⊕ ((List Int) ⊕ Unit)) := if (decide (x7 < ((p0.size : Nat) : Int))) = true then (if 0 ≤ x7 then (if x7 < ((p0.size : Nat) : Int) then (bind2 (bitset_value ((p0.data.toList.getD x7.toNat 0).toNat : Int)) fun y13 y14 => (if (!y14) = true then (some (.inr (.inr ()))) else (if 0 ≤ (i64.wrap (x7.tdiv 16)) then (if (i64.wrap (x7.tdiv 16)) < (x8.length : Int) then (some (.inl (i64.wrap (x7 + 1), (x8.set (0 + (i64.wrap (x7.tdiv 16)).toNat) (ior .u64 (ishl .u64 (x8.getD (0 + (i64.wrap (x7.tdiv 16)).toNat) 0) 4) y13))))) else none) else none))) else none) else none) else (some (.inr (.inl x8)))
noncomputable def bitset_Parse_a2 (y1 : S_api_Bits) (x19 : List Int) : Option (S_api_Bits × Int) := some ((⟨y1.Length, x19⟩ : S_api_Bits), 0)
noncomputable def bitset_Parse_a3 : Option (S_api_Bits × Int) := some ((⟨0, ([] : List Int)⟩ : S_api_Bits), 14)
noncomputable def bitset_Parse (p0 : ByteArray) : Option (S_api_Bits × Int) := bind2 (bitset_New (i64.wrap (4 * ((p0.size : Nat) : Int)))) fun y1 y2 => (if (y2 != 0) = true then (some ((⟨0, ([] : List Int)⟩ : S_api_Bits), 14)) else (bindE (loop (fun v : Int × (List Int) => bitset_Parse_l1 p0 v.1 v.2) (0, y1.Words)) (fun t => bitset_Parse_a2 y1 t) (fun t => bitset_Parse_a3)))
set_option maxRecDepth 100000 in
theorem bitset_Parse_con (p0 : ByteArray) (r : S_api_Bits × Int) (h : bitset_Parse p0 = some r) : Con Try.prog 37 [vs p0] [] (.tup [.agg [ci64 r.1.Length, .ref 0 1 0 r.1.Words.length], vi64 r.2]) [(0, .row 33 false 1 r.1.Words.length (Ru64 r.1.Words))] := by
 refine con_of tt_ok0 0 Try.func37 (by kernel_rfl) rfl (by kernel_rfl) (fun base X _ => AW.post ?_)
 unfold bitset_Parse at h
 refine AW.sg tt_ok0 [(2, .c (.ptr 0 2 0 0))] [0] [(0, .box 29 [ci64 0, .t (.v (.slice none 0 0))])] 2 [] (by kernel_rfl) ?_
 obtain ⟨y1, y2, e3, h⟩ := bind2_some h
 refine AW.sg tt_ok0 [(5, vi64 y2), (4, .c (.ptr 9 2 0 0))] [5, 9] [(9, .box 29 [ci64 y1.Length, .ref 5 1 0 y1.Words.length]), (5, .row 33 false 1 y1.Words.length (Ru64 y1.Words))] 12 [hn, hn, hn, hm [] [] 1 (bitset_New_con (i64.wrap (4 * ((p0.size : Nat) : Int))) (y1, y2) e3) ⟨rowL_flat Vu64 _ _ _, tv⟩] (by kernel_rfl) ?_
 refine AW.seq ?_
 refine AW.sg tt_ok0 [(17, vb (y2 != 0))] [] [] 14 [] (by kernel_rfl) ?_
 refine AW.co h (by kernel_rfl) (fun c4 h => ?_) (fun c4 h => ?_)
 ·
  refine AW.sg tt_ok0 [(3, vi64 14)] [0] [(0, .box 29 [ci64 0, .t (.v (.slice none 0 0))])] 17 [] (by kernel_rfl) ?_
  refine AW.ret (AW.tr ?_)
  obtain rfl := some_inj h
  exact fnR (.inr rfl) [(0, 17)] 1 (.tup [.agg [ci64 0, .ref 17 1 0 (([] : List Int).length)], vi64 14]) (conv_adoptB (id := 0) (ty0 := 29) (cs := [ci64 0, .t (.v (.slice none 0 0))]) 1 (ty := 33) (sz := 1) (n := ([] : List Int).length) (f := Ru64 ([] : List Int)) (by kernel_rfl) (by kernel_rfl) rfl) (by kernel_rfl)
 ·
  refine AW.skip (AW.tn (AW.seq ?_))
  refine AW.sg tt_ok0 [(21, vi64 0), (20, vi64 ((p0.size : Nat) : Int))] [] [] 17 [] (by kernel_rfl) ?_
  refine AW.block ?_
  refine AW.lpE h (fun v => ⟨[(0, vs p0), (2, .c (.ptr 0 2 0 0)), (4, .c (.ptr 1 2 0 0)), (20, vi64 ((p0.size : Nat) : Int)), (21, vi64 v.1)], [(0, .box 29 [ci64 0, .t (.v (.slice none 0 0))]), (1, .box 29 [ci64 y1.Length, .ref 2 1 0 v.2.length]), (2, .row 33 false 1 v.2.length (Ru64 v.2))], 3⟩) (fun t => (.exit 0, ⟨[(2, .c (.ptr 0 2 0 0)), (4, .c (.ptr 1 2 0 0))], [(0, .box 29 [ci64 0, .t (.v (.slice none 0 0))]), (1, .box 29 [ci64 y1.Length, .ref 2 1 0 t.length]), (2, .row 33 false 1 t.length (Ru64 t))], 3⟩)) (fun t => (.ret, ⟨[(2, .c (.ptr 0 2 0 0)), (3, vi64 14)], [(0, .box 29 [ci64 0, .t (.v (.slice none 0 0))])], 1⟩)) (conv_re [(0, 0), (1, 9), (2, 5)] (by kernel_rfl)) (fun _ => tv) (fun _ => tv) ?_ (fun x19 h => ?_) (fun t h => ?_)
  ·
   clear h
   intro v o h
   obtain ⟨x7, x8⟩ := v
   replace h : bitset_Parse_l1 p0 x7 x8 = some o := h
   unfold bitset_Parse_l1 at h
   refine AW.sg tt_ok0 [(22, vb (decide (x7 < ((p0.size : Nat) : Int))))] [] [] 4 [] (by kernel_rfl) ?_
   refine AW.seq ?_
   refine AW.co h (by kernel_rfl) (fun c10 h => ?_) (fun c10 h => ?_)
   ·
    refine AW.skip (AW.tn ?_)
    refine AW.seq (AW.block ?_)
    refine AW.sg tt_ok0 [(6, vi64 x7)] [] [] 6 [] (by kernel_rfl) ?_
    obtain ⟨g11, g12, h⟩ := ifd h
    obtain ⟨y13, y14, e15, h⟩ := bind2_some h
    refine AW.sg tt_ok0 [(8, vb y14), (7, vu64 y13)] [] [] 14 [hn, hn, hq g11 g12, hk (bitset_value_con ((p0.data.toList.getD x7.toNat 0).toNat : Int) (y13, y14) e15)] (by kernel_rfl) ?_
    refine AW.seq ?_
    refine AW.sg tt_ok0 [(32, vb (!y14))] [] [] 16 [] (by kernel_rfl) ?_
    refine AW.co h (by kernel_rfl) (fun c16 h => ?_) (fun c16 h => ?_)
    ·
     refine AW.sg tt_ok0 [(3, vi64 14)] [0] [(0, .box 29 [ci64 0, .t (.v (.slice none 0 0))])] 19 [] (by kernel_rfl) ?_
     refine AW.ret (AW.tr ?_)
     refine AW.inBlock_ret (AW.tr ?_)
     exact lpo h rfl (conv_re [(0, 0)] (by kernel_rfl))
    ·
     refine AW.skip (AW.tn ?_)
     obtain ⟨g17, g18, h⟩ := ifd h
     refine AW.rd tt_ok0 mo0 [[], [], [], [], [], [], [], [], [], [], [], [], [], [], [2]] [] [(2, .row 33 false 1 x8.length (Ru64 (x8.set (0 + (i64.wrap (x7.tdiv 16)).toNat) (ior .u64 (ishl .u64 (x8.getD (0 + (i64.wrap (x7.tdiv 16)).toNat) 0) 4) y13))))] 31 [hn, hn, hn, ho (p := (16 : Int) ≠ 0) (by decide), hn, hn, hn, ho (p := (16 : Int) ≠ 0) (by decide), hq g17 g18, ho (p := (0 + (i64.wrap (x7.tdiv 16)).toNat) < x8.length) (by have h1 : 0 ≤ (i64.wrap (x7.tdiv 16)) := g17; have h2 : (i64.wrap (x7.tdiv 16)) < (x8.length : Int) := g18; omega), ho (p := 0 ≤ (4 : Int)) (by decide), hn, hn, hq g17 g18, hset 0 Eu64 x8 (0 + (i64.wrap (x7.tdiv 16)).toNat) (ior .u64 (ishl .u64 (x8.getD (0 + (i64.wrap (x7.tdiv 16)).toNat) 0) 4) y13) (n := x8.length) (by have h1 : 0 ≤ (i64.wrap (x7.tdiv 16)) := g17; have h2 : (i64.wrap (x7.tdiv 16)) < (x8.length : Int) := g18; omega) rfl] (by kernel_rfl) ?_
     refine AW.inBlock_normal (AW.tn ?_)
     refine AW.rg tt_ok0 [(21, vi64 (i64.wrap (x7 + 1)))] [] [] 33 [] (by kernel_rfl) ?_
     exact lpn h (Conv.trans (conv_re (S' := ⟨[(21, vi64 (i64.wrap (x7 + 1))), (0, vs p0), (2, .c (.ptr 0 2 0 0)), (4, .c (.ptr 1 2 0 0)), (20, vi64 ((p0.size : Nat) : Int))], [(2, .row 33 false 1 x8.length (Ru64 (x8.set (0 + (i64.wrap (x7.tdiv 16)).toNat) (ior .u64 (ishl .u64 (x8.getD (0 + (i64.wrap (x7.tdiv 16)).toNat) 0) 4) y13)))), (0, .box 29 [ci64 0, .t (.v (.slice none 0 0))]), (1, .box 29 [ci64 y1.Length, .ref 2 1 0 x8.length])], 33⟩) [(2, 2), (0, 0), (1, 1)] (by kernel_rfl)) (Conv.trans (conv_len (S' := ⟨[(21, vi64 (i64.wrap (x7 + 1))), (0, vs p0), (2, .c (.ptr 0 2 0 0)), (4, .c (.ptr 1 2 0 0)), (20, vi64 ((p0.size : Nat) : Int))], [(2, .row 33 false 1 (x8.set (0 + (i64.wrap (x7.tdiv 16)).toNat) (ior .u64 (ishl .u64 (x8.getD (0 + (i64.wrap (x7.tdiv 16)).toNat) 0) 4) y13)).length (Ru64 (x8.set (0 + (i64.wrap (x7.tdiv 16)).toNat) (ior .u64 (ishl .u64 (x8.getD (0 + (i64.wrap (x7.tdiv 16)).toNat) 0) 4) y13)))), (0, .box 29 [ci64 0, .t (.v (.slice none 0 0))]), (1, .box 29 [ci64 y1.Length, .ref 2 1 0 ((x8.set (0 + (i64.wrap (x7.tdiv 16)).toNat) (ior .u64 (ishl .u64 (x8.getD (0 + (i64.wrap (x7.tdiv 16)).toNat) 0) 4) y13)).length)])], 33⟩) (by simp only [List.length_set])) (conv_re [(0, 0), (1, 1), (2, 2)] (by kernel_rfl))))
   ·
    refine AW.exit (AW.thenQ_exit ?_)
    exact lpo h rfl (conv_re [(0, 0), (1, 1), (2, 2)] (by kernel_rfl))
  ·
   unfold bitset_Parse_a2 at h
   show (_ : Exit → St → Prop) (.exit 0) _
   refine AW.inBlock_hit (AW.tn ?_)
   refine AW.sg tt_ok0 [(3, vi64 0)] [0] [(0, .box 29 [ci64 y1.Length, .ref 2 1 0 x19.length])] 6 [] (by kernel_rfl) ?_
   refine AW.ret ?_
   obtain rfl := some_inj h
   exact fn0 (.inr rfl) [(0, 2)] 1 (.tup [.agg [ci64 y1.Length, .ref 2 1 0 x19.length], vi64 0]) (by kernel_rfl)
  ·
   replace h : bitset_Parse_a3 = some r := h
   unfold bitset_Parse_a3 at h
   show (_ : Exit → St → Prop) (.ret) _
   refine AW.inBlock_ret (AW.tr ?_)
   obtain rfl := some_inj h
   exact fnR (.inr rfl) [(0, 1)] 1 (.tup [.agg [ci64 0, .ref 1 1 0 (([] : List Int).length)], vi64 14]) (conv_adoptB (id := 0) (ty0 := 29) (cs := [ci64 0, .t (.v (.slice none 0 0))]) 1 (ty := 33) (sz := 1) (n := ([] : List Int).length) (f := Ru64 ([] : List Int)) (by kernel_rfl) (by kernel_rfl) rfl) (by kernel_rfl)
/-! recordlink/recordlinkref09.Read -/
noncomputable def rl_ref09_Read_k3 (x9 : Int) (x11 : Bool) : Option (Int ⊕ Int) := if x11 = true then (some (.inl (i64.wrap (x9 + 1)))) else (some (.inr x9))
noncomputable def rl_ref09_Read_l2 (p0 : ByteArray) (x5 : Int) (x9 : Int) : Option (Int ⊕ Int) := if (decide (x9 < 16)) = true then (if 0 ≤ x9 then (if x9 < (((ByteArray.mk #[48, 49, 50, 51, 52, 53, 54, 55, 56, 57, 97, 98, 99, 100, 101, 102]).size : Nat) : Int) then (if 0 ≤ x5 then (if x5 < ((p0.size : Nat) : Int) then (rl_ref09_Read_k3 x9 ((((ByteArray.mk #[48, 49, 50, 51, 52, 53, 54, 55, 56, 57, 97, 98, 99, 100, 101, 102]).data.toList.getD x9.toNat 0).toNat : Int) != ((p0.data.toList.getD x5.toNat 0).toNat : Int))) else none) else none) else none) else none) else (rl_ref09_Read_k3 x9 false)
noncomputable def rl_ref09_Read_l1 (p0 : ByteArray) (x4 : Int) (x5 : Int) : Option ((Int × Int) ⊕ (Int ⊕ Unit)) := if (decide (x5 < 16)) = true then ((loop (fun v : Int => rl_ref09_Read_l2 p0 x5 v) 0).bind fun x18 => (if (x18 == 16) = true then (some (.inr (.inr ()))) else (some (.inl (ior .u64 (ishl .u64 x4 4) (u64.wrap x18), i64.wrap (x5 + 1)))))) else (some (.inr (.inl x4)))
noncomputable def rl_ref09_Read_a4 (x21 : Int) : Option (Int × Bool) := some (x21, true)
noncomputable def rl_ref09_Read_a5 : Option (Int × Bool) := some (0, false)
noncomputable def rl_ref09_Read (p0 : ByteArray) : Option (Int × Bool) := if (((p0.size : Nat) : Int) != 16) = true then (some (0, false)) else (bindE (loop (fun v : Int × Int => rl_ref09_Read_l1 p0 v.1 v.2) (0, 0)) (fun t => rl_ref09_Read_a4 t) (fun t => rl_ref09_Read_a5))
set_option maxRecDepth 100000 in
theorem rl_ref09_Read_con (p0 : ByteArray) (r : Int × Bool) (h : rl_ref09_Read p0 = some r) : Con Try.prog 71 [vs p0] [] (.tup [vu64 r.1, vb r.2]) [] := by
 refine con_of tt_ok0 0 Try.func71 (by kernel_rfl) rfl (by kernel_rfl) (fun base X _ => AW.post ?_)
 unfold rl_ref09_Read at h
 refine AW.sg tt_ok0 [] [] [] 2 [] (by kernel_rfl) ?_
 refine AW.seq ?_
 refine AW.sg tt_ok0 [(9, vb (((p0.size : Nat) : Int) != 16))] [] [] 5 [] (by kernel_rfl) ?_
 refine AW.co h (by kernel_rfl) (fun c1 h => ?_) (fun c1 h => ?_)
 ·
  refine AW.sg tt_ok0 [(3, vb false), (2, vu64 0)] [] [] 7 [] (by kernel_rfl) ?_
  refine AW.ret (AW.tr ?_)
  obtain rfl := some_inj h
  exact fn0 (.inr rfl) [] 0 (.tup [vu64 0, vb false]) (by kernel_rfl)
 ·
  refine AW.skip (AW.tn ?_)
  refine AW.sg tt_ok0 [(4, vu64 0)] [] [] 6 [] (by kernel_rfl) ?_
  refine AW.seq ?_
  refine AW.sg tt_ok0 [(5, vi64 0)] [] [] 7 [] (by kernel_rfl) ?_
  refine AW.block ?_
  refine AW.lpE h (fun v => ⟨[(0, vs p0), (4, vu64 v.1), (5, vi64 v.2)], [], 0⟩) (fun t => (.exit 0, ⟨[(4, vu64 t)], [], 0⟩)) (fun t => (.ret, ⟨[(2, vu64 0), (3, vb false)], [], 0⟩)) (conv_re [] (by kernel_rfl)) (fun _ => tv) (fun _ => tv) ?_ (fun x21 h => ?_) (fun t h => ?_)
  ·
   clear h
   intro v o h
   obtain ⟨x4, x5⟩ := v
   replace h : rl_ref09_Read_l1 p0 x4 x5 = some o := h
   unfold rl_ref09_Read_l1 at h
   refine AW.seq ?_
   refine AW.sg tt_ok0 [(11, vb (decide (x5 < 16)))] [] [] 2 [] (by kernel_rfl) ?_
   refine AW.co h (by kernel_rfl) (fun c7 h => ?_) (fun c7 h => ?_)
   ·
    refine AW.skip (AW.tn ?_)
    refine AW.seq (AW.block ?_)
    refine AW.sg tt_ok0 [(6, vi64 0)] [] [] 3 [] (by kernel_rfl) ?_
    refine AW.seq (AW.block ?_)
    obtain ⟨x18, l20, h⟩ := bnd_some h
    refine AW.lp l20 (fun v => ⟨[(0, vs p0), (4, vu64 x4), (5, vi64 x5), (6, vi64 v)], [], 0⟩) (fun t : Int => (.exit 2, ⟨[(0, vs p0), (4, vu64 x4), (5, vi64 x5), (6, vi64 t)], [], 0⟩)) (conv_re [] (by kernel_rfl)) (fun _ => tv) ?_ ?_
    ·
     clear l20 h
     intro x9 o h
     unfold rl_ref09_Read_l2 at h
     refine AW.seq (AW.seq ?_)
     refine AW.join (ι := Bool) (fun v => ⟨[(0, vs p0), (4, vu64 x4), (5, vi64 x5), (6, vi64 x9), (23, vb v)], [], 0⟩) (fun v : Bool => rl_ref09_Read_k3 x9 v = some o) (fun x11 h => ?_) ?_
     ·
      unfold rl_ref09_Read_k3 at h
      refine AW.tn ?_
      refine AW.co h (by kernel_rfl) (fun c12 h => ?_) (fun c12 h => ?_)
      ·
       refine AW.skip (AW.tn (AW.block ?_))
       refine AW.rg tt_ok0 [(6, vi64 (i64.wrap (x9 + 1)))] [] [] 3 [] (by kernel_rfl) ?_
       refine AW.inBlock_normal ?_
       exact lpn h (conv_re [] (by kernel_rfl))
      ·
       refine AW.exit (AW.thenQ_exit ?_)
       exact lpo h rfl (conv_re [] (by kernel_rfl))
     ·
      rcases ifs h with ⟨c13, h⟩ | ⟨c13, h⟩
      ·
       obtain ⟨g14, g15, h⟩ := ifd h
       obtain ⟨g16, g17, h⟩ := ifd h
       refine AW.rd tt_ok0 mo0 [] [(23, vb ((((ByteArray.mk #[48, 49, 50, 51, 52, 53, 54, 55, 56, 57, 97, 98, 99, 100, 101, 102]).data.toList.getD x9.toNat 0).toNat : Int) != ((p0.data.toList.getD x5.toNat 0).toNat : Int)))] [] 10 [hn, ht c13, hn, hn, hq g14 g15, hn, hn, hq g16 g17] (by kernel_rfl) ?_
       exact jl ((((ByteArray.mk #[48, 49, 50, 51, 52, 53, 54, 55, 56, 57, 97, 98, 99, 100, 101, 102]).data.toList.getD x9.toNat 0).toNat : Int) != ((p0.data.toList.getD x5.toNat 0).toNat : Int)) h (conv_re [] (by kernel_rfl))
      ·
       refine AW.rd tt_ok0 mo0 [] [(23, vb false)] [] 10 [hn, hf c13] (by kernel_rfl) ?_
       exact jl false h (conv_re [] (by kernel_rfl))
    ·
     show (_ : Exit → St → Prop) (.exit 2) _
     refine AW.inBlock_hit (AW.tn (AW.seq ?_))
     refine AW.sg tt_ok0 [(27, vb (x18 == 16))] [] [] 2 [] (by kernel_rfl) ?_
     refine AW.co h (by kernel_rfl) (fun c19 h => ?_) (fun c19 h => ?_)
     ·
      refine AW.sg tt_ok0 [(3, vb false), (2, vu64 0)] [] [] 4 [] (by kernel_rfl) ?_
      refine AW.ret (AW.tr ?_)
      refine AW.inBlock_ret (AW.tr ?_)
      exact lpo h rfl (conv_re [] (by kernel_rfl))
     ·
      refine AW.skip (AW.tn ?_)
      refine AW.rg tt_ok0 [(4, vu64 (ior .u64 (ishl .u64 x4 4) (u64.wrap x18)))] [] [] 8 [hn, ho (p := 0 ≤ (4 : Int)) (by decide)] (by kernel_rfl) ?_
      refine AW.inBlock_normal (AW.tn ?_)
      refine AW.rg tt_ok0 [(5, vi64 (i64.wrap (x5 + 1)))] [] [] 11 [] (by kernel_rfl) ?_
      exact lpn h (conv_re [] (by kernel_rfl))
   ·
    refine AW.exit (AW.thenQ_exit ?_)
    exact lpo h rfl (conv_re [] (by kernel_rfl))
  ·
   unfold rl_ref09_Read_a4 at h
   show (_ : Exit → St → Prop) (.exit 0) _
   refine AW.inBlock_hit (AW.tn ?_)
   refine AW.sg tt_ok0 [(3, vb true), (2, vu64 x21)] [] [] 3 [] (by kernel_rfl) ?_
   refine AW.ret ?_
   obtain rfl := some_inj h
   exact fn0 (.inr rfl) [] 0 (.tup [vu64 x21, vb true]) (by kernel_rfl)
  ·
   replace h : rl_ref09_Read_a5 = some r := h
   unfold rl_ref09_Read_a5 at h
   show (_ : Exit → St → Prop) (.ret) _
   refine AW.inBlock_ret (AW.tr ?_)
   obtain rfl := some_inj h
   exact fn0 (.inr rfl) [] 0 (.tup [vu64 0, vb false]) (by kernel_rfl)
/-! recordlink/recordlinkref09.Parse -/
noncomputable def rl_ref09_Parse_l2 (p0 : ByteArray) (x5 : Int) (x6 : List Int) : Option ((Int × (List Int)) ⊕ ((List Int) ⊕ Unit)) := if (decide (x5 < ((p0.size : Nat) : Int))) = true then (if 0 ≤ x5 then (if 0 ≤ (i64.wrap (x5 + 16)) then (if x5.toNat ≤ ((i64.wrap (x5 + 16)).toNat) then (if ((i64.wrap (x5 + 16)).toNat) ≤ p0.size then (bind2 (rl_ref09_Read (p0.extract x5.toNat ((i64.wrap (x5 + 16)).toNat))) fun y13 y14 => (if (!y14) = true then (some (.inr (.inr ()))) else (if x6.length + ([y13] : List Int).length ≤ 1099511627776 then (some (.inl (i64.wrap (x5 + 16), (x6 ++ ([y13] : List Int))))) else none))) else none) else none) else none) else none) else (some (.inr (.inl x6)))
noncomputable def rl_ref09_Parse_a3 (p0 : ByteArray) (x18 : List Int) : Option (S_api_Bits × Int) := some ((⟨i64.wrap (4 * ((p0.size : Nat) : Int)), x18⟩ : S_api_Bits), 0)
noncomputable def rl_ref09_Parse_a4 : Option (S_api_Bits × Int) := some ((⟨0, ([] : List Int)⟩ : S_api_Bits), 14)
noncomputable def rl_ref09_Parse_k1 (p0 : ByteArray) (x1 : Bool) : Option (S_api_Bits × Int) := if x1 = true then (some ((⟨0, ([] : List Int)⟩ : S_api_Bits), 14)) else (bindE (loop (fun v : Int × (List Int) => rl_ref09_Parse_l2 p0 v.1 v.2) (0, ([] : List Int))) (fun t => rl_ref09_Parse_a3 p0 t) (fun t => rl_ref09_Parse_a4))
noncomputable def rl_ref09_Parse (p0 : ByteArray) : Option (S_api_Bits × Int) := if ((((p0.size : Nat) : Int).tmod 16) != 0) = true then (rl_ref09_Parse_k1 p0 true) else ((rl_ref09_length (i64.wrap (4 * ((p0.size : Nat) : Int)))).bind fun y21 => (rl_ref09_Parse_k1 p0 (!y21)))
set_option maxRecDepth 100000 in
theorem rl_ref09_Parse_con (p0 : ByteArray) (r : S_api_Bits × Int) (h : rl_ref09_Parse p0 = some r) : Con Try.prog 52 [vs p0] [] (.tup [.agg [ci64 r.1.Length, .ref 0 1 0 r.1.Words.length], vi64 r.2]) [(0, .row 33 false 1 r.1.Words.length (Ru64 r.1.Words))] := by
 refine con_of tt_ok0 0 Try.func52 (by kernel_rfl) rfl (by kernel_rfl) (fun base X _ => AW.post ?_)
 unfold rl_ref09_Parse at h
 refine AW.sg tt_ok0 [(2, .c (.ptr 0 2 0 0))] [0] [(0, .box 29 [ci64 0, .t (.v (.slice none 0 0))])] 2 [] (by kernel_rfl) ?_
 refine AW.seq (AW.seq ?_)
 refine AW.join (ι := Bool) (fun v => ⟨[(0, vs p0), (2, .c (.ptr 0 2 0 0)), (18, vb v)], [(0, .box 29 [ci64 0, .t (.v (.slice none 0 0))])], 1⟩) (fun v : Bool => rl_ref09_Parse_k1 p0 v = some r) (fun x1 h => ?_) ?_
 ·
  unfold rl_ref09_Parse_k1 at h
  refine AW.tn ?_
  refine AW.co h (by kernel_rfl) (fun c2 h => ?_) (fun c2 h => ?_)
  ·
   refine AW.sg tt_ok0 [(3, vi64 14)] [0] [(0, .box 29 [ci64 0, .t (.v (.slice none 0 0))])] 4 [] (by kernel_rfl) ?_
   refine AW.ret (AW.tr ?_)
   obtain rfl := some_inj h
   exact fnR (.inr rfl) [(0, 4)] 1 (.tup [.agg [ci64 0, .ref 4 1 0 (([] : List Int).length)], vi64 14]) (conv_adoptB (id := 0) (ty0 := 29) (cs := [ci64 0, .t (.v (.slice none 0 0))]) 1 (ty := 33) (sz := 1) (n := ([] : List Int).length) (f := Ru64 ([] : List Int)) (by kernel_rfl) (by kernel_rfl) rfl) (by kernel_rfl)
  ·
   refine AW.skip (AW.tn ?_)
   refine AW.sg tt_ok0 [(4, .c (.ptr 5 2 0 0))] [5] [(5, .box 29 [ci64 (i64.wrap (4 * ((p0.size : Nat) : Int))), .t (.v (.slice none 0 0))])] 7 [] (by kernel_rfl) ?_
   refine AW.seq ?_
   refine AW.sg tt_ok0 [(5, vi64 0)] [] [] 8 [] (by kernel_rfl) ?_
   refine AW.block ?_
   refine AW.lpE h (fun v => ⟨[(0, vs p0), (2, .c (.ptr 0 2 0 0)), (4, .c (.ptr 1 2 0 0)), (5, vi64 v.1)], [(0, .box 29 [ci64 0, .t (.v (.slice none 0 0))]), (1, .box 29 [ci64 (i64.wrap (4 * ((p0.size : Nat) : Int))), .ref 2 1 0 v.2.length]), (2, .row 33 false 1 v.2.length (Ru64 v.2))], 3⟩) (fun t => (.exit 0, ⟨[(2, .c (.ptr 0 2 0 0)), (4, .c (.ptr 1 2 0 0))], [(0, .box 29 [ci64 0, .t (.v (.slice none 0 0))]), (1, .box 29 [ci64 (i64.wrap (4 * ((p0.size : Nat) : Int))), .ref 2 1 0 t.length]), (2, .row 33 false 1 t.length (Ru64 t))], 3⟩)) (fun t => (.ret, ⟨[(2, .c (.ptr 0 2 0 0)), (3, vi64 14)], [(0, .box 29 [ci64 0, .t (.v (.slice none 0 0))])], 1⟩)) (Conv.trans (conv_adoptB (id := 5) (ty0 := 29) (cs := [ci64 (i64.wrap (4 * ((p0.size : Nat) : Int))), .t (.v (.slice none 0 0))]) 1 (ty := 33) (sz := 1) (n := ([] : List Int).length) (f := Ru64 ([] : List Int)) (by kernel_rfl) (by kernel_rfl) rfl) (conv_re [(0, 0), (1, 5), (2, 8)] (by kernel_rfl))) (fun _ => tv) (fun _ => tv) ?_ (fun x18 h => ?_) (fun t h => ?_)
   ·
    clear h
    intro v o h
    obtain ⟨x5, x6⟩ := v
    replace h : rl_ref09_Parse_l2 p0 x5 x6 = some o := h
    unfold rl_ref09_Parse_l2 at h
    refine AW.seq ?_
    refine AW.sg tt_ok0 [(27, vb (decide (x5 < ((p0.size : Nat) : Int))))] [] [] 7 [] (by kernel_rfl) ?_
    refine AW.co h (by kernel_rfl) (fun c8 h => ?_) (fun c8 h => ?_)
    ·
     refine AW.skip (AW.tn ?_)
     refine AW.seq (AW.block ?_)
     obtain ⟨g9, g10, h⟩ := ifd h
     obtain ⟨g11, g12, h⟩ := ifd h
     obtain ⟨y13, y14, e15, h⟩ := bind2_some h
     refine AW.sg tt_ok0 [(7, vb y14), (6, vu64 y13)] [] [] 17 [hn, hn, hn, hn, ho (p := (0 ≤ x5) ∧ (0 ≤ (i64.wrap (x5 + 16))) ∧ (x5.toNat ≤ ((i64.wrap (x5 + 16)).toNat)) ∧ (((i64.wrap (x5 + 16)).toNat) ≤ p0.size)) (⟨g9, g10, g11, g12⟩), hk (rl_ref09_Read_con (p0.extract x5.toNat ((i64.wrap (x5 + 16)).toNat)) (y13, y14) e15)] (by kernel_rfl) ?_
     refine AW.seq ?_
     refine AW.sg tt_ok0 [(40, vb (!y14))] [] [] 19 [] (by kernel_rfl) ?_
     refine AW.co h (by kernel_rfl) (fun c16 h => ?_) (fun c16 h => ?_)
     ·
      refine AW.sg tt_ok0 [(3, vi64 14)] [0] [(0, .box 29 [ci64 0, .t (.v (.slice none 0 0))])] 22 [] (by kernel_rfl) ?_
      refine AW.ret (AW.tr ?_)
      refine AW.inBlock_ret (AW.tr ?_)
      exact lpo h rfl (conv_re [(0, 0)] (by kernel_rfl))
     ·
      refine AW.skip (AW.tn ?_)
      obtain ⟨g17, h⟩ := ifc h
      refine AW.rg tt_ok0 [] [1, 2, 22, 23] [(1, .box 29 [ci64 (i64.wrap (4 * ((p0.size : Nat) : Int))), .ref 23 1 0 ((x6 ++ ([y13] : List Int)).length)]), (23, .row 33 false 1 (x6 ++ ([y13] : List Int)).length (Ru64 (x6 ++ ([y13] : List Int))))] 26 [hn, hn, hn, hlit 0 Eu64 1 (fun _ => rfl) ([y13] : List Int), happ 0 Eu64 1 8 x6 ([y13] : List Int) g17 (by decide)] (by kernel_rfl) ?_
      refine AW.inBlock_normal (AW.tn ?_)
      refine AW.rg tt_ok0 [(5, vi64 (i64.wrap (x5 + 16)))] [] [] 29 [] (by kernel_rfl) ?_
      exact lpn h (conv_re [(0, 0), (1, 1), (2, 23)] (by kernel_rfl))
    ·
     refine AW.exit (AW.thenQ_exit ?_)
     exact lpo h rfl (conv_re [(0, 0), (1, 1), (2, 2)] (by kernel_rfl))
   ·
    unfold rl_ref09_Parse_a3 at h
    show (_ : Exit → St → Prop) (.exit 0) _
    refine AW.inBlock_hit (AW.tn ?_)
    refine AW.sg tt_ok0 [(3, vi64 0)] [0] [(0, .box 29 [ci64 (i64.wrap (4 * ((p0.size : Nat) : Int))), .ref 2 1 0 x18.length])] 6 [] (by kernel_rfl) ?_
    refine AW.ret ?_
    obtain rfl := some_inj h
    exact fn0 (.inr rfl) [(0, 2)] 1 (.tup [.agg [ci64 (i64.wrap (4 * ((p0.size : Nat) : Int))), .ref 2 1 0 x18.length], vi64 0]) (by kernel_rfl)
   ·
    replace h : rl_ref09_Parse_a4 = some r := h
    unfold rl_ref09_Parse_a4 at h
    show (_ : Exit → St → Prop) (.ret) _
    refine AW.inBlock_ret (AW.tr ?_)
    obtain rfl := some_inj h
    exact fnR (.inr rfl) [(0, 1)] 1 (.tup [.agg [ci64 0, .ref 1 1 0 (([] : List Int).length)], vi64 14]) (conv_adoptB (id := 0) (ty0 := 29) (cs := [ci64 0, .t (.v (.slice none 0 0))]) 1 (ty := 33) (sz := 1) (n := ([] : List Int).length) (f := Ru64 ([] : List Int)) (by kernel_rfl) (by kernel_rfl) rfl) (by kernel_rfl)
 ·
  rcases ifs h with ⟨c20, h⟩ | ⟨c20, h⟩
  ·
   refine AW.rg tt_ok0 [(18, vb true)] [] [] 13 [hn, hn, ho (p := (16 : Int) ≠ 0) (by decide), ht c20] (by kernel_rfl) ?_
   exact jl true h (conv_re [(0, 0)] (by kernel_rfl))
  ·
   obtain ⟨y21, e22, h⟩ := bnd_some h
   refine AW.rg tt_ok0 [(18, vb (!y21))] [] [] 12 [hn, hn, ho (p := (16 : Int) ≠ 0) (by decide), hf c20, hn, hn, hn, hn, hk (rl_ref09_length_con (i64.wrap (4 * ((p0.size : Nat) : Int))) y21 e22)] (by kernel_rfl) ?_
   exact jl (!y21) h (conv_re [(0, 0)] (by kernel_rfl))
end Go.Proofs.Yteholdifeilkkaa
