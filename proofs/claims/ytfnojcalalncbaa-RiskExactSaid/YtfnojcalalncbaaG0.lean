/- Printed by a program of mine (vmgen.py): Go functions, and what they come to. -/
import Derived.Test.YtfnojcalalncbaaVr
import Derived.Test.YtfnojcalalncbaaRows
import Derived.Test.YtfnojcalalncbaaVw
namespace Go.Proofs.Ytfnojcalalncbaa
open Vm
open IntKind (i64 u64 u32 u8)
set_option maxHeartbeats 10000000
set_option linter.unusedVariables false
set_option linter.unusedSimpArgs false
set_option linter.constructorNameAsVariable false
def ttl0 : List (Nat × TI) := [(3, ⟨.int .i64, 1, 8, [.int .i64 0], false⟩), (4, ⟨.bool, 1, 1, [.bool false], false⟩), (22, ⟨.slice 3, 1, 24, [.slice none 0 0], false⟩), (25, ⟨.ptr 66, 1, 8, [.pointer none], false⟩), (28, ⟨.struct [(3, 0), (3, 1), (3, 2)], 3, 24, [.int .i64 0, .int .i64 0, .int .i64 0], true⟩), (29, ⟨.slice 28, 1, 24, [.slice none 0 0], false⟩), (32, ⟨.int .i64, 1, 8, [.int .i64 0], false⟩), (37, ⟨.slice 22, 1, 24, [.slice none 0 0], false⟩), (40, ⟨.arr 4 3, 4, 32, [.int .i64 0, .int .i64 0, .int .i64 0, .int .i64 0], true⟩), (41, ⟨.slice 40, 1, 24, [.slice none 0 0], false⟩), (43, ⟨.int .u64, 1, 8, [.int .u64 0], false⟩), (49, ⟨.slice 43, 1, 24, [.slice none 0 0], false⟩), (51, ⟨.struct [(3, 0), (49, 1)], 2, 32, [.int .i64 0, .slice none 0 0], false⟩), (66, ⟨.struct [(22, 0), (3, 1), (43, 2)], 3, 40, [.slice none 0 0, .int .i64 0, .int .u64 0], false⟩)]
theorem tt_ok0 : TTok Try.prog (Vm.look ttl0) := ttok_of ⟨⟨by kernel_rfl, by kernel_rfl, by kernel_rfl⟩, ⟨by kernel_rfl, by kernel_rfl, by kernel_rfl⟩, ⟨by kernel_rfl, by kernel_rfl, by kernel_rfl⟩, ⟨by kernel_rfl, by kernel_rfl, by kernel_rfl⟩, ⟨by kernel_rfl, by kernel_rfl, by kernel_rfl⟩, ⟨by kernel_rfl, by kernel_rfl, by kernel_rfl⟩, ⟨by kernel_rfl, by kernel_rfl, by kernel_rfl⟩, ⟨by kernel_rfl, by kernel_rfl, by kernel_rfl⟩, ⟨by kernel_rfl, by kernel_rfl, by kernel_rfl⟩, ⟨by kernel_rfl, by kernel_rfl, by kernel_rfl⟩, ⟨by kernel_rfl, by kernel_rfl, by kernel_rfl⟩, ⟨by kernel_rfl, by kernel_rfl, by kernel_rfl⟩, ⟨by kernel_rfl, by kernel_rfl, by kernel_rfl⟩, ⟨by kernel_rfl, by kernel_rfl, by kernel_rfl⟩, trivial⟩
theorem mo0 : Try.prog.follows .mixedOrders = true := by kernel_rfl
structure S_api_Parameters where
 Length : Int
 Hashes : Int
 Salt : Int
def dS_api_Parameters : S_api_Parameters := ⟨0, 0, 0⟩
instance : Inhabited S_api_Parameters := ⟨dS_api_Parameters⟩
/-! recordlink/bitset.right -/
noncomputable def bitset_right_k1 (x1 : Bool) : Option Bool := some x1
noncomputable def bitset_right (p0 : Int) : Option Bool := if (decide (p0 ≥ 64)) = true then (if (decide (p0 ≤ 512)) = true then (bitset_right_k1 ((p0.tmod 64) == 0)) else (bitset_right_k1 false)) else (bitset_right_k1 false)
set_option maxRecDepth 100000 in
theorem bitset_right_con (p0 : Int) (r : Bool) (h : bitset_right p0 = some r) : Con Try.prog 61 [vi64 p0] [] (vb r) [] := by
 refine con_of tt_ok0 0 Try.func61 (by kernel_rfl) rfl (by kernel_rfl) (fun base X _ => AW.post ?_)
 unfold bitset_right at h
 refine AW.sg tt_ok0 [] [] [] 1 [] (by kernel_rfl) ?_
 refine AW.seq ?_
 refine AW.join (ι := Bool) (fun v => ⟨[(2, vb v)], [], 0⟩) (fun v : Bool => bitset_right_k1 v = some r) (fun x1 h => ?_) ?_
 ·
  unfold bitset_right_k1 at h
  refine AW.tn (AW.ret ?_)
  obtain rfl := some_inj h
  exact fn0 (.inr rfl) [] 0 (vb x1) (by kernel_rfl)
 ·
  rcases ifs h with ⟨c2, h⟩ | ⟨c2, h⟩
  ·
   rcases ifs h with ⟨c3, h⟩ | ⟨c3, h⟩
   ·
    refine AW.rg tt_ok0 [(2, vb ((p0.tmod 64) == 0))] [] [] 13 [hn, ht c2, hn, hn, ht c3, hn, hn, hn, ho (p := (64 : Int) ≠ 0) (by decide)] (by kernel_rfl) ?_
    exact jl ((p0.tmod 64) == 0) h (conv_re [] (by kernel_rfl))
   ·
    refine AW.rg tt_ok0 [(2, vb false)] [] [] 13 [hn, ht c2, hn, hn, hf c3] (by kernel_rfl) ?_
    exact jl false h (conv_re [] (by kernel_rfl))
  ·
   refine AW.rg tt_ok0 [(2, vb false)] [] [] 13 [hn, hf c2] (by kernel_rfl) ?_
   exact jl false h (conv_re [] (by kernel_rfl))
def Eu64 (x : Int) : List T := [.v (.int .u64 x)]
def Ru64 (xs : List Int) : Nat → Nat → T := rowL 0 Eu64 xs
theorem Vu64 : ∀ x, allV (Eu64 x) := fun _ => ⟨tv, tv⟩
structure S_api_Bits where
 Length : Int
 Words : List Int
def dS_api_Bits : S_api_Bits := ⟨0, ([] : List Int)⟩
instance : Inhabited S_api_Bits := ⟨dS_api_Bits⟩
/-! recordlink/bitset.New -/
noncomputable def bitset_New (p0 : Int) : Option (S_api_Bits × Int) := (bitset_right p0).bind fun y1 => (if (!y1) = true then (some ((⟨0, ([] : List Int)⟩ : S_api_Bits), 2)) else (if 0 ≤ (i64.wrap (p0.tdiv 64)) then (if (i64.wrap (p0.tdiv 64)) ≤ 1099511627776 then (some ((⟨p0, (List.replicate ((i64.wrap (p0.tdiv 64)).toNat) (0 : Int))⟩ : S_api_Bits), 0)) else none) else none))
set_option maxRecDepth 100000 in
theorem bitset_New_con (p0 : Int) (r : S_api_Bits × Int) (h : bitset_New p0 = some r) : Con Try.prog 51 [vi64 p0] [] (.tup [.agg [ci64 r.1.Length, .ref 0 1 0 r.1.Words.length], vi64 r.2]) [(0, .row 43 false 1 r.1.Words.length (Ru64 r.1.Words))] := by
 refine con_of tt_ok0 0 Try.func51 (by kernel_rfl) rfl (by kernel_rfl) (fun base X _ => AW.post ?_)
 unfold bitset_New at h
 refine AW.sg tt_ok0 [(2, .c (.ptr 0 2 0 0))] [0] [(0, .box 51 [ci64 0, .t (.v (.slice none 0 0))])] 2 [] (by kernel_rfl) ?_
 refine AW.seq ?_
 obtain ⟨y1, e2, h⟩ := bnd_some h
 refine AW.sg tt_ok0 [(6, vb (!y1))] [] [] 4 [hn, hk (bitset_right_con p0 y1 e2)] (by kernel_rfl) ?_
 refine AW.co h (by kernel_rfl) (fun c3 h => ?_) (fun c3 h => ?_)
 ·
  refine AW.sg tt_ok0 [(3, vi64 2)] [0] [(0, .box 51 [ci64 0, .t (.v (.slice none 0 0))])] 7 [] (by kernel_rfl) ?_
  refine AW.ret (AW.tr ?_)
  obtain rfl := some_inj h
  exact fnR (.inr rfl) [(0, 7)] 1 (.tup [.agg [ci64 0, .ref 7 1 0 (([] : List Int).length)], vi64 2]) (conv_adoptB (id := 0) (ty0 := 51) (cs := [ci64 0, .t (.v (.slice none 0 0))]) 1 (ty := 43) (sz := 1) (n := ([] : List Int).length) (f := Ru64 ([] : List Int)) (by kernel_rfl) (by kernel_rfl) rfl) (by kernel_rfl)
 ·
  refine AW.skip (AW.tn ?_)
  obtain ⟨g4, g5, h⟩ := ifd h
  refine AW.sg tt_ok0 [(3, vi64 0)] [0, 7] [(0, .box 51 [ci64 p0, .ref 7 1 0 ((List.replicate ((i64.wrap (p0.tdiv 64)).toNat) (0 : Int)).length)]), (7, .row 43 false 1 (List.replicate ((i64.wrap (p0.tdiv 64)).toNat) (0 : Int)).length (Ru64 (List.replicate ((i64.wrap (p0.tdiv 64)).toNat) (0 : Int))))] 11 [hn, hn, ho (p := (64 : Int) ≠ 0) (by decide), hmk 0 Eu64 1 8 [.int .u64 0] rfl rfl (i64.wrap (p0.tdiv 64)) (i64.wrap (p0.tdiv 64)) g4 (Int.le_refl _) g5 (by decide)] (by kernel_rfl) ?_
  refine AW.ret ?_
  obtain rfl := some_inj h
  exact fn0 (.inr rfl) [(0, 7)] 1 (.tup [.agg [ci64 p0, .ref 7 1 0 ((List.replicate ((i64.wrap (p0.tdiv 64)).toNat) (0 : Int)).length)], vi64 0]) (by kernel_rfl)
/-! recordlink/bloom.Check -/
noncomputable def bloom_Check_k1 (x5 : Bool) : Option Int := if x5 = true then (some 10) else (some 0)
noncomputable def bloom_Check (p0 : S_api_Parameters) : Option Int := bind2 (bitset_New p0.Length) fun y1 y2 => (if (y2 != 0) = true then (some 10) else (if (decide (p0.Hashes < 1)) = true then (bloom_Check_k1 true) else (if (decide (p0.Hashes > 16)) = true then (bloom_Check_k1 true) else (if (decide (p0.Salt < (-1))) = true then (bloom_Check_k1 true) else (bloom_Check_k1 (decide (p0.Salt ≥ 5)))))))
set_option maxRecDepth 100000 in
theorem bloom_Check_con (p0 : S_api_Parameters) (r : Int) (h : bloom_Check p0 = some r) : Con Try.prog 50 [.agg [ci64 p0.Length, ci64 p0.Hashes, ci64 p0.Salt]] [] (vi64 r) [] := by
 refine con_of tt_ok0 0 Try.func50 (by kernel_rfl) rfl (by kernel_rfl) (fun base X _ => AW.post ?_)
 unfold bloom_Check at h
 refine AW.sg tt_ok0 [(1, .c (.ptr 0 3 0 0))] [0] [(0, .box 28 [ci64 p0.Length, ci64 p0.Hashes, ci64 p0.Salt])] 2 [] (by kernel_rfl) ?_
 refine AW.seq ?_
 obtain ⟨y1, y2, e3, h⟩ := bind2_some h
 refine AW.sg tt_ok0 [(4, vi64 y2)] [4, 8] [] 11 [hn, hn, hm [] [] 1 (bitset_New_con p0.Length (y1, y2) e3) ⟨rowL_flat Vu64 _ _ _, tv⟩] (by kernel_rfl) ?_
 refine AW.sg tt_ok0 [(12, vb (y2 != 0))] [] [] 13 [] (by kernel_rfl) ?_
 refine AW.co h (by kernel_rfl) (fun c4 h => ?_) (fun c4 h => ?_)
 ·
  refine AW.sg tt_ok0 [(2, vi64 10)] [] [] 14 [] (by kernel_rfl) ?_
  refine AW.ret (AW.tr ?_)
  obtain rfl := some_inj h
  exact fn0 (.inr rfl) [] 0 (vi64 10) (by kernel_rfl)
 ·
  refine AW.skip (AW.tn ?_)
  refine AW.seq (AW.seq ?_)
  refine AW.join (ι := Bool) (fun v => ⟨[(30, vb v)], [], 0⟩) (fun v : Bool => bloom_Check_k1 v = some r) (fun x5 h => ?_) ?_
  ·
   unfold bloom_Check_k1 at h
   refine AW.tn ?_
   refine AW.co h (by kernel_rfl) (fun c6 h => ?_) (fun c6 h => ?_)
   ·
    refine AW.sg tt_ok0 [(2, vi64 10)] [] [] 1 [] (by kernel_rfl) ?_
    refine AW.ret (AW.tr ?_)
    obtain rfl := some_inj h
    exact fn0 (.inr rfl) [] 0 (vi64 10) (by kernel_rfl)
   ·
    refine AW.skip (AW.tn ?_)
    refine AW.sg tt_ok0 [(2, vi64 0)] [] [] 1 [] (by kernel_rfl) ?_
    refine AW.ret ?_
    obtain rfl := some_inj h
    exact fn0 (.inr rfl) [] 0 (vi64 0) (by kernel_rfl)
  ·
   rcases ifs h with ⟨c7, h⟩ | ⟨c7, h⟩
   ·
    refine AW.rg tt_ok0 [(30, vb true)] [] [] 31 [hn, hn, ht c7] (by kernel_rfl) ?_
    exact jl true h (conv_re [] (by kernel_rfl))
   ·
    rcases ifs h with ⟨c8, h⟩ | ⟨c8, h⟩
    ·
     refine AW.rg tt_ok0 [(30, vb true)] [] [] 31 [hn, hn, hf c7, hn, hn, hn, ht c8] (by kernel_rfl) ?_
     exact jl true h (conv_re [] (by kernel_rfl))
    ·
     rcases ifs h with ⟨c9, h⟩ | ⟨c9, h⟩
     ·
      refine AW.rg tt_ok0 [(30, vb true)] [] [] 31 [hn, hn, hf c7, hn, hn, hn, hf c8, hn, hn, hn, hn, ht c9] (by kernel_rfl) ?_
      exact jl true h (conv_re [] (by kernel_rfl))
     ·
      refine AW.rg tt_ok0 [(30, vb (decide (p0.Salt ≥ 5)))] [] [] 31 [hn, hn, hf c7, hn, hn, hn, hf c8, hn, hn, hn, hn, hf c9] (by kernel_rfl) ?_
      exact jl (decide (p0.Salt ≥ 5)) h (conv_re [] (by kernel_rfl))
/-! recordlink/risk.check -/
noncomputable def risk_check_k1 (x4 : Bool) : Option Int := if x4 = true then (some 2) else (some 0)
noncomputable def risk_check (p0 : S_api_Parameters) (p1 : Int) : Option Int := (bloom_Check p0).bind fun y1 => (if (y1 != 0) = true then (some y1) else (if (decide (p1 < 0)) = true then (risk_check_k1 true) else (risk_check_k1 (decide (p1 > 80)))))
set_option maxRecDepth 100000 in
theorem risk_check_con (p0 : S_api_Parameters) (p1 : Int) (r : Int) (h : risk_check p0 p1 = some r) : Con Try.prog 46 [.agg [ci64 p0.Length, ci64 p0.Hashes, ci64 p0.Salt], vi64 p1] [] (vi64 r) [] := by
 refine con_of tt_ok0 0 Try.func46 (by kernel_rfl) rfl (by kernel_rfl) (fun base X _ => AW.post ?_)
 unfold risk_check at h
 refine AW.sg tt_ok0 [(2, .c (.ptr 0 3 0 0))] [0] [(0, .box 28 [ci64 p0.Length, ci64 p0.Hashes, ci64 p0.Salt])] 2 [] (by kernel_rfl) ?_
 refine AW.seq ?_
 obtain ⟨y1, e2, h⟩ := bnd_some h
 refine AW.sg tt_ok0 [(5, vi64 y1)] [] [] 4 [hn, hk (bloom_Check_con p0 y1 e2)] (by kernel_rfl) ?_
 refine AW.sg tt_ok0 [(9, vb (y1 != 0))] [] [] 6 [] (by kernel_rfl) ?_
 refine AW.co h (by kernel_rfl) (fun c3 h => ?_) (fun c3 h => ?_)
 ·
  refine AW.sg tt_ok0 [(4, vi64 y1)] [] [] 8 [] (by kernel_rfl) ?_
  refine AW.ret (AW.tr ?_)
  obtain rfl := some_inj h
  exact fn0 (.inr rfl) [] 0 (vi64 y1) (by kernel_rfl)
 ·
  refine AW.skip (AW.tn ?_)
  refine AW.seq (AW.seq ?_)
  refine AW.join (ι := Bool) (fun v => ⟨[(16, vb v)], [], 0⟩) (fun v : Bool => risk_check_k1 v = some r) (fun x4 h => ?_) ?_
  ·
   unfold risk_check_k1 at h
   refine AW.tn ?_
   refine AW.co h (by kernel_rfl) (fun c5 h => ?_) (fun c5 h => ?_)
   ·
    refine AW.sg tt_ok0 [(4, vi64 2)] [] [] 1 [] (by kernel_rfl) ?_
    refine AW.ret (AW.tr ?_)
    obtain rfl := some_inj h
    exact fn0 (.inr rfl) [] 0 (vi64 2) (by kernel_rfl)
   ·
    refine AW.skip (AW.tn ?_)
    refine AW.sg tt_ok0 [(4, vi64 0)] [] [] 1 [] (by kernel_rfl) ?_
    refine AW.ret ?_
    obtain rfl := some_inj h
    exact fn0 (.inr rfl) [] 0 (vi64 0) (by kernel_rfl)
  ·
   rcases ifs h with ⟨c6, h⟩ | ⟨c6, h⟩
   ·
    refine AW.rg tt_ok0 [(16, vb true)] [] [] 12 [hn, ht c6] (by kernel_rfl) ?_
    exact jl true h (conv_re [] (by kernel_rfl))
   ·
    refine AW.rg tt_ok0 [(16, vb (decide (p1 > 80)))] [] [] 12 [hn, hf c6] (by kernel_rfl) ?_
    exact jl (decide (p1 > 80)) h (conv_re [] (by kernel_rfl))
/-! recordlink/risk.rounded -/
noncomputable def risk_rounded (p0 : Int) (p1 : Int) : Option Int := if (i64.wrap (2 * p1)) ≠ 0 then ((some (i64.wrap ((i64.wrap ((i64.wrap (2 * p0)) + p1)).tdiv (i64.wrap (2 * p1))))).bind fun z2 => (some z2)) else none
set_option maxRecDepth 100000 in
theorem risk_rounded_con (p0 : Int) (p1 : Int) (r : Int) (h : risk_rounded p0 p1 = some r) : Con Try.prog 44 [vi64 p0, vi64 p1] [] (vi64 r) [] := by
 refine con_of tt_ok0 0 Try.func44 (by kernel_rfl) rfl (by kernel_rfl) (fun base X _ => AW.post ?_)
 unfold risk_rounded at h
 refine AW.sg tt_ok0 [] [] [] 1 [] (by kernel_rfl) ?_
 obtain ⟨g1, h⟩ := ifc h
 obtain ⟨z2, n3, h⟩ := bnd_some h
 replace n3 := some_inj n3
 refine AW.sg tt_ok0 [(4, vi64 z2)] [] [] 9 [hn, hn, hn, hn, hn, hn, ho g1] (by subst n3; kernel_rfl) ?_
 refine AW.ret ?_
 obtain rfl := some_inj h
 exact fn0 (.inr rfl) [] 0 (vi64 z2) (by kernel_rfl)
/-! recordlink/risk.empty -/
noncomputable def risk_empty_l1 (p0 : S_api_Parameters) (p1 : Int) (x3 : Int) (x4 : Int) : Option ((Int × Int) ⊕ Int) := if (decide (x4 < (i64.wrap (p1 * p0.Hashes)))) = true then ((risk_rounded (i64.wrap (x3 * (i64.wrap (p0.Length - 1)))) p0.Length).bind fun y7 => (some (.inl (y7, i64.wrap (x4 + 1))))) else (some (.inr x3))
noncomputable def risk_empty (p0 : S_api_Parameters) (p1 : Int) : Option Int := (loop (fun v : Int × Int => risk_empty_l1 p0 p1 v.1 v.2) (1073741824, 0)).bind fun x9 => (some x9)
set_option maxRecDepth 100000 in
theorem risk_empty_con (p0 : S_api_Parameters) (p1 : Int) (r : Int) (h : risk_empty p0 p1 = some r) : Con Try.prog 47 [.agg [ci64 p0.Length, ci64 p0.Hashes, ci64 p0.Salt], vi64 p1] [] (vi64 r) [] := by
 refine con_of tt_ok0 0 Try.func47 (by kernel_rfl) rfl (by kernel_rfl) (fun base X _ => AW.post ?_)
 unfold risk_empty at h
 refine AW.sg tt_ok0 [(2, .c (.ptr 0 3 0 0))] [0] [(0, .box 28 [ci64 p0.Length, ci64 p0.Hashes, ci64 p0.Salt])] 2 [] (by kernel_rfl) ?_
 refine AW.sg tt_ok0 [(5, vi64 1073741824)] [] [] 3 [] (by kernel_rfl) ?_
 refine AW.seq ?_
 refine AW.sg tt_ok0 [(10, vi64 0), (9, vi64 (i64.wrap (p1 * p0.Hashes)))] [] [] 8 [] (by kernel_rfl) ?_
 refine AW.block ?_
 obtain ⟨x9, l10, h⟩ := bnd_some h
 refine AW.lp l10 (fun v => ⟨[(2, .c (.ptr 0 3 0 0)), (5, vi64 v.1), (9, vi64 (i64.wrap (p1 * p0.Hashes))), (10, vi64 v.2)], [(0, .box 28 [ci64 p0.Length, ci64 p0.Hashes, ci64 p0.Salt])], 1⟩) (fun t : Int => (.exit 0, ⟨[(5, vi64 t)], [], 0⟩)) (conv_re [(0, 0)] (by kernel_rfl)) (fun _ => tv) ?_ ?_
 ·
  clear l10 h
  intro v o h
  obtain ⟨x3, x4⟩ := v
  replace h : risk_empty_l1 p0 p1 x3 x4 = some o := h
  unfold risk_empty_l1 at h
  refine AW.sg tt_ok0 [(11, vb (decide (x4 < (i64.wrap (p1 * p0.Hashes)))))] [] [] 2 [] (by kernel_rfl) ?_
  refine AW.seq ?_
  refine AW.co h (by kernel_rfl) (fun c6 h => ?_) (fun c6 h => ?_)
  ·
   refine AW.skip (AW.tn ?_)
   refine AW.seq (AW.block ?_)
   obtain ⟨y7, e8, h⟩ := bnd_some h
   refine AW.rg tt_ok0 [(5, vi64 y7)] [] [] 10 [hn, hn, hn, hn, hn, hn, hn, hk (risk_rounded_con (i64.wrap (x3 * (i64.wrap (p0.Length - 1)))) p0.Length y7 e8)] (by kernel_rfl) ?_
   refine AW.inBlock_normal (AW.tn ?_)
   refine AW.rg tt_ok0 [(10, vi64 (i64.wrap (x4 + 1)))] [] [] 12 [] (by kernel_rfl) ?_
   exact lpn h (conv_re [(0, 0)] (by kernel_rfl))
  ·
   refine AW.exit (AW.thenQ_exit ?_)
   exact lpo h rfl (conv_re [] (by kernel_rfl))
 ·
  show (_ : Exit → St → Prop) (.exit 0) _
  refine AW.inBlock_hit (AW.tn ?_)
  refine AW.sg tt_ok0 [(4, vi64 x9)] [] [] 2 [] (by kernel_rfl) ?_
  refine AW.ret ?_
  obtain rfl := some_inj h
  exact fn0 (.inr rfl) [] 0 (vi64 x9) (by kernel_rfl)
/-! recordlink/risk.Empty -/
noncomputable def risk_Empty (p0 : S_api_Parameters) (p1 : Int) : Option (Int × Int) := (risk_check p0 p1).bind fun y1 => (if (y1 != 0) = true then (some (0, y1)) else ((risk_empty p0 p1).bind fun y4 => (some (y4, 0))))
set_option maxRecDepth 100000 in
theorem risk_Empty_con (p0 : S_api_Parameters) (p1 : Int) (r : Int × Int) (h : risk_Empty p0 p1 = some r) : Con Try.prog 20 [.agg [ci64 p0.Length, ci64 p0.Hashes, ci64 p0.Salt], vi64 p1] [] (.tup [vi64 r.1, vi64 r.2]) [] := by
 refine con_of tt_ok0 0 Try.func20 (by kernel_rfl) rfl (by kernel_rfl) (fun base X _ => AW.post ?_)
 unfold risk_Empty at h
 refine AW.sg tt_ok0 [(2, .c (.ptr 0 3 0 0))] [0] [(0, .box 28 [ci64 p0.Length, ci64 p0.Hashes, ci64 p0.Salt])] 3 [] (by kernel_rfl) ?_
 refine AW.seq ?_
 obtain ⟨y1, e2, h⟩ := bnd_some h
 refine AW.sg tt_ok0 [(6, vi64 y1)] [] [] 6 [hn, hn, hk (risk_check_con p0 p1 y1 e2)] (by kernel_rfl) ?_
 refine AW.sg tt_ok0 [(11, vb (y1 != 0))] [] [] 8 [] (by kernel_rfl) ?_
 refine AW.co h (by kernel_rfl) (fun c3 h => ?_) (fun c3 h => ?_)
 ·
  refine AW.sg tt_ok0 [(5, vi64 y1), (4, vi64 0)] [] [] 11 [] (by kernel_rfl) ?_
  refine AW.ret (AW.tr ?_)
  obtain rfl := some_inj h
  exact fn0 (.inr rfl) [] 0 (.tup [vi64 0, vi64 y1]) (by kernel_rfl)
 ·
  refine AW.skip (AW.tn ?_)
  obtain ⟨y4, e5, h⟩ := bnd_some h
  refine AW.sg tt_ok0 [(5, vi64 0), (4, vi64 y4)] [] [] 12 [hn, hn, hk (risk_empty_con p0 p1 y4 e5)] (by kernel_rfl) ?_
  refine AW.ret ?_
  obtain rfl := some_inj h
  exact fn0 (.inr rfl) [] 0 (.tup [vi64 y4, vi64 0]) (by kernel_rfl)
/-! recordlink/risk.Fill -/
noncomputable def risk_Fill (p0 : S_api_Parameters) (p1 : Int) : Option (Int × Int) := bind2 (risk_Empty p0 p1) fun y1 y2 => (if (y2 != 0) = true then (some (0, y2)) else ((risk_rounded (i64.wrap (1000 * (i64.wrap (1073741824 - y1)))) 1073741824).bind fun y5 => (some (y5, 0))))
set_option maxRecDepth 100000 in
theorem risk_Fill_con (p0 : S_api_Parameters) (p1 : Int) (r : Int × Int) (h : risk_Fill p0 p1 = some r) : Con Try.prog 17 [.agg [ci64 p0.Length, ci64 p0.Hashes, ci64 p0.Salt], vi64 p1] [] (.tup [vi64 r.1, vi64 r.2]) [] := by
 refine con_of tt_ok0 0 Try.func17 (by kernel_rfl) rfl (by kernel_rfl) (fun base X _ => AW.post ?_)
 unfold risk_Fill at h
 refine AW.sg tt_ok0 [(2, .c (.ptr 0 3 0 0))] [0] [(0, .box 28 [ci64 p0.Length, ci64 p0.Hashes, ci64 p0.Salt])] 3 [] (by kernel_rfl) ?_
 obtain ⟨y1, y2, e3, h⟩ := bind2_some h
 refine AW.sg tt_ok0 [(7, vi64 y2), (6, vi64 y1)] [] [] 10 [hn, hn, hk (risk_Empty_con p0 p1 (y1, y2) e3)] (by kernel_rfl) ?_
 refine AW.seq ?_
 refine AW.sg tt_ok0 [(15, vb (y2 != 0))] [] [] 12 [] (by kernel_rfl) ?_
 refine AW.co h (by kernel_rfl) (fun c4 h => ?_) (fun c4 h => ?_)
 ·
  refine AW.sg tt_ok0 [(5, vi64 y2), (4, vi64 0)] [] [] 15 [] (by kernel_rfl) ?_
  refine AW.ret (AW.tr ?_)
  obtain rfl := some_inj h
  exact fn0 (.inr rfl) [] 0 (.tup [vi64 0, vi64 y2]) (by kernel_rfl)
 ·
  refine AW.skip (AW.tn ?_)
  obtain ⟨y5, e6, h⟩ := bnd_some h
  refine AW.sg tt_ok0 [(5, vi64 0), (4, vi64 y5)] [] [] 17 [hn, hn, hn, hk (risk_rounded_con (i64.wrap (1000 * (i64.wrap (1073741824 - y1)))) 1073741824 y5 e6)] (by kernel_rfl) ?_
  refine AW.ret ?_
  obtain rfl := some_inj h
  exact fn0 (.inr rfl) [] 0 (.tup [vi64 y5, vi64 0]) (by kernel_rfl)
/-! recordlink/risk.Collision -/
noncomputable def risk_Collision_l1 (p0 : S_api_Parameters) (y1 : Int) (x7 : Int) (x8 : Int) : Option ((Int × Int) ⊕ Int) := if (decide (x8 < p0.Hashes)) = true then ((risk_rounded (i64.wrap (x7 * (i64.wrap (1073741824 - y1)))) 1073741824).bind fun y11 => (some (.inl (y11, i64.wrap (x8 + 1))))) else (some (.inr x7))
noncomputable def risk_Collision (p0 : S_api_Parameters) (p1 : Int) : Option (Int × Int) := bind2 (risk_Empty p0 p1) fun y1 y2 => (if (y2 != 0) = true then (some (0, y2)) else ((loop (fun v : Int × Int => risk_Collision_l1 p0 y1 v.1 v.2) (1073741824, 0)).bind fun x13 => ((risk_rounded (i64.wrap (1000000 * x13)) 1073741824).bind fun y14 => (some (y14, 0)))))
set_option maxRecDepth 100000 in
theorem risk_Collision_con (p0 : S_api_Parameters) (p1 : Int) (r : Int × Int) (h : risk_Collision p0 p1 = some r) : Con Try.prog 19 [.agg [ci64 p0.Length, ci64 p0.Hashes, ci64 p0.Salt], vi64 p1] [] (.tup [vi64 r.1, vi64 r.2]) [] := by
 refine con_of tt_ok0 0 Try.func19 (by kernel_rfl) rfl (by kernel_rfl) (fun base X _ => AW.post ?_)
 unfold risk_Collision at h
 refine AW.sg tt_ok0 [(2, .c (.ptr 0 3 0 0))] [0] [(0, .box 28 [ci64 p0.Length, ci64 p0.Hashes, ci64 p0.Salt])] 3 [] (by kernel_rfl) ?_
 obtain ⟨y1, y2, e3, h⟩ := bind2_some h
 refine AW.sg tt_ok0 [(7, vi64 y2), (6, vi64 y1)] [] [] 10 [hn, hn, hk (risk_Empty_con p0 p1 (y1, y2) e3)] (by kernel_rfl) ?_
 refine AW.seq ?_
 refine AW.sg tt_ok0 [(16, vb (y2 != 0))] [] [] 12 [] (by kernel_rfl) ?_
 refine AW.co h (by kernel_rfl) (fun c4 h => ?_) (fun c4 h => ?_)
 ·
  refine AW.sg tt_ok0 [(5, vi64 y2), (4, vi64 0)] [] [] 15 [] (by kernel_rfl) ?_
  refine AW.ret (AW.tr ?_)
  obtain rfl := some_inj h
  exact fn0 (.inr rfl) [] 0 (.tup [vi64 0, vi64 y2]) (by kernel_rfl)
 ·
  refine AW.skip (AW.tn ?_)
  refine AW.sg tt_ok0 [(8, vi64 1073741824)] [] [] 13 [] (by kernel_rfl) ?_
  refine AW.seq ?_
  refine AW.sg tt_ok0 [(20, vi64 0), (19, vi64 p0.Hashes)] [] [] 16 [] (by kernel_rfl) ?_
  refine AW.block ?_
  obtain ⟨x13, l16, h⟩ := bnd_some h
  refine AW.lp l16 (fun v => ⟨[(6, vi64 y1), (8, vi64 v.1), (19, vi64 p0.Hashes), (20, vi64 v.2)], [], 0⟩) (fun t : Int => (.exit 0, ⟨[(8, vi64 t)], [], 0⟩)) (conv_re [] (by kernel_rfl)) (fun _ => tv) ?_ ?_
  ·
   clear l16 h
   intro v o h
   obtain ⟨x7, x8⟩ := v
   replace h : risk_Collision_l1 p0 y1 x7 x8 = some o := h
   unfold risk_Collision_l1 at h
   refine AW.sg tt_ok0 [(21, vb (decide (x8 < p0.Hashes)))] [] [] 1 [] (by kernel_rfl) ?_
   refine AW.seq ?_
   refine AW.co h (by kernel_rfl) (fun c10 h => ?_) (fun c10 h => ?_)
   ·
    refine AW.skip (AW.tn ?_)
    refine AW.seq (AW.block ?_)
    obtain ⟨y11, e12, h⟩ := bnd_some h
    refine AW.rg tt_ok0 [(8, vi64 y11)] [] [] 6 [hn, hn, hn, hn, hk (risk_rounded_con (i64.wrap (x7 * (i64.wrap (1073741824 - y1)))) 1073741824 y11 e12)] (by kernel_rfl) ?_
    refine AW.inBlock_normal (AW.tn ?_)
    refine AW.rg tt_ok0 [(20, vi64 (i64.wrap (x8 + 1)))] [] [] 8 [] (by kernel_rfl) ?_
    exact lpn h (conv_re [] (by kernel_rfl))
   ·
    refine AW.exit (AW.thenQ_exit ?_)
    exact lpo h rfl (conv_re [] (by kernel_rfl))
  ·
   show (_ : Exit → St → Prop) (.exit 0) _
   refine AW.inBlock_hit (AW.tn ?_)
   obtain ⟨y14, e15, h⟩ := bnd_some h
   refine AW.sg tt_ok0 [(5, vi64 0), (4, vi64 y14)] [] [] 4 [hn, hn, hk (risk_rounded_con (i64.wrap (1000000 * x13)) 1073741824 y14 e15)] (by kernel_rfl) ?_
   refine AW.ret ?_
   obtain rfl := some_inj h
   exact fn0 (.inr rfl) [] 0 (.tup [vi64 y14, vi64 0]) (by kernel_rfl)
/-! recordlink/risk.Choose (by hand) -/
section
open Go.RowKit Go.Shelf
attribute [local go_sem] Oper.semAt_some
def chL (k : Nat) : Int := 64 * ((k / 16 + 1 : Nat) : Int)
def chH (k : Nat) : Int := ((k % 16 + 1 : Nat) : Int)
def chP (k : Nat) : S_api_Parameters := ⟨chL k, chH k, -1⟩
def chE (k : Fin 128) : Array Value := #[.agg #[.int .i64 (chL k.1), .int .i64 (chH k.1), .int .i64 (-1)]]
theorem chU_succ {pre : List (Fin 128)} {k : Nat} (h : pre.map (·.1) = List.range k) (hk : k < 128) : (pre ++ [(⟨k, hk⟩ : Fin 128)]).map (·.1) = List.range (k + 1) := by rw [List.map_append, h, List.range_succ]; rfl
set_option maxRecDepth 100000 in
theorem cand_stops (n : Nat) (hn : 1 ≤ n) (n₀ : Nat) (w : World) : SeqStopsK Fence.wide n Try.prog 59 #[] chE (Below n₀) (fun xs => xs.map (·.1) = List.range 128) (fun pre => ∃ k, k ≤ 128 ∧ pre.map (·.1) = List.range k) 128 w := fun l J Jx W hW hJ hJx hY h0 => by
 refine callsIn_of_wp Try.func59 rfl tv ?_ rfl
 simp only [Try.ntmps59, List.size_toArray, List.length_cons, List.length_nil, Nat.reduceAdd, Nat.reduceSub, Array.replicate_succ, Array.replicate_zero, List.push_toArray, List.append_toArray, List.nil_append, List.cons_append]
 gi_wp2
 gi_loopw [2] (fun p wr => ∃ (i : Nat) (L : Int) (pre : List (Fin 128)), p = .int .i64 L ∧ Hid (L = 64 * ((i + 1 : Nat) : Int)) ∧ i ≤ 8 ∧ Hid (pre.map (·.1) = List.range (16 * i)) ∧ J pre wr) (fun p wr => (600 - intOf p).toNat)
 case atStart => exact ⟨0, 64, [], rfl, rfl, by omega, rfl, by simpa using h0⟩
 case round =>
  obtain ⟨i, L, pre, rfl, hL, hi, hpre, hJi⟩ := hrel
  by_cases hle : L ≤ 512
  ·gi_wp2
   gi_loopw [3] (fun p wr => ∃ (j : Nat) (H : Int) (pre : List (Fin 128)), p = .int .i64 H ∧ Hid (H = ((j + 1 : Nat) : Int)) ∧ j ≤ 16 ∧ Hid (pre.map (·.1) = List.range (16 * i + j)) ∧ J pre wr) (fun p wr => (100 - intOf p).toNat)
   case atStart => exact ⟨0, 1, pre, rfl, rfl, by omega, hpre, hJi⟩
   case round =>
    obtain ⟨j, H, pre, rfl, hH, hj, hpre, hJj⟩ := hrel
    by_cases hle2 : H ≤ 16
    ·have e1 := hL.out
     have e2 := hH.out
     have hk : 16 * i + j < 128 := by omega
     have ek : chE ⟨16 * i + j, hk⟩ = #[.agg #[.int .i64 L, .int .i64 H, .int .i64 (-1)]] := by
      unfold chE chL chH
      simp only
      rw [show (16 * i + j) / 16 = i by omega, show (16 * i + j) % 16 = j by omega, ← e1, ← e2]
     have hlen : pre.length < 128 := by have := congrArg List.length hpre.out; simp at this; omega
     clear e1 e2
     obtain ⟨fn, tmps, assign, body, hy, hR⟩ := hY pre ⟨16 * i + j, hk⟩ _ hJj hlen
     rw [ek] at hy
     clear hY
     gi_wp2
     refine hR.mono ?_
     rintro e W' (⟨rfl, hJ', hk'⟩ | ⟨rfl, hJx'⟩)
     ·gi_wp2
      go_roundw
      case rel =>
       have := hH.out
       exact ⟨j + 1, _, _, rfl, by show _ = _; unfold wrap64; omega, by omega, chU_succ hpre.out hk, hJ'⟩
      case measure =>
       have := hH.out
       simp only [intOf]
       unfold wrap64
       omega
     ·gi_wp2
      refine bodyPost_ret (results_none rfl _ _ _) rfl ?_
      exact ⟨⟨_, rfl⟩, .inr ⟨_, ⟨16 * i + j + 1, by omega, chU_succ hpre.out hk⟩, hJx'⟩⟩
    ·gi_wp2
     go_roundw
     case rel =>
      have := hH.out
      have := hL.out
      obtain rfl : j = 16 := by omega
      exact ⟨i + 1, _, pre, rfl, by show _ = _; unfold wrap64; omega, by omega, by have := hpre.out; rw [show 16 * i + 16 = 16 * (i + 1) by omega] at this; exact this, hJj⟩
     case measure =>
      simp only [intOf]
      have := hL.out
      unfold wrap64
      omega
  ·gi_wp2
   go_end0
   have := hL.out
   obtain rfl : i = 8 := by omega
   exact ⟨⟨_, rfl⟩, .inl ⟨pre, hpre.out, hJi⟩⟩
theorem cands_in (n : Nat) (w : World) : CallsIn Fence.wide n Try.prog 45 #[] w fun e w' => e = .returned (.func (.func 59) #[] #[]) ∧ w' = w := by
 refine callsIn_of_wp Try.func45 rfl tv ?_ rfl
 simp only [Try.ntmps45, List.size_toArray, List.length_nil, Nat.reduceSub, Array.replicate_succ, Array.replicate_zero, List.push_toArray, List.append_toArray, List.nil_append]
 gi_wp2
 go_ret
 exact ⟨rfl, rfl⟩

def chV (k : Fin 128) : Value := .agg #[.int .i64 (chL k.1), .int .i64 (chH k.1), .int .i64 (-1)]
structure ChF (w : World) (p0 p1 p2 p3 : Int) (W : World) : Prop where
 b0 : Boxed W (w.heap.size) 3 (.int .i64 p0)
 b1 : Boxed W (w.heap.size + 1) 3 (.int .i64 p1)
 b2 : Boxed W (w.heap.size + 1 + 1) 3 (.int .i64 p2)
 b3 : Boxed W (w.heap.size + 1 + 1 + 1) 3 (.int .i64 p3)
 r : W.heap[w.heap.size + 1 + 1 + 1 + 1]? = some (.cells #[.int .i64 0, .int .i64 0, .int .i64 0] 28 (0, 0))
 e : Boxed W (w.heap.size + 1 + 1 + 1 + 1 + 1) 32 (.int .i64 0)
 bl : Below w.heap.size w W
theorem blk_kept1 {W W' : World} {row : Option Nat} {b : Nat} {vs : Array Value} {t : TypeId} (h : W.heap[b]? = some (.cells vs t (0, 0))) (hg : W.grownBy W' row) (hr : ∀ r, row = some r → ∃ o : Obj, W.heap[r]? = some o ∧ o.isCells = false) : W'.heap[b]? = some (.cells vs t (0, 0)) := blk_kept (β := Unit) (vs := fun _ => vs) () W W' row h hg hr
theorem ChF.own {β : Type} {w : World} {p0 p1 p2 p3 : Int} {B : Nat} (hB : w.heap.size ≤ B) : OwnFrom B (fun (_ : β) W => ChF w p0 p1 p2 p3 W) := fun _ W W' row h hg hr => by
 have hr' : ∀ r, row = some r → ∃ o : Obj, W.heap[r]? = some o ∧ o.isCells = false := fun r e => (hr r e).2
 exact ⟨blk_kept1 h.b0 hg hr', blk_kept1 h.b1 hg hr', blk_kept1 h.b2 hg hr', blk_kept1 h.b3 hg hr', blk_kept1 h.r hg hr', blk_kept1 h.e hg hr', h.bl.grown hg h.bl.size (fun k e => Nat.le_trans hB (hr k e).1)⟩
theorem ChF.below {w W W' : World} {p0 p1 p2 p3 : Int} (h : ChF w p0 p1 p2 p3 W) (hB : Below W.heap.size W W') : ChF w p0 p1 p2 p3 W' := by
 have k : ∀ {b : Nat} {o : Obj}, W.heap[b]? = some o → W'.heap[b]? = some o := fun hb => (hB.block _ (Array.getElem?_eq_some_iff.1 hb).1).trans hb
 exact ⟨k h.b0, k h.b1, k h.b2, k h.b3, k h.r, k h.e, h.bl.trans (hB.mono h.bl.size)⟩
theorem cells3 {W : World} {b : Nat} {x y z : Value} {t : TypeId} (h : W.heap[b]? = some (.cells #[x, y, z] t (0, 0))) : (W.cell? ⟨b, 0, none⟩ = some x ∧ W.cell? ⟨b, 1, none⟩ = some y ∧ W.cell? ⟨b, 2, none⟩ = some z) ∧ W.frozen? ⟨b, 0, none⟩ = false ∧ W.frozen? ⟨b, 1, none⟩ = false ∧ W.frozen? ⟨b, 2, none⟩ = false := by
 simp [World.cell?, World.frozen?, h]
noncomputable def chF (p0 : Int) (k : Nat) : Int := ((risk_Fill (chP k) p0).getD (0, 0)).1
noncomputable def chC (p0 : Int) (k : Nat) : Int := ((risk_Collision (chP k) p0).getD (0, 0)).1
def ChG (p0 : Int) : Prop := ∀ k, k < 128 → (∃ a, risk_Fill (chP k) p0 = some a) ∧ ∃ a, risk_Collision (chP k) p0 = some a
noncomputable def chM (p0 p1 p2 p3 : Int) (k : Nat) : Bool := decide (p1 ≤ chF p0 k ∧ chF p0 k ≤ p2 ∧ chC p0 k ≤ p3)
def chI (w : World) (p0 p1 p2 p3 : Int) (pre : List (Fin 128)) (W : World) : Prop := (∀ k ∈ pre, chM p0 p1 p2 p3 k.1 = false) ∧ ChF w p0 p1 p2 p3 W
def chX (w : World) (p0 p1 p2 p3 : Int) (c : Code) (pre : List (Fin 128)) (W : World) : Prop := c = .ret ∧ ∃ pre' x, pre = pre' ++ [x] ∧ (∀ k ∈ pre', chM p0 p1 p2 p3 k.1 = false) ∧ chM p0 p1 p2 p3 x.1 = true ∧ W.heap[w.heap.size + 1 + 1 + 1 + 1]? = some (.cells #[.int .i64 (chL x.1), .int .i64 (chH x.1), .int .i64 (-1)] 28 (0, 0)) ∧ Boxed W (w.heap.size + 1 + 1 + 1 + 1 + 1) 32 (.int .i64 0) ∧ Below w.heap.size w W
theorem ch_call {n : Nat} {w : World} {p0 p1 p2 p3 : Int} {f : FuncId} {L H S a e : Int} (hc : Con Try.prog f [.agg [ci64 L, ci64 H, ci64 S], vi64 p0] [] (.tup [vi64 a, vi64 e]) []) (W : World) (hF : ChF w p0 p1 p2 p3 W) (Bx : Nat) (hx : W.heap[Bx]? = some (.cells #[.int .i64 L, .int .i64 H, .int .i64 S] 28 (0, 0))) :
  CallsIn Fence.wide n Try.prog f #[.agg #[.int .i64 L, .int .i64 H, .int .i64 S], .int .i64 p0] W fun e' W' => e' = .returned (.tuple #[.int .i64 a, .int .i64 e]) ∧ ChF w p0 p1 p2 p3 W' ∧ W'.heap[Bx]? = some (.cells #[.int .i64 L, .int .i64 H, .int .i64 S] 28 (0, 0)) ∧ Below W.heap.size W W' := by
 refine CallsIn.mono (Con.callsIn (fun _ => False) (fun _ h => h.elim) hc _ ⟨⟨#[.int .i64 L, .int .i64 H, .int .i64 S], rfl, ⟨rfl, rfl⟩, ⟨rfl, rfl⟩, ⟨rfl, rfl⟩, tv⟩, ⟨rfl, rfl⟩, tv⟩) ?_
 rintro e' W' ⟨v, rfl, hB, ok', ρ', ys, rfl, hy⟩
 obtain ⟨l⟩ := ys
 rcases l with _ | ⟨y1, _ | ⟨y2, _ | ⟨y3, l⟩⟩⟩
 ·exact hy.elim
 ·exact hy.2.elim
 ·obtain ⟨⟨rfl, _⟩, ⟨rfl, _⟩, _⟩ := hy
  exact ⟨rfl, hF.below hB, (hB.block _ (Array.getElem?_eq_some_iff.1 hx).1).trans hx, hB⟩
 ·exact hy.2.2.elim
theorem ch_store {w W : World} {u0 u1 u2 u3 x y z u : Value} (h4 : W.heap[w.heap.size + 1 + 1 + 1 + 1]? = some (.cells #[u0, u1, u2] 28 (0, 0))) (h5 : Boxed W (w.heap.size + 1 + 1 + 1 + 1 + 1) 32 u3) (hb : Below w.heap.size w W) :
  ((((W.setCell ⟨w.heap.size + 1 + 1 + 1 + 1, 0, none⟩ x).setCell ⟨w.heap.size + 1 + 1 + 1 + 1, 1, none⟩ y).setCell ⟨w.heap.size + 1 + 1 + 1 + 1, 2, none⟩ z).setCell ⟨w.heap.size + 1 + 1 + 1 + 1 + 1, 0, none⟩ u).heap[w.heap.size + 1 + 1 + 1 + 1]? = some (.cells #[x, y, z] 28 (0, 0)) ∧
  Boxed ((((W.setCell ⟨w.heap.size + 1 + 1 + 1 + 1, 0, none⟩ x).setCell ⟨w.heap.size + 1 + 1 + 1 + 1, 1, none⟩ y).setCell ⟨w.heap.size + 1 + 1 + 1 + 1, 2, none⟩ z).setCell ⟨w.heap.size + 1 + 1 + 1 + 1 + 1, 0, none⟩ u) (w.heap.size + 1 + 1 + 1 + 1 + 1) 32 u ∧
  Below w.heap.size w ((((W.setCell ⟨w.heap.size + 1 + 1 + 1 + 1, 0, none⟩ x).setCell ⟨w.heap.size + 1 + 1 + 1 + 1, 1, none⟩ y).setCell ⟨w.heap.size + 1 + 1 + 1 + 1, 2, none⟩ z).setCell ⟨w.heap.size + 1 + 1 + 1 + 1 + 1, 0, none⟩ u) ∧ KeepsOthers W ((((W.setCell ⟨w.heap.size + 1 + 1 + 1 + 1, 0, none⟩ x).setCell ⟨w.heap.size + 1 + 1 + 1 + 1, 1, none⟩ y).setCell ⟨w.heap.size + 1 + 1 + 1 + 1, 2, none⟩ z).setCell ⟨w.heap.size + 1 + 1 + 1 + 1 + 1, 0, none⟩ u) := by
 refine ⟨?_, ?_, (((hb.setCell (p := ⟨_, 0, none⟩) (by simp only; omega) _).setCell (p := ⟨_, 1, none⟩) (by simp only; omega) _).setCell (p := ⟨_, 2, none⟩) (by simp only; omega) _).setCell (p := ⟨_, 0, none⟩) (by simp only; omega) _, (((KeepsOthers.setCell _ _ _).trans (KeepsOthers.setCell _ _ _)).trans (KeepsOthers.setCell _ _ _)).trans (KeepsOthers.setCell _ _ _)⟩
 ·rw [Below.heap_setCell _ _ _ _ (by simp)]
  have m := (Array.getElem?_eq_some_iff.1 h4)
  simp [World.setCell, Array.getElem?_modify, h4]
 ·refine Boxed.set (v := u3) u ?_
  unfold Boxed at h5 ⊢
  rw [Below.heap_setCell _ _ _ _ (by simp), Below.heap_setCell _ _ _ _ (by simp), Below.heap_setCell _ _ _ _ (by simp)]
  exact h5
theorem ch_cells {w W : World} {D : Nat} {x y z u : Value} (hD : w.heap.size ≤ D) (hK : W.heap[D]? = some (.deferred (some []))) (h4 : W.heap[w.heap.size + 1 + 1 + 1 + 1]? = some (.cells #[x, y, z] 28 (0, 0))) (h5 : Boxed W (w.heap.size + 1 + 1 + 1 + 1 + 1) 32 u) (hb : Below w.heap.size w W) :
  ((W.putObj D (.deferred none)).cell? ⟨w.heap.size + 1 + 1 + 1 + 1, 0, none⟩ = some x ∧ (W.putObj D (.deferred none)).cell? ⟨w.heap.size + 1 + 1 + 1 + 1, 1, none⟩ = some y ∧ (W.putObj D (.deferred none)).cell? ⟨w.heap.size + 1 + 1 + 1 + 1, 2, none⟩ = some z) ∧ (W.putObj D (.deferred none)).cell? ⟨w.heap.size + 1 + 1 + 1 + 1 + 1, 0, none⟩ = some u ∧ Below w.heap.size w (W.putObj D (.deferred none)) := by
 have hr : ∀ r, some D = some r → ∃ o : Obj, W.heap[r]? = some o ∧ o.isCells = false := fun r e => by cases e; exact ⟨_, hK, rfl⟩
 exact ⟨(cells3 (blk_kept1 h4 (grownBy_putObj' W D _) hr)).1, Boxed.cell (blk_kept1 h5 (grownBy_putObj' W D _) hr), hb.trans (belowK_b (w := w) (Nat.le_refl _) W D _ _ hD hK rfl rfl)⟩
set_option maxRecDepth 100000 in
theorem ch_walk (p0 p1 p2 p3 : Int) (w : World) (hin : ¬ (p0 < 0 ∨ p0 > 80 ∨ p1 < 0 ∨ p1 > p2 ∨ p2 > 1000 ∨ p3 < 0 ∨ p3 > 1000000)) (hG : ChG p0) : CallsIn Fence.wide 10 Try.prog 18 #[.int .i64 p0, .int .i64 p1, .int .i64 p2, .int .i64 p3] w fun e w' => ∃ L H S E, e = .returned (.tuple #[.agg #[.int .i64 L, .int .i64 H, .int .i64 S], .int .i64 E]) ∧ Below w.heap.size w w' ∧ ((∃ k : Fin 128, L = (chP k.1).Length ∧ H = (chP k.1).Hashes ∧ S = -1 ∧ E = 0 ∧ (List.range 128).find? (chM p0 p1 p2 p3) = some k.1) ∨ (L = 0 ∧ H = 0 ∧ S = 0 ∧ E = 13 ∧ (List.range 128).find? (chM p0 p1 p2 p3) = none)) := by
 refine callsIn_of_wp_marks Try.func18 rfl tv ?_ rfl
 simp only [Try.ntmps18, List.size_toArray, List.length_cons, List.length_nil, Nat.reduceAdd, Nat.reduceSub, Array.replicate_succ, Array.replicate_zero, List.push_toArray, List.append_toArray, List.nil_append, List.cons_append]
 have h1 : ¬ p0 < 0 := fun k => hin (by omega)
 have h2 : ¬ 80 < p0 := fun k => hin (by omega)
 have h3 : ¬ p1 < 0 := fun k => hin (by omega)
 have h4 : ¬ p2 < p1 := fun k => hin (by omega)
 have h5 : ¬ 1000 < p2 := fun k => hin (by omega)
 have h6 : ¬ p3 < 0 := fun k => hin (by omega)
 have h7 : ¬ 1000000 < p3 := fun k => hin (by omega)
 clear hin
 gi_wp2_with (refine ⟨tv, ?_⟩; gi_at_call 45; refine (cands_in _ _).mono ?_; rintro e w' ⟨rfl, rfl⟩)
 have hF : ChF w p0 p1 p2 p3 ((((((w.alloc (Obj.cells #[Value.int i64 p0] 3)).alloc (Obj.cells #[Value.int i64 p1] 3)).alloc (Obj.cells #[Value.int i64 p2] 3)).alloc (Obj.cells #[Value.int i64 p3] 3)).alloc (Obj.cells #[Value.int i64 0, Value.int i64 0, Value.int i64 0] 28)).alloc (Obj.cells #[Value.int i64 0] 32)) := by
  have s1 : ∀ (W : World) (o : Obj), (W.alloc o).heap.size = W.heap.size + 1 := fun W o => by simp
  have n : ∀ (W : World) (o : Obj), (W.alloc o).heap[W.heap.size]? = some o := fun W o => World.alloc_heap_new W o
  have k : ∀ (W : World) (o o' : Obj) (b : Nat), W.heap[b]? = some o → (W.alloc o').heap[b]? = some o := fun W o o' b h => (Below.heap_alloc W o' b (Array.getElem?_eq_some_iff.1 h).1).trans h
  refine ⟨?_, ?_, ?_, ?_, ?_, ?_, ?_⟩
  ·exact k _ _ _ _ (k _ _ _ _ (k _ _ _ _ (k _ _ _ _ (k _ _ _ _ (n w _)))))
  ·have := n (w.alloc (Obj.cells #[Value.int i64 p0] 3)) (Obj.cells #[Value.int i64 p1] 3)
   rw [s1] at this
   exact k _ _ _ _ (k _ _ _ _ (k _ _ _ _ (k _ _ _ _ this)))
  ·have := n ((w.alloc (Obj.cells #[Value.int i64 p0] 3)).alloc (Obj.cells #[Value.int i64 p1] 3)) (Obj.cells #[Value.int i64 p2] 3)
   rw [s1, s1] at this
   exact k _ _ _ _ (k _ _ _ _ (k _ _ _ _ this))
  ·have := n (((w.alloc (Obj.cells #[Value.int i64 p0] 3)).alloc (Obj.cells #[Value.int i64 p1] 3)).alloc (Obj.cells #[Value.int i64 p2] 3)) (Obj.cells #[Value.int i64 p3] 3)
   rw [s1, s1, s1] at this
   exact k _ _ _ _ (k _ _ _ _ this)
  ·have := n ((((w.alloc (Obj.cells #[Value.int i64 p0] 3)).alloc (Obj.cells #[Value.int i64 p1] 3)).alloc (Obj.cells #[Value.int i64 p2] 3)).alloc (Obj.cells #[Value.int i64 p3] 3)) (Obj.cells #[Value.int i64 0, Value.int i64 0, Value.int i64 0] 28)
   rw [s1, s1, s1, s1] at this
   exact k _ _ _ _ this
  ·have := n (((((w.alloc (Obj.cells #[Value.int i64 p0] 3)).alloc (Obj.cells #[Value.int i64 p1] 3)).alloc (Obj.cells #[Value.int i64 p2] 3)).alloc (Obj.cells #[Value.int i64 p3] 3)).alloc (Obj.cells #[Value.int i64 0, Value.int i64 0, Value.int i64 0] 28)) (Obj.cells #[Value.int i64 0] 32)
   rw [s1, s1, s1, s1, s1] at this
   exact this
  ·exact ((((((Below.refl _ w).alloc (Nat.le_refl _) _).alloc (by simp) _).alloc (by simp; omega) _).alloc (by simp; omega) _).alloc (by simp; omega) _).alloc (by simp; omega) _
 obtain ⟨W0, hW0⟩ : ∃ W0, ((((((w.alloc (Obj.cells #[Value.int i64 p0] 3)).alloc (Obj.cells #[Value.int i64 p1] 3)).alloc (Obj.cells #[Value.int i64 p2] 3)).alloc (Obj.cells #[Value.int i64 p3] 3)).alloc (Obj.cells #[Value.int i64 0, Value.int i64 0, Value.int i64 0] 28)).alloc (Obj.cells #[Value.int i64 0] 32)) = W0 := ⟨_, rfl⟩
 rw [hW0] at hF ⊢
 clear hW0
 have hsz := hF.bl.size
 have hlt : w.heap.size + 1 + 1 + 1 + 1 + 1 < W0.heap.size := hF.e.lt
 refine wpIn_rangeFunc_ownH rfl (by omega) (gf := 59) (lb := #[]) rfl tv (enters_of Try.func59 (by kernel_rfl) rfl)
  (cand_stops 9 (by omega) w.heap.size W0) belowK_t (belowK_b hsz) (Below.refl _ _) (fun _ => rfl)
  (chI w p0 p1 p2 p3) (chX w p0 p1 p2 p3)
  (fun s A C row hs hg hr => ⟨hs.1, ChF.own (β := Unit) hsz () A C row hs.2 hg hr⟩)
  (fun c s A C row hs hg hr => by
   obtain ⟨h0, pre', x, h1, h2, h3, h4, h5, h6⟩ := hs
   exact ⟨h0, pre', x, h1, h2, h3, blk_kept1 h4 hg (fun r e => (hr r e).2), blk_kept1 h5 hg (fun r e => (hr r e).2), h6.grown hg h6.size (fun k e => Nat.le_trans hsz (hr k e).1)⟩)
  ⟨(fun _ h => by cases h), hF⟩
  (fun x a' W => ∃ Bx, w.heap.size + 1 + 1 + 1 + 1 + 1 < Bx ∧ W.heap[Bx]? = some (.cells #[.int .i64 (chL x.1), .int .i64 (chH x.1), .int .i64 (-1)] 28 (0, 0)) ∧ a' = { tmps := #[.int .i64 p0, .int .i64 p1, .int .i64 p2, .int .i64 p3, .pointer (some ⟨w.heap.size, 0, none⟩), .pointer (some ⟨w.heap.size + 1, 0, none⟩), .pointer (some ⟨w.heap.size + 1 + 1, 0, none⟩), .pointer (some ⟨w.heap.size + 1 + 1 + 1, 0, none⟩), .pointer (some ⟨w.heap.size + 1 + 1 + 1 + 1, 0, none⟩), .pointer (some ⟨w.heap.size + 1 + 1 + 1 + 1 + 1, 0, none⟩), .pointer (some ⟨Bx, 0, none⟩), undef, undef, undef, undef, .int .i64 p0, .bool false, .bool false, .int .i64 p0, .bool false, .bool false, .bool false, .int .i64 p1, .bool false, .bool false, .bool false, .int .i64 p1, .int .i64 p2, .bool false, .bool false, .bool false, .int .i64 p2, .bool false, .bool false, .bool false, .int .i64 p3, .bool false, .bool false, .bool false, .int .i64 p3, .bool false, .bool false, undef, .func (.func 59) #[] #[], .agg #[.int .i64 (chL x.1), .int .i64 (chH x.1), .int .i64 (-1)], undef, undef, undef, undef, undef, undef, undef, undef, undef, undef, undef, undef, undef, undef, undef, undef, undef, undef, undef, undef, undef, undef, undef, undef, undef, undef, undef], defers := [] })
  (fun x a' _ A C row hs hg hr => by obtain ⟨Bx, h1, h2, h3⟩ := hs; exact ⟨Bx, h1, blk_kept1 h2 hg (fun r e => (hr r e).2), h3⟩)
  ?assign ?body ?done ?stop
 case assign =>
  rintro l pre x W K hi hK
  unfold chE
  gi_wp2
  exact hK _ _ ((KeepsOthers.alloc _ _).from _) ((Below.refl _ W).alloc hi.2.bl.size _) ⟨hi.1, hi.2.below ((Below.refl _ W).alloc (Nat.le_refl _) _)⟩ ⟨W.heap.size, hi.2.e.lt, World.alloc_heap_new W _, rfl⟩
 case body =>
  rintro l pre x a' W hl _ ⟨hpre, hFW⟩ ⟨Bx, hBx, hx, rfl⟩ hlen
  obtain ⟨⟨⟨a, e1⟩, hfill⟩, ⟨b, e2⟩, hcoll⟩ : (∃ r, risk_Fill (chP x.1) p0 = some r) ∧ ∃ r, risk_Collision (chP x.1) p0 = some r := hG x.1 x.2
  have hM : chM p0 p1 p2 p3 x.1 = decide (p1 ≤ a ∧ a ≤ p2 ∧ b ≤ p3) := by
   unfold chM chF chC
   rw [hfill, hcoll]
   rfl
  have c1 := risk_Fill_con _ _ _ hfill
  have c2 := risk_Collision_con _ _ _ hcoll
  clear hfill hcoll
  generalize hL : chL x.1 = L at hx ⊢
  generalize hH : chH x.1 = H at hx ⊢
  replace c1 : Con Try.prog 17 [.agg [ci64 L, ci64 H, ci64 (-1)], vi64 p0] [] (.tup [vi64 a, vi64 e1]) [] := by rw [← hL, ← hH]; exact c1
  replace c2 : Con Try.prog 19 [.agg [ci64 L, ci64 H, ci64 (-1)], vi64 p0] [] (.tup [vi64 b, vi64 e2]) [] := by rw [← hL, ← hH]; exact c2
  have HL := show Hid _ from hL
  have HH := show Hid _ from hH
  clear hL hH
  obtain ⟨⟨x0, x1, x2⟩, _⟩ := cells3 hx
  have q0 := hFW.b0.cell
  have k1 := ch_call (n := 7) c1 W hFW Bx hx
  gi_wp2_with fail
  refine ⟨tv, (CallsIn.inRound l k1).mono ?_⟩
  clear k1 x0 x1 x2 q0
  rintro e' W1 ⟨rfl, hF1, hx1, hB1⟩
  obtain ⟨⟨x0, x1, x2⟩, _⟩ := cells3 hx1
  have q0 := hF1.b0.cell
  have k1 := ch_call (n := 7) c2 W1 hF1 Bx hx1
  gi_wp2_with fail
  refine ⟨tv, (CallsIn.inRound l k1).mono ?_⟩
  clear k1 x0 x1 x2 q0
  rintro e' W2 ⟨rfl, hF2, hx2, hB2⟩
  obtain ⟨⟨x0, x1, x2⟩, _⟩ := cells3 hx2
  obtain ⟨⟨r0, r1, r2⟩, f0, f1, f2⟩ := cells3 hF2.r
  have q1 := hF2.b1.cell
  have q2 := hF2.b2.cell
  have q3 := hF2.b3.cell
  have q5 := hF2.e.cell
  have f5 := hF2.e.frozen
  have hB12 : Below W.heap.size W W2 := hB1.trans (hB2.mono hB1.size)
  have go : ∀ h : ¬ (p1 ≤ a ∧ a ≤ p2 ∧ b ≤ p3), KeepsFrom W0.heap.size W W2 ∧ Below w.heap.size W W2 ∧ chI w p0 p1 p2 p3 (pre ++ [x]) W2 := fun h => by
   refine ⟨(Vm.Below.others hB12).from _, hB12.mono hFW.bl.size, fun k hk => ?_, hF2⟩
   rcases List.mem_append.1 hk with hk | hk
   ·exact hpre k hk
   ·rw [List.mem_singleton.1 hk, hM, decide_eq_false h]
  clear hFW hF1 hB1 hB2 hx hx1
  by_cases g1 : p1 ≤ a
  ·by_cases g2 : a ≤ p2
   ·by_cases g3 : b ≤ p3
    ·gi_wp2
     obtain ⟨s4, s5, s6, s7⟩ := ch_store (x := .int .i64 L) (y := .int .i64 H) (z := .int .i64 (-1)) (u := .int .i64 0) hF2.r hF2.e hF2.bl
     exact ⟨((Vm.Below.others hB12).from _).trans (s7.from _), rfl, pre, x, rfl, hpre, by rw [hM, decide_eq_true (show _ ∧ _ ∧ _ from ⟨g1, g2, g3⟩)], by rw [HL.out, HH.out]; exact s4, s5, s6⟩
    ·gi_wp2
     exact go (fun k => by omega)
   ·gi_wp2
    exact go (fun k => by omega)
  ·gi_wp2
   exact go (fun k => by omega)
 case done =>
  rintro D xs W hD hxs ⟨hpre, hFW⟩ hK
  obtain ⟨⟨r0, r1, r2⟩, f0, f1, f2⟩ := cells3 hFW.r
  have q5 := hFW.e.cell
  have f5 := hFW.e.frozen
  gi_wp2
  obtain ⟨s4, s5, s6, s7⟩ := ch_store (x := .int .i64 0) (y := .int .i64 0) (z := .int .i64 0) (u := .int .i64 13) hFW.r hFW.e hFW.bl
  have hK' := s7.same D _ hK rfl
  refine ⟨by simp, .inl ⟨_, _, rfl, run_takeDeferred hK', ?_⟩⟩
  obtain ⟨⟨t0, t1, t2⟩, t3, t4⟩ := ch_cells (Nat.le_trans hsz hD) hK' s4 s5 s6
  refine ⟨.tuple #[.agg #[.int .i64 0, .int .i64 0, .int .i64 0], .int .i64 13], ?_, ?_⟩
  ·simp [results, Try.f18, go_sem, t0, t1, t2, t3]
  ·refine ⟨0, 0, 0, 13, rfl, t4, .inr ⟨rfl, rfl, rfl, rfl, ?_⟩⟩
   rw [List.find?_eq_none]
   intro k hk
   rw [← hxs, List.mem_map] at hk
   obtain ⟨y, hy, rfl⟩ := hk
   rw [hpre y hy]
   exact Bool.false_ne_true
 case stop =>
  rintro D c pre W hD ⟨k, hk, hpk⟩ ⟨rfl, pre', x, rfl, h1, h2, s4, s5, s6⟩ hK
  gi_wp2
  refine ⟨by simp, .inl ⟨_, _, rfl, run_takeDeferred hK, ?_⟩⟩
  obtain ⟨⟨t0, t1, t2⟩, t3, t4⟩ := ch_cells (Nat.le_trans hsz hD) hK s4 s5 s6
  refine ⟨.tuple #[.agg #[.int .i64 (chL x.1), .int .i64 (chH x.1), .int .i64 (-1)], .int .i64 0], ?_, ?_⟩
  ·simp [results, Try.f18, go_sem, t0, t1, t2, t3]
  ·refine ⟨_, _, _, _, rfl, t4, .inl ⟨x, rfl, rfl, rfl, rfl, ?_⟩⟩
   rw [List.map_append, List.map_singleton] at hpk
   have hkl := congrArg List.length hpk
   simp only [List.length_append, List.length_map, List.length_singleton, List.length_range] at hkl
   obtain ⟨m, rfl⟩ : ∃ m, k = m + 1 := ⟨k - 1, by omega⟩
   rw [List.range_succ] at hpk
   obtain ⟨e1, e2⟩ := List.append_inj' hpk rfl
   have e3 : x.1 = m := by simpa using e2
   rw [List.find?_range_eq_some]
   refine ⟨h2, List.mem_range.2 x.2, fun j hj => ?_⟩
   have : j ∈ List.range m := List.mem_range.2 (by omega)
   rw [← e1, List.mem_map] at this
   obtain ⟨y, hy, rfl⟩ := this
   rw [h1 y hy]
   rfl
theorem ch_world (w : World) (p0 p1 p2 p3 : Int) (u : Value) : ((((((w.alloc (Obj.cells #[Value.int i64 p0] 3)).alloc (Obj.cells #[Value.int i64 p1] 3)).alloc (Obj.cells #[Value.int i64 p2] 3)).alloc (Obj.cells #[Value.int i64 p3] 3)).alloc (Obj.cells #[Value.int i64 0, Value.int i64 0, Value.int i64 0] 28)).alloc (Obj.cells #[u] 32)).heap[w.heap.size + 1 + 1 + 1 + 1]? = some (.cells #[.int .i64 0, .int .i64 0, .int .i64 0] 28 (0, 0)) ∧ Boxed ((((((w.alloc (Obj.cells #[Value.int i64 p0] 3)).alloc (Obj.cells #[Value.int i64 p1] 3)).alloc (Obj.cells #[Value.int i64 p2] 3)).alloc (Obj.cells #[Value.int i64 p3] 3)).alloc (Obj.cells #[Value.int i64 0, Value.int i64 0, Value.int i64 0] 28)).alloc (Obj.cells #[u] 32)) (w.heap.size + 1 + 1 + 1 + 1 + 1) 32 u ∧ Below w.heap.size w ((((((w.alloc (Obj.cells #[Value.int i64 p0] 3)).alloc (Obj.cells #[Value.int i64 p1] 3)).alloc (Obj.cells #[Value.int i64 p2] 3)).alloc (Obj.cells #[Value.int i64 p3] 3)).alloc (Obj.cells #[Value.int i64 0, Value.int i64 0, Value.int i64 0] 28)).alloc (Obj.cells #[u] 32)) := by
 have s1 : ∀ (W : World) (o : Obj), (W.alloc o).heap.size = W.heap.size + 1 := fun W o => by simp
 have n : ∀ (W : World) (o : Obj), (W.alloc o).heap[W.heap.size]? = some o := fun W o => World.alloc_heap_new W o
 have k : ∀ (W : World) (o o' : Obj) (b : Nat), W.heap[b]? = some o → (W.alloc o').heap[b]? = some o := fun W o o' b h => (Below.heap_alloc W o' b (Array.getElem?_eq_some_iff.1 h).1).trans h
 refine ⟨?_, ?_, ((((((Below.refl _ w).alloc (Nat.le_refl _) _).alloc (by simp) _).alloc (by simp; omega) _).alloc (by simp; omega) _).alloc (by simp; omega) _).alloc (by simp; omega) _⟩
 ·have := n ((((w.alloc (Obj.cells #[Value.int i64 p0] 3)).alloc (Obj.cells #[Value.int i64 p1] 3)).alloc (Obj.cells #[Value.int i64 p2] 3)).alloc (Obj.cells #[Value.int i64 p3] 3)) (Obj.cells #[Value.int i64 0, Value.int i64 0, Value.int i64 0] 28)
  rw [s1, s1, s1, s1] at this
  exact k _ _ _ _ this
 ·have := n (((((w.alloc (Obj.cells #[Value.int i64 p0] 3)).alloc (Obj.cells #[Value.int i64 p1] 3)).alloc (Obj.cells #[Value.int i64 p2] 3)).alloc (Obj.cells #[Value.int i64 p3] 3)).alloc (Obj.cells #[Value.int i64 0, Value.int i64 0, Value.int i64 0] 28)) (Obj.cells #[u] 32)
  rw [s1, s1, s1, s1, s1] at this
  exact this
set_option maxRecDepth 100000 in
theorem ch_out (p0 p1 p2 p3 : Int) (w : World) (hin : p0 < 0 ∨ p0 > 80 ∨ p1 < 0 ∨ p1 > p2 ∨ p2 > 1000 ∨ p3 < 0 ∨ p3 > 1000000) : CallsIn Fence.wide 10 Try.prog 18 #[.int .i64 p0, .int .i64 p1, .int .i64 p2, .int .i64 p3] w fun e w' => e = .returned (.tuple #[.agg #[.int .i64 0, .int .i64 0, .int .i64 0], .int .i64 2]) ∧ Below w.heap.size w w' := by
 refine callsIn_of_wp_marks Try.func18 rfl tv ?_ rfl
 simp only [Try.ntmps18, List.size_toArray, List.length_cons, List.length_nil, Nat.reduceAdd, Nat.reduceSub, Array.replicate_succ, Array.replicate_zero, List.push_toArray, List.append_toArray, List.nil_append, List.cons_append]
 obtain ⟨h4, h5, h6⟩ := ch_world w p0 p1 p2 p3 (.int .i64 2)
 obtain ⟨⟨t0, t1, t2⟩, _⟩ := cells3 h4
 have t3 := h5.cell
 clear h4 h5
 have H6 : Hid _ := h6
 clear h6
 by_cases h1 : p0 < 0
 ·clear hin
  gi_wp2
  refine ⟨.tuple #[.agg #[.int .i64 0, .int .i64 0, .int .i64 0], .int .i64 2], ?_, rfl, H6.out⟩
  simp [results, Try.f18, go_sem, t0, t1, t2, t3]
 by_cases h2 : 80 < p0
 ·clear hin
  gi_wp2
  refine ⟨.tuple #[.agg #[.int .i64 0, .int .i64 0, .int .i64 0], .int .i64 2], ?_, rfl, H6.out⟩
  simp [results, Try.f18, go_sem, t0, t1, t2, t3]
 by_cases h3 : p1 < 0
 ·clear hin
  gi_wp2
  refine ⟨.tuple #[.agg #[.int .i64 0, .int .i64 0, .int .i64 0], .int .i64 2], ?_, rfl, H6.out⟩
  simp [results, Try.f18, go_sem, t0, t1, t2, t3]
 by_cases h4 : p2 < p1
 ·clear hin
  gi_wp2
  refine ⟨.tuple #[.agg #[.int .i64 0, .int .i64 0, .int .i64 0], .int .i64 2], ?_, rfl, H6.out⟩
  simp [results, Try.f18, go_sem, t0, t1, t2, t3]
 by_cases h5 : 1000 < p2
 ·clear hin
  gi_wp2
  refine ⟨.tuple #[.agg #[.int .i64 0, .int .i64 0, .int .i64 0], .int .i64 2], ?_, rfl, H6.out⟩
  simp [results, Try.f18, go_sem, t0, t1, t2, t3]
 by_cases h6 : p3 < 0
 ·clear hin
  gi_wp2
  refine ⟨.tuple #[.agg #[.int .i64 0, .int .i64 0, .int .i64 0], .int .i64 2], ?_, rfl, H6.out⟩
  simp [results, Try.f18, go_sem, t0, t1, t2, t3]
 by_cases h7 : 1000000 < p3
 ·clear hin
  gi_wp2
  refine ⟨.tuple #[.agg #[.int .i64 0, .int .i64 0, .int .i64 0], .int .i64 2], ?_, rfl, H6.out⟩
  simp [results, Try.f18, go_sem, t0, t1, t2, t3]
 ·omega
open Classical in
noncomputable def risk_Choose (p0 : Int) (p1 : Int) (p2 : Int) (p3 : Int) : Option (S_api_Parameters × Int) := if p0 < 0 ∨ p0 > 80 ∨ p1 < 0 ∨ p1 > p2 ∨ p2 > 1000 ∨ p3 < 0 ∨ p3 > 1000000 then some (⟨0, 0, 0⟩, 2) else if ChG p0 then some (match (List.range 128).find? (chM p0 p1 p2 p3) with | some k => (chP k, 0) | none => (⟨0, 0, 0⟩, 13)) else none
theorem risk_Choose_con (p0 : Int) (p1 : Int) (p2 : Int) (p3 : Int) (r : S_api_Parameters × Int) (h : risk_Choose p0 p1 p2 p3 = some r) : Con Try.prog 18 [vi64 p0, vi64 p1, vi64 p2, vi64 p3] [] (.tup [.agg [ci64 r.1.Length, ci64 r.1.Hashes, ci64 r.1.Salt], vi64 r.2]) [] := by
 refine con_of_calls (n := 10) ⟨_, Try.func18, by kernel_rfl, rfl⟩ fun w ok vs hok ha => ?_
 obtain ⟨l⟩ := vs
 rcases l with _ | ⟨v0, _ | ⟨v1, _ | ⟨v2, _ | ⟨v3, _ | ⟨v4, l⟩⟩⟩⟩⟩
 ·exact ha.elim
 ·exact ha.2.elim
 ·exact ha.2.2.elim
 ·exact ha.2.2.2.elim
 ·obtain ⟨⟨rfl, _⟩, ⟨rfl, _⟩, ⟨rfl, _⟩, ⟨rfl, _⟩, _⟩ := ha
  unfold risk_Choose at h
  have mk : ∀ (L H S E : Int) (w' : World), (⟨L, H, S⟩, E) = r → ∀ ok' ρ', RV w' ok' ρ' (.tup [.agg [ci64 r.1.Length, ci64 r.1.Hashes, ci64 r.1.Salt], vi64 r.2]) (.tuple #[.agg #[.int .i64 L, .int .i64 H, .int .i64 S], .int .i64 E]) := fun L H S E w' e ok' ρ' => by
   subst e
   exact ⟨_, rfl, ⟨_, rfl, ⟨rfl, rfl⟩, ⟨rfl, rfl⟩, ⟨rfl, rfl⟩, tv⟩, ⟨rfl, rfl⟩, tv⟩
  by_cases hin : p0 < 0 ∨ p0 > 80 ∨ p1 < 0 ∨ p1 > p2 ∨ p2 > 1000 ∨ p3 < 0 ∨ p3 > 1000000
  ·rw [if_pos hin] at h
   refine CallsIn.mono (ch_out p0 p1 p2 p3 w hin) ?_
   rintro e w' ⟨rfl, hB⟩
   exact ⟨_, rfl, hB, mk _ _ _ _ _ (some_inj h)⟩
  ·rw [if_neg hin] at h
   by_cases hG : ChG p0
   rotate_left
   ·rw [if_neg hG] at h; cases h
   rw [if_pos hG] at h
   refine CallsIn.mono (ch_walk p0 p1 p2 p3 w hin hG) ?_
   rintro e w' ⟨L, H, S, E, rfl, hB, ⟨k, rfl, rfl, rfl, rfl, hk⟩ | ⟨rfl, rfl, rfl, rfl, hk⟩⟩
   ·rw [hk] at h
    exact ⟨_, rfl, hB, mk _ _ _ _ _ (some_inj h)⟩
   ·rw [hk] at h
    exact ⟨_, rfl, hB, mk _ _ _ _ _ (some_inj h)⟩
 ·exact ha.2.2.2.2.elim
end
/-! recordlink/recordlinklaw15.awake -/
noncomputable def rl_law15_awake_k1 (x10 : Bool) : Option Bool := some x10
noncomputable def rl_law15_awake : Option Bool := bind2 (risk_Empty (⟨64, 1, (-1)⟩ : S_api_Parameters) 1) fun y1 y2 => (bind2 (risk_Fill (⟨64, 1, (-1)⟩ : S_api_Parameters) 1) fun y4 y5 => (bind2 (risk_Choose 1 10 20 30000) fun y7 y8 => (if (y2 == 0) = true then (if (y5 == 0) = true then (if (y8 == 0) = true then (if (y1 == 1056964608) = true then (if (y4 == 16) = true then (rl_law15_awake_k1 ((y7.Length == 64) && ((y7.Hashes == 1) && ((y7.Salt == (-1)) && true)))) else (rl_law15_awake_k1 false)) else (rl_law15_awake_k1 false)) else (rl_law15_awake_k1 false)) else (rl_law15_awake_k1 false)) else (rl_law15_awake_k1 false))))
set_option maxRecDepth 100000 in
theorem rl_law15_awake_con (r : Bool) (h : rl_law15_awake = some r) : Con Try.prog 12 [] [] (vb r) [] := by
 refine con_of tt_ok0 0 Try.func12 (by kernel_rfl) rfl (by kernel_rfl) (fun base X _ => AW.post ?_)
 unfold rl_law15_awake at h
 refine AW.sg tt_ok0 [] [] [] 1 [] (by kernel_rfl) ?_
 refine AW.sg tt_ok0 [(1, .c (.ptr 2 3 0 0))] [2] [(2, .box 28 [ci64 64, ci64 1, ci64 (-1)])] 4 [] (by kernel_rfl) ?_
 obtain ⟨y1, y2, e3, h⟩ := bind2_some h
 refine AW.sg tt_ok0 [(3, vi64 y2), (2, vi64 y1)] [] [] 10 [hn, hk (risk_Empty_con (⟨64, 1, (-1)⟩ : S_api_Parameters) 1 (y1, y2) e3)] (by kernel_rfl) ?_
 obtain ⟨y4, y5, e6, h⟩ := bind2_some h
 refine AW.sg tt_ok0 [(5, vi64 y5), (4, vi64 y4)] [] [] 16 [hn, hk (risk_Fill_con (⟨64, 1, (-1)⟩ : S_api_Parameters) 1 (y4, y5) e6)] (by kernel_rfl) ?_
 obtain ⟨y7, y8, e9, h⟩ := bind2_some h
 refine AW.sg tt_ok0 [(7, vi64 y8), (6, .c (.ptr 19 3 0 0))] [19] [(19, .box 28 [ci64 y7.Length, ci64 y7.Hashes, ci64 y7.Salt])] 22 [hk (risk_Choose_con 1 10 20 30000 (y7, y8) e9)] (by kernel_rfl) ?_
 refine AW.seq ?_
 refine AW.join (ι := Bool) (fun v => ⟨[(0, vb v)], [], 0⟩) (fun v : Bool => rl_law15_awake_k1 v = some r) (fun x10 h => ?_) ?_
 ·
  unfold rl_law15_awake_k1 at h
  refine AW.tn (AW.ret ?_)
  obtain rfl := some_inj h
  exact fn0 (.inr rfl) [] 0 (vb x10) (by kernel_rfl)
 ·
  rcases ifs h with ⟨c11, h⟩ | ⟨c11, h⟩
  ·
   rcases ifs h with ⟨c12, h⟩ | ⟨c12, h⟩
   ·
    rcases ifs h with ⟨c13, h⟩ | ⟨c13, h⟩
    ·
     rcases ifs h with ⟨c14, h⟩ | ⟨c14, h⟩
     ·
      rcases ifs h with ⟨c15, h⟩ | ⟨c15, h⟩
      ·
       refine AW.rg tt_ok0 [(0, vb ((y7.Length == 64) && ((y7.Hashes == 1) && ((y7.Salt == (-1)) && true))))] [] [] 46 [hn, ht c11, hn, hn, ht c12, hn, hn, hn, ht c13, hn, hn, hn, ht c14, hn, hn, hn, ht c15] (by kernel_rfl) ?_
       exact jl ((y7.Length == 64) && ((y7.Hashes == 1) && ((y7.Salt == (-1)) && true))) h (conv_re [] (by kernel_rfl))
      ·
       refine AW.rg tt_ok0 [(0, vb false)] [] [] 46 [hn, ht c11, hn, hn, ht c12, hn, hn, hn, ht c13, hn, hn, hn, ht c14, hn, hn, hn, hf c15] (by kernel_rfl) ?_
       exact jl false h (conv_re [] (by kernel_rfl))
     ·
      refine AW.rg tt_ok0 [(0, vb false)] [] [] 46 [hn, ht c11, hn, hn, ht c12, hn, hn, hn, ht c13, hn, hn, hn, hf c14] (by kernel_rfl) ?_
      exact jl false h (conv_re [] (by kernel_rfl))
    ·
     refine AW.rg tt_ok0 [(0, vb false)] [] [] 46 [hn, ht c11, hn, hn, ht c12, hn, hn, hn, hf c13] (by kernel_rfl) ?_
     exact jl false h (conv_re [] (by kernel_rfl))
   ·
    refine AW.rg tt_ok0 [(0, vb false)] [] [] 46 [hn, ht c11, hn, hn, hf c12] (by kernel_rfl) ?_
    exact jl false h (conv_re [] (by kernel_rfl))
  ·
   refine AW.rg tt_ok0 [(0, vb false)] [] [] 46 [hn, hf c11] (by kernel_rfl) ?_
   exact jl false h (conv_re [] (by kernel_rfl))
def Ei64 (x : Int) : List T := [.v (.int .i64 x)]
def Ri64 (xs : List Int) : Nat → Nat → T := rowL 0 Ei64 xs
theorem Vi64 : ∀ x, allV (Ei64 x) := fun _ => ⟨tv, tv⟩
/-! recordlink/recordlinkmake.Few -/
noncomputable def rl_make_Few (p0 : List Int) : Option Bool := some (decide ((p0.length : Int) ≤ 400))
set_option maxRecDepth 100000 in
theorem rl_make_Few_con (p0 : List Int) (r : Bool) (h : rl_make_Few p0 = some r) : Con Try.prog 13 [vl 1 Ri64 p0] [] (vb r) [] := by
 refine con_of tt_ok0 0 Try.func13 (by kernel_rfl) rfl (by kernel_rfl) (fun base X _ => AW.post ?_)
 unfold rl_make_Few at h
 refine AW.sg tt_ok0 [] [] [] 1 [] (by kernel_rfl) ?_
 refine AW.sg tt_ok0 [(2, vb (decide ((p0.length : Int) ≤ 400)))] [] [] 5 [] (by kernel_rfl) ?_
 refine AW.ret ?_
 obtain rfl := some_inj h
 exact fn0 (.inr rfl) [] 0 (vb (decide ((p0.length : Int) ≤ 400))) (by kernel_rfl)
structure S_recordlinkmake_Deck where
 list : List Int
 at_ : Int
 state : Int
def dS_recordlinkmake_Deck : S_recordlinkmake_Deck := ⟨([] : List Int), 0, 0⟩
instance : Inhabited S_recordlinkmake_Deck := ⟨dS_recordlinkmake_Deck⟩
/-! recordlink/recordlinkmake.New -/
noncomputable def rl_make_New (p0 : List Int) : Option S_recordlinkmake_Deck := some (⟨p0, 0, 11400714819323198485⟩ : S_recordlinkmake_Deck)
set_option maxRecDepth 100000 in
theorem rl_make_New_con (p0 : List Int) (r : S_recordlinkmake_Deck) (h : rl_make_New p0 = some r) : Con Try.prog 14 [vl 1 Ri64 p0] [] (.c (.ptr 0 3 0 0)) [(0, .box 66 [cl 1 Ri64 r.list, ci64 r.at_, cu64 r.state])] := by
 refine con_of tt_ok0 0 Try.func14 (by kernel_rfl) rfl (by kernel_rfl) (fun base X _ => AW.post ?_)
 unfold rl_make_New at h
 refine AW.sg tt_ok0 [] [] [] 1 [] (by kernel_rfl) ?_
 refine AW.sg tt_ok0 [(2, .c (.ptr 3 3 0 0))] [3] [(3, .box 66 [cl 1 Ri64 p0, ci64 0, cu64 11400714819323198485])] 5 [] (by kernel_rfl) ?_
 refine AW.ret ?_
 obtain rfl := some_inj h
 exact fn0 (.inr rfl) [(0, 3)] 1 (.c (.ptr 3 3 0 0)) (by kernel_rfl)
/-! (*recordlink/recordlinkmake.Deck).Word -/
noncomputable def rl_make_Deck_Word_k1 (p0 : S_recordlinkmake_Deck) (x1 : Int) (x2 : Int) : Option (Int × S_recordlinkmake_Deck) := (some (u64.wrap ((u64.wrap ((u64.wrap (p0.state + x1)) * 6364136223846793005)) + 1442695040888963407))).bind fun z3 => ((some (u64.wrap ((ixor .u64 z3 (ishr .u64 z3 33)) * 18397679294719823053))).bind fun z5 => (some (ixor .u64 z5 (ishr .u64 z5 29), (⟨p0.list, x2, z3⟩ : S_recordlinkmake_Deck))))
noncomputable def rl_make_Deck_Word (p0 : S_recordlinkmake_Deck) : Option (Int × S_recordlinkmake_Deck) := if (decide (p0.at_ < ((p0.list.length : Nat) : Int))) = true then (if 0 ≤ p0.at_ then (if p0.at_ < ((p0.list.length : Nat) : Int) then (rl_make_Deck_Word_k1 p0 (u64.wrap (p0.list.getD p0.at_.toNat 0)) (i64.wrap (p0.at_ + 1))) else none) else none) else (rl_make_Deck_Word_k1 p0 0 p0.at_)
set_option maxRecDepth 100000 in
theorem rl_make_Deck_Word_con (p0 : S_recordlinkmake_Deck) (r : Int × S_recordlinkmake_Deck) (h : rl_make_Deck_Word p0 = some r) : Con Try.prog 43 [.c (.ptr 0 3 0 0)] [(0, .box 66 [cl 1 Ri64 p0.list, ci64 p0.at_, cu64 p0.state])] (vu64 r.1) [(0, .box 66 [cl 1 Ri64 r.2.list, ci64 r.2.at_, cu64 r.2.state])] := by
 refine con_of tt_ok0 1 Try.func43 (by kernel_rfl) rfl (by kernel_rfl) (fun base X _ => AW.post ?_)
 unfold rl_make_Deck_Word at h
 refine AW.sg tt_ok0 [] [] [] 2 [] (by kernel_rfl) ?_
 refine AW.sg tt_ok0 [(3, vu64 0)] [] [] 3 [] (by kernel_rfl) ?_
 refine AW.seq ?_
 refine AW.join (ι := Int × Int) (fun v => ⟨[(0, .c (.ptr 0 3 0 0)), (3, vu64 v.1)], [(0, .box 66 [cl 1 Ri64 p0.list, ci64 v.2, cu64 p0.state])], 1⟩) (fun v : Int × Int => rl_make_Deck_Word_k1 p0 v.1 v.2 = some r) (fun v h => ?_) ?_
 ·
  obtain ⟨x1, x2⟩ := v
  replace h : rl_make_Deck_Word_k1 p0 x1 x2 = some r := h
  unfold rl_make_Deck_Word_k1 at h
  refine AW.tn ?_
  obtain ⟨z3, n4, h⟩ := bnd_some h
  replace n4 := some_inj n4
  refine AW.sg tt_ok0 [] [0] [(0, .box 66 [cl 1 Ri64 p0.list, ci64 x2, cu64 z3])] 13 [] (by subst n4; kernel_rfl) ?_
  refine AW.sd tt_ok0 mo0 [] [(4, vu64 (ixor .u64 z3 (ishr .u64 z3 33)))] [] 24 [hn, hn, hn, hn, hn, hn, hn, hn, ho (p := 0 ≤ (33 : Int)) (by decide)] (by kernel_rfl) ?_
  obtain ⟨z5, n6, h⟩ := bnd_some h
  replace n6 := some_inj n6
  refine AW.sg tt_ok0 [(4, vu64 z5)] [] [] 27 [] (by subst n6; kernel_rfl) ?_
  refine AW.sg tt_ok0 [(2, vu64 (ixor .u64 z5 (ishr .u64 z5 29)))] [] [] 32 [hn, hn, ho (p := 0 ≤ (29 : Int)) (by decide)] (by kernel_rfl) ?_
  refine AW.ret ?_
  obtain rfl := some_inj h
  exact fn0 (.inr rfl) [(0, 0)] 1 (vu64 (ixor .u64 z5 (ishr .u64 z5 29))) (by kernel_rfl)
 ·
  refine AW.sd tt_ok0 mo0 [] [(14, vb (decide (p0.at_ < ((p0.list.length : Nat) : Int))))] [] 13 [] (by kernel_rfl) ?_
  refine AW.co h (by kernel_rfl) (fun c7 h => ?_) (fun c7 h => ?_)
  ·
   obtain ⟨g8, g9, h⟩ := ifd h
   refine AW.sd tt_ok0 mo0 [] [(3, vu64 (u64.wrap (p0.list.getD p0.at_.toNat 0)))] [] 25 [hn, hn, hn, hn, hn, hn, hn, hn, hq g8 g9] (by kernel_rfl) ?_
   refine AW.rg tt_ok0 [] [0] [(0, .box 66 [cl 1 Ri64 p0.list, ci64 (i64.wrap (p0.at_ + 1)), cu64 p0.state])] 33 [] (by kernel_rfl) ?_
   exact jl (u64.wrap (p0.list.getD p0.at_.toNat 0), i64.wrap (p0.at_ + 1)) h (conv_re [(0, 0)] (by kernel_rfl))
  ·
   refine AW.skip ?_
   exact jl (0, p0.at_) h (conv_re [(0, 0)] (by kernel_rfl))
/-! (*recordlink/recordlinkmake.Deck).Next -/
noncomputable def rl_make_Deck_Next (p0 : S_recordlinkmake_Deck) (p1 : Int) : Option (Int × S_recordlinkmake_Deck) := if (decide (p1 < 1)) = true then (some (0, p0)) else (bind2 (rl_make_Deck_Word p0) fun y2 y3 => (if p1 ≠ 0 then (some (((i64.wrap (ishr .u64 y2 1)).tmod p1), y3)) else none))
set_option maxRecDepth 100000 in
theorem rl_make_Deck_Next_con (p0 : S_recordlinkmake_Deck) (p1 : Int) (r : Int × S_recordlinkmake_Deck) (h : rl_make_Deck_Next p0 p1 = some r) : Con Try.prog 16 [.c (.ptr 0 3 0 0), vi64 p1] [(0, .box 66 [cl 1 Ri64 p0.list, ci64 p0.at_, cu64 p0.state])] (vi64 r.1) [(0, .box 66 [cl 1 Ri64 r.2.list, ci64 r.2.at_, cu64 r.2.state])] := by
 refine con_of tt_ok0 1 Try.func16 (by kernel_rfl) rfl (by kernel_rfl) (fun base X _ => AW.post ?_)
 unfold rl_make_Deck_Next at h
 refine AW.sg tt_ok0 [] [] [] 2 [] (by kernel_rfl) ?_
 refine AW.seq ?_
 refine AW.sg tt_ok0 [(6, vb (decide (p1 < 1)))] [] [] 4 [] (by kernel_rfl) ?_
 refine AW.co h (by kernel_rfl) (fun c1 h => ?_) (fun c1 h => ?_)
 ·
  refine AW.sg tt_ok0 [(4, vi64 0)] [] [] 5 [] (by kernel_rfl) ?_
  refine AW.ret (AW.tr ?_)
  obtain rfl := some_inj h
  exact fn0 (.inr rfl) [(0, 0)] 1 (vi64 0) (by kernel_rfl)
 ·
  refine AW.skip (AW.tn ?_)
  obtain ⟨y2, y3, e4, h⟩ := bind2_some h
  obtain ⟨g5, h⟩ := ifc h
  refine AW.sg tt_ok0 [(4, vi64 ((i64.wrap (ishr .u64 y2 1)).tmod p1))] [0] [(0, .box 66 [cl 1 Ri64 y3.list, ci64 y3.at_, cu64 y3.state])] 10 [hn, hl [0] [] 0 (rl_make_Deck_Word_con p0 (y2, y3) e4), ho (p := 0 ≤ (1 : Int)) (by decide), hn, hn, ho g5] (by kernel_rfl) ?_
  refine AW.ret ?_
  obtain rfl := some_inj h
  exact fn0 (.inr rfl) [(0, 0)] 1 (vi64 ((i64.wrap (ishr .u64 y2 1)).tmod p1)) (by kernel_rfl)
/-! (*recordlink/recordlinkmake.Deck).One -/
noncomputable def rl_make_Deck_One (p0 : S_recordlinkmake_Deck) (p1 : Int) : Option (Bool × S_recordlinkmake_Deck) := bind2 (rl_make_Deck_Next p0 p1) fun y1 y2 => (some ((y1 == 0), y2))
set_option maxRecDepth 100000 in
theorem rl_make_Deck_One_con (p0 : S_recordlinkmake_Deck) (p1 : Int) (r : Bool × S_recordlinkmake_Deck) (h : rl_make_Deck_One p0 p1 = some r) : Con Try.prog 42 [.c (.ptr 0 3 0 0), vi64 p1] [(0, .box 66 [cl 1 Ri64 p0.list, ci64 p0.at_, cu64 p0.state])] (vb r.1) [(0, .box 66 [cl 1 Ri64 r.2.list, ci64 r.2.at_, cu64 r.2.state])] := by
 refine con_of tt_ok0 1 Try.func42 (by kernel_rfl) rfl (by kernel_rfl) (fun base X _ => AW.post ?_)
 unfold rl_make_Deck_One at h
 refine AW.sg tt_ok0 [] [] [] 2 [] (by kernel_rfl) ?_
 obtain ⟨y1, y2, e3, h⟩ := bind2_some h
 refine AW.sg tt_ok0 [(4, vb (y1 == 0))] [0] [(0, .box 66 [cl 1 Ri64 y2.list, ci64 y2.at_, cu64 y2.state])] 6 [hn, hn, hl [0] [] 0 (rl_make_Deck_Next_con p0 p1 (y1, y2) e3)] (by kernel_rfl) ?_
 refine AW.ret ?_
 obtain rfl := some_inj h
 exact fn0 (.inr rfl) [(0, 0)] 1 (vb (y1 == 0)) (by kernel_rfl)
def ES_api_Parameters (x : S_api_Parameters) : List T := [.v (.int .i64 x.Length), .v (.int .i64 x.Hashes), .v (.int .i64 x.Salt)]
def RS_api_Parameters (xs : List S_api_Parameters) : Nat → Nat → T := rowL dS_api_Parameters ES_api_Parameters xs
theorem VS_api_Parameters : ∀ x, allV (ES_api_Parameters x) := fun _ => ⟨tv, tv, tv, tv⟩
/-! (*recordlink/recordlinkmake.Deck).Parameters -/
noncomputable def rl_make_Deck_Parameters_k2 (x6 : List S_api_Parameters) (x7 : Int) (y16 : Int) (y19 : Int) (x22 : List Int) (x23 : Int) (x24 : Int) (x25 : Int) : Option (((List S_api_Parameters) × Int × (List Int) × Int × Int) ⊕ ((List S_api_Parameters) × (List Int) × Int × Int)) := if x6.length + ([(⟨i64.wrap (64 * (i64.wrap (1 + y16))), i64.wrap (1 + y19), x25⟩ : S_api_Parameters)] : List S_api_Parameters).length ≤ 1099511627776 then (some (.inl ((x6 ++ ([(⟨i64.wrap (64 * (i64.wrap (1 + y16))), i64.wrap (1 + y19), x25⟩ : S_api_Parameters)] : List S_api_Parameters)), i64.wrap (x7 + 1), x22, x23, x24))) else none
noncomputable def rl_make_Deck_Parameters_k3 (p1 : Int) (x6 : List S_api_Parameters) (x7 : Int) (y16 : Int) (y19 : Int) (x27 : Bool) (x28 : List Int) (x29 : Int) (x30 : Int) : Option (((List S_api_Parameters) × Int × (List Int) × Int × Int) ⊕ ((List S_api_Parameters) × (List Int) × Int × Int)) := if x27 = true then (if p1 ≠ 0 then (rl_make_Deck_Parameters_k2 x6 x7 y16 y19 x28 x29 x30 ((i64.wrap (x7 + 1)).tmod p1)) else none) else (rl_make_Deck_Parameters_k2 x6 x7 y16 y19 x28 x29 x30 (-1))
noncomputable def rl_make_Deck_Parameters_l1 (p1 : Int) (x6 : List S_api_Parameters) (x7 : Int) (x8 : List Int) (x9 : Int) (x10 : Int) : Option (((List S_api_Parameters) × Int × (List Int) × Int × Int) ⊕ ((List S_api_Parameters) × (List Int) × Int × Int)) := if (decide (x7 < p1)) = true then (bind2 (rl_make_Deck_Next (⟨x8, x9, x10⟩ : S_recordlinkmake_Deck) 3) fun y16 y17 => (bind2 (rl_make_Deck_Next y17 6) fun y19 y20 => (if (decide (p1 > 1)) = true then (bind2 (rl_make_Deck_One y20 3) fun y34 y35 => (rl_make_Deck_Parameters_k3 p1 x6 x7 y16 y19 y34 y35.list y35.at_ y35.state)) else (rl_make_Deck_Parameters_k3 p1 x6 x7 y16 y19 false y20.list y20.at_ y20.state)))) else (some (.inr (x6, x8, x9, x10)))
noncomputable def rl_make_Deck_Parameters (p0 : S_recordlinkmake_Deck) (p1 : Int) : Option ((List S_api_Parameters) × S_recordlinkmake_Deck) := bind4 (loop (fun v : (List S_api_Parameters) × Int × (List Int) × Int × Int => rl_make_Deck_Parameters_l1 p1 v.1 v.2.1 v.2.2.1 v.2.2.2.1 v.2.2.2.2) (([] : List S_api_Parameters), 0, p0.list, p0.at_, p0.state)) fun x37 x38 x39 x40 => (some (x37, (⟨x38, x39, x40⟩ : S_recordlinkmake_Deck)))
set_option maxRecDepth 100000 in
theorem rl_make_Deck_Parameters_con (p0 : S_recordlinkmake_Deck) (p1 : Int) (r : (List S_api_Parameters) × S_recordlinkmake_Deck) (h : rl_make_Deck_Parameters p0 p1 = some r) : Con Try.prog 15 [.c (.ptr 0 3 0 0), vi64 p1] [(0, .box 66 [cl 1 Ri64 p0.list, ci64 p0.at_, cu64 p0.state])] (.c (.ref 1 3 0 r.1.length)) [(0, .box 66 [cl 1 Ri64 r.2.list, ci64 r.2.at_, cu64 r.2.state]), (1, .row 28 false 3 r.1.length (RS_api_Parameters r.1))] := by
 refine con_of tt_ok0 1 Try.func15 (by kernel_rfl) rfl (by kernel_rfl) (fun base X _ => AW.post ?_)
 unfold rl_make_Deck_Parameters at h
 refine AW.sg tt_ok0 [] [] [] 2 [] (by kernel_rfl) ?_
 refine AW.sg tt_ok0 [(5, .c (.t (.v (.slice none 0 0))))] [] [] 3 [] (by kernel_rfl) ?_
 refine AW.seq ?_
 refine AW.sg tt_ok0 [(6, vi64 0)] [] [] 4 [] (by kernel_rfl) ?_
 refine AW.block ?_
 obtain ⟨x37, x38, x39, x40, l41, h⟩ := bind4_some h
 refine AW.lp l41 (fun v => ⟨[(0, .c (.ptr 0 3 0 0)), (1, vi64 p1), (5, .c (.ref 1 3 0 v.1.length)), (6, vi64 v.2.1)], [(0, .box 66 [cl 1 Ri64 v.2.2.1, ci64 v.2.2.2.1, cu64 v.2.2.2.2]), (1, .row 28 false 3 v.1.length (RS_api_Parameters v.1))], 2⟩) (fun t : (List S_api_Parameters) × (List Int) × Int × Int => (.exit 0, ⟨[(5, .c (.ref 1 3 0 t.1.length))], [(0, .box 66 [cl 1 Ri64 t.2.1, ci64 t.2.2.1, cu64 t.2.2.2]), (1, .row 28 false 3 t.1.length (RS_api_Parameters t.1))], 2⟩)) (Conv.trans (conv_adopt (t := 5) (ty := 28) (sz := 3) (n := ([] : List S_api_Parameters).length) (f := RS_api_Parameters ([] : List S_api_Parameters)) (by kernel_rfl) rfl) (conv_re [(0, 0), (1, 4)] (by kernel_rfl))) (fun _ => tv) ?_ ?_
 ·
  clear l41 h
  intro v o h
  obtain ⟨x6, x7, x8, x9, x10⟩ := v
  replace h : rl_make_Deck_Parameters_l1 p1 x6 x7 x8 x9 x10 = some o := h
  unfold rl_make_Deck_Parameters_l1 at h
  refine AW.seq ?_
  refine AW.sg tt_ok0 [(10, vb (decide (x7 < p1)))] [] [] 5 [] (by kernel_rfl) ?_
  refine AW.co h (by kernel_rfl) (fun c15 h => ?_) (fun c15 h => ?_)
  ·
   refine AW.skip (AW.tn ?_)
   refine AW.seq (AW.block ?_)
   obtain ⟨y16, y17, e18, h⟩ := bind2_some h
   obtain ⟨y19, y20, e21, h⟩ := bind2_some h
   refine AW.sg tt_ok0 [(7, .c (.ptr 11 3 0 0))] [0, 11] [(11, .box 28 [ci64 (i64.wrap (64 * (i64.wrap (1 + y16)))), ci64 (i64.wrap (1 + y19)), ci64 (-1)]), (0, .box 66 [cl 1 Ri64 y20.list, ci64 y20.at_, cu64 y20.state])] 13 [hn, hl [0] [] 0 (rl_make_Deck_Next_con (⟨x8, x9, x10⟩ : S_recordlinkmake_Deck) 3 (y16, y17) e18), hn, hn, hn, hl [0] [] 0 (rl_make_Deck_Next_con y17 6 (y19, y20) e21)] (by kernel_rfl) ?_
   refine AW.seq ?_
   refine AW.join (ι := (List Int) × Int × Int × Int) (fun v => ⟨[(0, .c (.ptr 0 3 0 0)), (1, vi64 p1), (5, .c (.ref 1 3 0 x6.length)), (6, vi64 x7), (7, .c (.ptr 2 3 0 0))], [(0, .box 66 [cl 1 Ri64 v.1, ci64 v.2.1, cu64 v.2.2.1]), (1, .row 28 false 3 x6.length (RS_api_Parameters x6)), (2, .box 28 [ci64 (i64.wrap (64 * (i64.wrap (1 + y16)))), ci64 (i64.wrap (1 + y19)), ci64 v.2.2.2])], 3⟩) (fun v : (List Int) × Int × Int × Int => rl_make_Deck_Parameters_k2 x6 x7 y16 y19 v.1 v.2.1 v.2.2.1 v.2.2.2 = some o) (fun v h => ?_) ?_
   ·
    obtain ⟨x22, x23, x24, x25⟩ := v
    replace h : rl_make_Deck_Parameters_k2 x6 x7 y16 y19 x22 x23 x24 x25 = some o := h
    unfold rl_make_Deck_Parameters_k2 at h
    refine AW.tn ?_
    obtain ⟨g26, h⟩ := ifc h
    refine AW.rg tt_ok0 [(5, .c (.ref 6 3 0 ((x6 ++ ([(⟨i64.wrap (64 * (i64.wrap (1 + y16))), i64.wrap (1 + y19), x25⟩ : S_api_Parameters)] : List S_api_Parameters)).length)))] [1, 5, 6] [(6, .row 28 false 3 (x6 ++ ([(⟨i64.wrap (64 * (i64.wrap (1 + y16))), i64.wrap (1 + y19), x25⟩ : S_api_Parameters)] : List S_api_Parameters)).length (RS_api_Parameters (x6 ++ ([(⟨i64.wrap (64 * (i64.wrap (1 + y16))), i64.wrap (1 + y19), x25⟩ : S_api_Parameters)] : List S_api_Parameters))))] 8 [hn, hn, hlit dS_api_Parameters ES_api_Parameters 3 (fun _ => rfl) ([(⟨i64.wrap (64 * (i64.wrap (1 + y16))), i64.wrap (1 + y19), x25⟩ : S_api_Parameters)] : List S_api_Parameters), happ dS_api_Parameters ES_api_Parameters 3 24 x6 ([(⟨i64.wrap (64 * (i64.wrap (1 + y16))), i64.wrap (1 + y19), x25⟩ : S_api_Parameters)] : List S_api_Parameters) g26 (by decide)] (by kernel_rfl) ?_
    refine AW.inBlock_normal (AW.tn ?_)
    refine AW.rg tt_ok0 [(6, vi64 (i64.wrap (x7 + 1)))] [] [] 11 [] (by kernel_rfl) ?_
    exact lpn h (conv_re [(0, 0), (1, 6)] (by kernel_rfl))
   ·
    refine AW.seq ?_
    refine AW.join (ι := Bool × (List Int) × Int × Int) (fun v => ⟨[(0, .c (.ptr 0 3 0 0)), (1, vi64 p1), (5, .c (.ref 1 3 0 x6.length)), (6, vi64 x7), (7, .c (.ptr 2 3 0 0)), (26, vb v.1)], [(0, .box 66 [cl 1 Ri64 v.2.1, ci64 v.2.2.1, cu64 v.2.2.2]), (1, .row 28 false 3 x6.length (RS_api_Parameters x6)), (2, .box 28 [ci64 (i64.wrap (64 * (i64.wrap (1 + y16)))), ci64 (i64.wrap (1 + y19)), ci64 (-1)])], 3⟩) (fun v : Bool × (List Int) × Int × Int => rl_make_Deck_Parameters_k3 p1 x6 x7 y16 y19 v.1 v.2.1 v.2.2.1 v.2.2.2 = some o) (fun v h => ?_) ?_
    ·
     obtain ⟨x27, x28, x29, x30⟩ := v
     replace h : rl_make_Deck_Parameters_k3 p1 x6 x7 y16 y19 x27 x28 x29 x30 = some o := h
     unfold rl_make_Deck_Parameters_k3 at h
     refine AW.tn ?_
     refine AW.co h (by kernel_rfl) (fun c31 h => ?_) (fun c31 h => ?_)
     ·
      obtain ⟨g32, h⟩ := ifc h
      refine AW.rg tt_ok0 [] [2] [(2, .box 28 [ci64 (i64.wrap (64 * (i64.wrap (1 + y16)))), ci64 (i64.wrap (1 + y19)), ci64 ((i64.wrap (x7 + 1)).tmod p1)])] 9 [hn, hn, hn, ho g32] (by kernel_rfl) ?_
      exact jl (x28, x29, x30, ((i64.wrap (x7 + 1)).tmod p1)) h (conv_re [(0, 0), (1, 1), (2, 2)] (by kernel_rfl))
     ·
      refine AW.skip ?_
      exact jl (x28, x29, x30, (-1)) h (conv_re [(0, 0), (1, 1), (2, 2)] (by kernel_rfl))
    ·
     rcases ifs h with ⟨c33, h⟩ | ⟨c33, h⟩
     ·
      obtain ⟨y34, y35, e36, h⟩ := bind2_some h
      refine AW.rg tt_ok0 [(26, vb y34)] [0] [(0, .box 66 [cl 1 Ri64 y35.list, ci64 y35.at_, cu64 y35.state])] 18 [hn, ht c33, hn, hn, hl [0] [] 0 (rl_make_Deck_One_con y20 3 (y34, y35) e36)] (by kernel_rfl) ?_
      exact jl (y34, y35.list, y35.at_, y35.state) h (conv_re [(0, 0), (1, 1), (2, 11)] (by kernel_rfl))
     ·
      refine AW.rg tt_ok0 [(26, vb false)] [] [] 19 [hn, hf c33] (by kernel_rfl) ?_
      exact jl (false, y20.list, y20.at_, y20.state) h (conv_re [(0, 0), (1, 1), (2, 11)] (by kernel_rfl))
  ·
   refine AW.exit (AW.thenQ_exit ?_)
   exact lpo h rfl (conv_re [(0, 0), (1, 1)] (by kernel_rfl))
 ·
  show (_ : Exit → St → Prop) (.exit 0) _
  refine AW.inBlock_hit (AW.tn ?_)
  refine AW.sg tt_ok0 [(4, .c (.ref 1 3 0 x37.length))] [] [] 4 [] (by kernel_rfl) ?_
  refine AW.ret ?_
  obtain rfl := some_inj h
  exact fn0 (.inr rfl) [(0, 0), (1, 1)] 2 (.c (.ref 1 3 0 x37.length)) (by kernel_rfl)
/-! recordlink/recordlinkref09.length -/
noncomputable def rl_ref09_length_k1 (x1 : Bool) : Option Bool := some x1
noncomputable def rl_ref09_length (p0 : Int) : Option Bool := if (decide (p0 ≥ 64)) = true then (if (decide (p0 ≤ 512)) = true then (rl_ref09_length_k1 ((p0.tmod 64) == 0)) else (rl_ref09_length_k1 false)) else (rl_ref09_length_k1 false)
set_option maxRecDepth 100000 in
theorem rl_ref09_length_con (p0 : Int) (r : Bool) (h : rl_ref09_length p0 = some r) : Con Try.prog 54 [vi64 p0] [] (vb r) [] := by
 refine con_of tt_ok0 0 Try.func54 (by kernel_rfl) rfl (by kernel_rfl) (fun base X _ => AW.post ?_)
 unfold rl_ref09_length at h
 refine AW.sg tt_ok0 [] [] [] 1 [] (by kernel_rfl) ?_
 refine AW.seq ?_
 refine AW.join (ι := Bool) (fun v => ⟨[(2, vb v)], [], 0⟩) (fun v : Bool => rl_ref09_length_k1 v = some r) (fun x1 h => ?_) ?_
 ·
  unfold rl_ref09_length_k1 at h
  refine AW.tn (AW.ret ?_)
  obtain rfl := some_inj h
  exact fn0 (.inr rfl) [] 0 (vb x1) (by kernel_rfl)
 ·
  rcases ifs h with ⟨c2, h⟩ | ⟨c2, h⟩
  ·
   rcases ifs h with ⟨c3, h⟩ | ⟨c3, h⟩
   ·
    refine AW.rg tt_ok0 [(2, vb ((p0.tmod 64) == 0))] [] [] 13 [hn, ht c2, hn, hn, ht c3, hn, hn, hn, ho (p := (64 : Int) ≠ 0) (by decide)] (by kernel_rfl) ?_
    exact jl ((p0.tmod 64) == 0) h (conv_re [] (by kernel_rfl))
   ·
    refine AW.rg tt_ok0 [(2, vb false)] [] [] 13 [hn, ht c2, hn, hn, hf c3] (by kernel_rfl) ?_
    exact jl false h (conv_re [] (by kernel_rfl))
  ·
   refine AW.rg tt_ok0 [(2, vb false)] [] [] 13 [hn, hf c2] (by kernel_rfl) ?_
   exact jl false h (conv_re [] (by kernel_rfl))
/-! recordlink/recordlinkref09.New -/
noncomputable def rl_ref09_New (p0 : Int) : Option (S_api_Bits × Int) := (rl_ref09_length p0).bind fun y1 => (if (!y1) = true then (some ((⟨0, ([] : List Int)⟩ : S_api_Bits), 2)) else (if 0 ≤ (i64.wrap (p0.tdiv 64)) then (if (i64.wrap (p0.tdiv 64)) ≤ 1099511627776 then (some ((⟨p0, (List.replicate ((i64.wrap (p0.tdiv 64)).toNat) (0 : Int))⟩ : S_api_Bits), 0)) else none) else none))
set_option maxRecDepth 100000 in
theorem rl_ref09_New_con (p0 : Int) (r : S_api_Bits × Int) (h : rl_ref09_New p0 = some r) : Con Try.prog 33 [vi64 p0] [] (.tup [.agg [ci64 r.1.Length, .ref 0 1 0 r.1.Words.length], vi64 r.2]) [(0, .row 43 false 1 r.1.Words.length (Ru64 r.1.Words))] := by
 refine con_of tt_ok0 0 Try.func33 (by kernel_rfl) rfl (by kernel_rfl) (fun base X _ => AW.post ?_)
 unfold rl_ref09_New at h
 refine AW.sg tt_ok0 [(2, .c (.ptr 0 2 0 0))] [0] [(0, .box 51 [ci64 0, .t (.v (.slice none 0 0))])] 2 [] (by kernel_rfl) ?_
 refine AW.seq ?_
 obtain ⟨y1, e2, h⟩ := bnd_some h
 refine AW.sg tt_ok0 [(6, vb (!y1))] [] [] 4 [hn, hk (rl_ref09_length_con p0 y1 e2)] (by kernel_rfl) ?_
 refine AW.co h (by kernel_rfl) (fun c3 h => ?_) (fun c3 h => ?_)
 ·
  refine AW.sg tt_ok0 [(3, vi64 2)] [0] [(0, .box 51 [ci64 0, .t (.v (.slice none 0 0))])] 7 [] (by kernel_rfl) ?_
  refine AW.ret (AW.tr ?_)
  obtain rfl := some_inj h
  exact fnR (.inr rfl) [(0, 7)] 1 (.tup [.agg [ci64 0, .ref 7 1 0 (([] : List Int).length)], vi64 2]) (conv_adoptB (id := 0) (ty0 := 51) (cs := [ci64 0, .t (.v (.slice none 0 0))]) 1 (ty := 43) (sz := 1) (n := ([] : List Int).length) (f := Ru64 ([] : List Int)) (by kernel_rfl) (by kernel_rfl) rfl) (by kernel_rfl)
 ·
  refine AW.skip (AW.tn ?_)
  obtain ⟨g4, g5, h⟩ := ifd h
  refine AW.sg tt_ok0 [(3, vi64 0)] [0, 7] [(0, .box 51 [ci64 p0, .ref 7 1 0 ((List.replicate ((i64.wrap (p0.tdiv 64)).toNat) (0 : Int)).length)]), (7, .row 43 false 1 (List.replicate ((i64.wrap (p0.tdiv 64)).toNat) (0 : Int)).length (Ru64 (List.replicate ((i64.wrap (p0.tdiv 64)).toNat) (0 : Int))))] 11 [hn, hn, ho (p := (64 : Int) ≠ 0) (by decide), hmk 0 Eu64 1 8 [.int .u64 0] rfl rfl (i64.wrap (p0.tdiv 64)) (i64.wrap (p0.tdiv 64)) g4 (Int.le_refl _) g5 (by decide)] (by kernel_rfl) ?_
  refine AW.ret ?_
  obtain rfl := some_inj h
  exact fn0 (.inr rfl) [(0, 7)] 1 (.tup [.agg [ci64 p0, .ref 7 1 0 ((List.replicate ((i64.wrap (p0.tdiv 64)).toNat) (0 : Int)).length)], vi64 0]) (by kernel_rfl)
/-! recordlink/recordlinkref14.Check -/
noncomputable def rl_ref14_Check_k1 (x4 : Bool) : Option Int := if x4 = true then (some 10) else (some 0)
noncomputable def rl_ref14_Check (p0 : S_api_Parameters) : Option Int := bind2 (rl_ref09_New p0.Length) fun y1 y2 => (if (y2 != 0) = true then (rl_ref14_Check_k1 true) else (if (decide (p0.Hashes < 1)) = true then (rl_ref14_Check_k1 true) else (if (decide (p0.Hashes > 16)) = true then (rl_ref14_Check_k1 true) else (if (decide (p0.Salt < (-1))) = true then (rl_ref14_Check_k1 true) else (rl_ref14_Check_k1 (decide (p0.Salt ≥ 5)))))))
set_option maxRecDepth 100000 in
theorem rl_ref14_Check_con (p0 : S_api_Parameters) (r : Int) (h : rl_ref14_Check p0 = some r) : Con Try.prog 60 [.agg [ci64 p0.Length, ci64 p0.Hashes, ci64 p0.Salt]] [] (vi64 r) [] := by
 refine con_of tt_ok0 0 Try.func60 (by kernel_rfl) rfl (by kernel_rfl) (fun base X _ => AW.post ?_)
 unfold rl_ref14_Check at h
 refine AW.sg tt_ok0 [(1, .c (.ptr 0 3 0 0))] [0] [(0, .box 28 [ci64 p0.Length, ci64 p0.Hashes, ci64 p0.Salt])] 2 [] (by kernel_rfl) ?_
 refine AW.seq ?_
 obtain ⟨y1, y2, e3, h⟩ := bind2_some h
 refine AW.sg tt_ok0 [(4, vi64 y2)] [4, 8] [] 11 [hn, hn, hm [] [] 1 (rl_ref09_New_con p0.Length (y1, y2) e3) ⟨rowL_flat Vu64 _ _ _, tv⟩] (by kernel_rfl) ?_
 refine AW.seq ?_
 refine AW.join (ι := Bool) (fun v => ⟨[(32, vb v)], [], 0⟩) (fun v : Bool => rl_ref14_Check_k1 v = some r) (fun x4 h => ?_) ?_
 ·
  unfold rl_ref14_Check_k1 at h
  refine AW.tn ?_
  refine AW.co h (by kernel_rfl) (fun c5 h => ?_) (fun c5 h => ?_)
  ·
   refine AW.sg tt_ok0 [(2, vi64 10)] [] [] 1 [] (by kernel_rfl) ?_
   refine AW.ret (AW.tr ?_)
   obtain rfl := some_inj h
   exact fn0 (.inr rfl) [] 0 (vi64 10) (by kernel_rfl)
  ·
   refine AW.skip (AW.tn ?_)
   refine AW.sg tt_ok0 [(2, vi64 0)] [] [] 1 [] (by kernel_rfl) ?_
   refine AW.ret ?_
   obtain rfl := some_inj h
   exact fn0 (.inr rfl) [] 0 (vi64 0) (by kernel_rfl)
 ·
  rcases ifs h with ⟨c6, h⟩ | ⟨c6, h⟩
  ·
   refine AW.rg tt_ok0 [(32, vb true)] [] [] 33 [hn, ht c6] (by kernel_rfl) ?_
   exact jl true h (conv_re [] (by kernel_rfl))
  ·
   rcases ifs h with ⟨c7, h⟩ | ⟨c7, h⟩
   ·
    refine AW.rg tt_ok0 [(32, vb true)] [] [] 33 [hn, hf c6, hn, hn, hn, ht c7] (by kernel_rfl) ?_
    exact jl true h (conv_re [] (by kernel_rfl))
   ·
    rcases ifs h with ⟨c8, h⟩ | ⟨c8, h⟩
    ·
     refine AW.rg tt_ok0 [(32, vb true)] [] [] 33 [hn, hf c6, hn, hn, hn, hf c7, hn, hn, hn, hn, ht c8] (by kernel_rfl) ?_
     exact jl true h (conv_re [] (by kernel_rfl))
    ·
     rcases ifs h with ⟨c9, h⟩ | ⟨c9, h⟩
     ·
      refine AW.rg tt_ok0 [(32, vb true)] [] [] 33 [hn, hf c6, hn, hn, hn, hf c7, hn, hn, hn, hn, hf c8, hn, hn, hn, hn, ht c9] (by kernel_rfl) ?_
      exact jl true h (conv_re [] (by kernel_rfl))
     ·
      refine AW.rg tt_ok0 [(32, vb (decide (p0.Salt ≥ 5)))] [] [] 33 [hn, hf c6, hn, hn, hn, hf c7, hn, hn, hn, hn, hf c8, hn, hn, hn, hn, hf c9] (by kernel_rfl) ?_
      exact jl (decide (p0.Salt ≥ 5)) h (conv_re [] (by kernel_rfl))
/-! recordlink/recordlinkref15.check -/
noncomputable def rl_ref15_check_k1 (x4 : Bool) : Option Int := if x4 = true then (some 2) else (some 0)
noncomputable def rl_ref15_check (p0 : S_api_Parameters) (p1 : Int) : Option Int := (rl_ref14_Check p0).bind fun y1 => (if (y1 != 0) = true then (some y1) else (if (decide (p1 < 0)) = true then (rl_ref15_check_k1 true) else (rl_ref15_check_k1 (decide (p1 > 80)))))
set_option maxRecDepth 100000 in
theorem rl_ref15_check_con (p0 : S_api_Parameters) (p1 : Int) (r : Int) (h : rl_ref15_check p0 p1 = some r) : Con Try.prog 48 [.agg [ci64 p0.Length, ci64 p0.Hashes, ci64 p0.Salt], vi64 p1] [] (vi64 r) [] := by
 refine con_of tt_ok0 0 Try.func48 (by kernel_rfl) rfl (by kernel_rfl) (fun base X _ => AW.post ?_)
 unfold rl_ref15_check at h
 refine AW.sg tt_ok0 [(2, .c (.ptr 0 3 0 0))] [0] [(0, .box 28 [ci64 p0.Length, ci64 p0.Hashes, ci64 p0.Salt])] 2 [] (by kernel_rfl) ?_
 refine AW.seq ?_
 obtain ⟨y1, e2, h⟩ := bnd_some h
 refine AW.sg tt_ok0 [(5, vi64 y1)] [] [] 4 [hn, hk (rl_ref14_Check_con p0 y1 e2)] (by kernel_rfl) ?_
 refine AW.sg tt_ok0 [(9, vb (y1 != 0))] [] [] 6 [] (by kernel_rfl) ?_
 refine AW.co h (by kernel_rfl) (fun c3 h => ?_) (fun c3 h => ?_)
 ·
  refine AW.sg tt_ok0 [(4, vi64 y1)] [] [] 8 [] (by kernel_rfl) ?_
  refine AW.ret (AW.tr ?_)
  obtain rfl := some_inj h
  exact fn0 (.inr rfl) [] 0 (vi64 y1) (by kernel_rfl)
 ·
  refine AW.skip (AW.tn ?_)
  refine AW.seq (AW.seq ?_)
  refine AW.join (ι := Bool) (fun v => ⟨[(16, vb v)], [], 0⟩) (fun v : Bool => rl_ref15_check_k1 v = some r) (fun x4 h => ?_) ?_
  ·
   unfold rl_ref15_check_k1 at h
   refine AW.tn ?_
   refine AW.co h (by kernel_rfl) (fun c5 h => ?_) (fun c5 h => ?_)
   ·
    refine AW.sg tt_ok0 [(4, vi64 2)] [] [] 1 [] (by kernel_rfl) ?_
    refine AW.ret (AW.tr ?_)
    obtain rfl := some_inj h
    exact fn0 (.inr rfl) [] 0 (vi64 2) (by kernel_rfl)
   ·
    refine AW.skip (AW.tn ?_)
    refine AW.sg tt_ok0 [(4, vi64 0)] [] [] 1 [] (by kernel_rfl) ?_
    refine AW.ret ?_
    obtain rfl := some_inj h
    exact fn0 (.inr rfl) [] 0 (vi64 0) (by kernel_rfl)
  ·
   rcases ifs h with ⟨c6, h⟩ | ⟨c6, h⟩
   ·
    refine AW.rg tt_ok0 [(16, vb true)] [] [] 12 [hn, ht c6] (by kernel_rfl) ?_
    exact jl true h (conv_re [] (by kernel_rfl))
   ·
    refine AW.rg tt_ok0 [(16, vb (decide (p1 > 80)))] [] [] 12 [hn, hf c6] (by kernel_rfl) ?_
    exact jl (decide (p1 > 80)) h (conv_re [] (by kernel_rfl))
/-! recordlink/recordlinkref05.Rounded -/
noncomputable def rl_ref05_Rounded (p0 : Int) (p1 : Int) : Option Int := if (i64.wrap (2 * p1)) ≠ 0 then ((some (i64.wrap ((i64.wrap ((i64.wrap (2 * p0)) + p1)).tdiv (i64.wrap (2 * p1))))).bind fun z2 => (some z2)) else none
set_option maxRecDepth 100000 in
theorem rl_ref05_Rounded_con (p0 : Int) (p1 : Int) (r : Int) (h : rl_ref05_Rounded p0 p1 = some r) : Con Try.prog 49 [vi64 p0, vi64 p1] [] (vi64 r) [] := by
 refine con_of tt_ok0 0 Try.func49 (by kernel_rfl) rfl (by kernel_rfl) (fun base X _ => AW.post ?_)
 unfold rl_ref05_Rounded at h
 refine AW.sg tt_ok0 [] [] [] 1 [] (by kernel_rfl) ?_
 obtain ⟨g1, h⟩ := ifc h
 obtain ⟨z2, n3, h⟩ := bnd_some h
 replace n3 := some_inj n3
 refine AW.sg tt_ok0 [(4, vi64 z2)] [] [] 9 [hn, hn, hn, hn, hn, hn, ho g1] (by subst n3; kernel_rfl) ?_
 refine AW.ret ?_
 obtain rfl := some_inj h
 exact fn0 (.inr rfl) [] 0 (vi64 z2) (by kernel_rfl)
/-! recordlink/recordlinkref15.Empty -/
noncomputable def rl_ref15_Empty_l1 (p0 : S_api_Parameters) (p1 : Int) (x6 : Int) (x7 : Int) : Option ((Int × Int) ⊕ Int) := if (decide (x7 < (i64.wrap (p1 * p0.Hashes)))) = true then ((rl_ref05_Rounded (i64.wrap (x6 * (i64.wrap (p0.Length - 1)))) p0.Length).bind fun y10 => (some (.inl (y10, i64.wrap (x7 + 1))))) else (some (.inr x6))
noncomputable def rl_ref15_Empty (p0 : S_api_Parameters) (p1 : Int) : Option (Int × Int) := (rl_ref15_check p0 p1).bind fun y1 => (if (y1 != 0) = true then (some (0, y1)) else ((loop (fun v : Int × Int => rl_ref15_Empty_l1 p0 p1 v.1 v.2) (1073741824, 0)).bind fun x12 => (some (x12, 0))))
set_option maxRecDepth 100000 in
theorem rl_ref15_Empty_con (p0 : S_api_Parameters) (p1 : Int) (r : Int × Int) (h : rl_ref15_Empty p0 p1 = some r) : Con Try.prog 21 [.agg [ci64 p0.Length, ci64 p0.Hashes, ci64 p0.Salt], vi64 p1] [] (.tup [vi64 r.1, vi64 r.2]) [] := by
 refine con_of tt_ok0 0 Try.func21 (by kernel_rfl) rfl (by kernel_rfl) (fun base X _ => AW.post ?_)
 unfold rl_ref15_Empty at h
 refine AW.sg tt_ok0 [(2, .c (.ptr 0 3 0 0))] [0] [(0, .box 28 [ci64 p0.Length, ci64 p0.Hashes, ci64 p0.Salt])] 3 [] (by kernel_rfl) ?_
 refine AW.seq ?_
 obtain ⟨y1, e2, h⟩ := bnd_some h
 refine AW.sg tt_ok0 [(6, vi64 y1)] [] [] 6 [hn, hn, hk (rl_ref15_check_con p0 p1 y1 e2)] (by kernel_rfl) ?_
 refine AW.sg tt_ok0 [(13, vb (y1 != 0))] [] [] 8 [] (by kernel_rfl) ?_
 refine AW.co h (by kernel_rfl) (fun c3 h => ?_) (fun c3 h => ?_)
 ·
  refine AW.sg tt_ok0 [(5, vi64 y1), (4, vi64 0)] [] [] 11 [] (by kernel_rfl) ?_
  refine AW.ret (AW.tr ?_)
  obtain rfl := some_inj h
  exact fn0 (.inr rfl) [] 0 (.tup [vi64 0, vi64 y1]) (by kernel_rfl)
 ·
  refine AW.skip (AW.tn ?_)
  refine AW.sg tt_ok0 [(7, vi64 1073741824)] [] [] 9 [] (by kernel_rfl) ?_
  refine AW.seq ?_
  refine AW.sg tt_ok0 [(8, vi64 0)] [] [] 10 [] (by kernel_rfl) ?_
  refine AW.block ?_
  obtain ⟨x12, l13, h⟩ := bnd_some h
  refine AW.lp l13 (fun v => ⟨[(1, vi64 p1), (2, .c (.ptr 0 3 0 0)), (7, vi64 v.1), (8, vi64 v.2)], [(0, .box 28 [ci64 p0.Length, ci64 p0.Hashes, ci64 p0.Salt])], 1⟩) (fun t : Int => (.exit 0, ⟨[(7, vi64 t)], [], 0⟩)) (conv_re [(0, 0)] (by kernel_rfl)) (fun _ => tv) ?_ ?_
  ·
   clear l13 h
   intro v o h
   obtain ⟨x6, x7⟩ := v
   replace h : rl_ref15_Empty_l1 p0 p1 x6 x7 = some o := h
   unfold rl_ref15_Empty_l1 at h
   refine AW.seq ?_
   refine AW.sg tt_ok0 [(20, vb (decide (x7 < (i64.wrap (p1 * p0.Hashes)))))] [] [] 7 [] (by kernel_rfl) ?_
   refine AW.co h (by kernel_rfl) (fun c9 h => ?_) (fun c9 h => ?_)
   ·
    refine AW.skip (AW.tn ?_)
    refine AW.seq (AW.block ?_)
    obtain ⟨y10, e11, h⟩ := bnd_some h
    refine AW.rg tt_ok0 [(7, vi64 y10)] [] [] 15 [hn, hn, hn, hn, hn, hn, hn, hk (rl_ref05_Rounded_con (i64.wrap (x6 * (i64.wrap (p0.Length - 1)))) p0.Length y10 e11)] (by kernel_rfl) ?_
    refine AW.inBlock_normal (AW.tn ?_)
    refine AW.rg tt_ok0 [(8, vi64 (i64.wrap (x7 + 1)))] [] [] 18 [] (by kernel_rfl) ?_
    exact lpn h (conv_re [(0, 0)] (by kernel_rfl))
   ·
    refine AW.exit (AW.thenQ_exit ?_)
    exact lpo h rfl (conv_re [] (by kernel_rfl))
  ·
   show (_ : Exit → St → Prop) (.exit 0) _
   refine AW.inBlock_hit (AW.tn ?_)
   refine AW.sg tt_ok0 [(5, vi64 0), (4, vi64 x12)] [] [] 3 [] (by kernel_rfl) ?_
   refine AW.ret ?_
   obtain rfl := some_inj h
   exact fn0 (.inr rfl) [] 0 (.tup [vi64 x12, vi64 0]) (by kernel_rfl)
/-! recordlink/recordlinkref15.Fill -/
noncomputable def rl_ref15_Fill (p0 : S_api_Parameters) (p1 : Int) : Option (Int × Int) := bind2 (rl_ref15_Empty p0 p1) fun y1 y2 => (if (y2 != 0) = true then (some (0, y2)) else ((rl_ref05_Rounded (i64.wrap (1000 * (i64.wrap (1073741824 - y1)))) 1073741824).bind fun y5 => (some (y5, 0))))
set_option maxRecDepth 100000 in
theorem rl_ref15_Fill_con (p0 : S_api_Parameters) (p1 : Int) (r : Int × Int) (h : rl_ref15_Fill p0 p1 = some r) : Con Try.prog 22 [.agg [ci64 p0.Length, ci64 p0.Hashes, ci64 p0.Salt], vi64 p1] [] (.tup [vi64 r.1, vi64 r.2]) [] := by
 refine con_of tt_ok0 0 Try.func22 (by kernel_rfl) rfl (by kernel_rfl) (fun base X _ => AW.post ?_)
 unfold rl_ref15_Fill at h
 refine AW.sg tt_ok0 [(2, .c (.ptr 0 3 0 0))] [0] [(0, .box 28 [ci64 p0.Length, ci64 p0.Hashes, ci64 p0.Salt])] 3 [] (by kernel_rfl) ?_
 obtain ⟨y1, y2, e3, h⟩ := bind2_some h
 refine AW.sg tt_ok0 [(7, vi64 y2), (6, vi64 y1)] [] [] 10 [hn, hn, hk (rl_ref15_Empty_con p0 p1 (y1, y2) e3)] (by kernel_rfl) ?_
 refine AW.seq ?_
 refine AW.sg tt_ok0 [(15, vb (y2 != 0))] [] [] 12 [] (by kernel_rfl) ?_
 refine AW.co h (by kernel_rfl) (fun c4 h => ?_) (fun c4 h => ?_)
 ·
  refine AW.sg tt_ok0 [(5, vi64 y2), (4, vi64 0)] [] [] 15 [] (by kernel_rfl) ?_
  refine AW.ret (AW.tr ?_)
  obtain rfl := some_inj h
  exact fn0 (.inr rfl) [] 0 (.tup [vi64 0, vi64 y2]) (by kernel_rfl)
 ·
  refine AW.skip (AW.tn ?_)
  obtain ⟨y5, e6, h⟩ := bnd_some h
  refine AW.sg tt_ok0 [(5, vi64 0), (4, vi64 y5)] [] [] 17 [hn, hn, hn, hk (rl_ref05_Rounded_con (i64.wrap (1000 * (i64.wrap (1073741824 - y1)))) 1073741824 y5 e6)] (by kernel_rfl) ?_
  refine AW.ret ?_
  obtain rfl := some_inj h
  exact fn0 (.inr rfl) [] 0 (.tup [vi64 y5, vi64 0]) (by kernel_rfl)
/-! recordlink/recordlinkref15.Collision -/
noncomputable def rl_ref15_Collision_l1 (p0 : S_api_Parameters) (y1 : Int) (x7 : Int) (x8 : Int) : Option ((Int × Int) ⊕ Int) := if (decide (x8 < p0.Hashes)) = true then ((rl_ref05_Rounded (i64.wrap (x7 * (i64.wrap (1073741824 - y1)))) 1073741824).bind fun y11 => (some (.inl (y11, i64.wrap (x8 + 1))))) else (some (.inr x7))
noncomputable def rl_ref15_Collision (p0 : S_api_Parameters) (p1 : Int) : Option (Int × Int) := bind2 (rl_ref15_Empty p0 p1) fun y1 y2 => (if (y2 != 0) = true then (some (0, y2)) else ((loop (fun v : Int × Int => rl_ref15_Collision_l1 p0 y1 v.1 v.2) (1073741824, 0)).bind fun x13 => ((rl_ref05_Rounded (i64.wrap (1000000 * x13)) 1073741824).bind fun y14 => (some (y14, 0)))))
set_option maxRecDepth 100000 in
theorem rl_ref15_Collision_con (p0 : S_api_Parameters) (p1 : Int) (r : Int × Int) (h : rl_ref15_Collision p0 p1 = some r) : Con Try.prog 23 [.agg [ci64 p0.Length, ci64 p0.Hashes, ci64 p0.Salt], vi64 p1] [] (.tup [vi64 r.1, vi64 r.2]) [] := by
 refine con_of tt_ok0 0 Try.func23 (by kernel_rfl) rfl (by kernel_rfl) (fun base X _ => AW.post ?_)
 unfold rl_ref15_Collision at h
 refine AW.sg tt_ok0 [(2, .c (.ptr 0 3 0 0))] [0] [(0, .box 28 [ci64 p0.Length, ci64 p0.Hashes, ci64 p0.Salt])] 3 [] (by kernel_rfl) ?_
 obtain ⟨y1, y2, e3, h⟩ := bind2_some h
 refine AW.sg tt_ok0 [(7, vi64 y2), (6, vi64 y1)] [] [] 10 [hn, hn, hk (rl_ref15_Empty_con p0 p1 (y1, y2) e3)] (by kernel_rfl) ?_
 refine AW.seq ?_
 refine AW.sg tt_ok0 [(17, vb (y2 != 0))] [] [] 12 [] (by kernel_rfl) ?_
 refine AW.co h (by kernel_rfl) (fun c4 h => ?_) (fun c4 h => ?_)
 ·
  refine AW.sg tt_ok0 [(5, vi64 y2), (4, vi64 0)] [] [] 15 [] (by kernel_rfl) ?_
  refine AW.ret (AW.tr ?_)
  obtain rfl := some_inj h
  exact fn0 (.inr rfl) [] 0 (.tup [vi64 0, vi64 y2]) (by kernel_rfl)
 ·
  refine AW.skip (AW.tn ?_)
  refine AW.sg tt_ok0 [(8, vi64 1073741824)] [] [] 13 [] (by kernel_rfl) ?_
  refine AW.seq ?_
  refine AW.sg tt_ok0 [(9, vi64 0)] [] [] 14 [] (by kernel_rfl) ?_
  refine AW.block ?_
  obtain ⟨x13, l16, h⟩ := bnd_some h
  refine AW.lp l16 (fun v => ⟨[(2, .c (.ptr 0 3 0 0)), (6, vi64 y1), (8, vi64 v.1), (9, vi64 v.2)], [(0, .box 28 [ci64 p0.Length, ci64 p0.Hashes, ci64 p0.Salt])], 1⟩) (fun t : Int => (.exit 0, ⟨[(8, vi64 t)], [], 0⟩)) (conv_re [(0, 0)] (by kernel_rfl)) (fun _ => tv) ?_ ?_
  ·
   clear l16 h
   intro v o h
   obtain ⟨x7, x8⟩ := v
   replace h : rl_ref15_Collision_l1 p0 y1 x7 x8 = some o := h
   unfold rl_ref15_Collision_l1 at h
   refine AW.seq ?_
   refine AW.sg tt_ok0 [(22, vb (decide (x8 < p0.Hashes)))] [] [] 5 [] (by kernel_rfl) ?_
   refine AW.co h (by kernel_rfl) (fun c10 h => ?_) (fun c10 h => ?_)
   ·
    refine AW.skip (AW.tn ?_)
    refine AW.seq (AW.block ?_)
    obtain ⟨y11, e12, h⟩ := bnd_some h
    refine AW.rg tt_ok0 [(8, vi64 y11)] [] [] 10 [hn, hn, hn, hn, hk (rl_ref05_Rounded_con (i64.wrap (x7 * (i64.wrap (1073741824 - y1)))) 1073741824 y11 e12)] (by kernel_rfl) ?_
    refine AW.inBlock_normal (AW.tn ?_)
    refine AW.rg tt_ok0 [(9, vi64 (i64.wrap (x8 + 1)))] [] [] 13 [] (by kernel_rfl) ?_
    exact lpn h (conv_re [(0, 0)] (by kernel_rfl))
   ·
    refine AW.exit (AW.thenQ_exit ?_)
    exact lpo h rfl (conv_re [] (by kernel_rfl))
  ·
   show (_ : Exit → St → Prop) (.exit 0) _
   refine AW.inBlock_hit (AW.tn ?_)
   obtain ⟨y14, e15, h⟩ := bnd_some h
   refine AW.sg tt_ok0 [(5, vi64 0), (4, vi64 y14)] [] [] 4 [hn, hn, hk (rl_ref05_Rounded_con (i64.wrap (1000000 * x13)) 1073741824 y14 e15)] (by kernel_rfl) ?_
   refine AW.ret ?_
   obtain rfl := some_inj h
   exact fn0 (.inr rfl) [] 0 (.tup [vi64 y14, vi64 0]) (by kernel_rfl)
def Eli64 (x : List Int) : List T := [.tree x.length 1 (Ri64 x)]
def Rli64 (xs : List (List Int)) : Nat → Nat → T := rowL ([] : List Int) Eli64 xs
/-! recordlink/risk.Unique (by hand) -/
section
open Go.RowKit Go.Shelf
/-- what the map says of a list of numbers -/
def UnD (D : DataW Unit) (l : List Int) : Prop := ∀ x : Int, D.atKey (.int .i64 x) (.lit (.int .i64 0)) = .lit (.int .i64 ((l.count x : Nat) : Int)) ∧ Maps.has D (.int .i64 x) = decide (x ∈ l)
theorem UnD.nil : UnD (DataW.map []) [] := fun x => ⟨rfl, rfl⟩
theorem UnD.put {D : DataW Unit} {l : List Int} (h : UnD D l) (hm : Maps.IsMap D) (y : Int) : UnD (D.put (.int .i64 y) (.lit (.int .i64 (((l ++ [y]).count y : Nat) : Int)))) (l ++ [y]) := fun x => by
 by_cases e : x = y
 ·subst e
  have hk : WideAt.IsKeyLit (.int .i64 x) := True.intro
  refine ⟨Maps.atKey_put_same hm hk _ _, ?_⟩
  rw [Maps.has_put_same hm hk, decide_eq_true (by simp)]
 ·have hne : (Lit.int .i64 x) ≠ .int .i64 y := fun h => e (by cases h; rfl)
  refine ⟨?_, ?_⟩
  ·rw [Maps.atKey_put_other hne, (h x).1, List.count_append, List.count_singleton, if_neg (by simpa using fun h => e h.symm), Nat.add_zero]
  ·rw [Maps.has_put_other hne, (h x).2]
   exact decide_eq_decide.2 (by simp [e])
def UnR (l : List Int) : Prop := ∀ x ∈ l, 0 ≤ x ∧ x ≤ 1048576
instance (l : List Int) : Decidable (UnR l) := by unfold UnR; infer_instance
/-- the numbers that have been seen and occur once -/
def UnL (left : Lit → Bool) (l : List Int) : List Int := l.filter fun x => decide (l.count x = 1) && !left (.int .i64 x)
theorem fil_sum (q : Int → Bool) (x : Int) (hq : q x = false) : ∀ p : List Int, (p.filter fun z => q z || z == x).sum = (p.filter q).sum + (p.count x : Int) * x
 | [] => by simp
 | z :: p => by
  have ih := fil_sum q x hq p
  rw [List.filter_cons, List.filter_cons, List.count_cons]
  by_cases e : z = x
  ·subst e
   rw [if_pos (by simp), if_neg (by simp [hq]), List.sum_cons, ih, if_pos (by simp)]
   simp only [Int.natCast_add, Int.add_mul]
   omega
  ·rw [show (z == x) = false by simpa using e, if_neg (show ¬ false = true by decide), Nat.add_zero]
   by_cases h : q z = true
   ·rw [if_pos (by simp [h]), if_pos h, List.sum_cons, List.sum_cons, ih]
    omega
   ·rw [if_neg (by simp [h]), if_neg h, ih]
theorem UnR.sum {l : List Int} (h : UnR l) : 0 ≤ l.sum ∧ l.sum ≤ 1048576 * (l.length : Int) := by
 induction l with
 | nil => simp
 | cons x l ih =>
  have h1 := h x List.mem_cons_self
  have h2 := ih fun y hy => h y (List.mem_cons_of_mem _ hy)
  simp only [List.sum_cons, List.length_cons]
  omega
theorem UnL.sum {left : Lit → Bool} {l : List Int} (h : UnR l) : 0 ≤ (UnL left l).sum ∧ (UnL left l).sum ≤ 1048576 * (l.length : Int) := by
 have h1 : UnR (UnL left l) := fun x hx => h x (List.mem_filter.1 hx).1
 have h2 := h1.sum
 have h3 : (UnL left l).length ≤ l.length := List.length_filter_le _ _
 omega
theorem UnL.step {left : Lit → Bool} {l : List Int} {x : Int} (hx : left (.int .i64 x) = true) : (UnL (fun z => left z && !z.sameKey (.int .i64 x)) l).sum = (UnL left l).sum + if l.count x = 1 then x else 0 := by
 have hs : ∀ z : Int, (Lit.int .i64 z).sameKey (.int .i64 x) = (z == x) := fun z => by simp only [Lit.sameKey]; by_cases e : z = x <;> simp [e]
 by_cases h1 : l.count x = 1
 ·have e : UnL (fun z => left z && !z.sameKey (.int .i64 x)) l = l.filter fun z => (decide (l.count z = 1) && !left (.int .i64 z)) || z == x := by
   unfold UnL
   refine List.filter_congr fun z _ => ?_
   simp only [hs]
   by_cases e : z = x
   ·subst e; simp [h1]
   ·rw [show (z == x) = false by simpa using e]; simp
  rw [e, fil_sum _ x (by simp [hx]), h1, if_pos rfl]
  unfold UnL
  simp
 ·have e : UnL (fun z => left z && !z.sameKey (.int .i64 x)) l = UnL left l := by
   unfold UnL
   refine List.filter_congr fun z _ => ?_
   simp only [hs]
   by_cases e : z = x
   ·subst e; simp [h1]
   ·rw [show (z == x) = false by simpa using e]; simp
  rw [e, if_neg h1, Int.add_zero]
def UnS (l : List Int) : Int := (l.filter fun x => decide (l.count x = 1)).sum
def unRes (l : List Int) : Array Value := if UnR l then #[.int .i64 (UnS l), .int .i64 l.sum, .int .i64 0] else #[.int .i64 0, .int .i64 0, .int .i64 2]
set_option maxRecDepth 100000 in
theorem un_walk (p0 : List Int) (hp : p0.length ≤ 64) (w : World) (q : Option Addr) (c : Nat) (hq : ∀ i, i < p0.length → ∃ b o, q = some ⟨b, o, none⟩ ∧ b < w.heap.size ∧ w.cell? ⟨b, o + i, none⟩ = some (.int .i64 (p0.getD i 0))) :
  Calls Try.prog 24 #[.slice q p0.length c] w fun e w' => e = .returned (.tuple (unRes p0)) ∧ Below w.heap.size w w' := by
 refine calls_of_wp Try.func24 rfl ?_
 simp only [Try.ntmps24, List.size_toArray, List.length_cons, List.length_nil, Nat.reduceAdd, Nat.reduceSub, Array.replicate_succ, Array.replicate_zero, List.push_toArray, List.append_toArray, List.nil_append, List.cons_append]
 have hmm := @run_makeMap Try.prog
 have hlen : ¬ (64 : Int) < (p0.length : Int) := by omega
 go_wp2
 go_loopw [6, 18] (fun s v wr => ∃ (k : Nat) (D : DataW Unit), v = .int .i64 (k : Int) ∧ k ≤ p0.length ∧ s = .int .i64 ((p0.take k).sum) ∧ Hid (UnR (p0.take k)) ∧ wr.ownsMap Try.prog 3 (plainElem Try.prog 3) w.heap.size k D ∧ Hid (UnD D (p0.take k)) ∧ Below w.heap.size w wr)
  (fun s v wr => p0.length - (intOf v).toNat)
 case atStart => exact ⟨0, DataW.map [], rfl, by omega, rfl, (fun x hx => by cases hx), World.ownsMap_made _ _ _ _, UnD.nil, (Below.refl _ w).alloc (Nat.le_refl _) _⟩
 case round =>
  obtain ⟨k, D, rfl, hk, rfl, hR, hown, hD, hB⟩ := hrel
  by_cases hlt : (k : Int) < (p0.length : Int)
  ·obtain ⟨b, o, rfl, hb, hcell⟩ := hq k (by omega)
   have hcell2 : wr.cell? ⟨b, o + k, none⟩ = some (.int .i64 (p0.getD k 0)) := (hB.cell (p := ⟨b, o + k, none⟩) hb).trans hcell
   obtain ⟨x, hx⟩ : ∃ x, p0.getD k 0 = x := ⟨_, rfl⟩
   rw [hx] at hcell2
   have HX : Hid (p0.getD k 0 = x) := hx
   clear hx hcell hq
   have hmem : x ∈ p0 := by
    rw [← HX.out, List.getD_eq_getElem?_getD, List.getElem?_eq_getElem (show k < p0.length by omega)]
    exact List.getElem_mem _
   by_cases g1 : x < 0
   ·go_wp2
    go_ret3
    have : unRes p0 = #[.int .i64 0, .int .i64 0, .int .i64 2] := by
     unfold unRes
     rw [if_neg (fun h => by have := h x hmem; omega)]
    exact ⟨by rw [this]; rfl, hB⟩
   ·by_cases g2 : 1048576 < x
    ·go_wp2
     go_ret3
     have : unRes p0 = #[.int .i64 0, .int .i64 0, .int .i64 2] := by
      unfold unRes
      rw [if_neg (fun h => by have := h x hmem; omega)]
     exact ⟨by rw [this]; rfl, hB⟩
    ·have hwf : (Lit.int .i64 x).wf = true := by rw [← show wrap64 x = x by unfold wrap64; omega]; exact wrap64_wf x
     have hkey := Maps.keyOf_int_mk Try.underlying3 hwf
     clear hwf
     have hkm : k < maxLen := by unfold maxLen; omega
     clear hmem
     go_wp2_with (first
      | (at_lookup; refine wpList_lookup_own_int _ rfl _ _ 75 rfl 3 3 .i64 (Maps.int_keyed Try.underlying3) Try.underlying75 Try.underlying3 (Try.zeroValue3 _) w.heap.size k _ rfl hown _ _ rfl hkey ?_; intro c' hat hwc)
      | (at_mapUpdate; refine wpList_mapUpdate_own _ rfl _ _ _ 75 rfl 3 3 (Maps.int_keyed Try.underlying3) Try.underlying75 _ w.heap.size k _ rfl hown hkm _ _ _ rfl rfl hkey _ [] (plainElem_int Try.underlying3 (wrap64_wf _)) ?_; intro w1 hown1 hgrow1))
     go_roundw
     case rel =>
      have hD' := hD.out
      have e1 := (hD' x).1
      rw [hat] at e1
      have e1 : c' = (((p0.take k).count x : Nat) : Int) := by injection e1 with e1; injection e1
      have hcl : (p0.take k).count x ≤ 64 := Nat.le_trans List.count_le_length (by rw [List.length_take]; omega)
      have ht : p0.take (k + 1) = p0.take k ++ [x] := by
       rw [List.take_add_one, ← HX.out, List.getD_eq_getElem?_getD, List.getElem?_eq_getElem (show k < p0.length by omega)]
       rfl
      have hs := UnR.sum hR.out
      have hlt' : (p0.take k).length ≤ 64 := by rw [List.length_take]; omega
      have hR' : UnR (p0.take (k + 1)) := by
       rw [ht]
       intro z hz
       rcases List.mem_append.1 hz with h | h
       ·exact hR.out z h
       ·rw [List.mem_singleton.1 h]; exact ⟨by omega, by omega⟩
      refine ⟨k + 1, D.put (.int .i64 x) (.lit (.int .i64 ((((p0.take k) ++ [x]).count x : Nat) : Int))), ?_, by omega, ?_, hR', ?_, ?_, hB.grown hgrow1 hB.size (fun j e => by cases e; exact Nat.le_refl _)⟩
      ·rfl
      ·show Value.int _ _ = _
       rw [ht, List.sum_append]
       congr 1
       simp only [List.sum_cons, List.sum_nil]
       unfold wrap64; omega
      ·have : wrap64 (c' + 1) = ((((p0.take k) ++ [x]).count x : Nat) : Int) := by
        rw [List.count_append, List.count_singleton_self]
        unfold wrap64; omega
       rw [← this]
       exact hown1
      ·rw [ht]
       exact UnD.put hD' hown.isMap x
     case measure =>
      simp only [intOf]
      omega
  ·have : k = p0.length := by omega
   subst this
   have hlt2 : ¬ (p0.length : Int) < (p0.length : Int) := by omega
   have hR' := hR.out
   have hD' := hD.out
   rw [List.take_length] at hR' hD'
   have HD : Hid _ := hD'
   have HR : Hid _ := hR'
   rw [List.take_length]
   clear hR hD hR' hD' hq hlt hk
   go_wp2_with (at_range; refine wpList_range_own _ rfl _ 75 rfl 3 3 (Maps.int_keyed Try.underlying3) Try.underlying75 _ w.heap.size p0.length _ rfl hown ?_; intro w0 hrg0 hg0 hs0)
   have hsz0 : w.heap.size ≤ wr.heap.size := hB.size
   have hB0 : Below w.heap.size w w0 := hB.grown hg0 hB.size (fun j e => by cases e)
   clear hB hg0 hs0 hown
   generalize wr.heap.size = r0 at hrg0 hsz0 ⊢
   go_loopw [9] (fun s W2 => ∃ (left : Lit → Bool) (cnt : Nat), s = .int .i64 ((UnL left p0).sum) ∧ W2.ranges Try.prog 3 (plainElem Try.prog 3) w.heap.size r0 p0.length D left cnt ∧ Below w.heap.size w W2)
    (fun s W2 => W2.rangeLeft w.heap.size r0)
   case atStart =>
    refine ⟨_, _, ?_, hrg0, hB0⟩
    have : UnL (Maps.has D) p0 = [] := by
     unfold UnL
     rw [List.filter_eq_nil_iff]
     intro x hx
     rw [(HD.out x).2, decide_eq_true hx]
     simp
    rw [this]
    rfl
   case round =>
    obtain ⟨left, cnt, rfl, hrg, hB⟩ := hrel
    clear hrg0 hB0
    go_wp2_with (first
     | (at_next; refine wpList_next_ranges_ii _ rfl _ rfl 3 3 .i64 .i64 (Maps.int_keyed Try.underlying3) Try.underlying3 Try.underlying3 w.heap.size r0 p0.length _ _ _ rfl hrg ?_ ?_)
     | go_in)
    ·intro hc0 hl0
     go_wp2
     go_ret3
     have hu : UnL left p0 = p0.filter fun x => decide (p0.count x = 1) := by
      unfold UnL
      refine List.filter_congr fun z _ => ?_
      rw [hl0]
      simp
     have : unRes p0 = #[.int .i64 (UnL left p0).sum, .int .i64 p0.sum, .int .i64 0] := by
      unfold unRes UnS
      rw [if_pos (show UnR p0 from HR.out), hu]
     exact ⟨by rw [this]; rfl, hB⟩
    ·intro x c1 w1 cnt1 hwx hwc hlx hat hrg1 hlt hg1 hs1 hen
     have e1 := (HD.out x).1
     rw [hat] at e1
     have e1 : c1 = ((p0.count x : Nat) : Int) := by injection e1 with e1; injection e1
     have hB1 : Below w.heap.size w w1 := hB.grown hg1 hB.size (fun j e => by cases e; exact hsz0)
     have hst := UnL.step (left := left) (l := p0) hlx
     have hx0 : x ∈ p0 := by
      have h := Maps.has_true_of_atKey hat
      rw [(HD.out x).2] at h
      exact of_decide_eq_true h
     have hxr := (show UnR p0 from HR.out) x hx0
     have hsum := UnL.sum (left := left) (show UnR p0 from HR.out)
     have HE : Hid (c1 = ((p0.count x : Nat) : Int)) := e1
     have HS : Hid _ := hst
     have HX : Hid _ := hxr
     have HU : Hid _ := hsum
     clear e1 hst hx0 hxr hsum
     go_wp2
     ·rename_i hc
      have e1 := HE.out
      have hc : c1 = 1 := by simpa using hc
      have h1 := HS.out
      rw [if_pos (by omega)] at h1
      have h2 := HX.out
      have h3 := HU.out
      exact ⟨⟨_, _, by rw [h1]; congr 1; unfold wrap64; omega, hrg1, hB1⟩, by rw [hrg1.left_eq, hrg.left_eq]; exact hlt⟩
     ·rename_i hc
      have e1 := HE.out
      have hc : c1 ≠ 1 := by simpa using hc
      have h1 := HS.out
      rw [if_neg (by omega), Int.add_zero] at h1
      exact ⟨⟨_, _, by rw [h1], hrg1, hB1⟩, by rw [hrg1.left_eq, hrg.left_eq]; exact hlt⟩
set_option maxRecDepth 100000 in
theorem un_long (n : Nat) (hp : 64 < n) (w : World) (q : Option Addr) (c : Nat) :
  Calls Try.prog 24 #[.slice q n c] w fun e w' => e = .returned (.tuple #[.int .i64 0, .int .i64 0, .int .i64 1]) ∧ Below w.heap.size w w' := by
 refine calls_of_wp Try.func24 rfl ?_
 simp only [Try.ntmps24, List.size_toArray, List.length_cons, List.length_nil, Nat.reduceAdd, Nat.reduceSub, Array.replicate_succ, Array.replicate_zero, List.push_toArray, List.append_toArray, List.nil_append, List.cons_append]
 have hlen : (64 : Int) < (n : Int) := by omega
 go_wp2
 go_ret3
 exact ⟨rfl, Below.refl _ _⟩
end
noncomputable def risk_Unique (p0 : List Int) : Option (Int × Int × Int) := if 64 < p0.length then some (0, 0, 1) else if UnR p0 then some (UnS p0, p0.sum, 0) else some (0, 0, 2)
theorem risk_Unique_con (p0 : List Int) (r : Int × Int × Int) (h : risk_Unique p0 = some r) : Con Try.prog 24 [vl 1 Ri64 p0] [] (.tup [vi64 r.1, vi64 r.2.1, vi64 r.2.2]) [] := by
 refine con_of_calls (n := 10) ⟨_, Try.func24, by kernel_rfl, rfl⟩ fun w ok vs hok ha => ?_
 obtain ⟨l⟩ := vs
 rcases l with _ | ⟨v0, _ | ⟨v1, l⟩⟩
 ·exact ha.elim
 ·obtain ⟨⟨q, c, rfl, hc, hcells⟩, _⟩ := ha
  unfold risk_Unique at h
  have mk : ∀ (L H S : Int) (w' : World), (L, H, S) = r → ∀ ok' ρ', RV w' ok' ρ' (.tup [vi64 r.1, vi64 r.2.1, vi64 r.2.2]) (.tuple #[.int .i64 L, .int .i64 H, .int .i64 S]) := fun L H S w' e ok' ρ' => by
   subst e
   exact ⟨_, rfl, ⟨rfl, rfl⟩, ⟨rfl, rfl⟩, ⟨rfl, rfl⟩, tv⟩
  by_cases h1 : 64 < p0.length
  ·rw [if_pos h1] at h
   refine CallsIn.mono (callsIn_wide.2 (un_long p0.length h1 w q c)) ?_
   rintro e w' ⟨rfl, hB⟩
   exact ⟨_, rfl, hB, mk _ _ _ _ (some_inj h)⟩
  ·rw [if_neg h1] at h
   refine CallsIn.mono (callsIn_wide.2 (un_walk p0 (by omega) w q c (fun i hi => ?_))) ?_
   ·obtain ⟨b, o, x, rfl, hb, hx, hr⟩ := hcells i hi 0 (by decide)
    refine ⟨b, o, rfl, hok b hb, ?_⟩
    obtain ⟨rfl, _⟩ := (show RT w ok (.v (.int .i64 (p0.getD i 0))) x from hr)
    rw [← hx]
    congr 2
    omega
   ·rintro e w' ⟨rfl, hB⟩
    unfold unRes
    by_cases h2 : UnR p0
    ·rw [if_pos h2] at h
     rw [if_pos h2]
     exact ⟨_, rfl, hB, mk _ _ _ _ (some_inj h)⟩
    ·rw [if_neg h2] at h
     rw [if_neg h2]
     exact ⟨_, rfl, hB, mk _ _ _ _ (some_inj h)⟩
 ·exact ha.2.elim
/-! recordlink/recordlinkref15.Unique -/
noncomputable def rl_ref15_Unique_k4 (x16 : Int) (x19 : Int) : Option ((Int × Int) ⊕ Int) := some (.inl (x19, i64.wrap (x16 + 1)))
noncomputable def rl_ref15_Unique_l3 (p0 : List Int) (x7 : Int) (x15 : Int) (x16 : Int) : Option ((Int × Int) ⊕ Int) := if (decide (x16 < (p0.length : Int))) = true then (if 0 ≤ x16 then (if x16 < (p0.length : Int) then (if 0 ≤ x7 then (if x7 < (p0.length : Int) then (if ((p0.getD x16.toNat 0) == (p0.getD x7.toNat 0)) = true then (rl_ref15_Unique_k4 x16 (i64.wrap (x15 + 1))) else (rl_ref15_Unique_k4 x16 x15)) else none) else none) else none) else none) else (some (.inr x15))
noncomputable def rl_ref15_Unique_k5 (p0 : List Int) (x6 : Int) (x7 : Int) (x26 : Int) : Option ((Int × Int × Int) ⊕ ((Int × Int) ⊕ Unit)) := if 0 ≤ x7 then (if x7 < (p0.length : Int) then (some (.inl (x26, i64.wrap (x6 + (p0.getD x7.toNat 0)), i64.wrap (x7 + 1)))) else none) else none
noncomputable def rl_ref15_Unique_k2 (p0 : List Int) (x5 : Int) (x6 : Int) (x7 : Int) (x11 : Bool) : Option ((Int × Int × Int) ⊕ ((Int × Int) ⊕ Unit)) := if x11 = true then (some (.inr (.inr ()))) else ((loop (fun v : Int × Int => rl_ref15_Unique_l3 p0 x7 v.1 v.2) (0, 0)).bind fun x25 => (if (x25 == 1) = true then (if 0 ≤ x7 then (if x7 < (p0.length : Int) then (rl_ref15_Unique_k5 p0 x6 x7 (i64.wrap (x5 + (p0.getD x7.toNat 0)))) else none) else none) else (rl_ref15_Unique_k5 p0 x6 x7 x5)))
noncomputable def rl_ref15_Unique_l1 (p0 : List Int) (x5 : Int) (x6 : Int) (x7 : Int) : Option ((Int × Int × Int) ⊕ ((Int × Int) ⊕ Unit)) := if (decide (x7 < (p0.length : Int))) = true then (if 0 ≤ x7 then (if x7 < (p0.length : Int) then (if (decide ((p0.getD x7.toNat 0) < 0)) = true then (rl_ref15_Unique_k2 p0 x5 x6 x7 true) else (rl_ref15_Unique_k2 p0 x5 x6 x7 (decide ((p0.getD x7.toNat 0) > 1048576)))) else none) else none) else (some (.inr (.inl (x5, x6))))
noncomputable def rl_ref15_Unique_a6 (x36 : Int) (x37 : Int) : Option (Int × Int × Int) := some (x36, x37, 0)
noncomputable def rl_ref15_Unique_a7 : Option (Int × Int × Int) := some (0, 0, 2)
noncomputable def rl_ref15_Unique (p0 : List Int) : Option (Int × Int × Int) := if (decide ((p0.length : Int) > 64)) = true then (some (0, 0, 1)) else (bindE (loop (fun v : Int × Int × Int => rl_ref15_Unique_l1 p0 v.1 v.2.1 v.2.2) (0, 0, 0)) (fun t => rl_ref15_Unique_a6 t.1 t.2) (fun t => rl_ref15_Unique_a7))
set_option maxRecDepth 100000 in
theorem rl_ref15_Unique_con (p0 : List Int) (r : Int × Int × Int) (h : rl_ref15_Unique p0 = some r) : Con Try.prog 25 [vl 1 Ri64 p0] [] (.tup [vi64 r.1, vi64 r.2.1, vi64 r.2.2]) [] := by
 refine con_of tt_ok0 0 Try.func25 (by kernel_rfl) rfl (by kernel_rfl) (fun base X _ => AW.post ?_)
 unfold rl_ref15_Unique at h
 refine AW.sg tt_ok0 [] [] [] 3 [] (by kernel_rfl) ?_
 refine AW.seq ?_
 refine AW.sg tt_ok0 [(12, vb (decide ((p0.length : Int) > 64)))] [] [] 6 [] (by kernel_rfl) ?_
 refine AW.co h (by kernel_rfl) (fun c1 h => ?_) (fun c1 h => ?_)
 ·
  refine AW.sg tt_ok0 [(4, vi64 1), (3, vi64 0), (2, vi64 0)] [] [] 9 [] (by kernel_rfl) ?_
  refine AW.ret (AW.tr ?_)
  obtain rfl := some_inj h
  exact fn0 (.inr rfl) [] 0 (.tup [vi64 0, vi64 0, vi64 1]) (by kernel_rfl)
 ·
  refine AW.skip (AW.tn ?_)
  refine AW.sg tt_ok0 [(6, vi64 0), (5, vi64 0)] [] [] 8 [] (by kernel_rfl) ?_
  refine AW.seq ?_
  refine AW.sg tt_ok0 [(7, vi64 0)] [] [] 9 [] (by kernel_rfl) ?_
  refine AW.block ?_
  refine AW.lpE h (fun v => ⟨[(0, vl 1 Ri64 p0), (5, vi64 v.1), (6, vi64 v.2.1), (7, vi64 v.2.2)], [], 0⟩) (fun t => (.exit 0, ⟨[(5, vi64 t.1), (6, vi64 t.2)], [], 0⟩)) (fun t => (.ret, ⟨[(2, vi64 0), (3, vi64 0), (4, vi64 2)], [], 0⟩)) (conv_re [] (by kernel_rfl)) (fun _ => tv) (fun _ => tv) ?_ (fun t h => ?_) (fun t h => ?_)
  ·
   clear h
   intro v o h
   obtain ⟨x5, x6, x7⟩ := v
   replace h : rl_ref15_Unique_l1 p0 x5 x6 x7 = some o := h
   unfold rl_ref15_Unique_l1 at h
   refine AW.seq ?_
   refine AW.sg tt_ok0 [(16, vb (decide (x7 < (p0.length : Int))))] [] [] 4 [] (by kernel_rfl) ?_
   refine AW.co h (by kernel_rfl) (fun c10 h => ?_) (fun c10 h => ?_)
   ·
    refine AW.skip (AW.tn ?_)
    refine AW.seq (AW.block ?_)
    refine AW.seq (AW.seq ?_)
    refine AW.join (ι := Bool) (fun v => ⟨[(0, vl 1 Ri64 p0), (5, vi64 x5), (6, vi64 x6), (7, vi64 x7), (30, vb v)], [], 0⟩) (fun v : Bool => rl_ref15_Unique_k2 p0 x5 x6 x7 v = some o) (fun x11 h => ?_) ?_
    ·
     unfold rl_ref15_Unique_k2 at h
     refine AW.tn ?_
     refine AW.co h (by kernel_rfl) (fun c12 h => ?_) (fun c12 h => ?_)
     ·
      refine AW.sg tt_ok0 [(4, vi64 2), (3, vi64 0), (2, vi64 0)] [] [] 3 [] (by kernel_rfl) ?_
      refine AW.ret (AW.tr ?_)
      refine AW.inBlock_ret (AW.tr ?_)
      exact lpo h rfl (conv_re [] (by kernel_rfl))
     ·
      refine AW.skip (AW.tn ?_)
      refine AW.sg tt_ok0 [(8, vi64 0)] [] [] 1 [] (by kernel_rfl) ?_
      refine AW.seq ?_
      refine AW.sg tt_ok0 [(9, vi64 0)] [] [] 2 [] (by kernel_rfl) ?_
      refine AW.block ?_
      obtain ⟨x25, l32, h⟩ := bnd_some h
      refine AW.lp l32 (fun v => ⟨[(0, vl 1 Ri64 p0), (5, vi64 x5), (6, vi64 x6), (7, vi64 x7), (8, vi64 v.1), (9, vi64 v.2)], [], 0⟩) (fun t : Int => (.exit 2, ⟨[(0, vl 1 Ri64 p0), (5, vi64 x5), (6, vi64 x6), (7, vi64 x7), (8, vi64 t)], [], 0⟩)) (conv_re [] (by kernel_rfl)) (fun _ => tv) ?_ ?_
      ·
       clear l32 h
       intro v o h
       obtain ⟨x15, x16⟩ := v
       replace h : rl_ref15_Unique_l3 p0 x7 x15 x16 = some o := h
       unfold rl_ref15_Unique_l3 at h
       refine AW.seq ?_
       refine AW.sg tt_ok0 [(34, vb (decide (x16 < (p0.length : Int))))] [] [] 4 [] (by kernel_rfl) ?_
       refine AW.co h (by kernel_rfl) (fun c18 h => ?_) (fun c18 h => ?_)
       ·
        refine AW.skip (AW.tn (AW.seq ?_))
        refine AW.join (ι := Int) (fun v => ⟨[(0, vl 1 Ri64 p0), (5, vi64 x5), (6, vi64 x6), (7, vi64 x7), (8, vi64 v), (9, vi64 x16)], [], 0⟩) (fun v : Int => rl_ref15_Unique_k4 x16 v = some o) (fun x19 h => ?_) ?_
        ·
         unfold rl_ref15_Unique_k4 at h
         refine AW.tn ?_
         refine AW.rg tt_ok0 [(9, vi64 (i64.wrap (x16 + 1)))] [] [] 3 [] (by kernel_rfl) ?_
         exact lpn h (conv_re [] (by kernel_rfl))
        ·
         refine AW.block ?_
         obtain ⟨g20, g21, h⟩ := ifd h
         obtain ⟨g22, g23, h⟩ := ifd h
         refine AW.sd tt_ok0 mo0 [] [(45, vb ((p0.getD x16.toNat 0) == (p0.getD x7.toNat 0)))] [] 13 [hn, hn, hq g20 g21, hn, hn, hn, hq g22 g23] (by kernel_rfl) ?_
         refine AW.co h (by kernel_rfl) (fun c24 h => ?_) (fun c24 h => ?_)
         ·
          refine AW.rg tt_ok0 [(8, vi64 (i64.wrap (x15 + 1)))] [] [] 16 [] (by kernel_rfl) ?_
          refine AW.inBlock_normal ?_
          exact jl (i64.wrap (x15 + 1)) h (conv_re [] (by kernel_rfl))
         ·
          refine AW.skip (AW.inBlock_normal ?_)
          exact jl x15 h (conv_re [] (by kernel_rfl))
       ·
        refine AW.exit (AW.thenQ_exit ?_)
        exact lpo h rfl (conv_re [] (by kernel_rfl))
      ·
       show (_ : Exit → St → Prop) (.exit 2) _
       refine AW.inBlock_hit (AW.tn (AW.seq ?_))
       refine AW.join (ι := Int) (fun v => ⟨[(0, vl 1 Ri64 p0), (5, vi64 v), (6, vi64 x6), (7, vi64 x7)], [], 0⟩) (fun v : Int => rl_ref15_Unique_k5 p0 x6 x7 v = some o) (fun x26 h => ?_) ?_
       ·
        unfold rl_ref15_Unique_k5 at h
        refine AW.tn ?_
        obtain ⟨g27, g28, h⟩ := ifd h
        refine AW.rg tt_ok0 [(6, vi64 (i64.wrap (x6 + (p0.getD x7.toNat 0))))] [] [] 7 [hn, hn, hn, hq g27 g28] (by kernel_rfl) ?_
        refine AW.inBlock_normal (AW.tn ?_)
        refine AW.rg tt_ok0 [(7, vi64 (i64.wrap (x7 + 1)))] [] [] 10 [] (by kernel_rfl) ?_
        exact lpn h (conv_re [] (by kernel_rfl))
       ·
        refine AW.sg tt_ok0 [(49, vb (x25 == 1))] [] [] 2 [] (by kernel_rfl) ?_
        refine AW.co h (by kernel_rfl) (fun c29 h => ?_) (fun c29 h => ?_)
        ·
         obtain ⟨g30, g31, h⟩ := ifd h
         refine AW.rg tt_ok0 [(5, vi64 (i64.wrap (x5 + (p0.getD x7.toNat 0))))] [] [] 9 [hn, hn, hn, hq g30 g31] (by kernel_rfl) ?_
         exact jl (i64.wrap (x5 + (p0.getD x7.toNat 0))) h (conv_re [] (by kernel_rfl))
        ·
         refine AW.skip ?_
         exact jl x5 h (conv_re [] (by kernel_rfl))
    ·
     obtain ⟨g33, g34, h⟩ := ifd h
     rcases ifs h with ⟨c35, h⟩ | ⟨c35, h⟩
     ·
      refine AW.rg tt_ok0 [(30, vb true)] [] [] 16 [hn, hn, hq g33 g34, hn, ht c35] (by kernel_rfl) ?_
      exact jl true h (conv_re [] (by kernel_rfl))
     ·
      refine AW.rg tt_ok0 [(30, vb (decide ((p0.getD x7.toNat 0) > 1048576)))] [] [] 16 [hn, hn, hq g33 g34, hn, hf c35, hn, hn, hn, hq g33 g34] (by kernel_rfl) ?_
      exact jl (decide ((p0.getD x7.toNat 0) > 1048576)) h (conv_re [] (by kernel_rfl))
   ·
    refine AW.exit (AW.thenQ_exit ?_)
    exact lpo h rfl (conv_re [] (by kernel_rfl))
  ·
   obtain ⟨x36, x37⟩ := t
   replace h : rl_ref15_Unique_a6 x36 x37 = some r := h
   unfold rl_ref15_Unique_a6 at h
   show (_ : Exit → St → Prop) (.exit 0) _
   refine AW.inBlock_hit (AW.tn ?_)
   refine AW.sg tt_ok0 [(4, vi64 0), (3, vi64 x37), (2, vi64 x36)] [] [] 5 [] (by kernel_rfl) ?_
   refine AW.ret ?_
   obtain rfl := some_inj h
   exact fn0 (.inr rfl) [] 0 (.tup [vi64 x36, vi64 x37, vi64 0]) (by kernel_rfl)
  ·
   replace h : rl_ref15_Unique_a7 = some r := h
   unfold rl_ref15_Unique_a7 at h
   show (_ : Exit → St → Prop) (.ret) _
   refine AW.inBlock_ret (AW.tr ?_)
   obtain rfl := some_inj h
   exact fn0 (.inr rfl) [] 0 (.tup [vi64 0, vi64 0, vi64 2]) (by kernel_rfl)
def Ea4i64 (x : List Int) : List T := [.v (.int .i64 (x.getD 0 0)), .v (.int .i64 (x.getD 1 0)), .v (.int .i64 (x.getD 2 0)), .v (.int .i64 (x.getD 3 0))]
def Ra4i64 (xs : List (List Int)) : Nat → Nat → T := rowL (List.replicate 4 (0 : Int)) Ea4i64 xs
theorem Va4i64 : ∀ x, allV (Ea4i64 x) := fun _ => ⟨tv, tv, tv, tv, tv⟩
/-! recordlink/recordlinkref15.Choose -/
noncomputable def rl_ref15_Choose_k4 (x9 : Int) (x18 : Bool) : Option (Int ⊕ (Unit ⊕ Int)) := if x18 = true then (some (.inr (.inr x9))) else (some (.inl (i64.wrap (x9 + 1))))
noncomputable def rl_ref15_Choose_l3 (p0 : Int) (p1 : Int) (p2 : Int) (p3 : Int) (x4 : Int) (x9 : Int) : Option (Int ⊕ (Unit ⊕ Int)) := if (decide (x9 ≤ 16)) = true then (bind2 (rl_ref15_Fill (⟨x4, x9, (-1)⟩ : S_api_Parameters) p0) fun y12 y13 => (bind2 (rl_ref15_Collision (⟨x4, x9, (-1)⟩ : S_api_Parameters) p0) fun y15 y16 => (if (decide (y12 ≥ p1)) = true then (if (decide (y12 ≤ p2)) = true then (rl_ref15_Choose_k4 x9 (decide (y15 ≤ p3))) else (rl_ref15_Choose_k4 x9 false)) else (rl_ref15_Choose_k4 x9 false)))) else (some (.inr (.inl ())))
noncomputable def rl_ref15_Choose_a5 (x4 : Int) : Option (Int ⊕ (Unit ⊕ (Int × Int))) := some (.inl (i64.wrap (x4 + 64)))
noncomputable def rl_ref15_Choose_a6 (x4 : Int) (x22 : Int) : Option (Int ⊕ (Unit ⊕ (Int × Int))) := some (.inr (.inr (x4, x22)))
noncomputable def rl_ref15_Choose_l2 (p0 : Int) (p1 : Int) (p2 : Int) (p3 : Int) (x4 : Int) : Option (Int ⊕ (Unit ⊕ (Int × Int))) := if (decide (x4 ≤ 512)) = true then (bindE (loop (fun v : Int => rl_ref15_Choose_l3 p0 p1 p2 p3 x4 v) 1) (fun t => rl_ref15_Choose_a5 x4) (fun t => rl_ref15_Choose_a6 x4 t)) else (some (.inr (.inl ())))
noncomputable def rl_ref15_Choose_a7 : Option (S_api_Parameters × Int) := some ((⟨0, 0, 0⟩ : S_api_Parameters), 13)
noncomputable def rl_ref15_Choose_a8 (x24 : Int) (x25 : Int) : Option (S_api_Parameters × Int) := some ((⟨x24, x25, (-1)⟩ : S_api_Parameters), 0)
noncomputable def rl_ref15_Choose_k1 (p0 : Int) (p1 : Int) (p2 : Int) (p3 : Int) (x1 : Bool) : Option (S_api_Parameters × Int) := if x1 = true then (some ((⟨0, 0, 0⟩ : S_api_Parameters), 2)) else (bindE (loop (fun v : Int => rl_ref15_Choose_l2 p0 p1 p2 p3 v) 64) (fun t => rl_ref15_Choose_a7) (fun t => rl_ref15_Choose_a8 t.1 t.2))
noncomputable def rl_ref15_Choose (p0 : Int) (p1 : Int) (p2 : Int) (p3 : Int) : Option (S_api_Parameters × Int) := if (decide (p0 < 0)) = true then (rl_ref15_Choose_k1 p0 p1 p2 p3 true) else (if (decide (p0 > 80)) = true then (rl_ref15_Choose_k1 p0 p1 p2 p3 true) else (if (decide (p1 < 0)) = true then (rl_ref15_Choose_k1 p0 p1 p2 p3 true) else (if (decide (p1 > p2)) = true then (rl_ref15_Choose_k1 p0 p1 p2 p3 true) else (if (decide (p2 > 1000)) = true then (rl_ref15_Choose_k1 p0 p1 p2 p3 true) else (if (decide (p3 < 0)) = true then (rl_ref15_Choose_k1 p0 p1 p2 p3 true) else (rl_ref15_Choose_k1 p0 p1 p2 p3 (decide (p3 > 1000000))))))))
set_option maxRecDepth 100000 in
theorem rl_ref15_Choose_con (p0 : Int) (p1 : Int) (p2 : Int) (p3 : Int) (r : S_api_Parameters × Int) (h : rl_ref15_Choose p0 p1 p2 p3 = some r) : Con Try.prog 26 [vi64 p0, vi64 p1, vi64 p2, vi64 p3] [] (.tup [.agg [ci64 r.1.Length, ci64 r.1.Hashes, ci64 r.1.Salt], vi64 r.2]) [] := by
 refine con_of tt_ok0 0 Try.func26 (by kernel_rfl) rfl (by kernel_rfl) (fun base X _ => AW.post ?_)
 unfold rl_ref15_Choose at h
 refine AW.sg tt_ok0 [(8, .c (.ptr 0 3 0 0))] [0] [(0, .box 28 [ci64 0, ci64 0, ci64 0])] 2 [] (by kernel_rfl) ?_
 refine AW.seq (AW.seq ?_)
 refine AW.join (ι := Bool) (fun v => ⟨[(0, vi64 p0), (1, vi64 p1), (2, vi64 p2), (3, vi64 p3), (8, .c (.ptr 0 3 0 0)), (43, vb v)], [(0, .box 28 [ci64 0, ci64 0, ci64 0])], 1⟩) (fun v : Bool => rl_ref15_Choose_k1 p0 p1 p2 p3 v = some r) (fun x1 h => ?_) ?_
 ·
  unfold rl_ref15_Choose_k1 at h
  refine AW.tn ?_
  refine AW.co h (by kernel_rfl) (fun c2 h => ?_) (fun c2 h => ?_)
  ·
   refine AW.sg tt_ok0 [(9, vi64 2)] [0] [(0, .box 28 [ci64 0, ci64 0, ci64 0])] 4 [] (by kernel_rfl) ?_
   refine AW.ret (AW.tr ?_)
   obtain rfl := some_inj h
   exact fn0 (.inr rfl) [] 0 (.tup [.agg [ci64 0, ci64 0, ci64 0], vi64 2]) (by kernel_rfl)
  ·
   refine AW.skip (AW.tn (AW.seq ?_))
   refine AW.sg tt_ok0 [(10, vi64 64)] [] [] 2 [] (by kernel_rfl) ?_
   refine AW.block ?_
   refine AW.lpE h (fun v => ⟨[(0, vi64 p0), (1, vi64 p1), (2, vi64 p2), (3, vi64 p3), (8, .c (.ptr 0 3 0 0)), (10, vi64 v)], [(0, .box 28 [ci64 0, ci64 0, ci64 0])], 1⟩) (fun t => (.exit 0, ⟨[(8, .c (.ptr 0 3 0 0))], [(0, .box 28 [ci64 0, ci64 0, ci64 0])], 1⟩)) (fun t => (.ret, ⟨[(8, .c (.ptr 0 3 0 0)), (9, vi64 0)], [(0, .box 28 [ci64 t.1, ci64 t.2, ci64 (-1)])], 1⟩)) (conv_re [(0, 0)] (by kernel_rfl)) (fun _ => tv) (fun _ => tv) ?_ (fun t h => ?_) (fun t h => ?_)
   ·
    clear h
    intro x4 o h
    unfold rl_ref15_Choose_l2 at h
    refine AW.seq ?_
    refine AW.sg tt_ok0 [(46, vb (decide (x4 ≤ 512)))] [] [] 3 [] (by kernel_rfl) ?_
    refine AW.co h (by kernel_rfl) (fun c7 h => ?_) (fun c7 h => ?_)
    ·
     refine AW.skip (AW.tn ?_)
     refine AW.seq (AW.block ?_)
     refine AW.sg tt_ok0 [(11, vi64 1)] [] [] 4 [] (by kernel_rfl) ?_
     refine AW.block ?_
     refine AW.lpE h (fun v => ⟨[(0, vi64 p0), (1, vi64 p1), (2, vi64 p2), (3, vi64 p3), (8, .c (.ptr 0 3 0 0)), (10, vi64 x4), (11, vi64 v)], [(0, .box 28 [ci64 0, ci64 0, ci64 0])], 1⟩) (fun t => (.exit 2, ⟨[(0, vi64 p0), (1, vi64 p1), (2, vi64 p2), (3, vi64 p3), (8, .c (.ptr 0 3 0 0)), (10, vi64 x4)], [(0, .box 28 [ci64 0, ci64 0, ci64 0])], 1⟩)) (fun t => (.ret, ⟨[(8, .c (.ptr 0 3 0 0)), (9, vi64 0)], [(0, .box 28 [ci64 x4, ci64 t, ci64 (-1)])], 1⟩)) (conv_re [(0, 0)] (by kernel_rfl)) (fun _ => tv) (fun _ => tv) ?_ (fun t h => ?_) (fun x22 h => ?_)
     ·
      clear h
      intro x9 o h
      unfold rl_ref15_Choose_l3 at h
      refine AW.seq ?_
      refine AW.sg tt_ok0 [(50, vb (decide (x9 ≤ 16)))] [] [] 3 [] (by kernel_rfl) ?_
      refine AW.co h (by kernel_rfl) (fun c11 h => ?_) (fun c11 h => ?_)
      ·
       refine AW.skip (AW.tn ?_)
       refine AW.seq (AW.block ?_)
       refine AW.sg tt_ok0 [(12, .c (.ptr 6 3 0 0))] [6] [(6, .box 28 [ci64 x4, ci64 x9, ci64 (-1)])] 8 [] (by kernel_rfl) ?_
       obtain ⟨y12, y13, e14, h⟩ := bind2_some h
       refine AW.sg tt_ok0 [(13, vi64 y12)] [] [] 15 [hn, hn, hk (rl_ref15_Fill_con (⟨x4, x9, (-1)⟩ : S_api_Parameters) p0 (y12, y13) e14)] (by kernel_rfl) ?_
       obtain ⟨y15, y16, e17, h⟩ := bind2_some h
       refine AW.sg tt_ok0 [(15, vi64 y15)] [] [] 22 [hn, hn, hk (rl_ref15_Collision_con (⟨x4, x9, (-1)⟩ : S_api_Parameters) p0 (y15, y16) e17)] (by kernel_rfl) ?_
       refine AW.seq ?_
       refine AW.join (ι := Bool) (fun v => ⟨[(0, vi64 p0), (1, vi64 p1), (2, vi64 p2), (3, vi64 p3), (8, .c (.ptr 0 3 0 0)), (10, vi64 x4), (11, vi64 x9), (12, .c (.ptr 1 3 0 0)), (80, vb v)], [(0, .box 28 [ci64 0, ci64 0, ci64 0]), (1, .box 28 [ci64 x4, ci64 x9, ci64 (-1)])], 2⟩) (fun v : Bool => rl_ref15_Choose_k4 x9 v = some o) (fun x18 h => ?_) ?_
       ·
        unfold rl_ref15_Choose_k4 at h
        refine AW.tn ?_
        refine AW.co h (by kernel_rfl) (fun c19 h => ?_) (fun c19 h => ?_)
        ·
         refine AW.sg tt_ok0 [(9, vi64 0)] [0] [(0, .box 28 [ci64 x4, ci64 x9, ci64 (-1)])] 5 [] (by kernel_rfl) ?_
         refine AW.ret (AW.inBlock_ret (AW.tr ?_))
         exact lpo h rfl (conv_re [(0, 0)] (by kernel_rfl))
        ·
         refine AW.skip (AW.inBlock_normal (AW.tn ?_))
         refine AW.rg tt_ok0 [(11, vi64 (i64.wrap (x9 + 1)))] [] [] 5 [] (by kernel_rfl) ?_
         exact lpn h (conv_re [(0, 0)] (by kernel_rfl))
       ·
        rcases ifs h with ⟨c20, h⟩ | ⟨c20, h⟩
        ·
         rcases ifs h with ⟨c21, h⟩ | ⟨c21, h⟩
         ·
          refine AW.rg tt_ok0 [(80, vb (decide (y15 ≤ p3)))] [] [] 35 [hn, hn, ht c20, hn, hn, hn, ht c21] (by kernel_rfl) ?_
          exact jl (decide (y15 ≤ p3)) h (conv_re [(0, 0), (1, 6)] (by kernel_rfl))
         ·
          refine AW.rg tt_ok0 [(80, vb false)] [] [] 35 [hn, hn, ht c20, hn, hn, hn, hf c21] (by kernel_rfl) ?_
          exact jl false h (conv_re [(0, 0), (1, 6)] (by kernel_rfl))
        ·
         refine AW.rg tt_ok0 [(80, vb false)] [] [] 35 [hn, hn, hf c20] (by kernel_rfl) ?_
         exact jl false h (conv_re [(0, 0), (1, 6)] (by kernel_rfl))
      ·
       refine AW.exit (AW.thenQ_exit ?_)
       exact lpo h rfl (conv_re [(0, 0)] (by kernel_rfl))
     ·
      replace h : rl_ref15_Choose_a5 x4 = some o := h
      unfold rl_ref15_Choose_a5 at h
      show (_ : Exit → St → Prop) (.exit 2) _
      refine AW.inBlock_hit (AW.inBlock_normal (AW.tn ?_))
      refine AW.rg tt_ok0 [(10, vi64 (i64.wrap (x4 + 64)))] [] [] 4 [] (by kernel_rfl) ?_
      exact lpn h (conv_re [(0, 0)] (by kernel_rfl))
     ·
      unfold rl_ref15_Choose_a6 at h
      show (_ : Exit → St → Prop) (.ret) _
      refine AW.inBlock_ret (AW.inBlock_ret (AW.tr ?_))
      exact lpo h rfl (conv_re [(0, 0)] (by kernel_rfl))
    ·
     refine AW.exit (AW.thenQ_exit ?_)
     exact lpo h rfl (conv_re [(0, 0)] (by kernel_rfl))
   ·
    replace h : rl_ref15_Choose_a7 = some r := h
    unfold rl_ref15_Choose_a7 at h
    show (_ : Exit → St → Prop) (.exit 0) _
    refine AW.inBlock_hit (AW.tn ?_)
    refine AW.sg tt_ok0 [(9, vi64 13)] [0] [(0, .box 28 [ci64 0, ci64 0, ci64 0])] 4 [] (by kernel_rfl) ?_
    refine AW.ret ?_
    obtain rfl := some_inj h
    exact fn0 (.inr rfl) [] 0 (.tup [.agg [ci64 0, ci64 0, ci64 0], vi64 13]) (by kernel_rfl)
   ·
    obtain ⟨x24, x25⟩ := t
    replace h : rl_ref15_Choose_a8 x24 x25 = some r := h
    unfold rl_ref15_Choose_a8 at h
    show (_ : Exit → St → Prop) (.ret) _
    refine AW.inBlock_ret (AW.tr ?_)
    obtain rfl := some_inj h
    exact fn0 (.inr rfl) [] 0 (.tup [.agg [ci64 x24, ci64 x25, ci64 (-1)], vi64 0]) (by kernel_rfl)
 ·
  rcases ifs h with ⟨c27, h⟩ | ⟨c27, h⟩
  ·
   refine AW.rg tt_ok0 [(43, vb true)] [] [] 29 [hn, ht c27] (by kernel_rfl) ?_
   exact jl true h (conv_re [(0, 0)] (by kernel_rfl))
  ·
   rcases ifs h with ⟨c28, h⟩ | ⟨c28, h⟩
   ·
    refine AW.rg tt_ok0 [(43, vb true)] [] [] 29 [hn, hf c27, hn, hn, ht c28] (by kernel_rfl) ?_
    exact jl true h (conv_re [(0, 0)] (by kernel_rfl))
   ·
    rcases ifs h with ⟨c29, h⟩ | ⟨c29, h⟩
    ·
     refine AW.rg tt_ok0 [(43, vb true)] [] [] 29 [hn, hf c27, hn, hn, hf c28, hn, hn, hn, ht c29] (by kernel_rfl) ?_
     exact jl true h (conv_re [(0, 0)] (by kernel_rfl))
    ·
     rcases ifs h with ⟨c30, h⟩ | ⟨c30, h⟩
     ·
      refine AW.rg tt_ok0 [(43, vb true)] [] [] 29 [hn, hf c27, hn, hn, hf c28, hn, hn, hn, hf c29, hn, hn, hn, hn, ht c30] (by kernel_rfl) ?_
      exact jl true h (conv_re [(0, 0)] (by kernel_rfl))
     ·
      rcases ifs h with ⟨c31, h⟩ | ⟨c31, h⟩
      ·
       refine AW.rg tt_ok0 [(43, vb true)] [] [] 29 [hn, hf c27, hn, hn, hf c28, hn, hn, hn, hf c29, hn, hn, hn, hn, hf c30, hn, hn, hn, ht c31] (by kernel_rfl) ?_
       exact jl true h (conv_re [(0, 0)] (by kernel_rfl))
      ·
       rcases ifs h with ⟨c32, h⟩ | ⟨c32, h⟩
       ·
        refine AW.rg tt_ok0 [(43, vb true)] [] [] 29 [hn, hf c27, hn, hn, hf c28, hn, hn, hn, hf c29, hn, hn, hn, hn, hf c30, hn, hn, hn, hf c31, hn, hn, hn, ht c32] (by kernel_rfl) ?_
        exact jl true h (conv_re [(0, 0)] (by kernel_rfl))
       ·
        refine AW.rg tt_ok0 [(43, vb (decide (p3 > 1000000)))] [] [] 29 [hn, hf c27, hn, hn, hf c28, hn, hn, hn, hf c29, hn, hn, hn, hn, hf c30, hn, hn, hn, hf c31, hn, hn, hn, hf c32] (by kernel_rfl) ?_
        exact jl (decide (p3 > 1000000)) h (conv_re [(0, 0)] (by kernel_rfl))
end Go.Proofs.Ytfnojcalalncbaa
