/- Printed by a program of mine (vmgen.py): Go functions, and what they come to. -/
import Derived.Test.YtfnojcalalncbaaVr
import Derived.Test.YtfnojcalalncbaaRows
namespace Go.Proofs.Ytfnojcalalncbaa
open Vm
open IntKind (i64 u64 u32 u8)
set_option maxHeartbeats 10000000
set_option linter.unusedVariables false
set_option linter.unusedSimpArgs false
set_option linter.constructorNameAsVariable false
def ttl0 : List (Nat × TI) := [(3, ⟨.int .i64, 1, 8, [.int .i64 0], false⟩), (4, ⟨.bool, 1, 1, [.bool false], false⟩), (5, ⟨.int .u8, 1, 1, [.int .u8 0], false⟩), (9, ⟨.str, 1, 16, [.string ⟨#[]⟩], false⟩), (22, ⟨.slice 3, 1, 24, [.slice none 0 0], false⟩), (25, ⟨.ptr 66, 1, 8, [.pointer none], false⟩), (28, ⟨.struct [(3, 0), (3, 1), (3, 2)], 3, 24, [.int .i64 0, .int .i64 0, .int .i64 0], true⟩), (29, ⟨.slice 28, 1, 24, [.slice none 0 0], false⟩), (32, ⟨.int .i64, 1, 8, [.int .i64 0], false⟩), (43, ⟨.int .u64, 1, 8, [.int .u64 0], false⟩), (45, ⟨.struct [(43, 0), (43, 1)], 2, 16, [.int .u64 0, .int .u64 0], true⟩), (47, ⟨.slice 9, 1, 24, [.slice none 0 0], false⟩), (49, ⟨.slice 43, 1, 24, [.slice none 0 0], false⟩), (51, ⟨.struct [(3, 0), (49, 1)], 2, 32, [.int .i64 0, .slice none 0 0], false⟩), (66, ⟨.struct [(22, 0), (3, 1), (43, 2)], 3, 40, [.slice none 0 0, .int .i64 0, .int .u64 0], false⟩), (69, ⟨.int .u64, 1, 8, [.int .u64 0], false⟩), (84, ⟨.slice 5, 1, 24, [.slice none 0 0], false⟩), (87, ⟨.struct [(43, 0), (43, 1), (43, 2), (43, 3)], 4, 32, [.int .u64 0, .int .u64 0, .int .u64 0, .int .u64 0], true⟩)]
theorem tt_ok0 : TTok Try.prog (Vm.look ttl0) := ttok_of ⟨⟨by kernel_rfl, by kernel_rfl, by kernel_rfl⟩, ⟨by kernel_rfl, by kernel_rfl, by kernel_rfl⟩, ⟨by kernel_rfl, by kernel_rfl, by kernel_rfl⟩, ⟨by kernel_rfl, by kernel_rfl, by kernel_rfl⟩, ⟨by kernel_rfl, by kernel_rfl, by kernel_rfl⟩, ⟨by kernel_rfl, by kernel_rfl, by kernel_rfl⟩, ⟨by kernel_rfl, by kernel_rfl, by kernel_rfl⟩, ⟨by kernel_rfl, by kernel_rfl, by kernel_rfl⟩, ⟨by kernel_rfl, by kernel_rfl, by kernel_rfl⟩, ⟨by kernel_rfl, by kernel_rfl, by kernel_rfl⟩, ⟨by kernel_rfl, by kernel_rfl, by kernel_rfl⟩, ⟨by kernel_rfl, by kernel_rfl, by kernel_rfl⟩, ⟨by kernel_rfl, by kernel_rfl, by kernel_rfl⟩, ⟨by kernel_rfl, by kernel_rfl, by kernel_rfl⟩, ⟨by kernel_rfl, by kernel_rfl, by kernel_rfl⟩, ⟨by kernel_rfl, by kernel_rfl, by kernel_rfl⟩, ⟨by kernel_rfl, by kernel_rfl, by kernel_rfl⟩, ⟨by kernel_rfl, by kernel_rfl, by kernel_rfl⟩, trivial⟩
theorem mo0 : Try.prog.follows .mixedOrders = true := by kernel_rfl
def Es (x : ByteArray) : List T := [.v (.string x)]
def Rs (xs : List ByteArray) : Nat → Nat → T := rowL ByteArray.empty Es xs
theorem Vs : ∀ x, allV (Es x) := fun _ => ⟨tv, tv⟩
structure S_api_Parameters where
 Length : Int
 Hashes : Int
 Salt : Int
def dS_api_Parameters : S_api_Parameters := ⟨0, 0, 0⟩
instance : Inhabited S_api_Parameters := ⟨dS_api_Parameters⟩
structure S_api_Key where
 A : Int
 B : Int
def dS_api_Key : S_api_Key := ⟨0, 0⟩
instance : Inhabited S_api_Key := ⟨dS_api_Key⟩
/-! recordlink/bitset.right -/
noncomputable def bitset_right_k1 (x1 : Bool) : Option Bool := some x1
noncomputable def bitset_right (p0 : Int) : Option Bool := if (decide (p0 ≥ 64)) = true then (if (decide (p0 ≤ 512)) = true then (bitset_right_k1 ((p0.tmod 64) == 0)) else (bitset_right_k1 false)) else (bitset_right_k1 false)
set_option maxRecDepth 100000 in
theorem bitset_right_con (p0 : Int) (r : Bool) (h : bitset_right p0 = some r) : Con Try.prog 61 [vi64 p0] [] (vb r) [] := by
 refine con_of tt_ok0 0 Try.func61 (by kernel_rfl) rfl (by kernel_rfl) (fun base X _ => AW.post ?_)
 unfold bitset_right at h
 refine AW.sg tt_ok0 [] [] [] 1 [] (by kernel_rfl) ?_
 refine AW.seq ?_
 refine AW.join (ι := Bool) (fun v => ⟨[(2, vb v)], [], 0⟩) (fun v : Bool => bitset_right_k1 v = some r) (fun x1 h => ?_) ?_
 ·
  unfold bitset_right_k1 at h
  refine AW.tn (AW.ret ?_)
  obtain rfl := some_inj h
  exact fn0 (.inr rfl) [] 0 (vb x1) (by kernel_rfl)
 ·
  rcases ifs h with ⟨c2, h⟩ | ⟨c2, h⟩
  ·
   rcases ifs h with ⟨c3, h⟩ | ⟨c3, h⟩
   ·
    refine AW.rg tt_ok0 [(2, vb ((p0.tmod 64) == 0))] [] [] 13 [hn, ht c2, hn, hn, ht c3, hn, hn, hn, ho (p := (64 : Int) ≠ 0) (by decide)] (by kernel_rfl) ?_
    exact jl ((p0.tmod 64) == 0) h (conv_re [] (by kernel_rfl))
   ·
    refine AW.rg tt_ok0 [(2, vb false)] [] [] 13 [hn, ht c2, hn, hn, hf c3] (by kernel_rfl) ?_
    exact jl false h (conv_re [] (by kernel_rfl))
  ·
   refine AW.rg tt_ok0 [(2, vb false)] [] [] 13 [hn, hf c2] (by kernel_rfl) ?_
   exact jl false h (conv_re [] (by kernel_rfl))
def Eu64 (x : Int) : List T := [.v (.int .u64 x)]
def Ru64 (xs : List Int) : Nat → Nat → T := rowL 0 Eu64 xs
theorem Vu64 : ∀ x, allV (Eu64 x) := fun _ => ⟨tv, tv⟩
structure S_api_Bits where
 Length : Int
 Words : List Int
def dS_api_Bits : S_api_Bits := ⟨0, ([] : List Int)⟩
instance : Inhabited S_api_Bits := ⟨dS_api_Bits⟩
/-! recordlink/bitset.New -/
noncomputable def bitset_New (p0 : Int) : Option (S_api_Bits × Int) := (bitset_right p0).bind fun y1 => (if (!y1) = true then (some ((⟨0, ([] : List Int)⟩ : S_api_Bits), 2)) else (if 0 ≤ (i64.wrap (p0.tdiv 64)) then (if (i64.wrap (p0.tdiv 64)) ≤ 1099511627776 then (some ((⟨p0, (List.replicate ((i64.wrap (p0.tdiv 64)).toNat) (0 : Int))⟩ : S_api_Bits), 0)) else none) else none))
set_option maxRecDepth 100000 in
theorem bitset_New_con (p0 : Int) (r : S_api_Bits × Int) (h : bitset_New p0 = some r) : Con Try.prog 51 [vi64 p0] [] (.tup [.agg [ci64 r.1.Length, .ref 0 1 0 r.1.Words.length], vi64 r.2]) [(0, .row 43 false 1 r.1.Words.length (Ru64 r.1.Words))] := by
 refine con_of tt_ok0 0 Try.func51 (by kernel_rfl) rfl (by kernel_rfl) (fun base X _ => AW.post ?_)
 unfold bitset_New at h
 refine AW.sg tt_ok0 [(2, .c (.ptr 0 2 0 0))] [0] [(0, .box 51 [ci64 0, .t (.v (.slice none 0 0))])] 2 [] (by kernel_rfl) ?_
 refine AW.seq ?_
 obtain ⟨y1, e2, h⟩ := bnd_some h
 refine AW.sg tt_ok0 [(6, vb (!y1))] [] [] 4 [hn, hk (bitset_right_con p0 y1 e2)] (by kernel_rfl) ?_
 refine AW.co h (by kernel_rfl) (fun c3 h => ?_) (fun c3 h => ?_)
 ·
  refine AW.sg tt_ok0 [(3, vi64 2)] [0] [(0, .box 51 [ci64 0, .t (.v (.slice none 0 0))])] 7 [] (by kernel_rfl) ?_
  refine AW.ret (AW.tr ?_)
  obtain rfl := some_inj h
  exact fnR (.inr rfl) [(0, 7)] 1 (.tup [.agg [ci64 0, .ref 7 1 0 (([] : List Int).length)], vi64 2]) (conv_adoptB (id := 0) (ty0 := 51) (cs := [ci64 0, .t (.v (.slice none 0 0))]) 1 (ty := 43) (sz := 1) (n := ([] : List Int).length) (f := Ru64 ([] : List Int)) (by kernel_rfl) (by kernel_rfl) rfl) (by kernel_rfl)
 ·
  refine AW.skip (AW.tn ?_)
  obtain ⟨g4, g5, h⟩ := ifd h
  refine AW.sg tt_ok0 [(3, vi64 0)] [0, 7] [(0, .box 51 [ci64 p0, .ref 7 1 0 ((List.replicate ((i64.wrap (p0.tdiv 64)).toNat) (0 : Int)).length)]), (7, .row 43 false 1 (List.replicate ((i64.wrap (p0.tdiv 64)).toNat) (0 : Int)).length (Ru64 (List.replicate ((i64.wrap (p0.tdiv 64)).toNat) (0 : Int))))] 11 [hn, hn, ho (p := (64 : Int) ≠ 0) (by decide), hmk 0 Eu64 1 8 [.int .u64 0] rfl rfl (i64.wrap (p0.tdiv 64)) (i64.wrap (p0.tdiv 64)) g4 (Int.le_refl _) g5 (by decide)] (by kernel_rfl) ?_
  refine AW.ret ?_
  obtain rfl := some_inj h
  exact fn0 (.inr rfl) [(0, 7)] 1 (.tup [.agg [ci64 p0, .ref 7 1 0 ((List.replicate ((i64.wrap (p0.tdiv 64)).toNat) (0 : Int)).length)], vi64 0]) (by kernel_rfl)
/-! recordlink/bloom.Check -/
noncomputable def bloom_Check_k1 (x5 : Bool) : Option Int := if x5 = true then (some 10) else (some 0)
noncomputable def bloom_Check (p0 : S_api_Parameters) : Option Int := bind2 (bitset_New p0.Length) fun y1 y2 => (if (y2 != 0) = true then (some 10) else (if (decide (p0.Hashes < 1)) = true then (bloom_Check_k1 true) else (if (decide (p0.Hashes > 16)) = true then (bloom_Check_k1 true) else (if (decide (p0.Salt < (-1))) = true then (bloom_Check_k1 true) else (bloom_Check_k1 (decide (p0.Salt ≥ 5)))))))
set_option maxRecDepth 100000 in
theorem bloom_Check_con (p0 : S_api_Parameters) (r : Int) (h : bloom_Check p0 = some r) : Con Try.prog 50 [.agg [ci64 p0.Length, ci64 p0.Hashes, ci64 p0.Salt]] [] (vi64 r) [] := by
 refine con_of tt_ok0 0 Try.func50 (by kernel_rfl) rfl (by kernel_rfl) (fun base X _ => AW.post ?_)
 unfold bloom_Check at h
 refine AW.sg tt_ok0 [(1, .c (.ptr 0 3 0 0))] [0] [(0, .box 28 [ci64 p0.Length, ci64 p0.Hashes, ci64 p0.Salt])] 2 [] (by kernel_rfl) ?_
 refine AW.seq ?_
 obtain ⟨y1, y2, e3, h⟩ := bind2_some h
 refine AW.sg tt_ok0 [(4, vi64 y2)] [4, 8] [] 11 [hn, hn, hm [] [] 1 (bitset_New_con p0.Length (y1, y2) e3) ⟨rowL_flat Vu64 _ _ _, tv⟩] (by kernel_rfl) ?_
 refine AW.sg tt_ok0 [(12, vb (y2 != 0))] [] [] 13 [] (by kernel_rfl) ?_
 refine AW.co h (by kernel_rfl) (fun c4 h => ?_) (fun c4 h => ?_)
 ·
  refine AW.sg tt_ok0 [(2, vi64 10)] [] [] 14 [] (by kernel_rfl) ?_
  refine AW.ret (AW.tr ?_)
  obtain rfl := some_inj h
  exact fn0 (.inr rfl) [] 0 (vi64 10) (by kernel_rfl)
 ·
  refine AW.skip (AW.tn ?_)
  refine AW.seq (AW.seq ?_)
  refine AW.join (ι := Bool) (fun v => ⟨[(30, vb v)], [], 0⟩) (fun v : Bool => bloom_Check_k1 v = some r) (fun x5 h => ?_) ?_
  ·
   unfold bloom_Check_k1 at h
   refine AW.tn ?_
   refine AW.co h (by kernel_rfl) (fun c6 h => ?_) (fun c6 h => ?_)
   ·
    refine AW.sg tt_ok0 [(2, vi64 10)] [] [] 1 [] (by kernel_rfl) ?_
    refine AW.ret (AW.tr ?_)
    obtain rfl := some_inj h
    exact fn0 (.inr rfl) [] 0 (vi64 10) (by kernel_rfl)
   ·
    refine AW.skip (AW.tn ?_)
    refine AW.sg tt_ok0 [(2, vi64 0)] [] [] 1 [] (by kernel_rfl) ?_
    refine AW.ret ?_
    obtain rfl := some_inj h
    exact fn0 (.inr rfl) [] 0 (vi64 0) (by kernel_rfl)
  ·
   rcases ifs h with ⟨c7, h⟩ | ⟨c7, h⟩
   ·
    refine AW.rg tt_ok0 [(30, vb true)] [] [] 31 [hn, hn, ht c7] (by kernel_rfl) ?_
    exact jl true h (conv_re [] (by kernel_rfl))
   ·
    rcases ifs h with ⟨c8, h⟩ | ⟨c8, h⟩
    ·
     refine AW.rg tt_ok0 [(30, vb true)] [] [] 31 [hn, hn, hf c7, hn, hn, hn, ht c8] (by kernel_rfl) ?_
     exact jl true h (conv_re [] (by kernel_rfl))
    ·
     rcases ifs h with ⟨c9, h⟩ | ⟨c9, h⟩
     ·
      refine AW.rg tt_ok0 [(30, vb true)] [] [] 31 [hn, hn, hf c7, hn, hn, hn, hf c8, hn, hn, hn, hn, ht c9] (by kernel_rfl) ?_
      exact jl true h (conv_re [] (by kernel_rfl))
     ·
      refine AW.rg tt_ok0 [(30, vb (decide (p0.Salt ≥ 5)))] [] [] 31 [hn, hn, hf c7, hn, hn, hn, hf c8, hn, hn, hn, hn, hf c9] (by kernel_rfl) ?_
      exact jl (decide (p0.Salt ≥ 5)) h (conv_re [] (by kernel_rfl))
def Ei64 (x : Int) : List T := [.v (.int .i64 x)]
def Ri64 (xs : List Int) : Nat → Nat → T := rowL 0 Ei64 xs
theorem Vi64 : ∀ x, allV (Ei64 x) := fun _ => ⟨tv, tv⟩
def Eu8 (x : Int) : List T := [.v (.int .u8 x)]
def Ru8 (xs : List Int) : Nat → Nat → T := rowL 0 Eu8 xs
theorem Vu8 : ∀ x, allV (Eu8 x) := fun _ => ⟨tv, tv⟩
/-! recordlink/siphash.number -/
noncomputable def siphash_number_l1 (p0 : List Int) (x3 : Int) (x4 : Int) : Option ((Int × Int) ⊕ Int) := if (decide (x4 < (p0.length : Int))) = true then (if 0 ≤ x4 then (if x4 < (p0.length : Int) then (if 0 ≤ (i64.wrap (8 * x4)) then ((some (ior .u64 x3 (ishl .u64 (u64.wrap (p0.getD x4.toNat 0)) (i64.wrap (8 * x4))))).bind fun z10 => (some (.inl (z10, i64.wrap (x4 + 1))))) else none) else none) else none) else (some (.inr x3))
noncomputable def siphash_number (p0 : List Int) : Option Int := (loop (fun v : Int × Int => siphash_number_l1 p0 v.1 v.2) (0, 0)).bind fun x12 => (some x12)
set_option maxRecDepth 100000 in
theorem siphash_number_con (p0 : List Int) (r : Int) (h : siphash_number p0 = some r) : Con Try.prog 67 [vl 1 Ru8 p0] [] (vu64 r) [] := by
 refine con_of tt_ok0 0 Try.func67 (by kernel_rfl) rfl (by kernel_rfl) (fun base X _ => AW.post ?_)
 unfold siphash_number at h
 refine AW.sg tt_ok0 [] [] [] 1 [] (by kernel_rfl) ?_
 refine AW.sg tt_ok0 [(3, vu64 0)] [] [] 2 [] (by kernel_rfl) ?_
 refine AW.seq ?_
 refine AW.sg tt_ok0 [(8, vi64 0), (7, vi64 (p0.length : Int)), (6, vl 1 Ru8 p0)] [] [] 5 [] (by kernel_rfl) ?_
 refine AW.block ?_
 obtain ⟨x12, l13, h⟩ := bnd_some h
 refine AW.lp l13 (fun v => ⟨[(3, vu64 v.1), (6, vl 1 Ru8 p0), (7, vi64 (p0.length : Int)), (8, vi64 v.2)], [], 0⟩) (fun t : Int => (.exit 0, ⟨[(3, vu64 t)], [], 0⟩)) (conv_re [] (by kernel_rfl)) (fun _ => tv) ?_ ?_
 ·
  clear l13 h
  intro v o h
  obtain ⟨x3, x4⟩ := v
  replace h : siphash_number_l1 p0 x3 x4 = some o := h
  unfold siphash_number_l1 at h
  refine AW.sg tt_ok0 [(9, vb (decide (x4 < (p0.length : Int))))] [] [] 1 [] (by kernel_rfl) ?_
  refine AW.seq ?_
  refine AW.co h (by kernel_rfl) (fun c6 h => ?_) (fun c6 h => ?_)
  ·
   refine AW.skip (AW.tn ?_)
   refine AW.seq (AW.block ?_)
   obtain ⟨g7, g8, h⟩ := ifd h
   refine AW.sg tt_ok0 [(5, vu8 (p0.getD x4.toNat 0)), (4, vi64 x4)] [] [] 6 [hn, hq g7 g8] (by kernel_rfl) ?_
   obtain ⟨g9, h⟩ := ifc h
   obtain ⟨z10, n11, h⟩ := bnd_some h
   replace n11 := some_inj n11
   refine AW.rg tt_ok0 [(3, vu64 z10)] [] [] 14 [hn, hn, hn, hn, hn, ho g9] (by subst n11; kernel_rfl) ?_
   refine AW.inBlock_normal (AW.tn ?_)
   refine AW.rg tt_ok0 [(8, vi64 (i64.wrap (x4 + 1)))] [] [] 16 [] (by kernel_rfl) ?_
   exact lpn h (conv_re [] (by kernel_rfl))
  ·
   refine AW.exit (AW.thenQ_exit ?_)
   exact lpo h rfl (conv_re [] (by kernel_rfl))
 ·
  show (_ : Exit → St → Prop) (.exit 0) _
  refine AW.inBlock_hit (AW.tn ?_)
  refine AW.sg tt_ok0 [(2, vu64 x12)] [] [] 2 [] (by kernel_rfl) ?_
  refine AW.ret ?_
  obtain rfl := some_inj h
  exact fn0 (.inr rfl) [] 0 (vu64 x12) (by kernel_rfl)
structure S_siphash_state where
 a : Int
 b : Int
 c : Int
 d : Int
def dS_siphash_state : S_siphash_state := ⟨0, 0, 0, 0⟩
instance : Inhabited S_siphash_state := ⟨dS_siphash_state⟩
/-! math/bits.RotateLeft64 -/
noncomputable def bits_RotateLeft64 (p0 : Int) (p1 : Int) : Option Int := if 0 ≤ (iand .u64 (u64.wrap p1) 63) then (if 0 ≤ (u64.wrap (64 - (iand .u64 (u64.wrap p1) 63))) then ((some (ior .u64 (ishl .u64 p0 (iand .u64 (u64.wrap p1) 63)) (ishr .u64 p0 (u64.wrap (64 - (iand .u64 (u64.wrap p1) 63)))))).bind fun z3 => (some z3)) else none) else none
set_option maxRecDepth 100000 in
theorem bits_RotateLeft64_con (p0 : Int) (p1 : Int) (r : Int) (h : bits_RotateLeft64 p0 p1 = some r) : Con Try.prog 69 [vu64 p0, vi64 p1] [] (vu64 r) [] := by
 refine con_of tt_ok0 0 Try.func69 (by kernel_rfl) rfl (by kernel_rfl) (fun base X _ => AW.post ?_)
 unfold bits_RotateLeft64 at h
 refine AW.sg tt_ok0 [] [] [] 1 [] (by kernel_rfl) ?_
 refine AW.sg tt_ok0 [(5, vu64 (iand .u64 (u64.wrap p1) 63))] [] [] 5 [] (by kernel_rfl) ?_
 obtain ⟨g1, g2, h⟩ := ifd h
 obtain ⟨z3, n4, h⟩ := bnd_some h
 replace n4 := some_inj n4
 refine AW.sg tt_ok0 [(4, vu64 z3)] [] [] 14 [hn, hn, ho g1, hn, hn, hn, ho g2] (by subst n4; kernel_rfl) ?_
 refine AW.ret ?_
 obtain rfl := some_inj h
 exact fn0 (.inr rfl) [] 0 (vu64 z3) (by kernel_rfl)
/-! (*recordlink/siphash.state).rounds -/
noncomputable def siphash_state_rounds_l1 (p1 : Int) (x6 : Int) (x7 : Int) (x8 : Int) (x9 : Int) (x10 : Int) : Option ((Int × Int × Int × Int × Int) ⊕ (Int × Int × Int × Int)) := if (decide (x6 < p1)) = true then ((bits_RotateLeft64 x8 13).bind fun y16 => ((bits_RotateLeft64 (u64.wrap (x7 + x8)) 32).bind fun y18 => ((bits_RotateLeft64 x10 16).bind fun y20 => ((some (u64.wrap (y18 + (ixor .u64 y20 (u64.wrap (x9 + x10)))))).bind fun z22 => ((bits_RotateLeft64 (ixor .u64 y20 (u64.wrap (x9 + x10))) 21).bind fun y24 => ((some (u64.wrap ((u64.wrap (x9 + x10)) + (ixor .u64 y16 (u64.wrap (x7 + x8)))))).bind fun z26 => ((bits_RotateLeft64 (ixor .u64 y16 (u64.wrap (x7 + x8))) 17).bind fun y28 => ((bits_RotateLeft64 z26 32).bind fun y30 => (some (.inl (i64.wrap (x6 + 1), z22, ixor .u64 y28 z26, y30, ixor .u64 y24 z22))))))))))) else (some (.inr (x7, x8, x9, x10)))
noncomputable def siphash_state_rounds (p0 : S_siphash_state) (p1 : Int) : Option S_siphash_state := bind4 (loop (fun v : Int × Int × Int × Int × Int => siphash_state_rounds_l1 p1 v.1 v.2.1 v.2.2.1 v.2.2.2.1 v.2.2.2.2) (0, p0.a, p0.b, p0.c, p0.d)) fun x32 x33 x34 x35 => (some (⟨x32, x33, x34, x35⟩ : S_siphash_state))
set_option maxRecDepth 100000 in
theorem siphash_state_rounds_con (p0 : S_siphash_state) (p1 : Int) (r : S_siphash_state) (h : siphash_state_rounds p0 p1 = some r) : Con Try.prog 68 [.c (.ptr 0 4 0 0), vi64 p1] [(0, .box 87 [cu64 p0.a, cu64 p0.b, cu64 p0.c, cu64 p0.d])] (.tup []) [(0, .box 87 [cu64 r.a, cu64 r.b, cu64 r.c, cu64 r.d])] := by
 refine con_of tt_ok0 1 Try.func68 (by kernel_rfl) rfl (by kernel_rfl) (fun base X _ => AW.post ?_)
 unfold siphash_state_rounds at h
 refine AW.sg tt_ok0 [(5, vi64 0), (4, vi64 p1)] [] [] 3 [] (by kernel_rfl) ?_
 refine AW.block ?_
 obtain ⟨x32, x33, x34, x35, l36, h⟩ := bind4_some h
 refine AW.lp l36 (fun v => ⟨[(0, .c (.ptr 0 4 0 0)), (4, vi64 p1), (5, vi64 v.1)], [(0, .box 87 [cu64 v.2.1, cu64 v.2.2.1, cu64 v.2.2.2.1, cu64 v.2.2.2.2])], 1⟩) (fun t : Int × Int × Int × Int => (.exit 0, ⟨[], [(0, .box 87 [cu64 t.1, cu64 t.2.1, cu64 t.2.2.1, cu64 t.2.2.2])], 1⟩)) (conv_re [(0, 0)] (by kernel_rfl)) (fun _ => tv) ?_ ?_
 ·
  clear l36 h
  intro v o h
  obtain ⟨x6, x7, x8, x9, x10⟩ := v
  replace h : siphash_state_rounds_l1 p1 x6 x7 x8 x9 x10 = some o := h
  unfold siphash_state_rounds_l1 at h
  refine AW.sg tt_ok0 [(6, vb (decide (x6 < p1)))] [] [] 2 [] (by kernel_rfl) ?_
  refine AW.seq ?_
  refine AW.co h (by kernel_rfl) (fun c15 h => ?_) (fun c15 h => ?_)
  ·
   refine AW.skip (AW.tn ?_)
   refine AW.seq (AW.block ?_)
   refine AW.sd tt_ok0 mo0 [[], [], [], [], [], [], [], [], [], [], [], [0]] [] [(0, .box 87 [cu64 (u64.wrap (x7 + x8)), cu64 x8, cu64 x9, cu64 x10])] 14 [] (by kernel_rfl) ?_
   obtain ⟨y16, e17, h⟩ := bnd_some h
   refine AW.sd tt_ok0 mo0 [[], [], [], [], [], [], [], [], [], [], [], [], [], [0]] [] [(0, .box 87 [cu64 (u64.wrap (x7 + x8)), cu64 (ixor .u64 y16 (u64.wrap (x7 + x8))), cu64 x9, cu64 x10])] 27 [hn, hn, hn, hn, hn, hk (bits_RotateLeft64_con x8 13 y16 e17)] (by kernel_rfl) ?_
   obtain ⟨y18, e19, h⟩ := bnd_some h
   refine AW.sg tt_ok0 [] [0] [(0, .box 87 [cu64 y18, cu64 (ixor .u64 y16 (u64.wrap (x7 + x8))), cu64 x9, cu64 x10])] 35 [hn, hn, hn, hn, hn, hk (bits_RotateLeft64_con (u64.wrap (x7 + x8)) 32 y18 e19)] (by kernel_rfl) ?_
   refine AW.sd tt_ok0 mo0 [[], [], [], [], [], [], [], [], [], [], [], [0]] [] [(0, .box 87 [cu64 y18, cu64 (ixor .u64 y16 (u64.wrap (x7 + x8))), cu64 (u64.wrap (x9 + x10)), cu64 x10])] 47 [] (by kernel_rfl) ?_
   obtain ⟨y20, e21, h⟩ := bnd_some h
   refine AW.sd tt_ok0 mo0 [[], [], [], [], [], [], [], [], [], [], [], [], [], [0]] [] [(0, .box 87 [cu64 y18, cu64 (ixor .u64 y16 (u64.wrap (x7 + x8))), cu64 (u64.wrap (x9 + x10)), cu64 (ixor .u64 y20 (u64.wrap (x9 + x10)))])] 60 [hn, hn, hn, hn, hn, hk (bits_RotateLeft64_con x10 16 y20 e21)] (by kernel_rfl) ?_
   obtain ⟨z22, n23, h⟩ := bnd_some h
   replace n23 := some_inj n23
   refine AW.sd tt_ok0 mo0 [[], [], [], [], [], [], [], [], [], [], [], [0]] [] [(0, .box 87 [cu64 z22, cu64 (ixor .u64 y16 (u64.wrap (x7 + x8))), cu64 (u64.wrap (x9 + x10)), cu64 (ixor .u64 y20 (u64.wrap (x9 + x10)))])] 72 [] (by subst n23; kernel_rfl) ?_
   obtain ⟨y24, e25, h⟩ := bnd_some h
   refine AW.sd tt_ok0 mo0 [[], [], [], [], [], [], [], [], [], [], [], [], [], [0]] [] [(0, .box 87 [cu64 z22, cu64 (ixor .u64 y16 (u64.wrap (x7 + x8))), cu64 (u64.wrap (x9 + x10)), cu64 (ixor .u64 y24 z22)])] 85 [hn, hn, hn, hn, hn, hk (bits_RotateLeft64_con (ixor .u64 y20 (u64.wrap (x9 + x10))) 21 y24 e25)] (by kernel_rfl) ?_
   obtain ⟨z26, n27, h⟩ := bnd_some h
   replace n27 := some_inj n27
   refine AW.sd tt_ok0 mo0 [[], [], [], [], [], [], [], [], [], [], [], [0]] [] [(0, .box 87 [cu64 z22, cu64 (ixor .u64 y16 (u64.wrap (x7 + x8))), cu64 z26, cu64 (ixor .u64 y24 z22)])] 97 [] (by subst n27; kernel_rfl) ?_
   obtain ⟨y28, e29, h⟩ := bnd_some h
   refine AW.sd tt_ok0 mo0 [[], [], [], [], [], [], [], [], [], [], [], [], [], [0]] [] [(0, .box 87 [cu64 z22, cu64 (ixor .u64 y28 z26), cu64 z26, cu64 (ixor .u64 y24 z22)])] 110 [hn, hn, hn, hn, hn, hk (bits_RotateLeft64_con (ixor .u64 y16 (u64.wrap (x7 + x8))) 17 y28 e29)] (by kernel_rfl) ?_
   obtain ⟨y30, e31, h⟩ := bnd_some h
   refine AW.rg tt_ok0 [] [0] [(0, .box 87 [cu64 z22, cu64 (ixor .u64 y28 z26), cu64 y30, cu64 (ixor .u64 y24 z22)])] 118 [hn, hn, hn, hn, hn, hk (bits_RotateLeft64_con z26 32 y30 e31)] (by kernel_rfl) ?_
   refine AW.inBlock_normal (AW.tn ?_)
   refine AW.rg tt_ok0 [(5, vi64 (i64.wrap (x6 + 1)))] [] [] 120 [] (by kernel_rfl) ?_
   exact lpn h (conv_re [(0, 0)] (by kernel_rfl))
  ·
   refine AW.exit (AW.thenQ_exit ?_)
   exact lpo h rfl (conv_re [(0, 0)] (by kernel_rfl))
 ·
  show (_ : Exit → St → Prop) (.exit 0) _
  refine AW.inBlock_hit ?_
  obtain rfl := some_inj h
  exact fn0 (.inl rfl) [(0, 0)] 1 (.tup []) (by kernel_rfl)
/-! (*recordlink/siphash.state).word -/
noncomputable def siphash_state_word (p0 : S_siphash_state) (p1 : Int) : Option S_siphash_state := (siphash_state_rounds (⟨p0.a, p0.b, p0.c, ixor .u64 p0.d p1⟩ : S_siphash_state) 2).bind fun y1 => (some (⟨ixor .u64 y1.a p1, y1.b, y1.c, y1.d⟩ : S_siphash_state))
set_option maxRecDepth 100000 in
theorem siphash_state_word_con (p0 : S_siphash_state) (p1 : Int) (r : S_siphash_state) (h : siphash_state_word p0 p1 = some r) : Con Try.prog 66 [.c (.ptr 0 4 0 0), vu64 p1] [(0, .box 87 [cu64 p0.a, cu64 p0.b, cu64 p0.c, cu64 p0.d])] (.tup []) [(0, .box 87 [cu64 r.a, cu64 r.b, cu64 r.c, cu64 r.d])] := by
 refine con_of tt_ok0 1 Try.func66 (by kernel_rfl) rfl (by kernel_rfl) (fun base X _ => AW.post ?_)
 unfold siphash_state_word at h
 refine AW.sg tt_ok0 [] [0] [(0, .box 87 [cu64 p0.a, cu64 p0.b, cu64 p0.c, cu64 (ixor .u64 p0.d p1)])] 10 [] (by kernel_rfl) ?_
 obtain ⟨y1, e2, h⟩ := bnd_some h
 refine AW.sg tt_ok0 [] [0] [(0, .box 87 [cu64 y1.a, cu64 y1.b, cu64 y1.c, cu64 y1.d])] 11 [hn, hm [0] [] 0 (siphash_state_rounds_con (⟨p0.a, p0.b, p0.c, ixor .u64 p0.d p1⟩ : S_siphash_state) 2 y1 e2) ⟨rfl, tv⟩] (by kernel_rfl) ?_
 refine AW.rg tt_ok0 [] [0] [(0, .box 87 [cu64 (ixor .u64 y1.a p1), cu64 y1.b, cu64 y1.c, cu64 y1.d])] 20 [] (by kernel_rfl) ?_
 obtain rfl := some_inj h
 exact fn0 (.inl rfl) [(0, 0)] 1 (.tup []) (by kernel_rfl)
/-! recordlink/siphash.Sum -/
noncomputable def siphash_Sum_l1 (x6 : List Int) (x7 : Int) (x8 : Int) (x9 : Int) (x10 : Int) : Option (((List Int) × Int × Int × Int × Int) ⊕ ((List Int) × Int × Int × Int × Int)) := if (decide ((x6.length : Int) ≥ 8)) = true then (if 8 ≤ x6.length then ((siphash_number (x6.take 8)).bind fun y18 => ((siphash_state_word (⟨x7, x8, x9, x10⟩ : S_siphash_state) y18).bind fun y20 => (some (.inl (((x6.drop 8).take (x6.length - 8)), y20.a, y20.b, y20.c, y20.d))))) else none) else (some (.inr (x6, x7, x8, x9, x10)))
noncomputable def siphash_Sum (p0 : S_api_Key) (p1 : List Int) : Option Int := bind5 (loop (fun v : (List Int) × Int × Int × Int × Int => siphash_Sum_l1 v.1 v.2.1 v.2.2.1 v.2.2.2.1 v.2.2.2.2) (p1, ixor .u64 p0.A 8317987319222330741, ixor .u64 p0.B 7237128888997146477, ixor .u64 p0.A 7816392313619706465, ixor .u64 p0.B 8387220255154660723)) fun x22 x23 x24 x25 x26 => ((siphash_number x22).bind fun y27 => ((siphash_state_word (⟨x23, x24, x25, x26⟩ : S_siphash_state) (ior .u64 y27 (ishl .u64 (u64.wrap (p1.length : Int)) 56))).bind fun y29 => ((siphash_state_rounds (⟨y29.a, y29.b, ixor .u64 y29.c 255, y29.d⟩ : S_siphash_state) 4).bind fun y31 => (some (ixor .u64 (ixor .u64 (ixor .u64 y31.a y31.b) y31.c) y31.d)))))
set_option maxRecDepth 100000 in
theorem siphash_Sum_con (p0 : S_api_Key) (p1 : List Int) (r : Int) (h : siphash_Sum p0 p1 = some r) : Con Try.prog 65 [.agg [cu64 p0.A, cu64 p0.B], vl 1 Ru8 p1] [] (vu64 r) [] := by
 refine con_of tt_ok0 0 Try.func65 (by kernel_rfl) rfl (by kernel_rfl) (fun base X _ => AW.post ?_)
 unfold siphash_Sum at h
 refine AW.sg tt_ok0 [(2, .c (.ptr 0 2 0 0))] [0] [(0, .box 45 [cu64 p0.A, cu64 p0.B])] 2 [] (by kernel_rfl) ?_
 refine AW.sg tt_ok0 [(5, .c (.ptr 15 4 0 0))] [15] [(15, .box 87 [cu64 (ixor .u64 p0.A 8317987319222330741), cu64 (ixor .u64 p0.B 7237128888997146477), cu64 (ixor .u64 p0.A 7816392313619706465), cu64 (ixor .u64 p0.B 8387220255154660723)])] 17 [] (by kernel_rfl) ?_
 refine AW.sg tt_ok0 [(6, vu64 (ishl .u64 (u64.wrap (p1.length : Int)) 56))] [] [] 22 [hn, hn, hn, ho (p := 0 ≤ (56 : Int)) (by decide)] (by kernel_rfl) ?_
 refine AW.seq (AW.block ?_)
 obtain ⟨x22, x23, x24, x25, x26, l33, h⟩ := bind5_some h
 refine AW.lp l33 (fun v => ⟨[(1, vl 1 Ru8 v.1), (5, .c (.ptr 0 4 0 0)), (6, vu64 (ishl .u64 (u64.wrap (p1.length : Int)) 56))], [(0, .box 87 [cu64 v.2.1, cu64 v.2.2.1, cu64 v.2.2.2.1, cu64 v.2.2.2.2])], 1⟩) (fun t : (List Int) × Int × Int × Int × Int => (.exit 0, ⟨[(1, vl 1 Ru8 t.1), (5, .c (.ptr 0 4 0 0)), (6, vu64 (ishl .u64 (u64.wrap (p1.length : Int)) 56))], [(0, .box 87 [cu64 t.2.1, cu64 t.2.2.1, cu64 t.2.2.2.1, cu64 t.2.2.2.2])], 1⟩)) (conv_re [(0, 15)] (by kernel_rfl)) (fun _ => tv) ?_ ?_
 ·
  clear l33 h
  intro v o h
  obtain ⟨x6, x7, x8, x9, x10⟩ := v
  replace h : siphash_Sum_l1 x6 x7 x8 x9 x10 = some o := h
  unfold siphash_Sum_l1 at h
  refine AW.seq ?_
  refine AW.sg tt_ok0 [(26, vb (decide ((x6.length : Int) ≥ 8)))] [] [] 4 [] (by kernel_rfl) ?_
  refine AW.co h (by kernel_rfl) (fun c16 h => ?_) (fun c16 h => ?_)
  ·
   refine AW.skip (AW.tn ?_)
   refine AW.seq (AW.block ?_)
   obtain ⟨g17, h⟩ := ifc h
   obtain ⟨y18, e19, h⟩ := bnd_some h
   obtain ⟨y20, e21, h⟩ := bnd_some h
   refine AW.rg tt_ok0 [] [0] [(0, .box 87 [cu64 y20.a, cu64 y20.b, cu64 y20.c, cu64 y20.d])] 6 [hn, ho (p := (True) ∧ (0 ≤ (8 : Int)) ∧ (0 ≤ 8) ∧ (8 ≤ x6.length)) (⟨tv, (by decide), (Nat.zero_le _), g17⟩), hg [] [] true 0 (q := (True) ∧ (True)) ⟨tv, tv⟩ (a0 := [.c (.t (.tree 8 1 (Ru8 x6)))]) (siphash_number_con (x6.take 8) y18 e19) ⟨ArgLe.c (CAle.tree (take_row (by omega))), tv⟩ (fun _ => tv), hm [0] [] 0 (siphash_state_word_con (⟨x7, x8, x9, x10⟩ : S_siphash_state) y18 y20 e21) ⟨rfl, tv⟩] (by kernel_rfl) ?_
   refine AW.inBlock_normal (AW.tn ?_)
   refine AW.rg tt_ok0 [(1, .c (.t (.tree (x6.length - 8) 1 (fun i j => Ru8 x6 (8 + i) j))))] [] [] 9 [hn, ho (p := (0 ≤ (8 : Int)) ∧ (True) ∧ (8 ≤ x6.length) ∧ (x6.length ≤ x6.length)) (⟨(by decide), tv, g17, (Nat.le_refl _)⟩)] (by kernel_rfl) ?_
   exact lpn h (Conv.trans (conv_tms [(1, vl 1 Ru8 ((x6.drop 8).take (x6.length - 8)))] ⟨⟨.c (.t (.tree (x6.length - 8) 1 (fun i j => Ru8 x6 (8 + i) j))), by kernel_rfl, ALe.c (CAle.cle (CAle.tree (part_row (by omega))))⟩, tv⟩) (conv_re [(0, 0)] (by kernel_rfl)))
  ·
   refine AW.exit (AW.thenQ_exit ?_)
   exact lpo h rfl (conv_re [(0, 0)] (by kernel_rfl))
 ·
  show (_ : Exit → St → Prop) (.exit 0) _
  refine AW.inBlock_hit (AW.tn ?_)
  obtain ⟨y27, e28, h⟩ := bnd_some h
  obtain ⟨y29, e30, h⟩ := bnd_some h
  refine AW.sg tt_ok0 [] [0] [(0, .box 87 [cu64 y29.a, cu64 y29.b, cu64 y29.c, cu64 y29.d])] 4 [hn, hk (siphash_number_con x22 y27 e28), hn, hn, hm [0] [] 0 (siphash_state_word_con (⟨x23, x24, x25, x26⟩ : S_siphash_state) (ior .u64 y27 (ishl .u64 (u64.wrap (p1.length : Int)) 56)) y29 e30) ⟨rfl, tv⟩] (by kernel_rfl) ?_
  refine AW.sg tt_ok0 [] [0] [(0, .box 87 [cu64 y29.a, cu64 y29.b, cu64 (ixor .u64 y29.c 255), cu64 y29.d])] 9 [] (by kernel_rfl) ?_
  obtain ⟨y31, e32, h⟩ := bnd_some h
  refine AW.sg tt_ok0 [] [0] [(0, .box 87 [cu64 y31.a, cu64 y31.b, cu64 y31.c, cu64 y31.d])] 9 [hm [0] [] 0 (siphash_state_rounds_con (⟨y29.a, y29.b, ixor .u64 y29.c 255, y29.d⟩ : S_siphash_state) 4 y31 e32) ⟨rfl, tv⟩] (by kernel_rfl) ?_
  refine AW.sg tt_ok0 [(4, vu64 (ixor .u64 (ixor .u64 (ixor .u64 y31.a y31.b) y31.c) y31.d))] [] [] 21 [] (by kernel_rfl) ?_
  refine AW.ret ?_
  obtain rfl := some_inj h
  exact fn0 (.inr rfl) [] 0 (vu64 (ixor .u64 (ixor .u64 (ixor .u64 y31.a y31.b) y31.c) y31.d)) (by kernel_rfl)
/-! recordlink/siphash.Parts -/
noncomputable def siphash_Parts_l1 (p1 : List ByteArray) (x3 : List Int) (x4 : Int) : Option (((List Int) × Int) ⊕ (List Int)) := if (decide (x4 < (p1.length : Int))) = true then (if 0 ≤ x4 then (if x4 < (p1.length : Int) then (if 0 ≤ (if (65535 : Int) < (((p1.getD x4.toNat ByteArray.empty).size : Nat) : Int) then 65535 else (((p1.getD x4.toNat ByteArray.empty).size : Nat) : Int)) then (if ((if (65535 : Int) < (((p1.getD x4.toNat ByteArray.empty).size : Nat) : Int) then 65535 else (((p1.getD x4.toNat ByteArray.empty).size : Nat) : Int)).toNat) ≤ ((p1.getD x4.toNat ByteArray.empty).size) then (if x3.length + ([u8.wrap (ishr .i64 ((((p1.getD x4.toNat ByteArray.empty).extract 0 ((if (65535 : Int) < (((p1.getD x4.toNat ByteArray.empty).size : Nat) : Int) then 65535 else (((p1.getD x4.toNat ByteArray.empty).size : Nat) : Int)).toNat)).size : Nat) : Int) 8), u8.wrap ((((p1.getD x4.toNat ByteArray.empty).extract 0 ((if (65535 : Int) < (((p1.getD x4.toNat ByteArray.empty).size : Nat) : Int) then 65535 else (((p1.getD x4.toNat ByteArray.empty).size : Nat) : Int)).toNat)).size : Nat) : Int)] : List Int).length ≤ 1099511627776 then (if (x3 ++ ([u8.wrap (ishr .i64 ((((p1.getD x4.toNat ByteArray.empty).extract 0 ((if (65535 : Int) < (((p1.getD x4.toNat ByteArray.empty).size : Nat) : Int) then 65535 else (((p1.getD x4.toNat ByteArray.empty).size : Nat) : Int)).toNat)).size : Nat) : Int) 8), u8.wrap ((((p1.getD x4.toNat ByteArray.empty).extract 0 ((if (65535 : Int) < (((p1.getD x4.toNat ByteArray.empty).size : Nat) : Int) then 65535 else (((p1.getD x4.toNat ByteArray.empty).size : Nat) : Int)).toNat)).size : Nat) : Int)] : List Int)).length + ((p1.getD x4.toNat ByteArray.empty).extract 0 ((if (65535 : Int) < (((p1.getD x4.toNat ByteArray.empty).size : Nat) : Int) then 65535 else (((p1.getD x4.toNat ByteArray.empty).size : Nat) : Int)).toNat)).size ≤ 1099511627776 then (some (.inl (((x3 ++ ([u8.wrap (ishr .i64 ((((p1.getD x4.toNat ByteArray.empty).extract 0 ((if (65535 : Int) < (((p1.getD x4.toNat ByteArray.empty).size : Nat) : Int) then 65535 else (((p1.getD x4.toNat ByteArray.empty).size : Nat) : Int)).toNat)).size : Nat) : Int) 8), u8.wrap ((((p1.getD x4.toNat ByteArray.empty).extract 0 ((if (65535 : Int) < (((p1.getD x4.toNat ByteArray.empty).size : Nat) : Int) then 65535 else (((p1.getD x4.toNat ByteArray.empty).size : Nat) : Int)).toNat)).size : Nat) : Int)] : List Int)) ++ (bytesL ((p1.getD x4.toNat ByteArray.empty).extract 0 ((if (65535 : Int) < (((p1.getD x4.toNat ByteArray.empty).size : Nat) : Int) then 65535 else (((p1.getD x4.toNat ByteArray.empty).size : Nat) : Int)).toNat)))), i64.wrap (x4 + 1)))) else none) else none) else none) else none) else none) else none) else (some (.inr x3))
noncomputable def siphash_Parts (p0 : S_api_Key) (p1 : List ByteArray) : Option Int := (loop (fun v : (List Int) × Int => siphash_Parts_l1 p1 v.1 v.2) (([] : List Int), 0)).bind fun x13 => ((siphash_Sum p0 x13).bind fun y14 => (some y14))
set_option maxRecDepth 100000 in
theorem siphash_Parts_con (p0 : S_api_Key) (p1 : List ByteArray) (r : Int) (h : siphash_Parts p0 p1 = some r) : Con Try.prog 63 [.agg [cu64 p0.A, cu64 p0.B], vl 1 Rs p1] [] (vu64 r) [] := by
 refine con_of tt_ok0 0 Try.func63 (by kernel_rfl) rfl (by kernel_rfl) (fun base X _ => AW.post ?_)
 unfold siphash_Parts at h
 refine AW.sg tt_ok0 [(2, .c (.ptr 0 2 0 0))] [0] [(0, .box 45 [cu64 p0.A, cu64 p0.B])] 2 [] (by kernel_rfl) ?_
 refine AW.sg tt_ok0 [(5, .c (.t (.v (.slice none 0 0))))] [] [] 3 [] (by kernel_rfl) ?_
 refine AW.seq ?_
 refine AW.sg tt_ok0 [(10, vi64 0), (9, vi64 (p1.length : Int)), (8, vl 1 Rs p1)] [] [] 6 [] (by kernel_rfl) ?_
 refine AW.block ?_
 obtain ⟨x13, l16, h⟩ := bnd_some h
 refine AW.lp l16 (fun v => ⟨[(2, .c (.ptr 0 2 0 0)), (5, .c (.ref 1 1 0 v.1.length)), (8, vl 1 Rs p1), (9, vi64 (p1.length : Int)), (10, vi64 v.2)], [(0, .box 45 [cu64 p0.A, cu64 p0.B]), (1, .row 5 false 1 v.1.length (Ru8 v.1))], 2⟩) (fun t : List Int => (.exit 0, ⟨[(2, .c (.ptr 0 2 0 0)), (5, .c (.ref 1 1 0 t.length))], [(0, .box 45 [cu64 p0.A, cu64 p0.B]), (1, .row 5 false 1 t.length (Ru8 t))], 2⟩)) (Conv.trans (conv_adopt (t := 5) (ty := 5) (sz := 1) (n := ([] : List Int).length) (f := Ru8 ([] : List Int)) (by kernel_rfl) rfl) (conv_re [(0, 0), (1, 6)] (by kernel_rfl))) (fun _ => tv) ?_ ?_
 ·
  clear l16 h
  intro v o h
  obtain ⟨x3, x4⟩ := v
  replace h : siphash_Parts_l1 p1 x3 x4 = some o := h
  unfold siphash_Parts_l1 at h
  refine AW.sg tt_ok0 [(11, vb (decide (x4 < (p1.length : Int))))] [] [] 3 [] (by kernel_rfl) ?_
  refine AW.seq ?_
  refine AW.co h (by kernel_rfl) (fun c6 h => ?_) (fun c6 h => ?_)
  ·
   refine AW.skip (AW.tn ?_)
   refine AW.seq (AW.block ?_)
   obtain ⟨g7, g8, h⟩ := ifd h
   refine AW.sg tt_ok0 [(7, vs (p1.getD x4.toNat ByteArray.empty))] [] [] 6 [hq g7 g8] (by kernel_rfl) ?_
   obtain ⟨g9, g10, h⟩ := ifd h
   refine AW.sg tt_ok0 [(7, vs ((p1.getD x4.toNat ByteArray.empty).extract 0 ((if (65535 : Int) < (((p1.getD x4.toNat ByteArray.empty).size : Nat) : Int) then 65535 else (((p1.getD x4.toNat ByteArray.empty).size : Nat) : Int)).toNat)))] [] [] 12 [hn, hn, hn, hn, ho (p := (True) ∧ (0 ≤ (if (65535 : Int) < (((p1.getD x4.toNat ByteArray.empty).size : Nat) : Int) then 65535 else (((p1.getD x4.toNat ByteArray.empty).size : Nat) : Int))) ∧ (0 ≤ ((if (65535 : Int) < (((p1.getD x4.toNat ByteArray.empty).size : Nat) : Int) then 65535 else (((p1.getD x4.toNat ByteArray.empty).size : Nat) : Int)).toNat)) ∧ (((if (65535 : Int) < (((p1.getD x4.toNat ByteArray.empty).size : Nat) : Int) then 65535 else (((p1.getD x4.toNat ByteArray.empty).size : Nat) : Int)).toNat) ≤ ((p1.getD x4.toNat ByteArray.empty).size))) (⟨tv, g9, (Nat.zero_le _), g10⟩)] (by kernel_rfl) ?_
   obtain ⟨g11, h⟩ := ifc h
   refine AW.sg tt_ok0 [(5, .c (.ref 21 1 0 ((x3 ++ ([u8.wrap (ishr .i64 ((((p1.getD x4.toNat ByteArray.empty).extract 0 ((if (65535 : Int) < (((p1.getD x4.toNat ByteArray.empty).size : Nat) : Int) then 65535 else (((p1.getD x4.toNat ByteArray.empty).size : Nat) : Int)).toNat)).size : Nat) : Int) 8), u8.wrap ((((p1.getD x4.toNat ByteArray.empty).extract 0 ((if (65535 : Int) < (((p1.getD x4.toNat ByteArray.empty).size : Nat) : Int) then 65535 else (((p1.getD x4.toNat ByteArray.empty).size : Nat) : Int)).toNat)).size : Nat) : Int)] : List Int)).length)))] [1, 20, 21] [(21, .row 5 false 1 (x3 ++ ([u8.wrap (ishr .i64 ((((p1.getD x4.toNat ByteArray.empty).extract 0 ((if (65535 : Int) < (((p1.getD x4.toNat ByteArray.empty).size : Nat) : Int) then 65535 else (((p1.getD x4.toNat ByteArray.empty).size : Nat) : Int)).toNat)).size : Nat) : Int) 8), u8.wrap ((((p1.getD x4.toNat ByteArray.empty).extract 0 ((if (65535 : Int) < (((p1.getD x4.toNat ByteArray.empty).size : Nat) : Int) then 65535 else (((p1.getD x4.toNat ByteArray.empty).size : Nat) : Int)).toNat)).size : Nat) : Int)] : List Int)).length (Ru8 (x3 ++ ([u8.wrap (ishr .i64 ((((p1.getD x4.toNat ByteArray.empty).extract 0 ((if (65535 : Int) < (((p1.getD x4.toNat ByteArray.empty).size : Nat) : Int) then 65535 else (((p1.getD x4.toNat ByteArray.empty).size : Nat) : Int)).toNat)).size : Nat) : Int) 8), u8.wrap ((((p1.getD x4.toNat ByteArray.empty).extract 0 ((if (65535 : Int) < (((p1.getD x4.toNat ByteArray.empty).size : Nat) : Int) then 65535 else (((p1.getD x4.toNat ByteArray.empty).size : Nat) : Int)).toNat)).size : Nat) : Int)] : List Int))))] 23 [hn, hn, hn, ho (p := 0 ≤ (8 : Int)) (by decide), hn, hn, hn, hn, hlit 0 Eu8 1 (fun _ => rfl) ([u8.wrap (ishr .i64 ((((p1.getD x4.toNat ByteArray.empty).extract 0 ((if (65535 : Int) < (((p1.getD x4.toNat ByteArray.empty).size : Nat) : Int) then 65535 else (((p1.getD x4.toNat ByteArray.empty).size : Nat) : Int)).toNat)).size : Nat) : Int) 8), u8.wrap ((((p1.getD x4.toNat ByteArray.empty).extract 0 ((if (65535 : Int) < (((p1.getD x4.toNat ByteArray.empty).size : Nat) : Int) then 65535 else (((p1.getD x4.toNat ByteArray.empty).size : Nat) : Int)).toNat)).size : Nat) : Int)] : List Int), happ 0 Eu8 1 1 x3 ([u8.wrap (ishr .i64 ((((p1.getD x4.toNat ByteArray.empty).extract 0 ((if (65535 : Int) < (((p1.getD x4.toNat ByteArray.empty).size : Nat) : Int) then 65535 else (((p1.getD x4.toNat ByteArray.empty).size : Nat) : Int)).toNat)).size : Nat) : Int) 8), u8.wrap ((((p1.getD x4.toNat ByteArray.empty).extract 0 ((if (65535 : Int) < (((p1.getD x4.toNat ByteArray.empty).size : Nat) : Int) then 65535 else (((p1.getD x4.toNat ByteArray.empty).size : Nat) : Int)).toNat)).size : Nat) : Int)] : List Int) g11 (by decide)] (by kernel_rfl) ?_
   obtain ⟨g12, h⟩ := ifc h
   refine AW.rg tt_ok0 [(5, .c (.ref 25 1 0 (((x3 ++ ([u8.wrap (ishr .i64 ((((p1.getD x4.toNat ByteArray.empty).extract 0 ((if (65535 : Int) < (((p1.getD x4.toNat ByteArray.empty).size : Nat) : Int) then 65535 else (((p1.getD x4.toNat ByteArray.empty).size : Nat) : Int)).toNat)).size : Nat) : Int) 8), u8.wrap ((((p1.getD x4.toNat ByteArray.empty).extract 0 ((if (65535 : Int) < (((p1.getD x4.toNat ByteArray.empty).size : Nat) : Int) then 65535 else (((p1.getD x4.toNat ByteArray.empty).size : Nat) : Int)).toNat)).size : Nat) : Int)] : List Int)) ++ (bytesL ((p1.getD x4.toNat ByteArray.empty).extract 0 ((if (65535 : Int) < (((p1.getD x4.toNat ByteArray.empty).size : Nat) : Int) then 65535 else (((p1.getD x4.toNat ByteArray.empty).size : Nat) : Int)).toNat)))).length)))] [21, 25] [(25, .row 5 false 1 ((x3 ++ ([u8.wrap (ishr .i64 ((((p1.getD x4.toNat ByteArray.empty).extract 0 ((if (65535 : Int) < (((p1.getD x4.toNat ByteArray.empty).size : Nat) : Int) then 65535 else (((p1.getD x4.toNat ByteArray.empty).size : Nat) : Int)).toNat)).size : Nat) : Int) 8), u8.wrap ((((p1.getD x4.toNat ByteArray.empty).extract 0 ((if (65535 : Int) < (((p1.getD x4.toNat ByteArray.empty).size : Nat) : Int) then 65535 else (((p1.getD x4.toNat ByteArray.empty).size : Nat) : Int)).toNat)).size : Nat) : Int)] : List Int)) ++ (bytesL ((p1.getD x4.toNat ByteArray.empty).extract 0 ((if (65535 : Int) < (((p1.getD x4.toNat ByteArray.empty).size : Nat) : Int) then 65535 else (((p1.getD x4.toNat ByteArray.empty).size : Nat) : Int)).toNat)))).length (Ru8 ((x3 ++ ([u8.wrap (ishr .i64 ((((p1.getD x4.toNat ByteArray.empty).extract 0 ((if (65535 : Int) < (((p1.getD x4.toNat ByteArray.empty).size : Nat) : Int) then 65535 else (((p1.getD x4.toNat ByteArray.empty).size : Nat) : Int)).toNat)).size : Nat) : Int) 8), u8.wrap ((((p1.getD x4.toNat ByteArray.empty).extract 0 ((if (65535 : Int) < (((p1.getD x4.toNat ByteArray.empty).size : Nat) : Int) then 65535 else (((p1.getD x4.toNat ByteArray.empty).size : Nat) : Int)).toNat)).size : Nat) : Int)] : List Int)) ++ (bytesL ((p1.getD x4.toNat ByteArray.empty).extract 0 ((if (65535 : Int) < (((p1.getD x4.toNat ByteArray.empty).size : Nat) : Int) then 65535 else (((p1.getD x4.toNat ByteArray.empty).size : Nat) : Int)).toNat))))))] 27 [hn, hn, hr (((x3 ++ ([u8.wrap (ishr .i64 ((((p1.getD x4.toNat ByteArray.empty).extract 0 ((if (65535 : Int) < (((p1.getD x4.toNat ByteArray.empty).size : Nat) : Int) then 65535 else (((p1.getD x4.toNat ByteArray.empty).size : Nat) : Int)).toNat)).size : Nat) : Int) 8), u8.wrap ((((p1.getD x4.toNat ByteArray.empty).extract 0 ((if (65535 : Int) < (((p1.getD x4.toNat ByteArray.empty).size : Nat) : Int) then 65535 else (((p1.getD x4.toNat ByteArray.empty).size : Nat) : Int)).toNat)).size : Nat) : Int)] : List Int)) ++ (bytesL ((p1.getD x4.toNat ByteArray.empty).extract 0 ((if (65535 : Int) < (((p1.getD x4.toNat ByteArray.empty).size : Nat) : Int) then 65535 else (((p1.getD x4.toNat ByteArray.empty).size : Nat) : Int)).toNat)))).length) (Ru8 ((x3 ++ ([u8.wrap (ishr .i64 ((((p1.getD x4.toNat ByteArray.empty).extract 0 ((if (65535 : Int) < (((p1.getD x4.toNat ByteArray.empty).size : Nat) : Int) then 65535 else (((p1.getD x4.toNat ByteArray.empty).size : Nat) : Int)).toNat)).size : Nat) : Int) 8), u8.wrap ((((p1.getD x4.toNat ByteArray.empty).extract 0 ((if (65535 : Int) < (((p1.getD x4.toNat ByteArray.empty).size : Nat) : Int) then 65535 else (((p1.getD x4.toNat ByteArray.empty).size : Nat) : Int)).toNat)).size : Nat) : Int)] : List Int)) ++ (bytesL ((p1.getD x4.toNat ByteArray.empty).extract 0 ((if (65535 : Int) < (((p1.getD x4.toNat ByteArray.empty).size : Nat) : Int) then 65535 else (((p1.getD x4.toNat ByteArray.empty).size : Nat) : Int)).toNat))))) (p := ((x3 ++ ([u8.wrap (ishr .i64 ((((p1.getD x4.toNat ByteArray.empty).extract 0 ((if (65535 : Int) < (((p1.getD x4.toNat ByteArray.empty).size : Nat) : Int) then 65535 else (((p1.getD x4.toNat ByteArray.empty).size : Nat) : Int)).toNat)).size : Nat) : Int) 8), u8.wrap ((((p1.getD x4.toNat ByteArray.empty).extract 0 ((if (65535 : Int) < (((p1.getD x4.toNat ByteArray.empty).size : Nat) : Int) then 65535 else (((p1.getD x4.toNat ByteArray.empty).size : Nat) : Int)).toNat)).size : Nat) : Int)] : List Int)).length = (x3 ++ ([u8.wrap (ishr .i64 ((((p1.getD x4.toNat ByteArray.empty).extract 0 ((if (65535 : Int) < (((p1.getD x4.toNat ByteArray.empty).size : Nat) : Int) then 65535 else (((p1.getD x4.toNat ByteArray.empty).size : Nat) : Int)).toNat)).size : Nat) : Int) 8), u8.wrap ((((p1.getD x4.toNat ByteArray.empty).extract 0 ((if (65535 : Int) < (((p1.getD x4.toNat ByteArray.empty).size : Nat) : Int) then 65535 else (((p1.getD x4.toNat ByteArray.empty).size : Nat) : Int)).toNat)).size : Nat) : Int)] : List Int)).length) ∧ (True) ∧ (((x3 ++ ([u8.wrap (ishr .i64 ((((p1.getD x4.toNat ByteArray.empty).extract 0 ((if (65535 : Int) < (((p1.getD x4.toNat ByteArray.empty).size : Nat) : Int) then 65535 else (((p1.getD x4.toNat ByteArray.empty).size : Nat) : Int)).toNat)).size : Nat) : Int) 8), u8.wrap ((((p1.getD x4.toNat ByteArray.empty).extract 0 ((if (65535 : Int) < (((p1.getD x4.toNat ByteArray.empty).size : Nat) : Int) then 65535 else (((p1.getD x4.toNat ByteArray.empty).size : Nat) : Int)).toNat)).size : Nat) : Int)] : List Int)).length + ((p1.getD x4.toNat ByteArray.empty).extract 0 ((if (65535 : Int) < (((p1.getD x4.toNat ByteArray.empty).size : Nat) : Int) then 65535 else (((p1.getD x4.toNat ByteArray.empty).size : Nat) : Int)).toNat)).size ≤ 1099511627776) ∧ ((1 : Nat) ≤ 128)) ∧ ((x3 ++ ([u8.wrap (ishr .i64 ((((p1.getD x4.toNat ByteArray.empty).extract 0 ((if (65535 : Int) < (((p1.getD x4.toNat ByteArray.empty).size : Nat) : Int) then 65535 else (((p1.getD x4.toNat ByteArray.empty).size : Nat) : Int)).toNat)).size : Nat) : Int) 8), u8.wrap ((((p1.getD x4.toNat ByteArray.empty).extract 0 ((if (65535 : Int) < (((p1.getD x4.toNat ByteArray.empty).size : Nat) : Int) then 65535 else (((p1.getD x4.toNat ByteArray.empty).size : Nat) : Int)).toNat)).size : Nat) : Int)] : List Int)).length + ((p1.getD x4.toNat ByteArray.empty).extract 0 ((if (65535 : Int) < (((p1.getD x4.toNat ByteArray.empty).size : Nat) : Int) then 65535 else (((p1.getD x4.toNat ByteArray.empty).size : Nat) : Int)).toNat)).size = ((x3 ++ ([u8.wrap (ishr .i64 ((((p1.getD x4.toNat ByteArray.empty).extract 0 ((if (65535 : Int) < (((p1.getD x4.toNat ByteArray.empty).size : Nat) : Int) then 65535 else (((p1.getD x4.toNat ByteArray.empty).size : Nat) : Int)).toNat)).size : Nat) : Int) 8), u8.wrap ((((p1.getD x4.toNat ByteArray.empty).extract 0 ((if (65535 : Int) < (((p1.getD x4.toNat ByteArray.empty).size : Nat) : Int) then 65535 else (((p1.getD x4.toNat ByteArray.empty).size : Nat) : Int)).toNat)).size : Nat) : Int)] : List Int)) ++ (bytesL ((p1.getD x4.toNat ByteArray.empty).extract 0 ((if (65535 : Int) < (((p1.getD x4.toNat ByteArray.empty).size : Nat) : Int) then 65535 else (((p1.getD x4.toNat ByteArray.empty).size : Nat) : Int)).toNat)))).length ∧ ∀ i, i < ((x3 ++ ([u8.wrap (ishr .i64 ((((p1.getD x4.toNat ByteArray.empty).extract 0 ((if (65535 : Int) < (((p1.getD x4.toNat ByteArray.empty).size : Nat) : Int) then 65535 else (((p1.getD x4.toNat ByteArray.empty).size : Nat) : Int)).toNat)).size : Nat) : Int) 8), u8.wrap ((((p1.getD x4.toNat ByteArray.empty).extract 0 ((if (65535 : Int) < (((p1.getD x4.toNat ByteArray.empty).size : Nat) : Int) then 65535 else (((p1.getD x4.toNat ByteArray.empty).size : Nat) : Int)).toNat)).size : Nat) : Int)] : List Int)) ++ (bytesL ((p1.getD x4.toNat ByteArray.empty).extract 0 ((if (65535 : Int) < (((p1.getD x4.toNat ByteArray.empty).size : Nat) : Int) then 65535 else (((p1.getD x4.toNat ByteArray.empty).size : Nat) : Int)).toNat)))).length → ∀ j, j < 1 → TLe ((appRow ((x3 ++ ([u8.wrap (ishr .i64 ((((p1.getD x4.toNat ByteArray.empty).extract 0 ((if (65535 : Int) < (((p1.getD x4.toNat ByteArray.empty).size : Nat) : Int) then 65535 else (((p1.getD x4.toNat ByteArray.empty).size : Nat) : Int)).toNat)).size : Nat) : Int) 8), u8.wrap ((((p1.getD x4.toNat ByteArray.empty).extract 0 ((if (65535 : Int) < (((p1.getD x4.toNat ByteArray.empty).size : Nat) : Int) then 65535 else (((p1.getD x4.toNat ByteArray.empty).size : Nat) : Int)).toNat)).size : Nat) : Int)] : List Int)).length) (Ru8 (x3 ++ ([u8.wrap (ishr .i64 ((((p1.getD x4.toNat ByteArray.empty).extract 0 ((if (65535 : Int) < (((p1.getD x4.toNat ByteArray.empty).size : Nat) : Int) then 65535 else (((p1.getD x4.toNat ByteArray.empty).size : Nat) : Int)).toNat)).size : Nat) : Int) 8), u8.wrap ((((p1.getD x4.toNat ByteArray.empty).extract 0 ((if (65535 : Int) < (((p1.getD x4.toNat ByteArray.empty).size : Nat) : Int) then 65535 else (((p1.getD x4.toNat ByteArray.empty).size : Nat) : Int)).toNat)).size : Nat) : Int)] : List Int))) (bytesT ((p1.getD x4.toNat ByteArray.empty).extract 0 ((if (65535 : Int) < (((p1.getD x4.toNat ByteArray.empty).size : Nat) : Int) then 65535 else (((p1.getD x4.toNat ByteArray.empty).size : Nat) : Int)).toNat)))) i j) (Ru8 ((x3 ++ ([u8.wrap (ishr .i64 ((((p1.getD x4.toNat ByteArray.empty).extract 0 ((if (65535 : Int) < (((p1.getD x4.toNat ByteArray.empty).size : Nat) : Int) then 65535 else (((p1.getD x4.toNat ByteArray.empty).size : Nat) : Int)).toNat)).size : Nat) : Int) 8), u8.wrap ((((p1.getD x4.toNat ByteArray.empty).extract 0 ((if (65535 : Int) < (((p1.getD x4.toNat ByteArray.empty).size : Nat) : Int) then 65535 else (((p1.getD x4.toNat ByteArray.empty).size : Nat) : Int)).toNat)).size : Nat) : Int)] : List Int)) ++ (bytesL ((p1.getD x4.toNat ByteArray.empty).extract 0 ((if (65535 : Int) < (((p1.getD x4.toNat ByteArray.empty).size : Nat) : Int) then 65535 else (((p1.getD x4.toNat ByteArray.empty).size : Nat) : Int)).toNat)))) i j))) (⟨rfl, tv, ⟨g12, (by decide)⟩, rowT (app_row rfl (bytesL_length _) row_rfl bytesL_row)⟩)] (by kernel_rfl) ?_
   refine AW.inBlock_normal (AW.tn ?_)
   refine AW.rg tt_ok0 [(10, vi64 (i64.wrap (x4 + 1)))] [] [] 29 [] (by kernel_rfl) ?_
   exact lpn h (conv_re [(0, 0), (1, 25)] (by kernel_rfl))
  ·
   refine AW.exit (AW.thenQ_exit ?_)
   exact lpo h rfl (conv_re [(0, 0), (1, 1)] (by kernel_rfl))
 ·
  show (_ : Exit → St → Prop) (.exit 0) _
  refine AW.inBlock_hit (AW.tn ?_)
  obtain ⟨y14, e15, h⟩ := bnd_some h
  refine AW.sg tt_ok0 [(4, vu64 y14)] [] [] 5 [hn, hn, hg [] [] true 0 (q := ((True) ∧ (True) ∧ (True)) ∧ (0 + x13.length ≤ x13.length) ∧ (True)) ⟨⟨tv, tv, tv⟩, le0, tv⟩ (a0 := [.agg [cu64 p0.A, cu64 p0.B], vl 1 Ru8 x13]) (siphash_Sum_con p0 x13 y14 e15) ⟨ArgLe.refl _, ArgLe.refl _, tv⟩ (fun _ => tv)] (by kernel_rfl) ?_
  refine AW.ret ?_
  obtain rfl := some_inj h
  exact fn0 (.inr rfl) [] 0 (vu64 y14) (by kernel_rfl)
/-! recordlink/bloom.drawn -/
noncomputable def bloom_drawn (p0 : S_api_Parameters) (p1 : S_api_Key) (p2 : ByteArray) : Option (Int × Int × S_api_Parameters × Int) := (siphash_Parts p1 ([(ByteArray.mk #[49]), p2] : List ByteArray)).bind fun y1 => (if (u64.wrap p0.Length) ≠ 0 then ((siphash_Parts p1 ([(ByteArray.mk #[50]), p2] : List ByteArray)).bind fun y4 => (if (u64.wrap (i64.wrap (p0.Length - 1))) ≠ 0 then ((some (i64.wrap (1 + (i64.wrap (y4.tmod (u64.wrap (i64.wrap (p0.Length - 1)))))))).bind fun z7 => (some (i64.wrap (y1.tmod (u64.wrap p0.Length)), z7, p0, i64.wrap (y1.tmod (u64.wrap p0.Length))))) else none)) else none)
set_option maxRecDepth 100000 in
theorem bloom_drawn_con (p0 : S_api_Parameters) (p1 : S_api_Key) (p2 : ByteArray) (r : (Int × Int × S_api_Parameters × Int)) (h : bloom_drawn p0 p1 p2 = some r) : Con Try.prog 57 [.agg [ci64 p0.Length, ci64 p0.Hashes, ci64 p0.Salt], .agg [cu64 p1.A, cu64 p1.B], vs p2] [] (.clo 64 [] [.c (.ptr 0 1 0 0), .c (.ptr 1 1 0 0), .c (.ptr 2 3 0 0), .c (.ptr 3 1 0 0)]) [(0, .box 3 [ci64 r.1]), (1, .box 3 [ci64 r.2.1]), (2, .box 28 [ci64 r.2.2.1.Length, ci64 r.2.2.1.Hashes, ci64 r.2.2.1.Salt]), (3, .box 3 [ci64 r.2.2.2])] := by
 refine con_of tt_ok0 0 Try.func57 (by kernel_rfl) rfl (by kernel_rfl) (fun base X _ => AW.post ?_)
 unfold bloom_drawn at h
 refine AW.sg tt_ok0 [(4, .c (.ptr 1 2 0 0)), (3, .c (.ptr 0 3 0 0))] [0, 1] [(1, .box 45 [cu64 p1.A, cu64 p1.B]), (0, .box 28 [ci64 p0.Length, ci64 p0.Hashes, ci64 p0.Salt])] 3 [] (by kernel_rfl) ?_
 obtain ⟨y1, e2, h⟩ := bnd_some h
 obtain ⟨g3, h⟩ := ifc h
 refine AW.sd tt_ok0 mo0 [[], [], [5], [], [], [], [], [], [], [11], [11]] [(7, .c (.ptr 11 1 0 0))] [(11, .box 3 [ci64 (i64.wrap (y1.tmod (u64.wrap p0.Length)))])] 13 [hn, hn, hlit ByteArray.empty Es 1 (fun _ => rfl) ([(ByteArray.mk #[49]), p2] : List ByteArray), hg [] [] true 0 (q := ((True) ∧ (True) ∧ (True)) ∧ (0 + ([(ByteArray.mk #[49]), p2] : List ByteArray).length ≤ ([(ByteArray.mk #[49]), p2] : List ByteArray).length) ∧ (True)) ⟨⟨tv, tv, tv⟩, le0, tv⟩ (a0 := [.agg [cu64 p1.A, cu64 p1.B], vl 1 Rs ([(ByteArray.mk #[49]), p2] : List ByteArray)]) (siphash_Parts_con p1 ([(ByteArray.mk #[49]), p2] : List ByteArray) y1 e2) ⟨ArgLe.refl _, ArgLe.refl _, tv⟩ (fun _ => tv), hn, hn, hn, ho g3] (by kernel_rfl) ?_
 obtain ⟨y4, e5, h⟩ := bnd_some h
 obtain ⟨g6, h⟩ := ifc h
 obtain ⟨z7, n8, h⟩ := bnd_some h
 replace n8 := some_inj n8
 refine AW.sd tt_ok0 mo0 [[], [], [15], [], [], [], [], [], [], [], [], [23], [23]] [(8, .c (.ptr 23 1 0 0))] [(23, .box 3 [ci64 z7])] 25 [hn, hn, hlit ByteArray.empty Es 1 (fun _ => rfl) ([(ByteArray.mk #[50]), p2] : List ByteArray), hg [] [] true 0 (q := ((True) ∧ (True) ∧ (True)) ∧ (0 + ([(ByteArray.mk #[50]), p2] : List ByteArray).length ≤ ([(ByteArray.mk #[50]), p2] : List ByteArray).length) ∧ (True)) ⟨⟨tv, tv, tv⟩, le0, tv⟩ (a0 := [.agg [cu64 p1.A, cu64 p1.B], vl 1 Rs ([(ByteArray.mk #[50]), p2] : List ByteArray)]) (siphash_Parts_con p1 ([(ByteArray.mk #[50]), p2] : List ByteArray) y4 e5) ⟨ArgLe.refl _, ArgLe.refl _, tv⟩ (fun _ => tv), hn, hn, hn, hn, ho g6] (by subst n8; kernel_rfl) ?_
 refine AW.sg tt_ok0 [(9, .c (.ptr 26 1 0 0))] [26] [(26, .box 3 [ci64 (i64.wrap (y1.tmod (u64.wrap p0.Length)))])] 28 [] (by kernel_rfl) ?_
 refine AW.sg tt_ok0 [(6, .clo 64 [] [.c (.ptr 26 1 0 0), .c (.ptr 23 1 0 0), .c (.ptr 0 3 0 0), .c (.ptr 11 1 0 0)])] [] [] 30 [] (by kernel_rfl) ?_
 refine AW.ret ?_
 obtain rfl := some_inj h
 exact fn0 (.inr rfl) [(0, 26), (1, 23), (2, 0), (3, 11)] 4 (.clo 64 [] [.c (.ptr 26 1 0 0), .c (.ptr 23 1 0 0), .c (.ptr 0 3 0 0), .c (.ptr 11 1 0 0)]) (by kernel_rfl)
/-! recordlink/bloom.drawn$1 -/
noncomputable def bloom_drawn_f1 (pc0 : Int) (pc1 : Int) (pc2 : S_api_Parameters) (pc3 : Int) : Option (Int × Int × Int × S_api_Parameters × Int) := if pc2.Length ≠ 0 then (some (pc0, ((i64.wrap (pc0 + pc1)).tmod pc2.Length), pc1, pc2, pc0)) else none
set_option maxRecDepth 100000 in
theorem bloom_drawn_f1_con (pc0 : Int) (pc1 : Int) (pc2 : S_api_Parameters) (pc3 : Int) (r : Int × Int × Int × S_api_Parameters × Int) (h : bloom_drawn_f1 pc0 pc1 pc2 pc3 = some r) : Con Try.prog 64 [.c (.ptr 0 1 0 0), .c (.ptr 1 1 0 0), .c (.ptr 2 3 0 0), .c (.ptr 3 1 0 0)] [(0, .box 3 [ci64 pc0]), (1, .box 3 [ci64 pc1]), (2, .box 28 [ci64 pc2.Length, ci64 pc2.Hashes, ci64 pc2.Salt]), (3, .box 3 [ci64 pc3])] (vi64 r.1) [(0, .box 3 [ci64 r.2.1]), (1, .box 3 [ci64 r.2.2.1]), (2, .box 28 [ci64 r.2.2.2.1.Length, ci64 r.2.2.2.1.Hashes, ci64 r.2.2.2.1.Salt]), (3, .box 3 [ci64 r.2.2.2.2])] := by
 refine con_of tt_ok0 4 Try.func64 (by kernel_rfl) rfl (by kernel_rfl) (fun base X _ => AW.post ?_)
 unfold bloom_drawn_f1 at h
 refine AW.sg tt_ok0 [] [] [] 5 [] (by kernel_rfl) ?_
 obtain ⟨g1, h⟩ := ifc h
 refine AW.sd tt_ok0 mo0 [[], [], [], [], [], [], [], [3], [0]] [] [(0, .box 3 [ci64 ((i64.wrap (pc0 + pc1)).tmod pc2.Length)]), (3, .box 3 [ci64 pc0])] 14 [hn, hn, hn, hn, hn, hn, ho g1] (by kernel_rfl) ?_
 refine AW.sg tt_ok0 [(4, vi64 pc0)] [] [] 16 [] (by kernel_rfl) ?_
 refine AW.ret ?_
 obtain rfl := some_inj h
 exact fn0 (.inr rfl) [(0, 0), (1, 1), (2, 2), (3, 3)] 4 (vi64 pc0) (by kernel_rfl)
/-! recordlink/bloom.Positions -/
noncomputable def bloom_Positions_l1 (p0 : S_api_Parameters) (x16 : List Int) (x17 : Int) (x18 : Int) (x19 : Int) (x20 : Int) (x21 : Int) (x22 : Int) (x23 : Int) : Option (((List Int) × Int × Int × Int × Int × Int × Int × Int) ⊕ (List Int)) := if (decide (x17 < (((List.replicate p0.Hashes.toNat (0 : Int)).length : Nat) : Int))) = true then (bind5 (bloom_drawn_f1 x18 x19 (⟨x20, x21, x22⟩ : S_api_Parameters) x23) fun y26 y27 y28 y29 y30 => (if 0 ≤ x17 then (if x17 < (x16.length : Int) then (some (.inl ((x16.set (0 + x17.toNat) y26), i64.wrap (x17 + 1), y27, y28, y29.Length, y29.Hashes, y29.Salt, y30))) else none) else none)) else (some (.inr x16))
noncomputable def bloom_Positions (p0 : S_api_Parameters) (p1 : S_api_Key) (p2 : ByteArray) : Option ((List Int) × Int) := (bloom_Check p0).bind fun y1 => (if (y1 != 0) = true then (some (([] : List Int), y1)) else (if 0 ≤ p0.Hashes then (if p0.Hashes ≤ 1099511627776 then ((bloom_drawn p0 p1 p2).bind fun y6 => ((loop (fun v : (List Int) × Int × Int × Int × Int × Int × Int × Int => bloom_Positions_l1 p0 v.1 v.2.1 v.2.2.1 v.2.2.2.1 v.2.2.2.2.1 v.2.2.2.2.2.1 v.2.2.2.2.2.2.1 v.2.2.2.2.2.2.2) ((List.replicate p0.Hashes.toNat (0 : Int)), 0, y6.1, y6.2.1, y6.2.2.1.Length, y6.2.2.1.Hashes, y6.2.2.1.Salt, y6.2.2.2)).bind fun x34 => (some (x34, 0)))) else none) else none))
set_option maxRecDepth 100000 in
theorem bloom_Positions_con (p0 : S_api_Parameters) (p1 : S_api_Key) (p2 : ByteArray) (r : (List Int) × Int) (h : bloom_Positions p0 p1 p2 = some r) : Con Try.prog 35 [.agg [ci64 p0.Length, ci64 p0.Hashes, ci64 p0.Salt], .agg [cu64 p1.A, cu64 p1.B], vs p2] [] (.tup [.c (.ref 0 1 0 r.1.length), vi64 r.2]) [(0, .row 3 false 1 r.1.length (Ri64 r.1))] := by
 refine con_of tt_ok0 0 Try.func35 (by kernel_rfl) rfl (by kernel_rfl) (fun base X _ => AW.post ?_)
 unfold bloom_Positions at h
 refine AW.sg tt_ok0 [(4, .c (.ptr 1 2 0 0)), (3, .c (.ptr 0 3 0 0))] [0, 1] [(1, .box 45 [cu64 p1.A, cu64 p1.B]), (0, .box 28 [ci64 p0.Length, ci64 p0.Hashes, ci64 p0.Salt])] 4 [] (by kernel_rfl) ?_
 refine AW.seq ?_
 obtain ⟨y1, e2, h⟩ := bnd_some h
 refine AW.sg tt_ok0 [(8, vi64 y1)] [] [] 6 [hn, hk (bloom_Check_con p0 y1 e2)] (by kernel_rfl) ?_
 refine AW.sg tt_ok0 [(15, vb (y1 != 0))] [] [] 8 [] (by kernel_rfl) ?_
 refine AW.co h (by kernel_rfl) (fun c3 h => ?_) (fun c3 h => ?_)
 ·
  refine AW.sg tt_ok0 [(7, vi64 y1), (6, .c (.t (.v (.slice none 0 0))))] [] [] 11 [] (by kernel_rfl) ?_
  refine AW.ret (AW.tr ?_)
  obtain rfl := some_inj h
  exact fnR (.inr rfl) [(0, 11)] 1 (.tup [.c (.ref 11 1 0 (([] : List Int).length)), vi64 y1]) (conv_adopt (t := 6) (ty := 3) (sz := 1) (n := ([] : List Int).length) (f := Ri64 ([] : List Int)) (by kernel_rfl) rfl) (by kernel_rfl)
 ·
  refine AW.skip (AW.tn ?_)
  obtain ⟨g4, g5, h⟩ := ifd h
  obtain ⟨y6, e7, h⟩ := bnd_some h
  refine AW.sd tt_ok0 mo0 [[], [], [10], [], [], [], [14, 15, 16, 17]] [(10, .clo 64 [] [.c (.ptr 14 1 0 0), .c (.ptr 15 1 0 0), .c (.ptr 16 3 0 0), .c (.ptr 17 1 0 0)]), (9, .c (.ref 10 1 0 ((List.replicate p0.Hashes.toNat (0 : Int)).length)))] [(14, .box 3 [ci64 y6.1]), (15, .box 3 [ci64 y6.2.1]), (16, .box 28 [ci64 y6.2.2.1.Length, ci64 y6.2.2.1.Hashes, ci64 y6.2.2.1.Salt]), (17, .box 3 [ci64 y6.2.2.2]), (10, .row 3 false 1 (List.replicate p0.Hashes.toNat (0 : Int)).length (Ri64 (List.replicate p0.Hashes.toNat (0 : Int))))] 20 [hn, hn, hmk 0 Ei64 1 8 [.int .i64 0] rfl rfl p0.Hashes p0.Hashes g4 (Int.le_refl _) g5 (by decide), hn, hn, hn, hm [] [] 4 (bloom_drawn_con p0 p1 p2 y6 e7) ⟨rfl, rfl, rfl, rfl, tv⟩] (by kernel_rfl) ?_
  refine AW.seq ?_
  refine AW.sg tt_ok0 [(26, vi64 0), (25, vi64 (((List.replicate p0.Hashes.toNat (0 : Int)).length : Nat) : Int))] [] [] 23 [] (by kernel_rfl) ?_
  refine AW.block ?_
  obtain ⟨x34, l35, h⟩ := bnd_some h
  refine AW.lp l35 (fun v => ⟨[(9, .c (.ref 0 1 0 v.1.length)), (10, .clo 64 [] [.c (.ptr 1 1 0 0), .c (.ptr 2 1 0 0), .c (.ptr 3 3 0 0), .c (.ptr 4 1 0 0)]), (25, vi64 (((List.replicate p0.Hashes.toNat (0 : Int)).length : Nat) : Int)), (26, vi64 v.2.1)], [(0, .row 3 false 1 v.1.length (Ri64 v.1)), (1, .box 3 [ci64 v.2.2.1]), (2, .box 3 [ci64 v.2.2.2.1]), (3, .box 28 [ci64 v.2.2.2.2.1, ci64 v.2.2.2.2.2.1, ci64 v.2.2.2.2.2.2.1]), (4, .box 3 [ci64 v.2.2.2.2.2.2.2])], 5⟩) (fun t : List Int => (.exit 0, ⟨[(9, .c (.ref 0 1 0 t.length))], [(0, .row 3 false 1 t.length (Ri64 t))], 1⟩)) (conv_re [(0, 10), (1, 14), (2, 15), (3, 16), (4, 17)] (by kernel_rfl)) (fun _ => tv) ?_ ?_
  ·
   clear l35 h
   intro v o h
   obtain ⟨x16, x17, x18, x19, x20, x21, x22, x23⟩ := v
   replace h : bloom_Positions_l1 p0 x16 x17 x18 x19 x20 x21 x22 x23 = some o := h
   unfold bloom_Positions_l1 at h
   refine AW.sg tt_ok0 [(27, vb (decide (x17 < (((List.replicate p0.Hashes.toNat (0 : Int)).length : Nat) : Int))))] [] [] 6 [] (by kernel_rfl) ?_
   refine AW.seq ?_
   refine AW.co h (by kernel_rfl) (fun c25 h => ?_) (fun c25 h => ?_)
   ·
    refine AW.skip (AW.tn ?_)
    refine AW.seq (AW.block ?_)
    refine AW.sg tt_ok0 [(11, vi64 x17)] [] [] 8 [] (by kernel_rfl) ?_
    obtain ⟨y26, y27, y28, y29, y30, e31, h⟩ := bind5_some h
    obtain ⟨g32, g33, h⟩ := ifd h
    refine AW.rg tt_ok0 [] [0, 1, 2, 3, 4] [(0, .row 3 false 1 x16.length (Ri64 (x16.set (0 + x17.toNat) y26))), (1, .box 3 [ci64 y27]), (2, .box 3 [ci64 y28]), (3, .box 28 [ci64 y29.Length, ci64 y29.Hashes, ci64 y29.Salt]), (4, .box 3 [ci64 y30])] 13 [hn, hn, hn, hm [1, 2, 3, 4] [] 0 (bloom_drawn_f1_con x18 x19 (⟨x20, x21, x22⟩ : S_api_Parameters) x23 (y26, y27, y28, y29, y30) e31) ⟨rfl, rfl, rfl, rfl, tv⟩, hq g32 g33, hset 0 Ei64 x16 (0 + x17.toNat) y26 (n := x16.length) (by have h1 : 0 ≤ x17 := g32; have h2 : x17 < (x16.length : Int) := g33; omega) rfl] (by kernel_rfl) ?_
    refine AW.inBlock_normal (AW.tn ?_)
    refine AW.rg tt_ok0 [(26, vi64 (i64.wrap (x17 + 1)))] [] [] 15 [] (by kernel_rfl) ?_
    exact lpn h (Conv.trans (conv_tms [(9, .c (.ref 0 1 0 ((x16.set (0 + x17.toNat) y26).length)))] ⟨⟨.c (.ref 0 1 0 x16.length), by kernel_rfl, ALe.len (by simp only [List.length_set])⟩, tv⟩) (Conv.trans (conv_rowN 0 3 false 1 x16.length ((x16.set (0 + x17.toNat) y26).length) (Ri64 (x16.set (0 + x17.toNat) y26)) (by kernel_rfl) (by simp only [List.length_set])) (conv_re [(0, 0), (1, 1), (2, 2), (3, 3), (4, 4)] (by kernel_rfl))))
   ·
    refine AW.exit (AW.thenQ_exit ?_)
    exact lpo h rfl (conv_re [(0, 0)] (by kernel_rfl))
  ·
   show (_ : Exit → St → Prop) (.exit 0) _
   refine AW.inBlock_hit (AW.tn ?_)
   refine AW.sg tt_ok0 [(7, vi64 0), (6, .c (.ref 0 1 0 x34.length))] [] [] 4 [] (by kernel_rfl) ?_
   refine AW.ret ?_
   obtain rfl := some_inj h
   exact fn0 (.inr rfl) [(0, 0)] 1 (.tup [.c (.ref 0 1 0 x34.length), vi64 0]) (by kernel_rfl)
/-! recordlink/bloom.Encode -/
noncomputable def bloom_Encode_l2 (y16 : List Int) (x21 : Int) (x22 : List Int) : Option ((Int × (List Int)) ⊕ (List Int)) := if (decide (x21 < (y16.length : Int))) = true then (if 0 ≤ x21 then (if x21 < (y16.length : Int) then (if 0 ≤ (i64.wrap ((y16.getD (0 + x21.toNat) 0).tdiv 64)) then (if (i64.wrap ((y16.getD (0 + x21.toNat) 0).tdiv 64)) < (x22.length : Int) then (if 0 ≤ ((y16.getD (0 + x21.toNat) 0).tmod 64) then (some (.inl (i64.wrap (x21 + 1), (x22.set (0 + (i64.wrap ((y16.getD (0 + x21.toNat) 0).tdiv 64)).toNat) (ior .u64 (x22.getD (0 + (i64.wrap ((y16.getD (0 + x21.toNat) 0).tdiv 64)).toNat) 0) (ishl .u64 1 ((y16.getD (0 + x21.toNat) 0).tmod 64))))))) else none) else none) else none) else none) else none) else (some (.inr x22))
noncomputable def bloom_Encode_l1 (p0 : S_api_Parameters) (p1 : S_api_Key) (p2 : List ByteArray) (x10 : Int) (x11 : List Int) : Option ((Int × (List Int)) ⊕ (List Int)) := if (decide (x10 < (p2.length : Int))) = true then (if 0 ≤ x10 then (if x10 < (p2.length : Int) then (bind2 (bloom_Positions p0 p1 (p2.getD x10.toNat ByteArray.empty)) fun y16 y17 => ((loop (fun v : Int × (List Int) => bloom_Encode_l2 y16 v.1 v.2) (0, x11)).bind fun x30 => (some (.inl (i64.wrap (x10 + 1), x30))))) else none) else none) else (some (.inr x11))
noncomputable def bloom_Encode (p0 : S_api_Parameters) (p1 : S_api_Key) (p2 : List ByteArray) : Option (S_api_Bits × Int) := (bloom_Check p0).bind fun y1 => (if (y1 != 0) = true then (some ((⟨0, ([] : List Int)⟩ : S_api_Bits), y1)) else (if (decide ((p2.length : Int) > 80)) = true then (some ((⟨0, ([] : List Int)⟩ : S_api_Bits), 1)) else (bind2 (bitset_New p0.Length) fun y5 y6 => ((loop (fun v : Int × (List Int) => bloom_Encode_l1 p0 p1 p2 v.1 v.2) (0, y5.Words)).bind fun x32 => (some ((⟨y5.Length, x32⟩ : S_api_Bits), 0))))))
set_option maxRecDepth 100000 in
theorem bloom_Encode_con (p0 : S_api_Parameters) (p1 : S_api_Key) (p2 : List ByteArray) (r : S_api_Bits × Int) (h : bloom_Encode p0 p1 p2 = some r) : Con Try.prog 30 [.agg [ci64 p0.Length, ci64 p0.Hashes, ci64 p0.Salt], .agg [cu64 p1.A, cu64 p1.B], vl 1 Rs p2] [] (.tup [.agg [ci64 r.1.Length, .ref 0 1 0 r.1.Words.length], vi64 r.2]) [(0, .row 43 false 1 r.1.Words.length (Ru64 r.1.Words))] := by
 refine con_of tt_ok0 0 Try.func30 (by kernel_rfl) rfl (by kernel_rfl) (fun base X _ => AW.post ?_)
 unfold bloom_Encode at h
 refine AW.sg tt_ok0 [(6, .c (.ptr 2 2 0 0)), (4, .c (.ptr 1 2 0 0)), (3, .c (.ptr 0 3 0 0))] [0, 1, 2] [(2, .box 51 [ci64 0, .t (.v (.slice none 0 0))]), (1, .box 45 [cu64 p1.A, cu64 p1.B]), (0, .box 28 [ci64 p0.Length, ci64 p0.Hashes, ci64 p0.Salt])] 4 [] (by kernel_rfl) ?_
 refine AW.seq ?_
 obtain ⟨y1, e2, h⟩ := bnd_some h
 refine AW.sg tt_ok0 [(8, vi64 y1)] [] [] 6 [hn, hk (bloom_Check_con p0 y1 e2)] (by kernel_rfl) ?_
 refine AW.sg tt_ok0 [(20, vb (y1 != 0))] [] [] 8 [] (by kernel_rfl) ?_
 refine AW.co h (by kernel_rfl) (fun c3 h => ?_) (fun c3 h => ?_)
 ·
  refine AW.sg tt_ok0 [(7, vi64 y1)] [2] [(2, .box 51 [ci64 0, .t (.v (.slice none 0 0))])] 12 [] (by kernel_rfl) ?_
  refine AW.ret (AW.tr ?_)
  obtain rfl := some_inj h
  exact fnR (.inr rfl) [(0, 12)] 1 (.tup [.agg [ci64 0, .ref 12 1 0 (([] : List Int).length)], vi64 y1]) (conv_adoptB (id := 2) (ty0 := 51) (cs := [ci64 0, .t (.v (.slice none 0 0))]) 1 (ty := 43) (sz := 1) (n := ([] : List Int).length) (f := Ru64 ([] : List Int)) (by kernel_rfl) (by kernel_rfl) rfl) (by kernel_rfl)
 ·
  refine AW.skip (AW.tn (AW.seq ?_))
  refine AW.sg tt_ok0 [(25, vb (decide ((p2.length : Int) > 80)))] [] [] 11 [] (by kernel_rfl) ?_
  refine AW.co h (by kernel_rfl) (fun c4 h => ?_) (fun c4 h => ?_)
  ·
   refine AW.sg tt_ok0 [(7, vi64 1)] [2] [(2, .box 51 [ci64 0, .t (.v (.slice none 0 0))])] 14 [] (by kernel_rfl) ?_
   refine AW.ret (AW.tr ?_)
   obtain rfl := some_inj h
   exact fnR (.inr rfl) [(0, 14)] 1 (.tup [.agg [ci64 0, .ref 14 1 0 (([] : List Int).length)], vi64 1]) (conv_adoptB (id := 2) (ty0 := 51) (cs := [ci64 0, .t (.v (.slice none 0 0))]) 1 (ty := 43) (sz := 1) (n := ([] : List Int).length) (f := Ru64 ([] : List Int)) (by kernel_rfl) (by kernel_rfl) rfl) (by kernel_rfl)
  ·
   refine AW.skip (AW.tn ?_)
   obtain ⟨y5, y6, e7, h⟩ := bind2_some h
   refine AW.sg tt_ok0 [(9, .c (.ptr 17 2 0 0))] [13, 17] [(17, .box 51 [ci64 y5.Length, .ref 13 1 0 y5.Words.length]), (13, .row 43 false 1 y5.Words.length (Ru64 y5.Words))] 20 [hn, hn, hm [] [] 1 (bitset_New_con p0.Length (y5, y6) e7) ⟨rowL_flat Vu64 _ _ _, tv⟩] (by kernel_rfl) ?_
   refine AW.seq ?_
   refine AW.sg tt_ok0 [(35, vi64 0), (34, vi64 (p2.length : Int)), (33, vl 1 Rs p2)] [] [] 23 [] (by kernel_rfl) ?_
   refine AW.block ?_
   obtain ⟨x32, l33, h⟩ := bnd_some h
   refine AW.lp l33 (fun v => ⟨[(3, .c (.ptr 0 3 0 0)), (4, .c (.ptr 1 2 0 0)), (6, .c (.ptr 2 2 0 0)), (9, .c (.ptr 3 2 0 0)), (33, vl 1 Rs p2), (34, vi64 (p2.length : Int)), (35, vi64 v.1)], [(0, .box 28 [ci64 p0.Length, ci64 p0.Hashes, ci64 p0.Salt]), (1, .box 45 [cu64 p1.A, cu64 p1.B]), (2, .box 51 [ci64 0, .t (.v (.slice none 0 0))]), (3, .box 51 [ci64 y5.Length, .ref 4 1 0 v.2.length]), (4, .row 43 false 1 v.2.length (Ru64 v.2))], 5⟩) (fun t : List Int => (.exit 0, ⟨[(6, .c (.ptr 0 2 0 0)), (9, .c (.ptr 1 2 0 0))], [(0, .box 51 [ci64 0, .t (.v (.slice none 0 0))]), (1, .box 51 [ci64 y5.Length, .ref 2 1 0 t.length]), (2, .row 43 false 1 t.length (Ru64 t))], 3⟩)) (conv_re [(0, 0), (1, 1), (2, 2), (3, 17), (4, 13)] (by kernel_rfl)) (fun _ => tv) ?_ ?_
   ·
    clear l33 h
    intro v o h
    obtain ⟨x10, x11⟩ := v
    replace h : bloom_Encode_l1 p0 p1 p2 x10 x11 = some o := h
    unfold bloom_Encode_l1 at h
    refine AW.sg tt_ok0 [(36, vb (decide (x10 < (p2.length : Int))))] [] [] 6 [] (by kernel_rfl) ?_
    refine AW.seq ?_
    refine AW.co h (by kernel_rfl) (fun c13 h => ?_) (fun c13 h => ?_)
    ·
     refine AW.skip (AW.tn ?_)
     refine AW.seq (AW.block ?_)
     obtain ⟨g14, g15, h⟩ := ifd h
     refine AW.sg tt_ok0 [(12, vs (p2.getD x10.toNat ByteArray.empty))] [] [] 9 [hq g14 g15] (by kernel_rfl) ?_
     obtain ⟨y16, y17, e18, h⟩ := bind2_some h
     refine AW.sg tt_ok0 [(13, .c (.ref 12 1 0 y16.length))] [12] [(12, .row 3 false 1 y16.length (Ri64 y16))] 18 [hn, hn, hn, hm [] [] 1 (bloom_Positions_con p0 p1 (p2.getD x10.toNat ByteArray.empty) (y16, y17) e18) ⟨rowL_flat Vi64 _ _ _, tv⟩] (by kernel_rfl) ?_
     refine AW.sg tt_ok0 [(48, vi64 0), (47, vi64 (y16.length : Int)), (46, .c (.ref 12 1 0 y16.length))] [] [] 21 [] (by kernel_rfl) ?_
     refine AW.block ?_
     obtain ⟨x30, l31, h⟩ := bnd_some h
     refine AW.lp l31 (fun v => ⟨[(3, .c (.ptr 0 3 0 0)), (4, .c (.ptr 1 2 0 0)), (6, .c (.ptr 2 2 0 0)), (9, .c (.ptr 3 2 0 0)), (33, vl 1 Rs p2), (34, vi64 (p2.length : Int)), (35, vi64 x10), (46, .c (.ref 4 1 0 y16.length)), (47, vi64 (y16.length : Int)), (48, vi64 v.1)], [(0, .box 28 [ci64 p0.Length, ci64 p0.Hashes, ci64 p0.Salt]), (1, .box 45 [cu64 p1.A, cu64 p1.B]), (2, .box 51 [ci64 0, .t (.v (.slice none 0 0))]), (3, .box 51 [ci64 y5.Length, .ref 5 1 0 v.2.length]), (4, .row 3 false 1 y16.length (Ri64 y16)), (5, .row 43 false 1 v.2.length (Ru64 v.2))], 6⟩) (fun t : List Int => (.exit 2, ⟨[(3, .c (.ptr 0 3 0 0)), (4, .c (.ptr 1 2 0 0)), (6, .c (.ptr 2 2 0 0)), (9, .c (.ptr 3 2 0 0)), (33, vl 1 Rs p2), (34, vi64 (p2.length : Int)), (35, vi64 x10)], [(0, .box 28 [ci64 p0.Length, ci64 p0.Hashes, ci64 p0.Salt]), (1, .box 45 [cu64 p1.A, cu64 p1.B]), (2, .box 51 [ci64 0, .t (.v (.slice none 0 0))]), (3, .box 51 [ci64 y5.Length, .ref 4 1 0 t.length]), (4, .row 43 false 1 t.length (Ru64 t))], 5⟩)) (conv_re [(0, 0), (1, 1), (2, 2), (3, 3), (4, 12), (5, 4)] (by kernel_rfl)) (fun _ => tv) ?_ ?_
     ·
      clear l31 h
      intro v o h
      obtain ⟨x21, x22⟩ := v
      replace h : bloom_Encode_l2 y16 x21 x22 = some o := h
      unfold bloom_Encode_l2 at h
      refine AW.sg tt_ok0 [(49, vb (decide (x21 < (y16.length : Int))))] [] [] 7 [] (by kernel_rfl) ?_
      refine AW.seq ?_
      refine AW.co h (by kernel_rfl) (fun c24 h => ?_) (fun c24 h => ?_)
      ·
       refine AW.skip (AW.tn ?_)
       refine AW.seq (AW.block ?_)
       obtain ⟨g25, g26, h⟩ := ifd h
       refine AW.sg tt_ok0 [(16, vi64 (y16.getD (0 + x21.toNat) 0))] [] [] 10 [hq g25 g26, ho (p := (0 + x21.toNat) < y16.length) (by have h1 : 0 ≤ x21 := g25; have h2 : x21 < (y16.length : Int) := g26; omega)] (by kernel_rfl) ?_
       obtain ⟨g27, g28, h⟩ := ifd h
       obtain ⟨g29, h⟩ := ifc h
       refine AW.rd tt_ok0 mo0 [[], [], [], [], [], [], [], [], [], [], [], [5]] [] [(5, .row 43 false 1 x22.length (Ru64 (x22.set (0 + (i64.wrap ((y16.getD (0 + x21.toNat) 0).tdiv 64)).toNat) (ior .u64 (x22.getD (0 + (i64.wrap ((y16.getD (0 + x21.toNat) 0).tdiv 64)).toNat) 0) (ishl .u64 1 ((y16.getD (0 + x21.toNat) 0).tmod 64))))))] 22 [hn, hn, hn, ho (p := (64 : Int) ≠ 0) (by decide), hq g27 g28, ho (p := (0 + (i64.wrap ((y16.getD (0 + x21.toNat) 0).tdiv 64)).toNat) < x22.length) (by have h1 : 0 ≤ (i64.wrap ((y16.getD (0 + x21.toNat) 0).tdiv 64)) := g27; have h2 : (i64.wrap ((y16.getD (0 + x21.toNat) 0).tdiv 64)) < (x22.length : Int) := g28; omega), hn, ho (p := (64 : Int) ≠ 0) (by decide), ho g29, hn, hq g27 g28, hset 0 Eu64 x22 (0 + (i64.wrap ((y16.getD (0 + x21.toNat) 0).tdiv 64)).toNat) (ior .u64 (x22.getD (0 + (i64.wrap ((y16.getD (0 + x21.toNat) 0).tdiv 64)).toNat) 0) (ishl .u64 1 ((y16.getD (0 + x21.toNat) 0).tmod 64))) (n := x22.length) (by have h1 : 0 ≤ (i64.wrap ((y16.getD (0 + x21.toNat) 0).tdiv 64)) := g27; have h2 : (i64.wrap ((y16.getD (0 + x21.toNat) 0).tdiv 64)) < (x22.length : Int) := g28; omega) rfl] (by kernel_rfl) ?_
       refine AW.inBlock_normal (AW.tn ?_)
       refine AW.rg tt_ok0 [(48, vi64 (i64.wrap (x21 + 1)))] [] [] 24 [] (by kernel_rfl) ?_
       exact lpn h (Conv.trans (conv_re (S' := ⟨[(48, vi64 (i64.wrap (x21 + 1))), (3, .c (.ptr 0 3 0 0)), (4, .c (.ptr 1 2 0 0)), (6, .c (.ptr 2 2 0 0)), (9, .c (.ptr 3 2 0 0)), (33, vl 1 Rs p2), (34, vi64 (p2.length : Int)), (35, vi64 x10), (46, .c (.ref 4 1 0 y16.length)), (47, vi64 (y16.length : Int))], [(5, .row 43 false 1 x22.length (Ru64 (x22.set (0 + (i64.wrap ((y16.getD (0 + x21.toNat) 0).tdiv 64)).toNat) (ior .u64 (x22.getD (0 + (i64.wrap ((y16.getD (0 + x21.toNat) 0).tdiv 64)).toNat) 0) (ishl .u64 1 ((y16.getD (0 + x21.toNat) 0).tmod 64)))))), (0, .box 28 [ci64 p0.Length, ci64 p0.Hashes, ci64 p0.Salt]), (1, .box 45 [cu64 p1.A, cu64 p1.B]), (2, .box 51 [ci64 0, .t (.v (.slice none 0 0))]), (3, .box 51 [ci64 y5.Length, .ref 5 1 0 x22.length]), (4, .row 3 false 1 y16.length (Ri64 y16))], 24⟩) [(5, 5), (0, 0), (1, 1), (2, 2), (3, 3), (4, 4)] (by kernel_rfl)) (Conv.trans (conv_len (S' := ⟨[(48, vi64 (i64.wrap (x21 + 1))), (3, .c (.ptr 0 3 0 0)), (4, .c (.ptr 1 2 0 0)), (6, .c (.ptr 2 2 0 0)), (9, .c (.ptr 3 2 0 0)), (33, vl 1 Rs p2), (34, vi64 (p2.length : Int)), (35, vi64 x10), (46, .c (.ref 4 1 0 y16.length)), (47, vi64 (y16.length : Int))], [(5, .row 43 false 1 (x22.set (0 + (i64.wrap ((y16.getD (0 + x21.toNat) 0).tdiv 64)).toNat) (ior .u64 (x22.getD (0 + (i64.wrap ((y16.getD (0 + x21.toNat) 0).tdiv 64)).toNat) 0) (ishl .u64 1 ((y16.getD (0 + x21.toNat) 0).tmod 64)))).length (Ru64 (x22.set (0 + (i64.wrap ((y16.getD (0 + x21.toNat) 0).tdiv 64)).toNat) (ior .u64 (x22.getD (0 + (i64.wrap ((y16.getD (0 + x21.toNat) 0).tdiv 64)).toNat) 0) (ishl .u64 1 ((y16.getD (0 + x21.toNat) 0).tmod 64)))))), (0, .box 28 [ci64 p0.Length, ci64 p0.Hashes, ci64 p0.Salt]), (1, .box 45 [cu64 p1.A, cu64 p1.B]), (2, .box 51 [ci64 0, .t (.v (.slice none 0 0))]), (3, .box 51 [ci64 y5.Length, .ref 5 1 0 ((x22.set (0 + (i64.wrap ((y16.getD (0 + x21.toNat) 0).tdiv 64)).toNat) (ior .u64 (x22.getD (0 + (i64.wrap ((y16.getD (0 + x21.toNat) 0).tdiv 64)).toNat) 0) (ishl .u64 1 ((y16.getD (0 + x21.toNat) 0).tmod 64)))).length)]), (4, .row 3 false 1 y16.length (Ri64 y16))], 24⟩) (by simp only [List.length_set])) (conv_re [(0, 0), (1, 1), (2, 2), (3, 3), (4, 4), (5, 5)] (by kernel_rfl))))
      ·
       refine AW.exit (AW.thenQ_exit ?_)
       exact lpo h rfl (conv_re [(0, 0), (1, 1), (2, 2), (3, 3), (4, 5)] (by kernel_rfl))
     ·
      show (_ : Exit → St → Prop) (.exit 2) _
      refine AW.inBlock_hit (AW.inBlock_normal (AW.tn ?_))
      refine AW.rg tt_ok0 [(35, vi64 (i64.wrap (x10 + 1)))] [] [] 7 [] (by kernel_rfl) ?_
      exact lpn h (conv_re [(0, 0), (1, 1), (2, 2), (3, 3), (4, 4)] (by kernel_rfl))
    ·
     refine AW.exit (AW.thenQ_exit ?_)
     exact lpo h rfl (conv_re [(0, 2), (1, 3), (2, 4)] (by kernel_rfl))
   ·
    show (_ : Exit → St → Prop) (.exit 0) _
    refine AW.inBlock_hit (AW.tn ?_)
    refine AW.sg tt_ok0 [(7, vi64 0)] [0] [(0, .box 51 [ci64 y5.Length, .ref 2 1 0 x32.length])] 6 [] (by kernel_rfl) ?_
    refine AW.ret ?_
    obtain rfl := some_inj h
    exact fn0 (.inr rfl) [(0, 2)] 1 (.tup [.agg [ci64 y5.Length, .ref 2 1 0 x32.length], vi64 0]) (by kernel_rfl)
/-! recordlink/recordlinkref09.length -/
noncomputable def rl_ref09_length_k1 (x1 : Bool) : Option Bool := some x1
noncomputable def rl_ref09_length (p0 : Int) : Option Bool := if (decide (p0 ≥ 64)) = true then (if (decide (p0 ≤ 512)) = true then (rl_ref09_length_k1 ((p0.tmod 64) == 0)) else (rl_ref09_length_k1 false)) else (rl_ref09_length_k1 false)
set_option maxRecDepth 100000 in
theorem rl_ref09_length_con (p0 : Int) (r : Bool) (h : rl_ref09_length p0 = some r) : Con Try.prog 54 [vi64 p0] [] (vb r) [] := by
 refine con_of tt_ok0 0 Try.func54 (by kernel_rfl) rfl (by kernel_rfl) (fun base X _ => AW.post ?_)
 unfold rl_ref09_length at h
 refine AW.sg tt_ok0 [] [] [] 1 [] (by kernel_rfl) ?_
 refine AW.seq ?_
 refine AW.join (ι := Bool) (fun v => ⟨[(2, vb v)], [], 0⟩) (fun v : Bool => rl_ref09_length_k1 v = some r) (fun x1 h => ?_) ?_
 ·
  unfold rl_ref09_length_k1 at h
  refine AW.tn (AW.ret ?_)
  obtain rfl := some_inj h
  exact fn0 (.inr rfl) [] 0 (vb x1) (by kernel_rfl)
 ·
  rcases ifs h with ⟨c2, h⟩ | ⟨c2, h⟩
  ·
   rcases ifs h with ⟨c3, h⟩ | ⟨c3, h⟩
   ·
    refine AW.rg tt_ok0 [(2, vb ((p0.tmod 64) == 0))] [] [] 13 [hn, ht c2, hn, hn, ht c3, hn, hn, hn, ho (p := (64 : Int) ≠ 0) (by decide)] (by kernel_rfl) ?_
    exact jl ((p0.tmod 64) == 0) h (conv_re [] (by kernel_rfl))
   ·
    refine AW.rg tt_ok0 [(2, vb false)] [] [] 13 [hn, ht c2, hn, hn, hf c3] (by kernel_rfl) ?_
    exact jl false h (conv_re [] (by kernel_rfl))
  ·
   refine AW.rg tt_ok0 [(2, vb false)] [] [] 13 [hn, hf c2] (by kernel_rfl) ?_
   exact jl false h (conv_re [] (by kernel_rfl))
/-! recordlink/recordlinkref09.Valid -/
noncomputable def rl_ref09_Valid_k1 (x1 : Bool) : Option Bool := some x1
noncomputable def rl_ref09_Valid (p0 : S_api_Bits) : Option Bool := (rl_ref09_length p0.Length).bind fun y2 => (if y2 = true then (rl_ref09_Valid_k1 (((p0.Words.length : Nat) : Int) == (i64.wrap (p0.Length.tdiv 64)))) else (rl_ref09_Valid_k1 false))
set_option maxRecDepth 100000 in
theorem rl_ref09_Valid_con (p0 : S_api_Bits) (r : Bool) (h : rl_ref09_Valid p0 = some r) : Con Try.prog 58 [.agg [ci64 p0.Length, cl 1 Ru64 p0.Words]] [] (vb r) [] := by
 refine con_of tt_ok0 0 Try.func58 (by kernel_rfl) rfl (by kernel_rfl) (fun base X _ => AW.post ?_)
 unfold rl_ref09_Valid at h
 refine AW.sg tt_ok0 [(1, .c (.ptr 0 2 0 0))] [0] [(0, .box 51 [ci64 p0.Length, cl 1 Ru64 p0.Words])] 2 [] (by kernel_rfl) ?_
 refine AW.seq ?_
 refine AW.join (ι := Bool) (fun v => ⟨[(2, vb v)], [], 0⟩) (fun v : Bool => rl_ref09_Valid_k1 v = some r) (fun x1 h => ?_) ?_
 ·
  unfold rl_ref09_Valid_k1 at h
  refine AW.tn (AW.ret ?_)
  obtain rfl := some_inj h
  exact fn0 (.inr rfl) [] 0 (vb x1) (by kernel_rfl)
 ·
  obtain ⟨y2, e3, h⟩ := bnd_some h
  rcases ifs h with ⟨c4, hs⟩ | ⟨c4, hs⟩
  ·clear h; subst c4; have h := hs; clear hs
   refine AW.rg tt_ok0 [(2, vb (((p0.Words.length : Nat) : Int) == (i64.wrap (p0.Length.tdiv 64))))] [] [] 14 [hn, hn, hk (rl_ref09_length_con p0.Length true e3), hn, hn, hn, hn, hn, hn, ho (p := (64 : Int) ≠ 0) (by decide)] (by kernel_rfl) ?_
   exact jl (((p0.Words.length : Nat) : Int) == (i64.wrap (p0.Length.tdiv 64))) h (conv_re [] (by kernel_rfl))
  ·clear h; subst c4; have h := hs; clear hs
   refine AW.rg tt_ok0 [(2, vb false)] [] [] 14 [hn, hn, hk (rl_ref09_length_con p0.Length false e3)] (by kernel_rfl) ?_
   exact jl false h (conv_re [] (by kernel_rfl))
/-! recordlink/recordlinkref09.Has -/
noncomputable def rl_ref09_Has_k1 (x1 : Bool) : Option Bool := some x1
noncomputable def rl_ref09_Has (p0 : S_api_Bits) (p1 : Int) : Option Bool := (rl_ref09_Valid p0).bind fun y2 => (if y2 = true then (if (decide (p1 ≥ 0)) = true then (if (decide (p1 < p0.Length)) = true then (if 0 ≤ (i64.wrap (p1.tdiv 64)) then (if (i64.wrap (p1.tdiv 64)) < ((p0.Words.length : Nat) : Int) then (if 0 ≤ (p1.tmod 64) then (rl_ref09_Has_k1 ((iand .u64 (ishr .u64 (p0.Words.getD ((i64.wrap (p1.tdiv 64)).toNat) 0) (p1.tmod 64)) 1) == 1)) else none) else none) else none) else (rl_ref09_Has_k1 false)) else (rl_ref09_Has_k1 false)) else (rl_ref09_Has_k1 false))
set_option maxRecDepth 100000 in
theorem rl_ref09_Has_con (p0 : S_api_Bits) (p1 : Int) (r : Bool) (h : rl_ref09_Has p0 p1 = some r) : Con Try.prog 36 [.agg [ci64 p0.Length, cl 1 Ru64 p0.Words], vi64 p1] [] (vb r) [] := by
 refine con_of tt_ok0 0 Try.func36 (by kernel_rfl) rfl (by kernel_rfl) (fun base X _ => AW.post ?_)
 unfold rl_ref09_Has at h
 refine AW.sg tt_ok0 [(2, .c (.ptr 0 2 0 0))] [0] [(0, .box 51 [ci64 p0.Length, cl 1 Ru64 p0.Words])] 2 [] (by kernel_rfl) ?_
 refine AW.seq ?_
 refine AW.join (ι := Bool) (fun v => ⟨[(4, vb v)], [], 0⟩) (fun v : Bool => rl_ref09_Has_k1 v = some r) (fun x1 h => ?_) ?_
 ·
  unfold rl_ref09_Has_k1 at h
  refine AW.tn (AW.ret ?_)
  obtain rfl := some_inj h
  exact fn0 (.inr rfl) [] 0 (vb x1) (by kernel_rfl)
 ·
  obtain ⟨y2, e3, h⟩ := bnd_some h
  rcases ifs h with ⟨c4, hs⟩ | ⟨c4, hs⟩
  ·clear h; subst c4; have h := hs; clear hs
   rcases ifs h with ⟨c5, h⟩ | ⟨c5, h⟩
   ·
    rcases ifs h with ⟨c6, h⟩ | ⟨c6, h⟩
    ·
     obtain ⟨g7, g8, h⟩ := ifd h
     obtain ⟨g9, h⟩ := ifc h
     refine AW.rg tt_ok0 [(4, vb ((iand .u64 (ishr .u64 (p0.Words.getD ((i64.wrap (p1.tdiv 64)).toNat) 0) (p1.tmod 64)) 1) == 1))] [] [] 27 [hn, hk (rl_ref09_Valid_con p0 true e3), hn, hn, ht c5, hn, hn, hn, hn, hn, ht c6, hn, hn, hn, hn, hn, ho (p := (64 : Int) ≠ 0) (by decide), hq g7 g8, hn, hn, ho (p := (64 : Int) ≠ 0) (by decide), ho g9] (by kernel_rfl) ?_
     exact jl ((iand .u64 (ishr .u64 (p0.Words.getD ((i64.wrap (p1.tdiv 64)).toNat) 0) (p1.tmod 64)) 1) == 1) h (conv_re [] (by kernel_rfl))
    ·
     refine AW.rg tt_ok0 [(4, vb false)] [] [] 27 [hn, hk (rl_ref09_Valid_con p0 true e3), hn, hn, ht c5, hn, hn, hn, hn, hn, hf c6] (by kernel_rfl) ?_
     exact jl false h (conv_re [] (by kernel_rfl))
   ·
    refine AW.rg tt_ok0 [(4, vb false)] [] [] 27 [hn, hk (rl_ref09_Valid_con p0 true e3), hn, hn, hf c5] (by kernel_rfl) ?_
    exact jl false h (conv_re [] (by kernel_rfl))
  ·clear h; subst c4; have h := hs; clear hs
   refine AW.rg tt_ok0 [(4, vb false)] [] [] 27 [hn, hk (rl_ref09_Valid_con p0 false e3)] (by kernel_rfl) ?_
   exact jl false h (conv_re [] (by kernel_rfl))
/-! recordlink/recordlinkref09.Count -/
noncomputable def rl_ref09_Count_k3 (x4 : Int) (x8 : Int) : Option ((Int × Int) ⊕ Int) := some (.inl (x8, i64.wrap (x4 + 1)))
noncomputable def rl_ref09_Count_k2 (p0 : S_api_Bits) (x3 : Int) (x4 : Int) (x6 : Bool) : Option ((Int × Int) ⊕ Int) := if x6 = true then ((rl_ref09_Has p0 x4).bind fun y9 => (if y9 = true then (rl_ref09_Count_k3 x4 (i64.wrap (x3 + 1))) else (rl_ref09_Count_k3 x4 x3))) else (some (.inr x3))
noncomputable def rl_ref09_Count_l1 (p0 : S_api_Bits) (x3 : Int) (x4 : Int) : Option ((Int × Int) ⊕ Int) := (rl_ref09_Valid p0).bind fun y12 => (if y12 = true then (rl_ref09_Count_k2 p0 x3 x4 (decide (x4 < p0.Length))) else (rl_ref09_Count_k2 p0 x3 x4 false))
noncomputable def rl_ref09_Count (p0 : S_api_Bits) : Option Int := (loop (fun v : Int × Int => rl_ref09_Count_l1 p0 v.1 v.2) (0, 0)).bind fun x15 => (some x15)
set_option maxRecDepth 100000 in
theorem rl_ref09_Count_con (p0 : S_api_Bits) (r : Int) (h : rl_ref09_Count p0 = some r) : Con Try.prog 38 [.agg [ci64 p0.Length, cl 1 Ru64 p0.Words]] [] (vi64 r) [] := by
 refine con_of tt_ok0 0 Try.func38 (by kernel_rfl) rfl (by kernel_rfl) (fun base X _ => AW.post ?_)
 unfold rl_ref09_Count at h
 refine AW.sg tt_ok0 [(1, .c (.ptr 0 2 0 0))] [0] [(0, .box 51 [ci64 p0.Length, cl 1 Ru64 p0.Words])] 2 [] (by kernel_rfl) ?_
 refine AW.sg tt_ok0 [(3, vi64 0)] [] [] 3 [] (by kernel_rfl) ?_
 refine AW.seq ?_
 refine AW.sg tt_ok0 [(4, vi64 0)] [] [] 4 [] (by kernel_rfl) ?_
 refine AW.block ?_
 obtain ⟨x15, l16, h⟩ := bnd_some h
 refine AW.lp l16 (fun v => ⟨[(1, .c (.ptr 0 2 0 0)), (3, vi64 v.1), (4, vi64 v.2)], [(0, .box 51 [ci64 p0.Length, cl 1 Ru64 p0.Words])], 1⟩) (fun t : Int => (.exit 0, ⟨[(3, vi64 t)], [], 0⟩)) (conv_re [(0, 0)] (by kernel_rfl)) (fun _ => tv) ?_ ?_
 ·
  clear l16 h
  intro v o h
  obtain ⟨x3, x4⟩ := v
  replace h : rl_ref09_Count_l1 p0 x3 x4 = some o := h
  unfold rl_ref09_Count_l1 at h
  refine AW.seq (AW.seq ?_)
  refine AW.join (ι := Bool) (fun v => ⟨[(1, .c (.ptr 0 2 0 0)), (3, vi64 x3), (4, vi64 x4), (12, vb v)], [(0, .box 51 [ci64 p0.Length, cl 1 Ru64 p0.Words])], 1⟩) (fun v : Bool => rl_ref09_Count_k2 p0 x3 x4 v = some o) (fun x6 h => ?_) ?_
  ·
   unfold rl_ref09_Count_k2 at h
   refine AW.tn ?_
   refine AW.co h (by kernel_rfl) (fun c7 h => ?_) (fun c7 h => ?_)
   ·
    refine AW.skip (AW.tn (AW.seq ?_))
    refine AW.join (ι := Int) (fun v => ⟨[(1, .c (.ptr 0 2 0 0)), (3, vi64 v), (4, vi64 x4)], [(0, .box 51 [ci64 p0.Length, cl 1 Ru64 p0.Words])], 1⟩) (fun v : Int => rl_ref09_Count_k3 x4 v = some o) (fun x8 h => ?_) ?_
    ·
     unfold rl_ref09_Count_k3 at h
     refine AW.tn ?_
     refine AW.rg tt_ok0 [(4, vi64 (i64.wrap (x4 + 1)))] [] [] 4 [] (by kernel_rfl) ?_
     exact lpn h (conv_re [(0, 0)] (by kernel_rfl))
    ·
     refine AW.block ?_
     obtain ⟨y9, e10, h⟩ := bnd_some h
     refine AW.sg tt_ok0 [(17, vb y9)] [] [] 3 [hn, hn, hk (rl_ref09_Has_con p0 x4 y9 e10)] (by kernel_rfl) ?_
     refine AW.co h (by kernel_rfl) (fun c11 h => ?_) (fun c11 h => ?_)
     ·
      refine AW.rg tt_ok0 [(3, vi64 (i64.wrap (x3 + 1)))] [] [] 6 [] (by kernel_rfl) ?_
      refine AW.inBlock_normal ?_
      exact jl (i64.wrap (x3 + 1)) h (conv_re [(0, 0)] (by kernel_rfl))
     ·
      refine AW.skip (AW.inBlock_normal ?_)
      exact jl x3 h (conv_re [(0, 0)] (by kernel_rfl))
   ·
    refine AW.exit (AW.thenQ_exit ?_)
    exact lpo h rfl (conv_re [] (by kernel_rfl))
  ·
   obtain ⟨y12, e13, h⟩ := bnd_some h
   rcases ifs h with ⟨c14, hs⟩ | ⟨c14, hs⟩
   ·clear h; subst c14; have h := hs; clear hs
    refine AW.rg tt_ok0 [(12, vb (decide (x4 < p0.Length)))] [] [] 8 [hn, hk (rl_ref09_Valid_con p0 true e13)] (by kernel_rfl) ?_
    exact jl (decide (x4 < p0.Length)) h (conv_re [(0, 0)] (by kernel_rfl))
   ·clear h; subst c14; have h := hs; clear hs
    refine AW.rg tt_ok0 [(12, vb false)] [] [] 8 [hn, hk (rl_ref09_Valid_con p0 false e13)] (by kernel_rfl) ?_
    exact jl false h (conv_re [(0, 0)] (by kernel_rfl))
 ·
  show (_ : Exit → St → Prop) (.exit 0) _
  refine AW.inBlock_hit (AW.tn ?_)
  refine AW.sg tt_ok0 [(2, vi64 x15)] [] [] 2 [] (by kernel_rfl) ?_
  refine AW.ret ?_
  obtain rfl := some_inj h
  exact fn0 (.inr rfl) [] 0 (vi64 x15) (by kernel_rfl)
/-! recordlink/bitset.Valid -/
noncomputable def bitset_Valid_k1 (x1 : Bool) : Option Bool := some x1
noncomputable def bitset_Valid (p0 : S_api_Bits) : Option Bool := (bitset_right p0.Length).bind fun y2 => (if y2 = true then (bitset_Valid_k1 (((p0.Words.length : Nat) : Int) == (i64.wrap (p0.Length.tdiv 64)))) else (bitset_Valid_k1 false))
set_option maxRecDepth 100000 in
theorem bitset_Valid_con (p0 : S_api_Bits) (r : Bool) (h : bitset_Valid p0 = some r) : Con Try.prog 55 [.agg [ci64 p0.Length, cl 1 Ru64 p0.Words]] [] (vb r) [] := by
 refine con_of tt_ok0 0 Try.func55 (by kernel_rfl) rfl (by kernel_rfl) (fun base X _ => AW.post ?_)
 unfold bitset_Valid at h
 refine AW.sg tt_ok0 [(1, .c (.ptr 0 2 0 0))] [0] [(0, .box 51 [ci64 p0.Length, cl 1 Ru64 p0.Words])] 2 [] (by kernel_rfl) ?_
 refine AW.seq ?_
 refine AW.join (ι := Bool) (fun v => ⟨[(2, vb v)], [], 0⟩) (fun v : Bool => bitset_Valid_k1 v = some r) (fun x1 h => ?_) ?_
 ·
  unfold bitset_Valid_k1 at h
  refine AW.tn (AW.ret ?_)
  obtain rfl := some_inj h
  exact fn0 (.inr rfl) [] 0 (vb x1) (by kernel_rfl)
 ·
  obtain ⟨y2, e3, h⟩ := bnd_some h
  rcases ifs h with ⟨c4, hs⟩ | ⟨c4, hs⟩
  ·clear h; subst c4; have h := hs; clear hs
   refine AW.rg tt_ok0 [(2, vb (((p0.Words.length : Nat) : Int) == (i64.wrap (p0.Length.tdiv 64))))] [] [] 14 [hn, hn, hk (bitset_right_con p0.Length true e3), hn, hn, hn, hn, hn, hn, ho (p := (64 : Int) ≠ 0) (by decide)] (by kernel_rfl) ?_
   exact jl (((p0.Words.length : Nat) : Int) == (i64.wrap (p0.Length.tdiv 64))) h (conv_re [] (by kernel_rfl))
  ·clear h; subst c4; have h := hs; clear hs
   refine AW.rg tt_ok0 [(2, vb false)] [] [] 14 [hn, hn, hk (bitset_right_con p0.Length false e3)] (by kernel_rfl) ?_
   exact jl false h (conv_re [] (by kernel_rfl))
/-! recordlink/bitset.Has -/
noncomputable def bitset_Has_k1 (x1 : Bool) : Option Bool := some x1
noncomputable def bitset_Has (p0 : S_api_Bits) (p1 : Int) : Option Bool := (bitset_Valid p0).bind fun y2 => (if y2 = true then (if (decide (p1 ≥ 0)) = true then (if (decide (p1 < p0.Length)) = true then (if 0 ≤ (i64.wrap (p1.tdiv 64)) then (if (i64.wrap (p1.tdiv 64)) < ((p0.Words.length : Nat) : Int) then (if 0 ≤ (p1.tmod 64) then (bitset_Has_k1 ((iand .u64 (ishr .u64 (p0.Words.getD ((i64.wrap (p1.tdiv 64)).toNat) 0) (p1.tmod 64)) 1) == 1)) else none) else none) else none) else (bitset_Has_k1 false)) else (bitset_Has_k1 false)) else (bitset_Has_k1 false))
set_option maxRecDepth 100000 in
theorem bitset_Has_con (p0 : S_api_Bits) (p1 : Int) (r : Bool) (h : bitset_Has p0 p1 = some r) : Con Try.prog 56 [.agg [ci64 p0.Length, cl 1 Ru64 p0.Words], vi64 p1] [] (vb r) [] := by
 refine con_of tt_ok0 0 Try.func56 (by kernel_rfl) rfl (by kernel_rfl) (fun base X _ => AW.post ?_)
 unfold bitset_Has at h
 refine AW.sg tt_ok0 [(2, .c (.ptr 0 2 0 0))] [0] [(0, .box 51 [ci64 p0.Length, cl 1 Ru64 p0.Words])] 2 [] (by kernel_rfl) ?_
 refine AW.seq ?_
 refine AW.join (ι := Bool) (fun v => ⟨[(4, vb v)], [], 0⟩) (fun v : Bool => bitset_Has_k1 v = some r) (fun x1 h => ?_) ?_
 ·
  unfold bitset_Has_k1 at h
  refine AW.tn (AW.ret ?_)
  obtain rfl := some_inj h
  exact fn0 (.inr rfl) [] 0 (vb x1) (by kernel_rfl)
 ·
  obtain ⟨y2, e3, h⟩ := bnd_some h
  rcases ifs h with ⟨c4, hs⟩ | ⟨c4, hs⟩
  ·clear h; subst c4; have h := hs; clear hs
   rcases ifs h with ⟨c5, h⟩ | ⟨c5, h⟩
   ·
    rcases ifs h with ⟨c6, h⟩ | ⟨c6, h⟩
    ·
     obtain ⟨g7, g8, h⟩ := ifd h
     obtain ⟨g9, h⟩ := ifc h
     refine AW.rg tt_ok0 [(4, vb ((iand .u64 (ishr .u64 (p0.Words.getD ((i64.wrap (p1.tdiv 64)).toNat) 0) (p1.tmod 64)) 1) == 1))] [] [] 27 [hn, hk (bitset_Valid_con p0 true e3), hn, hn, ht c5, hn, hn, hn, hn, hn, ht c6, hn, hn, hn, hn, hn, ho (p := (64 : Int) ≠ 0) (by decide), hq g7 g8, hn, hn, ho (p := (64 : Int) ≠ 0) (by decide), ho g9] (by kernel_rfl) ?_
     exact jl ((iand .u64 (ishr .u64 (p0.Words.getD ((i64.wrap (p1.tdiv 64)).toNat) 0) (p1.tmod 64)) 1) == 1) h (conv_re [] (by kernel_rfl))
    ·
     refine AW.rg tt_ok0 [(4, vb false)] [] [] 27 [hn, hk (bitset_Valid_con p0 true e3), hn, hn, ht c5, hn, hn, hn, hn, hn, hf c6] (by kernel_rfl) ?_
     exact jl false h (conv_re [] (by kernel_rfl))
   ·
    refine AW.rg tt_ok0 [(4, vb false)] [] [] 27 [hn, hk (bitset_Valid_con p0 true e3), hn, hn, hf c5] (by kernel_rfl) ?_
    exact jl false h (conv_re [] (by kernel_rfl))
  ·clear h; subst c4; have h := hs; clear hs
   refine AW.rg tt_ok0 [(4, vb false)] [] [] 27 [hn, hk (bitset_Valid_con p0 false e3)] (by kernel_rfl) ?_
   exact jl false h (conv_re [] (by kernel_rfl))
/-! recordlink/bloom.May -/
noncomputable def bloom_May_l2 (p3 : S_api_Bits) (y1 : List Int) (x7 : Int) : Option (Int ⊕ (Unit ⊕ Unit)) := if (decide (x7 < (y1.length : Int))) = true then (if 0 ≤ x7 then (if x7 < (y1.length : Int) then ((bitset_Has p3 (y1.getD (0 + x7.toNat) 0)).bind fun y11 => (if (!y11) = true then (some (.inr (.inr ()))) else (some (.inl (i64.wrap (x7 + 1)))))) else none) else none) else (some (.inr (.inl ())))
noncomputable def bloom_May_a3 : Option Bool := some true
noncomputable def bloom_May_a4 : Option Bool := some false
noncomputable def bloom_May_k1 (p3 : S_api_Bits) (y1 : List Int) (x4 : Bool) : Option Bool := if x4 = true then (some false) else (bindE (loop (fun v : Int => bloom_May_l2 p3 y1 v) 0) (fun t => bloom_May_a3) (fun t => bloom_May_a4))
noncomputable def bloom_May (p0 : S_api_Parameters) (p1 : S_api_Key) (p2 : ByteArray) (p3 : S_api_Bits) : Option Bool := bind2 (bloom_Positions p0 p1 p2) fun y1 y2 => (if (y2 != 0) = true then (bloom_May_k1 p3 y1 true) else (if (p3.Length != p0.Length) = true then (bloom_May_k1 p3 y1 true) else ((bitset_Valid p3).bind fun y17 => (bloom_May_k1 p3 y1 (!y17)))))
set_option maxRecDepth 100000 in
theorem bloom_May_con (p0 : S_api_Parameters) (p1 : S_api_Key) (p2 : ByteArray) (p3 : S_api_Bits) (r : Bool) (h : bloom_May p0 p1 p2 p3 = some r) : Con Try.prog 34 [.agg [ci64 p0.Length, ci64 p0.Hashes, ci64 p0.Salt], .agg [cu64 p1.A, cu64 p1.B], vs p2, .agg [ci64 p3.Length, cl 1 Ru64 p3.Words]] [] (vb r) [] := by
 refine con_of tt_ok0 0 Try.func34 (by kernel_rfl) rfl (by kernel_rfl) (fun base X _ => AW.post ?_)
 unfold bloom_May at h
 refine AW.sg tt_ok0 [(7, .c (.ptr 2 2 0 0)), (5, .c (.ptr 1 2 0 0)), (4, .c (.ptr 0 3 0 0))] [0, 1, 2] [(2, .box 51 [ci64 p3.Length, cl 1 Ru64 p3.Words]), (1, .box 45 [cu64 p1.A, cu64 p1.B]), (0, .box 28 [ci64 p0.Length, ci64 p0.Hashes, ci64 p0.Salt])] 4 [] (by kernel_rfl) ?_
 obtain ⟨y1, y2, e3, h⟩ := bind2_some h
 refine AW.sg tt_ok0 [(10, vi64 y2), (9, .c (.ref 7 1 0 y1.length))] [7] [(7, .row 3 false 1 y1.length (Ri64 y1))] 13 [hn, hn, hn, hm [] [] 1 (bloom_Positions_con p0 p1 p2 (y1, y2) e3) ⟨rowL_flat Vi64 _ _ _, tv⟩] (by kernel_rfl) ?_
 refine AW.seq (AW.seq ?_)
 refine AW.join (ι := Bool) (fun v => ⟨[(7, .c (.ptr 0 2 0 0)), (9, .c (.ref 1 1 0 y1.length)), (33, vb v)], [(0, .box 51 [ci64 p3.Length, cl 1 Ru64 p3.Words]), (1, .row 3 false 1 y1.length (Ri64 y1))], 2⟩) (fun v : Bool => bloom_May_k1 p3 y1 v = some r) (fun x4 h => ?_) ?_
 ·
  unfold bloom_May_k1 at h
  refine AW.tn ?_
  refine AW.co h (by kernel_rfl) (fun c5 h => ?_) (fun c5 h => ?_)
  ·
   refine AW.sg tt_ok0 [(8, vb false)] [] [] 3 [] (by kernel_rfl) ?_
   refine AW.ret (AW.tr ?_)
   obtain rfl := some_inj h
   exact fn0 (.inr rfl) [] 0 (vb false) (by kernel_rfl)
  ·
   refine AW.skip (AW.tn (AW.seq ?_))
   refine AW.sg tt_ok0 [(36, vi64 0), (35, vi64 (y1.length : Int)), (34, .c (.ref 1 1 0 y1.length))] [] [] 5 [] (by kernel_rfl) ?_
   refine AW.block ?_
   refine AW.lpE h (fun v => ⟨[(7, .c (.ptr 0 2 0 0)), (34, .c (.ref 1 1 0 y1.length)), (35, vi64 (y1.length : Int)), (36, vi64 v)], [(0, .box 51 [ci64 p3.Length, cl 1 Ru64 p3.Words]), (1, .row 3 false 1 y1.length (Ri64 y1))], 2⟩) (fun t => (.exit 0, ⟨[], [], 0⟩)) (fun t => (.ret, ⟨[(8, vb false)], [], 0⟩)) (conv_re [(0, 0), (1, 1)] (by kernel_rfl)) (fun _ => tv) (fun _ => tv) ?_ (fun t h => ?_) (fun t h => ?_)
   ·
    clear h
    intro x7 o h
    unfold bloom_May_l2 at h
    refine AW.sg tt_ok0 [(37, vb (decide (x7 < (y1.length : Int))))] [] [] 3 [] (by kernel_rfl) ?_
    refine AW.seq ?_
    refine AW.co h (by kernel_rfl) (fun c8 h => ?_) (fun c8 h => ?_)
    ·
     refine AW.skip (AW.tn ?_)
     refine AW.seq (AW.block ?_)
     obtain ⟨g9, g10, h⟩ := ifd h
     refine AW.sg tt_ok0 [(12, vi64 (y1.getD (0 + x7.toNat) 0))] [] [] 6 [hq g9 g10, ho (p := (0 + x7.toNat) < y1.length) (by have h1 : 0 ≤ x7 := g9; have h2 : x7 < (y1.length : Int) := g10; omega)] (by kernel_rfl) ?_
     obtain ⟨y11, e12, h⟩ := bnd_some h
     refine AW.sg tt_ok0 [(43, vb (!y11))] [] [] 9 [hn, hn, hk (bitset_Has_con p3 (y1.getD (0 + x7.toNat) 0) y11 e12)] (by kernel_rfl) ?_
     refine AW.co h (by kernel_rfl) (fun c13 h => ?_) (fun c13 h => ?_)
     ·
      refine AW.sg tt_ok0 [(8, vb false)] [] [] 10 [] (by kernel_rfl) ?_
      refine AW.ret (AW.inBlock_ret (AW.tr ?_))
      exact lpo h rfl (conv_re [] (by kernel_rfl))
     ·
      refine AW.skip (AW.inBlock_normal (AW.tn ?_))
      refine AW.rg tt_ok0 [(36, vi64 (i64.wrap (x7 + 1)))] [] [] 11 [] (by kernel_rfl) ?_
      exact lpn h (conv_re [(0, 0), (1, 1)] (by kernel_rfl))
    ·
     refine AW.exit (AW.thenQ_exit ?_)
     exact lpo h rfl (conv_re [] (by kernel_rfl))
   ·
    replace h : bloom_May_a3 = some r := h
    unfold bloom_May_a3 at h
    show (_ : Exit → St → Prop) (.exit 0) _
    refine AW.inBlock_hit (AW.tn ?_)
    refine AW.sg tt_ok0 [(8, vb true)] [] [] 1 [] (by kernel_rfl) ?_
    refine AW.ret ?_
    obtain rfl := some_inj h
    exact fn0 (.inr rfl) [] 0 (vb true) (by kernel_rfl)
   ·
    replace h : bloom_May_a4 = some r := h
    unfold bloom_May_a4 at h
    show (_ : Exit → St → Prop) (.ret) _
    refine AW.inBlock_ret (AW.tr ?_)
    obtain rfl := some_inj h
    exact fn0 (.inr rfl) [] 0 (vb false) (by kernel_rfl)
 ·
  rcases ifs h with ⟨c15, h⟩ | ⟨c15, h⟩
  ·
   refine AW.rg tt_ok0 [(33, vb true)] [] [] 27 [hn, ht c15] (by kernel_rfl) ?_
   exact jl true h (conv_re [(0, 2), (1, 7)] (by kernel_rfl))
  ·
   rcases ifs h with ⟨c16, h⟩ | ⟨c16, h⟩
   ·
    refine AW.rg tt_ok0 [(33, vb true)] [] [] 27 [hn, hf c15, hn, hn, hn, hn, hn, ht c16] (by kernel_rfl) ?_
    exact jl true h (conv_re [(0, 2), (1, 7)] (by kernel_rfl))
   ·
    obtain ⟨y17, e18, h⟩ := bnd_some h
    refine AW.rg tt_ok0 [(33, vb (!y17))] [] [] 26 [hn, hf c15, hn, hn, hn, hn, hn, hf c16, hn, hn, hn, hk (bitset_Valid_con p3 y17 e18)] (by kernel_rfl) ?_
    exact jl (!y17) h (conv_re [(0, 2), (1, 7)] (by kernel_rfl))
/-! recordlink/recordlinklaw14.awake -/
noncomputable def rl_law14_awake_k1 (x7 : Bool) : Option Bool := some x7
noncomputable def rl_law14_awake : Option Bool := bind2 (bloom_Encode (⟨64, 1, (-1)⟩ : S_api_Parameters) (⟨0, 0⟩ : S_api_Key) ([(ByteArray.mk #[97, 110])] : List ByteArray)) fun y1 y2 => (bind2 (bloom_Positions (⟨64, 1, (-1)⟩ : S_api_Parameters) (⟨0, 0⟩ : S_api_Key) (ByteArray.mk #[97, 110])) fun y4 y5 => (if (y2 == 0) = true then (if (y5 == 0) = true then (if ((y4.length : Int) == 1) = true then ((rl_ref09_Count y1).bind fun y11 => (if (y11 == 1) = true then ((bloom_May (⟨64, 1, (-1)⟩ : S_api_Parameters) (⟨0, 0⟩ : S_api_Key) (ByteArray.mk #[97, 110]) y1).bind fun y14 => (if y14 = true then ((bloom_Check (⟨64, 1, (-1)⟩ : S_api_Parameters)).bind fun y17 => (rl_law14_awake_k1 (y17 == 0))) else (rl_law14_awake_k1 false))) else (rl_law14_awake_k1 false))) else (rl_law14_awake_k1 false)) else (rl_law14_awake_k1 false)) else (rl_law14_awake_k1 false)))
set_option maxRecDepth 100000 in
theorem rl_law14_awake_con (r : Bool) (h : rl_law14_awake = some r) : Con Try.prog 27 [] [] (vb r) [] := by
 refine con_of tt_ok0 0 Try.func27 (by kernel_rfl) rfl (by kernel_rfl) (fun base X _ => AW.post ?_)
 unfold rl_law14_awake at h
 refine AW.sg tt_ok0 [] [] [] 1 [] (by kernel_rfl) ?_
 refine AW.sg tt_ok0 [(1, .c (.ptr 2 3 0 0))] [2] [(2, .box 28 [ci64 64, ci64 1, ci64 (-1)])] 4 [] (by kernel_rfl) ?_
 obtain ⟨y1, y2, e3, h⟩ := bind2_some h
 refine AW.sg tt_ok0 [(3, vi64 y2), (2, .c (.ptr 11 2 0 0))] [6, 7, 11] [(11, .box 51 [ci64 y1.Length, .ref 7 1 0 y1.Words.length]), (7, .row 43 false 1 y1.Words.length (Ru64 y1.Words))] 14 [hn, hn, hlit ByteArray.empty Es 1 (fun _ => rfl) ([(ByteArray.mk #[97, 110])] : List ByteArray), hg [] [] true 1 (q := ((True) ∧ (True) ∧ (True) ∧ (True)) ∧ ((True) ∧ (True) ∧ (True)) ∧ (0 + ([(ByteArray.mk #[97, 110])] : List ByteArray).length ≤ ([(ByteArray.mk #[97, 110])] : List ByteArray).length) ∧ (True)) ⟨⟨tv, tv, tv, tv⟩, ⟨tv, tv, tv⟩, le0, tv⟩ (a0 := [.agg [ci64 64, ci64 1, ci64 (-1)], .agg [cu64 0, cu64 0], vl 1 Rs ([(ByteArray.mk #[97, 110])] : List ByteArray)]) (bloom_Encode_con (⟨64, 1, (-1)⟩ : S_api_Parameters) (⟨0, 0⟩ : S_api_Key) ([(ByteArray.mk #[97, 110])] : List ByteArray) (y1, y2) e3) ⟨ArgLe.refl _, ArgLe.refl _, ArgLe.refl _, tv⟩ (fun _ => ⟨rowL_flat Vu64 _ _ _, tv⟩)] (by kernel_rfl) ?_
 obtain ⟨y4, y5, e6, h⟩ := bind2_some h
 refine AW.sg tt_ok0 [(5, vi64 y5), (4, .c (.ref 16 1 0 y4.length))] [16] [(16, .row 3 false 1 y4.length (Ri64 y4))] 22 [hn, hn, hm [] [] 1 (bloom_Positions_con (⟨64, 1, (-1)⟩ : S_api_Parameters) (⟨0, 0⟩ : S_api_Key) (ByteArray.mk #[97, 110]) (y4, y5) e6) ⟨rowL_flat Vi64 _ _ _, tv⟩] (by kernel_rfl) ?_
 refine AW.seq ?_
 refine AW.join (ι := Bool) (fun v => ⟨[(0, vb v)], [], 0⟩) (fun v : Bool => rl_law14_awake_k1 v = some r) (fun x7 h => ?_) ?_
 ·
  unfold rl_law14_awake_k1 at h
  refine AW.tn (AW.ret ?_)
  obtain rfl := some_inj h
  exact fn0 (.inr rfl) [] 0 (vb x7) (by kernel_rfl)
 ·
  rcases ifs h with ⟨c8, h⟩ | ⟨c8, h⟩
  ·
   rcases ifs h with ⟨c9, h⟩ | ⟨c9, h⟩
   ·
    rcases ifs h with ⟨c10, h⟩ | ⟨c10, h⟩
    ·
     obtain ⟨y11, e12, h⟩ := bnd_some h
     rcases ifs h with ⟨c13, h⟩ | ⟨c13, h⟩
     ·
      obtain ⟨y14, e15, h⟩ := bnd_some h
      rcases ifs h with ⟨c16, hs⟩ | ⟨c16, hs⟩
      ·clear h; subst c16; have h := hs; clear hs
       obtain ⟨y17, e18, h⟩ := bnd_some h
       refine AW.rg tt_ok0 [(0, vb (y17 == 0))] [] [] 47 [hn, ht c8, hn, hn, ht c9, hn, hn, hn, hn, ht c10, hn, hn, hn, hg [] [] true 0 (q := ((True) ∧ (0 + y1.Words.length ≤ y1.Words.length) ∧ (True)) ∧ (True)) ⟨⟨tv, le0, tv⟩, tv⟩ (a0 := [.agg [ci64 y1.Length, cl 1 Ru64 y1.Words]]) (rl_ref09_Count_con y1 y11 e12) ⟨ArgLe.refl _, tv⟩ (fun _ => tv), ht c13, hn, hn, hn, hn, hn, hg [] [] true 0 (q := ((True) ∧ (True) ∧ (True) ∧ (True)) ∧ ((True) ∧ (True) ∧ (True)) ∧ (True) ∧ ((True) ∧ (0 + y1.Words.length ≤ y1.Words.length) ∧ (True)) ∧ (True)) ⟨⟨tv, tv, tv, tv⟩, ⟨tv, tv, tv⟩, tv, ⟨tv, le0, tv⟩, tv⟩ (a0 := [.agg [ci64 64, ci64 1, ci64 (-1)], .agg [cu64 0, cu64 0], vs (ByteArray.mk #[97, 110]), .agg [ci64 y1.Length, cl 1 Ru64 y1.Words]]) (bloom_May_con (⟨64, 1, (-1)⟩ : S_api_Parameters) (⟨0, 0⟩ : S_api_Key) (ByteArray.mk #[97, 110]) y1 true e15) ⟨ArgLe.refl _, ArgLe.refl _, ArgLe.refl _, ArgLe.refl _, tv⟩ (fun _ => tv), hn, hn, hn, hk (bloom_Check_con (⟨64, 1, (-1)⟩ : S_api_Parameters) y17 e18)] (by kernel_rfl) ?_
       exact jl (y17 == 0) h (conv_re [] (by kernel_rfl))
      ·clear h; subst c16; have h := hs; clear hs
       refine AW.rg tt_ok0 [(0, vb false)] [] [] 48 [hn, ht c8, hn, hn, ht c9, hn, hn, hn, hn, ht c10, hn, hn, hn, hg [] [] true 0 (q := ((True) ∧ (0 + y1.Words.length ≤ y1.Words.length) ∧ (True)) ∧ (True)) ⟨⟨tv, le0, tv⟩, tv⟩ (a0 := [.agg [ci64 y1.Length, cl 1 Ru64 y1.Words]]) (rl_ref09_Count_con y1 y11 e12) ⟨ArgLe.refl _, tv⟩ (fun _ => tv), ht c13, hn, hn, hn, hn, hn, hg [] [] true 0 (q := ((True) ∧ (True) ∧ (True) ∧ (True)) ∧ ((True) ∧ (True) ∧ (True)) ∧ (True) ∧ ((True) ∧ (0 + y1.Words.length ≤ y1.Words.length) ∧ (True)) ∧ (True)) ⟨⟨tv, tv, tv, tv⟩, ⟨tv, tv, tv⟩, tv, ⟨tv, le0, tv⟩, tv⟩ (a0 := [.agg [ci64 64, ci64 1, ci64 (-1)], .agg [cu64 0, cu64 0], vs (ByteArray.mk #[97, 110]), .agg [ci64 y1.Length, cl 1 Ru64 y1.Words]]) (bloom_May_con (⟨64, 1, (-1)⟩ : S_api_Parameters) (⟨0, 0⟩ : S_api_Key) (ByteArray.mk #[97, 110]) y1 false e15) ⟨ArgLe.refl _, ArgLe.refl _, ArgLe.refl _, ArgLe.refl _, tv⟩ (fun _ => tv)] (by kernel_rfl) ?_
       exact jl false h (conv_re [] (by kernel_rfl))
     ·
      refine AW.rg tt_ok0 [(0, vb false)] [] [] 49 [hn, ht c8, hn, hn, ht c9, hn, hn, hn, hn, ht c10, hn, hn, hn, hg [] [] true 0 (q := ((True) ∧ (0 + y1.Words.length ≤ y1.Words.length) ∧ (True)) ∧ (True)) ⟨⟨tv, le0, tv⟩, tv⟩ (a0 := [.agg [ci64 y1.Length, cl 1 Ru64 y1.Words]]) (rl_ref09_Count_con y1 y11 e12) ⟨ArgLe.refl _, tv⟩ (fun _ => tv), hf c13] (by kernel_rfl) ?_
      exact jl false h (conv_re [] (by kernel_rfl))
    ·
     refine AW.rg tt_ok0 [(0, vb false)] [] [] 50 [hn, ht c8, hn, hn, ht c9, hn, hn, hn, hn, hf c10] (by kernel_rfl) ?_
     exact jl false h (conv_re [] (by kernel_rfl))
   ·
    refine AW.rg tt_ok0 [(0, vb false)] [] [] 50 [hn, ht c8, hn, hn, hf c9] (by kernel_rfl) ?_
    exact jl false h (conv_re [] (by kernel_rfl))
  ·
   refine AW.rg tt_ok0 [(0, vb false)] [] [] 50 [hn, hf c8] (by kernel_rfl) ?_
   exact jl false h (conv_re [] (by kernel_rfl))
/-! recordlink/recordlinkmake.Few -/
noncomputable def rl_make_Few (p0 : List Int) : Option Bool := some (decide ((p0.length : Int) ≤ 400))
set_option maxRecDepth 100000 in
theorem rl_make_Few_con (p0 : List Int) (r : Bool) (h : rl_make_Few p0 = some r) : Con Try.prog 13 [vl 1 Ri64 p0] [] (vb r) [] := by
 refine con_of tt_ok0 0 Try.func13 (by kernel_rfl) rfl (by kernel_rfl) (fun base X _ => AW.post ?_)
 unfold rl_make_Few at h
 refine AW.sg tt_ok0 [] [] [] 1 [] (by kernel_rfl) ?_
 refine AW.sg tt_ok0 [(2, vb (decide ((p0.length : Int) ≤ 400)))] [] [] 5 [] (by kernel_rfl) ?_
 refine AW.ret ?_
 obtain rfl := some_inj h
 exact fn0 (.inr rfl) [] 0 (vb (decide ((p0.length : Int) ≤ 400))) (by kernel_rfl)
structure S_recordlinkmake_Deck where
 list : List Int
 at_ : Int
 state : Int
def dS_recordlinkmake_Deck : S_recordlinkmake_Deck := ⟨([] : List Int), 0, 0⟩
instance : Inhabited S_recordlinkmake_Deck := ⟨dS_recordlinkmake_Deck⟩
/-! recordlink/recordlinkmake.New -/
noncomputable def rl_make_New (p0 : List Int) : Option S_recordlinkmake_Deck := some (⟨p0, 0, 11400714819323198485⟩ : S_recordlinkmake_Deck)
set_option maxRecDepth 100000 in
theorem rl_make_New_con (p0 : List Int) (r : S_recordlinkmake_Deck) (h : rl_make_New p0 = some r) : Con Try.prog 14 [vl 1 Ri64 p0] [] (.c (.ptr 0 3 0 0)) [(0, .box 66 [cl 1 Ri64 r.list, ci64 r.at_, cu64 r.state])] := by
 refine con_of tt_ok0 0 Try.func14 (by kernel_rfl) rfl (by kernel_rfl) (fun base X _ => AW.post ?_)
 unfold rl_make_New at h
 refine AW.sg tt_ok0 [] [] [] 1 [] (by kernel_rfl) ?_
 refine AW.sg tt_ok0 [(2, .c (.ptr 3 3 0 0))] [3] [(3, .box 66 [cl 1 Ri64 p0, ci64 0, cu64 11400714819323198485])] 5 [] (by kernel_rfl) ?_
 refine AW.ret ?_
 obtain rfl := some_inj h
 exact fn0 (.inr rfl) [(0, 3)] 1 (.c (.ptr 3 3 0 0)) (by kernel_rfl)
/-! (*recordlink/recordlinkmake.Deck).Word -/
noncomputable def rl_make_Deck_Word_k1 (p0 : S_recordlinkmake_Deck) (x1 : Int) (x2 : Int) : Option (Int × S_recordlinkmake_Deck) := (some (u64.wrap ((u64.wrap ((u64.wrap (p0.state + x1)) * 6364136223846793005)) + 1442695040888963407))).bind fun z3 => ((some (u64.wrap ((ixor .u64 z3 (ishr .u64 z3 33)) * 18397679294719823053))).bind fun z5 => (some (ixor .u64 z5 (ishr .u64 z5 29), (⟨p0.list, x2, z3⟩ : S_recordlinkmake_Deck))))
noncomputable def rl_make_Deck_Word (p0 : S_recordlinkmake_Deck) : Option (Int × S_recordlinkmake_Deck) := if (decide (p0.at_ < ((p0.list.length : Nat) : Int))) = true then (if 0 ≤ p0.at_ then (if p0.at_ < ((p0.list.length : Nat) : Int) then (rl_make_Deck_Word_k1 p0 (u64.wrap (p0.list.getD p0.at_.toNat 0)) (i64.wrap (p0.at_ + 1))) else none) else none) else (rl_make_Deck_Word_k1 p0 0 p0.at_)
set_option maxRecDepth 100000 in
theorem rl_make_Deck_Word_con (p0 : S_recordlinkmake_Deck) (r : Int × S_recordlinkmake_Deck) (h : rl_make_Deck_Word p0 = some r) : Con Try.prog 43 [.c (.ptr 0 3 0 0)] [(0, .box 66 [cl 1 Ri64 p0.list, ci64 p0.at_, cu64 p0.state])] (vu64 r.1) [(0, .box 66 [cl 1 Ri64 r.2.list, ci64 r.2.at_, cu64 r.2.state])] := by
 refine con_of tt_ok0 1 Try.func43 (by kernel_rfl) rfl (by kernel_rfl) (fun base X _ => AW.post ?_)
 unfold rl_make_Deck_Word at h
 refine AW.sg tt_ok0 [] [] [] 2 [] (by kernel_rfl) ?_
 refine AW.sg tt_ok0 [(3, vu64 0)] [] [] 3 [] (by kernel_rfl) ?_
 refine AW.seq ?_
 refine AW.join (ι := Int × Int) (fun v => ⟨[(0, .c (.ptr 0 3 0 0)), (3, vu64 v.1)], [(0, .box 66 [cl 1 Ri64 p0.list, ci64 v.2, cu64 p0.state])], 1⟩) (fun v : Int × Int => rl_make_Deck_Word_k1 p0 v.1 v.2 = some r) (fun v h => ?_) ?_
 ·
  obtain ⟨x1, x2⟩ := v
  replace h : rl_make_Deck_Word_k1 p0 x1 x2 = some r := h
  unfold rl_make_Deck_Word_k1 at h
  refine AW.tn ?_
  obtain ⟨z3, n4, h⟩ := bnd_some h
  replace n4 := some_inj n4
  refine AW.sg tt_ok0 [] [0] [(0, .box 66 [cl 1 Ri64 p0.list, ci64 x2, cu64 z3])] 13 [] (by subst n4; kernel_rfl) ?_
  refine AW.sd tt_ok0 mo0 [] [(4, vu64 (ixor .u64 z3 (ishr .u64 z3 33)))] [] 24 [hn, hn, hn, hn, hn, hn, hn, hn, ho (p := 0 ≤ (33 : Int)) (by decide)] (by kernel_rfl) ?_
  obtain ⟨z5, n6, h⟩ := bnd_some h
  replace n6 := some_inj n6
  refine AW.sg tt_ok0 [(4, vu64 z5)] [] [] 27 [] (by subst n6; kernel_rfl) ?_
  refine AW.sg tt_ok0 [(2, vu64 (ixor .u64 z5 (ishr .u64 z5 29)))] [] [] 32 [hn, hn, ho (p := 0 ≤ (29 : Int)) (by decide)] (by kernel_rfl) ?_
  refine AW.ret ?_
  obtain rfl := some_inj h
  exact fn0 (.inr rfl) [(0, 0)] 1 (vu64 (ixor .u64 z5 (ishr .u64 z5 29))) (by kernel_rfl)
 ·
  refine AW.sd tt_ok0 mo0 [] [(14, vb (decide (p0.at_ < ((p0.list.length : Nat) : Int))))] [] 13 [] (by kernel_rfl) ?_
  refine AW.co h (by kernel_rfl) (fun c7 h => ?_) (fun c7 h => ?_)
  ·
   obtain ⟨g8, g9, h⟩ := ifd h
   refine AW.sd tt_ok0 mo0 [] [(3, vu64 (u64.wrap (p0.list.getD p0.at_.toNat 0)))] [] 25 [hn, hn, hn, hn, hn, hn, hn, hn, hq g8 g9] (by kernel_rfl) ?_
   refine AW.rg tt_ok0 [] [0] [(0, .box 66 [cl 1 Ri64 p0.list, ci64 (i64.wrap (p0.at_ + 1)), cu64 p0.state])] 33 [] (by kernel_rfl) ?_
   exact jl (u64.wrap (p0.list.getD p0.at_.toNat 0), i64.wrap (p0.at_ + 1)) h (conv_re [(0, 0)] (by kernel_rfl))
  ·
   refine AW.skip ?_
   exact jl (0, p0.at_) h (conv_re [(0, 0)] (by kernel_rfl))
/-! (*recordlink/recordlinkmake.Deck).Next -/
noncomputable def rl_make_Deck_Next (p0 : S_recordlinkmake_Deck) (p1 : Int) : Option (Int × S_recordlinkmake_Deck) := if (decide (p1 < 1)) = true then (some (0, p0)) else (bind2 (rl_make_Deck_Word p0) fun y2 y3 => (if p1 ≠ 0 then (some (((i64.wrap (ishr .u64 y2 1)).tmod p1), y3)) else none))
set_option maxRecDepth 100000 in
theorem rl_make_Deck_Next_con (p0 : S_recordlinkmake_Deck) (p1 : Int) (r : Int × S_recordlinkmake_Deck) (h : rl_make_Deck_Next p0 p1 = some r) : Con Try.prog 16 [.c (.ptr 0 3 0 0), vi64 p1] [(0, .box 66 [cl 1 Ri64 p0.list, ci64 p0.at_, cu64 p0.state])] (vi64 r.1) [(0, .box 66 [cl 1 Ri64 r.2.list, ci64 r.2.at_, cu64 r.2.state])] := by
 refine con_of tt_ok0 1 Try.func16 (by kernel_rfl) rfl (by kernel_rfl) (fun base X _ => AW.post ?_)
 unfold rl_make_Deck_Next at h
 refine AW.sg tt_ok0 [] [] [] 2 [] (by kernel_rfl) ?_
 refine AW.seq ?_
 refine AW.sg tt_ok0 [(6, vb (decide (p1 < 1)))] [] [] 4 [] (by kernel_rfl) ?_
 refine AW.co h (by kernel_rfl) (fun c1 h => ?_) (fun c1 h => ?_)
 ·
  refine AW.sg tt_ok0 [(4, vi64 0)] [] [] 5 [] (by kernel_rfl) ?_
  refine AW.ret (AW.tr ?_)
  obtain rfl := some_inj h
  exact fn0 (.inr rfl) [(0, 0)] 1 (vi64 0) (by kernel_rfl)
 ·
  refine AW.skip (AW.tn ?_)
  obtain ⟨y2, y3, e4, h⟩ := bind2_some h
  obtain ⟨g5, h⟩ := ifc h
  refine AW.sg tt_ok0 [(4, vi64 ((i64.wrap (ishr .u64 y2 1)).tmod p1))] [0] [(0, .box 66 [cl 1 Ri64 y3.list, ci64 y3.at_, cu64 y3.state])] 10 [hn, hl [0] [] 0 (rl_make_Deck_Word_con p0 (y2, y3) e4), ho (p := 0 ≤ (1 : Int)) (by decide), hn, hn, ho g5] (by kernel_rfl) ?_
  refine AW.ret ?_
  obtain rfl := some_inj h
  exact fn0 (.inr rfl) [(0, 0)] 1 (vi64 ((i64.wrap (ishr .u64 y2 1)).tmod p1)) (by kernel_rfl)
/-! (*recordlink/recordlinkmake.Deck).One -/
noncomputable def rl_make_Deck_One (p0 : S_recordlinkmake_Deck) (p1 : Int) : Option (Bool × S_recordlinkmake_Deck) := bind2 (rl_make_Deck_Next p0 p1) fun y1 y2 => (some ((y1 == 0), y2))
set_option maxRecDepth 100000 in
theorem rl_make_Deck_One_con (p0 : S_recordlinkmake_Deck) (p1 : Int) (r : Bool × S_recordlinkmake_Deck) (h : rl_make_Deck_One p0 p1 = some r) : Con Try.prog 42 [.c (.ptr 0 3 0 0), vi64 p1] [(0, .box 66 [cl 1 Ri64 p0.list, ci64 p0.at_, cu64 p0.state])] (vb r.1) [(0, .box 66 [cl 1 Ri64 r.2.list, ci64 r.2.at_, cu64 r.2.state])] := by
 refine con_of tt_ok0 1 Try.func42 (by kernel_rfl) rfl (by kernel_rfl) (fun base X _ => AW.post ?_)
 unfold rl_make_Deck_One at h
 refine AW.sg tt_ok0 [] [] [] 2 [] (by kernel_rfl) ?_
 obtain ⟨y1, y2, e3, h⟩ := bind2_some h
 refine AW.sg tt_ok0 [(4, vb (y1 == 0))] [0] [(0, .box 66 [cl 1 Ri64 y2.list, ci64 y2.at_, cu64 y2.state])] 6 [hn, hn, hl [0] [] 0 (rl_make_Deck_Next_con p0 p1 (y1, y2) e3)] (by kernel_rfl) ?_
 refine AW.ret ?_
 obtain rfl := some_inj h
 exact fn0 (.inr rfl) [(0, 0)] 1 (vb (y1 == 0)) (by kernel_rfl)
def ES_api_Parameters (x : S_api_Parameters) : List T := [.v (.int .i64 x.Length), .v (.int .i64 x.Hashes), .v (.int .i64 x.Salt)]
def RS_api_Parameters (xs : List S_api_Parameters) : Nat → Nat → T := rowL dS_api_Parameters ES_api_Parameters xs
theorem VS_api_Parameters : ∀ x, allV (ES_api_Parameters x) := fun _ => ⟨tv, tv, tv, tv⟩
/-! (*recordlink/recordlinkmake.Deck).Parameters -/
noncomputable def rl_make_Deck_Parameters_k2 (x6 : List S_api_Parameters) (x7 : Int) (y16 : Int) (y19 : Int) (x22 : List Int) (x23 : Int) (x24 : Int) (x25 : Int) : Option (((List S_api_Parameters) × Int × (List Int) × Int × Int) ⊕ ((List S_api_Parameters) × (List Int) × Int × Int)) := if x6.length + ([(⟨i64.wrap (64 * (i64.wrap (1 + y16))), i64.wrap (1 + y19), x25⟩ : S_api_Parameters)] : List S_api_Parameters).length ≤ 1099511627776 then (some (.inl ((x6 ++ ([(⟨i64.wrap (64 * (i64.wrap (1 + y16))), i64.wrap (1 + y19), x25⟩ : S_api_Parameters)] : List S_api_Parameters)), i64.wrap (x7 + 1), x22, x23, x24))) else none
noncomputable def rl_make_Deck_Parameters_k3 (p1 : Int) (x6 : List S_api_Parameters) (x7 : Int) (y16 : Int) (y19 : Int) (x27 : Bool) (x28 : List Int) (x29 : Int) (x30 : Int) : Option (((List S_api_Parameters) × Int × (List Int) × Int × Int) ⊕ ((List S_api_Parameters) × (List Int) × Int × Int)) := if x27 = true then (if p1 ≠ 0 then (rl_make_Deck_Parameters_k2 x6 x7 y16 y19 x28 x29 x30 ((i64.wrap (x7 + 1)).tmod p1)) else none) else (rl_make_Deck_Parameters_k2 x6 x7 y16 y19 x28 x29 x30 (-1))
noncomputable def rl_make_Deck_Parameters_l1 (p1 : Int) (x6 : List S_api_Parameters) (x7 : Int) (x8 : List Int) (x9 : Int) (x10 : Int) : Option (((List S_api_Parameters) × Int × (List Int) × Int × Int) ⊕ ((List S_api_Parameters) × (List Int) × Int × Int)) := if (decide (x7 < p1)) = true then (bind2 (rl_make_Deck_Next (⟨x8, x9, x10⟩ : S_recordlinkmake_Deck) 3) fun y16 y17 => (bind2 (rl_make_Deck_Next y17 6) fun y19 y20 => (if (decide (p1 > 1)) = true then (bind2 (rl_make_Deck_One y20 3) fun y34 y35 => (rl_make_Deck_Parameters_k3 p1 x6 x7 y16 y19 y34 y35.list y35.at_ y35.state)) else (rl_make_Deck_Parameters_k3 p1 x6 x7 y16 y19 false y20.list y20.at_ y20.state)))) else (some (.inr (x6, x8, x9, x10)))
noncomputable def rl_make_Deck_Parameters (p0 : S_recordlinkmake_Deck) (p1 : Int) : Option ((List S_api_Parameters) × S_recordlinkmake_Deck) := bind4 (loop (fun v : (List S_api_Parameters) × Int × (List Int) × Int × Int => rl_make_Deck_Parameters_l1 p1 v.1 v.2.1 v.2.2.1 v.2.2.2.1 v.2.2.2.2) (([] : List S_api_Parameters), 0, p0.list, p0.at_, p0.state)) fun x37 x38 x39 x40 => (some (x37, (⟨x38, x39, x40⟩ : S_recordlinkmake_Deck)))
set_option maxRecDepth 100000 in
theorem rl_make_Deck_Parameters_con (p0 : S_recordlinkmake_Deck) (p1 : Int) (r : (List S_api_Parameters) × S_recordlinkmake_Deck) (h : rl_make_Deck_Parameters p0 p1 = some r) : Con Try.prog 15 [.c (.ptr 0 3 0 0), vi64 p1] [(0, .box 66 [cl 1 Ri64 p0.list, ci64 p0.at_, cu64 p0.state])] (.c (.ref 1 3 0 r.1.length)) [(0, .box 66 [cl 1 Ri64 r.2.list, ci64 r.2.at_, cu64 r.2.state]), (1, .row 28 false 3 r.1.length (RS_api_Parameters r.1))] := by
 refine con_of tt_ok0 1 Try.func15 (by kernel_rfl) rfl (by kernel_rfl) (fun base X _ => AW.post ?_)
 unfold rl_make_Deck_Parameters at h
 refine AW.sg tt_ok0 [] [] [] 2 [] (by kernel_rfl) ?_
 refine AW.sg tt_ok0 [(5, .c (.t (.v (.slice none 0 0))))] [] [] 3 [] (by kernel_rfl) ?_
 refine AW.seq ?_
 refine AW.sg tt_ok0 [(6, vi64 0)] [] [] 4 [] (by kernel_rfl) ?_
 refine AW.block ?_
 obtain ⟨x37, x38, x39, x40, l41, h⟩ := bind4_some h
 refine AW.lp l41 (fun v => ⟨[(0, .c (.ptr 0 3 0 0)), (1, vi64 p1), (5, .c (.ref 1 3 0 v.1.length)), (6, vi64 v.2.1)], [(0, .box 66 [cl 1 Ri64 v.2.2.1, ci64 v.2.2.2.1, cu64 v.2.2.2.2]), (1, .row 28 false 3 v.1.length (RS_api_Parameters v.1))], 2⟩) (fun t : (List S_api_Parameters) × (List Int) × Int × Int => (.exit 0, ⟨[(5, .c (.ref 1 3 0 t.1.length))], [(0, .box 66 [cl 1 Ri64 t.2.1, ci64 t.2.2.1, cu64 t.2.2.2]), (1, .row 28 false 3 t.1.length (RS_api_Parameters t.1))], 2⟩)) (Conv.trans (conv_adopt (t := 5) (ty := 28) (sz := 3) (n := ([] : List S_api_Parameters).length) (f := RS_api_Parameters ([] : List S_api_Parameters)) (by kernel_rfl) rfl) (conv_re [(0, 0), (1, 4)] (by kernel_rfl))) (fun _ => tv) ?_ ?_
 ·
  clear l41 h
  intro v o h
  obtain ⟨x6, x7, x8, x9, x10⟩ := v
  replace h : rl_make_Deck_Parameters_l1 p1 x6 x7 x8 x9 x10 = some o := h
  unfold rl_make_Deck_Parameters_l1 at h
  refine AW.seq ?_
  refine AW.sg tt_ok0 [(10, vb (decide (x7 < p1)))] [] [] 5 [] (by kernel_rfl) ?_
  refine AW.co h (by kernel_rfl) (fun c15 h => ?_) (fun c15 h => ?_)
  ·
   refine AW.skip (AW.tn ?_)
   refine AW.seq (AW.block ?_)
   obtain ⟨y16, y17, e18, h⟩ := bind2_some h
   obtain ⟨y19, y20, e21, h⟩ := bind2_some h
   refine AW.sg tt_ok0 [(7, .c (.ptr 11 3 0 0))] [0, 11] [(11, .box 28 [ci64 (i64.wrap (64 * (i64.wrap (1 + y16)))), ci64 (i64.wrap (1 + y19)), ci64 (-1)]), (0, .box 66 [cl 1 Ri64 y20.list, ci64 y20.at_, cu64 y20.state])] 13 [hn, hl [0] [] 0 (rl_make_Deck_Next_con (⟨x8, x9, x10⟩ : S_recordlinkmake_Deck) 3 (y16, y17) e18), hn, hn, hn, hl [0] [] 0 (rl_make_Deck_Next_con y17 6 (y19, y20) e21)] (by kernel_rfl) ?_
   refine AW.seq ?_
   refine AW.join (ι := (List Int) × Int × Int × Int) (fun v => ⟨[(0, .c (.ptr 0 3 0 0)), (1, vi64 p1), (5, .c (.ref 1 3 0 x6.length)), (6, vi64 x7), (7, .c (.ptr 2 3 0 0))], [(0, .box 66 [cl 1 Ri64 v.1, ci64 v.2.1, cu64 v.2.2.1]), (1, .row 28 false 3 x6.length (RS_api_Parameters x6)), (2, .box 28 [ci64 (i64.wrap (64 * (i64.wrap (1 + y16)))), ci64 (i64.wrap (1 + y19)), ci64 v.2.2.2])], 3⟩) (fun v : (List Int) × Int × Int × Int => rl_make_Deck_Parameters_k2 x6 x7 y16 y19 v.1 v.2.1 v.2.2.1 v.2.2.2 = some o) (fun v h => ?_) ?_
   ·
    obtain ⟨x22, x23, x24, x25⟩ := v
    replace h : rl_make_Deck_Parameters_k2 x6 x7 y16 y19 x22 x23 x24 x25 = some o := h
    unfold rl_make_Deck_Parameters_k2 at h
    refine AW.tn ?_
    obtain ⟨g26, h⟩ := ifc h
    refine AW.rg tt_ok0 [(5, .c (.ref 6 3 0 ((x6 ++ ([(⟨i64.wrap (64 * (i64.wrap (1 + y16))), i64.wrap (1 + y19), x25⟩ : S_api_Parameters)] : List S_api_Parameters)).length)))] [1, 5, 6] [(6, .row 28 false 3 (x6 ++ ([(⟨i64.wrap (64 * (i64.wrap (1 + y16))), i64.wrap (1 + y19), x25⟩ : S_api_Parameters)] : List S_api_Parameters)).length (RS_api_Parameters (x6 ++ ([(⟨i64.wrap (64 * (i64.wrap (1 + y16))), i64.wrap (1 + y19), x25⟩ : S_api_Parameters)] : List S_api_Parameters))))] 8 [hn, hn, hlit dS_api_Parameters ES_api_Parameters 3 (fun _ => rfl) ([(⟨i64.wrap (64 * (i64.wrap (1 + y16))), i64.wrap (1 + y19), x25⟩ : S_api_Parameters)] : List S_api_Parameters), happ dS_api_Parameters ES_api_Parameters 3 24 x6 ([(⟨i64.wrap (64 * (i64.wrap (1 + y16))), i64.wrap (1 + y19), x25⟩ : S_api_Parameters)] : List S_api_Parameters) g26 (by decide)] (by kernel_rfl) ?_
    refine AW.inBlock_normal (AW.tn ?_)
    refine AW.rg tt_ok0 [(6, vi64 (i64.wrap (x7 + 1)))] [] [] 11 [] (by kernel_rfl) ?_
    exact lpn h (conv_re [(0, 0), (1, 6)] (by kernel_rfl))
   ·
    refine AW.seq ?_
    refine AW.join (ι := Bool × (List Int) × Int × Int) (fun v => ⟨[(0, .c (.ptr 0 3 0 0)), (1, vi64 p1), (5, .c (.ref 1 3 0 x6.length)), (6, vi64 x7), (7, .c (.ptr 2 3 0 0)), (26, vb v.1)], [(0, .box 66 [cl 1 Ri64 v.2.1, ci64 v.2.2.1, cu64 v.2.2.2]), (1, .row 28 false 3 x6.length (RS_api_Parameters x6)), (2, .box 28 [ci64 (i64.wrap (64 * (i64.wrap (1 + y16)))), ci64 (i64.wrap (1 + y19)), ci64 (-1)])], 3⟩) (fun v : Bool × (List Int) × Int × Int => rl_make_Deck_Parameters_k3 p1 x6 x7 y16 y19 v.1 v.2.1 v.2.2.1 v.2.2.2 = some o) (fun v h => ?_) ?_
    ·
     obtain ⟨x27, x28, x29, x30⟩ := v
     replace h : rl_make_Deck_Parameters_k3 p1 x6 x7 y16 y19 x27 x28 x29 x30 = some o := h
     unfold rl_make_Deck_Parameters_k3 at h
     refine AW.tn ?_
     refine AW.co h (by kernel_rfl) (fun c31 h => ?_) (fun c31 h => ?_)
     ·
      obtain ⟨g32, h⟩ := ifc h
      refine AW.rg tt_ok0 [] [2] [(2, .box 28 [ci64 (i64.wrap (64 * (i64.wrap (1 + y16)))), ci64 (i64.wrap (1 + y19)), ci64 ((i64.wrap (x7 + 1)).tmod p1)])] 9 [hn, hn, hn, ho g32] (by kernel_rfl) ?_
      exact jl (x28, x29, x30, ((i64.wrap (x7 + 1)).tmod p1)) h (conv_re [(0, 0), (1, 1), (2, 2)] (by kernel_rfl))
     ·
      refine AW.skip ?_
      exact jl (x28, x29, x30, (-1)) h (conv_re [(0, 0), (1, 1), (2, 2)] (by kernel_rfl))
    ·
     rcases ifs h with ⟨c33, h⟩ | ⟨c33, h⟩
     ·
      obtain ⟨y34, y35, e36, h⟩ := bind2_some h
      refine AW.rg tt_ok0 [(26, vb y34)] [0] [(0, .box 66 [cl 1 Ri64 y35.list, ci64 y35.at_, cu64 y35.state])] 18 [hn, ht c33, hn, hn, hl [0] [] 0 (rl_make_Deck_One_con y20 3 (y34, y35) e36)] (by kernel_rfl) ?_
      exact jl (y34, y35.list, y35.at_, y35.state) h (conv_re [(0, 0), (1, 1), (2, 11)] (by kernel_rfl))
     ·
      refine AW.rg tt_ok0 [(26, vb false)] [] [] 19 [hn, hf c33] (by kernel_rfl) ?_
      exact jl (false, y20.list, y20.at_, y20.state) h (conv_re [(0, 0), (1, 1), (2, 11)] (by kernel_rfl))
  ·
   refine AW.exit (AW.thenQ_exit ?_)
   exact lpo h rfl (conv_re [(0, 0), (1, 1)] (by kernel_rfl))
 ·
  show (_ : Exit → St → Prop) (.exit 0) _
  refine AW.inBlock_hit (AW.tn ?_)
  refine AW.sg tt_ok0 [(4, .c (.ref 1 3 0 x37.length))] [] [] 4 [] (by kernel_rfl) ?_
  refine AW.ret ?_
  obtain rfl := some_inj h
  exact fn0 (.inr rfl) [(0, 0), (1, 1)] 2 (.c (.ref 1 3 0 x37.length)) (by kernel_rfl)
/-! (*recordlink/recordlinkmake.Deck).Key -/
noncomputable def rl_make_Deck_Key (p0 : S_recordlinkmake_Deck) : Option (S_api_Key × S_recordlinkmake_Deck) := bind2 (rl_make_Deck_Word p0) fun y1 y2 => (bind2 (rl_make_Deck_Word y2) fun y4 y5 => (some ((⟨y1, y4⟩ : S_api_Key), y5)))
set_option maxRecDepth 100000 in
theorem rl_make_Deck_Key_con (p0 : S_recordlinkmake_Deck) (r : S_api_Key × S_recordlinkmake_Deck) (h : rl_make_Deck_Key p0 = some r) : Con Try.prog 28 [.c (.ptr 0 3 0 0)] [(0, .box 66 [cl 1 Ri64 p0.list, ci64 p0.at_, cu64 p0.state])] (.agg [cu64 r.1.A, cu64 r.1.B]) [(0, .box 66 [cl 1 Ri64 r.2.list, ci64 r.2.at_, cu64 r.2.state])] := by
 refine con_of tt_ok0 1 Try.func28 (by kernel_rfl) rfl (by kernel_rfl) (fun base X _ => AW.post ?_)
 unfold rl_make_Deck_Key at h
 refine AW.sg tt_ok0 [(2, .c (.ptr 1 2 0 0))] [1] [(1, .box 45 [cu64 0, cu64 0])] 2 [] (by kernel_rfl) ?_
 obtain ⟨y1, y2, e3, h⟩ := bind2_some h
 obtain ⟨y4, y5, e6, h⟩ := bind2_some h
 refine AW.sg tt_ok0 [] [0, 1] [(1, .box 45 [cu64 y1, cu64 y4]), (0, .box 66 [cl 1 Ri64 y5.list, ci64 y5.at_, cu64 y5.state])] 6 [hn, hl [0] [] 0 (rl_make_Deck_Word_con p0 (y1, y2) e3), hn, hl [0] [] 0 (rl_make_Deck_Word_con y2 (y4, y5) e6)] (by kernel_rfl) ?_
 refine AW.ret ?_
 obtain rfl := some_inj h
 exact fn0 (.inr rfl) [(0, 0)] 1 (.agg [cu64 y1, cu64 y4]) (by kernel_rfl)
/-! (*recordlink/recordlinkmake.Deck).Pick -/
noncomputable def rl_make_Deck_Pick (p0 : S_recordlinkmake_Deck) (p1 : List ByteArray) : Option (ByteArray × S_recordlinkmake_Deck) := bind2 (rl_make_Deck_Next p0 (p1.length : Int)) fun y1 y2 => (if 0 ≤ y1 then (if y1 < (p1.length : Int) then (some ((p1.getD y1.toNat ByteArray.empty), y2)) else none) else none)
set_option maxRecDepth 100000 in
theorem rl_make_Deck_Pick_con (p0 : S_recordlinkmake_Deck) (p1 : List ByteArray) (r : ByteArray × S_recordlinkmake_Deck) (h : rl_make_Deck_Pick p0 p1 = some r) : Con Try.prog 40 [.c (.ptr 0 3 0 0), vl 1 Rs p1] [(0, .box 66 [cl 1 Ri64 p0.list, ci64 p0.at_, cu64 p0.state])] (vs r.1) [(0, .box 66 [cl 1 Ri64 r.2.list, ci64 r.2.at_, cu64 r.2.state])] := by
 refine con_of tt_ok0 1 Try.func40 (by kernel_rfl) rfl (by kernel_rfl) (fun base X _ => AW.post ?_)
 unfold rl_make_Deck_Pick at h
 refine AW.sg tt_ok0 [] [] [] 2 [] (by kernel_rfl) ?_
 obtain ⟨y1, y2, e3, h⟩ := bind2_some h
 obtain ⟨g4, g5, h⟩ := ifd h
 refine AW.sg tt_ok0 [(4, vs (p1.getD y1.toNat ByteArray.empty))] [0] [(0, .box 66 [cl 1 Ri64 y2.list, ci64 y2.at_, cu64 y2.state])] 9 [hn, hn, hn, hn, hl [0] [] 0 (rl_make_Deck_Next_con p0 (p1.length : Int) (y1, y2) e3), hq g4 g5] (by kernel_rfl) ?_
 refine AW.ret ?_
 obtain rfl := some_inj h
 exact fn0 (.inr rfl) [(0, 0)] 1 (vs (p1.getD y1.toNat ByteArray.empty)) (by kernel_rfl)
/-! recordlink/recordlinklaw14.grams -/
noncomputable def rl_law14_grams_l1 (x9 : List ByteArray) (x10 : Int) (x11 : List Int) (x12 : Int) (x13 : Int) : Option (((List ByteArray) × Int × (List Int) × Int × Int) ⊕ ((List ByteArray) × (List Int) × Int × Int)) := if (decide (x10 > 0)) = true then (bind2 (rl_make_Deck_Pick (⟨x11, x12, x13⟩ : S_recordlinkmake_Deck) ([(ByteArray.mk #[95, 97]), (ByteArray.mk #[97, 110]), (ByteArray.mk #[110, 110]), (ByteArray.mk #[110, 95]), (ByteArray.mk #[114, 116]), (ByteArray.mk #[61, 56, 48, 48, 49]), (ByteArray.mk #[97, 49]), (ByteArray.mk #[111, 98])] : List ByteArray)) fun y19 y20 => (if x9.length + ([y19] : List ByteArray).length ≤ 1099511627776 then (some (.inl ((x9 ++ ([y19] : List ByteArray)), i64.wrap (x10 - 1), y20.list, y20.at_, y20.state))) else none)) else (some (.inr (x9, x11, x12, x13)))
noncomputable def rl_law14_grams (p0 : S_recordlinkmake_Deck) : Option ((List ByteArray) × S_recordlinkmake_Deck) := bind2 (rl_make_Deck_Next p0 12) fun y1 y2 => (bind4 (loop (fun v : (List ByteArray) × Int × (List Int) × Int × Int => rl_law14_grams_l1 v.1 v.2.1 v.2.2.1 v.2.2.2.1 v.2.2.2.2) (([] : List ByteArray), y1, y2.list, y2.at_, y2.state)) fun x23 x24 x25 x26 => (some (x23, (⟨x24, x25, x26⟩ : S_recordlinkmake_Deck))))
set_option maxRecDepth 100000 in
theorem rl_law14_grams_con (p0 : S_recordlinkmake_Deck) (r : (List ByteArray) × S_recordlinkmake_Deck) (h : rl_law14_grams p0 = some r) : Con Try.prog 29 [.c (.ptr 0 3 0 0)] [(0, .box 66 [cl 1 Ri64 p0.list, ci64 p0.at_, cu64 p0.state])] (.c (.ref 1 1 0 r.1.length)) [(0, .box 66 [cl 1 Ri64 r.2.list, ci64 r.2.at_, cu64 r.2.state]), (1, .row 9 false 1 r.1.length (Rs r.1))] := by
 refine con_of tt_ok0 1 Try.func29 (by kernel_rfl) rfl (by kernel_rfl) (fun base X _ => AW.post ?_)
 unfold rl_law14_grams at h
 refine AW.sg tt_ok0 [] [] [] 2 [] (by kernel_rfl) ?_
 refine AW.sg tt_ok0 [(3, .c (.t (.v (.slice none 0 0))))] [] [] 3 [] (by kernel_rfl) ?_
 refine AW.seq ?_
 obtain ⟨y1, y2, e3, h⟩ := bind2_some h
 refine AW.sg tt_ok0 [(4, vi64 y1)] [0] [(0, .box 66 [cl 1 Ri64 y2.list, ci64 y2.at_, cu64 y2.state])] 5 [hn, hl [0] [] 0 (rl_make_Deck_Next_con p0 12 (y1, y2) e3)] (by kernel_rfl) ?_
 refine AW.block ?_
 obtain ⟨x23, x24, x25, x26, l27, h⟩ := bind4_some h
 refine AW.lp l27 (fun v => ⟨[(0, .c (.ptr 0 3 0 0)), (3, .c (.ref 1 1 0 v.1.length)), (4, vi64 v.2.1)], [(0, .box 66 [cl 1 Ri64 v.2.2.1, ci64 v.2.2.2.1, cu64 v.2.2.2.2]), (1, .row 9 false 1 v.1.length (Rs v.1))], 2⟩) (fun t : (List ByteArray) × (List Int) × Int × Int => (.exit 0, ⟨[(3, .c (.ref 1 1 0 t.1.length))], [(0, .box 66 [cl 1 Ri64 t.2.1, ci64 t.2.2.1, cu64 t.2.2.2]), (1, .row 9 false 1 t.1.length (Rs t.1))], 2⟩)) (Conv.trans (conv_adopt (t := 3) (ty := 9) (sz := 1) (n := ([] : List ByteArray).length) (f := Rs ([] : List ByteArray)) (by kernel_rfl) rfl) (conv_re [(0, 0), (1, 5)] (by kernel_rfl))) (fun _ => tv) ?_ ?_
 ·
  clear l27 h
  intro v o h
  obtain ⟨x9, x10, x11, x12, x13⟩ := v
  replace h : rl_law14_grams_l1 x9 x10 x11 x12 x13 = some o := h
  unfold rl_law14_grams_l1 at h
  refine AW.seq ?_
  refine AW.sg tt_ok0 [(8, vb (decide (x10 > 0)))] [] [] 4 [] (by kernel_rfl) ?_
  refine AW.co h (by kernel_rfl) (fun c18 h => ?_) (fun c18 h => ?_)
  ·
   refine AW.skip (AW.tn ?_)
   refine AW.seq (AW.block ?_)
   obtain ⟨y19, y20, e21, h⟩ := bind2_some h
   obtain ⟨g22, h⟩ := ifc h
   refine AW.rg tt_ok0 [(3, .c (.ref 8 1 0 ((x9 ++ ([y19] : List ByteArray)).length)))] [0, 1, 6, 7, 8] [(8, .row 9 false 1 (x9 ++ ([y19] : List ByteArray)).length (Rs (x9 ++ ([y19] : List ByteArray)))), (0, .box 66 [cl 1 Ri64 y20.list, ci64 y20.at_, cu64 y20.state])] 10 [hn, hn, hlit ByteArray.empty Es 1 (fun _ => rfl) ([(ByteArray.mk #[95, 97]), (ByteArray.mk #[97, 110]), (ByteArray.mk #[110, 110]), (ByteArray.mk #[110, 95]), (ByteArray.mk #[114, 116]), (ByteArray.mk #[61, 56, 48, 48, 49]), (ByteArray.mk #[97, 49]), (ByteArray.mk #[111, 98])] : List ByteArray), hg [0] [6] false 0 (q := (True) ∧ (0 + ([(ByteArray.mk #[95, 97]), (ByteArray.mk #[97, 110]), (ByteArray.mk #[110, 110]), (ByteArray.mk #[110, 95]), (ByteArray.mk #[114, 116]), (ByteArray.mk #[61, 56, 48, 48, 49]), (ByteArray.mk #[97, 49]), (ByteArray.mk #[111, 98])] : List ByteArray).length ≤ ([(ByteArray.mk #[95, 97]), (ByteArray.mk #[97, 110]), (ByteArray.mk #[110, 110]), (ByteArray.mk #[110, 95]), (ByteArray.mk #[114, 116]), (ByteArray.mk #[61, 56, 48, 48, 49]), (ByteArray.mk #[97, 49]), (ByteArray.mk #[111, 98])] : List ByteArray).length) ∧ (True)) ⟨tv, le0, tv⟩ (a0 := [.c (.ptr 0 3 0 0), vl 1 Rs ([(ByteArray.mk #[95, 97]), (ByteArray.mk #[97, 110]), (ByteArray.mk #[110, 110]), (ByteArray.mk #[110, 95]), (ByteArray.mk #[114, 116]), (ByteArray.mk #[61, 56, 48, 48, 49]), (ByteArray.mk #[97, 49]), (ByteArray.mk #[111, 98])] : List ByteArray)]) (rl_make_Deck_Pick_con (⟨x11, x12, x13⟩ : S_recordlinkmake_Deck) ([(ByteArray.mk #[95, 97]), (ByteArray.mk #[97, 110]), (ByteArray.mk #[110, 110]), (ByteArray.mk #[110, 95]), (ByteArray.mk #[114, 116]), (ByteArray.mk #[61, 56, 48, 48, 49]), (ByteArray.mk #[97, 49]), (ByteArray.mk #[111, 98])] : List ByteArray) (y19, y20) e21) ⟨ArgLe.refl _, ArgLe.refl _, tv⟩ (fun h => by cases h), hlit ByteArray.empty Es 1 (fun _ => rfl) ([y19] : List ByteArray), happ ByteArray.empty Es 1 16 x9 ([y19] : List ByteArray) g22 (by decide)] (by kernel_rfl) ?_
   refine AW.inBlock_normal (AW.tn ?_)
   refine AW.rg tt_ok0 [(4, vi64 (i64.wrap (x10 - 1)))] [] [] 13 [] (by kernel_rfl) ?_
   exact lpn h (conv_re [(0, 0), (1, 8)] (by kernel_rfl))
  ·
   refine AW.exit (AW.thenQ_exit ?_)
   exact lpo h rfl (conv_re [(0, 0), (1, 1)] (by kernel_rfl))
 ·
  show (_ : Exit → St → Prop) (.exit 0) _
  refine AW.inBlock_hit (AW.tn ?_)
  refine AW.sg tt_ok0 [(2, .c (.ref 1 1 0 x23.length))] [] [] 4 [] (by kernel_rfl) ?_
  refine AW.ret ?_
  obtain rfl := some_inj h
  exact fn0 (.inr rfl) [(0, 0), (1, 1)] 2 (.c (.ref 1 1 0 x23.length)) (by kernel_rfl)
/-! recordlink/recordlinkref09.Copy -/
noncomputable def rl_ref09_Copy (p0 : S_api_Bits) : Option S_api_Bits := if 0 + p0.Words.length ≤ 1099511627776 then (some (⟨p0.Length, (([] : List Int) ++ p0.Words)⟩ : S_api_Bits)) else none
set_option maxRecDepth 100000 in
theorem rl_ref09_Copy_con (p0 : S_api_Bits) (r : S_api_Bits) (h : rl_ref09_Copy p0 = some r) : Con Try.prog 62 [.agg [ci64 p0.Length, cl 1 Ru64 p0.Words]] [] (.agg [ci64 r.Length, .ref 0 1 0 r.Words.length]) [(0, .row 43 false 1 r.Words.length (Ru64 r.Words))] := by
 refine con_of tt_ok0 0 Try.func62 (by kernel_rfl) rfl (by kernel_rfl) (fun base X _ => AW.post ?_)
 unfold rl_ref09_Copy at h
 refine AW.sg tt_ok0 [(2, .c (.ptr 1 2 0 0)), (1, .c (.ptr 0 2 0 0))] [0, 1] [(1, .box 51 [ci64 0, .t (.v (.slice none 0 0))]), (0, .box 51 [ci64 p0.Length, cl 1 Ru64 p0.Words])] 2 [] (by kernel_rfl) ?_
 obtain ⟨g1, h⟩ := ifc h
 refine AW.sd tt_ok0 mo0 [[], [], [], [], [6], [], [1]] [] [(1, .box 51 [ci64 p0.Length, .ref 6 1 0 ((([] : List Int) ++ p0.Words).length)]), (6, .row 43 false 1 (([] : List Int) ++ p0.Words).length (Ru64 (([] : List Int) ++ p0.Words)))] 9 [hn, hn, hn, hn, hr ((([] : List Int) ++ p0.Words).length) (Ru64 (([] : List Int) ++ p0.Words)) (p := (True) ∧ (True) ∧ ((0 + p0.Words.length ≤ 1099511627776) ∧ ((8 : Nat) ≤ 128)) ∧ (0 + p0.Words.length = (([] : List Int) ++ p0.Words).length ∧ ∀ i, i < (([] : List Int) ++ p0.Words).length → ∀ j, j < 1 → TLe ((appRow 0 (fun _ _ => .v undef) (Ru64 p0.Words)) i j) (Ru64 (([] : List Int) ++ p0.Words) i j))) (⟨tv, tv, ⟨g1, (by decide)⟩, rowT (app_row rfl rfl row_nil row_rfl)⟩)] (by kernel_rfl) ?_
 refine AW.ret ?_
 obtain rfl := some_inj h
 exact fn0 (.inr rfl) [(0, 6)] 1 (.agg [ci64 p0.Length, .ref 6 1 0 ((([] : List Int) ++ p0.Words).length)]) (by kernel_rfl)
/-! recordlink/recordlinkref09.combine -/
noncomputable def rl_ref09_combine_k3 (x7 : Int) (x11 : List Int) : Option ((Int × (List Int)) ⊕ (List Int)) := some (.inl (i64.wrap (x7 + 1), x11))
noncomputable def rl_ref09_combine_l2 (p1 : S_api_Bits) (p2 : Int) (x7 : Int) (x8 : List Int) : Option ((Int × (List Int)) ⊕ (List Int)) := if (decide (x7 < (x8.length : Int))) = true then (if (p2 == 0) = true then (if 0 ≤ x7 then (if x7 < (x8.length : Int) then (if x7 < ((p1.Words.length : Nat) : Int) then (rl_ref09_combine_k3 x7 (x8.set (0 + x7.toNat) (iand .u64 (x8.getD (0 + x7.toNat) 0) (p1.Words.getD x7.toNat 0)))) else none) else none) else none) else (if (p2 == 1) = true then (if 0 ≤ x7 then (if x7 < (x8.length : Int) then (if x7 < ((p1.Words.length : Nat) : Int) then (rl_ref09_combine_k3 x7 (x8.set (0 + x7.toNat) (ior .u64 (x8.getD (0 + x7.toNat) 0) (p1.Words.getD x7.toNat 0)))) else none) else none) else none) else (if 0 ≤ x7 then (if x7 < (x8.length : Int) then (if x7 < ((p1.Words.length : Nat) : Int) then (rl_ref09_combine_k3 x7 (x8.set (0 + x7.toNat) (ixor .u64 (x8.getD (0 + x7.toNat) 0) (p1.Words.getD x7.toNat 0)))) else none) else none) else none))) else (some (.inr x8))
noncomputable def rl_ref09_combine_k1 (p0 : S_api_Bits) (p1 : S_api_Bits) (p2 : Int) (x1 : Bool) : Option (S_api_Bits × Int) := if x1 = true then (some ((⟨0, ([] : List Int)⟩ : S_api_Bits), 8)) else ((rl_ref09_Copy p0).bind fun y3 => ((loop (fun v : Int × (List Int) => rl_ref09_combine_l2 p1 p2 v.1 v.2) (0, y3.Words)).bind fun x23 => (some ((⟨y3.Length, x23⟩ : S_api_Bits), 0))))
noncomputable def rl_ref09_combine (p0 : S_api_Bits) (p1 : S_api_Bits) (p2 : Int) : Option (S_api_Bits × Int) := (rl_ref09_Valid p0).bind fun y25 => (if (!y25) = true then (rl_ref09_combine_k1 p0 p1 p2 true) else ((rl_ref09_Valid p1).bind fun y28 => (if (!y28) = true then (rl_ref09_combine_k1 p0 p1 p2 true) else (rl_ref09_combine_k1 p0 p1 p2 (p0.Length != p1.Length)))))
set_option maxRecDepth 100000 in
theorem rl_ref09_combine_con (p0 : S_api_Bits) (p1 : S_api_Bits) (p2 : Int) (r : S_api_Bits × Int) (h : rl_ref09_combine p0 p1 p2 = some r) : Con Try.prog 52 [.agg [ci64 p0.Length, cl 1 Ru64 p0.Words], .agg [ci64 p1.Length, cl 1 Ru64 p1.Words], vi64 p2] [] (.tup [.agg [ci64 r.1.Length, .ref 0 1 0 r.1.Words.length], vi64 r.2]) [(0, .row 43 false 1 r.1.Words.length (Ru64 r.1.Words))] := by
 refine con_of tt_ok0 0 Try.func52 (by kernel_rfl) rfl (by kernel_rfl) (fun base X _ => AW.post ?_)
 unfold rl_ref09_combine at h
 refine AW.sg tt_ok0 [(6, .c (.ptr 2 2 0 0)), (4, .c (.ptr 1 2 0 0)), (3, .c (.ptr 0 2 0 0))] [0, 1, 2] [(2, .box 51 [ci64 0, .t (.v (.slice none 0 0))]), (1, .box 51 [ci64 p1.Length, cl 1 Ru64 p1.Words]), (0, .box 51 [ci64 p0.Length, cl 1 Ru64 p0.Words])] 4 [] (by kernel_rfl) ?_
 refine AW.seq (AW.seq ?_)
 refine AW.join (ι := Bool) (fun v => ⟨[(2, vi64 p2), (3, .c (.ptr 0 2 0 0)), (4, .c (.ptr 1 2 0 0)), (6, .c (.ptr 2 2 0 0)), (24, vb v)], [(0, .box 51 [ci64 p0.Length, cl 1 Ru64 p0.Words]), (1, .box 51 [ci64 p1.Length, cl 1 Ru64 p1.Words]), (2, .box 51 [ci64 0, .t (.v (.slice none 0 0))])], 3⟩) (fun v : Bool => rl_ref09_combine_k1 p0 p1 p2 v = some r) (fun x1 h => ?_) ?_
 ·
  unfold rl_ref09_combine_k1 at h
  refine AW.tn ?_
  refine AW.co h (by kernel_rfl) (fun c2 h => ?_) (fun c2 h => ?_)
  ·
   refine AW.sg tt_ok0 [(7, vi64 8)] [2] [(2, .box 51 [ci64 0, .t (.v (.slice none 0 0))])] 6 [] (by kernel_rfl) ?_
   refine AW.ret (AW.tr ?_)
   obtain rfl := some_inj h
   exact fnR (.inr rfl) [(0, 6)] 1 (.tup [.agg [ci64 0, .ref 6 1 0 (([] : List Int).length)], vi64 8]) (conv_adoptB (id := 2) (ty0 := 51) (cs := [ci64 0, .t (.v (.slice none 0 0))]) 1 (ty := 43) (sz := 1) (n := ([] : List Int).length) (f := Ru64 ([] : List Int)) (by kernel_rfl) (by kernel_rfl) rfl) (by kernel_rfl)
  ·
   refine AW.skip (AW.tn ?_)
   obtain ⟨y3, e4, h⟩ := bnd_some h
   refine AW.sg tt_ok0 [(8, .c (.ptr 5 2 0 0))] [4, 5] [(5, .box 51 [ci64 y3.Length, .ref 4 1 0 y3.Words.length]), (4, .row 43 false 1 y3.Words.length (Ru64 y3.Words))] 7 [hn, hm [] [] 1 (rl_ref09_Copy_con p0 y3 e4) ⟨rowL_flat Vu64 _ _ _, tv⟩] (by kernel_rfl) ?_
   refine AW.seq ?_
   refine AW.sg tt_ok0 [(9, vi64 0)] [] [] 8 [] (by kernel_rfl) ?_
   refine AW.block ?_
   obtain ⟨x23, l24, h⟩ := bnd_some h
   refine AW.lp l24 (fun v => ⟨[(2, vi64 p2), (4, .c (.ptr 0 2 0 0)), (6, .c (.ptr 1 2 0 0)), (8, .c (.ptr 2 2 0 0)), (9, vi64 v.1)], [(0, .box 51 [ci64 p1.Length, cl 1 Ru64 p1.Words]), (1, .box 51 [ci64 0, .t (.v (.slice none 0 0))]), (2, .box 51 [ci64 y3.Length, .ref 3 1 0 v.2.length]), (3, .row 43 false 1 v.2.length (Ru64 v.2))], 4⟩) (fun t : List Int => (.exit 0, ⟨[(6, .c (.ptr 0 2 0 0)), (8, .c (.ptr 1 2 0 0))], [(0, .box 51 [ci64 0, .t (.v (.slice none 0 0))]), (1, .box 51 [ci64 y3.Length, .ref 2 1 0 t.length]), (2, .row 43 false 1 t.length (Ru64 t))], 3⟩)) (conv_re [(0, 1), (1, 2), (2, 5), (3, 4)] (by kernel_rfl)) (fun _ => tv) ?_ ?_
   ·
    clear l24 h
    intro v o h
    obtain ⟨x7, x8⟩ := v
    replace h : rl_ref09_combine_l2 p1 p2 x7 x8 = some o := h
    unfold rl_ref09_combine_l2 at h
    refine AW.seq ?_
    refine AW.sg tt_ok0 [(32, vb (decide (x7 < (x8.length : Int))))] [] [] 9 [] (by kernel_rfl) ?_
    refine AW.co h (by kernel_rfl) (fun c10 h => ?_) (fun c10 h => ?_)
    ·
     refine AW.skip (AW.tn (AW.seq ?_))
     refine AW.join (ι := List Int) (fun v => ⟨[(2, vi64 p2), (4, .c (.ptr 0 2 0 0)), (6, .c (.ptr 1 2 0 0)), (8, .c (.ptr 2 2 0 0)), (9, vi64 x7)], [(0, .box 51 [ci64 p1.Length, cl 1 Ru64 p1.Words]), (1, .box 51 [ci64 0, .t (.v (.slice none 0 0))]), (2, .box 51 [ci64 y3.Length, .ref 3 1 0 v.length]), (3, .row 43 false 1 v.length (Ru64 v))], 4⟩) (fun v : List Int => rl_ref09_combine_k3 x7 v = some o) (fun x11 h => ?_) ?_
     ·
      unfold rl_ref09_combine_k3 at h
      refine AW.tn ?_
      refine AW.rg tt_ok0 [(9, vi64 (i64.wrap (x7 + 1)))] [] [] 7 [] (by kernel_rfl) ?_
      exact lpn h (conv_re [(0, 0), (1, 1), (2, 2), (3, 3)] (by kernel_rfl))
     ·
      refine AW.block ?_
      refine AW.sg tt_ok0 [(35, vi64 p2)] [] [] 10 [] (by kernel_rfl) ?_
      refine AW.block ?_
      refine AW.sg tt_ok0 [(48, vb (p2 == 0))] [] [] 12 [] (by kernel_rfl) ?_
      refine AW.co h (by kernel_rfl) (fun c12 h => ?_) (fun c12 h => ?_)
      ·
       obtain ⟨g13, g14, h⟩ := ifd h
       obtain ⟨g15, h⟩ := ifc h
       refine AW.rd tt_ok0 mo0 [[], [], [], [], [], [], [], [], [], [], [], [], [3]] [] [(3, .row 43 false 1 x8.length (Ru64 (x8.set (0 + x7.toNat) (iand .u64 (x8.getD (0 + x7.toNat) 0) (p1.Words.getD x7.toNat 0)))))] 25 [hn, hn, hn, hq g13 g14, ho (p := (0 + x7.toNat) < x8.length) (by have h1 : 0 ≤ x7 := g13; have h2 : x7 < (x8.length : Int) := g14; omega), hn, hn, hn, hq g13 g15, hn, hn, hq g13 g14, hset 0 Eu64 x8 (0 + x7.toNat) (iand .u64 (x8.getD (0 + x7.toNat) 0) (p1.Words.getD x7.toNat 0)) (n := x8.length) (by have h1 : 0 ≤ x7 := g13; have h2 : x7 < (x8.length : Int) := g14; omega) rfl] (by kernel_rfl) ?_
       refine AW.inBlock_normal (AW.inBlock_normal ?_)
       exact jl (x8.set (0 + x7.toNat) (iand .u64 (x8.getD (0 + x7.toNat) 0) (p1.Words.getD x7.toNat 0))) h (Conv.trans (conv_re (S' := ⟨[(2, vi64 p2), (4, .c (.ptr 0 2 0 0)), (6, .c (.ptr 1 2 0 0)), (8, .c (.ptr 2 2 0 0)), (9, vi64 x7)], [(3, .row 43 false 1 x8.length (Ru64 (x8.set (0 + x7.toNat) (iand .u64 (x8.getD (0 + x7.toNat) 0) (p1.Words.getD x7.toNat 0))))), (0, .box 51 [ci64 p1.Length, cl 1 Ru64 p1.Words]), (1, .box 51 [ci64 0, .t (.v (.slice none 0 0))]), (2, .box 51 [ci64 y3.Length, .ref 3 1 0 x8.length])], 25⟩) [(3, 3), (0, 0), (1, 1), (2, 2)] (by kernel_rfl)) (Conv.trans (conv_len (S' := ⟨[(2, vi64 p2), (4, .c (.ptr 0 2 0 0)), (6, .c (.ptr 1 2 0 0)), (8, .c (.ptr 2 2 0 0)), (9, vi64 x7)], [(3, .row 43 false 1 (x8.set (0 + x7.toNat) (iand .u64 (x8.getD (0 + x7.toNat) 0) (p1.Words.getD x7.toNat 0))).length (Ru64 (x8.set (0 + x7.toNat) (iand .u64 (x8.getD (0 + x7.toNat) 0) (p1.Words.getD x7.toNat 0))))), (0, .box 51 [ci64 p1.Length, cl 1 Ru64 p1.Words]), (1, .box 51 [ci64 0, .t (.v (.slice none 0 0))]), (2, .box 51 [ci64 y3.Length, .ref 3 1 0 ((x8.set (0 + x7.toNat) (iand .u64 (x8.getD (0 + x7.toNat) 0) (p1.Words.getD x7.toNat 0))).length)])], 25⟩) (by simp only [List.length_set])) (conv_re [(0, 0), (1, 1), (2, 2), (3, 3)] (by kernel_rfl))))
      ·
       refine AW.sg tt_ok0 [(62, vb (p2 == 1))] [] [] 14 [] (by kernel_rfl) ?_
       refine AW.co h (by kernel_rfl) (fun c16 h => ?_) (fun c16 h => ?_)
       ·
        obtain ⟨g17, g18, h⟩ := ifd h
        obtain ⟨g19, h⟩ := ifc h
        refine AW.rd tt_ok0 mo0 [[], [], [], [], [], [], [], [], [], [], [], [], [3]] [] [(3, .row 43 false 1 x8.length (Ru64 (x8.set (0 + x7.toNat) (ior .u64 (x8.getD (0 + x7.toNat) 0) (p1.Words.getD x7.toNat 0)))))] 27 [hn, hn, hn, hq g17 g18, ho (p := (0 + x7.toNat) < x8.length) (by have h1 : 0 ≤ x7 := g17; have h2 : x7 < (x8.length : Int) := g18; omega), hn, hn, hn, hq g17 g19, hn, hn, hq g17 g18, hset 0 Eu64 x8 (0 + x7.toNat) (ior .u64 (x8.getD (0 + x7.toNat) 0) (p1.Words.getD x7.toNat 0)) (n := x8.length) (by have h1 : 0 ≤ x7 := g17; have h2 : x7 < (x8.length : Int) := g18; omega) rfl] (by kernel_rfl) ?_
        refine AW.inBlock_normal (AW.inBlock_normal ?_)
        exact jl (x8.set (0 + x7.toNat) (ior .u64 (x8.getD (0 + x7.toNat) 0) (p1.Words.getD x7.toNat 0))) h (Conv.trans (conv_re (S' := ⟨[(2, vi64 p2), (4, .c (.ptr 0 2 0 0)), (6, .c (.ptr 1 2 0 0)), (8, .c (.ptr 2 2 0 0)), (9, vi64 x7)], [(3, .row 43 false 1 x8.length (Ru64 (x8.set (0 + x7.toNat) (ior .u64 (x8.getD (0 + x7.toNat) 0) (p1.Words.getD x7.toNat 0))))), (0, .box 51 [ci64 p1.Length, cl 1 Ru64 p1.Words]), (1, .box 51 [ci64 0, .t (.v (.slice none 0 0))]), (2, .box 51 [ci64 y3.Length, .ref 3 1 0 x8.length])], 27⟩) [(3, 3), (0, 0), (1, 1), (2, 2)] (by kernel_rfl)) (Conv.trans (conv_len (S' := ⟨[(2, vi64 p2), (4, .c (.ptr 0 2 0 0)), (6, .c (.ptr 1 2 0 0)), (8, .c (.ptr 2 2 0 0)), (9, vi64 x7)], [(3, .row 43 false 1 (x8.set (0 + x7.toNat) (ior .u64 (x8.getD (0 + x7.toNat) 0) (p1.Words.getD x7.toNat 0))).length (Ru64 (x8.set (0 + x7.toNat) (ior .u64 (x8.getD (0 + x7.toNat) 0) (p1.Words.getD x7.toNat 0))))), (0, .box 51 [ci64 p1.Length, cl 1 Ru64 p1.Words]), (1, .box 51 [ci64 0, .t (.v (.slice none 0 0))]), (2, .box 51 [ci64 y3.Length, .ref 3 1 0 ((x8.set (0 + x7.toNat) (ior .u64 (x8.getD (0 + x7.toNat) 0) (p1.Words.getD x7.toNat 0))).length)])], 27⟩) (by simp only [List.length_set])) (conv_re [(0, 0), (1, 1), (2, 2), (3, 3)] (by kernel_rfl))))
       ·
        obtain ⟨g20, g21, h⟩ := ifd h
        obtain ⟨g22, h⟩ := ifc h
        refine AW.rd tt_ok0 mo0 [[], [], [], [], [], [], [], [], [], [], [], [], [3]] [] [(3, .row 43 false 1 x8.length (Ru64 (x8.set (0 + x7.toNat) (ixor .u64 (x8.getD (0 + x7.toNat) 0) (p1.Words.getD x7.toNat 0)))))] 27 [hn, hn, hn, hq g20 g21, ho (p := (0 + x7.toNat) < x8.length) (by have h1 : 0 ≤ x7 := g20; have h2 : x7 < (x8.length : Int) := g21; omega), hn, hn, hn, hq g20 g22, hn, hn, hq g20 g21, hset 0 Eu64 x8 (0 + x7.toNat) (ixor .u64 (x8.getD (0 + x7.toNat) 0) (p1.Words.getD x7.toNat 0)) (n := x8.length) (by have h1 : 0 ≤ x7 := g20; have h2 : x7 < (x8.length : Int) := g21; omega) rfl] (by kernel_rfl) ?_
        refine AW.inBlock_normal (AW.inBlock_normal ?_)
        exact jl (x8.set (0 + x7.toNat) (ixor .u64 (x8.getD (0 + x7.toNat) 0) (p1.Words.getD x7.toNat 0))) h (Conv.trans (conv_re (S' := ⟨[(2, vi64 p2), (4, .c (.ptr 0 2 0 0)), (6, .c (.ptr 1 2 0 0)), (8, .c (.ptr 2 2 0 0)), (9, vi64 x7)], [(3, .row 43 false 1 x8.length (Ru64 (x8.set (0 + x7.toNat) (ixor .u64 (x8.getD (0 + x7.toNat) 0) (p1.Words.getD x7.toNat 0))))), (0, .box 51 [ci64 p1.Length, cl 1 Ru64 p1.Words]), (1, .box 51 [ci64 0, .t (.v (.slice none 0 0))]), (2, .box 51 [ci64 y3.Length, .ref 3 1 0 x8.length])], 27⟩) [(3, 3), (0, 0), (1, 1), (2, 2)] (by kernel_rfl)) (Conv.trans (conv_len (S' := ⟨[(2, vi64 p2), (4, .c (.ptr 0 2 0 0)), (6, .c (.ptr 1 2 0 0)), (8, .c (.ptr 2 2 0 0)), (9, vi64 x7)], [(3, .row 43 false 1 (x8.set (0 + x7.toNat) (ixor .u64 (x8.getD (0 + x7.toNat) 0) (p1.Words.getD x7.toNat 0))).length (Ru64 (x8.set (0 + x7.toNat) (ixor .u64 (x8.getD (0 + x7.toNat) 0) (p1.Words.getD x7.toNat 0))))), (0, .box 51 [ci64 p1.Length, cl 1 Ru64 p1.Words]), (1, .box 51 [ci64 0, .t (.v (.slice none 0 0))]), (2, .box 51 [ci64 y3.Length, .ref 3 1 0 ((x8.set (0 + x7.toNat) (ixor .u64 (x8.getD (0 + x7.toNat) 0) (p1.Words.getD x7.toNat 0))).length)])], 27⟩) (by simp only [List.length_set])) (conv_re [(0, 0), (1, 1), (2, 2), (3, 3)] (by kernel_rfl))))
    ·
     refine AW.exit (AW.thenQ_exit ?_)
     exact lpo h rfl (conv_re [(0, 1), (1, 2), (2, 3)] (by kernel_rfl))
   ·
    show (_ : Exit → St → Prop) (.exit 0) _
    refine AW.inBlock_hit (AW.tn ?_)
    refine AW.sg tt_ok0 [(7, vi64 0)] [0] [(0, .box 51 [ci64 y3.Length, .ref 2 1 0 x23.length])] 6 [] (by kernel_rfl) ?_
    refine AW.ret ?_
    obtain rfl := some_inj h
    exact fn0 (.inr rfl) [(0, 2)] 1 (.tup [.agg [ci64 y3.Length, .ref 2 1 0 x23.length], vi64 0]) (by kernel_rfl)
 ·
  obtain ⟨y25, e26, h⟩ := bnd_some h
  rcases ifs h with ⟨c27, h⟩ | ⟨c27, h⟩
  ·
   refine AW.rg tt_ok0 [(24, vb true)] [] [] 18 [hn, hk (rl_ref09_Valid_con p0 y25 e26), ht c27] (by kernel_rfl) ?_
   exact jl true h (conv_re [(0, 0), (1, 1), (2, 2)] (by kernel_rfl))
  ·
   obtain ⟨y28, e29, h⟩ := bnd_some h
   rcases ifs h with ⟨c30, h⟩ | ⟨c30, h⟩
   ·
    refine AW.rg tt_ok0 [(24, vb true)] [] [] 17 [hn, hk (rl_ref09_Valid_con p0 y25 e26), hf c27, hn, hn, hk (rl_ref09_Valid_con p1 y28 e29), ht c30] (by kernel_rfl) ?_
    exact jl true h (conv_re [(0, 0), (1, 1), (2, 2)] (by kernel_rfl))
   ·
    refine AW.rg tt_ok0 [(24, vb (p0.Length != p1.Length))] [] [] 17 [hn, hk (rl_ref09_Valid_con p0 y25 e26), hf c27, hn, hn, hk (rl_ref09_Valid_con p1 y28 e29), hf c30] (by kernel_rfl) ?_
    exact jl (p0.Length != p1.Length) h (conv_re [(0, 0), (1, 1), (2, 2)] (by kernel_rfl))
/-! recordlink/recordlinkref09.Or -/
noncomputable def rl_ref09_Or (p0 : S_api_Bits) (p1 : S_api_Bits) : Option (S_api_Bits × Int) := bind2 (rl_ref09_combine p0 p1 1) fun y1 y2 => (some (y1, y2))
set_option maxRecDepth 100000 in
theorem rl_ref09_Or_con (p0 : S_api_Bits) (p1 : S_api_Bits) (r : S_api_Bits × Int) (h : rl_ref09_Or p0 p1 = some r) : Con Try.prog 31 [.agg [ci64 p0.Length, cl 1 Ru64 p0.Words], .agg [ci64 p1.Length, cl 1 Ru64 p1.Words]] [] (.tup [.agg [ci64 r.1.Length, .ref 0 1 0 r.1.Words.length], vi64 r.2]) [(0, .row 43 false 1 r.1.Words.length (Ru64 r.1.Words))] := by
 refine con_of tt_ok0 0 Try.func31 (by kernel_rfl) rfl (by kernel_rfl) (fun base X _ => AW.post ?_)
 unfold rl_ref09_Or at h
 refine AW.sg tt_ok0 [(4, .c (.ptr 2 2 0 0)), (3, .c (.ptr 1 2 0 0)), (2, .c (.ptr 0 2 0 0))] [0, 1, 2] [(2, .box 51 [ci64 0, .t (.v (.slice none 0 0))]), (1, .box 51 [ci64 p1.Length, cl 1 Ru64 p1.Words]), (0, .box 51 [ci64 p0.Length, cl 1 Ru64 p0.Words])] 4 [] (by kernel_rfl) ?_
 obtain ⟨y1, y2, e3, h⟩ := bind2_some h
 refine AW.sg tt_ok0 [(5, vi64 y2)] [2, 6] [(2, .box 51 [ci64 y1.Length, .ref 6 1 0 y1.Words.length]), (6, .row 43 false 1 y1.Words.length (Ru64 y1.Words))] 11 [hn, hn, hm [] [] 1 (rl_ref09_combine_con p0 p1 1 (y1, y2) e3) ⟨rowL_flat Vu64 _ _ _, tv⟩] (by kernel_rfl) ?_
 refine AW.ret ?_
 obtain rfl := some_inj h
 exact fn0 (.inr rfl) [(0, 6)] 1 (.tup [.agg [ci64 y1.Length, .ref 6 1 0 y1.Words.length], vi64 y2]) (by kernel_rfl)
/-! recordlink/recordlinkref09.order -/
noncomputable def rl_ref09_order (p0 : Int) (p1 : Int) : Option Int := if (decide (p0 < p1)) = true then (some (-1)) else (if (decide (p0 > p1)) = true then (some 1) else (some 0))
set_option maxRecDepth 100000 in
theorem rl_ref09_order_con (p0 : Int) (p1 : Int) (r : Int) (h : rl_ref09_order p0 p1 = some r) : Con Try.prog 53 [vi64 p0, vi64 p1] [] (vi64 r) [] := by
 refine con_of tt_ok0 0 Try.func53 (by kernel_rfl) rfl (by kernel_rfl) (fun base X _ => AW.post ?_)
 unfold rl_ref09_order at h
 refine AW.sg tt_ok0 [] [] [] 1 [] (by kernel_rfl) ?_
 refine AW.seq ?_
 refine AW.sg tt_ok0 [(7, vb (decide (p0 < p1)))] [] [] 4 [] (by kernel_rfl) ?_
 refine AW.co h (by kernel_rfl) (fun c1 h => ?_) (fun c1 h => ?_)
 ·
  refine AW.sg tt_ok0 [(4, vi64 (-1))] [] [] 5 [] (by kernel_rfl) ?_
  refine AW.ret (AW.tr ?_)
  obtain rfl := some_inj h
  exact fn0 (.inr rfl) [] 0 (vi64 (-1)) (by kernel_rfl)
 ·
  refine AW.skip (AW.tn (AW.seq ?_))
  refine AW.sg tt_ok0 [(10, vb (decide (p0 > p1)))] [] [] 7 [] (by kernel_rfl) ?_
  refine AW.co h (by kernel_rfl) (fun c2 h => ?_) (fun c2 h => ?_)
  ·
   refine AW.sg tt_ok0 [(4, vi64 1)] [] [] 8 [] (by kernel_rfl) ?_
   refine AW.ret (AW.tr ?_)
   obtain rfl := some_inj h
   exact fn0 (.inr rfl) [] 0 (vi64 1) (by kernel_rfl)
  ·
   refine AW.skip (AW.tn ?_)
   refine AW.sg tt_ok0 [(4, vi64 0)] [] [] 8 [] (by kernel_rfl) ?_
   refine AW.ret ?_
   obtain rfl := some_inj h
   exact fn0 (.inr rfl) [] 0 (vi64 0) (by kernel_rfl)
/-! recordlink/recordlinkref09.Compare -/
noncomputable def rl_ref09_Compare_l1 (p0 : S_api_Bits) (p1 : S_api_Bits) (x8 : Int) : Option (Int ⊕ (Unit ⊕ Int)) := if (decide (x8 < ((p0.Words.length : Nat) : Int))) = true then (if 0 ≤ x8 then (if x8 < ((p0.Words.length : Nat) : Int) then (if x8 < ((p1.Words.length : Nat) : Int) then (if (decide ((p0.Words.getD x8.toNat 0) < (p1.Words.getD x8.toNat 0))) = true then (some (.inr (.inr (-1)))) else (if (decide ((p0.Words.getD x8.toNat 0) > (p1.Words.getD x8.toNat 0))) = true then (some (.inr (.inr 1))) else (some (.inl (i64.wrap (x8 + 1)))))) else none) else none) else none) else (some (.inr (.inl ())))
noncomputable def rl_ref09_Compare_a2 : Option Int := some 0
noncomputable def rl_ref09_Compare_a3 (x16 : Int) : Option Int := some x16
noncomputable def rl_ref09_Compare (p0 : S_api_Bits) (p1 : S_api_Bits) : Option Int := (rl_ref09_order p0.Length p1.Length).bind fun y1 => (if (y1 != 0) = true then (some y1) else ((rl_ref09_order ((p0.Words.length : Nat) : Int) ((p1.Words.length : Nat) : Int)).bind fun y4 => (if (y4 != 0) = true then (some y4) else (bindE (loop (fun v : Int => rl_ref09_Compare_l1 p0 p1 v) 0) (fun t => rl_ref09_Compare_a2) (fun t => rl_ref09_Compare_a3 t)))))
set_option maxRecDepth 100000 in
theorem rl_ref09_Compare_con (p0 : S_api_Bits) (p1 : S_api_Bits) (r : Int) (h : rl_ref09_Compare p0 p1 = some r) : Con Try.prog 32 [.agg [ci64 p0.Length, cl 1 Ru64 p0.Words], .agg [ci64 p1.Length, cl 1 Ru64 p1.Words]] [] (vi64 r) [] := by
 refine con_of tt_ok0 0 Try.func32 (by kernel_rfl) rfl (by kernel_rfl) (fun base X _ => AW.post ?_)
 unfold rl_ref09_Compare at h
 refine AW.sg tt_ok0 [(3, .c (.ptr 1 2 0 0)), (2, .c (.ptr 0 2 0 0))] [0, 1] [(1, .box 51 [ci64 p1.Length, cl 1 Ru64 p1.Words]), (0, .box 51 [ci64 p0.Length, cl 1 Ru64 p0.Words])] 3 [] (by kernel_rfl) ?_
 refine AW.seq ?_
 obtain ⟨y1, e2, h⟩ := bnd_some h
 refine AW.sg tt_ok0 [(5, vi64 y1)] [] [] 8 [hn, hn, hn, hn, hk (rl_ref09_order_con p0.Length p1.Length y1 e2)] (by kernel_rfl) ?_
 refine AW.sg tt_ok0 [(14, vb (y1 != 0))] [] [] 10 [] (by kernel_rfl) ?_
 refine AW.co h (by kernel_rfl) (fun c3 h => ?_) (fun c3 h => ?_)
 ·
  refine AW.sg tt_ok0 [(4, vi64 y1)] [] [] 12 [] (by kernel_rfl) ?_
  refine AW.ret (AW.tr ?_)
  obtain rfl := some_inj h
  exact fn0 (.inr rfl) [] 0 (vi64 y1) (by kernel_rfl)
 ·
  refine AW.skip (AW.tn (AW.seq ?_))
  obtain ⟨y4, e5, h⟩ := bnd_some h
  refine AW.sg tt_ok0 [(6, vi64 y4)] [] [] 17 [hn, hn, hn, hn, hn, hn, hk (rl_ref09_order_con ((p0.Words.length : Nat) : Int) ((p1.Words.length : Nat) : Int) y4 e5)] (by kernel_rfl) ?_
  refine AW.sg tt_ok0 [(24, vb (y4 != 0))] [] [] 19 [] (by kernel_rfl) ?_
  refine AW.co h (by kernel_rfl) (fun c6 h => ?_) (fun c6 h => ?_)
  ·
   refine AW.sg tt_ok0 [(4, vi64 y4)] [] [] 21 [] (by kernel_rfl) ?_
   refine AW.ret (AW.tr ?_)
   obtain rfl := some_inj h
   exact fn0 (.inr rfl) [] 0 (vi64 y4) (by kernel_rfl)
  ·
   refine AW.skip (AW.tn (AW.seq ?_))
   refine AW.sg tt_ok0 [(7, vi64 0)] [] [] 20 [] (by kernel_rfl) ?_
   refine AW.block ?_
   refine AW.lpE h (fun v => ⟨[(2, .c (.ptr 0 2 0 0)), (3, .c (.ptr 1 2 0 0)), (7, vi64 v)], [(0, .box 51 [ci64 p0.Length, cl 1 Ru64 p0.Words]), (1, .box 51 [ci64 p1.Length, cl 1 Ru64 p1.Words])], 2⟩) (fun t => (.exit 0, ⟨[], [], 0⟩)) (fun t => (.ret, ⟨[(4, vi64 t)], [], 0⟩)) (conv_re [(0, 0), (1, 1)] (by kernel_rfl)) (fun _ => tv) (fun _ => tv) ?_ (fun t h => ?_) (fun x16 h => ?_)
   ·
    clear h
    intro x8 o h
    unfold rl_ref09_Compare_l1 at h
    refine AW.seq ?_
    refine AW.sg tt_ok0 [(30, vb (decide (x8 < ((p0.Words.length : Nat) : Int))))] [] [] 7 [] (by kernel_rfl) ?_
    refine AW.co h (by kernel_rfl) (fun c10 h => ?_) (fun c10 h => ?_)
    ·
     refine AW.skip (AW.tn ?_)
     refine AW.seq (AW.block (AW.seq ?_))
     obtain ⟨g11, g12, h⟩ := ifd h
     obtain ⟨g13, h⟩ := ifc h
     refine AW.sd tt_ok0 mo0 [] [(43, vb (decide ((p0.Words.getD x8.toNat 0) < (p1.Words.getD x8.toNat 0))))] [] 18 [hn, hn, hn, hq g11 g12, hn, hn, hn, hn, hq g11 g13] (by kernel_rfl) ?_
     refine AW.co h (by kernel_rfl) (fun c14 h => ?_) (fun c14 h => ?_)
     ·
      refine AW.sg tt_ok0 [(4, vi64 (-1))] [] [] 19 [] (by kernel_rfl) ?_
      refine AW.ret (AW.tr ?_)
      refine AW.inBlock_ret (AW.tr ?_)
      exact lpo h rfl (conv_re [] (by kernel_rfl))
     ·
      refine AW.skip (AW.tn ?_)
      refine AW.sd tt_ok0 mo0 [] [(54, vb (decide ((p0.Words.getD x8.toNat 0) > (p1.Words.getD x8.toNat 0))))] [] 29 [hn, hn, hn, hq g11 g12, hn, hn, hn, hn, hq g11 g13] (by kernel_rfl) ?_
      refine AW.co h (by kernel_rfl) (fun c15 h => ?_) (fun c15 h => ?_)
      ·
       refine AW.sg tt_ok0 [(4, vi64 1)] [] [] 30 [] (by kernel_rfl) ?_
       refine AW.ret (AW.inBlock_ret (AW.tr ?_))
       exact lpo h rfl (conv_re [] (by kernel_rfl))
      ·
       refine AW.skip (AW.inBlock_normal (AW.tn ?_))
       refine AW.rg tt_ok0 [(7, vi64 (i64.wrap (x8 + 1)))] [] [] 32 [] (by kernel_rfl) ?_
       exact lpn h (conv_re [(0, 0), (1, 1)] (by kernel_rfl))
    ·
     refine AW.exit (AW.thenQ_exit ?_)
     exact lpo h rfl (conv_re [] (by kernel_rfl))
   ·
    replace h : rl_ref09_Compare_a2 = some r := h
    unfold rl_ref09_Compare_a2 at h
    show (_ : Exit → St → Prop) (.exit 0) _
    refine AW.inBlock_hit (AW.tn ?_)
    refine AW.sg tt_ok0 [(4, vi64 0)] [] [] 1 [] (by kernel_rfl) ?_
    refine AW.ret ?_
    obtain rfl := some_inj h
    exact fn0 (.inr rfl) [] 0 (vi64 0) (by kernel_rfl)
   ·
    unfold rl_ref09_Compare_a3 at h
    show (_ : Exit → St → Prop) (.ret) _
    refine AW.inBlock_ret (AW.tr ?_)
    obtain rfl := some_inj h
    exact fn0 (.inr rfl) [] 0 (vi64 x16) (by kernel_rfl)
/-! recordlink/recordlinkref09.New -/
noncomputable def rl_ref09_New (p0 : Int) : Option (S_api_Bits × Int) := (rl_ref09_length p0).bind fun y1 => (if (!y1) = true then (some ((⟨0, ([] : List Int)⟩ : S_api_Bits), 2)) else (if 0 ≤ (i64.wrap (p0.tdiv 64)) then (if (i64.wrap (p0.tdiv 64)) ≤ 1099511627776 then (some ((⟨p0, (List.replicate ((i64.wrap (p0.tdiv 64)).toNat) (0 : Int))⟩ : S_api_Bits), 0)) else none) else none))
set_option maxRecDepth 100000 in
theorem rl_ref09_New_con (p0 : Int) (r : S_api_Bits × Int) (h : rl_ref09_New p0 = some r) : Con Try.prog 33 [vi64 p0] [] (.tup [.agg [ci64 r.1.Length, .ref 0 1 0 r.1.Words.length], vi64 r.2]) [(0, .row 43 false 1 r.1.Words.length (Ru64 r.1.Words))] := by
 refine con_of tt_ok0 0 Try.func33 (by kernel_rfl) rfl (by kernel_rfl) (fun base X _ => AW.post ?_)
 unfold rl_ref09_New at h
 refine AW.sg tt_ok0 [(2, .c (.ptr 0 2 0 0))] [0] [(0, .box 51 [ci64 0, .t (.v (.slice none 0 0))])] 2 [] (by kernel_rfl) ?_
 refine AW.seq ?_
 obtain ⟨y1, e2, h⟩ := bnd_some h
 refine AW.sg tt_ok0 [(6, vb (!y1))] [] [] 4 [hn, hk (rl_ref09_length_con p0 y1 e2)] (by kernel_rfl) ?_
 refine AW.co h (by kernel_rfl) (fun c3 h => ?_) (fun c3 h => ?_)
 ·
  refine AW.sg tt_ok0 [(3, vi64 2)] [0] [(0, .box 51 [ci64 0, .t (.v (.slice none 0 0))])] 7 [] (by kernel_rfl) ?_
  refine AW.ret (AW.tr ?_)
  obtain rfl := some_inj h
  exact fnR (.inr rfl) [(0, 7)] 1 (.tup [.agg [ci64 0, .ref 7 1 0 (([] : List Int).length)], vi64 2]) (conv_adoptB (id := 0) (ty0 := 51) (cs := [ci64 0, .t (.v (.slice none 0 0))]) 1 (ty := 43) (sz := 1) (n := ([] : List Int).length) (f := Ru64 ([] : List Int)) (by kernel_rfl) (by kernel_rfl) rfl) (by kernel_rfl)
 ·
  refine AW.skip (AW.tn ?_)
  obtain ⟨g4, g5, h⟩ := ifd h
  refine AW.sg tt_ok0 [(3, vi64 0)] [0, 7] [(0, .box 51 [ci64 p0, .ref 7 1 0 ((List.replicate ((i64.wrap (p0.tdiv 64)).toNat) (0 : Int)).length)]), (7, .row 43 false 1 (List.replicate ((i64.wrap (p0.tdiv 64)).toNat) (0 : Int)).length (Ru64 (List.replicate ((i64.wrap (p0.tdiv 64)).toNat) (0 : Int))))] 11 [hn, hn, ho (p := (64 : Int) ≠ 0) (by decide), hmk 0 Eu64 1 8 [.int .u64 0] rfl rfl (i64.wrap (p0.tdiv 64)) (i64.wrap (p0.tdiv 64)) g4 (Int.le_refl _) g5 (by decide)] (by kernel_rfl) ?_
  refine AW.ret ?_
  obtain rfl := some_inj h
  exact fn0 (.inr rfl) [(0, 7)] 1 (.tup [.agg [ci64 p0, .ref 7 1 0 ((List.replicate ((i64.wrap (p0.tdiv 64)).toNat) (0 : Int)).length)], vi64 0]) (by kernel_rfl)
/-! recordlink/recordlinkref09.And -/
noncomputable def rl_ref09_And (p0 : S_api_Bits) (p1 : S_api_Bits) : Option (S_api_Bits × Int) := bind2 (rl_ref09_combine p0 p1 0) fun y1 y2 => (some (y1, y2))
set_option maxRecDepth 100000 in
theorem rl_ref09_And_con (p0 : S_api_Bits) (p1 : S_api_Bits) (r : S_api_Bits × Int) (h : rl_ref09_And p0 p1 = some r) : Con Try.prog 37 [.agg [ci64 p0.Length, cl 1 Ru64 p0.Words], .agg [ci64 p1.Length, cl 1 Ru64 p1.Words]] [] (.tup [.agg [ci64 r.1.Length, .ref 0 1 0 r.1.Words.length], vi64 r.2]) [(0, .row 43 false 1 r.1.Words.length (Ru64 r.1.Words))] := by
 refine con_of tt_ok0 0 Try.func37 (by kernel_rfl) rfl (by kernel_rfl) (fun base X _ => AW.post ?_)
 unfold rl_ref09_And at h
 refine AW.sg tt_ok0 [(4, .c (.ptr 2 2 0 0)), (3, .c (.ptr 1 2 0 0)), (2, .c (.ptr 0 2 0 0))] [0, 1, 2] [(2, .box 51 [ci64 0, .t (.v (.slice none 0 0))]), (1, .box 51 [ci64 p1.Length, cl 1 Ru64 p1.Words]), (0, .box 51 [ci64 p0.Length, cl 1 Ru64 p0.Words])] 4 [] (by kernel_rfl) ?_
 obtain ⟨y1, y2, e3, h⟩ := bind2_some h
 refine AW.sg tt_ok0 [(5, vi64 y2)] [2, 6] [(2, .box 51 [ci64 y1.Length, .ref 6 1 0 y1.Words.length]), (6, .row 43 false 1 y1.Words.length (Ru64 y1.Words))] 11 [hn, hn, hm [] [] 1 (rl_ref09_combine_con p0 p1 0 (y1, y2) e3) ⟨rowL_flat Vu64 _ _ _, tv⟩] (by kernel_rfl) ?_
 refine AW.ret ?_
 obtain rfl := some_inj h
 exact fn0 (.inr rfl) [(0, 6)] 1 (.tup [.agg [ci64 y1.Length, .ref 6 1 0 y1.Words.length], vi64 y2]) (by kernel_rfl)
/-! recordlink/recordlinkref01.Ints -/
noncomputable def rl_ref01_Ints_l1 (p0 : List Int) (p1 : List Int) (x3 : Int) : Option (Int ⊕ (Unit ⊕ Unit)) := if (decide (x3 < (p0.length : Int))) = true then (if 0 ≤ x3 then (if x3 < (p0.length : Int) then (if x3 < (p1.length : Int) then (if ((p0.getD x3.toNat 0) != (p1.getD x3.toNat 0)) = true then (some (.inr (.inr ()))) else (some (.inl (i64.wrap (x3 + 1))))) else none) else none) else none) else (some (.inr (.inl ())))
noncomputable def rl_ref01_Ints_a2 : Option Bool := some true
noncomputable def rl_ref01_Ints_a3 : Option Bool := some false
noncomputable def rl_ref01_Ints (p0 : List Int) (p1 : List Int) : Option Bool := if ((p0.length : Int) != (p1.length : Int)) = true then (some false) else (bindE (loop (fun v : Int => rl_ref01_Ints_l1 p0 p1 v) 0) (fun t => rl_ref01_Ints_a2) (fun t => rl_ref01_Ints_a3))
set_option maxRecDepth 100000 in
theorem rl_ref01_Ints_con (p0 : List Int) (p1 : List Int) (r : Bool) (h : rl_ref01_Ints p0 p1 = some r) : Con Try.prog 39 [vl 1 Ri64 p0, vl 1 Ri64 p1] [] (vb r) [] := by
 refine con_of tt_ok0 0 Try.func39 (by kernel_rfl) rfl (by kernel_rfl) (fun base X _ => AW.post ?_)
 unfold rl_ref01_Ints at h
 refine AW.sg tt_ok0 [] [] [] 1 [] (by kernel_rfl) ?_
 refine AW.seq ?_
 refine AW.sg tt_ok0 [(10, vb ((p0.length : Int) != (p1.length : Int)))] [] [] 6 [] (by kernel_rfl) ?_
 refine AW.co h (by kernel_rfl) (fun c1 h => ?_) (fun c1 h => ?_)
 ·
  refine AW.sg tt_ok0 [(4, vb false)] [] [] 7 [] (by kernel_rfl) ?_
  refine AW.ret (AW.tr ?_)
  obtain rfl := some_inj h
  exact fn0 (.inr rfl) [] 0 (vb false) (by kernel_rfl)
 ·
  refine AW.skip (AW.tn (AW.seq ?_))
  refine AW.sg tt_ok0 [(5, vi64 0)] [] [] 7 [] (by kernel_rfl) ?_
  refine AW.block ?_
  refine AW.lpE h (fun v => ⟨[(0, vl 1 Ri64 p0), (1, vl 1 Ri64 p1), (5, vi64 v)], [], 0⟩) (fun t => (.exit 0, ⟨[], [], 0⟩)) (fun t => (.ret, ⟨[(4, vb false)], [], 0⟩)) (conv_re [] (by kernel_rfl)) (fun _ => tv) (fun _ => tv) ?_ (fun t h => ?_) (fun t h => ?_)
  ·
   clear h
   intro x3 o h
   unfold rl_ref01_Ints_l1 at h
   refine AW.seq ?_
   refine AW.sg tt_ok0 [(14, vb (decide (x3 < (p0.length : Int))))] [] [] 4 [] (by kernel_rfl) ?_
   refine AW.co h (by kernel_rfl) (fun c4 h => ?_) (fun c4 h => ?_)
   ·
    refine AW.skip (AW.tn ?_)
    refine AW.seq (AW.block ?_)
    obtain ⟨g5, g6, h⟩ := ifd h
    obtain ⟨g7, h⟩ := ifc h
    refine AW.sd tt_ok0 mo0 [] [(25, vb ((p0.getD x3.toNat 0) != (p1.getD x3.toNat 0)))] [] 13 [hn, hn, hq g5 g6, hn, hn, hn, hq g5 g7] (by kernel_rfl) ?_
    refine AW.co h (by kernel_rfl) (fun c8 h => ?_) (fun c8 h => ?_)
    ·
     refine AW.sg tt_ok0 [(4, vb false)] [] [] 14 [] (by kernel_rfl) ?_
     refine AW.ret (AW.inBlock_ret (AW.tr ?_))
     exact lpo h rfl (conv_re [] (by kernel_rfl))
    ·
     refine AW.skip (AW.inBlock_normal (AW.tn ?_))
     refine AW.rg tt_ok0 [(5, vi64 (i64.wrap (x3 + 1)))] [] [] 16 [] (by kernel_rfl) ?_
     exact lpn h (conv_re [] (by kernel_rfl))
   ·
    refine AW.exit (AW.thenQ_exit ?_)
    exact lpo h rfl (conv_re [] (by kernel_rfl))
  ·
   replace h : rl_ref01_Ints_a2 = some r := h
   unfold rl_ref01_Ints_a2 at h
   show (_ : Exit → St → Prop) (.exit 0) _
   refine AW.inBlock_hit (AW.tn ?_)
   refine AW.sg tt_ok0 [(4, vb true)] [] [] 1 [] (by kernel_rfl) ?_
   refine AW.ret ?_
   obtain rfl := some_inj h
   exact fn0 (.inr rfl) [] 0 (vb true) (by kernel_rfl)
  ·
   replace h : rl_ref01_Ints_a3 = some r := h
   unfold rl_ref01_Ints_a3 at h
   show (_ : Exit → St → Prop) (.ret) _
   refine AW.inBlock_ret (AW.tr ?_)
   obtain rfl := some_inj h
   exact fn0 (.inr rfl) [] 0 (vb false) (by kernel_rfl)
/-! recordlink/recordlinkmake.Mod -/
noncomputable def rl_make_Mod (p0 : Int) (p1 : Int) : Option Int := if (decide (p1 < 1)) = true then (some 0) else (if p1 ≠ 0 then (some ((i64.wrap ((p0.tmod p1) + p1)).tmod p1)) else none)
set_option maxRecDepth 100000 in
theorem rl_make_Mod_con (p0 : Int) (p1 : Int) (r : Int) (h : rl_make_Mod p0 p1 = some r) : Con Try.prog 41 [vi64 p0, vi64 p1] [] (vi64 r) [] := by
 refine con_of tt_ok0 0 Try.func41 (by kernel_rfl) rfl (by kernel_rfl) (fun base X _ => AW.post ?_)
 unfold rl_make_Mod at h
 refine AW.sg tt_ok0 [] [] [] 1 [] (by kernel_rfl) ?_
 refine AW.seq ?_
 refine AW.sg tt_ok0 [(6, vb (decide (p1 < 1)))] [] [] 3 [] (by kernel_rfl) ?_
 refine AW.co h (by kernel_rfl) (fun c1 h => ?_) (fun c1 h => ?_)
 ·
  refine AW.sg tt_ok0 [(4, vi64 0)] [] [] 4 [] (by kernel_rfl) ?_
  refine AW.ret (AW.tr ?_)
  obtain rfl := some_inj h
  exact fn0 (.inr rfl) [] 0 (vi64 0) (by kernel_rfl)
 ·
  refine AW.skip (AW.tn ?_)
  obtain ⟨g2, h⟩ := ifc h
  refine AW.sg tt_ok0 [(4, vi64 ((i64.wrap ((p0.tmod p1) + p1)).tmod p1))] [] [] 11 [hn, hn, ho g2, hn, hn, hn, ho g2] (by kernel_rfl) ?_
  refine AW.ret ?_
  obtain rfl := some_inj h
  exact fn0 (.inr rfl) [] 0 (vi64 ((i64.wrap ((p0.tmod p1) + p1)).tmod p1)) (by kernel_rfl)
end Go.Proofs.Ytfnojcalalncbaa
