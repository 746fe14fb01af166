/- Printed by a program of mine (vmgen.py): Go functions, and what they come to. -/
import Derived.Test.YtknlckjpgmjenaaVr
import Derived.Test.YtknlckjpgmjenaaRows
import Derived.Test.YtknlckjpgmjenaaVw
namespace Go.Proofs.Ytknlckjpgmjenaa
open Vm
open IntKind (i64 u64 u32 u8)
set_option maxHeartbeats 10000000
set_option linter.unusedVariables false
set_option linter.unusedSimpArgs false
set_option linter.constructorNameAsVariable false
def ttl0 : List (Nat × TI) := [(3, ⟨.int .i64, 1, 8, [.int .i64 0], false⟩), (4, ⟨.bool, 1, 1, [.bool false], false⟩), (22, ⟨.slice 3, 1, 24, [.slice none 0 0], false⟩), (25, ⟨.ptr 86, 1, 8, [.pointer none], false⟩), (31, ⟨.int .i64, 1, 8, [.int .i64 0], false⟩), (38, ⟨.slice 84, 1, 24, [.slice none 0 0], false⟩), (40, ⟨.struct [(3, 0), (3, 1), (38, 2)], 3, 40, [.int .i64 0, .int .i64 0, .slice none 0 0], false⟩), (41, ⟨.slice 45, 1, 24, [.slice none 0 0], false⟩), (45, ⟨.int .u64, 1, 8, [.int .u64 0], false⟩), (57, ⟨.slice 22, 1, 24, [.slice none 0 0], false⟩), (60, ⟨.arr 3 3, 3, 24, [.int .i64 0, .int .i64 0, .int .i64 0], true⟩), (65, ⟨.slice 40, 1, 24, [.slice none 0 0], false⟩), (67, ⟨.slice 72, 1, 24, [.slice none 0 0], false⟩), (72, ⟨.struct [(3, 0), (3, 1)], 2, 16, [.int .i64 0, .int .i64 0], true⟩), (77, ⟨.slice 67, 1, 24, [.slice none 0 0], false⟩), (84, ⟨.struct [(3, 0), (41, 1)], 2, 32, [.int .i64 0, .slice none 0 0], false⟩), (86, ⟨.struct [(22, 0), (3, 1), (45, 2)], 3, 40, [.slice none 0 0, .int .i64 0, .int .u64 0], false⟩), (127, ⟨.slice 65, 1, 24, [.slice none 0 0], false⟩), (129, ⟨.arr 6 3, 6, 48, [.int .i64 0, .int .i64 0, .int .i64 0, .int .i64 0, .int .i64 0, .int .i64 0], true⟩)]
theorem tt_ok0 : TTok Try.prog (Vm.look ttl0) := ttok_of ⟨⟨by kernel_rfl, by kernel_rfl, by kernel_rfl⟩, ⟨by kernel_rfl, by kernel_rfl, by kernel_rfl⟩, ⟨by kernel_rfl, by kernel_rfl, by kernel_rfl⟩, ⟨by kernel_rfl, by kernel_rfl, by kernel_rfl⟩, ⟨by kernel_rfl, by kernel_rfl, by kernel_rfl⟩, ⟨by kernel_rfl, by kernel_rfl, by kernel_rfl⟩, ⟨by kernel_rfl, by kernel_rfl, by kernel_rfl⟩, ⟨by kernel_rfl, by kernel_rfl, by kernel_rfl⟩, ⟨by kernel_rfl, by kernel_rfl, by kernel_rfl⟩, ⟨by kernel_rfl, by kernel_rfl, by kernel_rfl⟩, ⟨by kernel_rfl, by kernel_rfl, by kernel_rfl⟩, ⟨by kernel_rfl, by kernel_rfl, by kernel_rfl⟩, ⟨by kernel_rfl, by kernel_rfl, by kernel_rfl⟩, ⟨by kernel_rfl, by kernel_rfl, by kernel_rfl⟩, ⟨by kernel_rfl, by kernel_rfl, by kernel_rfl⟩, ⟨by kernel_rfl, by kernel_rfl, by kernel_rfl⟩, ⟨by kernel_rfl, by kernel_rfl, by kernel_rfl⟩, ⟨by kernel_rfl, by kernel_rfl, by kernel_rfl⟩, ⟨by kernel_rfl, by kernel_rfl, by kernel_rfl⟩, trivial⟩
theorem mo0 : Try.prog.follows .mixedOrders = true := by kernel_rfl
structure S_api_Couple where
 A : Int
 B : Int
def dS_api_Couple : S_api_Couple := ⟨0, 0⟩
instance : Inhabited S_api_Couple := ⟨dS_api_Couple⟩
structure S_api_Bits where
 Length : Int
 Words : List Int
def dS_api_Bits : S_api_Bits := ⟨0, ([] : List Int)⟩
instance : Inhabited S_api_Bits := ⟨dS_api_Bits⟩
structure S_api_Encoded where
 ID : Int
 Version : Int
 Fields : List S_api_Bits
def dS_api_Encoded : S_api_Encoded := ⟨0, 0, ([] : List S_api_Bits)⟩
instance : Inhabited S_api_Encoded := ⟨dS_api_Encoded⟩
def Ei64 (x : Int) : List T := [.v (.int .i64 x)]
def Ri64 (xs : List Int) : Nat → Nat → T := rowL 0 Ei64 xs
theorem Vi64 : ∀ x, allV (Ei64 x) := fun _ => ⟨tv, tv⟩
/-! recordlink/pattern.Size -/
noncomputable def pattern_Size_l2 (p0 : Int) (x5 : Int) (x6 : Int) : Option ((Int × Int) ⊕ Int) := if (decide (x6 < p0)) = true then (some (.inl (i64.wrap (x5 * 3), i64.wrap (x6 + 1)))) else (some (.inr x5))
noncomputable def pattern_Size_k1 (p0 : Int) (x1 : Bool) : Option (Int × Int) := if x1 = true then (some (0, 8)) else ((loop (fun v : Int × Int => pattern_Size_l2 p0 v.1 v.2) (1, 0)).bind fun x9 => (some (x9, 0)))
noncomputable def pattern_Size (p0 : Int) : Option (Int × Int) := if (decide (p0 < 1)) = true then (pattern_Size_k1 p0 true) else (pattern_Size_k1 p0 (decide (p0 > 5)))
set_option maxRecDepth 100000 in
theorem pattern_Size_con (p0 : Int) (r : Int × Int) (h : pattern_Size p0 = some r) : Con Try.prog 42 [vi64 p0] [] (.tup [vi64 r.1, vi64 r.2]) [] := by
 refine con_of tt_ok0 0 Try.func42 (by kernel_rfl) rfl (by kernel_rfl) (fun base X _ => AW.post ?_)
 unfold pattern_Size at h
 refine AW.sg tt_ok0 [] [] [] 2 [] (by kernel_rfl) ?_
 refine AW.seq (AW.seq ?_)
 refine AW.join (ι := Bool) (fun v => ⟨[(0, vi64 p0), (10, vb v)], [], 0⟩) (fun v : Bool => pattern_Size_k1 p0 v = some r) (fun x1 h => ?_) ?_
 ·
  unfold pattern_Size_k1 at h
  refine AW.tn ?_
  refine AW.co h (by kernel_rfl) (fun c2 h => ?_) (fun c2 h => ?_)
  ·
   refine AW.sg tt_ok0 [(3, vi64 8), (2, vi64 0)] [] [] 2 [] (by kernel_rfl) ?_
   refine AW.ret (AW.tr ?_)
   obtain rfl := some_inj h
   exact fn0 (.inr rfl) [] 0 (.tup [vi64 0, vi64 8]) (by kernel_rfl)
  ·
   refine AW.skip (AW.tn ?_)
   refine AW.sg tt_ok0 [(4, vi64 1)] [] [] 1 [] (by kernel_rfl) ?_
   refine AW.seq ?_
   refine AW.sg tt_ok0 [(12, vi64 0), (11, vi64 p0)] [] [] 3 [] (by kernel_rfl) ?_
   refine AW.block ?_
   obtain ⟨x9, l10, h⟩ := bnd_some h
   refine AW.lp l10 (fun v => ⟨[(4, vi64 v.1), (11, vi64 p0), (12, vi64 v.2)], [], 0⟩) (fun t : Int => (.exit 0, ⟨[(4, vi64 t)], [], 0⟩)) (conv_re [] (by kernel_rfl)) (fun _ => tv) ?_ ?_
   ·
    clear l10 h
    intro v o h
    obtain ⟨x5, x6⟩ := v
    replace h : pattern_Size_l2 p0 x5 x6 = some o := h
    unfold pattern_Size_l2 at h
    refine AW.sg tt_ok0 [(13, vb (decide (x6 < p0)))] [] [] 1 [] (by kernel_rfl) ?_
    refine AW.seq ?_
    refine AW.co h (by kernel_rfl) (fun c8 h => ?_) (fun c8 h => ?_)
    ·
     refine AW.skip (AW.tn ?_)
     refine AW.seq (AW.block ?_)
     refine AW.rg tt_ok0 [(4, vi64 (i64.wrap (x5 * 3)))] [] [] 4 [] (by kernel_rfl) ?_
     refine AW.inBlock_normal (AW.tn ?_)
     refine AW.rg tt_ok0 [(12, vi64 (i64.wrap (x6 + 1)))] [] [] 6 [] (by kernel_rfl) ?_
     exact lpn h (conv_re [] (by kernel_rfl))
    ·
     refine AW.exit (AW.thenQ_exit ?_)
     exact lpo h rfl (conv_re [] (by kernel_rfl))
   ·
    show (_ : Exit → St → Prop) (.exit 0) _
    refine AW.inBlock_hit (AW.tn ?_)
    refine AW.sg tt_ok0 [(3, vi64 0), (2, vi64 x9)] [] [] 3 [] (by kernel_rfl) ?_
    refine AW.ret ?_
    obtain rfl := some_inj h
    exact fn0 (.inr rfl) [] 0 (.tup [vi64 x9, vi64 0]) (by kernel_rfl)
 ·
  rcases ifs h with ⟨c11, h⟩ | ⟨c11, h⟩
  ·
   refine AW.rg tt_ok0 [(10, vb true)] [] [] 8 [hn, ht c11] (by kernel_rfl) ?_
   exact jl true h (conv_re [] (by kernel_rfl))
  ·
   refine AW.rg tt_ok0 [(10, vb (decide (p0 > 5)))] [] [] 8 [hn, hf c11] (by kernel_rfl) ?_
   exact jl (decide (p0 > 5)) h (conv_re [] (by kernel_rfl))
/-! recordlink/pattern.check$1 -/
noncomputable def pattern_check_f1_k1 (x1 : Bool) : Option Bool := some x1
noncomputable def pattern_check_f1 (p0 : Int) : Option Bool := if (decide (p0 < 0)) = true then (pattern_check_f1_k1 true) else (pattern_check_f1_k1 (decide (p0 > 1000)))
set_option maxRecDepth 100000 in
theorem pattern_check_f1_con (p0 : Int) (r : Bool) (h : pattern_check_f1 p0 = some r) : Con Try.prog 90 [vi64 p0] [] (vb r) [] := by
 refine con_of tt_ok0 0 Try.func90 (by kernel_rfl) rfl (by kernel_rfl) (fun base X _ => AW.post ?_)
 unfold pattern_check_f1 at h
 refine AW.sg tt_ok0 [] [] [] 1 [] (by kernel_rfl) ?_
 refine AW.seq ?_
 refine AW.join (ι := Bool) (fun v => ⟨[(2, vb v)], [], 0⟩) (fun v : Bool => pattern_check_f1_k1 v = some r) (fun x1 h => ?_) ?_
 ·
  unfold pattern_check_f1_k1 at h
  refine AW.tn (AW.ret ?_)
  obtain rfl := some_inj h
  exact fn0 (.inr rfl) [] 0 (vb x1) (by kernel_rfl)
 ·
  rcases ifs h with ⟨c2, h⟩ | ⟨c2, h⟩
  ·
   refine AW.rg tt_ok0 [(2, vb true)] [] [] 8 [hn, ht c2] (by kernel_rfl) ?_
   exact jl true h (conv_re [] (by kernel_rfl))
  ·
   refine AW.rg tt_ok0 [(2, vb (decide (p0 > 1000)))] [] [] 8 [hn, hf c2] (by kernel_rfl) ?_
   exact jl (decide (p0 > 1000)) h (conv_re [] (by kernel_rfl))
/-! slices.IndexFunc[[]int,int] -/
noncomputable def slices_IndexFunc_int_pattern_check_f1_l1 (p0 : List Int) (x2 : Int) : Option (Int ⊕ (Unit ⊕ Int)) := if (decide (x2 < (p0.length : Int))) = true then (if 0 ≤ x2 then (if x2 < (p0.length : Int) then ((pattern_check_f1 (p0.getD x2.toNat 0)).bind fun y7 => (if y7 = true then (some (.inr (.inr x2))) else (some (.inl (i64.wrap (x2 + 1)))))) else none) else none) else (some (.inr (.inl ())))
noncomputable def slices_IndexFunc_int_pattern_check_f1_a2 : Option Int := some (-1)
noncomputable def slices_IndexFunc_int_pattern_check_f1_a3 (x10 : Int) : Option Int := some x10
noncomputable def slices_IndexFunc_int_pattern_check_f1 (p0 : List Int) : Option Int := bindE (loop (fun v : Int => slices_IndexFunc_int_pattern_check_f1_l1 p0 v) 0) (fun t => slices_IndexFunc_int_pattern_check_f1_a2) (fun t => slices_IndexFunc_int_pattern_check_f1_a3 t)
set_option maxRecDepth 100000 in
theorem slices_IndexFunc_int_pattern_check_f1_con (p0 : List Int) (r : Int) (h : slices_IndexFunc_int_pattern_check_f1 p0 = some r) : Con Try.prog 102 [vl 1 Ri64 p0, .c (.t (.v (.func (.func 90) #[] #[])))] [] (vi64 r) [] := by
 refine con_of tt_ok0 0 Try.func102 (by kernel_rfl) rfl (by kernel_rfl) (fun base X _ => AW.post ?_)
 unfold slices_IndexFunc_int_pattern_check_f1 at h
 refine AW.sg tt_ok0 [] [] [] 1 [] (by kernel_rfl) ?_
 refine AW.seq ?_
 refine AW.sg tt_ok0 [(8, vi64 0), (7, vi64 (p0.length : Int))] [] [] 4 [] (by kernel_rfl) ?_
 refine AW.block ?_
 refine AW.lpE h (fun v => ⟨[(0, vl 1 Ri64 p0), (1, .c (.t (.v (.func (.func 90) #[] #[])))), (7, vi64 (p0.length : Int)), (8, vi64 v)], [], 0⟩) (fun t => (.exit 0, ⟨[], [], 0⟩)) (fun t => (.ret, ⟨[(4, vi64 t)], [], 0⟩)) (conv_re [] (by kernel_rfl)) (fun _ => tv) (fun _ => tv) ?_ (fun t h => ?_) (fun x10 h => ?_)
 ·
  clear h
  intro x2 o h
  unfold slices_IndexFunc_int_pattern_check_f1_l1 at h
  refine AW.sg tt_ok0 [(9, vb (decide (x2 < (p0.length : Int))))] [] [] 1 [] (by kernel_rfl) ?_
  refine AW.seq ?_
  refine AW.co h (by kernel_rfl) (fun c4 h => ?_) (fun c4 h => ?_)
  ·
   refine AW.skip (AW.tn ?_)
   refine AW.seq (AW.block ?_)
   refine AW.sg tt_ok0 [(5, vi64 x2)] [] [] 3 [] (by kernel_rfl) ?_
   obtain ⟨g5, g6, h⟩ := ifd h
   obtain ⟨y7, e8, h⟩ := bnd_some h
   refine AW.sg tt_ok0 [(16, vb y7)] [] [] 8 [hn, hn, hn, hq g5 g6, hn, hk (pattern_check_f1_con (p0.getD x2.toNat 0) y7 e8)] (by kernel_rfl) ?_
   refine AW.co h (by kernel_rfl) (fun c9 h => ?_) (fun c9 h => ?_)
   ·
    refine AW.sg tt_ok0 [(4, vi64 x2)] [] [] 10 [] (by kernel_rfl) ?_
    refine AW.ret (AW.inBlock_ret (AW.tr ?_))
    exact lpo h rfl (conv_re [] (by kernel_rfl))
   ·
    refine AW.skip (AW.inBlock_normal (AW.tn ?_))
    refine AW.rg tt_ok0 [(8, vi64 (i64.wrap (x2 + 1)))] [] [] 10 [] (by kernel_rfl) ?_
    exact lpn h (conv_re [] (by kernel_rfl))
  ·
   refine AW.exit (AW.thenQ_exit ?_)
   exact lpo h rfl (conv_re [] (by kernel_rfl))
 ·
  replace h : slices_IndexFunc_int_pattern_check_f1_a2 = some r := h
  unfold slices_IndexFunc_int_pattern_check_f1_a2 at h
  show (_ : Exit → St → Prop) (.exit 0) _
  refine AW.inBlock_hit (AW.tn ?_)
  refine AW.sg tt_ok0 [(4, vi64 (-1))] [] [] 1 [] (by kernel_rfl) ?_
  refine AW.ret ?_
  obtain rfl := some_inj h
  exact fn0 (.inr rfl) [] 0 (vi64 (-1)) (by kernel_rfl)
 ·
  unfold slices_IndexFunc_int_pattern_check_f1_a3 at h
  show (_ : Exit → St → Prop) (.ret) _
  refine AW.inBlock_ret (AW.tr ?_)
  obtain rfl := some_inj h
  exact fn0 (.inr rfl) [] 0 (vi64 x10) (by kernel_rfl)
/-! slices.ContainsFunc[[]int,int] -/
noncomputable def slices_ContainsFunc_int_pattern_check_f1 (p0 : List Int) : Option Bool := (slices_IndexFunc_int_pattern_check_f1 p0).bind fun y1 => (some (decide (y1 ≥ 0)))
set_option maxRecDepth 100000 in
theorem slices_ContainsFunc_int_pattern_check_f1_con (p0 : List Int) (r : Bool) (h : slices_ContainsFunc_int_pattern_check_f1 p0 = some r) : Con Try.prog 79 [vl 1 Ri64 p0, .c (.t (.v (.func (.func 90) #[] #[])))] [] (vb r) [] := by
 refine con_of tt_ok0 0 Try.func79 (by kernel_rfl) rfl (by kernel_rfl) (fun base X _ => AW.post ?_)
 unfold slices_ContainsFunc_int_pattern_check_f1 at h
 refine AW.sg tt_ok0 [] [] [] 1 [] (by kernel_rfl) ?_
 obtain ⟨y1, e2, h⟩ := bnd_some h
 refine AW.sg tt_ok0 [(4, vb (decide (y1 ≥ 0)))] [] [] 5 [hn, hn, hk (slices_IndexFunc_int_pattern_check_f1_con p0 y1 e2)] (by kernel_rfl) ?_
 refine AW.ret ?_
 obtain rfl := some_inj h
 exact fn0 (.inr rfl) [] 0 (vb (decide (y1 ≥ 0))) (by kernel_rfl)
def Eu64 (x : Int) : List T := [.v (.int .u64 x)]
def Ru64 (xs : List Int) : Nat → Nat → T := rowL 0 Eu64 xs
theorem Vu64 : ∀ x, allV (Eu64 x) := fun _ => ⟨tv, tv⟩
def ES_api_Bits (x : S_api_Bits) : List T := [.v (.int .i64 x.Length), .tree x.Words.length 1 (Ru64 x.Words)]
def RS_api_Bits (xs : List S_api_Bits) : Nat → Nat → T := rowL dS_api_Bits ES_api_Bits xs
def ES_api_Encoded (x : S_api_Encoded) : List T := [.v (.int .i64 x.ID), .v (.int .i64 x.Version), .tree x.Fields.length 2 (RS_api_Bits x.Fields)]
def RS_api_Encoded (xs : List S_api_Encoded) : Nat → Nat → T := rowL dS_api_Encoded ES_api_Encoded xs
def ElS_api_Encoded (x : List S_api_Encoded) : List T := [.tree x.length 3 (RS_api_Encoded x)]
def RlS_api_Encoded (xs : List (List S_api_Encoded)) : Nat → Nat → T := rowL ([] : List S_api_Encoded) ElS_api_Encoded xs
/-! slices.Grow[[]recordlink/api.Encoded,recordlink/api.Encoded] -/
noncomputable def slices_Grow_api_Encoded_nil_k1 (x2 : List S_api_Encoded) : Option (List S_api_Encoded) := some x2
noncomputable def slices_Grow_api_Encoded_nil (p1 : Int) : Option (List S_api_Encoded) := if (decide (p1 < 0)) = true then none else (if (decide ((i64.wrap (p1 - (i64.wrap (0 - 0)))) > 0)) = true then (if 0 < (i64.wrap (p1 - (i64.wrap (0 - 0)))) then (if (i64.wrap (p1 - (i64.wrap (0 - 0)))) ≤ 1099511627776 then (if 0 ≤ ((List.replicate ((i64.wrap (p1 - (i64.wrap (0 - 0)))).toNat) (dS_api_Encoded : S_api_Encoded)).length) then (slices_Grow_api_Encoded_nil_k1 ((List.replicate ((i64.wrap (p1 - (i64.wrap (0 - 0)))).toNat) (dS_api_Encoded : S_api_Encoded)).take 0)) else none) else none) else none) else (slices_Grow_api_Encoded_nil_k1 ([] : List S_api_Encoded)))
set_option maxRecDepth 100000 in
theorem slices_Grow_api_Encoded_nil_con (p1 : Int) (r : List S_api_Encoded) (h : slices_Grow_api_Encoded_nil p1 = some r) : Con Try.prog 108 [.c (.t (.v (.slice none 0 0))), vi64 p1] [] (.c (.ref 0 3 0 r.length)) [(0, .row 40 false 3 r.length (RS_api_Encoded r))] := by
 refine con_of tt_ok0 0 Try.func108 (by kernel_rfl) rfl (by kernel_rfl) (fun base X _ => AW.post ?_)
 unfold slices_Grow_api_Encoded_nil at h
 refine AW.sg tt_ok0 [] [] [] 1 [] (by kernel_rfl) ?_
 refine AW.seq ?_
 refine AW.sg tt_ok0 [(6, vb (decide (p1 < 0)))] [] [] 3 [] (by kernel_rfl) ?_
 refine AW.co h (by kernel_rfl) (fun c1 h => ?_) (fun c1 h => ?_)
 ·
  cases h
 ·
  refine AW.skip (AW.tn (AW.seq ?_))
  refine AW.join (ι := List S_api_Encoded) (fun v => ⟨[(0, .c (.ref 0 3 0 v.length))], [(0, .row 40 false 3 v.length (RS_api_Encoded v))], 1⟩) (fun v : List S_api_Encoded => slices_Grow_api_Encoded_nil_k1 v = some r) (fun x2 h => ?_) ?_
  ·
   unfold slices_Grow_api_Encoded_nil_k1 at h
   refine AW.tn ?_
   refine AW.sg tt_ok0 [(4, .c (.ref 0 3 0 x2.length))] [] [] 3 [] (by kernel_rfl) ?_
   refine AW.ret ?_
   obtain rfl := some_inj h
   exact fn0 (.inr rfl) [(0, 0)] 1 (.c (.ref 0 3 0 x2.length)) (by kernel_rfl)
  ·
   refine AW.sg tt_ok0 [(1, vi64 (i64.wrap (p1 - (i64.wrap (0 - 0)))))] [] [] 11 [] (by kernel_rfl) ?_
   refine AW.sg tt_ok0 [(16, vb (decide ((i64.wrap (p1 - (i64.wrap (0 - 0)))) > 0)))] [] [] 13 [] (by kernel_rfl) ?_
   refine AW.co h (by kernel_rfl) (fun c3 h => ?_) (fun c3 h => ?_)
   ·
    obtain ⟨g4, g5, h⟩ := ifd h
    obtain ⟨g6, h⟩ := ifc h
    refine AW.rg tt_ok0 [(0, .c (.ref 18 3 0 0))] [18] [(18, .row 40 false 3 (List.replicate ((i64.wrap (p1 - (i64.wrap (0 - 0)))).toNat) (dS_api_Encoded : S_api_Encoded)).length (RS_api_Encoded (List.replicate ((i64.wrap (p1 - (i64.wrap (0 - 0)))).toNat) (dS_api_Encoded : S_api_Encoded))))] 23 [hn, hn, hn, ho (p := (True) ∧ (0 ≤ (0 : Int)) ∧ (0 ≤ 0) ∧ (0 ≤ 0)) (⟨tv, (by decide), (Nat.zero_le _), (Nat.le_refl _)⟩), hn, hr ((List.replicate ((i64.wrap (p1 - (i64.wrap (0 - 0)))).toNat) (dS_api_Encoded : S_api_Encoded)).length) (RS_api_Encoded (List.replicate ((i64.wrap (p1 - (i64.wrap (0 - 0)))).toNat) (dS_api_Encoded : S_api_Encoded))) (p := ((0 < (i64.wrap (p1 - (i64.wrap (0 - 0))))) ∧ ((i64.wrap (p1 - (i64.wrap (0 - 0)))) ≤ 1099511627776) ∧ ((40 : Nat) ≤ 128)) ∧ ((i64.wrap (p1 - (i64.wrap (0 - 0)))).toNat = (List.replicate ((i64.wrap (p1 - (i64.wrap (0 - 0)))).toNat) (dS_api_Encoded : S_api_Encoded)).length ∧ ∀ i, i < (List.replicate ((i64.wrap (p1 - (i64.wrap (0 - 0)))).toNat) (dS_api_Encoded : S_api_Encoded)).length → ∀ j, j < 3 → TLe ((fun _ j => .v (([.int .i64 0, .int .i64 0, .slice none 0 0] : List Value).getD j undef)) i j) (RS_api_Encoded (List.replicate ((i64.wrap (p1 - (i64.wrap (0 - 0)))).toNat) (dS_api_Encoded : S_api_Encoded)) i j))) (⟨⟨g4, g5, (by decide)⟩, mk_row (fun j hj => match j, hj with | 0, _ => TLe.refl _ | 1, _ => TLe.refl _ | 2, _ => TLe.nil rfl | _ + 3, h => absurd h (by omega))⟩), hn, hn, ho (p := (True) ∧ (0 ≤ (0 : Int)) ∧ (0 ≤ 0) ∧ (0 ≤ ((List.replicate ((i64.wrap (p1 - (i64.wrap (0 - 0)))).toNat) (dS_api_Encoded : S_api_Encoded)).length))) (⟨tv, (by decide), (Nat.zero_le _), g6⟩)] (by kernel_rfl) ?_
    exact jl ((List.replicate ((i64.wrap (p1 - (i64.wrap (0 - 0)))).toNat) (dS_api_Encoded : S_api_Encoded)).take 0) h (Conv.trans (conv_short (id := 18) (ty := 40) (fro := false) (fro' := false) (sz := 3) (n := (List.replicate ((i64.wrap (p1 - (i64.wrap (0 - 0)))).toNat) (dS_api_Encoded : S_api_Encoded)).length) (m := ((List.replicate ((i64.wrap (p1 - (i64.wrap (0 - 0)))).toNat) (dS_api_Encoded : S_api_Encoded)).take 0).length) (f := RS_api_Encoded (List.replicate ((i64.wrap (p1 - (i64.wrap (0 - 0)))).toNat) (dS_api_Encoded : S_api_Encoded))) (g := RS_api_Encoded ((List.replicate ((i64.wrap (p1 - (i64.wrap (0 - 0)))).toNat) (dS_api_Encoded : S_api_Encoded)).take 0)) (by kernel_rfl) (.inl rfl) (by rw [List.length_take]; exact Nat.min_le_right _ _) (fun i hi j _ => short_row i j hi)) (Conv.trans (conv_re (S' := ⟨[(0, .c (.ref 18 3 0 0))], [(18, .row 40 false 3 ((List.replicate ((i64.wrap (p1 - (i64.wrap (0 - 0)))).toNat) (dS_api_Encoded : S_api_Encoded)).take 0).length (RS_api_Encoded ((List.replicate ((i64.wrap (p1 - (i64.wrap (0 - 0)))).toNat) (dS_api_Encoded : S_api_Encoded)).take 0)))], 23⟩) [(18, 18)] (by kernel_rfl)) (Conv.trans (conv_len (S' := ⟨[(0, .c (.ref 18 3 0 (((List.replicate ((i64.wrap (p1 - (i64.wrap (0 - 0)))).toNat) (dS_api_Encoded : S_api_Encoded)).take 0).length)))], [(18, .row 40 false 3 ((List.replicate ((i64.wrap (p1 - (i64.wrap (0 - 0)))).toNat) (dS_api_Encoded : S_api_Encoded)).take 0).length (RS_api_Encoded ((List.replicate ((i64.wrap (p1 - (i64.wrap (0 - 0)))).toNat) (dS_api_Encoded : S_api_Encoded)).take 0)))], 23⟩) (by rw [show ((List.replicate ((i64.wrap (p1 - (i64.wrap (0 - 0)))).toNat) (dS_api_Encoded : S_api_Encoded)).take 0).length = 0 from by rw [List.length_take, Nat.min_eq_left (Nat.zero_le _)]])) (conv_re [(0, 18)] (by kernel_rfl)))))
   ·
    refine AW.skip ?_
    exact jl ([] : List S_api_Encoded) h (Conv.trans (conv_adopt (t := 0) (ty := 40) (sz := 3) (n := ([] : List S_api_Encoded).length) (f := RS_api_Encoded ([] : List S_api_Encoded)) (by kernel_rfl) rfl) (conv_re [(0, 13)] (by kernel_rfl)))
/-! slices.Concat[[]recordlink/api.Encoded,recordlink/api.Encoded] -/
noncomputable def slices_Concat_api_Encoded_l1 (p0 : List (List S_api_Encoded)) (x3 : Int) (x4 : Int) : Option ((Int × Int) ⊕ Int) := if (decide (x4 < (p0.length : Int))) = true then (if 0 ≤ x4 then (if x4 < (p0.length : Int) then ((some (i64.wrap (x3 + (((p0.getD x4.toNat ([] : List S_api_Encoded)).length : Nat) : Int)))).bind fun z9 => (if (decide (z9 < 0)) = true then none else (some (.inl (z9, i64.wrap (x4 + 1)))))) else none) else none) else (some (.inr x3))
noncomputable def slices_Concat_api_Encoded_l2 (p0 : List (List S_api_Encoded)) (x17 : List S_api_Encoded) (x18 : Int) : Option (((List S_api_Encoded) × Int) ⊕ (List S_api_Encoded)) := if (decide (x18 < (p0.length : Int))) = true then (if 0 ≤ x18 then (if x18 < (p0.length : Int) then (if x17.length + (p0.getD x18.toNat ([] : List S_api_Encoded)).length ≤ 1099511627776 then (some (.inl ((x17 ++ (p0.getD x18.toNat ([] : List S_api_Encoded))), i64.wrap (x18 + 1)))) else none) else none) else none) else (some (.inr x17))
noncomputable def slices_Concat_api_Encoded (p0 : List (List S_api_Encoded)) : Option (List S_api_Encoded) := (loop (fun v : Int × Int => slices_Concat_api_Encoded_l1 p0 v.1 v.2) (0, 0)).bind fun x12 => ((slices_Grow_api_Encoded_nil x12).bind fun y13 => ((loop (fun v : (List S_api_Encoded) × Int => slices_Concat_api_Encoded_l2 p0 v.1 v.2) (y13, 0)).bind fun x24 => (some x24)))
set_option maxRecDepth 100000 in
theorem slices_Concat_api_Encoded_con (p0 : List (List S_api_Encoded)) (r : List S_api_Encoded) (h : slices_Concat_api_Encoded p0 = some r) : Con Try.prog 91 [vl 1 RlS_api_Encoded p0] [] (.c (.ref 0 3 0 r.length)) [(0, .row 40 false 3 r.length (RS_api_Encoded r))] := by
 refine con_of tt_ok0 0 Try.func91 (by kernel_rfl) rfl (by kernel_rfl) (fun base X _ => AW.post ?_)
 unfold slices_Concat_api_Encoded at h
 refine AW.sg tt_ok0 [] [] [] 1 [] (by kernel_rfl) ?_
 refine AW.sg tt_ok0 [(3, vi64 0)] [] [] 2 [] (by kernel_rfl) ?_
 refine AW.seq ?_
 refine AW.sg tt_ok0 [(11, vi64 0), (10, vi64 (p0.length : Int)), (9, vl 1 RlS_api_Encoded p0)] [] [] 5 [] (by kernel_rfl) ?_
 refine AW.block ?_
 obtain ⟨x12, l26, h⟩ := bnd_some h
 refine AW.lp l26 (fun v => ⟨[(0, vl 1 RlS_api_Encoded p0), (3, vi64 v.1), (9, vl 1 RlS_api_Encoded p0), (10, vi64 (p0.length : Int)), (11, vi64 v.2)], [], 0⟩) (fun t : Int => (.exit 0, ⟨[(0, vl 1 RlS_api_Encoded p0), (3, vi64 t)], [], 0⟩)) (conv_re [] (by kernel_rfl)) (fun _ => tv) ?_ ?_
 ·
  clear l26 h
  intro v o h
  obtain ⟨x3, x4⟩ := v
  replace h : slices_Concat_api_Encoded_l1 p0 x3 x4 = some o := h
  unfold slices_Concat_api_Encoded_l1 at h
  refine AW.sg tt_ok0 [(12, vb (decide (x4 < (p0.length : Int))))] [] [] 1 [] (by kernel_rfl) ?_
  refine AW.seq ?_
  refine AW.co h (by kernel_rfl) (fun c6 h => ?_) (fun c6 h => ?_)
  ·
   refine AW.skip (AW.tn ?_)
   refine AW.seq (AW.block ?_)
   obtain ⟨g7, g8, h⟩ := ifd h
   refine AW.sg tt_ok0 [(5, vl 3 RS_api_Encoded (p0.getD x4.toNat ([] : List S_api_Encoded)))] [] [] 4 [hq g7 g8] (by kernel_rfl) ?_
   obtain ⟨z9, n10, h⟩ := bnd_some h
   replace n10 := some_inj n10
   refine AW.sg tt_ok0 [(3, vi64 z9)] [] [] 9 [] (by subst n10; kernel_rfl) ?_
   refine AW.sg tt_ok0 [(20, vb (decide (z9 < 0)))] [] [] 11 [] (by kernel_rfl) ?_
   refine AW.co h (by kernel_rfl) (fun c11 h => ?_) (fun c11 h => ?_)
   ·
    cases h
   ·
    refine AW.skip (AW.inBlock_normal (AW.tn ?_))
    refine AW.rg tt_ok0 [(11, vi64 (i64.wrap (x4 + 1)))] [] [] 13 [] (by kernel_rfl) ?_
    exact lpn h (conv_re [] (by kernel_rfl))
  ·
   refine AW.exit (AW.thenQ_exit ?_)
   exact lpo h rfl (conv_re [] (by kernel_rfl))
 ·
  show (_ : Exit → St → Prop) (.exit 0) _
  refine AW.inBlock_hit (AW.tn ?_)
  obtain ⟨y13, e14, h⟩ := bnd_some h
  refine AW.sg tt_ok0 [(6, .c (.ref 1 3 0 y13.length))] [1] [(1, .row 40 false 3 y13.length (RS_api_Encoded y13))] 3 [hn, hl [] [] 1 (slices_Grow_api_Encoded_nil_con x12 y13 e14)] (by kernel_rfl) ?_
  refine AW.seq ?_
  refine AW.sg tt_ok0 [(27, vi64 0), (26, vi64 (p0.length : Int)), (25, vl 1 RlS_api_Encoded p0)] [] [] 6 [] (by kernel_rfl) ?_
  refine AW.block ?_
  obtain ⟨x24, l25, h⟩ := bnd_some h
  refine AW.lp l25 (fun v => ⟨[(6, .c (.ref 0 3 0 v.1.length)), (25, vl 1 RlS_api_Encoded p0), (26, vi64 (p0.length : Int)), (27, vi64 v.2)], [(0, .row 40 false 3 v.1.length (RS_api_Encoded v.1))], 1⟩) (fun t : List S_api_Encoded => (.exit 2, ⟨[(6, .c (.ref 0 3 0 t.length))], [(0, .row 40 false 3 t.length (RS_api_Encoded t))], 1⟩)) (conv_re [(0, 1)] (by kernel_rfl)) (fun _ => tv) ?_ ?_
  ·
   clear l25 h
   intro v o h
   obtain ⟨x17, x18⟩ := v
   replace h : slices_Concat_api_Encoded_l2 p0 x17 x18 = some o := h
   unfold slices_Concat_api_Encoded_l2 at h
   refine AW.sg tt_ok0 [(28, vb (decide (x18 < (p0.length : Int))))] [] [] 2 [] (by kernel_rfl) ?_
   refine AW.seq ?_
   refine AW.co h (by kernel_rfl) (fun c20 h => ?_) (fun c20 h => ?_)
   ·
    refine AW.skip (AW.tn ?_)
    refine AW.seq (AW.block ?_)
    obtain ⟨g21, g22, h⟩ := ifd h
    refine AW.sg tt_ok0 [(8, vl 3 RS_api_Encoded (p0.getD x18.toNat ([] : List S_api_Encoded)))] [] [] 5 [hq g21 g22] (by kernel_rfl) ?_
    obtain ⟨g23, h⟩ := ifc h
    refine AW.rg tt_ok0 [(6, .c (.ref 7 3 0 ((x17 ++ (p0.getD x18.toNat ([] : List S_api_Encoded))).length)))] [0, 7] [(7, .row 40 false 3 (x17 ++ (p0.getD x18.toNat ([] : List S_api_Encoded))).length (RS_api_Encoded (x17 ++ (p0.getD x18.toNat ([] : List S_api_Encoded)))))] 9 [hn, hn, hr ((x17 ++ (p0.getD x18.toNat ([] : List S_api_Encoded))).length) (RS_api_Encoded (x17 ++ (p0.getD x18.toNat ([] : List S_api_Encoded)))) (p := (x17.length = x17.length) ∧ (True) ∧ ((x17.length + (p0.getD x18.toNat ([] : List S_api_Encoded)).length ≤ 1099511627776) ∧ ((40 : Nat) ≤ 128)) ∧ (x17.length + (p0.getD x18.toNat ([] : List S_api_Encoded)).length = (x17 ++ (p0.getD x18.toNat ([] : List S_api_Encoded))).length ∧ ∀ i, i < (x17 ++ (p0.getD x18.toNat ([] : List S_api_Encoded))).length → ∀ j, j < 3 → TLe ((appRow x17.length (RS_api_Encoded x17) (RS_api_Encoded (p0.getD x18.toNat ([] : List S_api_Encoded)))) i j) (RS_api_Encoded (x17 ++ (p0.getD x18.toNat ([] : List S_api_Encoded))) i j))) (⟨rfl, tv, ⟨g23, (by decide)⟩, rowT (app_row rfl rfl row_rfl row_rfl)⟩)] (by kernel_rfl) ?_
    refine AW.inBlock_normal (AW.tn ?_)
    refine AW.rg tt_ok0 [(27, vi64 (i64.wrap (x18 + 1)))] [] [] 11 [] (by kernel_rfl) ?_
    exact lpn h (conv_re [(0, 7)] (by kernel_rfl))
   ·
    refine AW.exit (AW.thenQ_exit ?_)
    exact lpo h rfl (conv_re [(0, 0)] (by kernel_rfl))
  ·
   show (_ : Exit → St → Prop) (.exit 2) _
   refine AW.inBlock_hit (AW.tn ?_)
   refine AW.sg tt_ok0 [(2, .c (.ref 0 3 0 x24.length))] [] [] 3 [] (by kernel_rfl) ?_
   refine AW.ret ?_
   obtain rfl := some_inj h
   exact fn0 (.inr rfl) [(0, 0)] 1 (.c (.ref 0 3 0 x24.length)) (by kernel_rfl)
/-! recordlink/encode.none -/
noncomputable def encode_none_k1 (x1 : Bool) : Option Bool := some x1
noncomputable def encode_none (p0 : S_api_Bits) : Option Bool := if (p0.Length == 0) = true then (encode_none_k1 (((p0.Words.length : Nat) : Int) == 0)) else (encode_none_k1 false)
set_option maxRecDepth 100000 in
theorem encode_none_con (p0 : S_api_Bits) (r : Bool) (h : encode_none p0 = some r) : Con Try.prog 84 [.agg [ci64 p0.Length, cl 1 Ru64 p0.Words]] [] (vb r) [] := by
 refine con_of tt_ok0 0 Try.func84 (by kernel_rfl) rfl (by kernel_rfl) (fun base X _ => AW.post ?_)
 unfold encode_none at h
 refine AW.sg tt_ok0 [(1, .c (.ptr 0 2 0 0))] [0] [(0, .box 84 [ci64 p0.Length, cl 1 Ru64 p0.Words])] 2 [] (by kernel_rfl) ?_
 refine AW.seq ?_
 refine AW.join (ι := Bool) (fun v => ⟨[(2, vb v)], [], 0⟩) (fun v : Bool => encode_none_k1 v = some r) (fun x1 h => ?_) ?_
 ·
  unfold encode_none_k1 at h
  refine AW.tn (AW.ret ?_)
  obtain rfl := some_inj h
  exact fn0 (.inr rfl) [] 0 (vb x1) (by kernel_rfl)
 ·
  rcases ifs h with ⟨c2, h⟩ | ⟨c2, h⟩
  ·
   refine AW.rg tt_ok0 [(2, vb (((p0.Words.length : Nat) : Int) == 0))] [] [] 12 [hn, hn, ht c2] (by kernel_rfl) ?_
   exact jl (((p0.Words.length : Nat) : Int) == 0) h (conv_re [] (by kernel_rfl))
  ·
   refine AW.rg tt_ok0 [(2, vb false)] [] [] 12 [hn, hn, hf c2] (by kernel_rfl) ?_
   exact jl false h (conv_re [] (by kernel_rfl))
/-! recordlink/bitset.right -/
noncomputable def bitset_right_k1 (x1 : Bool) : Option Bool := some x1
noncomputable def bitset_right (p0 : Int) : Option Bool := if (decide (p0 ≥ 64)) = true then (if (decide (p0 ≤ 512)) = true then (bitset_right_k1 ((p0.tmod 64) == 0)) else (bitset_right_k1 false)) else (bitset_right_k1 false)
set_option maxRecDepth 100000 in
theorem bitset_right_con (p0 : Int) (r : Bool) (h : bitset_right p0 = some r) : Con Try.prog 106 [vi64 p0] [] (vb r) [] := by
 refine con_of tt_ok0 0 Try.func106 (by kernel_rfl) rfl (by kernel_rfl) (fun base X _ => AW.post ?_)
 unfold bitset_right at h
 refine AW.sg tt_ok0 [] [] [] 1 [] (by kernel_rfl) ?_
 refine AW.seq ?_
 refine AW.join (ι := Bool) (fun v => ⟨[(2, vb v)], [], 0⟩) (fun v : Bool => bitset_right_k1 v = some r) (fun x1 h => ?_) ?_
 ·
  unfold bitset_right_k1 at h
  refine AW.tn (AW.ret ?_)
  obtain rfl := some_inj h
  exact fn0 (.inr rfl) [] 0 (vb x1) (by kernel_rfl)
 ·
  rcases ifs h with ⟨c2, h⟩ | ⟨c2, h⟩
  ·
   rcases ifs h with ⟨c3, h⟩ | ⟨c3, h⟩
   ·
    refine AW.rg tt_ok0 [(2, vb ((p0.tmod 64) == 0))] [] [] 13 [hn, ht c2, hn, hn, ht c3, hn, hn, hn, ho (p := (64 : Int) ≠ 0) (by decide)] (by kernel_rfl) ?_
    exact jl ((p0.tmod 64) == 0) h (conv_re [] (by kernel_rfl))
   ·
    refine AW.rg tt_ok0 [(2, vb false)] [] [] 13 [hn, ht c2, hn, hn, hf c3] (by kernel_rfl) ?_
    exact jl false h (conv_re [] (by kernel_rfl))
  ·
   refine AW.rg tt_ok0 [(2, vb false)] [] [] 13 [hn, hf c2] (by kernel_rfl) ?_
   exact jl false h (conv_re [] (by kernel_rfl))
/-! recordlink/bitset.Valid -/
noncomputable def bitset_Valid_k1 (x1 : Bool) : Option Bool := some x1
noncomputable def bitset_Valid (p0 : S_api_Bits) : Option Bool := (bitset_right p0.Length).bind fun y2 => (if y2 = true then (bitset_Valid_k1 (((p0.Words.length : Nat) : Int) == (i64.wrap (p0.Length.tdiv 64)))) else (bitset_Valid_k1 false))
set_option maxRecDepth 100000 in
theorem bitset_Valid_con (p0 : S_api_Bits) (r : Bool) (h : bitset_Valid p0 = some r) : Con Try.prog 85 [.agg [ci64 p0.Length, cl 1 Ru64 p0.Words]] [] (vb r) [] := by
 refine con_of tt_ok0 0 Try.func85 (by kernel_rfl) rfl (by kernel_rfl) (fun base X _ => AW.post ?_)
 unfold bitset_Valid at h
 refine AW.sg tt_ok0 [(1, .c (.ptr 0 2 0 0))] [0] [(0, .box 84 [ci64 p0.Length, cl 1 Ru64 p0.Words])] 2 [] (by kernel_rfl) ?_
 refine AW.seq ?_
 refine AW.join (ι := Bool) (fun v => ⟨[(2, vb v)], [], 0⟩) (fun v : Bool => bitset_Valid_k1 v = some r) (fun x1 h => ?_) ?_
 ·
  unfold bitset_Valid_k1 at h
  refine AW.tn (AW.ret ?_)
  obtain rfl := some_inj h
  exact fn0 (.inr rfl) [] 0 (vb x1) (by kernel_rfl)
 ·
  obtain ⟨y2, e3, h⟩ := bnd_some h
  rcases ifs h with ⟨c4, hs⟩ | ⟨c4, hs⟩
  ·clear h; subst c4; have h := hs; clear hs
   refine AW.rg tt_ok0 [(2, vb (((p0.Words.length : Nat) : Int) == (i64.wrap (p0.Length.tdiv 64))))] [] [] 14 [hn, hn, hk (bitset_right_con p0.Length true e3), hn, hn, hn, hn, hn, hn, ho (p := (64 : Int) ≠ 0) (by decide)] (by kernel_rfl) ?_
   exact jl (((p0.Words.length : Nat) : Int) == (i64.wrap (p0.Length.tdiv 64))) h (conv_re [] (by kernel_rfl))
  ·clear h; subst c4; have h := hs; clear hs
   refine AW.rg tt_ok0 [(2, vb false)] [] [] 14 [hn, hn, hk (bitset_right_con p0.Length false e3)] (by kernel_rfl) ?_
   exact jl false h (conv_re [] (by kernel_rfl))
/-! recordlink/encode.Valid$1 -/
noncomputable def encode_Valid_f1_k1 (x1 : Bool) : Option Bool := some x1
noncomputable def encode_Valid_f1 (p0 : S_api_Bits) : Option Bool := (encode_none p0).bind fun y2 => (if (!y2) = true then ((bitset_Valid p0).bind fun y5 => (encode_Valid_f1_k1 (!y5))) else (encode_Valid_f1_k1 false))
set_option maxRecDepth 100000 in
theorem encode_Valid_f1_con (p0 : S_api_Bits) (r : Bool) (h : encode_Valid_f1 p0 = some r) : Con Try.prog 83 [.agg [ci64 p0.Length, cl 1 Ru64 p0.Words]] [] (vb r) [] := by
 refine con_of tt_ok0 0 Try.func83 (by kernel_rfl) rfl (by kernel_rfl) (fun base X _ => AW.post ?_)
 unfold encode_Valid_f1 at h
 refine AW.sg tt_ok0 [(1, .c (.ptr 0 2 0 0))] [0] [(0, .box 84 [ci64 p0.Length, cl 1 Ru64 p0.Words])] 2 [] (by kernel_rfl) ?_
 refine AW.seq ?_
 refine AW.join (ι := Bool) (fun v => ⟨[(2, vb v)], [], 0⟩) (fun v : Bool => encode_Valid_f1_k1 v = some r) (fun x1 h => ?_) ?_
 ·
  unfold encode_Valid_f1_k1 at h
  refine AW.tn (AW.ret ?_)
  obtain rfl := some_inj h
  exact fn0 (.inr rfl) [] 0 (vb x1) (by kernel_rfl)
 ·
  obtain ⟨y2, e3, h⟩ := bnd_some h
  rcases ifs h with ⟨c4, h⟩ | ⟨c4, h⟩
  ·
   obtain ⟨y5, e6, h⟩ := bnd_some h
   refine AW.rg tt_ok0 [(2, vb (!y5))] [] [] 9 [hn, hk (encode_none_con p0 y2 e3), ht c4, hn, hn, hk (bitset_Valid_con p0 y5 e6)] (by kernel_rfl) ?_
   exact jl (!y5) h (conv_re [] (by kernel_rfl))
  ·
   refine AW.rg tt_ok0 [(2, vb false)] [] [] 10 [hn, hk (encode_none_con p0 y2 e3), hf c4] (by kernel_rfl) ?_
   exact jl false h (conv_re [] (by kernel_rfl))
/-! slices.IndexFunc[[]recordlink/api.Bits,recordlink/api.Bits] -/
noncomputable def slices_IndexFunc_api_Bits_encode_Valid_f1_l1 (p0 : List S_api_Bits) (x2 : Int) : Option (Int ⊕ (Unit ⊕ Int)) := if (decide (x2 < (p0.length : Int))) = true then (if 0 ≤ x2 then (if x2 < (p0.length : Int) then ((encode_Valid_f1 (p0.getD x2.toNat dS_api_Bits)).bind fun y7 => (if y7 = true then (some (.inr (.inr x2))) else (some (.inl (i64.wrap (x2 + 1)))))) else none) else none) else (some (.inr (.inl ())))
noncomputable def slices_IndexFunc_api_Bits_encode_Valid_f1_a2 : Option Int := some (-1)
noncomputable def slices_IndexFunc_api_Bits_encode_Valid_f1_a3 (x10 : Int) : Option Int := some x10
noncomputable def slices_IndexFunc_api_Bits_encode_Valid_f1 (p0 : List S_api_Bits) : Option Int := bindE (loop (fun v : Int => slices_IndexFunc_api_Bits_encode_Valid_f1_l1 p0 v) 0) (fun t => slices_IndexFunc_api_Bits_encode_Valid_f1_a2) (fun t => slices_IndexFunc_api_Bits_encode_Valid_f1_a3 t)
set_option maxRecDepth 100000 in
theorem slices_IndexFunc_api_Bits_encode_Valid_f1_con (p0 : List S_api_Bits) (r : Int) (h : slices_IndexFunc_api_Bits_encode_Valid_f1 p0 = some r) : Con Try.prog 105 [vl 2 RS_api_Bits p0, .c (.t (.v (.func (.func 83) #[] #[])))] [] (vi64 r) [] := by
 refine con_of tt_ok0 0 Try.func105 (by kernel_rfl) rfl (by kernel_rfl) (fun base X _ => AW.post ?_)
 unfold slices_IndexFunc_api_Bits_encode_Valid_f1 at h
 refine AW.sg tt_ok0 [] [] [] 1 [] (by kernel_rfl) ?_
 refine AW.seq ?_
 refine AW.sg tt_ok0 [(8, vi64 0), (7, vi64 (p0.length : Int))] [] [] 4 [] (by kernel_rfl) ?_
 refine AW.block ?_
 refine AW.lpE h (fun v => ⟨[(0, vl 2 RS_api_Bits p0), (1, .c (.t (.v (.func (.func 83) #[] #[])))), (7, vi64 (p0.length : Int)), (8, vi64 v)], [], 0⟩) (fun t => (.exit 0, ⟨[], [], 0⟩)) (fun t => (.ret, ⟨[(4, vi64 t)], [], 0⟩)) (conv_re [] (by kernel_rfl)) (fun _ => tv) (fun _ => tv) ?_ (fun t h => ?_) (fun x10 h => ?_)
 ·
  clear h
  intro x2 o h
  unfold slices_IndexFunc_api_Bits_encode_Valid_f1_l1 at h
  refine AW.sg tt_ok0 [(9, vb (decide (x2 < (p0.length : Int))))] [] [] 1 [] (by kernel_rfl) ?_
  refine AW.seq ?_
  refine AW.co h (by kernel_rfl) (fun c4 h => ?_) (fun c4 h => ?_)
  ·
   refine AW.skip (AW.tn ?_)
   refine AW.seq (AW.block ?_)
   refine AW.sg tt_ok0 [(5, vi64 x2)] [] [] 3 [] (by kernel_rfl) ?_
   obtain ⟨g5, g6, h⟩ := ifd h
   obtain ⟨y7, e8, h⟩ := bnd_some h
   refine AW.sg tt_ok0 [(16, vb y7)] [] [] 8 [hn, hn, hn, hq g5 g6, hn, hk (encode_Valid_f1_con (p0.getD x2.toNat dS_api_Bits) y7 e8)] (by kernel_rfl) ?_
   refine AW.co h (by kernel_rfl) (fun c9 h => ?_) (fun c9 h => ?_)
   ·
    refine AW.sg tt_ok0 [(4, vi64 x2)] [] [] 10 [] (by kernel_rfl) ?_
    refine AW.ret (AW.inBlock_ret (AW.tr ?_))
    exact lpo h rfl (conv_re [] (by kernel_rfl))
   ·
    refine AW.skip (AW.inBlock_normal (AW.tn ?_))
    refine AW.rg tt_ok0 [(8, vi64 (i64.wrap (x2 + 1)))] [] [] 10 [] (by kernel_rfl) ?_
    exact lpn h (conv_re [] (by kernel_rfl))
  ·
   refine AW.exit (AW.thenQ_exit ?_)
   exact lpo h rfl (conv_re [] (by kernel_rfl))
 ·
  replace h : slices_IndexFunc_api_Bits_encode_Valid_f1_a2 = some r := h
  unfold slices_IndexFunc_api_Bits_encode_Valid_f1_a2 at h
  show (_ : Exit → St → Prop) (.exit 0) _
  refine AW.inBlock_hit (AW.tn ?_)
  refine AW.sg tt_ok0 [(4, vi64 (-1))] [] [] 1 [] (by kernel_rfl) ?_
  refine AW.ret ?_
  obtain rfl := some_inj h
  exact fn0 (.inr rfl) [] 0 (vi64 (-1)) (by kernel_rfl)
 ·
  unfold slices_IndexFunc_api_Bits_encode_Valid_f1_a3 at h
  show (_ : Exit → St → Prop) (.ret) _
  refine AW.inBlock_ret (AW.tr ?_)
  obtain rfl := some_inj h
  exact fn0 (.inr rfl) [] 0 (vi64 x10) (by kernel_rfl)
/-! slices.ContainsFunc[[]recordlink/api.Bits,recordlink/api.Bits] -/
noncomputable def slices_ContainsFunc_api_Bits_encode_Valid_f1 (p0 : List S_api_Bits) : Option Bool := (slices_IndexFunc_api_Bits_encode_Valid_f1 p0).bind fun y1 => (some (decide (y1 ≥ 0)))
set_option maxRecDepth 100000 in
theorem slices_ContainsFunc_api_Bits_encode_Valid_f1_con (p0 : List S_api_Bits) (r : Bool) (h : slices_ContainsFunc_api_Bits_encode_Valid_f1 p0 = some r) : Con Try.prog 82 [vl 2 RS_api_Bits p0, .c (.t (.v (.func (.func 83) #[] #[])))] [] (vb r) [] := by
 refine con_of tt_ok0 0 Try.func82 (by kernel_rfl) rfl (by kernel_rfl) (fun base X _ => AW.post ?_)
 unfold slices_ContainsFunc_api_Bits_encode_Valid_f1 at h
 refine AW.sg tt_ok0 [] [] [] 1 [] (by kernel_rfl) ?_
 obtain ⟨y1, e2, h⟩ := bnd_some h
 refine AW.sg tt_ok0 [(4, vb (decide (y1 ≥ 0)))] [] [] 5 [hn, hn, hk (slices_IndexFunc_api_Bits_encode_Valid_f1_con p0 y1 e2)] (by kernel_rfl) ?_
 refine AW.ret ?_
 obtain rfl := some_inj h
 exact fn0 (.inr rfl) [] 0 (vb (decide (y1 ≥ 0))) (by kernel_rfl)
/-! recordlink/encode.Valid -/
noncomputable def encode_Valid_k1 (x1 : Bool) : Option Bool := some x1
noncomputable def encode_Valid (p0 : S_api_Encoded) : Option Bool := if (decide (p0.ID ≥ 1)) = true then (if (decide (p0.ID ≤ 1048576)) = true then (if (decide (p0.Version ≥ 1)) = true then (if (decide (p0.Version ≤ 1048576)) = true then (if (decide (((p0.Fields.length : Nat) : Int) ≥ 1)) = true then (if (decide (((p0.Fields.length : Nat) : Int) ≤ 5)) = true then ((slices_ContainsFunc_api_Bits_encode_Valid_f1 p0.Fields).bind fun y8 => (encode_Valid_k1 (!y8))) else (encode_Valid_k1 false)) else (encode_Valid_k1 false)) else (encode_Valid_k1 false)) else (encode_Valid_k1 false)) else (encode_Valid_k1 false)) else (encode_Valid_k1 false)
set_option maxRecDepth 100000 in
theorem encode_Valid_con (p0 : S_api_Encoded) (r : Bool) (h : encode_Valid p0 = some r) : Con Try.prog 55 [.agg [ci64 p0.ID, ci64 p0.Version, cl 2 RS_api_Bits p0.Fields]] [] (vb r) [] := by
 refine con_of tt_ok0 0 Try.func55 (by kernel_rfl) rfl (by kernel_rfl) (fun base X _ => AW.post ?_)
 unfold encode_Valid at h
 refine AW.sg tt_ok0 [(1, .c (.ptr 0 3 0 0))] [0] [(0, .box 40 [ci64 p0.ID, ci64 p0.Version, cl 2 RS_api_Bits p0.Fields])] 2 [] (by kernel_rfl) ?_
 refine AW.seq ?_
 refine AW.join (ι := Bool) (fun v => ⟨[(2, vb v)], [], 0⟩) (fun v : Bool => encode_Valid_k1 v = some r) (fun x1 h => ?_) ?_
 ·
  unfold encode_Valid_k1 at h
  refine AW.tn (AW.ret ?_)
  obtain rfl := some_inj h
  exact fn0 (.inr rfl) [] 0 (vb x1) (by kernel_rfl)
 ·
  rcases ifs h with ⟨c2, h⟩ | ⟨c2, h⟩
  ·
   rcases ifs h with ⟨c3, h⟩ | ⟨c3, h⟩
   ·
    rcases ifs h with ⟨c4, h⟩ | ⟨c4, h⟩
    ·
     rcases ifs h with ⟨c5, h⟩ | ⟨c5, h⟩
     ·
      rcases ifs h with ⟨c6, h⟩ | ⟨c6, h⟩
      ·
       rcases ifs h with ⟨c7, h⟩ | ⟨c7, h⟩
       ·
        obtain ⟨y8, e9, h⟩ := bnd_some h
        refine AW.rg tt_ok0 [(2, vb (!y8))] [] [] 38 [hn, hn, ht c2, hn, hn, hn, ht c3, hn, hn, hn, hn, ht c4, hn, hn, hn, hn, ht c5, hn, hn, hn, hn, hn, ht c6, hn, hn, hn, hn, hn, ht c7, hn, hn, hn, hn, hk (slices_ContainsFunc_api_Bits_encode_Valid_f1_con p0.Fields y8 e9)] (by kernel_rfl) ?_
        exact jl (!y8) h (conv_re [] (by kernel_rfl))
       ·
        refine AW.rg tt_ok0 [(2, vb false)] [] [] 39 [hn, hn, ht c2, hn, hn, hn, ht c3, hn, hn, hn, hn, ht c4, hn, hn, hn, hn, ht c5, hn, hn, hn, hn, hn, ht c6, hn, hn, hn, hn, hn, hf c7] (by kernel_rfl) ?_
        exact jl false h (conv_re [] (by kernel_rfl))
      ·
       refine AW.rg tt_ok0 [(2, vb false)] [] [] 39 [hn, hn, ht c2, hn, hn, hn, ht c3, hn, hn, hn, hn, ht c4, hn, hn, hn, hn, ht c5, hn, hn, hn, hn, hn, hf c6] (by kernel_rfl) ?_
       exact jl false h (conv_re [] (by kernel_rfl))
     ·
      refine AW.rg tt_ok0 [(2, vb false)] [] [] 39 [hn, hn, ht c2, hn, hn, hn, ht c3, hn, hn, hn, hn, ht c4, hn, hn, hn, hn, hf c5] (by kernel_rfl) ?_
      exact jl false h (conv_re [] (by kernel_rfl))
    ·
     refine AW.rg tt_ok0 [(2, vb false)] [] [] 39 [hn, hn, ht c2, hn, hn, hn, ht c3, hn, hn, hn, hn, hf c4] (by kernel_rfl) ?_
     exact jl false h (conv_re [] (by kernel_rfl))
   ·
    refine AW.rg tt_ok0 [(2, vb false)] [] [] 39 [hn, hn, ht c2, hn, hn, hn, hf c3] (by kernel_rfl) ?_
    exact jl false h (conv_re [] (by kernel_rfl))
  ·
   refine AW.rg tt_ok0 [(2, vb false)] [] [] 39 [hn, hn, hf c2] (by kernel_rfl) ?_
   exact jl false h (conv_re [] (by kernel_rfl))
def ES_api_Couple (x : S_api_Couple) : List T := [.v (.int .i64 x.A), .v (.int .i64 x.B)]
def RS_api_Couple (xs : List S_api_Couple) : Nat → Nat → T := rowL dS_api_Couple ES_api_Couple xs
theorem VS_api_Couple : ∀ x, allV (ES_api_Couple x) := fun _ => ⟨tv, tv, tv⟩
/-! recordlink/pattern.check -/
noncomputable def pattern_check_k2 (x12 : Int) (x16 : Bool) : Option (Int ⊕ (Unit ⊕ Unit)) := if x16 = true then (some (.inr (.inr ()))) else (some (.inl (i64.wrap (x12 + 1))))
noncomputable def pattern_check_l1 (p3 : List Int) (y9 : List S_api_Encoded) (x12 : Int) : Option (Int ⊕ (Unit ⊕ Unit)) := if (decide (x12 < (y9.length : Int))) = true then (if 0 ≤ x12 then (if x12 < (y9.length : Int) then ((encode_Valid (y9.getD (0 + x12.toNat) dS_api_Encoded)).bind fun y18 => (if (!y18) = true then (pattern_check_k2 x12 true) else (pattern_check_k2 x12 (((((y9.getD (0 + x12.toNat) dS_api_Encoded).Fields).length : Nat) : Int) != (p3.length : Int))))) else none) else none) else (some (.inr (.inl ())))
noncomputable def pattern_check_a3 : Option Int := some 0
noncomputable def pattern_check_a4 : Option Int := some 7
noncomputable def pattern_check (p0 : List S_api_Couple) (p1 : List S_api_Encoded) (p2 : List S_api_Encoded) (p3 : List Int) : Option Int := bind2 (pattern_Size (p3.length : Int)) fun y1 y2 => (if (y2 != 0) = true then (some y2) else (if (decide ((p0.length : Int) > 4096)) = true then (some 1) else ((slices_ContainsFunc_int_pattern_check_f1 p3).bind fun y6 => (if y6 = true then (some 2) else ((slices_Concat_api_Encoded ([p1, p2] : List (List S_api_Encoded))).bind fun y9 => (bindE (loop (fun v : Int => pattern_check_l1 p3 y9 v) 0) (fun t => pattern_check_a3) (fun t => pattern_check_a4)))))))
set_option maxRecDepth 100000 in
theorem pattern_check_con (p0 : List S_api_Couple) (p1 : List S_api_Encoded) (p2 : List S_api_Encoded) (p3 : List Int) (r : Int) (h : pattern_check p0 p1 p2 p3 = some r) : Con Try.prog 64 [vl 2 RS_api_Couple p0, vl 3 RS_api_Encoded p1, vl 3 RS_api_Encoded p2, vl 1 Ri64 p3] [] (vi64 r) [] := by
 refine con_of tt_ok0 0 Try.func64 (by kernel_rfl) rfl (by kernel_rfl) (fun base X _ => AW.post ?_)
 unfold pattern_check at h
 refine AW.sg tt_ok0 [] [] [] 1 [] (by kernel_rfl) ?_
 refine AW.seq ?_
 obtain ⟨y1, y2, e3, h⟩ := bind2_some h
 refine AW.sg tt_ok0 [(10, vi64 y2)] [] [] 8 [hn, hn, hk (pattern_Size_con (p3.length : Int) (y1, y2) e3)] (by kernel_rfl) ?_
 refine AW.sg tt_ok0 [(20, vb (y2 != 0))] [] [] 10 [] (by kernel_rfl) ?_
 refine AW.co h (by kernel_rfl) (fun c4 h => ?_) (fun c4 h => ?_)
 ·
  refine AW.sg tt_ok0 [(8, vi64 y2)] [] [] 12 [] (by kernel_rfl) ?_
  refine AW.ret (AW.tr ?_)
  obtain rfl := some_inj h
  exact fn0 (.inr rfl) [] 0 (vi64 y2) (by kernel_rfl)
 ·
  refine AW.skip (AW.tn ?_)
  refine AW.seq (AW.block ?_)
  refine AW.sg tt_ok0 [(22, vb (decide ((p0.length : Int) > 4096)))] [] [] 14 [] (by kernel_rfl) ?_
  refine AW.co h (by kernel_rfl) (fun c5 h => ?_) (fun c5 h => ?_)
  ·
   refine AW.sg tt_ok0 [(8, vi64 1)] [] [] 15 [] (by kernel_rfl) ?_
   refine AW.ret (AW.inBlock_ret (AW.tr ?_))
   obtain rfl := some_inj h
   exact fn0 (.inr rfl) [] 0 (vi64 1) (by kernel_rfl)
  ·
   obtain ⟨y6, e7, h⟩ := bnd_some h
   refine AW.sg tt_ok0 [(26, vb y6)] [] [] 16 [hn, hk (slices_ContainsFunc_int_pattern_check_f1_con p3 y6 e7)] (by kernel_rfl) ?_
   refine AW.co h (by kernel_rfl) (fun c8 h => ?_) (fun c8 h => ?_)
   ·
    refine AW.sg tt_ok0 [(8, vi64 2)] [] [] 17 [] (by kernel_rfl) ?_
    refine AW.ret (AW.inBlock_ret (AW.tr ?_))
    obtain rfl := some_inj h
    exact fn0 (.inr rfl) [] 0 (vi64 2) (by kernel_rfl)
   ·
    refine AW.skip (AW.inBlock_normal ?_)
    refine AW.tn (AW.seq ?_)
    obtain ⟨y9, e10, h⟩ := bnd_some h
    refine AW.sg tt_ok0 [(34, vi64 0), (33, vi64 (y9.length : Int)), (32, .c (.ref 19 3 0 y9.length))] [18, 19] [(19, .row 40 false 3 y9.length (RS_api_Encoded y9))] 22 [hn, hn, hlit ([] : List S_api_Encoded) ElS_api_Encoded 1 (fun _ => rfl) ([p1, p2] : List (List S_api_Encoded)), hg [] [18] false 1 (q := (0 + ([p1, p2] : List (List S_api_Encoded)).length ≤ ([p1, p2] : List (List S_api_Encoded)).length) ∧ (True)) ⟨le0, tv⟩ (a0 := [vl 1 RlS_api_Encoded ([p1, p2] : List (List S_api_Encoded))]) (slices_Concat_api_Encoded_con ([p1, p2] : List (List S_api_Encoded)) y9 e10) ⟨ArgLe.refl _, tv⟩ (fun h => by cases h)] (by kernel_rfl) ?_
    refine AW.block ?_
    refine AW.lpE h (fun v => ⟨[(3, vl 1 Ri64 p3), (32, .c (.ref 0 3 0 y9.length)), (33, vi64 (y9.length : Int)), (34, vi64 v)], [(0, .row 40 false 3 y9.length (RS_api_Encoded y9))], 1⟩) (fun t => (.exit 1, ⟨[], [], 0⟩)) (fun t => (.ret, ⟨[(8, vi64 7)], [], 0⟩)) (conv_re [(0, 19)] (by kernel_rfl)) (fun _ => tv) (fun _ => tv) ?_ (fun t h => ?_) (fun t h => ?_)
    ·
     clear h
     intro x12 o h
     unfold pattern_check_l1 at h
     refine AW.sg tt_ok0 [(35, vb (decide (x12 < (y9.length : Int))))] [] [] 2 [] (by kernel_rfl) ?_
     refine AW.seq ?_
     refine AW.co h (by kernel_rfl) (fun c13 h => ?_) (fun c13 h => ?_)
     ·
      refine AW.skip (AW.tn ?_)
      refine AW.seq (AW.block ?_)
      obtain ⟨g14, g15, h⟩ := ifd h
      refine AW.sg tt_ok0 [(12, .c (.ptr 4 3 0 0))] [4] [(4, .box 40 [ci64 ((y9.getD (0 + x12.toNat) dS_api_Encoded).ID), ci64 ((y9.getD (0 + x12.toNat) dS_api_Encoded).Version), cl 2 RS_api_Bits ((y9.getD (0 + x12.toNat) dS_api_Encoded).Fields)])] 6 [hq g14 g15, ho (p := (0 + x12.toNat) < y9.length) (by have h1 : 0 ≤ x12 := g14; have h2 : x12 < (y9.length : Int) := g15; omega)] (by kernel_rfl) ?_
      refine AW.seq ?_
      refine AW.join (ι := Bool) (fun v => ⟨[(3, vl 1 Ri64 p3), (32, .c (.ref 0 3 0 y9.length)), (33, vi64 (y9.length : Int)), (34, vi64 x12), (48, vb v)], [(0, .row 40 false 3 y9.length (RS_api_Encoded y9))], 1⟩) (fun v : Bool => pattern_check_k2 x12 v = some o) (fun x16 h => ?_) ?_
      ·
       unfold pattern_check_k2 at h
       refine AW.tn ?_
       refine AW.co h (by kernel_rfl) (fun c17 h => ?_) (fun c17 h => ?_)
       ·
        refine AW.sg tt_ok0 [(8, vi64 7)] [] [] 2 [] (by kernel_rfl) ?_
        refine AW.ret (AW.inBlock_ret (AW.tr ?_))
        exact lpo h rfl (conv_re [] (by kernel_rfl))
       ·
        refine AW.skip (AW.inBlock_normal (AW.tn ?_))
        refine AW.rg tt_ok0 [(34, vi64 (i64.wrap (x12 + 1)))] [] [] 3 [] (by kernel_rfl) ?_
        exact lpn h (conv_re [(0, 0)] (by kernel_rfl))
      ·
       obtain ⟨y18, e19, h⟩ := bnd_some h
       rcases ifs h with ⟨c20, h⟩ | ⟨c20, h⟩
       ·
        refine AW.rg tt_ok0 [(48, vb true)] [] [] 16 [hn, hk (encode_Valid_con (y9.getD (0 + x12.toNat) dS_api_Encoded) y18 e19), ht c20] (by kernel_rfl) ?_
        exact jl true h (conv_re [(0, 0)] (by kernel_rfl))
       ·
        refine AW.rg tt_ok0 [(48, vb (((((y9.getD (0 + x12.toNat) dS_api_Encoded).Fields).length : Nat) : Int) != (p3.length : Int)))] [] [] 16 [hn, hk (encode_Valid_con (y9.getD (0 + x12.toNat) dS_api_Encoded) y18 e19), hf c20] (by kernel_rfl) ?_
        exact jl (((((y9.getD (0 + x12.toNat) dS_api_Encoded).Fields).length : Nat) : Int) != (p3.length : Int)) h (conv_re [(0, 0)] (by kernel_rfl))
     ·
      refine AW.exit (AW.thenQ_exit ?_)
      exact lpo h rfl (conv_re [] (by kernel_rfl))
    ·
     replace h : pattern_check_a3 = some r := h
     unfold pattern_check_a3 at h
     show (_ : Exit → St → Prop) (.exit 1) _
     refine AW.inBlock_hit (AW.tn ?_)
     refine AW.sg tt_ok0 [(8, vi64 0)] [] [] 1 [] (by kernel_rfl) ?_
     refine AW.ret ?_
     obtain rfl := some_inj h
     exact fn0 (.inr rfl) [] 0 (vi64 0) (by kernel_rfl)
    ·
     replace h : pattern_check_a4 = some r := h
     unfold pattern_check_a4 at h
     show (_ : Exit → St → Prop) (.ret) _
     refine AW.inBlock_ret (AW.tr ?_)
     obtain rfl := some_inj h
     exact fn0 (.inr rfl) [] 0 (vi64 7) (by kernel_rfl)
/-! recordlink/pattern.find$1 -/
noncomputable def pattern_find_f1 (p0 : S_api_Encoded) (pc0 : Int) : Option (Bool × Int) := some ((p0.ID == pc0), pc0)
set_option maxRecDepth 100000 in
theorem pattern_find_f1_con (p0 : S_api_Encoded) (pc0 : Int) (r : Bool × Int) (h : pattern_find_f1 p0 pc0 = some r) : Con Try.prog 93 [.agg [ci64 p0.ID, ci64 p0.Version, cl 2 RS_api_Bits p0.Fields], .c (.ptr 0 1 0 0)] [(0, .box 3 [ci64 pc0])] (vb r.1) [(0, .box 3 [ci64 r.2])] := by
 refine con_of tt_ok0 1 Try.func93 (by kernel_rfl) rfl (by kernel_rfl) (fun base X _ => AW.post ?_)
 unfold pattern_find_f1 at h
 refine AW.sg tt_ok0 [(2, .c (.ptr 1 3 0 0))] [1] [(1, .box 40 [ci64 p0.ID, ci64 p0.Version, cl 2 RS_api_Bits p0.Fields])] 3 [] (by kernel_rfl) ?_
 refine AW.sg tt_ok0 [(3, vb (p0.ID == pc0))] [] [] 8 [] (by kernel_rfl) ?_
 refine AW.ret ?_
 obtain rfl := some_inj h
 exact fn0 (.inr rfl) [(0, 0)] 1 (vb (p0.ID == pc0)) (by kernel_rfl)
/-! slices.IndexFunc[[]recordlink/api.Encoded,recordlink/api.Encoded] -/
noncomputable def slices_IndexFunc_api_Encoded_pattern_find_f1_l1 (p0 : List S_api_Encoded) (x3 : Int) (x4 : Int) : Option ((Int × Int) ⊕ (Int ⊕ (Int × Int))) := if (decide (x3 < (p0.length : Int))) = true then (if 0 ≤ x3 then (if x3 < (p0.length : Int) then (bind2 (pattern_find_f1 (p0.getD x3.toNat dS_api_Encoded) x4) fun y11 y12 => (if y11 = true then (some (.inr (.inr (x3, y12)))) else (some (.inl (i64.wrap (x3 + 1), y12))))) else none) else none) else (some (.inr (.inl x4)))
noncomputable def slices_IndexFunc_api_Encoded_pattern_find_f1_a2 (x15 : Int) : Option (Int × Int) := some ((-1), x15)
noncomputable def slices_IndexFunc_api_Encoded_pattern_find_f1_a3 (x16 : Int) (x17 : Int) : Option (Int × Int) := some (x16, x17)
noncomputable def slices_IndexFunc_api_Encoded_pattern_find_f1 (p0 : List S_api_Encoded) (p1d0 : Int) : Option (Int × Int) := bindE (loop (fun v : Int × Int => slices_IndexFunc_api_Encoded_pattern_find_f1_l1 p0 v.1 v.2) (0, p1d0)) (fun t => slices_IndexFunc_api_Encoded_pattern_find_f1_a2 t) (fun t => slices_IndexFunc_api_Encoded_pattern_find_f1_a3 t.1 t.2)
set_option maxRecDepth 100000 in
theorem slices_IndexFunc_api_Encoded_pattern_find_f1_con (p0 : List S_api_Encoded) (p1d0 : Int) (r : Int × Int) (h : slices_IndexFunc_api_Encoded_pattern_find_f1 p0 p1d0 = some r) : Con Try.prog 92 [vl 3 RS_api_Encoded p0, .clo 93 [] [.c (.ptr 0 1 0 0)]] [(0, .box 3 [ci64 p1d0])] (vi64 r.1) [(0, .box 3 [ci64 r.2])] := by
 refine con_of tt_ok0 1 Try.func92 (by kernel_rfl) rfl (by kernel_rfl) (fun base X _ => AW.post ?_)
 unfold slices_IndexFunc_api_Encoded_pattern_find_f1 at h
 refine AW.sg tt_ok0 [] [] [] 2 [] (by kernel_rfl) ?_
 refine AW.seq ?_
 refine AW.sg tt_ok0 [(8, vi64 0), (7, vi64 (p0.length : Int))] [] [] 5 [] (by kernel_rfl) ?_
 refine AW.block ?_
 refine AW.lpE h (fun v => ⟨[(0, vl 3 RS_api_Encoded p0), (1, .clo 93 [] [.c (.ptr 0 1 0 0)]), (7, vi64 (p0.length : Int)), (8, vi64 v.1)], [(0, .box 3 [ci64 v.2])], 1⟩) (fun t => (.exit 0, ⟨[], [(0, .box 3 [ci64 t])], 1⟩)) (fun t => (.ret, ⟨[(4, vi64 t.1)], [(0, .box 3 [ci64 t.2])], 1⟩)) (conv_re [(0, 0)] (by kernel_rfl)) (fun _ => tv) (fun _ => tv) ?_ (fun x15 h => ?_) (fun t h => ?_)
 ·
  clear h
  intro v o h
  obtain ⟨x3, x4⟩ := v
  replace h : slices_IndexFunc_api_Encoded_pattern_find_f1_l1 p0 x3 x4 = some o := h
  unfold slices_IndexFunc_api_Encoded_pattern_find_f1_l1 at h
  refine AW.sg tt_ok0 [(9, vb (decide (x3 < (p0.length : Int))))] [] [] 2 [] (by kernel_rfl) ?_
  refine AW.seq ?_
  refine AW.co h (by kernel_rfl) (fun c8 h => ?_) (fun c8 h => ?_)
  ·
   refine AW.skip (AW.tn ?_)
   refine AW.seq (AW.block ?_)
   refine AW.sg tt_ok0 [(5, vi64 x3)] [] [] 4 [] (by kernel_rfl) ?_
   obtain ⟨g9, g10, h⟩ := ifd h
   obtain ⟨y11, y12, e13, h⟩ := bind2_some h
   refine AW.sg tt_ok0 [(16, vb y11)] [0] [(0, .box 3 [ci64 y12])] 9 [hn, hn, hn, hq g9 g10, hn, hm [0] [] 0 (pattern_find_f1_con (p0.getD x3.toNat dS_api_Encoded) x4 (y11, y12) e13) ⟨rfl, tv⟩] (by kernel_rfl) ?_
   refine AW.co h (by kernel_rfl) (fun c14 h => ?_) (fun c14 h => ?_)
   ·
    refine AW.sg tt_ok0 [(4, vi64 x3)] [] [] 11 [] (by kernel_rfl) ?_
    refine AW.ret (AW.inBlock_ret (AW.tr ?_))
    exact lpo h rfl (conv_re [(0, 0)] (by kernel_rfl))
   ·
    refine AW.skip (AW.inBlock_normal (AW.tn ?_))
    refine AW.rg tt_ok0 [(8, vi64 (i64.wrap (x3 + 1)))] [] [] 11 [] (by kernel_rfl) ?_
    exact lpn h (conv_re [(0, 0)] (by kernel_rfl))
  ·
   refine AW.exit (AW.thenQ_exit ?_)
   exact lpo h rfl (conv_re [(0, 0)] (by kernel_rfl))
 ·
  unfold slices_IndexFunc_api_Encoded_pattern_find_f1_a2 at h
  show (_ : Exit → St → Prop) (.exit 0) _
  refine AW.inBlock_hit (AW.tn ?_)
  refine AW.sg tt_ok0 [(4, vi64 (-1))] [] [] 2 [] (by kernel_rfl) ?_
  refine AW.ret ?_
  obtain rfl := some_inj h
  exact fn0 (.inr rfl) [(0, 0)] 1 (vi64 (-1)) (by kernel_rfl)
 ·
  obtain ⟨x16, x17⟩ := t
  replace h : slices_IndexFunc_api_Encoded_pattern_find_f1_a3 x16 x17 = some r := h
  unfold slices_IndexFunc_api_Encoded_pattern_find_f1_a3 at h
  show (_ : Exit → St → Prop) (.ret) _
  refine AW.inBlock_ret (AW.tr ?_)
  obtain rfl := some_inj h
  exact fn0 (.inr rfl) [(0, 0)] 1 (vi64 x16) (by kernel_rfl)
/-! recordlink/pattern.find -/
noncomputable def pattern_find (p0 : List S_api_Encoded) (p1 : Int) : Option (S_api_Encoded × Bool) := bind2 (slices_IndexFunc_api_Encoded_pattern_find_f1 p0 p1) fun y1 y2 => (if (decide (y1 < 0)) = true then (some ((⟨0, 0, ([] : List S_api_Bits)⟩ : S_api_Encoded), false)) else (if 0 ≤ y1 then (if y1 < (p0.length : Int) then (some ((p0.getD y1.toNat dS_api_Encoded), true)) else none) else none))
set_option maxRecDepth 100000 in
theorem pattern_find_con (p0 : List S_api_Encoded) (p1 : Int) (r : S_api_Encoded × Bool) (h : pattern_find p0 p1 = some r) : Con Try.prog 65 [vl 3 RS_api_Encoded p0, vi64 p1] [] (.tup [.agg [ci64 r.1.ID, ci64 r.1.Version, cl 2 RS_api_Bits r.1.Fields], vb r.2]) [] := by
 refine con_of tt_ok0 0 Try.func65 (by kernel_rfl) rfl (by kernel_rfl) (fun base X _ => AW.post ?_)
 unfold pattern_find at h
 refine AW.sg tt_ok0 [(4, .c (.ptr 1 3 0 0)), (3, .c (.ptr 0 1 0 0))] [0, 1] [(1, .box 40 [ci64 0, ci64 0, .t (.v (.slice none 0 0))]), (0, .box 3 [ci64 p1])] 3 [] (by kernel_rfl) ?_
 obtain ⟨y1, y2, e3, h⟩ := bind2_some h
 refine AW.sg tt_ok0 [(6, vi64 y1)] [0] [] 6 [hn, hn, hm [0] [] 0 (slices_IndexFunc_api_Encoded_pattern_find_f1_con p0 p1 (y1, y2) e3) ⟨rfl, tv⟩] (by kernel_rfl) ?_
 refine AW.seq ?_
 refine AW.sg tt_ok0 [(11, vb (decide (y1 < 0)))] [] [] 8 [] (by kernel_rfl) ?_
 refine AW.co h (by kernel_rfl) (fun c4 h => ?_) (fun c4 h => ?_)
 ·
  refine AW.sg tt_ok0 [(5, vb false)] [1] [(1, .box 40 [ci64 0, ci64 0, .t (.v (.slice none 0 0))])] 11 [] (by kernel_rfl) ?_
  refine AW.ret (AW.tr ?_)
  obtain rfl := some_inj h
  exact fnR (.inr rfl) [] 0 (.tup [.agg [ci64 0, ci64 0, cl 2 RS_api_Bits ([] : List S_api_Bits)], vb false]) (conv_box (id := 1) (ty := 40) (cs := [ci64 0, ci64 0, .t (.v (.slice none 0 0))]) (ds := [ci64 0, ci64 0, cl 2 RS_api_Bits ([] : List S_api_Bits)]) (by kernel_rfl) ⟨CLe.refl _ _, CLe.refl _ _, CLe.nil rfl, tv⟩) (by kernel_rfl)
 ·
  refine AW.skip (AW.tn ?_)
  obtain ⟨g5, g6, h⟩ := ifd h
  refine AW.sg tt_ok0 [(5, vb true)] [1] [(1, .box 40 [ci64 ((p0.getD y1.toNat dS_api_Encoded).ID), ci64 ((p0.getD y1.toNat dS_api_Encoded).Version), cl 2 RS_api_Bits ((p0.getD y1.toNat dS_api_Encoded).Fields)])] 14 [hn, hn, hq g5 g6] (by kernel_rfl) ?_
  refine AW.ret ?_
  obtain rfl := some_inj h
  exact fn0 (.inr rfl) [] 0 (.tup [.agg [ci64 ((p0.getD y1.toNat dS_api_Encoded).ID), ci64 ((p0.getD y1.toNat dS_api_Encoded).Version), cl 2 RS_api_Bits ((p0.getD y1.toNat dS_api_Encoded).Fields)], vb true]) (by kernel_rfl)
/-! recordlink/similarity.fields -/
noncomputable def similarity_fields_k1 (x1 : Bool) : Option Bool := some x1
noncomputable def similarity_fields (p0 : Int) : Option Bool := if (decide (p0 ≥ 1)) = true then (similarity_fields_k1 (decide (p0 ≤ 5))) else (similarity_fields_k1 false)
set_option maxRecDepth 100000 in
theorem similarity_fields_con (p0 : Int) (r : Bool) (h : similarity_fields p0 = some r) : Con Try.prog 94 [vi64 p0] [] (vb r) [] := by
 refine con_of tt_ok0 0 Try.func94 (by kernel_rfl) rfl (by kernel_rfl) (fun base X _ => AW.post ?_)
 unfold similarity_fields at h
 refine AW.sg tt_ok0 [] [] [] 1 [] (by kernel_rfl) ?_
 refine AW.seq ?_
 refine AW.join (ι := Bool) (fun v => ⟨[(2, vb v)], [], 0⟩) (fun v : Bool => similarity_fields_k1 v = some r) (fun x1 h => ?_) ?_
 ·
  unfold similarity_fields_k1 at h
  refine AW.tn (AW.ret ?_)
  obtain rfl := some_inj h
  exact fn0 (.inr rfl) [] 0 (vb x1) (by kernel_rfl)
 ·
  rcases ifs h with ⟨c2, h⟩ | ⟨c2, h⟩
  ·
   refine AW.rg tt_ok0 [(2, vb (decide (p0 ≤ 5)))] [] [] 8 [hn, ht c2] (by kernel_rfl) ?_
   exact jl (decide (p0 ≤ 5)) h (conv_re [] (by kernel_rfl))
  ·
   refine AW.rg tt_ok0 [(2, vb false)] [] [] 8 [hn, hf c2] (by kernel_rfl) ?_
   exact jl false h (conv_re [] (by kernel_rfl))
/-! recordlink/bitset.And$1 -/
noncomputable def bitset_And_f1 (p0 : Int) (p1 : Int) : Option Int := some (iand .u64 p0 p1)
set_option maxRecDepth 100000 in
theorem bitset_And_f1_con (p0 : Int) (p1 : Int) (r : Int) (h : bitset_And_f1 p0 p1 = some r) : Con Try.prog 117 [vu64 p0, vu64 p1] [] (vu64 r) [] := by
 refine con_of tt_ok0 0 Try.func117 (by kernel_rfl) rfl (by kernel_rfl) (fun base X _ => AW.post ?_)
 unfold bitset_And_f1 at h
 refine AW.sg tt_ok0 [] [] [] 1 [] (by kernel_rfl) ?_
 refine AW.sg tt_ok0 [(4, vu64 (iand .u64 p0 p1))] [] [] 5 [] (by kernel_rfl) ?_
 refine AW.ret ?_
 obtain rfl := some_inj h
 exact fn0 (.inr rfl) [] 0 (vu64 (iand .u64 p0 p1)) (by kernel_rfl)
/-! recordlink/bitset.both -/
noncomputable def bitset_both_bitset_And_f1_l2 (p0 : S_api_Bits) (p1 : S_api_Bits) (x7 : Int) (x8 : List Int) : Option ((Int × (List Int)) ⊕ (List Int)) := if (decide (x7 < ((p0.Words.length : Nat) : Int))) = true then (if 0 ≤ x7 then (if x7 < ((p0.Words.length : Nat) : Int) then (if x7 < ((p1.Words.length : Nat) : Int) then ((bitset_And_f1 (p0.Words.getD x7.toNat 0) (p1.Words.getD x7.toNat 0)).bind fun y14 => (if x7 < (x8.length : Int) then (some (.inl (i64.wrap (x7 + 1), (x8.set (0 + x7.toNat) y14)))) else none)) else none) else none) else none) else (some (.inr x8))
noncomputable def bitset_both_bitset_And_f1_k1 (p0 : S_api_Bits) (p1 : S_api_Bits) (x1 : Bool) : Option (S_api_Bits × Int) := if x1 = true then (some ((⟨0, ([] : List Int)⟩ : S_api_Bits), 8)) else (if 0 ≤ ((p0.Words.length : Nat) : Int) then (if ((p0.Words.length : Nat) : Int) ≤ 1099511627776 then ((loop (fun v : Int × (List Int) => bitset_both_bitset_And_f1_l2 p0 p1 v.1 v.2) (0, (List.replicate (((p0.Words.length : Nat) : Int).toNat) (0 : Int)))).bind fun x17 => (some ((⟨p0.Length, x17⟩ : S_api_Bits), 0))) else none) else none)
noncomputable def bitset_both_bitset_And_f1 (p0 : S_api_Bits) (p1 : S_api_Bits) : Option (S_api_Bits × Int) := (bitset_Valid p0).bind fun y19 => (if (!y19) = true then (bitset_both_bitset_And_f1_k1 p0 p1 true) else ((bitset_Valid p1).bind fun y22 => (if (!y22) = true then (bitset_both_bitset_And_f1_k1 p0 p1 true) else (bitset_both_bitset_And_f1_k1 p0 p1 (p0.Length != p1.Length)))))
set_option maxRecDepth 100000 in
theorem bitset_both_bitset_And_f1_con (p0 : S_api_Bits) (p1 : S_api_Bits) (r : S_api_Bits × Int) (h : bitset_both_bitset_And_f1 p0 p1 = some r) : Con Try.prog 116 [.agg [ci64 p0.Length, cl 1 Ru64 p0.Words], .agg [ci64 p1.Length, cl 1 Ru64 p1.Words], .c (.t (.v (.func (.func 117) #[] #[])))] [] (.tup [.agg [ci64 r.1.Length, .ref 0 1 0 r.1.Words.length], vi64 r.2]) [(0, .row 45 false 1 r.1.Words.length (Ru64 r.1.Words))] := by
 refine con_of tt_ok0 0 Try.func116 (by kernel_rfl) rfl (by kernel_rfl) (fun base X _ => AW.post ?_)
 unfold bitset_both_bitset_And_f1 at h
 refine AW.sg tt_ok0 [(6, .c (.ptr 2 2 0 0)), (4, .c (.ptr 1 2 0 0)), (3, .c (.ptr 0 2 0 0))] [0, 1, 2] [(2, .box 84 [ci64 0, .t (.v (.slice none 0 0))]), (1, .box 84 [ci64 p1.Length, cl 1 Ru64 p1.Words]), (0, .box 84 [ci64 p0.Length, cl 1 Ru64 p0.Words])] 4 [] (by kernel_rfl) ?_
 refine AW.seq (AW.seq ?_)
 refine AW.join (ι := Bool) (fun v => ⟨[(2, .c (.t (.v (.func (.func 117) #[] #[])))), (3, .c (.ptr 0 2 0 0)), (4, .c (.ptr 1 2 0 0)), (6, .c (.ptr 2 2 0 0)), (25, vb v)], [(0, .box 84 [ci64 p0.Length, cl 1 Ru64 p0.Words]), (1, .box 84 [ci64 p1.Length, cl 1 Ru64 p1.Words]), (2, .box 84 [ci64 0, .t (.v (.slice none 0 0))])], 3⟩) (fun v : Bool => bitset_both_bitset_And_f1_k1 p0 p1 v = some r) (fun x1 h => ?_) ?_
 ·
  unfold bitset_both_bitset_And_f1_k1 at h
  refine AW.tn ?_
  refine AW.co h (by kernel_rfl) (fun c2 h => ?_) (fun c2 h => ?_)
  ·
   refine AW.sg tt_ok0 [(7, vi64 8)] [2] [(2, .box 84 [ci64 0, .t (.v (.slice none 0 0))])] 6 [] (by kernel_rfl) ?_
   refine AW.ret (AW.tr ?_)
   obtain rfl := some_inj h
   exact fnR (.inr rfl) [(0, 6)] 1 (.tup [.agg [ci64 0, .ref 6 1 0 (([] : List Int).length)], vi64 8]) (conv_adoptB (id := 2) (ty0 := 84) (cs := [ci64 0, .t (.v (.slice none 0 0))]) 1 (ty := 45) (sz := 1) (n := ([] : List Int).length) (f := Ru64 ([] : List Int)) (by kernel_rfl) (by kernel_rfl) rfl) (by kernel_rfl)
  ·
   refine AW.skip (AW.tn ?_)
   obtain ⟨g3, g4, h⟩ := ifd h
   refine AW.sd tt_ok0 mo0 [[], [], [], [], [], [8], [], [10], [10]] [(8, .c (.ptr 10 2 0 0))] [(10, .box 84 [ci64 p0.Length, .ref 8 1 0 ((List.replicate (((p0.Words.length : Nat) : Int).toNat) (0 : Int)).length)]), (8, .row 45 false 1 (List.replicate (((p0.Words.length : Nat) : Int).toNat) (0 : Int)).length (Ru64 (List.replicate (((p0.Words.length : Nat) : Int).toNat) (0 : Int))))] 12 [hn, hn, hn, hn, hn, hmk 0 Eu64 1 8 [.int .u64 0] rfl rfl ((p0.Words.length : Nat) : Int) ((p0.Words.length : Nat) : Int) g3 (Int.le_refl _) g4 (by decide)] (by kernel_rfl) ?_
   refine AW.seq ?_
   refine AW.sg tt_ok0 [(37, vi64 0), (36, vi64 ((p0.Words.length : Nat) : Int)), (35, vl 1 Ru64 p0.Words)] [] [] 16 [] (by kernel_rfl) ?_
   refine AW.block ?_
   obtain ⟨x17, l18, h⟩ := bnd_some h
   refine AW.lp l18 (fun v => ⟨[(2, .c (.t (.v (.func (.func 117) #[] #[])))), (4, .c (.ptr 0 2 0 0)), (6, .c (.ptr 1 2 0 0)), (8, .c (.ptr 2 2 0 0)), (35, vl 1 Ru64 p0.Words), (36, vi64 ((p0.Words.length : Nat) : Int)), (37, vi64 v.1)], [(0, .box 84 [ci64 p1.Length, cl 1 Ru64 p1.Words]), (1, .box 84 [ci64 0, .t (.v (.slice none 0 0))]), (2, .box 84 [ci64 p0.Length, .ref 3 1 0 v.2.length]), (3, .row 45 false 1 v.2.length (Ru64 v.2))], 4⟩) (fun t : List Int => (.exit 0, ⟨[(6, .c (.ptr 0 2 0 0)), (8, .c (.ptr 1 2 0 0))], [(0, .box 84 [ci64 0, .t (.v (.slice none 0 0))]), (1, .box 84 [ci64 p0.Length, .ref 2 1 0 t.length]), (2, .row 45 false 1 t.length (Ru64 t))], 3⟩)) (conv_re [(0, 1), (1, 2), (2, 10), (3, 8)] (by kernel_rfl)) (fun _ => tv) ?_ ?_
   ·
    clear l18 h
    intro v o h
    obtain ⟨x7, x8⟩ := v
    replace h : bitset_both_bitset_And_f1_l2 p0 p1 x7 x8 = some o := h
    unfold bitset_both_bitset_And_f1_l2 at h
    refine AW.sg tt_ok0 [(38, vb (decide (x7 < ((p0.Words.length : Nat) : Int))))] [] [] 5 [] (by kernel_rfl) ?_
    refine AW.seq ?_
    refine AW.co h (by kernel_rfl) (fun c10 h => ?_) (fun c10 h => ?_)
    ·
     refine AW.skip (AW.tn ?_)
     refine AW.seq (AW.block ?_)
     obtain ⟨g11, g12, h⟩ := ifd h
     refine AW.sg tt_ok0 [(10, vu64 (p0.Words.getD x7.toNat 0)), (9, vi64 x7)] [] [] 10 [hn, hq g11 g12] (by kernel_rfl) ?_
     obtain ⟨g13, h⟩ := ifc h
     obtain ⟨y14, e15, h⟩ := bnd_some h
     obtain ⟨g16, h⟩ := ifc h
     refine AW.rd tt_ok0 mo0 [[], [], [], [], [], [], [], [], [], [], [], [], [3]] [] [(3, .row 45 false 1 x8.length (Ru64 (x8.set (0 + x7.toNat) y14)))] 22 [hn, hn, hn, hn, hn, hn, hn, hn, hq g11 g13, hn, hk (bitset_And_f1_con (p0.Words.getD x7.toNat 0) (p1.Words.getD x7.toNat 0) y14 e15), hq g11 g16, hset 0 Eu64 x8 (0 + x7.toNat) y14 (n := x8.length) (by have h1 : 0 ≤ x7 := g11; have h2 : x7 < (x8.length : Int) := g16; omega) rfl] (by kernel_rfl) ?_
     refine AW.inBlock_normal (AW.tn ?_)
     refine AW.rg tt_ok0 [(37, vi64 (i64.wrap (x7 + 1)))] [] [] 24 [] (by kernel_rfl) ?_
     exact lpn h (Conv.trans (conv_re (S' := ⟨[(37, vi64 (i64.wrap (x7 + 1))), (2, .c (.t (.v (.func (.func 117) #[] #[])))), (4, .c (.ptr 0 2 0 0)), (6, .c (.ptr 1 2 0 0)), (8, .c (.ptr 2 2 0 0)), (35, vl 1 Ru64 p0.Words), (36, vi64 ((p0.Words.length : Nat) : Int))], [(3, .row 45 false 1 x8.length (Ru64 (x8.set (0 + x7.toNat) y14))), (0, .box 84 [ci64 p1.Length, cl 1 Ru64 p1.Words]), (1, .box 84 [ci64 0, .t (.v (.slice none 0 0))]), (2, .box 84 [ci64 p0.Length, .ref 3 1 0 x8.length])], 24⟩) [(3, 3), (0, 0), (1, 1), (2, 2)] (by kernel_rfl)) (Conv.trans (conv_len (S' := ⟨[(37, vi64 (i64.wrap (x7 + 1))), (2, .c (.t (.v (.func (.func 117) #[] #[])))), (4, .c (.ptr 0 2 0 0)), (6, .c (.ptr 1 2 0 0)), (8, .c (.ptr 2 2 0 0)), (35, vl 1 Ru64 p0.Words), (36, vi64 ((p0.Words.length : Nat) : Int))], [(3, .row 45 false 1 (x8.set (0 + x7.toNat) y14).length (Ru64 (x8.set (0 + x7.toNat) y14))), (0, .box 84 [ci64 p1.Length, cl 1 Ru64 p1.Words]), (1, .box 84 [ci64 0, .t (.v (.slice none 0 0))]), (2, .box 84 [ci64 p0.Length, .ref 3 1 0 ((x8.set (0 + x7.toNat) y14).length)])], 24⟩) (by simp only [List.length_set])) (conv_re [(0, 0), (1, 1), (2, 2), (3, 3)] (by kernel_rfl))))
    ·
     refine AW.exit (AW.thenQ_exit ?_)
     exact lpo h rfl (conv_re [(0, 1), (1, 2), (2, 3)] (by kernel_rfl))
   ·
    show (_ : Exit → St → Prop) (.exit 0) _
    refine AW.inBlock_hit (AW.tn ?_)
    refine AW.sg tt_ok0 [(7, vi64 0)] [0] [(0, .box 84 [ci64 p0.Length, .ref 2 1 0 x17.length])] 6 [] (by kernel_rfl) ?_
    refine AW.ret ?_
    obtain rfl := some_inj h
    exact fn0 (.inr rfl) [(0, 2)] 1 (.tup [.agg [ci64 p0.Length, .ref 2 1 0 x17.length], vi64 0]) (by kernel_rfl)
 ·
  obtain ⟨y19, e20, h⟩ := bnd_some h
  rcases ifs h with ⟨c21, h⟩ | ⟨c21, h⟩
  ·
   refine AW.rg tt_ok0 [(25, vb true)] [] [] 18 [hn, hk (bitset_Valid_con p0 y19 e20), ht c21] (by kernel_rfl) ?_
   exact jl true h (conv_re [(0, 0), (1, 1), (2, 2)] (by kernel_rfl))
  ·
   obtain ⟨y22, e23, h⟩ := bnd_some h
   rcases ifs h with ⟨c24, h⟩ | ⟨c24, h⟩
   ·
    refine AW.rg tt_ok0 [(25, vb true)] [] [] 17 [hn, hk (bitset_Valid_con p0 y19 e20), hf c21, hn, hn, hk (bitset_Valid_con p1 y22 e23), ht c24] (by kernel_rfl) ?_
    exact jl true h (conv_re [(0, 0), (1, 1), (2, 2)] (by kernel_rfl))
   ·
    refine AW.rg tt_ok0 [(25, vb (p0.Length != p1.Length))] [] [] 17 [hn, hk (bitset_Valid_con p0 y19 e20), hf c21, hn, hn, hk (bitset_Valid_con p1 y22 e23), hf c24] (by kernel_rfl) ?_
    exact jl (p0.Length != p1.Length) h (conv_re [(0, 0), (1, 1), (2, 2)] (by kernel_rfl))
/-! recordlink/bitset.And -/
noncomputable def bitset_And (p0 : S_api_Bits) (p1 : S_api_Bits) : Option (S_api_Bits × Int) := bind2 (bitset_both_bitset_And_f1 p0 p1) fun y1 y2 => (some (y1, y2))
set_option maxRecDepth 100000 in
theorem bitset_And_con (p0 : S_api_Bits) (p1 : S_api_Bits) (r : S_api_Bits × Int) (h : bitset_And p0 p1 = some r) : Con Try.prog 109 [.agg [ci64 p0.Length, cl 1 Ru64 p0.Words], .agg [ci64 p1.Length, cl 1 Ru64 p1.Words]] [] (.tup [.agg [ci64 r.1.Length, .ref 0 1 0 r.1.Words.length], vi64 r.2]) [(0, .row 45 false 1 r.1.Words.length (Ru64 r.1.Words))] := by
 refine con_of tt_ok0 0 Try.func109 (by kernel_rfl) rfl (by kernel_rfl) (fun base X _ => AW.post ?_)
 unfold bitset_And at h
 refine AW.sg tt_ok0 [(4, .c (.ptr 2 2 0 0)), (3, .c (.ptr 1 2 0 0)), (2, .c (.ptr 0 2 0 0))] [0, 1, 2] [(2, .box 84 [ci64 0, .t (.v (.slice none 0 0))]), (1, .box 84 [ci64 p1.Length, cl 1 Ru64 p1.Words]), (0, .box 84 [ci64 p0.Length, cl 1 Ru64 p0.Words])] 4 [] (by kernel_rfl) ?_
 obtain ⟨y1, y2, e3, h⟩ := bind2_some h
 refine AW.sg tt_ok0 [(5, vi64 y2)] [2, 6] [(2, .box 84 [ci64 y1.Length, .ref 6 1 0 y1.Words.length]), (6, .row 45 false 1 y1.Words.length (Ru64 y1.Words))] 11 [hn, hn, hm [] [] 1 (bitset_both_bitset_And_f1_con p0 p1 (y1, y2) e3) ⟨rowL_flat Vu64 _ _ _, tv⟩] (by kernel_rfl) ?_
 refine AW.ret ?_
 obtain rfl := some_inj h
 exact fn0 (.inr rfl) [(0, 6)] 1 (.tup [.agg [ci64 y1.Length, .ref 6 1 0 y1.Words.length], vi64 y2]) (by kernel_rfl)
/-! math/bits.OnesCount64 -/
noncomputable def bits_OnesCount64 (p0 : Int) : Option Int := (some (u64.wrap ((iand .u64 (ishr .u64 p0 1) 6148914691236517205) + (iand .u64 p0 6148914691236517205)))).bind fun z1 => ((some (u64.wrap ((iand .u64 (ishr .u64 z1 2) 3689348814741910323) + (iand .u64 z1 3689348814741910323)))).bind fun z3 => ((some (iand .u64 (u64.wrap ((ishr .u64 z3 4) + z3)) 1085102592571150095)).bind fun z5 => ((some (u64.wrap ((u64.wrap (z5 + (ishr .u64 z5 8))) + (ishr .u64 (u64.wrap (z5 + (ishr .u64 z5 8))) 16)))).bind fun z7 => ((some (iand .i64 (i64.wrap (u64.wrap (z7 + (ishr .u64 z7 32)))) 127)).bind fun z9 => (some z9)))))
set_option maxRecDepth 100000 in
theorem bits_OnesCount64_con (p0 : Int) (r : Int) (h : bits_OnesCount64 p0 = some r) : Con Try.prog 118 [vu64 p0] [] (vi64 r) [] := by
 refine con_of tt_ok0 0 Try.func118 (by kernel_rfl) rfl (by kernel_rfl) (fun base X _ => AW.post ?_)
 unfold bits_OnesCount64 at h
 refine AW.sg tt_ok0 [] [] [] 1 [] (by kernel_rfl) ?_
 obtain ⟨z1, n2, h⟩ := bnd_some h
 replace n2 := some_inj n2
 refine AW.sg tt_ok0 [(0, vu64 z1)] [] [] 8 [hn, ho (p := 0 ≤ (1 : Int)) (by decide)] (by subst n2; kernel_rfl) ?_
 obtain ⟨z3, n4, h⟩ := bnd_some h
 replace n4 := some_inj n4
 refine AW.sg tt_ok0 [(0, vu64 z3)] [] [] 15 [hn, ho (p := 0 ≤ (2 : Int)) (by decide)] (by subst n4; kernel_rfl) ?_
 obtain ⟨z5, n6, h⟩ := bnd_some h
 replace n6 := some_inj n6
 refine AW.sg tt_ok0 [(0, vu64 z5)] [] [] 21 [hn, ho (p := 0 ≤ (4 : Int)) (by decide)] (by subst n6; kernel_rfl) ?_
 refine AW.sg tt_ok0 [(0, vu64 (u64.wrap (z5 + (ishr .u64 z5 8))))] [] [] 26 [hn, hn, ho (p := 0 ≤ (8 : Int)) (by decide)] (by kernel_rfl) ?_
 obtain ⟨z7, n8, h⟩ := bnd_some h
 replace n8 := some_inj n8
 refine AW.sg tt_ok0 [(0, vu64 z7)] [] [] 31 [hn, hn, ho (p := 0 ≤ (16 : Int)) (by decide)] (by subst n8; kernel_rfl) ?_
 refine AW.sg tt_ok0 [(0, vu64 (u64.wrap (z7 + (ishr .u64 z7 32))))] [] [] 36 [hn, hn, ho (p := 0 ≤ (32 : Int)) (by decide)] (by kernel_rfl) ?_
 obtain ⟨z9, n10, h⟩ := bnd_some h
 replace n10 := some_inj n10
 refine AW.sg tt_ok0 [(2, vi64 z9)] [] [] 40 [] (by subst n10; kernel_rfl) ?_
 refine AW.ret ?_
 obtain rfl := some_inj h
 exact fn0 (.inr rfl) [] 0 (vi64 z9) (by kernel_rfl)
/-! recordlink/bitset.Count -/
noncomputable def bitset_Count_l1 (p0 : S_api_Bits) (x6 : Int) (x7 : Int) : Option ((Int × Int) ⊕ Int) := if (decide (x7 < ((p0.Words.length : Nat) : Int))) = true then (if 0 ≤ x7 then (if x7 < ((p0.Words.length : Nat) : Int) then ((bits_OnesCount64 (p0.Words.getD x7.toNat 0)).bind fun y12 => (some (.inl (i64.wrap (x6 + y12), i64.wrap (x7 + 1))))) else none) else none) else (some (.inr x6))
noncomputable def bitset_Count (p0 : S_api_Bits) : Option Int := (bitset_Valid p0).bind fun y1 => (if (!y1) = true then (some 0) else ((loop (fun v : Int × Int => bitset_Count_l1 p0 v.1 v.2) (0, 0)).bind fun x14 => (some x14)))
set_option maxRecDepth 100000 in
theorem bitset_Count_con (p0 : S_api_Bits) (r : Int) (h : bitset_Count p0 = some r) : Con Try.prog 110 [.agg [ci64 p0.Length, cl 1 Ru64 p0.Words]] [] (vi64 r) [] := by
 refine con_of tt_ok0 0 Try.func110 (by kernel_rfl) rfl (by kernel_rfl) (fun base X _ => AW.post ?_)
 unfold bitset_Count at h
 refine AW.sg tt_ok0 [(1, .c (.ptr 0 2 0 0))] [0] [(0, .box 84 [ci64 p0.Length, cl 1 Ru64 p0.Words])] 2 [] (by kernel_rfl) ?_
 refine AW.seq ?_
 obtain ⟨y1, e2, h⟩ := bnd_some h
 refine AW.sg tt_ok0 [(8, vb (!y1))] [] [] 4 [hn, hk (bitset_Valid_con p0 y1 e2)] (by kernel_rfl) ?_
 refine AW.co h (by kernel_rfl) (fun c3 h => ?_) (fun c3 h => ?_)
 ·
  refine AW.sg tt_ok0 [(2, vi64 0)] [] [] 5 [] (by kernel_rfl) ?_
  refine AW.ret (AW.tr ?_)
  obtain rfl := some_inj h
  exact fn0 (.inr rfl) [] 0 (vi64 0) (by kernel_rfl)
 ·
  refine AW.skip (AW.tn ?_)
  refine AW.sg tt_ok0 [(3, vi64 0)] [] [] 5 [] (by kernel_rfl) ?_
  refine AW.seq ?_
  refine AW.sg tt_ok0 [(12, vi64 0), (11, vi64 ((p0.Words.length : Nat) : Int)), (10, vl 1 Ru64 p0.Words)] [] [] 9 [] (by kernel_rfl) ?_
  refine AW.block ?_
  obtain ⟨x14, l15, h⟩ := bnd_some h
  refine AW.lp l15 (fun v => ⟨[(3, vi64 v.1), (10, vl 1 Ru64 p0.Words), (11, vi64 ((p0.Words.length : Nat) : Int)), (12, vi64 v.2)], [], 0⟩) (fun t : Int => (.exit 0, ⟨[(3, vi64 t)], [], 0⟩)) (conv_re [] (by kernel_rfl)) (fun _ => tv) ?_ ?_
  ·
   clear l15 h
   intro v o h
   obtain ⟨x6, x7⟩ := v
   replace h : bitset_Count_l1 p0 x6 x7 = some o := h
   unfold bitset_Count_l1 at h
   refine AW.sg tt_ok0 [(13, vb (decide (x7 < ((p0.Words.length : Nat) : Int))))] [] [] 1 [] (by kernel_rfl) ?_
   refine AW.seq ?_
   refine AW.co h (by kernel_rfl) (fun c9 h => ?_) (fun c9 h => ?_)
   ·
    refine AW.skip (AW.tn ?_)
    refine AW.seq (AW.block ?_)
    obtain ⟨g10, g11, h⟩ := ifd h
    refine AW.sg tt_ok0 [(5, vu64 (p0.Words.getD x7.toNat 0))] [] [] 4 [hq g10 g11] (by kernel_rfl) ?_
    obtain ⟨y12, e13, h⟩ := bnd_some h
    refine AW.rg tt_ok0 [(3, vi64 (i64.wrap (x6 + y12)))] [] [] 8 [hn, hn, hk (bits_OnesCount64_con (p0.Words.getD x7.toNat 0) y12 e13)] (by kernel_rfl) ?_
    refine AW.inBlock_normal (AW.tn ?_)
    refine AW.rg tt_ok0 [(12, vi64 (i64.wrap (x7 + 1)))] [] [] 10 [] (by kernel_rfl) ?_
    exact lpn h (conv_re [] (by kernel_rfl))
   ·
    refine AW.exit (AW.thenQ_exit ?_)
    exact lpo h rfl (conv_re [] (by kernel_rfl))
  ·
   show (_ : Exit → St → Prop) (.exit 0) _
   refine AW.inBlock_hit (AW.tn ?_)
   refine AW.sg tt_ok0 [(2, vi64 x14)] [] [] 2 [] (by kernel_rfl) ?_
   refine AW.ret ?_
   obtain rfl := some_inj h
   exact fn0 (.inr rfl) [] 0 (vi64 x14) (by kernel_rfl)
/-! recordlink/similarity.Dice -/
noncomputable def similarity_Dice (p0 : S_api_Bits) (p1 : S_api_Bits) : Option Int := bind2 (bitset_And p0 p1) fun y1 y2 => (if (y2 != 0) = true then (some (-1)) else ((bitset_Count p0).bind fun y5 => ((bitset_Count p1).bind fun y7 => (if ((i64.wrap (y5 + y7)) == 0) = true then (some 0) else ((bitset_Count y1).bind fun y10 => (if (i64.wrap (2 * (i64.wrap (y5 + y7)))) ≠ 0 then ((some (i64.wrap ((i64.wrap ((i64.wrap (4000 * y10)) + (i64.wrap (y5 + y7)))).tdiv (i64.wrap (2 * (i64.wrap (y5 + y7))))))).bind fun z13 => (some z13)) else none))))))
set_option maxRecDepth 100000 in
theorem similarity_Dice_con (p0 : S_api_Bits) (p1 : S_api_Bits) (r : Int) (h : similarity_Dice p0 p1 = some r) : Con Try.prog 95 [.agg [ci64 p0.Length, cl 1 Ru64 p0.Words], .agg [ci64 p1.Length, cl 1 Ru64 p1.Words]] [] (vi64 r) [] := by
 refine con_of tt_ok0 0 Try.func95 (by kernel_rfl) rfl (by kernel_rfl) (fun base X _ => AW.post ?_)
 unfold similarity_Dice at h
 refine AW.sg tt_ok0 [(3, .c (.ptr 1 2 0 0)), (2, .c (.ptr 0 2 0 0))] [0, 1] [(1, .box 84 [ci64 p1.Length, cl 1 Ru64 p1.Words]), (0, .box 84 [ci64 p0.Length, cl 1 Ru64 p0.Words])] 3 [] (by kernel_rfl) ?_
 obtain ⟨y1, y2, e3, h⟩ := bind2_some h
 refine AW.sg tt_ok0 [(6, vi64 y2), (5, .c (.ptr 9 2 0 0))] [5, 9] [(9, .box 84 [ci64 y1.Length, .ref 5 1 0 y1.Words.length]), (5, .row 45 false 1 y1.Words.length (Ru64 y1.Words))] 12 [hn, hn, hm [] [] 1 (bitset_And_con p0 p1 (y1, y2) e3) ⟨rowL_flat Vu64 _ _ _, tv⟩] (by kernel_rfl) ?_
 refine AW.seq ?_
 refine AW.sg tt_ok0 [(15, vb (y2 != 0))] [] [] 14 [] (by kernel_rfl) ?_
 refine AW.co h (by kernel_rfl) (fun c4 h => ?_) (fun c4 h => ?_)
 ·
  refine AW.sg tt_ok0 [(4, vi64 (-1))] [] [] 15 [] (by kernel_rfl) ?_
  refine AW.ret (AW.tr ?_)
  obtain rfl := some_inj h
  exact fn0 (.inr rfl) [] 0 (vi64 (-1)) (by kernel_rfl)
 ·
  refine AW.skip (AW.tn ?_)
  obtain ⟨y5, e6, h⟩ := bnd_some h
  obtain ⟨y7, e8, h⟩ := bnd_some h
  refine AW.sd tt_ok0 mo0 [] [(7, vi64 (i64.wrap (y5 + y7)))] [] 18 [hn, hk (bitset_Count_con p0 y5 e6), hn, hk (bitset_Count_con p1 y7 e8)] (by kernel_rfl) ?_
  refine AW.seq ?_
  refine AW.sg tt_ok0 [(22, vb ((i64.wrap (y5 + y7)) == 0))] [] [] 20 [] (by kernel_rfl) ?_
  refine AW.co h (by kernel_rfl) (fun c9 h => ?_) (fun c9 h => ?_)
  ·
   refine AW.sg tt_ok0 [(4, vi64 0)] [] [] 21 [] (by kernel_rfl) ?_
   refine AW.ret (AW.tr ?_)
   obtain rfl := some_inj h
   exact fn0 (.inr rfl) [] 0 (vi64 0) (by kernel_rfl)
  ·
   refine AW.skip (AW.tn ?_)
   obtain ⟨y10, e11, h⟩ := bnd_some h
   obtain ⟨g12, h⟩ := ifc h
   obtain ⟨z13, n14, h⟩ := bnd_some h
   replace n14 := some_inj n14
   refine AW.sg tt_ok0 [(4, vi64 z13)] [] [] 28 [hn, hg [] [] true 0 (q := ((True) ∧ (0 + y1.Words.length ≤ y1.Words.length) ∧ (True)) ∧ (True)) ⟨⟨tv, le0, tv⟩, tv⟩ (a0 := [.agg [ci64 y1.Length, cl 1 Ru64 y1.Words]]) (bitset_Count_con y1 y10 e11) ⟨ArgLe.refl _, tv⟩ (fun _ => tv), hn, hn, hn, hn, hn, ho g12] (by subst n14; kernel_rfl) ?_
   refine AW.ret ?_
   obtain rfl := some_inj h
   exact fn0 (.inr rfl) [] 0 (vi64 z13) (by kernel_rfl)
/-! recordlink/similarity.Compare -/
noncomputable def similarity_Compare_l2 (p0 : S_api_Encoded) (p1 : S_api_Encoded) (x5 : List Int) (x6 : Int) : Option (((List Int) × Int) ⊕ (List Int)) := if (decide (x6 < ((p0.Fields.length : Nat) : Int))) = true then (if 0 ≤ x6 then (if x6 < ((p0.Fields.length : Nat) : Int) then (if x6 < ((p1.Fields.length : Nat) : Int) then ((similarity_Dice (p0.Fields.getD x6.toNat dS_api_Bits) (p1.Fields.getD x6.toNat dS_api_Bits)).bind fun y12 => (if x5.length + ([y12] : List Int).length ≤ 1099511627776 then (some (.inl ((x5 ++ ([y12] : List Int)), i64.wrap (x6 + 1)))) else none)) else none) else none) else none) else (some (.inr x5))
noncomputable def similarity_Compare_k1 (p0 : S_api_Encoded) (p1 : S_api_Encoded) (x1 : Bool) : Option ((List Int) × Int) := if x1 = true then (some (([] : List Int), 8)) else ((loop (fun v : (List Int) × Int => similarity_Compare_l2 p0 p1 v.1 v.2) (([] : List Int), 0)).bind fun x15 => (some (x15, 0)))
noncomputable def similarity_Compare (p0 : S_api_Encoded) (p1 : S_api_Encoded) : Option ((List Int) × Int) := if (((p0.Fields.length : Nat) : Int) != ((p1.Fields.length : Nat) : Int)) = true then (similarity_Compare_k1 p0 p1 true) else ((similarity_fields ((p0.Fields.length : Nat) : Int)).bind fun y18 => (similarity_Compare_k1 p0 p1 (!y18)))
set_option maxRecDepth 100000 in
theorem similarity_Compare_con (p0 : S_api_Encoded) (p1 : S_api_Encoded) (r : (List Int) × Int) (h : similarity_Compare p0 p1 = some r) : Con Try.prog 66 [.agg [ci64 p0.ID, ci64 p0.Version, cl 2 RS_api_Bits p0.Fields], .agg [ci64 p1.ID, ci64 p1.Version, cl 2 RS_api_Bits p1.Fields]] [] (.tup [.c (.ref 0 1 0 r.1.length), vi64 r.2]) [(0, .row 3 false 1 r.1.length (Ri64 r.1))] := by
 refine con_of tt_ok0 0 Try.func66 (by kernel_rfl) rfl (by kernel_rfl) (fun base X _ => AW.post ?_)
 unfold similarity_Compare at h
 refine AW.sg tt_ok0 [(3, .c (.ptr 1 3 0 0)), (2, .c (.ptr 0 3 0 0))] [0, 1] [(1, .box 40 [ci64 p1.ID, ci64 p1.Version, cl 2 RS_api_Bits p1.Fields]), (0, .box 40 [ci64 p0.ID, ci64 p0.Version, cl 2 RS_api_Bits p0.Fields])] 4 [] (by kernel_rfl) ?_
 refine AW.seq (AW.seq ?_)
 refine AW.join (ι := Bool) (fun v => ⟨[(2, .c (.ptr 0 3 0 0)), (3, .c (.ptr 1 3 0 0)), (22, vb v)], [(0, .box 40 [ci64 p0.ID, ci64 p0.Version, cl 2 RS_api_Bits p0.Fields]), (1, .box 40 [ci64 p1.ID, ci64 p1.Version, cl 2 RS_api_Bits p1.Fields])], 2⟩) (fun v : Bool => similarity_Compare_k1 p0 p1 v = some r) (fun x1 h => ?_) ?_
 ·
  unfold similarity_Compare_k1 at h
  refine AW.tn ?_
  refine AW.co h (by kernel_rfl) (fun c2 h => ?_) (fun c2 h => ?_)
  ·
   refine AW.sg tt_ok0 [(5, vi64 8), (4, .c (.t (.v (.slice none 0 0))))] [] [] 4 [] (by kernel_rfl) ?_
   refine AW.ret (AW.tr ?_)
   obtain rfl := some_inj h
   exact fnR (.inr rfl) [(0, 4)] 1 (.tup [.c (.ref 4 1 0 (([] : List Int).length)), vi64 8]) (conv_adopt (t := 4) (ty := 3) (sz := 1) (n := ([] : List Int).length) (f := Ri64 ([] : List Int)) (by kernel_rfl) rfl) (by kernel_rfl)
  ·
   refine AW.skip (AW.tn ?_)
   refine AW.sg tt_ok0 [(6, .c (.t (.v (.slice none 0 0))))] [] [] 3 [] (by kernel_rfl) ?_
   refine AW.seq ?_
   refine AW.sg tt_ok0 [(26, vi64 0), (25, vi64 ((p0.Fields.length : Nat) : Int)), (24, vl 2 RS_api_Bits p0.Fields)] [] [] 7 [] (by kernel_rfl) ?_
   refine AW.block ?_
   obtain ⟨x15, l16, h⟩ := bnd_some h
   refine AW.lp l16 (fun v => ⟨[(3, .c (.ptr 0 3 0 0)), (6, .c (.ref 1 1 0 v.1.length)), (24, vl 2 RS_api_Bits p0.Fields), (25, vi64 ((p0.Fields.length : Nat) : Int)), (26, vi64 v.2)], [(0, .box 40 [ci64 p1.ID, ci64 p1.Version, cl 2 RS_api_Bits p1.Fields]), (1, .row 3 false 1 v.1.length (Ri64 v.1))], 2⟩) (fun t : List Int => (.exit 0, ⟨[(6, .c (.ref 0 1 0 t.length))], [(0, .row 3 false 1 t.length (Ri64 t))], 1⟩)) (Conv.trans (conv_adopt (t := 6) (ty := 3) (sz := 1) (n := ([] : List Int).length) (f := Ri64 ([] : List Int)) (by kernel_rfl) rfl) (conv_re [(0, 1), (1, 7)] (by kernel_rfl))) (fun _ => tv) ?_ ?_
   ·
    clear l16 h
    intro v o h
    obtain ⟨x5, x6⟩ := v
    replace h : similarity_Compare_l2 p0 p1 x5 x6 = some o := h
    unfold similarity_Compare_l2 at h
    refine AW.sg tt_ok0 [(27, vb (decide (x6 < ((p0.Fields.length : Nat) : Int))))] [] [] 3 [] (by kernel_rfl) ?_
    refine AW.seq ?_
    refine AW.co h (by kernel_rfl) (fun c8 h => ?_) (fun c8 h => ?_)
    ·
     refine AW.skip (AW.tn ?_)
     refine AW.seq (AW.block ?_)
     obtain ⟨g9, g10, h⟩ := ifd h
     refine AW.sg tt_ok0 [(7, vi64 x6), (8, .c (.ptr 6 2 0 0))] [6] [(6, .box 84 [ci64 ((p0.Fields.getD x6.toNat dS_api_Bits).Length), cl 1 Ru64 ((p0.Fields.getD x6.toNat dS_api_Bits).Words)])] 9 [hn, hq g9 g10] (by kernel_rfl) ?_
     obtain ⟨g11, h⟩ := ifc h
     obtain ⟨y12, e13, h⟩ := bnd_some h
     obtain ⟨g14, h⟩ := ifc h
     refine AW.rd tt_ok0 mo0 [[], [], [], [], [], [], [], [], [16], [17, 1]] [(6, .c (.ref 17 1 0 ((x5 ++ ([y12] : List Int)).length)))] [(17, .row 3 false 1 (x5 ++ ([y12] : List Int)).length (Ri64 (x5 ++ ([y12] : List Int))))] 19 [hn, hn, hn, hn, hn, hq g9 g11, hn, hk (similarity_Dice_con (p0.Fields.getD x6.toNat dS_api_Bits) (p1.Fields.getD x6.toNat dS_api_Bits) y12 e13), hlit 0 Ei64 1 (fun _ => rfl) ([y12] : List Int), happ 0 Ei64 1 8 x5 ([y12] : List Int) g14 (by decide)] (by kernel_rfl) ?_
     refine AW.inBlock_normal (AW.tn ?_)
     refine AW.rg tt_ok0 [(26, vi64 (i64.wrap (x6 + 1)))] [] [] 21 [] (by kernel_rfl) ?_
     exact lpn h (conv_re [(0, 0), (1, 17)] (by kernel_rfl))
    ·
     refine AW.exit (AW.thenQ_exit ?_)
     exact lpo h rfl (conv_re [(0, 1)] (by kernel_rfl))
   ·
    show (_ : Exit → St → Prop) (.exit 0) _
    refine AW.inBlock_hit (AW.tn ?_)
    refine AW.sg tt_ok0 [(5, vi64 0), (4, .c (.ref 0 1 0 x15.length))] [] [] 4 [] (by kernel_rfl) ?_
    refine AW.ret ?_
    obtain rfl := some_inj h
    exact fn0 (.inr rfl) [(0, 0)] 1 (.tup [.c (.ref 0 1 0 x15.length), vi64 0]) (by kernel_rfl)
 ·
  rcases ifs h with ⟨c17, h⟩ | ⟨c17, h⟩
  ·
   refine AW.rg tt_ok0 [(22, vb true)] [] [] 18 [hn, hn, hn, hn, hn, hn, ht c17] (by kernel_rfl) ?_
   exact jl true h (conv_re [(0, 0), (1, 1)] (by kernel_rfl))
  ·
   obtain ⟨y18, e19, h⟩ := bnd_some h
   refine AW.rg tt_ok0 [(22, vb (!y18))] [] [] 17 [hn, hn, hn, hn, hn, hn, hf c17, hn, hn, hn, hn, hk (similarity_fields_con ((p0.Fields.length : Nat) : Int) y18 e19)] (by kernel_rfl) ?_
   exact jl (!y18) h (conv_re [(0, 0), (1, 1)] (by kernel_rfl))
/-! recordlink/similarity.powers -/
noncomputable def similarity_powers : Option (List Int) := some ([1, 3, 9, 27, 81, 243] : List Int)
set_option maxRecDepth 100000 in
theorem similarity_powers_con (r : List Int) (h : similarity_powers = some r) : Con Try.prog 111 [] [] (.agg [ci64 (r.getD 0 0), ci64 (r.getD 1 0), ci64 (r.getD 2 0), ci64 (r.getD 3 0), ci64 (r.getD 4 0), ci64 (r.getD 5 0)]) [] := by
 refine con_of tt_ok0 0 Try.func111 (by kernel_rfl) rfl (by kernel_rfl) (fun base X _ => AW.post ?_)
 unfold similarity_powers at h
 refine AW.sg tt_ok0 [(0, .c (.ptr 0 1 0 0))] [0] [(0, .row 129 false 1 6 (Ri64 ([0, 0, 0, 0, 0, 0] : List Int)))] 1 [hr 6 (Ri64 ([0, 0, 0, 0, 0, 0] : List Int)) (p := 6 = 6 ∧ ∀ i, i < 6 → ∀ j, j < 1 → TLe (rowOf [.v (.int .i64 0), .v (.int .i64 0), .v (.int .i64 0), .v (.int .i64 0), .v (.int .i64 0), .v (.int .i64 0)] 1 i j) (Ri64 ([0, 0, 0, 0, 0, 0] : List Int) i j)) (⟨rfl, fun i hi j hj => match i, hi, j, hj with | 0, _, 0, _ => TLe.refl _ | 1, _, 0, _ => TLe.refl _ | 2, _, 0, _ => TLe.refl _ | 3, _, 0, _ => TLe.refl _ | 4, _, 0, _ => TLe.refl _ | 5, _, 0, _ => TLe.refl _ | _ + 6, h, _, _ => absurd h (by omega) | _, _, _ + 1, h => absurd h (by omega)⟩)] (by kernel_rfl) ?_
 refine AW.sg tt_ok0 [] [0] [(0, .row 129 false 1 6 (Ri64 ([1, 3, 9, 27, 81, 243] : List Int)))] 3 [hn, hr 6 (Ri64 ([1, 3, 9, 27, 81, 243] : List Int)) (p := 6 = 6 ∧ ∀ i, i < 6 → ∀ j, j < 1 → TLe (rowOf [.v (.int .i64 1), .v (.int .i64 3), .v (.int .i64 9), .v (.int .i64 27), .v (.int .i64 81), .v (.int .i64 243)] 1 i j) (Ri64 ([1, 3, 9, 27, 81, 243] : List Int) i j)) (⟨rfl, fun i hi j hj => match i, hi, j, hj with | 0, _, 0, _ => TLe.refl _ | 1, _, 0, _ => TLe.refl _ | 2, _, 0, _ => TLe.refl _ | 3, _, 0, _ => TLe.refl _ | 4, _, 0, _ => TLe.refl _ | 5, _, 0, _ => TLe.refl _ | _ + 6, h, _, _ => absurd h (by omega) | _, _, _ + 1, h => absurd h (by omega)⟩)] (by kernel_rfl) ?_
 refine AW.ret ?_
 obtain rfl := some_inj h
 exact ⟨_, Conv.refl _ _, .inr rfl, OutOk.mk [] 0 (out0 := .agg [ci64 (([1, 3, 9, 27, 81, 243] : List Int).getD 0 0), ci64 (([1, 3, 9, 27, 81, 243] : List Int).getD 1 0), ci64 (([1, 3, 9, 27, 81, 243] : List Int).getD 2 0), ci64 (([1, 3, 9, 27, 81, 243] : List Int).getD 3 0), ci64 (([1, 3, 9, 27, 81, 243] : List Int).getD 4 0), ci64 (([1, 3, 9, 27, 81, 243] : List Int).getD 5 0)]) (ps := [0 + 5 < 6]) (by kernel_rfl) ⟨(by decide), tv⟩ (by kernel_rfl) (by kernel_rfl)⟩
/-! recordlink/similarity.Number -/
noncomputable def similarity_Number_k2 (p0 : List Int) (x6 : Int) (x7 : Int) (x12 : Bool) : Option ((Int × Int) ⊕ (Int ⊕ Unit)) := if x12 = true then (some (.inr (.inr ()))) else ((similarity_powers).bind fun y14 => (if x7 < ((6 : Nat) : Int) then ((some (i64.wrap (x6 + (i64.wrap ((p0.getD x7.toNat 0) * (y14.getD x7.toNat 0)))))).bind fun z17 => (some (.inl (z17, i64.wrap (x7 + 1))))) else none))
noncomputable def similarity_Number_l1 (p0 : List Int) (x6 : Int) (x7 : Int) : Option ((Int × Int) ⊕ (Int ⊕ Unit)) := if (decide (x7 < (p0.length : Int))) = true then (if 0 ≤ x7 then (if x7 < (p0.length : Int) then (if (decide ((p0.getD x7.toNat 0) < 0)) = true then (similarity_Number_k2 p0 x6 x7 true) else (similarity_Number_k2 p0 x6 x7 (decide ((p0.getD x7.toNat 0) ≥ 3)))) else none) else none) else (some (.inr (.inl x6)))
noncomputable def similarity_Number_a3 (x20 : Int) : Option (Int × Int) := some (x20, 0)
noncomputable def similarity_Number_a4 : Option (Int × Int) := some (0, 2)
noncomputable def similarity_Number (p0 : List Int) : Option (Int × Int) := (similarity_fields (p0.length : Int)).bind fun y1 => (if (!y1) = true then (some (0, 8)) else (bindE (loop (fun v : Int × Int => similarity_Number_l1 p0 v.1 v.2) (0, 0)) (fun t => similarity_Number_a3 t) (fun t => similarity_Number_a4)))
set_option maxRecDepth 100000 in
theorem similarity_Number_con (p0 : List Int) (r : Int × Int) (h : similarity_Number p0 = some r) : Con Try.prog 96 [vl 1 Ri64 p0] [] (.tup [vi64 r.1, vi64 r.2]) [] := by
 refine con_of tt_ok0 0 Try.func96 (by kernel_rfl) rfl (by kernel_rfl) (fun base X _ => AW.post ?_)
 unfold similarity_Number at h
 refine AW.sg tt_ok0 [] [] [] 2 [] (by kernel_rfl) ?_
 refine AW.seq ?_
 obtain ⟨y1, e2, h⟩ := bnd_some h
 refine AW.sg tt_ok0 [(10, vb (!y1))] [] [] 5 [hn, hn, hk (similarity_fields_con (p0.length : Int) y1 e2)] (by kernel_rfl) ?_
 refine AW.co h (by kernel_rfl) (fun c3 h => ?_) (fun c3 h => ?_)
 ·
  refine AW.sg tt_ok0 [(3, vi64 8), (2, vi64 0)] [] [] 7 [] (by kernel_rfl) ?_
  refine AW.ret (AW.tr ?_)
  obtain rfl := some_inj h
  exact fn0 (.inr rfl) [] 0 (.tup [vi64 0, vi64 8]) (by kernel_rfl)
 ·
  refine AW.skip (AW.tn ?_)
  refine AW.sg tt_ok0 [(4, vi64 0)] [] [] 6 [] (by kernel_rfl) ?_
  refine AW.seq ?_
  refine AW.sg tt_ok0 [(13, vi64 0), (12, vi64 (p0.length : Int)), (11, vl 1 Ri64 p0)] [] [] 9 [] (by kernel_rfl) ?_
  refine AW.block ?_
  refine AW.lpE h (fun v => ⟨[(4, vi64 v.1), (11, vl 1 Ri64 p0), (12, vi64 (p0.length : Int)), (13, vi64 v.2)], [], 0⟩) (fun t => (.exit 0, ⟨[(4, vi64 t)], [], 0⟩)) (fun t => (.ret, ⟨[(2, vi64 0), (3, vi64 2)], [], 0⟩)) (conv_re [] (by kernel_rfl)) (fun _ => tv) (fun _ => tv) ?_ (fun x20 h => ?_) (fun t h => ?_)
  ·
   clear h
   intro v o h
   obtain ⟨x6, x7⟩ := v
   replace h : similarity_Number_l1 p0 x6 x7 = some o := h
   unfold similarity_Number_l1 at h
   refine AW.sg tt_ok0 [(14, vb (decide (x7 < (p0.length : Int))))] [] [] 1 [] (by kernel_rfl) ?_
   refine AW.seq ?_
   refine AW.co h (by kernel_rfl) (fun c9 h => ?_) (fun c9 h => ?_)
   ·
    refine AW.skip (AW.tn ?_)
    refine AW.seq (AW.block ?_)
    obtain ⟨g10, g11, h⟩ := ifd h
    refine AW.sg tt_ok0 [(6, vi64 (p0.getD x7.toNat 0)), (5, vi64 x7)] [] [] 6 [hn, hq g10 g11] (by kernel_rfl) ?_
    refine AW.seq (AW.seq ?_)
    refine AW.join (ι := Bool) (fun v => ⟨[(4, vi64 x6), (5, vi64 x7), (6, vi64 (p0.getD x7.toNat 0)), (11, vl 1 Ri64 p0), (12, vi64 (p0.length : Int)), (13, vi64 x7), (23, vb v)], [], 0⟩) (fun v : Bool => similarity_Number_k2 p0 x6 x7 v = some o) (fun x12 h => ?_) ?_
    ·
     unfold similarity_Number_k2 at h
     refine AW.tn ?_
     refine AW.co h (by kernel_rfl) (fun c13 h => ?_) (fun c13 h => ?_)
     ·
      refine AW.sg tt_ok0 [(3, vi64 2), (2, vi64 0)] [] [] 2 [] (by kernel_rfl) ?_
      refine AW.ret (AW.tr ?_)
      refine AW.inBlock_ret (AW.tr ?_)
      exact lpo h rfl (conv_re [] (by kernel_rfl))
     ·
      refine AW.skip (AW.tn ?_)
      obtain ⟨y14, e15, h⟩ := bnd_some h
      obtain ⟨g16, h⟩ := ifc h
      obtain ⟨z17, n18, h⟩ := bnd_some h
      replace n18 := some_inj n18
      refine AW.rg tt_ok0 [(4, vi64 z17)] [] [] 7 [hn, hn, hk (similarity_powers_con y14 e15), hn, hr 6 (Ri64 y14) (p := ((0 ≤ x7) ∧ (x7 < ((6 : Nat) : Int))) ∧ (6 = 6 ∧ ∀ i, i < 6 → ∀ j, j < 1 → rowOf [.v (.int .i64 (y14.getD 0 0)), .v (.int .i64 (y14.getD 1 0)), .v (.int .i64 (y14.getD 2 0)), .v (.int .i64 (y14.getD 3 0)), .v (.int .i64 (y14.getD 4 0)), .v (.int .i64 (y14.getD 5 0))] 1 i j = Ri64 y14 i j)) (⟨⟨g10, g16⟩, ⟨rfl, fun i hi j hj => match i, hi, j, hj with | 0, _, 0, _ => rfl | 1, _, 0, _ => rfl | 2, _, 0, _ => rfl | 3, _, 0, _ => rfl | 4, _, 0, _ => rfl | 5, _, 0, _ => rfl | _ + 6, h, _, _ => absurd h (by omega) | _, _, _ + 1, h => absurd h (by omega)⟩⟩)] (by subst n18; kernel_rfl) ?_
      refine AW.inBlock_normal (AW.tn ?_)
      refine AW.rg tt_ok0 [(13, vi64 (i64.wrap (x7 + 1)))] [] [] 9 [] (by kernel_rfl) ?_
      exact lpn h (conv_re [] (by kernel_rfl))
    ·
     rcases ifs h with ⟨c19, h⟩ | ⟨c19, h⟩
     ·
      refine AW.rg tt_ok0 [(23, vb true)] [] [] 12 [hn, ht c19] (by kernel_rfl) ?_
      exact jl true h (conv_re [] (by kernel_rfl))
     ·
      refine AW.rg tt_ok0 [(23, vb (decide ((p0.getD x7.toNat 0) ≥ 3)))] [] [] 12 [hn, hf c19] (by kernel_rfl) ?_
      exact jl (decide ((p0.getD x7.toNat 0) ≥ 3)) h (conv_re [] (by kernel_rfl))
   ·
    refine AW.exit (AW.thenQ_exit ?_)
    exact lpo h rfl (conv_re [] (by kernel_rfl))
  ·
   unfold similarity_Number_a3 at h
   show (_ : Exit → St → Prop) (.exit 0) _
   refine AW.inBlock_hit (AW.tn ?_)
   refine AW.sg tt_ok0 [(3, vi64 0), (2, vi64 x20)] [] [] 3 [] (by kernel_rfl) ?_
   refine AW.ret ?_
   obtain rfl := some_inj h
   exact fn0 (.inr rfl) [] 0 (.tup [vi64 x20, vi64 0]) (by kernel_rfl)
  ·
   replace h : similarity_Number_a4 = some r := h
   unfold similarity_Number_a4 at h
   show (_ : Exit → St → Prop) (.ret) _
   refine AW.inBlock_ret (AW.tr ?_)
   obtain rfl := some_inj h
   exact fn0 (.inr rfl) [] 0 (.tup [vi64 0, vi64 2]) (by kernel_rfl)
/-! recordlink/similarity.Pattern -/
noncomputable def similarity_Pattern_k3 (x8 : Int) (x11 : List Int) : Option (((List Int) × Int) ⊕ ((List Int) ⊕ Unit)) := some (.inl (x11, i64.wrap (x8 + 1)))
noncomputable def similarity_Pattern_k4 (p0 : List Int) (p1 : List Int) (x7 : List Int) (x8 : Int) (x15 : Bool) : Option (((List Int) × Int) ⊕ ((List Int) ⊕ Unit)) := if x15 = true then (some (.inr (.inr ()))) else (if (decide ((p1.getD x8.toNat 0) < 0)) = true then (if x8 < (x7.length : Int) then (similarity_Pattern_k3 x8 (x7.set (0 + x8.toNat) 0)) else none) else (if (decide ((p1.getD x8.toNat 0) < (p0.getD x8.toNat 0))) = true then (if x8 < (x7.length : Int) then (similarity_Pattern_k3 x8 (x7.set (0 + x8.toNat) 1)) else none) else (if x8 < (x7.length : Int) then (similarity_Pattern_k3 x8 (x7.set (0 + x8.toNat) 2)) else none)))
noncomputable def similarity_Pattern_l2 (p0 : List Int) (p1 : List Int) (x7 : List Int) (x8 : Int) : Option (((List Int) × Int) ⊕ ((List Int) ⊕ Unit)) := if (decide (x8 < (p0.length : Int))) = true then (if 0 ≤ x8 then (if x8 < (p0.length : Int) then (if x8 < (p1.length : Int) then (if (decide ((p0.getD x8.toNat 0) < 0)) = true then (similarity_Pattern_k4 p0 p1 x7 x8 true) else (if (decide ((p0.getD x8.toNat 0) > 1000)) = true then (similarity_Pattern_k4 p0 p1 x7 x8 true) else (if (decide ((p1.getD x8.toNat 0) < (-1))) = true then (similarity_Pattern_k4 p0 p1 x7 x8 true) else (similarity_Pattern_k4 p0 p1 x7 x8 (decide ((p1.getD x8.toNat 0) > 1000)))))) else none) else none) else none) else (some (.inr (.inl x7)))
noncomputable def similarity_Pattern_a5 (x25 : List Int) : Option (Int × Int) := bind2 (similarity_Number x25) fun y26 y27 => (some (y26, y27))
noncomputable def similarity_Pattern_a6 : Option (Int × Int) := some (0, 2)
noncomputable def similarity_Pattern_k1 (p0 : List Int) (p1 : List Int) (x1 : Bool) : Option (Int × Int) := if x1 = true then (some (0, 8)) else (if 0 ≤ (p0.length : Int) then (if (p0.length : Int) ≤ 1099511627776 then (bindE (loop (fun v : (List Int) × Int => similarity_Pattern_l2 p0 p1 v.1 v.2) ((List.replicate ((p0.length : Int).toNat) (0 : Int)), 0)) (fun t => similarity_Pattern_a5 t) (fun t => similarity_Pattern_a6)) else none) else none)
noncomputable def similarity_Pattern (p0 : List Int) (p1 : List Int) : Option (Int × Int) := if ((p0.length : Int) != (p1.length : Int)) = true then (similarity_Pattern_k1 p0 p1 true) else ((similarity_fields (p0.length : Int)).bind fun y31 => (similarity_Pattern_k1 p0 p1 (!y31)))
set_option maxRecDepth 100000 in
theorem similarity_Pattern_con (p0 : List Int) (p1 : List Int) (r : Int × Int) (h : similarity_Pattern p0 p1 = some r) : Con Try.prog 67 [vl 1 Ri64 p0, vl 1 Ri64 p1] [] (.tup [vi64 r.1, vi64 r.2]) [] := by
 refine con_of tt_ok0 0 Try.func67 (by kernel_rfl) rfl (by kernel_rfl) (fun base X _ => AW.post ?_)
 unfold similarity_Pattern at h
 refine AW.sg tt_ok0 [] [] [] 2 [] (by kernel_rfl) ?_
 refine AW.seq (AW.seq ?_)
 refine AW.join (ι := Bool) (fun v => ⟨[(0, vl 1 Ri64 p0), (1, vl 1 Ri64 p1), (20, vb v)], [], 0⟩) (fun v : Bool => similarity_Pattern_k1 p0 p1 v = some r) (fun x1 h => ?_) ?_
 ·
  unfold similarity_Pattern_k1 at h
  refine AW.tn ?_
  refine AW.co h (by kernel_rfl) (fun c2 h => ?_) (fun c2 h => ?_)
  ·
   refine AW.sg tt_ok0 [(5, vi64 8), (4, vi64 0)] [] [] 2 [] (by kernel_rfl) ?_
   refine AW.ret (AW.tr ?_)
   obtain rfl := some_inj h
   exact fn0 (.inr rfl) [] 0 (.tup [vi64 0, vi64 8]) (by kernel_rfl)
  ·
   refine AW.skip (AW.tn ?_)
   obtain ⟨g3, g4, h⟩ := ifd h
   refine AW.sg tt_ok0 [(6, .c (.ref 2 1 0 ((List.replicate ((p0.length : Int).toNat) (0 : Int)).length)))] [2] [(2, .row 3 false 1 (List.replicate ((p0.length : Int).toNat) (0 : Int)).length (Ri64 (List.replicate ((p0.length : Int).toNat) (0 : Int))))] 4 [hn, hn, hmk 0 Ei64 1 8 [.int .i64 0] rfl rfl (p0.length : Int) (p0.length : Int) g3 (Int.le_refl _) g4 (by decide)] (by kernel_rfl) ?_
   refine AW.seq ?_
   refine AW.sg tt_ok0 [(26, vi64 0), (25, vi64 (p0.length : Int)), (24, vl 1 Ri64 p0)] [] [] 7 [] (by kernel_rfl) ?_
   refine AW.block ?_
   refine AW.lpE h (fun v => ⟨[(1, vl 1 Ri64 p1), (6, .c (.ref 0 1 0 v.1.length)), (24, vl 1 Ri64 p0), (25, vi64 (p0.length : Int)), (26, vi64 v.2)], [(0, .row 3 false 1 v.1.length (Ri64 v.1))], 1⟩) (fun t => (.exit 0, ⟨[(6, .c (.ref 0 1 0 t.length))], [(0, .row 3 false 1 t.length (Ri64 t))], 1⟩)) (fun t => (.ret, ⟨[(4, vi64 0), (5, vi64 2)], [], 0⟩)) (conv_re [(0, 2)] (by kernel_rfl)) (fun _ => tv) (fun _ => tv) ?_ (fun x25 h => ?_) (fun t h => ?_)
   ·
    clear h
    intro v o h
    obtain ⟨x7, x8⟩ := v
    replace h : similarity_Pattern_l2 p0 p1 x7 x8 = some o := h
    unfold similarity_Pattern_l2 at h
    refine AW.sg tt_ok0 [(27, vb (decide (x8 < (p0.length : Int))))] [] [] 2 [] (by kernel_rfl) ?_
    refine AW.seq ?_
    refine AW.co h (by kernel_rfl) (fun c10 h => ?_) (fun c10 h => ?_)
    ·
     refine AW.skip (AW.tn (AW.seq ?_))
     refine AW.join (ι := List Int) (fun v => ⟨[(1, vl 1 Ri64 p1), (6, .c (.ref 0 1 0 v.length)), (24, vl 1 Ri64 p0), (25, vi64 (p0.length : Int)), (26, vi64 x8)], [(0, .row 3 false 1 v.length (Ri64 v))], 1⟩) (fun v : List Int => similarity_Pattern_k3 x8 v = some o) (fun x11 h => ?_) ?_
     ·
      unfold similarity_Pattern_k3 at h
      refine AW.tn ?_
      refine AW.rg tt_ok0 [(26, vi64 (i64.wrap (x8 + 1)))] [] [] 3 [] (by kernel_rfl) ?_
      exact lpn h (conv_re [(0, 0)] (by kernel_rfl))
     ·
      refine AW.block ?_
      obtain ⟨g12, g13, h⟩ := ifd h
      refine AW.sg tt_ok0 [(8, vi64 (p0.getD x8.toNat 0)), (7, vi64 x8)] [] [] 7 [hn, hq g12 g13] (by kernel_rfl) ?_
      obtain ⟨g14, h⟩ := ifc h
      refine AW.sg tt_ok0 [(9, vi64 (p1.getD x8.toNat 0))] [] [] 12 [hn, hn, hq g12 g14] (by kernel_rfl) ?_
      refine AW.seq (AW.seq ?_)
      refine AW.join (ι := Bool) (fun v => ⟨[(1, vl 1 Ri64 p1), (6, .c (.ref 0 1 0 x7.length)), (7, vi64 x8), (8, vi64 (p0.getD x8.toNat 0)), (9, vi64 (p1.getD x8.toNat 0)), (24, vl 1 Ri64 p0), (25, vi64 (p0.length : Int)), (26, vi64 x8), (48, vb v)], [(0, .row 3 false 1 x7.length (Ri64 x7))], 1⟩) (fun v : Bool => similarity_Pattern_k4 p0 p1 x7 x8 v = some o) (fun x15 h => ?_) ?_
      ·
       unfold similarity_Pattern_k4 at h
       refine AW.tn ?_
       refine AW.co h (by kernel_rfl) (fun c16 h => ?_) (fun c16 h => ?_)
       ·
        refine AW.sg tt_ok0 [(5, vi64 2), (4, vi64 0)] [] [] 3 [] (by kernel_rfl) ?_
        refine AW.ret (AW.tr (AW.inBlock_ret ?_))
        refine joinQ_ret ?_
        refine AW.tr ?_
        exact lpo h rfl (conv_re [] (by kernel_rfl))
       ·
        refine AW.skip (AW.tn (AW.block ?_))
        refine AW.sg tt_ok0 [(52, vb (decide ((p1.getD x8.toNat 0) < 0)))] [] [] 4 [] (by kernel_rfl) ?_
        refine AW.co h (by kernel_rfl) (fun c17 h => ?_) (fun c17 h => ?_)
        ·
         obtain ⟨g18, h⟩ := ifc h
         refine AW.rg tt_ok0 [] [0] [(0, .row 3 false 1 x7.length (Ri64 (x7.set (0 + x8.toNat) 0)))] 8 [hn, hn, hq g12 g18, hset 0 Ei64 x7 (0 + x8.toNat) 0 (n := x7.length) (by have h1 : 0 ≤ x8 := g12; have h2 : x8 < (x7.length : Int) := g18; omega) rfl] (by kernel_rfl) ?_
         refine AW.inBlock_normal (AW.inBlock_normal ?_)
         exact jl (x7.set (0 + x8.toNat) 0) h (Conv.trans (conv_tms [(6, .c (.ref 0 1 0 ((x7.set (0 + x8.toNat) 0).length)))] ⟨⟨.c (.ref 0 1 0 x7.length), by kernel_rfl, ALe.len (by simp only [List.length_set])⟩, tv⟩) (Conv.trans (conv_rowN 0 3 false 1 x7.length ((x7.set (0 + x8.toNat) 0).length) (Ri64 (x7.set (0 + x8.toNat) 0)) (by kernel_rfl) (by simp only [List.length_set])) (conv_re [(0, 0)] (by kernel_rfl))))
        ·
         refine AW.sg tt_ok0 [(58, vb (decide ((p1.getD x8.toNat 0) < (p0.getD x8.toNat 0))))] [] [] 8 [] (by kernel_rfl) ?_
         refine AW.co h (by kernel_rfl) (fun c19 h => ?_) (fun c19 h => ?_)
         ·
          obtain ⟨g20, h⟩ := ifc h
          refine AW.rg tt_ok0 [] [0] [(0, .row 3 false 1 x7.length (Ri64 (x7.set (0 + x8.toNat) 1)))] 12 [hn, hn, hq g12 g20, hset 0 Ei64 x7 (0 + x8.toNat) 1 (n := x7.length) (by have h1 : 0 ≤ x8 := g12; have h2 : x8 < (x7.length : Int) := g20; omega) rfl] (by kernel_rfl) ?_
          refine AW.inBlock_normal (AW.inBlock_normal ?_)
          exact jl (x7.set (0 + x8.toNat) 1) h (Conv.trans (conv_tms [(6, .c (.ref 0 1 0 ((x7.set (0 + x8.toNat) 1).length)))] ⟨⟨.c (.ref 0 1 0 x7.length), by kernel_rfl, ALe.len (by simp only [List.length_set])⟩, tv⟩) (Conv.trans (conv_rowN 0 3 false 1 x7.length ((x7.set (0 + x8.toNat) 1).length) (Ri64 (x7.set (0 + x8.toNat) 1)) (by kernel_rfl) (by simp only [List.length_set])) (conv_re [(0, 0)] (by kernel_rfl))))
         ·
          obtain ⟨g21, h⟩ := ifc h
          refine AW.rg tt_ok0 [] [0] [(0, .row 3 false 1 x7.length (Ri64 (x7.set (0 + x8.toNat) 2)))] 12 [hn, hn, hq g12 g21, hset 0 Ei64 x7 (0 + x8.toNat) 2 (n := x7.length) (by have h1 : 0 ≤ x8 := g12; have h2 : x8 < (x7.length : Int) := g21; omega) rfl] (by kernel_rfl) ?_
          refine AW.inBlock_normal (AW.inBlock_normal ?_)
          exact jl (x7.set (0 + x8.toNat) 2) h (Conv.trans (conv_tms [(6, .c (.ref 0 1 0 ((x7.set (0 + x8.toNat) 2).length)))] ⟨⟨.c (.ref 0 1 0 x7.length), by kernel_rfl, ALe.len (by simp only [List.length_set])⟩, tv⟩) (Conv.trans (conv_rowN 0 3 false 1 x7.length ((x7.set (0 + x8.toNat) 2).length) (Ri64 (x7.set (0 + x8.toNat) 2)) (by kernel_rfl) (by simp only [List.length_set])) (conv_re [(0, 0)] (by kernel_rfl))))
      ·
       rcases ifs h with ⟨c22, h⟩ | ⟨c22, h⟩
       ·
        refine AW.rg tt_ok0 [(48, vb true)] [] [] 26 [hn, ht c22] (by kernel_rfl) ?_
        exact jl true h (conv_re [(0, 0)] (by kernel_rfl))
       ·
        rcases ifs h with ⟨c23, h⟩ | ⟨c23, h⟩
        ·
         refine AW.rg tt_ok0 [(48, vb true)] [] [] 26 [hn, hf c22, hn, hn, ht c23] (by kernel_rfl) ?_
         exact jl true h (conv_re [(0, 0)] (by kernel_rfl))
        ·
         rcases ifs h with ⟨c24, h⟩ | ⟨c24, h⟩
         ·
          refine AW.rg tt_ok0 [(48, vb true)] [] [] 26 [hn, hf c22, hn, hn, hf c23, hn, hn, hn, ht c24] (by kernel_rfl) ?_
          exact jl true h (conv_re [(0, 0)] (by kernel_rfl))
         ·
          refine AW.rg tt_ok0 [(48, vb (decide ((p1.getD x8.toNat 0) > 1000)))] [] [] 26 [hn, hf c22, hn, hn, hf c23, hn, hn, hn, hf c24] (by kernel_rfl) ?_
          exact jl (decide ((p1.getD x8.toNat 0) > 1000)) h (conv_re [(0, 0)] (by kernel_rfl))
    ·
     refine AW.exit (AW.thenQ_exit ?_)
     exact lpo h rfl (conv_re [(0, 0)] (by kernel_rfl))
   ·
    unfold similarity_Pattern_a5 at h
    show (_ : Exit → St → Prop) (.exit 0) _
    refine AW.inBlock_hit (AW.tn ?_)
    obtain ⟨y26, y27, e28, h⟩ := bind2_some h
    refine AW.sg tt_ok0 [(5, vi64 y27), (4, vi64 y26)] [] [] 6 [hn, hg [] [] true 0 (q := (0 + x25.length ≤ x25.length) ∧ (True)) ⟨le0, tv⟩ (a0 := [vl 1 Ri64 x25]) (similarity_Number_con x25 (y26, y27) e28) ⟨ArgLe.refl _, tv⟩ (fun _ => tv)] (by kernel_rfl) ?_
    refine AW.ret ?_
    obtain rfl := some_inj h
    exact fn0 (.inr rfl) [] 0 (.tup [vi64 y26, vi64 y27]) (by kernel_rfl)
   ·
    replace h : similarity_Pattern_a6 = some r := h
    unfold similarity_Pattern_a6 at h
    show (_ : Exit → St → Prop) (.ret) _
    refine AW.inBlock_ret (AW.tr ?_)
    obtain rfl := some_inj h
    exact fn0 (.inr rfl) [] 0 (.tup [vi64 0, vi64 2]) (by kernel_rfl)
 ·
  rcases ifs h with ⟨c30, h⟩ | ⟨c30, h⟩
  ·
   refine AW.rg tt_ok0 [(20, vb true)] [] [] 13 [hn, hn, hn, hn, ht c30] (by kernel_rfl) ?_
   exact jl true h (conv_re [] (by kernel_rfl))
  ·
   obtain ⟨y31, e32, h⟩ := bnd_some h
   refine AW.rg tt_ok0 [(20, vb (!y31))] [] [] 12 [hn, hn, hn, hn, hf c30, hn, hn, hn, hk (similarity_fields_con (p0.length : Int) y31 e32)] (by kernel_rfl) ?_
   exact jl (!y31) h (conv_re [] (by kernel_rfl))
/-! recordlink/pattern.Tally -/
noncomputable def pattern_Tally_k2 (p3 : List Int) (x11 : List Int) (x12 : Int) (y18 : S_api_Encoded) (y21 : S_api_Encoded) (x24 : Bool) : Option (((List Int) × Int) ⊕ ((List Int) ⊕ Int)) := if x24 = true then (some (.inr (.inr 13))) else (bind2 (similarity_Compare y18 y21) fun y26 y27 => (if (y27 != 0) = true then (some (.inr (.inr y27))) else (bind2 (similarity_Pattern p3 y26) fun y30 y31 => (if (y31 != 0) = true then (some (.inr (.inr y31))) else (if 0 ≤ y30 then (if y30 < (x11.length : Int) then (some (.inl ((x11.set (0 + y30.toNat) (i64.wrap ((x11.getD (0 + y30.toNat) 0) + 1))), i64.wrap (x12 + 1)))) else none) else none)))))
noncomputable def pattern_Tally_l1 (p0 : List S_api_Couple) (p1 : List S_api_Encoded) (p2 : List S_api_Encoded) (p3 : List Int) (x11 : List Int) (x12 : Int) : Option (((List Int) × Int) ⊕ ((List Int) ⊕ Int)) := if (decide (x12 < (p0.length : Int))) = true then (if 0 ≤ x12 then (if x12 < (p0.length : Int) then (bind2 (pattern_find p1 ((p0.getD x12.toNat dS_api_Couple).A)) fun y18 y19 => (bind2 (pattern_find p2 ((p0.getD x12.toNat dS_api_Couple).B)) fun y21 y22 => (if (!y19) = true then (pattern_Tally_k2 p3 x11 x12 y18 y21 true) else (pattern_Tally_k2 p3 x11 x12 y18 y21 (!y22))))) else none) else none) else (some (.inr (.inl x11)))
noncomputable def pattern_Tally_a3 (x37 : List Int) : Option ((List Int) × Int) := some (x37, 0)
noncomputable def pattern_Tally_a4 (x38 : Int) : Option ((List Int) × Int) := some (([] : List Int), x38)
noncomputable def pattern_Tally (p0 : List S_api_Couple) (p1 : List S_api_Encoded) (p2 : List S_api_Encoded) (p3 : List Int) : Option ((List Int) × Int) := (pattern_check p0 p1 p2 p3).bind fun y1 => (if (y1 != 0) = true then (some (([] : List Int), y1)) else (bind2 (pattern_Size (p3.length : Int)) fun y4 y5 => (if 0 ≤ y4 then (if y4 ≤ 1099511627776 then (bindE (loop (fun v : (List Int) × Int => pattern_Tally_l1 p0 p1 p2 p3 v.1 v.2) ((List.replicate y4.toNat (0 : Int)), 0)) (fun t => pattern_Tally_a3 t) (fun t => pattern_Tally_a4 t)) else none) else none)))
set_option maxRecDepth 100000 in
theorem pattern_Tally_con (p0 : List S_api_Couple) (p1 : List S_api_Encoded) (p2 : List S_api_Encoded) (p3 : List Int) (r : (List Int) × Int) (h : pattern_Tally p0 p1 p2 p3 = some r) : Con Try.prog 37 [vl 2 RS_api_Couple p0, vl 3 RS_api_Encoded p1, vl 3 RS_api_Encoded p2, vl 1 Ri64 p3] [] (.tup [.c (.ref 0 1 0 r.1.length), vi64 r.2]) [(0, .row 3 false 1 r.1.length (Ri64 r.1))] := by
 refine con_of tt_ok0 0 Try.func37 (by kernel_rfl) rfl (by kernel_rfl) (fun base X _ => AW.post ?_)
 unfold pattern_Tally at h
 refine AW.sg tt_ok0 [] [] [] 2 [] (by kernel_rfl) ?_
 refine AW.seq ?_
 obtain ⟨y1, e2, h⟩ := bnd_some h
 refine AW.sg tt_ok0 [(10, vi64 y1)] [] [] 7 [hn, hn, hn, hn, hk (pattern_check_con p0 p1 p2 p3 y1 e2)] (by kernel_rfl) ?_
 refine AW.sg tt_ok0 [(29, vb (y1 != 0))] [] [] 9 [] (by kernel_rfl) ?_
 refine AW.co h (by kernel_rfl) (fun c3 h => ?_) (fun c3 h => ?_)
 ·
  refine AW.sg tt_ok0 [(9, vi64 y1), (8, .c (.t (.v (.slice none 0 0))))] [] [] 12 [] (by kernel_rfl) ?_
  refine AW.ret (AW.tr ?_)
  obtain rfl := some_inj h
  exact fnR (.inr rfl) [(0, 12)] 1 (.tup [.c (.ref 12 1 0 (([] : List Int).length)), vi64 y1]) (conv_adopt (t := 8) (ty := 3) (sz := 1) (n := ([] : List Int).length) (f := Ri64 ([] : List Int)) (by kernel_rfl) rfl) (by kernel_rfl)
 ·
  refine AW.skip (AW.tn ?_)
  obtain ⟨y4, y5, e6, h⟩ := bind2_some h
  refine AW.sg tt_ok0 [(11, vi64 y4)] [] [] 16 [hn, hn, hk (pattern_Size_con (p3.length : Int) (y4, y5) e6)] (by kernel_rfl) ?_
  obtain ⟨g7, g8, h⟩ := ifd h
  refine AW.sg tt_ok0 [(13, .c (.ref 17 1 0 ((List.replicate y4.toNat (0 : Int)).length)))] [17] [(17, .row 3 false 1 (List.replicate y4.toNat (0 : Int)).length (Ri64 (List.replicate y4.toNat (0 : Int))))] 19 [hn, hmk 0 Ei64 1 8 [.int .i64 0] rfl rfl y4 y4 g7 (Int.le_refl _) g8 (by decide)] (by kernel_rfl) ?_
  refine AW.seq ?_
  refine AW.sg tt_ok0 [(41, vi64 0), (40, vi64 (p0.length : Int)), (39, vl 2 RS_api_Couple p0)] [] [] 22 [] (by kernel_rfl) ?_
  refine AW.block ?_
  refine AW.lpE h (fun v => ⟨[(1, vl 3 RS_api_Encoded p1), (2, vl 3 RS_api_Encoded p2), (3, vl 1 Ri64 p3), (13, .c (.ref 0 1 0 v.1.length)), (39, vl 2 RS_api_Couple p0), (40, vi64 (p0.length : Int)), (41, vi64 v.2)], [(0, .row 3 false 1 v.1.length (Ri64 v.1))], 1⟩) (fun t => (.exit 0, ⟨[(13, .c (.ref 0 1 0 t.length))], [(0, .row 3 false 1 t.length (Ri64 t))], 1⟩)) (fun t => (.ret, ⟨[(8, .c (.t (.v (.slice none 0 0)))), (9, vi64 t)], [], 0⟩)) (conv_re [(0, 17)] (by kernel_rfl)) (fun _ => tv) (fun _ => tv) ?_ (fun x37 h => ?_) (fun x38 h => ?_)
  ·
   clear h
   intro v o h
   obtain ⟨x11, x12⟩ := v
   replace h : pattern_Tally_l1 p0 p1 p2 p3 x11 x12 = some o := h
   unfold pattern_Tally_l1 at h
   refine AW.sg tt_ok0 [(42, vb (decide (x12 < (p0.length : Int))))] [] [] 2 [] (by kernel_rfl) ?_
   refine AW.seq ?_
   refine AW.co h (by kernel_rfl) (fun c15 h => ?_) (fun c15 h => ?_)
   ·
    refine AW.skip (AW.tn ?_)
    refine AW.seq (AW.block ?_)
    obtain ⟨g16, g17, h⟩ := ifd h
    refine AW.sg tt_ok0 [(15, .c (.ptr 4 2 0 0))] [4] [(4, .box 72 [ci64 ((p0.getD x12.toNat dS_api_Couple).A), ci64 ((p0.getD x12.toNat dS_api_Couple).B)])] 6 [hq g16 g17] (by kernel_rfl) ?_
    obtain ⟨y18, y19, e20, h⟩ := bind2_some h
    refine AW.sg tt_ok0 [(17, vb y19), (16, .c (.ptr 12 3 0 0))] [12] [(12, .box 40 [ci64 y18.ID, ci64 y18.Version, cl 2 RS_api_Bits y18.Fields])] 15 [hn, hn, hn, hk (pattern_find_con p1 ((p0.getD x12.toNat dS_api_Couple).A) (y18, y19) e20)] (by kernel_rfl) ?_
    obtain ⟨y21, y22, e23, h⟩ := bind2_some h
    refine AW.sg tt_ok0 [(19, vb y22), (18, .c (.ptr 21 3 0 0))] [21] [(21, .box 40 [ci64 y21.ID, ci64 y21.Version, cl 2 RS_api_Bits y21.Fields])] 24 [hn, hn, hn, hk (pattern_find_con p2 ((p0.getD x12.toNat dS_api_Couple).B) (y21, y22) e23)] (by kernel_rfl) ?_
    refine AW.seq (AW.seq ?_)
    refine AW.join (ι := Bool) (fun v => ⟨[(1, vl 3 RS_api_Encoded p1), (2, vl 3 RS_api_Encoded p2), (3, vl 1 Ri64 p3), (13, .c (.ref 0 1 0 x11.length)), (16, .c (.ptr 1 3 0 0)), (18, .c (.ptr 2 3 0 0)), (39, vl 2 RS_api_Couple p0), (40, vi64 (p0.length : Int)), (41, vi64 x12), (64, vb v)], [(0, .row 3 false 1 x11.length (Ri64 x11)), (1, .box 40 [ci64 y18.ID, ci64 y18.Version, cl 2 RS_api_Bits y18.Fields]), (2, .box 40 [ci64 y21.ID, ci64 y21.Version, cl 2 RS_api_Bits y21.Fields])], 3⟩) (fun v : Bool => pattern_Tally_k2 p3 x11 x12 y18 y21 v = some o) (fun x24 h => ?_) ?_
    ·
     unfold pattern_Tally_k2 at h
     refine AW.tn ?_
     refine AW.co h (by kernel_rfl) (fun c25 h => ?_) (fun c25 h => ?_)
     ·
      refine AW.sg tt_ok0 [(9, vi64 13), (8, .c (.t (.v (.slice none 0 0))))] [] [] 5 [] (by kernel_rfl) ?_
      refine AW.ret (AW.tr ?_)
      refine AW.inBlock_ret (AW.tr ?_)
      exact lpo h rfl (conv_re [] (by kernel_rfl))
     ·
      refine AW.skip (AW.tn ?_)
      obtain ⟨y26, y27, e28, h⟩ := bind2_some h
      refine AW.sg tt_ok0 [(21, vi64 y27), (20, .c (.ref 5 1 0 y26.length))] [5] [(5, .row 3 false 1 y26.length (Ri64 y26))] 11 [hn, hn, hm [] [] 1 (similarity_Compare_con y18 y21 (y26, y27) e28) ⟨rowL_flat Vi64 _ _ _, tv⟩] (by kernel_rfl) ?_
      refine AW.seq ?_
      refine AW.sg tt_ok0 [(72, vb (y27 != 0))] [] [] 13 [] (by kernel_rfl) ?_
      refine AW.co h (by kernel_rfl) (fun c29 h => ?_) (fun c29 h => ?_)
      ·
       refine AW.sg tt_ok0 [(9, vi64 y27), (8, .c (.t (.v (.slice none 0 0))))] [] [] 16 [] (by kernel_rfl) ?_
       refine AW.ret (AW.tr ?_)
       refine AW.inBlock_ret (AW.tr ?_)
       exact lpo h rfl (conv_re [] (by kernel_rfl))
      ·
       refine AW.skip (AW.tn ?_)
       obtain ⟨y30, y31, e32, h⟩ := bind2_some h
       refine AW.sg tt_ok0 [(21, vi64 y31), (22, vi64 y30)] [] [] 20 [hn, hn, hg [] [] true 0 (q := (True) ∧ (0 + y26.length ≤ y26.length) ∧ (True)) ⟨tv, le0, tv⟩ (a0 := [vl 1 Ri64 p3, vl 1 Ri64 y26]) (similarity_Pattern_con p3 y26 (y30, y31) e32) ⟨ArgLe.refl _, ArgLe.refl _, tv⟩ (fun _ => tv)] (by kernel_rfl) ?_
       refine AW.seq ?_
       refine AW.sg tt_ok0 [(81, vb (y31 != 0))] [] [] 22 [] (by kernel_rfl) ?_
       refine AW.co h (by kernel_rfl) (fun c33 h => ?_) (fun c33 h => ?_)
       ·
        refine AW.sg tt_ok0 [(9, vi64 y31), (8, .c (.t (.v (.slice none 0 0))))] [] [] 25 [] (by kernel_rfl) ?_
        refine AW.ret (AW.tr ?_)
        refine AW.inBlock_ret (AW.tr ?_)
        exact lpo h rfl (conv_re [] (by kernel_rfl))
       ·
        refine AW.skip (AW.tn ?_)
        obtain ⟨g34, g35, h⟩ := ifd h
        refine AW.rg tt_ok0 [] [0] [(0, .row 3 false 1 x11.length (Ri64 (x11.set (0 + y30.toNat) (i64.wrap ((x11.getD (0 + y30.toNat) 0) + 1)))))] 29 [hn, hn, hq g34 g35, ho (p := (0 + y30.toNat) < x11.length) (by have h1 : 0 ≤ y30 := g34; have h2 : y30 < (x11.length : Int) := g35; omega), hn, hq g34 g35, hset 0 Ei64 x11 (0 + y30.toNat) (i64.wrap ((x11.getD (0 + y30.toNat) 0) + 1)) (n := x11.length) (by have h1 : 0 ≤ y30 := g34; have h2 : y30 < (x11.length : Int) := g35; omega) rfl] (by kernel_rfl) ?_
        refine AW.inBlock_normal (AW.tn ?_)
        refine AW.rg tt_ok0 [(41, vi64 (i64.wrap (x12 + 1)))] [] [] 31 [] (by kernel_rfl) ?_
        exact lpn h (Conv.trans (conv_tms [(13, .c (.ref 0 1 0 ((x11.set (0 + y30.toNat) (i64.wrap ((x11.getD (0 + y30.toNat) 0) + 1))).length)))] ⟨⟨.c (.ref 0 1 0 x11.length), by kernel_rfl, ALe.len (by simp only [List.length_set])⟩, tv⟩) (Conv.trans (conv_rowN 0 3 false 1 x11.length ((x11.set (0 + y30.toNat) (i64.wrap ((x11.getD (0 + y30.toNat) 0) + 1))).length) (Ri64 (x11.set (0 + y30.toNat) (i64.wrap ((x11.getD (0 + y30.toNat) 0) + 1)))) (by kernel_rfl) (by simp only [List.length_set])) (conv_re [(0, 0)] (by kernel_rfl))))
    ·
     rcases ifs h with ⟨c36, h⟩ | ⟨c36, h⟩
     ·
      refine AW.rg tt_ok0 [(64, vb true)] [] [] 30 [hn, ht c36] (by kernel_rfl) ?_
      exact jl true h (conv_re [(0, 0), (1, 12), (2, 21)] (by kernel_rfl))
     ·
      refine AW.rg tt_ok0 [(64, vb (!y22))] [] [] 30 [hn, hf c36] (by kernel_rfl) ?_
      exact jl (!y22) h (conv_re [(0, 0), (1, 12), (2, 21)] (by kernel_rfl))
   ·
    refine AW.exit (AW.thenQ_exit ?_)
    exact lpo h rfl (conv_re [(0, 0)] (by kernel_rfl))
  ·
   unfold pattern_Tally_a3 at h
   show (_ : Exit → St → Prop) (.exit 0) _
   refine AW.inBlock_hit (AW.tn ?_)
   refine AW.sg tt_ok0 [(9, vi64 0), (8, .c (.ref 0 1 0 x37.length))] [] [] 4 [] (by kernel_rfl) ?_
   refine AW.ret ?_
   obtain rfl := some_inj h
   exact fn0 (.inr rfl) [(0, 0)] 1 (.tup [.c (.ref 0 1 0 x37.length), vi64 0]) (by kernel_rfl)
  ·
   unfold pattern_Tally_a4 at h
   show (_ : Exit → St → Prop) (.ret) _
   refine AW.inBlock_ret (AW.tr ?_)
   obtain rfl := some_inj h
   exact fnR (.inr rfl) [(0, 0)] 1 (.tup [.c (.ref 0 1 0 (([] : List Int).length)), vi64 x38]) (conv_adopt (t := 8) (ty := 3) (sz := 1) (n := ([] : List Int).length) (f := Ri64 ([] : List Int)) (by kernel_rfl) rfl) (by kernel_rfl)
/-! recordlink/pattern.count -/
noncomputable def pattern_count_k1 (x1 : Bool) : Option Bool := some x1
noncomputable def pattern_count (p0 : Int) : Option Bool := if (decide (p0 ≥ 0)) = true then (pattern_count_k1 (decide (p0 ≤ 4096))) else (pattern_count_k1 false)
set_option maxRecDepth 100000 in
theorem pattern_count_con (p0 : Int) (r : Bool) (h : pattern_count p0 = some r) : Con Try.prog 62 [vi64 p0] [] (vb r) [] := by
 refine con_of tt_ok0 0 Try.func62 (by kernel_rfl) rfl (by kernel_rfl) (fun base X _ => AW.post ?_)
 unfold pattern_count at h
 refine AW.sg tt_ok0 [] [] [] 1 [] (by kernel_rfl) ?_
 refine AW.seq ?_
 refine AW.join (ι := Bool) (fun v => ⟨[(2, vb v)], [], 0⟩) (fun v : Bool => pattern_count_k1 v = some r) (fun x1 h => ?_) ?_
 ·
  unfold pattern_count_k1 at h
  refine AW.tn (AW.ret ?_)
  obtain rfl := some_inj h
  exact fn0 (.inr rfl) [] 0 (vb x1) (by kernel_rfl)
 ·
  rcases ifs h with ⟨c2, h⟩ | ⟨c2, h⟩
  ·
   refine AW.rg tt_ok0 [(2, vb (decide (p0 ≤ 4096)))] [] [] 8 [hn, ht c2] (by kernel_rfl) ?_
   exact jl (decide (p0 ≤ 4096)) h (conv_re [] (by kernel_rfl))
  ·
   refine AW.rg tt_ok0 [(2, vb false)] [] [] 8 [hn, hf c2] (by kernel_rfl) ?_
   exact jl false h (conv_re [] (by kernel_rfl))
/-! recordlink/pattern.sum -/
noncomputable def pattern_sum_l1 (p0 : List Int) (x3 : Int) (x4 : Int) : Option ((Int × Int) ⊕ (Int ⊕ Unit)) := if (decide (x4 < (p0.length : Int))) = true then (if 0 ≤ x4 then (if x4 < (p0.length : Int) then ((pattern_count (p0.getD x4.toNat 0)).bind fun y9 => (if (!y9) = true then (some (.inr (.inr ()))) else (some (.inl (i64.wrap (x3 + (p0.getD x4.toNat 0)), i64.wrap (x4 + 1)))))) else none) else none) else (some (.inr (.inl x3)))
noncomputable def pattern_sum_a2 (x12 : Int) : Option (Int × Bool) := some (x12, true)
noncomputable def pattern_sum_a3 : Option (Int × Bool) := some (0, false)
noncomputable def pattern_sum (p0 : List Int) : Option (Int × Bool) := bindE (loop (fun v : Int × Int => pattern_sum_l1 p0 v.1 v.2) (0, 0)) (fun t => pattern_sum_a2 t) (fun t => pattern_sum_a3)
set_option maxRecDepth 100000 in
theorem pattern_sum_con (p0 : List Int) (r : Int × Bool) (h : pattern_sum p0 = some r) : Con Try.prog 61 [vl 1 Ri64 p0] [] (.tup [vi64 r.1, vb r.2]) [] := by
 refine con_of tt_ok0 0 Try.func61 (by kernel_rfl) rfl (by kernel_rfl) (fun base X _ => AW.post ?_)
 unfold pattern_sum at h
 refine AW.sg tt_ok0 [] [] [] 2 [] (by kernel_rfl) ?_
 refine AW.sg tt_ok0 [(4, vi64 0)] [] [] 3 [] (by kernel_rfl) ?_
 refine AW.seq ?_
 refine AW.sg tt_ok0 [(9, vi64 0), (8, vi64 (p0.length : Int)), (7, vl 1 Ri64 p0)] [] [] 6 [] (by kernel_rfl) ?_
 refine AW.block ?_
 refine AW.lpE h (fun v => ⟨[(4, vi64 v.1), (7, vl 1 Ri64 p0), (8, vi64 (p0.length : Int)), (9, vi64 v.2)], [], 0⟩) (fun t => (.exit 0, ⟨[(4, vi64 t)], [], 0⟩)) (fun t => (.ret, ⟨[(2, vi64 0), (3, vb false)], [], 0⟩)) (conv_re [] (by kernel_rfl)) (fun _ => tv) (fun _ => tv) ?_ (fun x12 h => ?_) (fun t h => ?_)
 ·
  clear h
  intro v o h
  obtain ⟨x3, x4⟩ := v
  replace h : pattern_sum_l1 p0 x3 x4 = some o := h
  unfold pattern_sum_l1 at h
  refine AW.sg tt_ok0 [(10, vb (decide (x4 < (p0.length : Int))))] [] [] 1 [] (by kernel_rfl) ?_
  refine AW.seq ?_
  refine AW.co h (by kernel_rfl) (fun c6 h => ?_) (fun c6 h => ?_)
  ·
   refine AW.skip (AW.tn ?_)
   refine AW.seq (AW.block ?_)
   obtain ⟨g7, g8, h⟩ := ifd h
   refine AW.sg tt_ok0 [(6, vi64 (p0.getD x4.toNat 0))] [] [] 4 [hq g7 g8] (by kernel_rfl) ?_
   refine AW.seq ?_
   obtain ⟨y9, e10, h⟩ := bnd_some h
   refine AW.sg tt_ok0 [(15, vb (!y9))] [] [] 6 [hn, hk (pattern_count_con (p0.getD x4.toNat 0) y9 e10)] (by kernel_rfl) ?_
   refine AW.co h (by kernel_rfl) (fun c11 h => ?_) (fun c11 h => ?_)
   ·
    refine AW.sg tt_ok0 [(3, vb false), (2, vi64 0)] [] [] 8 [] (by kernel_rfl) ?_
    refine AW.ret (AW.tr ?_)
    refine AW.inBlock_ret (AW.tr ?_)
    exact lpo h rfl (conv_re [] (by kernel_rfl))
   ·
    refine AW.skip (AW.tn ?_)
    refine AW.rg tt_ok0 [(4, vi64 (i64.wrap (x3 + (p0.getD x4.toNat 0))))] [] [] 10 [] (by kernel_rfl) ?_
    refine AW.inBlock_normal (AW.tn ?_)
    refine AW.rg tt_ok0 [(9, vi64 (i64.wrap (x4 + 1)))] [] [] 12 [] (by kernel_rfl) ?_
    exact lpn h (conv_re [] (by kernel_rfl))
  ·
   refine AW.exit (AW.thenQ_exit ?_)
   exact lpo h rfl (conv_re [] (by kernel_rfl))
 ·
  unfold pattern_sum_a2 at h
  show (_ : Exit → St → Prop) (.exit 0) _
  refine AW.inBlock_hit (AW.tn ?_)
  refine AW.sg tt_ok0 [(3, vb true), (2, vi64 x12)] [] [] 3 [] (by kernel_rfl) ?_
  refine AW.ret ?_
  obtain rfl := some_inj h
  exact fn0 (.inr rfl) [] 0 (.tup [vi64 x12, vb true]) (by kernel_rfl)
 ·
  replace h : pattern_sum_a3 = some r := h
  unfold pattern_sum_a3 at h
  show (_ : Exit → St → Prop) (.ret) _
  refine AW.inBlock_ret (AW.tr ?_)
  obtain rfl := some_inj h
  exact fn0 (.inr rfl) [] 0 (.tup [vi64 0, vb false]) (by kernel_rfl)
/-! recordlink/pattern.Check -/
noncomputable def pattern_Check_k1 (x9 : Bool) : Option Int := if x9 = true then (some 19) else (some 0)
noncomputable def pattern_Check (p0 : List Int) (p1 : Int) : Option Int := bind2 (pattern_Size p1) fun y1 y2 => (if (y2 != 0) = true then (some y2) else (if ((p0.length : Int) != y1) = true then (some 8) else (bind2 (pattern_sum p0) fun y6 y7 => (if (!y7) = true then (pattern_Check_k1 true) else ((pattern_count y6).bind fun y12 => (pattern_Check_k1 (!y12)))))))
set_option maxRecDepth 100000 in
theorem pattern_Check_con (p0 : List Int) (p1 : Int) (r : Int) (h : pattern_Check p0 p1 = some r) : Con Try.prog 34 [vl 1 Ri64 p0, vi64 p1] [] (vi64 r) [] := by
 refine con_of tt_ok0 0 Try.func34 (by kernel_rfl) rfl (by kernel_rfl) (fun base X _ => AW.post ?_)
 unfold pattern_Check at h
 refine AW.sg tt_ok0 [] [] [] 1 [] (by kernel_rfl) ?_
 obtain ⟨y1, y2, e3, h⟩ := bind2_some h
 refine AW.sg tt_ok0 [(6, vi64 y2), (5, vi64 y1)] [] [] 7 [hn, hk (pattern_Size_con p1 (y1, y2) e3)] (by kernel_rfl) ?_
 refine AW.seq ?_
 refine AW.sg tt_ok0 [(15, vb (y2 != 0))] [] [] 9 [] (by kernel_rfl) ?_
 refine AW.co h (by kernel_rfl) (fun c4 h => ?_) (fun c4 h => ?_)
 ·
  refine AW.sg tt_ok0 [(4, vi64 y2)] [] [] 11 [] (by kernel_rfl) ?_
  refine AW.ret (AW.tr ?_)
  obtain rfl := some_inj h
  exact fn0 (.inr rfl) [] 0 (vi64 y2) (by kernel_rfl)
 ·
  refine AW.skip (AW.tn (AW.seq ?_))
  refine AW.sg tt_ok0 [(20, vb ((p0.length : Int) != y1))] [] [] 13 [] (by kernel_rfl) ?_
  refine AW.co h (by kernel_rfl) (fun c5 h => ?_) (fun c5 h => ?_)
  ·
   refine AW.sg tt_ok0 [(4, vi64 8)] [] [] 14 [] (by kernel_rfl) ?_
   refine AW.ret (AW.tr ?_)
   obtain rfl := some_inj h
   exact fn0 (.inr rfl) [] 0 (vi64 8) (by kernel_rfl)
  ·
   refine AW.skip (AW.tn (AW.seq ?_))
   obtain ⟨y6, y7, e8, h⟩ := bind2_some h
   refine AW.sg tt_ok0 [(8, vb y7), (7, vi64 y6)] [] [] 19 [hn, hk (pattern_sum_con p0 (y6, y7) e8)] (by kernel_rfl) ?_
   refine AW.seq ?_
   refine AW.join (ι := Bool) (fun v => ⟨[(32, vb v)], [], 0⟩) (fun v : Bool => pattern_Check_k1 v = some r) (fun x9 h => ?_) ?_
   ·
    unfold pattern_Check_k1 at h
    refine AW.tn ?_
    refine AW.co h (by kernel_rfl) (fun c10 h => ?_) (fun c10 h => ?_)
    ·
     refine AW.sg tt_ok0 [(4, vi64 19)] [] [] 1 [] (by kernel_rfl) ?_
     refine AW.ret (AW.tr ?_)
     obtain rfl := some_inj h
     exact fn0 (.inr rfl) [] 0 (vi64 19) (by kernel_rfl)
    ·
     refine AW.skip (AW.tn ?_)
     refine AW.sg tt_ok0 [(4, vi64 0)] [] [] 1 [] (by kernel_rfl) ?_
     refine AW.ret ?_
     obtain rfl := some_inj h
     exact fn0 (.inr rfl) [] 0 (vi64 0) (by kernel_rfl)
   ·
    rcases ifs h with ⟨c11, h⟩ | ⟨c11, h⟩
    ·
     refine AW.rg tt_ok0 [(32, vb true)] [] [] 26 [hn, ht c11] (by kernel_rfl) ?_
     exact jl true h (conv_re [] (by kernel_rfl))
    ·
     obtain ⟨y12, e13, h⟩ := bnd_some h
     refine AW.rg tt_ok0 [(32, vb (!y12))] [] [] 25 [hn, hf c11, hn, hn, hk (pattern_count_con y6 y12 e13)] (by kernel_rfl) ?_
     exact jl (!y12) h (conv_re [] (by kernel_rfl))
/-! recordlink/pattern.Marginal -/
noncomputable def pattern_Marginal_l3 (p0 : List Int) (x9 : Int) (x12 : Int) (x13 : List Int) : Option ((Int × (List Int)) ⊕ (List Int)) := if (decide (x12 < (p0.length : Int))) = true then (if 0 ≤ x12 then (if x12 < (p0.length : Int) then (if x9 ≠ 0 then (if 0 ≤ ((i64.wrap (x12.tdiv x9)).tmod 3) then (if ((i64.wrap (x12.tdiv x9)).tmod 3) < ((3 : Nat) : Int) then (if 3 = x13.length then (some (.inl (i64.wrap (x12 + 1), (x13.set (0 + ((i64.wrap (x12.tdiv x9)).tmod 3).toNat) (i64.wrap ((x13.getD (0 + ((i64.wrap (x12.tdiv x9)).tmod 3).toNat) 0) + (p0.getD x12.toNat 0))))))) else none) else none) else none) else none) else none) else none) else (some (.inr x13))
noncomputable def pattern_Marginal_k2 (p0 : List Int) (x9 : Int) : Option ((List Int) × Int) := (loop (fun v : Int × (List Int) => pattern_Marginal_l3 p0 x9 v.1 v.2) (0, ([0, 0, 0] : List Int))).bind fun x22 => (some (x22, 0))
noncomputable def pattern_Marginal_k1 (p0 : List Int) (p2 : Int) (x4 : Bool) : Option ((List Int) × Int) := if x4 = true then (some (([0, 0, 0] : List Int), 2)) else (bind2 (pattern_Size (if (1 : Int) > p2 then 1 else p2)) fun y6 y7 => (if (p2 == 0) = true then (pattern_Marginal_k2 p0 1) else (pattern_Marginal_k2 p0 y6)))
noncomputable def pattern_Marginal (p0 : List Int) (p1 : Int) (p2 : Int) : Option ((List Int) × Int) := (pattern_Check p0 p1).bind fun y1 => (if (y1 != 0) = true then (some (([0, 0, 0] : List Int), y1)) else (if (decide (p2 < 0)) = true then (pattern_Marginal_k1 p0 p2 true) else (pattern_Marginal_k1 p0 p2 (decide (p2 ≥ p1)))))
set_option maxRecDepth 100000 in
theorem pattern_Marginal_con (p0 : List Int) (p1 : Int) (p2 : Int) (r : (List Int) × Int) (h : pattern_Marginal p0 p1 p2 = some r) : Con Try.prog 32 [vl 1 Ri64 p0, vi64 p1, vi64 p2] [] (.tup [.agg [ci64 (r.1.getD 0 0), ci64 (r.1.getD 1 0), ci64 (r.1.getD 2 0)], vi64 r.2]) [] := by
 refine con_of tt_ok0 0 Try.func32 (by kernel_rfl) rfl (by kernel_rfl) (fun base X _ => AW.post ?_)
 unfold pattern_Marginal at h
 refine AW.sg tt_ok0 [(6, .c (.ptr 0 1 0 0))] [0] [(0, .row 60 false 1 3 (Ri64 ([0, 0, 0] : List Int)))] 2 [hr 3 (Ri64 ([0, 0, 0] : List Int)) (p := 3 = 3 ∧ ∀ i, i < 3 → ∀ j, j < 1 → TLe (rowOf [.v (.int .i64 0), .v (.int .i64 0), .v (.int .i64 0)] 1 i j) (Ri64 ([0, 0, 0] : List Int) i j)) (⟨rfl, fun i hi j hj => match i, hi, j, hj with | 0, _, 0, _ => TLe.refl _ | 1, _, 0, _ => TLe.refl _ | 2, _, 0, _ => TLe.refl _ | _ + 3, h, _, _ => absurd h (by omega) | _, _, _ + 1, h => absurd h (by omega)⟩)] (by kernel_rfl) ?_
 refine AW.sg tt_ok0 [(8, .c (.ptr 2 1 0 0))] [2] [(2, .row 60 false 1 3 (Ri64 ([0, 0, 0] : List Int)))] 3 [hr 3 (Ri64 ([0, 0, 0] : List Int)) (p := 3 = 3 ∧ ∀ i, i < 3 → ∀ j, j < 1 → TLe (rowOf [.v (.int .i64 0), .v (.int .i64 0), .v (.int .i64 0)] 1 i j) (Ri64 ([0, 0, 0] : List Int) i j)) (⟨rfl, fun i hi j hj => match i, hi, j, hj with | 0, _, 0, _ => TLe.refl _ | 1, _, 0, _ => TLe.refl _ | 2, _, 0, _ => TLe.refl _ | _ + 3, h, _, _ => absurd h (by omega) | _, _, _ + 1, h => absurd h (by omega)⟩)] (by kernel_rfl) ?_
 refine AW.seq ?_
 obtain ⟨y1, e2, h⟩ := bnd_some h
 refine AW.sg tt_ok0 [(9, vi64 y1)] [] [] 6 [hn, hn, hk (pattern_Check_con p0 p1 y1 e2)] (by kernel_rfl) ?_
 refine AW.sg tt_ok0 [(18, vb (y1 != 0))] [] [] 8 [] (by kernel_rfl) ?_
 refine AW.co h (by kernel_rfl) (fun c3 h => ?_) (fun c3 h => ?_)
 ·
  refine AW.sg tt_ok0 [(7, vi64 y1)] [0] [(0, .row 60 false 1 3 (Ri64 ([0, 0, 0] : List Int)))] 12 [ho (p := 0 + 2 < 3) (by decide), hn, hr 3 (Ri64 ([0, 0, 0] : List Int)) (p := 3 = 3 ∧ ∀ i, i < 3 → ∀ j, j < 1 → TLe (rowOf [.v (.int .i64 (([0, 0, 0] : List Int).getD 0 0)), .v (.int .i64 (([0, 0, 0] : List Int).getD 1 0)), .v (.int .i64 (([0, 0, 0] : List Int).getD 2 0))] 1 i j) (Ri64 ([0, 0, 0] : List Int) i j)) (⟨rfl, fun i hi j hj => match i, hi, j, hj with | 0, _, 0, _ => TLe.refl _ | 1, _, 0, _ => TLe.refl _ | 2, _, 0, _ => TLe.refl _ | _ + 3, h, _, _ => absurd h (by omega) | _, _, _ + 1, h => absurd h (by omega)⟩)] (by kernel_rfl) ?_
  refine AW.ret (AW.tr ?_)
  obtain rfl := some_inj h
  exact ⟨_, Conv.refl _ _, .inr rfl, OutOk.mk [] 0 (out0 := .tup [.agg [ci64 (([0, 0, 0] : List Int).getD 0 0), ci64 (([0, 0, 0] : List Int).getD 1 0), ci64 (([0, 0, 0] : List Int).getD 2 0)], vi64 y1]) (ps := [0 + 2 < 3, True]) (by kernel_rfl) ⟨(by decide), tv, tv⟩ (by kernel_rfl) (by kernel_rfl)⟩
 ·
  refine AW.skip (AW.tn ?_)
  refine AW.seq (AW.seq ?_)
  refine AW.join (ι := Bool) (fun v => ⟨[(0, vl 1 Ri64 p0), (2, vi64 p2), (6, .c (.ptr 0 1 0 0)), (8, .c (.ptr 1 1 0 0)), (27, vb v)], [(0, .row 60 false 1 3 (Ri64 ([0, 0, 0] : List Int))), (1, .row 60 false 1 3 (Ri64 ([0, 0, 0] : List Int)))], 2⟩) (fun v : Bool => pattern_Marginal_k1 p0 p2 v = some r) (fun x4 h => ?_) ?_
  ·
   unfold pattern_Marginal_k1 at h
   refine AW.tn ?_
   refine AW.co h (by kernel_rfl) (fun c5 h => ?_) (fun c5 h => ?_)
   ·
    refine AW.sg tt_ok0 [(7, vi64 2)] [0] [(0, .row 60 false 1 3 (Ri64 ([0, 0, 0] : List Int)))] 5 [ho (p := 0 + 2 < 3) (by decide), hr 3 (Ri64 ([0, 0, 0] : List Int)) (p := 3 = 3 ∧ ∀ i, i < 3 → ∀ j, j < 1 → TLe (rowOf [.v (.int .i64 (([0, 0, 0] : List Int).getD 0 0)), .v (.int .i64 (([0, 0, 0] : List Int).getD 1 0)), .v (.int .i64 (([0, 0, 0] : List Int).getD 2 0))] 1 i j) (Ri64 ([0, 0, 0] : List Int) i j)) (⟨rfl, fun i hi j hj => match i, hi, j, hj with | 0, _, 0, _ => TLe.refl _ | 1, _, 0, _ => TLe.refl _ | 2, _, 0, _ => TLe.refl _ | _ + 3, h, _, _ => absurd h (by omega) | _, _, _ + 1, h => absurd h (by omega)⟩)] (by kernel_rfl) ?_
    refine AW.ret (AW.tr ?_)
    obtain rfl := some_inj h
    exact ⟨_, Conv.refl _ _, .inr rfl, OutOk.mk [] 0 (out0 := .tup [.agg [ci64 (([0, 0, 0] : List Int).getD 0 0), ci64 (([0, 0, 0] : List Int).getD 1 0), ci64 (([0, 0, 0] : List Int).getD 2 0)], vi64 2]) (ps := [0 + 2 < 3, True]) (by kernel_rfl) ⟨(by decide), tv, tv⟩ (by kernel_rfl) (by kernel_rfl)⟩
   ·
    refine AW.skip (AW.tn ?_)
    obtain ⟨y6, y7, e8, h⟩ := bind2_some h
    refine AW.sg tt_ok0 [(10, vi64 y6)] [] [] 9 [hn, hn, hk (pattern_Size_con (if (1 : Int) > p2 then 1 else p2) (y6, y7) e8)] (by kernel_rfl) ?_
    refine AW.seq ?_
    refine AW.join (ι := Int) (fun v => ⟨[(0, vl 1 Ri64 p0), (6, .c (.ptr 0 1 0 0)), (8, .c (.ptr 1 1 0 0)), (10, vi64 v)], [(0, .row 60 false 1 3 (Ri64 ([0, 0, 0] : List Int))), (1, .row 60 false 1 3 (Ri64 ([0, 0, 0] : List Int)))], 2⟩) (fun v : Int => pattern_Marginal_k2 p0 v = some r) (fun x9 h => ?_) ?_
    ·
     unfold pattern_Marginal_k2 at h
     refine AW.tn (AW.seq ?_)
     refine AW.sg tt_ok0 [(39, vi64 0), (38, vi64 (p0.length : Int)), (37, vl 1 Ri64 p0)] [] [] 5 [] (by kernel_rfl) ?_
     refine AW.block ?_
     obtain ⟨x22, l23, h⟩ := bnd_some h
     refine AW.lp l23 (fun v => ⟨[(6, .c (.ptr 0 1 0 0)), (8, .c (.ptr 1 1 0 0)), (10, vi64 x9), (37, vl 1 Ri64 p0), (38, vi64 (p0.length : Int)), (39, vi64 v.1)], [(0, .row 60 false 1 3 (Ri64 ([0, 0, 0] : List Int))), (1, .row 60 false 1 3 (Ri64 v.2))], 2⟩) (fun t : List Int => (.exit 0, ⟨[(6, .c (.ptr 0 1 0 0)), (8, .c (.ptr 1 1 0 0))], [(0, .row 60 false 1 3 (Ri64 ([0, 0, 0] : List Int))), (1, .row 60 false 1 3 (Ri64 t))], 2⟩)) (conv_re [(0, 0), (1, 1)] (by kernel_rfl)) (fun _ => tv) ?_ ?_
     ·
      clear l23 h
      intro v o h
      obtain ⟨x12, x13⟩ := v
      replace h : pattern_Marginal_l3 p0 x9 x12 x13 = some o := h
      unfold pattern_Marginal_l3 at h
      refine AW.sg tt_ok0 [(40, vb (decide (x12 < (p0.length : Int))))] [] [] 3 [] (by kernel_rfl) ?_
      refine AW.seq ?_
      refine AW.co h (by kernel_rfl) (fun c15 h => ?_) (fun c15 h => ?_)
      ·
       refine AW.skip (AW.tn ?_)
       refine AW.seq (AW.block ?_)
       obtain ⟨g16, g17, h⟩ := ifd h
       refine AW.sg tt_ok0 [(13, vi64 (p0.getD x12.toNat 0)), (12, vi64 x12)] [] [] 8 [hn, hq g16 g17] (by kernel_rfl) ?_
       obtain ⟨g18, g19, h⟩ := ifd h
       obtain ⟨g20, g21, h⟩ := ifd h
       refine AW.rg tt_ok0 [] [1] [(1, .row 60 false 1 3 (Ri64 (x13.set (0 + ((i64.wrap (x12.tdiv x9)).tmod 3).toNat) (i64.wrap ((x13.getD (0 + ((i64.wrap (x12.tdiv x9)).tmod 3).toNat) 0) + (p0.getD x12.toNat 0))))))] 18 [hn, hn, ho g18, ho (p := (3 : Int) ≠ 0) (by decide), hq g19 g20, ho (p := (0 + ((i64.wrap (x12.tdiv x9)).tmod 3).toNat) < 3) (by have h1 : 0 ≤ ((i64.wrap (x12.tdiv x9)).tmod 3) := g19; have h2 : ((i64.wrap (x12.tdiv x9)).tmod 3) < ((3 : Nat) : Int) := g20; omega), hn, hn, hq g19 g20, hset 0 Ei64 x13 (0 + ((i64.wrap (x12.tdiv x9)).tmod 3).toNat) (i64.wrap ((x13.getD (0 + ((i64.wrap (x12.tdiv x9)).tmod 3).toNat) 0) + (p0.getD x12.toNat 0))) (n := 3) (by have h1 : 0 ≤ ((i64.wrap (x12.tdiv x9)).tmod 3) := g19; have h2 : ((i64.wrap (x12.tdiv x9)).tmod 3) < ((3 : Nat) : Int) := g20; omega) g21] (by kernel_rfl) ?_
       refine AW.inBlock_normal (AW.tn ?_)
       refine AW.rg tt_ok0 [(39, vi64 (i64.wrap (x12 + 1)))] [] [] 20 [] (by kernel_rfl) ?_
       exact lpn h (conv_re [(0, 0), (1, 1)] (by kernel_rfl))
      ·
       refine AW.exit (AW.thenQ_exit ?_)
       exact lpo h rfl (conv_re [(0, 0), (1, 1)] (by kernel_rfl))
     ·
      show (_ : Exit → St → Prop) (.exit 0) _
      refine AW.inBlock_hit (AW.tn ?_)
      refine AW.sg tt_ok0 [(7, vi64 0)] [0] [(0, .row 60 false 1 3 (Ri64 x22))] 5 [ho (p := 0 + 2 < 3) (by decide), hr 3 (Ri64 x22) (p := 3 = 3 ∧ ∀ i, i < 3 → ∀ j, j < 1 → TLe (rowOf [.v (.int .i64 (x22.getD 0 0)), .v (.int .i64 (x22.getD 1 0)), .v (.int .i64 (x22.getD 2 0))] 1 i j) (Ri64 x22 i j)) (⟨rfl, fun i hi j hj => match i, hi, j, hj with | 0, _, 0, _ => TLe.refl _ | 1, _, 0, _ => TLe.refl _ | 2, _, 0, _ => TLe.refl _ | _ + 3, h, _, _ => absurd h (by omega) | _, _, _ + 1, h => absurd h (by omega)⟩)] (by kernel_rfl) ?_
      refine AW.ret ?_
      obtain rfl := some_inj h
      exact ⟨_, Conv.refl _ _, .inr rfl, OutOk.mk [] 0 (out0 := .tup [.agg [ci64 (x22.getD 0 0), ci64 (x22.getD 1 0), ci64 (x22.getD 2 0)], vi64 0]) (ps := [0 + 2 < 3, True]) (by kernel_rfl) ⟨(by decide), tv, tv⟩ (by kernel_rfl) (by kernel_rfl)⟩
    ·
     refine AW.sg tt_ok0 [(36, vb (p2 == 0))] [] [] 11 [] (by kernel_rfl) ?_
     refine AW.co h (by kernel_rfl) (fun c24 h => ?_) (fun c24 h => ?_)
     ·
      refine AW.rg tt_ok0 [(10, vi64 1)] [] [] 12 [] (by kernel_rfl) ?_
      exact jl 1 h (conv_re [(0, 0), (1, 1)] (by kernel_rfl))
     ·
      refine AW.skip ?_
      exact jl y6 h (conv_re [(0, 0), (1, 1)] (by kernel_rfl))
  ·
   rcases ifs h with ⟨c25, h⟩ | ⟨c25, h⟩
   ·
    refine AW.rg tt_ok0 [(27, vb true)] [] [] 15 [hn, ht c25] (by kernel_rfl) ?_
    exact jl true h (conv_re [(0, 0), (1, 2)] (by kernel_rfl))
   ·
    refine AW.rg tt_ok0 [(27, vb (decide (p2 ≥ p1)))] [] [] 15 [hn, hf c25] (by kernel_rfl) ?_
    exact jl (decide (p2 ≥ p1)) h (conv_re [(0, 0), (1, 2)] (by kernel_rfl))
/-! recordlink/pattern.Total -/
noncomputable def pattern_Total (p0 : List Int) : Option Int := if (decide ((p0.length : Int) > 243)) = true then (some 0) else (bind2 (pattern_sum p0) fun y2 y3 => (some y2))
set_option maxRecDepth 100000 in
theorem pattern_Total_con (p0 : List Int) (r : Int) (h : pattern_Total p0 = some r) : Con Try.prog 33 [vl 1 Ri64 p0] [] (vi64 r) [] := by
 refine con_of tt_ok0 0 Try.func33 (by kernel_rfl) rfl (by kernel_rfl) (fun base X _ => AW.post ?_)
 unfold pattern_Total at h
 refine AW.sg tt_ok0 [] [] [] 1 [] (by kernel_rfl) ?_
 refine AW.seq ?_
 refine AW.sg tt_ok0 [(7, vb (decide ((p0.length : Int) > 243)))] [] [] 4 [] (by kernel_rfl) ?_
 refine AW.co h (by kernel_rfl) (fun c1 h => ?_) (fun c1 h => ?_)
 ·
  refine AW.sg tt_ok0 [(2, vi64 0)] [] [] 5 [] (by kernel_rfl) ?_
  refine AW.ret (AW.tr ?_)
  obtain rfl := some_inj h
  exact fn0 (.inr rfl) [] 0 (vi64 0) (by kernel_rfl)
 ·
  refine AW.skip (AW.tn ?_)
  obtain ⟨y2, y3, e4, h⟩ := bind2_some h
  refine AW.sg tt_ok0 [(3, vi64 y2)] [] [] 10 [hn, hk (pattern_sum_con p0 (y2, y3) e4)] (by kernel_rfl) ?_
  refine AW.sg tt_ok0 [(2, vi64 y2)] [] [] 12 [] (by kernel_rfl) ?_
  refine AW.ret ?_
  obtain rfl := some_inj h
  exact fn0 (.inr rfl) [] 0 (vi64 y2) (by kernel_rfl)
/-! recordlink/recordlinklaw23.awake -/
noncomputable def rl_law23_awake_k1 (x11 : Bool) : Option Bool := some x11
noncomputable def rl_law23_awake : Option Bool := bind2 (pattern_Tally ([] : List S_api_Couple) ([] : List S_api_Encoded) ([] : List S_api_Encoded) ([500, 500] : List Int)) fun y1 y2 => (bind2 (pattern_Size 2) fun y4 y5 => (if (8 : Int) < (((List.replicate 9 (0 : Int)).length : Nat) : Int) then (bind2 (pattern_Marginal ((List.replicate 9 (0 : Int)).set (0 + 8) 4) 2 1) fun y8 y9 => (if (y2 == 0) = true then (if (y5 == 0) = true then (if (y9 == 0) = true then (if ((y1.length : Int) == 9) = true then (if (y4 == 9) = true then (if (((y8.getD 0 0) == 0) && (((y8.getD 1 0) == 0) && (((y8.getD 2 0) == 4) && true))) = true then ((pattern_Total ((List.replicate 9 (0 : Int)).set (0 + 8) 4)).bind fun y18 => (if (y18 == 4) = true then ((pattern_Check ((List.replicate 9 (0 : Int)).set (0 + 8) 4) 2).bind fun y21 => (rl_law23_awake_k1 (y21 == 0))) else (rl_law23_awake_k1 false))) else (rl_law23_awake_k1 false)) else (rl_law23_awake_k1 false)) else (rl_law23_awake_k1 false)) else (rl_law23_awake_k1 false)) else (rl_law23_awake_k1 false)) else (rl_law23_awake_k1 false))) else none))
set_option maxRecDepth 100000 in
theorem rl_law23_awake_con (r : Bool) (h : rl_law23_awake = some r) : Con Try.prog 30 [] [] (vb r) [] := by
 refine con_of tt_ok0 0 Try.func30 (by kernel_rfl) rfl (by kernel_rfl) (fun base X _ => AW.post ?_)
 unfold rl_law23_awake at h
 refine AW.sg tt_ok0 [] [] [] 1 [] (by kernel_rfl) ?_
 obtain ⟨y1, y2, e3, h⟩ := bind2_some h
 refine AW.sg tt_ok0 [(2, vi64 y2), (1, .c (.ref 2 1 0 y1.length))] [1, 2] [(2, .row 3 false 1 y1.length (Ri64 y1))] 8 [hlit 0 Ei64 1 (fun _ => rfl) ([500, 500] : List Int), hg [] [] true 1 (q := (True) ∧ (True) ∧ (True) ∧ (0 + ([500, 500] : List Int).length ≤ ([500, 500] : List Int).length) ∧ (True)) ⟨tv, tv, tv, le0, tv⟩ (a0 := [.c (.t (.v (.slice none 0 0))), .c (.t (.v (.slice none 0 0))), .c (.t (.v (.slice none 0 0))), vl 1 Ri64 ([500, 500] : List Int)]) (pattern_Tally_con ([] : List S_api_Couple) ([] : List S_api_Encoded) ([] : List S_api_Encoded) ([500, 500] : List Int) (y1, y2) e3) ⟨ArgLe.c (CAle.nil rfl), ArgLe.c (CAle.nil rfl), ArgLe.c (CAle.nil rfl), ArgLe.refl _, tv⟩ (fun _ => ⟨rowL_flat Vi64 _ _ _, tv⟩)] (by kernel_rfl) ?_
 obtain ⟨y4, y5, e6, h⟩ := bind2_some h
 refine AW.sg tt_ok0 [(4, vi64 y5), (3, vi64 y4)] [] [] 13 [hk (pattern_Size_con 2 (y4, y5) e6)] (by kernel_rfl) ?_
 refine AW.sg tt_ok0 [(5, .c (.ref 13 1 0 ((List.replicate 9 (0 : Int)).length)))] [13] [(13, .row 3 false 1 (List.replicate 9 (0 : Int)).length (Ri64 (List.replicate 9 (0 : Int))))] 15 [hmk 0 Ei64 1 8 [.int .i64 0] rfl rfl (9 : Int) (9 : Int) (by decide) (Int.le_refl _) (by decide) (by decide)] (by kernel_rfl) ?_
 obtain ⟨g7, h⟩ := ifc h
 refine AW.sg tt_ok0 [] [13] [(13, .row 3 false 1 (List.replicate 9 (0 : Int)).length (Ri64 ((List.replicate 9 (0 : Int)).set (0 + 8) 4)))] 18 [hn, ho (p := (0 ≤ (8 : Int)) ∧ ((8 : Int) < (((List.replicate 9 (0 : Int)).length : Nat) : Int))) (⟨(by decide), g7⟩), hset 0 Ei64 (List.replicate 9 (0 : Int)) (0 + 8) 4 (n := (List.replicate 9 (0 : Int)).length) (by have h1 : 0 ≤ (8 : Int) := (by decide); have h2 : (8 : Int) < (((List.replicate 9 (0 : Int)).length : Nat) : Int) := g7; omega) rfl] (by kernel_rfl) ?_
 obtain ⟨y8, y9, e10, h⟩ := bind2_some h
 refine AW.sg tt_ok0 [(7, vi64 y9), (6, .c (.ptr 22 1 0 0))] [22] [(22, .row 60 false 1 3 (Ri64 y8))] 25 [hn, hg [] [] true 0 (q := (0 + (List.replicate 9 (0 : Int)).length ≤ (List.replicate 9 (0 : Int)).length) ∧ (True) ∧ (True) ∧ (True)) ⟨le0, tv, tv, tv⟩ (a0 := [.c (.t (.tree ((List.replicate 9 (0 : Int)).length) 1 (Ri64 ((List.replicate 9 (0 : Int)).set (0 + 8) 4)))), vi64 2, vi64 1]) (show Con Try.prog 32 [.c (.t (.tree ((List.replicate 9 (0 : Int)).length) 1 (Ri64 ((List.replicate 9 (0 : Int)).set (0 + 8) 4)))), vi64 2, vi64 1] [] (.tup [.agg [ci64 (y8.getD 0 0), ci64 (y8.getD 1 0), ci64 (y8.getD 2 0)], vi64 y9]) [] from by have hc := (pattern_Marginal_con ((List.replicate 9 (0 : Int)).set (0 + 8) 4) 2 1 (y8, y9) e10); simpa only [List.length_set, vl, cl] using hc) ⟨ArgLe.refl _, ArgLe.refl _, ArgLe.refl _, tv⟩ (fun _ => tv), hn, hn, hn, hr 3 (Ri64 ([0, 0, 0] : List Int)) (p := 3 = 3 ∧ ∀ i, i < 3 → ∀ j, j < 1 → TLe (rowOf [.v (.int .i64 0), .v (.int .i64 0), .v (.int .i64 0)] 1 i j) (Ri64 ([0, 0, 0] : List Int) i j)) (⟨rfl, fun i hi j hj => match i, hi, j, hj with | 0, _, 0, _ => TLe.refl _ | 1, _, 0, _ => TLe.refl _ | 2, _, 0, _ => TLe.refl _ | _ + 3, h, _, _ => absurd h (by omega) | _, _, _ + 1, h => absurd h (by omega)⟩), hr 3 (Ri64 y8) (p := 3 = 3 ∧ ∀ i, i < 3 → ∀ j, j < 1 → TLe (rowOf [.v (.int .i64 (y8.getD 0 0)), .v (.int .i64 (y8.getD 1 0)), .v (.int .i64 (y8.getD 2 0))] 1 i j) (Ri64 y8 i j)) (⟨rfl, fun i hi j hj => match i, hi, j, hj with | 0, _, 0, _ => TLe.refl _ | 1, _, 0, _ => TLe.refl _ | 2, _, 0, _ => TLe.refl _ | _ + 3, h, _, _ => absurd h (by omega) | _, _, _ + 1, h => absurd h (by omega)⟩)] (by kernel_rfl) ?_
 refine AW.seq ?_
 refine AW.join (ι := Bool) (fun v => ⟨[(0, vb v)], [], 0⟩) (fun v : Bool => rl_law23_awake_k1 v = some r) (fun x11 h => ?_) ?_
 ·
  unfold rl_law23_awake_k1 at h
  refine AW.tn (AW.ret ?_)
  obtain rfl := some_inj h
  exact fn0 (.inr rfl) [] 0 (vb x11) (by kernel_rfl)
 ·
  rcases ifs h with ⟨c12, h⟩ | ⟨c12, h⟩
  ·
   rcases ifs h with ⟨c13, h⟩ | ⟨c13, h⟩
   ·
    rcases ifs h with ⟨c14, h⟩ | ⟨c14, h⟩
    ·
     rcases ifs h with ⟨c15, h⟩ | ⟨c15, h⟩
     ·
      rcases ifs h with ⟨c16, h⟩ | ⟨c16, h⟩
      ·
       rcases ifs h with ⟨c17, h⟩ | ⟨c17, h⟩
       ·
        obtain ⟨y18, e19, h⟩ := bnd_some h
        rcases ifs h with ⟨c20, h⟩ | ⟨c20, h⟩
        ·
         obtain ⟨y21, e22, h⟩ := bnd_some h
         refine AW.rg tt_ok0 [(0, vb (y21 == 0))] [] [] 58 [hn, ht c12, hn, hn, ht c13, hn, hn, hn, ht c14, hn, hn, hn, hn, ht c15, hn, hn, hn, ht c16, hn, hn, ho (p := 0 + 2 < 3) (by decide), hn, ht c17, hn, hn, hn, hg [] [] true 0 (q := (0 + (List.replicate 9 (0 : Int)).length ≤ (List.replicate 9 (0 : Int)).length) ∧ (True)) ⟨le0, tv⟩ (a0 := [.c (.t (.tree ((List.replicate 9 (0 : Int)).length) 1 (Ri64 ((List.replicate 9 (0 : Int)).set (0 + 8) 4))))]) (show Con Try.prog 33 [.c (.t (.tree ((List.replicate 9 (0 : Int)).length) 1 (Ri64 ((List.replicate 9 (0 : Int)).set (0 + 8) 4))))] [] (vi64 y18) [] from by have hc := (pattern_Total_con ((List.replicate 9 (0 : Int)).set (0 + 8) 4) y18 e19); simpa only [List.length_set, vl, cl] using hc) ⟨ArgLe.refl _, tv⟩ (fun _ => tv), ht c20, hn, hn, hn, hg [] [] true 0 (q := (0 + (List.replicate 9 (0 : Int)).length ≤ (List.replicate 9 (0 : Int)).length) ∧ (True) ∧ (True)) ⟨le0, tv, tv⟩ (a0 := [.c (.t (.tree ((List.replicate 9 (0 : Int)).length) 1 (Ri64 ((List.replicate 9 (0 : Int)).set (0 + 8) 4)))), vi64 2]) (show Con Try.prog 34 [.c (.t (.tree ((List.replicate 9 (0 : Int)).length) 1 (Ri64 ((List.replicate 9 (0 : Int)).set (0 + 8) 4)))), vi64 2] [] (vi64 y21) [] from by have hc := (pattern_Check_con ((List.replicate 9 (0 : Int)).set (0 + 8) 4) 2 y21 e22); simpa only [List.length_set, vl, cl] using hc) ⟨ArgLe.refl _, ArgLe.refl _, tv⟩ (fun _ => tv)] (by kernel_rfl) ?_
         exact jl (y21 == 0) h (conv_re [] (by kernel_rfl))
        ·
         refine AW.rg tt_ok0 [(0, vb false)] [] [] 59 [hn, ht c12, hn, hn, ht c13, hn, hn, hn, ht c14, hn, hn, hn, hn, ht c15, hn, hn, hn, ht c16, hn, hn, ho (p := 0 + 2 < 3) (by decide), hn, ht c17, hn, hn, hn, hg [] [] true 0 (q := (0 + (List.replicate 9 (0 : Int)).length ≤ (List.replicate 9 (0 : Int)).length) ∧ (True)) ⟨le0, tv⟩ (a0 := [.c (.t (.tree ((List.replicate 9 (0 : Int)).length) 1 (Ri64 ((List.replicate 9 (0 : Int)).set (0 + 8) 4))))]) (show Con Try.prog 33 [.c (.t (.tree ((List.replicate 9 (0 : Int)).length) 1 (Ri64 ((List.replicate 9 (0 : Int)).set (0 + 8) 4))))] [] (vi64 y18) [] from by have hc := (pattern_Total_con ((List.replicate 9 (0 : Int)).set (0 + 8) 4) y18 e19); simpa only [List.length_set, vl, cl] using hc) ⟨ArgLe.refl _, tv⟩ (fun _ => tv), hf c20] (by kernel_rfl) ?_
         exact jl false h (conv_re [] (by kernel_rfl))
       ·
        refine AW.rg tt_ok0 [(0, vb false)] [] [] 60 [hn, ht c12, hn, hn, ht c13, hn, hn, hn, ht c14, hn, hn, hn, hn, ht c15, hn, hn, hn, ht c16, hn, hn, ho (p := 0 + 2 < 3) (by decide), hn, hf c17] (by kernel_rfl) ?_
        exact jl false h (conv_re [] (by kernel_rfl))
      ·
       refine AW.rg tt_ok0 [(0, vb false)] [] [] 60 [hn, ht c12, hn, hn, ht c13, hn, hn, hn, ht c14, hn, hn, hn, hn, ht c15, hn, hn, hn, hf c16] (by kernel_rfl) ?_
       exact jl false h (conv_re [] (by kernel_rfl))
     ·
      refine AW.rg tt_ok0 [(0, vb false)] [] [] 60 [hn, ht c12, hn, hn, ht c13, hn, hn, hn, ht c14, hn, hn, hn, hn, hf c15] (by kernel_rfl) ?_
      exact jl false h (conv_re [] (by kernel_rfl))
    ·
     refine AW.rg tt_ok0 [(0, vb false)] [] [] 60 [hn, ht c12, hn, hn, ht c13, hn, hn, hn, hf c14] (by kernel_rfl) ?_
     exact jl false h (conv_re [] (by kernel_rfl))
   ·
    refine AW.rg tt_ok0 [(0, vb false)] [] [] 60 [hn, ht c12, hn, hn, hf c13] (by kernel_rfl) ?_
    exact jl false h (conv_re [] (by kernel_rfl))
  ·
   refine AW.rg tt_ok0 [(0, vb false)] [] [] 60 [hn, hf c12] (by kernel_rfl) ?_
   exact jl false h (conv_re [] (by kernel_rfl))
/-! recordlink/recordlinkmake.Few -/
noncomputable def rl_make_Few (p0 : List Int) : Option Bool := some (decide ((p0.length : Int) ≤ 400))
set_option maxRecDepth 100000 in
theorem rl_make_Few_con (p0 : List Int) (r : Bool) (h : rl_make_Few p0 = some r) : Con Try.prog 13 [vl 1 Ri64 p0] [] (vb r) [] := by
 refine con_of tt_ok0 0 Try.func13 (by kernel_rfl) rfl (by kernel_rfl) (fun base X _ => AW.post ?_)
 unfold rl_make_Few at h
 refine AW.sg tt_ok0 [] [] [] 1 [] (by kernel_rfl) ?_
 refine AW.sg tt_ok0 [(2, vb (decide ((p0.length : Int) ≤ 400)))] [] [] 5 [] (by kernel_rfl) ?_
 refine AW.ret ?_
 obtain rfl := some_inj h
 exact fn0 (.inr rfl) [] 0 (vb (decide ((p0.length : Int) ≤ 400))) (by kernel_rfl)
structure S_recordlinkmake_Deck where
 list : List Int
 at_ : Int
 state : Int
def dS_recordlinkmake_Deck : S_recordlinkmake_Deck := ⟨([] : List Int), 0, 0⟩
instance : Inhabited S_recordlinkmake_Deck := ⟨dS_recordlinkmake_Deck⟩
/-! recordlink/recordlinkmake.New -/
noncomputable def rl_make_New (p0 : List Int) : Option S_recordlinkmake_Deck := some (⟨p0, 0, 11400714819323198485⟩ : S_recordlinkmake_Deck)
set_option maxRecDepth 100000 in
theorem rl_make_New_con (p0 : List Int) (r : S_recordlinkmake_Deck) (h : rl_make_New p0 = some r) : Con Try.prog 14 [vl 1 Ri64 p0] [] (.c (.ptr 0 3 0 0)) [(0, .box 86 [cl 1 Ri64 r.list, ci64 r.at_, cu64 r.state])] := by
 refine con_of tt_ok0 0 Try.func14 (by kernel_rfl) rfl (by kernel_rfl) (fun base X _ => AW.post ?_)
 unfold rl_make_New at h
 refine AW.sg tt_ok0 [] [] [] 1 [] (by kernel_rfl) ?_
 refine AW.sg tt_ok0 [(2, .c (.ptr 3 3 0 0))] [3] [(3, .box 86 [cl 1 Ri64 p0, ci64 0, cu64 11400714819323198485])] 5 [] (by kernel_rfl) ?_
 refine AW.ret ?_
 obtain rfl := some_inj h
 exact fn0 (.inr rfl) [(0, 3)] 1 (.c (.ptr 3 3 0 0)) (by kernel_rfl)
/-! (*recordlink/recordlinkmake.Deck).Word -/
noncomputable def rl_make_Deck_Word_k1 (p0 : S_recordlinkmake_Deck) (x1 : Int) (x2 : Int) : Option (Int × S_recordlinkmake_Deck) := (some (u64.wrap ((u64.wrap ((u64.wrap (p0.state + x1)) * 6364136223846793005)) + 1442695040888963407))).bind fun z3 => ((some (u64.wrap ((ixor .u64 z3 (ishr .u64 z3 33)) * 18397679294719823053))).bind fun z5 => (some (ixor .u64 z5 (ishr .u64 z5 29), (⟨p0.list, x2, z3⟩ : S_recordlinkmake_Deck))))
noncomputable def rl_make_Deck_Word (p0 : S_recordlinkmake_Deck) : Option (Int × S_recordlinkmake_Deck) := if (decide (p0.at_ < ((p0.list.length : Nat) : Int))) = true then (if 0 ≤ p0.at_ then (if p0.at_ < ((p0.list.length : Nat) : Int) then (rl_make_Deck_Word_k1 p0 (u64.wrap (p0.list.getD p0.at_.toNat 0)) (i64.wrap (p0.at_ + 1))) else none) else none) else (rl_make_Deck_Word_k1 p0 0 p0.at_)
set_option maxRecDepth 100000 in
theorem rl_make_Deck_Word_con (p0 : S_recordlinkmake_Deck) (r : Int × S_recordlinkmake_Deck) (h : rl_make_Deck_Word p0 = some r) : Con Try.prog 50 [.c (.ptr 0 3 0 0)] [(0, .box 86 [cl 1 Ri64 p0.list, ci64 p0.at_, cu64 p0.state])] (vu64 r.1) [(0, .box 86 [cl 1 Ri64 r.2.list, ci64 r.2.at_, cu64 r.2.state])] := by
 refine con_of tt_ok0 1 Try.func50 (by kernel_rfl) rfl (by kernel_rfl) (fun base X _ => AW.post ?_)
 unfold rl_make_Deck_Word at h
 refine AW.sg tt_ok0 [] [] [] 2 [] (by kernel_rfl) ?_
 refine AW.sg tt_ok0 [(3, vu64 0)] [] [] 3 [] (by kernel_rfl) ?_
 refine AW.seq ?_
 refine AW.join (ι := Int × Int) (fun v => ⟨[(0, .c (.ptr 0 3 0 0)), (3, vu64 v.1)], [(0, .box 86 [cl 1 Ri64 p0.list, ci64 v.2, cu64 p0.state])], 1⟩) (fun v : Int × Int => rl_make_Deck_Word_k1 p0 v.1 v.2 = some r) (fun v h => ?_) ?_
 ·
  obtain ⟨x1, x2⟩ := v
  replace h : rl_make_Deck_Word_k1 p0 x1 x2 = some r := h
  unfold rl_make_Deck_Word_k1 at h
  refine AW.tn ?_
  obtain ⟨z3, n4, h⟩ := bnd_some h
  replace n4 := some_inj n4
  refine AW.sg tt_ok0 [] [0] [(0, .box 86 [cl 1 Ri64 p0.list, ci64 x2, cu64 z3])] 13 [] (by subst n4; kernel_rfl) ?_
  refine AW.sd tt_ok0 mo0 [] [(4, vu64 (ixor .u64 z3 (ishr .u64 z3 33)))] [] 24 [hn, hn, hn, hn, hn, hn, hn, hn, ho (p := 0 ≤ (33 : Int)) (by decide)] (by kernel_rfl) ?_
  obtain ⟨z5, n6, h⟩ := bnd_some h
  replace n6 := some_inj n6
  refine AW.sg tt_ok0 [(4, vu64 z5)] [] [] 27 [] (by subst n6; kernel_rfl) ?_
  refine AW.sg tt_ok0 [(2, vu64 (ixor .u64 z5 (ishr .u64 z5 29)))] [] [] 32 [hn, hn, ho (p := 0 ≤ (29 : Int)) (by decide)] (by kernel_rfl) ?_
  refine AW.ret ?_
  obtain rfl := some_inj h
  exact fn0 (.inr rfl) [(0, 0)] 1 (vu64 (ixor .u64 z5 (ishr .u64 z5 29))) (by kernel_rfl)
 ·
  refine AW.sd tt_ok0 mo0 [] [(14, vb (decide (p0.at_ < ((p0.list.length : Nat) : Int))))] [] 13 [] (by kernel_rfl) ?_
  refine AW.co h (by kernel_rfl) (fun c7 h => ?_) (fun c7 h => ?_)
  ·
   obtain ⟨g8, g9, h⟩ := ifd h
   refine AW.sd tt_ok0 mo0 [] [(3, vu64 (u64.wrap (p0.list.getD p0.at_.toNat 0)))] [] 25 [hn, hn, hn, hn, hn, hn, hn, hn, hq g8 g9] (by kernel_rfl) ?_
   refine AW.rg tt_ok0 [] [0] [(0, .box 86 [cl 1 Ri64 p0.list, ci64 (i64.wrap (p0.at_ + 1)), cu64 p0.state])] 33 [] (by kernel_rfl) ?_
   exact jl (u64.wrap (p0.list.getD p0.at_.toNat 0), i64.wrap (p0.at_ + 1)) h (conv_re [(0, 0)] (by kernel_rfl))
  ·
   refine AW.skip ?_
   exact jl (0, p0.at_) h (conv_re [(0, 0)] (by kernel_rfl))
/-! (*recordlink/recordlinkmake.Deck).Next -/
noncomputable def rl_make_Deck_Next (p0 : S_recordlinkmake_Deck) (p1 : Int) : Option (Int × S_recordlinkmake_Deck) := if (decide (p1 < 1)) = true then (some (0, p0)) else (bind2 (rl_make_Deck_Word p0) fun y2 y3 => (if p1 ≠ 0 then (some (((i64.wrap (ishr .u64 y2 1)).tmod p1), y3)) else none))
set_option maxRecDepth 100000 in
theorem rl_make_Deck_Next_con (p0 : S_recordlinkmake_Deck) (p1 : Int) (r : Int × S_recordlinkmake_Deck) (h : rl_make_Deck_Next p0 p1 = some r) : Con Try.prog 15 [.c (.ptr 0 3 0 0), vi64 p1] [(0, .box 86 [cl 1 Ri64 p0.list, ci64 p0.at_, cu64 p0.state])] (vi64 r.1) [(0, .box 86 [cl 1 Ri64 r.2.list, ci64 r.2.at_, cu64 r.2.state])] := by
 refine con_of tt_ok0 1 Try.func15 (by kernel_rfl) rfl (by kernel_rfl) (fun base X _ => AW.post ?_)
 unfold rl_make_Deck_Next at h
 refine AW.sg tt_ok0 [] [] [] 2 [] (by kernel_rfl) ?_
 refine AW.seq ?_
 refine AW.sg tt_ok0 [(6, vb (decide (p1 < 1)))] [] [] 4 [] (by kernel_rfl) ?_
 refine AW.co h (by kernel_rfl) (fun c1 h => ?_) (fun c1 h => ?_)
 ·
  refine AW.sg tt_ok0 [(4, vi64 0)] [] [] 5 [] (by kernel_rfl) ?_
  refine AW.ret (AW.tr ?_)
  obtain rfl := some_inj h
  exact fn0 (.inr rfl) [(0, 0)] 1 (vi64 0) (by kernel_rfl)
 ·
  refine AW.skip (AW.tn ?_)
  obtain ⟨y2, y3, e4, h⟩ := bind2_some h
  obtain ⟨g5, h⟩ := ifc h
  refine AW.sg tt_ok0 [(4, vi64 ((i64.wrap (ishr .u64 y2 1)).tmod p1))] [0] [(0, .box 86 [cl 1 Ri64 y3.list, ci64 y3.at_, cu64 y3.state])] 10 [hn, hl [0] [] 0 (rl_make_Deck_Word_con p0 (y2, y3) e4), ho (p := 0 ≤ (1 : Int)) (by decide), hn, hn, ho g5] (by kernel_rfl) ?_
  refine AW.ret ?_
  obtain rfl := some_inj h
  exact fn0 (.inr rfl) [(0, 0)] 1 (vi64 ((i64.wrap (ishr .u64 y2 1)).tmod p1)) (by kernel_rfl)
/-! (*recordlink/recordlinkmake.Deck).Bits -/
noncomputable def rl_make_Deck_Bits_k2 (x6 : Int) (x10 : List Int) (x19 : Int) (x20 : List Int) (x21 : Int) (x22 : Int) : Option ((Int × (List Int) × Int × Int × (List Int)) ⊕ ((List Int) × Int × Int × (List Int))) := if x10.length + ([x19] : List Int).length ≤ 1099511627776 then (some (.inl (i64.wrap (x6 + 1), x20, x21, x22, (x10 ++ ([x19] : List Int))))) else none
noncomputable def rl_make_Deck_Bits_l1 (p1 : Int) (x6 : Int) (x7 : List Int) (x8 : Int) (x9 : Int) (x10 : List Int) : Option ((Int × (List Int) × Int × Int × (List Int)) ⊕ ((List Int) × Int × Int × (List Int))) := if (decide (x6 < (i64.wrap (p1.tdiv 64)))) = true then (bind2 (rl_make_Deck_Word (⟨x7, x8, x9⟩ : S_recordlinkmake_Deck)) fun y16 y17 => (bind2 (rl_make_Deck_Next y17 4) fun y24 y25 => (if (y24 == 0) = true then (bind2 (rl_make_Deck_Word y25) fun y28 y29 => (bind2 (rl_make_Deck_Word y29) fun y31 y32 => (rl_make_Deck_Bits_k2 x6 x10 (iand .u64 y16 (iand .u64 y28 y31)) y32.list y32.at_ y32.state))) else (if (y24 == 1) = true then (rl_make_Deck_Bits_k2 x6 x10 0 y25.list y25.at_ y25.state) else (rl_make_Deck_Bits_k2 x6 x10 y16 y25.list y25.at_ y25.state))))) else (some (.inr (x7, x8, x9, x10)))
noncomputable def rl_make_Deck_Bits (p0 : S_recordlinkmake_Deck) (p1 : Int) : Option (S_api_Bits × S_recordlinkmake_Deck) := bind4 (loop (fun v : Int × (List Int) × Int × Int × (List Int) => rl_make_Deck_Bits_l1 p1 v.1 v.2.1 v.2.2.1 v.2.2.2.1 v.2.2.2.2) (0, p0.list, p0.at_, p0.state, ([] : List Int))) fun x35 x36 x37 x38 => (some ((⟨p1, x38⟩ : S_api_Bits), (⟨x35, x36, x37⟩ : S_recordlinkmake_Deck)))
set_option maxRecDepth 100000 in
theorem rl_make_Deck_Bits_con (p0 : S_recordlinkmake_Deck) (p1 : Int) (r : S_api_Bits × S_recordlinkmake_Deck) (h : rl_make_Deck_Bits p0 p1 = some r) : Con Try.prog 63 [.c (.ptr 0 3 0 0), vi64 p1] [(0, .box 86 [cl 1 Ri64 p0.list, ci64 p0.at_, cu64 p0.state])] (.agg [ci64 r.1.Length, .ref 1 1 0 r.1.Words.length]) [(0, .box 86 [cl 1 Ri64 r.2.list, ci64 r.2.at_, cu64 r.2.state]), (1, .row 45 false 1 r.1.Words.length (Ru64 r.1.Words))] := by
 refine con_of tt_ok0 1 Try.func63 (by kernel_rfl) rfl (by kernel_rfl) (fun base X _ => AW.post ?_)
 unfold rl_make_Deck_Bits at h
 refine AW.sg tt_ok0 [(4, .c (.ptr 1 2 0 0))] [1] [(1, .box 84 [ci64 0, .t (.v (.slice none 0 0))])] 2 [] (by kernel_rfl) ?_
 refine AW.sg tt_ok0 [(5, .c (.ptr 4 2 0 0))] [4] [(4, .box 84 [ci64 p1, .t (.v (.slice none 0 0))])] 6 [] (by kernel_rfl) ?_
 refine AW.seq ?_
 refine AW.sg tt_ok0 [(6, vi64 0)] [] [] 7 [] (by kernel_rfl) ?_
 refine AW.block ?_
 obtain ⟨x35, x36, x37, x38, l39, h⟩ := bind4_some h
 refine AW.lp l39 (fun v => ⟨[(0, .c (.ptr 0 3 0 0)), (1, vi64 p1), (4, .c (.ptr 1 2 0 0)), (5, .c (.ptr 2 2 0 0)), (6, vi64 v.1)], [(0, .box 86 [cl 1 Ri64 v.2.1, ci64 v.2.2.1, cu64 v.2.2.2.1]), (1, .box 84 [ci64 0, .t (.v (.slice none 0 0))]), (2, .box 84 [ci64 p1, .ref 3 1 0 v.2.2.2.2.length]), (3, .row 45 false 1 v.2.2.2.2.length (Ru64 v.2.2.2.2))], 4⟩) (fun t : (List Int) × Int × Int × (List Int) => (.exit 0, ⟨[(4, .c (.ptr 1 2 0 0)), (5, .c (.ptr 2 2 0 0))], [(0, .box 86 [cl 1 Ri64 t.1, ci64 t.2.1, cu64 t.2.2.1]), (1, .box 84 [ci64 0, .t (.v (.slice none 0 0))]), (2, .box 84 [ci64 p1, .ref 3 1 0 t.2.2.2.length]), (3, .row 45 false 1 t.2.2.2.length (Ru64 t.2.2.2))], 4⟩)) (Conv.trans (conv_adoptB (id := 4) (ty0 := 84) (cs := [ci64 p1, .t (.v (.slice none 0 0))]) 1 (ty := 45) (sz := 1) (n := ([] : List Int).length) (f := Ru64 ([] : List Int)) (by kernel_rfl) (by kernel_rfl) rfl) (conv_re [(0, 0), (1, 1), (2, 4), (3, 7)] (by kernel_rfl))) (fun _ => tv) ?_ ?_
 ·
  clear l39 h
  intro v o h
  obtain ⟨x6, x7, x8, x9, x10⟩ := v
  replace h : rl_make_Deck_Bits_l1 p1 x6 x7 x8 x9 x10 = some o := h
  unfold rl_make_Deck_Bits_l1 at h
  refine AW.seq ?_
  refine AW.sg tt_ok0 [(13, vb (decide (x6 < (i64.wrap (p1.tdiv 64)))))] [] [] 8 [hn, hn, ho (p := (64 : Int) ≠ 0) (by decide)] (by kernel_rfl) ?_
  refine AW.co h (by kernel_rfl) (fun c15 h => ?_) (fun c15 h => ?_)
  ·
   refine AW.skip (AW.tn ?_)
   refine AW.seq (AW.block ?_)
   obtain ⟨y16, y17, e18, h⟩ := bind2_some h
   refine AW.sg tt_ok0 [(7, vu64 y16)] [0] [(0, .box 86 [cl 1 Ri64 y17.list, ci64 y17.at_, cu64 y17.state])] 10 [hn, hl [0] [] 0 (rl_make_Deck_Word_con (⟨x7, x8, x9⟩ : S_recordlinkmake_Deck) (y16, y17) e18)] (by kernel_rfl) ?_
   refine AW.seq ?_
   refine AW.join (ι := Int × (List Int) × Int × Int) (fun v => ⟨[(0, .c (.ptr 0 3 0 0)), (1, vi64 p1), (4, .c (.ptr 1 2 0 0)), (5, .c (.ptr 2 2 0 0)), (6, vi64 x6), (7, vu64 v.1)], [(0, .box 86 [cl 1 Ri64 v.2.1, ci64 v.2.2.1, cu64 v.2.2.2]), (1, .box 84 [ci64 0, .t (.v (.slice none 0 0))]), (2, .box 84 [ci64 p1, .ref 3 1 0 x10.length]), (3, .row 45 false 1 x10.length (Ru64 x10))], 4⟩) (fun v : Int × (List Int) × Int × Int => rl_make_Deck_Bits_k2 x6 x10 v.1 v.2.1 v.2.2.1 v.2.2.2 = some o) (fun v h => ?_) ?_
   ·
    obtain ⟨x19, x20, x21, x22⟩ := v
    replace h : rl_make_Deck_Bits_k2 x6 x10 x19 x20 x21 x22 = some o := h
    unfold rl_make_Deck_Bits_k2 at h
    refine AW.tn ?_
    obtain ⟨g23, h⟩ := ifc h
    refine AW.rg tt_ok0 [] [2, 3, 7, 8] [(2, .box 84 [ci64 p1, .ref 8 1 0 ((x10 ++ ([x19] : List Int)).length)]), (8, .row 45 false 1 (x10 ++ ([x19] : List Int)).length (Ru64 (x10 ++ ([x19] : List Int))))] 11 [hn, hn, hn, hlit 0 Eu64 1 (fun _ => rfl) ([x19] : List Int), happ 0 Eu64 1 8 x10 ([x19] : List Int) g23 (by decide)] (by kernel_rfl) ?_
    refine AW.inBlock_normal (AW.tn ?_)
    refine AW.rg tt_ok0 [(6, vi64 (i64.wrap (x6 + 1)))] [] [] 14 [] (by kernel_rfl) ?_
    exact lpn h (conv_re [(0, 0), (1, 1), (2, 2), (3, 8)] (by kernel_rfl))
   ·
    obtain ⟨y24, y25, e26, h⟩ := bind2_some h
    refine AW.sg tt_ok0 [(19, vi64 y24)] [0] [(0, .box 86 [cl 1 Ri64 y25.list, ci64 y25.at_, cu64 y25.state])] 11 [hn, hl [0] [] 0 (rl_make_Deck_Next_con y17 4 (y24, y25) e26)] (by kernel_rfl) ?_
    refine AW.block ?_
    refine AW.sg tt_ok0 [(20, vb (y24 == 0))] [] [] 13 [] (by kernel_rfl) ?_
    refine AW.co h (by kernel_rfl) (fun c27 h => ?_) (fun c27 h => ?_)
    ·
     obtain ⟨y28, y29, e30, h⟩ := bind2_some h
     obtain ⟨y31, y32, e33, h⟩ := bind2_some h
     refine AW.rg tt_ok0 [(7, vu64 (iand .u64 y16 (iand .u64 y28 y31)))] [0] [(0, .box 86 [cl 1 Ri64 y32.list, ci64 y32.at_, cu64 y32.state])] 19 [hn, hn, hl [0] [] 0 (rl_make_Deck_Word_con y25 (y28, y29) e30), hn, hl [0] [] 0 (rl_make_Deck_Word_con y29 (y31, y32) e33)] (by kernel_rfl) ?_
     refine AW.inBlock_normal ?_
     exact jl (iand .u64 y16 (iand .u64 y28 y31), y32.list, y32.at_, y32.state) h (conv_re [(0, 0), (1, 1), (2, 2), (3, 3)] (by kernel_rfl))
    ·
     refine AW.sg tt_ok0 [(29, vb (y24 == 1))] [] [] 15 [] (by kernel_rfl) ?_
     refine AW.co h (by kernel_rfl) (fun c34 h => ?_) (fun c34 h => ?_)
     ·
      refine AW.rg tt_ok0 [(7, vu64 0)] [] [] 16 [] (by kernel_rfl) ?_
      refine AW.inBlock_normal ?_
      exact jl (0, y25.list, y25.at_, y25.state) h (conv_re [(0, 0), (1, 1), (2, 2), (3, 3)] (by kernel_rfl))
     ·
      refine AW.skip (AW.inBlock_normal ?_)
      exact jl (y16, y25.list, y25.at_, y25.state) h (conv_re [(0, 0), (1, 1), (2, 2), (3, 3)] (by kernel_rfl))
  ·
   refine AW.exit (AW.thenQ_exit ?_)
   exact lpo h rfl (conv_re [(0, 0), (1, 1), (2, 2), (3, 3)] (by kernel_rfl))
 ·
  show (_ : Exit → St → Prop) (.exit 0) _
  refine AW.inBlock_hit (AW.tn ?_)
  refine AW.sg tt_ok0 [] [1] [(1, .box 84 [ci64 p1, .ref 3 1 0 x38.length])] 6 [] (by kernel_rfl) ?_
  refine AW.ret ?_
  obtain rfl := some_inj h
  exact fn0 (.inr rfl) [(0, 0), (1, 3)] 2 (.agg [ci64 p1, .ref 3 1 0 x38.length]) (by kernel_rfl)
/-! (*recordlink/recordlinkmake.Deck).Bits -/
set_option maxRecDepth 100000 in
theorem rl_make_Deck_Bits_conT (p0 : S_recordlinkmake_Deck) (p1 : Int) (r : S_api_Bits × S_recordlinkmake_Deck) (h : rl_make_Deck_Bits p0 p1 = some r) : Con Try.prog 63 [.c (.ptr 0 3 0 0), vi64 p1] [(0, .box 86 [cl 1 Ri64 p0.list, ci64 p0.at_, cu64 p0.state])] (.agg [ci64 r.1.Length, cl 1 Ru64 r.1.Words]) [(0, .box 86 [cl 1 Ri64 r.2.list, ci64 r.2.at_, cu64 r.2.state])] := by
 refine con_of tt_ok0 1 Try.func63 (by kernel_rfl) rfl (by kernel_rfl) (fun base X _ => AW.post ?_)
 unfold rl_make_Deck_Bits at h
 refine AW.sg tt_ok0 [(4, .c (.ptr 1 2 0 0))] [1] [(1, .box 84 [ci64 0, .t (.v (.slice none 0 0))])] 2 [] (by kernel_rfl) ?_
 refine AW.sg tt_ok0 [(5, .c (.ptr 4 2 0 0))] [4] [(4, .box 84 [ci64 p1, .t (.v (.slice none 0 0))])] 6 [] (by kernel_rfl) ?_
 refine AW.seq ?_
 refine AW.sg tt_ok0 [(6, vi64 0)] [] [] 7 [] (by kernel_rfl) ?_
 refine AW.block ?_
 obtain ⟨x35, x36, x37, x38, l39, h⟩ := bind4_some h
 refine AW.lp l39 (fun v => ⟨[(0, .c (.ptr 0 3 0 0)), (1, vi64 p1), (4, .c (.ptr 1 2 0 0)), (5, .c (.ptr 2 2 0 0)), (6, vi64 v.1)], [(0, .box 86 [cl 1 Ri64 v.2.1, ci64 v.2.2.1, cu64 v.2.2.2.1]), (1, .box 84 [ci64 0, .t (.v (.slice none 0 0))]), (2, .box 84 [ci64 p1, .ref 3 1 0 v.2.2.2.2.length]), (3, .row 45 false 1 v.2.2.2.2.length (Ru64 v.2.2.2.2))], 4⟩) (fun t : (List Int) × Int × Int × (List Int) => (.exit 0, ⟨[(4, .c (.ptr 1 2 0 0)), (5, .c (.ptr 2 2 0 0))], [(0, .box 86 [cl 1 Ri64 t.1, ci64 t.2.1, cu64 t.2.2.1]), (1, .box 84 [ci64 0, .t (.v (.slice none 0 0))]), (2, .box 84 [ci64 p1, .ref 3 1 0 t.2.2.2.length]), (3, .row 45 false 1 t.2.2.2.length (Ru64 t.2.2.2))], 4⟩)) (Conv.trans (conv_adoptB (id := 4) (ty0 := 84) (cs := [ci64 p1, .t (.v (.slice none 0 0))]) 1 (ty := 45) (sz := 1) (n := ([] : List Int).length) (f := Ru64 ([] : List Int)) (by kernel_rfl) (by kernel_rfl) rfl) (conv_re [(0, 0), (1, 1), (2, 4), (3, 7)] (by kernel_rfl))) (fun _ => tv) ?_ ?_
 ·
  clear l39 h
  intro v o h
  obtain ⟨x6, x7, x8, x9, x10⟩ := v
  replace h : rl_make_Deck_Bits_l1 p1 x6 x7 x8 x9 x10 = some o := h
  unfold rl_make_Deck_Bits_l1 at h
  refine AW.seq ?_
  refine AW.sg tt_ok0 [(13, vb (decide (x6 < (i64.wrap (p1.tdiv 64)))))] [] [] 8 [hn, hn, ho (p := (64 : Int) ≠ 0) (by decide)] (by kernel_rfl) ?_
  refine AW.co h (by kernel_rfl) (fun c15 h => ?_) (fun c15 h => ?_)
  ·
   refine AW.skip (AW.tn ?_)
   refine AW.seq (AW.block ?_)
   obtain ⟨y16, y17, e18, h⟩ := bind2_some h
   refine AW.sg tt_ok0 [(7, vu64 y16)] [0] [(0, .box 86 [cl 1 Ri64 y17.list, ci64 y17.at_, cu64 y17.state])] 10 [hn, hl [0] [] 0 (rl_make_Deck_Word_con (⟨x7, x8, x9⟩ : S_recordlinkmake_Deck) (y16, y17) e18)] (by kernel_rfl) ?_
   refine AW.seq ?_
   refine AW.join (ι := Int × (List Int) × Int × Int) (fun v => ⟨[(0, .c (.ptr 0 3 0 0)), (1, vi64 p1), (4, .c (.ptr 1 2 0 0)), (5, .c (.ptr 2 2 0 0)), (6, vi64 x6), (7, vu64 v.1)], [(0, .box 86 [cl 1 Ri64 v.2.1, ci64 v.2.2.1, cu64 v.2.2.2]), (1, .box 84 [ci64 0, .t (.v (.slice none 0 0))]), (2, .box 84 [ci64 p1, .ref 3 1 0 x10.length]), (3, .row 45 false 1 x10.length (Ru64 x10))], 4⟩) (fun v : Int × (List Int) × Int × Int => rl_make_Deck_Bits_k2 x6 x10 v.1 v.2.1 v.2.2.1 v.2.2.2 = some o) (fun v h => ?_) ?_
   ·
    obtain ⟨x19, x20, x21, x22⟩ := v
    replace h : rl_make_Deck_Bits_k2 x6 x10 x19 x20 x21 x22 = some o := h
    unfold rl_make_Deck_Bits_k2 at h
    refine AW.tn ?_
    obtain ⟨g23, h⟩ := ifc h
    refine AW.rg tt_ok0 [] [2, 3, 7, 8] [(2, .box 84 [ci64 p1, .ref 8 1 0 ((x10 ++ ([x19] : List Int)).length)]), (8, .row 45 false 1 (x10 ++ ([x19] : List Int)).length (Ru64 (x10 ++ ([x19] : List Int))))] 11 [hn, hn, hn, hlit 0 Eu64 1 (fun _ => rfl) ([x19] : List Int), happ 0 Eu64 1 8 x10 ([x19] : List Int) g23 (by decide)] (by kernel_rfl) ?_
    refine AW.inBlock_normal (AW.tn ?_)
    refine AW.rg tt_ok0 [(6, vi64 (i64.wrap (x6 + 1)))] [] [] 14 [] (by kernel_rfl) ?_
    exact lpn h (conv_re [(0, 0), (1, 1), (2, 2), (3, 8)] (by kernel_rfl))
   ·
    obtain ⟨y24, y25, e26, h⟩ := bind2_some h
    refine AW.sg tt_ok0 [(19, vi64 y24)] [0] [(0, .box 86 [cl 1 Ri64 y25.list, ci64 y25.at_, cu64 y25.state])] 11 [hn, hl [0] [] 0 (rl_make_Deck_Next_con y17 4 (y24, y25) e26)] (by kernel_rfl) ?_
    refine AW.block ?_
    refine AW.sg tt_ok0 [(20, vb (y24 == 0))] [] [] 13 [] (by kernel_rfl) ?_
    refine AW.co h (by kernel_rfl) (fun c27 h => ?_) (fun c27 h => ?_)
    ·
     obtain ⟨y28, y29, e30, h⟩ := bind2_some h
     obtain ⟨y31, y32, e33, h⟩ := bind2_some h
     refine AW.rg tt_ok0 [(7, vu64 (iand .u64 y16 (iand .u64 y28 y31)))] [0] [(0, .box 86 [cl 1 Ri64 y32.list, ci64 y32.at_, cu64 y32.state])] 19 [hn, hn, hl [0] [] 0 (rl_make_Deck_Word_con y25 (y28, y29) e30), hn, hl [0] [] 0 (rl_make_Deck_Word_con y29 (y31, y32) e33)] (by kernel_rfl) ?_
     refine AW.inBlock_normal ?_
     exact jl (iand .u64 y16 (iand .u64 y28 y31), y32.list, y32.at_, y32.state) h (conv_re [(0, 0), (1, 1), (2, 2), (3, 3)] (by kernel_rfl))
    ·
     refine AW.sg tt_ok0 [(29, vb (y24 == 1))] [] [] 15 [] (by kernel_rfl) ?_
     refine AW.co h (by kernel_rfl) (fun c34 h => ?_) (fun c34 h => ?_)
     ·
      refine AW.rg tt_ok0 [(7, vu64 0)] [] [] 16 [] (by kernel_rfl) ?_
      refine AW.inBlock_normal ?_
      exact jl (0, y25.list, y25.at_, y25.state) h (conv_re [(0, 0), (1, 1), (2, 2), (3, 3)] (by kernel_rfl))
     ·
      refine AW.skip (AW.inBlock_normal ?_)
      exact jl (y16, y25.list, y25.at_, y25.state) h (conv_re [(0, 0), (1, 1), (2, 2), (3, 3)] (by kernel_rfl))
  ·
   refine AW.exit (AW.thenQ_exit ?_)
   exact lpo h rfl (conv_re [(0, 0), (1, 1), (2, 2), (3, 3)] (by kernel_rfl))
 ·
  show (_ : Exit → St → Prop) (.exit 0) _
  refine AW.inBlock_hit (AW.tn ?_)
  refine AW.sg tt_ok0 [] [1] [(1, .box 84 [ci64 p1, .ref 3 1 0 x38.length])] 6 [] (by kernel_rfl) ?_
  refine AW.ret ?_
  obtain rfl := some_inj h
  exact fnR (.inr rfl) [(0, 0)] 1 (.agg [ci64 p1, cl 1 Ru64 x38]) (Conv.trans (cfz 3 45 1 x38.length (Ru64 x38) (by kernel_rfl)) (conv_box (id := 1) (ty := 84) (cs := [ci64 p1, .ref 3 1 0 x38.length]) (ds := [ci64 p1, cl 1 Ru64 x38]) (by kernel_rfl) ⟨CLe.refl _ _, CLe.ref (ty := 45) (f := Ru64 x38) (by kernel_rfl) le0, tv⟩)) (by kernel_rfl)
/-! recordlink/recordlinklaw23.records -/
noncomputable def rl_law23_records_l2 (p1 : Int) (y1 : S_api_Bits) (y4 : S_api_Bits) (x33 : Int) (x34 : List Int) (x35 : Int) (x36 : Int) (x37 : List S_api_Bits) : Option ((Int × (List Int) × Int × Int × (List S_api_Bits)) ⊕ ((List Int) × Int × Int × (List S_api_Bits))) := if (decide (x33 < p1)) = true then (bind2 (rl_make_Deck_Next (⟨x34, x35, x36⟩ : S_recordlinkmake_Deck) 3) fun y43 y44 => (if 0 ≤ y43 then (if y43 < ((([y1, y4, (⟨0, ([] : List Int)⟩ : S_api_Bits)] : List S_api_Bits).length : Nat) : Int) then (if x37.length + ([(([y1, y4, (⟨0, ([] : List Int)⟩ : S_api_Bits)] : List S_api_Bits).getD (0 + y43.toNat) dS_api_Bits)] : List S_api_Bits).length ≤ 1099511627776 then (some (.inl (i64.wrap (x33 + 1), y44.list, y44.at_, y44.state, (x37 ++ ([(([y1, y4, (⟨0, ([] : List Int)⟩ : S_api_Bits)] : List S_api_Bits).getD (0 + y43.toNat) dS_api_Bits)] : List S_api_Bits))))) else none) else none) else none)) else (some (.inr (x34, x35, x36, x37)))
noncomputable def rl_law23_records_l1 (p1 : Int) (y1 : S_api_Bits) (y4 : S_api_Bits) (x15 : List S_api_Encoded) (x16 : Int) (x17 : List Int) (x18 : Int) (x19 : Int) : Option (((List S_api_Encoded) × Int × (List Int) × Int × Int) ⊕ ((List S_api_Encoded) × (List Int) × Int × Int)) := if (decide (x16 > 0)) = true then (bind2 (rl_make_Deck_Next (⟨x17, x18, x19⟩ : S_recordlinkmake_Deck) 9) fun y25 y26 => (bind4 (loop (fun v : Int × (List Int) × Int × Int × (List S_api_Bits) => rl_law23_records_l2 p1 y1 y4 v.1 v.2.1 v.2.2.1 v.2.2.2.1 v.2.2.2.2) (0, y26.list, y26.at_, y26.state, ([] : List S_api_Bits))) fun x49 x50 x51 x52 => (if x15.length + ([(⟨i64.wrap (1 + y25), 1, x52⟩ : S_api_Encoded)] : List S_api_Encoded).length ≤ 1099511627776 then (some (.inl ((x15 ++ ([(⟨i64.wrap (1 + y25), 1, x52⟩ : S_api_Encoded)] : List S_api_Encoded)), i64.wrap (x16 - 1), x49, x50, x51))) else none))) else (some (.inr (x15, x17, x18, x19)))
noncomputable def rl_law23_records (p0 : S_recordlinkmake_Deck) (p1 : Int) (p2 : Int) : Option ((List S_api_Encoded) × S_recordlinkmake_Deck) := bind2 (rl_make_Deck_Bits p0 64) fun y1 y2 => (bind2 (rl_make_Deck_Bits y2 64) fun y4 y5 => (bind2 (rl_make_Deck_Next y5 (i64.wrap (p2 + 1))) fun y7 y8 => (bind4 (loop (fun v : (List S_api_Encoded) × Int × (List Int) × Int × Int => rl_law23_records_l1 p1 y1 y4 v.1 v.2.1 v.2.2.1 v.2.2.2.1 v.2.2.2.2) (([] : List S_api_Encoded), y7, y8.list, y8.at_, y8.state)) fun x55 x56 x57 x58 => (some (x55, (⟨x56, x57, x58⟩ : S_recordlinkmake_Deck))))))
set_option maxRecDepth 100000 in
theorem rl_law23_records_con (p0 : S_recordlinkmake_Deck) (p1 : Int) (p2 : Int) (r : (List S_api_Encoded) × S_recordlinkmake_Deck) (h : rl_law23_records p0 p1 p2 = some r) : Con Try.prog 35 [.c (.ptr 0 3 0 0), vi64 p1, vi64 p2] [(0, .box 86 [cl 1 Ri64 p0.list, ci64 p0.at_, cu64 p0.state])] (.c (.ref 1 3 0 r.1.length)) [(0, .box 86 [cl 1 Ri64 r.2.list, ci64 r.2.at_, cu64 r.2.state]), (1, .row 40 false 3 r.1.length (RS_api_Encoded r.1))] := by
 refine con_of tt_ok0 1 Try.func35 (by kernel_rfl) rfl (by kernel_rfl) (fun base X _ => AW.post ?_)
 unfold rl_law23_records at h
 refine AW.sg tt_ok0 [] [] [] 2 [] (by kernel_rfl) ?_
 obtain ⟨y1, y2, e3, h⟩ := bind2_some h
 obtain ⟨y4, y5, e6, h⟩ := bind2_some h
 refine AW.sg tt_ok0 [(7, .c (.ref 5 2 0 (([y1, y4, (⟨0, ([] : List Int)⟩ : S_api_Bits)] : List S_api_Bits).length)))] [0, 5] [(5, .row 84 false 2 ([y1, y4, (⟨0, ([] : List Int)⟩ : S_api_Bits)] : List S_api_Bits).length (RS_api_Bits ([y1, y4, (⟨0, ([] : List Int)⟩ : S_api_Bits)] : List S_api_Bits))), (0, .box 86 [cl 1 Ri64 y5.list, ci64 y5.at_, cu64 y5.state])] 7 [hn, hl [0] [] 0 (rl_make_Deck_Bits_conT p0 64 (y1, y2) e3), hn, hl [0] [] 0 (rl_make_Deck_Bits_conT y2 64 (y4, y5) e6), hn, hr (([y1, y4, (⟨0, ([] : List Int)⟩ : S_api_Bits)] : List S_api_Bits).length) (RS_api_Bits ([y1, y4, (⟨0, ([] : List Int)⟩ : S_api_Bits)] : List S_api_Bits)) (p := 3 = ([y1, y4, (⟨0, ([] : List Int)⟩ : S_api_Bits)] : List S_api_Bits).length ∧ ∀ i, i < ([y1, y4, (⟨0, ([] : List Int)⟩ : S_api_Bits)] : List S_api_Bits).length → ∀ j, j < 2 → TLe ((rowOf [.v (.int .i64 y1.Length), .tree y1.Words.length 1 (Ru64 y1.Words), .v (.int .i64 y4.Length), .tree y4.Words.length 1 (Ru64 y4.Words), .v (.int .i64 0), .v (.slice none 0 0)] 2) i j) (RS_api_Bits ([y1, y4, (⟨0, ([] : List Int)⟩ : S_api_Bits)] : List S_api_Bits) i j)) (⟨rfl, lit_row (n := 3) (sz := 2) ⟨⟨⟨tv, ⟨⟨tv, TLe.refl _⟩, TLe.refl _⟩⟩, ⟨⟨tv, TLe.refl _⟩, TLe.refl _⟩⟩, ⟨⟨tv, TLe.refl _⟩, TLe.nil rfl⟩⟩⟩)] (by kernel_rfl) ?_
 refine AW.sg tt_ok0 [(8, .c (.t (.v (.slice none 0 0))))] [] [] 8 [] (by kernel_rfl) ?_
 refine AW.seq ?_
 obtain ⟨y7, y8, e9, h⟩ := bind2_some h
 refine AW.sg tt_ok0 [(9, vi64 y7)] [0] [(0, .box 86 [cl 1 Ri64 y8.list, ci64 y8.at_, cu64 y8.state])] 12 [hn, hn, hn, hl [0] [] 0 (rl_make_Deck_Next_con y5 (i64.wrap (p2 + 1)) (y7, y8) e9)] (by kernel_rfl) ?_
 refine AW.block ?_
 obtain ⟨x55, x56, x57, x58, l59, h⟩ := bind4_some h
 refine AW.lp l59 (fun v => ⟨[(0, .c (.ptr 0 3 0 0)), (1, vi64 p1), (7, .c (.ref 1 2 0 (([y1, y4, (⟨0, ([] : List Int)⟩ : S_api_Bits)] : List S_api_Bits).length))), (8, .c (.ref 2 3 0 v.1.length)), (9, vi64 v.2.1)], [(0, .box 86 [cl 1 Ri64 v.2.2.1, ci64 v.2.2.2.1, cu64 v.2.2.2.2]), (1, .row 84 false 2 ([y1, y4, (⟨0, ([] : List Int)⟩ : S_api_Bits)] : List S_api_Bits).length (RS_api_Bits ([y1, y4, (⟨0, ([] : List Int)⟩ : S_api_Bits)] : List S_api_Bits))), (2, .row 40 false 3 v.1.length (RS_api_Encoded v.1))], 3⟩) (fun t : (List S_api_Encoded) × (List Int) × Int × Int => (.exit 0, ⟨[(8, .c (.ref 1 3 0 t.1.length))], [(0, .box 86 [cl 1 Ri64 t.2.1, ci64 t.2.2.1, cu64 t.2.2.2]), (1, .row 40 false 3 t.1.length (RS_api_Encoded t.1))], 2⟩)) (Conv.trans (conv_adopt (t := 8) (ty := 40) (sz := 3) (n := ([] : List S_api_Encoded).length) (f := RS_api_Encoded ([] : List S_api_Encoded)) (by kernel_rfl) rfl) (conv_re [(0, 0), (1, 5), (2, 12)] (by kernel_rfl))) (fun _ => tv) ?_ ?_
 ·
  clear l59 h
  intro v o h
  obtain ⟨x15, x16, x17, x18, x19⟩ := v
  replace h : rl_law23_records_l1 p1 y1 y4 x15 x16 x17 x18 x19 = some o := h
  unfold rl_law23_records_l1 at h
  refine AW.seq ?_
  refine AW.sg tt_ok0 [(23, vb (decide (x16 > 0)))] [] [] 5 [] (by kernel_rfl) ?_
  refine AW.co h (by kernel_rfl) (fun c24 h => ?_) (fun c24 h => ?_)
  ·
   refine AW.skip (AW.tn ?_)
   refine AW.seq (AW.block ?_)
   obtain ⟨y25, y26, e27, h⟩ := bind2_some h
   refine AW.sg tt_ok0 [(10, .c (.ptr 8 3 0 0))] [0, 8] [(8, .box 40 [ci64 (i64.wrap (1 + y25)), ci64 1, .t (.v (.slice none 0 0))]), (0, .box 86 [cl 1 Ri64 y26.list, ci64 y26.at_, cu64 y26.state])] 10 [hn, hl [0] [] 0 (rl_make_Deck_Next_con (⟨x17, x18, x19⟩ : S_recordlinkmake_Deck) 9 (y25, y26) e27)] (by kernel_rfl) ?_
   refine AW.seq ?_
   refine AW.sg tt_ok0 [(11, vi64 0)] [] [] 11 [] (by kernel_rfl) ?_
   refine AW.block ?_
   obtain ⟨x49, x50, x51, x52, l54, h⟩ := bind4_some h
   refine AW.lp l54 (fun v => ⟨[(0, .c (.ptr 0 3 0 0)), (1, vi64 p1), (7, .c (.ref 1 2 0 (([y1, y4, (⟨0, ([] : List Int)⟩ : S_api_Bits)] : List S_api_Bits).length))), (8, .c (.ref 2 3 0 x15.length)), (9, vi64 x16), (10, .c (.ptr 3 3 0 0)), (11, vi64 v.1)], [(0, .box 86 [cl 1 Ri64 v.2.1, ci64 v.2.2.1, cu64 v.2.2.2.1]), (1, .row 84 false 2 ([y1, y4, (⟨0, ([] : List Int)⟩ : S_api_Bits)] : List S_api_Bits).length (RS_api_Bits ([y1, y4, (⟨0, ([] : List Int)⟩ : S_api_Bits)] : List S_api_Bits))), (2, .row 40 false 3 x15.length (RS_api_Encoded x15)), (3, .box 40 [ci64 (i64.wrap (1 + y25)), ci64 1, .ref 4 2 0 v.2.2.2.2.length]), (4, .row 84 false 2 v.2.2.2.2.length (RS_api_Bits v.2.2.2.2))], 5⟩) (fun t : (List Int) × Int × Int × (List S_api_Bits) => (.exit 2, ⟨[(0, .c (.ptr 0 3 0 0)), (1, vi64 p1), (7, .c (.ref 1 2 0 (([y1, y4, (⟨0, ([] : List Int)⟩ : S_api_Bits)] : List S_api_Bits).length))), (8, .c (.ref 2 3 0 x15.length)), (9, vi64 x16), (10, .c (.ptr 3 3 0 0))], [(0, .box 86 [cl 1 Ri64 t.1, ci64 t.2.1, cu64 t.2.2.1]), (1, .row 84 false 2 ([y1, y4, (⟨0, ([] : List Int)⟩ : S_api_Bits)] : List S_api_Bits).length (RS_api_Bits ([y1, y4, (⟨0, ([] : List Int)⟩ : S_api_Bits)] : List S_api_Bits))), (2, .row 40 false 3 x15.length (RS_api_Encoded x15)), (3, .box 40 [ci64 (i64.wrap (1 + y25)), ci64 1, .ref 4 2 0 t.2.2.2.length]), (4, .row 84 false 2 t.2.2.2.length (RS_api_Bits t.2.2.2))], 5⟩)) (Conv.trans (conv_adoptB (id := 8) (ty0 := 40) (cs := [ci64 (i64.wrap (1 + y25)), ci64 1, .t (.v (.slice none 0 0))]) 2 (ty := 84) (sz := 2) (n := ([] : List S_api_Bits).length) (f := RS_api_Bits ([] : List S_api_Bits)) (by kernel_rfl) (by kernel_rfl) rfl) (conv_re [(0, 0), (1, 1), (2, 2), (3, 8), (4, 11)] (by kernel_rfl))) (fun _ => tv) ?_ ?_
   ·
    clear l54 h
    intro v o h
    obtain ⟨x33, x34, x35, x36, x37⟩ := v
    replace h : rl_law23_records_l2 p1 y1 y4 x33 x34 x35 x36 x37 = some o := h
    unfold rl_law23_records_l2 at h
    refine AW.seq ?_
    refine AW.sg tt_ok0 [(32, vb (decide (x33 < p1)))] [] [] 8 [] (by kernel_rfl) ?_
    refine AW.co h (by kernel_rfl) (fun c42 h => ?_) (fun c42 h => ?_)
    ·
     refine AW.skip (AW.tn ?_)
     refine AW.seq (AW.block ?_)
     obtain ⟨y43, y44, e45, h⟩ := bind2_some h
     obtain ⟨g46, g47, h⟩ := ifd h
     obtain ⟨g48, h⟩ := ifc h
     refine AW.rd tt_ok0 mo0 [[], [], [], [], [0], [], [], [14], [15, 4], [], [3]] [] [(3, .box 40 [ci64 (i64.wrap (1 + y25)), ci64 1, .ref 15 2 0 ((x37 ++ ([(([y1, y4, (⟨0, ([] : List Int)⟩ : S_api_Bits)] : List S_api_Bits).getD (0 + y43.toNat) dS_api_Bits)] : List S_api_Bits)).length)]), (15, .row 84 false 2 (x37 ++ ([(([y1, y4, (⟨0, ([] : List Int)⟩ : S_api_Bits)] : List S_api_Bits).getD (0 + y43.toNat) dS_api_Bits)] : List S_api_Bits)).length (RS_api_Bits (x37 ++ ([(([y1, y4, (⟨0, ([] : List Int)⟩ : S_api_Bits)] : List S_api_Bits).getD (0 + y43.toNat) dS_api_Bits)] : List S_api_Bits)))), (0, .box 86 [cl 1 Ri64 y44.list, ci64 y44.at_, cu64 y44.state])] 18 [hn, hn, hn, hn, hl [0] [] 0 (rl_make_Deck_Next_con (⟨x34, x35, x36⟩ : S_recordlinkmake_Deck) 3 (y43, y44) e45), hq g46 g47, ho (p := (0 + y43.toNat) < ([y1, y4, (⟨0, ([] : List Int)⟩ : S_api_Bits)] : List S_api_Bits).length) (by have h1 : 0 ≤ y43 := g46; have h2 : y43 < ((([y1, y4, (⟨0, ([] : List Int)⟩ : S_api_Bits)] : List S_api_Bits).length : Nat) : Int) := g47; omega), hlit dS_api_Bits ES_api_Bits 2 (fun _ => rfl) ([(([y1, y4, (⟨0, ([] : List Int)⟩ : S_api_Bits)] : List S_api_Bits).getD (0 + y43.toNat) dS_api_Bits)] : List S_api_Bits), happ dS_api_Bits ES_api_Bits 2 32 x37 ([(([y1, y4, (⟨0, ([] : List Int)⟩ : S_api_Bits)] : List S_api_Bits).getD (0 + y43.toNat) dS_api_Bits)] : List S_api_Bits) g48 (by decide)] (by kernel_rfl) ?_
     refine AW.inBlock_normal (AW.tn ?_)
     refine AW.rg tt_ok0 [(11, vi64 (i64.wrap (x33 + 1)))] [] [] 21 [] (by kernel_rfl) ?_
     exact lpn h (conv_re [(0, 0), (1, 1), (2, 2), (3, 3), (4, 15)] (by kernel_rfl))
    ·
     refine AW.exit (AW.thenQ_exit ?_)
     exact lpo h rfl (conv_re [(0, 0), (1, 1), (2, 2), (3, 3), (4, 4)] (by kernel_rfl))
   ·
    show (_ : Exit → St → Prop) (.exit 2) _
    refine AW.inBlock_hit (AW.tn ?_)
    refine AW.pre (Conv.trans (cfz 4 84 2 x52.length (RS_api_Bits x52) (by kernel_rfl)) (conv_box (id := 3) (ty := 40) (cs := [ci64 (i64.wrap (1 + y25)), ci64 1, .ref 4 2 0 x52.length]) (ds := [ci64 (i64.wrap (1 + y25)), ci64 1, cl 2 RS_api_Bits x52]) (by kernel_rfl) ⟨CLe.refl _ _, CLe.refl _ _, CLe.ref (ty := 84) (f := RS_api_Bits x52) (by kernel_rfl) le0, tv⟩)) ?_
    obtain ⟨g53, h⟩ := ifc h
    refine AW.rg tt_ok0 [(8, .c (.ref 8 3 0 ((x15 ++ ([(⟨i64.wrap (1 + y25), 1, x52⟩ : S_api_Encoded)] : List S_api_Encoded)).length)))] [2, 7, 8] [(8, .row 40 false 3 (x15 ++ ([(⟨i64.wrap (1 + y25), 1, x52⟩ : S_api_Encoded)] : List S_api_Encoded)).length (RS_api_Encoded (x15 ++ ([(⟨i64.wrap (1 + y25), 1, x52⟩ : S_api_Encoded)] : List S_api_Encoded))))] 10 [hn, hn, hlit dS_api_Encoded ES_api_Encoded 3 (fun _ => rfl) ([(⟨i64.wrap (1 + y25), 1, x52⟩ : S_api_Encoded)] : List S_api_Encoded), happ dS_api_Encoded ES_api_Encoded 3 40 x15 ([(⟨i64.wrap (1 + y25), 1, x52⟩ : S_api_Encoded)] : List S_api_Encoded) g53 (by decide)] (by kernel_rfl) ?_
    refine AW.inBlock_normal (AW.tn ?_)
    refine AW.rg tt_ok0 [(9, vi64 (i64.wrap (x16 - 1)))] [] [] 13 [] (by kernel_rfl) ?_
    exact lpn h (conv_re [(0, 0), (1, 1), (2, 8)] (by kernel_rfl))
  ·
   refine AW.exit (AW.thenQ_exit ?_)
   exact lpo h rfl (conv_re [(0, 0), (1, 2)] (by kernel_rfl))
 ·
  show (_ : Exit → St → Prop) (.exit 0) _
  refine AW.inBlock_hit (AW.tn ?_)
  refine AW.sg tt_ok0 [(6, .c (.ref 1 3 0 x55.length))] [] [] 4 [] (by kernel_rfl) ?_
  refine AW.ret ?_
  obtain rfl := some_inj h
  exact fn0 (.inr rfl) [(0, 0), (1, 1)] 2 (.c (.ref 1 3 0 x55.length)) (by kernel_rfl)
/-! recordlink/recordlinklaw23.couples -/
noncomputable def rl_law23_couples_k2 (p1 : List S_api_Encoded) (p2 : List S_api_Encoded) (x9 : List S_api_Couple) (x10 : Int) (x11 : List Int) (x12 : Int) (x13 : Int) (x18 : Bool) : Option (((List S_api_Couple) × Int × (List Int) × Int × Int) ⊕ ((List S_api_Couple) × (List Int) × Int × Int)) := if x18 = true then (bind2 (rl_make_Deck_Next (⟨x11, x12, x13⟩ : S_recordlinkmake_Deck) (p1.length : Int)) fun y20 y21 => (if 0 ≤ y20 then (if y20 < (p1.length : Int) then (bind2 (rl_make_Deck_Next y21 (p2.length : Int)) fun y25 y26 => (if 0 ≤ y25 then (if y25 < (p2.length : Int) then (if x9.length + ([(⟨(p1.getD y20.toNat dS_api_Encoded).ID, (p2.getD y25.toNat dS_api_Encoded).ID⟩ : S_api_Couple)] : List S_api_Couple).length ≤ 1099511627776 then (some (.inl ((x9 ++ ([(⟨(p1.getD y20.toNat dS_api_Encoded).ID, (p2.getD y25.toNat dS_api_Encoded).ID⟩ : S_api_Couple)] : List S_api_Couple)), i64.wrap (x10 - 1), y26.list, y26.at_, y26.state))) else none) else none) else none)) else none) else none)) else (some (.inr (x9, x11, x12, x13)))
noncomputable def rl_law23_couples_l1 (p1 : List S_api_Encoded) (p2 : List S_api_Encoded) (x9 : List S_api_Couple) (x10 : Int) (x11 : List Int) (x12 : Int) (x13 : Int) : Option (((List S_api_Couple) × Int × (List Int) × Int × Int) ⊕ ((List S_api_Couple) × (List Int) × Int × Int)) := if (decide (x10 > 0)) = true then (if (decide ((p1.length : Int) > 0)) = true then (rl_law23_couples_k2 p1 p2 x9 x10 x11 x12 x13 (decide ((p2.length : Int) > 0))) else (rl_law23_couples_k2 p1 p2 x9 x10 x11 x12 x13 false)) else (rl_law23_couples_k2 p1 p2 x9 x10 x11 x12 x13 false)
noncomputable def rl_law23_couples (p0 : S_recordlinkmake_Deck) (p1 : List S_api_Encoded) (p2 : List S_api_Encoded) (p3 : Int) : Option ((List S_api_Couple) × S_recordlinkmake_Deck) := bind2 (rl_make_Deck_Next p0 (i64.wrap (p3 + 1))) fun y1 y2 => (bind4 (loop (fun v : (List S_api_Couple) × Int × (List Int) × Int × Int => rl_law23_couples_l1 p1 p2 v.1 v.2.1 v.2.2.1 v.2.2.2.1 v.2.2.2.2) (([] : List S_api_Couple), y1, y2.list, y2.at_, y2.state)) fun x33 x34 x35 x36 => (some (x33, (⟨x34, x35, x36⟩ : S_recordlinkmake_Deck))))
set_option maxRecDepth 100000 in
theorem rl_law23_couples_con (p0 : S_recordlinkmake_Deck) (p1 : List S_api_Encoded) (p2 : List S_api_Encoded) (p3 : Int) (r : (List S_api_Couple) × S_recordlinkmake_Deck) (h : rl_law23_couples p0 p1 p2 p3 = some r) : Con Try.prog 36 [.c (.ptr 0 3 0 0), vl 3 RS_api_Encoded p1, vl 3 RS_api_Encoded p2, vi64 p3] [(0, .box 86 [cl 1 Ri64 p0.list, ci64 p0.at_, cu64 p0.state])] (.c (.ref 1 2 0 r.1.length)) [(0, .box 86 [cl 1 Ri64 r.2.list, ci64 r.2.at_, cu64 r.2.state]), (1, .row 72 false 2 r.1.length (RS_api_Couple r.1))] := by
 refine con_of tt_ok0 1 Try.func36 (by kernel_rfl) rfl (by kernel_rfl) (fun base X _ => AW.post ?_)
 unfold rl_law23_couples at h
 refine AW.sg tt_ok0 [] [] [] 2 [] (by kernel_rfl) ?_
 refine AW.sg tt_ok0 [(9, .c (.t (.v (.slice none 0 0))))] [] [] 3 [] (by kernel_rfl) ?_
 refine AW.seq ?_
 obtain ⟨y1, y2, e3, h⟩ := bind2_some h
 refine AW.sg tt_ok0 [(10, vi64 y1)] [0] [(0, .box 86 [cl 1 Ri64 y2.list, ci64 y2.at_, cu64 y2.state])] 7 [hn, hn, hn, hl [0] [] 0 (rl_make_Deck_Next_con p0 (i64.wrap (p3 + 1)) (y1, y2) e3)] (by kernel_rfl) ?_
 refine AW.block ?_
 obtain ⟨x33, x34, x35, x36, l37, h⟩ := bind4_some h
 refine AW.lp l37 (fun v => ⟨[(0, .c (.ptr 0 3 0 0)), (1, vl 3 RS_api_Encoded p1), (2, vl 3 RS_api_Encoded p2), (9, .c (.ref 1 2 0 v.1.length)), (10, vi64 v.2.1)], [(0, .box 86 [cl 1 Ri64 v.2.2.1, ci64 v.2.2.2.1, cu64 v.2.2.2.2]), (1, .row 72 false 2 v.1.length (RS_api_Couple v.1))], 2⟩) (fun t : (List S_api_Couple) × (List Int) × Int × Int => (.exit 0, ⟨[(9, .c (.ref 1 2 0 t.1.length))], [(0, .box 86 [cl 1 Ri64 t.2.1, ci64 t.2.2.1, cu64 t.2.2.2]), (1, .row 72 false 2 t.1.length (RS_api_Couple t.1))], 2⟩)) (Conv.trans (conv_adopt (t := 9) (ty := 72) (sz := 2) (n := ([] : List S_api_Couple).length) (f := RS_api_Couple ([] : List S_api_Couple)) (by kernel_rfl) rfl) (conv_re [(0, 0), (1, 7)] (by kernel_rfl))) (fun _ => tv) ?_ ?_
 ·
  clear l37 h
  intro v o h
  obtain ⟨x9, x10, x11, x12, x13⟩ := v
  replace h : rl_law23_couples_l1 p1 p2 x9 x10 x11 x12 x13 = some o := h
  unfold rl_law23_couples_l1 at h
  refine AW.seq (AW.seq ?_)
  refine AW.join (ι := Bool) (fun v => ⟨[(0, .c (.ptr 0 3 0 0)), (1, vl 3 RS_api_Encoded p1), (2, vl 3 RS_api_Encoded p2), (9, .c (.ref 1 2 0 x9.length)), (10, vi64 x10), (26, vb v)], [(0, .box 86 [cl 1 Ri64 x11, ci64 x12, cu64 x13]), (1, .row 72 false 2 x9.length (RS_api_Couple x9))], 2⟩) (fun v : Bool => rl_law23_couples_k2 p1 p2 x9 x10 x11 x12 x13 v = some o) (fun x18 h => ?_) ?_
  ·
   unfold rl_law23_couples_k2 at h
   refine AW.tn ?_
   refine AW.co h (by kernel_rfl) (fun c19 h => ?_) (fun c19 h => ?_)
   ·
    refine AW.skip (AW.tn ?_)
    refine AW.seq (AW.block ?_)
    obtain ⟨y20, y21, e22, h⟩ := bind2_some h
    obtain ⟨g23, g24, h⟩ := ifd h
    obtain ⟨y25, y26, e27, h⟩ := bind2_some h
    obtain ⟨g28, g29, h⟩ := ifd h
    obtain ⟨g30, h⟩ := ifc h
    refine AW.rd tt_ok0 mo0 [[], [], [], [], [], [0], [], [], [], [], [], [], [], [0], [], [], [], [], [18], [19, 1]] [(9, .c (.ref 19 2 0 ((x9 ++ ([(⟨(p1.getD y20.toNat dS_api_Encoded).ID, (p2.getD y25.toNat dS_api_Encoded).ID⟩ : S_api_Couple)] : List S_api_Couple)).length)))] [(19, .row 72 false 2 (x9 ++ ([(⟨(p1.getD y20.toNat dS_api_Encoded).ID, (p2.getD y25.toNat dS_api_Encoded).ID⟩ : S_api_Couple)] : List S_api_Couple)).length (RS_api_Couple (x9 ++ ([(⟨(p1.getD y20.toNat dS_api_Encoded).ID, (p2.getD y25.toNat dS_api_Encoded).ID⟩ : S_api_Couple)] : List S_api_Couple)))), (0, .box 86 [cl 1 Ri64 y26.list, ci64 y26.at_, cu64 y26.state])] 21 [hn, hn, hn, hn, hn, hl [0] [] 0 (rl_make_Deck_Next_con (⟨x11, x12, x13⟩ : S_recordlinkmake_Deck) (p1.length : Int) (y20, y21) e22), hq g23 g24, hn, hn, hn, hn, hn, hn, hl [0] [] 0 (rl_make_Deck_Next_con y21 (p2.length : Int) (y25, y26) e27), hq g28 g29, hn, hn, hn, hlit dS_api_Couple ES_api_Couple 2 (fun _ => rfl) ([(⟨(p1.getD y20.toNat dS_api_Encoded).ID, (p2.getD y25.toNat dS_api_Encoded).ID⟩ : S_api_Couple)] : List S_api_Couple), happ dS_api_Couple ES_api_Couple 2 16 x9 ([(⟨(p1.getD y20.toNat dS_api_Encoded).ID, (p2.getD y25.toNat dS_api_Encoded).ID⟩ : S_api_Couple)] : List S_api_Couple) g30 (by decide)] (by kernel_rfl) ?_
    refine AW.inBlock_normal (AW.tn ?_)
    refine AW.rg tt_ok0 [(10, vi64 (i64.wrap (x10 - 1)))] [] [] 24 [] (by kernel_rfl) ?_
    exact lpn h (conv_re [(0, 0), (1, 19)] (by kernel_rfl))
   ·
    refine AW.exit (AW.thenQ_exit ?_)
    exact lpo h rfl (conv_re [(0, 0), (1, 1)] (by kernel_rfl))
  ·
   rcases ifs h with ⟨c31, h⟩ | ⟨c31, h⟩
   ·
    rcases ifs h with ⟨c32, h⟩ | ⟨c32, h⟩
    ·
     refine AW.rg tt_ok0 [(26, vb (decide ((p2.length : Int) > 0)))] [] [] 14 [hn, ht c31, hn, hn, hn, ht c32] (by kernel_rfl) ?_
     exact jl (decide ((p2.length : Int) > 0)) h (conv_re [(0, 0), (1, 1)] (by kernel_rfl))
    ·
     refine AW.rg tt_ok0 [(26, vb false)] [] [] 14 [hn, ht c31, hn, hn, hn, hf c32] (by kernel_rfl) ?_
     exact jl false h (conv_re [(0, 0), (1, 1)] (by kernel_rfl))
   ·
    refine AW.rg tt_ok0 [(26, vb false)] [] [] 14 [hn, hf c31] (by kernel_rfl) ?_
    exact jl false h (conv_re [(0, 0), (1, 1)] (by kernel_rfl))
 ·
  show (_ : Exit → St → Prop) (.exit 0) _
  refine AW.inBlock_hit (AW.tn ?_)
  refine AW.sg tt_ok0 [(8, .c (.ref 1 2 0 x33.length))] [] [] 4 [] (by kernel_rfl) ?_
  refine AW.ret ?_
  obtain rfl := some_inj h
  exact fn0 (.inr rfl) [(0, 0), (1, 1)] 2 (.c (.ref 1 2 0 x33.length)) (by kernel_rfl)
def ElS_api_Couple (x : List S_api_Couple) : List T := [.tree x.length 2 (RS_api_Couple x)]
def RlS_api_Couple (xs : List (List S_api_Couple)) : Nat → Nat → T := rowL ([] : List S_api_Couple) ElS_api_Couple xs
def Eli64 (x : List Int) : List T := [.tree x.length 1 (Ri64 x)]
def Rli64 (xs : List (List Int)) : Nat → Nat → T := rowL ([] : List Int) Eli64 xs
/-! recordlink/recordlinkref17.Size -/
noncomputable def rl_ref17_Size_l1 (p0 : Int) (x3 : Int) (x4 : Int) : Option ((Int × Int) ⊕ Int) := if (decide (x4 < p0)) = true then (some (.inl (i64.wrap (x3 * 3), i64.wrap (x4 + 1)))) else (some (.inr x3))
noncomputable def rl_ref17_Size (p0 : Int) : Option Int := (loop (fun v : Int × Int => rl_ref17_Size_l1 p0 v.1 v.2) (1, 0)).bind fun x7 => (some x7)
set_option maxRecDepth 100000 in
theorem rl_ref17_Size_con (p0 : Int) (r : Int) (h : rl_ref17_Size p0 = some r) : Con Try.prog 72 [vi64 p0] [] (vi64 r) [] := by
 refine con_of tt_ok0 0 Try.func72 (by kernel_rfl) rfl (by kernel_rfl) (fun base X _ => AW.post ?_)
 unfold rl_ref17_Size at h
 refine AW.sg tt_ok0 [] [] [] 1 [] (by kernel_rfl) ?_
 refine AW.sg tt_ok0 [(3, vi64 1)] [] [] 2 [] (by kernel_rfl) ?_
 refine AW.seq ?_
 refine AW.sg tt_ok0 [(4, vi64 0)] [] [] 3 [] (by kernel_rfl) ?_
 refine AW.block ?_
 obtain ⟨x7, l8, h⟩ := bnd_some h
 refine AW.lp l8 (fun v => ⟨[(0, vi64 p0), (3, vi64 v.1), (4, vi64 v.2)], [], 0⟩) (fun t : Int => (.exit 0, ⟨[(3, vi64 t)], [], 0⟩)) (conv_re [] (by kernel_rfl)) (fun _ => tv) ?_ ?_
 ·
  clear l8 h
  intro v o h
  obtain ⟨x3, x4⟩ := v
  replace h : rl_ref17_Size_l1 p0 x3 x4 = some o := h
  unfold rl_ref17_Size_l1 at h
  refine AW.seq ?_
  refine AW.sg tt_ok0 [(7, vb (decide (x4 < p0)))] [] [] 3 [] (by kernel_rfl) ?_
  refine AW.co h (by kernel_rfl) (fun c6 h => ?_) (fun c6 h => ?_)
  ·
   refine AW.skip (AW.tn ?_)
   refine AW.seq (AW.block ?_)
   refine AW.rg tt_ok0 [(3, vi64 (i64.wrap (x3 * 3)))] [] [] 6 [] (by kernel_rfl) ?_
   refine AW.inBlock_normal (AW.tn ?_)
   refine AW.rg tt_ok0 [(4, vi64 (i64.wrap (x4 + 1)))] [] [] 9 [] (by kernel_rfl) ?_
   exact lpn h (conv_re [] (by kernel_rfl))
  ·
   refine AW.exit (AW.thenQ_exit ?_)
   exact lpo h rfl (conv_re [] (by kernel_rfl))
 ·
  show (_ : Exit → St → Prop) (.exit 0) _
  refine AW.inBlock_hit (AW.tn ?_)
  refine AW.sg tt_ok0 [(2, vi64 x7)] [] [] 2 [] (by kernel_rfl) ?_
  refine AW.ret ?_
  obtain rfl := some_inj h
  exact fn0 (.inr rfl) [] 0 (vi64 x7) (by kernel_rfl)
/-! recordlink/recordlinkref23.Size -/
noncomputable def rl_ref23_Size_k1 (p0 : Int) (x1 : Bool) : Option (Int × Int) := if x1 = true then (some (0, 8)) else ((rl_ref17_Size p0).bind fun y3 => (some (y3, 0)))
noncomputable def rl_ref23_Size (p0 : Int) : Option (Int × Int) := if (decide (p0 < 1)) = true then (rl_ref23_Size_k1 p0 true) else (rl_ref23_Size_k1 p0 (decide (p0 > 5)))
set_option maxRecDepth 100000 in
theorem rl_ref23_Size_con (p0 : Int) (r : Int × Int) (h : rl_ref23_Size p0 = some r) : Con Try.prog 43 [vi64 p0] [] (.tup [vi64 r.1, vi64 r.2]) [] := by
 refine con_of tt_ok0 0 Try.func43 (by kernel_rfl) rfl (by kernel_rfl) (fun base X _ => AW.post ?_)
 unfold rl_ref23_Size at h
 refine AW.sg tt_ok0 [] [] [] 2 [] (by kernel_rfl) ?_
 refine AW.seq (AW.seq ?_)
 refine AW.join (ι := Bool) (fun v => ⟨[(0, vi64 p0), (9, vb v)], [], 0⟩) (fun v : Bool => rl_ref23_Size_k1 p0 v = some r) (fun x1 h => ?_) ?_
 ·
  unfold rl_ref23_Size_k1 at h
  refine AW.tn ?_
  refine AW.co h (by kernel_rfl) (fun c2 h => ?_) (fun c2 h => ?_)
  ·
   refine AW.sg tt_ok0 [(3, vi64 8), (2, vi64 0)] [] [] 2 [] (by kernel_rfl) ?_
   refine AW.ret (AW.tr ?_)
   obtain rfl := some_inj h
   exact fn0 (.inr rfl) [] 0 (.tup [vi64 0, vi64 8]) (by kernel_rfl)
  ·
   refine AW.skip (AW.tn ?_)
   obtain ⟨y3, e4, h⟩ := bnd_some h
   refine AW.sg tt_ok0 [(3, vi64 0), (2, vi64 y3)] [] [] 3 [hn, hk (rl_ref17_Size_con p0 y3 e4)] (by kernel_rfl) ?_
   refine AW.ret ?_
   obtain rfl := some_inj h
   exact fn0 (.inr rfl) [] 0 (.tup [vi64 y3, vi64 0]) (by kernel_rfl)
 ·
  rcases ifs h with ⟨c5, h⟩ | ⟨c5, h⟩
  ·
   refine AW.rg tt_ok0 [(9, vb true)] [] [] 8 [hn, ht c5] (by kernel_rfl) ?_
   exact jl true h (conv_re [] (by kernel_rfl))
  ·
   refine AW.rg tt_ok0 [(9, vb (decide (p0 > 5)))] [] [] 8 [hn, hf c5] (by kernel_rfl) ?_
   exact jl (decide (p0 > 5)) h (conv_re [] (by kernel_rfl))
/-! recordlink/recordlinkref16.missing -/
noncomputable def rl_ref16_missing_k1 (x1 : Bool) : Option Bool := some x1
noncomputable def rl_ref16_missing (p0 : S_api_Bits) : Option Bool := if (p0.Length == 0) = true then (rl_ref16_missing_k1 (((p0.Words.length : Nat) : Int) == 0)) else (rl_ref16_missing_k1 false)
set_option maxRecDepth 100000 in
theorem rl_ref16_missing_con (p0 : S_api_Bits) (r : Bool) (h : rl_ref16_missing p0 = some r) : Con Try.prog 86 [.agg [ci64 p0.Length, cl 1 Ru64 p0.Words]] [] (vb r) [] := by
 refine con_of tt_ok0 0 Try.func86 (by kernel_rfl) rfl (by kernel_rfl) (fun base X _ => AW.post ?_)
 unfold rl_ref16_missing at h
 refine AW.sg tt_ok0 [(1, .c (.ptr 0 2 0 0))] [0] [(0, .box 84 [ci64 p0.Length, cl 1 Ru64 p0.Words])] 2 [] (by kernel_rfl) ?_
 refine AW.seq ?_
 refine AW.join (ι := Bool) (fun v => ⟨[(2, vb v)], [], 0⟩) (fun v : Bool => rl_ref16_missing_k1 v = some r) (fun x1 h => ?_) ?_
 ·
  unfold rl_ref16_missing_k1 at h
  refine AW.tn (AW.ret ?_)
  obtain rfl := some_inj h
  exact fn0 (.inr rfl) [] 0 (vb x1) (by kernel_rfl)
 ·
  rcases ifs h with ⟨c2, h⟩ | ⟨c2, h⟩
  ·
   refine AW.rg tt_ok0 [(2, vb (((p0.Words.length : Nat) : Int) == 0))] [] [] 12 [hn, hn, ht c2] (by kernel_rfl) ?_
   exact jl (((p0.Words.length : Nat) : Int) == 0) h (conv_re [] (by kernel_rfl))
  ·
   refine AW.rg tt_ok0 [(2, vb false)] [] [] 12 [hn, hn, hf c2] (by kernel_rfl) ?_
   exact jl false h (conv_re [] (by kernel_rfl))
/-! recordlink/recordlinkref09.length -/
noncomputable def rl_ref09_length_k1 (x1 : Bool) : Option Bool := some x1
noncomputable def rl_ref09_length (p0 : Int) : Option Bool := if (decide (p0 ≥ 64)) = true then (if (decide (p0 ≤ 512)) = true then (rl_ref09_length_k1 ((p0.tmod 64) == 0)) else (rl_ref09_length_k1 false)) else (rl_ref09_length_k1 false)
set_option maxRecDepth 100000 in
theorem rl_ref09_length_con (p0 : Int) (r : Bool) (h : rl_ref09_length p0 = some r) : Con Try.prog 107 [vi64 p0] [] (vb r) [] := by
 refine con_of tt_ok0 0 Try.func107 (by kernel_rfl) rfl (by kernel_rfl) (fun base X _ => AW.post ?_)
 unfold rl_ref09_length at h
 refine AW.sg tt_ok0 [] [] [] 1 [] (by kernel_rfl) ?_
 refine AW.seq ?_
 refine AW.join (ι := Bool) (fun v => ⟨[(2, vb v)], [], 0⟩) (fun v : Bool => rl_ref09_length_k1 v = some r) (fun x1 h => ?_) ?_
 ·
  unfold rl_ref09_length_k1 at h
  refine AW.tn (AW.ret ?_)
  obtain rfl := some_inj h
  exact fn0 (.inr rfl) [] 0 (vb x1) (by kernel_rfl)
 ·
  rcases ifs h with ⟨c2, h⟩ | ⟨c2, h⟩
  ·
   rcases ifs h with ⟨c3, h⟩ | ⟨c3, h⟩
   ·
    refine AW.rg tt_ok0 [(2, vb ((p0.tmod 64) == 0))] [] [] 13 [hn, ht c2, hn, hn, ht c3, hn, hn, hn, ho (p := (64 : Int) ≠ 0) (by decide)] (by kernel_rfl) ?_
    exact jl ((p0.tmod 64) == 0) h (conv_re [] (by kernel_rfl))
   ·
    refine AW.rg tt_ok0 [(2, vb false)] [] [] 13 [hn, ht c2, hn, hn, hf c3] (by kernel_rfl) ?_
    exact jl false h (conv_re [] (by kernel_rfl))
  ·
   refine AW.rg tt_ok0 [(2, vb false)] [] [] 13 [hn, hf c2] (by kernel_rfl) ?_
   exact jl false h (conv_re [] (by kernel_rfl))
/-! recordlink/recordlinkref09.Valid -/
noncomputable def rl_ref09_Valid_k1 (x1 : Bool) : Option Bool := some x1
noncomputable def rl_ref09_Valid (p0 : S_api_Bits) : Option Bool := (rl_ref09_length p0.Length).bind fun y2 => (if y2 = true then (rl_ref09_Valid_k1 (((p0.Words.length : Nat) : Int) == (i64.wrap (p0.Length.tdiv 64)))) else (rl_ref09_Valid_k1 false))
set_option maxRecDepth 100000 in
theorem rl_ref09_Valid_con (p0 : S_api_Bits) (r : Bool) (h : rl_ref09_Valid p0 = some r) : Con Try.prog 87 [.agg [ci64 p0.Length, cl 1 Ru64 p0.Words]] [] (vb r) [] := by
 refine con_of tt_ok0 0 Try.func87 (by kernel_rfl) rfl (by kernel_rfl) (fun base X _ => AW.post ?_)
 unfold rl_ref09_Valid at h
 refine AW.sg tt_ok0 [(1, .c (.ptr 0 2 0 0))] [0] [(0, .box 84 [ci64 p0.Length, cl 1 Ru64 p0.Words])] 2 [] (by kernel_rfl) ?_
 refine AW.seq ?_
 refine AW.join (ι := Bool) (fun v => ⟨[(2, vb v)], [], 0⟩) (fun v : Bool => rl_ref09_Valid_k1 v = some r) (fun x1 h => ?_) ?_
 ·
  unfold rl_ref09_Valid_k1 at h
  refine AW.tn (AW.ret ?_)
  obtain rfl := some_inj h
  exact fn0 (.inr rfl) [] 0 (vb x1) (by kernel_rfl)
 ·
  obtain ⟨y2, e3, h⟩ := bnd_some h
  rcases ifs h with ⟨c4, hs⟩ | ⟨c4, hs⟩
  ·clear h; subst c4; have h := hs; clear hs
   refine AW.rg tt_ok0 [(2, vb (((p0.Words.length : Nat) : Int) == (i64.wrap (p0.Length.tdiv 64))))] [] [] 14 [hn, hn, hk (rl_ref09_length_con p0.Length true e3), hn, hn, hn, hn, hn, hn, ho (p := (64 : Int) ≠ 0) (by decide)] (by kernel_rfl) ?_
   exact jl (((p0.Words.length : Nat) : Int) == (i64.wrap (p0.Length.tdiv 64))) h (conv_re [] (by kernel_rfl))
  ·clear h; subst c4; have h := hs; clear hs
   refine AW.rg tt_ok0 [(2, vb false)] [] [] 14 [hn, hn, hk (rl_ref09_length_con p0.Length false e3)] (by kernel_rfl) ?_
   exact jl false h (conv_re [] (by kernel_rfl))
/-! recordlink/recordlinkref16.Valid -/
noncomputable def rl_ref16_Valid_k3 (x4 : Int) (x6 : Bool) : Option (Int ⊕ (Unit ⊕ Unit)) := if x6 = true then (some (.inr (.inr ()))) else (some (.inl (i64.wrap (x4 + 1))))
noncomputable def rl_ref16_Valid_l2 (p0 : S_api_Encoded) (x4 : Int) : Option (Int ⊕ (Unit ⊕ Unit)) := if (decide (x4 < ((p0.Fields.length : Nat) : Int))) = true then (if 0 ≤ x4 then (if x4 < ((p0.Fields.length : Nat) : Int) then ((rl_ref16_missing (p0.Fields.getD x4.toNat dS_api_Bits)).bind fun y10 => (if (!y10) = true then ((rl_ref09_Valid (p0.Fields.getD x4.toNat dS_api_Bits)).bind fun y13 => (rl_ref16_Valid_k3 x4 (!y13))) else (rl_ref16_Valid_k3 x4 false))) else none) else none) else (some (.inr (.inl ())))
noncomputable def rl_ref16_Valid_a4 : Option Bool := some true
noncomputable def rl_ref16_Valid_a5 : Option Bool := some false
noncomputable def rl_ref16_Valid_k1 (p0 : S_api_Encoded) (x1 : Bool) : Option Bool := if x1 = true then (some false) else (bindE (loop (fun v : Int => rl_ref16_Valid_l2 p0 v) 0) (fun t => rl_ref16_Valid_a4) (fun t => rl_ref16_Valid_a5))
noncomputable def rl_ref16_Valid (p0 : S_api_Encoded) : Option Bool := if (decide (p0.ID < 1)) = true then (rl_ref16_Valid_k1 p0 true) else (if (decide (p0.ID > 1048576)) = true then (rl_ref16_Valid_k1 p0 true) else (if (decide (p0.Version < 1)) = true then (rl_ref16_Valid_k1 p0 true) else (if (decide (p0.Version > 1048576)) = true then (rl_ref16_Valid_k1 p0 true) else (if (decide (((p0.Fields.length : Nat) : Int) < 1)) = true then (rl_ref16_Valid_k1 p0 true) else (rl_ref16_Valid_k1 p0 (decide (((p0.Fields.length : Nat) : Int) > 5)))))))
set_option maxRecDepth 100000 in
theorem rl_ref16_Valid_con (p0 : S_api_Encoded) (r : Bool) (h : rl_ref16_Valid p0 = some r) : Con Try.prog 56 [.agg [ci64 p0.ID, ci64 p0.Version, cl 2 RS_api_Bits p0.Fields]] [] (vb r) [] := by
 refine con_of tt_ok0 0 Try.func56 (by kernel_rfl) rfl (by kernel_rfl) (fun base X _ => AW.post ?_)
 unfold rl_ref16_Valid at h
 refine AW.sg tt_ok0 [(1, .c (.ptr 0 3 0 0))] [0] [(0, .box 40 [ci64 p0.ID, ci64 p0.Version, cl 2 RS_api_Bits p0.Fields])] 2 [] (by kernel_rfl) ?_
 refine AW.seq (AW.seq ?_)
 refine AW.join (ι := Bool) (fun v => ⟨[(1, .c (.ptr 0 3 0 0)), (33, vb v)], [(0, .box 40 [ci64 p0.ID, ci64 p0.Version, cl 2 RS_api_Bits p0.Fields])], 1⟩) (fun v : Bool => rl_ref16_Valid_k1 p0 v = some r) (fun x1 h => ?_) ?_
 ·
  unfold rl_ref16_Valid_k1 at h
  refine AW.tn ?_
  refine AW.co h (by kernel_rfl) (fun c2 h => ?_) (fun c2 h => ?_)
  ·
   refine AW.sg tt_ok0 [(2, vb false)] [] [] 2 [] (by kernel_rfl) ?_
   refine AW.ret (AW.tr ?_)
   obtain rfl := some_inj h
   exact fn0 (.inr rfl) [] 0 (vb false) (by kernel_rfl)
  ·
   refine AW.skip (AW.tn (AW.seq ?_))
   refine AW.sg tt_ok0 [(3, vi64 0)] [] [] 2 [] (by kernel_rfl) ?_
   refine AW.block ?_
   refine AW.lpE h (fun v => ⟨[(1, .c (.ptr 0 3 0 0)), (3, vi64 v)], [(0, .box 40 [ci64 p0.ID, ci64 p0.Version, cl 2 RS_api_Bits p0.Fields])], 1⟩) (fun t => (.exit 0, ⟨[], [], 0⟩)) (fun t => (.ret, ⟨[(2, vb false)], [], 0⟩)) (conv_re [(0, 0)] (by kernel_rfl)) (fun _ => tv) (fun _ => tv) ?_ (fun t h => ?_) (fun t h => ?_)
   ·
    clear h
    intro x4 o h
    unfold rl_ref16_Valid_l2 at h
    refine AW.seq ?_
    refine AW.sg tt_ok0 [(38, vb (decide (x4 < ((p0.Fields.length : Nat) : Int))))] [] [] 6 [] (by kernel_rfl) ?_
    refine AW.co h (by kernel_rfl) (fun c5 h => ?_) (fun c5 h => ?_)
    ·
     refine AW.skip (AW.tn ?_)
     refine AW.seq (AW.block (AW.seq ?_))
     refine AW.join (ι := Bool) (fun v => ⟨[(1, .c (.ptr 0 3 0 0)), (3, vi64 x4), (56, vb v)], [(0, .box 40 [ci64 p0.ID, ci64 p0.Version, cl 2 RS_api_Bits p0.Fields])], 1⟩) (fun v : Bool => rl_ref16_Valid_k3 x4 v = some o) (fun x6 h => ?_) ?_
     ·
      unfold rl_ref16_Valid_k3 at h
      refine AW.tn ?_
      refine AW.co h (by kernel_rfl) (fun c7 h => ?_) (fun c7 h => ?_)
      ·
       refine AW.sg tt_ok0 [(2, vb false)] [] [] 2 [] (by kernel_rfl) ?_
       refine AW.ret (AW.inBlock_ret (AW.tr ?_))
       exact lpo h rfl (conv_re [] (by kernel_rfl))
      ·
       refine AW.skip (AW.inBlock_normal (AW.tn ?_))
       refine AW.rg tt_ok0 [(3, vi64 (i64.wrap (x4 + 1)))] [] [] 4 [] (by kernel_rfl) ?_
       exact lpn h (conv_re [(0, 0)] (by kernel_rfl))
     ·
      obtain ⟨g8, g9, h⟩ := ifd h
      obtain ⟨y10, e11, h⟩ := bnd_some h
      rcases ifs h with ⟨c12, h⟩ | ⟨c12, h⟩
      ·
       obtain ⟨y13, e14, h⟩ := bnd_some h
       refine AW.rg tt_ok0 [(56, vb (!y13))] [] [] 20 [hn, hn, hn, hq g8 g9, hn, hk (rl_ref16_missing_con (p0.Fields.getD x4.toNat dS_api_Bits) y10 e11), ht c12, hn, hn, hn, hn, hq g8 g9, hn, hk (rl_ref09_Valid_con (p0.Fields.getD x4.toNat dS_api_Bits) y13 e14)] (by kernel_rfl) ?_
       exact jl (!y13) h (conv_re [(0, 0)] (by kernel_rfl))
      ·
       refine AW.rg tt_ok0 [(56, vb false)] [] [] 21 [hn, hn, hn, hq g8 g9, hn, hk (rl_ref16_missing_con (p0.Fields.getD x4.toNat dS_api_Bits) y10 e11), hf c12] (by kernel_rfl) ?_
       exact jl false h (conv_re [(0, 0)] (by kernel_rfl))
    ·
     refine AW.exit (AW.thenQ_exit ?_)
     exact lpo h rfl (conv_re [] (by kernel_rfl))
   ·
    replace h : rl_ref16_Valid_a4 = some r := h
    unfold rl_ref16_Valid_a4 at h
    show (_ : Exit → St → Prop) (.exit 0) _
    refine AW.inBlock_hit (AW.tn ?_)
    refine AW.sg tt_ok0 [(2, vb true)] [] [] 1 [] (by kernel_rfl) ?_
    refine AW.ret ?_
    obtain rfl := some_inj h
    exact fn0 (.inr rfl) [] 0 (vb true) (by kernel_rfl)
   ·
    replace h : rl_ref16_Valid_a5 = some r := h
    unfold rl_ref16_Valid_a5 at h
    show (_ : Exit → St → Prop) (.ret) _
    refine AW.inBlock_ret (AW.tr ?_)
    obtain rfl := some_inj h
    exact fn0 (.inr rfl) [] 0 (vb false) (by kernel_rfl)
 ·
  rcases ifs h with ⟨c16, h⟩ | ⟨c16, h⟩
  ·
   refine AW.rg tt_ok0 [(33, vb true)] [] [] 32 [hn, hn, ht c16] (by kernel_rfl) ?_
   exact jl true h (conv_re [(0, 0)] (by kernel_rfl))
  ·
   rcases ifs h with ⟨c17, h⟩ | ⟨c17, h⟩
   ·
    refine AW.rg tt_ok0 [(33, vb true)] [] [] 32 [hn, hn, hf c16, hn, hn, hn, ht c17] (by kernel_rfl) ?_
    exact jl true h (conv_re [(0, 0)] (by kernel_rfl))
   ·
    rcases ifs h with ⟨c18, h⟩ | ⟨c18, h⟩
    ·
     refine AW.rg tt_ok0 [(33, vb true)] [] [] 32 [hn, hn, hf c16, hn, hn, hn, hf c17, hn, hn, hn, hn, ht c18] (by kernel_rfl) ?_
     exact jl true h (conv_re [(0, 0)] (by kernel_rfl))
    ·
     rcases ifs h with ⟨c19, h⟩ | ⟨c19, h⟩
     ·
      refine AW.rg tt_ok0 [(33, vb true)] [] [] 32 [hn, hn, hf c16, hn, hn, hn, hf c17, hn, hn, hn, hn, hf c18, hn, hn, hn, hn, ht c19] (by kernel_rfl) ?_
      exact jl true h (conv_re [(0, 0)] (by kernel_rfl))
     ·
      rcases ifs h with ⟨c20, h⟩ | ⟨c20, h⟩
      ·
       refine AW.rg tt_ok0 [(33, vb true)] [] [] 32 [hn, hn, hf c16, hn, hn, hn, hf c17, hn, hn, hn, hn, hf c18, hn, hn, hn, hn, hf c19, hn, hn, hn, hn, hn, ht c20] (by kernel_rfl) ?_
       exact jl true h (conv_re [(0, 0)] (by kernel_rfl))
      ·
       refine AW.rg tt_ok0 [(33, vb (decide (((p0.Fields.length : Nat) : Int) > 5)))] [] [] 32 [hn, hn, hf c16, hn, hn, hn, hf c17, hn, hn, hn, hn, hf c18, hn, hn, hn, hn, hf c19, hn, hn, hn, hn, hn, hf c20] (by kernel_rfl) ?_
       exact jl (decide (((p0.Fields.length : Nat) : Int) > 5)) h (conv_re [(0, 0)] (by kernel_rfl))
/-! recordlink/recordlinkref23.right -/
noncomputable def rl_ref23_right_k2 (x2 : Int) (x4 : Bool) : Option (Int ⊕ (Unit ⊕ Unit)) := if x4 = true then (some (.inr (.inr ()))) else (some (.inl (i64.wrap (x2 + 1))))
noncomputable def rl_ref23_right_l1 (p0 : List S_api_Encoded) (p1 : Int) (x2 : Int) : Option (Int ⊕ (Unit ⊕ Unit)) := if (decide (x2 < (p0.length : Int))) = true then (if 0 ≤ x2 then (if x2 < (p0.length : Int) then ((rl_ref16_Valid (p0.getD x2.toNat dS_api_Encoded)).bind fun y8 => (if (!y8) = true then (rl_ref23_right_k2 x2 true) else (rl_ref23_right_k2 x2 (((((p0.getD x2.toNat dS_api_Encoded).Fields).length : Nat) : Int) != p1)))) else none) else none) else (some (.inr (.inl ())))
noncomputable def rl_ref23_right_a3 : Option Bool := some true
noncomputable def rl_ref23_right_a4 : Option Bool := some false
noncomputable def rl_ref23_right (p0 : List S_api_Encoded) (p1 : Int) : Option Bool := bindE (loop (fun v : Int => rl_ref23_right_l1 p0 p1 v) 0) (fun t => rl_ref23_right_a3) (fun t => rl_ref23_right_a4)
set_option maxRecDepth 100000 in
theorem rl_ref23_right_con (p0 : List S_api_Encoded) (p1 : Int) (r : Bool) (h : rl_ref23_right p0 p1 = some r) : Con Try.prog 70 [vl 3 RS_api_Encoded p0, vi64 p1] [] (vb r) [] := by
 refine con_of tt_ok0 0 Try.func70 (by kernel_rfl) rfl (by kernel_rfl) (fun base X _ => AW.post ?_)
 unfold rl_ref23_right at h
 refine AW.sg tt_ok0 [] [] [] 1 [] (by kernel_rfl) ?_
 refine AW.seq ?_
 refine AW.sg tt_ok0 [(5, vi64 0)] [] [] 2 [] (by kernel_rfl) ?_
 refine AW.block ?_
 refine AW.lpE h (fun v => ⟨[(0, vl 3 RS_api_Encoded p0), (1, vi64 p1), (5, vi64 v)], [], 0⟩) (fun t => (.exit 0, ⟨[], [], 0⟩)) (fun t => (.ret, ⟨[(4, vb false)], [], 0⟩)) (conv_re [] (by kernel_rfl)) (fun _ => tv) (fun _ => tv) ?_ (fun t h => ?_) (fun t h => ?_)
 ·
  clear h
  intro x2 o h
  unfold rl_ref23_right_l1 at h
  refine AW.seq ?_
  refine AW.sg tt_ok0 [(9, vb (decide (x2 < (p0.length : Int))))] [] [] 4 [] (by kernel_rfl) ?_
  refine AW.co h (by kernel_rfl) (fun c3 h => ?_) (fun c3 h => ?_)
  ·
   refine AW.skip (AW.tn ?_)
   refine AW.seq (AW.block (AW.seq ?_))
   refine AW.join (ι := Bool) (fun v => ⟨[(0, vl 3 RS_api_Encoded p0), (1, vi64 p1), (5, vi64 x2), (27, vb v)], [], 0⟩) (fun v : Bool => rl_ref23_right_k2 x2 v = some o) (fun x4 h => ?_) ?_
   ·
    unfold rl_ref23_right_k2 at h
    refine AW.tn ?_
    refine AW.co h (by kernel_rfl) (fun c5 h => ?_) (fun c5 h => ?_)
    ·
     refine AW.sg tt_ok0 [(4, vb false)] [] [] 1 [] (by kernel_rfl) ?_
     refine AW.ret (AW.inBlock_ret (AW.tr ?_))
     exact lpo h rfl (conv_re [] (by kernel_rfl))
    ·
     refine AW.skip (AW.inBlock_normal (AW.tn ?_))
     refine AW.rg tt_ok0 [(5, vi64 (i64.wrap (x2 + 1)))] [] [] 3 [] (by kernel_rfl) ?_
     exact lpn h (conv_re [] (by kernel_rfl))
   ·
    obtain ⟨g6, g7, h⟩ := ifd h
    obtain ⟨y8, e9, h⟩ := bnd_some h
    rcases ifs h with ⟨c10, h⟩ | ⟨c10, h⟩
    ·
     refine AW.rg tt_ok0 [(27, vb true)] [] [] 19 [hn, hn, hq g6 g7, hn, hk (rl_ref16_Valid_con (p0.getD x2.toNat dS_api_Encoded) y8 e9), ht c10] (by kernel_rfl) ?_
     exact jl true h (conv_re [] (by kernel_rfl))
    ·
     refine AW.rg tt_ok0 [(27, vb (((((p0.getD x2.toNat dS_api_Encoded).Fields).length : Nat) : Int) != p1))] [] [] 19 [hn, hn, hq g6 g7, hn, hk (rl_ref16_Valid_con (p0.getD x2.toNat dS_api_Encoded) y8 e9), hf c10, hn, hn, hn, hq g6 g7] (by kernel_rfl) ?_
     exact jl (((((p0.getD x2.toNat dS_api_Encoded).Fields).length : Nat) : Int) != p1) h (conv_re [] (by kernel_rfl))
  ·
   refine AW.exit (AW.thenQ_exit ?_)
   exact lpo h rfl (conv_re [] (by kernel_rfl))
 ·
  replace h : rl_ref23_right_a3 = some r := h
  unfold rl_ref23_right_a3 at h
  show (_ : Exit → St → Prop) (.exit 0) _
  refine AW.inBlock_hit (AW.tn ?_)
  refine AW.sg tt_ok0 [(4, vb true)] [] [] 1 [] (by kernel_rfl) ?_
  refine AW.ret ?_
  obtain rfl := some_inj h
  exact fn0 (.inr rfl) [] 0 (vb true) (by kernel_rfl)
 ·
  replace h : rl_ref23_right_a4 = some r := h
  unfold rl_ref23_right_a4 at h
  show (_ : Exit → St → Prop) (.ret) _
  refine AW.inBlock_ret (AW.tr ?_)
  obtain rfl := some_inj h
  exact fn0 (.inr rfl) [] 0 (vb false) (by kernel_rfl)
/-! recordlink/recordlinkref23.find -/
noncomputable def rl_ref23_find_l1 (p0 : List S_api_Encoded) (p1 : Int) (x2 : Int) : Option (Int ⊕ (Unit ⊕ Int)) := if (decide (x2 < (p0.length : Int))) = true then (if 0 ≤ x2 then (if x2 < (p0.length : Int) then (if (((p0.getD x2.toNat dS_api_Encoded).ID) == p1) = true then (some (.inr (.inr x2))) else (some (.inl (i64.wrap (x2 + 1))))) else none) else none) else (some (.inr (.inl ())))
noncomputable def rl_ref23_find_a2 : Option Int := some (-1)
noncomputable def rl_ref23_find_a3 (x8 : Int) : Option Int := some x8
noncomputable def rl_ref23_find (p0 : List S_api_Encoded) (p1 : Int) : Option Int := bindE (loop (fun v : Int => rl_ref23_find_l1 p0 p1 v) 0) (fun t => rl_ref23_find_a2) (fun t => rl_ref23_find_a3 t)
set_option maxRecDepth 100000 in
theorem rl_ref23_find_con (p0 : List S_api_Encoded) (p1 : Int) (r : Int) (h : rl_ref23_find p0 p1 = some r) : Con Try.prog 71 [vl 3 RS_api_Encoded p0, vi64 p1] [] (vi64 r) [] := by
 refine con_of tt_ok0 0 Try.func71 (by kernel_rfl) rfl (by kernel_rfl) (fun base X _ => AW.post ?_)
 unfold rl_ref23_find at h
 refine AW.sg tt_ok0 [] [] [] 1 [] (by kernel_rfl) ?_
 refine AW.seq ?_
 refine AW.sg tt_ok0 [(5, vi64 0)] [] [] 2 [] (by kernel_rfl) ?_
 refine AW.block ?_
 refine AW.lpE h (fun v => ⟨[(0, vl 3 RS_api_Encoded p0), (1, vi64 p1), (5, vi64 v)], [], 0⟩) (fun t => (.exit 0, ⟨[], [], 0⟩)) (fun t => (.ret, ⟨[(4, vi64 t)], [], 0⟩)) (conv_re [] (by kernel_rfl)) (fun _ => tv) (fun _ => tv) ?_ (fun t h => ?_) (fun x8 h => ?_)
 ·
  clear h
  intro x2 o h
  unfold rl_ref23_find_l1 at h
  refine AW.seq ?_
  refine AW.sg tt_ok0 [(9, vb (decide (x2 < (p0.length : Int))))] [] [] 4 [] (by kernel_rfl) ?_
  refine AW.co h (by kernel_rfl) (fun c4 h => ?_) (fun c4 h => ?_)
  ·
   refine AW.skip (AW.tn ?_)
   refine AW.seq (AW.block ?_)
   obtain ⟨g5, g6, h⟩ := ifd h
   refine AW.sg tt_ok0 [(18, vb (((p0.getD x2.toNat dS_api_Encoded).ID) == p1))] [] [] 11 [hn, hn, hq g5 g6] (by kernel_rfl) ?_
   refine AW.co h (by kernel_rfl) (fun c7 h => ?_) (fun c7 h => ?_)
   ·
    refine AW.sg tt_ok0 [(4, vi64 x2)] [] [] 13 [] (by kernel_rfl) ?_
    refine AW.ret (AW.inBlock_ret (AW.tr ?_))
    exact lpo h rfl (conv_re [] (by kernel_rfl))
   ·
    refine AW.skip (AW.inBlock_normal (AW.tn ?_))
    refine AW.rg tt_ok0 [(5, vi64 (i64.wrap (x2 + 1)))] [] [] 14 [] (by kernel_rfl) ?_
    exact lpn h (conv_re [] (by kernel_rfl))
  ·
   refine AW.exit (AW.thenQ_exit ?_)
   exact lpo h rfl (conv_re [] (by kernel_rfl))
 ·
  replace h : rl_ref23_find_a2 = some r := h
  unfold rl_ref23_find_a2 at h
  show (_ : Exit → St → Prop) (.exit 0) _
  refine AW.inBlock_hit (AW.tn ?_)
  refine AW.sg tt_ok0 [(4, vi64 (-1))] [] [] 1 [] (by kernel_rfl) ?_
  refine AW.ret ?_
  obtain rfl := some_inj h
  exact fn0 (.inr rfl) [] 0 (vi64 (-1)) (by kernel_rfl)
 ·
  unfold rl_ref23_find_a3 at h
  show (_ : Exit → St → Prop) (.ret) _
  refine AW.inBlock_ret (AW.tr ?_)
  obtain rfl := some_inj h
  exact fn0 (.inr rfl) [] 0 (vi64 x8) (by kernel_rfl)
/-! recordlink/recordlinkref09.Copy -/
noncomputable def rl_ref09_Copy (p0 : S_api_Bits) : Option S_api_Bits := if 0 + p0.Words.length ≤ 1099511627776 then (some (⟨p0.Length, (([] : List Int) ++ p0.Words)⟩ : S_api_Bits)) else none
set_option maxRecDepth 100000 in
theorem rl_ref09_Copy_con (p0 : S_api_Bits) (r : S_api_Bits) (h : rl_ref09_Copy p0 = some r) : Con Try.prog 119 [.agg [ci64 p0.Length, cl 1 Ru64 p0.Words]] [] (.agg [ci64 r.Length, .ref 0 1 0 r.Words.length]) [(0, .row 45 false 1 r.Words.length (Ru64 r.Words))] := by
 refine con_of tt_ok0 0 Try.func119 (by kernel_rfl) rfl (by kernel_rfl) (fun base X _ => AW.post ?_)
 unfold rl_ref09_Copy at h
 refine AW.sg tt_ok0 [(2, .c (.ptr 1 2 0 0)), (1, .c (.ptr 0 2 0 0))] [0, 1] [(1, .box 84 [ci64 0, .t (.v (.slice none 0 0))]), (0, .box 84 [ci64 p0.Length, cl 1 Ru64 p0.Words])] 2 [] (by kernel_rfl) ?_
 obtain ⟨g1, h⟩ := ifc h
 refine AW.sd tt_ok0 mo0 [[], [], [], [], [6], [], [1]] [] [(1, .box 84 [ci64 p0.Length, .ref 6 1 0 ((([] : List Int) ++ p0.Words).length)]), (6, .row 45 false 1 (([] : List Int) ++ p0.Words).length (Ru64 (([] : List Int) ++ p0.Words)))] 9 [hn, hn, hn, hn, hr ((([] : List Int) ++ p0.Words).length) (Ru64 (([] : List Int) ++ p0.Words)) (p := (True) ∧ (True) ∧ ((0 + p0.Words.length ≤ 1099511627776) ∧ ((8 : Nat) ≤ 128)) ∧ (0 + p0.Words.length = (([] : List Int) ++ p0.Words).length ∧ ∀ i, i < (([] : List Int) ++ p0.Words).length → ∀ j, j < 1 → TLe ((appRow 0 (fun _ _ => .v undef) (Ru64 p0.Words)) i j) (Ru64 (([] : List Int) ++ p0.Words) i j))) (⟨tv, tv, ⟨g1, (by decide)⟩, rowT (app_row rfl rfl row_nil row_rfl)⟩)] (by kernel_rfl) ?_
 refine AW.ret ?_
 obtain rfl := some_inj h
 exact fn0 (.inr rfl) [(0, 6)] 1 (.agg [ci64 p0.Length, .ref 6 1 0 ((([] : List Int) ++ p0.Words).length)]) (by kernel_rfl)
/-! recordlink/recordlinkref09.combine -/
noncomputable def rl_ref09_combine_k3 (x7 : Int) (x11 : List Int) : Option ((Int × (List Int)) ⊕ (List Int)) := some (.inl (i64.wrap (x7 + 1), x11))
noncomputable def rl_ref09_combine_l2 (p1 : S_api_Bits) (p2 : Int) (x7 : Int) (x8 : List Int) : Option ((Int × (List Int)) ⊕ (List Int)) := if (decide (x7 < (x8.length : Int))) = true then (if (p2 == 0) = true then (if 0 ≤ x7 then (if x7 < (x8.length : Int) then (if x7 < ((p1.Words.length : Nat) : Int) then (rl_ref09_combine_k3 x7 (x8.set (0 + x7.toNat) (iand .u64 (x8.getD (0 + x7.toNat) 0) (p1.Words.getD x7.toNat 0)))) else none) else none) else none) else (if (p2 == 1) = true then (if 0 ≤ x7 then (if x7 < (x8.length : Int) then (if x7 < ((p1.Words.length : Nat) : Int) then (rl_ref09_combine_k3 x7 (x8.set (0 + x7.toNat) (ior .u64 (x8.getD (0 + x7.toNat) 0) (p1.Words.getD x7.toNat 0)))) else none) else none) else none) else (if 0 ≤ x7 then (if x7 < (x8.length : Int) then (if x7 < ((p1.Words.length : Nat) : Int) then (rl_ref09_combine_k3 x7 (x8.set (0 + x7.toNat) (ixor .u64 (x8.getD (0 + x7.toNat) 0) (p1.Words.getD x7.toNat 0)))) else none) else none) else none))) else (some (.inr x8))
noncomputable def rl_ref09_combine_k1 (p0 : S_api_Bits) (p1 : S_api_Bits) (p2 : Int) (x1 : Bool) : Option (S_api_Bits × Int) := if x1 = true then (some ((⟨0, ([] : List Int)⟩ : S_api_Bits), 8)) else ((rl_ref09_Copy p0).bind fun y3 => ((loop (fun v : Int × (List Int) => rl_ref09_combine_l2 p1 p2 v.1 v.2) (0, y3.Words)).bind fun x23 => (some ((⟨y3.Length, x23⟩ : S_api_Bits), 0))))
noncomputable def rl_ref09_combine (p0 : S_api_Bits) (p1 : S_api_Bits) (p2 : Int) : Option (S_api_Bits × Int) := (rl_ref09_Valid p0).bind fun y25 => (if (!y25) = true then (rl_ref09_combine_k1 p0 p1 p2 true) else ((rl_ref09_Valid p1).bind fun y28 => (if (!y28) = true then (rl_ref09_combine_k1 p0 p1 p2 true) else (rl_ref09_combine_k1 p0 p1 p2 (p0.Length != p1.Length)))))
set_option maxRecDepth 100000 in
theorem rl_ref09_combine_con (p0 : S_api_Bits) (p1 : S_api_Bits) (p2 : Int) (r : S_api_Bits × Int) (h : rl_ref09_combine p0 p1 p2 = some r) : Con Try.prog 112 [.agg [ci64 p0.Length, cl 1 Ru64 p0.Words], .agg [ci64 p1.Length, cl 1 Ru64 p1.Words], vi64 p2] [] (.tup [.agg [ci64 r.1.Length, .ref 0 1 0 r.1.Words.length], vi64 r.2]) [(0, .row 45 false 1 r.1.Words.length (Ru64 r.1.Words))] := by
 refine con_of tt_ok0 0 Try.func112 (by kernel_rfl) rfl (by kernel_rfl) (fun base X _ => AW.post ?_)
 unfold rl_ref09_combine at h
 refine AW.sg tt_ok0 [(6, .c (.ptr 2 2 0 0)), (4, .c (.ptr 1 2 0 0)), (3, .c (.ptr 0 2 0 0))] [0, 1, 2] [(2, .box 84 [ci64 0, .t (.v (.slice none 0 0))]), (1, .box 84 [ci64 p1.Length, cl 1 Ru64 p1.Words]), (0, .box 84 [ci64 p0.Length, cl 1 Ru64 p0.Words])] 4 [] (by kernel_rfl) ?_
 refine AW.seq (AW.seq ?_)
 refine AW.join (ι := Bool) (fun v => ⟨[(2, vi64 p2), (3, .c (.ptr 0 2 0 0)), (4, .c (.ptr 1 2 0 0)), (6, .c (.ptr 2 2 0 0)), (24, vb v)], [(0, .box 84 [ci64 p0.Length, cl 1 Ru64 p0.Words]), (1, .box 84 [ci64 p1.Length, cl 1 Ru64 p1.Words]), (2, .box 84 [ci64 0, .t (.v (.slice none 0 0))])], 3⟩) (fun v : Bool => rl_ref09_combine_k1 p0 p1 p2 v = some r) (fun x1 h => ?_) ?_
 ·
  unfold rl_ref09_combine_k1 at h
  refine AW.tn ?_
  refine AW.co h (by kernel_rfl) (fun c2 h => ?_) (fun c2 h => ?_)
  ·
   refine AW.sg tt_ok0 [(7, vi64 8)] [2] [(2, .box 84 [ci64 0, .t (.v (.slice none 0 0))])] 6 [] (by kernel_rfl) ?_
   refine AW.ret (AW.tr ?_)
   obtain rfl := some_inj h
   exact fnR (.inr rfl) [(0, 6)] 1 (.tup [.agg [ci64 0, .ref 6 1 0 (([] : List Int).length)], vi64 8]) (conv_adoptB (id := 2) (ty0 := 84) (cs := [ci64 0, .t (.v (.slice none 0 0))]) 1 (ty := 45) (sz := 1) (n := ([] : List Int).length) (f := Ru64 ([] : List Int)) (by kernel_rfl) (by kernel_rfl) rfl) (by kernel_rfl)
  ·
   refine AW.skip (AW.tn ?_)
   obtain ⟨y3, e4, h⟩ := bnd_some h
   refine AW.sg tt_ok0 [(8, .c (.ptr 5 2 0 0))] [4, 5] [(5, .box 84 [ci64 y3.Length, .ref 4 1 0 y3.Words.length]), (4, .row 45 false 1 y3.Words.length (Ru64 y3.Words))] 7 [hn, hm [] [] 1 (rl_ref09_Copy_con p0 y3 e4) ⟨rowL_flat Vu64 _ _ _, tv⟩] (by kernel_rfl) ?_
   refine AW.seq ?_
   refine AW.sg tt_ok0 [(9, vi64 0)] [] [] 8 [] (by kernel_rfl) ?_
   refine AW.block ?_
   obtain ⟨x23, l24, h⟩ := bnd_some h
   refine AW.lp l24 (fun v => ⟨[(2, vi64 p2), (4, .c (.ptr 0 2 0 0)), (6, .c (.ptr 1 2 0 0)), (8, .c (.ptr 2 2 0 0)), (9, vi64 v.1)], [(0, .box 84 [ci64 p1.Length, cl 1 Ru64 p1.Words]), (1, .box 84 [ci64 0, .t (.v (.slice none 0 0))]), (2, .box 84 [ci64 y3.Length, .ref 3 1 0 v.2.length]), (3, .row 45 false 1 v.2.length (Ru64 v.2))], 4⟩) (fun t : List Int => (.exit 0, ⟨[(6, .c (.ptr 0 2 0 0)), (8, .c (.ptr 1 2 0 0))], [(0, .box 84 [ci64 0, .t (.v (.slice none 0 0))]), (1, .box 84 [ci64 y3.Length, .ref 2 1 0 t.length]), (2, .row 45 false 1 t.length (Ru64 t))], 3⟩)) (conv_re [(0, 1), (1, 2), (2, 5), (3, 4)] (by kernel_rfl)) (fun _ => tv) ?_ ?_
   ·
    clear l24 h
    intro v o h
    obtain ⟨x7, x8⟩ := v
    replace h : rl_ref09_combine_l2 p1 p2 x7 x8 = some o := h
    unfold rl_ref09_combine_l2 at h
    refine AW.seq ?_
    refine AW.sg tt_ok0 [(32, vb (decide (x7 < (x8.length : Int))))] [] [] 9 [] (by kernel_rfl) ?_
    refine AW.co h (by kernel_rfl) (fun c10 h => ?_) (fun c10 h => ?_)
    ·
     refine AW.skip (AW.tn (AW.seq ?_))
     refine AW.join (ι := List Int) (fun v => ⟨[(2, vi64 p2), (4, .c (.ptr 0 2 0 0)), (6, .c (.ptr 1 2 0 0)), (8, .c (.ptr 2 2 0 0)), (9, vi64 x7)], [(0, .box 84 [ci64 p1.Length, cl 1 Ru64 p1.Words]), (1, .box 84 [ci64 0, .t (.v (.slice none 0 0))]), (2, .box 84 [ci64 y3.Length, .ref 3 1 0 v.length]), (3, .row 45 false 1 v.length (Ru64 v))], 4⟩) (fun v : List Int => rl_ref09_combine_k3 x7 v = some o) (fun x11 h => ?_) ?_
     ·
      unfold rl_ref09_combine_k3 at h
      refine AW.tn ?_
      refine AW.rg tt_ok0 [(9, vi64 (i64.wrap (x7 + 1)))] [] [] 7 [] (by kernel_rfl) ?_
      exact lpn h (conv_re [(0, 0), (1, 1), (2, 2), (3, 3)] (by kernel_rfl))
     ·
      refine AW.block ?_
      refine AW.sg tt_ok0 [(35, vi64 p2)] [] [] 10 [] (by kernel_rfl) ?_
      refine AW.block ?_
      refine AW.sg tt_ok0 [(48, vb (p2 == 0))] [] [] 12 [] (by kernel_rfl) ?_
      refine AW.co h (by kernel_rfl) (fun c12 h => ?_) (fun c12 h => ?_)
      ·
       obtain ⟨g13, g14, h⟩ := ifd h
       obtain ⟨g15, h⟩ := ifc h
       refine AW.rd tt_ok0 mo0 [[], [], [], [], [], [], [], [], [], [], [], [], [3]] [] [(3, .row 45 false 1 x8.length (Ru64 (x8.set (0 + x7.toNat) (iand .u64 (x8.getD (0 + x7.toNat) 0) (p1.Words.getD x7.toNat 0)))))] 25 [hn, hn, hn, hq g13 g14, ho (p := (0 + x7.toNat) < x8.length) (by have h1 : 0 ≤ x7 := g13; have h2 : x7 < (x8.length : Int) := g14; omega), hn, hn, hn, hq g13 g15, hn, hn, hq g13 g14, hset 0 Eu64 x8 (0 + x7.toNat) (iand .u64 (x8.getD (0 + x7.toNat) 0) (p1.Words.getD x7.toNat 0)) (n := x8.length) (by have h1 : 0 ≤ x7 := g13; have h2 : x7 < (x8.length : Int) := g14; omega) rfl] (by kernel_rfl) ?_
       refine AW.inBlock_normal (AW.inBlock_normal ?_)
       exact jl (x8.set (0 + x7.toNat) (iand .u64 (x8.getD (0 + x7.toNat) 0) (p1.Words.getD x7.toNat 0))) h (Conv.trans (conv_re (S' := ⟨[(2, vi64 p2), (4, .c (.ptr 0 2 0 0)), (6, .c (.ptr 1 2 0 0)), (8, .c (.ptr 2 2 0 0)), (9, vi64 x7)], [(3, .row 45 false 1 x8.length (Ru64 (x8.set (0 + x7.toNat) (iand .u64 (x8.getD (0 + x7.toNat) 0) (p1.Words.getD x7.toNat 0))))), (0, .box 84 [ci64 p1.Length, cl 1 Ru64 p1.Words]), (1, .box 84 [ci64 0, .t (.v (.slice none 0 0))]), (2, .box 84 [ci64 y3.Length, .ref 3 1 0 x8.length])], 25⟩) [(3, 3), (0, 0), (1, 1), (2, 2)] (by kernel_rfl)) (Conv.trans (conv_len (S' := ⟨[(2, vi64 p2), (4, .c (.ptr 0 2 0 0)), (6, .c (.ptr 1 2 0 0)), (8, .c (.ptr 2 2 0 0)), (9, vi64 x7)], [(3, .row 45 false 1 (x8.set (0 + x7.toNat) (iand .u64 (x8.getD (0 + x7.toNat) 0) (p1.Words.getD x7.toNat 0))).length (Ru64 (x8.set (0 + x7.toNat) (iand .u64 (x8.getD (0 + x7.toNat) 0) (p1.Words.getD x7.toNat 0))))), (0, .box 84 [ci64 p1.Length, cl 1 Ru64 p1.Words]), (1, .box 84 [ci64 0, .t (.v (.slice none 0 0))]), (2, .box 84 [ci64 y3.Length, .ref 3 1 0 ((x8.set (0 + x7.toNat) (iand .u64 (x8.getD (0 + x7.toNat) 0) (p1.Words.getD x7.toNat 0))).length)])], 25⟩) (by simp only [List.length_set])) (conv_re [(0, 0), (1, 1), (2, 2), (3, 3)] (by kernel_rfl))))
      ·
       refine AW.sg tt_ok0 [(62, vb (p2 == 1))] [] [] 14 [] (by kernel_rfl) ?_
       refine AW.co h (by kernel_rfl) (fun c16 h => ?_) (fun c16 h => ?_)
       ·
        obtain ⟨g17, g18, h⟩ := ifd h
        obtain ⟨g19, h⟩ := ifc h
        refine AW.rd tt_ok0 mo0 [[], [], [], [], [], [], [], [], [], [], [], [], [3]] [] [(3, .row 45 false 1 x8.length (Ru64 (x8.set (0 + x7.toNat) (ior .u64 (x8.getD (0 + x7.toNat) 0) (p1.Words.getD x7.toNat 0)))))] 27 [hn, hn, hn, hq g17 g18, ho (p := (0 + x7.toNat) < x8.length) (by have h1 : 0 ≤ x7 := g17; have h2 : x7 < (x8.length : Int) := g18; omega), hn, hn, hn, hq g17 g19, hn, hn, hq g17 g18, hset 0 Eu64 x8 (0 + x7.toNat) (ior .u64 (x8.getD (0 + x7.toNat) 0) (p1.Words.getD x7.toNat 0)) (n := x8.length) (by have h1 : 0 ≤ x7 := g17; have h2 : x7 < (x8.length : Int) := g18; omega) rfl] (by kernel_rfl) ?_
        refine AW.inBlock_normal (AW.inBlock_normal ?_)
        exact jl (x8.set (0 + x7.toNat) (ior .u64 (x8.getD (0 + x7.toNat) 0) (p1.Words.getD x7.toNat 0))) h (Conv.trans (conv_re (S' := ⟨[(2, vi64 p2), (4, .c (.ptr 0 2 0 0)), (6, .c (.ptr 1 2 0 0)), (8, .c (.ptr 2 2 0 0)), (9, vi64 x7)], [(3, .row 45 false 1 x8.length (Ru64 (x8.set (0 + x7.toNat) (ior .u64 (x8.getD (0 + x7.toNat) 0) (p1.Words.getD x7.toNat 0))))), (0, .box 84 [ci64 p1.Length, cl 1 Ru64 p1.Words]), (1, .box 84 [ci64 0, .t (.v (.slice none 0 0))]), (2, .box 84 [ci64 y3.Length, .ref 3 1 0 x8.length])], 27⟩) [(3, 3), (0, 0), (1, 1), (2, 2)] (by kernel_rfl)) (Conv.trans (conv_len (S' := ⟨[(2, vi64 p2), (4, .c (.ptr 0 2 0 0)), (6, .c (.ptr 1 2 0 0)), (8, .c (.ptr 2 2 0 0)), (9, vi64 x7)], [(3, .row 45 false 1 (x8.set (0 + x7.toNat) (ior .u64 (x8.getD (0 + x7.toNat) 0) (p1.Words.getD x7.toNat 0))).length (Ru64 (x8.set (0 + x7.toNat) (ior .u64 (x8.getD (0 + x7.toNat) 0) (p1.Words.getD x7.toNat 0))))), (0, .box 84 [ci64 p1.Length, cl 1 Ru64 p1.Words]), (1, .box 84 [ci64 0, .t (.v (.slice none 0 0))]), (2, .box 84 [ci64 y3.Length, .ref 3 1 0 ((x8.set (0 + x7.toNat) (ior .u64 (x8.getD (0 + x7.toNat) 0) (p1.Words.getD x7.toNat 0))).length)])], 27⟩) (by simp only [List.length_set])) (conv_re [(0, 0), (1, 1), (2, 2), (3, 3)] (by kernel_rfl))))
       ·
        obtain ⟨g20, g21, h⟩ := ifd h
        obtain ⟨g22, h⟩ := ifc h
        refine AW.rd tt_ok0 mo0 [[], [], [], [], [], [], [], [], [], [], [], [], [3]] [] [(3, .row 45 false 1 x8.length (Ru64 (x8.set (0 + x7.toNat) (ixor .u64 (x8.getD (0 + x7.toNat) 0) (p1.Words.getD x7.toNat 0)))))] 27 [hn, hn, hn, hq g20 g21, ho (p := (0 + x7.toNat) < x8.length) (by have h1 : 0 ≤ x7 := g20; have h2 : x7 < (x8.length : Int) := g21; omega), hn, hn, hn, hq g20 g22, hn, hn, hq g20 g21, hset 0 Eu64 x8 (0 + x7.toNat) (ixor .u64 (x8.getD (0 + x7.toNat) 0) (p1.Words.getD x7.toNat 0)) (n := x8.length) (by have h1 : 0 ≤ x7 := g20; have h2 : x7 < (x8.length : Int) := g21; omega) rfl] (by kernel_rfl) ?_
        refine AW.inBlock_normal (AW.inBlock_normal ?_)
        exact jl (x8.set (0 + x7.toNat) (ixor .u64 (x8.getD (0 + x7.toNat) 0) (p1.Words.getD x7.toNat 0))) h (Conv.trans (conv_re (S' := ⟨[(2, vi64 p2), (4, .c (.ptr 0 2 0 0)), (6, .c (.ptr 1 2 0 0)), (8, .c (.ptr 2 2 0 0)), (9, vi64 x7)], [(3, .row 45 false 1 x8.length (Ru64 (x8.set (0 + x7.toNat) (ixor .u64 (x8.getD (0 + x7.toNat) 0) (p1.Words.getD x7.toNat 0))))), (0, .box 84 [ci64 p1.Length, cl 1 Ru64 p1.Words]), (1, .box 84 [ci64 0, .t (.v (.slice none 0 0))]), (2, .box 84 [ci64 y3.Length, .ref 3 1 0 x8.length])], 27⟩) [(3, 3), (0, 0), (1, 1), (2, 2)] (by kernel_rfl)) (Conv.trans (conv_len (S' := ⟨[(2, vi64 p2), (4, .c (.ptr 0 2 0 0)), (6, .c (.ptr 1 2 0 0)), (8, .c (.ptr 2 2 0 0)), (9, vi64 x7)], [(3, .row 45 false 1 (x8.set (0 + x7.toNat) (ixor .u64 (x8.getD (0 + x7.toNat) 0) (p1.Words.getD x7.toNat 0))).length (Ru64 (x8.set (0 + x7.toNat) (ixor .u64 (x8.getD (0 + x7.toNat) 0) (p1.Words.getD x7.toNat 0))))), (0, .box 84 [ci64 p1.Length, cl 1 Ru64 p1.Words]), (1, .box 84 [ci64 0, .t (.v (.slice none 0 0))]), (2, .box 84 [ci64 y3.Length, .ref 3 1 0 ((x8.set (0 + x7.toNat) (ixor .u64 (x8.getD (0 + x7.toNat) 0) (p1.Words.getD x7.toNat 0))).length)])], 27⟩) (by simp only [List.length_set])) (conv_re [(0, 0), (1, 1), (2, 2), (3, 3)] (by kernel_rfl))))
    ·
     refine AW.exit (AW.thenQ_exit ?_)
     exact lpo h rfl (conv_re [(0, 1), (1, 2), (2, 3)] (by kernel_rfl))
   ·
    show (_ : Exit → St → Prop) (.exit 0) _
    refine AW.inBlock_hit (AW.tn ?_)
    refine AW.sg tt_ok0 [(7, vi64 0)] [0] [(0, .box 84 [ci64 y3.Length, .ref 2 1 0 x23.length])] 6 [] (by kernel_rfl) ?_
    refine AW.ret ?_
    obtain rfl := some_inj h
    exact fn0 (.inr rfl) [(0, 2)] 1 (.tup [.agg [ci64 y3.Length, .ref 2 1 0 x23.length], vi64 0]) (by kernel_rfl)
 ·
  obtain ⟨y25, e26, h⟩ := bnd_some h
  rcases ifs h with ⟨c27, h⟩ | ⟨c27, h⟩
  ·
   refine AW.rg tt_ok0 [(24, vb true)] [] [] 18 [hn, hk (rl_ref09_Valid_con p0 y25 e26), ht c27] (by kernel_rfl) ?_
   exact jl true h (conv_re [(0, 0), (1, 1), (2, 2)] (by kernel_rfl))
  ·
   obtain ⟨y28, e29, h⟩ := bnd_some h
   rcases ifs h with ⟨c30, h⟩ | ⟨c30, h⟩
   ·
    refine AW.rg tt_ok0 [(24, vb true)] [] [] 17 [hn, hk (rl_ref09_Valid_con p0 y25 e26), hf c27, hn, hn, hk (rl_ref09_Valid_con p1 y28 e29), ht c30] (by kernel_rfl) ?_
    exact jl true h (conv_re [(0, 0), (1, 1), (2, 2)] (by kernel_rfl))
   ·
    refine AW.rg tt_ok0 [(24, vb (p0.Length != p1.Length))] [] [] 17 [hn, hk (rl_ref09_Valid_con p0 y25 e26), hf c27, hn, hn, hk (rl_ref09_Valid_con p1 y28 e29), hf c30] (by kernel_rfl) ?_
    exact jl (p0.Length != p1.Length) h (conv_re [(0, 0), (1, 1), (2, 2)] (by kernel_rfl))
end Go.Proofs.Ytknlckjpgmjenaa
