/- Printed by a program of mine (vmgen.py): Go functions, and what they come to. -/
import Derived.Test.YtknlckjpgmjenaaVr
import Derived.Test.YtknlckjpgmjenaaRows
import Derived.Test.YtknlckjpgmjenaaVw
namespace Go.Proofs.Ytknlckjpgmjenaa
open Vm
open IntKind (i64 u64 u32 u8)
set_option maxHeartbeats 10000000
set_option linter.unusedVariables false
set_option linter.unusedSimpArgs false
set_option linter.constructorNameAsVariable false
def ttl0 : List (Nat × TI) := [(3, ⟨.int .i64, 1, 8, [.int .i64 0], false⟩), (4, ⟨.bool, 1, 1, [.bool false], false⟩), (22, ⟨.slice 3, 1, 24, [.slice none 0 0], false⟩), (25, ⟨.ptr 86, 1, 8, [.pointer none], false⟩), (28, ⟨.slice 37, 1, 24, [.slice none 0 0], false⟩), (30, ⟨.slice 49, 1, 24, [.slice none 0 0], false⟩), (31, ⟨.int .i64, 1, 8, [.int .i64 0], false⟩), (35, ⟨.struct [(3, 0), (22, 1), (22, 2)], 3, 56, [.int .i64 0, .slice none 0 0, .slice none 0 0], false⟩), (37, ⟨.slice 44, 1, 24, [.slice none 0 0], false⟩), (38, ⟨.slice 84, 1, 24, [.slice none 0 0], false⟩), (40, ⟨.struct [(3, 0), (3, 1), (38, 2)], 3, 40, [.int .i64 0, .int .i64 0, .slice none 0 0], false⟩), (41, ⟨.slice 45, 1, 24, [.slice none 0 0], false⟩), (42, ⟨.slice 4, 1, 24, [.slice none 0 0], false⟩), (44, ⟨.struct [(40, 0), (41, 3), (42, 4)], 5, 88, [.int .i64 0, .int .i64 0, .slice none 0 0, .slice none 0 0, .slice none 0 0], false⟩), (45, ⟨.int .u64, 1, 8, [.int .u64 0], false⟩), (47, ⟨.struct [(3, 0), (3, 1)], 2, 16, [.int .i64 0, .int .i64 0], true⟩), (49, ⟨.struct [(47, 0), (47, 2), (3, 4), (3, 5)], 6, 48, [.int .i64 0, .int .i64 0, .int .i64 0, .int .i64 0, .int .i64 0, .int .i64 0], true⟩), (60, ⟨.arr 3 3, 3, 24, [.int .i64 0, .int .i64 0, .int .i64 0], true⟩), (84, ⟨.struct [(3, 0), (41, 1)], 2, 32, [.int .i64 0, .slice none 0 0], false⟩), (86, ⟨.struct [(22, 0), (3, 1), (45, 2)], 3, 40, [.slice none 0 0, .int .i64 0, .int .u64 0], false⟩), (129, ⟨.arr 6 3, 6, 48, [.int .i64 0, .int .i64 0, .int .i64 0, .int .i64 0, .int .i64 0, .int .i64 0], true⟩)]
theorem tt_ok0 : TTok Try.prog (Vm.look ttl0) := ttok_of ⟨⟨by kernel_rfl, by kernel_rfl, by kernel_rfl⟩, ⟨by kernel_rfl, by kernel_rfl, by kernel_rfl⟩, ⟨by kernel_rfl, by kernel_rfl, by kernel_rfl⟩, ⟨by kernel_rfl, by kernel_rfl, by kernel_rfl⟩, ⟨by kernel_rfl, by kernel_rfl, by kernel_rfl⟩, ⟨by kernel_rfl, by kernel_rfl, by kernel_rfl⟩, ⟨by kernel_rfl, by kernel_rfl, by kernel_rfl⟩, ⟨by kernel_rfl, by kernel_rfl, by kernel_rfl⟩, ⟨by kernel_rfl, by kernel_rfl, by kernel_rfl⟩, ⟨by kernel_rfl, by kernel_rfl, by kernel_rfl⟩, ⟨by kernel_rfl, by kernel_rfl, by kernel_rfl⟩, ⟨by kernel_rfl, by kernel_rfl, by kernel_rfl⟩, ⟨by kernel_rfl, by kernel_rfl, by kernel_rfl⟩, ⟨by kernel_rfl, by kernel_rfl, by kernel_rfl⟩, ⟨by kernel_rfl, by kernel_rfl, by kernel_rfl⟩, ⟨by kernel_rfl, by kernel_rfl, by kernel_rfl⟩, ⟨by kernel_rfl, by kernel_rfl, by kernel_rfl⟩, ⟨by kernel_rfl, by kernel_rfl, by kernel_rfl⟩, ⟨by kernel_rfl, by kernel_rfl, by kernel_rfl⟩, ⟨by kernel_rfl, by kernel_rfl, by kernel_rfl⟩, ⟨by kernel_rfl, by kernel_rfl, by kernel_rfl⟩, trivial⟩
theorem mo0 : Try.prog.follows .mixedOrders = true := by kernel_rfl
structure S_api_Bits where
 Length : Int
 Words : List Int
def dS_api_Bits : S_api_Bits := ⟨0, ([] : List Int)⟩
instance : Inhabited S_api_Bits := ⟨dS_api_Bits⟩
structure S_api_Encoded where
 ID : Int
 Version : Int
 Fields : List S_api_Bits
def dS_api_Encoded : S_api_Encoded := ⟨0, 0, ([] : List S_api_Bits)⟩
instance : Inhabited S_api_Encoded := ⟨dS_api_Encoded⟩
structure S_api_Sent where
 Record : S_api_Encoded
 Hashes : List Int
 Has : List Bool
def dS_api_Sent : S_api_Sent := ⟨dS_api_Encoded, ([] : List Int), ([] : List Bool)⟩
instance : Inhabited S_api_Sent := ⟨dS_api_Sent⟩
def Eu64 (x : Int) : List T := [.v (.int .u64 x)]
def Ru64 (xs : List Int) : Nat → Nat → T := rowL 0 Eu64 xs
theorem Vu64 : ∀ x, allV (Eu64 x) := fun _ => ⟨tv, tv⟩
def ES_api_Bits (x : S_api_Bits) : List T := [.v (.int .i64 x.Length), .tree x.Words.length 1 (Ru64 x.Words)]
def RS_api_Bits (xs : List S_api_Bits) : Nat → Nat → T := rowL dS_api_Bits ES_api_Bits xs
def Eb (x : Bool) : List T := [.v (.bool x)]
def Rb (xs : List Bool) : Nat → Nat → T := rowL false Eb xs
theorem Vb : ∀ x, allV (Eb x) := fun _ => ⟨tv, tv⟩
def Ei64 (x : Int) : List T := [.v (.int .i64 x)]
def Ri64 (xs : List Int) : Nat → Nat → T := rowL 0 Ei64 xs
theorem Vi64 : ∀ x, allV (Ei64 x) := fun _ => ⟨tv, tv⟩
def ES_api_Sent (x : S_api_Sent) : List T := [.v (.int .i64 x.Record.ID), .v (.int .i64 x.Record.Version), .tree x.Record.Fields.length 2 (RS_api_Bits x.Record.Fields), .tree x.Hashes.length 1 (Ru64 x.Hashes), .tree x.Has.length 1 (Rb x.Has)]
def RS_api_Sent (xs : List S_api_Sent) : Nat → Nat → T := rowL dS_api_Sent ES_api_Sent xs
def ElS_api_Sent (x : List S_api_Sent) : List T := [.tree x.length 5 (RS_api_Sent x)]
def RlS_api_Sent (xs : List (List S_api_Sent)) : Nat → Nat → T := rowL ([] : List S_api_Sent) ElS_api_Sent xs
structure S_api_Weights where
 Prior : Int
 Agree : List Int
 Differ : List Int
def dS_api_Weights : S_api_Weights := ⟨0, ([] : List Int), ([] : List Int)⟩
instance : Inhabited S_api_Weights := ⟨dS_api_Weights⟩
/-! recordlink/weight.fits -/
noncomputable def weight_fits_k1 (x1 : Bool) : Option Bool := some x1
noncomputable def weight_fits (p0 : Int) : Option Bool := if (decide (p0 ≥ (-65536))) = true then (weight_fits_k1 (decide (p0 ≤ 65536))) else (weight_fits_k1 false)
set_option maxRecDepth 100000 in
theorem weight_fits_con (p0 : Int) (r : Bool) (h : weight_fits p0 = some r) : Con Try.prog 101 [vi64 p0] [] (vb r) [] := by
 refine con_of tt_ok0 0 Try.func101 (by kernel_rfl) rfl (by kernel_rfl) (fun base X _ => AW.post ?_)
 unfold weight_fits at h
 refine AW.sg tt_ok0 [] [] [] 1 [] (by kernel_rfl) ?_
 refine AW.seq ?_
 refine AW.join (ι := Bool) (fun v => ⟨[(2, vb v)], [], 0⟩) (fun v : Bool => weight_fits_k1 v = some r) (fun x1 h => ?_) ?_
 ·
  unfold weight_fits_k1 at h
  refine AW.tn (AW.ret ?_)
  obtain rfl := some_inj h
  exact fn0 (.inr rfl) [] 0 (vb x1) (by kernel_rfl)
 ·
  rcases ifs h with ⟨c2, h⟩ | ⟨c2, h⟩
  ·
   refine AW.rg tt_ok0 [(2, vb (decide (p0 ≤ 65536)))] [] [] 8 [hn, ht c2] (by kernel_rfl) ?_
   exact jl (decide (p0 ≤ 65536)) h (conv_re [] (by kernel_rfl))
  ·
   refine AW.rg tt_ok0 [(2, vb false)] [] [] 8 [hn, hf c2] (by kernel_rfl) ?_
   exact jl false h (conv_re [] (by kernel_rfl))
/-! recordlink/weight.Check -/
noncomputable def weight_Check_k3 (x4 : Int) (x6 : Bool) : Option (Int ⊕ (Unit ⊕ Unit)) := if x6 = true then (some (.inr (.inr ()))) else (some (.inl (i64.wrap (x4 + 1))))
noncomputable def weight_Check_l2 (p0 : S_api_Weights) (x4 : Int) : Option (Int ⊕ (Unit ⊕ Unit)) := if (decide (x4 < ((p0.Agree.length : Nat) : Int))) = true then (if 0 ≤ x4 then (if x4 < ((p0.Agree.length : Nat) : Int) then ((weight_fits (p0.Agree.getD x4.toNat 0)).bind fun y10 => (if (!y10) = true then (weight_Check_k3 x4 true) else (if x4 < ((p0.Differ.length : Nat) : Int) then ((weight_fits (p0.Differ.getD x4.toNat 0)).bind fun y14 => (weight_Check_k3 x4 (!y14))) else none))) else none) else none) else (some (.inr (.inl ())))
noncomputable def weight_Check_a4 : Option Int := some 0
noncomputable def weight_Check_a5 : Option Int := some 40
noncomputable def weight_Check_k1 (p0 : S_api_Weights) (x1 : Bool) : Option Int := if x1 = true then (some 40) else (bindE (loop (fun v : Int => weight_Check_l2 p0 v) 0) (fun t => weight_Check_a4) (fun t => weight_Check_a5))
noncomputable def weight_Check (p0 : S_api_Weights) : Option Int := if (decide (((p0.Agree.length : Nat) : Int) < 1)) = true then (weight_Check_k1 p0 true) else (if (decide (((p0.Agree.length : Nat) : Int) > 5)) = true then (weight_Check_k1 p0 true) else (if (((p0.Differ.length : Nat) : Int) != ((p0.Agree.length : Nat) : Int)) = true then (weight_Check_k1 p0 true) else ((weight_fits p0.Prior).bind fun y20 => (weight_Check_k1 p0 (!y20)))))
set_option maxRecDepth 100000 in
theorem weight_Check_con (p0 : S_api_Weights) (r : Int) (h : weight_Check p0 = some r) : Con Try.prog 78 [.agg [ci64 p0.Prior, cl 1 Ri64 p0.Agree, cl 1 Ri64 p0.Differ]] [] (vi64 r) [] := by
 refine con_of tt_ok0 0 Try.func78 (by kernel_rfl) rfl (by kernel_rfl) (fun base X _ => AW.post ?_)
 unfold weight_Check at h
 refine AW.sg tt_ok0 [(1, .c (.ptr 0 3 0 0))] [0] [(0, .box 35 [ci64 p0.Prior, cl 1 Ri64 p0.Agree, cl 1 Ri64 p0.Differ])] 2 [] (by kernel_rfl) ?_
 refine AW.seq (AW.seq ?_)
 refine AW.join (ι := Bool) (fun v => ⟨[(1, .c (.ptr 0 3 0 0)), (28, vb v)], [(0, .box 35 [ci64 p0.Prior, cl 1 Ri64 p0.Agree, cl 1 Ri64 p0.Differ])], 1⟩) (fun v : Bool => weight_Check_k1 p0 v = some r) (fun x1 h => ?_) ?_
 ·
  unfold weight_Check_k1 at h
  refine AW.tn ?_
  refine AW.co h (by kernel_rfl) (fun c2 h => ?_) (fun c2 h => ?_)
  ·
   refine AW.sg tt_ok0 [(2, vi64 40)] [] [] 2 [] (by kernel_rfl) ?_
   refine AW.ret (AW.tr ?_)
   obtain rfl := some_inj h
   exact fn0 (.inr rfl) [] 0 (vi64 40) (by kernel_rfl)
  ·
   refine AW.skip (AW.tn (AW.seq ?_))
   refine AW.sg tt_ok0 [(32, vi64 0), (31, vi64 ((p0.Agree.length : Nat) : Int))] [] [] 5 [] (by kernel_rfl) ?_
   refine AW.block ?_
   refine AW.lpE h (fun v => ⟨[(1, .c (.ptr 0 3 0 0)), (31, vi64 ((p0.Agree.length : Nat) : Int)), (32, vi64 v)], [(0, .box 35 [ci64 p0.Prior, cl 1 Ri64 p0.Agree, cl 1 Ri64 p0.Differ])], 1⟩) (fun t => (.exit 0, ⟨[], [], 0⟩)) (fun t => (.ret, ⟨[(2, vi64 40)], [], 0⟩)) (conv_re [(0, 0)] (by kernel_rfl)) (fun _ => tv) (fun _ => tv) ?_ (fun t h => ?_) (fun t h => ?_)
   ·
    clear h
    intro x4 o h
    unfold weight_Check_l2 at h
    refine AW.sg tt_ok0 [(33, vb (decide (x4 < ((p0.Agree.length : Nat) : Int))))] [] [] 2 [] (by kernel_rfl) ?_
    refine AW.seq ?_
    refine AW.co h (by kernel_rfl) (fun c5 h => ?_) (fun c5 h => ?_)
    ·
     refine AW.skip (AW.tn ?_)
     refine AW.seq (AW.block ?_)
     refine AW.sg tt_ok0 [(3, vi64 x4)] [] [] 4 [] (by kernel_rfl) ?_
     refine AW.seq ?_
     refine AW.join (ι := Bool) (fun v => ⟨[(1, .c (.ptr 0 3 0 0)), (31, vi64 ((p0.Agree.length : Nat) : Int)), (32, vi64 x4), (50, vb v)], [(0, .box 35 [ci64 p0.Prior, cl 1 Ri64 p0.Agree, cl 1 Ri64 p0.Differ])], 1⟩) (fun v : Bool => weight_Check_k3 x4 v = some o) (fun x6 h => ?_) ?_
     ·
      unfold weight_Check_k3 at h
      refine AW.tn ?_
      refine AW.co h (by kernel_rfl) (fun c7 h => ?_) (fun c7 h => ?_)
      ·
       refine AW.sg tt_ok0 [(2, vi64 40)] [] [] 2 [] (by kernel_rfl) ?_
       refine AW.ret (AW.inBlock_ret (AW.tr ?_))
       exact lpo h rfl (conv_re [] (by kernel_rfl))
      ·
       refine AW.skip (AW.inBlock_normal (AW.tn ?_))
       refine AW.rg tt_ok0 [(32, vi64 (i64.wrap (x4 + 1)))] [] [] 3 [] (by kernel_rfl) ?_
       exact lpn h (conv_re [(0, 0)] (by kernel_rfl))
     ·
      obtain ⟨g8, g9, h⟩ := ifd h
      obtain ⟨y10, e11, h⟩ := bnd_some h
      rcases ifs h with ⟨c12, h⟩ | ⟨c12, h⟩
      ·
       refine AW.rg tt_ok0 [(50, vb true)] [] [] 19 [hn, hn, hn, hq g8 g9, hn, hk (weight_fits_con (p0.Agree.getD x4.toNat 0) y10 e11), ht c12] (by kernel_rfl) ?_
       exact jl true h (conv_re [(0, 0)] (by kernel_rfl))
      ·
       obtain ⟨g13, h⟩ := ifc h
       obtain ⟨y14, e15, h⟩ := bnd_some h
       refine AW.rg tt_ok0 [(50, vb (!y14))] [] [] 18 [hn, hn, hn, hq g8 g9, hn, hk (weight_fits_con (p0.Agree.getD x4.toNat 0) y10 e11), hf c12, hn, hn, hn, hn, hq g8 g13, hn, hk (weight_fits_con (p0.Differ.getD x4.toNat 0) y14 e15)] (by kernel_rfl) ?_
       exact jl (!y14) h (conv_re [(0, 0)] (by kernel_rfl))
    ·
     refine AW.exit (AW.thenQ_exit ?_)
     exact lpo h rfl (conv_re [] (by kernel_rfl))
   ·
    replace h : weight_Check_a4 = some r := h
    unfold weight_Check_a4 at h
    show (_ : Exit → St → Prop) (.exit 0) _
    refine AW.inBlock_hit (AW.tn ?_)
    refine AW.sg tt_ok0 [(2, vi64 0)] [] [] 1 [] (by kernel_rfl) ?_
    refine AW.ret ?_
    obtain rfl := some_inj h
    exact fn0 (.inr rfl) [] 0 (vi64 0) (by kernel_rfl)
   ·
    replace h : weight_Check_a5 = some r := h
    unfold weight_Check_a5 at h
    show (_ : Exit → St → Prop) (.ret) _
    refine AW.inBlock_ret (AW.tr ?_)
    obtain rfl := some_inj h
    exact fn0 (.inr rfl) [] 0 (vi64 40) (by kernel_rfl)
 ·
  rcases ifs h with ⟨c17, h⟩ | ⟨c17, h⟩
  ·
   refine AW.rg tt_ok0 [(28, vb true)] [] [] 27 [hn, hn, hn, ht c17] (by kernel_rfl) ?_
   exact jl true h (conv_re [(0, 0)] (by kernel_rfl))
  ·
   rcases ifs h with ⟨c18, h⟩ | ⟨c18, h⟩
   ·
    refine AW.rg tt_ok0 [(28, vb true)] [] [] 27 [hn, hn, hn, hf c17, hn, hn, hn, hn, ht c18] (by kernel_rfl) ?_
    exact jl true h (conv_re [(0, 0)] (by kernel_rfl))
   ·
    rcases ifs h with ⟨c19, h⟩ | ⟨c19, h⟩
    ·
     refine AW.rg tt_ok0 [(28, vb true)] [] [] 27 [hn, hn, hn, hf c17, hn, hn, hn, hn, hf c18, hn, hn, hn, hn, hn, hn, hn, hn, ht c19] (by kernel_rfl) ?_
     exact jl true h (conv_re [(0, 0)] (by kernel_rfl))
    ·
     obtain ⟨y20, e21, h⟩ := bnd_some h
     refine AW.rg tt_ok0 [(28, vb (!y20))] [] [] 26 [hn, hn, hn, hf c17, hn, hn, hn, hn, hf c18, hn, hn, hn, hn, hn, hn, hn, hn, hf c19, hn, hn, hn, hn, hk (weight_fits_con p0.Prior y20 e21)] (by kernel_rfl) ?_
     exact jl (!y20) h (conv_re [(0, 0)] (by kernel_rfl))
/-! recordlink/candidate.check$1 -/
noncomputable def candidate_check_f1_k1 (x1 : Bool) : Option Bool := some x1
noncomputable def candidate_check_f1 (p0 : Int) : Option Bool := if (decide (p0 < 0)) = true then (candidate_check_f1_k1 true) else (candidate_check_f1_k1 (decide (p0 > 1000)))
set_option maxRecDepth 100000 in
theorem candidate_check_f1_con (p0 : Int) (r : Bool) (h : candidate_check_f1 p0 = some r) : Con Try.prog 80 [vi64 p0] [] (vb r) [] := by
 refine con_of tt_ok0 0 Try.func80 (by kernel_rfl) rfl (by kernel_rfl) (fun base X _ => AW.post ?_)
 unfold candidate_check_f1 at h
 refine AW.sg tt_ok0 [] [] [] 1 [] (by kernel_rfl) ?_
 refine AW.seq ?_
 refine AW.join (ι := Bool) (fun v => ⟨[(2, vb v)], [], 0⟩) (fun v : Bool => candidate_check_f1_k1 v = some r) (fun x1 h => ?_) ?_
 ·
  unfold candidate_check_f1_k1 at h
  refine AW.tn (AW.ret ?_)
  obtain rfl := some_inj h
  exact fn0 (.inr rfl) [] 0 (vb x1) (by kernel_rfl)
 ·
  rcases ifs h with ⟨c2, h⟩ | ⟨c2, h⟩
  ·
   refine AW.rg tt_ok0 [(2, vb true)] [] [] 8 [hn, ht c2] (by kernel_rfl) ?_
   exact jl true h (conv_re [] (by kernel_rfl))
  ·
   refine AW.rg tt_ok0 [(2, vb (decide (p0 > 1000)))] [] [] 8 [hn, hf c2] (by kernel_rfl) ?_
   exact jl (decide (p0 > 1000)) h (conv_re [] (by kernel_rfl))
/-! slices.IndexFunc[[]int,int] -/
noncomputable def slices_IndexFunc_int_candidate_check_f1_l1 (p0 : List Int) (x2 : Int) : Option (Int ⊕ (Unit ⊕ Int)) := if (decide (x2 < (p0.length : Int))) = true then (if 0 ≤ x2 then (if x2 < (p0.length : Int) then ((candidate_check_f1 (p0.getD x2.toNat 0)).bind fun y7 => (if y7 = true then (some (.inr (.inr x2))) else (some (.inl (i64.wrap (x2 + 1)))))) else none) else none) else (some (.inr (.inl ())))
noncomputable def slices_IndexFunc_int_candidate_check_f1_a2 : Option Int := some (-1)
noncomputable def slices_IndexFunc_int_candidate_check_f1_a3 (x10 : Int) : Option Int := some x10
noncomputable def slices_IndexFunc_int_candidate_check_f1 (p0 : List Int) : Option Int := bindE (loop (fun v : Int => slices_IndexFunc_int_candidate_check_f1_l1 p0 v) 0) (fun t => slices_IndexFunc_int_candidate_check_f1_a2) (fun t => slices_IndexFunc_int_candidate_check_f1_a3 t)
set_option maxRecDepth 100000 in
theorem slices_IndexFunc_int_candidate_check_f1_con (p0 : List Int) (r : Int) (h : slices_IndexFunc_int_candidate_check_f1 p0 = some r) : Con Try.prog 102 [vl 1 Ri64 p0, .c (.t (.v (.func (.func 80) #[] #[])))] [] (vi64 r) [] := by
 refine con_of tt_ok0 0 Try.func102 (by kernel_rfl) rfl (by kernel_rfl) (fun base X _ => AW.post ?_)
 unfold slices_IndexFunc_int_candidate_check_f1 at h
 refine AW.sg tt_ok0 [] [] [] 1 [] (by kernel_rfl) ?_
 refine AW.seq ?_
 refine AW.sg tt_ok0 [(8, vi64 0), (7, vi64 (p0.length : Int))] [] [] 4 [] (by kernel_rfl) ?_
 refine AW.block ?_
 refine AW.lpE h (fun v => ⟨[(0, vl 1 Ri64 p0), (1, .c (.t (.v (.func (.func 80) #[] #[])))), (7, vi64 (p0.length : Int)), (8, vi64 v)], [], 0⟩) (fun t => (.exit 0, ⟨[], [], 0⟩)) (fun t => (.ret, ⟨[(4, vi64 t)], [], 0⟩)) (conv_re [] (by kernel_rfl)) (fun _ => tv) (fun _ => tv) ?_ (fun t h => ?_) (fun x10 h => ?_)
 ·
  clear h
  intro x2 o h
  unfold slices_IndexFunc_int_candidate_check_f1_l1 at h
  refine AW.sg tt_ok0 [(9, vb (decide (x2 < (p0.length : Int))))] [] [] 1 [] (by kernel_rfl) ?_
  refine AW.seq ?_
  refine AW.co h (by kernel_rfl) (fun c4 h => ?_) (fun c4 h => ?_)
  ·
   refine AW.skip (AW.tn ?_)
   refine AW.seq (AW.block ?_)
   refine AW.sg tt_ok0 [(5, vi64 x2)] [] [] 3 [] (by kernel_rfl) ?_
   obtain ⟨g5, g6, h⟩ := ifd h
   obtain ⟨y7, e8, h⟩ := bnd_some h
   refine AW.sg tt_ok0 [(16, vb y7)] [] [] 8 [hn, hn, hn, hq g5 g6, hn, hk (candidate_check_f1_con (p0.getD x2.toNat 0) y7 e8)] (by kernel_rfl) ?_
   refine AW.co h (by kernel_rfl) (fun c9 h => ?_) (fun c9 h => ?_)
   ·
    refine AW.sg tt_ok0 [(4, vi64 x2)] [] [] 10 [] (by kernel_rfl) ?_
    refine AW.ret (AW.inBlock_ret (AW.tr ?_))
    exact lpo h rfl (conv_re [] (by kernel_rfl))
   ·
    refine AW.skip (AW.inBlock_normal (AW.tn ?_))
    refine AW.rg tt_ok0 [(8, vi64 (i64.wrap (x2 + 1)))] [] [] 10 [] (by kernel_rfl) ?_
    exact lpn h (conv_re [] (by kernel_rfl))
  ·
   refine AW.exit (AW.thenQ_exit ?_)
   exact lpo h rfl (conv_re [] (by kernel_rfl))
 ·
  replace h : slices_IndexFunc_int_candidate_check_f1_a2 = some r := h
  unfold slices_IndexFunc_int_candidate_check_f1_a2 at h
  show (_ : Exit → St → Prop) (.exit 0) _
  refine AW.inBlock_hit (AW.tn ?_)
  refine AW.sg tt_ok0 [(4, vi64 (-1))] [] [] 1 [] (by kernel_rfl) ?_
  refine AW.ret ?_
  obtain rfl := some_inj h
  exact fn0 (.inr rfl) [] 0 (vi64 (-1)) (by kernel_rfl)
 ·
  unfold slices_IndexFunc_int_candidate_check_f1_a3 at h
  show (_ : Exit → St → Prop) (.ret) _
  refine AW.inBlock_ret (AW.tr ?_)
  obtain rfl := some_inj h
  exact fn0 (.inr rfl) [] 0 (vi64 x10) (by kernel_rfl)
/-! slices.ContainsFunc[[]int,int] -/
noncomputable def slices_ContainsFunc_int_candidate_check_f1 (p0 : List Int) : Option Bool := (slices_IndexFunc_int_candidate_check_f1 p0).bind fun y1 => (some (decide (y1 ≥ 0)))
set_option maxRecDepth 100000 in
theorem slices_ContainsFunc_int_candidate_check_f1_con (p0 : List Int) (r : Bool) (h : slices_ContainsFunc_int_candidate_check_f1 p0 = some r) : Con Try.prog 79 [vl 1 Ri64 p0, .c (.t (.v (.func (.func 80) #[] #[])))] [] (vb r) [] := by
 refine con_of tt_ok0 0 Try.func79 (by kernel_rfl) rfl (by kernel_rfl) (fun base X _ => AW.post ?_)
 unfold slices_ContainsFunc_int_candidate_check_f1 at h
 refine AW.sg tt_ok0 [] [] [] 1 [] (by kernel_rfl) ?_
 obtain ⟨y1, e2, h⟩ := bnd_some h
 refine AW.sg tt_ok0 [(4, vb (decide (y1 ≥ 0)))] [] [] 5 [hn, hn, hk (slices_IndexFunc_int_candidate_check_f1_con p0 y1 e2)] (by kernel_rfl) ?_
 refine AW.ret ?_
 obtain rfl := some_inj h
 exact fn0 (.inr rfl) [] 0 (vb (decide (y1 ≥ 0))) (by kernel_rfl)
/-! recordlink/encode.none -/
noncomputable def encode_none_k1 (x1 : Bool) : Option Bool := some x1
noncomputable def encode_none (p0 : S_api_Bits) : Option Bool := if (p0.Length == 0) = true then (encode_none_k1 (((p0.Words.length : Nat) : Int) == 0)) else (encode_none_k1 false)
set_option maxRecDepth 100000 in
theorem encode_none_con (p0 : S_api_Bits) (r : Bool) (h : encode_none p0 = some r) : Con Try.prog 84 [.agg [ci64 p0.Length, cl 1 Ru64 p0.Words]] [] (vb r) [] := by
 refine con_of tt_ok0 0 Try.func84 (by kernel_rfl) rfl (by kernel_rfl) (fun base X _ => AW.post ?_)
 unfold encode_none at h
 refine AW.sg tt_ok0 [(1, .c (.ptr 0 2 0 0))] [0] [(0, .box 84 [ci64 p0.Length, cl 1 Ru64 p0.Words])] 2 [] (by kernel_rfl) ?_
 refine AW.seq ?_
 refine AW.join (ι := Bool) (fun v => ⟨[(2, vb v)], [], 0⟩) (fun v : Bool => encode_none_k1 v = some r) (fun x1 h => ?_) ?_
 ·
  unfold encode_none_k1 at h
  refine AW.tn (AW.ret ?_)
  obtain rfl := some_inj h
  exact fn0 (.inr rfl) [] 0 (vb x1) (by kernel_rfl)
 ·
  rcases ifs h with ⟨c2, h⟩ | ⟨c2, h⟩
  ·
   refine AW.rg tt_ok0 [(2, vb (((p0.Words.length : Nat) : Int) == 0))] [] [] 12 [hn, hn, ht c2] (by kernel_rfl) ?_
   exact jl (((p0.Words.length : Nat) : Int) == 0) h (conv_re [] (by kernel_rfl))
  ·
   refine AW.rg tt_ok0 [(2, vb false)] [] [] 12 [hn, hn, hf c2] (by kernel_rfl) ?_
   exact jl false h (conv_re [] (by kernel_rfl))
/-! recordlink/bitset.right -/
noncomputable def bitset_right_k1 (x1 : Bool) : Option Bool := some x1
noncomputable def bitset_right (p0 : Int) : Option Bool := if (decide (p0 ≥ 64)) = true then (if (decide (p0 ≤ 512)) = true then (bitset_right_k1 ((p0.tmod 64) == 0)) else (bitset_right_k1 false)) else (bitset_right_k1 false)
set_option maxRecDepth 100000 in
theorem bitset_right_con (p0 : Int) (r : Bool) (h : bitset_right p0 = some r) : Con Try.prog 106 [vi64 p0] [] (vb r) [] := by
 refine con_of tt_ok0 0 Try.func106 (by kernel_rfl) rfl (by kernel_rfl) (fun base X _ => AW.post ?_)
 unfold bitset_right at h
 refine AW.sg tt_ok0 [] [] [] 1 [] (by kernel_rfl) ?_
 refine AW.seq ?_
 refine AW.join (ι := Bool) (fun v => ⟨[(2, vb v)], [], 0⟩) (fun v : Bool => bitset_right_k1 v = some r) (fun x1 h => ?_) ?_
 ·
  unfold bitset_right_k1 at h
  refine AW.tn (AW.ret ?_)
  obtain rfl := some_inj h
  exact fn0 (.inr rfl) [] 0 (vb x1) (by kernel_rfl)
 ·
  rcases ifs h with ⟨c2, h⟩ | ⟨c2, h⟩
  ·
   rcases ifs h with ⟨c3, h⟩ | ⟨c3, h⟩
   ·
    refine AW.rg tt_ok0 [(2, vb ((p0.tmod 64) == 0))] [] [] 13 [hn, ht c2, hn, hn, ht c3, hn, hn, hn, ho (p := (64 : Int) ≠ 0) (by decide)] (by kernel_rfl) ?_
    exact jl ((p0.tmod 64) == 0) h (conv_re [] (by kernel_rfl))
   ·
    refine AW.rg tt_ok0 [(2, vb false)] [] [] 13 [hn, ht c2, hn, hn, hf c3] (by kernel_rfl) ?_
    exact jl false h (conv_re [] (by kernel_rfl))
  ·
   refine AW.rg tt_ok0 [(2, vb false)] [] [] 13 [hn, hf c2] (by kernel_rfl) ?_
   exact jl false h (conv_re [] (by kernel_rfl))
/-! recordlink/bitset.Valid -/
noncomputable def bitset_Valid_k1 (x1 : Bool) : Option Bool := some x1
noncomputable def bitset_Valid (p0 : S_api_Bits) : Option Bool := (bitset_right p0.Length).bind fun y2 => (if y2 = true then (bitset_Valid_k1 (((p0.Words.length : Nat) : Int) == (i64.wrap (p0.Length.tdiv 64)))) else (bitset_Valid_k1 false))
set_option maxRecDepth 100000 in
theorem bitset_Valid_con (p0 : S_api_Bits) (r : Bool) (h : bitset_Valid p0 = some r) : Con Try.prog 85 [.agg [ci64 p0.Length, cl 1 Ru64 p0.Words]] [] (vb r) [] := by
 refine con_of tt_ok0 0 Try.func85 (by kernel_rfl) rfl (by kernel_rfl) (fun base X _ => AW.post ?_)
 unfold bitset_Valid at h
 refine AW.sg tt_ok0 [(1, .c (.ptr 0 2 0 0))] [0] [(0, .box 84 [ci64 p0.Length, cl 1 Ru64 p0.Words])] 2 [] (by kernel_rfl) ?_
 refine AW.seq ?_
 refine AW.join (ι := Bool) (fun v => ⟨[(2, vb v)], [], 0⟩) (fun v : Bool => bitset_Valid_k1 v = some r) (fun x1 h => ?_) ?_
 ·
  unfold bitset_Valid_k1 at h
  refine AW.tn (AW.ret ?_)
  obtain rfl := some_inj h
  exact fn0 (.inr rfl) [] 0 (vb x1) (by kernel_rfl)
 ·
  obtain ⟨y2, e3, h⟩ := bnd_some h
  rcases ifs h with ⟨c4, hs⟩ | ⟨c4, hs⟩
  ·clear h; subst c4; have h := hs; clear hs
   refine AW.rg tt_ok0 [(2, vb (((p0.Words.length : Nat) : Int) == (i64.wrap (p0.Length.tdiv 64))))] [] [] 14 [hn, hn, hk (bitset_right_con p0.Length true e3), hn, hn, hn, hn, hn, hn, ho (p := (64 : Int) ≠ 0) (by decide)] (by kernel_rfl) ?_
   exact jl (((p0.Words.length : Nat) : Int) == (i64.wrap (p0.Length.tdiv 64))) h (conv_re [] (by kernel_rfl))
  ·clear h; subst c4; have h := hs; clear hs
   refine AW.rg tt_ok0 [(2, vb false)] [] [] 14 [hn, hn, hk (bitset_right_con p0.Length false e3)] (by kernel_rfl) ?_
   exact jl false h (conv_re [] (by kernel_rfl))
/-! recordlink/encode.Valid$1 -/
noncomputable def encode_Valid_f1_k1 (x1 : Bool) : Option Bool := some x1
noncomputable def encode_Valid_f1 (p0 : S_api_Bits) : Option Bool := (encode_none p0).bind fun y2 => (if (!y2) = true then ((bitset_Valid p0).bind fun y5 => (encode_Valid_f1_k1 (!y5))) else (encode_Valid_f1_k1 false))
set_option maxRecDepth 100000 in
theorem encode_Valid_f1_con (p0 : S_api_Bits) (r : Bool) (h : encode_Valid_f1 p0 = some r) : Con Try.prog 83 [.agg [ci64 p0.Length, cl 1 Ru64 p0.Words]] [] (vb r) [] := by
 refine con_of tt_ok0 0 Try.func83 (by kernel_rfl) rfl (by kernel_rfl) (fun base X _ => AW.post ?_)
 unfold encode_Valid_f1 at h
 refine AW.sg tt_ok0 [(1, .c (.ptr 0 2 0 0))] [0] [(0, .box 84 [ci64 p0.Length, cl 1 Ru64 p0.Words])] 2 [] (by kernel_rfl) ?_
 refine AW.seq ?_
 refine AW.join (ι := Bool) (fun v => ⟨[(2, vb v)], [], 0⟩) (fun v : Bool => encode_Valid_f1_k1 v = some r) (fun x1 h => ?_) ?_
 ·
  unfold encode_Valid_f1_k1 at h
  refine AW.tn (AW.ret ?_)
  obtain rfl := some_inj h
  exact fn0 (.inr rfl) [] 0 (vb x1) (by kernel_rfl)
 ·
  obtain ⟨y2, e3, h⟩ := bnd_some h
  rcases ifs h with ⟨c4, h⟩ | ⟨c4, h⟩
  ·
   obtain ⟨y5, e6, h⟩ := bnd_some h
   refine AW.rg tt_ok0 [(2, vb (!y5))] [] [] 9 [hn, hk (encode_none_con p0 y2 e3), ht c4, hn, hn, hk (bitset_Valid_con p0 y5 e6)] (by kernel_rfl) ?_
   exact jl (!y5) h (conv_re [] (by kernel_rfl))
  ·
   refine AW.rg tt_ok0 [(2, vb false)] [] [] 10 [hn, hk (encode_none_con p0 y2 e3), hf c4] (by kernel_rfl) ?_
   exact jl false h (conv_re [] (by kernel_rfl))
/-! slices.IndexFunc[[]recordlink/api.Bits,recordlink/api.Bits] -/
noncomputable def slices_IndexFunc_api_Bits_encode_Valid_f1_l1 (p0 : List S_api_Bits) (x2 : Int) : Option (Int ⊕ (Unit ⊕ Int)) := if (decide (x2 < (p0.length : Int))) = true then (if 0 ≤ x2 then (if x2 < (p0.length : Int) then ((encode_Valid_f1 (p0.getD x2.toNat dS_api_Bits)).bind fun y7 => (if y7 = true then (some (.inr (.inr x2))) else (some (.inl (i64.wrap (x2 + 1)))))) else none) else none) else (some (.inr (.inl ())))
noncomputable def slices_IndexFunc_api_Bits_encode_Valid_f1_a2 : Option Int := some (-1)
noncomputable def slices_IndexFunc_api_Bits_encode_Valid_f1_a3 (x10 : Int) : Option Int := some x10
noncomputable def slices_IndexFunc_api_Bits_encode_Valid_f1 (p0 : List S_api_Bits) : Option Int := bindE (loop (fun v : Int => slices_IndexFunc_api_Bits_encode_Valid_f1_l1 p0 v) 0) (fun t => slices_IndexFunc_api_Bits_encode_Valid_f1_a2) (fun t => slices_IndexFunc_api_Bits_encode_Valid_f1_a3 t)
set_option maxRecDepth 100000 in
theorem slices_IndexFunc_api_Bits_encode_Valid_f1_con (p0 : List S_api_Bits) (r : Int) (h : slices_IndexFunc_api_Bits_encode_Valid_f1 p0 = some r) : Con Try.prog 105 [vl 2 RS_api_Bits p0, .c (.t (.v (.func (.func 83) #[] #[])))] [] (vi64 r) [] := by
 refine con_of tt_ok0 0 Try.func105 (by kernel_rfl) rfl (by kernel_rfl) (fun base X _ => AW.post ?_)
 unfold slices_IndexFunc_api_Bits_encode_Valid_f1 at h
 refine AW.sg tt_ok0 [] [] [] 1 [] (by kernel_rfl) ?_
 refine AW.seq ?_
 refine AW.sg tt_ok0 [(8, vi64 0), (7, vi64 (p0.length : Int))] [] [] 4 [] (by kernel_rfl) ?_
 refine AW.block ?_
 refine AW.lpE h (fun v => ⟨[(0, vl 2 RS_api_Bits p0), (1, .c (.t (.v (.func (.func 83) #[] #[])))), (7, vi64 (p0.length : Int)), (8, vi64 v)], [], 0⟩) (fun t => (.exit 0, ⟨[], [], 0⟩)) (fun t => (.ret, ⟨[(4, vi64 t)], [], 0⟩)) (conv_re [] (by kernel_rfl)) (fun _ => tv) (fun _ => tv) ?_ (fun t h => ?_) (fun x10 h => ?_)
 ·
  clear h
  intro x2 o h
  unfold slices_IndexFunc_api_Bits_encode_Valid_f1_l1 at h
  refine AW.sg tt_ok0 [(9, vb (decide (x2 < (p0.length : Int))))] [] [] 1 [] (by kernel_rfl) ?_
  refine AW.seq ?_
  refine AW.co h (by kernel_rfl) (fun c4 h => ?_) (fun c4 h => ?_)
  ·
   refine AW.skip (AW.tn ?_)
   refine AW.seq (AW.block ?_)
   refine AW.sg tt_ok0 [(5, vi64 x2)] [] [] 3 [] (by kernel_rfl) ?_
   obtain ⟨g5, g6, h⟩ := ifd h
   obtain ⟨y7, e8, h⟩ := bnd_some h
   refine AW.sg tt_ok0 [(16, vb y7)] [] [] 8 [hn, hn, hn, hq g5 g6, hn, hk (encode_Valid_f1_con (p0.getD x2.toNat dS_api_Bits) y7 e8)] (by kernel_rfl) ?_
   refine AW.co h (by kernel_rfl) (fun c9 h => ?_) (fun c9 h => ?_)
   ·
    refine AW.sg tt_ok0 [(4, vi64 x2)] [] [] 10 [] (by kernel_rfl) ?_
    refine AW.ret (AW.inBlock_ret (AW.tr ?_))
    exact lpo h rfl (conv_re [] (by kernel_rfl))
   ·
    refine AW.skip (AW.inBlock_normal (AW.tn ?_))
    refine AW.rg tt_ok0 [(8, vi64 (i64.wrap (x2 + 1)))] [] [] 10 [] (by kernel_rfl) ?_
    exact lpn h (conv_re [] (by kernel_rfl))
  ·
   refine AW.exit (AW.thenQ_exit ?_)
   exact lpo h rfl (conv_re [] (by kernel_rfl))
 ·
  replace h : slices_IndexFunc_api_Bits_encode_Valid_f1_a2 = some r := h
  unfold slices_IndexFunc_api_Bits_encode_Valid_f1_a2 at h
  show (_ : Exit → St → Prop) (.exit 0) _
  refine AW.inBlock_hit (AW.tn ?_)
  refine AW.sg tt_ok0 [(4, vi64 (-1))] [] [] 1 [] (by kernel_rfl) ?_
  refine AW.ret ?_
  obtain rfl := some_inj h
  exact fn0 (.inr rfl) [] 0 (vi64 (-1)) (by kernel_rfl)
 ·
  unfold slices_IndexFunc_api_Bits_encode_Valid_f1_a3 at h
  show (_ : Exit → St → Prop) (.ret) _
  refine AW.inBlock_ret (AW.tr ?_)
  obtain rfl := some_inj h
  exact fn0 (.inr rfl) [] 0 (vi64 x10) (by kernel_rfl)
/-! slices.ContainsFunc[[]recordlink/api.Bits,recordlink/api.Bits] -/
noncomputable def slices_ContainsFunc_api_Bits_encode_Valid_f1 (p0 : List S_api_Bits) : Option Bool := (slices_IndexFunc_api_Bits_encode_Valid_f1 p0).bind fun y1 => (some (decide (y1 ≥ 0)))
set_option maxRecDepth 100000 in
theorem slices_ContainsFunc_api_Bits_encode_Valid_f1_con (p0 : List S_api_Bits) (r : Bool) (h : slices_ContainsFunc_api_Bits_encode_Valid_f1 p0 = some r) : Con Try.prog 82 [vl 2 RS_api_Bits p0, .c (.t (.v (.func (.func 83) #[] #[])))] [] (vb r) [] := by
 refine con_of tt_ok0 0 Try.func82 (by kernel_rfl) rfl (by kernel_rfl) (fun base X _ => AW.post ?_)
 unfold slices_ContainsFunc_api_Bits_encode_Valid_f1 at h
 refine AW.sg tt_ok0 [] [] [] 1 [] (by kernel_rfl) ?_
 obtain ⟨y1, e2, h⟩ := bnd_some h
 refine AW.sg tt_ok0 [(4, vb (decide (y1 ≥ 0)))] [] [] 5 [hn, hn, hk (slices_IndexFunc_api_Bits_encode_Valid_f1_con p0 y1 e2)] (by kernel_rfl) ?_
 refine AW.ret ?_
 obtain rfl := some_inj h
 exact fn0 (.inr rfl) [] 0 (vb (decide (y1 ≥ 0))) (by kernel_rfl)
/-! recordlink/encode.Valid -/
noncomputable def encode_Valid_k1 (x1 : Bool) : Option Bool := some x1
noncomputable def encode_Valid (p0 : S_api_Encoded) : Option Bool := if (decide (p0.ID ≥ 1)) = true then (if (decide (p0.ID ≤ 1048576)) = true then (if (decide (p0.Version ≥ 1)) = true then (if (decide (p0.Version ≤ 1048576)) = true then (if (decide (((p0.Fields.length : Nat) : Int) ≥ 1)) = true then (if (decide (((p0.Fields.length : Nat) : Int) ≤ 5)) = true then ((slices_ContainsFunc_api_Bits_encode_Valid_f1 p0.Fields).bind fun y8 => (encode_Valid_k1 (!y8))) else (encode_Valid_k1 false)) else (encode_Valid_k1 false)) else (encode_Valid_k1 false)) else (encode_Valid_k1 false)) else (encode_Valid_k1 false)) else (encode_Valid_k1 false)
set_option maxRecDepth 100000 in
theorem encode_Valid_con (p0 : S_api_Encoded) (r : Bool) (h : encode_Valid p0 = some r) : Con Try.prog 55 [.agg [ci64 p0.ID, ci64 p0.Version, cl 2 RS_api_Bits p0.Fields]] [] (vb r) [] := by
 refine con_of tt_ok0 0 Try.func55 (by kernel_rfl) rfl (by kernel_rfl) (fun base X _ => AW.post ?_)
 unfold encode_Valid at h
 refine AW.sg tt_ok0 [(1, .c (.ptr 0 3 0 0))] [0] [(0, .box 40 [ci64 p0.ID, ci64 p0.Version, cl 2 RS_api_Bits p0.Fields])] 2 [] (by kernel_rfl) ?_
 refine AW.seq ?_
 refine AW.join (ι := Bool) (fun v => ⟨[(2, vb v)], [], 0⟩) (fun v : Bool => encode_Valid_k1 v = some r) (fun x1 h => ?_) ?_
 ·
  unfold encode_Valid_k1 at h
  refine AW.tn (AW.ret ?_)
  obtain rfl := some_inj h
  exact fn0 (.inr rfl) [] 0 (vb x1) (by kernel_rfl)
 ·
  rcases ifs h with ⟨c2, h⟩ | ⟨c2, h⟩
  ·
   rcases ifs h with ⟨c3, h⟩ | ⟨c3, h⟩
   ·
    rcases ifs h with ⟨c4, h⟩ | ⟨c4, h⟩
    ·
     rcases ifs h with ⟨c5, h⟩ | ⟨c5, h⟩
     ·
      rcases ifs h with ⟨c6, h⟩ | ⟨c6, h⟩
      ·
       rcases ifs h with ⟨c7, h⟩ | ⟨c7, h⟩
       ·
        obtain ⟨y8, e9, h⟩ := bnd_some h
        refine AW.rg tt_ok0 [(2, vb (!y8))] [] [] 38 [hn, hn, ht c2, hn, hn, hn, ht c3, hn, hn, hn, hn, ht c4, hn, hn, hn, hn, ht c5, hn, hn, hn, hn, hn, ht c6, hn, hn, hn, hn, hn, ht c7, hn, hn, hn, hn, hk (slices_ContainsFunc_api_Bits_encode_Valid_f1_con p0.Fields y8 e9)] (by kernel_rfl) ?_
        exact jl (!y8) h (conv_re [] (by kernel_rfl))
       ·
        refine AW.rg tt_ok0 [(2, vb false)] [] [] 39 [hn, hn, ht c2, hn, hn, hn, ht c3, hn, hn, hn, hn, ht c4, hn, hn, hn, hn, ht c5, hn, hn, hn, hn, hn, ht c6, hn, hn, hn, hn, hn, hf c7] (by kernel_rfl) ?_
        exact jl false h (conv_re [] (by kernel_rfl))
      ·
       refine AW.rg tt_ok0 [(2, vb false)] [] [] 39 [hn, hn, ht c2, hn, hn, hn, ht c3, hn, hn, hn, hn, ht c4, hn, hn, hn, hn, ht c5, hn, hn, hn, hn, hn, hf c6] (by kernel_rfl) ?_
       exact jl false h (conv_re [] (by kernel_rfl))
     ·
      refine AW.rg tt_ok0 [(2, vb false)] [] [] 39 [hn, hn, ht c2, hn, hn, hn, ht c3, hn, hn, hn, hn, ht c4, hn, hn, hn, hn, hf c5] (by kernel_rfl) ?_
      exact jl false h (conv_re [] (by kernel_rfl))
    ·
     refine AW.rg tt_ok0 [(2, vb false)] [] [] 39 [hn, hn, ht c2, hn, hn, hn, ht c3, hn, hn, hn, hn, hf c4] (by kernel_rfl) ?_
     exact jl false h (conv_re [] (by kernel_rfl))
   ·
    refine AW.rg tt_ok0 [(2, vb false)] [] [] 39 [hn, hn, ht c2, hn, hn, hn, hf c3] (by kernel_rfl) ?_
    exact jl false h (conv_re [] (by kernel_rfl))
  ·
   refine AW.rg tt_ok0 [(2, vb false)] [] [] 39 [hn, hn, hf c2] (by kernel_rfl) ?_
   exact jl false h (conv_re [] (by kernel_rfl))
/-! recordlink/candidate.Check -/
noncomputable def candidate_Check_k5 (x5 : Int) (x14 : Bool) : Option (Int ⊕ (Unit ⊕ Int)) := if x14 = true then (some (.inr (.inr 12))) else (some (.inl (i64.wrap (x5 + 1))))
noncomputable def candidate_Check_k4 (p2 : List S_api_Sent) (x5 : Int) (x12 : Bool) : Option (Int ⊕ (Unit ⊕ Int)) := if x12 = true then (some (.inr (.inr 8))) else (if (decide (x5 > 0)) = true then (if 0 ≤ (i64.wrap (x5 - 1)) then (if (i64.wrap (x5 - 1)) < (p2.length : Int) then (candidate_Check_k5 x5 (decide ((((p2.getD ((i64.wrap (x5 - 1)).toNat) dS_api_Sent).Record).ID) ≥ (((p2.getD x5.toNat dS_api_Sent).Record).ID)))) else none) else none) else (candidate_Check_k5 x5 false))
noncomputable def candidate_Check_k3 (p1 : Int) (p2 : List S_api_Sent) (x5 : Int) (x10 : Bool) : Option (Int ⊕ (Unit ⊕ Int)) := if x10 = true then (some (.inr (.inr 7))) else (if (((((p2.getD x5.toNat dS_api_Sent).Hashes).length : Nat) : Int) != p1) = true then (candidate_Check_k4 p2 x5 true) else (candidate_Check_k4 p2 x5 (((((p2.getD x5.toNat dS_api_Sent).Has).length : Nat) : Int) != p1)))
noncomputable def candidate_Check_l2 (p0 : Int) (p1 : Int) (p2 : List S_api_Sent) (x5 : Int) : Option (Int ⊕ (Unit ⊕ Int)) := if (decide (x5 < (p2.length : Int))) = true then (if 0 ≤ x5 then (if x5 < (p2.length : Int) then ((encode_Valid ((p2.getD x5.toNat dS_api_Sent).Record)).bind fun y20 => (if (!y20) = true then (candidate_Check_k3 p1 p2 x5 true) else (candidate_Check_k3 p1 p2 x5 ((((((p2.getD x5.toNat dS_api_Sent).Record).Fields).length : Nat) : Int) != p0)))) else none) else none) else (some (.inr (.inl ())))
noncomputable def candidate_Check_a6 : Option Int := some 0
noncomputable def candidate_Check_a7 (x23 : Int) : Option Int := some x23
noncomputable def candidate_Check_k1 (p0 : Int) (p1 : Int) (p2 : List S_api_Sent) (x1 : Bool) : Option Int := if x1 = true then (some 2) else (if (decide ((p2.length : Int) > 64)) = true then (some 1) else (bindE (loop (fun v : Int => candidate_Check_l2 p0 p1 p2 v) 0) (fun t => candidate_Check_a6) (fun t => candidate_Check_a7 t)))
noncomputable def candidate_Check (p0 : Int) (p1 : Int) (p2 : List S_api_Sent) : Option Int := if (decide (p0 < 1)) = true then (candidate_Check_k1 p0 p1 p2 true) else (if (decide (p0 > 5)) = true then (candidate_Check_k1 p0 p1 p2 true) else (if (decide (p1 < 1)) = true then (candidate_Check_k1 p0 p1 p2 true) else (candidate_Check_k1 p0 p1 p2 (decide (p1 > 8)))))
set_option maxRecDepth 100000 in
theorem candidate_Check_con (p0 : Int) (p1 : Int) (p2 : List S_api_Sent) (r : Int) (h : candidate_Check p0 p1 p2 = some r) : Con Try.prog 23 [vi64 p0, vi64 p1, vl 5 RS_api_Sent p2] [] (vi64 r) [] := by
 refine con_of tt_ok0 0 Try.func23 (by kernel_rfl) rfl (by kernel_rfl) (fun base X _ => AW.post ?_)
 unfold candidate_Check at h
 refine AW.sg tt_ok0 [] [] [] 1 [] (by kernel_rfl) ?_
 refine AW.seq (AW.block (AW.seq ?_))
 refine AW.join (ι := Bool) (fun v => ⟨[(0, vi64 p0), (1, vi64 p1), (2, vl 5 RS_api_Sent p2), (9, vb v)], [], 0⟩) (fun v : Bool => candidate_Check_k1 p0 p1 p2 v = some r) (fun x1 h => ?_) ?_
 ·
  unfold candidate_Check_k1 at h
  refine AW.tn ?_
  refine AW.co h (by kernel_rfl) (fun c2 h => ?_) (fun c2 h => ?_)
  ·
   refine AW.sg tt_ok0 [(6, vi64 2)] [] [] 1 [] (by kernel_rfl) ?_
   refine AW.ret (AW.inBlock_ret (AW.tr ?_))
   obtain rfl := some_inj h
   exact fn0 (.inr rfl) [] 0 (vi64 2) (by kernel_rfl)
  ·
   refine AW.sg tt_ok0 [(24, vb (decide ((p2.length : Int) > 64)))] [] [] 4 [] (by kernel_rfl) ?_
   refine AW.co h (by kernel_rfl) (fun c3 h => ?_) (fun c3 h => ?_)
   ·
    refine AW.sg tt_ok0 [(6, vi64 1)] [] [] 5 [] (by kernel_rfl) ?_
    refine AW.ret (AW.inBlock_ret (AW.tr ?_))
    obtain rfl := some_inj h
    exact fn0 (.inr rfl) [] 0 (vi64 1) (by kernel_rfl)
   ·
    refine AW.skip (AW.inBlock_normal ?_)
    refine AW.tn (AW.seq ?_)
    refine AW.sg tt_ok0 [(30, vi64 0), (29, vi64 (p2.length : Int)), (28, vl 5 RS_api_Sent p2)] [] [] 7 [] (by kernel_rfl) ?_
    refine AW.block ?_
    refine AW.lpE h (fun v => ⟨[(0, vi64 p0), (1, vi64 p1), (2, vl 5 RS_api_Sent p2), (28, vl 5 RS_api_Sent p2), (29, vi64 (p2.length : Int)), (30, vi64 v)], [], 0⟩) (fun t => (.exit 1, ⟨[], [], 0⟩)) (fun t => (.ret, ⟨[(6, vi64 t)], [], 0⟩)) (conv_re [] (by kernel_rfl)) (fun _ => tv) (fun _ => tv) ?_ (fun t h => ?_) (fun x23 h => ?_)
    ·
     clear h
     intro x5 o h
     unfold candidate_Check_l2 at h
     refine AW.sg tt_ok0 [(31, vb (decide (x5 < (p2.length : Int))))] [] [] 1 [] (by kernel_rfl) ?_
     refine AW.seq ?_
     refine AW.co h (by kernel_rfl) (fun c7 h => ?_) (fun c7 h => ?_)
     ·
      refine AW.skip (AW.tn ?_)
      refine AW.seq (AW.block ?_)
      obtain ⟨g8, g9, h⟩ := ifd h
      refine AW.sg tt_ok0 [(7, vi64 x5), (8, .c (.ptr 4 5 0 0))] [4] [(4, .box 44 [ci64 (((p2.getD x5.toNat dS_api_Sent).Record).ID), ci64 (((p2.getD x5.toNat dS_api_Sent).Record).Version), cl 2 RS_api_Bits (((p2.getD x5.toNat dS_api_Sent).Record).Fields), cl 1 Ru64 ((p2.getD x5.toNat dS_api_Sent).Hashes), cl 1 Rb ((p2.getD x5.toNat dS_api_Sent).Has)])] 7 [hn, hq g8 g9] (by kernel_rfl) ?_
      refine AW.block (AW.seq ?_)
      refine AW.join (ι := Bool) (fun v => ⟨[(0, vi64 p0), (1, vi64 p1), (2, vl 5 RS_api_Sent p2), (7, vi64 x5), (8, .c (.ptr 0 5 0 0)), (28, vl 5 RS_api_Sent p2), (29, vi64 (p2.length : Int)), (30, vi64 x5), (35, vb v)], [(0, .box 44 [ci64 (((p2.getD x5.toNat dS_api_Sent).Record).ID), ci64 (((p2.getD x5.toNat dS_api_Sent).Record).Version), cl 2 RS_api_Bits (((p2.getD x5.toNat dS_api_Sent).Record).Fields), cl 1 Ru64 ((p2.getD x5.toNat dS_api_Sent).Hashes), cl 1 Rb ((p2.getD x5.toNat dS_api_Sent).Has)])], 1⟩) (fun v : Bool => candidate_Check_k3 p1 p2 x5 v = some o) (fun x10 h => ?_) ?_
      ·
       unfold candidate_Check_k3 at h
       refine AW.tn ?_
       refine AW.co h (by kernel_rfl) (fun c11 h => ?_) (fun c11 h => ?_)
       ·
        refine AW.sg tt_ok0 [(6, vi64 7)] [] [] 2 [] (by kernel_rfl) ?_
        refine AW.ret (AW.inBlock_ret ?_)
        refine AW.inBlock_ret (AW.tr ?_)
        exact lpo h rfl (conv_re [] (by kernel_rfl))
       ·
        refine AW.seq ?_
        refine AW.join (ι := Bool) (fun v => ⟨[(0, vi64 p0), (1, vi64 p1), (2, vl 5 RS_api_Sent p2), (7, vi64 x5), (8, .c (.ptr 0 5 0 0)), (28, vl 5 RS_api_Sent p2), (29, vi64 (p2.length : Int)), (30, vi64 x5), (48, vb v)], [(0, .box 44 [ci64 (((p2.getD x5.toNat dS_api_Sent).Record).ID), ci64 (((p2.getD x5.toNat dS_api_Sent).Record).Version), cl 2 RS_api_Bits (((p2.getD x5.toNat dS_api_Sent).Record).Fields), cl 1 Ru64 ((p2.getD x5.toNat dS_api_Sent).Hashes), cl 1 Rb ((p2.getD x5.toNat dS_api_Sent).Has)])], 1⟩) (fun v : Bool => candidate_Check_k4 p2 x5 v = some o) (fun x12 h => ?_) ?_
        ·
         unfold candidate_Check_k4 at h
         refine AW.tn ?_
         refine AW.co h (by kernel_rfl) (fun c13 h => ?_) (fun c13 h => ?_)
         ·
          refine AW.sg tt_ok0 [(6, vi64 8)] [] [] 2 [] (by kernel_rfl) ?_
          refine AW.ret (AW.inBlock_ret ?_)
          refine AW.inBlock_ret (AW.tr ?_)
          exact lpo h rfl (conv_re [] (by kernel_rfl))
         ·
          refine AW.seq ?_
          refine AW.join (ι := Bool) (fun v => ⟨[(0, vi64 p0), (1, vi64 p1), (2, vl 5 RS_api_Sent p2), (28, vl 5 RS_api_Sent p2), (29, vi64 (p2.length : Int)), (30, vi64 x5), (61, vb v)], [], 0⟩) (fun v : Bool => candidate_Check_k5 x5 v = some o) (fun x14 h => ?_) ?_
          ·
           unfold candidate_Check_k5 at h
           refine AW.tn ?_
           refine AW.co h (by kernel_rfl) (fun c15 h => ?_) (fun c15 h => ?_)
           ·
            refine AW.sg tt_ok0 [(6, vi64 12)] [] [] 1 [] (by kernel_rfl) ?_
            refine AW.ret (AW.inBlock_ret ?_)
            refine AW.inBlock_ret (AW.tr ?_)
            exact lpo h rfl (conv_re [] (by kernel_rfl))
           ·
            refine AW.skip (AW.inBlock_normal ?_)
            refine AW.inBlock_normal (AW.tn ?_)
            refine AW.rg tt_ok0 [(30, vi64 (i64.wrap (x5 + 1)))] [] [] 2 [] (by kernel_rfl) ?_
            exact lpn h (conv_re [] (by kernel_rfl))
          ·
           rcases ifs h with ⟨c16, h⟩ | ⟨c16, h⟩
           ·
            obtain ⟨g17, g18, h⟩ := ifd h
            refine AW.rd tt_ok0 mo0 [] [(61, vb (decide ((((p2.getD ((i64.wrap (x5 - 1)).toNat) dS_api_Sent).Record).ID) ≥ (((p2.getD x5.toNat dS_api_Sent).Record).ID))))] [] 17 [hn, ht c16, hn, hn, hn, hn, hq g17 g18] (by kernel_rfl) ?_
            exact jl (decide ((((p2.getD ((i64.wrap (x5 - 1)).toNat) dS_api_Sent).Record).ID) ≥ (((p2.getD x5.toNat dS_api_Sent).Record).ID))) h (conv_re [] (by kernel_rfl))
           ·
            refine AW.rd tt_ok0 mo0 [] [(61, vb false)] [] 17 [hn, hf c16] (by kernel_rfl) ?_
            exact jl false h (conv_re [] (by kernel_rfl))
        ·
         rcases ifs h with ⟨c19, h⟩ | ⟨c19, h⟩
         ·
          refine AW.rg tt_ok0 [(48, vb true)] [] [] 14 [hn, hn, hn, hn, ht c19] (by kernel_rfl) ?_
          exact jl true h (conv_re [(0, 0)] (by kernel_rfl))
         ·
          refine AW.rg tt_ok0 [(48, vb (((((p2.getD x5.toNat dS_api_Sent).Has).length : Nat) : Int) != p1))] [] [] 14 [hn, hn, hn, hn, hf c19] (by kernel_rfl) ?_
          exact jl (((((p2.getD x5.toNat dS_api_Sent).Has).length : Nat) : Int) != p1) h (conv_re [(0, 0)] (by kernel_rfl))
      ·
       obtain ⟨y20, e21, h⟩ := bnd_some h
       rcases ifs h with ⟨c22, h⟩ | ⟨c22, h⟩
       ·
        refine AW.rg tt_ok0 [(35, vb true)] [] [] 19 [hn, hn, hk (encode_Valid_con ((p2.getD x5.toNat dS_api_Sent).Record) y20 e21), ht c22] (by kernel_rfl) ?_
        exact jl true h (conv_re [(0, 4)] (by kernel_rfl))
       ·
        refine AW.rg tt_ok0 [(35, vb ((((((p2.getD x5.toNat dS_api_Sent).Record).Fields).length : Nat) : Int) != p0))] [] [] 19 [hn, hn, hk (encode_Valid_con ((p2.getD x5.toNat dS_api_Sent).Record) y20 e21), hf c22] (by kernel_rfl) ?_
        exact jl ((((((p2.getD x5.toNat dS_api_Sent).Record).Fields).length : Nat) : Int) != p0) h (conv_re [(0, 4)] (by kernel_rfl))
     ·
      refine AW.exit (AW.thenQ_exit ?_)
      exact lpo h rfl (conv_re [] (by kernel_rfl))
    ·
     replace h : candidate_Check_a6 = some r := h
     unfold candidate_Check_a6 at h
     show (_ : Exit → St → Prop) (.exit 1) _
     refine AW.inBlock_hit (AW.tn ?_)
     refine AW.sg tt_ok0 [(6, vi64 0)] [] [] 1 [] (by kernel_rfl) ?_
     refine AW.ret ?_
     obtain rfl := some_inj h
     exact fn0 (.inr rfl) [] 0 (vi64 0) (by kernel_rfl)
    ·
     unfold candidate_Check_a7 at h
     show (_ : Exit → St → Prop) (.ret) _
     refine AW.inBlock_ret (AW.tr ?_)
     obtain rfl := some_inj h
     exact fn0 (.inr rfl) [] 0 (vi64 x23) (by kernel_rfl)
 ·
  rcases ifs h with ⟨c25, h⟩ | ⟨c25, h⟩
  ·
   refine AW.rg tt_ok0 [(9, vb true)] [] [] 16 [hn, ht c25] (by kernel_rfl) ?_
   exact jl true h (conv_re [] (by kernel_rfl))
  ·
   rcases ifs h with ⟨c26, h⟩ | ⟨c26, h⟩
   ·
    refine AW.rg tt_ok0 [(9, vb true)] [] [] 16 [hn, hf c25, hn, hn, ht c26] (by kernel_rfl) ?_
    exact jl true h (conv_re [] (by kernel_rfl))
   ·
    rcases ifs h with ⟨c27, h⟩ | ⟨c27, h⟩
    ·
     refine AW.rg tt_ok0 [(9, vb true)] [] [] 16 [hn, hf c25, hn, hn, hf c26, hn, hn, hn, ht c27] (by kernel_rfl) ?_
     exact jl true h (conv_re [] (by kernel_rfl))
    ·
     refine AW.rg tt_ok0 [(9, vb (decide (p1 > 8)))] [] [] 16 [hn, hf c25, hn, hn, hf c26, hn, hn, hn, hf c27] (by kernel_rfl) ?_
     exact jl (decide (p1 > 8)) h (conv_re [] (by kernel_rfl))
/-! recordlink/candidate.check -/
noncomputable def candidate_check_l1 (p0 : S_api_Weights) (p2 : Int) (p3 : List (List S_api_Sent)) (x10 : Int) : Option (Int ⊕ (Unit ⊕ Int)) := if (decide (x10 < (p3.length : Int))) = true then (if 0 ≤ x10 then (if x10 < (p3.length : Int) then ((candidate_Check ((p0.Agree.length : Nat) : Int) p2 (p3.getD x10.toNat ([] : List S_api_Sent))).bind fun y15 => (if (y15 != 0) = true then (some (.inr (.inr y15))) else (some (.inl (i64.wrap (x10 + 1)))))) else none) else none) else (some (.inr (.inl ())))
noncomputable def candidate_check_a2 : Option Int := some 0
noncomputable def candidate_check_a3 (x18 : Int) : Option Int := some x18
noncomputable def candidate_check (p0 : S_api_Weights) (p1 : List Int) (p2 : Int) (p3 : List (List S_api_Sent)) : Option Int := (weight_Check p0).bind fun y1 => (if (y1 != 0) = true then (some y1) else (if ((p1.length : Int) != ((p0.Agree.length : Nat) : Int)) = true then (some 8) else ((slices_ContainsFunc_int_candidate_check_f1 p1).bind fun y5 => (if y5 = true then (some 2) else (if (decide ((p3.length : Int) > 4)) = true then (some 1) else (bindE (loop (fun v : Int => candidate_check_l1 p0 p2 p3 v) 0) (fun t => candidate_check_a2) (fun t => candidate_check_a3 t)))))))
set_option maxRecDepth 100000 in
theorem candidate_check_con (p0 : S_api_Weights) (p1 : List Int) (p2 : Int) (p3 : List (List S_api_Sent)) (r : Int) (h : candidate_check p0 p1 p2 p3 = some r) : Con Try.prog 52 [.agg [ci64 p0.Prior, cl 1 Ri64 p0.Agree, cl 1 Ri64 p0.Differ], vl 1 Ri64 p1, vi64 p2, vl 1 RlS_api_Sent p3] [] (vi64 r) [] := by
 refine con_of tt_ok0 0 Try.func52 (by kernel_rfl) rfl (by kernel_rfl) (fun base X _ => AW.post ?_)
 unfold candidate_check at h
 refine AW.sg tt_ok0 [(4, .c (.ptr 0 3 0 0))] [0] [(0, .box 35 [ci64 p0.Prior, cl 1 Ri64 p0.Agree, cl 1 Ri64 p0.Differ])] 2 [] (by kernel_rfl) ?_
 refine AW.seq ?_
 obtain ⟨y1, e2, h⟩ := bnd_some h
 refine AW.sg tt_ok0 [(9, vi64 y1)] [] [] 4 [hn, hk (weight_Check_con p0 y1 e2)] (by kernel_rfl) ?_
 refine AW.sg tt_ok0 [(16, vb (y1 != 0))] [] [] 6 [] (by kernel_rfl) ?_
 refine AW.co h (by kernel_rfl) (fun c3 h => ?_) (fun c3 h => ?_)
 ·
  refine AW.sg tt_ok0 [(8, vi64 y1)] [] [] 8 [] (by kernel_rfl) ?_
  refine AW.ret (AW.tr ?_)
  obtain rfl := some_inj h
  exact fn0 (.inr rfl) [] 0 (vi64 y1) (by kernel_rfl)
 ·
  refine AW.skip (AW.tn ?_)
  refine AW.seq (AW.block ?_)
  refine AW.sg tt_ok0 [(18, vb ((p1.length : Int) != ((p0.Agree.length : Nat) : Int)))] [] [] 13 [] (by kernel_rfl) ?_
  refine AW.co h (by kernel_rfl) (fun c4 h => ?_) (fun c4 h => ?_)
  ·
   refine AW.sg tt_ok0 [(8, vi64 8)] [] [] 14 [] (by kernel_rfl) ?_
   refine AW.ret (AW.inBlock_ret (AW.tr ?_))
   obtain rfl := some_inj h
   exact fn0 (.inr rfl) [] 0 (vi64 8) (by kernel_rfl)
  ·
   obtain ⟨y5, e6, h⟩ := bnd_some h
   refine AW.sg tt_ok0 [(25, vb y5)] [] [] 15 [hn, hk (slices_ContainsFunc_int_candidate_check_f1_con p1 y5 e6)] (by kernel_rfl) ?_
   refine AW.co h (by kernel_rfl) (fun c7 h => ?_) (fun c7 h => ?_)
   ·
    refine AW.sg tt_ok0 [(8, vi64 2)] [] [] 16 [] (by kernel_rfl) ?_
    refine AW.ret (AW.inBlock_ret (AW.tr ?_))
    obtain rfl := some_inj h
    exact fn0 (.inr rfl) [] 0 (vi64 2) (by kernel_rfl)
   ·
    refine AW.sg tt_ok0 [(28, vb (decide ((p3.length : Int) > 4)))] [] [] 19 [] (by kernel_rfl) ?_
    refine AW.co h (by kernel_rfl) (fun c8 h => ?_) (fun c8 h => ?_)
    ·
     refine AW.sg tt_ok0 [(8, vi64 1)] [] [] 20 [] (by kernel_rfl) ?_
     refine AW.ret (AW.inBlock_ret (AW.tr ?_))
     obtain rfl := some_inj h
     exact fn0 (.inr rfl) [] 0 (vi64 1) (by kernel_rfl)
    ·
     refine AW.skip (AW.inBlock_normal ?_)
     refine AW.tn (AW.seq ?_)
     refine AW.sg tt_ok0 [(34, vi64 0), (33, vi64 (p3.length : Int)), (32, vl 1 RlS_api_Sent p3)] [] [] 22 [] (by kernel_rfl) ?_
     refine AW.block ?_
     refine AW.lpE h (fun v => ⟨[(2, vi64 p2), (4, .c (.ptr 0 3 0 0)), (32, vl 1 RlS_api_Sent p3), (33, vi64 (p3.length : Int)), (34, vi64 v)], [(0, .box 35 [ci64 p0.Prior, cl 1 Ri64 p0.Agree, cl 1 Ri64 p0.Differ])], 1⟩) (fun t => (.exit 1, ⟨[], [], 0⟩)) (fun t => (.ret, ⟨[(8, vi64 t)], [], 0⟩)) (conv_re [(0, 0)] (by kernel_rfl)) (fun _ => tv) (fun _ => tv) ?_ (fun t h => ?_) (fun x18 h => ?_)
     ·
      clear h
      intro x10 o h
      unfold candidate_check_l1 at h
      refine AW.sg tt_ok0 [(35, vb (decide (x10 < (p3.length : Int))))] [] [] 2 [] (by kernel_rfl) ?_
      refine AW.seq ?_
      refine AW.co h (by kernel_rfl) (fun c12 h => ?_) (fun c12 h => ?_)
      ·
       refine AW.skip (AW.tn ?_)
       refine AW.seq (AW.block ?_)
       obtain ⟨g13, g14, h⟩ := ifd h
       refine AW.sg tt_ok0 [(11, vl 5 RS_api_Sent (p3.getD x10.toNat ([] : List S_api_Sent)))] [] [] 5 [hq g13 g14] (by kernel_rfl) ?_
       obtain ⟨y15, e16, h⟩ := bnd_some h
       refine AW.sg tt_ok0 [(12, vi64 y15)] [] [] 11 [hn, hn, hn, hn, hn, hk (candidate_Check_con ((p0.Agree.length : Nat) : Int) p2 (p3.getD x10.toNat ([] : List S_api_Sent)) y15 e16)] (by kernel_rfl) ?_
       refine AW.sg tt_ok0 [(45, vb (y15 != 0))] [] [] 13 [] (by kernel_rfl) ?_
       refine AW.co h (by kernel_rfl) (fun c17 h => ?_) (fun c17 h => ?_)
       ·
        refine AW.sg tt_ok0 [(8, vi64 y15)] [] [] 15 [] (by kernel_rfl) ?_
        refine AW.ret (AW.inBlock_ret (AW.tr ?_))
        exact lpo h rfl (conv_re [] (by kernel_rfl))
       ·
        refine AW.skip (AW.inBlock_normal (AW.tn ?_))
        refine AW.rg tt_ok0 [(34, vi64 (i64.wrap (x10 + 1)))] [] [] 15 [] (by kernel_rfl) ?_
        exact lpn h (conv_re [(0, 0)] (by kernel_rfl))
      ·
       refine AW.exit (AW.thenQ_exit ?_)
       exact lpo h rfl (conv_re [] (by kernel_rfl))
     ·
      replace h : candidate_check_a2 = some r := h
      unfold candidate_check_a2 at h
      show (_ : Exit → St → Prop) (.exit 1) _
      refine AW.inBlock_hit (AW.tn ?_)
      refine AW.sg tt_ok0 [(8, vi64 0)] [] [] 1 [] (by kernel_rfl) ?_
      refine AW.ret ?_
      obtain rfl := some_inj h
      exact fn0 (.inr rfl) [] 0 (vi64 0) (by kernel_rfl)
     ·
      unfold candidate_check_a3 at h
      show (_ : Exit → St → Prop) (.ret) _
      refine AW.inBlock_ret (AW.tr ?_)
      obtain rfl := some_inj h
      exact fn0 (.inr rfl) [] 0 (vi64 x18) (by kernel_rfl)
/-! recordlink/candidate.Agree -/
noncomputable def candidate_Agree_k2 (x4 : Int) (x6 : Bool) : Option (Int ⊕ (Unit ⊕ Unit)) := if x6 = true then (some (.inr (.inr ()))) else (some (.inl (i64.wrap (x4 + 1))))
noncomputable def candidate_Agree_l1 (p0 : S_api_Sent) (p1 : S_api_Sent) (z1 : Int) (x4 : Int) : Option (Int ⊕ (Unit ⊕ Unit)) := if (decide (x4 < z1)) = true then (if 0 ≤ x4 then (if x4 < ((p0.Has.length : Nat) : Int) then (if (p0.Has.getD x4.toNat false) = true then (if x4 < ((p1.Has.length : Nat) : Int) then (if (p1.Has.getD x4.toNat false) = true then (if x4 < ((p0.Hashes.length : Nat) : Int) then (if x4 < ((p1.Hashes.length : Nat) : Int) then (candidate_Agree_k2 x4 ((p0.Hashes.getD x4.toNat 0) == (p1.Hashes.getD x4.toNat 0))) else none) else none) else (candidate_Agree_k2 x4 false)) else none) else (candidate_Agree_k2 x4 false)) else none) else none) else (some (.inr (.inl ())))
noncomputable def candidate_Agree_a3 : Option Bool := some false
noncomputable def candidate_Agree_a4 : Option Bool := some true
noncomputable def candidate_Agree (p0 : S_api_Sent) (p1 : S_api_Sent) : Option Bool := (some ((if ((p1.Has.length : Nat) : Int) < (if ((p1.Hashes.length : Nat) : Int) < (if ((p0.Has.length : Nat) : Int) < ((p0.Hashes.length : Nat) : Int) then ((p0.Has.length : Nat) : Int) else ((p0.Hashes.length : Nat) : Int)) then ((p1.Hashes.length : Nat) : Int) else (if ((p0.Has.length : Nat) : Int) < ((p0.Hashes.length : Nat) : Int) then ((p0.Has.length : Nat) : Int) else ((p0.Hashes.length : Nat) : Int))) then ((p1.Has.length : Nat) : Int) else (if ((p1.Hashes.length : Nat) : Int) < (if ((p0.Has.length : Nat) : Int) < ((p0.Hashes.length : Nat) : Int) then ((p0.Has.length : Nat) : Int) else ((p0.Hashes.length : Nat) : Int)) then ((p1.Hashes.length : Nat) : Int) else (if ((p0.Has.length : Nat) : Int) < ((p0.Hashes.length : Nat) : Int) then ((p0.Has.length : Nat) : Int) else ((p0.Hashes.length : Nat) : Int)))))).bind fun z1 => (bindE (loop (fun v : Int => candidate_Agree_l1 p0 p1 z1 v) 0) (fun t => candidate_Agree_a3) (fun t => candidate_Agree_a4))
set_option maxRecDepth 100000 in
theorem candidate_Agree_con (p0 : S_api_Sent) (p1 : S_api_Sent) (r : Bool) (h : candidate_Agree p0 p1 = some r) : Con Try.prog 27 [.agg [ci64 p0.Record.ID, ci64 p0.Record.Version, cl 2 RS_api_Bits p0.Record.Fields, cl 1 Ru64 p0.Hashes, cl 1 Rb p0.Has], .agg [ci64 p1.Record.ID, ci64 p1.Record.Version, cl 2 RS_api_Bits p1.Record.Fields, cl 1 Ru64 p1.Hashes, cl 1 Rb p1.Has]] [] (vb r) [] := by
 refine con_of tt_ok0 0 Try.func27 (by kernel_rfl) rfl (by kernel_rfl) (fun base X _ => AW.post ?_)
 unfold candidate_Agree at h
 refine AW.sg tt_ok0 [(3, .c (.ptr 1 5 0 0)), (2, .c (.ptr 0 5 0 0))] [0, 1] [(1, .box 44 [ci64 p1.Record.ID, ci64 p1.Record.Version, cl 2 RS_api_Bits p1.Record.Fields, cl 1 Ru64 p1.Hashes, cl 1 Rb p1.Has]), (0, .box 44 [ci64 p0.Record.ID, ci64 p0.Record.Version, cl 2 RS_api_Bits p0.Record.Fields, cl 1 Ru64 p0.Hashes, cl 1 Rb p0.Has])] 3 [] (by kernel_rfl) ?_
 refine AW.seq ?_
 obtain ⟨z1, n2, h⟩ := bnd_some h
 replace n2 := some_inj n2
 refine AW.sg tt_ok0 [(19, vi64 0), (18, vi64 z1)] [] [] 17 [] (by subst n2; kernel_rfl) ?_
 refine AW.block ?_
 refine AW.lpE h (fun v => ⟨[(2, .c (.ptr 0 5 0 0)), (3, .c (.ptr 1 5 0 0)), (18, vi64 z1), (19, vi64 v)], [(0, .box 44 [ci64 p0.Record.ID, ci64 p0.Record.Version, cl 2 RS_api_Bits p0.Record.Fields, cl 1 Ru64 p0.Hashes, cl 1 Rb p0.Has]), (1, .box 44 [ci64 p1.Record.ID, ci64 p1.Record.Version, cl 2 RS_api_Bits p1.Record.Fields, cl 1 Ru64 p1.Hashes, cl 1 Rb p1.Has])], 2⟩) (fun t => (.exit 0, ⟨[], [], 0⟩)) (fun t => (.ret, ⟨[(4, vb true)], [], 0⟩)) (conv_re [(0, 0), (1, 1)] (by kernel_rfl)) (fun _ => tv) (fun _ => tv) ?_ (fun t h => ?_) (fun t h => ?_)
 ·
  clear h
  intro x4 o h
  unfold candidate_Agree_l1 at h
  refine AW.sg tt_ok0 [(20, vb (decide (x4 < z1)))] [] [] 3 [] (by kernel_rfl) ?_
  refine AW.seq ?_
  refine AW.co h (by kernel_rfl) (fun c5 h => ?_) (fun c5 h => ?_)
  ·
   refine AW.skip (AW.tn ?_)
   refine AW.seq (AW.block ?_)
   refine AW.sg tt_ok0 [(5, vi64 x4)] [] [] 5 [] (by kernel_rfl) ?_
   refine AW.seq ?_
   refine AW.join (ι := Bool) (fun v => ⟨[(2, .c (.ptr 0 5 0 0)), (3, .c (.ptr 1 5 0 0)), (18, vi64 z1), (19, vi64 x4), (46, vb v)], [(0, .box 44 [ci64 p0.Record.ID, ci64 p0.Record.Version, cl 2 RS_api_Bits p0.Record.Fields, cl 1 Ru64 p0.Hashes, cl 1 Rb p0.Has]), (1, .box 44 [ci64 p1.Record.ID, ci64 p1.Record.Version, cl 2 RS_api_Bits p1.Record.Fields, cl 1 Ru64 p1.Hashes, cl 1 Rb p1.Has])], 2⟩) (fun v : Bool => candidate_Agree_k2 x4 v = some o) (fun x6 h => ?_) ?_
   ·
    unfold candidate_Agree_k2 at h
    refine AW.tn ?_
    refine AW.co h (by kernel_rfl) (fun c7 h => ?_) (fun c7 h => ?_)
    ·
     refine AW.sg tt_ok0 [(4, vb true)] [] [] 3 [] (by kernel_rfl) ?_
     refine AW.ret (AW.inBlock_ret (AW.tr ?_))
     exact lpo h rfl (conv_re [] (by kernel_rfl))
    ·
     refine AW.skip (AW.inBlock_normal (AW.tn ?_))
     refine AW.rg tt_ok0 [(19, vi64 (i64.wrap (x4 + 1)))] [] [] 4 [] (by kernel_rfl) ?_
     exact lpn h (conv_re [(0, 0), (1, 1)] (by kernel_rfl))
   ·
    obtain ⟨g8, g9, h⟩ := ifd h
    rcases ifs h with ⟨c10, h⟩ | ⟨c10, h⟩
    ·
     obtain ⟨g11, h⟩ := ifc h
     rcases ifs h with ⟨c12, h⟩ | ⟨c12, h⟩
     ·
      obtain ⟨g13, g14, h⟩ := ifd h
      refine AW.rd tt_ok0 mo0 [] [(46, vb ((p0.Hashes.getD x4.toNat 0) == (p1.Hashes.getD x4.toNat 0)))] [] 30 [hn, hn, hn, hq g8 g9, hbq true (hn) c10, hn, hn, hn, hn, hq g8 g11, hbq true (hn) c12, hn, hn, hn, hn, hn, hq g8 g13, hn, hn, hn, hn, hq g8 g14] (by kernel_rfl) ?_
      exact jl ((p0.Hashes.getD x4.toNat 0) == (p1.Hashes.getD x4.toNat 0)) h (conv_re [(0, 0), (1, 1)] (by kernel_rfl))
     ·
      refine AW.rd tt_ok0 mo0 [] [(46, vb false)] [] 30 [hn, hn, hn, hq g8 g9, hbq true (hn) c10, hn, hn, hn, hn, hq g8 g11, hbq false (hn) c12] (by kernel_rfl) ?_
      exact jl false h (conv_re [(0, 0), (1, 1)] (by kernel_rfl))
    ·
     refine AW.rd tt_ok0 mo0 [] [(46, vb false)] [] 30 [hn, hn, hn, hq g8 g9, hbq false (hn) c10] (by kernel_rfl) ?_
     exact jl false h (conv_re [(0, 0), (1, 1)] (by kernel_rfl))
  ·
   refine AW.exit (AW.thenQ_exit ?_)
   exact lpo h rfl (conv_re [] (by kernel_rfl))
 ·
  replace h : candidate_Agree_a3 = some r := h
  unfold candidate_Agree_a3 at h
  show (_ : Exit → St → Prop) (.exit 0) _
  refine AW.inBlock_hit (AW.tn ?_)
  refine AW.sg tt_ok0 [(4, vb false)] [] [] 1 [] (by kernel_rfl) ?_
  refine AW.ret ?_
  obtain rfl := some_inj h
  exact fn0 (.inr rfl) [] 0 (vb false) (by kernel_rfl)
 ·
  replace h : candidate_Agree_a4 = some r := h
  unfold candidate_Agree_a4 at h
  show (_ : Exit → St → Prop) (.ret) _
  refine AW.inBlock_ret (AW.tr ?_)
  obtain rfl := some_inj h
  exact fn0 (.inr rfl) [] 0 (vb true) (by kernel_rfl)
structure S_api_Ref where
 Registry : Int
 ID : Int
def dS_api_Ref : S_api_Ref := ⟨0, 0⟩
instance : Inhabited S_api_Ref := ⟨dS_api_Ref⟩
/-! recordlink/similarity.fields -/
noncomputable def similarity_fields_k1 (x1 : Bool) : Option Bool := some x1
noncomputable def similarity_fields (p0 : Int) : Option Bool := if (decide (p0 ≥ 1)) = true then (similarity_fields_k1 (decide (p0 ≤ 5))) else (similarity_fields_k1 false)
set_option maxRecDepth 100000 in
theorem similarity_fields_con (p0 : Int) (r : Bool) (h : similarity_fields p0 = some r) : Con Try.prog 94 [vi64 p0] [] (vb r) [] := by
 refine con_of tt_ok0 0 Try.func94 (by kernel_rfl) rfl (by kernel_rfl) (fun base X _ => AW.post ?_)
 unfold similarity_fields at h
 refine AW.sg tt_ok0 [] [] [] 1 [] (by kernel_rfl) ?_
 refine AW.seq ?_
 refine AW.join (ι := Bool) (fun v => ⟨[(2, vb v)], [], 0⟩) (fun v : Bool => similarity_fields_k1 v = some r) (fun x1 h => ?_) ?_
 ·
  unfold similarity_fields_k1 at h
  refine AW.tn (AW.ret ?_)
  obtain rfl := some_inj h
  exact fn0 (.inr rfl) [] 0 (vb x1) (by kernel_rfl)
 ·
  rcases ifs h with ⟨c2, h⟩ | ⟨c2, h⟩
  ·
   refine AW.rg tt_ok0 [(2, vb (decide (p0 ≤ 5)))] [] [] 8 [hn, ht c2] (by kernel_rfl) ?_
   exact jl (decide (p0 ≤ 5)) h (conv_re [] (by kernel_rfl))
  ·
   refine AW.rg tt_ok0 [(2, vb false)] [] [] 8 [hn, hf c2] (by kernel_rfl) ?_
   exact jl false h (conv_re [] (by kernel_rfl))
/-! recordlink/bitset.And$1 -/
noncomputable def bitset_And_f1 (p0 : Int) (p1 : Int) : Option Int := some (iand .u64 p0 p1)
set_option maxRecDepth 100000 in
theorem bitset_And_f1_con (p0 : Int) (p1 : Int) (r : Int) (h : bitset_And_f1 p0 p1 = some r) : Con Try.prog 117 [vu64 p0, vu64 p1] [] (vu64 r) [] := by
 refine con_of tt_ok0 0 Try.func117 (by kernel_rfl) rfl (by kernel_rfl) (fun base X _ => AW.post ?_)
 unfold bitset_And_f1 at h
 refine AW.sg tt_ok0 [] [] [] 1 [] (by kernel_rfl) ?_
 refine AW.sg tt_ok0 [(4, vu64 (iand .u64 p0 p1))] [] [] 5 [] (by kernel_rfl) ?_
 refine AW.ret ?_
 obtain rfl := some_inj h
 exact fn0 (.inr rfl) [] 0 (vu64 (iand .u64 p0 p1)) (by kernel_rfl)
/-! recordlink/bitset.both -/
noncomputable def bitset_both_bitset_And_f1_l2 (p0 : S_api_Bits) (p1 : S_api_Bits) (x7 : Int) (x8 : List Int) : Option ((Int × (List Int)) ⊕ (List Int)) := if (decide (x7 < ((p0.Words.length : Nat) : Int))) = true then (if 0 ≤ x7 then (if x7 < ((p0.Words.length : Nat) : Int) then (if x7 < ((p1.Words.length : Nat) : Int) then ((bitset_And_f1 (p0.Words.getD x7.toNat 0) (p1.Words.getD x7.toNat 0)).bind fun y14 => (if x7 < (x8.length : Int) then (some (.inl (i64.wrap (x7 + 1), (x8.set (0 + x7.toNat) y14)))) else none)) else none) else none) else none) else (some (.inr x8))
noncomputable def bitset_both_bitset_And_f1_k1 (p0 : S_api_Bits) (p1 : S_api_Bits) (x1 : Bool) : Option (S_api_Bits × Int) := if x1 = true then (some ((⟨0, ([] : List Int)⟩ : S_api_Bits), 8)) else (if 0 ≤ ((p0.Words.length : Nat) : Int) then (if ((p0.Words.length : Nat) : Int) ≤ 1099511627776 then ((loop (fun v : Int × (List Int) => bitset_both_bitset_And_f1_l2 p0 p1 v.1 v.2) (0, (List.replicate (((p0.Words.length : Nat) : Int).toNat) (0 : Int)))).bind fun x17 => (some ((⟨p0.Length, x17⟩ : S_api_Bits), 0))) else none) else none)
noncomputable def bitset_both_bitset_And_f1 (p0 : S_api_Bits) (p1 : S_api_Bits) : Option (S_api_Bits × Int) := (bitset_Valid p0).bind fun y19 => (if (!y19) = true then (bitset_both_bitset_And_f1_k1 p0 p1 true) else ((bitset_Valid p1).bind fun y22 => (if (!y22) = true then (bitset_both_bitset_And_f1_k1 p0 p1 true) else (bitset_both_bitset_And_f1_k1 p0 p1 (p0.Length != p1.Length)))))
set_option maxRecDepth 100000 in
theorem bitset_both_bitset_And_f1_con (p0 : S_api_Bits) (p1 : S_api_Bits) (r : S_api_Bits × Int) (h : bitset_both_bitset_And_f1 p0 p1 = some r) : Con Try.prog 116 [.agg [ci64 p0.Length, cl 1 Ru64 p0.Words], .agg [ci64 p1.Length, cl 1 Ru64 p1.Words], .c (.t (.v (.func (.func 117) #[] #[])))] [] (.tup [.agg [ci64 r.1.Length, .ref 0 1 0 r.1.Words.length], vi64 r.2]) [(0, .row 45 false 1 r.1.Words.length (Ru64 r.1.Words))] := by
 refine con_of tt_ok0 0 Try.func116 (by kernel_rfl) rfl (by kernel_rfl) (fun base X _ => AW.post ?_)
 unfold bitset_both_bitset_And_f1 at h
 refine AW.sg tt_ok0 [(6, .c (.ptr 2 2 0 0)), (4, .c (.ptr 1 2 0 0)), (3, .c (.ptr 0 2 0 0))] [0, 1, 2] [(2, .box 84 [ci64 0, .t (.v (.slice none 0 0))]), (1, .box 84 [ci64 p1.Length, cl 1 Ru64 p1.Words]), (0, .box 84 [ci64 p0.Length, cl 1 Ru64 p0.Words])] 4 [] (by kernel_rfl) ?_
 refine AW.seq (AW.seq ?_)
 refine AW.join (ι := Bool) (fun v => ⟨[(2, .c (.t (.v (.func (.func 117) #[] #[])))), (3, .c (.ptr 0 2 0 0)), (4, .c (.ptr 1 2 0 0)), (6, .c (.ptr 2 2 0 0)), (25, vb v)], [(0, .box 84 [ci64 p0.Length, cl 1 Ru64 p0.Words]), (1, .box 84 [ci64 p1.Length, cl 1 Ru64 p1.Words]), (2, .box 84 [ci64 0, .t (.v (.slice none 0 0))])], 3⟩) (fun v : Bool => bitset_both_bitset_And_f1_k1 p0 p1 v = some r) (fun x1 h => ?_) ?_
 ·
  unfold bitset_both_bitset_And_f1_k1 at h
  refine AW.tn ?_
  refine AW.co h (by kernel_rfl) (fun c2 h => ?_) (fun c2 h => ?_)
  ·
   refine AW.sg tt_ok0 [(7, vi64 8)] [2] [(2, .box 84 [ci64 0, .t (.v (.slice none 0 0))])] 6 [] (by kernel_rfl) ?_
   refine AW.ret (AW.tr ?_)
   obtain rfl := some_inj h
   exact fnR (.inr rfl) [(0, 6)] 1 (.tup [.agg [ci64 0, .ref 6 1 0 (([] : List Int).length)], vi64 8]) (conv_adoptB (id := 2) (ty0 := 84) (cs := [ci64 0, .t (.v (.slice none 0 0))]) 1 (ty := 45) (sz := 1) (n := ([] : List Int).length) (f := Ru64 ([] : List Int)) (by kernel_rfl) (by kernel_rfl) rfl) (by kernel_rfl)
  ·
   refine AW.skip (AW.tn ?_)
   obtain ⟨g3, g4, h⟩ := ifd h
   refine AW.sd tt_ok0 mo0 [[], [], [], [], [], [8], [], [10], [10]] [(8, .c (.ptr 10 2 0 0))] [(10, .box 84 [ci64 p0.Length, .ref 8 1 0 ((List.replicate (((p0.Words.length : Nat) : Int).toNat) (0 : Int)).length)]), (8, .row 45 false 1 (List.replicate (((p0.Words.length : Nat) : Int).toNat) (0 : Int)).length (Ru64 (List.replicate (((p0.Words.length : Nat) : Int).toNat) (0 : Int))))] 12 [hn, hn, hn, hn, hn, hmk 0 Eu64 1 8 [.int .u64 0] rfl rfl ((p0.Words.length : Nat) : Int) ((p0.Words.length : Nat) : Int) g3 (Int.le_refl _) g4 (by decide)] (by kernel_rfl) ?_
   refine AW.seq ?_
   refine AW.sg tt_ok0 [(37, vi64 0), (36, vi64 ((p0.Words.length : Nat) : Int)), (35, vl 1 Ru64 p0.Words)] [] [] 16 [] (by kernel_rfl) ?_
   refine AW.block ?_
   obtain ⟨x17, l18, h⟩ := bnd_some h
   refine AW.lp l18 (fun v => ⟨[(2, .c (.t (.v (.func (.func 117) #[] #[])))), (4, .c (.ptr 0 2 0 0)), (6, .c (.ptr 1 2 0 0)), (8, .c (.ptr 2 2 0 0)), (35, vl 1 Ru64 p0.Words), (36, vi64 ((p0.Words.length : Nat) : Int)), (37, vi64 v.1)], [(0, .box 84 [ci64 p1.Length, cl 1 Ru64 p1.Words]), (1, .box 84 [ci64 0, .t (.v (.slice none 0 0))]), (2, .box 84 [ci64 p0.Length, .ref 3 1 0 v.2.length]), (3, .row 45 false 1 v.2.length (Ru64 v.2))], 4⟩) (fun t : List Int => (.exit 0, ⟨[(6, .c (.ptr 0 2 0 0)), (8, .c (.ptr 1 2 0 0))], [(0, .box 84 [ci64 0, .t (.v (.slice none 0 0))]), (1, .box 84 [ci64 p0.Length, .ref 2 1 0 t.length]), (2, .row 45 false 1 t.length (Ru64 t))], 3⟩)) (conv_re [(0, 1), (1, 2), (2, 10), (3, 8)] (by kernel_rfl)) (fun _ => tv) ?_ ?_
   ·
    clear l18 h
    intro v o h
    obtain ⟨x7, x8⟩ := v
    replace h : bitset_both_bitset_And_f1_l2 p0 p1 x7 x8 = some o := h
    unfold bitset_both_bitset_And_f1_l2 at h
    refine AW.sg tt_ok0 [(38, vb (decide (x7 < ((p0.Words.length : Nat) : Int))))] [] [] 5 [] (by kernel_rfl) ?_
    refine AW.seq ?_
    refine AW.co h (by kernel_rfl) (fun c10 h => ?_) (fun c10 h => ?_)
    ·
     refine AW.skip (AW.tn ?_)
     refine AW.seq (AW.block ?_)
     obtain ⟨g11, g12, h⟩ := ifd h
     refine AW.sg tt_ok0 [(10, vu64 (p0.Words.getD x7.toNat 0)), (9, vi64 x7)] [] [] 10 [hn, hq g11 g12] (by kernel_rfl) ?_
     obtain ⟨g13, h⟩ := ifc h
     obtain ⟨y14, e15, h⟩ := bnd_some h
     obtain ⟨g16, h⟩ := ifc h
     refine AW.rd tt_ok0 mo0 [[], [], [], [], [], [], [], [], [], [], [], [], [3]] [] [(3, .row 45 false 1 x8.length (Ru64 (x8.set (0 + x7.toNat) y14)))] 22 [hn, hn, hn, hn, hn, hn, hn, hn, hq g11 g13, hn, hk (bitset_And_f1_con (p0.Words.getD x7.toNat 0) (p1.Words.getD x7.toNat 0) y14 e15), hq g11 g16, hset 0 Eu64 x8 (0 + x7.toNat) y14 (n := x8.length) (by have h1 : 0 ≤ x7 := g11; have h2 : x7 < (x8.length : Int) := g16; omega) rfl] (by kernel_rfl) ?_
     refine AW.inBlock_normal (AW.tn ?_)
     refine AW.rg tt_ok0 [(37, vi64 (i64.wrap (x7 + 1)))] [] [] 24 [] (by kernel_rfl) ?_
     exact lpn h (Conv.trans (conv_re (S' := ⟨[(37, vi64 (i64.wrap (x7 + 1))), (2, .c (.t (.v (.func (.func 117) #[] #[])))), (4, .c (.ptr 0 2 0 0)), (6, .c (.ptr 1 2 0 0)), (8, .c (.ptr 2 2 0 0)), (35, vl 1 Ru64 p0.Words), (36, vi64 ((p0.Words.length : Nat) : Int))], [(3, .row 45 false 1 x8.length (Ru64 (x8.set (0 + x7.toNat) y14))), (0, .box 84 [ci64 p1.Length, cl 1 Ru64 p1.Words]), (1, .box 84 [ci64 0, .t (.v (.slice none 0 0))]), (2, .box 84 [ci64 p0.Length, .ref 3 1 0 x8.length])], 24⟩) [(3, 3), (0, 0), (1, 1), (2, 2)] (by kernel_rfl)) (Conv.trans (conv_len (S' := ⟨[(37, vi64 (i64.wrap (x7 + 1))), (2, .c (.t (.v (.func (.func 117) #[] #[])))), (4, .c (.ptr 0 2 0 0)), (6, .c (.ptr 1 2 0 0)), (8, .c (.ptr 2 2 0 0)), (35, vl 1 Ru64 p0.Words), (36, vi64 ((p0.Words.length : Nat) : Int))], [(3, .row 45 false 1 (x8.set (0 + x7.toNat) y14).length (Ru64 (x8.set (0 + x7.toNat) y14))), (0, .box 84 [ci64 p1.Length, cl 1 Ru64 p1.Words]), (1, .box 84 [ci64 0, .t (.v (.slice none 0 0))]), (2, .box 84 [ci64 p0.Length, .ref 3 1 0 ((x8.set (0 + x7.toNat) y14).length)])], 24⟩) (by simp only [List.length_set])) (conv_re [(0, 0), (1, 1), (2, 2), (3, 3)] (by kernel_rfl))))
    ·
     refine AW.exit (AW.thenQ_exit ?_)
     exact lpo h rfl (conv_re [(0, 1), (1, 2), (2, 3)] (by kernel_rfl))
   ·
    show (_ : Exit → St → Prop) (.exit 0) _
    refine AW.inBlock_hit (AW.tn ?_)
    refine AW.sg tt_ok0 [(7, vi64 0)] [0] [(0, .box 84 [ci64 p0.Length, .ref 2 1 0 x17.length])] 6 [] (by kernel_rfl) ?_
    refine AW.ret ?_
    obtain rfl := some_inj h
    exact fn0 (.inr rfl) [(0, 2)] 1 (.tup [.agg [ci64 p0.Length, .ref 2 1 0 x17.length], vi64 0]) (by kernel_rfl)
 ·
  obtain ⟨y19, e20, h⟩ := bnd_some h
  rcases ifs h with ⟨c21, h⟩ | ⟨c21, h⟩
  ·
   refine AW.rg tt_ok0 [(25, vb true)] [] [] 18 [hn, hk (bitset_Valid_con p0 y19 e20), ht c21] (by kernel_rfl) ?_
   exact jl true h (conv_re [(0, 0), (1, 1), (2, 2)] (by kernel_rfl))
  ·
   obtain ⟨y22, e23, h⟩ := bnd_some h
   rcases ifs h with ⟨c24, h⟩ | ⟨c24, h⟩
   ·
    refine AW.rg tt_ok0 [(25, vb true)] [] [] 17 [hn, hk (bitset_Valid_con p0 y19 e20), hf c21, hn, hn, hk (bitset_Valid_con p1 y22 e23), ht c24] (by kernel_rfl) ?_
    exact jl true h (conv_re [(0, 0), (1, 1), (2, 2)] (by kernel_rfl))
   ·
    refine AW.rg tt_ok0 [(25, vb (p0.Length != p1.Length))] [] [] 17 [hn, hk (bitset_Valid_con p0 y19 e20), hf c21, hn, hn, hk (bitset_Valid_con p1 y22 e23), hf c24] (by kernel_rfl) ?_
    exact jl (p0.Length != p1.Length) h (conv_re [(0, 0), (1, 1), (2, 2)] (by kernel_rfl))
/-! recordlink/bitset.And -/
noncomputable def bitset_And (p0 : S_api_Bits) (p1 : S_api_Bits) : Option (S_api_Bits × Int) := bind2 (bitset_both_bitset_And_f1 p0 p1) fun y1 y2 => (some (y1, y2))
set_option maxRecDepth 100000 in
theorem bitset_And_con (p0 : S_api_Bits) (p1 : S_api_Bits) (r : S_api_Bits × Int) (h : bitset_And p0 p1 = some r) : Con Try.prog 109 [.agg [ci64 p0.Length, cl 1 Ru64 p0.Words], .agg [ci64 p1.Length, cl 1 Ru64 p1.Words]] [] (.tup [.agg [ci64 r.1.Length, .ref 0 1 0 r.1.Words.length], vi64 r.2]) [(0, .row 45 false 1 r.1.Words.length (Ru64 r.1.Words))] := by
 refine con_of tt_ok0 0 Try.func109 (by kernel_rfl) rfl (by kernel_rfl) (fun base X _ => AW.post ?_)
 unfold bitset_And at h
 refine AW.sg tt_ok0 [(4, .c (.ptr 2 2 0 0)), (3, .c (.ptr 1 2 0 0)), (2, .c (.ptr 0 2 0 0))] [0, 1, 2] [(2, .box 84 [ci64 0, .t (.v (.slice none 0 0))]), (1, .box 84 [ci64 p1.Length, cl 1 Ru64 p1.Words]), (0, .box 84 [ci64 p0.Length, cl 1 Ru64 p0.Words])] 4 [] (by kernel_rfl) ?_
 obtain ⟨y1, y2, e3, h⟩ := bind2_some h
 refine AW.sg tt_ok0 [(5, vi64 y2)] [2, 6] [(2, .box 84 [ci64 y1.Length, .ref 6 1 0 y1.Words.length]), (6, .row 45 false 1 y1.Words.length (Ru64 y1.Words))] 11 [hn, hn, hm [] [] 1 (bitset_both_bitset_And_f1_con p0 p1 (y1, y2) e3) ⟨rowL_flat Vu64 _ _ _, tv⟩] (by kernel_rfl) ?_
 refine AW.ret ?_
 obtain rfl := some_inj h
 exact fn0 (.inr rfl) [(0, 6)] 1 (.tup [.agg [ci64 y1.Length, .ref 6 1 0 y1.Words.length], vi64 y2]) (by kernel_rfl)
/-! math/bits.OnesCount64 -/
noncomputable def bits_OnesCount64 (p0 : Int) : Option Int := (some (u64.wrap ((iand .u64 (ishr .u64 p0 1) 6148914691236517205) + (iand .u64 p0 6148914691236517205)))).bind fun z1 => ((some (u64.wrap ((iand .u64 (ishr .u64 z1 2) 3689348814741910323) + (iand .u64 z1 3689348814741910323)))).bind fun z3 => ((some (iand .u64 (u64.wrap ((ishr .u64 z3 4) + z3)) 1085102592571150095)).bind fun z5 => ((some (u64.wrap ((u64.wrap (z5 + (ishr .u64 z5 8))) + (ishr .u64 (u64.wrap (z5 + (ishr .u64 z5 8))) 16)))).bind fun z7 => ((some (iand .i64 (i64.wrap (u64.wrap (z7 + (ishr .u64 z7 32)))) 127)).bind fun z9 => (some z9)))))
set_option maxRecDepth 100000 in
theorem bits_OnesCount64_con (p0 : Int) (r : Int) (h : bits_OnesCount64 p0 = some r) : Con Try.prog 118 [vu64 p0] [] (vi64 r) [] := by
 refine con_of tt_ok0 0 Try.func118 (by kernel_rfl) rfl (by kernel_rfl) (fun base X _ => AW.post ?_)
 unfold bits_OnesCount64 at h
 refine AW.sg tt_ok0 [] [] [] 1 [] (by kernel_rfl) ?_
 obtain ⟨z1, n2, h⟩ := bnd_some h
 replace n2 := some_inj n2
 refine AW.sg tt_ok0 [(0, vu64 z1)] [] [] 8 [hn, ho (p := 0 ≤ (1 : Int)) (by decide)] (by subst n2; kernel_rfl) ?_
 obtain ⟨z3, n4, h⟩ := bnd_some h
 replace n4 := some_inj n4
 refine AW.sg tt_ok0 [(0, vu64 z3)] [] [] 15 [hn, ho (p := 0 ≤ (2 : Int)) (by decide)] (by subst n4; kernel_rfl) ?_
 obtain ⟨z5, n6, h⟩ := bnd_some h
 replace n6 := some_inj n6
 refine AW.sg tt_ok0 [(0, vu64 z5)] [] [] 21 [hn, ho (p := 0 ≤ (4 : Int)) (by decide)] (by subst n6; kernel_rfl) ?_
 refine AW.sg tt_ok0 [(0, vu64 (u64.wrap (z5 + (ishr .u64 z5 8))))] [] [] 26 [hn, hn, ho (p := 0 ≤ (8 : Int)) (by decide)] (by kernel_rfl) ?_
 obtain ⟨z7, n8, h⟩ := bnd_some h
 replace n8 := some_inj n8
 refine AW.sg tt_ok0 [(0, vu64 z7)] [] [] 31 [hn, hn, ho (p := 0 ≤ (16 : Int)) (by decide)] (by subst n8; kernel_rfl) ?_
 refine AW.sg tt_ok0 [(0, vu64 (u64.wrap (z7 + (ishr .u64 z7 32))))] [] [] 36 [hn, hn, ho (p := 0 ≤ (32 : Int)) (by decide)] (by kernel_rfl) ?_
 obtain ⟨z9, n10, h⟩ := bnd_some h
 replace n10 := some_inj n10
 refine AW.sg tt_ok0 [(2, vi64 z9)] [] [] 40 [] (by subst n10; kernel_rfl) ?_
 refine AW.ret ?_
 obtain rfl := some_inj h
 exact fn0 (.inr rfl) [] 0 (vi64 z9) (by kernel_rfl)
/-! recordlink/bitset.Count -/
noncomputable def bitset_Count_l1 (p0 : S_api_Bits) (x6 : Int) (x7 : Int) : Option ((Int × Int) ⊕ Int) := if (decide (x7 < ((p0.Words.length : Nat) : Int))) = true then (if 0 ≤ x7 then (if x7 < ((p0.Words.length : Nat) : Int) then ((bits_OnesCount64 (p0.Words.getD x7.toNat 0)).bind fun y12 => (some (.inl (i64.wrap (x6 + y12), i64.wrap (x7 + 1))))) else none) else none) else (some (.inr x6))
noncomputable def bitset_Count (p0 : S_api_Bits) : Option Int := (bitset_Valid p0).bind fun y1 => (if (!y1) = true then (some 0) else ((loop (fun v : Int × Int => bitset_Count_l1 p0 v.1 v.2) (0, 0)).bind fun x14 => (some x14)))
set_option maxRecDepth 100000 in
theorem bitset_Count_con (p0 : S_api_Bits) (r : Int) (h : bitset_Count p0 = some r) : Con Try.prog 110 [.agg [ci64 p0.Length, cl 1 Ru64 p0.Words]] [] (vi64 r) [] := by
 refine con_of tt_ok0 0 Try.func110 (by kernel_rfl) rfl (by kernel_rfl) (fun base X _ => AW.post ?_)
 unfold bitset_Count at h
 refine AW.sg tt_ok0 [(1, .c (.ptr 0 2 0 0))] [0] [(0, .box 84 [ci64 p0.Length, cl 1 Ru64 p0.Words])] 2 [] (by kernel_rfl) ?_
 refine AW.seq ?_
 obtain ⟨y1, e2, h⟩ := bnd_some h
 refine AW.sg tt_ok0 [(8, vb (!y1))] [] [] 4 [hn, hk (bitset_Valid_con p0 y1 e2)] (by kernel_rfl) ?_
 refine AW.co h (by kernel_rfl) (fun c3 h => ?_) (fun c3 h => ?_)
 ·
  refine AW.sg tt_ok0 [(2, vi64 0)] [] [] 5 [] (by kernel_rfl) ?_
  refine AW.ret (AW.tr ?_)
  obtain rfl := some_inj h
  exact fn0 (.inr rfl) [] 0 (vi64 0) (by kernel_rfl)
 ·
  refine AW.skip (AW.tn ?_)
  refine AW.sg tt_ok0 [(3, vi64 0)] [] [] 5 [] (by kernel_rfl) ?_
  refine AW.seq ?_
  refine AW.sg tt_ok0 [(12, vi64 0), (11, vi64 ((p0.Words.length : Nat) : Int)), (10, vl 1 Ru64 p0.Words)] [] [] 9 [] (by kernel_rfl) ?_
  refine AW.block ?_
  obtain ⟨x14, l15, h⟩ := bnd_some h
  refine AW.lp l15 (fun v => ⟨[(3, vi64 v.1), (10, vl 1 Ru64 p0.Words), (11, vi64 ((p0.Words.length : Nat) : Int)), (12, vi64 v.2)], [], 0⟩) (fun t : Int => (.exit 0, ⟨[(3, vi64 t)], [], 0⟩)) (conv_re [] (by kernel_rfl)) (fun _ => tv) ?_ ?_
  ·
   clear l15 h
   intro v o h
   obtain ⟨x6, x7⟩ := v
   replace h : bitset_Count_l1 p0 x6 x7 = some o := h
   unfold bitset_Count_l1 at h
   refine AW.sg tt_ok0 [(13, vb (decide (x7 < ((p0.Words.length : Nat) : Int))))] [] [] 1 [] (by kernel_rfl) ?_
   refine AW.seq ?_
   refine AW.co h (by kernel_rfl) (fun c9 h => ?_) (fun c9 h => ?_)
   ·
    refine AW.skip (AW.tn ?_)
    refine AW.seq (AW.block ?_)
    obtain ⟨g10, g11, h⟩ := ifd h
    refine AW.sg tt_ok0 [(5, vu64 (p0.Words.getD x7.toNat 0))] [] [] 4 [hq g10 g11] (by kernel_rfl) ?_
    obtain ⟨y12, e13, h⟩ := bnd_some h
    refine AW.rg tt_ok0 [(3, vi64 (i64.wrap (x6 + y12)))] [] [] 8 [hn, hn, hk (bits_OnesCount64_con (p0.Words.getD x7.toNat 0) y12 e13)] (by kernel_rfl) ?_
    refine AW.inBlock_normal (AW.tn ?_)
    refine AW.rg tt_ok0 [(12, vi64 (i64.wrap (x7 + 1)))] [] [] 10 [] (by kernel_rfl) ?_
    exact lpn h (conv_re [] (by kernel_rfl))
   ·
    refine AW.exit (AW.thenQ_exit ?_)
    exact lpo h rfl (conv_re [] (by kernel_rfl))
  ·
   show (_ : Exit → St → Prop) (.exit 0) _
   refine AW.inBlock_hit (AW.tn ?_)
   refine AW.sg tt_ok0 [(2, vi64 x14)] [] [] 2 [] (by kernel_rfl) ?_
   refine AW.ret ?_
   obtain rfl := some_inj h
   exact fn0 (.inr rfl) [] 0 (vi64 x14) (by kernel_rfl)
/-! recordlink/similarity.Dice -/
noncomputable def similarity_Dice (p0 : S_api_Bits) (p1 : S_api_Bits) : Option Int := bind2 (bitset_And p0 p1) fun y1 y2 => (if (y2 != 0) = true then (some (-1)) else ((bitset_Count p0).bind fun y5 => ((bitset_Count p1).bind fun y7 => (if ((i64.wrap (y5 + y7)) == 0) = true then (some 0) else ((bitset_Count y1).bind fun y10 => (if (i64.wrap (2 * (i64.wrap (y5 + y7)))) ≠ 0 then ((some (i64.wrap ((i64.wrap ((i64.wrap (4000 * y10)) + (i64.wrap (y5 + y7)))).tdiv (i64.wrap (2 * (i64.wrap (y5 + y7))))))).bind fun z13 => (some z13)) else none))))))
set_option maxRecDepth 100000 in
theorem similarity_Dice_con (p0 : S_api_Bits) (p1 : S_api_Bits) (r : Int) (h : similarity_Dice p0 p1 = some r) : Con Try.prog 95 [.agg [ci64 p0.Length, cl 1 Ru64 p0.Words], .agg [ci64 p1.Length, cl 1 Ru64 p1.Words]] [] (vi64 r) [] := by
 refine con_of tt_ok0 0 Try.func95 (by kernel_rfl) rfl (by kernel_rfl) (fun base X _ => AW.post ?_)
 unfold similarity_Dice at h
 refine AW.sg tt_ok0 [(3, .c (.ptr 1 2 0 0)), (2, .c (.ptr 0 2 0 0))] [0, 1] [(1, .box 84 [ci64 p1.Length, cl 1 Ru64 p1.Words]), (0, .box 84 [ci64 p0.Length, cl 1 Ru64 p0.Words])] 3 [] (by kernel_rfl) ?_
 obtain ⟨y1, y2, e3, h⟩ := bind2_some h
 refine AW.sg tt_ok0 [(6, vi64 y2), (5, .c (.ptr 9 2 0 0))] [5, 9] [(9, .box 84 [ci64 y1.Length, .ref 5 1 0 y1.Words.length]), (5, .row 45 false 1 y1.Words.length (Ru64 y1.Words))] 12 [hn, hn, hm [] [] 1 (bitset_And_con p0 p1 (y1, y2) e3) ⟨rowL_flat Vu64 _ _ _, tv⟩] (by kernel_rfl) ?_
 refine AW.seq ?_
 refine AW.sg tt_ok0 [(15, vb (y2 != 0))] [] [] 14 [] (by kernel_rfl) ?_
 refine AW.co h (by kernel_rfl) (fun c4 h => ?_) (fun c4 h => ?_)
 ·
  refine AW.sg tt_ok0 [(4, vi64 (-1))] [] [] 15 [] (by kernel_rfl) ?_
  refine AW.ret (AW.tr ?_)
  obtain rfl := some_inj h
  exact fn0 (.inr rfl) [] 0 (vi64 (-1)) (by kernel_rfl)
 ·
  refine AW.skip (AW.tn ?_)
  obtain ⟨y5, e6, h⟩ := bnd_some h
  obtain ⟨y7, e8, h⟩ := bnd_some h
  refine AW.sd tt_ok0 mo0 [] [(7, vi64 (i64.wrap (y5 + y7)))] [] 18 [hn, hk (bitset_Count_con p0 y5 e6), hn, hk (bitset_Count_con p1 y7 e8)] (by kernel_rfl) ?_
  refine AW.seq ?_
  refine AW.sg tt_ok0 [(22, vb ((i64.wrap (y5 + y7)) == 0))] [] [] 20 [] (by kernel_rfl) ?_
  refine AW.co h (by kernel_rfl) (fun c9 h => ?_) (fun c9 h => ?_)
  ·
   refine AW.sg tt_ok0 [(4, vi64 0)] [] [] 21 [] (by kernel_rfl) ?_
   refine AW.ret (AW.tr ?_)
   obtain rfl := some_inj h
   exact fn0 (.inr rfl) [] 0 (vi64 0) (by kernel_rfl)
  ·
   refine AW.skip (AW.tn ?_)
   obtain ⟨y10, e11, h⟩ := bnd_some h
   obtain ⟨g12, h⟩ := ifc h
   obtain ⟨z13, n14, h⟩ := bnd_some h
   replace n14 := some_inj n14
   refine AW.sg tt_ok0 [(4, vi64 z13)] [] [] 28 [hn, hg [] [] true 0 (q := ((True) ∧ (0 + y1.Words.length ≤ y1.Words.length) ∧ (True)) ∧ (True)) ⟨⟨tv, le0, tv⟩, tv⟩ (a0 := [.agg [ci64 y1.Length, cl 1 Ru64 y1.Words]]) (bitset_Count_con y1 y10 e11) ⟨ArgLe.refl _, tv⟩ (fun _ => tv), hn, hn, hn, hn, hn, ho g12] (by subst n14; kernel_rfl) ?_
   refine AW.ret ?_
   obtain rfl := some_inj h
   exact fn0 (.inr rfl) [] 0 (vi64 z13) (by kernel_rfl)
/-! recordlink/similarity.Compare -/
noncomputable def similarity_Compare_l2 (p0 : S_api_Encoded) (p1 : S_api_Encoded) (x5 : List Int) (x6 : Int) : Option (((List Int) × Int) ⊕ (List Int)) := if (decide (x6 < ((p0.Fields.length : Nat) : Int))) = true then (if 0 ≤ x6 then (if x6 < ((p0.Fields.length : Nat) : Int) then (if x6 < ((p1.Fields.length : Nat) : Int) then ((similarity_Dice (p0.Fields.getD x6.toNat dS_api_Bits) (p1.Fields.getD x6.toNat dS_api_Bits)).bind fun y12 => (if x5.length + ([y12] : List Int).length ≤ 1099511627776 then (some (.inl ((x5 ++ ([y12] : List Int)), i64.wrap (x6 + 1)))) else none)) else none) else none) else none) else (some (.inr x5))
noncomputable def similarity_Compare_k1 (p0 : S_api_Encoded) (p1 : S_api_Encoded) (x1 : Bool) : Option ((List Int) × Int) := if x1 = true then (some (([] : List Int), 8)) else ((loop (fun v : (List Int) × Int => similarity_Compare_l2 p0 p1 v.1 v.2) (([] : List Int), 0)).bind fun x15 => (some (x15, 0)))
noncomputable def similarity_Compare (p0 : S_api_Encoded) (p1 : S_api_Encoded) : Option ((List Int) × Int) := if (((p0.Fields.length : Nat) : Int) != ((p1.Fields.length : Nat) : Int)) = true then (similarity_Compare_k1 p0 p1 true) else ((similarity_fields ((p0.Fields.length : Nat) : Int)).bind fun y18 => (similarity_Compare_k1 p0 p1 (!y18)))
set_option maxRecDepth 100000 in
theorem similarity_Compare_con (p0 : S_api_Encoded) (p1 : S_api_Encoded) (r : (List Int) × Int) (h : similarity_Compare p0 p1 = some r) : Con Try.prog 66 [.agg [ci64 p0.ID, ci64 p0.Version, cl 2 RS_api_Bits p0.Fields], .agg [ci64 p1.ID, ci64 p1.Version, cl 2 RS_api_Bits p1.Fields]] [] (.tup [.c (.ref 0 1 0 r.1.length), vi64 r.2]) [(0, .row 3 false 1 r.1.length (Ri64 r.1))] := by
 refine con_of tt_ok0 0 Try.func66 (by kernel_rfl) rfl (by kernel_rfl) (fun base X _ => AW.post ?_)
 unfold similarity_Compare at h
 refine AW.sg tt_ok0 [(3, .c (.ptr 1 3 0 0)), (2, .c (.ptr 0 3 0 0))] [0, 1] [(1, .box 40 [ci64 p1.ID, ci64 p1.Version, cl 2 RS_api_Bits p1.Fields]), (0, .box 40 [ci64 p0.ID, ci64 p0.Version, cl 2 RS_api_Bits p0.Fields])] 4 [] (by kernel_rfl) ?_
 refine AW.seq (AW.seq ?_)
 refine AW.join (ι := Bool) (fun v => ⟨[(2, .c (.ptr 0 3 0 0)), (3, .c (.ptr 1 3 0 0)), (22, vb v)], [(0, .box 40 [ci64 p0.ID, ci64 p0.Version, cl 2 RS_api_Bits p0.Fields]), (1, .box 40 [ci64 p1.ID, ci64 p1.Version, cl 2 RS_api_Bits p1.Fields])], 2⟩) (fun v : Bool => similarity_Compare_k1 p0 p1 v = some r) (fun x1 h => ?_) ?_
 ·
  unfold similarity_Compare_k1 at h
  refine AW.tn ?_
  refine AW.co h (by kernel_rfl) (fun c2 h => ?_) (fun c2 h => ?_)
  ·
   refine AW.sg tt_ok0 [(5, vi64 8), (4, .c (.t (.v (.slice none 0 0))))] [] [] 4 [] (by kernel_rfl) ?_
   refine AW.ret (AW.tr ?_)
   obtain rfl := some_inj h
   exact fnR (.inr rfl) [(0, 4)] 1 (.tup [.c (.ref 4 1 0 (([] : List Int).length)), vi64 8]) (conv_adopt (t := 4) (ty := 3) (sz := 1) (n := ([] : List Int).length) (f := Ri64 ([] : List Int)) (by kernel_rfl) rfl) (by kernel_rfl)
  ·
   refine AW.skip (AW.tn ?_)
   refine AW.sg tt_ok0 [(6, .c (.t (.v (.slice none 0 0))))] [] [] 3 [] (by kernel_rfl) ?_
   refine AW.seq ?_
   refine AW.sg tt_ok0 [(26, vi64 0), (25, vi64 ((p0.Fields.length : Nat) : Int)), (24, vl 2 RS_api_Bits p0.Fields)] [] [] 7 [] (by kernel_rfl) ?_
   refine AW.block ?_
   obtain ⟨x15, l16, h⟩ := bnd_some h
   refine AW.lp l16 (fun v => ⟨[(3, .c (.ptr 0 3 0 0)), (6, .c (.ref 1 1 0 v.1.length)), (24, vl 2 RS_api_Bits p0.Fields), (25, vi64 ((p0.Fields.length : Nat) : Int)), (26, vi64 v.2)], [(0, .box 40 [ci64 p1.ID, ci64 p1.Version, cl 2 RS_api_Bits p1.Fields]), (1, .row 3 false 1 v.1.length (Ri64 v.1))], 2⟩) (fun t : List Int => (.exit 0, ⟨[(6, .c (.ref 0 1 0 t.length))], [(0, .row 3 false 1 t.length (Ri64 t))], 1⟩)) (Conv.trans (conv_adopt (t := 6) (ty := 3) (sz := 1) (n := ([] : List Int).length) (f := Ri64 ([] : List Int)) (by kernel_rfl) rfl) (conv_re [(0, 1), (1, 7)] (by kernel_rfl))) (fun _ => tv) ?_ ?_
   ·
    clear l16 h
    intro v o h
    obtain ⟨x5, x6⟩ := v
    replace h : similarity_Compare_l2 p0 p1 x5 x6 = some o := h
    unfold similarity_Compare_l2 at h
    refine AW.sg tt_ok0 [(27, vb (decide (x6 < ((p0.Fields.length : Nat) : Int))))] [] [] 3 [] (by kernel_rfl) ?_
    refine AW.seq ?_
    refine AW.co h (by kernel_rfl) (fun c8 h => ?_) (fun c8 h => ?_)
    ·
     refine AW.skip (AW.tn ?_)
     refine AW.seq (AW.block ?_)
     obtain ⟨g9, g10, h⟩ := ifd h
     refine AW.sg tt_ok0 [(7, vi64 x6), (8, .c (.ptr 6 2 0 0))] [6] [(6, .box 84 [ci64 ((p0.Fields.getD x6.toNat dS_api_Bits).Length), cl 1 Ru64 ((p0.Fields.getD x6.toNat dS_api_Bits).Words)])] 9 [hn, hq g9 g10] (by kernel_rfl) ?_
     obtain ⟨g11, h⟩ := ifc h
     obtain ⟨y12, e13, h⟩ := bnd_some h
     obtain ⟨g14, h⟩ := ifc h
     refine AW.rd tt_ok0 mo0 [[], [], [], [], [], [], [], [], [16], [17, 1]] [(6, .c (.ref 17 1 0 ((x5 ++ ([y12] : List Int)).length)))] [(17, .row 3 false 1 (x5 ++ ([y12] : List Int)).length (Ri64 (x5 ++ ([y12] : List Int))))] 19 [hn, hn, hn, hn, hn, hq g9 g11, hn, hk (similarity_Dice_con (p0.Fields.getD x6.toNat dS_api_Bits) (p1.Fields.getD x6.toNat dS_api_Bits) y12 e13), hlit 0 Ei64 1 (fun _ => rfl) ([y12] : List Int), happ 0 Ei64 1 8 x5 ([y12] : List Int) g14 (by decide)] (by kernel_rfl) ?_
     refine AW.inBlock_normal (AW.tn ?_)
     refine AW.rg tt_ok0 [(26, vi64 (i64.wrap (x6 + 1)))] [] [] 21 [] (by kernel_rfl) ?_
     exact lpn h (conv_re [(0, 0), (1, 17)] (by kernel_rfl))
    ·
     refine AW.exit (AW.thenQ_exit ?_)
     exact lpo h rfl (conv_re [(0, 1)] (by kernel_rfl))
   ·
    show (_ : Exit → St → Prop) (.exit 0) _
    refine AW.inBlock_hit (AW.tn ?_)
    refine AW.sg tt_ok0 [(5, vi64 0), (4, .c (.ref 0 1 0 x15.length))] [] [] 4 [] (by kernel_rfl) ?_
    refine AW.ret ?_
    obtain rfl := some_inj h
    exact fn0 (.inr rfl) [(0, 0)] 1 (.tup [.c (.ref 0 1 0 x15.length), vi64 0]) (by kernel_rfl)
 ·
  rcases ifs h with ⟨c17, h⟩ | ⟨c17, h⟩
  ·
   refine AW.rg tt_ok0 [(22, vb true)] [] [] 18 [hn, hn, hn, hn, hn, hn, ht c17] (by kernel_rfl) ?_
   exact jl true h (conv_re [(0, 0), (1, 1)] (by kernel_rfl))
  ·
   obtain ⟨y18, e19, h⟩ := bnd_some h
   refine AW.rg tt_ok0 [(22, vb (!y18))] [] [] 17 [hn, hn, hn, hn, hn, hn, hf c17, hn, hn, hn, hn, hk (similarity_fields_con ((p0.Fields.length : Nat) : Int) y18 e19)] (by kernel_rfl) ?_
   exact jl (!y18) h (conv_re [(0, 0), (1, 1)] (by kernel_rfl))
/-! recordlink/similarity.powers -/
noncomputable def similarity_powers : Option (List Int) := some ([1, 3, 9, 27, 81, 243] : List Int)
set_option maxRecDepth 100000 in
theorem similarity_powers_con (r : List Int) (h : similarity_powers = some r) : Con Try.prog 111 [] [] (.agg [ci64 (r.getD 0 0), ci64 (r.getD 1 0), ci64 (r.getD 2 0), ci64 (r.getD 3 0), ci64 (r.getD 4 0), ci64 (r.getD 5 0)]) [] := by
 refine con_of tt_ok0 0 Try.func111 (by kernel_rfl) rfl (by kernel_rfl) (fun base X _ => AW.post ?_)
 unfold similarity_powers at h
 refine AW.sg tt_ok0 [(0, .c (.ptr 0 1 0 0))] [0] [(0, .row 129 false 1 6 (Ri64 ([0, 0, 0, 0, 0, 0] : List Int)))] 1 [hr 6 (Ri64 ([0, 0, 0, 0, 0, 0] : List Int)) (p := 6 = 6 ∧ ∀ i, i < 6 → ∀ j, j < 1 → TLe (rowOf [.v (.int .i64 0), .v (.int .i64 0), .v (.int .i64 0), .v (.int .i64 0), .v (.int .i64 0), .v (.int .i64 0)] 1 i j) (Ri64 ([0, 0, 0, 0, 0, 0] : List Int) i j)) (⟨rfl, fun i hi j hj => match i, hi, j, hj with | 0, _, 0, _ => TLe.refl _ | 1, _, 0, _ => TLe.refl _ | 2, _, 0, _ => TLe.refl _ | 3, _, 0, _ => TLe.refl _ | 4, _, 0, _ => TLe.refl _ | 5, _, 0, _ => TLe.refl _ | _ + 6, h, _, _ => absurd h (by omega) | _, _, _ + 1, h => absurd h (by omega)⟩)] (by kernel_rfl) ?_
 refine AW.sg tt_ok0 [] [0] [(0, .row 129 false 1 6 (Ri64 ([1, 3, 9, 27, 81, 243] : List Int)))] 3 [hn, hr 6 (Ri64 ([1, 3, 9, 27, 81, 243] : List Int)) (p := 6 = 6 ∧ ∀ i, i < 6 → ∀ j, j < 1 → TLe (rowOf [.v (.int .i64 1), .v (.int .i64 3), .v (.int .i64 9), .v (.int .i64 27), .v (.int .i64 81), .v (.int .i64 243)] 1 i j) (Ri64 ([1, 3, 9, 27, 81, 243] : List Int) i j)) (⟨rfl, fun i hi j hj => match i, hi, j, hj with | 0, _, 0, _ => TLe.refl _ | 1, _, 0, _ => TLe.refl _ | 2, _, 0, _ => TLe.refl _ | 3, _, 0, _ => TLe.refl _ | 4, _, 0, _ => TLe.refl _ | 5, _, 0, _ => TLe.refl _ | _ + 6, h, _, _ => absurd h (by omega) | _, _, _ + 1, h => absurd h (by omega)⟩)] (by kernel_rfl) ?_
 refine AW.ret ?_
 obtain rfl := some_inj h
 exact ⟨_, Conv.refl _ _, .inr rfl, OutOk.mk [] 0 (out0 := .agg [ci64 (([1, 3, 9, 27, 81, 243] : List Int).getD 0 0), ci64 (([1, 3, 9, 27, 81, 243] : List Int).getD 1 0), ci64 (([1, 3, 9, 27, 81, 243] : List Int).getD 2 0), ci64 (([1, 3, 9, 27, 81, 243] : List Int).getD 3 0), ci64 (([1, 3, 9, 27, 81, 243] : List Int).getD 4 0), ci64 (([1, 3, 9, 27, 81, 243] : List Int).getD 5 0)]) (ps := [0 + 5 < 6]) (by kernel_rfl) ⟨(by decide), tv⟩ (by kernel_rfl) (by kernel_rfl)⟩
/-! recordlink/similarity.Number -/
noncomputable def similarity_Number_k2 (p0 : List Int) (x6 : Int) (x7 : Int) (x12 : Bool) : Option ((Int × Int) ⊕ (Int ⊕ Unit)) := if x12 = true then (some (.inr (.inr ()))) else ((similarity_powers).bind fun y14 => (if x7 < ((6 : Nat) : Int) then ((some (i64.wrap (x6 + (i64.wrap ((p0.getD x7.toNat 0) * (y14.getD x7.toNat 0)))))).bind fun z17 => (some (.inl (z17, i64.wrap (x7 + 1))))) else none))
noncomputable def similarity_Number_l1 (p0 : List Int) (x6 : Int) (x7 : Int) : Option ((Int × Int) ⊕ (Int ⊕ Unit)) := if (decide (x7 < (p0.length : Int))) = true then (if 0 ≤ x7 then (if x7 < (p0.length : Int) then (if (decide ((p0.getD x7.toNat 0) < 0)) = true then (similarity_Number_k2 p0 x6 x7 true) else (similarity_Number_k2 p0 x6 x7 (decide ((p0.getD x7.toNat 0) ≥ 3)))) else none) else none) else (some (.inr (.inl x6)))
noncomputable def similarity_Number_a3 (x20 : Int) : Option (Int × Int) := some (x20, 0)
noncomputable def similarity_Number_a4 : Option (Int × Int) := some (0, 2)
noncomputable def similarity_Number (p0 : List Int) : Option (Int × Int) := (similarity_fields (p0.length : Int)).bind fun y1 => (if (!y1) = true then (some (0, 8)) else (bindE (loop (fun v : Int × Int => similarity_Number_l1 p0 v.1 v.2) (0, 0)) (fun t => similarity_Number_a3 t) (fun t => similarity_Number_a4)))
set_option maxRecDepth 100000 in
theorem similarity_Number_con (p0 : List Int) (r : Int × Int) (h : similarity_Number p0 = some r) : Con Try.prog 96 [vl 1 Ri64 p0] [] (.tup [vi64 r.1, vi64 r.2]) [] := by
 refine con_of tt_ok0 0 Try.func96 (by kernel_rfl) rfl (by kernel_rfl) (fun base X _ => AW.post ?_)
 unfold similarity_Number at h
 refine AW.sg tt_ok0 [] [] [] 2 [] (by kernel_rfl) ?_
 refine AW.seq ?_
 obtain ⟨y1, e2, h⟩ := bnd_some h
 refine AW.sg tt_ok0 [(10, vb (!y1))] [] [] 5 [hn, hn, hk (similarity_fields_con (p0.length : Int) y1 e2)] (by kernel_rfl) ?_
 refine AW.co h (by kernel_rfl) (fun c3 h => ?_) (fun c3 h => ?_)
 ·
  refine AW.sg tt_ok0 [(3, vi64 8), (2, vi64 0)] [] [] 7 [] (by kernel_rfl) ?_
  refine AW.ret (AW.tr ?_)
  obtain rfl := some_inj h
  exact fn0 (.inr rfl) [] 0 (.tup [vi64 0, vi64 8]) (by kernel_rfl)
 ·
  refine AW.skip (AW.tn ?_)
  refine AW.sg tt_ok0 [(4, vi64 0)] [] [] 6 [] (by kernel_rfl) ?_
  refine AW.seq ?_
  refine AW.sg tt_ok0 [(13, vi64 0), (12, vi64 (p0.length : Int)), (11, vl 1 Ri64 p0)] [] [] 9 [] (by kernel_rfl) ?_
  refine AW.block ?_
  refine AW.lpE h (fun v => ⟨[(4, vi64 v.1), (11, vl 1 Ri64 p0), (12, vi64 (p0.length : Int)), (13, vi64 v.2)], [], 0⟩) (fun t => (.exit 0, ⟨[(4, vi64 t)], [], 0⟩)) (fun t => (.ret, ⟨[(2, vi64 0), (3, vi64 2)], [], 0⟩)) (conv_re [] (by kernel_rfl)) (fun _ => tv) (fun _ => tv) ?_ (fun x20 h => ?_) (fun t h => ?_)
  ·
   clear h
   intro v o h
   obtain ⟨x6, x7⟩ := v
   replace h : similarity_Number_l1 p0 x6 x7 = some o := h
   unfold similarity_Number_l1 at h
   refine AW.sg tt_ok0 [(14, vb (decide (x7 < (p0.length : Int))))] [] [] 1 [] (by kernel_rfl) ?_
   refine AW.seq ?_
   refine AW.co h (by kernel_rfl) (fun c9 h => ?_) (fun c9 h => ?_)
   ·
    refine AW.skip (AW.tn ?_)
    refine AW.seq (AW.block ?_)
    obtain ⟨g10, g11, h⟩ := ifd h
    refine AW.sg tt_ok0 [(6, vi64 (p0.getD x7.toNat 0)), (5, vi64 x7)] [] [] 6 [hn, hq g10 g11] (by kernel_rfl) ?_
    refine AW.seq (AW.seq ?_)
    refine AW.join (ι := Bool) (fun v => ⟨[(4, vi64 x6), (5, vi64 x7), (6, vi64 (p0.getD x7.toNat 0)), (11, vl 1 Ri64 p0), (12, vi64 (p0.length : Int)), (13, vi64 x7), (23, vb v)], [], 0⟩) (fun v : Bool => similarity_Number_k2 p0 x6 x7 v = some o) (fun x12 h => ?_) ?_
    ·
     unfold similarity_Number_k2 at h
     refine AW.tn ?_
     refine AW.co h (by kernel_rfl) (fun c13 h => ?_) (fun c13 h => ?_)
     ·
      refine AW.sg tt_ok0 [(3, vi64 2), (2, vi64 0)] [] [] 2 [] (by kernel_rfl) ?_
      refine AW.ret (AW.tr ?_)
      refine AW.inBlock_ret (AW.tr ?_)
      exact lpo h rfl (conv_re [] (by kernel_rfl))
     ·
      refine AW.skip (AW.tn ?_)
      obtain ⟨y14, e15, h⟩ := bnd_some h
      obtain ⟨g16, h⟩ := ifc h
      obtain ⟨z17, n18, h⟩ := bnd_some h
      replace n18 := some_inj n18
      refine AW.rg tt_ok0 [(4, vi64 z17)] [] [] 7 [hn, hn, hk (similarity_powers_con y14 e15), hn, hr 6 (Ri64 y14) (p := ((0 ≤ x7) ∧ (x7 < ((6 : Nat) : Int))) ∧ (6 = 6 ∧ ∀ i, i < 6 → ∀ j, j < 1 → rowOf [.v (.int .i64 (y14.getD 0 0)), .v (.int .i64 (y14.getD 1 0)), .v (.int .i64 (y14.getD 2 0)), .v (.int .i64 (y14.getD 3 0)), .v (.int .i64 (y14.getD 4 0)), .v (.int .i64 (y14.getD 5 0))] 1 i j = Ri64 y14 i j)) (⟨⟨g10, g16⟩, ⟨rfl, fun i hi j hj => match i, hi, j, hj with | 0, _, 0, _ => rfl | 1, _, 0, _ => rfl | 2, _, 0, _ => rfl | 3, _, 0, _ => rfl | 4, _, 0, _ => rfl | 5, _, 0, _ => rfl | _ + 6, h, _, _ => absurd h (by omega) | _, _, _ + 1, h => absurd h (by omega)⟩⟩)] (by subst n18; kernel_rfl) ?_
      refine AW.inBlock_normal (AW.tn ?_)
      refine AW.rg tt_ok0 [(13, vi64 (i64.wrap (x7 + 1)))] [] [] 9 [] (by kernel_rfl) ?_
      exact lpn h (conv_re [] (by kernel_rfl))
    ·
     rcases ifs h with ⟨c19, h⟩ | ⟨c19, h⟩
     ·
      refine AW.rg tt_ok0 [(23, vb true)] [] [] 12 [hn, ht c19] (by kernel_rfl) ?_
      exact jl true h (conv_re [] (by kernel_rfl))
     ·
      refine AW.rg tt_ok0 [(23, vb (decide ((p0.getD x7.toNat 0) ≥ 3)))] [] [] 12 [hn, hf c19] (by kernel_rfl) ?_
      exact jl (decide ((p0.getD x7.toNat 0) ≥ 3)) h (conv_re [] (by kernel_rfl))
   ·
    refine AW.exit (AW.thenQ_exit ?_)
    exact lpo h rfl (conv_re [] (by kernel_rfl))
  ·
   unfold similarity_Number_a3 at h
   show (_ : Exit → St → Prop) (.exit 0) _
   refine AW.inBlock_hit (AW.tn ?_)
   refine AW.sg tt_ok0 [(3, vi64 0), (2, vi64 x20)] [] [] 3 [] (by kernel_rfl) ?_
   refine AW.ret ?_
   obtain rfl := some_inj h
   exact fn0 (.inr rfl) [] 0 (.tup [vi64 x20, vi64 0]) (by kernel_rfl)
  ·
   replace h : similarity_Number_a4 = some r := h
   unfold similarity_Number_a4 at h
   show (_ : Exit → St → Prop) (.ret) _
   refine AW.inBlock_ret (AW.tr ?_)
   obtain rfl := some_inj h
   exact fn0 (.inr rfl) [] 0 (.tup [vi64 0, vi64 2]) (by kernel_rfl)
/-! recordlink/similarity.Pattern -/
noncomputable def similarity_Pattern_k3 (x8 : Int) (x11 : List Int) : Option (((List Int) × Int) ⊕ ((List Int) ⊕ Unit)) := some (.inl (x11, i64.wrap (x8 + 1)))
noncomputable def similarity_Pattern_k4 (p0 : List Int) (p1 : List Int) (x7 : List Int) (x8 : Int) (x15 : Bool) : Option (((List Int) × Int) ⊕ ((List Int) ⊕ Unit)) := if x15 = true then (some (.inr (.inr ()))) else (if (decide ((p1.getD x8.toNat 0) < 0)) = true then (if x8 < (x7.length : Int) then (similarity_Pattern_k3 x8 (x7.set (0 + x8.toNat) 0)) else none) else (if (decide ((p1.getD x8.toNat 0) < (p0.getD x8.toNat 0))) = true then (if x8 < (x7.length : Int) then (similarity_Pattern_k3 x8 (x7.set (0 + x8.toNat) 1)) else none) else (if x8 < (x7.length : Int) then (similarity_Pattern_k3 x8 (x7.set (0 + x8.toNat) 2)) else none)))
noncomputable def similarity_Pattern_l2 (p0 : List Int) (p1 : List Int) (x7 : List Int) (x8 : Int) : Option (((List Int) × Int) ⊕ ((List Int) ⊕ Unit)) := if (decide (x8 < (p0.length : Int))) = true then (if 0 ≤ x8 then (if x8 < (p0.length : Int) then (if x8 < (p1.length : Int) then (if (decide ((p0.getD x8.toNat 0) < 0)) = true then (similarity_Pattern_k4 p0 p1 x7 x8 true) else (if (decide ((p0.getD x8.toNat 0) > 1000)) = true then (similarity_Pattern_k4 p0 p1 x7 x8 true) else (if (decide ((p1.getD x8.toNat 0) < (-1))) = true then (similarity_Pattern_k4 p0 p1 x7 x8 true) else (similarity_Pattern_k4 p0 p1 x7 x8 (decide ((p1.getD x8.toNat 0) > 1000)))))) else none) else none) else none) else (some (.inr (.inl x7)))
noncomputable def similarity_Pattern_a5 (x25 : List Int) : Option (Int × Int) := bind2 (similarity_Number x25) fun y26 y27 => (some (y26, y27))
noncomputable def similarity_Pattern_a6 : Option (Int × Int) := some (0, 2)
noncomputable def similarity_Pattern_k1 (p0 : List Int) (p1 : List Int) (x1 : Bool) : Option (Int × Int) := if x1 = true then (some (0, 8)) else (if 0 ≤ (p0.length : Int) then (if (p0.length : Int) ≤ 1099511627776 then (bindE (loop (fun v : (List Int) × Int => similarity_Pattern_l2 p0 p1 v.1 v.2) ((List.replicate ((p0.length : Int).toNat) (0 : Int)), 0)) (fun t => similarity_Pattern_a5 t) (fun t => similarity_Pattern_a6)) else none) else none)
noncomputable def similarity_Pattern (p0 : List Int) (p1 : List Int) : Option (Int × Int) := if ((p0.length : Int) != (p1.length : Int)) = true then (similarity_Pattern_k1 p0 p1 true) else ((similarity_fields (p0.length : Int)).bind fun y31 => (similarity_Pattern_k1 p0 p1 (!y31)))
set_option maxRecDepth 100000 in
theorem similarity_Pattern_con (p0 : List Int) (p1 : List Int) (r : Int × Int) (h : similarity_Pattern p0 p1 = some r) : Con Try.prog 67 [vl 1 Ri64 p0, vl 1 Ri64 p1] [] (.tup [vi64 r.1, vi64 r.2]) [] := by
 refine con_of tt_ok0 0 Try.func67 (by kernel_rfl) rfl (by kernel_rfl) (fun base X _ => AW.post ?_)
 unfold similarity_Pattern at h
 refine AW.sg tt_ok0 [] [] [] 2 [] (by kernel_rfl) ?_
 refine AW.seq (AW.seq ?_)
 refine AW.join (ι := Bool) (fun v => ⟨[(0, vl 1 Ri64 p0), (1, vl 1 Ri64 p1), (20, vb v)], [], 0⟩) (fun v : Bool => similarity_Pattern_k1 p0 p1 v = some r) (fun x1 h => ?_) ?_
 ·
  unfold similarity_Pattern_k1 at h
  refine AW.tn ?_
  refine AW.co h (by kernel_rfl) (fun c2 h => ?_) (fun c2 h => ?_)
  ·
   refine AW.sg tt_ok0 [(5, vi64 8), (4, vi64 0)] [] [] 2 [] (by kernel_rfl) ?_
   refine AW.ret (AW.tr ?_)
   obtain rfl := some_inj h
   exact fn0 (.inr rfl) [] 0 (.tup [vi64 0, vi64 8]) (by kernel_rfl)
  ·
   refine AW.skip (AW.tn ?_)
   obtain ⟨g3, g4, h⟩ := ifd h
   refine AW.sg tt_ok0 [(6, .c (.ref 2 1 0 ((List.replicate ((p0.length : Int).toNat) (0 : Int)).length)))] [2] [(2, .row 3 false 1 (List.replicate ((p0.length : Int).toNat) (0 : Int)).length (Ri64 (List.replicate ((p0.length : Int).toNat) (0 : Int))))] 4 [hn, hn, hmk 0 Ei64 1 8 [.int .i64 0] rfl rfl (p0.length : Int) (p0.length : Int) g3 (Int.le_refl _) g4 (by decide)] (by kernel_rfl) ?_
   refine AW.seq ?_
   refine AW.sg tt_ok0 [(26, vi64 0), (25, vi64 (p0.length : Int)), (24, vl 1 Ri64 p0)] [] [] 7 [] (by kernel_rfl) ?_
   refine AW.block ?_
   refine AW.lpE h (fun v => ⟨[(1, vl 1 Ri64 p1), (6, .c (.ref 0 1 0 v.1.length)), (24, vl 1 Ri64 p0), (25, vi64 (p0.length : Int)), (26, vi64 v.2)], [(0, .row 3 false 1 v.1.length (Ri64 v.1))], 1⟩) (fun t => (.exit 0, ⟨[(6, .c (.ref 0 1 0 t.length))], [(0, .row 3 false 1 t.length (Ri64 t))], 1⟩)) (fun t => (.ret, ⟨[(4, vi64 0), (5, vi64 2)], [], 0⟩)) (conv_re [(0, 2)] (by kernel_rfl)) (fun _ => tv) (fun _ => tv) ?_ (fun x25 h => ?_) (fun t h => ?_)
   ·
    clear h
    intro v o h
    obtain ⟨x7, x8⟩ := v
    replace h : similarity_Pattern_l2 p0 p1 x7 x8 = some o := h
    unfold similarity_Pattern_l2 at h
    refine AW.sg tt_ok0 [(27, vb (decide (x8 < (p0.length : Int))))] [] [] 2 [] (by kernel_rfl) ?_
    refine AW.seq ?_
    refine AW.co h (by kernel_rfl) (fun c10 h => ?_) (fun c10 h => ?_)
    ·
     refine AW.skip (AW.tn (AW.seq ?_))
     refine AW.join (ι := List Int) (fun v => ⟨[(1, vl 1 Ri64 p1), (6, .c (.ref 0 1 0 v.length)), (24, vl 1 Ri64 p0), (25, vi64 (p0.length : Int)), (26, vi64 x8)], [(0, .row 3 false 1 v.length (Ri64 v))], 1⟩) (fun v : List Int => similarity_Pattern_k3 x8 v = some o) (fun x11 h => ?_) ?_
     ·
      unfold similarity_Pattern_k3 at h
      refine AW.tn ?_
      refine AW.rg tt_ok0 [(26, vi64 (i64.wrap (x8 + 1)))] [] [] 3 [] (by kernel_rfl) ?_
      exact lpn h (conv_re [(0, 0)] (by kernel_rfl))
     ·
      refine AW.block ?_
      obtain ⟨g12, g13, h⟩ := ifd h
      refine AW.sg tt_ok0 [(8, vi64 (p0.getD x8.toNat 0)), (7, vi64 x8)] [] [] 7 [hn, hq g12 g13] (by kernel_rfl) ?_
      obtain ⟨g14, h⟩ := ifc h
      refine AW.sg tt_ok0 [(9, vi64 (p1.getD x8.toNat 0))] [] [] 12 [hn, hn, hq g12 g14] (by kernel_rfl) ?_
      refine AW.seq (AW.seq ?_)
      refine AW.join (ι := Bool) (fun v => ⟨[(1, vl 1 Ri64 p1), (6, .c (.ref 0 1 0 x7.length)), (7, vi64 x8), (8, vi64 (p0.getD x8.toNat 0)), (9, vi64 (p1.getD x8.toNat 0)), (24, vl 1 Ri64 p0), (25, vi64 (p0.length : Int)), (26, vi64 x8), (48, vb v)], [(0, .row 3 false 1 x7.length (Ri64 x7))], 1⟩) (fun v : Bool => similarity_Pattern_k4 p0 p1 x7 x8 v = some o) (fun x15 h => ?_) ?_
      ·
       unfold similarity_Pattern_k4 at h
       refine AW.tn ?_
       refine AW.co h (by kernel_rfl) (fun c16 h => ?_) (fun c16 h => ?_)
       ·
        refine AW.sg tt_ok0 [(5, vi64 2), (4, vi64 0)] [] [] 3 [] (by kernel_rfl) ?_
        refine AW.ret (AW.tr (AW.inBlock_ret ?_))
        refine joinQ_ret ?_
        refine AW.tr ?_
        exact lpo h rfl (conv_re [] (by kernel_rfl))
       ·
        refine AW.skip (AW.tn (AW.block ?_))
        refine AW.sg tt_ok0 [(52, vb (decide ((p1.getD x8.toNat 0) < 0)))] [] [] 4 [] (by kernel_rfl) ?_
        refine AW.co h (by kernel_rfl) (fun c17 h => ?_) (fun c17 h => ?_)
        ·
         obtain ⟨g18, h⟩ := ifc h
         refine AW.rg tt_ok0 [] [0] [(0, .row 3 false 1 x7.length (Ri64 (x7.set (0 + x8.toNat) 0)))] 8 [hn, hn, hq g12 g18, hset 0 Ei64 x7 (0 + x8.toNat) 0 (n := x7.length) (by have h1 : 0 ≤ x8 := g12; have h2 : x8 < (x7.length : Int) := g18; omega) rfl] (by kernel_rfl) ?_
         refine AW.inBlock_normal (AW.inBlock_normal ?_)
         exact jl (x7.set (0 + x8.toNat) 0) h (Conv.trans (conv_tms [(6, .c (.ref 0 1 0 ((x7.set (0 + x8.toNat) 0).length)))] ⟨⟨.c (.ref 0 1 0 x7.length), by kernel_rfl, ALe.len (by simp only [List.length_set])⟩, tv⟩) (Conv.trans (conv_rowN 0 3 false 1 x7.length ((x7.set (0 + x8.toNat) 0).length) (Ri64 (x7.set (0 + x8.toNat) 0)) (by kernel_rfl) (by simp only [List.length_set])) (conv_re [(0, 0)] (by kernel_rfl))))
        ·
         refine AW.sg tt_ok0 [(58, vb (decide ((p1.getD x8.toNat 0) < (p0.getD x8.toNat 0))))] [] [] 8 [] (by kernel_rfl) ?_
         refine AW.co h (by kernel_rfl) (fun c19 h => ?_) (fun c19 h => ?_)
         ·
          obtain ⟨g20, h⟩ := ifc h
          refine AW.rg tt_ok0 [] [0] [(0, .row 3 false 1 x7.length (Ri64 (x7.set (0 + x8.toNat) 1)))] 12 [hn, hn, hq g12 g20, hset 0 Ei64 x7 (0 + x8.toNat) 1 (n := x7.length) (by have h1 : 0 ≤ x8 := g12; have h2 : x8 < (x7.length : Int) := g20; omega) rfl] (by kernel_rfl) ?_
          refine AW.inBlock_normal (AW.inBlock_normal ?_)
          exact jl (x7.set (0 + x8.toNat) 1) h (Conv.trans (conv_tms [(6, .c (.ref 0 1 0 ((x7.set (0 + x8.toNat) 1).length)))] ⟨⟨.c (.ref 0 1 0 x7.length), by kernel_rfl, ALe.len (by simp only [List.length_set])⟩, tv⟩) (Conv.trans (conv_rowN 0 3 false 1 x7.length ((x7.set (0 + x8.toNat) 1).length) (Ri64 (x7.set (0 + x8.toNat) 1)) (by kernel_rfl) (by simp only [List.length_set])) (conv_re [(0, 0)] (by kernel_rfl))))
         ·
          obtain ⟨g21, h⟩ := ifc h
          refine AW.rg tt_ok0 [] [0] [(0, .row 3 false 1 x7.length (Ri64 (x7.set (0 + x8.toNat) 2)))] 12 [hn, hn, hq g12 g21, hset 0 Ei64 x7 (0 + x8.toNat) 2 (n := x7.length) (by have h1 : 0 ≤ x8 := g12; have h2 : x8 < (x7.length : Int) := g21; omega) rfl] (by kernel_rfl) ?_
          refine AW.inBlock_normal (AW.inBlock_normal ?_)
          exact jl (x7.set (0 + x8.toNat) 2) h (Conv.trans (conv_tms [(6, .c (.ref 0 1 0 ((x7.set (0 + x8.toNat) 2).length)))] ⟨⟨.c (.ref 0 1 0 x7.length), by kernel_rfl, ALe.len (by simp only [List.length_set])⟩, tv⟩) (Conv.trans (conv_rowN 0 3 false 1 x7.length ((x7.set (0 + x8.toNat) 2).length) (Ri64 (x7.set (0 + x8.toNat) 2)) (by kernel_rfl) (by simp only [List.length_set])) (conv_re [(0, 0)] (by kernel_rfl))))
      ·
       rcases ifs h with ⟨c22, h⟩ | ⟨c22, h⟩
       ·
        refine AW.rg tt_ok0 [(48, vb true)] [] [] 26 [hn, ht c22] (by kernel_rfl) ?_
        exact jl true h (conv_re [(0, 0)] (by kernel_rfl))
       ·
        rcases ifs h with ⟨c23, h⟩ | ⟨c23, h⟩
        ·
         refine AW.rg tt_ok0 [(48, vb true)] [] [] 26 [hn, hf c22, hn, hn, ht c23] (by kernel_rfl) ?_
         exact jl true h (conv_re [(0, 0)] (by kernel_rfl))
        ·
         rcases ifs h with ⟨c24, h⟩ | ⟨c24, h⟩
         ·
          refine AW.rg tt_ok0 [(48, vb true)] [] [] 26 [hn, hf c22, hn, hn, hf c23, hn, hn, hn, ht c24] (by kernel_rfl) ?_
          exact jl true h (conv_re [(0, 0)] (by kernel_rfl))
         ·
          refine AW.rg tt_ok0 [(48, vb (decide ((p1.getD x8.toNat 0) > 1000)))] [] [] 26 [hn, hf c22, hn, hn, hf c23, hn, hn, hn, hf c24] (by kernel_rfl) ?_
          exact jl (decide ((p1.getD x8.toNat 0) > 1000)) h (conv_re [(0, 0)] (by kernel_rfl))
    ·
     refine AW.exit (AW.thenQ_exit ?_)
     exact lpo h rfl (conv_re [(0, 0)] (by kernel_rfl))
   ·
    unfold similarity_Pattern_a5 at h
    show (_ : Exit → St → Prop) (.exit 0) _
    refine AW.inBlock_hit (AW.tn ?_)
    obtain ⟨y26, y27, e28, h⟩ := bind2_some h
    refine AW.sg tt_ok0 [(5, vi64 y27), (4, vi64 y26)] [] [] 6 [hn, hg [] [] true 0 (q := (0 + x25.length ≤ x25.length) ∧ (True)) ⟨le0, tv⟩ (a0 := [vl 1 Ri64 x25]) (similarity_Number_con x25 (y26, y27) e28) ⟨ArgLe.refl _, tv⟩ (fun _ => tv)] (by kernel_rfl) ?_
    refine AW.ret ?_
    obtain rfl := some_inj h
    exact fn0 (.inr rfl) [] 0 (.tup [vi64 y26, vi64 y27]) (by kernel_rfl)
   ·
    replace h : similarity_Pattern_a6 = some r := h
    unfold similarity_Pattern_a6 at h
    show (_ : Exit → St → Prop) (.ret) _
    refine AW.inBlock_ret (AW.tr ?_)
    obtain rfl := some_inj h
    exact fn0 (.inr rfl) [] 0 (.tup [vi64 0, vi64 2]) (by kernel_rfl)
 ·
  rcases ifs h with ⟨c30, h⟩ | ⟨c30, h⟩
  ·
   refine AW.rg tt_ok0 [(20, vb true)] [] [] 13 [hn, hn, hn, hn, ht c30] (by kernel_rfl) ?_
   exact jl true h (conv_re [] (by kernel_rfl))
  ·
   obtain ⟨y31, e32, h⟩ := bnd_some h
   refine AW.rg tt_ok0 [(20, vb (!y31))] [] [] 12 [hn, hn, hn, hn, hf c30, hn, hn, hn, hk (similarity_fields_con (p0.length : Int) y31 e32)] (by kernel_rfl) ?_
   exact jl (!y31) h (conv_re [] (by kernel_rfl))
/-! recordlink/similarity.Digits -/
noncomputable def similarity_Digits_l2 (p0 : Int) (p1 : Int) (x8 : List Int) (x9 : Int) : Option (((List Int) × Int) ⊕ (List Int)) := if (decide (x9 < p1)) = true then ((similarity_powers).bind fun y12 => (if 0 ≤ x9 then (if x9 < ((6 : Nat) : Int) then (if (y12.getD x9.toNat 0) ≠ 0 then (if x8.length + ([((i64.wrap (p0.tdiv (y12.getD x9.toNat 0))).tmod 3)] : List Int).length ≤ 1099511627776 then (some (.inl ((x8 ++ ([((i64.wrap (p0.tdiv (y12.getD x9.toNat 0))).tmod 3)] : List Int)), i64.wrap (x9 + 1)))) else none) else none) else none) else none)) else (some (.inr x8))
noncomputable def similarity_Digits_k1 (p0 : Int) (p1 : Int) (x4 : Bool) : Option ((List Int) × Int) := if x4 = true then (some (([] : List Int), 2)) else ((loop (fun v : (List Int) × Int => similarity_Digits_l2 p0 p1 v.1 v.2) (([] : List Int), 0)).bind fun x18 => (some (x18, 0)))
noncomputable def similarity_Digits (p0 : Int) (p1 : Int) : Option ((List Int) × Int) := (similarity_fields p1).bind fun y1 => (if (!y1) = true then (some (([] : List Int), 8)) else (if (decide (p0 < 0)) = true then (similarity_Digits_k1 p0 p1 true) else ((similarity_powers).bind fun y21 => (if 0 ≤ p1 then (if p1 < ((6 : Nat) : Int) then (similarity_Digits_k1 p0 p1 (decide (p0 ≥ (y21.getD p1.toNat 0)))) else none) else none))))
set_option maxRecDepth 100000 in
theorem similarity_Digits_con (p0 : Int) (p1 : Int) (r : (List Int) × Int) (h : similarity_Digits p0 p1 = some r) : Con Try.prog 114 [vi64 p0, vi64 p1] [] (.tup [.c (.ref 0 1 0 r.1.length), vi64 r.2]) [(0, .row 3 false 1 r.1.length (Ri64 r.1))] := by
 refine con_of tt_ok0 0 Try.func114 (by kernel_rfl) rfl (by kernel_rfl) (fun base X _ => AW.post ?_)
 unfold similarity_Digits at h
 refine AW.sg tt_ok0 [] [] [] 2 [] (by kernel_rfl) ?_
 refine AW.seq ?_
 obtain ⟨y1, e2, h⟩ := bnd_some h
 refine AW.sg tt_ok0 [(10, vb (!y1))] [] [] 4 [hn, hk (similarity_fields_con p1 y1 e2)] (by kernel_rfl) ?_
 refine AW.co h (by kernel_rfl) (fun c3 h => ?_) (fun c3 h => ?_)
 ·
  refine AW.sg tt_ok0 [(5, vi64 8), (4, .c (.t (.v (.slice none 0 0))))] [] [] 6 [] (by kernel_rfl) ?_
  refine AW.ret (AW.tr ?_)
  obtain rfl := some_inj h
  exact fnR (.inr rfl) [(0, 6)] 1 (.tup [.c (.ref 6 1 0 (([] : List Int).length)), vi64 8]) (conv_adopt (t := 4) (ty := 3) (sz := 1) (n := ([] : List Int).length) (f := Ri64 ([] : List Int)) (by kernel_rfl) rfl) (by kernel_rfl)
 ·
  refine AW.skip (AW.tn ?_)
  refine AW.seq (AW.seq ?_)
  refine AW.join (ι := Bool) (fun v => ⟨[(0, vi64 p0), (1, vi64 p1), (19, vb v)], [], 0⟩) (fun v : Bool => similarity_Digits_k1 p0 p1 v = some r) (fun x4 h => ?_) ?_
  ·
   unfold similarity_Digits_k1 at h
   refine AW.tn ?_
   refine AW.co h (by kernel_rfl) (fun c5 h => ?_) (fun c5 h => ?_)
   ·
    refine AW.sg tt_ok0 [(5, vi64 2), (4, .c (.t (.v (.slice none 0 0))))] [] [] 2 [] (by kernel_rfl) ?_
    refine AW.ret (AW.tr ?_)
    obtain rfl := some_inj h
    exact fnR (.inr rfl) [(0, 2)] 1 (.tup [.c (.ref 2 1 0 (([] : List Int).length)), vi64 2]) (conv_adopt (t := 4) (ty := 3) (sz := 1) (n := ([] : List Int).length) (f := Ri64 ([] : List Int)) (by kernel_rfl) rfl) (by kernel_rfl)
   ·
    refine AW.skip (AW.tn ?_)
    refine AW.sg tt_ok0 [(6, .c (.t (.v (.slice none 0 0))))] [] [] 1 [] (by kernel_rfl) ?_
    refine AW.seq ?_
    refine AW.sg tt_ok0 [(21, vi64 0), (20, vi64 p1)] [] [] 3 [] (by kernel_rfl) ?_
    refine AW.block ?_
    obtain ⟨x18, l19, h⟩ := bnd_some h
    refine AW.lp l19 (fun v => ⟨[(0, vi64 p0), (6, .c (.ref 0 1 0 v.1.length)), (20, vi64 p1), (21, vi64 v.2)], [(0, .row 3 false 1 v.1.length (Ri64 v.1))], 1⟩) (fun t : List Int => (.exit 0, ⟨[(6, .c (.ref 0 1 0 t.length))], [(0, .row 3 false 1 t.length (Ri64 t))], 1⟩)) (Conv.trans (conv_adopt (t := 6) (ty := 3) (sz := 1) (n := ([] : List Int).length) (f := Ri64 ([] : List Int)) (by kernel_rfl) rfl) (conv_re [(0, 3)] (by kernel_rfl))) (fun _ => tv) ?_ ?_
    ·
     clear l19 h
     intro v o h
     obtain ⟨x8, x9⟩ := v
     replace h : similarity_Digits_l2 p0 p1 x8 x9 = some o := h
     unfold similarity_Digits_l2 at h
     refine AW.sg tt_ok0 [(22, vb (decide (x9 < p1)))] [] [] 2 [] (by kernel_rfl) ?_
     refine AW.seq ?_
     refine AW.co h (by kernel_rfl) (fun c11 h => ?_) (fun c11 h => ?_)
     ·
      refine AW.skip (AW.tn ?_)
      refine AW.seq (AW.block ?_)
      refine AW.sg tt_ok0 [(7, vi64 x9)] [] [] 4 [] (by kernel_rfl) ?_
      obtain ⟨y12, e13, h⟩ := bnd_some h
      obtain ⟨g14, g15, h⟩ := ifd h
      obtain ⟨g16, g17, h⟩ := ifd h
      refine AW.rg tt_ok0 [(6, .c (.ref 11 1 0 ((x8 ++ ([((i64.wrap (p0.tdiv (y12.getD x9.toNat 0))).tmod 3)] : List Int)).length)))] [0, 10, 11] [(11, .row 3 false 1 (x8 ++ ([((i64.wrap (p0.tdiv (y12.getD x9.toNat 0))).tmod 3)] : List Int)).length (Ri64 (x8 ++ ([((i64.wrap (p0.tdiv (y12.getD x9.toNat 0))).tmod 3)] : List Int))))] 13 [hn, hn, hk (similarity_powers_con y12 e13), hn, hr 6 (Ri64 y12) (p := ((0 ≤ x9) ∧ (x9 < ((6 : Nat) : Int))) ∧ (6 = 6 ∧ ∀ i, i < 6 → ∀ j, j < 1 → rowOf [.v (.int .i64 (y12.getD 0 0)), .v (.int .i64 (y12.getD 1 0)), .v (.int .i64 (y12.getD 2 0)), .v (.int .i64 (y12.getD 3 0)), .v (.int .i64 (y12.getD 4 0)), .v (.int .i64 (y12.getD 5 0))] 1 i j = Ri64 y12 i j)) (⟨⟨g14, g15⟩, ⟨rfl, fun i hi j hj => match i, hi, j, hj with | 0, _, 0, _ => rfl | 1, _, 0, _ => rfl | 2, _, 0, _ => rfl | 3, _, 0, _ => rfl | 4, _, 0, _ => rfl | 5, _, 0, _ => rfl | _ + 6, h, _, _ => absurd h (by omega) | _, _, _ + 1, h => absurd h (by omega)⟩⟩), ho g16, ho (p := (3 : Int) ≠ 0) (by decide), hlit 0 Ei64 1 (fun _ => rfl) ([((i64.wrap (p0.tdiv (y12.getD x9.toNat 0))).tmod 3)] : List Int), happ 0 Ei64 1 8 x8 ([((i64.wrap (p0.tdiv (y12.getD x9.toNat 0))).tmod 3)] : List Int) g17 (by decide)] (by kernel_rfl) ?_
      refine AW.inBlock_normal (AW.tn ?_)
      refine AW.rg tt_ok0 [(21, vi64 (i64.wrap (x9 + 1)))] [] [] 15 [] (by kernel_rfl) ?_
      exact lpn h (conv_re [(0, 11)] (by kernel_rfl))
     ·
      refine AW.exit (AW.thenQ_exit ?_)
      exact lpo h rfl (conv_re [(0, 0)] (by kernel_rfl))
    ·
     show (_ : Exit → St → Prop) (.exit 0) _
     refine AW.inBlock_hit (AW.tn ?_)
     refine AW.sg tt_ok0 [(5, vi64 0), (4, .c (.ref 0 1 0 x18.length))] [] [] 4 [] (by kernel_rfl) ?_
     refine AW.ret ?_
     obtain rfl := some_inj h
     exact fn0 (.inr rfl) [(0, 0)] 1 (.tup [.c (.ref 0 1 0 x18.length), vi64 0]) (by kernel_rfl)
  ·
   rcases ifs h with ⟨c20, h⟩ | ⟨c20, h⟩
   ·
    refine AW.rg tt_ok0 [(19, vb true)] [] [] 13 [hn, ht c20] (by kernel_rfl) ?_
    exact jl true h (conv_re [] (by kernel_rfl))
   ·
    obtain ⟨y21, e22, h⟩ := bnd_some h
    obtain ⟨g23, g24, h⟩ := ifd h
    refine AW.rg tt_ok0 [(19, vb (decide (p0 ≥ (y21.getD p1.toNat 0))))] [] [] 12 [hn, hf c20, hn, hn, hk (similarity_powers_con y21 e22), hn, hr 6 (Ri64 y21) (p := ((0 ≤ p1) ∧ (p1 < ((6 : Nat) : Int))) ∧ (6 = 6 ∧ ∀ i, i < 6 → ∀ j, j < 1 → rowOf [.v (.int .i64 (y21.getD 0 0)), .v (.int .i64 (y21.getD 1 0)), .v (.int .i64 (y21.getD 2 0)), .v (.int .i64 (y21.getD 3 0)), .v (.int .i64 (y21.getD 4 0)), .v (.int .i64 (y21.getD 5 0))] 1 i j = Ri64 y21 i j)) (⟨⟨g23, g24⟩, ⟨rfl, fun i hi j hj => match i, hi, j, hj with | 0, _, 0, _ => rfl | 1, _, 0, _ => rfl | 2, _, 0, _ => rfl | 3, _, 0, _ => rfl | 4, _, 0, _ => rfl | 5, _, 0, _ => rfl | _ + 6, h, _, _ => absurd h (by omega) | _, _, _ + 1, h => absurd h (by omega)⟩⟩)] (by kernel_rfl) ?_
    exact jl (decide (p0 ≥ (y21.getD p1.toNat 0))) h (conv_re [] (by kernel_rfl))
/-! recordlink/weight.counts -/
noncomputable def weight_counts (p0 : S_api_Weights) (p1 : Int) : Option (List Int) := if 0 ≤ p1 then (if p1 < ((p0.Differ.length : Nat) : Int) then (if p1 < ((p0.Agree.length : Nat) : Int) then (some ([0, (p0.Differ.getD p1.toNat 0), (p0.Agree.getD p1.toNat 0)] : List Int)) else none) else none) else none
set_option maxRecDepth 100000 in
theorem weight_counts_con (p0 : S_api_Weights) (p1 : Int) (r : List Int) (h : weight_counts p0 p1 = some r) : Con Try.prog 115 [.agg [ci64 p0.Prior, cl 1 Ri64 p0.Agree, cl 1 Ri64 p0.Differ], vi64 p1] [] (.agg [ci64 (r.getD 0 0), ci64 (r.getD 1 0), ci64 (r.getD 2 0)]) [] := by
 refine con_of tt_ok0 0 Try.func115 (by kernel_rfl) rfl (by kernel_rfl) (fun base X _ => AW.post ?_)
 unfold weight_counts at h
 refine AW.sg tt_ok0 [(4, .c (.ptr 1 1 0 0)), (2, .c (.ptr 0 3 0 0))] [0, 1] [(1, .row 60 false 1 3 (Ri64 ([0, 0, 0] : List Int))), (0, .box 35 [ci64 p0.Prior, cl 1 Ri64 p0.Agree, cl 1 Ri64 p0.Differ])] 2 [hn, hr 3 (Ri64 ([0, 0, 0] : List Int)) (p := 3 = 3 ∧ ∀ i, i < 3 → ∀ j, j < 1 → TLe (rowOf [.v (.int .i64 0), .v (.int .i64 0), .v (.int .i64 0)] 1 i j) (Ri64 ([0, 0, 0] : List Int) i j)) (⟨rfl, fun i hi j hj => match i, hi, j, hj with | 0, _, 0, _ => TLe.refl _ | 1, _, 0, _ => TLe.refl _ | 2, _, 0, _ => TLe.refl _ | _ + 3, h, _, _ => absurd h (by omega) | _, _, _ + 1, h => absurd h (by omega)⟩)] (by kernel_rfl) ?_
 obtain ⟨g1, g2, h⟩ := ifd h
 obtain ⟨g3, h⟩ := ifc h
 refine AW.sd tt_ok0 mo0 [[], [], [], [], [], [], [], [], [], [], [], [1]] [] [(1, .row 60 false 1 3 (Ri64 ([0, (p0.Differ.getD p1.toNat 0), (p0.Agree.getD p1.toNat 0)] : List Int)))] 14 [hn, hn, hn, hq g1 g2, hn, hn, hn, hn, hq g1 g3, hn, hn, hr 3 (Ri64 ([0, (p0.Differ.getD p1.toNat 0), (p0.Agree.getD p1.toNat 0)] : List Int)) (p := 3 = 3 ∧ ∀ i, i < 3 → ∀ j, j < 1 → TLe (rowOf [.v (.int .i64 0), .v (.int .i64 (p0.Differ.getD p1.toNat 0)), .v (.int .i64 (p0.Agree.getD p1.toNat 0))] 1 i j) (Ri64 ([0, (p0.Differ.getD p1.toNat 0), (p0.Agree.getD p1.toNat 0)] : List Int) i j)) (⟨rfl, fun i hi j hj => match i, hi, j, hj with | 0, _, 0, _ => TLe.refl _ | 1, _, 0, _ => TLe.refl _ | 2, _, 0, _ => TLe.refl _ | _ + 3, h, _, _ => absurd h (by omega) | _, _, _ + 1, h => absurd h (by omega)⟩)] (by kernel_rfl) ?_
 refine AW.ret ?_
 obtain rfl := some_inj h
 exact ⟨_, Conv.refl _ _, .inr rfl, OutOk.mk [] 0 (out0 := .agg [ci64 (([0, (p0.Differ.getD p1.toNat 0), (p0.Agree.getD p1.toNat 0)] : List Int).getD 0 0), ci64 (([0, (p0.Differ.getD p1.toNat 0), (p0.Agree.getD p1.toNat 0)] : List Int).getD 1 0), ci64 (([0, (p0.Differ.getD p1.toNat 0), (p0.Agree.getD p1.toNat 0)] : List Int).getD 2 0)]) (ps := [0 + 2 < 3]) (by kernel_rfl) ⟨(by decide), tv⟩ (by kernel_rfl) (by kernel_rfl)⟩
/-! recordlink/weight.Score$1 -/
noncomputable def weight_Score_f1 (p0 : List Int) (p1 : Int) : Option Int := if 0 ≤ p1 then (if p1 < ((3 : Nat) : Int) then (some (p0.getD (0 + p1.toNat) 0)) else none) else none
set_option maxRecDepth 100000 in
theorem weight_Score_f1_con (p0 : List Int) (p1 : Int) (r : Int) (h : weight_Score_f1 p0 p1 = some r) : Con Try.prog 104 [.agg [ci64 (p0.getD 0 0), ci64 (p0.getD 1 0), ci64 (p0.getD 2 0)], vi64 p1] [] (vi64 r) [] := by
 refine con_of tt_ok0 0 Try.func104 (by kernel_rfl) rfl (by kernel_rfl) (fun base X _ => AW.post ?_)
 unfold weight_Score_f1 at h
 refine AW.sg tt_ok0 [(2, .c (.ptr 0 1 0 0))] [0] [(0, .row 60 false 1 3 (Ri64 p0))] 2 [hr 3 (Ri64 p0) (p := 3 = 3 ∧ ∀ i, i < 3 → ∀ j, j < 1 → TLe (rowOf [.v (.int .i64 (p0.getD 0 0)), .v (.int .i64 (p0.getD 1 0)), .v (.int .i64 (p0.getD 2 0))] 1 i j) (Ri64 p0 i j)) (⟨rfl, fun i hi j hj => match i, hi, j, hj with | 0, _, 0, _ => TLe.refl _ | 1, _, 0, _ => TLe.refl _ | 2, _, 0, _ => TLe.refl _ | _ + 3, h, _, _ => absurd h (by omega) | _, _, _ + 1, h => absurd h (by omega)⟩)] (by kernel_rfl) ?_
 obtain ⟨g1, g2, h⟩ := ifd h
 refine AW.sg tt_ok0 [(4, vi64 (p0.getD (0 + p1.toNat) 0))] [] [] 6 [hn, hq g1 g2, ho (p := (0 + p1.toNat) < 3) (by have h1 : 0 ≤ p1 := g1; have h2 : p1 < ((3 : Nat) : Int) := g2; omega)] (by kernel_rfl) ?_
 refine AW.ret ?_
 obtain rfl := some_inj h
 exact fn0 (.inr rfl) [] 0 (vi64 (p0.getD (0 + p1.toNat) 0)) (by kernel_rfl)
/-! recordlink/weight.sum -/
noncomputable def weight_sum_weight_Score_f1_l1 (p0 : S_api_Weights) (y4 : List Int) (x10 : Int) (x11 : Int) : Option ((Int × Int) ⊕ Int) := if (decide (x11 < (y4.length : Int))) = true then (if 0 ≤ x11 then (if x11 < (y4.length : Int) then ((weight_counts p0 x11).bind fun y16 => ((weight_Score_f1 y16 (y4.getD (0 + x11.toNat) 0)).bind fun y18 => (some (.inl (i64.wrap (x10 + y18), i64.wrap (x11 + 1)))))) else none) else none) else (some (.inr x10))
noncomputable def weight_sum_weight_Score_f1 (p0 : S_api_Weights) (p1 : Int) : Option (Int × Int) := (weight_Check p0).bind fun y1 => (if (y1 != 0) = true then (some (0, y1)) else (bind2 (similarity_Digits p1 ((p0.Agree.length : Nat) : Int)) fun y4 y5 => (if (y5 != 0) = true then (some (0, y5)) else ((loop (fun v : Int × Int => weight_sum_weight_Score_f1_l1 p0 y4 v.1 v.2) (p0.Prior, 0)).bind fun x20 => (some (x20, 0))))))
set_option maxRecDepth 100000 in
theorem weight_sum_weight_Score_f1_con (p0 : S_api_Weights) (p1 : Int) (r : Int × Int) (h : weight_sum_weight_Score_f1 p0 p1 = some r) : Con Try.prog 103 [.agg [ci64 p0.Prior, cl 1 Ri64 p0.Agree, cl 1 Ri64 p0.Differ], vi64 p1, .c (.t (.v (.func (.func 104) #[] #[])))] [] (.tup [vi64 r.1, vi64 r.2]) [] := by
 refine con_of tt_ok0 0 Try.func103 (by kernel_rfl) rfl (by kernel_rfl) (fun base X _ => AW.post ?_)
 unfold weight_sum_weight_Score_f1 at h
 refine AW.sg tt_ok0 [(3, .c (.ptr 0 3 0 0))] [0] [(0, .box 35 [ci64 p0.Prior, cl 1 Ri64 p0.Agree, cl 1 Ri64 p0.Differ])] 3 [] (by kernel_rfl) ?_
 refine AW.seq ?_
 obtain ⟨y1, e2, h⟩ := bnd_some h
 refine AW.sg tt_ok0 [(8, vi64 y1)] [] [] 5 [hn, hk (weight_Check_con p0 y1 e2)] (by kernel_rfl) ?_
 refine AW.sg tt_ok0 [(17, vb (y1 != 0))] [] [] 7 [] (by kernel_rfl) ?_
 refine AW.co h (by kernel_rfl) (fun c3 h => ?_) (fun c3 h => ?_)
 ·
  refine AW.sg tt_ok0 [(7, vi64 y1), (6, vi64 0)] [] [] 10 [] (by kernel_rfl) ?_
  refine AW.ret (AW.tr ?_)
  obtain rfl := some_inj h
  exact fn0 (.inr rfl) [] 0 (.tup [vi64 0, vi64 y1]) (by kernel_rfl)
 ·
  refine AW.skip (AW.tn ?_)
  obtain ⟨y4, y5, e6, h⟩ := bind2_some h
  refine AW.sg tt_ok0 [(10, vi64 y5), (9, .c (.ref 11 1 0 y4.length))] [11] [(11, .row 3 false 1 y4.length (Ri64 y4))] 17 [hn, hn, hn, hn, hm [] [] 1 (similarity_Digits_con p1 ((p0.Agree.length : Nat) : Int) (y4, y5) e6) ⟨rowL_flat Vi64 _ _ _, tv⟩] (by kernel_rfl) ?_
  refine AW.seq ?_
  refine AW.sg tt_ok0 [(28, vb (y5 != 0))] [] [] 19 [] (by kernel_rfl) ?_
  refine AW.co h (by kernel_rfl) (fun c7 h => ?_) (fun c7 h => ?_)
  ·
   refine AW.sg tt_ok0 [(7, vi64 y5), (6, vi64 0)] [] [] 22 [] (by kernel_rfl) ?_
   refine AW.ret (AW.tr ?_)
   obtain rfl := some_inj h
   exact fn0 (.inr rfl) [] 0 (.tup [vi64 0, vi64 y5]) (by kernel_rfl)
  ·
   refine AW.skip (AW.tn ?_)
   refine AW.sg tt_ok0 [(11, vi64 p0.Prior)] [] [] 22 [] (by kernel_rfl) ?_
   refine AW.seq ?_
   refine AW.sg tt_ok0 [(34, vi64 0), (33, vi64 (y4.length : Int)), (32, .c (.ref 11 1 0 y4.length))] [] [] 25 [] (by kernel_rfl) ?_
   refine AW.block ?_
   obtain ⟨x20, l21, h⟩ := bnd_some h
   refine AW.lp l21 (fun v => ⟨[(2, .c (.t (.v (.func (.func 104) #[] #[])))), (3, .c (.ptr 0 3 0 0)), (11, vi64 v.1), (32, .c (.ref 1 1 0 y4.length)), (33, vi64 (y4.length : Int)), (34, vi64 v.2)], [(0, .box 35 [ci64 p0.Prior, cl 1 Ri64 p0.Agree, cl 1 Ri64 p0.Differ]), (1, .row 3 false 1 y4.length (Ri64 y4))], 2⟩) (fun t : Int => (.exit 0, ⟨[(11, vi64 t)], [], 0⟩)) (conv_re [(0, 0), (1, 11)] (by kernel_rfl)) (fun _ => tv) ?_ ?_
   ·
    clear l21 h
    intro v o h
    obtain ⟨x10, x11⟩ := v
    replace h : weight_sum_weight_Score_f1_l1 p0 y4 x10 x11 = some o := h
    unfold weight_sum_weight_Score_f1_l1 at h
    refine AW.sg tt_ok0 [(35, vb (decide (x11 < (y4.length : Int))))] [] [] 3 [] (by kernel_rfl) ?_
    refine AW.seq ?_
    refine AW.co h (by kernel_rfl) (fun c13 h => ?_) (fun c13 h => ?_)
    ·
     refine AW.skip (AW.tn ?_)
     refine AW.seq (AW.block ?_)
     obtain ⟨g14, g15, h⟩ := ifd h
     refine AW.sg tt_ok0 [(13, vi64 (y4.getD (0 + x11.toNat) 0)), (12, vi64 x11)] [] [] 8 [hn, hq g14 g15, ho (p := (0 + x11.toNat) < y4.length) (by have h1 : 0 ≤ x11 := g14; have h2 : x11 < (y4.length : Int) := g15; omega)] (by kernel_rfl) ?_
     obtain ⟨y16, e17, h⟩ := bnd_some h
     obtain ⟨y18, e19, h⟩ := bnd_some h
     refine AW.rg tt_ok0 [(11, vi64 (i64.wrap (x10 + y18)))] [] [] 15 [hn, hn, hn, hn, hk (weight_counts_con p0 x11 y16 e17), hn, hk (weight_Score_f1_con y16 (y4.getD (0 + x11.toNat) 0) y18 e19)] (by kernel_rfl) ?_
     refine AW.inBlock_normal (AW.tn ?_)
     refine AW.rg tt_ok0 [(34, vi64 (i64.wrap (x11 + 1)))] [] [] 17 [] (by kernel_rfl) ?_
     exact lpn h (conv_re [(0, 0), (1, 1)] (by kernel_rfl))
    ·
     refine AW.exit (AW.thenQ_exit ?_)
     exact lpo h rfl (conv_re [] (by kernel_rfl))
   ·
    show (_ : Exit → St → Prop) (.exit 0) _
    refine AW.inBlock_hit (AW.tn ?_)
    refine AW.sg tt_ok0 [(7, vi64 0), (6, vi64 x20)] [] [] 3 [] (by kernel_rfl) ?_
    refine AW.ret ?_
    obtain rfl := some_inj h
    exact fn0 (.inr rfl) [] 0 (.tup [vi64 x20, vi64 0]) (by kernel_rfl)
/-! recordlink/weight.Score -/
noncomputable def weight_Score (p0 : S_api_Weights) (p1 : Int) : Option (Int × Int) := bind2 (weight_sum_weight_Score_f1 p0 p1) fun y1 y2 => (some (y1, y2))
set_option maxRecDepth 100000 in
theorem weight_Score_con (p0 : S_api_Weights) (p1 : Int) (r : Int × Int) (h : weight_Score p0 p1 = some r) : Con Try.prog 81 [.agg [ci64 p0.Prior, cl 1 Ri64 p0.Agree, cl 1 Ri64 p0.Differ], vi64 p1] [] (.tup [vi64 r.1, vi64 r.2]) [] := by
 refine con_of tt_ok0 0 Try.func81 (by kernel_rfl) rfl (by kernel_rfl) (fun base X _ => AW.post ?_)
 unfold weight_Score at h
 refine AW.sg tt_ok0 [(2, .c (.ptr 0 3 0 0))] [0] [(0, .box 35 [ci64 p0.Prior, cl 1 Ri64 p0.Agree, cl 1 Ri64 p0.Differ])] 3 [] (by kernel_rfl) ?_
 obtain ⟨y1, y2, e3, h⟩ := bind2_some h
 refine AW.sg tt_ok0 [(5, vi64 y2), (4, vi64 y1)] [] [] 9 [hn, hn, hk (weight_sum_weight_Score_f1_con p0 p1 (y1, y2) e3)] (by kernel_rfl) ?_
 refine AW.ret ?_
 obtain rfl := some_inj h
 exact fn0 (.inr rfl) [] 0 (.tup [vi64 y1, vi64 y2]) (by kernel_rfl)
structure S_api_Candidate where
 A : S_api_Ref
 B : S_api_Ref
 Pattern : Int
 Weight : Int
def dS_api_Candidate : S_api_Candidate := ⟨dS_api_Ref, dS_api_Ref, 0, 0⟩
instance : Inhabited S_api_Candidate := ⟨dS_api_Candidate⟩
/-! recordlink/candidate.compared -/
noncomputable def candidate_compared (p0 : S_api_Weights) (p1 : List Int) (p2 : S_api_Ref) (p3 : S_api_Ref) (p4 : S_api_Sent) (p5 : S_api_Sent) : Option S_api_Candidate := bind2 (similarity_Compare p4.Record p5.Record) fun y1 y2 => (bind2 (similarity_Pattern p1 y1) fun y4 y5 => (bind2 (weight_Score p0 y4) fun y7 y8 => (some (⟨p2, p3, y4, y7⟩ : S_api_Candidate))))
set_option maxRecDepth 100000 in
theorem candidate_compared_con (p0 : S_api_Weights) (p1 : List Int) (p2 : S_api_Ref) (p3 : S_api_Ref) (p4 : S_api_Sent) (p5 : S_api_Sent) (r : S_api_Candidate) (h : candidate_compared p0 p1 p2 p3 p4 p5 = some r) : Con Try.prog 53 [.agg [ci64 p0.Prior, cl 1 Ri64 p0.Agree, cl 1 Ri64 p0.Differ], vl 1 Ri64 p1, .agg [ci64 p2.Registry, ci64 p2.ID], .agg [ci64 p3.Registry, ci64 p3.ID], .agg [ci64 p4.Record.ID, ci64 p4.Record.Version, cl 2 RS_api_Bits p4.Record.Fields, cl 1 Ru64 p4.Hashes, cl 1 Rb p4.Has], .agg [ci64 p5.Record.ID, ci64 p5.Record.Version, cl 2 RS_api_Bits p5.Record.Fields, cl 1 Ru64 p5.Hashes, cl 1 Rb p5.Has]] [] (.agg [ci64 r.A.Registry, ci64 r.A.ID, ci64 r.B.Registry, ci64 r.B.ID, ci64 r.Pattern, ci64 r.Weight]) [] := by
 refine con_of tt_ok0 0 Try.func53 (by kernel_rfl) rfl (by kernel_rfl) (fun base X _ => AW.post ?_)
 unfold candidate_compared at h
 refine AW.sg tt_ok0 [(12, .c (.ptr 5 6 0 0)), (11, .c (.ptr 4 5 0 0)), (10, .c (.ptr 3 5 0 0)), (9, .c (.ptr 2 2 0 0)), (8, .c (.ptr 1 2 0 0)), (6, .c (.ptr 0 3 0 0))] [0, 1, 2, 3, 4, 5] [(5, .box 49 [ci64 0, ci64 0, ci64 0, ci64 0, ci64 0, ci64 0]), (4, .box 44 [ci64 p5.Record.ID, ci64 p5.Record.Version, cl 2 RS_api_Bits p5.Record.Fields, cl 1 Ru64 p5.Hashes, cl 1 Rb p5.Has]), (3, .box 44 [ci64 p4.Record.ID, ci64 p4.Record.Version, cl 2 RS_api_Bits p4.Record.Fields, cl 1 Ru64 p4.Hashes, cl 1 Rb p4.Has]), (2, .box 47 [ci64 p3.Registry, ci64 p3.ID]), (1, .box 47 [ci64 p2.Registry, ci64 p2.ID]), (0, .box 35 [ci64 p0.Prior, cl 1 Ri64 p0.Agree, cl 1 Ri64 p0.Differ])] 6 [] (by kernel_rfl) ?_
 obtain ⟨y1, y2, e3, h⟩ := bind2_some h
 refine AW.sg tt_ok0 [(13, .c (.ref 10 1 0 y1.length))] [10] [(10, .row 3 false 1 y1.length (Ri64 y1))] 16 [hn, hn, hn, hn, hm [] [] 1 (similarity_Compare_con p4.Record p5.Record (y1, y2) e3) ⟨rowL_flat Vi64 _ _ _, tv⟩] (by kernel_rfl) ?_
 refine AW.sg tt_ok0 [(15, .c (.ptr 19 6 0 0))] [19] [(19, .box 49 [ci64 p2.Registry, ci64 p2.ID, ci64 p3.Registry, ci64 p3.ID, ci64 0, ci64 0])] 21 [] (by kernel_rfl) ?_
 obtain ⟨y4, y5, e6, h⟩ := bind2_some h
 refine AW.sg tt_ok0 [] [19] [(19, .box 49 [ci64 p2.Registry, ci64 p2.ID, ci64 p3.Registry, ci64 p3.ID, ci64 y4, ci64 0])] 28 [hn, hn, hg [] [] true 0 (q := (True) ∧ (0 + y1.length ≤ y1.length) ∧ (True)) ⟨tv, le0, tv⟩ (a0 := [vl 1 Ri64 p1, vl 1 Ri64 y1]) (similarity_Pattern_con p1 y1 (y4, y5) e6) ⟨ArgLe.refl _, ArgLe.refl _, tv⟩ (fun _ => tv)] (by kernel_rfl) ?_
 obtain ⟨y7, y8, e9, h⟩ := bind2_some h
 refine AW.sg tt_ok0 [] [19] [(19, .box 49 [ci64 p2.Registry, ci64 p2.ID, ci64 p3.Registry, ci64 p3.ID, ci64 y4, ci64 y7])] 36 [hn, hn, hn, hk (weight_Score_con p0 y4 (y7, y8) e9)] (by kernel_rfl) ?_
 refine AW.sg tt_ok0 [] [5] [(5, .box 49 [ci64 p2.Registry, ci64 p2.ID, ci64 p3.Registry, ci64 p3.ID, ci64 y4, ci64 y7])] 38 [] (by kernel_rfl) ?_
 refine AW.ret ?_
 obtain rfl := some_inj h
 exact fn0 (.inr rfl) [] 0 (.agg [ci64 p2.Registry, ci64 p2.ID, ci64 p3.Registry, ci64 p3.ID, ci64 y4, ci64 y7]) (by kernel_rfl)
def ES_api_Candidate (x : S_api_Candidate) : List T := [.v (.int .i64 x.A.Registry), .v (.int .i64 x.A.ID), .v (.int .i64 x.B.Registry), .v (.int .i64 x.B.ID), .v (.int .i64 x.Pattern), .v (.int .i64 x.Weight)]
def RS_api_Candidate (xs : List S_api_Candidate) : Nat → Nat → T := rowL dS_api_Candidate ES_api_Candidate xs
theorem VS_api_Candidate : ∀ x, allV (ES_api_Candidate x) := fun _ => ⟨tv, tv, tv, tv, tv, tv, tv⟩
/-! recordlink/candidate.Make -/
noncomputable def candidate_Make_k5 (x31 : Int) (x34 : List S_api_Candidate) : Option (((List S_api_Candidate) × Int) ⊕ ((List S_api_Candidate) ⊕ Unit)) := some (.inl (x34, i64.wrap (x31 + 1)))
noncomputable def candidate_Make_l4 (p0 : S_api_Weights) (p1 : List Int) (p3 : List (List S_api_Sent)) (x7 : Int) (x15 : Int) (x23 : Int) (x30 : List S_api_Candidate) (x31 : Int) : Option (((List S_api_Candidate) × Int) ⊕ ((List S_api_Candidate) ⊕ Unit)) := if (decide (x31 < (((p3.getD x23.toNat ([] : List S_api_Sent)).length : Nat) : Int))) = true then (if 0 ≤ x31 then (if x31 < (((p3.getD x23.toNat ([] : List S_api_Sent)).length : Nat) : Int) then ((candidate_Agree (⟨(((p3.getD x7.toNat ([] : List S_api_Sent)).getD x15.toNat dS_api_Sent).Record), ((p3.getD x7.toNat ([] : List S_api_Sent)).getD x15.toNat dS_api_Sent).Hashes, ((p3.getD x7.toNat ([] : List S_api_Sent)).getD x15.toNat dS_api_Sent).Has⟩ : S_api_Sent) (⟨(((p3.getD x23.toNat ([] : List S_api_Sent)).getD x31.toNat dS_api_Sent).Record), ((p3.getD x23.toNat ([] : List S_api_Sent)).getD x31.toNat dS_api_Sent).Hashes, ((p3.getD x23.toNat ([] : List S_api_Sent)).getD x31.toNat dS_api_Sent).Has⟩ : S_api_Sent)).bind fun y37 => (if (!y37) = true then (candidate_Make_k5 x31 x30) else (if ((x30.length : Int) == 4096) = true then (some (.inr (.inr ()))) else ((candidate_compared p0 p1 (⟨x7, (((p3.getD x7.toNat ([] : List S_api_Sent)).getD x15.toNat dS_api_Sent).Record).ID⟩ : S_api_Ref) (⟨x23, (((p3.getD x23.toNat ([] : List S_api_Sent)).getD x31.toNat dS_api_Sent).Record).ID⟩ : S_api_Ref) (⟨(((p3.getD x7.toNat ([] : List S_api_Sent)).getD x15.toNat dS_api_Sent).Record), ((p3.getD x7.toNat ([] : List S_api_Sent)).getD x15.toNat dS_api_Sent).Hashes, ((p3.getD x7.toNat ([] : List S_api_Sent)).getD x15.toNat dS_api_Sent).Has⟩ : S_api_Sent) (⟨(((p3.getD x23.toNat ([] : List S_api_Sent)).getD x31.toNat dS_api_Sent).Record), ((p3.getD x23.toNat ([] : List S_api_Sent)).getD x31.toNat dS_api_Sent).Hashes, ((p3.getD x23.toNat ([] : List S_api_Sent)).getD x31.toNat dS_api_Sent).Has⟩ : S_api_Sent)).bind fun y41 => (if x30.length + ([y41] : List S_api_Candidate).length ≤ 1099511627776 then (candidate_Make_k5 x31 (x30 ++ ([y41] : List S_api_Candidate))) else none))))) else none) else none) else (some (.inr (.inl x30)))
noncomputable def candidate_Make_a6 (x23 : Int) (x44 : List S_api_Candidate) : Option (((List S_api_Candidate) × Int) ⊕ ((List S_api_Candidate) ⊕ Unit)) := some (.inl (x44, i64.wrap (x23 + 1)))
noncomputable def candidate_Make_a7 : Option (((List S_api_Candidate) × Int) ⊕ ((List S_api_Candidate) ⊕ Unit)) := some (.inr (.inr ()))
noncomputable def candidate_Make_l3 (p0 : S_api_Weights) (p1 : List Int) (p3 : List (List S_api_Sent)) (x7 : Int) (x15 : Int) (x22 : List S_api_Candidate) (x23 : Int) : Option (((List S_api_Candidate) × Int) ⊕ ((List S_api_Candidate) ⊕ Unit)) := if (decide (x23 < (p3.length : Int))) = true then (if 0 ≤ x23 then (if x23 < (p3.length : Int) then (bindE (loop (fun v : (List S_api_Candidate) × Int => candidate_Make_l4 p0 p1 p3 x7 x15 x23 v.1 v.2) (x22, 0)) (fun t => candidate_Make_a6 x23 t) (fun t => candidate_Make_a7)) else none) else none) else (some (.inr (.inl x22)))
noncomputable def candidate_Make_a8 (x15 : Int) (x46 : List S_api_Candidate) : Option (((List S_api_Candidate) × Int) ⊕ ((List S_api_Candidate) ⊕ Unit)) := some (.inl (x46, i64.wrap (x15 + 1)))
noncomputable def candidate_Make_a9 : Option (((List S_api_Candidate) × Int) ⊕ ((List S_api_Candidate) ⊕ Unit)) := some (.inr (.inr ()))
noncomputable def candidate_Make_l2 (p0 : S_api_Weights) (p1 : List Int) (p3 : List (List S_api_Sent)) (x7 : Int) (x14 : List S_api_Candidate) (x15 : Int) : Option (((List S_api_Candidate) × Int) ⊕ ((List S_api_Candidate) ⊕ Unit)) := if (decide (x15 < (((p3.getD x7.toNat ([] : List S_api_Sent)).length : Nat) : Int))) = true then (if 0 ≤ x15 then (if x15 < (((p3.getD x7.toNat ([] : List S_api_Sent)).length : Nat) : Int) then (bindE (loop (fun v : (List S_api_Candidate) × Int => candidate_Make_l3 p0 p1 p3 x7 x15 v.1 v.2) (x14, i64.wrap (x7 + 1))) (fun t => candidate_Make_a8 x15 t) (fun t => candidate_Make_a9)) else none) else none) else (some (.inr (.inl x14)))
noncomputable def candidate_Make_a10 (x7 : Int) (x48 : List S_api_Candidate) : Option (((List S_api_Candidate) × Int) ⊕ ((List S_api_Candidate) ⊕ Unit)) := some (.inl (x48, i64.wrap (x7 + 1)))
noncomputable def candidate_Make_a11 : Option (((List S_api_Candidate) × Int) ⊕ ((List S_api_Candidate) ⊕ Unit)) := some (.inr (.inr ()))
noncomputable def candidate_Make_l1 (p0 : S_api_Weights) (p1 : List Int) (p3 : List (List S_api_Sent)) (x6 : List S_api_Candidate) (x7 : Int) : Option (((List S_api_Candidate) × Int) ⊕ ((List S_api_Candidate) ⊕ Unit)) := if (decide (x7 < (p3.length : Int))) = true then (if 0 ≤ x7 then (if x7 < (p3.length : Int) then (bindE (loop (fun v : (List S_api_Candidate) × Int => candidate_Make_l2 p0 p1 p3 x7 v.1 v.2) (x6, 0)) (fun t => candidate_Make_a10 x7 t) (fun t => candidate_Make_a11)) else none) else none) else (some (.inr (.inl x6)))
noncomputable def candidate_Make_a12 (x50 : List S_api_Candidate) : Option ((List S_api_Candidate) × Int) := some (x50, 0)
noncomputable def candidate_Make_a13 : Option ((List S_api_Candidate) × Int) := some (([] : List S_api_Candidate), 1)
noncomputable def candidate_Make (p0 : S_api_Weights) (p1 : List Int) (p2 : Int) (p3 : List (List S_api_Sent)) : Option ((List S_api_Candidate) × Int) := (candidate_check p0 p1 p2 p3).bind fun y1 => (if (y1 != 0) = true then (some (([] : List S_api_Candidate), y1)) else (bindE (loop (fun v : (List S_api_Candidate) × Int => candidate_Make_l1 p0 p1 p3 v.1 v.2) (([] : List S_api_Candidate), 0)) (fun t => candidate_Make_a12 t) (fun t => candidate_Make_a13)))
set_option maxRecDepth 100000 in
theorem candidate_Make_con (p0 : S_api_Weights) (p1 : List Int) (p2 : Int) (p3 : List (List S_api_Sent)) (r : (List S_api_Candidate) × Int) (h : candidate_Make p0 p1 p2 p3 = some r) : Con Try.prog 17 [.agg [ci64 p0.Prior, cl 1 Ri64 p0.Agree, cl 1 Ri64 p0.Differ], vl 1 Ri64 p1, vi64 p2, vl 1 RlS_api_Sent p3] [] (.tup [.c (.ref 0 6 0 r.1.length), vi64 r.2]) [(0, .row 49 false 6 r.1.length (RS_api_Candidate r.1))] := by
 refine con_of tt_ok0 0 Try.func17 (by kernel_rfl) rfl (by kernel_rfl) (fun base X _ => AW.post ?_)
 unfold candidate_Make at h
 refine AW.sg tt_ok0 [(4, .c (.ptr 0 3 0 0))] [0] [(0, .box 35 [ci64 p0.Prior, cl 1 Ri64 p0.Agree, cl 1 Ri64 p0.Differ])] 3 [] (by kernel_rfl) ?_
 refine AW.seq ?_
 obtain ⟨y1, e2, h⟩ := bnd_some h
 refine AW.sg tt_ok0 [(10, vi64 y1)] [] [] 8 [hn, hn, hn, hn, hk (candidate_check_con p0 p1 p2 p3 y1 e2)] (by kernel_rfl) ?_
 refine AW.sg tt_ok0 [(26, vb (y1 != 0))] [] [] 10 [] (by kernel_rfl) ?_
 refine AW.co h (by kernel_rfl) (fun c3 h => ?_) (fun c3 h => ?_)
 ·
  refine AW.sg tt_ok0 [(9, vi64 y1), (8, .c (.t (.v (.slice none 0 0))))] [] [] 13 [] (by kernel_rfl) ?_
  refine AW.ret (AW.tr ?_)
  obtain rfl := some_inj h
  exact fnR (.inr rfl) [(0, 13)] 1 (.tup [.c (.ref 13 6 0 (([] : List S_api_Candidate).length)), vi64 y1]) (conv_adopt (t := 8) (ty := 49) (sz := 6) (n := ([] : List S_api_Candidate).length) (f := RS_api_Candidate ([] : List S_api_Candidate)) (by kernel_rfl) rfl) (by kernel_rfl)
 ·
  refine AW.skip (AW.tn ?_)
  refine AW.sg tt_ok0 [(11, .c (.t (.v (.slice none 0 0))))] [] [] 11 [] (by kernel_rfl) ?_
  refine AW.seq ?_
  refine AW.sg tt_ok0 [(30, vi64 0), (29, vi64 (p3.length : Int)), (28, vl 1 RlS_api_Sent p3)] [] [] 14 [] (by kernel_rfl) ?_
  refine AW.block ?_
  refine AW.lpE h (fun v => ⟨[(1, vl 1 Ri64 p1), (3, vl 1 RlS_api_Sent p3), (4, .c (.ptr 0 3 0 0)), (11, .c (.ref 1 6 0 v.1.length)), (28, vl 1 RlS_api_Sent p3), (29, vi64 (p3.length : Int)), (30, vi64 v.2)], [(0, .box 35 [ci64 p0.Prior, cl 1 Ri64 p0.Agree, cl 1 Ri64 p0.Differ]), (1, .row 49 false 6 v.1.length (RS_api_Candidate v.1))], 2⟩) (fun t => (.exit 0, ⟨[(11, .c (.ref 0 6 0 t.length))], [(0, .row 49 false 6 t.length (RS_api_Candidate t))], 1⟩)) (fun t => (.ret, ⟨[(8, .c (.t (.v (.slice none 0 0)))), (9, vi64 1)], [], 0⟩)) (Conv.trans (conv_adopt (t := 11) (ty := 49) (sz := 6) (n := ([] : List S_api_Candidate).length) (f := RS_api_Candidate ([] : List S_api_Candidate)) (by kernel_rfl) rfl) (conv_re [(0, 0), (1, 14)] (by kernel_rfl))) (fun _ => tv) (fun _ => tv) ?_ (fun x50 h => ?_) (fun t h => ?_)
  ·
   clear h
   intro v o h
   obtain ⟨x6, x7⟩ := v
   replace h : candidate_Make_l1 p0 p1 p3 x6 x7 = some o := h
   unfold candidate_Make_l1 at h
   refine AW.sg tt_ok0 [(31, vb (decide (x7 < (p3.length : Int))))] [] [] 3 [] (by kernel_rfl) ?_
   refine AW.seq ?_
   refine AW.co h (by kernel_rfl) (fun c9 h => ?_) (fun c9 h => ?_)
   ·
    refine AW.skip (AW.tn ?_)
    refine AW.seq (AW.block ?_)
    obtain ⟨g10, g11, h⟩ := ifd h
    refine AW.sg tt_ok0 [(13, vl 5 RS_api_Sent (p3.getD x7.toNat ([] : List S_api_Sent))), (12, vi64 x7)] [] [] 8 [hn, hq g10 g11] (by kernel_rfl) ?_
    refine AW.sg tt_ok0 [(37, vi64 0), (36, vi64 (((p3.getD x7.toNat ([] : List S_api_Sent)).length : Nat) : Int)), (35, vl 5 RS_api_Sent (p3.getD x7.toNat ([] : List S_api_Sent)))] [] [] 11 [] (by kernel_rfl) ?_
    refine AW.block ?_
    refine AW.lpE h (fun v => ⟨[(1, vl 1 Ri64 p1), (3, vl 1 RlS_api_Sent p3), (4, .c (.ptr 0 3 0 0)), (11, .c (.ref 1 6 0 v.1.length)), (12, vi64 x7), (28, vl 1 RlS_api_Sent p3), (29, vi64 (p3.length : Int)), (30, vi64 x7), (35, vl 5 RS_api_Sent (p3.getD x7.toNat ([] : List S_api_Sent))), (36, vi64 (((p3.getD x7.toNat ([] : List S_api_Sent)).length : Nat) : Int)), (37, vi64 v.2)], [(0, .box 35 [ci64 p0.Prior, cl 1 Ri64 p0.Agree, cl 1 Ri64 p0.Differ]), (1, .row 49 false 6 v.1.length (RS_api_Candidate v.1))], 2⟩) (fun t => (.exit 2, ⟨[(1, vl 1 Ri64 p1), (3, vl 1 RlS_api_Sent p3), (4, .c (.ptr 0 3 0 0)), (11, .c (.ref 1 6 0 t.length)), (28, vl 1 RlS_api_Sent p3), (29, vi64 (p3.length : Int)), (30, vi64 x7)], [(0, .box 35 [ci64 p0.Prior, cl 1 Ri64 p0.Agree, cl 1 Ri64 p0.Differ]), (1, .row 49 false 6 t.length (RS_api_Candidate t))], 2⟩)) (fun t => (.ret, ⟨[(8, .c (.t (.v (.slice none 0 0)))), (9, vi64 1)], [], 0⟩)) (conv_re [(0, 0), (1, 1)] (by kernel_rfl)) (fun _ => tv) (fun _ => tv) ?_ (fun x48 h => ?_) (fun t h => ?_)
    ·
     clear h
     intro v o h
     obtain ⟨x14, x15⟩ := v
     replace h : candidate_Make_l2 p0 p1 p3 x7 x14 x15 = some o := h
     unfold candidate_Make_l2 at h
     refine AW.sg tt_ok0 [(38, vb (decide (x15 < (((p3.getD x7.toNat ([] : List S_api_Sent)).length : Nat) : Int))))] [] [] 3 [] (by kernel_rfl) ?_
     refine AW.seq ?_
     refine AW.co h (by kernel_rfl) (fun c17 h => ?_) (fun c17 h => ?_)
     ·
      refine AW.skip (AW.tn ?_)
      refine AW.seq (AW.block ?_)
      obtain ⟨g18, g19, h⟩ := ifd h
      refine AW.sg tt_ok0 [(15, .c (.ptr 5 5 0 0))] [5] [(5, .box 44 [ci64 ((((p3.getD x7.toNat ([] : List S_api_Sent)).getD x15.toNat dS_api_Sent).Record).ID), ci64 ((((p3.getD x7.toNat ([] : List S_api_Sent)).getD x15.toNat dS_api_Sent).Record).Version), cl 2 RS_api_Bits ((((p3.getD x7.toNat ([] : List S_api_Sent)).getD x15.toNat dS_api_Sent).Record).Fields), cl 1 Ru64 (((p3.getD x7.toNat ([] : List S_api_Sent)).getD x15.toNat dS_api_Sent).Hashes), cl 1 Rb (((p3.getD x7.toNat ([] : List S_api_Sent)).getD x15.toNat dS_api_Sent).Has)])] 7 [hq g18 g19] (by kernel_rfl) ?_
      refine AW.sg tt_ok0 [(16, .c (.ptr 12 2 0 0))] [12] [(12, .box 47 [ci64 x7, ci64 ((((p3.getD x7.toNat ([] : List S_api_Sent)).getD x15.toNat dS_api_Sent).Record).ID)])] 14 [] (by kernel_rfl) ?_
      refine AW.sg tt_ok0 [(17, vi64 (i64.wrap (x7 + 1)))] [] [] 17 [] (by kernel_rfl) ?_
      refine AW.block ?_
      refine AW.lpE h (fun v => ⟨[(1, vl 1 Ri64 p1), (3, vl 1 RlS_api_Sent p3), (4, .c (.ptr 0 3 0 0)), (11, .c (.ref 1 6 0 v.1.length)), (12, vi64 x7), (15, .c (.ptr 2 5 0 0)), (16, .c (.ptr 3 2 0 0)), (17, vi64 v.2), (28, vl 1 RlS_api_Sent p3), (29, vi64 (p3.length : Int)), (30, vi64 x7), (35, vl 5 RS_api_Sent (p3.getD x7.toNat ([] : List S_api_Sent))), (36, vi64 (((p3.getD x7.toNat ([] : List S_api_Sent)).length : Nat) : Int)), (37, vi64 x15)], [(0, .box 35 [ci64 p0.Prior, cl 1 Ri64 p0.Agree, cl 1 Ri64 p0.Differ]), (1, .row 49 false 6 v.1.length (RS_api_Candidate v.1)), (2, .box 44 [ci64 ((((p3.getD x7.toNat ([] : List S_api_Sent)).getD x15.toNat dS_api_Sent).Record).ID), ci64 ((((p3.getD x7.toNat ([] : List S_api_Sent)).getD x15.toNat dS_api_Sent).Record).Version), cl 2 RS_api_Bits ((((p3.getD x7.toNat ([] : List S_api_Sent)).getD x15.toNat dS_api_Sent).Record).Fields), cl 1 Ru64 (((p3.getD x7.toNat ([] : List S_api_Sent)).getD x15.toNat dS_api_Sent).Hashes), cl 1 Rb (((p3.getD x7.toNat ([] : List S_api_Sent)).getD x15.toNat dS_api_Sent).Has)]), (3, .box 47 [ci64 x7, ci64 ((((p3.getD x7.toNat ([] : List S_api_Sent)).getD x15.toNat dS_api_Sent).Record).ID)])], 4⟩) (fun t => (.exit 4, ⟨[(1, vl 1 Ri64 p1), (3, vl 1 RlS_api_Sent p3), (4, .c (.ptr 0 3 0 0)), (11, .c (.ref 1 6 0 t.length)), (12, vi64 x7), (28, vl 1 RlS_api_Sent p3), (29, vi64 (p3.length : Int)), (30, vi64 x7), (35, vl 5 RS_api_Sent (p3.getD x7.toNat ([] : List S_api_Sent))), (36, vi64 (((p3.getD x7.toNat ([] : List S_api_Sent)).length : Nat) : Int)), (37, vi64 x15)], [(0, .box 35 [ci64 p0.Prior, cl 1 Ri64 p0.Agree, cl 1 Ri64 p0.Differ]), (1, .row 49 false 6 t.length (RS_api_Candidate t))], 2⟩)) (fun t => (.ret, ⟨[(8, .c (.t (.v (.slice none 0 0)))), (9, vi64 1)], [], 0⟩)) (conv_re [(0, 0), (1, 1), (2, 5), (3, 12)] (by kernel_rfl)) (fun _ => tv) (fun _ => tv) ?_ (fun x46 h => ?_) (fun t h => ?_)
      ·
       clear h
       intro v o h
       obtain ⟨x22, x23⟩ := v
       replace h : candidate_Make_l3 p0 p1 p3 x7 x15 x22 x23 = some o := h
       unfold candidate_Make_l3 at h
       refine AW.seq ?_
       refine AW.sg tt_ok0 [(51, vb (decide (x23 < (p3.length : Int))))] [] [] 8 [] (by kernel_rfl) ?_
       refine AW.co h (by kernel_rfl) (fun c25 h => ?_) (fun c25 h => ?_)
       ·
        refine AW.skip (AW.tn ?_)
        refine AW.seq (AW.block ?_)
        obtain ⟨g26, g27, h⟩ := ifd h
        refine AW.sg tt_ok0 [(59, vi64 0), (58, vi64 (((p3.getD x23.toNat ([] : List S_api_Sent)).length : Nat) : Int)), (57, vl 5 RS_api_Sent (p3.getD x23.toNat ([] : List S_api_Sent)))] [] [] 14 [hn, hn, hq g26 g27] (by kernel_rfl) ?_
        refine AW.block ?_
        refine AW.lpE h (fun v => ⟨[(1, vl 1 Ri64 p1), (3, vl 1 RlS_api_Sent p3), (4, .c (.ptr 0 3 0 0)), (11, .c (.ref 1 6 0 v.1.length)), (12, vi64 x7), (15, .c (.ptr 2 5 0 0)), (16, .c (.ptr 3 2 0 0)), (17, vi64 x23), (28, vl 1 RlS_api_Sent p3), (29, vi64 (p3.length : Int)), (30, vi64 x7), (35, vl 5 RS_api_Sent (p3.getD x7.toNat ([] : List S_api_Sent))), (36, vi64 (((p3.getD x7.toNat ([] : List S_api_Sent)).length : Nat) : Int)), (37, vi64 x15), (57, vl 5 RS_api_Sent (p3.getD x23.toNat ([] : List S_api_Sent))), (58, vi64 (((p3.getD x23.toNat ([] : List S_api_Sent)).length : Nat) : Int)), (59, vi64 v.2)], [(0, .box 35 [ci64 p0.Prior, cl 1 Ri64 p0.Agree, cl 1 Ri64 p0.Differ]), (1, .row 49 false 6 v.1.length (RS_api_Candidate v.1)), (2, .box 44 [ci64 ((((p3.getD x7.toNat ([] : List S_api_Sent)).getD x15.toNat dS_api_Sent).Record).ID), ci64 ((((p3.getD x7.toNat ([] : List S_api_Sent)).getD x15.toNat dS_api_Sent).Record).Version), cl 2 RS_api_Bits ((((p3.getD x7.toNat ([] : List S_api_Sent)).getD x15.toNat dS_api_Sent).Record).Fields), cl 1 Ru64 (((p3.getD x7.toNat ([] : List S_api_Sent)).getD x15.toNat dS_api_Sent).Hashes), cl 1 Rb (((p3.getD x7.toNat ([] : List S_api_Sent)).getD x15.toNat dS_api_Sent).Has)]), (3, .box 47 [ci64 x7, ci64 ((((p3.getD x7.toNat ([] : List S_api_Sent)).getD x15.toNat dS_api_Sent).Record).ID)])], 4⟩) (fun t => (.exit 6, ⟨[(1, vl 1 Ri64 p1), (3, vl 1 RlS_api_Sent p3), (4, .c (.ptr 0 3 0 0)), (11, .c (.ref 1 6 0 t.length)), (12, vi64 x7), (15, .c (.ptr 2 5 0 0)), (16, .c (.ptr 3 2 0 0)), (17, vi64 x23), (28, vl 1 RlS_api_Sent p3), (29, vi64 (p3.length : Int)), (30, vi64 x7), (35, vl 5 RS_api_Sent (p3.getD x7.toNat ([] : List S_api_Sent))), (36, vi64 (((p3.getD x7.toNat ([] : List S_api_Sent)).length : Nat) : Int)), (37, vi64 x15)], [(0, .box 35 [ci64 p0.Prior, cl 1 Ri64 p0.Agree, cl 1 Ri64 p0.Differ]), (1, .row 49 false 6 t.length (RS_api_Candidate t)), (2, .box 44 [ci64 ((((p3.getD x7.toNat ([] : List S_api_Sent)).getD x15.toNat dS_api_Sent).Record).ID), ci64 ((((p3.getD x7.toNat ([] : List S_api_Sent)).getD x15.toNat dS_api_Sent).Record).Version), cl 2 RS_api_Bits ((((p3.getD x7.toNat ([] : List S_api_Sent)).getD x15.toNat dS_api_Sent).Record).Fields), cl 1 Ru64 (((p3.getD x7.toNat ([] : List S_api_Sent)).getD x15.toNat dS_api_Sent).Hashes), cl 1 Rb (((p3.getD x7.toNat ([] : List S_api_Sent)).getD x15.toNat dS_api_Sent).Has)]), (3, .box 47 [ci64 x7, ci64 ((((p3.getD x7.toNat ([] : List S_api_Sent)).getD x15.toNat dS_api_Sent).Record).ID)])], 4⟩)) (fun t => (.ret, ⟨[(8, .c (.t (.v (.slice none 0 0)))), (9, vi64 1)], [], 0⟩)) (conv_re [(0, 0), (1, 1), (2, 2), (3, 3)] (by kernel_rfl)) (fun _ => tv) (fun _ => tv) ?_ (fun x44 h => ?_) (fun t h => ?_)
        ·
         clear h
         intro v o h
         obtain ⟨x30, x31⟩ := v
         replace h : candidate_Make_l4 p0 p1 p3 x7 x15 x23 x30 x31 = some o := h
         unfold candidate_Make_l4 at h
         refine AW.sg tt_ok0 [(60, vb (decide (x31 < (((p3.getD x23.toNat ([] : List S_api_Sent)).length : Nat) : Int))))] [] [] 5 [] (by kernel_rfl) ?_
         refine AW.seq ?_
         refine AW.co h (by kernel_rfl) (fun c33 h => ?_) (fun c33 h => ?_)
         ·
          refine AW.skip (AW.tn (AW.seq ?_))
          refine AW.join (ι := List S_api_Candidate) (fun v => ⟨[(1, vl 1 Ri64 p1), (3, vl 1 RlS_api_Sent p3), (4, .c (.ptr 0 3 0 0)), (11, .c (.ref 1 6 0 v.length)), (12, vi64 x7), (15, .c (.ptr 2 5 0 0)), (16, .c (.ptr 3 2 0 0)), (17, vi64 x23), (28, vl 1 RlS_api_Sent p3), (29, vi64 (p3.length : Int)), (30, vi64 x7), (35, vl 5 RS_api_Sent (p3.getD x7.toNat ([] : List S_api_Sent))), (36, vi64 (((p3.getD x7.toNat ([] : List S_api_Sent)).length : Nat) : Int)), (37, vi64 x15), (57, vl 5 RS_api_Sent (p3.getD x23.toNat ([] : List S_api_Sent))), (58, vi64 (((p3.getD x23.toNat ([] : List S_api_Sent)).length : Nat) : Int)), (59, vi64 x31)], [(0, .box 35 [ci64 p0.Prior, cl 1 Ri64 p0.Agree, cl 1 Ri64 p0.Differ]), (1, .row 49 false 6 v.length (RS_api_Candidate v)), (2, .box 44 [ci64 ((((p3.getD x7.toNat ([] : List S_api_Sent)).getD x15.toNat dS_api_Sent).Record).ID), ci64 ((((p3.getD x7.toNat ([] : List S_api_Sent)).getD x15.toNat dS_api_Sent).Record).Version), cl 2 RS_api_Bits ((((p3.getD x7.toNat ([] : List S_api_Sent)).getD x15.toNat dS_api_Sent).Record).Fields), cl 1 Ru64 (((p3.getD x7.toNat ([] : List S_api_Sent)).getD x15.toNat dS_api_Sent).Hashes), cl 1 Rb (((p3.getD x7.toNat ([] : List S_api_Sent)).getD x15.toNat dS_api_Sent).Has)]), (3, .box 47 [ci64 x7, ci64 ((((p3.getD x7.toNat ([] : List S_api_Sent)).getD x15.toNat dS_api_Sent).Record).ID)])], 4⟩) (fun v : List S_api_Candidate => candidate_Make_k5 x31 v = some o) (fun x34 h => ?_) ?_
          ·
           unfold candidate_Make_k5 at h
           refine AW.tn ?_
           refine AW.rg tt_ok0 [(59, vi64 (i64.wrap (x31 + 1)))] [] [] 6 [] (by kernel_rfl) ?_
           exact lpn h (conv_re [(0, 0), (1, 1), (2, 2), (3, 3)] (by kernel_rfl))
          ·
           refine AW.block ?_
           obtain ⟨g35, g36, h⟩ := ifd h
           refine AW.sg tt_ok0 [(19, .c (.ptr 7 5 0 0))] [7] [(7, .box 44 [ci64 ((((p3.getD x23.toNat ([] : List S_api_Sent)).getD x31.toNat dS_api_Sent).Record).ID), ci64 ((((p3.getD x23.toNat ([] : List S_api_Sent)).getD x31.toNat dS_api_Sent).Record).Version), cl 2 RS_api_Bits ((((p3.getD x23.toNat ([] : List S_api_Sent)).getD x31.toNat dS_api_Sent).Record).Fields), cl 1 Ru64 (((p3.getD x23.toNat ([] : List S_api_Sent)).getD x31.toNat dS_api_Sent).Hashes), cl 1 Rb (((p3.getD x23.toNat ([] : List S_api_Sent)).getD x31.toNat dS_api_Sent).Has)])] 9 [hq g35 g36] (by kernel_rfl) ?_
           refine AW.seq ?_
           obtain ⟨y37, e38, h⟩ := bnd_some h
           refine AW.sg tt_ok0 [(66, vb (!y37))] [] [] 12 [hn, hn, hk (candidate_Agree_con (⟨(((p3.getD x7.toNat ([] : List S_api_Sent)).getD x15.toNat dS_api_Sent).Record), ((p3.getD x7.toNat ([] : List S_api_Sent)).getD x15.toNat dS_api_Sent).Hashes, ((p3.getD x7.toNat ([] : List S_api_Sent)).getD x15.toNat dS_api_Sent).Has⟩ : S_api_Sent) (⟨(((p3.getD x23.toNat ([] : List S_api_Sent)).getD x31.toNat dS_api_Sent).Record), ((p3.getD x23.toNat ([] : List S_api_Sent)).getD x31.toNat dS_api_Sent).Hashes, ((p3.getD x23.toNat ([] : List S_api_Sent)).getD x31.toNat dS_api_Sent).Has⟩ : S_api_Sent) y37 e38)] (by kernel_rfl) ?_
           refine AW.co h (by kernel_rfl) (fun c39 h => ?_) (fun c39 h => ?_)
           ·
            refine AW.exit (AW.thenQ_exit (AW.inBlock_hit ?_))
            exact jl x30 h (conv_re [(0, 0), (1, 1), (2, 2), (3, 3)] (by kernel_rfl))
           ·
            refine AW.skip (AW.tn (AW.seq ?_))
            refine AW.sg tt_ok0 [(69, vb ((x30.length : Int) == 4096))] [] [] 15 [] (by kernel_rfl) ?_
            refine AW.co h (by kernel_rfl) (fun c40 h => ?_) (fun c40 h => ?_)
            ·
             refine AW.sg tt_ok0 [(9, vi64 1), (8, .c (.t (.v (.slice none 0 0))))] [] [] 17 [] (by kernel_rfl) ?_
             refine AW.ret (AW.tr (AW.inBlock_ret ?_))
             refine joinQ_ret ?_
             refine AW.tr ?_
             exact lpo h rfl (conv_re [] (by kernel_rfl))
            ·
             refine AW.skip (AW.tn ?_)
             obtain ⟨y41, e42, h⟩ := bnd_some h
             obtain ⟨g43, h⟩ := ifc h
             refine AW.rg tt_ok0 [(11, .c (.ref 27 6 0 ((x30 ++ ([y41] : List S_api_Candidate)).length)))] [1, 26, 27] [(27, .row 49 false 6 (x30 ++ ([y41] : List S_api_Candidate)).length (RS_api_Candidate (x30 ++ ([y41] : List S_api_Candidate))))] 29 [hn, hn, hn, hn, hn, hn, hn, hn, hn, hn, hn, hk (candidate_compared_con p0 p1 (⟨x7, (((p3.getD x7.toNat ([] : List S_api_Sent)).getD x15.toNat dS_api_Sent).Record).ID⟩ : S_api_Ref) (⟨x23, (((p3.getD x23.toNat ([] : List S_api_Sent)).getD x31.toNat dS_api_Sent).Record).ID⟩ : S_api_Ref) (⟨(((p3.getD x7.toNat ([] : List S_api_Sent)).getD x15.toNat dS_api_Sent).Record), ((p3.getD x7.toNat ([] : List S_api_Sent)).getD x15.toNat dS_api_Sent).Hashes, ((p3.getD x7.toNat ([] : List S_api_Sent)).getD x15.toNat dS_api_Sent).Has⟩ : S_api_Sent) (⟨(((p3.getD x23.toNat ([] : List S_api_Sent)).getD x31.toNat dS_api_Sent).Record), ((p3.getD x23.toNat ([] : List S_api_Sent)).getD x31.toNat dS_api_Sent).Hashes, ((p3.getD x23.toNat ([] : List S_api_Sent)).getD x31.toNat dS_api_Sent).Has⟩ : S_api_Sent) y41 e42), hlit dS_api_Candidate ES_api_Candidate 6 (fun _ => rfl) ([y41] : List S_api_Candidate), happ dS_api_Candidate ES_api_Candidate 6 48 x30 ([y41] : List S_api_Candidate) g43 (by decide)] (by kernel_rfl) ?_
             refine AW.inBlock_normal ?_
             exact jl (x30 ++ ([y41] : List S_api_Candidate)) h (conv_re [(0, 0), (1, 27), (2, 2), (3, 3)] (by kernel_rfl))
         ·
          refine AW.exit (AW.thenQ_exit ?_)
          exact lpo h rfl (conv_re [(0, 0), (1, 1), (2, 2), (3, 3)] (by kernel_rfl))
        ·
         unfold candidate_Make_a6 at h
         show (_ : Exit → St → Prop) (.exit 6) _
         refine AW.inBlock_hit (AW.inBlock_normal (AW.tn ?_))
         refine AW.rg tt_ok0 [(17, vi64 (i64.wrap (x23 + 1)))] [] [] 7 [] (by kernel_rfl) ?_
         exact lpn h (conv_re [(0, 0), (1, 1), (2, 2), (3, 3)] (by kernel_rfl))
        ·
         replace h : candidate_Make_a7 = some o := h
         unfold candidate_Make_a7 at h
         show (_ : Exit → St → Prop) (.ret) _
         refine AW.inBlock_ret (AW.inBlock_ret (AW.tr ?_))
         exact lpo h rfl (conv_re [] (by kernel_rfl))
       ·
        refine AW.exit (AW.thenQ_exit ?_)
        exact lpo h rfl (conv_re [(0, 0), (1, 1)] (by kernel_rfl))
      ·
       unfold candidate_Make_a8 at h
       show (_ : Exit → St → Prop) (.exit 4) _
       refine AW.inBlock_hit (AW.inBlock_normal (AW.tn ?_))
       refine AW.rg tt_ok0 [(37, vi64 (i64.wrap (x15 + 1)))] [] [] 4 [] (by kernel_rfl) ?_
       exact lpn h (conv_re [(0, 0), (1, 1)] (by kernel_rfl))
      ·
       replace h : candidate_Make_a9 = some o := h
       unfold candidate_Make_a9 at h
       show (_ : Exit → St → Prop) (.ret) _
       refine AW.inBlock_ret (AW.inBlock_ret (AW.tr ?_))
       exact lpo h rfl (conv_re [] (by kernel_rfl))
     ·
      refine AW.exit (AW.thenQ_exit ?_)
      exact lpo h rfl (conv_re [(0, 0), (1, 1)] (by kernel_rfl))
    ·
     unfold candidate_Make_a10 at h
     show (_ : Exit → St → Prop) (.exit 2) _
     refine AW.inBlock_hit (AW.inBlock_normal (AW.tn ?_))
     refine AW.rg tt_ok0 [(30, vi64 (i64.wrap (x7 + 1)))] [] [] 4 [] (by kernel_rfl) ?_
     exact lpn h (conv_re [(0, 0), (1, 1)] (by kernel_rfl))
    ·
     replace h : candidate_Make_a11 = some o := h
     unfold candidate_Make_a11 at h
     show (_ : Exit → St → Prop) (.ret) _
     refine AW.inBlock_ret (AW.inBlock_ret (AW.tr ?_))
     exact lpo h rfl (conv_re [] (by kernel_rfl))
   ·
    refine AW.exit (AW.thenQ_exit ?_)
    exact lpo h rfl (conv_re [(0, 1)] (by kernel_rfl))
  ·
   unfold candidate_Make_a12 at h
   show (_ : Exit → St → Prop) (.exit 0) _
   refine AW.inBlock_hit (AW.tn ?_)
   refine AW.sg tt_ok0 [(9, vi64 0), (8, .c (.ref 0 6 0 x50.length))] [] [] 4 [] (by kernel_rfl) ?_
   refine AW.ret ?_
   obtain rfl := some_inj h
   exact fn0 (.inr rfl) [(0, 0)] 1 (.tup [.c (.ref 0 6 0 x50.length), vi64 0]) (by kernel_rfl)
  ·
   replace h : candidate_Make_a13 = some r := h
   unfold candidate_Make_a13 at h
   show (_ : Exit → St → Prop) (.ret) _
   refine AW.inBlock_ret (AW.tr ?_)
   obtain rfl := some_inj h
   exact fnR (.inr rfl) [(0, 0)] 1 (.tup [.c (.ref 0 6 0 (([] : List S_api_Candidate).length)), vi64 1]) (conv_adopt (t := 8) (ty := 49) (sz := 6) (n := ([] : List S_api_Candidate).length) (f := RS_api_Candidate ([] : List S_api_Candidate)) (by kernel_rfl) rfl) (by kernel_rfl)
/-! recordlink/recordlinklaw26.awake -/
noncomputable def rl_law26_awake_k1 (x4 : Bool) : Option Bool := some x4
noncomputable def rl_law26_awake : Option Bool := bind2 (candidate_Make (⟨3, ([5] : List Int), ([(-5)] : List Int)⟩ : S_api_Weights) ([800] : List Int) 1 ([([(⟨(⟨4, 1, ([(⟨0, ([] : List Int)⟩ : S_api_Bits)] : List S_api_Bits)⟩ : S_api_Encoded), ([7] : List Int), ([true] : List Bool)⟩ : S_api_Sent)] : List S_api_Sent), ([(⟨(⟨4, 1, ([(⟨0, ([] : List Int)⟩ : S_api_Bits)] : List S_api_Bits)⟩ : S_api_Encoded), ([7] : List Int), ([true] : List Bool)⟩ : S_api_Sent)] : List S_api_Sent)] : List (List S_api_Sent))) fun y1 y2 => (if (y2 == 0) = true then (if ((y1.length : Int) == 1) = true then (if (0 : Int) < (y1.length : Int) then (if (((y1.getD (0 + 0) dS_api_Candidate).Weight) == 3) = true then (if (((y1.getD (0 + 0) dS_api_Candidate).Pattern) == 0) = true then (if (((((y1.getD (0 + 0) dS_api_Candidate).B).Registry) == 1) && (((((y1.getD (0 + 0) dS_api_Candidate).B).ID) == 4) && true)) = true then ((candidate_Agree (⟨(⟨4, 1, ([(⟨0, ([] : List Int)⟩ : S_api_Bits)] : List S_api_Bits)⟩ : S_api_Encoded), ([7] : List Int), ([true] : List Bool)⟩ : S_api_Sent) (⟨(⟨4, 1, ([(⟨0, ([] : List Int)⟩ : S_api_Bits)] : List S_api_Bits)⟩ : S_api_Encoded), ([7] : List Int), ([true] : List Bool)⟩ : S_api_Sent)).bind fun y11 => (if y11 = true then ((candidate_Check 1 1 ([(⟨(⟨4, 1, ([(⟨0, ([] : List Int)⟩ : S_api_Bits)] : List S_api_Bits)⟩ : S_api_Encoded), ([7] : List Int), ([true] : List Bool)⟩ : S_api_Sent)] : List S_api_Sent)).bind fun y14 => (rl_law26_awake_k1 (y14 == 0))) else (rl_law26_awake_k1 false))) else (rl_law26_awake_k1 false)) else (rl_law26_awake_k1 false)) else (rl_law26_awake_k1 false)) else none) else (rl_law26_awake_k1 false)) else (rl_law26_awake_k1 false))
set_option maxRecDepth 100000 in
theorem rl_law26_awake_con (r : Bool) (h : rl_law26_awake = some r) : Con Try.prog 12 [] [] (vb r) [] := by
 refine con_of tt_ok0 0 Try.func12 (by kernel_rfl) rfl (by kernel_rfl) (fun base X _ => AW.post ?_)
 unfold rl_law26_awake at h
 refine AW.sg tt_ok0 [] [] [] 1 [] (by kernel_rfl) ?_
 refine AW.sg tt_ok0 [(1, .c (.ptr 7 5 0 0))] [2, 4, 5, 7] [(7, .box 44 [ci64 4, ci64 1, .ref 2 2 0 (([(⟨0, ([] : List Int)⟩ : S_api_Bits)] : List S_api_Bits).length), .ref 4 1 0 (([7] : List Int).length), .ref 5 1 0 (([true] : List Bool).length)]), (5, .row 4 false 1 ([true] : List Bool).length (Rb ([true] : List Bool))), (4, .row 45 false 1 ([7] : List Int).length (Ru64 ([7] : List Int))), (2, .row 84 false 2 ([(⟨0, ([] : List Int)⟩ : S_api_Bits)] : List S_api_Bits).length (RS_api_Bits ([(⟨0, ([] : List Int)⟩ : S_api_Bits)] : List S_api_Bits)))] 9 [hn, hr (([(⟨0, ([] : List Int)⟩ : S_api_Bits)] : List S_api_Bits).length) (RS_api_Bits ([(⟨0, ([] : List Int)⟩ : S_api_Bits)] : List S_api_Bits)) (p := 1 = ([(⟨0, ([] : List Int)⟩ : S_api_Bits)] : List S_api_Bits).length ∧ ∀ i, i < ([(⟨0, ([] : List Int)⟩ : S_api_Bits)] : List S_api_Bits).length → ∀ j, j < 2 → TLe ((rowOf [.v (.int .i64 0), .v (.slice none 0 0)] 2) i j) (RS_api_Bits ([(⟨0, ([] : List Int)⟩ : S_api_Bits)] : List S_api_Bits) i j)) (⟨rfl, lit_row (n := 1) (sz := 2) ⟨tv, ⟨⟨tv, TLe.refl _⟩, TLe.nil rfl⟩⟩⟩), hn, hlit 0 Eu64 1 (fun _ => rfl) ([7] : List Int), hlit false Eb 1 (fun _ => rfl) ([true] : List Bool)] (by kernel_rfl) ?_
 refine AW.seq ?_
 refine AW.pre (Conv.trans (cfz 2 84 2 (([(⟨0, ([] : List Int)⟩ : S_api_Bits)] : List S_api_Bits).length) (RS_api_Bits ([(⟨0, ([] : List Int)⟩ : S_api_Bits)] : List S_api_Bits)) (by kernel_rfl)) (conv_box (id := 7) (ty := 44) (cs := [ci64 4, ci64 1, .ref 2 2 0 (([(⟨0, ([] : List Int)⟩ : S_api_Bits)] : List S_api_Bits).length), .ref 4 1 0 (([7] : List Int).length), .ref 5 1 0 (([true] : List Bool).length)]) (ds := [ci64 4, ci64 1, cl 2 RS_api_Bits ([(⟨0, ([] : List Int)⟩ : S_api_Bits)] : List S_api_Bits), .ref 4 1 0 (([7] : List Int).length), .ref 5 1 0 (([true] : List Bool).length)]) (by kernel_rfl) ⟨CLe.refl _ _, CLe.refl _ _, CLe.ref (ty := 84) (f := RS_api_Bits ([(⟨0, ([] : List Int)⟩ : S_api_Bits)] : List S_api_Bits)) (by kernel_rfl) le0, CLe.refl _ _, CLe.refl _ _, tv⟩)) ?_
 refine AW.pre (Conv.trans (cfz 4 45 1 (([7] : List Int).length) (Ru64 ([7] : List Int)) (by kernel_rfl)) (conv_box (id := 7) (ty := 44) (cs := [ci64 4, ci64 1, cl 2 RS_api_Bits ([(⟨0, ([] : List Int)⟩ : S_api_Bits)] : List S_api_Bits), .ref 4 1 0 (([7] : List Int).length), .ref 5 1 0 (([true] : List Bool).length)]) (ds := [ci64 4, ci64 1, cl 2 RS_api_Bits ([(⟨0, ([] : List Int)⟩ : S_api_Bits)] : List S_api_Bits), cl 1 Ru64 ([7] : List Int), .ref 5 1 0 (([true] : List Bool).length)]) (by kernel_rfl) ⟨CLe.refl _ _, CLe.refl _ _, CLe.refl _ _, CLe.ref (ty := 45) (f := Ru64 ([7] : List Int)) (by kernel_rfl) le0, CLe.refl _ _, tv⟩)) ?_
 refine AW.pre (Conv.trans (cfz 5 4 1 (([true] : List Bool).length) (Rb ([true] : List Bool)) (by kernel_rfl)) (conv_box (id := 7) (ty := 44) (cs := [ci64 4, ci64 1, cl 2 RS_api_Bits ([(⟨0, ([] : List Int)⟩ : S_api_Bits)] : List S_api_Bits), cl 1 Ru64 ([7] : List Int), .ref 5 1 0 (([true] : List Bool).length)]) (ds := [ci64 4, ci64 1, cl 2 RS_api_Bits ([(⟨0, ([] : List Int)⟩ : S_api_Bits)] : List S_api_Bits), cl 1 Ru64 ([7] : List Int), cl 1 Rb ([true] : List Bool)]) (by kernel_rfl) ⟨CLe.refl _ _, CLe.refl _ _, CLe.refl _ _, CLe.refl _ _, CLe.ref (ty := 4) (f := Rb ([true] : List Bool)) (by kernel_rfl) le0, tv⟩)) ?_
 obtain ⟨y1, y2, e3, h⟩ := bind2_some h
 refine AW.rg tt_ok0 [(3, vi64 y2), (2, .c (.ref 18 6 0 y1.length))] [9, 10, 12, 14, 16, 17, 18] [(18, .row 49 false 6 y1.length (RS_api_Candidate y1))] 24 [hlit 0 Ei64 1 (fun _ => rfl) ([5] : List Int), hlit 0 Ei64 1 (fun _ => rfl) ([(-5)] : List Int), hn, hlit 0 Ei64 1 (fun _ => rfl) ([800] : List Int), hn, hz (hlit dS_api_Sent ES_api_Sent 5 (fun _ => rfl) ([(⟨(⟨4, 1, ([(⟨0, ([] : List Int)⟩ : S_api_Bits)] : List S_api_Bits)⟩ : S_api_Encoded), ([7] : List Int), ([true] : List Bool)⟩ : S_api_Sent)] : List S_api_Sent)) (([(⟨(⟨4, 1, ([(⟨0, ([] : List Int)⟩ : S_api_Bits)] : List S_api_Bits)⟩ : S_api_Encoded), ([7] : List Int), ([true] : List Bool)⟩ : S_api_Sent)] : List S_api_Sent).length), hn, hz (hlit dS_api_Sent ES_api_Sent 5 (fun _ => rfl) ([(⟨(⟨4, 1, ([(⟨0, ([] : List Int)⟩ : S_api_Bits)] : List S_api_Bits)⟩ : S_api_Encoded), ([7] : List Int), ([true] : List Bool)⟩ : S_api_Sent)] : List S_api_Sent)) (([(⟨(⟨4, 1, ([(⟨0, ([] : List Int)⟩ : S_api_Bits)] : List S_api_Bits)⟩ : S_api_Encoded), ([7] : List Int), ([true] : List Bool)⟩ : S_api_Sent)] : List S_api_Sent).length), hlit ([] : List S_api_Sent) ElS_api_Sent 1 (fun _ => rfl) ([([(⟨(⟨4, 1, ([(⟨0, ([] : List Int)⟩ : S_api_Bits)] : List S_api_Bits)⟩ : S_api_Encoded), ([7] : List Int), ([true] : List Bool)⟩ : S_api_Sent)] : List S_api_Sent), ([(⟨(⟨4, 1, ([(⟨0, ([] : List Int)⟩ : S_api_Bits)] : List S_api_Bits)⟩ : S_api_Encoded), ([7] : List Int), ([true] : List Bool)⟩ : S_api_Sent)] : List S_api_Sent)] : List (List S_api_Sent)), hg [] [] true 1 (q := ((True) ∧ (0 + ([5] : List Int).length ≤ ([5] : List Int).length) ∧ (0 + ([(-5)] : List Int).length ≤ ([(-5)] : List Int).length) ∧ (True)) ∧ (0 + ([800] : List Int).length ≤ ([800] : List Int).length) ∧ (True) ∧ (0 + ([([(⟨(⟨4, 1, ([(⟨0, ([] : List Int)⟩ : S_api_Bits)] : List S_api_Bits)⟩ : S_api_Encoded), ([7] : List Int), ([true] : List Bool)⟩ : S_api_Sent)] : List S_api_Sent), ([(⟨(⟨4, 1, ([(⟨0, ([] : List Int)⟩ : S_api_Bits)] : List S_api_Bits)⟩ : S_api_Encoded), ([7] : List Int), ([true] : List Bool)⟩ : S_api_Sent)] : List S_api_Sent)] : List (List S_api_Sent)).length ≤ ([([(⟨(⟨4, 1, ([(⟨0, ([] : List Int)⟩ : S_api_Bits)] : List S_api_Bits)⟩ : S_api_Encoded), ([7] : List Int), ([true] : List Bool)⟩ : S_api_Sent)] : List S_api_Sent), ([(⟨(⟨4, 1, ([(⟨0, ([] : List Int)⟩ : S_api_Bits)] : List S_api_Bits)⟩ : S_api_Encoded), ([7] : List Int), ([true] : List Bool)⟩ : S_api_Sent)] : List S_api_Sent)] : List (List S_api_Sent)).length) ∧ (True)) ⟨⟨tv, le0, le0, tv⟩, le0, tv, le0, tv⟩ (a0 := [.agg [ci64 3, cl 1 Ri64 ([5] : List Int), cl 1 Ri64 ([(-5)] : List Int)], vl 1 Ri64 ([800] : List Int), vi64 1, vl 1 RlS_api_Sent ([([(⟨(⟨4, 1, ([(⟨0, ([] : List Int)⟩ : S_api_Bits)] : List S_api_Bits)⟩ : S_api_Encoded), ([7] : List Int), ([true] : List Bool)⟩ : S_api_Sent)] : List S_api_Sent), ([(⟨(⟨4, 1, ([(⟨0, ([] : List Int)⟩ : S_api_Bits)] : List S_api_Bits)⟩ : S_api_Encoded), ([7] : List Int), ([true] : List Bool)⟩ : S_api_Sent)] : List S_api_Sent)] : List (List S_api_Sent))]) (candidate_Make_con (⟨3, ([5] : List Int), ([(-5)] : List Int)⟩ : S_api_Weights) ([800] : List Int) 1 ([([(⟨(⟨4, 1, ([(⟨0, ([] : List Int)⟩ : S_api_Bits)] : List S_api_Bits)⟩ : S_api_Encoded), ([7] : List Int), ([true] : List Bool)⟩ : S_api_Sent)] : List S_api_Sent), ([(⟨(⟨4, 1, ([(⟨0, ([] : List Int)⟩ : S_api_Bits)] : List S_api_Bits)⟩ : S_api_Encoded), ([7] : List Int), ([true] : List Bool)⟩ : S_api_Sent)] : List S_api_Sent)] : List (List S_api_Sent)) (y1, y2) e3) ⟨ArgLe.refl _, ArgLe.refl _, ArgLe.refl _, ArgLe.refl _, tv⟩ (fun _ => ⟨rowL_flat VS_api_Candidate _ _ _, tv⟩)] (by kernel_rfl) ?_
 refine AW.tn (AW.seq ?_)
 refine AW.join (ι := Bool) (fun v => ⟨[(0, vb v)], [], 0⟩) (fun v : Bool => rl_law26_awake_k1 v = some r) (fun x4 h => ?_) ?_
 ·
  unfold rl_law26_awake_k1 at h
  refine AW.tn (AW.ret ?_)
  obtain rfl := some_inj h
  exact fn0 (.inr rfl) [] 0 (vb x4) (by kernel_rfl)
 ·
  rcases ifs h with ⟨c5, h⟩ | ⟨c5, h⟩
  ·
   rcases ifs h with ⟨c6, h⟩ | ⟨c6, h⟩
   ·
    obtain ⟨g7, h⟩ := ifc h
    rcases ifs h with ⟨c8, h⟩ | ⟨c8, h⟩
    ·
     rcases ifs h with ⟨c9, h⟩ | ⟨c9, h⟩
     ·
      rcases ifs h with ⟨c10, h⟩ | ⟨c10, h⟩
      ·
       obtain ⟨y11, e12, h⟩ := bnd_some h
       rcases ifs h with ⟨c13, hs⟩ | ⟨c13, hs⟩
       ·clear h; subst c13; have h := hs; clear hs
        obtain ⟨y14, e15, h⟩ := bnd_some h
        refine AW.rg tt_ok0 [(0, vb (y14 == 0))] [59] [] 63 [hn, ht c5, hn, hn, hn, ht c6, hn, hn, hn, ho (p := (0 ≤ (0 : Int)) ∧ ((0 : Int) < (y1.length : Int))) (⟨(by decide), g7⟩), hn, ho (p := (0 + 0) < y1.length) (by have h1 : 0 ≤ (0 : Int) := (by decide); have h2 : (0 : Int) < (y1.length : Int) := g7; omega), ht c8, hn, hn, hn, ho (p := (0 ≤ (0 : Int)) ∧ ((0 : Int) < (y1.length : Int))) (⟨(by decide), g7⟩), hn, ho (p := (0 + 0) < y1.length) (by have h1 : 0 ≤ (0 : Int) := (by decide); have h2 : (0 : Int) < (y1.length : Int) := g7; omega), ht c9, hn, hn, hn, ho (p := (0 ≤ (0 : Int)) ∧ ((0 : Int) < (y1.length : Int))) (⟨(by decide), g7⟩), hn, ho (p := (0 + 0) < y1.length) (by have h1 : 0 ≤ (0 : Int) := (by decide); have h2 : (0 : Int) < (y1.length : Int) := g7; omega), hn, ht c10, hn, hn, hn, hn, hk (candidate_Agree_con (⟨(⟨4, 1, ([(⟨0, ([] : List Int)⟩ : S_api_Bits)] : List S_api_Bits)⟩ : S_api_Encoded), ([7] : List Int), ([true] : List Bool)⟩ : S_api_Sent) (⟨(⟨4, 1, ([(⟨0, ([] : List Int)⟩ : S_api_Bits)] : List S_api_Bits)⟩ : S_api_Encoded), ([7] : List Int), ([true] : List Bool)⟩ : S_api_Sent) true e12), hn, hn, hn, hlit dS_api_Sent ES_api_Sent 5 (fun _ => rfl) ([(⟨(⟨4, 1, ([(⟨0, ([] : List Int)⟩ : S_api_Bits)] : List S_api_Bits)⟩ : S_api_Encoded), ([7] : List Int), ([true] : List Bool)⟩ : S_api_Sent)] : List S_api_Sent), hg [] [] true 0 (q := (True) ∧ (True) ∧ (0 + ([(⟨(⟨4, 1, ([(⟨0, ([] : List Int)⟩ : S_api_Bits)] : List S_api_Bits)⟩ : S_api_Encoded), ([7] : List Int), ([true] : List Bool)⟩ : S_api_Sent)] : List S_api_Sent).length ≤ ([(⟨(⟨4, 1, ([(⟨0, ([] : List Int)⟩ : S_api_Bits)] : List S_api_Bits)⟩ : S_api_Encoded), ([7] : List Int), ([true] : List Bool)⟩ : S_api_Sent)] : List S_api_Sent).length) ∧ (True)) ⟨tv, tv, le0, tv⟩ (a0 := [vi64 1, vi64 1, vl 5 RS_api_Sent ([(⟨(⟨4, 1, ([(⟨0, ([] : List Int)⟩ : S_api_Bits)] : List S_api_Bits)⟩ : S_api_Encoded), ([7] : List Int), ([true] : List Bool)⟩ : S_api_Sent)] : List S_api_Sent)]) (candidate_Check_con 1 1 ([(⟨(⟨4, 1, ([(⟨0, ([] : List Int)⟩ : S_api_Bits)] : List S_api_Bits)⟩ : S_api_Encoded), ([7] : List Int), ([true] : List Bool)⟩ : S_api_Sent)] : List S_api_Sent) y14 e15) ⟨ArgLe.refl _, ArgLe.refl _, ArgLe.refl _, tv⟩ (fun _ => tv)] (by kernel_rfl) ?_
        exact jl (y14 == 0) h (conv_re [] (by kernel_rfl))
       ·clear h; subst c13; have h := hs; clear hs
        refine AW.rg tt_ok0 [(0, vb false)] [] [] 64 [hn, ht c5, hn, hn, hn, ht c6, hn, hn, hn, ho (p := (0 ≤ (0 : Int)) ∧ ((0 : Int) < (y1.length : Int))) (⟨(by decide), g7⟩), hn, ho (p := (0 + 0) < y1.length) (by have h1 : 0 ≤ (0 : Int) := (by decide); have h2 : (0 : Int) < (y1.length : Int) := g7; omega), ht c8, hn, hn, hn, ho (p := (0 ≤ (0 : Int)) ∧ ((0 : Int) < (y1.length : Int))) (⟨(by decide), g7⟩), hn, ho (p := (0 + 0) < y1.length) (by have h1 : 0 ≤ (0 : Int) := (by decide); have h2 : (0 : Int) < (y1.length : Int) := g7; omega), ht c9, hn, hn, hn, ho (p := (0 ≤ (0 : Int)) ∧ ((0 : Int) < (y1.length : Int))) (⟨(by decide), g7⟩), hn, ho (p := (0 + 0) < y1.length) (by have h1 : 0 ≤ (0 : Int) := (by decide); have h2 : (0 : Int) < (y1.length : Int) := g7; omega), hn, ht c10, hn, hn, hn, hn, hk (candidate_Agree_con (⟨(⟨4, 1, ([(⟨0, ([] : List Int)⟩ : S_api_Bits)] : List S_api_Bits)⟩ : S_api_Encoded), ([7] : List Int), ([true] : List Bool)⟩ : S_api_Sent) (⟨(⟨4, 1, ([(⟨0, ([] : List Int)⟩ : S_api_Bits)] : List S_api_Bits)⟩ : S_api_Encoded), ([7] : List Int), ([true] : List Bool)⟩ : S_api_Sent) false e12)] (by kernel_rfl) ?_
        exact jl false h (conv_re [] (by kernel_rfl))
      ·
       refine AW.rg tt_ok0 [(0, vb false)] [] [] 65 [hn, ht c5, hn, hn, hn, ht c6, hn, hn, hn, ho (p := (0 ≤ (0 : Int)) ∧ ((0 : Int) < (y1.length : Int))) (⟨(by decide), g7⟩), hn, ho (p := (0 + 0) < y1.length) (by have h1 : 0 ≤ (0 : Int) := (by decide); have h2 : (0 : Int) < (y1.length : Int) := g7; omega), ht c8, hn, hn, hn, ho (p := (0 ≤ (0 : Int)) ∧ ((0 : Int) < (y1.length : Int))) (⟨(by decide), g7⟩), hn, ho (p := (0 + 0) < y1.length) (by have h1 : 0 ≤ (0 : Int) := (by decide); have h2 : (0 : Int) < (y1.length : Int) := g7; omega), ht c9, hn, hn, hn, ho (p := (0 ≤ (0 : Int)) ∧ ((0 : Int) < (y1.length : Int))) (⟨(by decide), g7⟩), hn, ho (p := (0 + 0) < y1.length) (by have h1 : 0 ≤ (0 : Int) := (by decide); have h2 : (0 : Int) < (y1.length : Int) := g7; omega), hn, hf c10] (by kernel_rfl) ?_
       exact jl false h (conv_re [] (by kernel_rfl))
     ·
      refine AW.rg tt_ok0 [(0, vb false)] [] [] 65 [hn, ht c5, hn, hn, hn, ht c6, hn, hn, hn, ho (p := (0 ≤ (0 : Int)) ∧ ((0 : Int) < (y1.length : Int))) (⟨(by decide), g7⟩), hn, ho (p := (0 + 0) < y1.length) (by have h1 : 0 ≤ (0 : Int) := (by decide); have h2 : (0 : Int) < (y1.length : Int) := g7; omega), ht c8, hn, hn, hn, ho (p := (0 ≤ (0 : Int)) ∧ ((0 : Int) < (y1.length : Int))) (⟨(by decide), g7⟩), hn, ho (p := (0 + 0) < y1.length) (by have h1 : 0 ≤ (0 : Int) := (by decide); have h2 : (0 : Int) < (y1.length : Int) := g7; omega), hf c9] (by kernel_rfl) ?_
      exact jl false h (conv_re [] (by kernel_rfl))
    ·
     refine AW.rg tt_ok0 [(0, vb false)] [] [] 65 [hn, ht c5, hn, hn, hn, ht c6, hn, hn, hn, ho (p := (0 ≤ (0 : Int)) ∧ ((0 : Int) < (y1.length : Int))) (⟨(by decide), g7⟩), hn, ho (p := (0 + 0) < y1.length) (by have h1 : 0 ≤ (0 : Int) := (by decide); have h2 : (0 : Int) < (y1.length : Int) := g7; omega), hf c8] (by kernel_rfl) ?_
     exact jl false h (conv_re [] (by kernel_rfl))
   ·
    refine AW.rg tt_ok0 [(0, vb false)] [] [] 65 [hn, ht c5, hn, hn, hn, hf c6] (by kernel_rfl) ?_
    exact jl false h (conv_re [] (by kernel_rfl))
  ·
   refine AW.rg tt_ok0 [(0, vb false)] [] [] 65 [hn, hf c5] (by kernel_rfl) ?_
   exact jl false h (conv_re [] (by kernel_rfl))
/-! recordlink/recordlinkmake.Few -/
noncomputable def rl_make_Few (p0 : List Int) : Option Bool := some (decide ((p0.length : Int) ≤ 400))
set_option maxRecDepth 100000 in
theorem rl_make_Few_con (p0 : List Int) (r : Bool) (h : rl_make_Few p0 = some r) : Con Try.prog 13 [vl 1 Ri64 p0] [] (vb r) [] := by
 refine con_of tt_ok0 0 Try.func13 (by kernel_rfl) rfl (by kernel_rfl) (fun base X _ => AW.post ?_)
 unfold rl_make_Few at h
 refine AW.sg tt_ok0 [] [] [] 1 [] (by kernel_rfl) ?_
 refine AW.sg tt_ok0 [(2, vb (decide ((p0.length : Int) ≤ 400)))] [] [] 5 [] (by kernel_rfl) ?_
 refine AW.ret ?_
 obtain rfl := some_inj h
 exact fn0 (.inr rfl) [] 0 (vb (decide ((p0.length : Int) ≤ 400))) (by kernel_rfl)
/-! recordlink/recordlinklaw26.small -/
noncomputable def rl_law26_small_l3 (p0 : List S_api_Sent) (x3 : Int) (x10 : Int) : Option (Int ⊕ (Unit ⊕ Unit)) := if (decide (x10 < (((((p0.getD x3.toNat dS_api_Sent).Record).Fields).length : Nat) : Int))) = true then (if 0 ≤ x10 then (if x10 < (((((p0.getD x3.toNat dS_api_Sent).Record).Fields).length : Nat) : Int) then (if (decide ((((((((p0.getD x3.toNat dS_api_Sent).Record).Fields).getD x10.toNat dS_api_Bits).Words).length : Nat) : Int) > 20)) = true then (some (.inr (.inr ()))) else (some (.inl (i64.wrap (x10 + 1))))) else none) else none) else (some (.inr (.inl ())))
noncomputable def rl_law26_small_a4 (x3 : Int) : Option (Int ⊕ (Unit ⊕ Unit)) := some (.inl (i64.wrap (x3 + 1)))
noncomputable def rl_law26_small_a5 : Option (Int ⊕ (Unit ⊕ Unit)) := some (.inr (.inr ()))
noncomputable def rl_law26_small_k2 (p0 : List S_api_Sent) (x3 : Int) (x5 : Bool) : Option (Int ⊕ (Unit ⊕ Unit)) := if x5 = true then (some (.inr (.inr ()))) else (if 0 ≤ x3 then (if x3 < (p0.length : Int) then (bindE (loop (fun v : Int => rl_law26_small_l3 p0 x3 v) 0) (fun t => rl_law26_small_a4 x3) (fun t => rl_law26_small_a5)) else none) else none)
noncomputable def rl_law26_small_l1 (p0 : List S_api_Sent) (x3 : Int) : Option (Int ⊕ (Unit ⊕ Unit)) := if (decide (x3 < (p0.length : Int))) = true then (if 0 ≤ x3 then (if x3 < (p0.length : Int) then (if (decide ((((((p0.getD x3.toNat dS_api_Sent).Record).Fields).length : Nat) : Int) > 8)) = true then (rl_law26_small_k2 p0 x3 true) else (if (decide (((((p0.getD x3.toNat dS_api_Sent).Hashes).length : Nat) : Int) > 12)) = true then (rl_law26_small_k2 p0 x3 true) else (rl_law26_small_k2 p0 x3 (decide (((((p0.getD x3.toNat dS_api_Sent).Has).length : Nat) : Int) > 12))))) else none) else none) else (some (.inr (.inl ())))
noncomputable def rl_law26_small_a6 : Option Bool := some true
noncomputable def rl_law26_small_a7 : Option Bool := some false
noncomputable def rl_law26_small (p0 : List S_api_Sent) : Option Bool := if (decide ((p0.length : Int) > 80)) = true then (some false) else (bindE (loop (fun v : Int => rl_law26_small_l1 p0 v) 0) (fun t => rl_law26_small_a6) (fun t => rl_law26_small_a7))
set_option maxRecDepth 100000 in
theorem rl_law26_small_con (p0 : List S_api_Sent) (r : Bool) (h : rl_law26_small p0 = some r) : Con Try.prog 20 [vl 5 RS_api_Sent p0] [] (vb r) [] := by
 refine con_of tt_ok0 0 Try.func20 (by kernel_rfl) rfl (by kernel_rfl) (fun base X _ => AW.post ?_)
 unfold rl_law26_small at h
 refine AW.sg tt_ok0 [] [] [] 1 [] (by kernel_rfl) ?_
 refine AW.seq ?_
 refine AW.sg tt_ok0 [(7, vb (decide ((p0.length : Int) > 80)))] [] [] 4 [] (by kernel_rfl) ?_
 refine AW.co h (by kernel_rfl) (fun c1 h => ?_) (fun c1 h => ?_)
 ·
  refine AW.sg tt_ok0 [(2, vb false)] [] [] 5 [] (by kernel_rfl) ?_
  refine AW.ret (AW.tr ?_)
  obtain rfl := some_inj h
  exact fn0 (.inr rfl) [] 0 (vb false) (by kernel_rfl)
 ·
  refine AW.skip (AW.tn (AW.seq ?_))
  refine AW.sg tt_ok0 [(10, vi64 0), (9, vi64 (p0.length : Int))] [] [] 7 [] (by kernel_rfl) ?_
  refine AW.block ?_
  refine AW.lpE h (fun v => ⟨[(0, vl 5 RS_api_Sent p0), (9, vi64 (p0.length : Int)), (10, vi64 v)], [], 0⟩) (fun t => (.exit 0, ⟨[], [], 0⟩)) (fun t => (.ret, ⟨[(2, vb false)], [], 0⟩)) (conv_re [] (by kernel_rfl)) (fun _ => tv) (fun _ => tv) ?_ (fun t h => ?_) (fun t h => ?_)
  ·
   clear h
   intro x3 o h
   unfold rl_law26_small_l1 at h
   refine AW.sg tt_ok0 [(11, vb (decide (x3 < (p0.length : Int))))] [] [] 1 [] (by kernel_rfl) ?_
   refine AW.seq ?_
   refine AW.co h (by kernel_rfl) (fun c4 h => ?_) (fun c4 h => ?_)
   ·
    refine AW.skip (AW.tn ?_)
    refine AW.seq (AW.block ?_)
    refine AW.sg tt_ok0 [(3, vi64 x3)] [] [] 3 [] (by kernel_rfl) ?_
    refine AW.seq (AW.seq ?_)
    refine AW.join (ι := Bool) (fun v => ⟨[(0, vl 5 RS_api_Sent p0), (3, vi64 x3), (9, vi64 (p0.length : Int)), (10, vi64 x3), (38, vb v)], [], 0⟩) (fun v : Bool => rl_law26_small_k2 p0 x3 v = some o) (fun x5 h => ?_) ?_
    ·
     unfold rl_law26_small_k2 at h
     refine AW.tn ?_
     refine AW.co h (by kernel_rfl) (fun c6 h => ?_) (fun c6 h => ?_)
     ·
      refine AW.sg tt_ok0 [(2, vb false)] [] [] 1 [] (by kernel_rfl) ?_
      refine AW.ret (AW.tr ?_)
      refine AW.inBlock_ret (AW.tr ?_)
      exact lpo h rfl (conv_re [] (by kernel_rfl))
     ·
      refine AW.skip (AW.tn ?_)
      obtain ⟨g7, g8, h⟩ := ifd h
      refine AW.sg tt_ok0 [(46, vi64 0), (45, vi64 (((((p0.getD x3.toNat dS_api_Sent).Record).Fields).length : Nat) : Int))] [] [] 8 [hn, hn, hq g7 g8] (by kernel_rfl) ?_
      refine AW.block ?_
      refine AW.lpE h (fun v => ⟨[(0, vl 5 RS_api_Sent p0), (3, vi64 x3), (9, vi64 (p0.length : Int)), (10, vi64 x3), (45, vi64 (((((p0.getD x3.toNat dS_api_Sent).Record).Fields).length : Nat) : Int)), (46, vi64 v)], [], 0⟩) (fun t => (.exit 2, ⟨[(0, vl 5 RS_api_Sent p0), (9, vi64 (p0.length : Int)), (10, vi64 x3)], [], 0⟩)) (fun t => (.ret, ⟨[(2, vb false)], [], 0⟩)) (conv_re [] (by kernel_rfl)) (fun _ => tv) (fun _ => tv) ?_ (fun t h => ?_) (fun t h => ?_)
      ·
       clear h
       intro x10 o h
       unfold rl_law26_small_l3 at h
       refine AW.sg tt_ok0 [(47, vb (decide (x10 < (((((p0.getD x3.toNat dS_api_Sent).Record).Fields).length : Nat) : Int))))] [] [] 1 [] (by kernel_rfl) ?_
       refine AW.seq ?_
       refine AW.co h (by kernel_rfl) (fun c11 h => ?_) (fun c11 h => ?_)
       ·
        refine AW.skip (AW.tn ?_)
        refine AW.seq (AW.block ?_)
        refine AW.sg tt_ok0 [(4, vi64 x10)] [] [] 3 [] (by kernel_rfl) ?_
        obtain ⟨g12, g13, h⟩ := ifd h
        refine AW.sg tt_ok0 [(60, vb (decide ((((((((p0.getD x3.toNat dS_api_Sent).Record).Fields).getD x10.toNat dS_api_Bits).Words).length : Nat) : Int) > 20)))] [] [] 15 [hn, hn, hq g7 g8, hn, hn, hn, hn, hq g12 g13] (by kernel_rfl) ?_
        refine AW.co h (by kernel_rfl) (fun c14 h => ?_) (fun c14 h => ?_)
        ·
         refine AW.sg tt_ok0 [(2, vb false)] [] [] 16 [] (by kernel_rfl) ?_
         refine AW.ret (AW.inBlock_ret (AW.tr ?_))
         exact lpo h rfl (conv_re [] (by kernel_rfl))
        ·
         refine AW.skip (AW.inBlock_normal (AW.tn ?_))
         refine AW.rg tt_ok0 [(46, vi64 (i64.wrap (x10 + 1)))] [] [] 17 [] (by kernel_rfl) ?_
         exact lpn h (conv_re [] (by kernel_rfl))
       ·
        refine AW.exit (AW.thenQ_exit ?_)
        exact lpo h rfl (conv_re [] (by kernel_rfl))
      ·
       replace h : rl_law26_small_a4 x3 = some o := h
       unfold rl_law26_small_a4 at h
       show (_ : Exit → St → Prop) (.exit 2) _
       refine AW.inBlock_hit (AW.inBlock_normal (AW.tn ?_))
       refine AW.rg tt_ok0 [(10, vi64 (i64.wrap (x3 + 1)))] [] [] 2 [] (by kernel_rfl) ?_
       exact lpn h (conv_re [] (by kernel_rfl))
      ·
       replace h : rl_law26_small_a5 = some o := h
       unfold rl_law26_small_a5 at h
       show (_ : Exit → St → Prop) (.ret) _
       refine AW.inBlock_ret (AW.inBlock_ret (AW.tr ?_))
       exact lpo h rfl (conv_re [] (by kernel_rfl))
    ·
     obtain ⟨g16, g17, h⟩ := ifd h
     rcases ifs h with ⟨c18, h⟩ | ⟨c18, h⟩
     ·
      refine AW.rg tt_ok0 [(38, vb true)] [] [] 29 [hn, hn, hq g16 g17, hn, hn, hn, hn, ht c18] (by kernel_rfl) ?_
      exact jl true h (conv_re [] (by kernel_rfl))
     ·
      rcases ifs h with ⟨c19, h⟩ | ⟨c19, h⟩
      ·
       refine AW.rg tt_ok0 [(38, vb true)] [] [] 29 [hn, hn, hq g16 g17, hn, hn, hn, hn, hf c18, hn, hn, hn, hq g16 g17, hn, hn, hn, ht c19] (by kernel_rfl) ?_
       exact jl true h (conv_re [] (by kernel_rfl))
      ·
       refine AW.rg tt_ok0 [(38, vb (decide (((((p0.getD x3.toNat dS_api_Sent).Has).length : Nat) : Int) > 12)))] [] [] 29 [hn, hn, hq g16 g17, hn, hn, hn, hn, hf c18, hn, hn, hn, hq g16 g17, hn, hn, hn, hf c19, hn, hn, hn, hn, hq g16 g17] (by kernel_rfl) ?_
       exact jl (decide (((((p0.getD x3.toNat dS_api_Sent).Has).length : Nat) : Int) > 12)) h (conv_re [] (by kernel_rfl))
   ·
    refine AW.exit (AW.thenQ_exit ?_)
    exact lpo h rfl (conv_re [] (by kernel_rfl))
  ·
   replace h : rl_law26_small_a6 = some r := h
   unfold rl_law26_small_a6 at h
   show (_ : Exit → St → Prop) (.exit 0) _
   refine AW.inBlock_hit (AW.tn ?_)
   refine AW.sg tt_ok0 [(2, vb true)] [] [] 1 [] (by kernel_rfl) ?_
   refine AW.ret ?_
   obtain rfl := some_inj h
   exact fn0 (.inr rfl) [] 0 (vb true) (by kernel_rfl)
  ·
   replace h : rl_law26_small_a7 = some r := h
   unfold rl_law26_small_a7 at h
   show (_ : Exit → St → Prop) (.ret) _
   refine AW.inBlock_ret (AW.tr ?_)
   obtain rfl := some_inj h
   exact fn0 (.inr rfl) [] 0 (vb false) (by kernel_rfl)
structure S_recordlinkmake_Deck where
 list : List Int
 at_ : Int
 state : Int
def dS_recordlinkmake_Deck : S_recordlinkmake_Deck := ⟨([] : List Int), 0, 0⟩
instance : Inhabited S_recordlinkmake_Deck := ⟨dS_recordlinkmake_Deck⟩
/-! recordlink/recordlinkmake.New -/
noncomputable def rl_make_New (p0 : List Int) : Option S_recordlinkmake_Deck := some (⟨p0, 0, 11400714819323198485⟩ : S_recordlinkmake_Deck)
set_option maxRecDepth 100000 in
theorem rl_make_New_con (p0 : List Int) (r : S_recordlinkmake_Deck) (h : rl_make_New p0 = some r) : Con Try.prog 14 [vl 1 Ri64 p0] [] (.c (.ptr 0 3 0 0)) [(0, .box 86 [cl 1 Ri64 r.list, ci64 r.at_, cu64 r.state])] := by
 refine con_of tt_ok0 0 Try.func14 (by kernel_rfl) rfl (by kernel_rfl) (fun base X _ => AW.post ?_)
 unfold rl_make_New at h
 refine AW.sg tt_ok0 [] [] [] 1 [] (by kernel_rfl) ?_
 refine AW.sg tt_ok0 [(2, .c (.ptr 3 3 0 0))] [3] [(3, .box 86 [cl 1 Ri64 p0, ci64 0, cu64 11400714819323198485])] 5 [] (by kernel_rfl) ?_
 refine AW.ret ?_
 obtain rfl := some_inj h
 exact fn0 (.inr rfl) [(0, 3)] 1 (.c (.ptr 3 3 0 0)) (by kernel_rfl)
/-! (*recordlink/recordlinkmake.Deck).Word -/
noncomputable def rl_make_Deck_Word_k1 (p0 : S_recordlinkmake_Deck) (x1 : Int) (x2 : Int) : Option (Int × S_recordlinkmake_Deck) := (some (u64.wrap ((u64.wrap ((u64.wrap (p0.state + x1)) * 6364136223846793005)) + 1442695040888963407))).bind fun z3 => ((some (u64.wrap ((ixor .u64 z3 (ishr .u64 z3 33)) * 18397679294719823053))).bind fun z5 => (some (ixor .u64 z5 (ishr .u64 z5 29), (⟨p0.list, x2, z3⟩ : S_recordlinkmake_Deck))))
noncomputable def rl_make_Deck_Word (p0 : S_recordlinkmake_Deck) : Option (Int × S_recordlinkmake_Deck) := if (decide (p0.at_ < ((p0.list.length : Nat) : Int))) = true then (if 0 ≤ p0.at_ then (if p0.at_ < ((p0.list.length : Nat) : Int) then (rl_make_Deck_Word_k1 p0 (u64.wrap (p0.list.getD p0.at_.toNat 0)) (i64.wrap (p0.at_ + 1))) else none) else none) else (rl_make_Deck_Word_k1 p0 0 p0.at_)
set_option maxRecDepth 100000 in
theorem rl_make_Deck_Word_con (p0 : S_recordlinkmake_Deck) (r : Int × S_recordlinkmake_Deck) (h : rl_make_Deck_Word p0 = some r) : Con Try.prog 50 [.c (.ptr 0 3 0 0)] [(0, .box 86 [cl 1 Ri64 p0.list, ci64 p0.at_, cu64 p0.state])] (vu64 r.1) [(0, .box 86 [cl 1 Ri64 r.2.list, ci64 r.2.at_, cu64 r.2.state])] := by
 refine con_of tt_ok0 1 Try.func50 (by kernel_rfl) rfl (by kernel_rfl) (fun base X _ => AW.post ?_)
 unfold rl_make_Deck_Word at h
 refine AW.sg tt_ok0 [] [] [] 2 [] (by kernel_rfl) ?_
 refine AW.sg tt_ok0 [(3, vu64 0)] [] [] 3 [] (by kernel_rfl) ?_
 refine AW.seq ?_
 refine AW.join (ι := Int × Int) (fun v => ⟨[(0, .c (.ptr 0 3 0 0)), (3, vu64 v.1)], [(0, .box 86 [cl 1 Ri64 p0.list, ci64 v.2, cu64 p0.state])], 1⟩) (fun v : Int × Int => rl_make_Deck_Word_k1 p0 v.1 v.2 = some r) (fun v h => ?_) ?_
 ·
  obtain ⟨x1, x2⟩ := v
  replace h : rl_make_Deck_Word_k1 p0 x1 x2 = some r := h
  unfold rl_make_Deck_Word_k1 at h
  refine AW.tn ?_
  obtain ⟨z3, n4, h⟩ := bnd_some h
  replace n4 := some_inj n4
  refine AW.sg tt_ok0 [] [0] [(0, .box 86 [cl 1 Ri64 p0.list, ci64 x2, cu64 z3])] 13 [] (by subst n4; kernel_rfl) ?_
  refine AW.sd tt_ok0 mo0 [] [(4, vu64 (ixor .u64 z3 (ishr .u64 z3 33)))] [] 24 [hn, hn, hn, hn, hn, hn, hn, hn, ho (p := 0 ≤ (33 : Int)) (by decide)] (by kernel_rfl) ?_
  obtain ⟨z5, n6, h⟩ := bnd_some h
  replace n6 := some_inj n6
  refine AW.sg tt_ok0 [(4, vu64 z5)] [] [] 27 [] (by subst n6; kernel_rfl) ?_
  refine AW.sg tt_ok0 [(2, vu64 (ixor .u64 z5 (ishr .u64 z5 29)))] [] [] 32 [hn, hn, ho (p := 0 ≤ (29 : Int)) (by decide)] (by kernel_rfl) ?_
  refine AW.ret ?_
  obtain rfl := some_inj h
  exact fn0 (.inr rfl) [(0, 0)] 1 (vu64 (ixor .u64 z5 (ishr .u64 z5 29))) (by kernel_rfl)
 ·
  refine AW.sd tt_ok0 mo0 [] [(14, vb (decide (p0.at_ < ((p0.list.length : Nat) : Int))))] [] 13 [] (by kernel_rfl) ?_
  refine AW.co h (by kernel_rfl) (fun c7 h => ?_) (fun c7 h => ?_)
  ·
   obtain ⟨g8, g9, h⟩ := ifd h
   refine AW.sd tt_ok0 mo0 [] [(3, vu64 (u64.wrap (p0.list.getD p0.at_.toNat 0)))] [] 25 [hn, hn, hn, hn, hn, hn, hn, hn, hq g8 g9] (by kernel_rfl) ?_
   refine AW.rg tt_ok0 [] [0] [(0, .box 86 [cl 1 Ri64 p0.list, ci64 (i64.wrap (p0.at_ + 1)), cu64 p0.state])] 33 [] (by kernel_rfl) ?_
   exact jl (u64.wrap (p0.list.getD p0.at_.toNat 0), i64.wrap (p0.at_ + 1)) h (conv_re [(0, 0)] (by kernel_rfl))
  ·
   refine AW.skip ?_
   exact jl (0, p0.at_) h (conv_re [(0, 0)] (by kernel_rfl))
/-! (*recordlink/recordlinkmake.Deck).Next -/
noncomputable def rl_make_Deck_Next (p0 : S_recordlinkmake_Deck) (p1 : Int) : Option (Int × S_recordlinkmake_Deck) := if (decide (p1 < 1)) = true then (some (0, p0)) else (bind2 (rl_make_Deck_Word p0) fun y2 y3 => (if p1 ≠ 0 then (some (((i64.wrap (ishr .u64 y2 1)).tmod p1), y3)) else none))
set_option maxRecDepth 100000 in
theorem rl_make_Deck_Next_con (p0 : S_recordlinkmake_Deck) (p1 : Int) (r : Int × S_recordlinkmake_Deck) (h : rl_make_Deck_Next p0 p1 = some r) : Con Try.prog 15 [.c (.ptr 0 3 0 0), vi64 p1] [(0, .box 86 [cl 1 Ri64 p0.list, ci64 p0.at_, cu64 p0.state])] (vi64 r.1) [(0, .box 86 [cl 1 Ri64 r.2.list, ci64 r.2.at_, cu64 r.2.state])] := by
 refine con_of tt_ok0 1 Try.func15 (by kernel_rfl) rfl (by kernel_rfl) (fun base X _ => AW.post ?_)
 unfold rl_make_Deck_Next at h
 refine AW.sg tt_ok0 [] [] [] 2 [] (by kernel_rfl) ?_
 refine AW.seq ?_
 refine AW.sg tt_ok0 [(6, vb (decide (p1 < 1)))] [] [] 4 [] (by kernel_rfl) ?_
 refine AW.co h (by kernel_rfl) (fun c1 h => ?_) (fun c1 h => ?_)
 ·
  refine AW.sg tt_ok0 [(4, vi64 0)] [] [] 5 [] (by kernel_rfl) ?_
  refine AW.ret (AW.tr ?_)
  obtain rfl := some_inj h
  exact fn0 (.inr rfl) [(0, 0)] 1 (vi64 0) (by kernel_rfl)
 ·
  refine AW.skip (AW.tn ?_)
  obtain ⟨y2, y3, e4, h⟩ := bind2_some h
  obtain ⟨g5, h⟩ := ifc h
  refine AW.sg tt_ok0 [(4, vi64 ((i64.wrap (ishr .u64 y2 1)).tmod p1))] [0] [(0, .box 86 [cl 1 Ri64 y3.list, ci64 y3.at_, cu64 y3.state])] 10 [hn, hl [0] [] 0 (rl_make_Deck_Word_con p0 (y2, y3) e4), ho (p := 0 ≤ (1 : Int)) (by decide), hn, hn, ho g5] (by kernel_rfl) ?_
  refine AW.ret ?_
  obtain rfl := some_inj h
  exact fn0 (.inr rfl) [(0, 0)] 1 (vi64 ((i64.wrap (ishr .u64 y2 1)).tmod p1)) (by kernel_rfl)
/-! recordlink/recordlinkplay.Range -/
noncomputable def rl_play_Range (p0 : S_recordlinkmake_Deck) (p1 : Int) (p2 : Int) : Option (Int × S_recordlinkmake_Deck) := bind2 (rl_make_Deck_Next p0 (i64.wrap ((i64.wrap (p2 - p1)) + 1))) fun y1 y2 => (some (i64.wrap (p1 + y1), y2))
set_option maxRecDepth 100000 in
theorem rl_play_Range_con (p0 : S_recordlinkmake_Deck) (p1 : Int) (p2 : Int) (r : Int × S_recordlinkmake_Deck) (h : rl_play_Range p0 p1 p2 = some r) : Con Try.prog 54 [.c (.ptr 0 3 0 0), vi64 p1, vi64 p2] [(0, .box 86 [cl 1 Ri64 p0.list, ci64 p0.at_, cu64 p0.state])] (vi64 r.1) [(0, .box 86 [cl 1 Ri64 r.2.list, ci64 r.2.at_, cu64 r.2.state])] := by
 refine con_of tt_ok0 1 Try.func54 (by kernel_rfl) rfl (by kernel_rfl) (fun base X _ => AW.post ?_)
 unfold rl_play_Range at h
 refine AW.sg tt_ok0 [] [] [] 2 [] (by kernel_rfl) ?_
 obtain ⟨y1, y2, e3, h⟩ := bind2_some h
 refine AW.sg tt_ok0 [(6, vi64 (i64.wrap (p1 + y1)))] [0] [(0, .box 86 [cl 1 Ri64 y2.list, ci64 y2.at_, cu64 y2.state])] 10 [hn, hn, hn, hn, hn, hn, hl [0] [] 0 (rl_make_Deck_Next_con p0 (i64.wrap ((i64.wrap (p2 - p1)) + 1)) (y1, y2) e3)] (by kernel_rfl) ?_
 refine AW.ret ?_
 obtain rfl := some_inj h
 exact fn0 (.inr rfl) [(0, 0)] 1 (vi64 (i64.wrap (p1 + y1))) (by kernel_rfl)
/-! recordlink/recordlinkplay.Weights -/
noncomputable def rl_play_Weights_l1 (p1 : Int) (x10 : Int) (x11 : List Int) (x12 : Int) (x13 : Int) (x14 : List Int) (x15 : List Int) : Option ((Int × (List Int) × Int × Int × (List Int) × (List Int)) ⊕ ((List Int) × Int × Int × (List Int) × (List Int))) := if (decide (x10 < p1)) = true then (bind2 (rl_play_Range (⟨x11, x12, x13⟩ : S_recordlinkmake_Deck) (-3) 60) fun y22 y23 => (if x14.length + ([y22] : List Int).length ≤ 1099511627776 then (bind2 (rl_play_Range y23 (-60) 3) fun y26 y27 => (if x15.length + ([y26] : List Int).length ≤ 1099511627776 then (some (.inl (i64.wrap (x10 + 1), y27.list, y27.at_, y27.state, (x14 ++ ([y22] : List Int)), (x15 ++ ([y26] : List Int))))) else none)) else none)) else (some (.inr (x11, x12, x13, x14, x15)))
noncomputable def rl_play_Weights (p0 : S_recordlinkmake_Deck) (p1 : Int) : Option (S_api_Weights × S_recordlinkmake_Deck) := bind2 (rl_play_Range p0 (-40) 10) fun y1 y2 => (bind5 (loop (fun v : Int × (List Int) × Int × Int × (List Int) × (List Int) => rl_play_Weights_l1 p1 v.1 v.2.1 v.2.2.1 v.2.2.2.1 v.2.2.2.2.1 v.2.2.2.2.2) (0, y2.list, y2.at_, y2.state, ([] : List Int), ([] : List Int))) fun x30 x31 x32 x33 x34 => (some ((⟨y1, x33, x34⟩ : S_api_Weights), (⟨x30, x31, x32⟩ : S_recordlinkmake_Deck))))
set_option maxRecDepth 100000 in
theorem rl_play_Weights_con (p0 : S_recordlinkmake_Deck) (p1 : Int) (r : S_api_Weights × S_recordlinkmake_Deck) (h : rl_play_Weights p0 p1 = some r) : Con Try.prog 18 [.c (.ptr 0 3 0 0), vi64 p1] [(0, .box 86 [cl 1 Ri64 p0.list, ci64 p0.at_, cu64 p0.state])] (.agg [ci64 r.1.Prior, .ref 1 1 0 r.1.Agree.length, .ref 2 1 0 r.1.Differ.length]) [(0, .box 86 [cl 1 Ri64 r.2.list, ci64 r.2.at_, cu64 r.2.state]), (1, .row 3 false 1 r.1.Agree.length (Ri64 r.1.Agree)), (2, .row 3 false 1 r.1.Differ.length (Ri64 r.1.Differ))] := by
 refine con_of tt_ok0 1 Try.func18 (by kernel_rfl) rfl (by kernel_rfl) (fun base X _ => AW.post ?_)
 unfold rl_play_Weights at h
 refine AW.sg tt_ok0 [(4, .c (.ptr 1 3 0 0))] [1] [(1, .box 35 [ci64 0, .t (.v (.slice none 0 0)), .t (.v (.slice none 0 0))])] 2 [] (by kernel_rfl) ?_
 obtain ⟨y1, y2, e3, h⟩ := bind2_some h
 refine AW.sg tt_ok0 [(5, .c (.ptr 4 3 0 0))] [0, 4] [(4, .box 35 [ci64 y1, .t (.v (.slice none 0 0)), .t (.v (.slice none 0 0))]), (0, .box 86 [cl 1 Ri64 y2.list, ci64 y2.at_, cu64 y2.state])] 6 [hn, hl [0] [] 0 (rl_play_Range_con p0 (-40) 10 (y1, y2) e3)] (by kernel_rfl) ?_
 refine AW.seq ?_
 refine AW.sg tt_ok0 [(6, vi64 0)] [] [] 7 [] (by kernel_rfl) ?_
 refine AW.block ?_
 obtain ⟨x30, x31, x32, x33, x34, l35, h⟩ := bind5_some h
 refine AW.lp l35 (fun v => ⟨[(0, .c (.ptr 0 3 0 0)), (1, vi64 p1), (4, .c (.ptr 1 3 0 0)), (5, .c (.ptr 2 3 0 0)), (6, vi64 v.1)], [(0, .box 86 [cl 1 Ri64 v.2.1, ci64 v.2.2.1, cu64 v.2.2.2.1]), (1, .box 35 [ci64 0, .t (.v (.slice none 0 0)), .t (.v (.slice none 0 0))]), (2, .box 35 [ci64 y1, .ref 3 1 0 v.2.2.2.2.1.length, .ref 4 1 0 v.2.2.2.2.2.length]), (3, .row 3 false 1 v.2.2.2.2.1.length (Ri64 v.2.2.2.2.1)), (4, .row 3 false 1 v.2.2.2.2.2.length (Ri64 v.2.2.2.2.2))], 5⟩) (fun t : (List Int) × Int × Int × (List Int) × (List Int) => (.exit 0, ⟨[(4, .c (.ptr 1 3 0 0)), (5, .c (.ptr 2 3 0 0))], [(0, .box 86 [cl 1 Ri64 t.1, ci64 t.2.1, cu64 t.2.2.1]), (1, .box 35 [ci64 0, .t (.v (.slice none 0 0)), .t (.v (.slice none 0 0))]), (2, .box 35 [ci64 y1, .ref 3 1 0 t.2.2.2.1.length, .ref 4 1 0 t.2.2.2.2.length]), (3, .row 3 false 1 t.2.2.2.1.length (Ri64 t.2.2.2.1)), (4, .row 3 false 1 t.2.2.2.2.length (Ri64 t.2.2.2.2))], 5⟩)) (Conv.trans (conv_adoptB (id := 4) (ty0 := 35) (cs := [ci64 y1, .t (.v (.slice none 0 0)), .t (.v (.slice none 0 0))]) 1 (ty := 3) (sz := 1) (n := ([] : List Int).length) (f := Ri64 ([] : List Int)) (by kernel_rfl) (by kernel_rfl) rfl) (Conv.trans (conv_adoptB (id := 4) (ty0 := 35) (cs := [ci64 y1, .ref 7 1 0 (([] : List Int).length), .t (.v (.slice none 0 0))]) 2 (ty := 3) (sz := 1) (n := ([] : List Int).length) (f := Ri64 ([] : List Int)) (by kernel_rfl) (by kernel_rfl) rfl) (conv_re [(0, 0), (1, 1), (2, 4), (3, 7), (4, 8)] (by kernel_rfl)))) (fun _ => tv) ?_ ?_
 ·
  clear l35 h
  intro v o h
  obtain ⟨x10, x11, x12, x13, x14, x15⟩ := v
  replace h : rl_play_Weights_l1 p1 x10 x11 x12 x13 x14 x15 = some o := h
  unfold rl_play_Weights_l1 at h
  refine AW.seq ?_
  refine AW.sg tt_ok0 [(12, vb (decide (x10 < p1)))] [] [] 8 [] (by kernel_rfl) ?_
  refine AW.co h (by kernel_rfl) (fun c21 h => ?_) (fun c21 h => ?_)
  ·
   refine AW.skip (AW.tn ?_)
   refine AW.seq (AW.block ?_)
   obtain ⟨y22, y23, e24, h⟩ := bind2_some h
   obtain ⟨g25, h⟩ := ifc h
   obtain ⟨y26, y27, e28, h⟩ := bind2_some h
   obtain ⟨g29, h⟩ := ifc h
   refine AW.rd tt_ok0 mo0 [[], [], [], [0], [11], [12, 3], [], [], [], [0], [16], [17, 4], [], [2], [], [2]] [] [(2, .box 35 [ci64 y1, .ref 12 1 0 ((x14 ++ ([y22] : List Int)).length), .ref 17 1 0 ((x15 ++ ([y26] : List Int)).length)]), (17, .row 3 false 1 (x15 ++ ([y26] : List Int)).length (Ri64 (x15 ++ ([y26] : List Int)))), (0, .box 86 [cl 1 Ri64 y27.list, ci64 y27.at_, cu64 y27.state]), (12, .row 3 false 1 (x14 ++ ([y22] : List Int)).length (Ri64 (x14 ++ ([y22] : List Int))))] 22 [hn, hn, hn, hl [0] [] 0 (rl_play_Range_con (⟨x11, x12, x13⟩ : S_recordlinkmake_Deck) (-3) 60 (y22, y23) e24), hlit 0 Ei64 1 (fun _ => rfl) ([y22] : List Int), happ 0 Ei64 1 8 x14 ([y22] : List Int) g25 (by decide), hn, hn, hn, hl [0] [] 0 (rl_play_Range_con y23 (-60) 3 (y26, y27) e28), hlit 0 Ei64 1 (fun _ => rfl) ([y26] : List Int), happ 0 Ei64 1 8 x15 ([y26] : List Int) g29 (by decide)] (by kernel_rfl) ?_
   refine AW.inBlock_normal (AW.tn ?_)
   refine AW.rg tt_ok0 [(6, vi64 (i64.wrap (x10 + 1)))] [] [] 25 [] (by kernel_rfl) ?_
   exact lpn h (conv_re [(0, 0), (1, 1), (2, 2), (3, 12), (4, 17)] (by kernel_rfl))
  ·
   refine AW.exit (AW.thenQ_exit ?_)
   exact lpo h rfl (conv_re [(0, 0), (1, 1), (2, 2), (3, 3), (4, 4)] (by kernel_rfl))
 ·
  show (_ : Exit → St → Prop) (.exit 0) _
  refine AW.inBlock_hit (AW.tn ?_)
  refine AW.sg tt_ok0 [] [1] [(1, .box 35 [ci64 y1, .ref 3 1 0 x33.length, .ref 4 1 0 x34.length])] 7 [] (by kernel_rfl) ?_
  refine AW.ret ?_
  obtain rfl := some_inj h
  exact fn0 (.inr rfl) [(0, 0), (1, 3), (2, 4)] 3 (.agg [ci64 y1, .ref 3 1 0 x33.length, .ref 4 1 0 x34.length]) (by kernel_rfl)
/-! recordlink/recordlinkplay.BentWeights -/
noncomputable def rl_play_BentWeights_k1 (y1 : S_api_Weights) (x4 : List Int) (x5 : Int) (x6 : Int) (x7 : Int) (x8 : Nat) (x9 : List Int) : Option (S_api_Weights × S_recordlinkmake_Deck) := if x8 ≤ y1.Agree.length then (some ((⟨x7, (y1.Agree.take x8), x9⟩ : S_api_Weights), (⟨x4, x5, x6⟩ : S_recordlinkmake_Deck))) else none
noncomputable def rl_play_BentWeights (p0 : S_recordlinkmake_Deck) (p1 : Int) : Option (S_api_Weights × S_recordlinkmake_Deck) := bind2 (rl_play_Weights p0 p1) fun y1 y2 => (bind2 (rl_make_Deck_Next y2 8) fun y11 y12 => (if (y11 == 0) = true then (bind2 (rl_make_Deck_Next y12 (i64.wrap (((y1.Agree.length : Nat) : Int) + 1))) fun y15 y16 => (if 0 ≤ y15 then (if y15.toNat ≤ y1.Agree.length then (rl_play_BentWeights_k1 y1 y16.list y16.at_ y16.state y1.Prior y15.toNat y1.Differ) else none) else none)) else (if (y11 == 1) = true then (bind2 (rl_make_Deck_Next y12 3) fun y21 y22 => (if 0 ≤ y21 then (if y21 < ((([65536, 65537, (-65537)] : List Int).length : Nat) : Int) then (rl_play_BentWeights_k1 y1 y22.list y22.at_ y22.state (([65536, 65537, (-65537)] : List Int).getD (0 + y21.toNat) 0) y1.Agree.length y1.Differ) else none) else none)) else (if (y11 == 2) = true then (if (decide (((y1.Differ.length : Nat) : Int) > 0)) = true then (bind2 (rl_make_Deck_Next y12 ((y1.Differ.length : Nat) : Int)) fun y28 y29 => (bind2 (rl_make_Deck_Next y29 3) fun y31 y32 => (if 0 ≤ y31 then (if y31 < ((([(-65536), (-65537), 65537] : List Int).length : Nat) : Int) then (if 0 ≤ y28 then (if y28 < ((y1.Differ.length : Nat) : Int) then (rl_play_BentWeights_k1 y1 y32.list y32.at_ y32.state y1.Prior y1.Agree.length (y1.Differ.set (0 + y28.toNat) (([(-65536), (-65537), 65537] : List Int).getD (0 + y31.toNat) 0))) else none) else none) else none) else none))) else (rl_play_BentWeights_k1 y1 y12.list y12.at_ y12.state y1.Prior y1.Agree.length y1.Differ)) else (rl_play_BentWeights_k1 y1 y12.list y12.at_ y12.state y1.Prior y1.Agree.length y1.Differ)))))
set_option maxRecDepth 100000 in
theorem rl_play_BentWeights_con (p0 : S_recordlinkmake_Deck) (p1 : Int) (r : S_api_Weights × S_recordlinkmake_Deck) (h : rl_play_BentWeights p0 p1 = some r) : Con Try.prog 21 [.c (.ptr 0 3 0 0), vi64 p1] [(0, .box 86 [cl 1 Ri64 p0.list, ci64 p0.at_, cu64 p0.state])] (.agg [ci64 r.1.Prior, cl 1 Ri64 r.1.Agree, .ref 1 1 0 r.1.Differ.length]) [(0, .box 86 [cl 1 Ri64 r.2.list, ci64 r.2.at_, cu64 r.2.state]), (1, .row 3 false 1 r.1.Differ.length (Ri64 r.1.Differ))] := by
 refine con_of tt_ok0 1 Try.func21 (by kernel_rfl) rfl (by kernel_rfl) (fun base X _ => AW.post ?_)
 unfold rl_play_BentWeights at h
 refine AW.sg tt_ok0 [(4, .c (.ptr 1 3 0 0))] [1] [(1, .box 35 [ci64 0, .t (.v (.slice none 0 0)), .t (.v (.slice none 0 0))])] 2 [] (by kernel_rfl) ?_
 obtain ⟨y1, y2, e3, h⟩ := bind2_some h
 refine AW.sg tt_ok0 [(5, .c (.ptr 6 3 0 0))] [0, 4, 5, 6] [(6, .box 35 [ci64 y1.Prior, .ref 4 1 0 y1.Agree.length, .ref 5 1 0 y1.Differ.length]), (0, .box 86 [cl 1 Ri64 y2.list, ci64 y2.at_, cu64 y2.state]), (4, .row 3 false 1 y1.Agree.length (Ri64 y1.Agree)), (5, .row 3 false 1 y1.Differ.length (Ri64 y1.Differ))] 8 [hn, hn, hl [0] [] 2 (rl_play_Weights_con p0 p1 (y1, y2) e3)] (by kernel_rfl) ?_
 refine AW.seq ?_
 refine AW.join (ι := (List Int) × Int × Int × Int × Nat × (List Int)) (fun v => ⟨[(4, .c (.ptr 1 3 0 0)), (5, .c (.ptr 2 3 0 0))], [(0, .box 86 [cl 1 Ri64 v.1, ci64 v.2.1, cu64 v.2.2.1]), (1, .box 35 [ci64 0, .t (.v (.slice none 0 0)), .t (.v (.slice none 0 0))]), (2, .box 35 [ci64 v.2.2.2.1, .ref 3 1 0 v.2.2.2.2.1, .ref 4 1 0 v.2.2.2.2.2.length]), (3, .row 3 false 1 y1.Agree.length (Ri64 y1.Agree)), (4, .row 3 false 1 v.2.2.2.2.2.length (Ri64 v.2.2.2.2.2))], 5⟩) (fun v : (List Int) × Int × Int × Int × Nat × (List Int) => rl_play_BentWeights_k1 y1 v.1 v.2.1 v.2.2.1 v.2.2.2.1 v.2.2.2.2.1 v.2.2.2.2.2 = some r) (fun v h => ?_) ?_
 ·
  obtain ⟨x4, x5, x6, x7, x8, x9⟩ := v
  replace h : rl_play_BentWeights_k1 y1 x4 x5 x6 x7 x8 x9 = some r := h
  unfold rl_play_BentWeights_k1 at h
  refine AW.tn ?_
  refine AW.sg tt_ok0 [] [1] [(1, .box 35 [ci64 x7, .ref 3 1 0 x8, .ref 4 1 0 x9.length])] 7 [] (by kernel_rfl) ?_
  obtain ⟨g10, h⟩ := ifc h
  refine AW.ret ?_
  obtain rfl := some_inj h
  exact fnR (.inr rfl) [(0, 0), (1, 4)] 2 (.agg [ci64 x7, cl 1 Ri64 (y1.Agree.take x8), .ref 4 1 0 x9.length]) (Conv.trans (cfz 3 3 1 y1.Agree.length (Ri64 y1.Agree) (by kernel_rfl)) (conv_box (id := 1) (ty := 35) (cs := [ci64 x7, .ref 3 1 0 x8, .ref 4 1 0 x9.length]) (ds := [ci64 x7, cl 1 Ri64 (y1.Agree.take x8), .ref 4 1 0 x9.length]) (by kernel_rfl) ⟨CLe.refl _ _, CLe.trans (CLe.ref (m := y1.Agree.length) (ty := 3) (f := Ri64 y1.Agree) (by kernel_rfl) (by omega)) (CAle.cle (CAle.tree (take_row (by omega)))), CLe.refl _ _, tv⟩)) (by kernel_rfl)
 ·
  obtain ⟨y11, y12, e13, h⟩ := bind2_some h
  refine AW.sg tt_ok0 [(10, vi64 y11)] [0] [(0, .box 86 [cl 1 Ri64 y12.list, ci64 y12.at_, cu64 y12.state])] 9 [hn, hl [0] [] 0 (rl_make_Deck_Next_con y2 8 (y11, y12) e13)] (by kernel_rfl) ?_
  refine AW.block ?_
  refine AW.sg tt_ok0 [(11, vb (y11 == 0))] [] [] 11 [] (by kernel_rfl) ?_
  refine AW.co h (by kernel_rfl) (fun c14 h => ?_) (fun c14 h => ?_)
  ·
   obtain ⟨y15, y16, e17, h⟩ := bind2_some h
   obtain ⟨g18, g19, h⟩ := ifd h
   refine AW.rd tt_ok0 mo0 [[], [], [], [], [], [], [], [0], [], [], [6]] [] [(6, .box 35 [ci64 y1.Prior, .ref 4 1 0 y15.toNat, .ref 5 1 0 y1.Differ.length]), (0, .box 86 [cl 1 Ri64 y16.list, ci64 y16.at_, cu64 y16.state])] 21 [hn, hn, hn, hn, hn, hn, hn, hl [0] [] 0 (rl_make_Deck_Next_con y12 (i64.wrap (((y1.Agree.length : Nat) : Int) + 1)) (y15, y16) e17), ho (p := (True) ∧ (0 ≤ y15) ∧ (0 ≤ y15.toNat) ∧ (y15.toNat ≤ y1.Agree.length)) (⟨tv, g18, (Nat.zero_le _), g19⟩)] (by kernel_rfl) ?_
   refine AW.inBlock_normal ?_
   exact jl (y16.list, y16.at_, y16.state, y1.Prior, y15.toNat, y1.Differ) h (conv_re [(0, 0), (1, 1), (2, 6), (3, 4), (4, 5)] (by kernel_rfl))
  ·
   refine AW.sg tt_ok0 [(23, vb (y11 == 1))] [] [] 13 [] (by kernel_rfl) ?_
   refine AW.co h (by kernel_rfl) (fun c20 h => ?_) (fun c20 h => ?_)
   ·
    obtain ⟨y21, y22, e23, h⟩ := bind2_some h
    obtain ⟨g24, g25, h⟩ := ifd h
    refine AW.rg tt_ok0 [] [0, 6, 13] [(6, .box 35 [ci64 (([65536, 65537, (-65537)] : List Int).getD (0 + y21.toNat) 0), .ref 4 1 0 y1.Agree.length, .ref 5 1 0 y1.Differ.length]), (0, .box 86 [cl 1 Ri64 y22.list, ci64 y22.at_, cu64 y22.state])] 19 [hlit 0 Ei64 1 (fun _ => rfl) ([65536, 65537, (-65537)] : List Int), hn, hl [0] [] 0 (rl_make_Deck_Next_con y12 3 (y21, y22) e23), hq g24 g25, ho (p := (0 + y21.toNat) < ([65536, 65537, (-65537)] : List Int).length) (by have h1 : 0 ≤ y21 := g24; have h2 : y21 < ((([65536, 65537, (-65537)] : List Int).length : Nat) : Int) := g25; omega)] (by kernel_rfl) ?_
    refine AW.inBlock_normal ?_
    exact jl (y22.list, y22.at_, y22.state, (([65536, 65537, (-65537)] : List Int).getD (0 + y21.toNat) 0), y1.Agree.length, y1.Differ) h (conv_re [(0, 0), (1, 1), (2, 6), (3, 4), (4, 5)] (by kernel_rfl))
   ·
    refine AW.sg tt_ok0 [(31, vb (y11 == 2))] [] [] 15 [] (by kernel_rfl) ?_
    refine AW.co h (by kernel_rfl) (fun c26 h => ?_) (fun c26 h => ?_)
    ·
     refine AW.sg tt_ok0 [(36, vb (decide (((y1.Differ.length : Nat) : Int) > 0)))] [] [] 19 [] (by kernel_rfl) ?_
     refine AW.co h (by kernel_rfl) (fun c27 h => ?_) (fun c27 h => ?_)
     ·
      obtain ⟨y28, y29, e30, h⟩ := bind2_some h
      obtain ⟨y31, y32, e33, h⟩ := bind2_some h
      obtain ⟨g34, g35, h⟩ := ifd h
      obtain ⟨g36, g37, h⟩ := ifd h
      refine AW.rd tt_ok0 mo0 [[], [], [], [], [], [], [0], [25], [], [0], [], [], [], [5]] [] [(5, .row 3 false 1 y1.Differ.length (Ri64 (y1.Differ.set (0 + y28.toNat) (([(-65536), (-65537), 65537] : List Int).getD (0 + y31.toNat) 0)))), (0, .box 86 [cl 1 Ri64 y32.list, ci64 y32.at_, cu64 y32.state])] 31 [hn, hn, hn, hn, hn, hn, hl [0] [] 0 (rl_make_Deck_Next_con y12 ((y1.Differ.length : Nat) : Int) (y28, y29) e30), hlit 0 Ei64 1 (fun _ => rfl) ([(-65536), (-65537), 65537] : List Int), hn, hl [0] [] 0 (rl_make_Deck_Next_con y29 3 (y31, y32) e33), hq g34 g35, ho (p := (0 + y31.toNat) < ([(-65536), (-65537), 65537] : List Int).length) (by have h1 : 0 ≤ y31 := g34; have h2 : y31 < ((([(-65536), (-65537), 65537] : List Int).length : Nat) : Int) := g35; omega), hq g36 g37, hset 0 Ei64 y1.Differ (0 + y28.toNat) (([(-65536), (-65537), 65537] : List Int).getD (0 + y31.toNat) 0) (n := y1.Differ.length) (by have h1 : 0 ≤ y28 := g36; have h2 : y28 < ((y1.Differ.length : Nat) : Int) := g37; omega) rfl] (by kernel_rfl) ?_
      refine AW.inBlock_normal ?_
      exact jl (y32.list, y32.at_, y32.state, y1.Prior, y1.Agree.length, (y1.Differ.set (0 + y28.toNat) (([(-65536), (-65537), 65537] : List Int).getD (0 + y31.toNat) 0))) h (Conv.trans (conv_re (S' := ⟨[(5, .c (.ptr 6 3 0 0)), (4, .c (.ptr 1 3 0 0))], [(5, .row 3 false 1 y1.Differ.length (Ri64 (y1.Differ.set (0 + y28.toNat) (([(-65536), (-65537), 65537] : List Int).getD (0 + y31.toNat) 0)))), (0, .box 86 [cl 1 Ri64 y32.list, ci64 y32.at_, cu64 y32.state]), (6, .box 35 [ci64 y1.Prior, .ref 4 1 0 y1.Agree.length, .ref 5 1 0 y1.Differ.length]), (4, .row 3 false 1 y1.Agree.length (Ri64 y1.Agree)), (1, .box 35 [ci64 0, .t (.v (.slice none 0 0)), .t (.v (.slice none 0 0))])], 31⟩) [(5, 5), (0, 0), (6, 6), (4, 4), (1, 1)] (by kernel_rfl)) (Conv.trans (conv_len (S' := ⟨[(5, .c (.ptr 6 3 0 0)), (4, .c (.ptr 1 3 0 0))], [(5, .row 3 false 1 (y1.Differ.set (0 + y28.toNat) (([(-65536), (-65537), 65537] : List Int).getD (0 + y31.toNat) 0)).length (Ri64 (y1.Differ.set (0 + y28.toNat) (([(-65536), (-65537), 65537] : List Int).getD (0 + y31.toNat) 0)))), (0, .box 86 [cl 1 Ri64 y32.list, ci64 y32.at_, cu64 y32.state]), (6, .box 35 [ci64 y1.Prior, .ref 4 1 0 y1.Agree.length, .ref 5 1 0 ((y1.Differ.set (0 + y28.toNat) (([(-65536), (-65537), 65537] : List Int).getD (0 + y31.toNat) 0)).length)]), (4, .row 3 false 1 y1.Agree.length (Ri64 y1.Agree)), (1, .box 35 [ci64 0, .t (.v (.slice none 0 0)), .t (.v (.slice none 0 0))])], 31⟩) (by simp only [List.length_set])) (conv_re [(0, 0), (1, 1), (2, 6), (3, 4), (4, 5)] (by kernel_rfl))))
     ·
      refine AW.skip (AW.inBlock_normal ?_)
      exact jl (y12.list, y12.at_, y12.state, y1.Prior, y1.Agree.length, y1.Differ) h (conv_re [(0, 0), (1, 1), (2, 6), (3, 4), (4, 5)] (by kernel_rfl))
    ·
     refine AW.skip (AW.inBlock_normal ?_)
     exact jl (y12.list, y12.at_, y12.state, y1.Prior, y1.Agree.length, y1.Differ) h (conv_re [(0, 0), (1, 1), (2, 6), (3, 4), (4, 5)] (by kernel_rfl))
/-! (*recordlink/recordlinkmake.Deck).One -/
noncomputable def rl_make_Deck_One (p0 : S_recordlinkmake_Deck) (p1 : Int) : Option (Bool × S_recordlinkmake_Deck) := bind2 (rl_make_Deck_Next p0 p1) fun y1 y2 => (some ((y1 == 0), y2))
set_option maxRecDepth 100000 in
theorem rl_make_Deck_One_con (p0 : S_recordlinkmake_Deck) (p1 : Int) (r : Bool × S_recordlinkmake_Deck) (h : rl_make_Deck_One p0 p1 = some r) : Con Try.prog 77 [.c (.ptr 0 3 0 0), vi64 p1] [(0, .box 86 [cl 1 Ri64 p0.list, ci64 p0.at_, cu64 p0.state])] (vb r.1) [(0, .box 86 [cl 1 Ri64 r.2.list, ci64 r.2.at_, cu64 r.2.state])] := by
 refine con_of tt_ok0 1 Try.func77 (by kernel_rfl) rfl (by kernel_rfl) (fun base X _ => AW.post ?_)
 unfold rl_make_Deck_One at h
 refine AW.sg tt_ok0 [] [] [] 2 [] (by kernel_rfl) ?_
 obtain ⟨y1, y2, e3, h⟩ := bind2_some h
 refine AW.sg tt_ok0 [(4, vb (y1 == 0))] [0] [(0, .box 86 [cl 1 Ri64 y2.list, ci64 y2.at_, cu64 y2.state])] 6 [hn, hn, hl [0] [] 0 (rl_make_Deck_Next_con p0 p1 (y1, y2) e3)] (by kernel_rfl) ?_
 refine AW.ret ?_
 obtain rfl := some_inj h
 exact fn0 (.inr rfl) [(0, 0)] 1 (vb (y1 == 0)) (by kernel_rfl)
/-! recordlink/recordlinkplay.Array -/
noncomputable def rl_play_Array (p0 : S_recordlinkmake_Deck) : Option (S_api_Bits × S_recordlinkmake_Deck) := bind2 (rl_make_Deck_One p0 8) fun y1 y2 => (if y1 = true then (some ((⟨0, ([] : List Int)⟩ : S_api_Bits), y2)) else (bind2 (rl_make_Deck_Next y2 6) fun y5 y6 => (if 0 ≤ y5 then (if y5 < ((([255, 254, 61680, 1, 4294901760, 0] : List Int).length : Nat) : Int) then (some ((⟨64, ([(([255, 254, 61680, 1, 4294901760, 0] : List Int).getD (0 + y5.toNat) 0)] : List Int)⟩ : S_api_Bits), y6)) else none) else none)))
set_option maxRecDepth 100000 in
theorem rl_play_Array_con (p0 : S_recordlinkmake_Deck) (r : S_api_Bits × S_recordlinkmake_Deck) (h : rl_play_Array p0 = some r) : Con Try.prog 76 [.c (.ptr 0 3 0 0)] [(0, .box 86 [cl 1 Ri64 p0.list, ci64 p0.at_, cu64 p0.state])] (.agg [ci64 r.1.Length, .ref 1 1 0 r.1.Words.length]) [(0, .box 86 [cl 1 Ri64 r.2.list, ci64 r.2.at_, cu64 r.2.state]), (1, .row 45 false 1 r.1.Words.length (Ru64 r.1.Words))] := by
 refine con_of tt_ok0 1 Try.func76 (by kernel_rfl) rfl (by kernel_rfl) (fun base X _ => AW.post ?_)
 unfold rl_play_Array at h
 refine AW.sg tt_ok0 [(2, .c (.ptr 1 2 0 0))] [1] [(1, .box 84 [ci64 0, .t (.v (.slice none 0 0))])] 2 [] (by kernel_rfl) ?_
 refine AW.seq ?_
 obtain ⟨y1, y2, e3, h⟩ := bind2_some h
 refine AW.sg tt_ok0 [(5, vb y1)] [0] [(0, .box 86 [cl 1 Ri64 y2.list, ci64 y2.at_, cu64 y2.state])] 3 [hn, hl [0] [] 0 (rl_make_Deck_One_con p0 8 (y1, y2) e3)] (by kernel_rfl) ?_
 refine AW.co h (by kernel_rfl) (fun c4 h => ?_) (fun c4 h => ?_)
 ·
  refine AW.sg tt_ok0 [] [1] [(1, .box 84 [ci64 0, .t (.v (.slice none 0 0))])] 5 [] (by kernel_rfl) ?_
  refine AW.ret (AW.tr ?_)
  obtain rfl := some_inj h
  exact fnR (.inr rfl) [(0, 0), (1, 5)] 2 (.agg [ci64 0, .ref 5 1 0 (([] : List Int).length)]) (conv_adoptB (id := 1) (ty0 := 84) (cs := [ci64 0, .t (.v (.slice none 0 0))]) 1 (ty := 45) (sz := 1) (n := ([] : List Int).length) (f := Ru64 ([] : List Int)) (by kernel_rfl) (by kernel_rfl) rfl) (by kernel_rfl)
 ·
  refine AW.skip (AW.tn ?_)
  obtain ⟨y5, y6, e7, h⟩ := bind2_some h
  obtain ⟨g8, g9, h⟩ := ifd h
  refine AW.sg tt_ok0 [(3, vu64 (([255, 254, 61680, 1, 4294901760, 0] : List Int).getD (0 + y5.toNat) 0))] [0, 3] [(0, .box 86 [cl 1 Ri64 y6.list, ci64 y6.at_, cu64 y6.state])] 8 [hlit 0 Eu64 1 (fun _ => rfl) ([255, 254, 61680, 1, 4294901760, 0] : List Int), hn, hl [0] [] 0 (rl_make_Deck_Next_con y2 6 (y5, y6) e7), hq g8 g9, ho (p := (0 + y5.toNat) < ([255, 254, 61680, 1, 4294901760, 0] : List Int).length) (by have h1 : 0 ≤ y5 := g8; have h2 : y5 < ((([255, 254, 61680, 1, 4294901760, 0] : List Int).length : Nat) : Int) := g9; omega)] (by kernel_rfl) ?_
  refine AW.sg tt_ok0 [] [1, 9] [(1, .box 84 [ci64 64, .ref 9 1 0 (([(([255, 254, 61680, 1, 4294901760, 0] : List Int).getD (0 + y5.toNat) 0)] : List Int).length)]), (9, .row 45 false 1 ([(([255, 254, 61680, 1, 4294901760, 0] : List Int).getD (0 + y5.toNat) 0)] : List Int).length (Ru64 ([(([255, 254, 61680, 1, 4294901760, 0] : List Int).getD (0 + y5.toNat) 0)] : List Int)))] 12 [hn, hlit 0 Eu64 1 (fun _ => rfl) ([(([255, 254, 61680, 1, 4294901760, 0] : List Int).getD (0 + y5.toNat) 0)] : List Int)] (by kernel_rfl) ?_
  refine AW.ret ?_
  obtain rfl := some_inj h
  exact fn0 (.inr rfl) [(0, 0), (1, 9)] 2 (.agg [ci64 64, .ref 9 1 0 (([(([255, 254, 61680, 1, 4294901760, 0] : List Int).getD (0 + y5.toNat) 0)] : List Int).length)]) (by kernel_rfl)
/-! recordlink/recordlinkplay.Array -/
set_option maxRecDepth 100000 in
theorem rl_play_Array_conT (p0 : S_recordlinkmake_Deck) (r : S_api_Bits × S_recordlinkmake_Deck) (h : rl_play_Array p0 = some r) : Con Try.prog 76 [.c (.ptr 0 3 0 0)] [(0, .box 86 [cl 1 Ri64 p0.list, ci64 p0.at_, cu64 p0.state])] (.agg [ci64 r.1.Length, cl 1 Ru64 r.1.Words]) [(0, .box 86 [cl 1 Ri64 r.2.list, ci64 r.2.at_, cu64 r.2.state])] := by
 refine con_of tt_ok0 1 Try.func76 (by kernel_rfl) rfl (by kernel_rfl) (fun base X _ => AW.post ?_)
 unfold rl_play_Array at h
 refine AW.sg tt_ok0 [(2, .c (.ptr 1 2 0 0))] [1] [(1, .box 84 [ci64 0, .t (.v (.slice none 0 0))])] 2 [] (by kernel_rfl) ?_
 refine AW.seq ?_
 obtain ⟨y1, y2, e3, h⟩ := bind2_some h
 refine AW.sg tt_ok0 [(5, vb y1)] [0] [(0, .box 86 [cl 1 Ri64 y2.list, ci64 y2.at_, cu64 y2.state])] 3 [hn, hl [0] [] 0 (rl_make_Deck_One_con p0 8 (y1, y2) e3)] (by kernel_rfl) ?_
 refine AW.co h (by kernel_rfl) (fun c4 h => ?_) (fun c4 h => ?_)
 ·
  refine AW.sg tt_ok0 [] [1] [(1, .box 84 [ci64 0, .t (.v (.slice none 0 0))])] 5 [] (by kernel_rfl) ?_
  refine AW.ret (AW.tr ?_)
  obtain rfl := some_inj h
  exact fnR (.inr rfl) [(0, 0)] 1 (.agg [ci64 0, cl 1 Ru64 ([] : List Int)]) (conv_box (id := 1) (ty := 84) (cs := [ci64 0, .t (.v (.slice none 0 0))]) (ds := [ci64 0, cl 1 Ru64 ([] : List Int)]) (by kernel_rfl) ⟨CLe.refl _ _, CLe.nil rfl, tv⟩) (by kernel_rfl)
 ·
  refine AW.skip (AW.tn ?_)
  obtain ⟨y5, y6, e7, h⟩ := bind2_some h
  obtain ⟨g8, g9, h⟩ := ifd h
  refine AW.sg tt_ok0 [(3, vu64 (([255, 254, 61680, 1, 4294901760, 0] : List Int).getD (0 + y5.toNat) 0))] [0, 3] [(0, .box 86 [cl 1 Ri64 y6.list, ci64 y6.at_, cu64 y6.state])] 8 [hlit 0 Eu64 1 (fun _ => rfl) ([255, 254, 61680, 1, 4294901760, 0] : List Int), hn, hl [0] [] 0 (rl_make_Deck_Next_con y2 6 (y5, y6) e7), hq g8 g9, ho (p := (0 + y5.toNat) < ([255, 254, 61680, 1, 4294901760, 0] : List Int).length) (by have h1 : 0 ≤ y5 := g8; have h2 : y5 < ((([255, 254, 61680, 1, 4294901760, 0] : List Int).length : Nat) : Int) := g9; omega)] (by kernel_rfl) ?_
  refine AW.sg tt_ok0 [] [1, 9] [(1, .box 84 [ci64 64, .ref 9 1 0 (([(([255, 254, 61680, 1, 4294901760, 0] : List Int).getD (0 + y5.toNat) 0)] : List Int).length)]), (9, .row 45 false 1 ([(([255, 254, 61680, 1, 4294901760, 0] : List Int).getD (0 + y5.toNat) 0)] : List Int).length (Ru64 ([(([255, 254, 61680, 1, 4294901760, 0] : List Int).getD (0 + y5.toNat) 0)] : List Int)))] 12 [hn, hlit 0 Eu64 1 (fun _ => rfl) ([(([255, 254, 61680, 1, 4294901760, 0] : List Int).getD (0 + y5.toNat) 0)] : List Int)] (by kernel_rfl) ?_
  refine AW.ret ?_
  obtain rfl := some_inj h
  exact fnR (.inr rfl) [(0, 0)] 1 (.agg [ci64 64, cl 1 Ru64 ([(([255, 254, 61680, 1, 4294901760, 0] : List Int).getD (0 + y5.toNat) 0)] : List Int)]) (Conv.trans (cfz 9 45 1 (([(([255, 254, 61680, 1, 4294901760, 0] : List Int).getD (0 + y5.toNat) 0)] : List Int).length) (Ru64 ([(([255, 254, 61680, 1, 4294901760, 0] : List Int).getD (0 + y5.toNat) 0)] : List Int)) (by kernel_rfl)) (conv_box (id := 1) (ty := 84) (cs := [ci64 64, .ref 9 1 0 (([(([255, 254, 61680, 1, 4294901760, 0] : List Int).getD (0 + y5.toNat) 0)] : List Int).length)]) (ds := [ci64 64, cl 1 Ru64 ([(([255, 254, 61680, 1, 4294901760, 0] : List Int).getD (0 + y5.toNat) 0)] : List Int)]) (by kernel_rfl) ⟨CLe.refl _ _, CLe.ref (ty := 45) (f := Ru64 ([(([255, 254, 61680, 1, 4294901760, 0] : List Int).getD (0 + y5.toNat) 0)] : List Int)) (by kernel_rfl) le0, tv⟩)) (by kernel_rfl)
end Go.Proofs.Ytknlckjpgmjenaa
