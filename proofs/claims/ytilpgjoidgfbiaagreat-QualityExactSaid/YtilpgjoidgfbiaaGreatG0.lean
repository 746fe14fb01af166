/- Printed by a program of mine (vmgen.py): Go functions, and what they come to. -/
import Derived.Test.YtilpgjoidgfbiaaGreatVr
import Derived.Test.YtilpgjoidgfbiaaGreatRows
namespace Go.Proofs.YtilpgjoidgfbiaaGreat
open Vm
open IntKind (i64 u64 u32 u8)
set_option maxHeartbeats 10000000
set_option linter.unusedVariables false
set_option linter.unusedSimpArgs false
set_option linter.constructorNameAsVariable false
def ttl0 : List (Nat × TI) := [(3, ⟨.int .i64, 1, 8, [.int .i64 0], false⟩), (4, ⟨.bool, 1, 1, [.bool false], false⟩), (5, ⟨.int .u8, 1, 1, [.int .u8 0], false⟩), (9, ⟨.str, 1, 16, [.string ⟨#[]⟩], false⟩), (22, ⟨.slice 3, 1, 24, [.slice none 0 0], false⟩), (24, ⟨.struct [(3, 0), (22, 1), (22, 2)], 3, 56, [.int .i64 0, .slice none 0 0, .slice none 0 0], false⟩), (25, ⟨.slice 71, 1, 24, [.slice none 0 0], false⟩), (27, ⟨.struct [(3, 0), (3, 1), (3, 2)], 3, 24, [.int .i64 0, .int .i64 0, .int .i64 0], true⟩), (30, ⟨.ptr 75, 1, 8, [.pointer none], false⟩), (37, ⟨.int .i64, 1, 8, [.int .i64 0], false⟩), (42, ⟨.slice 72, 1, 24, [.slice none 0 0], false⟩), (44, ⟨.struct [(42, 0), (42, 1)], 2, 48, [.slice none 0 0, .slice none 0 0], false⟩), (69, ⟨.struct [(3, 0), (3, 1)], 2, 16, [.int .i64 0, .int .i64 0], true⟩), (71, ⟨.struct [(69, 0), (69, 2), (3, 4), (3, 5)], 6, 48, [.int .i64 0, .int .i64 0, .int .i64 0, .int .i64 0, .int .i64 0, .int .i64 0], true⟩), (72, ⟨.int .u32, 1, 4, [.int .u32 0], false⟩), (73, ⟨.int .u64, 1, 8, [.int .u64 0], false⟩), (75, ⟨.struct [(22, 0), (3, 1), (73, 2)], 3, 40, [.slice none 0 0, .int .i64 0, .int .u64 0], false⟩), (78, ⟨.slice 81, 1, 24, [.slice none 0 0], false⟩), (81, ⟨.struct [(69, 0), (69, 2), (3, 4)], 5, 40, [.int .i64 0, .int .i64 0, .int .i64 0, .int .i64 0, .int .i64 0], true⟩), (106, ⟨.arr 6 3, 6, 48, [.int .i64 0, .int .i64 0, .int .i64 0, .int .i64 0, .int .i64 0, .int .i64 0], true⟩), (114, ⟨.struct [(42, 0), (37, 1)], 2, 32, [.slice none 0 0, .int .i64 0], false⟩), (132, ⟨.slice 114, 1, 24, [.slice none 0 0], false⟩)]
theorem tt_ok0 : TTok Tryz.prog (Vm.look ttl0) := ttok_of ⟨⟨by kernel_rfl, by kernel_rfl, by kernel_rfl⟩, ⟨by kernel_rfl, by kernel_rfl, by kernel_rfl⟩, ⟨by kernel_rfl, by kernel_rfl, by kernel_rfl⟩, ⟨by kernel_rfl, by kernel_rfl, by kernel_rfl⟩, ⟨by kernel_rfl, by kernel_rfl, by kernel_rfl⟩, ⟨by kernel_rfl, by kernel_rfl, by kernel_rfl⟩, ⟨by kernel_rfl, by kernel_rfl, by kernel_rfl⟩, ⟨by kernel_rfl, by kernel_rfl, by kernel_rfl⟩, ⟨by kernel_rfl, by kernel_rfl, by kernel_rfl⟩, ⟨by kernel_rfl, by kernel_rfl, by kernel_rfl⟩, ⟨by kernel_rfl, by kernel_rfl, by kernel_rfl⟩, ⟨by kernel_rfl, by kernel_rfl, by kernel_rfl⟩, ⟨by kernel_rfl, by kernel_rfl, by kernel_rfl⟩, ⟨by kernel_rfl, by kernel_rfl, by kernel_rfl⟩, ⟨by kernel_rfl, by kernel_rfl, by kernel_rfl⟩, ⟨by kernel_rfl, by kernel_rfl, by kernel_rfl⟩, ⟨by kernel_rfl, by kernel_rfl, by kernel_rfl⟩, ⟨by kernel_rfl, by kernel_rfl, by kernel_rfl⟩, ⟨by kernel_rfl, by kernel_rfl, by kernel_rfl⟩, ⟨by kernel_rfl, by kernel_rfl, by kernel_rfl⟩, ⟨by kernel_rfl, by kernel_rfl, by kernel_rfl⟩, ⟨by kernel_rfl, by kernel_rfl, by kernel_rfl⟩, trivial⟩
theorem mo0 : Tryz.prog.follows .mixedOrders = true := by kernel_rfl
structure S_em_model where
 Prior : Int
 Match : List Int
 Random : List Int
def dS_em_model : S_em_model := ⟨0, ([] : List Int), ([] : List Int)⟩
instance : Inhabited S_em_model := ⟨dS_em_model⟩
structure S_api_Ref where
 Registry : Int
 ID : Int
def dS_api_Ref : S_api_Ref := ⟨0, 0⟩
instance : Inhabited S_api_Ref := ⟨dS_api_Ref⟩
structure S_api_Candidate where
 A : S_api_Ref
 B : S_api_Ref
 Pattern : Int
 Weight : Int
def dS_api_Candidate : S_api_Candidate := ⟨dS_api_Ref, dS_api_Ref, 0, 0⟩
instance : Inhabited S_api_Candidate := ⟨dS_api_Candidate⟩
structure S_api_Estimate where
 False : Int
 Missed : Int
 True : Int
def dS_api_Estimate : S_api_Estimate := ⟨0, 0, 0⟩
instance : Inhabited S_api_Estimate := ⟨dS_api_Estimate⟩
def Ei64 (x : Int) : List T := [.v (.int .i64 x)]
def Ri64 (xs : List Int) : Nat → Nat → T := rowL 0 Ei64 xs
theorem Vi64 : ∀ x, allV (Ei64 x) := fun _ => ⟨tv, tv⟩
def ES_api_Candidate (x : S_api_Candidate) : List T := [.v (.int .i64 x.A.Registry), .v (.int .i64 x.A.ID), .v (.int .i64 x.B.Registry), .v (.int .i64 x.B.ID), .v (.int .i64 x.Pattern), .v (.int .i64 x.Weight)]
def RS_api_Candidate (xs : List S_api_Candidate) : Nat → Nat → T := rowL dS_api_Candidate ES_api_Candidate xs
theorem VS_api_Candidate : ∀ x, allV (ES_api_Candidate x) := fun _ => ⟨tv, tv, tv, tv, tv, tv, tv⟩
/-! recordlink/em.probability -/
noncomputable def em_probability_k1 (x1 : Bool) : Option Bool := some x1
noncomputable def em_probability (p0 : Int) : Option Bool := if (decide (p0 ≥ 1)) = true then (em_probability_k1 (decide (p0 < 65536))) else (em_probability_k1 false)
set_option maxRecDepth 100000 in
theorem em_probability_con (p0 : Int) (r : Bool) (h : em_probability p0 = some r) : Con Tryz.prog 66 [vi64 p0] [] (vb r) [] := by
 refine con_of tt_ok0 0 Tryz.func66 (by kernel_rfl) rfl (by kernel_rfl) (fun base X _ => AW.post ?_)
 unfold em_probability at h
 refine AW.sg tt_ok0 [] [] [] 1 [] (by kernel_rfl) ?_
 refine AW.seq ?_
 refine AW.join (ι := Bool) (fun v => ⟨[(2, vb v)], [], 0⟩) (fun v : Bool => em_probability_k1 v = some r) (fun x1 h => ?_) ?_
 ·
  unfold em_probability_k1 at h
  refine AW.tn (AW.ret ?_)
  obtain rfl := some_inj h
  exact fn0 (.inr rfl) [] 0 (vb x1) (by kernel_rfl)
 ·
  rcases ifs h with ⟨c2, h⟩ | ⟨c2, h⟩
  ·
   refine AW.rg tt_ok0 [(2, vb (decide (p0 < 65536)))] [] [] 8 [hn, ht c2] (by kernel_rfl) ?_
   exact jl (decide (p0 < 65536)) h (conv_re [] (by kernel_rfl))
  ·
   refine AW.rg tt_ok0 [(2, vb false)] [] [] 8 [hn, hf c2] (by kernel_rfl) ?_
   exact jl false h (conv_re [] (by kernel_rfl))
/-! recordlink/em.Check$1 -/
noncomputable def em_Check_f1 (p0 : Int) : Option Bool := (em_probability p0).bind fun y1 => (some (!y1))
set_option maxRecDepth 100000 in
theorem em_Check_f1_con (p0 : Int) (r : Bool) (h : em_Check_f1 p0 = some r) : Con Tryz.prog 65 [vi64 p0] [] (vb r) [] := by
 refine con_of tt_ok0 0 Tryz.func65 (by kernel_rfl) rfl (by kernel_rfl) (fun base X _ => AW.post ?_)
 unfold em_Check_f1 at h
 refine AW.sg tt_ok0 [] [] [] 1 [] (by kernel_rfl) ?_
 obtain ⟨y1, e2, h⟩ := bnd_some h
 refine AW.sg tt_ok0 [(2, vb (!y1))] [] [] 4 [hn, hk (em_probability_con p0 y1 e2)] (by kernel_rfl) ?_
 refine AW.ret ?_
 obtain rfl := some_inj h
 exact fn0 (.inr rfl) [] 0 (vb (!y1)) (by kernel_rfl)
/-! slices.IndexFunc[[]int,int] -/
noncomputable def slices_IndexFunc_int_em_Check_f1_l1 (p0 : List Int) (x2 : Int) : Option (Int ⊕ (Unit ⊕ Int)) := if (decide (x2 < (p0.length : Int))) = true then (if 0 ≤ x2 then (if x2 < (p0.length : Int) then ((em_Check_f1 (p0.getD x2.toNat 0)).bind fun y7 => (if y7 = true then (some (.inr (.inr x2))) else (some (.inl (i64.wrap (x2 + 1)))))) else none) else none) else (some (.inr (.inl ())))
noncomputable def slices_IndexFunc_int_em_Check_f1_a2 : Option Int := some (-1)
noncomputable def slices_IndexFunc_int_em_Check_f1_a3 (x10 : Int) : Option Int := some x10
noncomputable def slices_IndexFunc_int_em_Check_f1 (p0 : List Int) : Option Int := bindE (loop (fun v : Int => slices_IndexFunc_int_em_Check_f1_l1 p0 v) 0) (fun t => slices_IndexFunc_int_em_Check_f1_a2) (fun t => slices_IndexFunc_int_em_Check_f1_a3 t)
set_option maxRecDepth 100000 in
theorem slices_IndexFunc_int_em_Check_f1_con (p0 : List Int) (r : Int) (h : slices_IndexFunc_int_em_Check_f1 p0 = some r) : Con Tryz.prog 102 [vl 1 Ri64 p0, .c (.t (.v (.func (.func 65) #[] #[])))] [] (vi64 r) [] := by
 refine con_of tt_ok0 0 Tryz.func102 (by kernel_rfl) rfl (by kernel_rfl) (fun base X _ => AW.post ?_)
 unfold slices_IndexFunc_int_em_Check_f1 at h
 refine AW.sg tt_ok0 [] [] [] 1 [] (by kernel_rfl) ?_
 refine AW.seq ?_
 refine AW.sg tt_ok0 [(8, vi64 0), (7, vi64 (p0.length : Int))] [] [] 4 [] (by kernel_rfl) ?_
 refine AW.block ?_
 refine AW.lpE h (fun v => ⟨[(0, vl 1 Ri64 p0), (1, .c (.t (.v (.func (.func 65) #[] #[])))), (7, vi64 (p0.length : Int)), (8, vi64 v)], [], 0⟩) (fun t => (.exit 0, ⟨[], [], 0⟩)) (fun t => (.ret, ⟨[(4, vi64 t)], [], 0⟩)) (conv_re [] (by kernel_rfl)) (fun _ => tv) (fun _ => tv) ?_ (fun t h => ?_) (fun x10 h => ?_)
 ·
  clear h
  intro x2 o h
  unfold slices_IndexFunc_int_em_Check_f1_l1 at h
  refine AW.sg tt_ok0 [(9, vb (decide (x2 < (p0.length : Int))))] [] [] 1 [] (by kernel_rfl) ?_
  refine AW.seq ?_
  refine AW.co h (by kernel_rfl) (fun c4 h => ?_) (fun c4 h => ?_)
  ·
   refine AW.skip (AW.tn ?_)
   refine AW.seq (AW.block ?_)
   refine AW.sg tt_ok0 [(5, vi64 x2)] [] [] 3 [] (by kernel_rfl) ?_
   obtain ⟨g5, g6, h⟩ := ifd h
   obtain ⟨y7, e8, h⟩ := bnd_some h
   refine AW.sg tt_ok0 [(16, vb y7)] [] [] 8 [hn, hn, hn, hq g5 g6, hn, hk (em_Check_f1_con (p0.getD x2.toNat 0) y7 e8)] (by kernel_rfl) ?_
   refine AW.co h (by kernel_rfl) (fun c9 h => ?_) (fun c9 h => ?_)
   ·
    refine AW.sg tt_ok0 [(4, vi64 x2)] [] [] 10 [] (by kernel_rfl) ?_
    refine AW.ret (AW.inBlock_ret (AW.tr ?_))
    exact lpo h rfl (conv_re [] (by kernel_rfl))
   ·
    refine AW.skip (AW.inBlock_normal (AW.tn ?_))
    refine AW.rg tt_ok0 [(8, vi64 (i64.wrap (x2 + 1)))] [] [] 10 [] (by kernel_rfl) ?_
    exact lpn h (conv_re [] (by kernel_rfl))
  ·
   refine AW.exit (AW.thenQ_exit ?_)
   exact lpo h rfl (conv_re [] (by kernel_rfl))
 ·
  replace h : slices_IndexFunc_int_em_Check_f1_a2 = some r := h
  unfold slices_IndexFunc_int_em_Check_f1_a2 at h
  show (_ : Exit → St → Prop) (.exit 0) _
  refine AW.inBlock_hit (AW.tn ?_)
  refine AW.sg tt_ok0 [(4, vi64 (-1))] [] [] 1 [] (by kernel_rfl) ?_
  refine AW.ret ?_
  obtain rfl := some_inj h
  exact fn0 (.inr rfl) [] 0 (vi64 (-1)) (by kernel_rfl)
 ·
  unfold slices_IndexFunc_int_em_Check_f1_a3 at h
  show (_ : Exit → St → Prop) (.ret) _
  refine AW.inBlock_ret (AW.tr ?_)
  obtain rfl := some_inj h
  exact fn0 (.inr rfl) [] 0 (vi64 x10) (by kernel_rfl)
/-! slices.ContainsFunc[[]int,int] -/
noncomputable def slices_ContainsFunc_int_em_Check_f1 (p0 : List Int) : Option Bool := (slices_IndexFunc_int_em_Check_f1 p0).bind fun y1 => (some (decide (y1 ≥ 0)))
set_option maxRecDepth 100000 in
theorem slices_ContainsFunc_int_em_Check_f1_con (p0 : List Int) (r : Bool) (h : slices_ContainsFunc_int_em_Check_f1 p0 = some r) : Con Tryz.prog 67 [vl 1 Ri64 p0, .c (.t (.v (.func (.func 65) #[] #[])))] [] (vb r) [] := by
 refine con_of tt_ok0 0 Tryz.func67 (by kernel_rfl) rfl (by kernel_rfl) (fun base X _ => AW.post ?_)
 unfold slices_ContainsFunc_int_em_Check_f1 at h
 refine AW.sg tt_ok0 [] [] [] 1 [] (by kernel_rfl) ?_
 obtain ⟨y1, e2, h⟩ := bnd_some h
 refine AW.sg tt_ok0 [(4, vb (decide (y1 ≥ 0)))] [] [] 5 [hn, hn, hk (slices_IndexFunc_int_em_Check_f1_con p0 y1 e2)] (by kernel_rfl) ?_
 refine AW.ret ?_
 obtain rfl := some_inj h
 exact fn0 (.inr rfl) [] 0 (vb (decide (y1 ≥ 0))) (by kernel_rfl)
/-! recordlink/em.Check -/
noncomputable def em_Check_k1 (x1 : Bool) : Option Int := if x1 = true then (some 18) else (some 0)
noncomputable def em_Check (p0 : S_em_model) : Option Int := if (((p0.Match.length : Nat) : Int) != ((p0.Random.length : Nat) : Int)) = true then (em_Check_k1 true) else (if (decide (((p0.Match.length : Nat) : Int) < 1)) = true then (em_Check_k1 true) else (if (decide (((p0.Match.length : Nat) : Int) > 5)) = true then (em_Check_k1 true) else ((em_Check_f1 p0.Prior).bind fun y6 => (if y6 = true then (em_Check_k1 true) else ((slices_ContainsFunc_int_em_Check_f1 p0.Match).bind fun y9 => (if y9 = true then (em_Check_k1 true) else ((slices_ContainsFunc_int_em_Check_f1 p0.Random).bind fun y12 => (em_Check_k1 y12))))))))
set_option maxRecDepth 100000 in
theorem em_Check_con (p0 : S_em_model) (r : Int) (h : em_Check p0 = some r) : Con Tryz.prog 35 [.agg [ci64 p0.Prior, cl 1 Ri64 p0.Match, cl 1 Ri64 p0.Random]] [] (vi64 r) [] := by
 refine con_of tt_ok0 0 Tryz.func35 (by kernel_rfl) rfl (by kernel_rfl) (fun base X _ => AW.post ?_)
 unfold em_Check at h
 refine AW.sg tt_ok0 [(1, .c (.ptr 0 3 0 0))] [0] [(0, .box 24 [ci64 p0.Prior, cl 1 Ri64 p0.Match, cl 1 Ri64 p0.Random])] 2 [] (by kernel_rfl) ?_
 refine AW.sg tt_ok0 [(3, .c (.t (.v (.func (.func 65) #[] #[]))))] [] [] 3 [] (by kernel_rfl) ?_
 refine AW.seq (AW.seq ?_)
 refine AW.join (ι := Bool) (fun v => ⟨[(40, vb v)], [], 0⟩) (fun v : Bool => em_Check_k1 v = some r) (fun x1 h => ?_) ?_
 ·
  unfold em_Check_k1 at h
  refine AW.tn ?_
  refine AW.co h (by kernel_rfl) (fun c2 h => ?_) (fun c2 h => ?_)
  ·
   refine AW.sg tt_ok0 [(2, vi64 18)] [] [] 1 [] (by kernel_rfl) ?_
   refine AW.ret (AW.tr ?_)
   obtain rfl := some_inj h
   exact fn0 (.inr rfl) [] 0 (vi64 18) (by kernel_rfl)
  ·
   refine AW.skip (AW.tn ?_)
   refine AW.sg tt_ok0 [(2, vi64 0)] [] [] 1 [] (by kernel_rfl) ?_
   refine AW.ret ?_
   obtain rfl := some_inj h
   exact fn0 (.inr rfl) [] 0 (vi64 0) (by kernel_rfl)
 ·
  rcases ifs h with ⟨c3, h⟩ | ⟨c3, h⟩
  ·
   refine AW.rg tt_ok0 [(40, vb true)] [] [] 40 [hn, hn, hn, hn, hn, hn, ht c3] (by kernel_rfl) ?_
   exact jl true h (conv_re [] (by kernel_rfl))
  ·
   rcases ifs h with ⟨c4, h⟩ | ⟨c4, h⟩
   ·
    refine AW.rg tt_ok0 [(40, vb true)] [] [] 40 [hn, hn, hn, hn, hn, hn, hf c3, hn, hn, hn, hn, ht c4] (by kernel_rfl) ?_
    exact jl true h (conv_re [] (by kernel_rfl))
   ·
    rcases ifs h with ⟨c5, h⟩ | ⟨c5, h⟩
    ·
     refine AW.rg tt_ok0 [(40, vb true)] [] [] 40 [hn, hn, hn, hn, hn, hn, hf c3, hn, hn, hn, hn, hf c4, hn, hn, hn, hn, hn, ht c5] (by kernel_rfl) ?_
     exact jl true h (conv_re [] (by kernel_rfl))
    ·
     obtain ⟨y6, e7, h⟩ := bnd_some h
     rcases ifs h with ⟨c8, hs⟩ | ⟨c8, hs⟩
     ·clear h; subst c8; have h := hs; clear hs
      refine AW.rg tt_ok0 [(40, vb true)] [] [] 39 [hn, hn, hn, hn, hn, hn, hf c3, hn, hn, hn, hn, hf c4, hn, hn, hn, hn, hn, hf c5, hn, hn, hn, hn, hn, hk (em_Check_f1_con p0.Prior true e7)] (by kernel_rfl) ?_
      exact jl true h (conv_re [] (by kernel_rfl))
     ·clear h; subst c8; have h := hs; clear hs
      obtain ⟨y9, e10, h⟩ := bnd_some h
      rcases ifs h with ⟨c11, hs⟩ | ⟨c11, hs⟩
      ·clear h; subst c11; have h := hs; clear hs
       refine AW.rg tt_ok0 [(40, vb true)] [] [] 38 [hn, hn, hn, hn, hn, hn, hf c3, hn, hn, hn, hn, hf c4, hn, hn, hn, hn, hn, hf c5, hn, hn, hn, hn, hn, hk (em_Check_f1_con p0.Prior false e7), hn, hn, hn, hn, hn, hk (slices_ContainsFunc_int_em_Check_f1_con p0.Match true e10)] (by kernel_rfl) ?_
       exact jl true h (conv_re [] (by kernel_rfl))
      ·clear h; subst c11; have h := hs; clear hs
       obtain ⟨y12, e13, h⟩ := bnd_some h
       refine AW.rg tt_ok0 [(40, vb y12)] [] [] 37 [hn, hn, hn, hn, hn, hn, hf c3, hn, hn, hn, hn, hf c4, hn, hn, hn, hn, hn, hf c5, hn, hn, hn, hn, hn, hk (em_Check_f1_con p0.Prior false e7), hn, hn, hn, hn, hn, hk (slices_ContainsFunc_int_em_Check_f1_con p0.Match false e10), hn, hn, hn, hn, hn, hk (slices_ContainsFunc_int_em_Check_f1_con p0.Random y12 e13)] (by kernel_rfl) ?_
       exact jl y12 h (conv_re [] (by kernel_rfl))
/-! recordlink/similarity.fields -/
noncomputable def similarity_fields_k1 (x1 : Bool) : Option Bool := some x1
noncomputable def similarity_fields (p0 : Int) : Option Bool := if (decide (p0 ≥ 1)) = true then (similarity_fields_k1 (decide (p0 ≤ 5))) else (similarity_fields_k1 false)
set_option maxRecDepth 100000 in
theorem similarity_fields_con (p0 : Int) (r : Bool) (h : similarity_fields p0 = some r) : Con Tryz.prog 72 [vi64 p0] [] (vb r) [] := by
 refine con_of tt_ok0 0 Tryz.func72 (by kernel_rfl) rfl (by kernel_rfl) (fun base X _ => AW.post ?_)
 unfold similarity_fields at h
 refine AW.sg tt_ok0 [] [] [] 1 [] (by kernel_rfl) ?_
 refine AW.seq ?_
 refine AW.join (ι := Bool) (fun v => ⟨[(2, vb v)], [], 0⟩) (fun v : Bool => similarity_fields_k1 v = some r) (fun x1 h => ?_) ?_
 ·
  unfold similarity_fields_k1 at h
  refine AW.tn (AW.ret ?_)
  obtain rfl := some_inj h
  exact fn0 (.inr rfl) [] 0 (vb x1) (by kernel_rfl)
 ·
  rcases ifs h with ⟨c2, h⟩ | ⟨c2, h⟩
  ·
   refine AW.rg tt_ok0 [(2, vb (decide (p0 ≤ 5)))] [] [] 8 [hn, ht c2] (by kernel_rfl) ?_
   exact jl (decide (p0 ≤ 5)) h (conv_re [] (by kernel_rfl))
  ·
   refine AW.rg tt_ok0 [(2, vb false)] [] [] 8 [hn, hf c2] (by kernel_rfl) ?_
   exact jl false h (conv_re [] (by kernel_rfl))
/-! recordlink/similarity.powers -/
noncomputable def similarity_powers : Option (List Int) := some ([1, 3, 9, 27, 81, 243] : List Int)
set_option maxRecDepth 100000 in
theorem similarity_powers_con (r : List Int) (h : similarity_powers = some r) : Con Tryz.prog 73 [] [] (.agg [ci64 (r.getD 0 0), ci64 (r.getD 1 0), ci64 (r.getD 2 0), ci64 (r.getD 3 0), ci64 (r.getD 4 0), ci64 (r.getD 5 0)]) [] := by
 refine con_of tt_ok0 0 Tryz.func73 (by kernel_rfl) rfl (by kernel_rfl) (fun base X _ => AW.post ?_)
 unfold similarity_powers at h
 refine AW.sg tt_ok0 [(0, .c (.ptr 0 1 0 0))] [0] [(0, .row 106 false 1 6 (Ri64 ([0, 0, 0, 0, 0, 0] : List Int)))] 1 [hr 6 (Ri64 ([0, 0, 0, 0, 0, 0] : List Int)) (p := 6 = 6 ∧ ∀ i, i < 6 → ∀ j, j < 1 → TLe (rowOf [.v (.int .i64 0), .v (.int .i64 0), .v (.int .i64 0), .v (.int .i64 0), .v (.int .i64 0), .v (.int .i64 0)] 1 i j) (Ri64 ([0, 0, 0, 0, 0, 0] : List Int) i j)) (⟨rfl, fun i hi j hj => match i, hi, j, hj with | 0, _, 0, _ => TLe.refl _ | 1, _, 0, _ => TLe.refl _ | 2, _, 0, _ => TLe.refl _ | 3, _, 0, _ => TLe.refl _ | 4, _, 0, _ => TLe.refl _ | 5, _, 0, _ => TLe.refl _ | _ + 6, h, _, _ => absurd h (by omega) | _, _, _ + 1, h => absurd h (by omega)⟩)] (by kernel_rfl) ?_
 refine AW.sg tt_ok0 [] [0] [(0, .row 106 false 1 6 (Ri64 ([1, 3, 9, 27, 81, 243] : List Int)))] 3 [hn, hr 6 (Ri64 ([1, 3, 9, 27, 81, 243] : List Int)) (p := 6 = 6 ∧ ∀ i, i < 6 → ∀ j, j < 1 → TLe (rowOf [.v (.int .i64 1), .v (.int .i64 3), .v (.int .i64 9), .v (.int .i64 27), .v (.int .i64 81), .v (.int .i64 243)] 1 i j) (Ri64 ([1, 3, 9, 27, 81, 243] : List Int) i j)) (⟨rfl, fun i hi j hj => match i, hi, j, hj with | 0, _, 0, _ => TLe.refl _ | 1, _, 0, _ => TLe.refl _ | 2, _, 0, _ => TLe.refl _ | 3, _, 0, _ => TLe.refl _ | 4, _, 0, _ => TLe.refl _ | 5, _, 0, _ => TLe.refl _ | _ + 6, h, _, _ => absurd h (by omega) | _, _, _ + 1, h => absurd h (by omega)⟩)] (by kernel_rfl) ?_
 refine AW.ret ?_
 obtain rfl := some_inj h
 exact ⟨_, Conv.refl _ _, .inr rfl, OutOk.mk [] 0 (out0 := .agg [ci64 (([1, 3, 9, 27, 81, 243] : List Int).getD 0 0), ci64 (([1, 3, 9, 27, 81, 243] : List Int).getD 1 0), ci64 (([1, 3, 9, 27, 81, 243] : List Int).getD 2 0), ci64 (([1, 3, 9, 27, 81, 243] : List Int).getD 3 0), ci64 (([1, 3, 9, 27, 81, 243] : List Int).getD 4 0), ci64 (([1, 3, 9, 27, 81, 243] : List Int).getD 5 0)]) (ps := [0 + 5 < 6]) (by kernel_rfl) ⟨(by decide), tv⟩ (by kernel_rfl) (by kernel_rfl)⟩
/-! recordlink/similarity.Digits -/
noncomputable def similarity_Digits_l2 (p0 : Int) (p1 : Int) (x8 : List Int) (x9 : Int) : Option (((List Int) × Int) ⊕ (List Int)) := if (decide (x9 < p1)) = true then ((similarity_powers).bind fun y12 => (if 0 ≤ x9 then (if x9 < ((6 : Nat) : Int) then (if (y12.getD x9.toNat 0) ≠ 0 then (if x8.length + ([((i64.wrap (p0.tdiv (y12.getD x9.toNat 0))).tmod 3)] : List Int).length ≤ 1099511627776 then (some (.inl ((x8 ++ ([((i64.wrap (p0.tdiv (y12.getD x9.toNat 0))).tmod 3)] : List Int)), i64.wrap (x9 + 1)))) else none) else none) else none) else none)) else (some (.inr x8))
noncomputable def similarity_Digits_k1 (p0 : Int) (p1 : Int) (x4 : Bool) : Option ((List Int) × Int) := if x4 = true then (some (([] : List Int), 2)) else ((loop (fun v : (List Int) × Int => similarity_Digits_l2 p0 p1 v.1 v.2) (([] : List Int), 0)).bind fun x18 => (some (x18, 0)))
noncomputable def similarity_Digits (p0 : Int) (p1 : Int) : Option ((List Int) × Int) := (similarity_fields p1).bind fun y1 => (if (!y1) = true then (some (([] : List Int), 8)) else (if (decide (p0 < 0)) = true then (similarity_Digits_k1 p0 p1 true) else ((similarity_powers).bind fun y21 => (if 0 ≤ p1 then (if p1 < ((6 : Nat) : Int) then (similarity_Digits_k1 p0 p1 (decide (p0 ≥ (y21.getD p1.toNat 0)))) else none) else none))))
set_option maxRecDepth 100000 in
theorem similarity_Digits_con (p0 : Int) (p1 : Int) (r : (List Int) × Int) (h : similarity_Digits p0 p1 = some r) : Con Tryz.prog 48 [vi64 p0, vi64 p1] [] (.tup [.c (.ref 0 1 0 r.1.length), vi64 r.2]) [(0, .row 3 false 1 r.1.length (Ri64 r.1))] := by
 refine con_of tt_ok0 0 Tryz.func48 (by kernel_rfl) rfl (by kernel_rfl) (fun base X _ => AW.post ?_)
 unfold similarity_Digits at h
 refine AW.sg tt_ok0 [] [] [] 2 [] (by kernel_rfl) ?_
 refine AW.seq ?_
 obtain ⟨y1, e2, h⟩ := bnd_some h
 refine AW.sg tt_ok0 [(10, vb (!y1))] [] [] 4 [hn, hk (similarity_fields_con p1 y1 e2)] (by kernel_rfl) ?_
 refine AW.co h (by kernel_rfl) (fun c3 h => ?_) (fun c3 h => ?_)
 ·
  refine AW.sg tt_ok0 [(5, vi64 8), (4, .c (.t (.v (.slice none 0 0))))] [] [] 6 [] (by kernel_rfl) ?_
  refine AW.ret (AW.tr ?_)
  obtain rfl := some_inj h
  exact fnR (.inr rfl) [(0, 6)] 1 (.tup [.c (.ref 6 1 0 (([] : List Int).length)), vi64 8]) (conv_adopt (t := 4) (ty := 3) (sz := 1) (n := ([] : List Int).length) (f := Ri64 ([] : List Int)) (by kernel_rfl) rfl) (by kernel_rfl)
 ·
  refine AW.skip (AW.tn ?_)
  refine AW.seq (AW.seq ?_)
  refine AW.join (ι := Bool) (fun v => ⟨[(0, vi64 p0), (1, vi64 p1), (19, vb v)], [], 0⟩) (fun v : Bool => similarity_Digits_k1 p0 p1 v = some r) (fun x4 h => ?_) ?_
  ·
   unfold similarity_Digits_k1 at h
   refine AW.tn ?_
   refine AW.co h (by kernel_rfl) (fun c5 h => ?_) (fun c5 h => ?_)
   ·
    refine AW.sg tt_ok0 [(5, vi64 2), (4, .c (.t (.v (.slice none 0 0))))] [] [] 2 [] (by kernel_rfl) ?_
    refine AW.ret (AW.tr ?_)
    obtain rfl := some_inj h
    exact fnR (.inr rfl) [(0, 2)] 1 (.tup [.c (.ref 2 1 0 (([] : List Int).length)), vi64 2]) (conv_adopt (t := 4) (ty := 3) (sz := 1) (n := ([] : List Int).length) (f := Ri64 ([] : List Int)) (by kernel_rfl) rfl) (by kernel_rfl)
   ·
    refine AW.skip (AW.tn ?_)
    refine AW.sg tt_ok0 [(6, .c (.t (.v (.slice none 0 0))))] [] [] 1 [] (by kernel_rfl) ?_
    refine AW.seq ?_
    refine AW.sg tt_ok0 [(21, vi64 0), (20, vi64 p1)] [] [] 3 [] (by kernel_rfl) ?_
    refine AW.block ?_
    obtain ⟨x18, l19, h⟩ := bnd_some h
    refine AW.lp l19 (fun v => ⟨[(0, vi64 p0), (6, .c (.ref 0 1 0 v.1.length)), (20, vi64 p1), (21, vi64 v.2)], [(0, .row 3 false 1 v.1.length (Ri64 v.1))], 1⟩) (fun t : List Int => (.exit 0, ⟨[(6, .c (.ref 0 1 0 t.length))], [(0, .row 3 false 1 t.length (Ri64 t))], 1⟩)) (Conv.trans (conv_adopt (t := 6) (ty := 3) (sz := 1) (n := ([] : List Int).length) (f := Ri64 ([] : List Int)) (by kernel_rfl) rfl) (conv_re [(0, 3)] (by kernel_rfl))) (fun _ => tv) ?_ ?_
    ·
     clear l19 h
     intro v o h
     obtain ⟨x8, x9⟩ := v
     replace h : similarity_Digits_l2 p0 p1 x8 x9 = some o := h
     unfold similarity_Digits_l2 at h
     refine AW.sg tt_ok0 [(22, vb (decide (x9 < p1)))] [] [] 2 [] (by kernel_rfl) ?_
     refine AW.seq ?_
     refine AW.co h (by kernel_rfl) (fun c11 h => ?_) (fun c11 h => ?_)
     ·
      refine AW.skip (AW.tn ?_)
      refine AW.seq (AW.block ?_)
      refine AW.sg tt_ok0 [(7, vi64 x9)] [] [] 4 [] (by kernel_rfl) ?_
      obtain ⟨y12, e13, h⟩ := bnd_some h
      obtain ⟨g14, g15, h⟩ := ifd h
      obtain ⟨g16, g17, h⟩ := ifd h
      refine AW.rg tt_ok0 [(6, .c (.ref 11 1 0 ((x8 ++ ([((i64.wrap (p0.tdiv (y12.getD x9.toNat 0))).tmod 3)] : List Int)).length)))] [0, 10, 11] [(11, .row 3 false 1 (x8 ++ ([((i64.wrap (p0.tdiv (y12.getD x9.toNat 0))).tmod 3)] : List Int)).length (Ri64 (x8 ++ ([((i64.wrap (p0.tdiv (y12.getD x9.toNat 0))).tmod 3)] : List Int))))] 13 [hn, hn, hk (similarity_powers_con y12 e13), hn, hr 6 (Ri64 y12) (p := ((0 ≤ x9) ∧ (x9 < ((6 : Nat) : Int))) ∧ (6 = 6 ∧ ∀ i, i < 6 → ∀ j, j < 1 → rowOf [.v (.int .i64 (y12.getD 0 0)), .v (.int .i64 (y12.getD 1 0)), .v (.int .i64 (y12.getD 2 0)), .v (.int .i64 (y12.getD 3 0)), .v (.int .i64 (y12.getD 4 0)), .v (.int .i64 (y12.getD 5 0))] 1 i j = Ri64 y12 i j)) (⟨⟨g14, g15⟩, ⟨rfl, fun i hi j hj => match i, hi, j, hj with | 0, _, 0, _ => rfl | 1, _, 0, _ => rfl | 2, _, 0, _ => rfl | 3, _, 0, _ => rfl | 4, _, 0, _ => rfl | 5, _, 0, _ => rfl | _ + 6, h, _, _ => absurd h (by omega) | _, _, _ + 1, h => absurd h (by omega)⟩⟩), ho g16, ho (p := (3 : Int) ≠ 0) (by decide), hlit 0 Ei64 1 (fun _ => rfl) ([((i64.wrap (p0.tdiv (y12.getD x9.toNat 0))).tmod 3)] : List Int), happ 0 Ei64 1 8 x8 ([((i64.wrap (p0.tdiv (y12.getD x9.toNat 0))).tmod 3)] : List Int) g17 (by decide)] (by kernel_rfl) ?_
      refine AW.inBlock_normal (AW.tn ?_)
      refine AW.rg tt_ok0 [(21, vi64 (i64.wrap (x9 + 1)))] [] [] 15 [] (by kernel_rfl) ?_
      exact lpn h (conv_re [(0, 11)] (by kernel_rfl))
     ·
      refine AW.exit (AW.thenQ_exit ?_)
      exact lpo h rfl (conv_re [(0, 0)] (by kernel_rfl))
    ·
     show (_ : Exit → St → Prop) (.exit 0) _
     refine AW.inBlock_hit (AW.tn ?_)
     refine AW.sg tt_ok0 [(5, vi64 0), (4, .c (.ref 0 1 0 x18.length))] [] [] 4 [] (by kernel_rfl) ?_
     refine AW.ret ?_
     obtain rfl := some_inj h
     exact fn0 (.inr rfl) [(0, 0)] 1 (.tup [.c (.ref 0 1 0 x18.length), vi64 0]) (by kernel_rfl)
  ·
   rcases ifs h with ⟨c20, h⟩ | ⟨c20, h⟩
   ·
    refine AW.rg tt_ok0 [(19, vb true)] [] [] 13 [hn, ht c20] (by kernel_rfl) ?_
    exact jl true h (conv_re [] (by kernel_rfl))
   ·
    obtain ⟨y21, e22, h⟩ := bnd_some h
    obtain ⟨g23, g24, h⟩ := ifd h
    refine AW.rg tt_ok0 [(19, vb (decide (p0 ≥ (y21.getD p1.toNat 0))))] [] [] 12 [hn, hf c20, hn, hn, hk (similarity_powers_con y21 e22), hn, hr 6 (Ri64 y21) (p := ((0 ≤ p1) ∧ (p1 < ((6 : Nat) : Int))) ∧ (6 = 6 ∧ ∀ i, i < 6 → ∀ j, j < 1 → rowOf [.v (.int .i64 (y21.getD 0 0)), .v (.int .i64 (y21.getD 1 0)), .v (.int .i64 (y21.getD 2 0)), .v (.int .i64 (y21.getD 3 0)), .v (.int .i64 (y21.getD 4 0)), .v (.int .i64 (y21.getD 5 0))] 1 i j = Ri64 y21 i j)) (⟨⟨g23, g24⟩, ⟨rfl, fun i hi j hj => match i, hi, j, hj with | 0, _, 0, _ => rfl | 1, _, 0, _ => rfl | 2, _, 0, _ => rfl | 3, _, 0, _ => rfl | 4, _, 0, _ => rfl | 5, _, 0, _ => rfl | _ + 6, h, _, _ => absurd h (by omega) | _, _, _ + 1, h => absurd h (by omega)⟩⟩)] (by kernel_rfl) ?_
    exact jl (decide (p0 ≥ (y21.getD p1.toNat 0))) h (conv_re [] (by kernel_rfl))
def Eu32 (x : Int) : List T := [.v (.int .u32 x)]
def Ru32 (xs : List Int) : Nat → Nat → T := rowL 0 Eu32 xs
theorem Vu32 : ∀ x, allV (Eu32 x) := fun _ => ⟨tv, tv⟩
/-! recordlink/natural.trim -/
noncomputable def natural_trim_k2 (x2 : List Int) (x4 : Bool) : Option ((List Int) ⊕ (List Int)) := if x4 = true then (if 0 ≤ (i64.wrap ((x2.length : Int) - 1)) then (if ((i64.wrap ((x2.length : Int) - 1)).toNat) ≤ x2.length then (some (.inl (x2.take ((i64.wrap ((x2.length : Int) - 1)).toNat)))) else none) else none) else (some (.inr x2))
noncomputable def natural_trim_l1 (x2 : List Int) : Option ((List Int) ⊕ (List Int)) := if (decide ((x2.length : Int) > 0)) = true then (if 0 ≤ (i64.wrap ((x2.length : Int) - 1)) then (if (i64.wrap ((x2.length : Int) - 1)) < (x2.length : Int) then (natural_trim_k2 x2 ((x2.getD ((i64.wrap ((x2.length : Int) - 1)).toNat) 0) == 0)) else none) else none) else (natural_trim_k2 x2 false)
noncomputable def natural_trim (p0 : List Int) : Option (List Int) := (loop (fun v : List Int => natural_trim_l1 v) p0).bind fun x11 => (some x11)
set_option maxRecDepth 100000 in
theorem natural_trim_con (p0 : List Int) (r : List Int) (h : natural_trim p0 = some r) : Con Tryz.prog 104 [vl 1 Ru32 p0] [] (vl 1 Ru32 r) [] := by
 refine con_of tt_ok0 0 Tryz.func104 (by kernel_rfl) rfl (by kernel_rfl) (fun base X _ => AW.post ?_)
 unfold natural_trim at h
 refine AW.sg tt_ok0 [] [] [] 1 [] (by kernel_rfl) ?_
 refine AW.seq (AW.block ?_)
 obtain ⟨x11, l12, h⟩ := bnd_some h
 refine AW.lp l12 (fun v => ⟨[(0, vl 1 Ru32 v)], [], 0⟩) (fun t : List Int => (.exit 0, ⟨[(0, vl 1 Ru32 t)], [], 0⟩)) (conv_re [] (by kernel_rfl)) (fun _ => tv) ?_ ?_
 ·
  clear l12 h
  intro x2 o h
  unfold natural_trim_l1 at h
  refine AW.seq (AW.seq ?_)
  refine AW.join (ι := Bool) (fun v => ⟨[(0, vl 1 Ru32 x2), (14, vb v)], [], 0⟩) (fun v : Bool => natural_trim_k2 x2 v = some o) (fun x4 h => ?_) ?_
  ·
   unfold natural_trim_k2 at h
   refine AW.tn ?_
   refine AW.co h (by kernel_rfl) (fun c5 h => ?_) (fun c5 h => ?_)
   ·
    refine AW.skip (AW.tn (AW.block ?_))
    obtain ⟨g6, g7, h⟩ := ifd h
    refine AW.rg tt_ok0 [(0, .c (.t (.tree ((i64.wrap ((x2.length : Int) - 1)).toNat) 1 (Ru32 x2))))] [] [] 6 [hn, hn, hn, hn, ho (p := (True) ∧ (0 ≤ (i64.wrap ((x2.length : Int) - 1))) ∧ (0 ≤ ((i64.wrap ((x2.length : Int) - 1)).toNat)) ∧ (((i64.wrap ((x2.length : Int) - 1)).toNat) ≤ x2.length)) (⟨tv, g6, (Nat.zero_le _), g7⟩)] (by kernel_rfl) ?_
    refine AW.inBlock_normal ?_
    exact lpn h (Conv.trans (conv_tms [(0, vl 1 Ru32 (x2.take ((i64.wrap ((x2.length : Int) - 1)).toNat)))] ⟨⟨.c (.t (.tree ((i64.wrap ((x2.length : Int) - 1)).toNat) 1 (Ru32 x2))), by kernel_rfl, ALe.c (CAle.cle (CAle.tree (take_row (by omega))))⟩, tv⟩) (conv_re [] (by kernel_rfl)))
   ·
    refine AW.exit (AW.thenQ_exit ?_)
    exact lpo h rfl (conv_re [] (by kernel_rfl))
  ·
   rcases ifs h with ⟨c8, h⟩ | ⟨c8, h⟩
   ·
    obtain ⟨g9, g10, h⟩ := ifd h
    refine AW.rg tt_ok0 [(14, vb ((x2.getD ((i64.wrap ((x2.length : Int) - 1)).toNat) 0) == 0))] [] [] 12 [hn, hn, ht c8, hn, hn, hn, hn, hn, hq g9 g10] (by kernel_rfl) ?_
    exact jl ((x2.getD ((i64.wrap ((x2.length : Int) - 1)).toNat) 0) == 0) h (conv_re [] (by kernel_rfl))
   ·
    refine AW.rg tt_ok0 [(14, vb false)] [] [] 12 [hn, hn, hf c8] (by kernel_rfl) ?_
    exact jl false h (conv_re [] (by kernel_rfl))
 ·
  show (_ : Exit → St → Prop) (.exit 0) _
  refine AW.inBlock_hit (AW.tn ?_)
  refine AW.sg tt_ok0 [(2, vl 1 Ru32 x11)] [] [] 2 [] (by kernel_rfl) ?_
  refine AW.ret ?_
  obtain rfl := some_inj h
  exact fn0 (.inr rfl) [] 0 (vl 1 Ru32 x11) (by kernel_rfl)
/-! recordlink/natural.FromInt -/
noncomputable def natural_FromInt (p0 : Int) : Option ((List Int) × Int) := if (decide (p0 < 0)) = true then (some (([] : List Int), 2)) else ((natural_trim ([u32.wrap p0, u32.wrap (ishr .i64 p0 32)] : List Int)).bind fun y2 => (some (y2, 0)))
set_option maxRecDepth 100000 in
theorem natural_FromInt_con (p0 : Int) (r : (List Int) × Int) (h : natural_FromInt p0 = some r) : Con Tryz.prog 74 [vi64 p0] [] (.tup [vl 1 Ru32 r.1, vi64 r.2]) [] := by
 refine con_of tt_ok0 0 Tryz.func74 (by kernel_rfl) rfl (by kernel_rfl) (fun base X _ => AW.post ?_)
 unfold natural_FromInt at h
 refine AW.sg tt_ok0 [] [] [] 2 [] (by kernel_rfl) ?_
 refine AW.seq ?_
 refine AW.sg tt_ok0 [(5, vb (decide (p0 < 0)))] [] [] 4 [] (by kernel_rfl) ?_
 refine AW.co h (by kernel_rfl) (fun c1 h => ?_) (fun c1 h => ?_)
 ·
  refine AW.sg tt_ok0 [(3, vi64 2), (2, .c (.t (.v (.slice none 0 0))))] [] [] 6 [] (by kernel_rfl) ?_
  refine AW.ret (AW.tr ?_)
  obtain rfl := some_inj h
  exact fnR (.inr rfl) [] 0 (.tup [vl 1 Ru32 ([] : List Int), vi64 2]) (conv_tms [(2, vl 1 Ru32 ([] : List Int))] ⟨⟨.c (.t (.v (.slice none 0 0))), by kernel_rfl, ALe.c (CLe.nil rfl)⟩, tv⟩) (by kernel_rfl)
 ·
  refine AW.skip (AW.tn ?_)
  obtain ⟨y2, e3, h⟩ := bnd_some h
  refine AW.sg tt_ok0 [(3, vi64 0), (2, vl 1 Ru32 y2)] [9] [] 12 [hn, hn, hn, ho (p := 0 ≤ (32 : Int)) (by decide), hn, hlit 0 Eu32 1 (fun _ => rfl) ([u32.wrap p0, u32.wrap (ishr .i64 p0 32)] : List Int), hg [] [9] false 0 (q := (0 + ([u32.wrap p0, u32.wrap (ishr .i64 p0 32)] : List Int).length ≤ ([u32.wrap p0, u32.wrap (ishr .i64 p0 32)] : List Int).length) ∧ (True)) ⟨le0, tv⟩ (a0 := [vl 1 Ru32 ([u32.wrap p0, u32.wrap (ishr .i64 p0 32)] : List Int)]) (natural_trim_con ([u32.wrap p0, u32.wrap (ishr .i64 p0 32)] : List Int) y2 e3) ⟨ArgLe.refl _, tv⟩ (fun h => by cases h)] (by kernel_rfl) ?_
  refine AW.ret ?_
  obtain rfl := some_inj h
  exact fn0 (.inr rfl) [] 0 (.tup [vl 1 Ru32 y2, vi64 0]) (by kernel_rfl)
/-! recordlink/natural.Valid -/
noncomputable def natural_Valid_k1 (x1 : Bool) : Option Bool := some x1
noncomputable def natural_Valid (p0 : List Int) : Option Bool := if (decide ((p0.length : Int) ≤ 64)) = true then (if ((p0.length : Int) == 0) = true then (natural_Valid_k1 true) else (if 0 ≤ (i64.wrap ((p0.length : Int) - 1)) then (if (i64.wrap ((p0.length : Int) - 1)) < (p0.length : Int) then (natural_Valid_k1 ((p0.getD ((i64.wrap ((p0.length : Int) - 1)).toNat) 0) != 0)) else none) else none)) else (natural_Valid_k1 false)
set_option maxRecDepth 100000 in
theorem natural_Valid_con (p0 : List Int) (r : Bool) (h : natural_Valid p0 = some r) : Con Tryz.prog 78 [vl 1 Ru32 p0] [] (vb r) [] := by
 refine con_of tt_ok0 0 Tryz.func78 (by kernel_rfl) rfl (by kernel_rfl) (fun base X _ => AW.post ?_)
 unfold natural_Valid at h
 refine AW.sg tt_ok0 [] [] [] 1 [] (by kernel_rfl) ?_
 refine AW.seq ?_
 refine AW.join (ι := Bool) (fun v => ⟨[(2, vb v)], [], 0⟩) (fun v : Bool => natural_Valid_k1 v = some r) (fun x1 h => ?_) ?_
 ·
  unfold natural_Valid_k1 at h
  refine AW.tn (AW.ret ?_)
  obtain rfl := some_inj h
  exact fn0 (.inr rfl) [] 0 (vb x1) (by kernel_rfl)
 ·
  rcases ifs h with ⟨c2, h⟩ | ⟨c2, h⟩
  ·
   rcases ifs h with ⟨c3, h⟩ | ⟨c3, h⟩
   ·
    refine AW.rg tt_ok0 [(2, vb true)] [] [] 19 [hn, hn, ht c2, hn, hn, hn, ht c3] (by kernel_rfl) ?_
    exact jl true h (conv_re [] (by kernel_rfl))
   ·
    obtain ⟨g4, g5, h⟩ := ifd h
    refine AW.rg tt_ok0 [(2, vb ((p0.getD ((i64.wrap ((p0.length : Int) - 1)).toNat) 0) != 0))] [] [] 19 [hn, hn, ht c2, hn, hn, hn, hf c3, hn, hn, hn, hn, hn, hq g4 g5] (by kernel_rfl) ?_
    exact jl ((p0.getD ((i64.wrap ((p0.length : Int) - 1)).toNat) 0) != 0) h (conv_re [] (by kernel_rfl))
  ·
   refine AW.rg tt_ok0 [(2, vb false)] [] [] 19 [hn, hn, hf c2] (by kernel_rfl) ?_
   exact jl false h (conv_re [] (by kernel_rfl))
/-! recordlink/natural.both -/
noncomputable def natural_both_k1 (x1 : Bool) : Option Int := if x1 = true then (some 20) else (some 0)
noncomputable def natural_both (p0 : List Int) (p1 : List Int) : Option Int := (natural_Valid p0).bind fun y3 => (if (!y3) = true then (natural_both_k1 true) else ((natural_Valid p1).bind fun y6 => (natural_both_k1 (!y6))))
set_option maxRecDepth 100000 in
theorem natural_both_con (p0 : List Int) (p1 : List Int) (r : Int) (h : natural_both p0 p1 = some r) : Con Tryz.prog 76 [vl 1 Ru32 p0, vl 1 Ru32 p1] [] (vi64 r) [] := by
 refine con_of tt_ok0 0 Tryz.func76 (by kernel_rfl) rfl (by kernel_rfl) (fun base X _ => AW.post ?_)
 unfold natural_both at h
 refine AW.sg tt_ok0 [] [] [] 1 [] (by kernel_rfl) ?_
 refine AW.seq (AW.seq ?_)
 refine AW.join (ι := Bool) (fun v => ⟨[(12, vb v)], [], 0⟩) (fun v : Bool => natural_both_k1 v = some r) (fun x1 h => ?_) ?_
 ·
  unfold natural_both_k1 at h
  refine AW.tn ?_
  refine AW.co h (by kernel_rfl) (fun c2 h => ?_) (fun c2 h => ?_)
  ·
   refine AW.sg tt_ok0 [(4, vi64 20)] [] [] 1 [] (by kernel_rfl) ?_
   refine AW.ret (AW.tr ?_)
   obtain rfl := some_inj h
   exact fn0 (.inr rfl) [] 0 (vi64 20) (by kernel_rfl)
  ·
   refine AW.skip (AW.tn ?_)
   refine AW.sg tt_ok0 [(4, vi64 0)] [] [] 1 [] (by kernel_rfl) ?_
   refine AW.ret ?_
   obtain rfl := some_inj h
   exact fn0 (.inr rfl) [] 0 (vi64 0) (by kernel_rfl)
 ·
  obtain ⟨y3, e4, h⟩ := bnd_some h
  rcases ifs h with ⟨c5, h⟩ | ⟨c5, h⟩
  ·
   refine AW.rg tt_ok0 [(12, vb true)] [] [] 8 [hn, hk (natural_Valid_con p0 y3 e4), ht c5] (by kernel_rfl) ?_
   exact jl true h (conv_re [] (by kernel_rfl))
  ·
   obtain ⟨y6, e7, h⟩ := bnd_some h
   refine AW.rg tt_ok0 [(12, vb (!y6))] [] [] 7 [hn, hk (natural_Valid_con p0 y3 e4), hf c5, hn, hn, hk (natural_Valid_con p1 y6 e7)] (by kernel_rfl) ?_
   exact jl (!y6) h (conv_re [] (by kernel_rfl))
/-! recordlink/natural.times -/
noncomputable def natural_times_l2 (p0 : List Int) (p1 : List Int) (x6 : Int) (x14 : List Int) (x15 : Int) (x16 : Int) : Option (((List Int) × Int × Int) ⊕ ((List Int) × Int)) := if (decide (x16 < (p1.length : Int))) = true then (if 0 ≤ x16 then (if x16 < (p1.length : Int) then (if 0 ≤ (i64.wrap (x6 + x16)) then (if (i64.wrap (x6 + x16)) < (x14.length : Int) then ((some (u64.wrap (x15 + (u64.wrap ((u64.wrap ((u64.wrap (p0.getD x6.toNat 0)) * (u64.wrap (p1.getD x16.toNat 0)))) + (u64.wrap (x14.getD (0 + (i64.wrap (x6 + x16)).toNat) 0))))))).bind fun z24 => (some (.inl ((x14.set (0 + (i64.wrap (x6 + x16)).toNat) (u32.wrap z24)), ishr .u64 z24 32, i64.wrap (x16 + 1))))) else none) else none) else none) else none) else (some (.inr (x14, x15)))
noncomputable def natural_times_l1 (p0 : List Int) (p1 : List Int) (x5 : List Int) (x6 : Int) : Option (((List Int) × Int) ⊕ (List Int)) := if (decide (x6 < (p0.length : Int))) = true then (if 0 ≤ x6 then (if x6 < (p0.length : Int) then (bind2 (loop (fun v : (List Int) × Int × Int => natural_times_l2 p0 p1 x6 v.1 v.2.1 v.2.2) (x5, 0, 0)) fun x26 x27 => (if 0 ≤ (i64.wrap (x6 + (p1.length : Int))) then (if (i64.wrap (x6 + (p1.length : Int))) < (x26.length : Int) then (some (.inl ((x26.set (0 + (i64.wrap (x6 + (p1.length : Int))).toNat) (u32.wrap x27)), i64.wrap (x6 + 1)))) else none) else none)) else none) else none) else (some (.inr x5))
noncomputable def natural_times (p0 : List Int) (p1 : List Int) : Option (List Int) := if 0 ≤ (i64.wrap ((p0.length : Int) + (p1.length : Int))) then (if (i64.wrap ((p0.length : Int) + (p1.length : Int))) ≤ 1099511627776 then ((loop (fun v : (List Int) × Int => natural_times_l1 p0 p1 v.1 v.2) ((List.replicate ((i64.wrap ((p0.length : Int) + (p1.length : Int))).toNat) (0 : Int)), 0)).bind fun x31 => ((natural_trim x31).bind fun y32 => (some y32))) else none) else none
set_option maxRecDepth 100000 in
theorem natural_times_con (p0 : List Int) (p1 : List Int) (r : List Int) (h : natural_times p0 p1 = some r) : Con Tryz.prog 105 [vl 1 Ru32 p0, vl 1 Ru32 p1] [] (vl 1 Ru32 r) [] := by
 refine con_of tt_ok0 0 Tryz.func105 (by kernel_rfl) rfl (by kernel_rfl) (fun base X _ => AW.post ?_)
 unfold natural_times at h
 refine AW.sg tt_ok0 [] [] [] 1 [] (by kernel_rfl) ?_
 obtain ⟨g1, g2, h⟩ := ifd h
 refine AW.sg tt_ok0 [(5, .c (.ref 6 1 0 ((List.replicate ((i64.wrap ((p0.length : Int) + (p1.length : Int))).toNat) (0 : Int)).length)))] [6] [(6, .row 72 false 1 (List.replicate ((i64.wrap ((p0.length : Int) + (p1.length : Int))).toNat) (0 : Int)).length (Ru32 (List.replicate ((i64.wrap ((p0.length : Int) + (p1.length : Int))).toNat) (0 : Int))))] 8 [hn, hn, hn, hn, hn, hmk 0 Eu32 1 4 [.int .u32 0] rfl rfl (i64.wrap ((p0.length : Int) + (p1.length : Int))) (i64.wrap ((p0.length : Int) + (p1.length : Int))) g1 (Int.le_refl _) g2 (by decide)] (by kernel_rfl) ?_
 refine AW.seq ?_
 refine AW.sg tt_ok0 [(19, vi64 0), (18, vi64 (p0.length : Int)), (17, vl 1 Ru32 p0)] [] [] 11 [] (by kernel_rfl) ?_
 refine AW.block ?_
 obtain ⟨x31, l34, h⟩ := bnd_some h
 refine AW.lp l34 (fun v => ⟨[(1, vl 1 Ru32 p1), (5, .c (.ref 0 1 0 v.1.length)), (17, vl 1 Ru32 p0), (18, vi64 (p0.length : Int)), (19, vi64 v.2)], [(0, .row 72 false 1 v.1.length (Ru32 v.1))], 1⟩) (fun t : List Int => (.exit 0, ⟨[(5, .c (.ref 0 1 0 t.length))], [(0, .row 72 false 1 t.length (Ru32 t))], 1⟩)) (conv_re [(0, 6)] (by kernel_rfl)) (fun _ => tv) ?_ ?_
 ·
  clear l34 h
  intro v o h
  obtain ⟨x5, x6⟩ := v
  replace h : natural_times_l1 p0 p1 x5 x6 = some o := h
  unfold natural_times_l1 at h
  refine AW.sg tt_ok0 [(20, vb (decide (x6 < (p0.length : Int))))] [] [] 2 [] (by kernel_rfl) ?_
  refine AW.seq ?_
  refine AW.co h (by kernel_rfl) (fun c8 h => ?_) (fun c8 h => ?_)
  ·
   refine AW.skip (AW.tn ?_)
   refine AW.seq (AW.block ?_)
   obtain ⟨g9, g10, h⟩ := ifd h
   refine AW.sg tt_ok0 [(7, vu32 (p0.getD x6.toNat 0)), (6, vi64 x6)] [] [] 7 [hn, hq g9 g10] (by kernel_rfl) ?_
   refine AW.sg tt_ok0 [(8, vu64 0)] [] [] 8 [] (by kernel_rfl) ?_
   refine AW.seq ?_
   refine AW.sg tt_ok0 [(26, vi64 0), (25, vi64 (p1.length : Int)), (24, vl 1 Ru32 p1)] [] [] 11 [] (by kernel_rfl) ?_
   refine AW.block ?_
   obtain ⟨x26, x27, l30, h⟩ := bind2_some h
   refine AW.lp l30 (fun v => ⟨[(1, vl 1 Ru32 p1), (5, .c (.ref 0 1 0 v.1.length)), (6, vi64 x6), (7, vu32 (p0.getD x6.toNat 0)), (8, vu64 v.2.1), (17, vl 1 Ru32 p0), (18, vi64 (p0.length : Int)), (19, vi64 x6), (24, vl 1 Ru32 p1), (25, vi64 (p1.length : Int)), (26, vi64 v.2.2)], [(0, .row 72 false 1 v.1.length (Ru32 v.1))], 1⟩) (fun t : (List Int) × Int => (.exit 2, ⟨[(1, vl 1 Ru32 p1), (5, .c (.ref 0 1 0 t.1.length)), (6, vi64 x6), (8, vu64 t.2), (17, vl 1 Ru32 p0), (18, vi64 (p0.length : Int)), (19, vi64 x6)], [(0, .row 72 false 1 t.1.length (Ru32 t.1))], 1⟩)) (conv_re [(0, 0)] (by kernel_rfl)) (fun _ => tv) ?_ ?_
   ·
    clear l30 h
    intro v o h
    obtain ⟨x14, x15, x16⟩ := v
    replace h : natural_times_l2 p0 p1 x6 x14 x15 x16 = some o := h
    unfold natural_times_l2 at h
    refine AW.sg tt_ok0 [(27, vb (decide (x16 < (p1.length : Int))))] [] [] 2 [] (by kernel_rfl) ?_
    refine AW.seq ?_
    refine AW.co h (by kernel_rfl) (fun c19 h => ?_) (fun c19 h => ?_)
    ·
     refine AW.skip (AW.tn ?_)
     refine AW.seq (AW.block ?_)
     obtain ⟨g20, g21, h⟩ := ifd h
     refine AW.sg tt_ok0 [(10, vu32 (p1.getD x16.toNat 0)), (9, vi64 x16)] [] [] 7 [hn, hq g20 g21] (by kernel_rfl) ?_
     obtain ⟨g22, g23, h⟩ := ifd h
     obtain ⟨z24, n25, h⟩ := bnd_some h
     replace n25 := some_inj n25
     refine AW.sg tt_ok0 [(8, vu64 z24)] [] [] 23 [hn, hn, hn, hn, hn, hn, hn, hn, hn, hn, hq g22 g23, ho (p := (0 + (i64.wrap (x6 + x16)).toNat) < x14.length) (by have h1 : 0 ≤ (i64.wrap (x6 + x16)) := g22; have h2 : (i64.wrap (x6 + x16)) < (x14.length : Int) := g23; omega)] (by subst n25; kernel_rfl) ?_
     refine AW.sg tt_ok0 [] [0] [(0, .row 72 false 1 x14.length (Ru32 (x14.set (0 + (i64.wrap (x6 + x16)).toNat) (u32.wrap z24))))] 31 [hn, hn, hn, hn, hn, hn, hq g22 g23, hset 0 Eu32 x14 (0 + (i64.wrap (x6 + x16)).toNat) (u32.wrap z24) (n := x14.length) (by have h1 : 0 ≤ (i64.wrap (x6 + x16)) := g22; have h2 : (i64.wrap (x6 + x16)) < (x14.length : Int) := g23; omega) rfl] (by kernel_rfl) ?_
     refine AW.rg tt_ok0 [(8, vu64 (ishr .u64 z24 32))] [] [] 34 [hn, ho (p := 0 ≤ (32 : Int)) (by decide)] (by kernel_rfl) ?_
     refine AW.inBlock_normal (AW.tn ?_)
     refine AW.rg tt_ok0 [(26, vi64 (i64.wrap (x16 + 1)))] [] [] 36 [] (by kernel_rfl) ?_
     exact lpn h (Conv.trans (conv_tms [(5, .c (.ref 0 1 0 ((x14.set (0 + (i64.wrap (x6 + x16)).toNat) (u32.wrap z24)).length)))] ⟨⟨.c (.ref 0 1 0 x14.length), by kernel_rfl, ALe.len (by simp only [List.length_set])⟩, tv⟩) (Conv.trans (conv_rowN 0 72 false 1 x14.length ((x14.set (0 + (i64.wrap (x6 + x16)).toNat) (u32.wrap z24)).length) (Ru32 (x14.set (0 + (i64.wrap (x6 + x16)).toNat) (u32.wrap z24))) (by kernel_rfl) (by simp only [List.length_set])) (conv_re [(0, 0)] (by kernel_rfl))))
    ·
     refine AW.exit (AW.thenQ_exit ?_)
     exact lpo h rfl (conv_re [(0, 0)] (by kernel_rfl))
   ·
    show (_ : Exit → St → Prop) (.exit 2) _
    refine AW.inBlock_hit (AW.tn ?_)
    obtain ⟨g28, g29, h⟩ := ifd h
    refine AW.rg tt_ok0 [] [0] [(0, .row 72 false 1 x26.length (Ru32 (x26.set (0 + (i64.wrap (x6 + (p1.length : Int))).toNat) (u32.wrap x27))))] 10 [hn, hn, hn, hn, hn, hn, hn, hq g28 g29, hset 0 Eu32 x26 (0 + (i64.wrap (x6 + (p1.length : Int))).toNat) (u32.wrap x27) (n := x26.length) (by have h1 : 0 ≤ (i64.wrap (x6 + (p1.length : Int))) := g28; have h2 : (i64.wrap (x6 + (p1.length : Int))) < (x26.length : Int) := g29; omega) rfl] (by kernel_rfl) ?_
    refine AW.inBlock_normal (AW.tn ?_)
    refine AW.rg tt_ok0 [(19, vi64 (i64.wrap (x6 + 1)))] [] [] 12 [] (by kernel_rfl) ?_
    exact lpn h (Conv.trans (conv_tms [(5, .c (.ref 0 1 0 ((x26.set (0 + (i64.wrap (x6 + (p1.length : Int))).toNat) (u32.wrap x27)).length)))] ⟨⟨.c (.ref 0 1 0 x26.length), by kernel_rfl, ALe.len (by simp only [List.length_set])⟩, tv⟩) (Conv.trans (conv_rowN 0 72 false 1 x26.length ((x26.set (0 + (i64.wrap (x6 + (p1.length : Int))).toNat) (u32.wrap x27)).length) (Ru32 (x26.set (0 + (i64.wrap (x6 + (p1.length : Int))).toNat) (u32.wrap x27))) (by kernel_rfl) (by simp only [List.length_set])) (conv_re [(0, 0)] (by kernel_rfl))))
  ·
   refine AW.exit (AW.thenQ_exit ?_)
   exact lpo h rfl (conv_re [(0, 0)] (by kernel_rfl))
 ·
  show (_ : Exit → St → Prop) (.exit 0) _
  refine AW.inBlock_hit (AW.tn ?_)
  obtain ⟨y32, e33, h⟩ := bnd_some h
  refine AW.sg tt_ok0 [(4, vl 1 Ru32 y32)] [0] [] 3 [hn, hg [] [0] false 0 (q := (0 + x31.length ≤ x31.length) ∧ (True)) ⟨le0, tv⟩ (a0 := [vl 1 Ru32 x31]) (natural_trim_con x31 y32 e33) ⟨ArgLe.refl _, tv⟩ (fun h => by cases h)] (by kernel_rfl) ?_
  refine AW.ret ?_
  obtain rfl := some_inj h
  exact fn0 (.inr rfl) [] 0 (vl 1 Ru32 y32) (by kernel_rfl)
/-! recordlink/natural.done -/
noncomputable def natural_done (p0 : List Int) : Option ((List Int) × Int) := (natural_trim p0).bind fun y1 => ((natural_Valid y1).bind fun y3 => (if (!y3) = true then (some (([] : List Int), 1)) else (some (y1, 0))))
set_option maxRecDepth 100000 in
theorem natural_done_con (p0 : List Int) (r : (List Int) × Int) (h : natural_done p0 = some r) : Con Tryz.prog 77 [vl 1 Ru32 p0] [] (.tup [vl 1 Ru32 r.1, vi64 r.2]) [] := by
 refine con_of tt_ok0 0 Tryz.func77 (by kernel_rfl) rfl (by kernel_rfl) (fun base X _ => AW.post ?_)
 unfold natural_done at h
 refine AW.sg tt_ok0 [] [] [] 2 [] (by kernel_rfl) ?_
 obtain ⟨y1, e2, h⟩ := bnd_some h
 refine AW.sg tt_ok0 [(0, vl 1 Ru32 y1)] [] [] 4 [hn, hk (natural_trim_con p0 y1 e2)] (by kernel_rfl) ?_
 refine AW.seq ?_
 obtain ⟨y3, e4, h⟩ := bnd_some h
 refine AW.sg tt_ok0 [(8, vb (!y3))] [] [] 6 [hn, hk (natural_Valid_con y1 y3 e4)] (by kernel_rfl) ?_
 refine AW.co h (by kernel_rfl) (fun c5 h => ?_) (fun c5 h => ?_)
 ·
  refine AW.sg tt_ok0 [(3, vi64 1), (2, .c (.t (.v (.slice none 0 0))))] [] [] 8 [] (by kernel_rfl) ?_
  refine AW.ret (AW.tr ?_)
  obtain rfl := some_inj h
  exact fnR (.inr rfl) [] 0 (.tup [vl 1 Ru32 ([] : List Int), vi64 1]) (conv_tms [(2, vl 1 Ru32 ([] : List Int))] ⟨⟨.c (.t (.v (.slice none 0 0))), by kernel_rfl, ALe.c (CLe.nil rfl)⟩, tv⟩) (by kernel_rfl)
 ·
  refine AW.skip (AW.tn ?_)
  refine AW.sg tt_ok0 [(3, vi64 0), (2, vl 1 Ru32 y1)] [] [] 9 [] (by kernel_rfl) ?_
  refine AW.ret ?_
  obtain rfl := some_inj h
  exact fn0 (.inr rfl) [] 0 (.tup [vl 1 Ru32 y1, vi64 0]) (by kernel_rfl)
/-! recordlink/natural.Mul -/
noncomputable def natural_Mul (p0 : List Int) (p1 : List Int) : Option ((List Int) × Int) := (natural_both p0 p1).bind fun y1 => (if (y1 != 0) = true then (some (([] : List Int), y1)) else ((natural_times p0 p1).bind fun y4 => (bind2 (natural_done y4) fun y6 y7 => (some (y6, y7)))))
set_option maxRecDepth 100000 in
theorem natural_Mul_con (p0 : List Int) (p1 : List Int) (r : (List Int) × Int) (h : natural_Mul p0 p1 = some r) : Con Tryz.prog 75 [vl 1 Ru32 p0, vl 1 Ru32 p1] [] (.tup [vl 1 Ru32 r.1, vi64 r.2]) [] := by
 refine con_of tt_ok0 0 Tryz.func75 (by kernel_rfl) rfl (by kernel_rfl) (fun base X _ => AW.post ?_)
 unfold natural_Mul at h
 refine AW.sg tt_ok0 [] [] [] 2 [] (by kernel_rfl) ?_
 refine AW.seq ?_
 obtain ⟨y1, e2, h⟩ := bnd_some h
 refine AW.sg tt_ok0 [(6, vi64 y1)] [] [] 5 [hn, hn, hk (natural_both_con p0 p1 y1 e2)] (by kernel_rfl) ?_
 refine AW.sg tt_ok0 [(11, vb (y1 != 0))] [] [] 7 [] (by kernel_rfl) ?_
 refine AW.co h (by kernel_rfl) (fun c3 h => ?_) (fun c3 h => ?_)
 ·
  refine AW.sg tt_ok0 [(5, vi64 y1), (4, .c (.t (.v (.slice none 0 0))))] [] [] 10 [] (by kernel_rfl) ?_
  refine AW.ret (AW.tr ?_)
  obtain rfl := some_inj h
  exact fnR (.inr rfl) [] 0 (.tup [vl 1 Ru32 ([] : List Int), vi64 y1]) (conv_tms [(4, vl 1 Ru32 ([] : List Int))] ⟨⟨.c (.t (.v (.slice none 0 0))), by kernel_rfl, ALe.c (CLe.nil rfl)⟩, tv⟩) (by kernel_rfl)
 ·
  refine AW.skip (AW.tn ?_)
  obtain ⟨y4, e5, h⟩ := bnd_some h
  obtain ⟨y6, y7, e8, h⟩ := bind2_some h
  refine AW.sg tt_ok0 [(5, vi64 y7), (4, vl 1 Ru32 y6)] [] [] 13 [hn, hn, hk (natural_times_con p0 p1 y4 e5), hk (natural_done_con y4 (y6, y7) e8)] (by kernel_rfl) ?_
  refine AW.ret ?_
  obtain rfl := some_inj h
  exact fn0 (.inr rfl) [] 0 (.tup [vl 1 Ru32 y6, vi64 y7]) (by kernel_rfl)
/-! recordlink/em.weight -/
noncomputable def em_weight_k2 (x7 : Int) (x10 : List Int) : Option (((List Int) × Int) ⊕ (List Int)) := some (.inl (x10, i64.wrap (x7 + 1)))
noncomputable def em_weight_k3 (x6 : List Int) (x7 : Int) (x14 : Int) : Option (((List Int) × Int) ⊕ (List Int)) := bind2 (natural_FromInt x14) fun y15 y16 => (bind2 (natural_Mul x6 y15) fun y18 y19 => (em_weight_k2 x7 y18))
noncomputable def em_weight_l1 (p1 : List Int) (p2 : List Int) (x6 : List Int) (x7 : Int) : Option (((List Int) × Int) ⊕ (List Int)) := if (decide (x7 < (p2.length : Int))) = true then (if 0 ≤ x7 then (if x7 < (p2.length : Int) then (if x7 < (p1.length : Int) then (if ((p2.getD x7.toNat 0) == 0) = true then (em_weight_k2 x7 x6) else (if ((p2.getD x7.toNat 0) == 1) = true then (em_weight_k3 x6 x7 (i64.wrap (65536 - (p1.getD x7.toNat 0)))) else (em_weight_k3 x6 x7 (p1.getD x7.toNat 0)))) else none) else none) else none) else (some (.inr x6))
noncomputable def em_weight (p0 : Int) (p1 : List Int) (p2 : List Int) : Option (List Int) := bind2 (natural_FromInt p0) fun y1 y2 => ((loop (fun v : (List Int) × Int => em_weight_l1 p1 p2 v.1 v.2) (y1, 0)).bind fun x23 => (some x23))
set_option maxRecDepth 100000 in
theorem em_weight_con (p0 : Int) (p1 : List Int) (p2 : List Int) (r : List Int) (h : em_weight p0 p1 p2 = some r) : Con Tryz.prog 49 [vi64 p0, vl 1 Ri64 p1, vl 1 Ri64 p2] [] (vl 1 Ru32 r) [] := by
 refine con_of tt_ok0 0 Tryz.func49 (by kernel_rfl) rfl (by kernel_rfl) (fun base X _ => AW.post ?_)
 unfold em_weight at h
 refine AW.sg tt_ok0 [] [] [] 1 [] (by kernel_rfl) ?_
 obtain ⟨y1, y2, e3, h⟩ := bind2_some h
 refine AW.sg tt_ok0 [(7, vl 1 Ru32 y1)] [] [] 7 [hn, hk (natural_FromInt_con p0 (y1, y2) e3)] (by kernel_rfl) ?_
 refine AW.seq ?_
 refine AW.sg tt_ok0 [(21, vi64 0), (20, vi64 (p2.length : Int)), (19, vl 1 Ri64 p2)] [] [] 10 [] (by kernel_rfl) ?_
 refine AW.block ?_
 obtain ⟨x23, l24, h⟩ := bnd_some h
 refine AW.lp l24 (fun v => ⟨[(1, vl 1 Ri64 p1), (7, vl 1 Ru32 v.1), (19, vl 1 Ri64 p2), (20, vi64 (p2.length : Int)), (21, vi64 v.2)], [], 0⟩) (fun t : List Int => (.exit 0, ⟨[(7, vl 1 Ru32 t)], [], 0⟩)) (conv_re [] (by kernel_rfl)) (fun _ => tv) ?_ ?_
 ·
  clear l24 h
  intro v o h
  obtain ⟨x6, x7⟩ := v
  replace h : em_weight_l1 p1 p2 x6 x7 = some o := h
  unfold em_weight_l1 at h
  refine AW.sg tt_ok0 [(22, vb (decide (x7 < (p2.length : Int))))] [] [] 1 [] (by kernel_rfl) ?_
  refine AW.seq ?_
  refine AW.co h (by kernel_rfl) (fun c9 h => ?_) (fun c9 h => ?_)
  ·
   refine AW.skip (AW.tn (AW.seq ?_))
   refine AW.join (ι := List Int) (fun v => ⟨[(1, vl 1 Ri64 p1), (7, vl 1 Ru32 v), (19, vl 1 Ri64 p2), (20, vi64 (p2.length : Int)), (21, vi64 x7)], [], 0⟩) (fun v : List Int => em_weight_k2 x7 v = some o) (fun x10 h => ?_) ?_
   ·
    unfold em_weight_k2 at h
    refine AW.tn ?_
    refine AW.rg tt_ok0 [(21, vi64 (i64.wrap (x7 + 1)))] [] [] 2 [] (by kernel_rfl) ?_
    exact lpn h (conv_re [] (by kernel_rfl))
   ·
    refine AW.block ?_
    obtain ⟨g11, g12, h⟩ := ifd h
    refine AW.sg tt_ok0 [(10, vi64 (p2.getD x7.toNat 0)), (9, vi64 x7)] [] [] 6 [hn, hq g11 g12] (by kernel_rfl) ?_
    obtain ⟨g13, h⟩ := ifc h
    refine AW.sg tt_ok0 [(11, vi64 (p1.getD x7.toNat 0))] [] [] 11 [hn, hn, hq g11 g13] (by kernel_rfl) ?_
    refine AW.seq ?_
    refine AW.join (ι := Int) (fun v => ⟨[(1, vl 1 Ri64 p1), (7, vl 1 Ru32 x6), (11, vi64 v), (19, vl 1 Ri64 p2), (20, vi64 (p2.length : Int)), (21, vi64 x7)], [], 0⟩) (fun v : Int => em_weight_k3 x6 x7 v = some o) (fun x14 h => ?_) ?_
    ·
     unfold em_weight_k3 at h
     refine AW.tn ?_
     obtain ⟨y15, y16, e17, h⟩ := bind2_some h
     refine AW.sg tt_ok0 [(12, vl 1 Ru32 y15)] [] [] 6 [hn, hk (natural_FromInt_con x14 (y15, y16) e17)] (by kernel_rfl) ?_
     obtain ⟨y18, y19, e20, h⟩ := bind2_some h
     refine AW.rg tt_ok0 [(7, vl 1 Ru32 y18)] [] [] 12 [hn, hn, hk (natural_Mul_con x6 y15 (y18, y19) e20)] (by kernel_rfl) ?_
     refine AW.inBlock_normal ?_
     exact jl y18 h (conv_re [] (by kernel_rfl))
    ·
     refine AW.sg tt_ok0 [(30, vi64 (p2.getD x7.toNat 0))] [] [] 12 [] (by kernel_rfl) ?_
     refine AW.block ?_
     refine AW.sg tt_ok0 [(31, vb ((p2.getD x7.toNat 0) == 0))] [] [] 14 [] (by kernel_rfl) ?_
     refine AW.co h (by kernel_rfl) (fun c21 h => ?_) (fun c21 h => ?_)
     ·
      refine AW.exit (AW.inBlock_miss (by kernel_rfl) ?_)
      refine joinQ_exit ?_
      refine AW.thenQ_exit (AW.inBlock_hit ?_)
      exact jl x6 h (conv_re [] (by kernel_rfl))
     ·
      refine AW.sg tt_ok0 [(33, vb ((p2.getD x7.toNat 0) == 1))] [] [] 16 [] (by kernel_rfl) ?_
      refine AW.co h (by kernel_rfl) (fun c22 h => ?_) (fun c22 h => ?_)
      ·
       refine AW.rg tt_ok0 [(11, vi64 (i64.wrap (65536 - (p1.getD x7.toNat 0))))] [] [] 19 [] (by kernel_rfl) ?_
       refine AW.inBlock_normal ?_
       exact jl (i64.wrap (65536 - (p1.getD x7.toNat 0))) h (conv_re [] (by kernel_rfl))
      ·
       refine AW.skip (AW.inBlock_normal ?_)
       exact jl (p1.getD x7.toNat 0) h (conv_re [] (by kernel_rfl))
  ·
   refine AW.exit (AW.thenQ_exit ?_)
   exact lpo h rfl (conv_re [] (by kernel_rfl))
 ·
  show (_ : Exit → St → Prop) (.exit 0) _
  refine AW.inBlock_hit (AW.tn ?_)
  refine AW.sg tt_ok0 [(6, vl 1 Ru32 x23)] [] [] 2 [] (by kernel_rfl) ?_
  refine AW.ret ?_
  obtain rfl := some_inj h
  exact fn0 (.inr rfl) [] 0 (vl 1 Ru32 x23) (by kernel_rfl)
/-! recordlink/natural.Add -/
noncomputable def natural_Add_k3 (x11 : List Int) (x13 : Int) (x21 : Int) : Option (((List Int) × Int × Int) ⊕ ((List Int) × Int)) := if x13 < (x11.length : Int) then (some (.inl ((x11.set (0 + x13.toNat) (u32.wrap x21)), ishr .u64 x21 32, i64.wrap (x13 + 1)))) else none
noncomputable def natural_Add_l2 (x4 : List Int) (x5 : List Int) (x11 : List Int) (x12 : Int) (x13 : Int) : Option (((List Int) × Int × Int) ⊕ ((List Int) × Int)) := if (decide (x13 < (x4.length : Int))) = true then (if 0 ≤ x13 then (if x13 < (x4.length : Int) then ((some (u64.wrap (x12 + (u64.wrap (x4.getD x13.toNat 0))))).bind fun z19 => (if (decide (x13 < (x5.length : Int))) = true then (if x13 < (x5.length : Int) then ((some (u64.wrap (z19 + (u64.wrap (x5.getD x13.toNat 0))))).bind fun z25 => (natural_Add_k3 x11 x13 z25)) else none) else (natural_Add_k3 x11 x13 z19))) else none) else none) else (some (.inr (x11, x12)))
noncomputable def natural_Add_k1 (x4 : List Int) (x5 : List Int) : Option ((List Int) × Int) := if 0 ≤ (i64.wrap ((x4.length : Int) + 1)) then (if (i64.wrap ((x4.length : Int) + 1)) ≤ 1099511627776 then (bind2 (loop (fun v : (List Int) × Int × Int => natural_Add_l2 x4 x5 v.1 v.2.1 v.2.2) ((List.replicate ((i64.wrap ((x4.length : Int) + 1)).toNat) (0 : Int)), 0, 0)) fun x27 x28 => (if 0 ≤ (x4.length : Int) then (if (x4.length : Int) < (x27.length : Int) then (bind2 (natural_done (x27.set (0 + (x4.length : Int).toNat) (u32.wrap x28))) fun y31 y32 => (some (y31, y32))) else none) else none)) else none) else none
noncomputable def natural_Add (p0 : List Int) (p1 : List Int) : Option ((List Int) × Int) := (natural_both p0 p1).bind fun y1 => (if (y1 != 0) = true then (some (([] : List Int), y1)) else (if (decide ((p0.length : Int) < (p1.length : Int))) = true then (natural_Add_k1 p1 p0) else (natural_Add_k1 p0 p1)))
set_option maxRecDepth 100000 in
theorem natural_Add_con (p0 : List Int) (p1 : List Int) (r : (List Int) × Int) (h : natural_Add p0 p1 = some r) : Con Tryz.prog 50 [vl 1 Ru32 p0, vl 1 Ru32 p1] [] (.tup [vl 1 Ru32 r.1, vi64 r.2]) [] := by
 refine con_of tt_ok0 0 Tryz.func50 (by kernel_rfl) rfl (by kernel_rfl) (fun base X _ => AW.post ?_)
 unfold natural_Add at h
 refine AW.sg tt_ok0 [] [] [] 2 [] (by kernel_rfl) ?_
 refine AW.seq ?_
 obtain ⟨y1, e2, h⟩ := bnd_some h
 refine AW.sg tt_ok0 [(6, vi64 y1)] [] [] 5 [hn, hn, hk (natural_both_con p0 p1 y1 e2)] (by kernel_rfl) ?_
 refine AW.sg tt_ok0 [(15, vb (y1 != 0))] [] [] 7 [] (by kernel_rfl) ?_
 refine AW.co h (by kernel_rfl) (fun c3 h => ?_) (fun c3 h => ?_)
 ·
  refine AW.sg tt_ok0 [(5, vi64 y1), (4, .c (.t (.v (.slice none 0 0))))] [] [] 10 [] (by kernel_rfl) ?_
  refine AW.ret (AW.tr ?_)
  obtain rfl := some_inj h
  exact fnR (.inr rfl) [] 0 (.tup [vl 1 Ru32 ([] : List Int), vi64 y1]) (conv_tms [(4, vl 1 Ru32 ([] : List Int))] ⟨⟨.c (.t (.v (.slice none 0 0))), by kernel_rfl, ALe.c (CLe.nil rfl)⟩, tv⟩) (by kernel_rfl)
 ·
  refine AW.skip (AW.tn (AW.seq ?_))
  refine AW.join (ι := (List Int) × (List Int)) (fun v => ⟨[(0, vl 1 Ru32 v.1), (1, vl 1 Ru32 v.2)], [], 0⟩) (fun v : (List Int) × (List Int) => natural_Add_k1 v.1 v.2 = some r) (fun v h => ?_) ?_
  ·
   obtain ⟨x4, x5⟩ := v
   replace h : natural_Add_k1 x4 x5 = some r := h
   unfold natural_Add_k1 at h
   refine AW.tn ?_
   obtain ⟨g6, g7, h⟩ := ifd h
   refine AW.sg tt_ok0 [(7, .c (.ref 3 1 0 ((List.replicate ((i64.wrap ((x4.length : Int) + 1)).toNat) (0 : Int)).length)))] [3] [(3, .row 72 false 1 (List.replicate ((i64.wrap ((x4.length : Int) + 1)).toNat) (0 : Int)).length (Ru32 (List.replicate ((i64.wrap ((x4.length : Int) + 1)).toNat) (0 : Int))))] 5 [hn, hn, hn, hmk 0 Eu32 1 4 [.int .u32 0] rfl rfl (i64.wrap ((x4.length : Int) + 1)) (i64.wrap ((x4.length : Int) + 1)) g6 (Int.le_refl _) g7 (by decide)] (by kernel_rfl) ?_
   refine AW.sg tt_ok0 [(8, vu64 0)] [] [] 6 [] (by kernel_rfl) ?_
   refine AW.seq ?_
   refine AW.sg tt_ok0 [(30, vi64 0), (29, vi64 (x4.length : Int)), (28, vl 1 Ru32 x4)] [] [] 9 [] (by kernel_rfl) ?_
   refine AW.block ?_
   obtain ⟨x27, x28, l34, h⟩ := bind2_some h
   refine AW.lp l34 (fun v => ⟨[(0, vl 1 Ru32 x4), (1, vl 1 Ru32 x5), (7, .c (.ref 0 1 0 v.1.length)), (8, vu64 v.2.1), (28, vl 1 Ru32 x4), (29, vi64 (x4.length : Int)), (30, vi64 v.2.2)], [(0, .row 72 false 1 v.1.length (Ru32 v.1))], 1⟩) (fun t : (List Int) × Int => (.exit 0, ⟨[(0, vl 1 Ru32 x4), (7, .c (.ref 0 1 0 t.1.length)), (8, vu64 t.2)], [(0, .row 72 false 1 t.1.length (Ru32 t.1))], 1⟩)) (conv_re [(0, 3)] (by kernel_rfl)) (fun _ => tv) ?_ ?_
   ·
    clear l34 h
    intro v o h
    obtain ⟨x11, x12, x13⟩ := v
    replace h : natural_Add_l2 x4 x5 x11 x12 x13 = some o := h
    unfold natural_Add_l2 at h
    refine AW.sg tt_ok0 [(31, vb (decide (x13 < (x4.length : Int))))] [] [] 2 [] (by kernel_rfl) ?_
    refine AW.seq ?_
    refine AW.co h (by kernel_rfl) (fun c16 h => ?_) (fun c16 h => ?_)
    ·
     refine AW.skip (AW.tn ?_)
     refine AW.seq (AW.block ?_)
     obtain ⟨g17, g18, h⟩ := ifd h
     refine AW.sg tt_ok0 [(10, vu32 (x4.getD x13.toNat 0)), (9, vi64 x13)] [] [] 7 [hn, hq g17 g18] (by kernel_rfl) ?_
     obtain ⟨z19, n20, h⟩ := bnd_some h
     replace n20 := some_inj n20
     refine AW.sg tt_ok0 [(8, vu64 z19)] [] [] 12 [] (by subst n20; kernel_rfl) ?_
     refine AW.seq ?_
     refine AW.join (ι := Int) (fun v => ⟨[(0, vl 1 Ru32 x4), (1, vl 1 Ru32 x5), (7, .c (.ref 0 1 0 x11.length)), (8, vu64 v), (9, vi64 x13), (28, vl 1 Ru32 x4), (29, vi64 (x4.length : Int)), (30, vi64 x13)], [(0, .row 72 false 1 x11.length (Ru32 x11))], 1⟩) (fun v : Int => natural_Add_k3 x11 x13 v = some o) (fun x21 h => ?_) ?_
     ·
      unfold natural_Add_k3 at h
      refine AW.tn ?_
      obtain ⟨g22, h⟩ := ifc h
      refine AW.sg tt_ok0 [] [0] [(0, .row 72 false 1 x11.length (Ru32 (x11.set (0 + x13.toNat) (u32.wrap x21))))] 7 [hn, hn, hn, hn, hq g17 g22, hset 0 Eu32 x11 (0 + x13.toNat) (u32.wrap x21) (n := x11.length) (by have h1 : 0 ≤ x13 := g17; have h2 : x13 < (x11.length : Int) := g22; omega) rfl] (by kernel_rfl) ?_
      refine AW.rg tt_ok0 [(8, vu64 (ishr .u64 x21 32))] [] [] 10 [hn, ho (p := 0 ≤ (32 : Int)) (by decide)] (by kernel_rfl) ?_
      refine AW.inBlock_normal (AW.tn ?_)
      refine AW.rg tt_ok0 [(30, vi64 (i64.wrap (x13 + 1)))] [] [] 12 [] (by kernel_rfl) ?_
      exact lpn h (Conv.trans (conv_tms [(7, .c (.ref 0 1 0 ((x11.set (0 + x13.toNat) (u32.wrap x21)).length)))] ⟨⟨.c (.ref 0 1 0 x11.length), by kernel_rfl, ALe.len (by simp only [List.length_set])⟩, tv⟩) (Conv.trans (conv_rowN 0 72 false 1 x11.length ((x11.set (0 + x13.toNat) (u32.wrap x21)).length) (Ru32 (x11.set (0 + x13.toNat) (u32.wrap x21))) (by kernel_rfl) (by simp only [List.length_set])) (conv_re [(0, 0)] (by kernel_rfl))))
     ·
      refine AW.sg tt_ok0 [(42, vb (decide (x13 < (x5.length : Int))))] [] [] 16 [] (by kernel_rfl) ?_
      refine AW.co h (by kernel_rfl) (fun c23 h => ?_) (fun c23 h => ?_)
      ·
       obtain ⟨g24, h⟩ := ifc h
       obtain ⟨z25, n26, h⟩ := bnd_some h
       replace n26 := some_inj n26
       refine AW.rg tt_ok0 [(8, vu64 z25)] [] [] 24 [hn, hn, hn, hq g17 g24] (by subst n26; kernel_rfl) ?_
       exact jl z25 h (conv_re [(0, 0)] (by kernel_rfl))
      ·
       refine AW.skip ?_
       exact jl z19 h (conv_re [(0, 0)] (by kernel_rfl))
    ·
     refine AW.exit (AW.thenQ_exit ?_)
     exact lpo h rfl (conv_re [(0, 0)] (by kernel_rfl))
   ·
    show (_ : Exit → St → Prop) (.exit 0) _
    refine AW.inBlock_hit (AW.tn ?_)
    obtain ⟨g29, g30, h⟩ := ifd h
    refine AW.sg tt_ok0 [] [0] [(0, .row 72 false 1 x27.length (Ru32 (x27.set (0 + (x4.length : Int).toNat) (u32.wrap x28))))] 8 [hn, hn, hn, hn, hn, hq g29 g30, hset 0 Eu32 x27 (0 + (x4.length : Int).toNat) (u32.wrap x28) (n := x27.length) (by have h1 : 0 ≤ (x4.length : Int) := g29; have h2 : (x4.length : Int) < (x27.length : Int) := g30; omega) rfl] (by kernel_rfl) ?_
    obtain ⟨y31, y32, e33, h⟩ := bind2_some h
    refine AW.sg tt_ok0 [(5, vi64 y32), (4, vl 1 Ru32 y31)] [0] [] 13 [hn, hg [] [0] false 0 (q := (0 + x27.length ≤ x27.length) ∧ (True)) ⟨le0, tv⟩ (a0 := [.c (.t (.tree x27.length 1 (Ru32 (x27.set (0 + (x4.length : Int).toNat) (u32.wrap x28)))))]) (show Con Tryz.prog 77 [.c (.t (.tree x27.length 1 (Ru32 (x27.set (0 + (x4.length : Int).toNat) (u32.wrap x28)))))] [] (.tup [vl 1 Ru32 y31, vi64 y32]) [] from by have hc := (natural_done_con (x27.set (0 + (x4.length : Int).toNat) (u32.wrap x28)) (y31, y32) e33); simpa only [List.length_set, vl, cl] using hc) ⟨ArgLe.refl _, tv⟩ (fun h => by cases h)] (by kernel_rfl) ?_
    refine AW.ret ?_
    obtain rfl := some_inj h
    exact fn0 (.inr rfl) [] 0 (.tup [vl 1 Ru32 y31, vi64 y32]) (by kernel_rfl)
  ·
   refine AW.sg tt_ok0 [(21, vb (decide ((p0.length : Int) < (p1.length : Int))))] [] [] 12 [] (by kernel_rfl) ?_
   refine AW.co h (by kernel_rfl) (fun c35 h => ?_) (fun c35 h => ?_)
   ·
    refine AW.rg tt_ok0 [(1, vl 1 Ru32 p0), (0, vl 1 Ru32 p1)] [] [] 16 [] (by kernel_rfl) ?_
    exact jl (p1, p0) h (conv_re [] (by kernel_rfl))
   ·
    refine AW.skip ?_
    exact jl (p0, p1) h (conv_re [] (by kernel_rfl))
structure S_rational_number where
 n : List Int
 e : Int
def dS_rational_number : S_rational_number := ⟨([] : List Int), 0⟩
instance : Inhabited S_rational_number := ⟨dS_rational_number⟩
/-! recordlink/rational.of -/
noncomputable def rational_of (p0 : List Int) : Option S_rational_number := some (⟨p0, 0⟩ : S_rational_number)
set_option maxRecDepth 100000 in
theorem rational_of_con (p0 : List Int) (r : S_rational_number) (h : rational_of p0 = some r) : Con Tryz.prog 80 [vl 1 Ru32 p0] [] (.agg [cl 1 Ru32 r.n, ci64 r.e]) [] := by
 refine con_of tt_ok0 0 Tryz.func80 (by kernel_rfl) rfl (by kernel_rfl) (fun base X _ => AW.post ?_)
 unfold rational_of at h
 refine AW.sg tt_ok0 [(2, .c (.ptr 0 2 0 0))] [0] [(0, .box 114 [.t (.v (.slice none 0 0)), ci64 0])] 1 [] (by kernel_rfl) ?_
 refine AW.sg tt_ok0 [] [0] [(0, .box 114 [cl 1 Ru32 p0, ci64 0])] 4 [] (by kernel_rfl) ?_
 refine AW.ret ?_
 obtain rfl := some_inj h
 exact fn0 (.inr rfl) [] 0 (.agg [cl 1 Ru32 p0, ci64 0]) (by kernel_rfl)
/-! slices.Clone[recordlink/api.Natural,uint32] -/
noncomputable def slices_Clone_uint32 (p0 : List Int) : Option (List Int) := orBoth (p0.length = 0) (some ([] : List Int)) (if ([] : List Int).length + p0.length ≤ 1099511627776 then (some (([] : List Int) ++ p0)) else none)
set_option maxRecDepth 100000 in
theorem slices_Clone_uint32_con (p0 : List Int) (r : List Int) (h : slices_Clone_uint32 p0 = some r) : Con Tryz.prog 119 [vl 1 Ru32 p0] [] (.c (.ref 0 1 0 r.length)) [(0, .row 72 false 1 r.length (Ru32 r))] := by
 refine con_of tt_ok0 0 Tryz.func119 (by kernel_rfl) rfl (by kernel_rfl) (fun base X _ => AW.post ?_)
 unfold slices_Clone_uint32 at h
 refine AW.sg tt_ok0 [] [] [] 1 [] (by kernel_rfl) ?_
 refine AW.seq ?_
 refine AW.sg tt_ok0 [(4, .c (.t (.tst (p0.length = 0))))] [] [] 3 [hn, ho (p := (1 : Nat) ≠ 0) (by decide)] (by kernel_rfl) ?_
 refine AW.cond_tst (p := p0.length = 0) (by kernel_rfl) (fun c1 => ?_) ?_
 ·replace h := (orBoth_some h).1 c1
  refine AW.sg tt_ok0 [(2, .c (.t (.v (.slice none 0 0))))] [] [] 4 [] (by kernel_rfl) ?_
  refine AW.ret (AW.tr ?_)
  obtain rfl := some_inj h
  exact fnR (.inr rfl) [(0, 4)] 1 (.c (.ref 4 1 0 (([] : List Int).length))) (conv_adopt (t := 2) (ty := 72) (sz := 1) (n := ([] : List Int).length) (f := Ru32 ([] : List Int)) (by kernel_rfl) rfl) (by kernel_rfl)
 ·replace h := (orBoth_some h).2
  refine AW.skip (AW.tn ?_)
  obtain ⟨g2, h⟩ := ifc h
  refine AW.sg tt_ok0 [(2, .c (.ref 5 1 0 ((([] : List Int) ++ p0).length)))] [3, 5] [(5, .row 72 false 1 (([] : List Int) ++ p0).length (Ru32 (([] : List Int) ++ p0)))] 7 [hlit 0 Eu32 1 (fun _ => rfl) ([] : List Int), hn, hr ((([] : List Int) ++ p0).length) (Ru32 (([] : List Int) ++ p0)) (p := (([] : List Int).length = ([] : List Int).length) ∧ (True) ∧ ((([] : List Int).length + p0.length ≤ 1099511627776) ∧ ((4 : Nat) ≤ 128)) ∧ (([] : List Int).length + p0.length = (([] : List Int) ++ p0).length ∧ ∀ i, i < (([] : List Int) ++ p0).length → ∀ j, j < 1 → TLe ((appRow (([] : List Int).length) (Ru32 ([] : List Int)) (Ru32 p0)) i j) (Ru32 (([] : List Int) ++ p0) i j))) (⟨rfl, tv, ⟨g2, (by decide)⟩, rowT (app_row rfl rfl row_rfl row_rfl)⟩)] (by kernel_rfl) ?_
  refine AW.ret ?_
  obtain rfl := some_inj h
  exact fn0 (.inr rfl) [(0, 5)] 1 (.c (.ref 5 1 0 ((([] : List Int) ++ p0).length))) (by kernel_rfl)
/-! cmp.isNaN[int] -/
noncomputable def cmp_isNaN_int (p0 : Int) : Option Bool := some (p0 != p0)
set_option maxRecDepth 100000 in
theorem cmp_isNaN_int_con (p0 : Int) (r : Bool) (h : cmp_isNaN_int p0 = some r) : Con Tryz.prog 127 [vi64 p0] [] (vb r) [] := by
 refine con_of tt_ok0 0 Tryz.func127 (by kernel_rfl) rfl (by kernel_rfl) (fun base X _ => AW.post ?_)
 unfold cmp_isNaN_int at h
 refine AW.sg tt_ok0 [] [] [] 1 [] (by kernel_rfl) ?_
 refine AW.sg tt_ok0 [(2, vb (p0 != p0))] [] [] 5 [] (by kernel_rfl) ?_
 refine AW.ret ?_
 obtain rfl := some_inj h
 exact fn0 (.inr rfl) [] 0 (vb (p0 != p0)) (by kernel_rfl)
/-! cmp.Compare[int] -/
noncomputable def cmp_Compare_int (p0 : Int) (p1 : Int) : Option Int := (cmp_isNaN_int p0).bind fun y1 => ((cmp_isNaN_int p1).bind fun y3 => (if y1 = true then (if y3 = true then (some 0) else (some (-1))) else (if y3 = true then (some 1) else (if (decide (p0 < p1)) = true then (some (-1)) else (if (decide (p0 > p1)) = true then (some 1) else (some 0))))))
set_option maxRecDepth 100000 in
theorem cmp_Compare_int_con (p0 : Int) (p1 : Int) (r : Int) (h : cmp_Compare_int p0 p1 = some r) : Con Tryz.prog 120 [vi64 p0, vi64 p1] [] (vi64 r) [] := by
 refine con_of tt_ok0 0 Tryz.func120 (by kernel_rfl) rfl (by kernel_rfl) (fun base X _ => AW.post ?_)
 unfold cmp_Compare_int at h
 refine AW.sg tt_ok0 [] [] [] 1 [] (by kernel_rfl) ?_
 obtain ⟨y1, e2, h⟩ := bnd_some h
 refine AW.sg tt_ok0 [(5, vb y1)] [] [] 3 [hn, hk (cmp_isNaN_int_con p0 y1 e2)] (by kernel_rfl) ?_
 obtain ⟨y3, e4, h⟩ := bnd_some h
 refine AW.sg tt_ok0 [(6, vb y3)] [] [] 5 [hn, hk (cmp_isNaN_int_con p1 y3 e4)] (by kernel_rfl) ?_
 refine AW.seq ?_
 refine AW.sg tt_ok0 [(11, vb y1)] [] [] 6 [] (by kernel_rfl) ?_
 refine AW.co h (by kernel_rfl) (fun c5 h => ?_) (fun c5 h => ?_)
 ·
  refine AW.seq ?_
  refine AW.sg tt_ok0 [(12, vb y3)] [] [] 7 [] (by kernel_rfl) ?_
  refine AW.co h (by kernel_rfl) (fun c6 h => ?_) (fun c6 h => ?_)
  ·
   refine AW.sg tt_ok0 [(4, vi64 0)] [] [] 8 [] (by kernel_rfl) ?_
   refine AW.ret (AW.tr (AW.tr ?_))
   obtain rfl := some_inj h
   exact fn0 (.inr rfl) [] 0 (vi64 0) (by kernel_rfl)
  ·
   refine AW.skip (AW.tn ?_)
   refine AW.sg tt_ok0 [(4, vi64 (-1))] [] [] 8 [] (by kernel_rfl) ?_
   refine AW.ret (AW.tr ?_)
   obtain rfl := some_inj h
   exact fn0 (.inr rfl) [] 0 (vi64 (-1)) (by kernel_rfl)
 ·
  refine AW.skip (AW.tn (AW.seq ?_))
  refine AW.sg tt_ok0 [(13, vb y3)] [] [] 7 [] (by kernel_rfl) ?_
  refine AW.co h (by kernel_rfl) (fun c7 h => ?_) (fun c7 h => ?_)
  ·
   refine AW.sg tt_ok0 [(4, vi64 1)] [] [] 8 [] (by kernel_rfl) ?_
   refine AW.ret (AW.tr ?_)
   obtain rfl := some_inj h
   exact fn0 (.inr rfl) [] 0 (vi64 1) (by kernel_rfl)
  ·
   refine AW.skip (AW.tn (AW.seq ?_))
   refine AW.sg tt_ok0 [(16, vb (decide (p0 < p1)))] [] [] 10 [] (by kernel_rfl) ?_
   refine AW.co h (by kernel_rfl) (fun c8 h => ?_) (fun c8 h => ?_)
   ·
    refine AW.sg tt_ok0 [(4, vi64 (-1))] [] [] 11 [] (by kernel_rfl) ?_
    refine AW.ret (AW.tr ?_)
    obtain rfl := some_inj h
    exact fn0 (.inr rfl) [] 0 (vi64 (-1)) (by kernel_rfl)
   ·
    refine AW.skip (AW.tn (AW.seq ?_))
    refine AW.sg tt_ok0 [(19, vb (decide (p0 > p1)))] [] [] 13 [] (by kernel_rfl) ?_
    refine AW.co h (by kernel_rfl) (fun c9 h => ?_) (fun c9 h => ?_)
    ·
     refine AW.sg tt_ok0 [(4, vi64 1)] [] [] 14 [] (by kernel_rfl) ?_
     refine AW.ret (AW.tr ?_)
     obtain rfl := some_inj h
     exact fn0 (.inr rfl) [] 0 (vi64 1) (by kernel_rfl)
    ·
     refine AW.skip (AW.tn ?_)
     refine AW.sg tt_ok0 [(4, vi64 0)] [] [] 14 [] (by kernel_rfl) ?_
     refine AW.ret ?_
     obtain rfl := some_inj h
     exact fn0 (.inr rfl) [] 0 (vi64 0) (by kernel_rfl)
/-! cmp.isNaN[uint32] -/
noncomputable def cmp_isNaN_uint32 (p0 : Int) : Option Bool := some (p0 != p0)
set_option maxRecDepth 100000 in
theorem cmp_isNaN_uint32_con (p0 : Int) (r : Bool) (h : cmp_isNaN_uint32 p0 = some r) : Con Tryz.prog 128 [vu32 p0] [] (vb r) [] := by
 refine con_of tt_ok0 0 Tryz.func128 (by kernel_rfl) rfl (by kernel_rfl) (fun base X _ => AW.post ?_)
 unfold cmp_isNaN_uint32 at h
 refine AW.sg tt_ok0 [] [] [] 1 [] (by kernel_rfl) ?_
 refine AW.sg tt_ok0 [(2, vb (p0 != p0))] [] [] 5 [] (by kernel_rfl) ?_
 refine AW.ret ?_
 obtain rfl := some_inj h
 exact fn0 (.inr rfl) [] 0 (vb (p0 != p0)) (by kernel_rfl)
/-! cmp.Compare[uint32] -/
noncomputable def cmp_Compare_uint32 (p0 : Int) (p1 : Int) : Option Int := (cmp_isNaN_uint32 p0).bind fun y1 => ((cmp_isNaN_uint32 p1).bind fun y3 => (if y1 = true then (if y3 = true then (some 0) else (some (-1))) else (if y3 = true then (some 1) else (if (decide (p0 < p1)) = true then (some (-1)) else (if (decide (p0 > p1)) = true then (some 1) else (some 0))))))
set_option maxRecDepth 100000 in
theorem cmp_Compare_uint32_con (p0 : Int) (p1 : Int) (r : Int) (h : cmp_Compare_uint32 p0 p1 = some r) : Con Tryz.prog 121 [vu32 p0, vu32 p1] [] (vi64 r) [] := by
 refine con_of tt_ok0 0 Tryz.func121 (by kernel_rfl) rfl (by kernel_rfl) (fun base X _ => AW.post ?_)
 unfold cmp_Compare_uint32 at h
 refine AW.sg tt_ok0 [] [] [] 1 [] (by kernel_rfl) ?_
 obtain ⟨y1, e2, h⟩ := bnd_some h
 refine AW.sg tt_ok0 [(5, vb y1)] [] [] 3 [hn, hk (cmp_isNaN_uint32_con p0 y1 e2)] (by kernel_rfl) ?_
 obtain ⟨y3, e4, h⟩ := bnd_some h
 refine AW.sg tt_ok0 [(6, vb y3)] [] [] 5 [hn, hk (cmp_isNaN_uint32_con p1 y3 e4)] (by kernel_rfl) ?_
 refine AW.seq ?_
 refine AW.sg tt_ok0 [(11, vb y1)] [] [] 6 [] (by kernel_rfl) ?_
 refine AW.co h (by kernel_rfl) (fun c5 h => ?_) (fun c5 h => ?_)
 ·
  refine AW.seq ?_
  refine AW.sg tt_ok0 [(12, vb y3)] [] [] 7 [] (by kernel_rfl) ?_
  refine AW.co h (by kernel_rfl) (fun c6 h => ?_) (fun c6 h => ?_)
  ·
   refine AW.sg tt_ok0 [(4, vi64 0)] [] [] 8 [] (by kernel_rfl) ?_
   refine AW.ret (AW.tr (AW.tr ?_))
   obtain rfl := some_inj h
   exact fn0 (.inr rfl) [] 0 (vi64 0) (by kernel_rfl)
  ·
   refine AW.skip (AW.tn ?_)
   refine AW.sg tt_ok0 [(4, vi64 (-1))] [] [] 8 [] (by kernel_rfl) ?_
   refine AW.ret (AW.tr ?_)
   obtain rfl := some_inj h
   exact fn0 (.inr rfl) [] 0 (vi64 (-1)) (by kernel_rfl)
 ·
  refine AW.skip (AW.tn (AW.seq ?_))
  refine AW.sg tt_ok0 [(13, vb y3)] [] [] 7 [] (by kernel_rfl) ?_
  refine AW.co h (by kernel_rfl) (fun c7 h => ?_) (fun c7 h => ?_)
  ·
   refine AW.sg tt_ok0 [(4, vi64 1)] [] [] 8 [] (by kernel_rfl) ?_
   refine AW.ret (AW.tr ?_)
   obtain rfl := some_inj h
   exact fn0 (.inr rfl) [] 0 (vi64 1) (by kernel_rfl)
  ·
   refine AW.skip (AW.tn (AW.seq ?_))
   refine AW.sg tt_ok0 [(16, vb (decide (p0 < p1)))] [] [] 10 [] (by kernel_rfl) ?_
   refine AW.co h (by kernel_rfl) (fun c8 h => ?_) (fun c8 h => ?_)
   ·
    refine AW.sg tt_ok0 [(4, vi64 (-1))] [] [] 11 [] (by kernel_rfl) ?_
    refine AW.ret (AW.tr ?_)
    obtain rfl := some_inj h
    exact fn0 (.inr rfl) [] 0 (vi64 (-1)) (by kernel_rfl)
   ·
    refine AW.skip (AW.tn (AW.seq ?_))
    refine AW.sg tt_ok0 [(19, vb (decide (p0 > p1)))] [] [] 13 [] (by kernel_rfl) ?_
    refine AW.co h (by kernel_rfl) (fun c9 h => ?_) (fun c9 h => ?_)
    ·
     refine AW.sg tt_ok0 [(4, vi64 1)] [] [] 14 [] (by kernel_rfl) ?_
     refine AW.ret (AW.tr ?_)
     obtain rfl := some_inj h
     exact fn0 (.inr rfl) [] 0 (vi64 1) (by kernel_rfl)
    ·
     refine AW.skip (AW.tn ?_)
     refine AW.sg tt_ok0 [(4, vi64 0)] [] [] 14 [] (by kernel_rfl) ?_
     refine AW.ret ?_
     obtain rfl := some_inj h
     exact fn0 (.inr rfl) [] 0 (vi64 0) (by kernel_rfl)
/-! recordlink/natural.Compare -/
noncomputable def natural_Compare_l1 (y1 : List Int) (y3 : List Int) (x9 : Int) : Option (Int ⊕ (Unit ⊕ Int)) := if (decide (x9 ≥ 0)) = true then (if 0 ≤ x9 then (if x9 < (y1.length : Int) then (if x9 < (y3.length : Int) then (if ((y1.getD x9.toNat 0) != (y3.getD x9.toNat 0)) = true then ((cmp_Compare_uint32 (y1.getD x9.toNat 0) (y3.getD x9.toNat 0)).bind fun y16 => (some (.inr (.inr y16)))) else (some (.inl (i64.wrap (x9 - 1))))) else none) else none) else none) else (some (.inr (.inl ())))
noncomputable def natural_Compare_a2 : Option Int := some 0
noncomputable def natural_Compare_a3 (x18 : Int) : Option Int := some x18
noncomputable def natural_Compare (p0 : List Int) (p1 : List Int) : Option Int := (natural_trim p0).bind fun y1 => ((natural_trim p1).bind fun y3 => (if ((y1.length : Int) != (y3.length : Int)) = true then ((cmp_Compare_int (y1.length : Int) (y3.length : Int)).bind fun y6 => (some y6)) else (bindE (loop (fun v : Int => natural_Compare_l1 y1 y3 v) (i64.wrap ((y1.length : Int) - 1))) (fun t => natural_Compare_a2) (fun t => natural_Compare_a3 t))))
set_option maxRecDepth 100000 in
theorem natural_Compare_con (p0 : List Int) (p1 : List Int) (r : Int) (h : natural_Compare p0 p1 = some r) : Con Tryz.prog 114 [vl 1 Ru32 p0, vl 1 Ru32 p1] [] (vi64 r) [] := by
 refine con_of tt_ok0 0 Tryz.func114 (by kernel_rfl) rfl (by kernel_rfl) (fun base X _ => AW.post ?_)
 unfold natural_Compare at h
 refine AW.sg tt_ok0 [] [] [] 1 [] (by kernel_rfl) ?_
 obtain ⟨y1, e2, h⟩ := bnd_some h
 obtain ⟨y3, e4, h⟩ := bnd_some h
 refine AW.sg tt_ok0 [(1, vl 1 Ru32 y3), (0, vl 1 Ru32 y1)] [] [] 5 [hn, hk (natural_trim_con p0 y1 e2), hn, hk (natural_trim_con p1 y3 e4)] (by kernel_rfl) ?_
 refine AW.seq ?_
 refine AW.sg tt_ok0 [(14, vb ((y1.length : Int) != (y3.length : Int)))] [] [] 10 [] (by kernel_rfl) ?_
 refine AW.co h (by kernel_rfl) (fun c5 h => ?_) (fun c5 h => ?_)
 ·
  obtain ⟨y6, e7, h⟩ := bnd_some h
  refine AW.sg tt_ok0 [(4, vi64 y6)] [] [] 15 [hn, hn, hn, hn, hk (cmp_Compare_int_con (y1.length : Int) (y3.length : Int) y6 e7)] (by kernel_rfl) ?_
  refine AW.ret (AW.tr ?_)
  obtain rfl := some_inj h
  exact fn0 (.inr rfl) [] 0 (vi64 y6) (by kernel_rfl)
 ·
  refine AW.skip (AW.tn (AW.seq ?_))
  refine AW.sg tt_ok0 [(5, vi64 (i64.wrap ((y1.length : Int) - 1)))] [] [] 14 [] (by kernel_rfl) ?_
  refine AW.block ?_
  refine AW.lpE h (fun v => ⟨[(0, vl 1 Ru32 y1), (1, vl 1 Ru32 y3), (5, vi64 v)], [], 0⟩) (fun t => (.exit 0, ⟨[], [], 0⟩)) (fun t => (.ret, ⟨[(4, vi64 t)], [], 0⟩)) (conv_re [] (by kernel_rfl)) (fun _ => tv) (fun _ => tv) ?_ (fun t h => ?_) (fun x18 h => ?_)
  ·
   clear h
   intro x9 o h
   unfold natural_Compare_l1 at h
   refine AW.seq ?_
   refine AW.sg tt_ok0 [(24, vb (decide (x9 ≥ 0)))] [] [] 2 [] (by kernel_rfl) ?_
   refine AW.co h (by kernel_rfl) (fun c11 h => ?_) (fun c11 h => ?_)
   ·
    refine AW.skip (AW.tn ?_)
    refine AW.seq (AW.block ?_)
    obtain ⟨g12, g13, h⟩ := ifd h
    obtain ⟨g14, h⟩ := ifc h
    refine AW.sd tt_ok0 mo0 [] [(35, vb ((y1.getD x9.toNat 0) != (y3.getD x9.toNat 0)))] [] 11 [hn, hn, hq g12 g13, hn, hn, hn, hq g12 g14] (by kernel_rfl) ?_
    refine AW.co h (by kernel_rfl) (fun c15 h => ?_) (fun c15 h => ?_)
    ·
     obtain ⟨y16, e17, h⟩ := bnd_some h
     refine AW.sd tt_ok0 mo0 [] [(4, vi64 y16)] [] 20 [hn, hn, hq g12 g13, hn, hn, hn, hq g12 g14, hn, hk (cmp_Compare_uint32_con (y1.getD x9.toNat 0) (y3.getD x9.toNat 0) y16 e17)] (by kernel_rfl) ?_
     refine AW.ret (AW.inBlock_ret (AW.tr ?_))
     exact lpo h rfl (conv_re [] (by kernel_rfl))
    ·
     refine AW.skip (AW.inBlock_normal (AW.tn ?_))
     refine AW.rg tt_ok0 [(5, vi64 (i64.wrap (x9 - 1)))] [] [] 14 [] (by kernel_rfl) ?_
     exact lpn h (conv_re [] (by kernel_rfl))
   ·
    refine AW.exit (AW.thenQ_exit ?_)
    exact lpo h rfl (conv_re [] (by kernel_rfl))
  ·
   replace h : natural_Compare_a2 = some r := h
   unfold natural_Compare_a2 at h
   show (_ : Exit → St → Prop) (.exit 0) _
   refine AW.inBlock_hit (AW.tn ?_)
   refine AW.sg tt_ok0 [(4, vi64 0)] [] [] 1 [] (by kernel_rfl) ?_
   refine AW.ret ?_
   obtain rfl := some_inj h
   exact fn0 (.inr rfl) [] 0 (vi64 0) (by kernel_rfl)
  ·
   unfold natural_Compare_a3 at h
   show (_ : Exit → St → Prop) (.ret) _
   refine AW.inBlock_ret (AW.tr ?_)
   obtain rfl := some_inj h
   exact fn0 (.inr rfl) [] 0 (vi64 x18) (by kernel_rfl)
def bigS0 : ByteArray := ByteArray.mk #[0, 1, 2, 2, 3, 3, 3, 3, 4, 4, 4, 4, 4, 4, 4, 4, 5, 5, 5, 5, 5, 5, 5, 5, 5, 5, 5, 5, 5, 5, 5, 5, 6, 6, 6, 6, 6, 6, 6, 6, 6, 6, 6, 6, 6, 6, 6, 6, 6, 6, 6, 6, 6, 6, 6, 6, 6, 6, 6, 6, 6, 6, 6, 6, 7, 7, 7, 7, 7, 7, 7, 7, 7, 7, 7, 7, 7, 7, 7, 7, 7, 7, 7, 7, 7, 7, 7, 7, 7, 7, 7, 7, 7, 7, 7, 7, 7, 7, 7, 7, 7, 7, 7, 7, 7, 7, 7, 7, 7, 7, 7, 7, 7, 7, 7, 7, 7, 7, 7, 7, 7, 7, 7, 7, 7, 7, 7, 7, 8, 8, 8, 8, 8, 8, 8, 8, 8, 8, 8, 8, 8, 8, 8, 8, 8, 8, 8, 8, 8, 8, 8, 8, 8, 8, 8, 8, 8, 8, 8, 8, 8, 8, 8, 8, 8, 8, 8, 8, 8, 8, 8, 8, 8, 8, 8, 8, 8, 8, 8, 8, 8, 8, 8, 8, 8, 8, 8, 8, 8, 8, 8, 8, 8, 8, 8, 8, 8, 8, 8, 8, 8, 8, 8, 8, 8, 8, 8, 8, 8, 8, 8, 8, 8, 8, 8, 8, 8, 8, 8, 8, 8, 8, 8, 8, 8, 8, 8, 8, 8, 8, 8, 8, 8, 8, 8, 8, 8, 8, 8, 8, 8, 8, 8, 8, 8, 8, 8, 8, 8, 8, 8, 8, 8, 8, 8, 8]
/-! math/bits.Len32 -/
noncomputable def bits_Len32_k2 (x3 : Int) (x4 : Int) : Option Int := if 0 ≤ (u8.wrap x3) then (if (u8.wrap x3) < ((bigS0.size : Nat) : Int) then ((some (i64.wrap (x4 + (i64.wrap ((bigS0.data.toList.getD ((u8.wrap x3).toNat) 0).toNat : Int))))).bind fun z7 => (some z7)) else none) else none
noncomputable def bits_Len32_k1 (x1 : Int) (x2 : Int) : Option Int := if (decide (x1 ≥ 256)) = true then (bits_Len32_k2 (ishr .u32 x1 8) (i64.wrap (x2 + 8))) else (bits_Len32_k2 x1 x2)
noncomputable def bits_Len32 (p0 : Int) : Option Int := if (decide (p0 ≥ 65536)) = true then (bits_Len32_k1 (ishr .u32 p0 16) 16) else (bits_Len32_k1 p0 0)
set_option maxRecDepth 100000 in
theorem bits_Len32_con (p0 : Int) (r : Int) (h : bits_Len32 p0 = some r) : Con Tryz.prog 129 [vu32 p0] [] (vi64 r) [] := by
 refine con_of tt_ok0 0 Tryz.func129 (by kernel_rfl) rfl (by kernel_rfl) (fun base X _ => AW.post ?_)
 unfold bits_Len32 at h
 refine AW.sg tt_ok0 [(2, vi64 0)] [] [] 1 [] (by kernel_rfl) ?_
 refine AW.seq ?_
 refine AW.join (ι := Int × Int) (fun v => ⟨[(0, vu32 v.1), (2, vi64 v.2)], [], 0⟩) (fun v : Int × Int => bits_Len32_k1 v.1 v.2 = some r) (fun v h => ?_) ?_
 ·
  obtain ⟨x1, x2⟩ := v
  replace h : bits_Len32_k1 x1 x2 = some r := h
  unfold bits_Len32_k1 at h
  refine AW.tn (AW.seq ?_)
  refine AW.join (ι := Int × Int) (fun v => ⟨[(0, vu32 v.1), (2, vi64 v.2)], [], 0⟩) (fun v : Int × Int => bits_Len32_k2 v.1 v.2 = some r) (fun v h => ?_) ?_
  ·
   obtain ⟨x3, x4⟩ := v
   replace h : bits_Len32_k2 x3 x4 = some r := h
   unfold bits_Len32_k2 at h
   refine AW.tn ?_
   obtain ⟨g5, g6, h⟩ := ifd h
   obtain ⟨z7, n8, h⟩ := bnd_some h
   replace n8 := some_inj n8
   refine AW.sg tt_ok0 [(2, vi64 z7)] [] [] 7 [hn, hn, hn, hq g5 g6] (by subst n8; kernel_rfl) ?_
   refine AW.ret ?_
   obtain rfl := some_inj h
   exact fn0 (.inr rfl) [] 0 (vi64 z7) (by kernel_rfl)
  ·
   refine AW.sg tt_ok0 [(8, vb (decide (x1 ≥ 256)))] [] [] 2 [] (by kernel_rfl) ?_
   refine AW.co h (by kernel_rfl) (fun c9 h => ?_) (fun c9 h => ?_)
   ·
    refine AW.sg tt_ok0 [(0, vu32 (ishr .u32 x1 8))] [] [] 5 [hn, ho (p := 0 ≤ (8 : Int)) (by decide)] (by kernel_rfl) ?_
    refine AW.rg tt_ok0 [(2, vi64 (i64.wrap (x2 + 8)))] [] [] 8 [] (by kernel_rfl) ?_
    exact jl (ishr .u32 x1 8, i64.wrap (x2 + 8)) h (conv_re [] (by kernel_rfl))
   ·
    refine AW.skip ?_
    exact jl (x1, x2) h (conv_re [] (by kernel_rfl))
 ·
  refine AW.sg tt_ok0 [(4, vb (decide (p0 ≥ 65536)))] [] [] 3 [] (by kernel_rfl) ?_
  refine AW.co h (by kernel_rfl) (fun c10 h => ?_) (fun c10 h => ?_)
  ·
   refine AW.sg tt_ok0 [(0, vu32 (ishr .u32 p0 16))] [] [] 6 [hn, ho (p := 0 ≤ (16 : Int)) (by decide)] (by kernel_rfl) ?_
   refine AW.rg tt_ok0 [(2, vi64 16)] [] [] 7 [] (by kernel_rfl) ?_
   exact jl (ishr .u32 p0 16, 16) h (conv_re [] (by kernel_rfl))
  ·
   refine AW.skip ?_
   exact jl (p0, 0) h (conv_re [] (by kernel_rfl))
/-! math/bits.LeadingZeros32 -/
noncomputable def bits_LeadingZeros32 (p0 : Int) : Option Int := (bits_Len32 p0).bind fun y1 => (some (i64.wrap (32 - y1)))
set_option maxRecDepth 100000 in
theorem bits_LeadingZeros32_con (p0 : Int) (r : Int) (h : bits_LeadingZeros32 p0 = some r) : Con Tryz.prog 122 [vu32 p0] [] (vi64 r) [] := by
 refine con_of tt_ok0 0 Tryz.func122 (by kernel_rfl) rfl (by kernel_rfl) (fun base X _ => AW.post ?_)
 unfold bits_LeadingZeros32 at h
 refine AW.sg tt_ok0 [] [] [] 1 [] (by kernel_rfl) ?_
 obtain ⟨y1, e2, h⟩ := bnd_some h
 refine AW.sg tt_ok0 [(2, vi64 (i64.wrap (32 - y1)))] [] [] 4 [hn, hk (bits_Len32_con p0 y1 e2)] (by kernel_rfl) ?_
 refine AW.ret ?_
 obtain rfl := some_inj h
 exact fn0 (.inr rfl) [] 0 (vi64 (i64.wrap (32 - y1))) (by kernel_rfl)
/-! recordlink/natural.shift -/
noncomputable def natural_shift_l1 (p0 : List Int) (p1 : Int) (x5 : List Int) (x6 : Int) : Option (((List Int) × Int) ⊕ (List Int)) := if (decide (x6 < (p0.length : Int))) = true then (if 0 ≤ x6 then (if x6 < (p0.length : Int) then (if 0 ≤ p1 then (if x6 < (x5.length : Int) then (if 0 ≤ (i64.wrap (x6 + 1)) then (if (i64.wrap (x6 + 1)) < (x5.length : Int) then (some (.inl (((x5.set (0 + x6.toNat) (ior .u32 (x5.getD (0 + x6.toNat) 0) (u32.wrap (ishl .u64 (u64.wrap (p0.getD x6.toNat 0)) p1)))).set (0 + (i64.wrap (x6 + 1)).toNat) (u32.wrap (ishr .u64 (ishl .u64 (u64.wrap (p0.getD x6.toNat 0)) p1) 32))), i64.wrap (x6 + 1)))) else none) else none) else none) else none) else none) else none) else (some (.inr x5))
noncomputable def natural_shift (p0 : List Int) (p1 : Int) : Option (List Int) := if 0 ≤ (i64.wrap ((p0.length : Int) + 1)) then (if (i64.wrap ((p0.length : Int) + 1)) ≤ 1099511627776 then ((loop (fun v : (List Int) × Int => natural_shift_l1 p0 p1 v.1 v.2) ((List.replicate ((i64.wrap ((p0.length : Int) + 1)).toNat) (0 : Int)), 0)).bind fun x15 => (some x15)) else none) else none
set_option maxRecDepth 100000 in
theorem natural_shift_con (p0 : List Int) (p1 : Int) (r : List Int) (h : natural_shift p0 p1 = some r) : Con Tryz.prog 123 [vl 1 Ru32 p0, vi64 p1] [] (.c (.ref 0 1 0 r.length)) [(0, .row 72 false 1 r.length (Ru32 r))] := by
 refine con_of tt_ok0 0 Tryz.func123 (by kernel_rfl) rfl (by kernel_rfl) (fun base X _ => AW.post ?_)
 unfold natural_shift at h
 refine AW.sg tt_ok0 [] [] [] 1 [] (by kernel_rfl) ?_
 obtain ⟨g1, g2, h⟩ := ifd h
 refine AW.sg tt_ok0 [(5, .c (.ref 4 1 0 ((List.replicate ((i64.wrap ((p0.length : Int) + 1)).toNat) (0 : Int)).length)))] [4] [(4, .row 72 false 1 (List.replicate ((i64.wrap ((p0.length : Int) + 1)).toNat) (0 : Int)).length (Ru32 (List.replicate ((i64.wrap ((p0.length : Int) + 1)).toNat) (0 : Int))))] 6 [hn, hn, hn, hmk 0 Eu32 1 4 [.int .u32 0] rfl rfl (i64.wrap ((p0.length : Int) + 1)) (i64.wrap ((p0.length : Int) + 1)) g1 (Int.le_refl _) g2 (by decide)] (by kernel_rfl) ?_
 refine AW.seq ?_
 refine AW.sg tt_ok0 [(15, vi64 0), (14, vi64 (p0.length : Int)), (13, vl 1 Ru32 p0)] [] [] 9 [] (by kernel_rfl) ?_
 refine AW.block ?_
 obtain ⟨x15, l16, h⟩ := bnd_some h
 refine AW.lp l16 (fun v => ⟨[(1, vi64 p1), (5, .c (.ref 0 1 0 v.1.length)), (13, vl 1 Ru32 p0), (14, vi64 (p0.length : Int)), (15, vi64 v.2)], [(0, .row 72 false 1 v.1.length (Ru32 v.1))], 1⟩) (fun t : List Int => (.exit 0, ⟨[(5, .c (.ref 0 1 0 t.length))], [(0, .row 72 false 1 t.length (Ru32 t))], 1⟩)) (conv_re [(0, 4)] (by kernel_rfl)) (fun _ => tv) ?_ ?_
 ·
  clear l16 h
  intro v o h
  obtain ⟨x5, x6⟩ := v
  replace h : natural_shift_l1 p0 p1 x5 x6 = some o := h
  unfold natural_shift_l1 at h
  refine AW.sg tt_ok0 [(16, vb (decide (x6 < (p0.length : Int))))] [] [] 2 [] (by kernel_rfl) ?_
  refine AW.seq ?_
  refine AW.co h (by kernel_rfl) (fun c8 h => ?_) (fun c8 h => ?_)
  ·
   refine AW.skip (AW.tn ?_)
   refine AW.seq (AW.block ?_)
   obtain ⟨g9, g10, h⟩ := ifd h
   refine AW.sg tt_ok0 [(7, vu32 (p0.getD x6.toNat 0)), (6, vi64 x6)] [] [] 7 [hn, hq g9 g10] (by kernel_rfl) ?_
   obtain ⟨g11, h⟩ := ifc h
   refine AW.sg tt_ok0 [(8, vu64 (ishl .u64 (u64.wrap (p0.getD x6.toNat 0)) p1))] [] [] 12 [hn, hn, hn, ho g11] (by kernel_rfl) ?_
   obtain ⟨g12, h⟩ := ifc h
   refine AW.sg tt_ok0 [] [0] [(0, .row 72 false 1 x5.length (Ru32 (x5.set (0 + x6.toNat) (ior .u32 (x5.getD (0 + x6.toNat) 0) (u32.wrap (ishl .u64 (u64.wrap (p0.getD x6.toNat 0)) p1))))))] 21 [hn, hn, hq g9 g12, ho (p := (0 + x6.toNat) < x5.length) (by have h1 : 0 ≤ x6 := g9; have h2 : x6 < (x5.length : Int) := g12; omega), hn, hn, hn, hq g9 g12, hset 0 Eu32 x5 (0 + x6.toNat) (ior .u32 (x5.getD (0 + x6.toNat) 0) (u32.wrap (ishl .u64 (u64.wrap (p0.getD x6.toNat 0)) p1))) (n := x5.length) (by have h1 : 0 ≤ x6 := g9; have h2 : x6 < (x5.length : Int) := g12; omega) rfl] (by kernel_rfl) ?_
   obtain ⟨g13, g14, h⟩ := ifd h
   refine AW.rg tt_ok0 [] [0] [(0, .row 72 false 1 x5.length (Ru32 ((x5.set (0 + x6.toNat) (ior .u32 (x5.getD (0 + x6.toNat) 0) (u32.wrap (ishl .u64 (u64.wrap (p0.getD x6.toNat 0)) p1)))).set (0 + (i64.wrap (x6 + 1)).toNat) (u32.wrap (ishr .u64 (ishl .u64 (u64.wrap (p0.getD x6.toNat 0)) p1) 32)))))] 29 [hn, hn, hn, hn, ho (p := 0 ≤ (32 : Int)) (by decide), hn, hq g13 g14, hset 0 Eu32 (x5.set (0 + x6.toNat) (ior .u32 (x5.getD (0 + x6.toNat) 0) (u32.wrap (ishl .u64 (u64.wrap (p0.getD x6.toNat 0)) p1)))) (0 + (i64.wrap (x6 + 1)).toNat) (u32.wrap (ishr .u64 (ishl .u64 (u64.wrap (p0.getD x6.toNat 0)) p1) 32)) (n := x5.length) (by have h1 : 0 ≤ (i64.wrap (x6 + 1)) := g13; have h2 : (i64.wrap (x6 + 1)) < (x5.length : Int) := g14; omega) (by simp only [List.length_set])] (by kernel_rfl) ?_
   refine AW.inBlock_normal (AW.tn ?_)
   refine AW.rg tt_ok0 [(15, vi64 (i64.wrap (x6 + 1)))] [] [] 31 [] (by kernel_rfl) ?_
   exact lpn h (Conv.trans (conv_tms [(5, .c (.ref 0 1 0 (((x5.set (0 + x6.toNat) (ior .u32 (x5.getD (0 + x6.toNat) 0) (u32.wrap (ishl .u64 (u64.wrap (p0.getD x6.toNat 0)) p1)))).set (0 + (i64.wrap (x6 + 1)).toNat) (u32.wrap (ishr .u64 (ishl .u64 (u64.wrap (p0.getD x6.toNat 0)) p1) 32))).length)))] ⟨⟨.c (.ref 0 1 0 x5.length), by kernel_rfl, ALe.len (by simp only [List.length_set])⟩, tv⟩) (Conv.trans (conv_rowN 0 72 false 1 x5.length (((x5.set (0 + x6.toNat) (ior .u32 (x5.getD (0 + x6.toNat) 0) (u32.wrap (ishl .u64 (u64.wrap (p0.getD x6.toNat 0)) p1)))).set (0 + (i64.wrap (x6 + 1)).toNat) (u32.wrap (ishr .u64 (ishl .u64 (u64.wrap (p0.getD x6.toNat 0)) p1) 32))).length) (Ru32 ((x5.set (0 + x6.toNat) (ior .u32 (x5.getD (0 + x6.toNat) 0) (u32.wrap (ishl .u64 (u64.wrap (p0.getD x6.toNat 0)) p1)))).set (0 + (i64.wrap (x6 + 1)).toNat) (u32.wrap (ishr .u64 (ishl .u64 (u64.wrap (p0.getD x6.toNat 0)) p1) 32)))) (by kernel_rfl) (by simp only [List.length_set])) (conv_re [(0, 0)] (by kernel_rfl))))
  ·
   refine AW.exit (AW.thenQ_exit ?_)
   exact lpo h rfl (conv_re [(0, 0)] (by kernel_rfl))
 ·
  show (_ : Exit → St → Prop) (.exit 0) _
  refine AW.inBlock_hit (AW.tn ?_)
  refine AW.sg tt_ok0 [(4, .c (.ref 0 1 0 x15.length))] [] [] 3 [] (by kernel_rfl) ?_
  refine AW.ret ?_
  obtain rfl := some_inj h
  exact fn0 (.inr rfl) [(0, 0)] 1 (.c (.ref 0 1 0 x15.length)) (by kernel_rfl)
/-! recordlink/natural.less -/
noncomputable def natural_less_k2 (o0 : Nat) (n0 : Nat) (x5 : List Int) (x7 : Int) (x8 : Int) (x12 : Int) : Option (((List Int) × Int × Int × Int) ⊕ (Int × (List Int))) := if 0 ≤ x8 then (if x8 < ((n0 : Nat) : Int) then (if (o0 + x8.toNat) < x5.length then ((some (u64.wrap ((u64.wrap ((u64.wrap (x5.getD (o0 + x8.toNat) 0)) - (iand .u64 x12 4294967295))) - x7))).bind fun z16 => (some (.inl ((x5.set (o0 + x8.toNat) (u32.wrap z16)), ishr .u64 x12 32, ishr .u64 z16 63, i64.wrap (x8 + 1))))) else none) else none) else none
noncomputable def natural_less_l1 (o0 : Nat) (n0 : Nat) (p1 : List Int) (p2 : Int) (x5 : List Int) (x6 : Int) (x7 : Int) (x8 : Int) : Option (((List Int) × Int × Int × Int) ⊕ (Int × (List Int))) := if (decide (x8 < ((n0 : Nat) : Int))) = true then (if (decide (x8 < (p1.length : Int))) = true then (if 0 ≤ x8 then (if x8 < (p1.length : Int) then ((some (u64.wrap (x6 + (u64.wrap (p2 * (u64.wrap (p1.getD x8.toNat 0))))))).bind fun z21 => (natural_less_k2 o0 n0 x5 x7 x8 z21)) else none) else none) else (natural_less_k2 o0 n0 x5 x7 x8 x6)) else (some (.inr (x7, x5)))
noncomputable def natural_less (p0 : List Int) (o0 : Nat) (n0 : Nat) (p1 : List Int) (p2 : Int) : Option (Bool × (List Int)) := bind2 (loop (fun v : (List Int) × Int × Int × Int => natural_less_l1 o0 n0 p1 p2 v.1 v.2.1 v.2.2.1 v.2.2.2) (p0, 0, 0, 0)) fun x23 x24 => (some (decide (x23 > 0), x24))
set_option maxRecDepth 100000 in
theorem natural_less_con (p0 : List Int) (o0 : Nat) (n0 : Nat) (p1 : List Int) (p2 : Int) (r : Bool × (List Int)) (h : natural_less p0 o0 n0 p1 p2 = some r) : Con Tryz.prog 124 [.c (.ref 0 1 o0 n0), vl 1 Ru32 p1, vu64 p2] [(0, .row 72 false 1 p0.length (Ru32 p0))] (vb r.1) [(0, .row 72 false 1 r.2.length (Ru32 r.2))] := by
 refine con_of tt_ok0 1 Tryz.func124 (by kernel_rfl) rfl (by kernel_rfl) (fun base X _ => AW.post ?_)
 unfold natural_less at h
 refine AW.sg tt_ok0 [] [] [] 2 [] (by kernel_rfl) ?_
 refine AW.sg tt_ok0 [(8, vu64 0), (7, vu64 0)] [] [] 4 [] (by kernel_rfl) ?_
 refine AW.seq ?_
 refine AW.sg tt_ok0 [(13, vi64 0), (12, vi64 ((n0 : Nat) : Int))] [] [] 7 [] (by kernel_rfl) ?_
 refine AW.block ?_
 obtain ⟨x23, x24, l25, h⟩ := bind2_some h
 refine AW.lp l25 (fun v => ⟨[(0, .c (.ref 0 1 o0 n0)), (1, vl 1 Ru32 p1), (2, vu64 p2), (7, vu64 v.2.1), (8, vu64 v.2.2.1), (12, vi64 ((n0 : Nat) : Int)), (13, vi64 v.2.2.2)], [(0, .row 72 false 1 v.1.length (Ru32 v.1))], 1⟩) (fun t : Int × (List Int) => (.exit 0, ⟨[(8, vu64 t.1)], [(0, .row 72 false 1 t.2.length (Ru32 t.2))], 1⟩)) (conv_re [(0, 0)] (by kernel_rfl)) (fun _ => tv) ?_ ?_
 ·
  clear l25 h
  intro v o h
  obtain ⟨x5, x6, x7, x8⟩ := v
  replace h : natural_less_l1 o0 n0 p1 p2 x5 x6 x7 x8 = some o := h
  unfold natural_less_l1 at h
  refine AW.sg tt_ok0 [(14, vb (decide (x8 < ((n0 : Nat) : Int))))] [] [] 2 [] (by kernel_rfl) ?_
  refine AW.seq ?_
  refine AW.co h (by kernel_rfl) (fun c11 h => ?_) (fun c11 h => ?_)
  ·
   refine AW.skip (AW.tn ?_)
   refine AW.seq (AW.block ?_)
   refine AW.sg tt_ok0 [(9, vi64 x8)] [] [] 4 [] (by kernel_rfl) ?_
   refine AW.seq ?_
   refine AW.join (ι := Int) (fun v => ⟨[(0, .c (.ref 0 1 o0 n0)), (1, vl 1 Ru32 p1), (2, vu64 p2), (7, vu64 v), (8, vu64 x7), (9, vi64 x8), (12, vi64 ((n0 : Nat) : Int)), (13, vi64 x8)], [(0, .row 72 false 1 x5.length (Ru32 x5))], 1⟩) (fun v : Int => natural_less_k2 o0 n0 x5 x7 x8 v = some o) (fun x12 h => ?_) ?_
   ·
    unfold natural_less_k2 at h
    refine AW.tn ?_
    obtain ⟨g13, g14, h⟩ := ifd h
    obtain ⟨g15, h⟩ := ifc h
    obtain ⟨z16, n17, h⟩ := bnd_some h
    replace n17 := some_inj n17
    refine AW.sg tt_ok0 [(10, vu64 z16)] [] [] 12 [hn, hn, hq g13 g14, ho g15] (by subst n17; kernel_rfl) ?_
    refine AW.sg tt_ok0 [(8, vu64 (ishr .u64 z16 63))] [0] [(0, .row 72 false 1 x5.length (Ru32 (x5.set (o0 + x8.toNat) (u32.wrap z16))))] 21 [hn, hn, hn, hn, hn, ho (p := 0 ≤ (63 : Int)) (by decide), hq g13 g14, hset 0 Eu32 x5 (o0 + x8.toNat) (u32.wrap z16) (n := x5.length) g15 rfl] (by kernel_rfl) ?_
    refine AW.rg tt_ok0 [(7, vu64 (ishr .u64 x12 32))] [] [] 24 [hn, ho (p := 0 ≤ (32 : Int)) (by decide)] (by kernel_rfl) ?_
    refine AW.inBlock_normal (AW.tn ?_)
    refine AW.rg tt_ok0 [(13, vi64 (i64.wrap (x8 + 1)))] [] [] 26 [] (by kernel_rfl) ?_
    exact lpn h (Conv.trans (conv_rowN 0 72 false 1 x5.length ((x5.set (o0 + x8.toNat) (u32.wrap z16)).length) (Ru32 (x5.set (o0 + x8.toNat) (u32.wrap z16))) (by kernel_rfl) (by simp only [List.length_set])) (conv_re [(0, 0)] (by kernel_rfl)))
   ·
    refine AW.sg tt_ok0 [(19, vb (decide (x8 < (p1.length : Int))))] [] [] 8 [] (by kernel_rfl) ?_
    refine AW.co h (by kernel_rfl) (fun c18 h => ?_) (fun c18 h => ?_)
    ·
     obtain ⟨g19, g20, h⟩ := ifd h
     obtain ⟨z21, n22, h⟩ := bnd_some h
     replace n22 := some_inj n22
     refine AW.rg tt_ok0 [(7, vu64 z21)] [] [] 18 [hn, hn, hn, hn, hq g19 g20] (by subst n22; kernel_rfl) ?_
     exact jl z21 h (conv_re [(0, 0)] (by kernel_rfl))
    ·
     refine AW.skip ?_
     exact jl x6 h (conv_re [(0, 0)] (by kernel_rfl))
  ·
   refine AW.exit (AW.thenQ_exit ?_)
   exact lpo h rfl (conv_re [(0, 0)] (by kernel_rfl))
 ·
  show (_ : Exit → St → Prop) (.exit 0) _
  refine AW.inBlock_hit (AW.tn ?_)
  refine AW.sg tt_ok0 [(6, vb (decide (x23 > 0)))] [] [] 4 [] (by kernel_rfl) ?_
  refine AW.ret ?_
  obtain rfl := some_inj h
  exact fn0 (.inr rfl) [(0, 0)] 1 (vb (decide (x23 > 0))) (by kernel_rfl)
/-! recordlink/natural.more -/
noncomputable def natural_more_k2 (o0 : Nat) (x4 : List Int) (x6 : Int) (x14 : Int) : Option (((List Int) × Int × Int) ⊕ (List Int)) := some (.inl ((x4.set (o0 + x6.toNat) (u32.wrap x14)), ishr .u64 x14 32, i64.wrap (x6 + 1)))
noncomputable def natural_more_l1 (o0 : Nat) (n0 : Nat) (p1 : List Int) (x4 : List Int) (x5 : Int) (x6 : Int) : Option (((List Int) × Int × Int) ⊕ (List Int)) := if (decide (x6 < ((n0 : Nat) : Int))) = true then (if 0 ≤ x6 then (if x6 < ((n0 : Nat) : Int) then (if (o0 + x6.toNat) < x4.length then ((some (u64.wrap (x5 + (u64.wrap (x4.getD (o0 + x6.toNat) 0))))).bind fun z12 => (if (decide (x6 < (p1.length : Int))) = true then (if x6 < (p1.length : Int) then ((some (u64.wrap (z12 + (u64.wrap (p1.getD x6.toNat 0))))).bind fun z17 => (natural_more_k2 o0 x4 x6 z17)) else none) else (natural_more_k2 o0 x4 x6 z12))) else none) else none) else none) else (some (.inr x4))
noncomputable def natural_more (p0 : List Int) (o0 : Nat) (n0 : Nat) (p1 : List Int) : Option (List Int) := (loop (fun v : (List Int) × Int × Int => natural_more_l1 o0 n0 p1 v.1 v.2.1 v.2.2) (p0, 0, 0)).bind fun x19 => (some x19)
set_option maxRecDepth 100000 in
theorem natural_more_con (p0 : List Int) (o0 : Nat) (n0 : Nat) (p1 : List Int) (r : List Int) (h : natural_more p0 o0 n0 p1 = some r) : Con Tryz.prog 125 [.c (.ref 0 1 o0 n0), vl 1 Ru32 p1] [(0, .row 72 false 1 p0.length (Ru32 p0))] (.tup []) [(0, .row 72 false 1 r.length (Ru32 r))] := by
 refine con_of tt_ok0 1 Tryz.func125 (by kernel_rfl) rfl (by kernel_rfl) (fun base X _ => AW.post ?_)
 unfold natural_more at h
 refine AW.sg tt_ok0 [(4, vu64 0)] [] [] 2 [] (by kernel_rfl) ?_
 refine AW.sg tt_ok0 [(8, vi64 0), (7, vi64 ((n0 : Nat) : Int))] [] [] 5 [] (by kernel_rfl) ?_
 refine AW.block ?_
 obtain ⟨x19, l20, h⟩ := bnd_some h
 refine AW.lp l20 (fun v => ⟨[(0, .c (.ref 0 1 o0 n0)), (1, vl 1 Ru32 p1), (4, vu64 v.2.1), (7, vi64 ((n0 : Nat) : Int)), (8, vi64 v.2.2)], [(0, .row 72 false 1 v.1.length (Ru32 v.1))], 1⟩) (fun t : List Int => (.exit 0, ⟨[], [(0, .row 72 false 1 t.length (Ru32 t))], 1⟩)) (conv_re [(0, 0)] (by kernel_rfl)) (fun _ => tv) ?_ ?_
 ·
  clear l20 h
  intro v o h
  obtain ⟨x4, x5, x6⟩ := v
  replace h : natural_more_l1 o0 n0 p1 x4 x5 x6 = some o := h
  unfold natural_more_l1 at h
  refine AW.sg tt_ok0 [(9, vb (decide (x6 < ((n0 : Nat) : Int))))] [] [] 2 [] (by kernel_rfl) ?_
  refine AW.seq ?_
  refine AW.co h (by kernel_rfl) (fun c8 h => ?_) (fun c8 h => ?_)
  ·
   refine AW.skip (AW.tn ?_)
   refine AW.seq (AW.block ?_)
   refine AW.sg tt_ok0 [(5, vi64 x6)] [] [] 4 [] (by kernel_rfl) ?_
   obtain ⟨g9, g10, h⟩ := ifd h
   obtain ⟨g11, h⟩ := ifc h
   obtain ⟨z12, n13, h⟩ := bnd_some h
   replace n13 := some_inj n13
   refine AW.sg tt_ok0 [(4, vu64 z12)] [] [] 12 [hn, hn, hn, hq g9 g10, ho g11] (by subst n13; kernel_rfl) ?_
   refine AW.seq ?_
   refine AW.join (ι := Int) (fun v => ⟨[(0, .c (.ref 0 1 o0 n0)), (1, vl 1 Ru32 p1), (4, vu64 v), (5, vi64 x6), (7, vi64 ((n0 : Nat) : Int)), (8, vi64 x6)], [(0, .row 72 false 1 x4.length (Ru32 x4))], 1⟩) (fun v : Int => natural_more_k2 o0 x4 x6 v = some o) (fun x14 h => ?_) ?_
   ·
    unfold natural_more_k2 at h
    refine AW.tn ?_
    refine AW.sg tt_ok0 [] [0] [(0, .row 72 false 1 x4.length (Ru32 (x4.set (o0 + x6.toNat) (u32.wrap x14))))] 7 [hn, hn, hn, hn, hq g9 g10, hset 0 Eu32 x4 (o0 + x6.toNat) (u32.wrap x14) (n := x4.length) g11 rfl] (by kernel_rfl) ?_
    refine AW.rg tt_ok0 [(4, vu64 (ishr .u64 x14 32))] [] [] 10 [hn, ho (p := 0 ≤ (32 : Int)) (by decide)] (by kernel_rfl) ?_
    refine AW.inBlock_normal (AW.tn ?_)
    refine AW.rg tt_ok0 [(8, vi64 (i64.wrap (x6 + 1)))] [] [] 12 [] (by kernel_rfl) ?_
    exact lpn h (Conv.trans (conv_rowN 0 72 false 1 x4.length ((x4.set (o0 + x6.toNat) (u32.wrap x14)).length) (Ru32 (x4.set (o0 + x6.toNat) (u32.wrap x14))) (by kernel_rfl) (by simp only [List.length_set])) (conv_re [(0, 0)] (by kernel_rfl)))
   ·
    refine AW.sg tt_ok0 [(21, vb (decide (x6 < (p1.length : Int))))] [] [] 16 [] (by kernel_rfl) ?_
    refine AW.co h (by kernel_rfl) (fun c15 h => ?_) (fun c15 h => ?_)
    ·
     obtain ⟨g16, h⟩ := ifc h
     obtain ⟨z17, n18, h⟩ := bnd_some h
     replace n18 := some_inj n18
     refine AW.rg tt_ok0 [(4, vu64 z17)] [] [] 24 [hn, hn, hn, hq g9 g16] (by subst n18; kernel_rfl) ?_
     exact jl z17 h (conv_re [(0, 0)] (by kernel_rfl))
    ·
     refine AW.skip ?_
     exact jl z12 h (conv_re [(0, 0)] (by kernel_rfl))
  ·
   refine AW.exit (AW.thenQ_exit ?_)
   exact lpo h rfl (conv_re [(0, 0)] (by kernel_rfl))
 ·
  show (_ : Exit → St → Prop) (.exit 0) _
  refine AW.inBlock_hit ?_
  obtain rfl := some_inj h
  exact fn0 (.inl rfl) [(0, 0)] 1 (.tup []) (by kernel_rfl)
/-! recordlink/natural.back -/
noncomputable def natural_back_k2 (p1 : Int) (x5 : List Int) (x6 : Int) (x11 : Int) : Option (((List Int) × Int) ⊕ (List Int)) := if 0 ≤ p1 then (if x6 < (x5.length : Int) then (some (.inl ((x5.set (0 + x6.toNat) (u32.wrap (ishr .u64 x11 p1))), i64.wrap (x6 + 1)))) else none) else none
noncomputable def natural_back_l1 (p0 : List Int) (p1 : Int) (y1 : List Int) (x5 : List Int) (x6 : Int) : Option (((List Int) × Int) ⊕ (List Int)) := if (decide (x6 < (y1.length : Int))) = true then (if 0 ≤ x6 then (if x6 < (p0.length : Int) then (if (decide ((i64.wrap (x6 + 1)) < (p0.length : Int))) = true then (if 0 ≤ (i64.wrap (x6 + 1)) then (if (i64.wrap (x6 + 1)) < (p0.length : Int) then ((some (ior .u64 (u64.wrap (p0.getD x6.toNat 0)) (ishl .u64 (u64.wrap (p0.getD ((i64.wrap (x6 + 1)).toNat) 0)) 32))).bind fun z17 => (natural_back_k2 p1 x5 x6 z17)) else none) else none) else (natural_back_k2 p1 x5 x6 (u64.wrap (p0.getD x6.toNat 0)))) else none) else none) else (some (.inr x5))
noncomputable def natural_back (p0 : List Int) (p1 : Int) : Option (List Int) := (slices_Clone_uint32 p0).bind fun y1 => ((loop (fun v : (List Int) × Int => natural_back_l1 p0 p1 y1 v.1 v.2) (y1, 0)).bind fun x19 => ((natural_trim x19).bind fun y20 => (some y20)))
set_option maxRecDepth 100000 in
theorem natural_back_con (p0 : List Int) (p1 : Int) (r : List Int) (h : natural_back p0 p1 = some r) : Con Tryz.prog 126 [vl 1 Ru32 p0, vi64 p1] [] (vl 1 Ru32 r) [] := by
 refine con_of tt_ok0 0 Tryz.func126 (by kernel_rfl) rfl (by kernel_rfl) (fun base X _ => AW.post ?_)
 unfold natural_back at h
 refine AW.sg tt_ok0 [] [] [] 1 [] (by kernel_rfl) ?_
 obtain ⟨y1, e2, h⟩ := bnd_some h
 refine AW.sg tt_ok0 [(5, .c (.ref 2 1 0 y1.length))] [2] [(2, .row 72 false 1 y1.length (Ru32 y1))] 4 [hn, hm [] [] 1 (slices_Clone_uint32_con p0 y1 e2) ⟨rowL_flat Vu32 _ _ _, tv⟩] (by kernel_rfl) ?_
 refine AW.seq ?_
 refine AW.sg tt_ok0 [(12, vi64 0), (11, vi64 (y1.length : Int))] [] [] 7 [] (by kernel_rfl) ?_
 refine AW.block ?_
 obtain ⟨x19, l22, h⟩ := bnd_some h
 refine AW.lp l22 (fun v => ⟨[(0, vl 1 Ru32 p0), (1, vi64 p1), (5, .c (.ref 0 1 0 v.1.length)), (11, vi64 (y1.length : Int)), (12, vi64 v.2)], [(0, .row 72 false 1 v.1.length (Ru32 v.1))], 1⟩) (fun t : List Int => (.exit 0, ⟨[(5, .c (.ref 0 1 0 t.length))], [(0, .row 72 false 1 t.length (Ru32 t))], 1⟩)) (conv_re [(0, 2)] (by kernel_rfl)) (fun _ => tv) ?_ ?_
 ·
  clear l22 h
  intro v o h
  obtain ⟨x5, x6⟩ := v
  replace h : natural_back_l1 p0 p1 y1 x5 x6 = some o := h
  unfold natural_back_l1 at h
  refine AW.sg tt_ok0 [(13, vb (decide (x6 < (y1.length : Int))))] [] [] 2 [] (by kernel_rfl) ?_
  refine AW.seq ?_
  refine AW.co h (by kernel_rfl) (fun c8 h => ?_) (fun c8 h => ?_)
  ·
   refine AW.skip (AW.tn ?_)
   refine AW.seq (AW.block ?_)
   refine AW.sg tt_ok0 [(6, vi64 x6)] [] [] 4 [] (by kernel_rfl) ?_
   obtain ⟨g9, g10, h⟩ := ifd h
   refine AW.sg tt_ok0 [(7, vu64 (u64.wrap (p0.getD x6.toNat 0)))] [] [] 10 [hn, hn, hq g9 g10] (by kernel_rfl) ?_
   refine AW.seq ?_
   refine AW.join (ι := Int) (fun v => ⟨[(0, vl 1 Ru32 p0), (1, vi64 p1), (5, .c (.ref 0 1 0 x5.length)), (6, vi64 x6), (7, vu64 v), (11, vi64 (y1.length : Int)), (12, vi64 x6)], [(0, .row 72 false 1 x5.length (Ru32 x5))], 1⟩) (fun v : Int => natural_back_k2 p1 x5 x6 v = some o) (fun x11 h => ?_) ?_
   ·
    unfold natural_back_k2 at h
    refine AW.tn ?_
    obtain ⟨g12, g13, h⟩ := ifd h
    refine AW.rg tt_ok0 [] [0] [(0, .row 72 false 1 x5.length (Ru32 (x5.set (0 + x6.toNat) (u32.wrap (ishr .u64 x11 p1)))))] 9 [hn, hn, hn, hn, ho g12, hn, hq g9 g13, hset 0 Eu32 x5 (0 + x6.toNat) (u32.wrap (ishr .u64 x11 p1)) (n := x5.length) (by have h1 : 0 ≤ x6 := g9; have h2 : x6 < (x5.length : Int) := g13; omega) rfl] (by kernel_rfl) ?_
    refine AW.inBlock_normal (AW.tn ?_)
    refine AW.rg tt_ok0 [(12, vi64 (i64.wrap (x6 + 1)))] [] [] 11 [] (by kernel_rfl) ?_
    exact lpn h (Conv.trans (conv_tms [(5, .c (.ref 0 1 0 ((x5.set (0 + x6.toNat) (u32.wrap (ishr .u64 x11 p1))).length)))] ⟨⟨.c (.ref 0 1 0 x5.length), by kernel_rfl, ALe.len (by simp only [List.length_set])⟩, tv⟩) (Conv.trans (conv_rowN 0 72 false 1 x5.length ((x5.set (0 + x6.toNat) (u32.wrap (ishr .u64 x11 p1))).length) (Ru32 (x5.set (0 + x6.toNat) (u32.wrap (ishr .u64 x11 p1)))) (by kernel_rfl) (by simp only [List.length_set])) (conv_re [(0, 0)] (by kernel_rfl))))
   ·
    refine AW.sg tt_ok0 [(24, vb (decide ((i64.wrap (x6 + 1)) < (p0.length : Int))))] [] [] 15 [] (by kernel_rfl) ?_
    refine AW.co h (by kernel_rfl) (fun c14 h => ?_) (fun c14 h => ?_)
    ·
     obtain ⟨g15, g16, h⟩ := ifd h
     obtain ⟨z17, n18, h⟩ := bnd_some h
     replace n18 := some_inj n18
     refine AW.rg tt_ok0 [(7, vu64 z17)] [] [] 25 [hn, hn, hn, hn, hq g15 g16, hn, hn, ho (p := 0 ≤ (32 : Int)) (by decide)] (by subst n18; kernel_rfl) ?_
     exact jl z17 h (conv_re [(0, 0)] (by kernel_rfl))
    ·
     refine AW.skip ?_
     exact jl (u64.wrap (p0.getD x6.toNat 0)) h (conv_re [(0, 0)] (by kernel_rfl))
  ·
   refine AW.exit (AW.thenQ_exit ?_)
   exact lpo h rfl (conv_re [(0, 0)] (by kernel_rfl))
 ·
  show (_ : Exit → St → Prop) (.exit 0) _
  refine AW.inBlock_hit (AW.tn ?_)
  obtain ⟨y20, e21, h⟩ := bnd_some h
  refine AW.sg tt_ok0 [(4, vl 1 Ru32 y20)] [0] [] 3 [hn, hg [] [0] false 0 (q := (0 + x19.length ≤ x19.length) ∧ (True)) ⟨le0, tv⟩ (a0 := [vl 1 Ru32 x19]) (natural_trim_con x19 y20 e21) ⟨ArgLe.refl _, tv⟩ (fun h => by cases h)] (by kernel_rfl) ?_
  refine AW.ret ?_
  obtain rfl := some_inj h
  exact fn0 (.inr rfl) [] 0 (vl 1 Ru32 y20) (by kernel_rfl)
/-! recordlink/natural.divide -/
noncomputable def natural_divide_k2 (x29 : Int) (x33 : List Int) (x34 : List Int) : Option (((List Int) × (List Int) × Int) ⊕ ((List Int) × (List Int))) := some (.inl (x33, x34, i64.wrap (x29 - 1)))
noncomputable def natural_divide_l3 (y14 : List Int) (x29 : Int) (y47 : Bool) (x52 : List Int) (x53 : Int) : Option (((List Int) × Int) ⊕ ((List Int) × Int)) := if y47 = true then ((natural_more x52 (0 + x29.toNat) ((i64.wrap ((i64.wrap (x29 + (y14.length : Int))) + 1)).toNat - x29.toNat) y14).bind fun y57 => (if ((0 + x29.toNat) + (y14.length : Int).toNat) < y57.length then (if ((y57.getD ((0 + x29.toNat) + (y14.length : Int).toNat) 0) == 0) = true then (some (.inr (y57, u64.wrap (x53 - 1)))) else (some (.inl (y57, u64.wrap (x53 - 1))))) else none)) else (some (.inr (x52, x53)))
noncomputable def natural_divide_l1 (y10 : List Int) (y14 : List Int) (z18 : Int) (x27 : List Int) (x28 : List Int) (x29 : Int) : Option (((List Int) × (List Int) × Int) ⊕ ((List Int) × (List Int))) := if (decide (x29 ≥ 0)) = true then (if 0 ≤ x29 then (if x29 ≤ (i64.wrap ((i64.wrap (x29 + (y14.length : Int))) + 1)) then (if (i64.wrap ((i64.wrap (x29 + (y14.length : Int))) + 1)) ≤ (y10.length : Int) then (if 0 ≤ (y14.length : Int) then (if (y14.length : Int) < ((((i64.wrap ((i64.wrap (x29 + (y14.length : Int))) + 1)).toNat - x29.toNat) : Nat) : Int) then (if ((0 + x29.toNat) + (y14.length : Int).toNat) < x27.length then (if (i64.wrap ((y14.length : Int) - 1)) < ((((i64.wrap ((i64.wrap (x29 + (y14.length : Int))) + 1)).toNat - x29.toNat) : Nat) : Int) then (if ((0 + x29.toNat) + (i64.wrap ((y14.length : Int) - 1)).toNat) < x27.length then (if z18 ≠ 0 then ((some ((if (4294967295 : Int) < (u64.wrap ((ior .u64 (ishl .u64 (u64.wrap (x27.getD ((0 + x29.toNat) + (y14.length : Int).toNat) 0)) 32) (u64.wrap (x27.getD ((0 + x29.toNat) + (i64.wrap ((y14.length : Int) - 1)).toNat) 0))).tdiv z18)) then 4294967295 else (u64.wrap ((ior .u64 (ishl .u64 (u64.wrap (x27.getD ((0 + x29.toNat) + (y14.length : Int).toNat) 0)) 32) (u64.wrap (x27.getD ((0 + x29.toNat) + (i64.wrap ((y14.length : Int) - 1)).toNat) 0))).tdiv z18))))).bind fun z44 => (if (z44 == 0) = true then (natural_divide_k2 x29 x27 x28) else (bind2 (natural_less x27 (0 + x29.toNat) ((i64.wrap ((i64.wrap (x29 + (y14.length : Int))) + 1)).toNat - x29.toNat) y14 z44) fun y47 y48 => (bind2 (loop (fun v : (List Int) × Int => natural_divide_l3 y14 x29 y47 v.1 v.2) (y48, z44)) fun x61 x62 => (if x29 < (x28.length : Int) then (natural_divide_k2 x29 x61 (x28.set (0 + x29.toNat) (u32.wrap x62))) else none))))) else none) else none) else none) else none) else none) else none) else none) else none) else none) else (some (.inr (x27, x28)))
noncomputable def natural_divide (p0 : List Int) (p1 : List Int) : Option ((List Int) × (List Int)) := (natural_Compare p0 p1).bind fun y1 => (if (decide (y1 < 0)) = true then ((slices_Clone_uint32 p0).bind fun y4 => (some (([] : List Int), y4))) else (if 0 ≤ (i64.wrap ((p1.length : Int) - 1)) then (if (i64.wrap ((p1.length : Int) - 1)) < (p1.length : Int) then ((bits_LeadingZeros32 (p1.getD ((i64.wrap ((p1.length : Int) - 1)).toNat) 0)).bind fun y8 => ((natural_shift p0 y8).bind fun y10 => ((natural_shift p1 y8).bind fun y12 => ((natural_trim y12).bind fun y14 => (if 0 ≤ (i64.wrap ((y14.length : Int) - 1)) then (if (i64.wrap ((y14.length : Int) - 1)) < (y14.length : Int) then ((some (u64.wrap (y14.getD ((i64.wrap ((y14.length : Int) - 1)).toNat) 0))).bind fun z18 => (if 0 ≤ (i64.wrap ((y10.length : Int) - (y14.length : Int))) then (if (i64.wrap ((y10.length : Int) - (y14.length : Int))) ≤ 1099511627776 then ((some (i64.wrap ((((List.replicate ((i64.wrap ((y10.length : Int) - (y14.length : Int))).toNat) (0 : Int)).length : Nat) : Int) - 1))).bind fun z22 => (bind2 (loop (fun v : (List Int) × (List Int) × Int => natural_divide_l1 y10 y14 z18 v.1 v.2.1 v.2.2) (y10, (List.replicate ((i64.wrap ((y10.length : Int) - (y14.length : Int))).toNat) (0 : Int)), z22)) fun x65 x66 => ((natural_trim x66).bind fun y67 => ((natural_trim (x65.take y10.length)).bind fun y69 => (if 0 + y10.length ≤ x65.length then ((natural_back y69 y8).bind fun y72 => (some (y67, y72))) else none))))) else none) else none)) else none) else none))))) else none) else none))
set_option maxRecDepth 100000 in
theorem natural_divide_con (p0 : List Int) (p1 : List Int) (r : (List Int) × (List Int)) (h : natural_divide p0 p1 = some r) : Con Tryz.prog 115 [vl 1 Ru32 p0, vl 1 Ru32 p1] [] (.tup [vl 1 Ru32 r.1, vl 1 Ru32 r.2]) [] := by
 refine con_of tt_ok0 0 Tryz.func115 (by kernel_rfl) rfl (by kernel_rfl) (fun base X _ => AW.post ?_)
 unfold natural_divide at h
 refine AW.sg tt_ok0 [] [] [] 2 [] (by kernel_rfl) ?_
 refine AW.scope (AW.seq ?_)
 obtain ⟨y1, e2, h⟩ := bnd_some h
 refine AW.sg tt_ok0 [(19, vb (decide (y1 < 0)))] [] [] 5 [hn, hn, hk (natural_Compare_con p0 p1 y1 e2)] (by kernel_rfl) ?_
 refine AW.co h (by kernel_rfl) (fun c3 h => ?_) (fun c3 h => ?_)
 ·
  obtain ⟨y4, e5, h⟩ := bnd_some h
  refine AW.sg tt_ok0 [(5, .c (.ref 6 1 0 y4.length)), (4, .c (.t (.v (.slice none 0 0))))] [6] [(6, .row 72 false 1 y4.length (Ru32 y4))] 9 [hn, hm [] [] 1 (slices_Clone_uint32_con p0 y4 e5) ⟨rowL_flat Vu32 _ _ _, tv⟩] (by kernel_rfl) ?_
  refine AW.ret (AW.tr (AW.noG_ret ?_))
  obtain rfl := some_inj h
  exact fnR (.inr rfl) [] 0 (.tup [vl 1 Ru32 ([] : List Int), vl 1 Ru32 y4]) (Conv.trans (cfz 6 72 1 y4.length (Ru32 y4) (by kernel_rfl)) (Conv.trans (conv_tms [(4, vl 1 Ru32 ([] : List Int))] ⟨⟨.c (.t (.v (.slice none 0 0))), by kernel_rfl, ALe.c (CLe.nil rfl)⟩, tv⟩) (conv_tms [(5, vl 1 Ru32 y4)] ⟨⟨.c (.ref 6 1 0 y4.length), by kernel_rfl, ALe.c (CLe.ref (ty := 72) (f := Ru32 y4) (by kernel_rfl) le0)⟩, tv⟩))) (by kernel_rfl)
 ·
  refine AW.skip (AW.tn ?_)
  obtain ⟨g6, g7, h⟩ := ifd h
  obtain ⟨y8, e9, h⟩ := bnd_some h
  refine AW.sg tt_ok0 [(6, vi64 y8)] [] [] 12 [hn, hn, hn, hn, hq g6 g7, hn, hk (bits_LeadingZeros32_con (p1.getD ((i64.wrap ((p1.length : Int) - 1)).toNat) 0) y8 e9)] (by kernel_rfl) ?_
  obtain ⟨y10, e11, h⟩ := bnd_some h
  obtain ⟨y12, e13, h⟩ := bnd_some h
  obtain ⟨y14, e15, h⟩ := bnd_some h
  refine AW.sg tt_ok0 [(8, vl 1 Ru32 y14), (7, .c (.ref 14 1 0 y10.length))] [14, 17] [(14, .row 72 false 1 y10.length (Ru32 y10))] 20 [hn, hn, hm [] [] 1 (natural_shift_con p0 y8 y10 e11) ⟨rowL_flat Vu32 _ _ _, tv⟩, hn, hn, hm [] [] 1 (natural_shift_con p1 y8 y12 e13) ⟨rowL_flat Vu32 _ _ _, tv⟩, hg [] [17] false 0 (q := (0 + y12.length ≤ y12.length) ∧ (True)) ⟨le0, tv⟩ (a0 := [vl 1 Ru32 y12]) (natural_trim_con y12 y14 e15) ⟨ArgLe.refl _, tv⟩ (fun h => by cases h)] (by kernel_rfl) ?_
  refine AW.sg tt_ok0 [(9, vi64 (y14.length : Int))] [] [] 23 [] (by kernel_rfl) ?_
  obtain ⟨g16, g17, h⟩ := ifd h
  obtain ⟨z18, n19, h⟩ := bnd_some h
  replace n19 := some_inj n19
  refine AW.sg tt_ok0 [(10, vu64 z18)] [] [] 30 [hn, hn, hn, hq g16 g17] (by subst n19; kernel_rfl) ?_
  obtain ⟨g20, g21, h⟩ := ifd h
  refine AW.sg tt_ok0 [(11, .c (.ref 34 1 0 ((List.replicate ((i64.wrap ((y10.length : Int) - (y14.length : Int))).toNat) (0 : Int)).length)))] [34] [(34, .row 72 false 1 (List.replicate ((i64.wrap ((y10.length : Int) - (y14.length : Int))).toNat) (0 : Int)).length (Ru32 (List.replicate ((i64.wrap ((y10.length : Int) - (y14.length : Int))).toNat) (0 : Int))))] 36 [hn, hn, hn, hn, hmk 0 Eu32 1 4 [.int .u32 0] rfl rfl (i64.wrap ((y10.length : Int) - (y14.length : Int))) (i64.wrap ((y10.length : Int) - (y14.length : Int))) g20 (Int.le_refl _) g21 (by decide)] (by kernel_rfl) ?_
  refine AW.seq (AW.label ?_)
  refine AW.tn (AW.seq ?_)
  obtain ⟨z22, n23, h⟩ := bnd_some h
  replace n23 := some_inj n23
  refine AW.sg tt_ok0 [(12, vi64 z22)] [] [] 40 [] (by subst n23; kernel_rfl) ?_
  refine AW.block ?_
  obtain ⟨x65, x66, l74, h⟩ := bind2_some h
  refine AW.lp l74 (fun v => ⟨[(6, vi64 y8), (7, .c (.ref 0 1 0 y10.length)), (8, vl 1 Ru32 y14), (9, vi64 (y14.length : Int)), (10, vu64 z18), (11, .c (.ref 1 1 0 v.2.1.length)), (12, vi64 v.2.2)], [(0, .row 72 false 1 v.1.length (Ru32 v.1)), (1, .row 72 false 1 v.2.1.length (Ru32 v.2.1))], 2⟩) (fun t : (List Int) × (List Int) => (.exit 0, ⟨[(6, vi64 y8), (7, .c (.ref 0 1 0 y10.length)), (11, .c (.ref 1 1 0 t.2.length))], [(0, .row 72 false 1 t.1.length (Ru32 t.1)), (1, .row 72 false 1 t.2.length (Ru32 t.2))], 2⟩)) (conv_re [(0, 14), (1, 34)] (by kernel_rfl)) (fun _ => tv) ?_ ?_
  ·
   clear l74 h
   intro v o h
   obtain ⟨x27, x28, x29⟩ := v
   replace h : natural_divide_l1 y10 y14 z18 x27 x28 x29 = some o := h
   unfold natural_divide_l1 at h
   refine AW.seq ?_
   refine AW.sg tt_ok0 [(53, vb (decide (x29 ≥ 0)))] [] [] 4 [] (by kernel_rfl) ?_
   refine AW.co h (by kernel_rfl) (fun c32 h => ?_) (fun c32 h => ?_)
   ·
    refine AW.skip (AW.tn (AW.seq ?_))
    refine AW.join (ι := (List Int) × (List Int)) (fun v => ⟨[(6, vi64 y8), (7, .c (.ref 0 1 0 y10.length)), (8, vl 1 Ru32 y14), (9, vi64 (y14.length : Int)), (10, vu64 z18), (11, .c (.ref 1 1 0 v.2.length)), (12, vi64 x29)], [(0, .row 72 false 1 v.1.length (Ru32 v.1)), (1, .row 72 false 1 v.2.length (Ru32 v.2))], 2⟩) (fun v : (List Int) × (List Int) => natural_divide_k2 x29 v.1 v.2 = some o) (fun v h => ?_) ?_
    ·
     obtain ⟨x33, x34⟩ := v
     replace h : natural_divide_k2 x29 x33 x34 = some o := h
     unfold natural_divide_k2 at h
     refine AW.tn ?_
     refine AW.rg tt_ok0 [(12, vi64 (i64.wrap (x29 - 1)))] [] [] 5 [] (by kernel_rfl) ?_
     exact lpn h (conv_re [(0, 0), (1, 1)] (by kernel_rfl))
    ·
     refine AW.block ?_
     obtain ⟨g35, g36, h⟩ := ifd h
     obtain ⟨g37, h⟩ := ifc h
     refine AW.sg tt_ok0 [(13, .c (.ref 0 1 (0 + x29.toNat) ((i64.wrap ((i64.wrap (x29 + (y14.length : Int))) + 1)).toNat - x29.toNat)))] [] [] 16 [hn, hn, hn, hn, hn, hn, hn, hn, hn, hn, ho (p := (0 ≤ x29) ∧ (x29 ≤ (i64.wrap ((i64.wrap (x29 + (y14.length : Int))) + 1))) ∧ ((i64.wrap ((i64.wrap (x29 + (y14.length : Int))) + 1)) ≤ (i64.wrap ((i64.wrap (x29 + (y14.length : Int))) + 1))) ∧ ((i64.wrap ((i64.wrap (x29 + (y14.length : Int))) + 1)) ≤ (y10.length : Int))) (⟨g35, g36, Int.le_refl _, g37⟩)] (by kernel_rfl) ?_
     obtain ⟨g38, g39, h⟩ := ifd h
     obtain ⟨g40, g41, h⟩ := ifd h
     obtain ⟨g42, g43, h⟩ := ifd h
     obtain ⟨z44, n45, h⟩ := bnd_some h
     replace n45 := some_inj n45
     refine AW.sd tt_ok0 mo0 [] [(14, vu64 z44)] [] 33 [hn, hn, hq g38 g39, ho g40, hn, ho (p := 0 ≤ (32 : Int)) (by decide), hn, hn, hn, hq g16 g41, ho g42, hn, hn, hn, ho g43] (by subst n45; kernel_rfl) ?_
     refine AW.seq ?_
     refine AW.sg tt_ok0 [(84, vb (z44 == 0))] [] [] 35 [] (by kernel_rfl) ?_
     refine AW.co h (by kernel_rfl) (fun c46 h => ?_) (fun c46 h => ?_)
     ·
      refine AW.exit (AW.thenQ_exit (AW.inBlock_hit ?_))
      exact jl (x27, x28) h (conv_re [(0, 0), (1, 1)] (by kernel_rfl))
     ·
      refine AW.skip (AW.tn (AW.seq ?_))
      obtain ⟨y47, y48, e49, h⟩ := bind2_some h
      refine AW.sg tt_ok0 [(15, vb y47)] [0] [(0, .row 72 false 1 y48.length (Ru32 y48))] 39 [hn, hn, hn, hm [0] [] 0 (natural_less_con x27 (0 + x29.toNat) ((i64.wrap ((i64.wrap (x29 + (y14.length : Int))) + 1)).toNat - x29.toNat) y14 z44 (y47, y48) e49) ⟨rowL_flat Vu32 _ _ _, tv⟩] (by kernel_rfl) ?_
      refine AW.block ?_
      obtain ⟨x61, x62, l64, h⟩ := bind2_some h
      refine AW.lp l64 (fun v => ⟨[(6, vi64 y8), (7, .c (.ref 0 1 0 y10.length)), (8, vl 1 Ru32 y14), (9, vi64 (y14.length : Int)), (10, vu64 z18), (11, .c (.ref 1 1 0 x28.length)), (12, vi64 x29), (13, .c (.ref 0 1 (0 + x29.toNat) ((i64.wrap ((i64.wrap (x29 + (y14.length : Int))) + 1)).toNat - x29.toNat))), (14, vu64 v.2), (15, vb y47)], [(0, .row 72 false 1 v.1.length (Ru32 v.1)), (1, .row 72 false 1 x28.length (Ru32 x28))], 2⟩) (fun t : (List Int) × Int => (.exit 2, ⟨[(6, vi64 y8), (7, .c (.ref 0 1 0 y10.length)), (8, vl 1 Ru32 y14), (9, vi64 (y14.length : Int)), (10, vu64 z18), (11, .c (.ref 1 1 0 x28.length)), (12, vi64 x29), (14, vu64 t.2)], [(0, .row 72 false 1 t.1.length (Ru32 t.1)), (1, .row 72 false 1 x28.length (Ru32 x28))], 2⟩)) (conv_re [(0, 0), (1, 1)] (by kernel_rfl)) (fun _ => tv) ?_ ?_
      ·
       clear l64 h
       intro v o h
       obtain ⟨x52, x53⟩ := v
       replace h : natural_divide_l3 y14 x29 y47 x52 x53 = some o := h
       unfold natural_divide_l3 at h
       refine AW.seq ?_
       refine AW.sg tt_ok0 [(89, vb y47)] [] [] 3 [] (by kernel_rfl) ?_
       refine AW.co h (by kernel_rfl) (fun c56 h => ?_) (fun c56 h => ?_)
       ·
        refine AW.skip (AW.tn ?_)
        refine AW.seq (AW.block ?_)
        obtain ⟨y57, e58, h⟩ := bnd_some h
        refine AW.sg tt_ok0 [] [0] [(0, .row 72 false 1 y57.length (Ru32 y57))] 5 [hn, hn, hm [0] [] 0 (natural_more_con x52 (0 + x29.toNat) ((i64.wrap ((i64.wrap (x29 + (y14.length : Int))) + 1)).toNat - x29.toNat) y14 y57 e58) ⟨rowL_flat Vu32 _ _ _, tv⟩] (by kernel_rfl) ?_
        obtain ⟨g59, h⟩ := ifc h
        refine AW.sg tt_ok0 [(99, vb ((y57.getD ((0 + x29.toNat) + (y14.length : Int).toNat) 0) == 0))] [] [] 10 [hn, hn, hq g38 g39, ho g59] (by kernel_rfl) ?_
        refine AW.co h (by kernel_rfl) (fun c60 h => ?_) (fun c60 h => ?_)
        ·
         refine AW.sg tt_ok0 [(14, vu64 (u64.wrap (x53 - 1)))] [] [] 13 [] (by kernel_rfl) ?_
         refine AW.exit (AW.inBlock_miss (by kernel_rfl) (AW.thenQ_exit ?_))
         exact lpo h rfl (conv_re [(0, 0), (1, 1)] (by kernel_rfl))
        ·
         refine AW.skip (AW.inBlock_normal (AW.tn ?_))
         refine AW.rg tt_ok0 [(14, vu64 (u64.wrap (x53 - 1)))] [] [] 13 [] (by kernel_rfl) ?_
         exact lpn h (conv_re [(0, 0), (1, 1)] (by kernel_rfl))
       ·
        refine AW.exit (AW.thenQ_exit ?_)
        exact lpo h rfl (conv_re [(0, 0), (1, 1)] (by kernel_rfl))
      ·
       show (_ : Exit → St → Prop) (.exit 2) _
       refine AW.inBlock_hit (AW.tn ?_)
       obtain ⟨g63, h⟩ := ifc h
       refine AW.rg tt_ok0 [] [1] [(1, .row 72 false 1 x28.length (Ru32 (x28.set (0 + x29.toNat) (u32.wrap x62))))] 8 [hn, hn, hn, hn, hq g35 g63, hset 0 Eu32 x28 (0 + x29.toNat) (u32.wrap x62) (n := x28.length) (by have h1 : 0 ≤ x29 := g35; have h2 : x29 < (x28.length : Int) := g63; omega) rfl] (by kernel_rfl) ?_
       refine AW.inBlock_normal ?_
       exact jl (x61, (x28.set (0 + x29.toNat) (u32.wrap x62))) h (Conv.trans (conv_tms [(11, .c (.ref 1 1 0 ((x28.set (0 + x29.toNat) (u32.wrap x62)).length)))] ⟨⟨.c (.ref 1 1 0 x28.length), by kernel_rfl, ALe.len (by simp only [List.length_set])⟩, tv⟩) (Conv.trans (conv_rowN 1 72 false 1 x28.length ((x28.set (0 + x29.toNat) (u32.wrap x62)).length) (Ru32 (x28.set (0 + x29.toNat) (u32.wrap x62))) (by kernel_rfl) (by simp only [List.length_set])) (conv_re [(0, 0), (1, 1)] (by kernel_rfl))))
   ·
    refine AW.exit (AW.thenQ_exit ?_)
    exact lpo h rfl (conv_re [(0, 0), (1, 1)] (by kernel_rfl))
  ·
   show (_ : Exit → St → Prop) (.exit 0) _
   refine AW.inBlock_hit (AW.tn ?_)
   obtain ⟨y67, e68, h⟩ := bnd_some h
   obtain ⟨y69, e70, h⟩ := bnd_some h
   obtain ⟨g71, h⟩ := ifc h
   obtain ⟨y72, e73, h⟩ := bnd_some h
   refine AW.sg tt_ok0 [(5, vl 1 Ru32 y72), (4, vl 1 Ru32 y67)] [0, 1] [] 7 [hn, hg [] [1] false 0 (q := (0 + x66.length ≤ x66.length) ∧ (True)) ⟨le0, tv⟩ (a0 := [vl 1 Ru32 x66]) (natural_trim_con x66 y67 e68) ⟨ArgLe.refl _, tv⟩ (fun h => by cases h), hn, hg [] [0] false 0 (q := (0 + y10.length ≤ x65.length) ∧ (True)) ⟨g71, tv⟩ (a0 := [.c (.t (.tree y10.length 1 (Ru32 x65)))]) (natural_trim_con (x65.take y10.length) y69 e70) ⟨ArgLe.c (CAle.tree (take_row (by omega))), tv⟩ (fun h => by cases h), hn, hk (natural_back_con y69 y8 y72 e73)] (by kernel_rfl) ?_
   refine AW.ret (AW.noG_ret ?_)
   obtain rfl := some_inj h
   exact fn0 (.inr rfl) [] 0 (.tup [vl 1 Ru32 y67, vl 1 Ru32 y72]) (by kernel_rfl)
/-! recordlink/natural.GCD -/
noncomputable def natural_GCD_l1 (x8 : List Int) (x9 : List Int) : Option (((List Int) × (List Int)) ⊕ (List Int)) := if (decide ((x9.length : Int) > 0)) = true then (bind2 (natural_divide x8 x9) fun y12 y13 => ((slices_Clone_uint32 x9).bind fun y15 => (some (.inl (y15, y13))))) else (some (.inr x8))
noncomputable def natural_GCD (p0 : List Int) (p1 : List Int) : Option ((List Int) × Int) := (natural_both p0 p1).bind fun y1 => (if (y1 != 0) = true then (some (([] : List Int), y1)) else ((slices_Clone_uint32 p0).bind fun y4 => ((loop (fun v : (List Int) × (List Int) => natural_GCD_l1 v.1 v.2) (y4, p1)).bind fun x17 => (some (x17, 0)))))
set_option maxRecDepth 100000 in
theorem natural_GCD_con (p0 : List Int) (p1 : List Int) (r : (List Int) × Int) (h : natural_GCD p0 p1 = some r) : Con Tryz.prog 107 [vl 1 Ru32 p0, vl 1 Ru32 p1] [] (.tup [.c (.ref 0 1 0 r.1.length), vi64 r.2]) [(0, .row 72 false 1 r.1.length (Ru32 r.1))] := by
 refine con_of tt_ok0 0 Tryz.func107 (by kernel_rfl) rfl (by kernel_rfl) (fun base X _ => AW.post ?_)
 unfold natural_GCD at h
 refine AW.sg tt_ok0 [] [] [] 2 [] (by kernel_rfl) ?_
 refine AW.seq ?_
 obtain ⟨y1, e2, h⟩ := bnd_some h
 refine AW.sg tt_ok0 [(6, vi64 y1)] [] [] 5 [hn, hn, hk (natural_both_con p0 p1 y1 e2)] (by kernel_rfl) ?_
 refine AW.sg tt_ok0 [(13, vb (y1 != 0))] [] [] 7 [] (by kernel_rfl) ?_
 refine AW.co h (by kernel_rfl) (fun c3 h => ?_) (fun c3 h => ?_)
 ·
  refine AW.sg tt_ok0 [(5, vi64 y1), (4, .c (.t (.v (.slice none 0 0))))] [] [] 10 [] (by kernel_rfl) ?_
  refine AW.ret (AW.tr ?_)
  obtain rfl := some_inj h
  exact fnR (.inr rfl) [(0, 10)] 1 (.tup [.c (.ref 10 1 0 (([] : List Int).length)), vi64 y1]) (conv_adopt (t := 4) (ty := 72) (sz := 1) (n := ([] : List Int).length) (f := Ru32 ([] : List Int)) (by kernel_rfl) rfl) (by kernel_rfl)
 ·
  refine AW.skip (AW.tn ?_)
  obtain ⟨y4, e5, h⟩ := bnd_some h
  refine AW.sg tt_ok0 [(0, .c (.ref 8 1 0 y4.length))] [8] [(8, .row 72 false 1 y4.length (Ru32 y4))] 10 [hn, hm [] [] 1 (slices_Clone_uint32_con p0 y4 e5) ⟨rowL_flat Vu32 _ _ _, tv⟩] (by kernel_rfl) ?_
  refine AW.seq (AW.block ?_)
  obtain ⟨x17, l18, h⟩ := bnd_some h
  refine AW.lp l18 (fun v => ⟨[(0, .c (.ref 0 1 0 v.1.length)), (1, vl 1 Ru32 v.2)], [(0, .row 72 false 1 v.1.length (Ru32 v.1))], 1⟩) (fun t : List Int => (.exit 0, ⟨[(0, .c (.ref 0 1 0 t.length))], [(0, .row 72 false 1 t.length (Ru32 t))], 1⟩)) (conv_re [(0, 8)] (by kernel_rfl)) (fun _ => tv) ?_ ?_
  ·
   clear l18 h
   intro v o h
   obtain ⟨x8, x9⟩ := v
   replace h : natural_GCD_l1 x8 x9 = some o := h
   unfold natural_GCD_l1 at h
   refine AW.seq ?_
   refine AW.sg tt_ok0 [(19, vb (decide ((x9.length : Int) > 0)))] [] [] 4 [] (by kernel_rfl) ?_
   refine AW.co h (by kernel_rfl) (fun c11 h => ?_) (fun c11 h => ?_)
   ·
    refine AW.skip (AW.tn (AW.block ?_))
    obtain ⟨y12, y13, e14, h⟩ := bind2_some h
    refine AW.sg tt_ok0 [(8, vl 1 Ru32 y13)] [0] [] 11 [hn, hn, hg [] [0] false 0 (q := (0 + x8.length ≤ x8.length) ∧ (True) ∧ (True)) ⟨le0, tv, tv⟩ (a0 := [vl 1 Ru32 x8, vl 1 Ru32 x9]) (natural_divide_con x8 x9 (y12, y13) e14) ⟨ArgLe.refl _, ArgLe.refl _, tv⟩ (fun h => by cases h)] (by kernel_rfl) ?_
    obtain ⟨y15, e16, h⟩ := bnd_some h
    refine AW.rg tt_ok0 [(1, vl 1 Ru32 y13), (0, .c (.ref 12 1 0 y15.length))] [12] [(12, .row 72 false 1 y15.length (Ru32 y15))] 16 [hn, hm [] [] 1 (slices_Clone_uint32_con x9 y15 e16) ⟨rowL_flat Vu32 _ _ _, tv⟩] (by kernel_rfl) ?_
    refine AW.inBlock_normal ?_
    exact lpn h (conv_re [(0, 12)] (by kernel_rfl))
   ·
    refine AW.exit (AW.thenQ_exit ?_)
    exact lpo h rfl (conv_re [(0, 0)] (by kernel_rfl))
  ·
   show (_ : Exit → St → Prop) (.exit 0) _
   refine AW.inBlock_hit (AW.tn ?_)
   refine AW.sg tt_ok0 [(5, vi64 0), (4, .c (.ref 0 1 0 x17.length))] [] [] 4 [] (by kernel_rfl) ?_
   refine AW.ret ?_
   obtain rfl := some_inj h
   exact fn0 (.inr rfl) [(0, 0)] 1 (.tup [.c (.ref 0 1 0 x17.length), vi64 0]) (by kernel_rfl)
/-! (recordlink/rational.number).with -/
noncomputable def rational_number_with_natural_GCD (p0 : S_rational_number) (p1 : S_rational_number) : Option S_rational_number := if (p0.e != 0) = true then (some p0) else (if (p1.e != 0) = true then (some p1) else (bind2 (natural_GCD p0.n p1.n) fun y3 y4 => (some (⟨y3, y4⟩ : S_rational_number))))
set_option maxRecDepth 100000 in
theorem rational_number_with_natural_GCD_con (p0 : S_rational_number) (p1 : S_rational_number) (r : S_rational_number) (h : rational_number_with_natural_GCD p0 p1 = some r) : Con Tryz.prog 106 [.agg [cl 1 Ru32 p0.n, ci64 p0.e], .agg [cl 1 Ru32 p1.n, ci64 p1.e], .c (.t (.v (.func (.func 107) #[] #[])))] [] (.agg [cl 1 Ru32 r.n, ci64 r.e]) [] := by
 refine con_of tt_ok0 0 Tryz.func106 (by kernel_rfl) rfl (by kernel_rfl) (fun base X _ => AW.post ?_)
 unfold rational_number_with_natural_GCD at h
 refine AW.sg tt_ok0 [(6, .c (.ptr 2 2 0 0)), (4, .c (.ptr 1 2 0 0)), (3, .c (.ptr 0 2 0 0))] [0, 1, 2] [(2, .box 114 [.t (.v (.slice none 0 0)), ci64 0]), (1, .box 114 [cl 1 Ru32 p1.n, ci64 p1.e]), (0, .box 114 [cl 1 Ru32 p0.n, ci64 p0.e])] 3 [] (by kernel_rfl) ?_
 refine AW.seq (AW.block ?_)
 refine AW.sg tt_ok0 [(9, vb (p0.e != 0))] [] [] 7 [] (by kernel_rfl) ?_
 refine AW.co h (by kernel_rfl) (fun c1 h => ?_) (fun c1 h => ?_)
 ·
  refine AW.sg tt_ok0 [] [2] [(2, .box 114 [cl 1 Ru32 p0.n, ci64 p0.e])] 9 [] (by kernel_rfl) ?_
  refine AW.ret (AW.inBlock_ret (AW.tr ?_))
  obtain rfl := some_inj h
  exact fn0 (.inr rfl) [] 0 (.agg [cl 1 Ru32 p0.n, ci64 p0.e]) (by kernel_rfl)
 ·
  refine AW.sg tt_ok0 [(14, vb (p1.e != 0))] [] [] 11 [] (by kernel_rfl) ?_
  refine AW.co h (by kernel_rfl) (fun c2 h => ?_) (fun c2 h => ?_)
  ·
   refine AW.sg tt_ok0 [] [2] [(2, .box 114 [cl 1 Ru32 p1.n, ci64 p1.e])] 13 [] (by kernel_rfl) ?_
   refine AW.ret (AW.inBlock_ret (AW.tr ?_))
   obtain rfl := some_inj h
   exact fn0 (.inr rfl) [] 0 (.agg [cl 1 Ru32 p1.n, ci64 p1.e]) (by kernel_rfl)
  ·
   refine AW.skip (AW.inBlock_normal (AW.tn ?_))
   obtain ⟨y3, y4, e5, h⟩ := bind2_some h
   refine AW.sg tt_ok0 [(8, vi64 y4), (7, .c (.ref 16 1 0 y3.length))] [16] [(16, .row 72 false 1 y3.length (Ru32 y3))] 22 [hn, hn, hn, hn, hn, hm [] [] 1 (natural_GCD_con p0.n p1.n (y3, y4) e5) ⟨rowL_flat Vu32 _ _ _, tv⟩] (by kernel_rfl) ?_
   refine AW.sg tt_ok0 [] [2] [(2, .box 114 [.ref 16 1 0 y3.length, ci64 y4])] 26 [] (by kernel_rfl) ?_
   refine AW.ret ?_
   obtain rfl := some_inj h
   exact fnR (.inr rfl) [] 0 (.agg [cl 1 Ru32 y3, ci64 y4]) (Conv.trans (cfz 16 72 1 y3.length (Ru32 y3) (by kernel_rfl)) (conv_box (id := 2) (ty := 114) (cs := [.ref 16 1 0 y3.length, ci64 y4]) (ds := [cl 1 Ru32 y3, ci64 y4]) (by kernel_rfl) ⟨CLe.ref (ty := 72) (f := Ru32 y3) (by kernel_rfl) le0, CLe.refl _ _, tv⟩)) (by kernel_rfl)
/-! recordlink/natural.DivMod -/
noncomputable def natural_DivMod (p0 : List Int) (p1 : List Int) : Option ((List Int) × (List Int) × Int) := (natural_both p0 p1).bind fun y1 => (if (y1 != 0) = true then (some (([] : List Int), ([] : List Int), y1)) else (if ((p1.length : Int) == 0) = true then (some (([] : List Int), ([] : List Int), 9)) else (bind2 (natural_divide p0 p1) fun y5 y6 => (some (y5, y6, 0)))))
set_option maxRecDepth 100000 in
theorem natural_DivMod_con (p0 : List Int) (p1 : List Int) (r : (List Int) × (List Int) × Int) (h : natural_DivMod p0 p1 = some r) : Con Tryz.prog 93 [vl 1 Ru32 p0, vl 1 Ru32 p1] [] (.tup [vl 1 Ru32 r.1, vl 1 Ru32 r.2.1, vi64 r.2.2]) [] := by
 refine con_of tt_ok0 0 Tryz.func93 (by kernel_rfl) rfl (by kernel_rfl) (fun base X _ => AW.post ?_)
 unfold natural_DivMod at h
 refine AW.sg tt_ok0 [] [] [] 3 [] (by kernel_rfl) ?_
 refine AW.seq ?_
 obtain ⟨y1, e2, h⟩ := bnd_some h
 refine AW.sg tt_ok0 [(7, vi64 y1)] [] [] 6 [hn, hn, hk (natural_both_con p0 p1 y1 e2)] (by kernel_rfl) ?_
 refine AW.sg tt_ok0 [(14, vb (y1 != 0))] [] [] 8 [] (by kernel_rfl) ?_
 refine AW.co h (by kernel_rfl) (fun c3 h => ?_) (fun c3 h => ?_)
 ·
  refine AW.sg tt_ok0 [(6, vi64 y1), (5, .c (.t (.v (.slice none 0 0)))), (4, .c (.t (.v (.slice none 0 0))))] [] [] 12 [] (by kernel_rfl) ?_
  refine AW.ret (AW.tr ?_)
  obtain rfl := some_inj h
  exact fnR (.inr rfl) [] 0 (.tup [vl 1 Ru32 ([] : List Int), vl 1 Ru32 ([] : List Int), vi64 y1]) (Conv.trans (conv_tms [(4, vl 1 Ru32 ([] : List Int))] ⟨⟨.c (.t (.v (.slice none 0 0))), by kernel_rfl, ALe.c (CLe.nil rfl)⟩, tv⟩) (conv_tms [(5, vl 1 Ru32 ([] : List Int))] ⟨⟨.c (.t (.v (.slice none 0 0))), by kernel_rfl, ALe.c (CLe.nil rfl)⟩, tv⟩)) (by kernel_rfl)
 ·
  refine AW.skip (AW.tn (AW.seq ?_))
  refine AW.sg tt_ok0 [(18, vb ((p1.length : Int) == 0))] [] [] 11 [] (by kernel_rfl) ?_
  refine AW.co h (by kernel_rfl) (fun c4 h => ?_) (fun c4 h => ?_)
  ·
   refine AW.sg tt_ok0 [(6, vi64 9), (5, .c (.t (.v (.slice none 0 0)))), (4, .c (.t (.v (.slice none 0 0))))] [] [] 14 [] (by kernel_rfl) ?_
   refine AW.ret (AW.tr ?_)
   obtain rfl := some_inj h
   exact fnR (.inr rfl) [] 0 (.tup [vl 1 Ru32 ([] : List Int), vl 1 Ru32 ([] : List Int), vi64 9]) (Conv.trans (conv_tms [(4, vl 1 Ru32 ([] : List Int))] ⟨⟨.c (.t (.v (.slice none 0 0))), by kernel_rfl, ALe.c (CLe.nil rfl)⟩, tv⟩) (conv_tms [(5, vl 1 Ru32 ([] : List Int))] ⟨⟨.c (.t (.v (.slice none 0 0))), by kernel_rfl, ALe.c (CLe.nil rfl)⟩, tv⟩)) (by kernel_rfl)
  ·
   refine AW.skip (AW.tn ?_)
   obtain ⟨y5, y6, e7, h⟩ := bind2_some h
   refine AW.sg tt_ok0 [(9, vl 1 Ru32 y6), (8, vl 1 Ru32 y5)] [] [] 18 [hn, hn, hk (natural_divide_con p0 p1 (y5, y6) e7)] (by kernel_rfl) ?_
   refine AW.sg tt_ok0 [(6, vi64 0), (5, vl 1 Ru32 y6), (4, vl 1 Ru32 y5)] [] [] 23 [] (by kernel_rfl) ?_
   refine AW.ret ?_
   obtain rfl := some_inj h
   exact fn0 (.inr rfl) [] 0 (.tup [vl 1 Ru32 y5, vl 1 Ru32 y6, vi64 0]) (by kernel_rfl)
/-! recordlink/rational.reduced$1 -/
noncomputable def rational_reduced_f1 (p0 : List Int) (p1 : List Int) : Option ((List Int) × Int) := bind3 (natural_DivMod p0 p1) fun y1 y2 y3 => (some (y1, y3))
set_option maxRecDepth 100000 in
theorem rational_reduced_f1_con (p0 : List Int) (p1 : List Int) (r : (List Int) × Int) (h : rational_reduced_f1 p0 p1 = some r) : Con Tryz.prog 108 [vl 1 Ru32 p0, vl 1 Ru32 p1] [] (.tup [vl 1 Ru32 r.1, vi64 r.2]) [] := by
 refine con_of tt_ok0 0 Tryz.func108 (by kernel_rfl) rfl (by kernel_rfl) (fun base X _ => AW.post ?_)
 unfold rational_reduced_f1 at h
 refine AW.sg tt_ok0 [] [] [] 2 [] (by kernel_rfl) ?_
 obtain ⟨y1, y2, y3, e4, h⟩ := bind3_some h
 refine AW.sg tt_ok0 [(8, vi64 y3), (6, vl 1 Ru32 y1)] [] [] 11 [hn, hn, hk (natural_DivMod_con p0 p1 (y1, y2, y3) e4)] (by kernel_rfl) ?_
 refine AW.sg tt_ok0 [(5, vi64 y3), (4, vl 1 Ru32 y1)] [] [] 15 [] (by kernel_rfl) ?_
 refine AW.ret ?_
 obtain rfl := some_inj h
 exact fn0 (.inr rfl) [] 0 (.tup [vl 1 Ru32 y1, vi64 y3]) (by kernel_rfl)
/-! (recordlink/rational.number).with -/
noncomputable def rational_number_with_rational_reduced_f1 (p0 : S_rational_number) (p1 : S_rational_number) : Option S_rational_number := if (p0.e != 0) = true then (some p0) else (if (p1.e != 0) = true then (some p1) else (bind2 (rational_reduced_f1 p0.n p1.n) fun y3 y4 => (some (⟨y3, y4⟩ : S_rational_number))))
set_option maxRecDepth 100000 in
theorem rational_number_with_rational_reduced_f1_con (p0 : S_rational_number) (p1 : S_rational_number) (r : S_rational_number) (h : rational_number_with_rational_reduced_f1 p0 p1 = some r) : Con Tryz.prog 106 [.agg [cl 1 Ru32 p0.n, ci64 p0.e], .agg [cl 1 Ru32 p1.n, ci64 p1.e], .c (.t (.v (.func (.func 108) #[] #[])))] [] (.agg [cl 1 Ru32 r.n, ci64 r.e]) [] := by
 refine con_of tt_ok0 0 Tryz.func106 (by kernel_rfl) rfl (by kernel_rfl) (fun base X _ => AW.post ?_)
 unfold rational_number_with_rational_reduced_f1 at h
 refine AW.sg tt_ok0 [(6, .c (.ptr 2 2 0 0)), (4, .c (.ptr 1 2 0 0)), (3, .c (.ptr 0 2 0 0))] [0, 1, 2] [(2, .box 114 [.t (.v (.slice none 0 0)), ci64 0]), (1, .box 114 [cl 1 Ru32 p1.n, ci64 p1.e]), (0, .box 114 [cl 1 Ru32 p0.n, ci64 p0.e])] 3 [] (by kernel_rfl) ?_
 refine AW.seq (AW.block ?_)
 refine AW.sg tt_ok0 [(9, vb (p0.e != 0))] [] [] 7 [] (by kernel_rfl) ?_
 refine AW.co h (by kernel_rfl) (fun c1 h => ?_) (fun c1 h => ?_)
 ·
  refine AW.sg tt_ok0 [] [2] [(2, .box 114 [cl 1 Ru32 p0.n, ci64 p0.e])] 9 [] (by kernel_rfl) ?_
  refine AW.ret (AW.inBlock_ret (AW.tr ?_))
  obtain rfl := some_inj h
  exact fn0 (.inr rfl) [] 0 (.agg [cl 1 Ru32 p0.n, ci64 p0.e]) (by kernel_rfl)
 ·
  refine AW.sg tt_ok0 [(14, vb (p1.e != 0))] [] [] 11 [] (by kernel_rfl) ?_
  refine AW.co h (by kernel_rfl) (fun c2 h => ?_) (fun c2 h => ?_)
  ·
   refine AW.sg tt_ok0 [] [2] [(2, .box 114 [cl 1 Ru32 p1.n, ci64 p1.e])] 13 [] (by kernel_rfl) ?_
   refine AW.ret (AW.inBlock_ret (AW.tr ?_))
   obtain rfl := some_inj h
   exact fn0 (.inr rfl) [] 0 (.agg [cl 1 Ru32 p1.n, ci64 p1.e]) (by kernel_rfl)
  ·
   refine AW.skip (AW.inBlock_normal (AW.tn ?_))
   obtain ⟨y3, y4, e5, h⟩ := bind2_some h
   refine AW.sg tt_ok0 [(8, vi64 y4), (7, vl 1 Ru32 y3)] [] [] 21 [hn, hn, hn, hn, hn, hk (rational_reduced_f1_con p0.n p1.n (y3, y4) e5)] (by kernel_rfl) ?_
   refine AW.sg tt_ok0 [] [2] [(2, .box 114 [cl 1 Ru32 y3, ci64 y4])] 25 [] (by kernel_rfl) ?_
   refine AW.ret ?_
   obtain rfl := some_inj h
   exact fn0 (.inr rfl) [] 0 (.agg [cl 1 Ru32 y3, ci64 y4]) (by kernel_rfl)
def ES_rational_number (x : S_rational_number) : List T := [.tree x.n.length 1 (Ru32 x.n), .v (.int .i64 x.e)]
def RS_rational_number (xs : List S_rational_number) : Nat → Nat → T := rowL dS_rational_number ES_rational_number xs
structure S_api_Rational where
 Num : List Int
 Den : List Int
def dS_api_Rational : S_api_Rational := ⟨([] : List Int), ([] : List Int)⟩
instance : Inhabited S_api_Rational := ⟨dS_api_Rational⟩
/-! recordlink/rational.reduced -/
noncomputable def rational_reduced_l1 (y3 : S_rational_number) (y5 : S_rational_number) (x8 : Int) : Option (Int ⊕ (Unit ⊕ Int)) := if (decide (x8 < ((([y3, y5] : List S_rational_number).length : Nat) : Int))) = true then (if 0 ≤ x8 then (if x8 < ((([y3, y5] : List S_rational_number).length : Nat) : Int) then (if (((([y3, y5] : List S_rational_number).getD (0 + x8.toNat) dS_rational_number).e) != 0) = true then (some (.inr (.inr ((([y3, y5] : List S_rational_number).getD (0 + x8.toNat) dS_rational_number).e)))) else (some (.inl (i64.wrap (x8 + 1))))) else none) else none) else (some (.inr (.inl ())))
noncomputable def rational_reduced_a2 (y3 : S_rational_number) (y5 : S_rational_number) : Option (S_api_Rational × Int) := some ((⟨y3.n, y5.n⟩ : S_api_Rational), 0)
noncomputable def rational_reduced_a3 (x14 : Int) : Option (S_api_Rational × Int) := some ((⟨([] : List Int), ([] : List Int)⟩ : S_api_Rational), x14)
noncomputable def rational_reduced (p0 : S_rational_number) (p1 : S_rational_number) : Option (S_api_Rational × Int) := (rational_number_with_natural_GCD p0 p1).bind fun y1 => ((rational_number_with_rational_reduced_f1 p0 y1).bind fun y3 => ((rational_number_with_rational_reduced_f1 p1 y1).bind fun y5 => (bindE (loop (fun v : Int => rational_reduced_l1 y3 y5 v) 0) (fun t => rational_reduced_a2 y3 y5) (fun t => rational_reduced_a3 t))))
set_option maxRecDepth 100000 in
theorem rational_reduced_con (p0 : S_rational_number) (p1 : S_rational_number) (r : S_api_Rational × Int) (h : rational_reduced p0 p1 = some r) : Con Tryz.prog 79 [.agg [cl 1 Ru32 p0.n, ci64 p0.e], .agg [cl 1 Ru32 p1.n, ci64 p1.e]] [] (.tup [.agg [cl 1 Ru32 r.1.Num, cl 1 Ru32 r.1.Den], vi64 r.2]) [] := by
 refine con_of tt_ok0 0 Tryz.func79 (by kernel_rfl) rfl (by kernel_rfl) (fun base X _ => AW.post ?_)
 unfold rational_reduced at h
 refine AW.sg tt_ok0 [(4, .c (.ptr 2 2 0 0)), (3, .c (.ptr 1 2 0 0)), (2, .c (.ptr 0 2 0 0))] [0, 1, 2] [(2, .box 44 [.t (.v (.slice none 0 0)), .t (.v (.slice none 0 0))]), (1, .box 114 [cl 1 Ru32 p1.n, ci64 p1.e]), (0, .box 114 [cl 1 Ru32 p0.n, ci64 p0.e])] 4 [] (by kernel_rfl) ?_
 obtain ⟨y1, e2, h⟩ := bnd_some h
 refine AW.sg tt_ok0 [(6, .c (.ptr 6 2 0 0))] [6] [(6, .box 114 [cl 1 Ru32 y1.n, ci64 y1.e])] 8 [hn, hn, hk (rational_number_with_natural_GCD_con p0 p1 y1 e2)] (by kernel_rfl) ?_
 refine AW.sg tt_ok0 [(7, .c (.t (.v (.func (.func 108) #[] #[]))))] [] [] 9 [] (by kernel_rfl) ?_
 obtain ⟨y3, e4, h⟩ := bnd_some h
 obtain ⟨y5, e6, h⟩ := bnd_some h
 refine AW.sd tt_ok0 mo0 [[], [], [], [], [], [], [], [], [15], [16], [15], [16]] [(9, .c (.ptr 16 2 0 0)), (8, .c (.ptr 15 2 0 0))] [(16, .box 114 [cl 1 Ru32 y5.n, ci64 y5.e]), (15, .box 114 [cl 1 Ru32 y3.n, ci64 y3.e])] 19 [hn, hn, hn, hk (rational_number_with_rational_reduced_f1_con p0 y1 y3 e4), hn, hn, hn, hk (rational_number_with_rational_reduced_f1_con p1 y1 y5 e6)] (by kernel_rfl) ?_
 refine AW.seq ?_
 refine AW.sg tt_ok0 [(27, vi64 0), (26, vi64 ((([y3, y5] : List S_rational_number).length : Nat) : Int)), (25, .c (.ref 21 2 0 (([y3, y5] : List S_rational_number).length)))] [21] [(21, .row 114 false 2 ([y3, y5] : List S_rational_number).length (RS_rational_number ([y3, y5] : List S_rational_number)))] 24 [hn, hn, hlit dS_rational_number ES_rational_number 2 (fun _ => rfl) ([y3, y5] : List S_rational_number)] (by kernel_rfl) ?_
 refine AW.block ?_
 refine AW.lpE h (fun v => ⟨[(4, .c (.ptr 0 2 0 0)), (8, .c (.ptr 1 2 0 0)), (9, .c (.ptr 2 2 0 0)), (25, .c (.ref 3 2 0 (([y3, y5] : List S_rational_number).length))), (26, vi64 ((([y3, y5] : List S_rational_number).length : Nat) : Int)), (27, vi64 v)], [(0, .box 44 [.t (.v (.slice none 0 0)), .t (.v (.slice none 0 0))]), (1, .box 114 [cl 1 Ru32 y3.n, ci64 y3.e]), (2, .box 114 [cl 1 Ru32 y5.n, ci64 y5.e]), (3, .row 114 false 2 ([y3, y5] : List S_rational_number).length (RS_rational_number ([y3, y5] : List S_rational_number)))], 4⟩) (fun t => (.exit 0, ⟨[(4, .c (.ptr 0 2 0 0)), (8, .c (.ptr 1 2 0 0)), (9, .c (.ptr 2 2 0 0))], [(0, .box 44 [.t (.v (.slice none 0 0)), .t (.v (.slice none 0 0))]), (1, .box 114 [cl 1 Ru32 y3.n, ci64 y3.e]), (2, .box 114 [cl 1 Ru32 y5.n, ci64 y5.e])], 3⟩)) (fun t => (.ret, ⟨[(4, .c (.ptr 0 2 0 0)), (5, vi64 t)], [(0, .box 44 [.t (.v (.slice none 0 0)), .t (.v (.slice none 0 0))])], 1⟩)) (conv_re [(0, 2), (1, 15), (2, 16), (3, 21)] (by kernel_rfl)) (fun _ => tv) (fun _ => tv) ?_ (fun t h => ?_) (fun x14 h => ?_)
 ·
  clear h
  intro x8 o h
  unfold rational_reduced_l1 at h
  refine AW.sg tt_ok0 [(28, vb (decide (x8 < ((([y3, y5] : List S_rational_number).length : Nat) : Int))))] [] [] 5 [] (by kernel_rfl) ?_
  refine AW.seq ?_
  refine AW.co h (by kernel_rfl) (fun c10 h => ?_) (fun c10 h => ?_)
  ·
   refine AW.skip (AW.tn ?_)
   refine AW.seq (AW.block ?_)
   obtain ⟨g11, g12, h⟩ := ifd h
   refine AW.sg tt_ok0 [(11, .c (.ptr 7 2 0 0))] [7] [(7, .box 114 [cl 1 Ru32 ((([y3, y5] : List S_rational_number).getD (0 + x8.toNat) dS_rational_number).n), ci64 ((([y3, y5] : List S_rational_number).getD (0 + x8.toNat) dS_rational_number).e)])] 9 [hq g11 g12, ho (p := (0 + x8.toNat) < ([y3, y5] : List S_rational_number).length) (by have h1 : 0 ≤ x8 := g11; have h2 : x8 < ((([y3, y5] : List S_rational_number).length : Nat) : Int) := g12; omega)] (by kernel_rfl) ?_
   refine AW.sg tt_ok0 [(33, vb (((([y3, y5] : List S_rational_number).getD (0 + x8.toNat) dS_rational_number).e) != 0))] [] [] 12 [] (by kernel_rfl) ?_
   refine AW.co h (by kernel_rfl) (fun c13 h => ?_) (fun c13 h => ?_)
   ·
    refine AW.sd tt_ok0 mo0 [[], [], [], [0]] [(5, vi64 ((([y3, y5] : List S_rational_number).getD (0 + x8.toNat) dS_rational_number).e))] [(0, .box 44 [.t (.v (.slice none 0 0)), .t (.v (.slice none 0 0))])] 17 [] (by kernel_rfl) ?_
    refine AW.ret (AW.inBlock_ret (AW.tr ?_))
    exact lpo h rfl (conv_re [(0, 0)] (by kernel_rfl))
   ·
    refine AW.skip (AW.inBlock_normal (AW.tn ?_))
    refine AW.rg tt_ok0 [(27, vi64 (i64.wrap (x8 + 1)))] [] [] 14 [] (by kernel_rfl) ?_
    exact lpn h (conv_re [(0, 0), (1, 1), (2, 2), (3, 3)] (by kernel_rfl))
  ·
   refine AW.exit (AW.thenQ_exit ?_)
   exact lpo h rfl (conv_re [(0, 0), (1, 1), (2, 2)] (by kernel_rfl))
 ·
  replace h : rational_reduced_a2 y3 y5 = some r := h
  unfold rational_reduced_a2 at h
  show (_ : Exit → St → Prop) (.exit 0) _
  refine AW.inBlock_hit (AW.tn ?_)
  refine AW.sg tt_ok0 [(5, vi64 0)] [0] [(0, .box 44 [cl 1 Ru32 y3.n, cl 1 Ru32 y5.n])] 10 [] (by kernel_rfl) ?_
  refine AW.ret ?_
  obtain rfl := some_inj h
  exact fn0 (.inr rfl) [] 0 (.tup [.agg [cl 1 Ru32 y3.n, cl 1 Ru32 y5.n], vi64 0]) (by kernel_rfl)
 ·
  unfold rational_reduced_a3 at h
  show (_ : Exit → St → Prop) (.ret) _
  refine AW.inBlock_ret (AW.tr ?_)
  obtain rfl := some_inj h
  exact fnR (.inr rfl) [] 0 (.tup [.agg [cl 1 Ru32 ([] : List Int), cl 1 Ru32 ([] : List Int)], vi64 x14]) (conv_box (id := 0) (ty := 44) (cs := [.t (.v (.slice none 0 0)), .t (.v (.slice none 0 0))]) (ds := [cl 1 Ru32 ([] : List Int), cl 1 Ru32 ([] : List Int)]) (by kernel_rfl) ⟨CLe.nil rfl, CLe.nil rfl, tv⟩) (by kernel_rfl)
/-! recordlink/rational.Make -/
noncomputable def rational_Make_k1 (p0 : List Int) (p1 : List Int) (x1 : Bool) : Option (S_api_Rational × Int) := if x1 = true then (some ((⟨([] : List Int), ([] : List Int)⟩ : S_api_Rational), 20)) else (if ((p1.length : Int) == 0) = true then (some ((⟨([] : List Int), ([] : List Int)⟩ : S_api_Rational), 9)) else ((rational_of p0).bind fun y4 => ((rational_of p1).bind fun y6 => (bind2 (rational_reduced y4 y6) fun y8 y9 => (some (y8, y9))))))
noncomputable def rational_Make (p0 : List Int) (p1 : List Int) : Option (S_api_Rational × Int) := (natural_Valid p0).bind fun y11 => (if (!y11) = true then (rational_Make_k1 p0 p1 true) else ((natural_Valid p1).bind fun y14 => (rational_Make_k1 p0 p1 (!y14))))
set_option maxRecDepth 100000 in
theorem rational_Make_con (p0 : List Int) (p1 : List Int) (r : S_api_Rational × Int) (h : rational_Make p0 p1 = some r) : Con Tryz.prog 51 [vl 1 Ru32 p0, vl 1 Ru32 p1] [] (.tup [.agg [cl 1 Ru32 r.1.Num, cl 1 Ru32 r.1.Den], vi64 r.2]) [] := by
 refine con_of tt_ok0 0 Tryz.func51 (by kernel_rfl) rfl (by kernel_rfl) (fun base X _ => AW.post ?_)
 unfold rational_Make at h
 refine AW.sg tt_ok0 [(4, .c (.ptr 0 2 0 0))] [0] [(0, .box 44 [.t (.v (.slice none 0 0)), .t (.v (.slice none 0 0))])] 2 [] (by kernel_rfl) ?_
 refine AW.seq (AW.block (AW.seq ?_))
 refine AW.join (ι := Bool) (fun v => ⟨[(0, vl 1 Ru32 p0), (1, vl 1 Ru32 p1), (4, .c (.ptr 0 2 0 0)), (6, vb v)], [(0, .box 44 [.t (.v (.slice none 0 0)), .t (.v (.slice none 0 0))])], 1⟩) (fun v : Bool => rational_Make_k1 p0 p1 v = some r) (fun x1 h => ?_) ?_
 ·
  unfold rational_Make_k1 at h
  refine AW.tn ?_
  refine AW.co h (by kernel_rfl) (fun c2 h => ?_) (fun c2 h => ?_)
  ·
   refine AW.sg tt_ok0 [(5, vi64 20)] [0] [(0, .box 44 [.t (.v (.slice none 0 0)), .t (.v (.slice none 0 0))])] 4 [] (by kernel_rfl) ?_
   refine AW.ret (AW.inBlock_ret (AW.tr ?_))
   obtain rfl := some_inj h
   exact fnR (.inr rfl) [] 0 (.tup [.agg [cl 1 Ru32 ([] : List Int), cl 1 Ru32 ([] : List Int)], vi64 20]) (conv_box (id := 0) (ty := 44) (cs := [.t (.v (.slice none 0 0)), .t (.v (.slice none 0 0))]) (ds := [cl 1 Ru32 ([] : List Int), cl 1 Ru32 ([] : List Int)]) (by kernel_rfl) ⟨CLe.nil rfl, CLe.nil rfl, tv⟩) (by kernel_rfl)
  ·
   refine AW.sg tt_ok0 [(16, vb ((p1.length : Int) == 0))] [] [] 5 [] (by kernel_rfl) ?_
   refine AW.co h (by kernel_rfl) (fun c3 h => ?_) (fun c3 h => ?_)
   ·
    refine AW.sg tt_ok0 [(5, vi64 9)] [0] [(0, .box 44 [.t (.v (.slice none 0 0)), .t (.v (.slice none 0 0))])] 8 [] (by kernel_rfl) ?_
    refine AW.ret (AW.inBlock_ret (AW.tr ?_))
    obtain rfl := some_inj h
    exact fnR (.inr rfl) [] 0 (.tup [.agg [cl 1 Ru32 ([] : List Int), cl 1 Ru32 ([] : List Int)], vi64 9]) (conv_box (id := 0) (ty := 44) (cs := [.t (.v (.slice none 0 0)), .t (.v (.slice none 0 0))]) (ds := [cl 1 Ru32 ([] : List Int), cl 1 Ru32 ([] : List Int)]) (by kernel_rfl) ⟨CLe.nil rfl, CLe.nil rfl, tv⟩) (by kernel_rfl)
   ·
    refine AW.skip (AW.inBlock_normal (AW.tn ?_))
    obtain ⟨y4, e5, h⟩ := bnd_some h
    obtain ⟨y6, e7, h⟩ := bnd_some h
    obtain ⟨y8, y9, e10, h⟩ := bind2_some h
    refine AW.sg tt_ok0 [(5, vi64 y9)] [0] [(0, .box 44 [cl 1 Ru32 y8.Num, cl 1 Ru32 y8.Den])] 11 [hn, hk (rational_of_con p0 y4 e5), hn, hk (rational_of_con p1 y6 e7), hk (rational_reduced_con y4 y6 (y8, y9) e10)] (by kernel_rfl) ?_
    refine AW.ret ?_
    obtain rfl := some_inj h
    exact fn0 (.inr rfl) [] 0 (.tup [.agg [cl 1 Ru32 y8.Num, cl 1 Ru32 y8.Den], vi64 y9]) (by kernel_rfl)
 ·
  obtain ⟨y11, e12, h⟩ := bnd_some h
  rcases ifs h with ⟨c13, h⟩ | ⟨c13, h⟩
  ·
   refine AW.rg tt_ok0 [(6, vb true)] [] [] 10 [hn, hk (natural_Valid_con p0 y11 e12), ht c13] (by kernel_rfl) ?_
   exact jl true h (conv_re [(0, 0)] (by kernel_rfl))
  ·
   obtain ⟨y14, e15, h⟩ := bnd_some h
   refine AW.rg tt_ok0 [(6, vb (!y14))] [] [] 9 [hn, hk (natural_Valid_con p0 y11 e12), hf c13, hn, hn, hk (natural_Valid_con p1 y14 e15)] (by kernel_rfl) ?_
   exact jl (!y14) h (conv_re [(0, 0)] (by kernel_rfl))
/-! recordlink/em.Posterior -/
noncomputable def em_Posterior (p0 : S_em_model) (p1 : Int) : Option (S_api_Rational × Int) := (em_Check p0).bind fun y1 => (if (y1 != 0) = true then (some ((⟨([] : List Int), ([] : List Int)⟩ : S_api_Rational), y1)) else (bind2 (similarity_Digits p1 ((p0.Match.length : Nat) : Int)) fun y4 y5 => (if (y5 != 0) = true then (some ((⟨([] : List Int), ([] : List Int)⟩ : S_api_Rational), y5)) else ((em_weight p0.Prior p0.Match y4).bind fun y8 => ((em_weight (i64.wrap (65536 - p0.Prior)) p0.Random y4).bind fun y10 => (bind2 (natural_Add y8 y10) fun y12 y13 => (if (y13 != 0) = true then (some ((⟨([] : List Int), ([] : List Int)⟩ : S_api_Rational), y13)) else (bind2 (rational_Make y8 y12) fun y16 y17 => (some (y16, y17))))))))))
set_option maxRecDepth 100000 in
theorem em_Posterior_con (p0 : S_em_model) (p1 : Int) (r : S_api_Rational × Int) (h : em_Posterior p0 p1 = some r) : Con Tryz.prog 25 [.agg [ci64 p0.Prior, cl 1 Ri64 p0.Match, cl 1 Ri64 p0.Random], vi64 p1] [] (.tup [.agg [cl 1 Ru32 r.1.Num, cl 1 Ru32 r.1.Den], vi64 r.2]) [] := by
 refine con_of tt_ok0 0 Tryz.func25 (by kernel_rfl) rfl (by kernel_rfl) (fun base X _ => AW.post ?_)
 unfold em_Posterior at h
 refine AW.sg tt_ok0 [(4, .c (.ptr 1 2 0 0)), (2, .c (.ptr 0 3 0 0))] [0, 1] [(1, .box 44 [.t (.v (.slice none 0 0)), .t (.v (.slice none 0 0))]), (0, .box 24 [ci64 p0.Prior, cl 1 Ri64 p0.Match, cl 1 Ri64 p0.Random])] 3 [] (by kernel_rfl) ?_
 refine AW.seq ?_
 obtain ⟨y1, e2, h⟩ := bnd_some h
 refine AW.sg tt_ok0 [(6, vi64 y1)] [] [] 5 [hn, hk (em_Check_con p0 y1 e2)] (by kernel_rfl) ?_
 refine AW.sg tt_ok0 [(15, vb (y1 != 0))] [] [] 7 [] (by kernel_rfl) ?_
 refine AW.co h (by kernel_rfl) (fun c3 h => ?_) (fun c3 h => ?_)
 ·
  refine AW.sg tt_ok0 [(5, vi64 y1)] [1] [(1, .box 44 [.t (.v (.slice none 0 0)), .t (.v (.slice none 0 0))])] 11 [] (by kernel_rfl) ?_
  refine AW.ret (AW.tr ?_)
  obtain rfl := some_inj h
  exact fnR (.inr rfl) [] 0 (.tup [.agg [cl 1 Ru32 ([] : List Int), cl 1 Ru32 ([] : List Int)], vi64 y1]) (conv_box (id := 1) (ty := 44) (cs := [.t (.v (.slice none 0 0)), .t (.v (.slice none 0 0))]) (ds := [cl 1 Ru32 ([] : List Int), cl 1 Ru32 ([] : List Int)]) (by kernel_rfl) ⟨CLe.nil rfl, CLe.nil rfl, tv⟩) (by kernel_rfl)
 ·
  refine AW.skip (AW.tn ?_)
  obtain ⟨y4, y5, e6, h⟩ := bind2_some h
  refine AW.sg tt_ok0 [(8, vi64 y5), (7, .c (.ref 11 1 0 y4.length))] [11] [(11, .row 3 false 1 y4.length (Ri64 y4))] 17 [hn, hn, hn, hn, hm [] [] 1 (similarity_Digits_con p1 ((p0.Match.length : Nat) : Int) (y4, y5) e6) ⟨rowL_flat Vi64 _ _ _, tv⟩] (by kernel_rfl) ?_
  refine AW.seq ?_
  refine AW.sg tt_ok0 [(27, vb (y5 != 0))] [] [] 19 [] (by kernel_rfl) ?_
  refine AW.co h (by kernel_rfl) (fun c7 h => ?_) (fun c7 h => ?_)
  ·
   refine AW.sg tt_ok0 [(5, vi64 y5)] [1] [(1, .box 44 [.t (.v (.slice none 0 0)), .t (.v (.slice none 0 0))])] 23 [] (by kernel_rfl) ?_
   refine AW.ret (AW.tr ?_)
   obtain rfl := some_inj h
   exact fnR (.inr rfl) [] 0 (.tup [.agg [cl 1 Ru32 ([] : List Int), cl 1 Ru32 ([] : List Int)], vi64 y5]) (conv_box (id := 1) (ty := 44) (cs := [.t (.v (.slice none 0 0)), .t (.v (.slice none 0 0))]) (ds := [cl 1 Ru32 ([] : List Int), cl 1 Ru32 ([] : List Int)]) (by kernel_rfl) ⟨CLe.nil rfl, CLe.nil rfl, tv⟩) (by kernel_rfl)
  ·
   refine AW.skip (AW.tn ?_)
   obtain ⟨y8, e9, h⟩ := bnd_some h
   obtain ⟨y10, e11, h⟩ := bnd_some h
   refine AW.sd tt_ok0 mo0 [[], [], [], [], [], [11]] [(10, vl 1 Ru32 y10), (9, vl 1 Ru32 y8)] [] 32 [hn, hn, hn, hn, hn, hg [] [11] false 0 (q := (True) ∧ (True) ∧ (0 + y4.length ≤ y4.length) ∧ (True)) ⟨tv, tv, le0, tv⟩ (a0 := [vi64 p0.Prior, vl 1 Ri64 p0.Match, vl 1 Ri64 y4]) (em_weight_con p0.Prior p0.Match y4 y8 e9) ⟨ArgLe.refl _, ArgLe.refl _, ArgLe.refl _, tv⟩ (fun h => by cases h), hn, hn, hn, hn, hn, hn, hg [] [] false 0 (q := (True) ∧ (True) ∧ (0 + y4.length ≤ y4.length) ∧ (True)) ⟨tv, tv, le0, tv⟩ (a0 := [vi64 (i64.wrap (65536 - p0.Prior)), vl 1 Ri64 p0.Random, vl 1 Ri64 y4]) (em_weight_con (i64.wrap (65536 - p0.Prior)) p0.Random y4 y10 e11) ⟨ArgLe.refl _, ArgLe.refl _, ArgLe.refl _, tv⟩ (fun h => by cases h)] (by kernel_rfl) ?_
   obtain ⟨y12, y13, e14, h⟩ := bind2_some h
   refine AW.sg tt_ok0 [(8, vi64 y13), (11, vl 1 Ru32 y12)] [] [] 39 [hn, hn, hk (natural_Add_con y8 y10 (y12, y13) e14)] (by kernel_rfl) ?_
   refine AW.seq ?_
   refine AW.sg tt_ok0 [(50, vb (y13 != 0))] [] [] 41 [] (by kernel_rfl) ?_
   refine AW.co h (by kernel_rfl) (fun c15 h => ?_) (fun c15 h => ?_)
   ·
    refine AW.sg tt_ok0 [(5, vi64 y13)] [1] [(1, .box 44 [.t (.v (.slice none 0 0)), .t (.v (.slice none 0 0))])] 45 [] (by kernel_rfl) ?_
    refine AW.ret (AW.tr ?_)
    obtain rfl := some_inj h
    exact fnR (.inr rfl) [] 0 (.tup [.agg [cl 1 Ru32 ([] : List Int), cl 1 Ru32 ([] : List Int)], vi64 y13]) (conv_box (id := 1) (ty := 44) (cs := [.t (.v (.slice none 0 0)), .t (.v (.slice none 0 0))]) (ds := [cl 1 Ru32 ([] : List Int), cl 1 Ru32 ([] : List Int)]) (by kernel_rfl) ⟨CLe.nil rfl, CLe.nil rfl, tv⟩) (by kernel_rfl)
   ·
    refine AW.skip (AW.tn ?_)
    obtain ⟨y16, y17, e18, h⟩ := bind2_some h
    refine AW.sg tt_ok0 [(5, vi64 y17)] [1] [(1, .box 44 [cl 1 Ru32 y16.Num, cl 1 Ru32 y16.Den])] 47 [hn, hn, hk (rational_Make_con y8 y12 (y16, y17) e18)] (by kernel_rfl) ?_
    refine AW.ret ?_
    obtain rfl := some_inj h
    exact fn0 (.inr rfl) [] 0 (.tup [.agg [cl 1 Ru32 y16.Num, cl 1 Ru32 y16.Den], vi64 y17]) (by kernel_rfl)
/-! recordlink/rational.Valid -/
noncomputable def rational_Valid_k1 (x7 : Bool) : Option Bool := some x7
noncomputable def rational_Valid (p0 : S_api_Rational) : Option Bool := bind2 (natural_GCD p0.Num p0.Den) fun y1 y2 => (bind2 (natural_FromInt 1) fun y4 y5 => (if (y2 == 0) = true then (if (decide (((p0.Den.length : Nat) : Int) > 0)) = true then ((natural_Compare y1 y4).bind fun y10 => (rational_Valid_k1 (y10 == 0))) else (rational_Valid_k1 false)) else (rational_Valid_k1 false)))
set_option maxRecDepth 100000 in
theorem rational_Valid_con (p0 : S_api_Rational) (r : Bool) (h : rational_Valid p0 = some r) : Con Tryz.prog 89 [.agg [cl 1 Ru32 p0.Num, cl 1 Ru32 p0.Den]] [] (vb r) [] := by
 refine con_of tt_ok0 0 Tryz.func89 (by kernel_rfl) rfl (by kernel_rfl) (fun base X _ => AW.post ?_)
 unfold rational_Valid at h
 refine AW.sg tt_ok0 [(1, .c (.ptr 0 2 0 0))] [0] [(0, .box 44 [cl 1 Ru32 p0.Num, cl 1 Ru32 p0.Den])] 2 [] (by kernel_rfl) ?_
 obtain ⟨y1, y2, e3, h⟩ := bind2_some h
 refine AW.sg tt_ok0 [(4, vi64 y2), (3, .c (.ref 6 1 0 y1.length))] [6] [(6, .row 72 false 1 y1.length (Ru32 y1))] 12 [hn, hn, hn, hn, hm [] [] 1 (natural_GCD_con p0.Num p0.Den (y1, y2) e3) ⟨rowL_flat Vu32 _ _ _, tv⟩] (by kernel_rfl) ?_
 obtain ⟨y4, y5, e6, h⟩ := bind2_some h
 refine AW.sg tt_ok0 [(5, vl 1 Ru32 y4)] [] [] 17 [hk (natural_FromInt_con 1 (y4, y5) e6)] (by kernel_rfl) ?_
 refine AW.seq ?_
 refine AW.join (ι := Bool) (fun v => ⟨[(2, vb v)], [], 0⟩) (fun v : Bool => rational_Valid_k1 v = some r) (fun x7 h => ?_) ?_
 ·
  unfold rational_Valid_k1 at h
  refine AW.tn (AW.ret ?_)
  obtain rfl := some_inj h
  exact fn0 (.inr rfl) [] 0 (vb x7) (by kernel_rfl)
 ·
  rcases ifs h with ⟨c8, h⟩ | ⟨c8, h⟩
  ·
   rcases ifs h with ⟨c9, h⟩ | ⟨c9, h⟩
   ·
    obtain ⟨y10, e11, h⟩ := bnd_some h
    refine AW.rg tt_ok0 [(2, vb (y10 == 0))] [] [] 31 [hn, ht c8, hn, hn, hn, hn, ht c9, hn, hn, hn, hn, hg [] [] true 0 (q := (0 + y1.length ≤ y1.length) ∧ (True) ∧ (True)) ⟨le0, tv, tv⟩ (a0 := [vl 1 Ru32 y1, vl 1 Ru32 y4]) (natural_Compare_con y1 y4 y10 e11) ⟨ArgLe.refl _, ArgLe.refl _, tv⟩ (fun _ => tv)] (by kernel_rfl) ?_
    exact jl (y10 == 0) h (conv_re [] (by kernel_rfl))
   ·
    refine AW.rg tt_ok0 [(2, vb false)] [] [] 32 [hn, ht c8, hn, hn, hn, hn, hf c9] (by kernel_rfl) ?_
    exact jl false h (conv_re [] (by kernel_rfl))
  ·
   refine AW.rg tt_ok0 [(2, vb false)] [] [] 32 [hn, hf c8] (by kernel_rfl) ?_
   exact jl false h (conv_re [] (by kernel_rfl))
/-! recordlink/rational.small -/
noncomputable def rational_small (p0 : Int) : Option S_rational_number := bind2 (natural_FromInt p0) fun y1 y2 => (some (⟨y1, y2⟩ : S_rational_number))
set_option maxRecDepth 100000 in
theorem rational_small_con (p0 : Int) (r : S_rational_number) (h : rational_small p0 = some r) : Con Tryz.prog 91 [vi64 p0] [] (.agg [cl 1 Ru32 r.n, ci64 r.e]) [] := by
 refine con_of tt_ok0 0 Tryz.func91 (by kernel_rfl) rfl (by kernel_rfl) (fun base X _ => AW.post ?_)
 unfold rational_small at h
 refine AW.sg tt_ok0 [(2, .c (.ptr 0 2 0 0))] [0] [(0, .box 114 [.t (.v (.slice none 0 0)), ci64 0])] 1 [] (by kernel_rfl) ?_
 obtain ⟨y1, y2, e3, h⟩ := bind2_some h
 refine AW.sg tt_ok0 [(4, vi64 y2), (3, vl 1 Ru32 y1)] [] [] 7 [hn, hk (natural_FromInt_con p0 (y1, y2) e3)] (by kernel_rfl) ?_
 refine AW.sg tt_ok0 [] [0] [(0, .box 114 [cl 1 Ru32 y1, ci64 y2])] 11 [] (by kernel_rfl) ?_
 refine AW.ret ?_
 obtain rfl := some_inj h
 exact fn0 (.inr rfl) [] 0 (.agg [cl 1 Ru32 y1, ci64 y2]) (by kernel_rfl)
/-! (recordlink/rational.number).with -/
noncomputable def rational_number_with_natural_Mul (p0 : S_rational_number) (p1 : S_rational_number) : Option S_rational_number := if (p0.e != 0) = true then (some p0) else (if (p1.e != 0) = true then (some p1) else (bind2 (natural_Mul p0.n p1.n) fun y3 y4 => (some (⟨y3, y4⟩ : S_rational_number))))
set_option maxRecDepth 100000 in
theorem rational_number_with_natural_Mul_con (p0 : S_rational_number) (p1 : S_rational_number) (r : S_rational_number) (h : rational_number_with_natural_Mul p0 p1 = some r) : Con Tryz.prog 106 [.agg [cl 1 Ru32 p0.n, ci64 p0.e], .agg [cl 1 Ru32 p1.n, ci64 p1.e], .c (.t (.v (.func (.func 75) #[] #[])))] [] (.agg [cl 1 Ru32 r.n, ci64 r.e]) [] := by
 refine con_of tt_ok0 0 Tryz.func106 (by kernel_rfl) rfl (by kernel_rfl) (fun base X _ => AW.post ?_)
 unfold rational_number_with_natural_Mul at h
 refine AW.sg tt_ok0 [(6, .c (.ptr 2 2 0 0)), (4, .c (.ptr 1 2 0 0)), (3, .c (.ptr 0 2 0 0))] [0, 1, 2] [(2, .box 114 [.t (.v (.slice none 0 0)), ci64 0]), (1, .box 114 [cl 1 Ru32 p1.n, ci64 p1.e]), (0, .box 114 [cl 1 Ru32 p0.n, ci64 p0.e])] 3 [] (by kernel_rfl) ?_
 refine AW.seq (AW.block ?_)
 refine AW.sg tt_ok0 [(9, vb (p0.e != 0))] [] [] 7 [] (by kernel_rfl) ?_
 refine AW.co h (by kernel_rfl) (fun c1 h => ?_) (fun c1 h => ?_)
 ·
  refine AW.sg tt_ok0 [] [2] [(2, .box 114 [cl 1 Ru32 p0.n, ci64 p0.e])] 9 [] (by kernel_rfl) ?_
  refine AW.ret (AW.inBlock_ret (AW.tr ?_))
  obtain rfl := some_inj h
  exact fn0 (.inr rfl) [] 0 (.agg [cl 1 Ru32 p0.n, ci64 p0.e]) (by kernel_rfl)
 ·
  refine AW.sg tt_ok0 [(14, vb (p1.e != 0))] [] [] 11 [] (by kernel_rfl) ?_
  refine AW.co h (by kernel_rfl) (fun c2 h => ?_) (fun c2 h => ?_)
  ·
   refine AW.sg tt_ok0 [] [2] [(2, .box 114 [cl 1 Ru32 p1.n, ci64 p1.e])] 13 [] (by kernel_rfl) ?_
   refine AW.ret (AW.inBlock_ret (AW.tr ?_))
   obtain rfl := some_inj h
   exact fn0 (.inr rfl) [] 0 (.agg [cl 1 Ru32 p1.n, ci64 p1.e]) (by kernel_rfl)
  ·
   refine AW.skip (AW.inBlock_normal (AW.tn ?_))
   obtain ⟨y3, y4, e5, h⟩ := bind2_some h
   refine AW.sg tt_ok0 [(8, vi64 y4), (7, vl 1 Ru32 y3)] [] [] 21 [hn, hn, hn, hn, hn, hk (natural_Mul_con p0.n p1.n (y3, y4) e5)] (by kernel_rfl) ?_
   refine AW.sg tt_ok0 [] [2] [(2, .box 114 [cl 1 Ru32 y3, ci64 y4])] 25 [] (by kernel_rfl) ?_
   refine AW.ret ?_
   obtain rfl := some_inj h
   exact fn0 (.inr rfl) [] 0 (.agg [cl 1 Ru32 y3, ci64 y4]) (by kernel_rfl)
/-! (recordlink/rational.number).times -/
noncomputable def rational_number_times (p0 : S_rational_number) (p1 : S_rational_number) : Option S_rational_number := (rational_number_with_natural_Mul p0 p1).bind fun y1 => (some y1)
set_option maxRecDepth 100000 in
theorem rational_number_times_con (p0 : S_rational_number) (p1 : S_rational_number) (r : S_rational_number) (h : rational_number_times p0 p1 = some r) : Con Tryz.prog 90 [.agg [cl 1 Ru32 p0.n, ci64 p0.e], .agg [cl 1 Ru32 p1.n, ci64 p1.e]] [] (.agg [cl 1 Ru32 r.n, ci64 r.e]) [] := by
 refine con_of tt_ok0 0 Tryz.func90 (by kernel_rfl) rfl (by kernel_rfl) (fun base X _ => AW.post ?_)
 unfold rational_number_times at h
 refine AW.sg tt_ok0 [(4, .c (.ptr 2 2 0 0)), (3, .c (.ptr 1 2 0 0)), (2, .c (.ptr 0 2 0 0))] [0, 1, 2] [(2, .box 114 [.t (.v (.slice none 0 0)), ci64 0]), (1, .box 114 [cl 1 Ru32 p1.n, ci64 p1.e]), (0, .box 114 [cl 1 Ru32 p0.n, ci64 p0.e])] 3 [] (by kernel_rfl) ?_
 obtain ⟨y1, e2, h⟩ := bnd_some h
 refine AW.sg tt_ok0 [] [2] [(2, .box 114 [cl 1 Ru32 y1.n, ci64 y1.e])] 6 [hn, hn, hk (rational_number_with_natural_Mul_con p0 p1 y1 e2)] (by kernel_rfl) ?_
 refine AW.ret ?_
 obtain rfl := some_inj h
 exact fn0 (.inr rfl) [] 0 (.agg [cl 1 Ru32 y1.n, ci64 y1.e]) (by kernel_rfl)
/-! (recordlink/rational.number).with -/
noncomputable def rational_number_with_natural_Add (p0 : S_rational_number) (p1 : S_rational_number) : Option S_rational_number := if (p0.e != 0) = true then (some p0) else (if (p1.e != 0) = true then (some p1) else (bind2 (natural_Add p0.n p1.n) fun y3 y4 => (some (⟨y3, y4⟩ : S_rational_number))))
set_option maxRecDepth 100000 in
theorem rational_number_with_natural_Add_con (p0 : S_rational_number) (p1 : S_rational_number) (r : S_rational_number) (h : rational_number_with_natural_Add p0 p1 = some r) : Con Tryz.prog 106 [.agg [cl 1 Ru32 p0.n, ci64 p0.e], .agg [cl 1 Ru32 p1.n, ci64 p1.e], .c (.t (.v (.func (.func 50) #[] #[])))] [] (.agg [cl 1 Ru32 r.n, ci64 r.e]) [] := by
 refine con_of tt_ok0 0 Tryz.func106 (by kernel_rfl) rfl (by kernel_rfl) (fun base X _ => AW.post ?_)
 unfold rational_number_with_natural_Add at h
 refine AW.sg tt_ok0 [(6, .c (.ptr 2 2 0 0)), (4, .c (.ptr 1 2 0 0)), (3, .c (.ptr 0 2 0 0))] [0, 1, 2] [(2, .box 114 [.t (.v (.slice none 0 0)), ci64 0]), (1, .box 114 [cl 1 Ru32 p1.n, ci64 p1.e]), (0, .box 114 [cl 1 Ru32 p0.n, ci64 p0.e])] 3 [] (by kernel_rfl) ?_
 refine AW.seq (AW.block ?_)
 refine AW.sg tt_ok0 [(9, vb (p0.e != 0))] [] [] 7 [] (by kernel_rfl) ?_
 refine AW.co h (by kernel_rfl) (fun c1 h => ?_) (fun c1 h => ?_)
 ·
  refine AW.sg tt_ok0 [] [2] [(2, .box 114 [cl 1 Ru32 p0.n, ci64 p0.e])] 9 [] (by kernel_rfl) ?_
  refine AW.ret (AW.inBlock_ret (AW.tr ?_))
  obtain rfl := some_inj h
  exact fn0 (.inr rfl) [] 0 (.agg [cl 1 Ru32 p0.n, ci64 p0.e]) (by kernel_rfl)
 ·
  refine AW.sg tt_ok0 [(14, vb (p1.e != 0))] [] [] 11 [] (by kernel_rfl) ?_
  refine AW.co h (by kernel_rfl) (fun c2 h => ?_) (fun c2 h => ?_)
  ·
   refine AW.sg tt_ok0 [] [2] [(2, .box 114 [cl 1 Ru32 p1.n, ci64 p1.e])] 13 [] (by kernel_rfl) ?_
   refine AW.ret (AW.inBlock_ret (AW.tr ?_))
   obtain rfl := some_inj h
   exact fn0 (.inr rfl) [] 0 (.agg [cl 1 Ru32 p1.n, ci64 p1.e]) (by kernel_rfl)
  ·
   refine AW.skip (AW.inBlock_normal (AW.tn ?_))
   obtain ⟨y3, y4, e5, h⟩ := bind2_some h
   refine AW.sg tt_ok0 [(8, vi64 y4), (7, vl 1 Ru32 y3)] [] [] 21 [hn, hn, hn, hn, hn, hk (natural_Add_con p0.n p1.n (y3, y4) e5)] (by kernel_rfl) ?_
   refine AW.sg tt_ok0 [] [2] [(2, .box 114 [cl 1 Ru32 y3, ci64 y4])] 25 [] (by kernel_rfl) ?_
   refine AW.ret ?_
   obtain rfl := some_inj h
   exact fn0 (.inr rfl) [] 0 (.agg [cl 1 Ru32 y3, ci64 y4]) (by kernel_rfl)
/-! (recordlink/rational.number).plus -/
noncomputable def rational_number_plus (p0 : S_rational_number) (p1 : S_rational_number) : Option S_rational_number := (rational_number_with_natural_Add p0 p1).bind fun y1 => (some y1)
set_option maxRecDepth 100000 in
theorem rational_number_plus_con (p0 : S_rational_number) (p1 : S_rational_number) (r : S_rational_number) (h : rational_number_plus p0 p1 = some r) : Con Tryz.prog 92 [.agg [cl 1 Ru32 p0.n, ci64 p0.e], .agg [cl 1 Ru32 p1.n, ci64 p1.e]] [] (.agg [cl 1 Ru32 r.n, ci64 r.e]) [] := by
 refine con_of tt_ok0 0 Tryz.func92 (by kernel_rfl) rfl (by kernel_rfl) (fun base X _ => AW.post ?_)
 unfold rational_number_plus at h
 refine AW.sg tt_ok0 [(4, .c (.ptr 2 2 0 0)), (3, .c (.ptr 1 2 0 0)), (2, .c (.ptr 0 2 0 0))] [0, 1, 2] [(2, .box 114 [.t (.v (.slice none 0 0)), ci64 0]), (1, .box 114 [cl 1 Ru32 p1.n, ci64 p1.e]), (0, .box 114 [cl 1 Ru32 p0.n, ci64 p0.e])] 3 [] (by kernel_rfl) ?_
 obtain ⟨y1, e2, h⟩ := bnd_some h
 refine AW.sg tt_ok0 [] [2] [(2, .box 114 [cl 1 Ru32 y1.n, ci64 y1.e])] 6 [hn, hn, hk (rational_number_with_natural_Add_con p0 p1 y1 e2)] (by kernel_rfl) ?_
 refine AW.ret ?_
 obtain rfl := some_inj h
 exact fn0 (.inr rfl) [] 0 (.agg [cl 1 Ru32 y1.n, ci64 y1.e]) (by kernel_rfl)
/-! recordlink/natural.Int -/
noncomputable def natural_Int_l2 (p0 : List Int) (x5 : Int) (x6 : Int) : Option ((Int × Int) ⊕ Int) := if (decide (x6 < (p0.length : Int))) = true then (if 0 ≤ x6 then (if x6 < (p0.length : Int) then (if 0 ≤ (i64.wrap (32 * x6)) then ((some (ior .i64 x5 (ishl .i64 (i64.wrap (p0.getD x6.toNat 0)) (i64.wrap (32 * x6))))).bind fun z12 => (some (.inl (z12, i64.wrap (x6 + 1))))) else none) else none) else none) else (some (.inr x5))
noncomputable def natural_Int_k1 (p0 : List Int) (x1 : Bool) : Option (Int × Bool) := if x1 = true then (some (0, false)) else ((loop (fun v : Int × Int => natural_Int_l2 p0 v.1 v.2) (0, 0)).bind fun x14 => (some (x14, true)))
noncomputable def natural_Int (p0 : List Int) : Option (Int × Bool) := (natural_Valid p0).bind fun y16 => (if (!y16) = true then (natural_Int_k1 p0 true) else (if (decide ((p0.length : Int) > 2)) = true then (natural_Int_k1 p0 true) else (if ((p0.length : Int) == 2) = true then (if (1 : Int) < (p0.length : Int) then (natural_Int_k1 p0 (decide ((p0.getD 1 0) > 2147483647))) else none) else (natural_Int_k1 p0 false))))
set_option maxRecDepth 100000 in
theorem natural_Int_con (p0 : List Int) (r : Int × Bool) (h : natural_Int p0 = some r) : Con Tryz.prog 94 [vl 1 Ru32 p0] [] (.tup [vi64 r.1, vb r.2]) [] := by
 refine con_of tt_ok0 0 Tryz.func94 (by kernel_rfl) rfl (by kernel_rfl) (fun base X _ => AW.post ?_)
 unfold natural_Int at h
 refine AW.sg tt_ok0 [] [] [] 2 [] (by kernel_rfl) ?_
 refine AW.seq (AW.seq ?_)
 refine AW.join (ι := Bool) (fun v => ⟨[(0, vl 1 Ru32 p0), (25, vb v)], [], 0⟩) (fun v : Bool => natural_Int_k1 p0 v = some r) (fun x1 h => ?_) ?_
 ·
  unfold natural_Int_k1 at h
  refine AW.tn ?_
  refine AW.co h (by kernel_rfl) (fun c2 h => ?_) (fun c2 h => ?_)
  ·
   refine AW.sg tt_ok0 [(3, vb false), (2, vi64 0)] [] [] 2 [] (by kernel_rfl) ?_
   refine AW.ret (AW.tr ?_)
   obtain rfl := some_inj h
   exact fn0 (.inr rfl) [] 0 (.tup [vi64 0, vb false]) (by kernel_rfl)
  ·
   refine AW.skip (AW.tn ?_)
   refine AW.sg tt_ok0 [(4, vi64 0)] [] [] 1 [] (by kernel_rfl) ?_
   refine AW.seq ?_
   refine AW.sg tt_ok0 [(28, vi64 0), (27, vi64 (p0.length : Int)), (26, vl 1 Ru32 p0)] [] [] 4 [] (by kernel_rfl) ?_
   refine AW.block ?_
   obtain ⟨x14, l15, h⟩ := bnd_some h
   refine AW.lp l15 (fun v => ⟨[(4, vi64 v.1), (26, vl 1 Ru32 p0), (27, vi64 (p0.length : Int)), (28, vi64 v.2)], [], 0⟩) (fun t : Int => (.exit 0, ⟨[(4, vi64 t)], [], 0⟩)) (conv_re [] (by kernel_rfl)) (fun _ => tv) ?_ ?_
   ·
    clear l15 h
    intro v o h
    obtain ⟨x5, x6⟩ := v
    replace h : natural_Int_l2 p0 x5 x6 = some o := h
    unfold natural_Int_l2 at h
    refine AW.sg tt_ok0 [(29, vb (decide (x6 < (p0.length : Int))))] [] [] 1 [] (by kernel_rfl) ?_
    refine AW.seq ?_
    refine AW.co h (by kernel_rfl) (fun c8 h => ?_) (fun c8 h => ?_)
    ·
     refine AW.skip (AW.tn ?_)
     refine AW.seq (AW.block ?_)
     obtain ⟨g9, g10, h⟩ := ifd h
     refine AW.sg tt_ok0 [(6, vu32 (p0.getD x6.toNat 0)), (5, vi64 x6)] [] [] 6 [hn, hq g9 g10] (by kernel_rfl) ?_
     obtain ⟨g11, h⟩ := ifc h
     obtain ⟨z12, n13, h⟩ := bnd_some h
     replace n13 := some_inj n13
     refine AW.rg tt_ok0 [(4, vi64 z12)] [] [] 14 [hn, hn, hn, hn, hn, ho g11] (by subst n13; kernel_rfl) ?_
     refine AW.inBlock_normal (AW.tn ?_)
     refine AW.rg tt_ok0 [(28, vi64 (i64.wrap (x6 + 1)))] [] [] 16 [] (by kernel_rfl) ?_
     exact lpn h (conv_re [] (by kernel_rfl))
    ·
     refine AW.exit (AW.thenQ_exit ?_)
     exact lpo h rfl (conv_re [] (by kernel_rfl))
   ·
    show (_ : Exit → St → Prop) (.exit 0) _
    refine AW.inBlock_hit (AW.tn ?_)
    refine AW.sg tt_ok0 [(3, vb true), (2, vi64 x14)] [] [] 3 [] (by kernel_rfl) ?_
    refine AW.ret ?_
    obtain rfl := some_inj h
    exact fn0 (.inr rfl) [] 0 (.tup [vi64 x14, vb true]) (by kernel_rfl)
 ·
  obtain ⟨y16, e17, h⟩ := bnd_some h
  rcases ifs h with ⟨c18, h⟩ | ⟨c18, h⟩
  ·
   refine AW.rg tt_ok0 [(25, vb true)] [] [] 20 [hn, hk (natural_Valid_con p0 y16 e17), ht c18] (by kernel_rfl) ?_
   exact jl true h (conv_re [] (by kernel_rfl))
  ·
   rcases ifs h with ⟨c19, h⟩ | ⟨c19, h⟩
   ·
    refine AW.rg tt_ok0 [(25, vb true)] [] [] 20 [hn, hk (natural_Valid_con p0 y16 e17), hf c18, hn, hn, hn, ht c19] (by kernel_rfl) ?_
    exact jl true h (conv_re [] (by kernel_rfl))
   ·
    rcases ifs h with ⟨c20, h⟩ | ⟨c20, h⟩
    ·
     obtain ⟨g21, h⟩ := ifc h
     refine AW.rg tt_ok0 [(25, vb (decide ((p0.getD 1 0) > 2147483647)))] [] [] 20 [hn, hk (natural_Valid_con p0 y16 e17), hf c18, hn, hn, hn, hf c19, hn, hn, hn, hn, ht c20, hn, hn, ho (p := (0 ≤ (1 : Int)) ∧ ((1 : Int) < (p0.length : Int))) (⟨(by decide), g21⟩)] (by kernel_rfl) ?_
     exact jl (decide ((p0.getD 1 0) > 2147483647)) h (conv_re [] (by kernel_rfl))
    ·
     refine AW.rg tt_ok0 [(25, vb false)] [] [] 20 [hn, hk (natural_Valid_con p0 y16 e17), hf c18, hn, hn, hn, hf c19, hn, hn, hn, hn, hf c20] (by kernel_rfl) ?_
     exact jl false h (conv_re [] (by kernel_rfl))
/-! recordlink/rational.Round -/
noncomputable def rational_Round_k2 (y14 : S_rational_number) (y20 : S_rational_number) (x22 : Bool) : Option (Int × Int) := if x22 = true then (some (0, 1)) else (bind3 (natural_DivMod y14.n y20.n) fun y24 y25 y26 => (bind2 (natural_Int y24) fun y28 y29 => (if (!y29) = true then (some (0, 1)) else (some (y28, 0)))))
noncomputable def rational_Round_k1 (p0 : S_api_Rational) (p1 : Int) (x4 : Bool) : Option (Int × Int) := if x4 = true then (some (0, 2)) else ((rational_of p0.Num).bind fun y6 => ((rational_small (i64.wrap (2 * p1))).bind fun y8 => ((rational_number_times y6 y8).bind fun y10 => ((rational_of p0.Den).bind fun y12 => ((rational_number_plus y10 y12).bind fun y14 => ((rational_small 2).bind fun y16 => ((rational_of p0.Den).bind fun y18 => ((rational_number_times y16 y18).bind fun y20 => (if (y14.e != 0) = true then (rational_Round_k2 y14 y20 true) else (rational_Round_k2 y14 y20 (y20.e != 0)))))))))))
noncomputable def rational_Round (p0 : S_api_Rational) (p1 : Int) : Option (Int × Int) := (rational_Valid p0).bind fun y1 => (if (!y1) = true then (some (0, 20)) else (if (decide (p1 < 1)) = true then (rational_Round_k1 p0 p1 true) else (rational_Round_k1 p0 p1 (decide (p1 > 4294967296)))))
set_option maxRecDepth 100000 in
theorem rational_Round_con (p0 : S_api_Rational) (p1 : Int) (r : Int × Int) (h : rational_Round p0 p1 = some r) : Con Tryz.prog 56 [.agg [cl 1 Ru32 p0.Num, cl 1 Ru32 p0.Den], vi64 p1] [] (.tup [vi64 r.1, vi64 r.2]) [] := by
 refine con_of tt_ok0 0 Tryz.func56 (by kernel_rfl) rfl (by kernel_rfl) (fun base X _ => AW.post ?_)
 unfold rational_Round at h
 refine AW.sg tt_ok0 [(2, .c (.ptr 0 2 0 0))] [0] [(0, .box 44 [cl 1 Ru32 p0.Num, cl 1 Ru32 p0.Den])] 3 [] (by kernel_rfl) ?_
 refine AW.seq (AW.block ?_)
 obtain ⟨y1, e2, h⟩ := bnd_some h
 refine AW.sg tt_ok0 [(13, vb (!y1))] [] [] 6 [hn, hk (rational_Valid_con p0 y1 e2)] (by kernel_rfl) ?_
 refine AW.co h (by kernel_rfl) (fun c3 h => ?_) (fun c3 h => ?_)
 ·
  refine AW.sg tt_ok0 [(5, vi64 20), (4, vi64 0)] [] [] 8 [] (by kernel_rfl) ?_
  refine AW.ret (AW.inBlock_ret (AW.tr ?_))
  obtain rfl := some_inj h
  exact fn0 (.inr rfl) [] 0 (.tup [vi64 0, vi64 20]) (by kernel_rfl)
 ·
  refine AW.seq ?_
  refine AW.join (ι := Bool) (fun v => ⟨[(1, vi64 p1), (2, .c (.ptr 0 2 0 0)), (17, vb v)], [(0, .box 44 [cl 1 Ru32 p0.Num, cl 1 Ru32 p0.Den])], 1⟩) (fun v : Bool => rational_Round_k1 p0 p1 v = some r) (fun x4 h => ?_) ?_
  ·
   unfold rational_Round_k1 at h
   refine AW.tn ?_
   refine AW.co h (by kernel_rfl) (fun c5 h => ?_) (fun c5 h => ?_)
   ·
    refine AW.sg tt_ok0 [(5, vi64 2), (4, vi64 0)] [] [] 3 [] (by kernel_rfl) ?_
    refine AW.ret (AW.inBlock_ret (AW.tr ?_))
    obtain rfl := some_inj h
    exact fn0 (.inr rfl) [] 0 (.tup [vi64 0, vi64 2]) (by kernel_rfl)
   ·
    refine AW.skip (AW.inBlock_normal (AW.tn ?_))
    obtain ⟨y6, e7, h⟩ := bnd_some h
    obtain ⟨y8, e9, h⟩ := bnd_some h
    obtain ⟨y10, e11, h⟩ := bnd_some h
    obtain ⟨y12, e13, h⟩ := bnd_some h
    obtain ⟨y14, e15, h⟩ := bnd_some h
    refine AW.sd tt_ok0 mo0 [[], [], [], [], [], [], [], [], [], [], [], [7], [7]] [(6, .c (.ptr 7 2 0 0))] [(7, .box 114 [cl 1 Ru32 y14.n, ci64 y14.e])] 9 [hn, hn, hk (rational_of_con p0.Num y6 e7), hn, hn, hk (rational_small_con (i64.wrap (2 * p1)) y8 e9), hk (rational_number_times_con y6 y8 y10 e11), hn, hn, hk (rational_of_con p0.Den y12 e13), hk (rational_number_plus_con y10 y12 y14 e15)] (by kernel_rfl) ?_
    obtain ⟨y16, e17, h⟩ := bnd_some h
    obtain ⟨y18, e19, h⟩ := bnd_some h
    obtain ⟨y20, e21, h⟩ := bnd_some h
    refine AW.sd tt_ok0 mo0 [[], [], [], [], [], [11], [11]] [(7, .c (.ptr 11 2 0 0))] [(11, .box 114 [cl 1 Ru32 y20.n, ci64 y20.e])] 13 [hk (rational_small_con 2 y16 e17), hn, hn, hk (rational_of_con p0.Den y18 e19), hk (rational_number_times_con y16 y18 y20 e21)] (by kernel_rfl) ?_
    refine AW.seq (AW.seq ?_)
    refine AW.join (ι := Bool) (fun v => ⟨[(6, .c (.ptr 0 2 0 0)), (7, .c (.ptr 1 2 0 0)), (47, vb v)], [(0, .box 114 [cl 1 Ru32 y14.n, ci64 y14.e]), (1, .box 114 [cl 1 Ru32 y20.n, ci64 y20.e])], 2⟩) (fun v : Bool => rational_Round_k2 y14 y20 v = some r) (fun x22 h => ?_) ?_
    ·
     unfold rational_Round_k2 at h
     refine AW.tn ?_
     refine AW.co h (by kernel_rfl) (fun c23 h => ?_) (fun c23 h => ?_)
     ·
      refine AW.sg tt_ok0 [(5, vi64 1), (4, vi64 0)] [] [] 4 [] (by kernel_rfl) ?_
      refine AW.ret (AW.tr ?_)
      obtain rfl := some_inj h
      exact fn0 (.inr rfl) [] 0 (.tup [vi64 0, vi64 1]) (by kernel_rfl)
     ·
      refine AW.skip (AW.tn ?_)
      obtain ⟨y24, y25, y26, e27, h⟩ := bind3_some h
      refine AW.sg tt_ok0 [(8, vl 1 Ru32 y24)] [] [] 13 [hn, hn, hn, hn, hk (natural_DivMod_con y14.n y20.n (y24, y25, y26) e27)] (by kernel_rfl) ?_
      obtain ⟨y28, y29, e30, h⟩ := bind2_some h
      refine AW.sg tt_ok0 [(12, vb y29), (11, vi64 y28)] [] [] 19 [hn, hk (natural_Int_con y24 (y28, y29) e30)] (by kernel_rfl) ?_
      refine AW.seq ?_
      refine AW.sg tt_ok0 [(63, vb (!y29))] [] [] 21 [] (by kernel_rfl) ?_
      refine AW.co h (by kernel_rfl) (fun c31 h => ?_) (fun c31 h => ?_)
      ·
       refine AW.sg tt_ok0 [(5, vi64 1), (4, vi64 0)] [] [] 23 [] (by kernel_rfl) ?_
       refine AW.ret (AW.tr ?_)
       obtain rfl := some_inj h
       exact fn0 (.inr rfl) [] 0 (.tup [vi64 0, vi64 1]) (by kernel_rfl)
      ·
       refine AW.skip (AW.tn ?_)
       refine AW.sg tt_ok0 [(5, vi64 0), (4, vi64 y28)] [] [] 24 [] (by kernel_rfl) ?_
       refine AW.ret ?_
       obtain rfl := some_inj h
       exact fn0 (.inr rfl) [] 0 (.tup [vi64 y28, vi64 0]) (by kernel_rfl)
    ·
     rcases ifs h with ⟨c32, h⟩ | ⟨c32, h⟩
     ·
      refine AW.rg tt_ok0 [(47, vb true)] [] [] 21 [hn, hn, ht c32] (by kernel_rfl) ?_
      exact jl true h (conv_re [(0, 7), (1, 11)] (by kernel_rfl))
     ·
      refine AW.rg tt_ok0 [(47, vb (y20.e != 0))] [] [] 21 [hn, hn, hf c32] (by kernel_rfl) ?_
      exact jl (y20.e != 0) h (conv_re [(0, 7), (1, 11)] (by kernel_rfl))
  ·
   rcases ifs h with ⟨c33, h⟩ | ⟨c33, h⟩
   ·
    refine AW.rg tt_ok0 [(17, vb true)] [] [] 13 [hn, ht c33] (by kernel_rfl) ?_
    exact jl true h (conv_re [(0, 0)] (by kernel_rfl))
   ·
    refine AW.rg tt_ok0 [(17, vb (decide (p1 > 4294967296)))] [] [] 13 [hn, hf c33] (by kernel_rfl) ?_
    exact jl (decide (p1 > 4294967296)) h (conv_re [(0, 0)] (by kernel_rfl))
/-! recordlink/em.Share -/
noncomputable def em_Share (p0 : S_em_model) (p1 : Int) : Option (Int × Int) := bind2 (em_Posterior p0 p1) fun y1 y2 => (if (y2 != 0) = true then (some (0, y2)) else (bind2 (rational_Round y1 1073741824) fun y5 y6 => (some (y5, y6))))
set_option maxRecDepth 100000 in
theorem em_Share_con (p0 : S_em_model) (p1 : Int) (r : Int × Int) (h : em_Share p0 p1 = some r) : Con Tryz.prog 27 [.agg [ci64 p0.Prior, cl 1 Ri64 p0.Match, cl 1 Ri64 p0.Random], vi64 p1] [] (.tup [vi64 r.1, vi64 r.2]) [] := by
 refine con_of tt_ok0 0 Tryz.func27 (by kernel_rfl) rfl (by kernel_rfl) (fun base X _ => AW.post ?_)
 unfold em_Share at h
 refine AW.sg tt_ok0 [(2, .c (.ptr 0 3 0 0))] [0] [(0, .box 24 [ci64 p0.Prior, cl 1 Ri64 p0.Match, cl 1 Ri64 p0.Random])] 3 [] (by kernel_rfl) ?_
 obtain ⟨y1, y2, e3, h⟩ := bind2_some h
 refine AW.sg tt_ok0 [(7, vi64 y2), (6, .c (.ptr 8 2 0 0))] [8] [(8, .box 44 [cl 1 Ru32 y1.Num, cl 1 Ru32 y1.Den])] 11 [hn, hn, hk (em_Posterior_con p0 p1 (y1, y2) e3)] (by kernel_rfl) ?_
 refine AW.seq ?_
 refine AW.sg tt_ok0 [(15, vb (y2 != 0))] [] [] 13 [] (by kernel_rfl) ?_
 refine AW.co h (by kernel_rfl) (fun c4 h => ?_) (fun c4 h => ?_)
 ·
  refine AW.sg tt_ok0 [(5, vi64 y2), (4, vi64 0)] [] [] 16 [] (by kernel_rfl) ?_
  refine AW.ret (AW.tr ?_)
  obtain rfl := some_inj h
  exact fn0 (.inr rfl) [] 0 (.tup [vi64 0, vi64 y2]) (by kernel_rfl)
 ·
  refine AW.skip (AW.tn ?_)
  obtain ⟨y5, y6, e7, h⟩ := bind2_some h
  refine AW.sg tt_ok0 [(5, vi64 y6), (4, vi64 y5)] [] [] 18 [hn, hk (rational_Round_con y1 1073741824 (y5, y6) e7)] (by kernel_rfl) ?_
  refine AW.ret ?_
  obtain rfl := some_inj h
  exact fn0 (.inr rfl) [] 0 (.tup [vi64 y5, vi64 y6]) (by kernel_rfl)
/-! recordlink/quality.shares -/
noncomputable def quality_shares_l1 (p0 : S_em_model) (p1 : List S_api_Candidate) (x3 : Int) (x4 : Int) : Option ((Int × Int) ⊕ (Int ⊕ Int)) := if (decide (x4 < (p1.length : Int))) = true then (if 0 ≤ x4 then (if x4 < (p1.length : Int) then (bind2 (em_Share p0 ((p1.getD x4.toNat dS_api_Candidate).Pattern)) fun y10 y11 => (if (y11 != 0) = true then (some (.inr (.inr y11))) else (some (.inl (i64.wrap (x3 + y10), i64.wrap (x4 + 1)))))) else none) else none) else (some (.inr (.inl x3)))
noncomputable def quality_shares_a2 (x14 : Int) : Option (Int × Int) := some (x14, 0)
noncomputable def quality_shares_a3 (x15 : Int) : Option (Int × Int) := some (0, x15)
noncomputable def quality_shares (p0 : S_em_model) (p1 : List S_api_Candidate) : Option (Int × Int) := bindE (loop (fun v : Int × Int => quality_shares_l1 p0 p1 v.1 v.2) (0, 0)) (fun t => quality_shares_a2 t) (fun t => quality_shares_a3 t)
set_option maxRecDepth 100000 in
theorem quality_shares_con (p0 : S_em_model) (p1 : List S_api_Candidate) (r : Int × Int) (h : quality_shares p0 p1 = some r) : Con Tryz.prog 42 [.agg [ci64 p0.Prior, cl 1 Ri64 p0.Match, cl 1 Ri64 p0.Random], vl 6 RS_api_Candidate p1] [] (.tup [vi64 r.1, vi64 r.2]) [] := by
 refine con_of tt_ok0 0 Tryz.func42 (by kernel_rfl) rfl (by kernel_rfl) (fun base X _ => AW.post ?_)
 unfold quality_shares at h
 refine AW.sg tt_ok0 [(2, .c (.ptr 0 3 0 0))] [0] [(0, .box 24 [ci64 p0.Prior, cl 1 Ri64 p0.Match, cl 1 Ri64 p0.Random])] 3 [] (by kernel_rfl) ?_
 refine AW.sg tt_ok0 [(6, vi64 0)] [] [] 4 [] (by kernel_rfl) ?_
 refine AW.seq ?_
 refine AW.sg tt_ok0 [(13, vi64 0), (12, vi64 (p1.length : Int)), (11, vl 6 RS_api_Candidate p1)] [] [] 7 [] (by kernel_rfl) ?_
 refine AW.block ?_
 refine AW.lpE h (fun v => ⟨[(2, .c (.ptr 0 3 0 0)), (6, vi64 v.1), (11, vl 6 RS_api_Candidate p1), (12, vi64 (p1.length : Int)), (13, vi64 v.2)], [(0, .box 24 [ci64 p0.Prior, cl 1 Ri64 p0.Match, cl 1 Ri64 p0.Random])], 1⟩) (fun t => (.exit 0, ⟨[(6, vi64 t)], [], 0⟩)) (fun t => (.ret, ⟨[(4, vi64 0), (5, vi64 t)], [], 0⟩)) (conv_re [(0, 0)] (by kernel_rfl)) (fun _ => tv) (fun _ => tv) ?_ (fun x14 h => ?_) (fun x15 h => ?_)
 ·
  clear h
  intro v o h
  obtain ⟨x3, x4⟩ := v
  replace h : quality_shares_l1 p0 p1 x3 x4 = some o := h
  unfold quality_shares_l1 at h
  refine AW.sg tt_ok0 [(14, vb (decide (x4 < (p1.length : Int))))] [] [] 2 [] (by kernel_rfl) ?_
  refine AW.seq ?_
  refine AW.co h (by kernel_rfl) (fun c7 h => ?_) (fun c7 h => ?_)
  ·
   refine AW.skip (AW.tn ?_)
   refine AW.seq (AW.block ?_)
   obtain ⟨g8, g9, h⟩ := ifd h
   refine AW.sg tt_ok0 [(8, .c (.ptr 4 6 0 0))] [4] [(4, .box 71 [ci64 (((p1.getD x4.toNat dS_api_Candidate).A).Registry), ci64 (((p1.getD x4.toNat dS_api_Candidate).A).ID), ci64 (((p1.getD x4.toNat dS_api_Candidate).B).Registry), ci64 (((p1.getD x4.toNat dS_api_Candidate).B).ID), ci64 ((p1.getD x4.toNat dS_api_Candidate).Pattern), ci64 ((p1.getD x4.toNat dS_api_Candidate).Weight)])] 6 [hq g8 g9] (by kernel_rfl) ?_
   obtain ⟨y10, y11, e12, h⟩ := bind2_some h
   refine AW.sg tt_ok0 [(10, vi64 y11), (9, vi64 y10)] [] [] 14 [hn, hn, hn, hk (em_Share_con p0 ((p1.getD x4.toNat dS_api_Candidate).Pattern) (y10, y11) e12)] (by kernel_rfl) ?_
   refine AW.seq ?_
   refine AW.sg tt_ok0 [(25, vb (y11 != 0))] [] [] 16 [] (by kernel_rfl) ?_
   refine AW.co h (by kernel_rfl) (fun c13 h => ?_) (fun c13 h => ?_)
   ·
    refine AW.sg tt_ok0 [(5, vi64 y11), (4, vi64 0)] [] [] 19 [] (by kernel_rfl) ?_
    refine AW.ret (AW.tr ?_)
    refine AW.inBlock_ret (AW.tr ?_)
    exact lpo h rfl (conv_re [] (by kernel_rfl))
   ·
    refine AW.skip (AW.tn ?_)
    refine AW.rg tt_ok0 [(6, vi64 (i64.wrap (x3 + y10)))] [] [] 20 [] (by kernel_rfl) ?_
    refine AW.inBlock_normal (AW.tn ?_)
    refine AW.rg tt_ok0 [(13, vi64 (i64.wrap (x4 + 1)))] [] [] 22 [] (by kernel_rfl) ?_
    exact lpn h (conv_re [(0, 0)] (by kernel_rfl))
  ·
   refine AW.exit (AW.thenQ_exit ?_)
   exact lpo h rfl (conv_re [] (by kernel_rfl))
 ·
  unfold quality_shares_a2 at h
  show (_ : Exit → St → Prop) (.exit 0) _
  refine AW.inBlock_hit (AW.tn ?_)
  refine AW.sg tt_ok0 [(5, vi64 0), (4, vi64 x14)] [] [] 3 [] (by kernel_rfl) ?_
  refine AW.ret ?_
  obtain rfl := some_inj h
  exact fn0 (.inr rfl) [] 0 (.tup [vi64 x14, vi64 0]) (by kernel_rfl)
 ·
  unfold quality_shares_a3 at h
  show (_ : Exit → St → Prop) (.ret) _
  refine AW.inBlock_ret (AW.tr ?_)
  obtain rfl := some_inj h
  exact fn0 (.inr rfl) [] 0 (.tup [vi64 0, vi64 x15]) (by kernel_rfl)
/-! recordlink/quality.Of -/
noncomputable def quality_Of_k1 (p0 : S_em_model) (p1 : List S_api_Candidate) (p2 : List S_api_Candidate) (x4 : Bool) : Option (S_api_Estimate × Int) := if x4 = true then (some ((⟨0, 0, 0⟩ : S_api_Estimate), 1)) else (bind2 (quality_shares p0 p1) fun y6 y7 => (if (y7 != 0) = true then (some ((⟨0, 0, 0⟩ : S_api_Estimate), y7)) else (bind2 (quality_shares p0 p2) fun y10 y11 => (if (y11 != 0) = true then (some ((⟨0, 0, 0⟩ : S_api_Estimate), y11)) else ((some (i64.wrap ((i64.wrap ((p1.length : Int) * 1073741824)) - y6))).bind fun z14 => (some ((⟨z14, y10, y6⟩ : S_api_Estimate), 0)))))))
noncomputable def quality_Of (p0 : S_em_model) (p1 : List S_api_Candidate) (p2 : List S_api_Candidate) : Option (S_api_Estimate × Int) := (em_Check p0).bind fun y1 => (if (y1 != 0) = true then (some ((⟨0, 0, 0⟩ : S_api_Estimate), y1)) else (if (decide ((p1.length : Int) > 4096)) = true then (quality_Of_k1 p0 p1 p2 true) else (quality_Of_k1 p0 p1 p2 (decide ((p2.length : Int) > 4096)))))
set_option maxRecDepth 100000 in
theorem quality_Of_con (p0 : S_em_model) (p1 : List S_api_Candidate) (p2 : List S_api_Candidate) (r : S_api_Estimate × Int) (h : quality_Of p0 p1 p2 = some r) : Con Tryz.prog 11 [.agg [ci64 p0.Prior, cl 1 Ri64 p0.Match, cl 1 Ri64 p0.Random], vl 6 RS_api_Candidate p1, vl 6 RS_api_Candidate p2] [] (.tup [.agg [ci64 r.1.False, ci64 r.1.Missed, ci64 r.1.True], vi64 r.2]) [] := by
 refine con_of tt_ok0 0 Tryz.func11 (by kernel_rfl) rfl (by kernel_rfl) (fun base X _ => AW.post ?_)
 unfold quality_Of at h
 refine AW.sg tt_ok0 [(6, .c (.ptr 1 3 0 0)), (3, .c (.ptr 0 3 0 0))] [0, 1] [(1, .box 27 [ci64 0, ci64 0, ci64 0]), (0, .box 24 [ci64 p0.Prior, cl 1 Ri64 p0.Match, cl 1 Ri64 p0.Random])] 3 [] (by kernel_rfl) ?_
 refine AW.seq ?_
 obtain ⟨y1, e2, h⟩ := bnd_some h
 refine AW.sg tt_ok0 [(8, vi64 y1)] [] [] 5 [hn, hk (em_Check_con p0 y1 e2)] (by kernel_rfl) ?_
 refine AW.sg tt_ok0 [(15, vb (y1 != 0))] [] [] 7 [] (by kernel_rfl) ?_
 refine AW.co h (by kernel_rfl) (fun c3 h => ?_) (fun c3 h => ?_)
 ·
  refine AW.sg tt_ok0 [(7, vi64 y1)] [1] [(1, .box 27 [ci64 0, ci64 0, ci64 0])] 11 [] (by kernel_rfl) ?_
  refine AW.ret (AW.tr ?_)
  obtain rfl := some_inj h
  exact fn0 (.inr rfl) [] 0 (.tup [.agg [ci64 0, ci64 0, ci64 0], vi64 y1]) (by kernel_rfl)
 ·
  refine AW.skip (AW.tn ?_)
  refine AW.seq (AW.seq ?_)
  refine AW.join (ι := Bool) (fun v => ⟨[(1, vl 6 RS_api_Candidate p1), (2, vl 6 RS_api_Candidate p2), (3, .c (.ptr 0 3 0 0)), (6, .c (.ptr 1 3 0 0)), (25, vb v)], [(0, .box 24 [ci64 p0.Prior, cl 1 Ri64 p0.Match, cl 1 Ri64 p0.Random]), (1, .box 27 [ci64 0, ci64 0, ci64 0])], 2⟩) (fun v : Bool => quality_Of_k1 p0 p1 p2 v = some r) (fun x4 h => ?_) ?_
  ·
   unfold quality_Of_k1 at h
   refine AW.tn ?_
   refine AW.co h (by kernel_rfl) (fun c5 h => ?_) (fun c5 h => ?_)
   ·
    refine AW.sg tt_ok0 [(7, vi64 1)] [1] [(1, .box 27 [ci64 0, ci64 0, ci64 0])] 5 [] (by kernel_rfl) ?_
    refine AW.ret (AW.tr ?_)
    obtain rfl := some_inj h
    exact fn0 (.inr rfl) [] 0 (.tup [.agg [ci64 0, ci64 0, ci64 0], vi64 1]) (by kernel_rfl)
   ·
    refine AW.skip (AW.tn ?_)
    obtain ⟨y6, y7, e8, h⟩ := bind2_some h
    refine AW.sg tt_ok0 [(10, vi64 y7), (9, vi64 y6)] [] [] 9 [hn, hn, hk (quality_shares_con p0 p1 (y6, y7) e8)] (by kernel_rfl) ?_
    refine AW.seq ?_
    refine AW.sg tt_ok0 [(34, vb (y7 != 0))] [] [] 11 [] (by kernel_rfl) ?_
    refine AW.co h (by kernel_rfl) (fun c9 h => ?_) (fun c9 h => ?_)
    ·
     refine AW.sg tt_ok0 [(7, vi64 y7)] [1] [(1, .box 27 [ci64 0, ci64 0, ci64 0])] 15 [] (by kernel_rfl) ?_
     refine AW.ret (AW.tr ?_)
     obtain rfl := some_inj h
     exact fn0 (.inr rfl) [] 0 (.tup [.agg [ci64 0, ci64 0, ci64 0], vi64 y7]) (by kernel_rfl)
    ·
     refine AW.skip (AW.tn ?_)
     obtain ⟨y10, y11, e12, h⟩ := bind2_some h
     refine AW.sg tt_ok0 [(10, vi64 y11), (11, vi64 y10)] [] [] 18 [hn, hn, hk (quality_shares_con p0 p2 (y10, y11) e12)] (by kernel_rfl) ?_
     refine AW.seq ?_
     refine AW.sg tt_ok0 [(44, vb (y11 != 0))] [] [] 20 [] (by kernel_rfl) ?_
     refine AW.co h (by kernel_rfl) (fun c13 h => ?_) (fun c13 h => ?_)
     ·
      refine AW.sg tt_ok0 [(7, vi64 y11)] [1] [(1, .box 27 [ci64 0, ci64 0, ci64 0])] 24 [] (by kernel_rfl) ?_
      refine AW.ret (AW.tr ?_)
      obtain rfl := some_inj h
      exact fn0 (.inr rfl) [] 0 (.tup [.agg [ci64 0, ci64 0, ci64 0], vi64 y11]) (by kernel_rfl)
     ·
      refine AW.skip (AW.tn ?_)
      obtain ⟨z14, n15, h⟩ := bnd_some h
      replace n15 := some_inj n15
      refine AW.sg tt_ok0 [(7, vi64 0)] [1] [(1, .box 27 [ci64 z14, ci64 y10, ci64 y6])] 30 [] (by subst n15; kernel_rfl) ?_
      refine AW.ret ?_
      obtain rfl := some_inj h
      exact fn0 (.inr rfl) [] 0 (.tup [.agg [ci64 z14, ci64 y10, ci64 y6], vi64 0]) (by kernel_rfl)
  ·
   rcases ifs h with ⟨c16, h⟩ | ⟨c16, h⟩
   ·
    refine AW.rg tt_ok0 [(25, vb true)] [] [] 15 [hn, hn, ht c16] (by kernel_rfl) ?_
    exact jl true h (conv_re [(0, 0), (1, 1)] (by kernel_rfl))
   ·
    refine AW.rg tt_ok0 [(25, vb (decide ((p2.length : Int) > 4096)))] [] [] 15 [hn, hn, hf c16] (by kernel_rfl) ?_
    exact jl (decide ((p2.length : Int) > 4096)) h (conv_re [(0, 0), (1, 1)] (by kernel_rfl))
/-! recordlink/quality.fits -/
noncomputable def quality_fits_k1 (x1 : Bool) : Option Bool := some x1
noncomputable def quality_fits (p0 : Int) : Option Bool := if (decide (p0 ≥ 0)) = true then (quality_fits_k1 (decide (p0 ≤ 4398046511104))) else (quality_fits_k1 false)
set_option maxRecDepth 100000 in
theorem quality_fits_con (p0 : Int) (r : Bool) (h : quality_fits p0 = some r) : Con Tryz.prog 46 [vi64 p0] [] (vb r) [] := by
 refine con_of tt_ok0 0 Tryz.func46 (by kernel_rfl) rfl (by kernel_rfl) (fun base X _ => AW.post ?_)
 unfold quality_fits at h
 refine AW.sg tt_ok0 [] [] [] 1 [] (by kernel_rfl) ?_
 refine AW.seq ?_
 refine AW.join (ι := Bool) (fun v => ⟨[(2, vb v)], [], 0⟩) (fun v : Bool => quality_fits_k1 v = some r) (fun x1 h => ?_) ?_
 ·
  unfold quality_fits_k1 at h
  refine AW.tn (AW.ret ?_)
  obtain rfl := some_inj h
  exact fn0 (.inr rfl) [] 0 (vb x1) (by kernel_rfl)
 ·
  rcases ifs h with ⟨c2, h⟩ | ⟨c2, h⟩
  ·
   refine AW.rg tt_ok0 [(2, vb (decide (p0 ≤ 4398046511104)))] [] [] 8 [hn, ht c2] (by kernel_rfl) ?_
   exact jl (decide (p0 ≤ 4398046511104)) h (conv_re [] (by kernel_rfl))
  ·
   refine AW.rg tt_ok0 [(2, vb false)] [] [] 8 [hn, hf c2] (by kernel_rfl) ?_
   exact jl false h (conv_re [] (by kernel_rfl))
/-! recordlink/quality.Check -/
noncomputable def quality_Check_k1 (x1 : Bool) : Option Int := if x1 = true then (some 2) else (some 0)
noncomputable def quality_Check (p0 : S_api_Estimate) : Option Int := (quality_fits p0.False).bind fun y3 => (if (!y3) = true then (quality_Check_k1 true) else ((quality_fits p0.Missed).bind fun y6 => (if (!y6) = true then (quality_Check_k1 true) else ((quality_fits p0.True).bind fun y9 => (quality_Check_k1 (!y9))))))
set_option maxRecDepth 100000 in
theorem quality_Check_con (p0 : S_api_Estimate) (r : Int) (h : quality_Check p0 = some r) : Con Tryz.prog 18 [.agg [ci64 p0.False, ci64 p0.Missed, ci64 p0.True]] [] (vi64 r) [] := by
 refine con_of tt_ok0 0 Tryz.func18 (by kernel_rfl) rfl (by kernel_rfl) (fun base X _ => AW.post ?_)
 unfold quality_Check at h
 refine AW.sg tt_ok0 [(1, .c (.ptr 0 3 0 0))] [0] [(0, .box 27 [ci64 p0.False, ci64 p0.Missed, ci64 p0.True])] 2 [] (by kernel_rfl) ?_
 refine AW.seq (AW.seq ?_)
 refine AW.join (ι := Bool) (fun v => ⟨[(18, vb v)], [], 0⟩) (fun v : Bool => quality_Check_k1 v = some r) (fun x1 h => ?_) ?_
 ·
  unfold quality_Check_k1 at h
  refine AW.tn ?_
  refine AW.co h (by kernel_rfl) (fun c2 h => ?_) (fun c2 h => ?_)
  ·
   refine AW.sg tt_ok0 [(2, vi64 2)] [] [] 1 [] (by kernel_rfl) ?_
   refine AW.ret (AW.tr ?_)
   obtain rfl := some_inj h
   exact fn0 (.inr rfl) [] 0 (vi64 2) (by kernel_rfl)
  ·
   refine AW.skip (AW.tn ?_)
   refine AW.sg tt_ok0 [(2, vi64 0)] [] [] 1 [] (by kernel_rfl) ?_
   refine AW.ret ?_
   obtain rfl := some_inj h
   exact fn0 (.inr rfl) [] 0 (vi64 0) (by kernel_rfl)
 ·
  obtain ⟨y3, e4, h⟩ := bnd_some h
  rcases ifs h with ⟨c5, h⟩ | ⟨c5, h⟩
  ·
   refine AW.rg tt_ok0 [(18, vb true)] [] [] 17 [hn, hn, hk (quality_fits_con p0.False y3 e4), ht c5] (by kernel_rfl) ?_
   exact jl true h (conv_re [] (by kernel_rfl))
  ·
   obtain ⟨y6, e7, h⟩ := bnd_some h
   rcases ifs h with ⟨c8, h⟩ | ⟨c8, h⟩
   ·
    refine AW.rg tt_ok0 [(18, vb true)] [] [] 16 [hn, hn, hk (quality_fits_con p0.False y3 e4), hf c5, hn, hn, hn, hk (quality_fits_con p0.Missed y6 e7), ht c8] (by kernel_rfl) ?_
    exact jl true h (conv_re [] (by kernel_rfl))
   ·
    obtain ⟨y9, e10, h⟩ := bnd_some h
    refine AW.rg tt_ok0 [(18, vb (!y9))] [] [] 15 [hn, hn, hk (quality_fits_con p0.False y3 e4), hf c5, hn, hn, hn, hk (quality_fits_con p0.Missed y6 e7), hf c8, hn, hn, hn, hn, hk (quality_fits_con p0.True y9 e10)] (by kernel_rfl) ?_
    exact jl (!y9) h (conv_re [] (by kernel_rfl))
/-! recordlink/rational.Of -/
noncomputable def rational_Of_k1 (p0 : Int) (p1 : Int) (x1 : Bool) : Option (S_api_Rational × Int) := if x1 = true then (some ((⟨([] : List Int), ([] : List Int)⟩ : S_api_Rational), 2)) else (if (p1 == 0) = true then (some ((⟨([] : List Int), ([] : List Int)⟩ : S_api_Rational), 9)) else ((rational_small p0).bind fun y4 => ((rational_small p1).bind fun y6 => (bind2 (rational_reduced y4 y6) fun y8 y9 => (some (y8, y9))))))
noncomputable def rational_Of (p0 : Int) (p1 : Int) : Option (S_api_Rational × Int) := if (decide (p0 < 0)) = true then (rational_Of_k1 p0 p1 true) else (rational_Of_k1 p0 p1 (decide (p1 < 0)))
set_option maxRecDepth 100000 in
theorem rational_Of_con (p0 : Int) (p1 : Int) (r : S_api_Rational × Int) (h : rational_Of p0 p1 = some r) : Con Tryz.prog 70 [vi64 p0, vi64 p1] [] (.tup [.agg [cl 1 Ru32 r.1.Num, cl 1 Ru32 r.1.Den], vi64 r.2]) [] := by
 refine con_of tt_ok0 0 Tryz.func70 (by kernel_rfl) rfl (by kernel_rfl) (fun base X _ => AW.post ?_)
 unfold rational_Of at h
 refine AW.sg tt_ok0 [(4, .c (.ptr 0 2 0 0))] [0] [(0, .box 44 [.t (.v (.slice none 0 0)), .t (.v (.slice none 0 0))])] 2 [] (by kernel_rfl) ?_
 refine AW.seq (AW.block (AW.seq ?_))
 refine AW.join (ι := Bool) (fun v => ⟨[(0, vi64 p0), (1, vi64 p1), (4, .c (.ptr 0 2 0 0)), (6, vb v)], [(0, .box 44 [.t (.v (.slice none 0 0)), .t (.v (.slice none 0 0))])], 1⟩) (fun v : Bool => rational_Of_k1 p0 p1 v = some r) (fun x1 h => ?_) ?_
 ·
  unfold rational_Of_k1 at h
  refine AW.tn ?_
  refine AW.co h (by kernel_rfl) (fun c2 h => ?_) (fun c2 h => ?_)
  ·
   refine AW.sg tt_ok0 [(5, vi64 2)] [0] [(0, .box 44 [.t (.v (.slice none 0 0)), .t (.v (.slice none 0 0))])] 4 [] (by kernel_rfl) ?_
   refine AW.ret (AW.inBlock_ret (AW.tr ?_))
   obtain rfl := some_inj h
   exact fnR (.inr rfl) [] 0 (.tup [.agg [cl 1 Ru32 ([] : List Int), cl 1 Ru32 ([] : List Int)], vi64 2]) (conv_box (id := 0) (ty := 44) (cs := [.t (.v (.slice none 0 0)), .t (.v (.slice none 0 0))]) (ds := [cl 1 Ru32 ([] : List Int), cl 1 Ru32 ([] : List Int)]) (by kernel_rfl) ⟨CLe.nil rfl, CLe.nil rfl, tv⟩) (by kernel_rfl)
  ·
   refine AW.sg tt_ok0 [(14, vb (p1 == 0))] [] [] 4 [] (by kernel_rfl) ?_
   refine AW.co h (by kernel_rfl) (fun c3 h => ?_) (fun c3 h => ?_)
   ·
    refine AW.sg tt_ok0 [(5, vi64 9)] [0] [(0, .box 44 [.t (.v (.slice none 0 0)), .t (.v (.slice none 0 0))])] 7 [] (by kernel_rfl) ?_
    refine AW.ret (AW.inBlock_ret (AW.tr ?_))
    obtain rfl := some_inj h
    exact fnR (.inr rfl) [] 0 (.tup [.agg [cl 1 Ru32 ([] : List Int), cl 1 Ru32 ([] : List Int)], vi64 9]) (conv_box (id := 0) (ty := 44) (cs := [.t (.v (.slice none 0 0)), .t (.v (.slice none 0 0))]) (ds := [cl 1 Ru32 ([] : List Int), cl 1 Ru32 ([] : List Int)]) (by kernel_rfl) ⟨CLe.nil rfl, CLe.nil rfl, tv⟩) (by kernel_rfl)
   ·
    refine AW.skip (AW.inBlock_normal (AW.tn ?_))
    obtain ⟨y4, e5, h⟩ := bnd_some h
    obtain ⟨y6, e7, h⟩ := bnd_some h
    obtain ⟨y8, y9, e10, h⟩ := bind2_some h
    refine AW.sg tt_ok0 [(5, vi64 y9)] [0] [(0, .box 44 [cl 1 Ru32 y8.Num, cl 1 Ru32 y8.Den])] 10 [hn, hk (rational_small_con p0 y4 e5), hn, hk (rational_small_con p1 y6 e7), hk (rational_reduced_con y4 y6 (y8, y9) e10)] (by kernel_rfl) ?_
    refine AW.ret ?_
    obtain rfl := some_inj h
    exact fn0 (.inr rfl) [] 0 (.tup [.agg [cl 1 Ru32 y8.Num, cl 1 Ru32 y8.Den], vi64 y9]) (by kernel_rfl)
 ·
  rcases ifs h with ⟨c11, h⟩ | ⟨c11, h⟩
  ·
   refine AW.rg tt_ok0 [(6, vb true)] [] [] 9 [hn, ht c11] (by kernel_rfl) ?_
   exact jl true h (conv_re [(0, 0)] (by kernel_rfl))
  ·
   refine AW.rg tt_ok0 [(6, vb (decide (p1 < 0)))] [] [] 9 [hn, hf c11] (by kernel_rfl) ?_
   exact jl (decide (p1 < 0)) h (conv_re [(0, 0)] (by kernel_rfl))
/-! recordlink/quality.part -/
noncomputable def quality_part (p0 : S_api_Estimate) (p1 : Int) (p2 : Int) : Option (S_api_Rational × Int) := (quality_Check p0).bind fun y1 => (if (y1 != 0) = true then (some ((⟨([] : List Int), ([] : List Int)⟩ : S_api_Rational), y1)) else (if ((i64.wrap (p1 + p2)) == 0) = true then (some ((⟨([] : List Int), ([] : List Int)⟩ : S_api_Rational), 9)) else (bind2 (rational_Of p1 (i64.wrap (p1 + p2))) fun y5 y6 => (some (y5, y6)))))
set_option maxRecDepth 100000 in
theorem quality_part_con (p0 : S_api_Estimate) (p1 : Int) (p2 : Int) (r : S_api_Rational × Int) (h : quality_part p0 p1 p2 = some r) : Con Tryz.prog 43 [.agg [ci64 p0.False, ci64 p0.Missed, ci64 p0.True], vi64 p1, vi64 p2] [] (.tup [.agg [cl 1 Ru32 r.1.Num, cl 1 Ru32 r.1.Den], vi64 r.2]) [] := by
 refine con_of tt_ok0 0 Tryz.func43 (by kernel_rfl) rfl (by kernel_rfl) (fun base X _ => AW.post ?_)
 unfold quality_part at h
 refine AW.sg tt_ok0 [(6, .c (.ptr 1 2 0 0)), (3, .c (.ptr 0 3 0 0))] [0, 1] [(1, .box 44 [.t (.v (.slice none 0 0)), .t (.v (.slice none 0 0))]), (0, .box 27 [ci64 p0.False, ci64 p0.Missed, ci64 p0.True])] 3 [] (by kernel_rfl) ?_
 refine AW.seq ?_
 obtain ⟨y1, e2, h⟩ := bnd_some h
 refine AW.sg tt_ok0 [(8, vi64 y1)] [] [] 5 [hn, hk (quality_Check_con p0 y1 e2)] (by kernel_rfl) ?_
 refine AW.sg tt_ok0 [(12, vb (y1 != 0))] [] [] 7 [] (by kernel_rfl) ?_
 refine AW.co h (by kernel_rfl) (fun c3 h => ?_) (fun c3 h => ?_)
 ·
  refine AW.sg tt_ok0 [(7, vi64 y1)] [1] [(1, .box 44 [.t (.v (.slice none 0 0)), .t (.v (.slice none 0 0))])] 11 [] (by kernel_rfl) ?_
  refine AW.ret (AW.tr ?_)
  obtain rfl := some_inj h
  exact fnR (.inr rfl) [] 0 (.tup [.agg [cl 1 Ru32 ([] : List Int), cl 1 Ru32 ([] : List Int)], vi64 y1]) (conv_box (id := 1) (ty := 44) (cs := [.t (.v (.slice none 0 0)), .t (.v (.slice none 0 0))]) (ds := [cl 1 Ru32 ([] : List Int), cl 1 Ru32 ([] : List Int)]) (by kernel_rfl) ⟨CLe.nil rfl, CLe.nil rfl, tv⟩) (by kernel_rfl)
 ·
  refine AW.skip (AW.tn (AW.seq ?_))
  refine AW.sg tt_ok0 [(18, vb ((i64.wrap (p1 + p2)) == 0))] [] [] 11 [] (by kernel_rfl) ?_
  refine AW.co h (by kernel_rfl) (fun c4 h => ?_) (fun c4 h => ?_)
  ·
   refine AW.sg tt_ok0 [(7, vi64 9)] [1] [(1, .box 44 [.t (.v (.slice none 0 0)), .t (.v (.slice none 0 0))])] 14 [] (by kernel_rfl) ?_
   refine AW.ret (AW.tr ?_)
   obtain rfl := some_inj h
   exact fnR (.inr rfl) [] 0 (.tup [.agg [cl 1 Ru32 ([] : List Int), cl 1 Ru32 ([] : List Int)], vi64 9]) (conv_box (id := 1) (ty := 44) (cs := [.t (.v (.slice none 0 0)), .t (.v (.slice none 0 0))]) (ds := [cl 1 Ru32 ([] : List Int), cl 1 Ru32 ([] : List Int)]) (by kernel_rfl) ⟨CLe.nil rfl, CLe.nil rfl, tv⟩) (by kernel_rfl)
  ·
   refine AW.skip (AW.tn ?_)
   obtain ⟨y5, y6, e7, h⟩ := bind2_some h
   refine AW.sg tt_ok0 [(7, vi64 y6)] [1] [(1, .box 44 [cl 1 Ru32 y5.Num, cl 1 Ru32 y5.Den])] 19 [hn, hn, hn, hn, hk (rational_Of_con p1 (i64.wrap (p1 + p2)) (y5, y6) e7)] (by kernel_rfl) ?_
   refine AW.ret ?_
   obtain rfl := some_inj h
   exact fn0 (.inr rfl) [] 0 (.tup [.agg [cl 1 Ru32 y5.Num, cl 1 Ru32 y5.Den], vi64 y6]) (by kernel_rfl)
/-! recordlink/quality.Precision -/
noncomputable def quality_Precision (p0 : S_api_Estimate) : Option (S_api_Rational × Int) := bind2 (quality_part p0 p0.True p0.False) fun y1 y2 => (some (y1, y2))
set_option maxRecDepth 100000 in
theorem quality_Precision_con (p0 : S_api_Estimate) (r : S_api_Rational × Int) (h : quality_Precision p0 = some r) : Con Tryz.prog 13 [.agg [ci64 p0.False, ci64 p0.Missed, ci64 p0.True]] [] (.tup [.agg [cl 1 Ru32 r.1.Num, cl 1 Ru32 r.1.Den], vi64 r.2]) [] := by
 refine con_of tt_ok0 0 Tryz.func13 (by kernel_rfl) rfl (by kernel_rfl) (fun base X _ => AW.post ?_)
 unfold quality_Precision at h
 refine AW.sg tt_ok0 [(2, .c (.ptr 1 2 0 0)), (1, .c (.ptr 0 3 0 0))] [0, 1] [(1, .box 44 [.t (.v (.slice none 0 0)), .t (.v (.slice none 0 0))]), (0, .box 27 [ci64 p0.False, ci64 p0.Missed, ci64 p0.True])] 3 [] (by kernel_rfl) ?_
 obtain ⟨y1, y2, e3, h⟩ := bind2_some h
 refine AW.sg tt_ok0 [(3, vi64 y2)] [1] [(1, .box 44 [cl 1 Ru32 y1.Num, cl 1 Ru32 y1.Den])] 12 [hn, hn, hn, hn, hn, hk (quality_part_con p0 p0.True p0.False (y1, y2) e3)] (by kernel_rfl) ?_
 refine AW.ret ?_
 obtain rfl := some_inj h
 exact fn0 (.inr rfl) [] 0 (.tup [.agg [cl 1 Ru32 y1.Num, cl 1 Ru32 y1.Den], vi64 y2]) (by kernel_rfl)
/-! recordlink/quality.reaches -/
noncomputable def quality_reaches (p0 : Int) (p1 : Int) (p2 : Int) : Option Bool := some (decide ((i64.wrap (1000 * p0)) ≥ (i64.wrap (p2 * (i64.wrap (p0 + p1))))))
set_option maxRecDepth 100000 in
theorem quality_reaches_con (p0 : Int) (p1 : Int) (p2 : Int) (r : Bool) (h : quality_reaches p0 p1 p2 = some r) : Con Tryz.prog 47 [vi64 p0, vi64 p1, vi64 p2] [] (vb r) [] := by
 refine con_of tt_ok0 0 Tryz.func47 (by kernel_rfl) rfl (by kernel_rfl) (fun base X _ => AW.post ?_)
 unfold quality_reaches at h
 refine AW.sg tt_ok0 [] [] [] 1 [] (by kernel_rfl) ?_
 refine AW.sg tt_ok0 [(6, vb (decide ((i64.wrap (1000 * p0)) ≥ (i64.wrap (p2 * (i64.wrap (p0 + p1)))))))] [] [] 10 [] (by kernel_rfl) ?_
 refine AW.ret ?_
 obtain rfl := some_inj h
 exact fn0 (.inr rfl) [] 0 (vb (decide ((i64.wrap (1000 * p0)) ≥ (i64.wrap (p2 * (i64.wrap (p0 + p1))))))) (by kernel_rfl)
/-! recordlink/quality.Meets -/
noncomputable def quality_Meets_k2 (x6 : Bool) : Option (Bool × Int) := some (x6, 0)
noncomputable def quality_Meets_k1 (p0 : S_api_Estimate) (p1 : Int) (p2 : Int) (x4 : Bool) : Option (Bool × Int) := if x4 = true then (some (false, 2)) else ((quality_reaches p0.True p0.False p1).bind fun y7 => (if y7 = true then ((quality_reaches p0.True p0.Missed p2).bind fun y10 => (quality_Meets_k2 y10)) else (quality_Meets_k2 false)))
noncomputable def quality_Meets (p0 : S_api_Estimate) (p1 : Int) (p2 : Int) : Option (Bool × Int) := (quality_Check p0).bind fun y1 => (if (y1 != 0) = true then (some (false, y1)) else (if (decide (p1 < 0)) = true then (quality_Meets_k1 p0 p1 p2 true) else (if (decide (p1 > 1000)) = true then (quality_Meets_k1 p0 p1 p2 true) else (if (decide (p2 < 0)) = true then (quality_Meets_k1 p0 p1 p2 true) else (quality_Meets_k1 p0 p1 p2 (decide (p2 > 1000)))))))
set_option maxRecDepth 100000 in
theorem quality_Meets_con (p0 : S_api_Estimate) (p1 : Int) (p2 : Int) (r : Bool × Int) (h : quality_Meets p0 p1 p2 = some r) : Con Tryz.prog 20 [.agg [ci64 p0.False, ci64 p0.Missed, ci64 p0.True], vi64 p1, vi64 p2] [] (.tup [vb r.1, vi64 r.2]) [] := by
 refine con_of tt_ok0 0 Tryz.func20 (by kernel_rfl) rfl (by kernel_rfl) (fun base X _ => AW.post ?_)
 unfold quality_Meets at h
 refine AW.sg tt_ok0 [(3, .c (.ptr 0 3 0 0))] [0] [(0, .box 27 [ci64 p0.False, ci64 p0.Missed, ci64 p0.True])] 3 [] (by kernel_rfl) ?_
 refine AW.seq ?_
 obtain ⟨y1, e2, h⟩ := bnd_some h
 refine AW.sg tt_ok0 [(8, vi64 y1)] [] [] 5 [hn, hk (quality_Check_con p0 y1 e2)] (by kernel_rfl) ?_
 refine AW.sg tt_ok0 [(12, vb (y1 != 0))] [] [] 7 [] (by kernel_rfl) ?_
 refine AW.co h (by kernel_rfl) (fun c3 h => ?_) (fun c3 h => ?_)
 ·
  refine AW.sg tt_ok0 [(7, vi64 y1), (6, vb false)] [] [] 10 [] (by kernel_rfl) ?_
  refine AW.ret (AW.tr ?_)
  obtain rfl := some_inj h
  exact fn0 (.inr rfl) [] 0 (.tup [vb false, vi64 y1]) (by kernel_rfl)
 ·
  refine AW.skip (AW.tn ?_)
  refine AW.seq (AW.seq ?_)
  refine AW.join (ι := Bool) (fun v => ⟨[(1, vi64 p1), (2, vi64 p2), (3, .c (.ptr 0 3 0 0)), (27, vb v)], [(0, .box 27 [ci64 p0.False, ci64 p0.Missed, ci64 p0.True])], 1⟩) (fun v : Bool => quality_Meets_k1 p0 p1 p2 v = some r) (fun x4 h => ?_) ?_
  ·
   unfold quality_Meets_k1 at h
   refine AW.tn ?_
   refine AW.co h (by kernel_rfl) (fun c5 h => ?_) (fun c5 h => ?_)
   ·
    refine AW.sg tt_ok0 [(7, vi64 2), (6, vb false)] [] [] 3 [] (by kernel_rfl) ?_
    refine AW.ret (AW.tr ?_)
    obtain rfl := some_inj h
    exact fn0 (.inr rfl) [] 0 (.tup [vb false, vi64 2]) (by kernel_rfl)
   ·
    refine AW.skip (AW.tn (AW.seq ?_))
    refine AW.join (ι := Bool) (fun v => ⟨[(6, vb v), (7, vi64 0)], [], 0⟩) (fun v : Bool => quality_Meets_k2 v = some r) (fun x6 h => ?_) ?_
    ·
     unfold quality_Meets_k2 at h
     refine AW.tn (AW.ret ?_)
     obtain rfl := some_inj h
     exact fn0 (.inr rfl) [] 0 (.tup [vb x6, vi64 0]) (by kernel_rfl)
    ·
     obtain ⟨y7, e8, h⟩ := bnd_some h
     rcases ifs h with ⟨c9, hs⟩ | ⟨c9, hs⟩
     ·clear h; subst c9; have h := hs; clear hs
      obtain ⟨y10, e11, h⟩ := bnd_some h
      refine AW.rg tt_ok0 [(7, vi64 0), (6, vb y10)] [] [] 15 [hn, hn, hn, hn, hn, hk (quality_reaches_con p0.True p0.False p1 true e8), hn, hn, hn, hn, hn, hn, hk (quality_reaches_con p0.True p0.Missed p2 y10 e11)] (by kernel_rfl) ?_
      exact jl y10 h (conv_re [] (by kernel_rfl))
     ·clear h; subst c9; have h := hs; clear hs
      refine AW.rg tt_ok0 [(7, vi64 0), (6, vb false)] [] [] 16 [hn, hn, hn, hn, hn, hk (quality_reaches_con p0.True p0.False p1 false e8)] (by kernel_rfl) ?_
      exact jl false h (conv_re [] (by kernel_rfl))
  ·
   rcases ifs h with ⟨c12, h⟩ | ⟨c12, h⟩
   ·
    refine AW.rg tt_ok0 [(27, vb true)] [] [] 21 [hn, ht c12] (by kernel_rfl) ?_
    exact jl true h (conv_re [(0, 0)] (by kernel_rfl))
   ·
    rcases ifs h with ⟨c13, h⟩ | ⟨c13, h⟩
    ·
     refine AW.rg tt_ok0 [(27, vb true)] [] [] 21 [hn, hf c12, hn, hn, ht c13] (by kernel_rfl) ?_
     exact jl true h (conv_re [(0, 0)] (by kernel_rfl))
    ·
     rcases ifs h with ⟨c14, h⟩ | ⟨c14, h⟩
     ·
      refine AW.rg tt_ok0 [(27, vb true)] [] [] 21 [hn, hf c12, hn, hn, hf c13, hn, hn, hn, ht c14] (by kernel_rfl) ?_
      exact jl true h (conv_re [(0, 0)] (by kernel_rfl))
     ·
      refine AW.rg tt_ok0 [(27, vb (decide (p2 > 1000)))] [] [] 21 [hn, hf c12, hn, hn, hf c13, hn, hn, hn, hf c14] (by kernel_rfl) ?_
      exact jl (decide (p2 > 1000)) h (conv_re [(0, 0)] (by kernel_rfl))
/-! recordlink/recordlinklaw33.awake -/
noncomputable def rl_law33_awake_k1 (x10 : Bool) : Option Bool := some x10
noncomputable def rl_law33_awake : Option Bool := bind2 (quality_Of (⟨32768, ([58982] : List Int), ([6554] : List Int)⟩ : S_em_model) ([(⟨(⟨0, 0⟩ : S_api_Ref), (⟨0, 0⟩ : S_api_Ref), 2, 0⟩ : S_api_Candidate)] : List S_api_Candidate) ([] : List S_api_Candidate)) fun y1 y2 => (bind2 (quality_Precision y1) fun y4 y5 => (bind2 (quality_Meets y1 899 1000) fun y7 y8 => (if (y2 == 0) = true then (if (y5 == 0) = true then (if (y8 == 0) = true then (if (y1.True == 966361088) = true then (if (y1.False == 107380736) = true then (if (((y4.Num.length : Nat) : Int) == 1) = true then (if (0 : Int) < ((y4.Num.length : Nat) : Int) then (if ((y4.Num.getD 0 0) == 29491) = true then (rl_law33_awake_k1 y7) else (rl_law33_awake_k1 false)) else none) else (rl_law33_awake_k1 false)) else (rl_law33_awake_k1 false)) else (rl_law33_awake_k1 false)) else (rl_law33_awake_k1 false)) else (rl_law33_awake_k1 false)) else (rl_law33_awake_k1 false))))
set_option maxRecDepth 100000 in
theorem rl_law33_awake_con (r : Bool) (h : rl_law33_awake = some r) : Con Tryz.prog 5 [] [] (vb r) [] := by
 refine con_of tt_ok0 0 Tryz.func5 (by kernel_rfl) rfl (by kernel_rfl) (fun base X _ => AW.post ?_)
 unfold rl_law33_awake at h
 refine AW.sg tt_ok0 [] [] [] 1 [] (by kernel_rfl) ?_
 refine AW.sg tt_ok0 [(1, .c (.ptr 4 3 0 0))] [1, 2, 4] [(4, .box 24 [ci64 32768, .ref 1 1 0 (([58982] : List Int).length), .ref 2 1 0 (([6554] : List Int).length)]), (2, .row 3 false 1 ([6554] : List Int).length (Ri64 ([6554] : List Int))), (1, .row 3 false 1 ([58982] : List Int).length (Ri64 ([58982] : List Int)))] 6 [hlit 0 Ei64 1 (fun _ => rfl) ([58982] : List Int), hlit 0 Ei64 1 (fun _ => rfl) ([6554] : List Int)] (by kernel_rfl) ?_
 obtain ⟨y1, y2, e3, h⟩ := bind2_some h
 refine AW.sg tt_ok0 [(3, vi64 y2), (2, .c (.ptr 12 3 0 0))] [8, 12] [(12, .box 27 [ci64 y1.False, ci64 y1.Missed, ci64 y1.True])] 15 [hn, hn, hlit dS_api_Candidate ES_api_Candidate 6 (fun _ => rfl) ([(⟨(⟨0, 0⟩ : S_api_Ref), (⟨0, 0⟩ : S_api_Ref), 2, 0⟩ : S_api_Candidate)] : List S_api_Candidate), hg [] [] true 0 (q := ((True) ∧ (0 + ([58982] : List Int).length ≤ ([58982] : List Int).length) ∧ (0 + ([6554] : List Int).length ≤ ([6554] : List Int).length) ∧ (True)) ∧ (0 + ([(⟨(⟨0, 0⟩ : S_api_Ref), (⟨0, 0⟩ : S_api_Ref), 2, 0⟩ : S_api_Candidate)] : List S_api_Candidate).length ≤ ([(⟨(⟨0, 0⟩ : S_api_Ref), (⟨0, 0⟩ : S_api_Ref), 2, 0⟩ : S_api_Candidate)] : List S_api_Candidate).length) ∧ (True) ∧ (True)) ⟨⟨tv, le0, le0, tv⟩, le0, tv, tv⟩ (a0 := [.agg [ci64 32768, cl 1 Ri64 ([58982] : List Int), cl 1 Ri64 ([6554] : List Int)], vl 6 RS_api_Candidate ([(⟨(⟨0, 0⟩ : S_api_Ref), (⟨0, 0⟩ : S_api_Ref), 2, 0⟩ : S_api_Candidate)] : List S_api_Candidate), .c (.t (.v (.slice none 0 0)))]) (quality_Of_con (⟨32768, ([58982] : List Int), ([6554] : List Int)⟩ : S_em_model) ([(⟨(⟨0, 0⟩ : S_api_Ref), (⟨0, 0⟩ : S_api_Ref), 2, 0⟩ : S_api_Candidate)] : List S_api_Candidate) ([] : List S_api_Candidate) (y1, y2) e3) ⟨ArgLe.refl _, ArgLe.refl _, ArgLe.c (CAle.nil rfl), tv⟩ (fun _ => tv)] (by kernel_rfl) ?_
 obtain ⟨y4, y5, e6, h⟩ := bind2_some h
 refine AW.sg tt_ok0 [(5, vi64 y5), (4, .c (.ptr 19 2 0 0))] [19] [(19, .box 44 [cl 1 Ru32 y4.Num, cl 1 Ru32 y4.Den])] 22 [hn, hk (quality_Precision_con y1 (y4, y5) e6)] (by kernel_rfl) ?_
 obtain ⟨y7, y8, e9, h⟩ := bind2_some h
 refine AW.sg tt_ok0 [(7, vi64 y8), (6, vb y7)] [] [] 28 [hn, hk (quality_Meets_con y1 899 1000 (y7, y8) e9)] (by kernel_rfl) ?_
 refine AW.seq ?_
 refine AW.join (ι := Bool) (fun v => ⟨[(0, vb v)], [], 0⟩) (fun v : Bool => rl_law33_awake_k1 v = some r) (fun x10 h => ?_) ?_
 ·
  unfold rl_law33_awake_k1 at h
  refine AW.tn (AW.ret ?_)
  obtain rfl := some_inj h
  exact fn0 (.inr rfl) [] 0 (vb x10) (by kernel_rfl)
 ·
  rcases ifs h with ⟨c11, h⟩ | ⟨c11, h⟩
  ·
   rcases ifs h with ⟨c12, h⟩ | ⟨c12, h⟩
   ·
    rcases ifs h with ⟨c13, h⟩ | ⟨c13, h⟩
    ·
     rcases ifs h with ⟨c14, h⟩ | ⟨c14, h⟩
     ·
      rcases ifs h with ⟨c15, h⟩ | ⟨c15, h⟩
      ·
       rcases ifs h with ⟨c16, h⟩ | ⟨c16, h⟩
       ·
        obtain ⟨g17, h⟩ := ifc h
        rcases ifs h with ⟨c18, h⟩ | ⟨c18, h⟩
        ·
         refine AW.rg tt_ok0 [(0, vb y7)] [] [] 65 [hn, ht c11, hn, hn, ht c12, hn, hn, hn, ht c13, hn, hn, hn, hn, ht c14, hn, hn, hn, hn, ht c15, hn, hn, hn, hn, hn, ht c16, hn, hn, hn, hn, ho (p := (0 ≤ (0 : Int)) ∧ ((0 : Int) < ((y4.Num.length : Nat) : Int))) (⟨(by decide), g17⟩), hn, ht c18] (by kernel_rfl) ?_
         exact jl y7 h (conv_re [] (by kernel_rfl))
        ·
         refine AW.rg tt_ok0 [(0, vb false)] [] [] 65 [hn, ht c11, hn, hn, ht c12, hn, hn, hn, ht c13, hn, hn, hn, hn, ht c14, hn, hn, hn, hn, ht c15, hn, hn, hn, hn, hn, ht c16, hn, hn, hn, hn, ho (p := (0 ≤ (0 : Int)) ∧ ((0 : Int) < ((y4.Num.length : Nat) : Int))) (⟨(by decide), g17⟩), hn, hf c18] (by kernel_rfl) ?_
         exact jl false h (conv_re [] (by kernel_rfl))
       ·
        refine AW.rg tt_ok0 [(0, vb false)] [] [] 65 [hn, ht c11, hn, hn, ht c12, hn, hn, hn, ht c13, hn, hn, hn, hn, ht c14, hn, hn, hn, hn, ht c15, hn, hn, hn, hn, hn, hf c16] (by kernel_rfl) ?_
        exact jl false h (conv_re [] (by kernel_rfl))
      ·
       refine AW.rg tt_ok0 [(0, vb false)] [] [] 65 [hn, ht c11, hn, hn, ht c12, hn, hn, hn, ht c13, hn, hn, hn, hn, ht c14, hn, hn, hn, hn, hf c15] (by kernel_rfl) ?_
       exact jl false h (conv_re [] (by kernel_rfl))
     ·
      refine AW.rg tt_ok0 [(0, vb false)] [] [] 65 [hn, ht c11, hn, hn, ht c12, hn, hn, hn, ht c13, hn, hn, hn, hn, hf c14] (by kernel_rfl) ?_
      exact jl false h (conv_re [] (by kernel_rfl))
    ·
     refine AW.rg tt_ok0 [(0, vb false)] [] [] 65 [hn, ht c11, hn, hn, ht c12, hn, hn, hn, hf c13] (by kernel_rfl) ?_
     exact jl false h (conv_re [] (by kernel_rfl))
   ·
    refine AW.rg tt_ok0 [(0, vb false)] [] [] 65 [hn, ht c11, hn, hn, hf c12] (by kernel_rfl) ?_
    exact jl false h (conv_re [] (by kernel_rfl))
  ·
   refine AW.rg tt_ok0 [(0, vb false)] [] [] 65 [hn, hf c11] (by kernel_rfl) ?_
   exact jl false h (conv_re [] (by kernel_rfl))
/-! recordlink/recordlinkmake.Few -/
noncomputable def rl_make_Few (p0 : List Int) : Option Bool := some (decide ((p0.length : Int) ≤ 400))
set_option maxRecDepth 100000 in
theorem rl_make_Few_con (p0 : List Int) (r : Bool) (h : rl_make_Few p0 = some r) : Con Tryz.prog 6 [vl 1 Ri64 p0] [] (vb r) [] := by
 refine con_of tt_ok0 0 Tryz.func6 (by kernel_rfl) rfl (by kernel_rfl) (fun base X _ => AW.post ?_)
 unfold rl_make_Few at h
 refine AW.sg tt_ok0 [] [] [] 1 [] (by kernel_rfl) ?_
 refine AW.sg tt_ok0 [(2, vb (decide ((p0.length : Int) ≤ 400)))] [] [] 5 [] (by kernel_rfl) ?_
 refine AW.ret ?_
 obtain rfl := some_inj h
 exact fn0 (.inr rfl) [] 0 (vb (decide ((p0.length : Int) ≤ 400))) (by kernel_rfl)
structure S_recordlinkmake_Deck where
 list : List Int
 at_ : Int
 state : Int
def dS_recordlinkmake_Deck : S_recordlinkmake_Deck := ⟨([] : List Int), 0, 0⟩
instance : Inhabited S_recordlinkmake_Deck := ⟨dS_recordlinkmake_Deck⟩
/-! recordlink/recordlinkmake.New -/
noncomputable def rl_make_New (p0 : List Int) : Option S_recordlinkmake_Deck := some (⟨p0, 0, 11400714819323198485⟩ : S_recordlinkmake_Deck)
set_option maxRecDepth 100000 in
theorem rl_make_New_con (p0 : List Int) (r : S_recordlinkmake_Deck) (h : rl_make_New p0 = some r) : Con Tryz.prog 7 [vl 1 Ri64 p0] [] (.c (.ptr 0 3 0 0)) [(0, .box 75 [cl 1 Ri64 r.list, ci64 r.at_, cu64 r.state])] := by
 refine con_of tt_ok0 0 Tryz.func7 (by kernel_rfl) rfl (by kernel_rfl) (fun base X _ => AW.post ?_)
 unfold rl_make_New at h
 refine AW.sg tt_ok0 [] [] [] 1 [] (by kernel_rfl) ?_
 refine AW.sg tt_ok0 [(2, .c (.ptr 3 3 0 0))] [3] [(3, .box 75 [cl 1 Ri64 p0, ci64 0, cu64 11400714819323198485])] 5 [] (by kernel_rfl) ?_
 refine AW.ret ?_
 obtain rfl := some_inj h
 exact fn0 (.inr rfl) [(0, 3)] 1 (.c (.ptr 3 3 0 0)) (by kernel_rfl)
/-! (*recordlink/recordlinkmake.Deck).Word -/
noncomputable def rl_make_Deck_Word_k1 (p0 : S_recordlinkmake_Deck) (x1 : Int) (x2 : Int) : Option (Int × S_recordlinkmake_Deck) := (some (u64.wrap ((u64.wrap ((u64.wrap (p0.state + x1)) * 6364136223846793005)) + 1442695040888963407))).bind fun z3 => ((some (u64.wrap ((ixor .u64 z3 (ishr .u64 z3 33)) * 18397679294719823053))).bind fun z5 => (some (ixor .u64 z5 (ishr .u64 z5 29), (⟨p0.list, x2, z3⟩ : S_recordlinkmake_Deck))))
noncomputable def rl_make_Deck_Word (p0 : S_recordlinkmake_Deck) : Option (Int × S_recordlinkmake_Deck) := if (decide (p0.at_ < ((p0.list.length : Nat) : Int))) = true then (if 0 ≤ p0.at_ then (if p0.at_ < ((p0.list.length : Nat) : Int) then (rl_make_Deck_Word_k1 p0 (u64.wrap (p0.list.getD p0.at_.toNat 0)) (i64.wrap (p0.at_ + 1))) else none) else none) else (rl_make_Deck_Word_k1 p0 0 p0.at_)
set_option maxRecDepth 100000 in
theorem rl_make_Deck_Word_con (p0 : S_recordlinkmake_Deck) (r : Int × S_recordlinkmake_Deck) (h : rl_make_Deck_Word p0 = some r) : Con Tryz.prog 38 [.c (.ptr 0 3 0 0)] [(0, .box 75 [cl 1 Ri64 p0.list, ci64 p0.at_, cu64 p0.state])] (vu64 r.1) [(0, .box 75 [cl 1 Ri64 r.2.list, ci64 r.2.at_, cu64 r.2.state])] := by
 refine con_of tt_ok0 1 Tryz.func38 (by kernel_rfl) rfl (by kernel_rfl) (fun base X _ => AW.post ?_)
 unfold rl_make_Deck_Word at h
 refine AW.sg tt_ok0 [] [] [] 2 [] (by kernel_rfl) ?_
 refine AW.sg tt_ok0 [(3, vu64 0)] [] [] 3 [] (by kernel_rfl) ?_
 refine AW.seq ?_
 refine AW.join (ι := Int × Int) (fun v => ⟨[(0, .c (.ptr 0 3 0 0)), (3, vu64 v.1)], [(0, .box 75 [cl 1 Ri64 p0.list, ci64 v.2, cu64 p0.state])], 1⟩) (fun v : Int × Int => rl_make_Deck_Word_k1 p0 v.1 v.2 = some r) (fun v h => ?_) ?_
 ·
  obtain ⟨x1, x2⟩ := v
  replace h : rl_make_Deck_Word_k1 p0 x1 x2 = some r := h
  unfold rl_make_Deck_Word_k1 at h
  refine AW.tn ?_
  obtain ⟨z3, n4, h⟩ := bnd_some h
  replace n4 := some_inj n4
  refine AW.sg tt_ok0 [] [0] [(0, .box 75 [cl 1 Ri64 p0.list, ci64 x2, cu64 z3])] 13 [] (by subst n4; kernel_rfl) ?_
  refine AW.sd tt_ok0 mo0 [] [(4, vu64 (ixor .u64 z3 (ishr .u64 z3 33)))] [] 24 [hn, hn, hn, hn, hn, hn, hn, hn, ho (p := 0 ≤ (33 : Int)) (by decide)] (by kernel_rfl) ?_
  obtain ⟨z5, n6, h⟩ := bnd_some h
  replace n6 := some_inj n6
  refine AW.sg tt_ok0 [(4, vu64 z5)] [] [] 27 [] (by subst n6; kernel_rfl) ?_
  refine AW.sg tt_ok0 [(2, vu64 (ixor .u64 z5 (ishr .u64 z5 29)))] [] [] 32 [hn, hn, ho (p := 0 ≤ (29 : Int)) (by decide)] (by kernel_rfl) ?_
  refine AW.ret ?_
  obtain rfl := some_inj h
  exact fn0 (.inr rfl) [(0, 0)] 1 (vu64 (ixor .u64 z5 (ishr .u64 z5 29))) (by kernel_rfl)
 ·
  refine AW.sd tt_ok0 mo0 [] [(14, vb (decide (p0.at_ < ((p0.list.length : Nat) : Int))))] [] 13 [] (by kernel_rfl) ?_
  refine AW.co h (by kernel_rfl) (fun c7 h => ?_) (fun c7 h => ?_)
  ·
   obtain ⟨g8, g9, h⟩ := ifd h
   refine AW.sd tt_ok0 mo0 [] [(3, vu64 (u64.wrap (p0.list.getD p0.at_.toNat 0)))] [] 25 [hn, hn, hn, hn, hn, hn, hn, hn, hq g8 g9] (by kernel_rfl) ?_
   refine AW.rg tt_ok0 [] [0] [(0, .box 75 [cl 1 Ri64 p0.list, ci64 (i64.wrap (p0.at_ + 1)), cu64 p0.state])] 33 [] (by kernel_rfl) ?_
   exact jl (u64.wrap (p0.list.getD p0.at_.toNat 0), i64.wrap (p0.at_ + 1)) h (conv_re [(0, 0)] (by kernel_rfl))
  ·
   refine AW.skip ?_
   exact jl (0, p0.at_) h (conv_re [(0, 0)] (by kernel_rfl))
/-! (*recordlink/recordlinkmake.Deck).Next -/
noncomputable def rl_make_Deck_Next (p0 : S_recordlinkmake_Deck) (p1 : Int) : Option (Int × S_recordlinkmake_Deck) := if (decide (p1 < 1)) = true then (some (0, p0)) else (bind2 (rl_make_Deck_Word p0) fun y2 y3 => (if p1 ≠ 0 then (some (((i64.wrap (ishr .u64 y2 1)).tmod p1), y3)) else none))
set_option maxRecDepth 100000 in
theorem rl_make_Deck_Next_con (p0 : S_recordlinkmake_Deck) (p1 : Int) (r : Int × S_recordlinkmake_Deck) (h : rl_make_Deck_Next p0 p1 = some r) : Con Tryz.prog 8 [.c (.ptr 0 3 0 0), vi64 p1] [(0, .box 75 [cl 1 Ri64 p0.list, ci64 p0.at_, cu64 p0.state])] (vi64 r.1) [(0, .box 75 [cl 1 Ri64 r.2.list, ci64 r.2.at_, cu64 r.2.state])] := by
 refine con_of tt_ok0 1 Tryz.func8 (by kernel_rfl) rfl (by kernel_rfl) (fun base X _ => AW.post ?_)
 unfold rl_make_Deck_Next at h
 refine AW.sg tt_ok0 [] [] [] 2 [] (by kernel_rfl) ?_
 refine AW.seq ?_
 refine AW.sg tt_ok0 [(6, vb (decide (p1 < 1)))] [] [] 4 [] (by kernel_rfl) ?_
 refine AW.co h (by kernel_rfl) (fun c1 h => ?_) (fun c1 h => ?_)
 ·
  refine AW.sg tt_ok0 [(4, vi64 0)] [] [] 5 [] (by kernel_rfl) ?_
  refine AW.ret (AW.tr ?_)
  obtain rfl := some_inj h
  exact fn0 (.inr rfl) [(0, 0)] 1 (vi64 0) (by kernel_rfl)
 ·
  refine AW.skip (AW.tn ?_)
  obtain ⟨y2, y3, e4, h⟩ := bind2_some h
  obtain ⟨g5, h⟩ := ifc h
  refine AW.sg tt_ok0 [(4, vi64 ((i64.wrap (ishr .u64 y2 1)).tmod p1))] [0] [(0, .box 75 [cl 1 Ri64 y3.list, ci64 y3.at_, cu64 y3.state])] 10 [hn, hl [0] [] 0 (rl_make_Deck_Word_con p0 (y2, y3) e4), ho (p := 0 ≤ (1 : Int)) (by decide), hn, hn, ho g5] (by kernel_rfl) ?_
  refine AW.ret ?_
  obtain rfl := some_inj h
  exact fn0 (.inr rfl) [(0, 0)] 1 (vi64 ((i64.wrap (ishr .u64 y2 1)).tmod p1)) (by kernel_rfl)
/-! (*recordlink/recordlinkmake.Deck).One -/
noncomputable def rl_make_Deck_One (p0 : S_recordlinkmake_Deck) (p1 : Int) : Option (Bool × S_recordlinkmake_Deck) := bind2 (rl_make_Deck_Next p0 p1) fun y1 y2 => (some ((y1 == 0), y2))
set_option maxRecDepth 100000 in
theorem rl_make_Deck_One_con (p0 : S_recordlinkmake_Deck) (p1 : Int) (r : Bool × S_recordlinkmake_Deck) (h : rl_make_Deck_One p0 p1 = some r) : Con Tryz.prog 41 [.c (.ptr 0 3 0 0), vi64 p1] [(0, .box 75 [cl 1 Ri64 p0.list, ci64 p0.at_, cu64 p0.state])] (vb r.1) [(0, .box 75 [cl 1 Ri64 r.2.list, ci64 r.2.at_, cu64 r.2.state])] := by
 refine con_of tt_ok0 1 Tryz.func41 (by kernel_rfl) rfl (by kernel_rfl) (fun base X _ => AW.post ?_)
 unfold rl_make_Deck_One at h
 refine AW.sg tt_ok0 [] [] [] 2 [] (by kernel_rfl) ?_
 obtain ⟨y1, y2, e3, h⟩ := bind2_some h
 refine AW.sg tt_ok0 [(4, vb (y1 == 0))] [0] [(0, .box 75 [cl 1 Ri64 y2.list, ci64 y2.at_, cu64 y2.state])] 6 [hn, hn, hl [0] [] 0 (rl_make_Deck_Next_con p0 p1 (y1, y2) e3)] (by kernel_rfl) ?_
 refine AW.ret ?_
 obtain rfl := some_inj h
 exact fn0 (.inr rfl) [(0, 0)] 1 (vb (y1 == 0)) (by kernel_rfl)
end Go.Proofs.YtilpgjoidgfbiaaGreat
