/- It is proved that the statement QualityExact returns true for every input and leaves its arguments as they were; no condition. -/
import Derived.Test.YtilpgjoidgfbiaaGreatRows
import Derived.Test.YtilpgjoidgfbiaaGreatLQExact
import Derived.Test.YtilpgjoidgfbiaaGreatGL3
import Derived.Test.YtilpgjoidgfbiaaGreatAr
namespace Go.Proofs.YtilpgjoidgfbiaaGreat.qualityExact
open Go.ChangeShapes Go.WideShapes Go.ChangeAt Go.RowKit Vm
set_option linter.unusedVariables false

theorem own : ownKnob Tryz.prog.godebug = none := by kernel_rfl
theorem laidOut : laidOutB Tryz.prog = true := by kernel_rfl
set_option maxRecDepth 100000 in
theorem lifted (os : Os) (started : os.Started) (H : Type) (enc : TypeId × Value → H) :
    ReturnsInHanded {} Tryz.checked os 3 .any (Rows.qualityExactSpec.pre6 enc Tryz.prog Tryz.f3 Rows.qualityExactRow.domain false) (Rows.qualityExactSpec.post enc Tryz.prog Tryz.f3 false true false false) := by
  refine returnsInHanded_of_change (C := Tryz.checked) own started (by kernel_rfl) Tryz.func3
    (ChangeSpec.witness6 (enc := enc) (C := Tryz.checked) false ⟨#[], #[.slice none 0 0, .agg #[.int .i64 0, .slice none 0 0, .slice none 0 0], .slice none 0 0, .slice none 0 0, .agg #[.int .i64 0, .int .i64 0, .int .i64 0], .agg #[.int .i64 0, .int .i64 0, .int .i64 0], .int .i64 0, .int .i64 0], []⟩ 8 (by kernel_rfl) (by kernel_rfl) (by kernel_rfl) (by kernel_rfl)) ?_
  intro W base args ds gs before hval0 hW hcnd _
  have hval : ∀ (j : Nat) t v, Tryz.f3.params[j]? = some t → args[j]? = some v → Value.okWide Tryz.prog W .any base t v := hval0
  have hW' := hW
  obtain ⟨p, q, hA0, hV, rfl, hfz, hnd⟩ := hW
  have hA : DataW.TrodAll enc Tryz.prog W 0 (fun _ => true) true Tryz.f3.params.toList args.toList ds p := hA0
  rw [Tryz.params3] at hA hval
  obtain ⟨v0, vs0, d0, ds0, p0, q0, hargs, rfl, rfl, h0, r0⟩ := trodAll_cons hA
  obtain ⟨v1, vs1, d1, ds1, p1, q1, rfl, rfl, rfl, h1, r1⟩ := trodAll_cons r0
  obtain ⟨v2, vs2, d2, ds2, p2, q2, rfl, rfl, rfl, h2, r2⟩ := trodAll_cons r1
  obtain ⟨v3, vs3, d3, ds3, p3, q3, rfl, rfl, rfl, h3, r3⟩ := trodAll_cons r2
  obtain ⟨v4, vs4, d4, ds4, p4, q4, rfl, rfl, rfl, h4, r4⟩ := trodAll_cons r3
  obtain ⟨v5, vs5, d5, ds5, p5, q5, rfl, rfl, rfl, h5, r5⟩ := trodAll_cons r4
  obtain ⟨v6, vs6, d6, ds6, p6, q6, rfl, rfl, rfl, h6, r6⟩ := trodAll_cons r5
  obtain ⟨v7, vs7, d7, ds7, p7, q7, rfl, rfl, rfl, h7, r7⟩ := trodAll_cons r6
  obtain ⟨rfl, rfl, rfl⟩ := trodAll_nil r7
  obtain rfl : args = #[v0, v1, v2, v3, v4, v5, v6, v7] := by cases args; simp_all
  obtain ⟨rfl, rfl⟩ := trodVars_none hV
  have k0 := h0
  have lt0 : ∀ x ∈ p0, x.block < W.heap.size := by obtain ⟨m, hm⟩ := k0; exact DataW.trod_lt m _ _ _ hm
  obtain ⟨x0, o0, R0⟩ := Arg.one (c := fun x => .tree x.length 1 (Ri64 x)) (arg_sliceT (sz := 1) 0 Tryz.underlying22 (by kernel_rfl) (arg_intT (k := .i64) Tryz.underlying3)) h0 (one_slice Tryz.underlying22 (hval 0 22 v0 rfl rfl))
  have k1 := h1
  have lt1 : ∀ x ∈ p1, x.block < W.heap.size := by obtain ⟨m, hm⟩ := k1; exact DataW.trod_lt m _ _ _ hm
  obtain ⟨x1, o1, R1⟩ := Arg.agg ((arg_structT Tryz.underlying24 (by kernel_rfl) (argF_cons (sz := 1) rfl (by kernel_rfl) (arg_intT (k := .i64) Tryz.underlying3) (argF_cons (sz := 1) rfl (by kernel_rfl) (arg_sliceT (sz := 1) 0 Tryz.underlying22 (by kernel_rfl) (arg_intT (k := .i64) Tryz.underlying3)) (argF_cons (sz := 1) rfl (by kernel_rfl) (arg_sliceT (sz := 1) 0 Tryz.underlying22 (by kernel_rfl) (arg_intT (k := .i64) Tryz.underlying3)) (argF_nil))))).map (E' := fun x => [.v (.int .i64 x.Prior), .tree x.Match.length 1 (Ri64 x.Match), .tree x.Random.length 1 (Ri64 x.Random)]) (ok' := fun x => (IntKind.i64.min ≤ x.Prior ∧ x.Prior ≤ IntKind.i64.max) ∧ ((∀ y ∈ x.Match, IntKind.i64.min ≤ y ∧ y ≤ IntKind.i64.max) ∧ x.Match.length ≤ maxLen) ∧ ((∀ y ∈ x.Random, IntKind.i64.min ≤ y ∧ y ≤ IntKind.i64.max) ∧ x.Random.length ≤ maxLen) ∧ True) (fun x => (⟨x.1, x.2.1, x.2.2.1⟩ : S_em_model)) (fun x => rfl) (fun x h => h)) h1 (agg_struct Tryz.underlying24 (hval 1 24 v1 rfl rfl))
  have k2 := h2
  have lt2 : ∀ x ∈ p2, x.block < W.heap.size := by obtain ⟨m, hm⟩ := k2; exact DataW.trod_lt m _ _ _ hm
  obtain ⟨x2, o2, R2⟩ := Arg.one (c := fun x => .tree x.length 6 (RS_api_Candidate x)) (arg_sliceT (sz := 6) dS_api_Candidate Tryz.underlying25 (by kernel_rfl) ((arg_structT Tryz.underlying71 (by kernel_rfl) (argF_cons (sz := 2) rfl (by kernel_rfl) ((arg_structT Tryz.underlying69 (by kernel_rfl) (argF_cons (sz := 1) rfl (by kernel_rfl) (arg_intT (k := .i64) Tryz.underlying3) (argF_cons (sz := 1) rfl (by kernel_rfl) (arg_intT (k := .i64) Tryz.underlying3) (argF_nil)))).map (E' := fun x => [.v (.int .i64 x.Registry), .v (.int .i64 x.ID)]) (ok' := fun x => (IntKind.i64.min ≤ x.Registry ∧ x.Registry ≤ IntKind.i64.max) ∧ (IntKind.i64.min ≤ x.ID ∧ x.ID ≤ IntKind.i64.max) ∧ True) (fun x => (⟨x.1, x.2.1⟩ : S_api_Ref)) (fun x => rfl) (fun x h => h)) (argF_cons (sz := 2) rfl (by kernel_rfl) ((arg_structT Tryz.underlying69 (by kernel_rfl) (argF_cons (sz := 1) rfl (by kernel_rfl) (arg_intT (k := .i64) Tryz.underlying3) (argF_cons (sz := 1) rfl (by kernel_rfl) (arg_intT (k := .i64) Tryz.underlying3) (argF_nil)))).map (E' := fun x => [.v (.int .i64 x.Registry), .v (.int .i64 x.ID)]) (ok' := fun x => (IntKind.i64.min ≤ x.Registry ∧ x.Registry ≤ IntKind.i64.max) ∧ (IntKind.i64.min ≤ x.ID ∧ x.ID ≤ IntKind.i64.max) ∧ True) (fun x => (⟨x.1, x.2.1⟩ : S_api_Ref)) (fun x => rfl) (fun x h => h)) (argF_cons (sz := 1) rfl (by kernel_rfl) (arg_intT (k := .i64) Tryz.underlying3) (argF_cons (sz := 1) rfl (by kernel_rfl) (arg_intT (k := .i64) Tryz.underlying3) (argF_nil)))))).map (E' := fun x => [.v (.int .i64 x.A.Registry), .v (.int .i64 x.A.ID), .v (.int .i64 x.B.Registry), .v (.int .i64 x.B.ID), .v (.int .i64 x.Pattern), .v (.int .i64 x.Weight)]) (ok' := fun x => ((IntKind.i64.min ≤ x.A.Registry ∧ x.A.Registry ≤ IntKind.i64.max) ∧ (IntKind.i64.min ≤ x.A.ID ∧ x.A.ID ≤ IntKind.i64.max) ∧ True) ∧ ((IntKind.i64.min ≤ x.B.Registry ∧ x.B.Registry ≤ IntKind.i64.max) ∧ (IntKind.i64.min ≤ x.B.ID ∧ x.B.ID ≤ IntKind.i64.max) ∧ True) ∧ (IntKind.i64.min ≤ x.Pattern ∧ x.Pattern ≤ IntKind.i64.max) ∧ (IntKind.i64.min ≤ x.Weight ∧ x.Weight ≤ IntKind.i64.max) ∧ True) (fun x => (⟨x.1, x.2.1, x.2.2.1, x.2.2.2.1⟩ : S_api_Candidate)) (fun x => rfl) (fun x h => h))) h2 (one_slice Tryz.underlying25 (hval 2 25 v2 rfl rfl))
  have k3 := h3
  have lt3 : ∀ x ∈ p3, x.block < W.heap.size := by obtain ⟨m, hm⟩ := k3; exact DataW.trod_lt m _ _ _ hm
  obtain ⟨x3, o3, R3⟩ := Arg.one (c := fun x => .tree x.length 6 (RS_api_Candidate x)) (arg_sliceT (sz := 6) dS_api_Candidate Tryz.underlying25 (by kernel_rfl) ((arg_structT Tryz.underlying71 (by kernel_rfl) (argF_cons (sz := 2) rfl (by kernel_rfl) ((arg_structT Tryz.underlying69 (by kernel_rfl) (argF_cons (sz := 1) rfl (by kernel_rfl) (arg_intT (k := .i64) Tryz.underlying3) (argF_cons (sz := 1) rfl (by kernel_rfl) (arg_intT (k := .i64) Tryz.underlying3) (argF_nil)))).map (E' := fun x => [.v (.int .i64 x.Registry), .v (.int .i64 x.ID)]) (ok' := fun x => (IntKind.i64.min ≤ x.Registry ∧ x.Registry ≤ IntKind.i64.max) ∧ (IntKind.i64.min ≤ x.ID ∧ x.ID ≤ IntKind.i64.max) ∧ True) (fun x => (⟨x.1, x.2.1⟩ : S_api_Ref)) (fun x => rfl) (fun x h => h)) (argF_cons (sz := 2) rfl (by kernel_rfl) ((arg_structT Tryz.underlying69 (by kernel_rfl) (argF_cons (sz := 1) rfl (by kernel_rfl) (arg_intT (k := .i64) Tryz.underlying3) (argF_cons (sz := 1) rfl (by kernel_rfl) (arg_intT (k := .i64) Tryz.underlying3) (argF_nil)))).map (E' := fun x => [.v (.int .i64 x.Registry), .v (.int .i64 x.ID)]) (ok' := fun x => (IntKind.i64.min ≤ x.Registry ∧ x.Registry ≤ IntKind.i64.max) ∧ (IntKind.i64.min ≤ x.ID ∧ x.ID ≤ IntKind.i64.max) ∧ True) (fun x => (⟨x.1, x.2.1⟩ : S_api_Ref)) (fun x => rfl) (fun x h => h)) (argF_cons (sz := 1) rfl (by kernel_rfl) (arg_intT (k := .i64) Tryz.underlying3) (argF_cons (sz := 1) rfl (by kernel_rfl) (arg_intT (k := .i64) Tryz.underlying3) (argF_nil)))))).map (E' := fun x => [.v (.int .i64 x.A.Registry), .v (.int .i64 x.A.ID), .v (.int .i64 x.B.Registry), .v (.int .i64 x.B.ID), .v (.int .i64 x.Pattern), .v (.int .i64 x.Weight)]) (ok' := fun x => ((IntKind.i64.min ≤ x.A.Registry ∧ x.A.Registry ≤ IntKind.i64.max) ∧ (IntKind.i64.min ≤ x.A.ID ∧ x.A.ID ≤ IntKind.i64.max) ∧ True) ∧ ((IntKind.i64.min ≤ x.B.Registry ∧ x.B.Registry ≤ IntKind.i64.max) ∧ (IntKind.i64.min ≤ x.B.ID ∧ x.B.ID ≤ IntKind.i64.max) ∧ True) ∧ (IntKind.i64.min ≤ x.Pattern ∧ x.Pattern ≤ IntKind.i64.max) ∧ (IntKind.i64.min ≤ x.Weight ∧ x.Weight ≤ IntKind.i64.max) ∧ True) (fun x => (⟨x.1, x.2.1, x.2.2.1, x.2.2.2.1⟩ : S_api_Candidate)) (fun x => rfl) (fun x h => h))) h3 (one_slice Tryz.underlying25 (hval 3 25 v3 rfl rfl))
  have k4 := h4
  have lt4 : ∀ x ∈ p4, x.block < W.heap.size := by obtain ⟨m, hm⟩ := k4; exact DataW.trod_lt m _ _ _ hm
  obtain ⟨x4, o4, R4⟩ := Arg.agg ((arg_structT Tryz.underlying27 (by kernel_rfl) (argF_cons (sz := 1) rfl (by kernel_rfl) (arg_intT (k := .i64) Tryz.underlying3) (argF_cons (sz := 1) rfl (by kernel_rfl) (arg_intT (k := .i64) Tryz.underlying3) (argF_cons (sz := 1) rfl (by kernel_rfl) (arg_intT (k := .i64) Tryz.underlying3) (argF_nil))))).map (E' := fun x => [.v (.int .i64 x.False), .v (.int .i64 x.Missed), .v (.int .i64 x.True)]) (ok' := fun x => (IntKind.i64.min ≤ x.False ∧ x.False ≤ IntKind.i64.max) ∧ (IntKind.i64.min ≤ x.Missed ∧ x.Missed ≤ IntKind.i64.max) ∧ (IntKind.i64.min ≤ x.True ∧ x.True ≤ IntKind.i64.max) ∧ True) (fun x => (⟨x.1, x.2.1, x.2.2.1⟩ : S_api_Estimate)) (fun x => rfl) (fun x h => h)) h4 (agg_struct Tryz.underlying27 (hval 4 27 v4 rfl rfl))
  have k5 := h5
  have lt5 : ∀ x ∈ p5, x.block < W.heap.size := by obtain ⟨m, hm⟩ := k5; exact DataW.trod_lt m _ _ _ hm
  obtain ⟨x5, o5, R5⟩ := Arg.agg ((arg_structT Tryz.underlying27 (by kernel_rfl) (argF_cons (sz := 1) rfl (by kernel_rfl) (arg_intT (k := .i64) Tryz.underlying3) (argF_cons (sz := 1) rfl (by kernel_rfl) (arg_intT (k := .i64) Tryz.underlying3) (argF_cons (sz := 1) rfl (by kernel_rfl) (arg_intT (k := .i64) Tryz.underlying3) (argF_nil))))).map (E' := fun x => [.v (.int .i64 x.False), .v (.int .i64 x.Missed), .v (.int .i64 x.True)]) (ok' := fun x => (IntKind.i64.min ≤ x.False ∧ x.False ≤ IntKind.i64.max) ∧ (IntKind.i64.min ≤ x.Missed ∧ x.Missed ≤ IntKind.i64.max) ∧ (IntKind.i64.min ≤ x.True ∧ x.True ≤ IntKind.i64.max) ∧ True) (fun x => (⟨x.1, x.2.1, x.2.2.1⟩ : S_api_Estimate)) (fun x => rfl) (fun x h => h)) h5 (agg_struct Tryz.underlying27 (hval 5 27 v5 rfl rfl))
  have k6 := h6
  have lt6 : ∀ x ∈ p6, x.block < W.heap.size := by obtain ⟨m, hm⟩ := k6; exact DataW.trod_lt m _ _ _ hm
  obtain ⟨x6, o6, R6⟩ := Arg.one (arg_intT (k := .i64) Tryz.underlying3) h6 (one_int Tryz.underlying3 (hval 6 3 v6 rfl rfl) h6)
  have k7 := h7
  have lt7 : ∀ x ∈ p7, x.block < W.heap.size := by obtain ⟨m, hm⟩ := k7; exact DataW.trod_lt m _ _ _ hm
  obtain ⟨x7, o7, R7⟩ := Arg.one (arg_intT (k := .i64) Tryz.underlying3) h7 (one_int Tryz.underlying3 (hval 7 3 v7 rfl rfl) h7)
  clear hA0 hval0
  refine (law_calls (rl_law33_QualityExact_con x0 x1 x2 x3 x4 x5 x6 x7 true (qexact_law x0 x1 x2 x3 x4 x5 x6 x7)) W #[v0, v1, v2, v3, v4, v5, v6, v7] ⟨R0, R1, R2, R3, R4, R5, R6, R7, trivial⟩).mono fun e W' ⟨he, bel⟩ => ?_
  subst he
  exact ⟨_, rfl, _, _, _, [], _, [], hW', trodAll_mk1 (shut_bool Tryz.underlying4 _), (trodAll_cons_mk (Below.trod laidOut (by kernel_rfl) (of_decide_eq_true (by kernel_rfl)) k0 bel lt0) (trodAll_cons_mk (Below.trod laidOut (by kernel_rfl) (of_decide_eq_true (by kernel_rfl)) k1 bel lt1) (trodAll_cons_mk (Below.trod laidOut (by kernel_rfl) (of_decide_eq_true (by kernel_rfl)) k2 bel lt2) (trodAll_cons_mk (Below.trod laidOut (by kernel_rfl) (of_decide_eq_true (by kernel_rfl)) k3 bel lt3) (trodAll_cons_mk (Below.trod laidOut (by kernel_rfl) (of_decide_eq_true (by kernel_rfl)) k4 bel lt4) (trodAll_cons_mk (Below.trod laidOut (by kernel_rfl) (of_decide_eq_true (by kernel_rfl)) k5 bel lt5) (trodAll_cons_mk (Below.trod laidOut (by kernel_rfl) (of_decide_eq_true (by kernel_rfl)) k6 bel lt6) (trodAll_cons_mk (Below.trod laidOut (by kernel_rfl) (of_decide_eq_true (by kernel_rfl)) k7 bel lt7) trodAll_mk0)))))))), rfl, bel.frame _, fun h => by cases h⟩

theorem over : Rows.qualityExactRow.holds Tryz.pinned (OpenSpec.ofChange Rows.qualityExactSpec) :=
  OpenClaim.holds_of_wide 3 Tryz.f3 rfl rfl rfl rfl rfl rfl rfl ⟨rfl, rfl, rfl, rfl, rfl⟩ rfl rfl rfl rfl rfl (by kernel_rfl) Tryz.func3 (by kernel_rfl)
    (of_decide_eq_true (by kernel_rfl)) (by unfold Func.isWrapper; first | (rw [if_pos (by decide +kernel)]; kernel_rfl) | (rw [if_neg (by decide +kernel)]; exact ⟨rfl, rfl⟩))
    (fun os started H enc _ => lifted os started H enc)

theorem proved : Rows.QualityExactSaid := over
end Go.Proofs.YtilpgjoidgfbiaaGreat.qualityExact
