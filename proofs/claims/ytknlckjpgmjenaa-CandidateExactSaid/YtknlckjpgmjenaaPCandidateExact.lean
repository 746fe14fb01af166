/- It is proved that the statement CandidateExact returns true for every input and leaves its arguments as they were; no condition. -/
import Derived.Test.YtknlckjpgmjenaaRows
import Derived.Test.YtknlckjpgmjenaaLCExact
import Derived.Test.YtknlckjpgmjenaaGL6
import Derived.Test.YtknlckjpgmjenaaAr
namespace Go.Proofs.Ytknlckjpgmjenaa.candidateExact
open Go.ChangeShapes Go.WideShapes Go.ChangeAt Go.RowKit Vm
set_option linter.unusedVariables false

theorem own : ownKnob Try.prog.godebug = none := by kernel_rfl
theorem laidOut : laidOutB Try.prog = true := by kernel_rfl
set_option maxRecDepth 100000 in
theorem lifted (os : Os) (started : os.Started) (H : Type) (enc : TypeId × Value → H) :
    ReturnsInHanded {} Try.checked os 6 .any (Rows.candidateExactSpec.pre6 enc Try.prog Try.f6 Rows.candidateExactRow.domain false) (Rows.candidateExactSpec.post enc Try.prog Try.f6 false true false false) := by
  refine returnsInHanded_of_change (C := Try.checked) own started (by kernel_rfl) Try.func6
    (ChangeSpec.witness6 (enc := enc) (C := Try.checked) false ⟨#[], #[.slice none 0 0, .slice none 0 0, .int .i64 0, .int .i64 0, .int .i64 0, .slice none 0 0], []⟩ 8 (by kernel_rfl) (by kernel_rfl) (by kernel_rfl) (by kernel_rfl)) ?_
  intro W base args ds gs before hval0 hW hcnd _
  have hval : ∀ (j : Nat) t v, Try.f6.params[j]? = some t → args[j]? = some v → Value.okWide Try.prog W .any base t v := hval0
  have hW' := hW
  obtain ⟨p, q, hA0, hV, rfl, hfz, hnd⟩ := hW
  have hA : DataW.TrodAll enc Try.prog W 0 (fun _ => true) true Try.f6.params.toList args.toList ds p := hA0
  rw [Try.params6] at hA hval
  obtain ⟨v0, vs0, d0, ds0, p0, q0, hargs, rfl, rfl, h0, r0⟩ := trodAll_cons hA
  obtain ⟨v1, vs1, d1, ds1, p1, q1, rfl, rfl, rfl, h1, r1⟩ := trodAll_cons r0
  obtain ⟨v2, vs2, d2, ds2, p2, q2, rfl, rfl, rfl, h2, r2⟩ := trodAll_cons r1
  obtain ⟨v3, vs3, d3, ds3, p3, q3, rfl, rfl, rfl, h3, r3⟩ := trodAll_cons r2
  obtain ⟨v4, vs4, d4, ds4, p4, q4, rfl, rfl, rfl, h4, r4⟩ := trodAll_cons r3
  obtain ⟨v5, vs5, d5, ds5, p5, q5, rfl, rfl, rfl, h5, r5⟩ := trodAll_cons r4
  obtain ⟨rfl, rfl, rfl⟩ := trodAll_nil r5
  obtain rfl : args = #[v0, v1, v2, v3, v4, v5] := by cases args; simp_all
  obtain ⟨rfl, rfl⟩ := trodVars_none hV
  have k0 := h0
  have lt0 : ∀ x ∈ p0, x.block < W.heap.size := by obtain ⟨m, hm⟩ := k0; exact DataW.trod_lt m _ _ _ hm
  obtain ⟨x0, o0, R0⟩ := Arg.one (c := fun x => .tree x.length 1 (Ri64 x)) (arg_sliceT (sz := 1) 0 Try.underlying22 (by kernel_rfl) (arg_intT (k := .i64) Try.underlying3)) h0 (one_slice Try.underlying22 (hval 0 22 v0 rfl rfl))
  have k1 := h1
  have lt1 : ∀ x ∈ p1, x.block < W.heap.size := by obtain ⟨m, hm⟩ := k1; exact DataW.trod_lt m _ _ _ hm
  obtain ⟨x1, o1, R1⟩ := Arg.one (c := fun x => .tree x.length 5 (RS_api_Sent x)) (arg_sliceT (sz := 5) dS_api_Sent Try.underlying37 (by kernel_rfl) ((arg_structT Try.underlying44 (by kernel_rfl) (argF_cons (sz := 3) rfl (by kernel_rfl) ((arg_structT Try.underlying40 (by kernel_rfl) (argF_cons (sz := 1) rfl (by kernel_rfl) (arg_intT (k := .i64) Try.underlying3) (argF_cons (sz := 1) rfl (by kernel_rfl) (arg_intT (k := .i64) Try.underlying3) (argF_cons (sz := 1) rfl (by kernel_rfl) (arg_sliceT (sz := 2) dS_api_Bits Try.underlying38 (by kernel_rfl) ((arg_structT Try.underlying84 (by kernel_rfl) (argF_cons (sz := 1) rfl (by kernel_rfl) (arg_intT (k := .i64) Try.underlying3) (argF_cons (sz := 1) rfl (by kernel_rfl) (arg_sliceT (sz := 1) 0 Try.underlying41 (by kernel_rfl) (arg_intT (k := .u64) Try.underlying45)) (argF_nil)))).map (E' := fun x => [.v (.int .i64 x.Length), .tree x.Words.length 1 (Ru64 x.Words)]) (ok' := fun x => (IntKind.i64.min ≤ x.Length ∧ x.Length ≤ IntKind.i64.max) ∧ ((∀ y ∈ x.Words, IntKind.u64.min ≤ y ∧ y ≤ IntKind.u64.max) ∧ x.Words.length ≤ maxLen) ∧ True) (fun x => (⟨x.1, x.2.1⟩ : S_api_Bits)) (fun x => rfl) (fun x h => h))) (argF_nil))))).map (E' := fun x => [.v (.int .i64 x.ID), .v (.int .i64 x.Version), .tree x.Fields.length 2 (RS_api_Bits x.Fields)]) (ok' := fun x => (IntKind.i64.min ≤ x.ID ∧ x.ID ≤ IntKind.i64.max) ∧ (IntKind.i64.min ≤ x.Version ∧ x.Version ≤ IntKind.i64.max) ∧ ((∀ y ∈ x.Fields, (IntKind.i64.min ≤ y.Length ∧ y.Length ≤ IntKind.i64.max) ∧ ((∀ y1 ∈ y.Words, IntKind.u64.min ≤ y1 ∧ y1 ≤ IntKind.u64.max) ∧ y.Words.length ≤ maxLen) ∧ True) ∧ x.Fields.length ≤ maxLen) ∧ True) (fun x => (⟨x.1, x.2.1, x.2.2.1⟩ : S_api_Encoded)) (fun x => rfl) (fun x h => h)) (argF_cons (sz := 1) rfl (by kernel_rfl) (arg_sliceT (sz := 1) 0 Try.underlying41 (by kernel_rfl) (arg_intT (k := .u64) Try.underlying45)) (argF_cons (sz := 1) rfl (by kernel_rfl) (arg_sliceT (sz := 1) false Try.underlying42 (by kernel_rfl) (arg_boolT Try.underlying4)) (argF_nil))))).map (E' := fun x => [.v (.int .i64 x.Record.ID), .v (.int .i64 x.Record.Version), .tree x.Record.Fields.length 2 (RS_api_Bits x.Record.Fields), .tree x.Hashes.length 1 (Ru64 x.Hashes), .tree x.Has.length 1 (Rb x.Has)]) (ok' := fun x => ((IntKind.i64.min ≤ x.Record.ID ∧ x.Record.ID ≤ IntKind.i64.max) ∧ (IntKind.i64.min ≤ x.Record.Version ∧ x.Record.Version ≤ IntKind.i64.max) ∧ ((∀ y ∈ x.Record.Fields, (IntKind.i64.min ≤ y.Length ∧ y.Length ≤ IntKind.i64.max) ∧ ((∀ y1 ∈ y.Words, IntKind.u64.min ≤ y1 ∧ y1 ≤ IntKind.u64.max) ∧ y.Words.length ≤ maxLen) ∧ True) ∧ x.Record.Fields.length ≤ maxLen) ∧ True) ∧ ((∀ y ∈ x.Hashes, IntKind.u64.min ≤ y ∧ y ≤ IntKind.u64.max) ∧ x.Hashes.length ≤ maxLen) ∧ ((∀ y ∈ x.Has, True) ∧ x.Has.length ≤ maxLen) ∧ True) (fun x => (⟨x.1, x.2.1, x.2.2.1⟩ : S_api_Sent)) (fun x => rfl) (fun x h => h))) h1 (one_slice Try.underlying37 (hval 1 37 v1 rfl rfl))
  have k2 := h2
  have lt2 : ∀ x ∈ p2, x.block < W.heap.size := by obtain ⟨m, hm⟩ := k2; exact DataW.trod_lt m _ _ _ hm
  obtain ⟨x2, o2, R2⟩ := Arg.one (arg_intT (k := .i64) Try.underlying3) h2 (one_int Try.underlying3 (hval 2 3 v2 rfl rfl) h2)
  have k3 := h3
  have lt3 : ∀ x ∈ p3, x.block < W.heap.size := by obtain ⟨m, hm⟩ := k3; exact DataW.trod_lt m _ _ _ hm
  obtain ⟨x3, o3, R3⟩ := Arg.one (arg_intT (k := .i64) Try.underlying3) h3 (one_int Try.underlying3 (hval 3 3 v3 rfl rfl) h3)
  have k4 := h4
  have lt4 : ∀ x ∈ p4, x.block < W.heap.size := by obtain ⟨m, hm⟩ := k4; exact DataW.trod_lt m _ _ _ hm
  obtain ⟨x4, o4, R4⟩ := Arg.one (arg_intT (k := .i64) Try.underlying3) h4 (one_int Try.underlying3 (hval 4 3 v4 rfl rfl) h4)
  have k5 := h5
  have lt5 : ∀ x ∈ p5, x.block < W.heap.size := by obtain ⟨m, hm⟩ := k5; exact DataW.trod_lt m _ _ _ hm
  obtain ⟨x5, o5, R5⟩ := Arg.one (c := fun x => .tree x.length 1 (Ri64 x)) (arg_sliceT (sz := 1) 0 Try.underlying22 (by kernel_rfl) (arg_intT (k := .i64) Try.underlying3)) h5 (one_slice Try.underlying22 (hval 5 22 v5 rfl rfl))
  clear hA0 hval0
  refine (law_calls (rl_law26_CandidateExact_con x0 x1 x2 x3 x4 x5 true (cexact_law x0 x1 x2 x3 x4 x5 o1)) W #[v0, v1, v2, v3, v4, v5] ⟨R0, R1, R2, R3, R4, R5, trivial⟩).mono fun e W' ⟨he, bel⟩ => ?_
  subst he
  exact ⟨_, rfl, _, _, _, [], _, [], hW', trodAll_mk1 (shut_bool Try.underlying4 _), (trodAll_cons_mk (Below.trod laidOut (by kernel_rfl) (of_decide_eq_true (by kernel_rfl)) k0 bel lt0) (trodAll_cons_mk (Below.trod laidOut (by kernel_rfl) (of_decide_eq_true (by kernel_rfl)) k1 bel lt1) (trodAll_cons_mk (Below.trod laidOut (by kernel_rfl) (of_decide_eq_true (by kernel_rfl)) k2 bel lt2) (trodAll_cons_mk (Below.trod laidOut (by kernel_rfl) (of_decide_eq_true (by kernel_rfl)) k3 bel lt3) (trodAll_cons_mk (Below.trod laidOut (by kernel_rfl) (of_decide_eq_true (by kernel_rfl)) k4 bel lt4) (trodAll_cons_mk (Below.trod laidOut (by kernel_rfl) (of_decide_eq_true (by kernel_rfl)) k5 bel lt5) trodAll_mk0)))))), rfl, bel.frame _, fun h => by cases h⟩

theorem over : Rows.candidateExactRow.holds Try.pinned (OpenSpec.ofChange Rows.candidateExactSpec) :=
  OpenClaim.holds_of_wide 6 Try.f6 rfl rfl rfl rfl rfl rfl rfl ⟨rfl, rfl, rfl, rfl, rfl⟩ rfl rfl rfl rfl rfl (by kernel_rfl) Try.func6 (by kernel_rfl)
    (of_decide_eq_true (by kernel_rfl)) (by unfold Func.isWrapper; first | (rw [if_pos (by decide +kernel)]; kernel_rfl) | (rw [if_neg (by decide +kernel)]; exact ⟨rfl, rfl⟩))
    (fun os started H enc _ => lifted os started H enc)

theorem proved : Rows.CandidateExactSaid := over
end Go.Proofs.Ytknlckjpgmjenaa.candidateExact
