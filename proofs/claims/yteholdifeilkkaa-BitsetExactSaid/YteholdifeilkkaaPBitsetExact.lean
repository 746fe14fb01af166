/- It is proved that the statement BitsetExact returns true for every input and leaves its arguments as they were; no condition. -/
import Derived.Test.YteholdifeilkkaaRows
import Derived.Test.YteholdifeilkkaaLSExact
import Derived.Test.YteholdifeilkkaaGL11
import Derived.Test.YteholdifeilkkaaAr
namespace Go.Proofs.Yteholdifeilkkaa.bitsetExact
open Go.ChangeShapes Go.WideShapes Go.ChangeAt Go.RowKit Vm
set_option linter.unusedVariables false

theorem own : ownKnob Try.prog.godebug = none := by kernel_rfl
theorem laidOut : laidOutB Try.prog = true := by kernel_rfl
set_option maxRecDepth 100000 in
theorem lifted (os : Os) (started : os.Started) (H : Type) (enc : TypeId × Value → H) :
    ReturnsInHanded {} Try.checked os 11 .any (Rows.bitsetExactSpec.pre6 enc Try.prog Try.f11 Rows.bitsetExactRow.domain false) (Rows.bitsetExactSpec.post enc Try.prog Try.f11 false true false false) := by
  refine returnsInHanded_of_change (C := Try.checked) own started (by kernel_rfl) Try.func11
    (ChangeSpec.witness6 (enc := enc) (C := Try.checked) false ⟨#[], #[.slice none 0 0, .agg #[.int .i64 0, .slice none 0 0], .agg #[.int .i64 0, .slice none 0 0], .int .i64 0, .string ByteArray.empty], []⟩ 8 (by kernel_rfl) (by kernel_rfl) (by kernel_rfl) (by kernel_rfl)) ?_
  intro W base args ds gs before hval0 hW hcnd _
  have hval : ∀ (j : Nat) t v, Try.f11.params[j]? = some t → args[j]? = some v → Value.okWide Try.prog W .any base t v := hval0
  have hW' := hW
  obtain ⟨p, q, hA0, hV, rfl, hfz, hnd⟩ := hW
  have hA : DataW.TrodAll enc Try.prog W 0 (fun _ => true) true Try.f11.params.toList args.toList ds p := hA0
  rw [Try.params11] at hA hval
  obtain ⟨v0, vs0, d0, ds0, p0, q0, hargs, rfl, rfl, h0, r0⟩ := trodAll_cons hA
  obtain ⟨v1, vs1, d1, ds1, p1, q1, rfl, rfl, rfl, h1, r1⟩ := trodAll_cons r0
  obtain ⟨v2, vs2, d2, ds2, p2, q2, rfl, rfl, rfl, h2, r2⟩ := trodAll_cons r1
  obtain ⟨v3, vs3, d3, ds3, p3, q3, rfl, rfl, rfl, h3, r3⟩ := trodAll_cons r2
  obtain ⟨v4, vs4, d4, ds4, p4, q4, rfl, rfl, rfl, h4, r4⟩ := trodAll_cons r3
  obtain ⟨rfl, rfl, rfl⟩ := trodAll_nil r4
  obtain rfl : args = #[v0, v1, v2, v3, v4] := by cases args; simp_all
  obtain ⟨rfl, rfl⟩ := trodVars_none hV
  have k0 := h0
  have lt0 : ∀ x ∈ p0, x.block < W.heap.size := by obtain ⟨m, hm⟩ := k0; exact DataW.trod_lt m _ _ _ hm
  obtain ⟨x0, o0, R0⟩ := Arg.one (c := fun x => .tree x.length 1 (Ri64 x)) (arg_sliceT (sz := 1) 0 Try.underlying22 (by kernel_rfl) (arg_intT (k := .i64) Try.underlying3)) h0 (one_slice Try.underlying22 (hval 0 22 v0 rfl rfl))
  have k1 := h1
  have lt1 : ∀ x ∈ p1, x.block < W.heap.size := by obtain ⟨m, hm⟩ := k1; exact DataW.trod_lt m _ _ _ hm
  obtain ⟨x1, o1, R1⟩ := Arg.agg ((arg_structT Try.underlying29 (by kernel_rfl) (argF_cons (sz := 1) rfl (by kernel_rfl) (arg_intT (k := .i64) Try.underlying3) (argF_cons (sz := 1) rfl (by kernel_rfl) (arg_sliceT (sz := 1) 0 Try.underlying27 (by kernel_rfl) (arg_intT (k := .u64) Try.underlying33)) (argF_nil)))).map (E' := fun x => [.v (.int .i64 x.Length), .tree x.Words.length 1 (Ru64 x.Words)]) (ok' := fun x => (IntKind.i64.min ≤ x.Length ∧ x.Length ≤ IntKind.i64.max) ∧ ((∀ y ∈ x.Words, IntKind.u64.min ≤ y ∧ y ≤ IntKind.u64.max) ∧ x.Words.length ≤ maxLen) ∧ True) (fun x => (⟨x.1, x.2.1⟩ : S_api_Bits)) (fun x => rfl) (fun x h => h)) h1 (agg_struct Try.underlying29 (hval 1 29 v1 rfl rfl))
  have k2 := h2
  have lt2 : ∀ x ∈ p2, x.block < W.heap.size := by obtain ⟨m, hm⟩ := k2; exact DataW.trod_lt m _ _ _ hm
  obtain ⟨x2, o2, R2⟩ := Arg.agg ((arg_structT Try.underlying29 (by kernel_rfl) (argF_cons (sz := 1) rfl (by kernel_rfl) (arg_intT (k := .i64) Try.underlying3) (argF_cons (sz := 1) rfl (by kernel_rfl) (arg_sliceT (sz := 1) 0 Try.underlying27 (by kernel_rfl) (arg_intT (k := .u64) Try.underlying33)) (argF_nil)))).map (E' := fun x => [.v (.int .i64 x.Length), .tree x.Words.length 1 (Ru64 x.Words)]) (ok' := fun x => (IntKind.i64.min ≤ x.Length ∧ x.Length ≤ IntKind.i64.max) ∧ ((∀ y ∈ x.Words, IntKind.u64.min ≤ y ∧ y ≤ IntKind.u64.max) ∧ x.Words.length ≤ maxLen) ∧ True) (fun x => (⟨x.1, x.2.1⟩ : S_api_Bits)) (fun x => rfl) (fun x h => h)) h2 (agg_struct Try.underlying29 (hval 2 29 v2 rfl rfl))
  have k3 := h3
  have lt3 : ∀ x ∈ p3, x.block < W.heap.size := by obtain ⟨m, hm⟩ := k3; exact DataW.trod_lt m _ _ _ hm
  obtain ⟨x3, o3, R3⟩ := Arg.one (arg_intT (k := .i64) Try.underlying3) h3 (one_int Try.underlying3 (hval 3 3 v3 rfl rfl) h3)
  have k4 := h4
  have lt4 : ∀ x ∈ p4, x.block < W.heap.size := by obtain ⟨m, hm⟩ := k4; exact DataW.trod_lt m _ _ _ hm
  obtain ⟨x4, o4, R4⟩ := Arg.one (arg_strT Try.underlying9) h4 (one_str Try.underlying9 (hval 4 9 v4 rfl rfl) h4)
  clear hA0 hval0
  refine (law_calls (rl_law09_BitsetExact_con x0 x1 x2 x3 x4 true (exact_law x0 x1 x2 x3 x4 o1 o2)) W #[v0, v1, v2, v3, v4] ⟨R0, R1, R2, R3, R4, trivial⟩).mono fun e W' ⟨he, bel⟩ => ?_
  subst he
  exact ⟨_, rfl, _, _, _, [], _, [], hW', trodAll_mk1 (shut_bool Try.underlying4 _), (trodAll_cons_mk (Below.trod laidOut (by kernel_rfl) (of_decide_eq_true (by kernel_rfl)) k0 bel lt0) (trodAll_cons_mk (Below.trod laidOut (by kernel_rfl) (of_decide_eq_true (by kernel_rfl)) k1 bel lt1) (trodAll_cons_mk (Below.trod laidOut (by kernel_rfl) (of_decide_eq_true (by kernel_rfl)) k2 bel lt2) (trodAll_cons_mk (Below.trod laidOut (by kernel_rfl) (of_decide_eq_true (by kernel_rfl)) k3 bel lt3) (trodAll_cons_mk (Below.trod laidOut (by kernel_rfl) (of_decide_eq_true (by kernel_rfl)) k4 bel lt4) trodAll_mk0))))), rfl, bel.frame _, fun h => by cases h⟩

theorem over : Rows.bitsetExactRow.holds Try.pinned (OpenSpec.ofChange Rows.bitsetExactSpec) :=
  OpenClaim.holds_of_wide 11 Try.f11 rfl rfl rfl rfl rfl rfl rfl ⟨rfl, rfl, rfl, rfl, rfl⟩ rfl rfl rfl rfl rfl (by kernel_rfl) Try.func11 (by kernel_rfl)
    (of_decide_eq_true (by kernel_rfl)) (by unfold Func.isWrapper; first | (rw [if_pos (by decide +kernel)]; kernel_rfl) | (rw [if_neg (by decide +kernel)]; exact ⟨rfl, rfl⟩))
    (fun os started H enc _ => lifted os started H enc)

theorem proved : Rows.BitsetExactSaid := over
end Go.Proofs.Yteholdifeilkkaa.bitsetExact
