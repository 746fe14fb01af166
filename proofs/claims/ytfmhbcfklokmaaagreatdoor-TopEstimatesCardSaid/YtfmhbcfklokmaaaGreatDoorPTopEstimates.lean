/- It is proved that the statement TopEstimates returns true for every input and leaves its argument as it was, and its tied card is closed; no condition. -/
import Derived.Test.YtfmhbcfklokmaaaGreatDoorRows
import Derived.Test.YtfmhbcfklokmaaaGreatDoorCards
import Derived.Test.YtfmhbcfklokmaaaGreatDoorTie
import Derived.Test.YtfmhbcfklokmaaaGreatDoorSR6
import Derived.Test.YtfmhbcfklokmaaaGreatDoorSR1
import Derived.Lay
import Derived.LaidMore
import Derived.SevenTiedAt
set_option linter.unusedVariables false
set_option linter.unusedSimpArgs false
set_option linter.defProp false
namespace Go.Proofs.YtfmhbcfklokmaaaGreatDoor.topEstimates
open Go.ChangeShapes Go.WideShapes Go.ChangeAt Go.RowKit Vm
set_option maxRecDepth 100000
theorem oj : ownKnob Tryz.prog.godebug = none := by kernel_rfl
theorem Pf : laidOutB Tryz.prog = true := by kernel_rfl
theorem PM (os : Os) (started : os.Started) (H : Type) (enc : TypeId × Value → H) :
  ReturnsInHanded {} Tryz.checked os 3 .any (fun w args => (Rows.topEstimatesSpec.pre enc Tryz.prog Tryz.f3 Rows.topEstimatesRow.domain false w args ∧ laidMetH Tryz.prog Rows.topEstimatesRow.laid w) ∧ sizedMet enc Tryz.prog Tryz.f3 (OpenSpec.ofChange Rows.topEstimatesSpec) false w args)
   (Rows.topEstimatesSpec.post enc Tryz.prog Tryz.f3 false true false false) := by
 refine returnsInHanded_of_change_and (C := Tryz.checked) (X := fun w _ => laidMetH Tryz.prog Rows.topEstimatesRow.laid w) (fun _ _ _ hh h => h.of_heap hh) oj started (by kernel_rfl) Tryz.func3
  (ChangeSpec.witness_shaped (enc := enc) (C := Tryz.checked) (os := os) (X := fun w _ => laidMetH Tryz.prog Rows.topEstimatesRow.laid w) false (World.laidAll Tryz.prog os Rows.topEstimatesRow.laid) #[.slice none 0 0] 8 (World.laidAll_os _ _ _)
   (World.shaped_of_ZipB (by kernel_rfl) (by kernel_rfl)) (by kernel_rfl) (by kernel_rfl) (by kernel_rfl)
   (by rw [MakeChecks.laidMetH_plain _ _ _ (by kernel_rfl)]; exact laidMet_laidAll _ (by kernel_rfl) (by kernel_rfl))) ?_
 intro W base args ds gs before hval0 hW hcnd _ hL _
 have hval : ∀ (j : Nat) t v, Tryz.f3.params[j]? = some t → args[j]? = some v → Value.okWide Tryz.prog W .any base t v := hval0
 have hW' := hW
 obtain ⟨p, q, hA0, hV, rfl, hfz, hnd⟩ := hW
 have hA : DataW.TrodAll enc Tryz.prog W 0 (fun _ => true) true Tryz.f3.params.toList args.toList ds p := hA0
 rw [Tryz.params3] at hA hval
 obtain ⟨v0, vs0, d0, ds0, p0, q0, hargs, rfl, rfl, h0, r0⟩ := trodAll_cons hA
 obtain ⟨rfl, rfl, rfl⟩ := trodAll_nil r0
 obtain rfl : args = #[v0] := by cases args; simp_all
 obtain ⟨rfl, rfl⟩ := trodVars_none hV
 have k0 := h0
 have lt0 : ∀ x ∈ p0, x.block < W.heap.size := by obtain ⟨m, hm⟩ := k0; exact DataW.trod_lt m _ _ _ hm
 obtain ⟨x0, o0, R0⟩ := gO.one (c := fun x => .tree x.length 1 (al x)) (Lh (sz := 1) 0 Tryz.underlying22 (by kernel_rfl) (Nk (k := .i64) Tryz.underlying3)) h0 (Ma Tryz.underlying22 (hval 0 22 v0 rfl rfl))
 clear hA0 hval0
 refine (L3 (Il x0 true (JW x0)) W #[v0] ⟨R0, trivial⟩).mono fun e W' ⟨he, bel⟩ => ?_
 subst he
 exact ⟨_, rfl, _, _, _, [], _, [], hW', trodAll_mk1 (shut_bool Tryz.underlying4 _), (trodAll_cons_mk (Below.trod Pf (by kernel_rfl) (of_decide_eq_true (by kernel_rfl)) k0 bel lt0) trodAll_mk0), rfl, bel.frame _, fun h => by cases h⟩
theorem Qq : Rows.topEstimatesRow.holds Tryz.pinned (OpenSpec.ofChange Rows.topEstimatesSpec) :=
 OpenClaim.holds_of_wide 3 Tryz.f3 rfl rfl rfl rfl rfl rfl rfl ⟨rfl, rfl, rfl, rfl, rfl⟩ rfl rfl rfl rfl rfl (by kernel_rfl) Tryz.func3 (by kernel_rfl)
  (of_decide_eq_true (by kernel_rfl)) (by unfold Func.isWrapper; first | (rw [if_pos (by decide +kernel)]; kernel_rfl) | (rw [if_neg (by decide +kernel)]; exact ⟨rfl, rfl⟩))
  (fun os started H enc _ => PM os started H enc)
theorem proved : Rows.TopEstimatesCardSaid :=
 Claim7.holds_tied_plain_at .later [] [.data, .data, .data, .data, .pinned] true (true, "05055d551187a0205c80423c817932c34dac9b7c35d38e16e76b99f75c736cd9") false Qq (fun _ h => by cases h) (by kernel_rfl) (fun _ h => by cases h) topEstimates_row_tie rfl ⟨rfl, rfl⟩ (by kernel_rfl) rfl
  (fun f fn hf hfn => by
   obtain rfl : f = 3 := Option.some.inj ((show Tryz.prog.funcNamed "recordlink/recordlinktop.TopEstimates" = some 3 by kernel_rfl).symm.trans hf) |>.symm
   obtain rfl : fn = Tryz.f3 := (Option.some.inj (Tryz.func3.symm.trans hfn)).symm
   exact ⟨by kernel_rfl, fun j t ht => by
    rw [Tryz.params3] at ht
    have hm : t ∈ [22] := by simpa using Array.mem_of_getElem? ht
    have hall : ([22].all fun u => !Tryz.prog.wantsStandIn u) = true := by kernel_rfl
    exact (show Tryz.prog.wantsStandIn t = false by simpa using Ru.1 hall t hm)⟩)
  (by kernel_rfl)
end Go.Proofs.YtfmhbcfklokmaaaGreatDoor.topEstimates
