/-
  No cell of these rows narrows 'for every input' (looked for: loops, veiled, ifaces, maps, wideKeys, modest, calm, conditions, laid).
  DERIVED. THE GIVEN ROWS OF THIS SEAT. 9 by the template 'for every input the law returns true; each argument reads behind the call as it read before'; 0 by the template 'total and deterministic' (their statements: YtfnojcalalncbaaTotals.lean).
  GIVEN WITH THE SEED: the statements are not yours to turn. If you find one false, say at which input.
  Laid BY PROGRAM, IN A SANDBOX (cutbox-rows.mjs): the forced cells as the released guide's own fill.sh prints them over the translation 8ab0f9e02108661c… (all of the seat's roots in one cut). By AI agents, Wed Nov 11 2026. No macro, syntax, notation, axiom, sorry.
-/
import Derived.Test.YtfnojcalalncbaaChecked
import GoSem.Claim
import GoSem.ClaimJoined
import GoSem.ClaimMapViews
import Derived.JoinedTies
import Derived.KernelRfl
namespace Go.Proofs.Ytfnojcalalncbaa
/- THE CELL 'sum', in the pinned program and in every row, IS THE sha256 OF THE DUMP (.gsa) THAT YtfnojcalalncbaaProg.lean LOADS. Nothing in Lean hashes anything: it is a label: what it is worth is what the hold of that sum in a sandbox is worth. -/
noncomputable def Try.pinned : Pinned := { name := "ytfnojcalalncbaa", sum := "8ab0f9e02108661ce7c496f8e021b8b38d78f68fd722781f541db0f4407ef959", checked := Try.checked }
namespace Rows
def none {H : Type} : Left H := { results := [], args := [] }

/-- 'recordlinklaw15.RiskGrows': WHATEVER THE INPUT: true; the input reads as it did. -/
def riskGrowsSpec : ChangeSpec := { name := "riskGrows", fn := fun _ => fun
  | [d] => { results := [.lit (.bool true)], args := [d] }
  | _ => none }
def riskGrowsRow : OpenClaim := { program := "ytfnojcalalncbaa", sum := "8ab0f9e02108661ce7c496f8e021b8b38d78f68fd722781f541db0f4407ef959", func := "recordlink/recordlinklaw15.RiskGrows", spec := "riskGrows", unfollowed := true, recurses := true, apart := false }
def RiskGrowsSaid : Prop := riskGrowsRow.holds Try.pinned (OpenSpec.ofChange riskGrowsSpec)

/-- ITS FALSE NEIGHBOUR: 'it returns false'. Refute it at one input. -/
def riskGrowsWrong : ChangeSpec := { name := "riskGrows", fn := fun _ => fun
  | [d] => { results := [.lit (.bool false)], args := [d] }
  | _ => none }
def RiskGrowsWrongFalsely : Prop := riskGrowsRow.holds Try.pinned (OpenSpec.ofChange riskGrowsWrong)

/-- 'recordlinklaw15.RiskChooses': WHATEVER THE INPUT: true; the input reads as it did. -/
def riskChoosesSpec : ChangeSpec := { name := "riskChooses", fn := fun _ => fun
  | [d] => { results := [.lit (.bool true)], args := [d] }
  | _ => none }
def riskChoosesRow : OpenClaim := { program := "ytfnojcalalncbaa", sum := "8ab0f9e02108661ce7c496f8e021b8b38d78f68fd722781f541db0f4407ef959", func := "recordlink/recordlinklaw15.RiskChooses", spec := "riskChooses", unfollowed := true, recurses := true, apart := false }
def RiskChoosesSaid : Prop := riskChoosesRow.holds Try.pinned (OpenSpec.ofChange riskChoosesSpec)

/-- ITS FALSE NEIGHBOUR: 'it returns false'. Refute it at one input. -/
def riskChoosesWrong : ChangeSpec := { name := "riskChooses", fn := fun _ => fun
  | [d] => { results := [.lit (.bool false)], args := [d] }
  | _ => none }
def RiskChoosesWrongFalsely : Prop := riskChoosesRow.holds Try.pinned (OpenSpec.ofChange riskChoosesWrong)

/-- 'recordlinklaw15.RiskCollides': WHATEVER THE INPUT: true; the input reads as it did. -/
def riskCollidesSpec : ChangeSpec := { name := "riskCollides", fn := fun _ => fun
  | [d] => { results := [.lit (.bool true)], args := [d] }
  | _ => none }
def riskCollidesRow : OpenClaim := { program := "ytfnojcalalncbaa", sum := "8ab0f9e02108661ce7c496f8e021b8b38d78f68fd722781f541db0f4407ef959", func := "recordlink/recordlinklaw15.RiskCollides", spec := "riskCollides", unfollowed := true, recurses := true, apart := false }
def RiskCollidesSaid : Prop := riskCollidesRow.holds Try.pinned (OpenSpec.ofChange riskCollidesSpec)

/-- ITS FALSE NEIGHBOUR: 'it returns false'. Refute it at one input. -/
def riskCollidesWrong : ChangeSpec := { name := "riskCollides", fn := fun _ => fun
  | [d] => { results := [.lit (.bool false)], args := [d] }
  | _ => none }
def RiskCollidesWrongFalsely : Prop := riskCollidesRow.holds Try.pinned (OpenSpec.ofChange riskCollidesWrong)

/-- 'recordlinklaw15.RiskExact': WHATEVER THE INPUT: true; the input reads as it did. -/
def riskExactSpec : ChangeSpec := { name := "riskExact", fn := fun _ => fun
  | [d1, d2, d3, d4, d5, d6, d7] => { results := [.lit (.bool true)], args := [d1, d2, d3, d4, d5, d6, d7] }
  | _ => none }
def riskExactRow : OpenClaim := { program := "ytfnojcalalncbaa", sum := "8ab0f9e02108661ce7c496f8e021b8b38d78f68fd722781f541db0f4407ef959", func := "recordlink/recordlinklaw15.RiskExact", spec := "riskExact", unfollowed := true, recurses := true, apart := false }
def RiskExactSaid : Prop := riskExactRow.holds Try.pinned (OpenSpec.ofChange riskExactSpec)

/-- ITS FALSE NEIGHBOUR: 'it returns false'. Refute it at one input. -/
def riskExactWrong : ChangeSpec := { name := "riskExact", fn := fun _ => fun
  | [d1, d2, d3, d4, d5, d6, d7] => { results := [.lit (.bool false)], args := [d1, d2, d3, d4, d5, d6, d7] }
  | _ => none }
def RiskExactWrongFalsely : Prop := riskExactRow.holds Try.pinned (OpenSpec.ofChange riskExactWrong)

/-- 'recordlinklaw15.RiskUnique': WHATEVER THE INPUT: true; the input reads as it did. -/
def riskUniqueSpec : ChangeSpec := { name := "riskUnique", fn := fun _ => fun
  | [d] => { results := [.lit (.bool true)], args := [d] }
  | _ => none }
def riskUniqueRow : OpenClaim := { program := "ytfnojcalalncbaa", sum := "8ab0f9e02108661ce7c496f8e021b8b38d78f68fd722781f541db0f4407ef959", func := "recordlink/recordlinklaw15.RiskUnique", spec := "riskUnique", unfollowed := true, recurses := true, apart := false }
def RiskUniqueSaid : Prop := riskUniqueRow.holds Try.pinned (OpenSpec.ofChange riskUniqueSpec)

/-- ITS FALSE NEIGHBOUR: 'it returns false'. Refute it at one input. -/
def riskUniqueWrong : ChangeSpec := { name := "riskUnique", fn := fun _ => fun
  | [d] => { results := [.lit (.bool false)], args := [d] }
  | _ => none }
def RiskUniqueWrongFalsely : Prop := riskUniqueRow.holds Try.pinned (OpenSpec.ofChange riskUniqueWrong)

/-- 'recordlinklaw14.BloomSets': WHATEVER THE INPUT: true; the input reads as it did. -/
def bloomSetsSpec : ChangeSpec := { name := "bloomSets", fn := fun _ => fun
  | [d] => { results := [.lit (.bool true)], args := [d] }
  | _ => none }
def bloomSetsRow : OpenClaim := { program := "ytfnojcalalncbaa", sum := "8ab0f9e02108661ce7c496f8e021b8b38d78f68fd722781f541db0f4407ef959", func := "recordlink/recordlinklaw14.BloomSets", spec := "bloomSets", unfollowed := true, recurses := true, apart := false }
def BloomSetsSaid : Prop := bloomSetsRow.holds Try.pinned (OpenSpec.ofChange bloomSetsSpec)

/-- ITS FALSE NEIGHBOUR: 'it returns false'. Refute it at one input. -/
def bloomSetsWrong : ChangeSpec := { name := "bloomSets", fn := fun _ => fun
  | [d] => { results := [.lit (.bool false)], args := [d] }
  | _ => none }
def BloomSetsWrongFalsely : Prop := bloomSetsRow.holds Try.pinned (OpenSpec.ofChange bloomSetsWrong)

/-- 'recordlinklaw14.BloomMay': WHATEVER THE INPUT: true; the input reads as it did. -/
def bloomMaySpec : ChangeSpec := { name := "bloomMay", fn := fun _ => fun
  | [d] => { results := [.lit (.bool true)], args := [d] }
  | _ => none }
def bloomMayRow : OpenClaim := { program := "ytfnojcalalncbaa", sum := "8ab0f9e02108661ce7c496f8e021b8b38d78f68fd722781f541db0f4407ef959", func := "recordlink/recordlinklaw14.BloomMay", spec := "bloomMay", unfollowed := true, recurses := true, apart := false }
def BloomMaySaid : Prop := bloomMayRow.holds Try.pinned (OpenSpec.ofChange bloomMaySpec)

/-- ITS FALSE NEIGHBOUR: 'it returns false'. Refute it at one input. -/
def bloomMayWrong : ChangeSpec := { name := "bloomMay", fn := fun _ => fun
  | [d] => { results := [.lit (.bool false)], args := [d] }
  | _ => none }
def BloomMayWrongFalsely : Prop := bloomMayRow.holds Try.pinned (OpenSpec.ofChange bloomMayWrong)

/-- 'recordlinklaw14.BloomMore': WHATEVER THE INPUT: true; the input reads as it did. -/
def bloomMoreSpec : ChangeSpec := { name := "bloomMore", fn := fun _ => fun
  | [d] => { results := [.lit (.bool true)], args := [d] }
  | _ => none }
def bloomMoreRow : OpenClaim := { program := "ytfnojcalalncbaa", sum := "8ab0f9e02108661ce7c496f8e021b8b38d78f68fd722781f541db0f4407ef959", func := "recordlink/recordlinklaw14.BloomMore", spec := "bloomMore", unfollowed := true, recurses := true, apart := false }
def BloomMoreSaid : Prop := bloomMoreRow.holds Try.pinned (OpenSpec.ofChange bloomMoreSpec)

/-- ITS FALSE NEIGHBOUR: 'it returns false'. Refute it at one input. -/
def bloomMoreWrong : ChangeSpec := { name := "bloomMore", fn := fun _ => fun
  | [d] => { results := [.lit (.bool false)], args := [d] }
  | _ => none }
def BloomMoreWrongFalsely : Prop := bloomMoreRow.holds Try.pinned (OpenSpec.ofChange bloomMoreWrong)

/-- 'recordlinklaw14.BloomSteps': WHATEVER THE INPUT: true; the input reads as it did. -/
def bloomStepsSpec : ChangeSpec := { name := "bloomSteps", fn := fun _ => fun
  | [d] => { results := [.lit (.bool true)], args := [d] }
  | _ => none }
def bloomStepsRow : OpenClaim := { program := "ytfnojcalalncbaa", sum := "8ab0f9e02108661ce7c496f8e021b8b38d78f68fd722781f541db0f4407ef959", func := "recordlink/recordlinklaw14.BloomSteps", spec := "bloomSteps", unfollowed := true, recurses := true, apart := false }
def BloomStepsSaid : Prop := bloomStepsRow.holds Try.pinned (OpenSpec.ofChange bloomStepsSpec)

/-- ITS FALSE NEIGHBOUR: 'it returns false'. Refute it at one input. -/
def bloomStepsWrong : ChangeSpec := { name := "bloomSteps", fn := fun _ => fun
  | [d] => { results := [.lit (.bool false)], args := [d] }
  | _ => none }
def BloomStepsWrongFalsely : Prop := bloomStepsRow.holds Try.pinned (OpenSpec.ofChange bloomStepsWrong)

/- THE SECOND FORM. 'bulk': how many values and letters a reading holds, each counted each time it is reached (what is shared counts as often as it is met; a slice's spare places count too). A statement '..UptoSaid' is the law's where the arguments, and the package variables that the reading takes, are together of bulk at most 1048576: NARROWER than '..Said'. Prove '..Said' where nothing that the law and all that it calls make is longer than what came in: it says more and counts as full. Else prove '..UptoSaid'. A law counts once. -/
mutual
def uptoBulk {H : Type} : DataW H → Nat
  | .lit (.string bytes) => bytes.length + 1
  | .lit _ => 1
  | .nil => 1
  | .ptr d => uptoBulk d + 1
  | .slice elems spare => uptoBulkAll elems + uptoBulkAll spare + 1
  | .agg parts => uptoBulkAll parts + 1
  | .iface _ d => uptoBulk d + 1
  | .map entries => uptoBulkEntries entries + 1
  | .held _ => 1
def uptoBulkAll {H : Type} : List (DataW H) → Nat
  | [] => 0
  | d :: r => uptoBulk d + uptoBulkAll r
def uptoBulkEntries {H : Type} : List (Lit × DataW H) → Nat
  | [] => 0
  | x :: r => uptoBulkEntry x + uptoBulkEntries r
def uptoBulkEntry {H : Type} : Lit × DataW H → Nat
  | (.string bytes, d) => bytes.length + uptoBulk d + 1
  | (_, d) => uptoBulk d + 1
 end
def uptoSmall : (H : Type) → List (DataW H) → Bool := fun _ ds => decide (uptoBulkAll ds ≤ 1048576)
def OpenSpec.upto (s : _root_.Go.ChangeSpec) : _root_.Go.OpenSpec := { _root_.Go.OpenSpec.ofChange s with cond := some uptoSmall }

/-- 'recordlinklaw15.RiskGrows', WHERE WHAT IT READS IS OF BULK AT MOST 1048576: true; the input reads as it did. -/
def riskGrowsUptoRow : OpenClaim := { program := "ytfnojcalalncbaa", sum := "8ab0f9e02108661ce7c496f8e021b8b38d78f68fd722781f541db0f4407ef959", func := "recordlink/recordlinklaw15.RiskGrows", spec := "riskGrows", unfollowed := true, recurses := true, apart := false, narrowed := true }
def RiskGrowsUptoSaid : Prop := riskGrowsUptoRow.holds Try.pinned (OpenSpec.upto riskGrowsSpec)

/-- 'recordlinklaw15.RiskChooses', WHERE WHAT IT READS IS OF BULK AT MOST 1048576: true; the input reads as it did. -/
def riskChoosesUptoRow : OpenClaim := { program := "ytfnojcalalncbaa", sum := "8ab0f9e02108661ce7c496f8e021b8b38d78f68fd722781f541db0f4407ef959", func := "recordlink/recordlinklaw15.RiskChooses", spec := "riskChooses", unfollowed := true, recurses := true, apart := false, narrowed := true }
def RiskChoosesUptoSaid : Prop := riskChoosesUptoRow.holds Try.pinned (OpenSpec.upto riskChoosesSpec)

/-- 'recordlinklaw15.RiskCollides', WHERE WHAT IT READS IS OF BULK AT MOST 1048576: true; the input reads as it did. -/
def riskCollidesUptoRow : OpenClaim := { program := "ytfnojcalalncbaa", sum := "8ab0f9e02108661ce7c496f8e021b8b38d78f68fd722781f541db0f4407ef959", func := "recordlink/recordlinklaw15.RiskCollides", spec := "riskCollides", unfollowed := true, recurses := true, apart := false, narrowed := true }
def RiskCollidesUptoSaid : Prop := riskCollidesUptoRow.holds Try.pinned (OpenSpec.upto riskCollidesSpec)

/-- 'recordlinklaw15.RiskExact', WHERE WHAT IT READS IS OF BULK AT MOST 1048576: true; the input reads as it did. -/
def riskExactUptoRow : OpenClaim := { program := "ytfnojcalalncbaa", sum := "8ab0f9e02108661ce7c496f8e021b8b38d78f68fd722781f541db0f4407ef959", func := "recordlink/recordlinklaw15.RiskExact", spec := "riskExact", unfollowed := true, recurses := true, apart := false, narrowed := true }
def RiskExactUptoSaid : Prop := riskExactUptoRow.holds Try.pinned (OpenSpec.upto riskExactSpec)

/-- 'recordlinklaw15.RiskUnique', WHERE WHAT IT READS IS OF BULK AT MOST 1048576: true; the input reads as it did. -/
def riskUniqueUptoRow : OpenClaim := { program := "ytfnojcalalncbaa", sum := "8ab0f9e02108661ce7c496f8e021b8b38d78f68fd722781f541db0f4407ef959", func := "recordlink/recordlinklaw15.RiskUnique", spec := "riskUnique", unfollowed := true, recurses := true, apart := false, narrowed := true }
def RiskUniqueUptoSaid : Prop := riskUniqueUptoRow.holds Try.pinned (OpenSpec.upto riskUniqueSpec)

/-- 'recordlinklaw14.BloomSets', WHERE WHAT IT READS IS OF BULK AT MOST 1048576: true; the input reads as it did. -/
def bloomSetsUptoRow : OpenClaim := { program := "ytfnojcalalncbaa", sum := "8ab0f9e02108661ce7c496f8e021b8b38d78f68fd722781f541db0f4407ef959", func := "recordlink/recordlinklaw14.BloomSets", spec := "bloomSets", unfollowed := true, recurses := true, apart := false, narrowed := true }
def BloomSetsUptoSaid : Prop := bloomSetsUptoRow.holds Try.pinned (OpenSpec.upto bloomSetsSpec)

/-- 'recordlinklaw14.BloomMay', WHERE WHAT IT READS IS OF BULK AT MOST 1048576: true; the input reads as it did. -/
def bloomMayUptoRow : OpenClaim := { program := "ytfnojcalalncbaa", sum := "8ab0f9e02108661ce7c496f8e021b8b38d78f68fd722781f541db0f4407ef959", func := "recordlink/recordlinklaw14.BloomMay", spec := "bloomMay", unfollowed := true, recurses := true, apart := false, narrowed := true }
def BloomMayUptoSaid : Prop := bloomMayUptoRow.holds Try.pinned (OpenSpec.upto bloomMaySpec)

/-- 'recordlinklaw14.BloomMore', WHERE WHAT IT READS IS OF BULK AT MOST 1048576: true; the input reads as it did. -/
def bloomMoreUptoRow : OpenClaim := { program := "ytfnojcalalncbaa", sum := "8ab0f9e02108661ce7c496f8e021b8b38d78f68fd722781f541db0f4407ef959", func := "recordlink/recordlinklaw14.BloomMore", spec := "bloomMore", unfollowed := true, recurses := true, apart := false, narrowed := true }
def BloomMoreUptoSaid : Prop := bloomMoreUptoRow.holds Try.pinned (OpenSpec.upto bloomMoreSpec)

/-- 'recordlinklaw14.BloomSteps', WHERE WHAT IT READS IS OF BULK AT MOST 1048576: true; the input reads as it did. -/
def bloomStepsUptoRow : OpenClaim := { program := "ytfnojcalalncbaa", sum := "8ab0f9e02108661ce7c496f8e021b8b38d78f68fd722781f541db0f4407ef959", func := "recordlink/recordlinklaw14.BloomSteps", spec := "bloomSteps", unfollowed := true, recurses := true, apart := false, narrowed := true }
def BloomStepsUptoSaid : Prop := bloomStepsUptoRow.holds Try.pinned (OpenSpec.upto bloomStepsSpec)

end Rows
end Go.Proofs.Ytfnojcalalncbaa
