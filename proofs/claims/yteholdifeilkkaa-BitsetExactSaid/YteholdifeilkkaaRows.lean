/-
  No cell of these rows narrows 'for every input' (looked for: loops, veiled, ifaces, maps, wideKeys, modest, calm, conditions, laid).
  DERIVED. THE GIVEN ROWS OF THIS SEAT. 9 by the template 'for every input the law returns true; each argument reads behind the call as it read before'; 0 by the template 'total and deterministic' (their statements: YteholdifeilkkaaTotals.lean).
  GIVEN WITH THE SEED: the statements are not yours to turn. If you find one false, say at which input.
  Laid BY PROGRAM, IN A SANDBOX (cutbox-rows.mjs): the forced cells as the released guide's own fill.sh prints them over the translation bb3b2a8899dda2d8… (all of the seat's roots in one cut). By AI agents, Wed Nov 11 2026. No macro, syntax, notation, axiom, sorry.
-/
import Derived.Test.YteholdifeilkkaaChecked
import GoSem.Claim
import GoSem.ClaimJoined
import GoSem.ClaimMapViews
import Derived.JoinedTies
import Derived.KernelRfl
namespace Go.Proofs.Yteholdifeilkkaa
/- THE CELL 'sum', in the pinned program and in every row, IS THE sha256 OF THE DUMP (.gsa) THAT YteholdifeilkkaaProg.lean LOADS. Nothing in Lean hashes anything: it is a label: what it is worth is what the hold of that sum in a sandbox is worth. -/
noncomputable def Try.pinned : Pinned := { name := "yteholdifeilkkaa", sum := "bb3b2a8899dda2d83abfae54a05f150334e4dcd5abff887ba71a870f7fc2cc75", checked := Try.checked }
namespace Rows
def none {H : Type} : Left H := { results := [], args := [] }

/-- 'recordlinklaw17.SimilarityBits': WHATEVER THE INPUT: true; the input reads as it did. -/
def similarityBitsSpec : ChangeSpec := { name := "similarityBits", fn := fun _ => fun
  | [d] => { results := [.lit (.bool true)], args := [d] }
  | _ => none }
def similarityBitsRow : OpenClaim := { program := "yteholdifeilkkaa", sum := "bb3b2a8899dda2d83abfae54a05f150334e4dcd5abff887ba71a870f7fc2cc75", func := "recordlink/recordlinklaw17.SimilarityBits", spec := "similarityBits", unfollowed := true, recurses := true, apart := false }
def SimilarityBitsSaid : Prop := similarityBitsRow.holds Try.pinned (OpenSpec.ofChange similarityBitsSpec)

/-- ITS FALSE NEIGHBOUR: 'it returns false'. Refute it at one input. -/
def similarityBitsWrong : ChangeSpec := { name := "similarityBits", fn := fun _ => fun
  | [d] => { results := [.lit (.bool false)], args := [d] }
  | _ => none }
def SimilarityBitsWrongFalsely : Prop := similarityBitsRow.holds Try.pinned (OpenSpec.ofChange similarityBitsWrong)

/-- 'recordlinklaw09.BitsetSets': WHATEVER THE INPUT: true; the input reads as it did. -/
def bitsetSetsSpec : ChangeSpec := { name := "bitsetSets", fn := fun _ => fun
  | [d] => { results := [.lit (.bool true)], args := [d] }
  | _ => none }
def bitsetSetsRow : OpenClaim := { program := "yteholdifeilkkaa", sum := "bb3b2a8899dda2d83abfae54a05f150334e4dcd5abff887ba71a870f7fc2cc75", func := "recordlink/recordlinklaw09.BitsetSets", spec := "bitsetSets", apart := false }
def BitsetSetsSaid : Prop := bitsetSetsRow.holds Try.pinned (OpenSpec.ofChange bitsetSetsSpec)

/-- ITS FALSE NEIGHBOUR: 'it returns false'. Refute it at one input. -/
def bitsetSetsWrong : ChangeSpec := { name := "bitsetSets", fn := fun _ => fun
  | [d] => { results := [.lit (.bool false)], args := [d] }
  | _ => none }
def BitsetSetsWrongFalsely : Prop := bitsetSetsRow.holds Try.pinned (OpenSpec.ofChange bitsetSetsWrong)

/-- 'recordlinklaw17.SimilaritySymmetric': WHATEVER THE INPUT: true; the input reads as it did. -/
def similaritySymmetricSpec : ChangeSpec := { name := "similaritySymmetric", fn := fun _ => fun
  | [d] => { results := [.lit (.bool true)], args := [d] }
  | _ => none }
def similaritySymmetricRow : OpenClaim := { program := "yteholdifeilkkaa", sum := "bb3b2a8899dda2d83abfae54a05f150334e4dcd5abff887ba71a870f7fc2cc75", func := "recordlink/recordlinklaw17.SimilaritySymmetric", spec := "similaritySymmetric", unfollowed := true, recurses := true, apart := false }
def SimilaritySymmetricSaid : Prop := similaritySymmetricRow.holds Try.pinned (OpenSpec.ofChange similaritySymmetricSpec)

/-- ITS FALSE NEIGHBOUR: 'it returns false'. Refute it at one input. -/
def similaritySymmetricWrong : ChangeSpec := { name := "similaritySymmetric", fn := fun _ => fun
  | [d] => { results := [.lit (.bool false)], args := [d] }
  | _ => none }
def SimilaritySymmetricWrongFalsely : Prop := similaritySymmetricRow.holds Try.pinned (OpenSpec.ofChange similaritySymmetricWrong)

/-- 'recordlinklaw17.SimilarityNumbers': WHATEVER THE INPUT: true; the input reads as it did. -/
def similarityNumbersSpec : ChangeSpec := { name := "similarityNumbers", fn := fun _ => fun
  | [d1, d2] => { results := [.lit (.bool true)], args := [d1, d2] }
  | _ => none }
def similarityNumbersRow : OpenClaim := { program := "yteholdifeilkkaa", sum := "bb3b2a8899dda2d83abfae54a05f150334e4dcd5abff887ba71a870f7fc2cc75", func := "recordlink/recordlinklaw17.SimilarityNumbers", spec := "similarityNumbers", unfollowed := true, recurses := true, apart := false }
def SimilarityNumbersSaid : Prop := similarityNumbersRow.holds Try.pinned (OpenSpec.ofChange similarityNumbersSpec)

/-- ITS FALSE NEIGHBOUR: 'it returns false'. Refute it at one input. -/
def similarityNumbersWrong : ChangeSpec := { name := "similarityNumbers", fn := fun _ => fun
  | [d1, d2] => { results := [.lit (.bool false)], args := [d1, d2] }
  | _ => none }
def SimilarityNumbersWrongFalsely : Prop := similarityNumbersRow.holds Try.pinned (OpenSpec.ofChange similarityNumbersWrong)

/-- 'recordlinklaw09.BitsetCounts': WHATEVER THE INPUT: true; the input reads as it did. -/
def bitsetCountsSpec : ChangeSpec := { name := "bitsetCounts", fn := fun _ => fun
  | [d] => { results := [.lit (.bool true)], args := [d] }
  | _ => none }
def bitsetCountsRow : OpenClaim := { program := "yteholdifeilkkaa", sum := "bb3b2a8899dda2d83abfae54a05f150334e4dcd5abff887ba71a870f7fc2cc75", func := "recordlink/recordlinklaw09.BitsetCounts", spec := "bitsetCounts", unfollowed := true, recurses := true, apart := false }
def BitsetCountsSaid : Prop := bitsetCountsRow.holds Try.pinned (OpenSpec.ofChange bitsetCountsSpec)

/-- ITS FALSE NEIGHBOUR: 'it returns false'. Refute it at one input. -/
def bitsetCountsWrong : ChangeSpec := { name := "bitsetCounts", fn := fun _ => fun
  | [d] => { results := [.lit (.bool false)], args := [d] }
  | _ => none }
def BitsetCountsWrongFalsely : Prop := bitsetCountsRow.holds Try.pinned (OpenSpec.ofChange bitsetCountsWrong)

/-- 'recordlinklaw09.BitsetFolds': WHATEVER THE INPUT: true; the input reads as it did. -/
def bitsetFoldsSpec : ChangeSpec := { name := "bitsetFolds", fn := fun _ => fun
  | [d] => { results := [.lit (.bool true)], args := [d] }
  | _ => none }
def bitsetFoldsRow : OpenClaim := { program := "yteholdifeilkkaa", sum := "bb3b2a8899dda2d83abfae54a05f150334e4dcd5abff887ba71a870f7fc2cc75", func := "recordlink/recordlinklaw09.BitsetFolds", spec := "bitsetFolds", unfollowed := true, recurses := true, apart := false }
def BitsetFoldsSaid : Prop := bitsetFoldsRow.holds Try.pinned (OpenSpec.ofChange bitsetFoldsSpec)

/-- ITS FALSE NEIGHBOUR: 'it returns false'. Refute it at one input. -/
def bitsetFoldsWrong : ChangeSpec := { name := "bitsetFolds", fn := fun _ => fun
  | [d] => { results := [.lit (.bool false)], args := [d] }
  | _ => none }
def BitsetFoldsWrongFalsely : Prop := bitsetFoldsRow.holds Try.pinned (OpenSpec.ofChange bitsetFoldsWrong)

/-- 'recordlinklaw17.SimilarityThresholds': WHATEVER THE INPUT: true; the input reads as it did. -/
def similarityThresholdsSpec : ChangeSpec := { name := "similarityThresholds", fn := fun _ => fun
  | [d] => { results := [.lit (.bool true)], args := [d] }
  | _ => none }
def similarityThresholdsRow : OpenClaim := { program := "yteholdifeilkkaa", sum := "bb3b2a8899dda2d83abfae54a05f150334e4dcd5abff887ba71a870f7fc2cc75", func := "recordlink/recordlinklaw17.SimilarityThresholds", spec := "similarityThresholds", unfollowed := true, recurses := true, apart := false }
def SimilarityThresholdsSaid : Prop := similarityThresholdsRow.holds Try.pinned (OpenSpec.ofChange similarityThresholdsSpec)

/-- ITS FALSE NEIGHBOUR: 'it returns false'. Refute it at one input. -/
def similarityThresholdsWrong : ChangeSpec := { name := "similarityThresholds", fn := fun _ => fun
  | [d] => { results := [.lit (.bool false)], args := [d] }
  | _ => none }
def SimilarityThresholdsWrongFalsely : Prop := similarityThresholdsRow.holds Try.pinned (OpenSpec.ofChange similarityThresholdsWrong)

/-- 'recordlinklaw09.BitsetBack': WHATEVER THE INPUT: true; the input reads as it did. -/
def bitsetBackSpec : ChangeSpec := { name := "bitsetBack", fn := fun _ => fun
  | [d] => { results := [.lit (.bool true)], args := [d] }
  | _ => none }
def bitsetBackRow : OpenClaim := { program := "yteholdifeilkkaa", sum := "bb3b2a8899dda2d83abfae54a05f150334e4dcd5abff887ba71a870f7fc2cc75", func := "recordlink/recordlinklaw09.BitsetBack", spec := "bitsetBack", apart := false }
def BitsetBackSaid : Prop := bitsetBackRow.holds Try.pinned (OpenSpec.ofChange bitsetBackSpec)

/-- ITS FALSE NEIGHBOUR: 'it returns false'. Refute it at one input. -/
def bitsetBackWrong : ChangeSpec := { name := "bitsetBack", fn := fun _ => fun
  | [d] => { results := [.lit (.bool false)], args := [d] }
  | _ => none }
def BitsetBackWrongFalsely : Prop := bitsetBackRow.holds Try.pinned (OpenSpec.ofChange bitsetBackWrong)

/-- 'recordlinklaw09.BitsetExact': WHATEVER THE INPUT: true; the input reads as it did. -/
def bitsetExactSpec : ChangeSpec := { name := "bitsetExact", fn := fun _ => fun
  | [d1, d2, d3, d4, d5] => { results := [.lit (.bool true)], args := [d1, d2, d3, d4, d5] }
  | _ => none }
def bitsetExactRow : OpenClaim := { program := "yteholdifeilkkaa", sum := "bb3b2a8899dda2d83abfae54a05f150334e4dcd5abff887ba71a870f7fc2cc75", func := "recordlink/recordlinklaw09.BitsetExact", spec := "bitsetExact", unfollowed := true, recurses := true, apart := false }
def BitsetExactSaid : Prop := bitsetExactRow.holds Try.pinned (OpenSpec.ofChange bitsetExactSpec)

/-- ITS FALSE NEIGHBOUR: 'it returns false'. Refute it at one input. -/
def bitsetExactWrong : ChangeSpec := { name := "bitsetExact", fn := fun _ => fun
  | [d1, d2, d3, d4, d5] => { results := [.lit (.bool false)], args := [d1, d2, d3, d4, d5] }
  | _ => none }
def BitsetExactWrongFalsely : Prop := bitsetExactRow.holds Try.pinned (OpenSpec.ofChange bitsetExactWrong)

/- THE SECOND FORM. 'bulk': how many values and letters a reading holds, each counted each time it is reached (what is shared counts as often as it is met; a slice's spare places count too). A statement '..UptoSaid' is the law's where the arguments, and the package variables that the reading takes, are together of bulk at most 1048576: NARROWER than '..Said'. Prove '..Said' where nothing that the law and all that it calls make is longer than what came in: it says more and counts as full. Else prove '..UptoSaid'. A law counts once. -/
mutual
def uptoBulk {H : Type} : DataW H → Nat
  | .lit (.string bytes) => bytes.length + 1
  | .lit _ => 1
  | .nil => 1
  | .ptr d => uptoBulk d + 1
  | .slice elems spare => uptoBulkAll elems + uptoBulkAll spare + 1
  | .agg parts => uptoBulkAll parts + 1
  | .iface _ d => uptoBulk d + 1
  | .map entries => uptoBulkEntries entries + 1
  | .held _ => 1
def uptoBulkAll {H : Type} : List (DataW H) → Nat
  | [] => 0
  | d :: r => uptoBulk d + uptoBulkAll r
def uptoBulkEntries {H : Type} : List (Lit × DataW H) → Nat
  | [] => 0
  | x :: r => uptoBulkEntry x + uptoBulkEntries r
def uptoBulkEntry {H : Type} : Lit × DataW H → Nat
  | (.string bytes, d) => bytes.length + uptoBulk d + 1
  | (_, d) => uptoBulk d + 1
 end
def uptoSmall : (H : Type) → List (DataW H) → Bool := fun _ ds => decide (uptoBulkAll ds ≤ 1048576)
def OpenSpec.upto (s : _root_.Go.ChangeSpec) : _root_.Go.OpenSpec := { _root_.Go.OpenSpec.ofChange s with cond := some uptoSmall }

/-- 'recordlinklaw17.SimilarityBits', WHERE WHAT IT READS IS OF BULK AT MOST 1048576: true; the input reads as it did. -/
def similarityBitsUptoRow : OpenClaim := { program := "yteholdifeilkkaa", sum := "bb3b2a8899dda2d83abfae54a05f150334e4dcd5abff887ba71a870f7fc2cc75", func := "recordlink/recordlinklaw17.SimilarityBits", spec := "similarityBits", unfollowed := true, recurses := true, apart := false, narrowed := true }
def SimilarityBitsUptoSaid : Prop := similarityBitsUptoRow.holds Try.pinned (OpenSpec.upto similarityBitsSpec)

/-- 'recordlinklaw09.BitsetSets', WHERE WHAT IT READS IS OF BULK AT MOST 1048576: true; the input reads as it did. -/
def bitsetSetsUptoRow : OpenClaim := { program := "yteholdifeilkkaa", sum := "bb3b2a8899dda2d83abfae54a05f150334e4dcd5abff887ba71a870f7fc2cc75", func := "recordlink/recordlinklaw09.BitsetSets", spec := "bitsetSets", apart := false, narrowed := true }
def BitsetSetsUptoSaid : Prop := bitsetSetsUptoRow.holds Try.pinned (OpenSpec.upto bitsetSetsSpec)

/-- 'recordlinklaw17.SimilaritySymmetric', WHERE WHAT IT READS IS OF BULK AT MOST 1048576: true; the input reads as it did. -/
def similaritySymmetricUptoRow : OpenClaim := { program := "yteholdifeilkkaa", sum := "bb3b2a8899dda2d83abfae54a05f150334e4dcd5abff887ba71a870f7fc2cc75", func := "recordlink/recordlinklaw17.SimilaritySymmetric", spec := "similaritySymmetric", unfollowed := true, recurses := true, apart := false, narrowed := true }
def SimilaritySymmetricUptoSaid : Prop := similaritySymmetricUptoRow.holds Try.pinned (OpenSpec.upto similaritySymmetricSpec)

/-- 'recordlinklaw17.SimilarityNumbers', WHERE WHAT IT READS IS OF BULK AT MOST 1048576: true; the input reads as it did. -/
def similarityNumbersUptoRow : OpenClaim := { program := "yteholdifeilkkaa", sum := "bb3b2a8899dda2d83abfae54a05f150334e4dcd5abff887ba71a870f7fc2cc75", func := "recordlink/recordlinklaw17.SimilarityNumbers", spec := "similarityNumbers", unfollowed := true, recurses := true, apart := false, narrowed := true }
def SimilarityNumbersUptoSaid : Prop := similarityNumbersUptoRow.holds Try.pinned (OpenSpec.upto similarityNumbersSpec)

/-- 'recordlinklaw09.BitsetCounts', WHERE WHAT IT READS IS OF BULK AT MOST 1048576: true; the input reads as it did. -/
def bitsetCountsUptoRow : OpenClaim := { program := "yteholdifeilkkaa", sum := "bb3b2a8899dda2d83abfae54a05f150334e4dcd5abff887ba71a870f7fc2cc75", func := "recordlink/recordlinklaw09.BitsetCounts", spec := "bitsetCounts", unfollowed := true, recurses := true, apart := false, narrowed := true }
def BitsetCountsUptoSaid : Prop := bitsetCountsUptoRow.holds Try.pinned (OpenSpec.upto bitsetCountsSpec)

/-- 'recordlinklaw09.BitsetFolds', WHERE WHAT IT READS IS OF BULK AT MOST 1048576: true; the input reads as it did. -/
def bitsetFoldsUptoRow : OpenClaim := { program := "yteholdifeilkkaa", sum := "bb3b2a8899dda2d83abfae54a05f150334e4dcd5abff887ba71a870f7fc2cc75", func := "recordlink/recordlinklaw09.BitsetFolds", spec := "bitsetFolds", unfollowed := true, recurses := true, apart := false, narrowed := true }
def BitsetFoldsUptoSaid : Prop := bitsetFoldsUptoRow.holds Try.pinned (OpenSpec.upto bitsetFoldsSpec)

/-- 'recordlinklaw17.SimilarityThresholds', WHERE WHAT IT READS IS OF BULK AT MOST 1048576: true; the input reads as it did. -/
def similarityThresholdsUptoRow : OpenClaim := { program := "yteholdifeilkkaa", sum := "bb3b2a8899dda2d83abfae54a05f150334e4dcd5abff887ba71a870f7fc2cc75", func := "recordlink/recordlinklaw17.SimilarityThresholds", spec := "similarityThresholds", unfollowed := true, recurses := true, apart := false, narrowed := true }
def SimilarityThresholdsUptoSaid : Prop := similarityThresholdsUptoRow.holds Try.pinned (OpenSpec.upto similarityThresholdsSpec)

/-- 'recordlinklaw09.BitsetBack', WHERE WHAT IT READS IS OF BULK AT MOST 1048576: true; the input reads as it did. -/
def bitsetBackUptoRow : OpenClaim := { program := "yteholdifeilkkaa", sum := "bb3b2a8899dda2d83abfae54a05f150334e4dcd5abff887ba71a870f7fc2cc75", func := "recordlink/recordlinklaw09.BitsetBack", spec := "bitsetBack", apart := false, narrowed := true }
def BitsetBackUptoSaid : Prop := bitsetBackUptoRow.holds Try.pinned (OpenSpec.upto bitsetBackSpec)

/-- 'recordlinklaw09.BitsetExact', WHERE WHAT IT READS IS OF BULK AT MOST 1048576: true; the input reads as it did. -/
def bitsetExactUptoRow : OpenClaim := { program := "yteholdifeilkkaa", sum := "bb3b2a8899dda2d83abfae54a05f150334e4dcd5abff887ba71a870f7fc2cc75", func := "recordlink/recordlinklaw09.BitsetExact", spec := "bitsetExact", unfollowed := true, recurses := true, apart := false, narrowed := true }
def BitsetExactUptoSaid : Prop := bitsetExactUptoRow.holds Try.pinned (OpenSpec.upto bitsetExactSpec)

end Rows
end Go.Proofs.Yteholdifeilkkaa
