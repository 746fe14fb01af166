/-
  No cell of these rows narrows 'for every input' (looked for: loops, veiled, ifaces, maps, wideKeys, modest, calm, conditions, laid).
  DERIVED. THE GIVEN ROWS OF THIS SEAT. 9 by the template 'for every input the law returns true; each argument reads behind the call as it read before'; 0 by the template 'total and deterministic' (their statements: YtknlckjpgmjenaaTotals.lean).
  GIVEN WITH THE SEED: the statements are not yours to turn. If you find one false, say at which input.
  Laid BY PROGRAM, IN A SANDBOX (cutbox-rows.mjs): the forced cells as the released guide's own fill.sh prints them over the translation 34ce5a7f7578cc20… (all of the seat's roots in one cut). By AI agents, Wed Nov 11 2026. No macro, syntax, notation, axiom, sorry.
-/
import Derived.Test.YtknlckjpgmjenaaChecked
import GoSem.Claim
import GoSem.ClaimJoined
import GoSem.ClaimMapViews
import Derived.JoinedTies
import Derived.KernelRfl
namespace Go.Proofs.Ytknlckjpgmjenaa
/- THE CELL 'sum', in the pinned program and in every row, IS THE sha256 OF THE DUMP (.gsa) THAT YtknlckjpgmjenaaProg.lean LOADS. Nothing in Lean hashes anything: it is a label: what it is worth is what the hold of that sum in a sandbox is worth. -/
noncomputable def Try.pinned : Pinned := { name := "ytknlckjpgmjenaa", sum := "34ce5a7f7578cc20d16b3c73b336feb2983104f1231145e8d47784228d37d567", checked := Try.checked }
namespace Rows
def none {H : Type} : Left H := { results := [], args := [] }

/-- 'recordlinklaw26.CandidateKeys': WHATEVER THE INPUT: true; the input reads as it did. -/
def candidateKeysSpec : ChangeSpec := { name := "candidateKeys", fn := fun _ => fun
  | [d] => { results := [.lit (.bool true)], args := [d] }
  | _ => none }
def candidateKeysRow : OpenClaim := { program := "ytknlckjpgmjenaa", sum := "34ce5a7f7578cc20d16b3c73b336feb2983104f1231145e8d47784228d37d567", func := "recordlink/recordlinklaw26.CandidateKeys", spec := "candidateKeys", unfollowed := true, recurses := true, apart := false }
def CandidateKeysSaid : Prop := candidateKeysRow.holds Try.pinned (OpenSpec.ofChange candidateKeysSpec)

/-- ITS FALSE NEIGHBOUR: 'it returns false'. Refute it at one input. -/
def candidateKeysWrong : ChangeSpec := { name := "candidateKeys", fn := fun _ => fun
  | [d] => { results := [.lit (.bool false)], args := [d] }
  | _ => none }
def CandidateKeysWrongFalsely : Prop := candidateKeysRow.holds Try.pinned (OpenSpec.ofChange candidateKeysWrong)

/-- 'recordlinklaw26.CandidateGrows': WHATEVER THE INPUT: true; the input reads as it did. -/
def candidateGrowsSpec : ChangeSpec := { name := "candidateGrows", fn := fun _ => fun
  | [d] => { results := [.lit (.bool true)], args := [d] }
  | _ => none }
def candidateGrowsRow : OpenClaim := { program := "ytknlckjpgmjenaa", sum := "34ce5a7f7578cc20d16b3c73b336feb2983104f1231145e8d47784228d37d567", func := "recordlink/recordlinklaw26.CandidateGrows", spec := "candidateGrows", unfollowed := true, recurses := true, apart := false }
def CandidateGrowsSaid : Prop := candidateGrowsRow.holds Try.pinned (OpenSpec.ofChange candidateGrowsSpec)

/-- ITS FALSE NEIGHBOUR: 'it returns false'. Refute it at one input. -/
def candidateGrowsWrong : ChangeSpec := { name := "candidateGrows", fn := fun _ => fun
  | [d] => { results := [.lit (.bool false)], args := [d] }
  | _ => none }
def CandidateGrowsWrongFalsely : Prop := candidateGrowsRow.holds Try.pinned (OpenSpec.ofChange candidateGrowsWrong)

/-- 'recordlinklaw26.CandidateTurns': WHATEVER THE INPUT: true; the input reads as it did. -/
def candidateTurnsSpec : ChangeSpec := { name := "candidateTurns", fn := fun _ => fun
  | [d] => { results := [.lit (.bool true)], args := [d] }
  | _ => none }
def candidateTurnsRow : OpenClaim := { program := "ytknlckjpgmjenaa", sum := "34ce5a7f7578cc20d16b3c73b336feb2983104f1231145e8d47784228d37d567", func := "recordlink/recordlinklaw26.CandidateTurns", spec := "candidateTurns", unfollowed := true, recurses := true, apart := false }
def CandidateTurnsSaid : Prop := candidateTurnsRow.holds Try.pinned (OpenSpec.ofChange candidateTurnsSpec)

/-- ITS FALSE NEIGHBOUR: 'it returns false'. Refute it at one input. -/
def candidateTurnsWrong : ChangeSpec := { name := "candidateTurns", fn := fun _ => fun
  | [d] => { results := [.lit (.bool false)], args := [d] }
  | _ => none }
def CandidateTurnsWrongFalsely : Prop := candidateTurnsRow.holds Try.pinned (OpenSpec.ofChange candidateTurnsWrong)

/-- 'recordlinklaw26.CandidateExact': WHATEVER THE INPUT: true; the input reads as it did. -/
def candidateExactSpec : ChangeSpec := { name := "candidateExact", fn := fun _ => fun
  | [d1, d2, d3, d4, d5, d6] => { results := [.lit (.bool true)], args := [d1, d2, d3, d4, d5, d6] }
  | _ => none }
def candidateExactRow : OpenClaim := { program := "ytknlckjpgmjenaa", sum := "34ce5a7f7578cc20d16b3c73b336feb2983104f1231145e8d47784228d37d567", func := "recordlink/recordlinklaw26.CandidateExact", spec := "candidateExact", unfollowed := true, recurses := true, apart := false }
def CandidateExactSaid : Prop := candidateExactRow.holds Try.pinned (OpenSpec.ofChange candidateExactSpec)

/-- ITS FALSE NEIGHBOUR: 'it returns false'. Refute it at one input. -/
def candidateExactWrong : ChangeSpec := { name := "candidateExact", fn := fun _ => fun
  | [d1, d2, d3, d4, d5, d6] => { results := [.lit (.bool false)], args := [d1, d2, d3, d4, d5, d6] }
  | _ => none }
def CandidateExactWrongFalsely : Prop := candidateExactRow.holds Try.pinned (OpenSpec.ofChange candidateExactWrong)

/-- 'recordlinklaw23.PatternMarginals': WHATEVER THE INPUT: true; the input reads as it did. -/
def patternMarginalsSpec : ChangeSpec := { name := "patternMarginals", fn := fun _ => fun
  | [d] => { results := [.lit (.bool true)], args := [d] }
  | _ => none }
def patternMarginalsRow : OpenClaim := { program := "ytknlckjpgmjenaa", sum := "34ce5a7f7578cc20d16b3c73b336feb2983104f1231145e8d47784228d37d567", func := "recordlink/recordlinklaw23.PatternMarginals", spec := "patternMarginals", unfollowed := true, recurses := true, apart := false }
def PatternMarginalsSaid : Prop := patternMarginalsRow.holds Try.pinned (OpenSpec.ofChange patternMarginalsSpec)

/-- ITS FALSE NEIGHBOUR: 'it returns false'. Refute it at one input. -/
def patternMarginalsWrong : ChangeSpec := { name := "patternMarginals", fn := fun _ => fun
  | [d] => { results := [.lit (.bool false)], args := [d] }
  | _ => none }
def PatternMarginalsWrongFalsely : Prop := patternMarginalsRow.holds Try.pinned (OpenSpec.ofChange patternMarginalsWrong)

/-- 'recordlinklaw23.PatternCounts': WHATEVER THE INPUT: true; the input reads as it did. -/
def patternCountsSpec : ChangeSpec := { name := "patternCounts", fn := fun _ => fun
  | [d] => { results := [.lit (.bool true)], args := [d] }
  | _ => none }
def patternCountsRow : OpenClaim := { program := "ytknlckjpgmjenaa", sum := "34ce5a7f7578cc20d16b3c73b336feb2983104f1231145e8d47784228d37d567", func := "recordlink/recordlinklaw23.PatternCounts", spec := "patternCounts", unfollowed := true, recurses := true, apart := false }
def PatternCountsSaid : Prop := patternCountsRow.holds Try.pinned (OpenSpec.ofChange patternCountsSpec)

/-- ITS FALSE NEIGHBOUR: 'it returns false'. Refute it at one input. -/
def patternCountsWrong : ChangeSpec := { name := "patternCounts", fn := fun _ => fun
  | [d] => { results := [.lit (.bool false)], args := [d] }
  | _ => none }
def PatternCountsWrongFalsely : Prop := patternCountsRow.holds Try.pinned (OpenSpec.ofChange patternCountsWrong)

/-- 'recordlinklaw23.PatternThresholds': WHATEVER THE INPUT: true; the input reads as it did. -/
def patternThresholdsSpec : ChangeSpec := { name := "patternThresholds", fn := fun _ => fun
  | [d] => { results := [.lit (.bool true)], args := [d] }
  | _ => none }
def patternThresholdsRow : OpenClaim := { program := "ytknlckjpgmjenaa", sum := "34ce5a7f7578cc20d16b3c73b336feb2983104f1231145e8d47784228d37d567", func := "recordlink/recordlinklaw23.PatternThresholds", spec := "patternThresholds", unfollowed := true, recurses := true, apart := false }
def PatternThresholdsSaid : Prop := patternThresholdsRow.holds Try.pinned (OpenSpec.ofChange patternThresholdsSpec)

/-- ITS FALSE NEIGHBOUR: 'it returns false'. Refute it at one input. -/
def patternThresholdsWrong : ChangeSpec := { name := "patternThresholds", fn := fun _ => fun
  | [d] => { results := [.lit (.bool false)], args := [d] }
  | _ => none }
def PatternThresholdsWrongFalsely : Prop := patternThresholdsRow.holds Try.pinned (OpenSpec.ofChange patternThresholdsWrong)

/-- 'recordlinklaw23.PatternExact': WHATEVER THE INPUT: true; the input reads as it did. -/
def patternExactSpec : ChangeSpec := { name := "patternExact", fn := fun _ => fun
  | [d1, d2, d3, d4, d5, d6, d7, d8, d9] => { results := [.lit (.bool true)], args := [d1, d2, d3, d4, d5, d6, d7, d8, d9] }
  | _ => none }
def patternExactRow : OpenClaim := { program := "ytknlckjpgmjenaa", sum := "34ce5a7f7578cc20d16b3c73b336feb2983104f1231145e8d47784228d37d567", func := "recordlink/recordlinklaw23.PatternExact", spec := "patternExact", unfollowed := true, recurses := true, apart := false }
def PatternExactSaid : Prop := patternExactRow.holds Try.pinned (OpenSpec.ofChange patternExactSpec)

/-- ITS FALSE NEIGHBOUR: 'it returns false'. Refute it at one input. -/
def patternExactWrong : ChangeSpec := { name := "patternExact", fn := fun _ => fun
  | [d1, d2, d3, d4, d5, d6, d7, d8, d9] => { results := [.lit (.bool false)], args := [d1, d2, d3, d4, d5, d6, d7, d8, d9] }
  | _ => none }
def PatternExactWrongFalsely : Prop := patternExactRow.holds Try.pinned (OpenSpec.ofChange patternExactWrong)

/-- 'recordlinklaw23.PatternAdds': WHATEVER THE INPUT: true; the input reads as it did. -/
def patternAddsSpec : ChangeSpec := { name := "patternAdds", fn := fun _ => fun
  | [d1, d2] => { results := [.lit (.bool true)], args := [d1, d2] }
  | _ => none }
def patternAddsRow : OpenClaim := { program := "ytknlckjpgmjenaa", sum := "34ce5a7f7578cc20d16b3c73b336feb2983104f1231145e8d47784228d37d567", func := "recordlink/recordlinklaw23.PatternAdds", spec := "patternAdds", unfollowed := true, recurses := true, apart := false }
def PatternAddsSaid : Prop := patternAddsRow.holds Try.pinned (OpenSpec.ofChange patternAddsSpec)

/-- ITS FALSE NEIGHBOUR: 'it returns false'. Refute it at one input. -/
def patternAddsWrong : ChangeSpec := { name := "patternAdds", fn := fun _ => fun
  | [d1, d2] => { results := [.lit (.bool false)], args := [d1, d2] }
  | _ => none }
def PatternAddsWrongFalsely : Prop := patternAddsRow.holds Try.pinned (OpenSpec.ofChange patternAddsWrong)

/- THE SECOND FORM. 'bulk': how many values and letters a reading holds, each counted each time it is reached (what is shared counts as often as it is met; a slice's spare places count too). A statement '..UptoSaid' is the law's where the arguments, and the package variables that the reading takes, are together of bulk at most 1048576: NARROWER than '..Said'. Prove '..Said' where nothing that the law and all that it calls make is longer than what came in: it says more and counts as full. Else prove '..UptoSaid'. A law counts once. -/
mutual
def uptoBulk {H : Type} : DataW H → Nat
  | .lit (.string bytes) => bytes.length + 1
  | .lit _ => 1
  | .nil => 1
  | .ptr d => uptoBulk d + 1
  | .slice elems spare => uptoBulkAll elems + uptoBulkAll spare + 1
  | .agg parts => uptoBulkAll parts + 1
  | .iface _ d => uptoBulk d + 1
  | .map entries => uptoBulkEntries entries + 1
  | .held _ => 1
def uptoBulkAll {H : Type} : List (DataW H) → Nat
  | [] => 0
  | d :: r => uptoBulk d + uptoBulkAll r
def uptoBulkEntries {H : Type} : List (Lit × DataW H) → Nat
  | [] => 0
  | x :: r => uptoBulkEntry x + uptoBulkEntries r
def uptoBulkEntry {H : Type} : Lit × DataW H → Nat
  | (.string bytes, d) => bytes.length + uptoBulk d + 1
  | (_, d) => uptoBulk d + 1
 end
def uptoSmall : (H : Type) → List (DataW H) → Bool := fun _ ds => decide (uptoBulkAll ds ≤ 1048576)
def OpenSpec.upto (s : _root_.Go.ChangeSpec) : _root_.Go.OpenSpec := { _root_.Go.OpenSpec.ofChange s with cond := some uptoSmall }

/-- 'recordlinklaw26.CandidateKeys', WHERE WHAT IT READS IS OF BULK AT MOST 1048576: true; the input reads as it did. -/
def candidateKeysUptoRow : OpenClaim := { program := "ytknlckjpgmjenaa", sum := "34ce5a7f7578cc20d16b3c73b336feb2983104f1231145e8d47784228d37d567", func := "recordlink/recordlinklaw26.CandidateKeys", spec := "candidateKeys", unfollowed := true, recurses := true, apart := false, narrowed := true }
def CandidateKeysUptoSaid : Prop := candidateKeysUptoRow.holds Try.pinned (OpenSpec.upto candidateKeysSpec)

/-- 'recordlinklaw26.CandidateGrows', WHERE WHAT IT READS IS OF BULK AT MOST 1048576: true; the input reads as it did. -/
def candidateGrowsUptoRow : OpenClaim := { program := "ytknlckjpgmjenaa", sum := "34ce5a7f7578cc20d16b3c73b336feb2983104f1231145e8d47784228d37d567", func := "recordlink/recordlinklaw26.CandidateGrows", spec := "candidateGrows", unfollowed := true, recurses := true, apart := false, narrowed := true }
def CandidateGrowsUptoSaid : Prop := candidateGrowsUptoRow.holds Try.pinned (OpenSpec.upto candidateGrowsSpec)

/-- 'recordlinklaw26.CandidateTurns', WHERE WHAT IT READS IS OF BULK AT MOST 1048576: true; the input reads as it did. -/
def candidateTurnsUptoRow : OpenClaim := { program := "ytknlckjpgmjenaa", sum := "34ce5a7f7578cc20d16b3c73b336feb2983104f1231145e8d47784228d37d567", func := "recordlink/recordlinklaw26.CandidateTurns", spec := "candidateTurns", unfollowed := true, recurses := true, apart := false, narrowed := true }
def CandidateTurnsUptoSaid : Prop := candidateTurnsUptoRow.holds Try.pinned (OpenSpec.upto candidateTurnsSpec)

/-- 'recordlinklaw26.CandidateExact', WHERE WHAT IT READS IS OF BULK AT MOST 1048576: true; the input reads as it did. -/
def candidateExactUptoRow : OpenClaim := { program := "ytknlckjpgmjenaa", sum := "34ce5a7f7578cc20d16b3c73b336feb2983104f1231145e8d47784228d37d567", func := "recordlink/recordlinklaw26.CandidateExact", spec := "candidateExact", unfollowed := true, recurses := true, apart := false, narrowed := true }
def CandidateExactUptoSaid : Prop := candidateExactUptoRow.holds Try.pinned (OpenSpec.upto candidateExactSpec)

/-- 'recordlinklaw23.PatternMarginals', WHERE WHAT IT READS IS OF BULK AT MOST 1048576: true; the input reads as it did. -/
def patternMarginalsUptoRow : OpenClaim := { program := "ytknlckjpgmjenaa", sum := "34ce5a7f7578cc20d16b3c73b336feb2983104f1231145e8d47784228d37d567", func := "recordlink/recordlinklaw23.PatternMarginals", spec := "patternMarginals", unfollowed := true, recurses := true, apart := false, narrowed := true }
def PatternMarginalsUptoSaid : Prop := patternMarginalsUptoRow.holds Try.pinned (OpenSpec.upto patternMarginalsSpec)

/-- 'recordlinklaw23.PatternCounts', WHERE WHAT IT READS IS OF BULK AT MOST 1048576: true; the input reads as it did. -/
def patternCountsUptoRow : OpenClaim := { program := "ytknlckjpgmjenaa", sum := "34ce5a7f7578cc20d16b3c73b336feb2983104f1231145e8d47784228d37d567", func := "recordlink/recordlinklaw23.PatternCounts", spec := "patternCounts", unfollowed := true, recurses := true, apart := false, narrowed := true }
def PatternCountsUptoSaid : Prop := patternCountsUptoRow.holds Try.pinned (OpenSpec.upto patternCountsSpec)

/-- 'recordlinklaw23.PatternThresholds', WHERE WHAT IT READS IS OF BULK AT MOST 1048576: true; the input reads as it did. -/
def patternThresholdsUptoRow : OpenClaim := { program := "ytknlckjpgmjenaa", sum := "34ce5a7f7578cc20d16b3c73b336feb2983104f1231145e8d47784228d37d567", func := "recordlink/recordlinklaw23.PatternThresholds", spec := "patternThresholds", unfollowed := true, recurses := true, apart := false, narrowed := true }
def PatternThresholdsUptoSaid : Prop := patternThresholdsUptoRow.holds Try.pinned (OpenSpec.upto patternThresholdsSpec)

/-- 'recordlinklaw23.PatternExact', WHERE WHAT IT READS IS OF BULK AT MOST 1048576: true; the input reads as it did. -/
def patternExactUptoRow : OpenClaim := { program := "ytknlckjpgmjenaa", sum := "34ce5a7f7578cc20d16b3c73b336feb2983104f1231145e8d47784228d37d567", func := "recordlink/recordlinklaw23.PatternExact", spec := "patternExact", unfollowed := true, recurses := true, apart := false, narrowed := true }
def PatternExactUptoSaid : Prop := patternExactUptoRow.holds Try.pinned (OpenSpec.upto patternExactSpec)

/-- 'recordlinklaw23.PatternAdds', WHERE WHAT IT READS IS OF BULK AT MOST 1048576: true; the input reads as it did. -/
def patternAddsUptoRow : OpenClaim := { program := "ytknlckjpgmjenaa", sum := "34ce5a7f7578cc20d16b3c73b336feb2983104f1231145e8d47784228d37d567", func := "recordlink/recordlinklaw23.PatternAdds", spec := "patternAdds", unfollowed := true, recurses := true, apart := false, narrowed := true }
def PatternAddsUptoSaid : Prop := patternAddsUptoRow.holds Try.pinned (OpenSpec.upto patternAddsSpec)

end Rows
end Go.Proofs.Ytknlckjpgmjenaa
