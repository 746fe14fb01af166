/-
  No cell of these rows narrows 'for every input' (looked for: loops, veiled, ifaces, maps, wideKeys, modest, calm, conditions, laid).
  DERIVED. THE GIVEN ROWS OF THIS SEAT. 6 by the template 'for every input the law returns true; each argument reads behind the call as it read before'; 0 by the template 'total and deterministic' (their statements: YtafmpnilgknfhaaTotals.lean).
  GIVEN WITH THE SEED: the statements are not yours to turn. If you find one false, say at which input.
  Laid BY PROGRAM, IN A SANDBOX (cutbox-rows.mjs): the forced cells as the released guide's own fill.sh prints them over the translation 54d749ac8fd9f220… (all of the seat's roots in one cut). By AI agents, Wed Nov 11 2026. No macro, syntax, notation, axiom, sorry.
-/
import Derived.Test.YtafmpnilgknfhaaChecked
import GoSem.Claim
import GoSem.ClaimJoined
import GoSem.ClaimMapViews
import Derived.JoinedTies
import Derived.KernelRfl
namespace Go.Proofs.Ytafmpnilgknfhaa
/- THE CELL 'sum', in the pinned program and in every row, IS THE sha256 OF THE DUMP (.gsa) THAT YtafmpnilgknfhaaProg.lean LOADS. Nothing in Lean hashes anything: it is a label: what it is worth is what the hold of that sum in a sandbox is worth. -/
noncomputable def Try.pinned : Pinned := { name := "ytafmpnilgknfhaa", sum := "54d749ac8fd9f22060647d8224f15c7fa5f18419b626d47f61827ade1dad0af0", checked := Try.checked }
namespace Rows
def none {H : Type} : Left H := { results := [], args := [] }

/-- 'recordlinklaw25.WeightLogs': WHATEVER THE INPUT: true; the input reads as it did. -/
def weightLogsSpec : ChangeSpec := { name := "weightLogs", fn := fun _ => fun
  | [d1, d2] => { results := [.lit (.bool true)], args := [d1, d2] }
  | _ => none }
def weightLogsRow : OpenClaim := { program := "ytafmpnilgknfhaa", sum := "54d749ac8fd9f22060647d8224f15c7fa5f18419b626d47f61827ade1dad0af0", func := "recordlink/recordlinklaw25.WeightLogs", spec := "weightLogs", apart := false }
def WeightLogsSaid : Prop := weightLogsRow.holds Try.pinned (OpenSpec.ofChange weightLogsSpec)

/-- ITS FALSE NEIGHBOUR: 'it returns false'. Refute it at one input. -/
def weightLogsWrong : ChangeSpec := { name := "weightLogs", fn := fun _ => fun
  | [d1, d2] => { results := [.lit (.bool false)], args := [d1, d2] }
  | _ => none }
def WeightLogsWrongFalsely : Prop := weightLogsRow.holds Try.pinned (OpenSpec.ofChange weightLogsWrong)

/-- 'recordlinklaw25.WeightAdds': WHATEVER THE INPUT: true; the input reads as it did. -/
def weightAddsSpec : ChangeSpec := { name := "weightAdds", fn := fun _ => fun
  | [d1, d2, d3, d4] => { results := [.lit (.bool true)], args := [d1, d2, d3, d4] }
  | _ => none }
def weightAddsRow : OpenClaim := { program := "ytafmpnilgknfhaa", sum := "54d749ac8fd9f22060647d8224f15c7fa5f18419b626d47f61827ade1dad0af0", func := "recordlink/recordlinklaw25.WeightAdds", spec := "weightAdds", apart := false }
def WeightAddsSaid : Prop := weightAddsRow.holds Try.pinned (OpenSpec.ofChange weightAddsSpec)

/-- ITS FALSE NEIGHBOUR: 'it returns false'. Refute it at one input. -/
def weightAddsWrong : ChangeSpec := { name := "weightAdds", fn := fun _ => fun
  | [d1, d2, d3, d4] => { results := [.lit (.bool false)], args := [d1, d2, d3, d4] }
  | _ => none }
def WeightAddsWrongFalsely : Prop := weightAddsRow.holds Try.pinned (OpenSpec.ofChange weightAddsWrong)

/-- 'recordlinklaw25.WeightDoubles': WHATEVER THE INPUT: true; the input reads as it did. -/
def weightDoublesSpec : ChangeSpec := { name := "weightDoubles", fn := fun _ => fun
  | [d1, d2, d3] => { results := [.lit (.bool true)], args := [d1, d2, d3] }
  | _ => none }
def weightDoublesRow : OpenClaim := { program := "ytafmpnilgknfhaa", sum := "54d749ac8fd9f22060647d8224f15c7fa5f18419b626d47f61827ade1dad0af0", func := "recordlink/recordlinklaw25.WeightDoubles", spec := "weightDoubles", apart := false }
def WeightDoublesSaid : Prop := weightDoublesRow.holds Try.pinned (OpenSpec.ofChange weightDoublesSpec)

/-- ITS FALSE NEIGHBOUR: 'it returns false'. Refute it at one input. -/
def weightDoublesWrong : ChangeSpec := { name := "weightDoubles", fn := fun _ => fun
  | [d1, d2, d3] => { results := [.lit (.bool false)], args := [d1, d2, d3] }
  | _ => none }
def WeightDoublesWrongFalsely : Prop := weightDoublesRow.holds Try.pinned (OpenSpec.ofChange weightDoublesWrong)

/-- 'recordlinklaw25.WeightModels': WHATEVER THE INPUT: true; the input reads as it did. -/
def weightModelsSpec : ChangeSpec := { name := "weightModels", fn := fun _ => fun
  | [d] => { results := [.lit (.bool true)], args := [d] }
  | _ => none }
def weightModelsRow : OpenClaim := { program := "ytafmpnilgknfhaa", sum := "54d749ac8fd9f22060647d8224f15c7fa5f18419b626d47f61827ade1dad0af0", func := "recordlink/recordlinklaw25.WeightModels", spec := "weightModels", unfollowed := true, recurses := true, apart := false }
def WeightModelsSaid : Prop := weightModelsRow.holds Try.pinned (OpenSpec.ofChange weightModelsSpec)

/-- ITS FALSE NEIGHBOUR: 'it returns false'. Refute it at one input. -/
def weightModelsWrong : ChangeSpec := { name := "weightModels", fn := fun _ => fun
  | [d] => { results := [.lit (.bool false)], args := [d] }
  | _ => none }
def WeightModelsWrongFalsely : Prop := weightModelsRow.holds Try.pinned (OpenSpec.ofChange weightModelsWrong)

/-- 'recordlinklaw25.WeightBounds': WHATEVER THE INPUT: true; the input reads as it did. -/
def weightBoundsSpec : ChangeSpec := { name := "weightBounds", fn := fun _ => fun
  | [d] => { results := [.lit (.bool true)], args := [d] }
  | _ => none }
def weightBoundsRow : OpenClaim := { program := "ytafmpnilgknfhaa", sum := "54d749ac8fd9f22060647d8224f15c7fa5f18419b626d47f61827ade1dad0af0", func := "recordlink/recordlinklaw25.WeightBounds", spec := "weightBounds", unfollowed := true, recurses := true, apart := false }
def WeightBoundsSaid : Prop := weightBoundsRow.holds Try.pinned (OpenSpec.ofChange weightBoundsSpec)

/-- ITS FALSE NEIGHBOUR: 'it returns false'. Refute it at one input. -/
def weightBoundsWrong : ChangeSpec := { name := "weightBounds", fn := fun _ => fun
  | [d] => { results := [.lit (.bool false)], args := [d] }
  | _ => none }
def WeightBoundsWrongFalsely : Prop := weightBoundsRow.holds Try.pinned (OpenSpec.ofChange weightBoundsWrong)

/-- 'recordlinklaw25.WeightExact': WHATEVER THE INPUT: true; the input reads as it did. -/
def weightExactSpec : ChangeSpec := { name := "weightExact", fn := fun _ => fun
  | [d1, d2, d3, d4, d5, d6] => { results := [.lit (.bool true)], args := [d1, d2, d3, d4, d5, d6] }
  | _ => none }
def weightExactRow : OpenClaim := { program := "ytafmpnilgknfhaa", sum := "54d749ac8fd9f22060647d8224f15c7fa5f18419b626d47f61827ade1dad0af0", func := "recordlink/recordlinklaw25.WeightExact", spec := "weightExact", unfollowed := true, recurses := true, apart := false }
def WeightExactSaid : Prop := weightExactRow.holds Try.pinned (OpenSpec.ofChange weightExactSpec)

/-- ITS FALSE NEIGHBOUR: 'it returns false'. Refute it at one input. -/
def weightExactWrong : ChangeSpec := { name := "weightExact", fn := fun _ => fun
  | [d1, d2, d3, d4, d5, d6] => { results := [.lit (.bool false)], args := [d1, d2, d3, d4, d5, d6] }
  | _ => none }
def WeightExactWrongFalsely : Prop := weightExactRow.holds Try.pinned (OpenSpec.ofChange weightExactWrong)

/- THE SECOND FORM. 'bulk': how many values and letters a reading holds, each counted each time it is reached (what is shared counts as often as it is met; a slice's spare places count too). A statement '..UptoSaid' is the law's where the arguments, and the package variables that the reading takes, are together of bulk at most 1048576: NARROWER than '..Said'. Prove '..Said' where nothing that the law and all that it calls make is longer than what came in: it says more and counts as full. Else prove '..UptoSaid'. A law counts once. -/
mutual
def uptoBulk {H : Type} : DataW H → Nat
  | .lit (.string bytes) => bytes.length + 1
  | .lit _ => 1
  | .nil => 1
  | .ptr d => uptoBulk d + 1
  | .slice elems spare => uptoBulkAll elems + uptoBulkAll spare + 1
  | .agg parts => uptoBulkAll parts + 1
  | .iface _ d => uptoBulk d + 1
  | .map entries => uptoBulkEntries entries + 1
  | .held _ => 1
def uptoBulkAll {H : Type} : List (DataW H) → Nat
  | [] => 0
  | d :: r => uptoBulk d + uptoBulkAll r
def uptoBulkEntries {H : Type} : List (Lit × DataW H) → Nat
  | [] => 0
  | x :: r => uptoBulkEntry x + uptoBulkEntries r
def uptoBulkEntry {H : Type} : Lit × DataW H → Nat
  | (.string bytes, d) => bytes.length + uptoBulk d + 1
  | (_, d) => uptoBulk d + 1
 end
def uptoSmall : (H : Type) → List (DataW H) → Bool := fun _ ds => decide (uptoBulkAll ds ≤ 1048576)
def OpenSpec.upto (s : _root_.Go.ChangeSpec) : _root_.Go.OpenSpec := { _root_.Go.OpenSpec.ofChange s with cond := some uptoSmall }

/-- 'recordlinklaw25.WeightLogs', WHERE WHAT IT READS IS OF BULK AT MOST 1048576: true; the input reads as it did. -/
def weightLogsUptoRow : OpenClaim := { program := "ytafmpnilgknfhaa", sum := "54d749ac8fd9f22060647d8224f15c7fa5f18419b626d47f61827ade1dad0af0", func := "recordlink/recordlinklaw25.WeightLogs", spec := "weightLogs", apart := false, narrowed := true }
def WeightLogsUptoSaid : Prop := weightLogsUptoRow.holds Try.pinned (OpenSpec.upto weightLogsSpec)

/-- 'recordlinklaw25.WeightAdds', WHERE WHAT IT READS IS OF BULK AT MOST 1048576: true; the input reads as it did. -/
def weightAddsUptoRow : OpenClaim := { program := "ytafmpnilgknfhaa", sum := "54d749ac8fd9f22060647d8224f15c7fa5f18419b626d47f61827ade1dad0af0", func := "recordlink/recordlinklaw25.WeightAdds", spec := "weightAdds", apart := false, narrowed := true }
def WeightAddsUptoSaid : Prop := weightAddsUptoRow.holds Try.pinned (OpenSpec.upto weightAddsSpec)

/-- 'recordlinklaw25.WeightDoubles', WHERE WHAT IT READS IS OF BULK AT MOST 1048576: true; the input reads as it did. -/
def weightDoublesUptoRow : OpenClaim := { program := "ytafmpnilgknfhaa", sum := "54d749ac8fd9f22060647d8224f15c7fa5f18419b626d47f61827ade1dad0af0", func := "recordlink/recordlinklaw25.WeightDoubles", spec := "weightDoubles", apart := false, narrowed := true }
def WeightDoublesUptoSaid : Prop := weightDoublesUptoRow.holds Try.pinned (OpenSpec.upto weightDoublesSpec)

/-- 'recordlinklaw25.WeightModels', WHERE WHAT IT READS IS OF BULK AT MOST 1048576: true; the input reads as it did. -/
def weightModelsUptoRow : OpenClaim := { program := "ytafmpnilgknfhaa", sum := "54d749ac8fd9f22060647d8224f15c7fa5f18419b626d47f61827ade1dad0af0", func := "recordlink/recordlinklaw25.WeightModels", spec := "weightModels", unfollowed := true, recurses := true, apart := false, narrowed := true }
def WeightModelsUptoSaid : Prop := weightModelsUptoRow.holds Try.pinned (OpenSpec.upto weightModelsSpec)

/-- 'recordlinklaw25.WeightBounds', WHERE WHAT IT READS IS OF BULK AT MOST 1048576: true; the input reads as it did. -/
def weightBoundsUptoRow : OpenClaim := { program := "ytafmpnilgknfhaa", sum := "54d749ac8fd9f22060647d8224f15c7fa5f18419b626d47f61827ade1dad0af0", func := "recordlink/recordlinklaw25.WeightBounds", spec := "weightBounds", unfollowed := true, recurses := true, apart := false, narrowed := true }
def WeightBoundsUptoSaid : Prop := weightBoundsUptoRow.holds Try.pinned (OpenSpec.upto weightBoundsSpec)

/-- 'recordlinklaw25.WeightExact', WHERE WHAT IT READS IS OF BULK AT MOST 1048576: true; the input reads as it did. -/
def weightExactUptoRow : OpenClaim := { program := "ytafmpnilgknfhaa", sum := "54d749ac8fd9f22060647d8224f15c7fa5f18419b626d47f61827ade1dad0af0", func := "recordlink/recordlinklaw25.WeightExact", spec := "weightExact", unfollowed := true, recurses := true, apart := false, narrowed := true }
def WeightExactUptoSaid : Prop := weightExactUptoRow.holds Try.pinned (OpenSpec.upto weightExactSpec)

end Rows
end Go.Proofs.Ytafmpnilgknfhaa
