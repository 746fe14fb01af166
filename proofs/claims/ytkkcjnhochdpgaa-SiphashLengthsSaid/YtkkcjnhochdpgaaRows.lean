/-
  No cell of these rows narrows 'for every input' (looked for: loops, veiled, ifaces, maps, wideKeys, modest, calm, conditions, laid).
  DERIVED. THE GIVEN ROWS OF THIS SEAT. 5 by the template 'for every input the law returns true; each argument reads behind the call as it read before'; 0 by the template 'total and deterministic' (their statements: YtkkcjnhochdpgaaTotals.lean).
  GIVEN WITH THE SEED: the statements are not yours to turn. If you find one false, say at which input.
  Laid BY PROGRAM, IN A SANDBOX (cutbox-rows.mjs): the forced cells as the released guide's own fill.sh prints them over the translation 216bc3b53cae3028… (all of the seat's roots in one cut). By AI agents, Wed Nov 11 2026. No macro, syntax, notation, axiom, sorry.
-/
import Derived.Test.YtkkcjnhochdpgaaChecked
import GoSem.Claim
import GoSem.ClaimJoined
import GoSem.ClaimMapViews
import Derived.JoinedTies
import Derived.KernelRfl
namespace Go.Proofs.Ytkkcjnhochdpgaa
/- THE CELL 'sum', in the pinned program and in every row, IS THE sha256 OF THE DUMP (.gsa) THAT YtkkcjnhochdpgaaProg.lean LOADS. Nothing in Lean hashes anything: it is a label: what it is worth is what the hold of that sum in a sandbox is worth. -/
noncomputable def Try.pinned : Pinned := { name := "ytkkcjnhochdpgaa", sum := "216bc3b53cae30285628352faa3cfbbd2d64640f2b0d693f459d0d2adaa9d99d", checked := Try.checked }
namespace Rows
def none {H : Type} : Left H := { results := [], args := [] }

/-- 'recordlinklaw08.SiphashParts': WHATEVER THE INPUT: true; the input reads as it did. -/
def siphashPartsSpec : ChangeSpec := { name := "siphashParts", fn := fun _ => fun
  | [d] => { results := [.lit (.bool true)], args := [d] }
  | _ => none }
def siphashPartsRow : OpenClaim := { program := "ytkkcjnhochdpgaa", sum := "216bc3b53cae30285628352faa3cfbbd2d64640f2b0d693f459d0d2adaa9d99d", func := "recordlink/recordlinklaw08.SiphashParts", spec := "siphashParts", apart := false }
def SiphashPartsSaid : Prop := siphashPartsRow.holds Try.pinned (OpenSpec.ofChange siphashPartsSpec)

/-- ITS FALSE NEIGHBOUR: 'it returns false'. Refute it at one input. -/
def siphashPartsWrong : ChangeSpec := { name := "siphashParts", fn := fun _ => fun
  | [d] => { results := [.lit (.bool false)], args := [d] }
  | _ => none }
def SiphashPartsWrongFalsely : Prop := siphashPartsRow.holds Try.pinned (OpenSpec.ofChange siphashPartsWrong)

/-- 'recordlinklaw08.SiphashCut': WHATEVER THE INPUT: true; the input reads as it did. -/
def siphashCutSpec : ChangeSpec := { name := "siphashCut", fn := fun _ => fun
  | [d1, d2] => { results := [.lit (.bool true)], args := [d1, d2] }
  | _ => none }
def siphashCutRow : OpenClaim := { program := "ytkkcjnhochdpgaa", sum := "216bc3b53cae30285628352faa3cfbbd2d64640f2b0d693f459d0d2adaa9d99d", func := "recordlink/recordlinklaw08.SiphashCut", spec := "siphashCut", apart := false }
def SiphashCutSaid : Prop := siphashCutRow.holds Try.pinned (OpenSpec.ofChange siphashCutSpec)

/-- ITS FALSE NEIGHBOUR: 'it returns false'. Refute it at one input. -/
def siphashCutWrong : ChangeSpec := { name := "siphashCut", fn := fun _ => fun
  | [d1, d2] => { results := [.lit (.bool false)], args := [d1, d2] }
  | _ => none }
def SiphashCutWrongFalsely : Prop := siphashCutRow.holds Try.pinned (OpenSpec.ofChange siphashCutWrong)

/-- 'recordlinklaw08.SiphashLengths': WHATEVER THE INPUT: true; the input reads as it did. -/
def siphashLengthsSpec : ChangeSpec := { name := "siphashLengths", fn := fun _ => fun
  | [d1, d2] => { results := [.lit (.bool true)], args := [d1, d2] }
  | _ => none }
def siphashLengthsRow : OpenClaim := { program := "ytkkcjnhochdpgaa", sum := "216bc3b53cae30285628352faa3cfbbd2d64640f2b0d693f459d0d2adaa9d99d", func := "recordlink/recordlinklaw08.SiphashLengths", spec := "siphashLengths", apart := false }
def SiphashLengthsSaid : Prop := siphashLengthsRow.holds Try.pinned (OpenSpec.ofChange siphashLengthsSpec)

/-- ITS FALSE NEIGHBOUR: 'it returns false'. Refute it at one input. -/
def siphashLengthsWrong : ChangeSpec := { name := "siphashLengths", fn := fun _ => fun
  | [d1, d2] => { results := [.lit (.bool false)], args := [d1, d2] }
  | _ => none }
def SiphashLengthsWrongFalsely : Prop := siphashLengthsRow.holds Try.pinned (OpenSpec.ofChange siphashLengthsWrong)

/-- 'recordlinklaw08.SiphashExact': WHATEVER THE INPUT: true; the input reads as it did. -/
def siphashExactSpec : ChangeSpec := { name := "siphashExact", fn := fun _ => fun
  | [d1, d2, d3, d4, d5] => { results := [.lit (.bool true)], args := [d1, d2, d3, d4, d5] }
  | _ => none }
def siphashExactRow : OpenClaim := { program := "ytkkcjnhochdpgaa", sum := "216bc3b53cae30285628352faa3cfbbd2d64640f2b0d693f459d0d2adaa9d99d", func := "recordlink/recordlinklaw08.SiphashExact", spec := "siphashExact", apart := false }
def SiphashExactSaid : Prop := siphashExactRow.holds Try.pinned (OpenSpec.ofChange siphashExactSpec)

/-- ITS FALSE NEIGHBOUR: 'it returns false'. Refute it at one input. -/
def siphashExactWrong : ChangeSpec := { name := "siphashExact", fn := fun _ => fun
  | [d1, d2, d3, d4, d5] => { results := [.lit (.bool false)], args := [d1, d2, d3, d4, d5] }
  | _ => none }
def SiphashExactWrongFalsely : Prop := siphashExactRow.holds Try.pinned (OpenSpec.ofChange siphashExactWrong)

/-- 'recordlinklaw08.SiphashDerive': WHATEVER THE INPUT: true; the input reads as it did. -/
def siphashDeriveSpec : ChangeSpec := { name := "siphashDerive", fn := fun _ => fun
  | [d1, d2] => { results := [.lit (.bool true)], args := [d1, d2] }
  | _ => none }
def siphashDeriveRow : OpenClaim := { program := "ytkkcjnhochdpgaa", sum := "216bc3b53cae30285628352faa3cfbbd2d64640f2b0d693f459d0d2adaa9d99d", func := "recordlink/recordlinklaw08.SiphashDerive", spec := "siphashDerive", apart := false }
def SiphashDeriveSaid : Prop := siphashDeriveRow.holds Try.pinned (OpenSpec.ofChange siphashDeriveSpec)

/-- ITS FALSE NEIGHBOUR: 'it returns false'. Refute it at one input. -/
def siphashDeriveWrong : ChangeSpec := { name := "siphashDerive", fn := fun _ => fun
  | [d1, d2] => { results := [.lit (.bool false)], args := [d1, d2] }
  | _ => none }
def SiphashDeriveWrongFalsely : Prop := siphashDeriveRow.holds Try.pinned (OpenSpec.ofChange siphashDeriveWrong)

/- THE SECOND FORM. 'bulk': how many values and letters a reading holds, each counted each time it is reached (what is shared counts as often as it is met; a slice's spare places count too). A statement '..UptoSaid' is the law's where the arguments, and the package variables that the reading takes, are together of bulk at most 1048576: NARROWER than '..Said'. Prove '..Said' where nothing that the law and all that it calls make is longer than what came in: it says more and counts as full. Else prove '..UptoSaid'. A law counts once. -/
mutual
def uptoBulk {H : Type} : DataW H → Nat
  | .lit (.string bytes) => bytes.length + 1
  | .lit _ => 1
  | .nil => 1
  | .ptr d => uptoBulk d + 1
  | .slice elems spare => uptoBulkAll elems + uptoBulkAll spare + 1
  | .agg parts => uptoBulkAll parts + 1
  | .iface _ d => uptoBulk d + 1
  | .map entries => uptoBulkEntries entries + 1
  | .held _ => 1
def uptoBulkAll {H : Type} : List (DataW H) → Nat
  | [] => 0
  | d :: r => uptoBulk d + uptoBulkAll r
def uptoBulkEntries {H : Type} : List (Lit × DataW H) → Nat
  | [] => 0
  | x :: r => uptoBulkEntry x + uptoBulkEntries r
def uptoBulkEntry {H : Type} : Lit × DataW H → Nat
  | (.string bytes, d) => bytes.length + uptoBulk d + 1
  | (_, d) => uptoBulk d + 1
 end
def uptoSmall : (H : Type) → List (DataW H) → Bool := fun _ ds => decide (uptoBulkAll ds ≤ 1048576)
def OpenSpec.upto (s : _root_.Go.ChangeSpec) : _root_.Go.OpenSpec := { _root_.Go.OpenSpec.ofChange s with cond := some uptoSmall }

/-- 'recordlinklaw08.SiphashParts', WHERE WHAT IT READS IS OF BULK AT MOST 1048576: true; the input reads as it did. -/
def siphashPartsUptoRow : OpenClaim := { program := "ytkkcjnhochdpgaa", sum := "216bc3b53cae30285628352faa3cfbbd2d64640f2b0d693f459d0d2adaa9d99d", func := "recordlink/recordlinklaw08.SiphashParts", spec := "siphashParts", apart := false, narrowed := true }
def SiphashPartsUptoSaid : Prop := siphashPartsUptoRow.holds Try.pinned (OpenSpec.upto siphashPartsSpec)

/-- 'recordlinklaw08.SiphashCut', WHERE WHAT IT READS IS OF BULK AT MOST 1048576: true; the input reads as it did. -/
def siphashCutUptoRow : OpenClaim := { program := "ytkkcjnhochdpgaa", sum := "216bc3b53cae30285628352faa3cfbbd2d64640f2b0d693f459d0d2adaa9d99d", func := "recordlink/recordlinklaw08.SiphashCut", spec := "siphashCut", apart := false, narrowed := true }
def SiphashCutUptoSaid : Prop := siphashCutUptoRow.holds Try.pinned (OpenSpec.upto siphashCutSpec)

/-- 'recordlinklaw08.SiphashLengths', WHERE WHAT IT READS IS OF BULK AT MOST 1048576: true; the input reads as it did. -/
def siphashLengthsUptoRow : OpenClaim := { program := "ytkkcjnhochdpgaa", sum := "216bc3b53cae30285628352faa3cfbbd2d64640f2b0d693f459d0d2adaa9d99d", func := "recordlink/recordlinklaw08.SiphashLengths", spec := "siphashLengths", apart := false, narrowed := true }
def SiphashLengthsUptoSaid : Prop := siphashLengthsUptoRow.holds Try.pinned (OpenSpec.upto siphashLengthsSpec)

/-- 'recordlinklaw08.SiphashExact', WHERE WHAT IT READS IS OF BULK AT MOST 1048576: true; the input reads as it did. -/
def siphashExactUptoRow : OpenClaim := { program := "ytkkcjnhochdpgaa", sum := "216bc3b53cae30285628352faa3cfbbd2d64640f2b0d693f459d0d2adaa9d99d", func := "recordlink/recordlinklaw08.SiphashExact", spec := "siphashExact", apart := false, narrowed := true }
def SiphashExactUptoSaid : Prop := siphashExactUptoRow.holds Try.pinned (OpenSpec.upto siphashExactSpec)

/-- 'recordlinklaw08.SiphashDerive', WHERE WHAT IT READS IS OF BULK AT MOST 1048576: true; the input reads as it did. -/
def siphashDeriveUptoRow : OpenClaim := { program := "ytkkcjnhochdpgaa", sum := "216bc3b53cae30285628352faa3cfbbd2d64640f2b0d693f459d0d2adaa9d99d", func := "recordlink/recordlinklaw08.SiphashDerive", spec := "siphashDerive", apart := false, narrowed := true }
def SiphashDeriveUptoSaid : Prop := siphashDeriveUptoRow.holds Try.pinned (OpenSpec.upto siphashDeriveSpec)

end Rows
end Go.Proofs.Ytkkcjnhochdpgaa
