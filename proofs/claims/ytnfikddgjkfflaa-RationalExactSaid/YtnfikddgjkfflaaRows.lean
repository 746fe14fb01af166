/-
  No cell of these rows narrows 'for every input' (looked for: loops, veiled, ifaces, maps, wideKeys, modest, calm, conditions, laid).
  DERIVED. THE GIVEN ROWS OF THIS SEAT. 6 by the template 'for every input the law returns true; each argument reads behind the call as it read before'; 0 by the template 'total and deterministic' (their statements: YtnfikddgjkfflaaTotals.lean).
  GIVEN WITH THE SEED: the statements are not yours to turn. If you find one false, say at which input.
  Laid BY PROGRAM, IN A SANDBOX (cutbox-rows.mjs): the forced cells as the released guide's own fill.sh prints them over the translation af7e110e65f8ff14… (all of the seat's roots in one cut). By AI agents, Wed Nov 11 2026. No macro, syntax, notation, axiom, sorry.
-/
import Derived.Test.YtnfikddgjkfflaaChecked
import GoSem.Claim
import GoSem.ClaimJoined
import GoSem.ClaimMapViews
import Derived.JoinedTies
import Derived.KernelRfl
namespace Go.Proofs.Ytnfikddgjkfflaa
/- THE CELL 'sum', in the pinned program and in every row, IS THE sha256 OF THE DUMP (.gsa) THAT YtnfikddgjkfflaaProg.lean LOADS. Nothing in Lean hashes anything: it is a label: what it is worth is what the hold of that sum in a sandbox is worth. -/
noncomputable def Try.pinned : Pinned := { name := "ytnfikddgjkfflaa", sum := "af7e110e65f8ff14d996e85513d84b7ec5f806e0618477ac3972bdc30778da15", checked := Try.checked }
namespace Rows
def none {H : Type} : Left H := { results := [], args := [] }

/-- 'recordlinklaw11.RationalField': WHATEVER THE INPUT: true; the input reads as it did. -/
def rationalFieldSpec : ChangeSpec := { name := "rationalField", fn := fun _ => fun
  | [d] => { results := [.lit (.bool true)], args := [d] }
  | _ => none }
def rationalFieldRow : OpenClaim := { program := "ytnfikddgjkfflaa", sum := "af7e110e65f8ff14d996e85513d84b7ec5f806e0618477ac3972bdc30778da15", func := "recordlink/recordlinklaw11.RationalField", spec := "rationalField", unfollowed := true, recurses := true, apart := false }
def RationalFieldSaid : Prop := rationalFieldRow.holds Try.pinned (OpenSpec.ofChange rationalFieldSpec)

/-- ITS FALSE NEIGHBOUR: 'it returns false'. Refute it at one input. -/
def rationalFieldWrong : ChangeSpec := { name := "rationalField", fn := fun _ => fun
  | [d] => { results := [.lit (.bool false)], args := [d] }
  | _ => none }
def RationalFieldWrongFalsely : Prop := rationalFieldRow.holds Try.pinned (OpenSpec.ofChange rationalFieldWrong)

/-- 'recordlinklaw11.RationalReduced': WHATEVER THE INPUT: true; the input reads as it did. -/
def rationalReducedSpec : ChangeSpec := { name := "rationalReduced", fn := fun _ => fun
  | [d] => { results := [.lit (.bool true)], args := [d] }
  | _ => none }
def rationalReducedRow : OpenClaim := { program := "ytnfikddgjkfflaa", sum := "af7e110e65f8ff14d996e85513d84b7ec5f806e0618477ac3972bdc30778da15", func := "recordlink/recordlinklaw11.RationalReduced", spec := "rationalReduced", unfollowed := true, recurses := true, apart := false }
def RationalReducedSaid : Prop := rationalReducedRow.holds Try.pinned (OpenSpec.ofChange rationalReducedSpec)

/-- ITS FALSE NEIGHBOUR: 'it returns false'. Refute it at one input. -/
def rationalReducedWrong : ChangeSpec := { name := "rationalReduced", fn := fun _ => fun
  | [d] => { results := [.lit (.bool false)], args := [d] }
  | _ => none }
def RationalReducedWrongFalsely : Prop := rationalReducedRow.holds Try.pinned (OpenSpec.ofChange rationalReducedWrong)

/-- 'recordlinklaw11.RationalRounds': WHATEVER THE INPUT: true; the input reads as it did. -/
def rationalRoundsSpec : ChangeSpec := { name := "rationalRounds", fn := fun _ => fun
  | [d1, d2] => { results := [.lit (.bool true)], args := [d1, d2] }
  | _ => none }
def rationalRoundsRow : OpenClaim := { program := "ytnfikddgjkfflaa", sum := "af7e110e65f8ff14d996e85513d84b7ec5f806e0618477ac3972bdc30778da15", func := "recordlink/recordlinklaw11.RationalRounds", spec := "rationalRounds", unfollowed := true, recurses := true, apart := false }
def RationalRoundsSaid : Prop := rationalRoundsRow.holds Try.pinned (OpenSpec.ofChange rationalRoundsSpec)

/-- ITS FALSE NEIGHBOUR: 'it returns false'. Refute it at one input. -/
def rationalRoundsWrong : ChangeSpec := { name := "rationalRounds", fn := fun _ => fun
  | [d1, d2] => { results := [.lit (.bool false)], args := [d1, d2] }
  | _ => none }
def RationalRoundsWrongFalsely : Prop := rationalRoundsRow.holds Try.pinned (OpenSpec.ofChange rationalRoundsWrong)

/-- 'recordlinklaw11.RationalOrder': WHATEVER THE INPUT: true; the input reads as it did. -/
def rationalOrderSpec : ChangeSpec := { name := "rationalOrder", fn := fun _ => fun
  | [d] => { results := [.lit (.bool true)], args := [d] }
  | _ => none }
def rationalOrderRow : OpenClaim := { program := "ytnfikddgjkfflaa", sum := "af7e110e65f8ff14d996e85513d84b7ec5f806e0618477ac3972bdc30778da15", func := "recordlink/recordlinklaw11.RationalOrder", spec := "rationalOrder", unfollowed := true, recurses := true, apart := false }
def RationalOrderSaid : Prop := rationalOrderRow.holds Try.pinned (OpenSpec.ofChange rationalOrderSpec)

/-- ITS FALSE NEIGHBOUR: 'it returns false'. Refute it at one input. -/
def rationalOrderWrong : ChangeSpec := { name := "rationalOrder", fn := fun _ => fun
  | [d] => { results := [.lit (.bool false)], args := [d] }
  | _ => none }
def RationalOrderWrongFalsely : Prop := rationalOrderRow.holds Try.pinned (OpenSpec.ofChange rationalOrderWrong)

/-- 'recordlinklaw11.RationalUndone': WHATEVER THE INPUT: true; the input reads as it did. -/
def rationalUndoneSpec : ChangeSpec := { name := "rationalUndone", fn := fun _ => fun
  | [d] => { results := [.lit (.bool true)], args := [d] }
  | _ => none }
def rationalUndoneRow : OpenClaim := { program := "ytnfikddgjkfflaa", sum := "af7e110e65f8ff14d996e85513d84b7ec5f806e0618477ac3972bdc30778da15", func := "recordlink/recordlinklaw11.RationalUndone", spec := "rationalUndone", unfollowed := true, recurses := true, apart := false }
def RationalUndoneSaid : Prop := rationalUndoneRow.holds Try.pinned (OpenSpec.ofChange rationalUndoneSpec)

/-- ITS FALSE NEIGHBOUR: 'it returns false'. Refute it at one input. -/
def rationalUndoneWrong : ChangeSpec := { name := "rationalUndone", fn := fun _ => fun
  | [d] => { results := [.lit (.bool false)], args := [d] }
  | _ => none }
def RationalUndoneWrongFalsely : Prop := rationalUndoneRow.holds Try.pinned (OpenSpec.ofChange rationalUndoneWrong)

/-- 'recordlinklaw11.RationalExact': WHATEVER THE INPUT: true; the input reads as it did. -/
def rationalExactSpec : ChangeSpec := { name := "rationalExact", fn := fun _ => fun
  | [d1, d2, d3, d4, d5, d6] => { results := [.lit (.bool true)], args := [d1, d2, d3, d4, d5, d6] }
  | _ => none }
def rationalExactRow : OpenClaim := { program := "ytnfikddgjkfflaa", sum := "af7e110e65f8ff14d996e85513d84b7ec5f806e0618477ac3972bdc30778da15", func := "recordlink/recordlinklaw11.RationalExact", spec := "rationalExact", unfollowed := true, recurses := true, apart := false }
def RationalExactSaid : Prop := rationalExactRow.holds Try.pinned (OpenSpec.ofChange rationalExactSpec)

/-- ITS FALSE NEIGHBOUR: 'it returns false'. Refute it at one input. -/
def rationalExactWrong : ChangeSpec := { name := "rationalExact", fn := fun _ => fun
  | [d1, d2, d3, d4, d5, d6] => { results := [.lit (.bool false)], args := [d1, d2, d3, d4, d5, d6] }
  | _ => none }
def RationalExactWrongFalsely : Prop := rationalExactRow.holds Try.pinned (OpenSpec.ofChange rationalExactWrong)

/- THE SECOND FORM. 'bulk': how many values and letters a reading holds, each counted each time it is reached (what is shared counts as often as it is met; a slice's spare places count too). A statement '..UptoSaid' is the law's where the arguments, and the package variables that the reading takes, are together of bulk at most 1048576: NARROWER than '..Said'. Prove '..Said' where nothing that the law and all that it calls make is longer than what came in: it says more and counts as full. Else prove '..UptoSaid'. A law counts once. -/
mutual
def uptoBulk {H : Type} : DataW H → Nat
  | .lit (.string bytes) => bytes.length + 1
  | .lit _ => 1
  | .nil => 1
  | .ptr d => uptoBulk d + 1
  | .slice elems spare => uptoBulkAll elems + uptoBulkAll spare + 1
  | .agg parts => uptoBulkAll parts + 1
  | .iface _ d => uptoBulk d + 1
  | .map entries => uptoBulkEntries entries + 1
  | .held _ => 1
def uptoBulkAll {H : Type} : List (DataW H) → Nat
  | [] => 0
  | d :: r => uptoBulk d + uptoBulkAll r
def uptoBulkEntries {H : Type} : List (Lit × DataW H) → Nat
  | [] => 0
  | x :: r => uptoBulkEntry x + uptoBulkEntries r
def uptoBulkEntry {H : Type} : Lit × DataW H → Nat
  | (.string bytes, d) => bytes.length + uptoBulk d + 1
  | (_, d) => uptoBulk d + 1
 end
def uptoSmall : (H : Type) → List (DataW H) → Bool := fun _ ds => decide (uptoBulkAll ds ≤ 1048576)
def OpenSpec.upto (s : _root_.Go.ChangeSpec) : _root_.Go.OpenSpec := { _root_.Go.OpenSpec.ofChange s with cond := some uptoSmall }

/-- 'recordlinklaw11.RationalField', WHERE WHAT IT READS IS OF BULK AT MOST 1048576: true; the input reads as it did. -/
def rationalFieldUptoRow : OpenClaim := { program := "ytnfikddgjkfflaa", sum := "af7e110e65f8ff14d996e85513d84b7ec5f806e0618477ac3972bdc30778da15", func := "recordlink/recordlinklaw11.RationalField", spec := "rationalField", unfollowed := true, recurses := true, apart := false, narrowed := true }
def RationalFieldUptoSaid : Prop := rationalFieldUptoRow.holds Try.pinned (OpenSpec.upto rationalFieldSpec)

/-- 'recordlinklaw11.RationalReduced', WHERE WHAT IT READS IS OF BULK AT MOST 1048576: true; the input reads as it did. -/
def rationalReducedUptoRow : OpenClaim := { program := "ytnfikddgjkfflaa", sum := "af7e110e65f8ff14d996e85513d84b7ec5f806e0618477ac3972bdc30778da15", func := "recordlink/recordlinklaw11.RationalReduced", spec := "rationalReduced", unfollowed := true, recurses := true, apart := false, narrowed := true }
def RationalReducedUptoSaid : Prop := rationalReducedUptoRow.holds Try.pinned (OpenSpec.upto rationalReducedSpec)

/-- 'recordlinklaw11.RationalRounds', WHERE WHAT IT READS IS OF BULK AT MOST 1048576: true; the input reads as it did. -/
def rationalRoundsUptoRow : OpenClaim := { program := "ytnfikddgjkfflaa", sum := "af7e110e65f8ff14d996e85513d84b7ec5f806e0618477ac3972bdc30778da15", func := "recordlink/recordlinklaw11.RationalRounds", spec := "rationalRounds", unfollowed := true, recurses := true, apart := false, narrowed := true }
def RationalRoundsUptoSaid : Prop := rationalRoundsUptoRow.holds Try.pinned (OpenSpec.upto rationalRoundsSpec)

/-- 'recordlinklaw11.RationalOrder', WHERE WHAT IT READS IS OF BULK AT MOST 1048576: true; the input reads as it did. -/
def rationalOrderUptoRow : OpenClaim := { program := "ytnfikddgjkfflaa", sum := "af7e110e65f8ff14d996e85513d84b7ec5f806e0618477ac3972bdc30778da15", func := "recordlink/recordlinklaw11.RationalOrder", spec := "rationalOrder", unfollowed := true, recurses := true, apart := false, narrowed := true }
def RationalOrderUptoSaid : Prop := rationalOrderUptoRow.holds Try.pinned (OpenSpec.upto rationalOrderSpec)

/-- 'recordlinklaw11.RationalUndone', WHERE WHAT IT READS IS OF BULK AT MOST 1048576: true; the input reads as it did. -/
def rationalUndoneUptoRow : OpenClaim := { program := "ytnfikddgjkfflaa", sum := "af7e110e65f8ff14d996e85513d84b7ec5f806e0618477ac3972bdc30778da15", func := "recordlink/recordlinklaw11.RationalUndone", spec := "rationalUndone", unfollowed := true, recurses := true, apart := false, narrowed := true }
def RationalUndoneUptoSaid : Prop := rationalUndoneUptoRow.holds Try.pinned (OpenSpec.upto rationalUndoneSpec)

/-- 'recordlinklaw11.RationalExact', WHERE WHAT IT READS IS OF BULK AT MOST 1048576: true; the input reads as it did. -/
def rationalExactUptoRow : OpenClaim := { program := "ytnfikddgjkfflaa", sum := "af7e110e65f8ff14d996e85513d84b7ec5f806e0618477ac3972bdc30778da15", func := "recordlink/recordlinklaw11.RationalExact", spec := "rationalExact", unfollowed := true, recurses := true, apart := false, narrowed := true }
def RationalExactUptoSaid : Prop := rationalExactUptoRow.holds Try.pinned (OpenSpec.upto rationalExactSpec)

end Rows
end Go.Proofs.Ytnfikddgjkfflaa
