/-
  No cell of these rows narrows 'for every input' (looked for: loops, veiled, ifaces, maps, wideKeys, modest, calm, conditions, laid).
  DERIVED. THE GIVEN ROWS OF THIS SEAT. 7 by the template 'for every input the law returns true; each argument reads behind the call as it read before'; 0 by the template 'total and deterministic' (their statements: YtjedagkkeicpkaaTotals.lean).
  GIVEN WITH THE SEED: the statements are not yours to turn. If you find one false, say at which input.
  Laid BY PROGRAM, IN A SANDBOX (cutbox-rows.mjs): the forced cells as the released guide's own fill.sh prints them over the translation 937979e6398083db… (all of the seat's roots in one cut). By AI agents, Wed Nov 11 2026. No macro, syntax, notation, axiom, sorry.
-/
import Derived.Test.YtjedagkkeicpkaaChecked
import GoSem.Claim
import GoSem.ClaimJoined
import GoSem.ClaimMapViews
import Derived.JoinedTies
import Derived.KernelRfl
namespace Go.Proofs.Ytjedagkkeicpkaa
/- THE CELL 'sum', in the pinned program and in every row, IS THE sha256 OF THE DUMP (.gsa) THAT YtjedagkkeicpkaaProg.lean LOADS. Nothing in Lean hashes anything: it is a label: what it is worth is what the hold of that sum in a sandbox is worth. -/
noncomputable def Try.pinned : Pinned := { name := "ytjedagkkeicpkaa", sum := "937979e6398083dbfcdf6b36376e81cf39b4da7661666bde4a2b1daa54d8625e", checked := Try.checked }
namespace Rows
def none {H : Type} : Left H := { results := [], args := [] }

/-- 'recordlinklaw38.JournalExact': WHATEVER THE INPUT: true; the input reads as it did. -/
def journalExactSpec : ChangeSpec := { name := "journalExact", fn := fun _ => fun
  | [d1, d2, d3, d4, d5, d6] => { results := [.lit (.bool true)], args := [d1, d2, d3, d4, d5, d6] }
  | _ => none }
def journalExactRow : OpenClaim := { program := "ytjedagkkeicpkaa", sum := "937979e6398083dbfcdf6b36376e81cf39b4da7661666bde4a2b1daa54d8625e", func := "recordlink/recordlinklaw38.JournalExact", spec := "journalExact", apart := false }
def JournalExactSaid : Prop := journalExactRow.holds Try.pinned (OpenSpec.ofChange journalExactSpec)

/-- ITS FALSE NEIGHBOUR: 'it returns false'. Refute it at one input. -/
def journalExactWrong : ChangeSpec := { name := "journalExact", fn := fun _ => fun
  | [d1, d2, d3, d4, d5, d6] => { results := [.lit (.bool false)], args := [d1, d2, d3, d4, d5, d6] }
  | _ => none }
def JournalExactWrongFalsely : Prop := journalExactRow.holds Try.pinned (OpenSpec.ofChange journalExactWrong)

/-- 'recordlinklaw38.JournalBack': WHATEVER THE INPUT: true; the input reads as it did. -/
def journalBackSpec : ChangeSpec := { name := "journalBack", fn := fun _ => fun
  | [d] => { results := [.lit (.bool true)], args := [d] }
  | _ => none }
def journalBackRow : OpenClaim := { program := "ytjedagkkeicpkaa", sum := "937979e6398083dbfcdf6b36376e81cf39b4da7661666bde4a2b1daa54d8625e", func := "recordlink/recordlinklaw38.JournalBack", spec := "journalBack", apart := false }
def JournalBackSaid : Prop := journalBackRow.holds Try.pinned (OpenSpec.ofChange journalBackSpec)

/-- ITS FALSE NEIGHBOUR: 'it returns false'. Refute it at one input. -/
def journalBackWrong : ChangeSpec := { name := "journalBack", fn := fun _ => fun
  | [d] => { results := [.lit (.bool false)], args := [d] }
  | _ => none }
def JournalBackWrongFalsely : Prop := journalBackRow.holds Try.pinned (OpenSpec.ofChange journalBackWrong)

/-- 'recordlinklaw38.JournalTorn': WHATEVER THE INPUT: true; the input reads as it did. -/
def journalTornSpec : ChangeSpec := { name := "journalTorn", fn := fun _ => fun
  | [d1, d2] => { results := [.lit (.bool true)], args := [d1, d2] }
  | _ => none }
def journalTornRow : OpenClaim := { program := "ytjedagkkeicpkaa", sum := "937979e6398083dbfcdf6b36376e81cf39b4da7661666bde4a2b1daa54d8625e", func := "recordlink/recordlinklaw38.JournalTorn", spec := "journalTorn", apart := false }
def JournalTornSaid : Prop := journalTornRow.holds Try.pinned (OpenSpec.ofChange journalTornSpec)

/-- ITS FALSE NEIGHBOUR: 'it returns false'. Refute it at one input. -/
def journalTornWrong : ChangeSpec := { name := "journalTorn", fn := fun _ => fun
  | [d1, d2] => { results := [.lit (.bool false)], args := [d1, d2] }
  | _ => none }
def JournalTornWrongFalsely : Prop := journalTornRow.holds Try.pinned (OpenSpec.ofChange journalTornWrong)

/-- 'recordlinklaw38.JournalDamage': WHATEVER THE INPUT: true; the input reads as it did. -/
def journalDamageSpec : ChangeSpec := { name := "journalDamage", fn := fun _ => fun
  | [d1, d2, d3] => { results := [.lit (.bool true)], args := [d1, d2, d3] }
  | _ => none }
def journalDamageRow : OpenClaim := { program := "ytjedagkkeicpkaa", sum := "937979e6398083dbfcdf6b36376e81cf39b4da7661666bde4a2b1daa54d8625e", func := "recordlink/recordlinklaw38.JournalDamage", spec := "journalDamage", apart := false }
def JournalDamageSaid : Prop := journalDamageRow.holds Try.pinned (OpenSpec.ofChange journalDamageSpec)

/-- ITS FALSE NEIGHBOUR: 'it returns false'. Refute it at one input. -/
def journalDamageWrong : ChangeSpec := { name := "journalDamage", fn := fun _ => fun
  | [d1, d2, d3] => { results := [.lit (.bool false)], args := [d1, d2, d3] }
  | _ => none }
def JournalDamageWrongFalsely : Prop := journalDamageRow.holds Try.pinned (OpenSpec.ofChange journalDamageWrong)

/-- 'recordlinklaw38.JournalChain': WHATEVER THE INPUT: true; the input reads as it did. -/
def journalChainSpec : ChangeSpec := { name := "journalChain", fn := fun _ => fun
  | [d1, d2] => { results := [.lit (.bool true)], args := [d1, d2] }
  | _ => none }
def journalChainRow : OpenClaim := { program := "ytjedagkkeicpkaa", sum := "937979e6398083dbfcdf6b36376e81cf39b4da7661666bde4a2b1daa54d8625e", func := "recordlink/recordlinklaw38.JournalChain", spec := "journalChain", apart := false }
def JournalChainSaid : Prop := journalChainRow.holds Try.pinned (OpenSpec.ofChange journalChainSpec)

/-- ITS FALSE NEIGHBOUR: 'it returns false'. Refute it at one input. -/
def journalChainWrong : ChangeSpec := { name := "journalChain", fn := fun _ => fun
  | [d1, d2] => { results := [.lit (.bool false)], args := [d1, d2] }
  | _ => none }
def JournalChainWrongFalsely : Prop := journalChainRow.holds Try.pinned (OpenSpec.ofChange journalChainWrong)

/-- 'recordlinklaw38.JournalLimits': WHATEVER THE INPUT: true; the input reads as it did. -/
def journalLimitsSpec : ChangeSpec := { name := "journalLimits", fn := fun _ => fun
  | [d] => { results := [.lit (.bool true)], args := [d] }
  | _ => none }
def journalLimitsRow : OpenClaim := { program := "ytjedagkkeicpkaa", sum := "937979e6398083dbfcdf6b36376e81cf39b4da7661666bde4a2b1daa54d8625e", func := "recordlink/recordlinklaw38.JournalLimits", spec := "journalLimits", apart := false }
def JournalLimitsSaid : Prop := journalLimitsRow.holds Try.pinned (OpenSpec.ofChange journalLimitsSpec)

/-- ITS FALSE NEIGHBOUR: 'it returns false'. Refute it at one input. -/
def journalLimitsWrong : ChangeSpec := { name := "journalLimits", fn := fun _ => fun
  | [d] => { results := [.lit (.bool false)], args := [d] }
  | _ => none }
def JournalLimitsWrongFalsely : Prop := journalLimitsRow.holds Try.pinned (OpenSpec.ofChange journalLimitsWrong)

/-- 'recordlinklaw38.JournalPrefix': WHATEVER THE INPUT: true; the input reads as it did. -/
def journalPrefixSpec : ChangeSpec := { name := "journalPrefix", fn := fun _ => fun
  | [d] => { results := [.lit (.bool true)], args := [d] }
  | _ => none }
def journalPrefixRow : OpenClaim := { program := "ytjedagkkeicpkaa", sum := "937979e6398083dbfcdf6b36376e81cf39b4da7661666bde4a2b1daa54d8625e", func := "recordlink/recordlinklaw38.JournalPrefix", spec := "journalPrefix", apart := false }
def JournalPrefixSaid : Prop := journalPrefixRow.holds Try.pinned (OpenSpec.ofChange journalPrefixSpec)

/-- ITS FALSE NEIGHBOUR: 'it returns false'. Refute it at one input. -/
def journalPrefixWrong : ChangeSpec := { name := "journalPrefix", fn := fun _ => fun
  | [d] => { results := [.lit (.bool false)], args := [d] }
  | _ => none }
def JournalPrefixWrongFalsely : Prop := journalPrefixRow.holds Try.pinned (OpenSpec.ofChange journalPrefixWrong)

/- THE SECOND FORM. 'bulk': how many values and letters a reading holds, each counted each time it is reached (what is shared counts as often as it is met; a slice's spare places count too). A statement '..UptoSaid' is the law's where the arguments, and the package variables that the reading takes, are together of bulk at most 1048576: NARROWER than '..Said'. Prove '..Said' where nothing that the law and all that it calls make is longer than what came in: it says more and counts as full. Else prove '..UptoSaid'. A law counts once. -/
mutual
def uptoBulk {H : Type} : DataW H → Nat
  | .lit (.string bytes) => bytes.length + 1
  | .lit _ => 1
  | .nil => 1
  | .ptr d => uptoBulk d + 1
  | .slice elems spare => uptoBulkAll elems + uptoBulkAll spare + 1
  | .agg parts => uptoBulkAll parts + 1
  | .iface _ d => uptoBulk d + 1
  | .map entries => uptoBulkEntries entries + 1
  | .held _ => 1
def uptoBulkAll {H : Type} : List (DataW H) → Nat
  | [] => 0
  | d :: r => uptoBulk d + uptoBulkAll r
def uptoBulkEntries {H : Type} : List (Lit × DataW H) → Nat
  | [] => 0
  | x :: r => uptoBulkEntry x + uptoBulkEntries r
def uptoBulkEntry {H : Type} : Lit × DataW H → Nat
  | (.string bytes, d) => bytes.length + uptoBulk d + 1
  | (_, d) => uptoBulk d + 1
 end
def uptoSmall : (H : Type) → List (DataW H) → Bool := fun _ ds => decide (uptoBulkAll ds ≤ 1048576)
def OpenSpec.upto (s : _root_.Go.ChangeSpec) : _root_.Go.OpenSpec := { _root_.Go.OpenSpec.ofChange s with cond := some uptoSmall }

/-- 'recordlinklaw38.JournalExact', WHERE WHAT IT READS IS OF BULK AT MOST 1048576: true; the input reads as it did. -/
def journalExactUptoRow : OpenClaim := { program := "ytjedagkkeicpkaa", sum := "937979e6398083dbfcdf6b36376e81cf39b4da7661666bde4a2b1daa54d8625e", func := "recordlink/recordlinklaw38.JournalExact", spec := "journalExact", apart := false, narrowed := true }
def JournalExactUptoSaid : Prop := journalExactUptoRow.holds Try.pinned (OpenSpec.upto journalExactSpec)

/-- 'recordlinklaw38.JournalBack', WHERE WHAT IT READS IS OF BULK AT MOST 1048576: true; the input reads as it did. -/
def journalBackUptoRow : OpenClaim := { program := "ytjedagkkeicpkaa", sum := "937979e6398083dbfcdf6b36376e81cf39b4da7661666bde4a2b1daa54d8625e", func := "recordlink/recordlinklaw38.JournalBack", spec := "journalBack", apart := false, narrowed := true }
def JournalBackUptoSaid : Prop := journalBackUptoRow.holds Try.pinned (OpenSpec.upto journalBackSpec)

/-- 'recordlinklaw38.JournalTorn', WHERE WHAT IT READS IS OF BULK AT MOST 1048576: true; the input reads as it did. -/
def journalTornUptoRow : OpenClaim := { program := "ytjedagkkeicpkaa", sum := "937979e6398083dbfcdf6b36376e81cf39b4da7661666bde4a2b1daa54d8625e", func := "recordlink/recordlinklaw38.JournalTorn", spec := "journalTorn", apart := false, narrowed := true }
def JournalTornUptoSaid : Prop := journalTornUptoRow.holds Try.pinned (OpenSpec.upto journalTornSpec)

/-- 'recordlinklaw38.JournalDamage', WHERE WHAT IT READS IS OF BULK AT MOST 1048576: true; the input reads as it did. -/
def journalDamageUptoRow : OpenClaim := { program := "ytjedagkkeicpkaa", sum := "937979e6398083dbfcdf6b36376e81cf39b4da7661666bde4a2b1daa54d8625e", func := "recordlink/recordlinklaw38.JournalDamage", spec := "journalDamage", apart := false, narrowed := true }
def JournalDamageUptoSaid : Prop := journalDamageUptoRow.holds Try.pinned (OpenSpec.upto journalDamageSpec)

/-- 'recordlinklaw38.JournalChain', WHERE WHAT IT READS IS OF BULK AT MOST 1048576: true; the input reads as it did. -/
def journalChainUptoRow : OpenClaim := { program := "ytjedagkkeicpkaa", sum := "937979e6398083dbfcdf6b36376e81cf39b4da7661666bde4a2b1daa54d8625e", func := "recordlink/recordlinklaw38.JournalChain", spec := "journalChain", apart := false, narrowed := true }
def JournalChainUptoSaid : Prop := journalChainUptoRow.holds Try.pinned (OpenSpec.upto journalChainSpec)

/-- 'recordlinklaw38.JournalLimits', WHERE WHAT IT READS IS OF BULK AT MOST 1048576: true; the input reads as it did. -/
def journalLimitsUptoRow : OpenClaim := { program := "ytjedagkkeicpkaa", sum := "937979e6398083dbfcdf6b36376e81cf39b4da7661666bde4a2b1daa54d8625e", func := "recordlink/recordlinklaw38.JournalLimits", spec := "journalLimits", apart := false, narrowed := true }
def JournalLimitsUptoSaid : Prop := journalLimitsUptoRow.holds Try.pinned (OpenSpec.upto journalLimitsSpec)

/-- 'recordlinklaw38.JournalPrefix', WHERE WHAT IT READS IS OF BULK AT MOST 1048576: true; the input reads as it did. -/
def journalPrefixUptoRow : OpenClaim := { program := "ytjedagkkeicpkaa", sum := "937979e6398083dbfcdf6b36376e81cf39b4da7661666bde4a2b1daa54d8625e", func := "recordlink/recordlinklaw38.JournalPrefix", spec := "journalPrefix", apart := false, narrowed := true }
def JournalPrefixUptoSaid : Prop := journalPrefixUptoRow.holds Try.pinned (OpenSpec.upto journalPrefixSpec)

end Rows
end Go.Proofs.Ytjedagkkeicpkaa
