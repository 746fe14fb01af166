/-
  No cell of these rows narrows 'for every input' (looked for: loops, veiled, ifaces, maps, wideKeys, modest, calm, conditions, laid).
  DERIVED. THE GIVEN ROWS OF THIS SEAT. 8 by the template 'for every input the law returns true; each argument reads behind the call as it read before'; 0 by the template 'total and deterministic' (their statements: YtilpgjoidgfbiaaTotals.lean).
  GIVEN WITH THE SEED: the statements are not yours to turn. If you find one false, say at which input.
  Laid BY PROGRAM, IN A SANDBOX (cutbox-rows.mjs): the forced cells as the released guide's own fill.sh prints them over the translation 87213ff5770b402f… (all of the seat's roots in one cut). By AI agents, Wed Nov 11 2026. No macro, syntax, notation, axiom, sorry.
-/
import Derived.Test.YtilpgjoidgfbiaaChecked
import GoSem.Claim
import GoSem.ClaimJoined
import GoSem.ClaimMapViews
import Derived.JoinedTies
import Derived.KernelRfl
namespace Go.Proofs.Ytilpgjoidgfbiaa
/- THE CELL 'sum', in the pinned program and in every row, IS THE sha256 OF THE DUMP (.gsa) THAT YtilpgjoidgfbiaaProg.lean LOADS. Nothing in Lean hashes anything: it is a label: what it is worth is what the hold of that sum in a sandbox is worth. -/
noncomputable def Try.pinned : Pinned := { name := "ytilpgjoidgfbiaa", sum := "87213ff5770b402fd62f6c5df39fa352e2fe2b42ac0408c04769d29f02822f6d", checked := Try.checked }
namespace Rows
def none {H : Type} : Left H := { results := [], args := [] }

/-- 'recordlinklaw33.QualityMeets': WHATEVER THE INPUT: true; the input reads as it did. -/
def qualityMeetsSpec : ChangeSpec := { name := "qualityMeets", fn := fun _ => fun
  | [d1, d2] => { results := [.lit (.bool true)], args := [d1, d2] }
  | _ => none }
def qualityMeetsRow : OpenClaim := { program := "ytilpgjoidgfbiaa", sum := "87213ff5770b402fd62f6c5df39fa352e2fe2b42ac0408c04769d29f02822f6d", func := "recordlink/recordlinklaw33.QualityMeets", spec := "qualityMeets", unfollowed := true, recurses := true, apart := false }
def QualityMeetsSaid : Prop := qualityMeetsRow.holds Try.pinned (OpenSpec.ofChange qualityMeetsSpec)

/-- ITS FALSE NEIGHBOUR: 'it returns false'. Refute it at one input. -/
def qualityMeetsWrong : ChangeSpec := { name := "qualityMeets", fn := fun _ => fun
  | [d1, d2] => { results := [.lit (.bool false)], args := [d1, d2] }
  | _ => none }
def QualityMeetsWrongFalsely : Prop := qualityMeetsRow.holds Try.pinned (OpenSpec.ofChange qualityMeetsWrong)

/-- 'recordlinklaw33.QualityModel': WHATEVER THE INPUT: true; the input reads as it did. -/
def qualityModelSpec : ChangeSpec := { name := "qualityModel", fn := fun _ => fun
  | [d1, d2] => { results := [.lit (.bool true)], args := [d1, d2] }
  | _ => none }
def qualityModelRow : OpenClaim := { program := "ytilpgjoidgfbiaa", sum := "87213ff5770b402fd62f6c5df39fa352e2fe2b42ac0408c04769d29f02822f6d", func := "recordlink/recordlinklaw33.QualityModel", spec := "qualityModel", unfollowed := true, recurses := true, apart := false }
def QualityModelSaid : Prop := qualityModelRow.holds Try.pinned (OpenSpec.ofChange qualityModelSpec)

/-- ITS FALSE NEIGHBOUR: 'it returns false'. Refute it at one input. -/
def qualityModelWrong : ChangeSpec := { name := "qualityModel", fn := fun _ => fun
  | [d1, d2] => { results := [.lit (.bool false)], args := [d1, d2] }
  | _ => none }
def QualityModelWrongFalsely : Prop := qualityModelRow.holds Try.pinned (OpenSpec.ofChange qualityModelWrong)

/-- 'recordlinklaw33.QualityOrder': WHATEVER THE INPUT: true; the input reads as it did. -/
def qualityOrderSpec : ChangeSpec := { name := "qualityOrder", fn := fun _ => fun
  | [d] => { results := [.lit (.bool true)], args := [d] }
  | _ => none }
def qualityOrderRow : OpenClaim := { program := "ytilpgjoidgfbiaa", sum := "87213ff5770b402fd62f6c5df39fa352e2fe2b42ac0408c04769d29f02822f6d", func := "recordlink/recordlinklaw33.QualityOrder", spec := "qualityOrder", unfollowed := true, recurses := true, apart := false }
def QualityOrderSaid : Prop := qualityOrderRow.holds Try.pinned (OpenSpec.ofChange qualityOrderSpec)

/-- ITS FALSE NEIGHBOUR: 'it returns false'. Refute it at one input. -/
def qualityOrderWrong : ChangeSpec := { name := "qualityOrder", fn := fun _ => fun
  | [d] => { results := [.lit (.bool false)], args := [d] }
  | _ => none }
def QualityOrderWrongFalsely : Prop := qualityOrderRow.holds Try.pinned (OpenSpec.ofChange qualityOrderWrong)

/-- 'recordlinklaw33.QualitySums': WHATEVER THE INPUT: true; the input reads as it did. -/
def qualitySumsSpec : ChangeSpec := { name := "qualitySums", fn := fun _ => fun
  | [d] => { results := [.lit (.bool true)], args := [d] }
  | _ => none }
def qualitySumsRow : OpenClaim := { program := "ytilpgjoidgfbiaa", sum := "87213ff5770b402fd62f6c5df39fa352e2fe2b42ac0408c04769d29f02822f6d", func := "recordlink/recordlinklaw33.QualitySums", spec := "qualitySums", unfollowed := true, recurses := true, apart := false }
def QualitySumsSaid : Prop := qualitySumsRow.holds Try.pinned (OpenSpec.ofChange qualitySumsSpec)

/-- ITS FALSE NEIGHBOUR: 'it returns false'. Refute it at one input. -/
def qualitySumsWrong : ChangeSpec := { name := "qualitySums", fn := fun _ => fun
  | [d] => { results := [.lit (.bool false)], args := [d] }
  | _ => none }
def QualitySumsWrongFalsely : Prop := qualitySumsRow.holds Try.pinned (OpenSpec.ofChange qualitySumsWrong)

/-- 'recordlinklaw24.EmValid': WHATEVER THE INPUT: true; the input reads as it did. -/
def emValidSpec : ChangeSpec := { name := "emValid", fn := fun _ => fun
  | [d] => { results := [.lit (.bool true)], args := [d] }
  | _ => none }
def emValidRow : OpenClaim := { program := "ytilpgjoidgfbiaa", sum := "87213ff5770b402fd62f6c5df39fa352e2fe2b42ac0408c04769d29f02822f6d", func := "recordlink/recordlinklaw24.EmValid", spec := "emValid", unfollowed := true, recurses := true, apart := false }
def EmValidSaid : Prop := emValidRow.holds Try.pinned (OpenSpec.ofChange emValidSpec)

/-- ITS FALSE NEIGHBOUR: 'it returns false'. Refute it at one input. -/
def emValidWrong : ChangeSpec := { name := "emValid", fn := fun _ => fun
  | [d] => { results := [.lit (.bool false)], args := [d] }
  | _ => none }
def EmValidWrongFalsely : Prop := emValidRow.holds Try.pinned (OpenSpec.ofChange emValidWrong)

/-- 'recordlinklaw24.EmOrder': WHATEVER THE INPUT: true; the input reads as it did. -/
def emOrderSpec : ChangeSpec := { name := "emOrder", fn := fun _ => fun
  | [d] => { results := [.lit (.bool true)], args := [d] }
  | _ => none }
def emOrderRow : OpenClaim := { program := "ytilpgjoidgfbiaa", sum := "87213ff5770b402fd62f6c5df39fa352e2fe2b42ac0408c04769d29f02822f6d", func := "recordlink/recordlinklaw24.EmOrder", spec := "emOrder", unfollowed := true, recurses := true, apart := false }
def EmOrderSaid : Prop := emOrderRow.holds Try.pinned (OpenSpec.ofChange emOrderSpec)

/-- ITS FALSE NEIGHBOUR: 'it returns false'. Refute it at one input. -/
def emOrderWrong : ChangeSpec := { name := "emOrder", fn := fun _ => fun
  | [d] => { results := [.lit (.bool false)], args := [d] }
  | _ => none }
def EmOrderWrongFalsely : Prop := emOrderRow.holds Try.pinned (OpenSpec.ofChange emOrderWrong)

/-- 'recordlinklaw24.EmAgreement': WHATEVER THE INPUT: true; the input reads as it did. -/
def emAgreementSpec : ChangeSpec := { name := "emAgreement", fn := fun _ => fun
  | [d1, d2] => { results := [.lit (.bool true)], args := [d1, d2] }
  | _ => none }
def emAgreementRow : OpenClaim := { program := "ytilpgjoidgfbiaa", sum := "87213ff5770b402fd62f6c5df39fa352e2fe2b42ac0408c04769d29f02822f6d", func := "recordlink/recordlinklaw24.EmAgreement", spec := "emAgreement", unfollowed := true, recurses := true, apart := false }
def EmAgreementSaid : Prop := emAgreementRow.holds Try.pinned (OpenSpec.ofChange emAgreementSpec)

/-- ITS FALSE NEIGHBOUR: 'it returns false'. Refute it at one input. -/
def emAgreementWrong : ChangeSpec := { name := "emAgreement", fn := fun _ => fun
  | [d1, d2] => { results := [.lit (.bool false)], args := [d1, d2] }
  | _ => none }
def EmAgreementWrongFalsely : Prop := emAgreementRow.holds Try.pinned (OpenSpec.ofChange emAgreementWrong)

/-- 'recordlinklaw24.EmRuns': WHATEVER THE INPUT: true; the input reads as it did. -/
def emRunsSpec : ChangeSpec := { name := "emRuns", fn := fun _ => fun
  | [d] => { results := [.lit (.bool true)], args := [d] }
  | _ => none }
def emRunsRow : OpenClaim := { program := "ytilpgjoidgfbiaa", sum := "87213ff5770b402fd62f6c5df39fa352e2fe2b42ac0408c04769d29f02822f6d", func := "recordlink/recordlinklaw24.EmRuns", spec := "emRuns", unfollowed := true, recurses := true, apart := false }
def EmRunsSaid : Prop := emRunsRow.holds Try.pinned (OpenSpec.ofChange emRunsSpec)

/-- ITS FALSE NEIGHBOUR: 'it returns false'. Refute it at one input. -/
def emRunsWrong : ChangeSpec := { name := "emRuns", fn := fun _ => fun
  | [d] => { results := [.lit (.bool false)], args := [d] }
  | _ => none }
def EmRunsWrongFalsely : Prop := emRunsRow.holds Try.pinned (OpenSpec.ofChange emRunsWrong)

/- THE SECOND FORM. 'bulk': how many values and letters a reading holds, each counted each time it is reached (what is shared counts as often as it is met; a slice's spare places count too). A statement '..UptoSaid' is the law's where the arguments, and the package variables that the reading takes, are together of bulk at most 1048576: NARROWER than '..Said'. Prove '..Said' where nothing that the law and all that it calls make is longer than what came in: it says more and counts as full. Else prove '..UptoSaid'. A law counts once. -/
mutual
def uptoBulk {H : Type} : DataW H → Nat
  | .lit (.string bytes) => bytes.length + 1
  | .lit _ => 1
  | .nil => 1
  | .ptr d => uptoBulk d + 1
  | .slice elems spare => uptoBulkAll elems + uptoBulkAll spare + 1
  | .agg parts => uptoBulkAll parts + 1
  | .iface _ d => uptoBulk d + 1
  | .map entries => uptoBulkEntries entries + 1
  | .held _ => 1
def uptoBulkAll {H : Type} : List (DataW H) → Nat
  | [] => 0
  | d :: r => uptoBulk d + uptoBulkAll r
def uptoBulkEntries {H : Type} : List (Lit × DataW H) → Nat
  | [] => 0
  | x :: r => uptoBulkEntry x + uptoBulkEntries r
def uptoBulkEntry {H : Type} : Lit × DataW H → Nat
  | (.string bytes, d) => bytes.length + uptoBulk d + 1
  | (_, d) => uptoBulk d + 1
 end
def uptoSmall : (H : Type) → List (DataW H) → Bool := fun _ ds => decide (uptoBulkAll ds ≤ 1048576)
def OpenSpec.upto (s : _root_.Go.ChangeSpec) : _root_.Go.OpenSpec := { _root_.Go.OpenSpec.ofChange s with cond := some uptoSmall }

/-- 'recordlinklaw33.QualityMeets', WHERE WHAT IT READS IS OF BULK AT MOST 1048576: true; the input reads as it did. -/
def qualityMeetsUptoRow : OpenClaim := { program := "ytilpgjoidgfbiaa", sum := "87213ff5770b402fd62f6c5df39fa352e2fe2b42ac0408c04769d29f02822f6d", func := "recordlink/recordlinklaw33.QualityMeets", spec := "qualityMeets", unfollowed := true, recurses := true, apart := false, narrowed := true }
def QualityMeetsUptoSaid : Prop := qualityMeetsUptoRow.holds Try.pinned (OpenSpec.upto qualityMeetsSpec)

/-- 'recordlinklaw33.QualityModel', WHERE WHAT IT READS IS OF BULK AT MOST 1048576: true; the input reads as it did. -/
def qualityModelUptoRow : OpenClaim := { program := "ytilpgjoidgfbiaa", sum := "87213ff5770b402fd62f6c5df39fa352e2fe2b42ac0408c04769d29f02822f6d", func := "recordlink/recordlinklaw33.QualityModel", spec := "qualityModel", unfollowed := true, recurses := true, apart := false, narrowed := true }
def QualityModelUptoSaid : Prop := qualityModelUptoRow.holds Try.pinned (OpenSpec.upto qualityModelSpec)

/-- 'recordlinklaw33.QualityOrder', WHERE WHAT IT READS IS OF BULK AT MOST 1048576: true; the input reads as it did. -/
def qualityOrderUptoRow : OpenClaim := { program := "ytilpgjoidgfbiaa", sum := "87213ff5770b402fd62f6c5df39fa352e2fe2b42ac0408c04769d29f02822f6d", func := "recordlink/recordlinklaw33.QualityOrder", spec := "qualityOrder", unfollowed := true, recurses := true, apart := false, narrowed := true }
def QualityOrderUptoSaid : Prop := qualityOrderUptoRow.holds Try.pinned (OpenSpec.upto qualityOrderSpec)

/-- 'recordlinklaw33.QualitySums', WHERE WHAT IT READS IS OF BULK AT MOST 1048576: true; the input reads as it did. -/
def qualitySumsUptoRow : OpenClaim := { program := "ytilpgjoidgfbiaa", sum := "87213ff5770b402fd62f6c5df39fa352e2fe2b42ac0408c04769d29f02822f6d", func := "recordlink/recordlinklaw33.QualitySums", spec := "qualitySums", unfollowed := true, recurses := true, apart := false, narrowed := true }
def QualitySumsUptoSaid : Prop := qualitySumsUptoRow.holds Try.pinned (OpenSpec.upto qualitySumsSpec)

/-- 'recordlinklaw24.EmValid', WHERE WHAT IT READS IS OF BULK AT MOST 1048576: true; the input reads as it did. -/
def emValidUptoRow : OpenClaim := { program := "ytilpgjoidgfbiaa", sum := "87213ff5770b402fd62f6c5df39fa352e2fe2b42ac0408c04769d29f02822f6d", func := "recordlink/recordlinklaw24.EmValid", spec := "emValid", unfollowed := true, recurses := true, apart := false, narrowed := true }
def EmValidUptoSaid : Prop := emValidUptoRow.holds Try.pinned (OpenSpec.upto emValidSpec)

/-- 'recordlinklaw24.EmOrder', WHERE WHAT IT READS IS OF BULK AT MOST 1048576: true; the input reads as it did. -/
def emOrderUptoRow : OpenClaim := { program := "ytilpgjoidgfbiaa", sum := "87213ff5770b402fd62f6c5df39fa352e2fe2b42ac0408c04769d29f02822f6d", func := "recordlink/recordlinklaw24.EmOrder", spec := "emOrder", unfollowed := true, recurses := true, apart := false, narrowed := true }
def EmOrderUptoSaid : Prop := emOrderUptoRow.holds Try.pinned (OpenSpec.upto emOrderSpec)

/-- 'recordlinklaw24.EmAgreement', WHERE WHAT IT READS IS OF BULK AT MOST 1048576: true; the input reads as it did. -/
def emAgreementUptoRow : OpenClaim := { program := "ytilpgjoidgfbiaa", sum := "87213ff5770b402fd62f6c5df39fa352e2fe2b42ac0408c04769d29f02822f6d", func := "recordlink/recordlinklaw24.EmAgreement", spec := "emAgreement", unfollowed := true, recurses := true, apart := false, narrowed := true }
def EmAgreementUptoSaid : Prop := emAgreementUptoRow.holds Try.pinned (OpenSpec.upto emAgreementSpec)

/-- 'recordlinklaw24.EmRuns', WHERE WHAT IT READS IS OF BULK AT MOST 1048576: true; the input reads as it did. -/
def emRunsUptoRow : OpenClaim := { program := "ytilpgjoidgfbiaa", sum := "87213ff5770b402fd62f6c5df39fa352e2fe2b42ac0408c04769d29f02822f6d", func := "recordlink/recordlinklaw24.EmRuns", spec := "emRuns", unfollowed := true, recurses := true, apart := false, narrowed := true }
def EmRunsUptoSaid : Prop := emRunsUptoRow.holds Try.pinned (OpenSpec.upto emRunsSpec)

end Rows
end Go.Proofs.Ytilpgjoidgfbiaa
