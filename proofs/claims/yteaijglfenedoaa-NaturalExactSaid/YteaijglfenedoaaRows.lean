/-
  No cell of these rows narrows 'for every input' (looked for: loops, veiled, ifaces, maps, wideKeys, modest, calm, conditions, laid).
  DERIVED. THE GIVEN ROWS OF THIS SEAT. 7 by the template 'for every input the law returns true; each argument reads behind the call as it read before'; 0 by the template 'total and deterministic' (their statements: YteaijglfenedoaaTotals.lean).
  GIVEN WITH THE SEED: the statements are not yours to turn. If you find one false, say at which input.
  Laid BY PROGRAM, IN A SANDBOX (cutbox-rows.mjs): the forced cells as the released guide's own fill.sh prints them over the translation 14207e034a72716e… (all of the seat's roots in one cut). By AI agents, Wed Nov 11 2026. No macro, syntax, notation, axiom, sorry.
-/
import Derived.Test.YteaijglfenedoaaChecked
import GoSem.Claim
import GoSem.ClaimJoined
import GoSem.ClaimMapViews
import Derived.JoinedTies
import Derived.KernelRfl
namespace Go.Proofs.Yteaijglfenedoaa
/- THE CELL 'sum', in the pinned program and in every row, IS THE sha256 OF THE DUMP (.gsa) THAT YteaijglfenedoaaProg.lean LOADS. Nothing in Lean hashes anything: it is a label: what it is worth is what the hold of that sum in a sandbox is worth. -/
noncomputable def Try.pinned : Pinned := { name := "yteaijglfenedoaa", sum := "14207e034a72716e27faf1be2e42fcc72f054e5a92001b871c99beaccdb203d5", checked := Try.checked }
namespace Rows
def none {H : Type} : Left H := { results := [], args := [] }

/-- 'recordlinklaw10.NaturalRing': WHATEVER THE INPUT: true; the input reads as it did. -/
def naturalRingSpec : ChangeSpec := { name := "naturalRing", fn := fun _ => fun
  | [d] => { results := [.lit (.bool true)], args := [d] }
  | _ => none }
def naturalRingRow : OpenClaim := { program := "yteaijglfenedoaa", sum := "14207e034a72716e27faf1be2e42fcc72f054e5a92001b871c99beaccdb203d5", func := "recordlink/recordlinklaw10.NaturalRing", spec := "naturalRing", apart := false }
def NaturalRingSaid : Prop := naturalRingRow.holds Try.pinned (OpenSpec.ofChange naturalRingSpec)

/-- ITS FALSE NEIGHBOUR: 'it returns false'. Refute it at one input. -/
def naturalRingWrong : ChangeSpec := { name := "naturalRing", fn := fun _ => fun
  | [d] => { results := [.lit (.bool false)], args := [d] }
  | _ => none }
def NaturalRingWrongFalsely : Prop := naturalRingRow.holds Try.pinned (OpenSpec.ofChange naturalRingWrong)

/-- 'recordlinklaw10.NaturalCommon': WHATEVER THE INPUT: true; the input reads as it did. -/
def naturalCommonSpec : ChangeSpec := { name := "naturalCommon", fn := fun _ => fun
  | [d] => { results := [.lit (.bool true)], args := [d] }
  | _ => none }
def naturalCommonRow : OpenClaim := { program := "yteaijglfenedoaa", sum := "14207e034a72716e27faf1be2e42fcc72f054e5a92001b871c99beaccdb203d5", func := "recordlink/recordlinklaw10.NaturalCommon", spec := "naturalCommon", apart := false }
def NaturalCommonSaid : Prop := naturalCommonRow.holds Try.pinned (OpenSpec.ofChange naturalCommonSpec)

/-- ITS FALSE NEIGHBOUR: 'it returns false'. Refute it at one input. -/
def naturalCommonWrong : ChangeSpec := { name := "naturalCommon", fn := fun _ => fun
  | [d] => { results := [.lit (.bool false)], args := [d] }
  | _ => none }
def NaturalCommonWrongFalsely : Prop := naturalCommonRow.holds Try.pinned (OpenSpec.ofChange naturalCommonWrong)

/-- 'recordlinklaw10.NaturalInts': WHATEVER THE INPUT: true; the input reads as it did. -/
def naturalIntsSpec : ChangeSpec := { name := "naturalInts", fn := fun _ => fun
  | [d1, d2] => { results := [.lit (.bool true)], args := [d1, d2] }
  | _ => none }
def naturalIntsRow : OpenClaim := { program := "yteaijglfenedoaa", sum := "14207e034a72716e27faf1be2e42fcc72f054e5a92001b871c99beaccdb203d5", func := "recordlink/recordlinklaw10.NaturalInts", spec := "naturalInts", apart := false }
def NaturalIntsSaid : Prop := naturalIntsRow.holds Try.pinned (OpenSpec.ofChange naturalIntsSpec)

/-- ITS FALSE NEIGHBOUR: 'it returns false'. Refute it at one input. -/
def naturalIntsWrong : ChangeSpec := { name := "naturalInts", fn := fun _ => fun
  | [d1, d2] => { results := [.lit (.bool false)], args := [d1, d2] }
  | _ => none }
def NaturalIntsWrongFalsely : Prop := naturalIntsRow.holds Try.pinned (OpenSpec.ofChange naturalIntsWrong)

/-- 'recordlinklaw10.NaturalTexts': WHATEVER THE INPUT: true; the input reads as it did. -/
def naturalTextsSpec : ChangeSpec := { name := "naturalTexts", fn := fun _ => fun
  | [d] => { results := [.lit (.bool true)], args := [d] }
  | _ => none }
def naturalTextsRow : OpenClaim := { program := "yteaijglfenedoaa", sum := "14207e034a72716e27faf1be2e42fcc72f054e5a92001b871c99beaccdb203d5", func := "recordlink/recordlinklaw10.NaturalTexts", spec := "naturalTexts", apart := false }
def NaturalTextsSaid : Prop := naturalTextsRow.holds Try.pinned (OpenSpec.ofChange naturalTextsSpec)

/-- ITS FALSE NEIGHBOUR: 'it returns false'. Refute it at one input. -/
def naturalTextsWrong : ChangeSpec := { name := "naturalTexts", fn := fun _ => fun
  | [d] => { results := [.lit (.bool false)], args := [d] }
  | _ => none }
def NaturalTextsWrongFalsely : Prop := naturalTextsRow.holds Try.pinned (OpenSpec.ofChange naturalTextsWrong)

/-- 'recordlinklaw10.NaturalDivides': WHATEVER THE INPUT: true; the input reads as it did. -/
def naturalDividesSpec : ChangeSpec := { name := "naturalDivides", fn := fun _ => fun
  | [d] => { results := [.lit (.bool true)], args := [d] }
  | _ => none }
def naturalDividesRow : OpenClaim := { program := "yteaijglfenedoaa", sum := "14207e034a72716e27faf1be2e42fcc72f054e5a92001b871c99beaccdb203d5", func := "recordlink/recordlinklaw10.NaturalDivides", spec := "naturalDivides", apart := false }
def NaturalDividesSaid : Prop := naturalDividesRow.holds Try.pinned (OpenSpec.ofChange naturalDividesSpec)

/-- ITS FALSE NEIGHBOUR: 'it returns false'. Refute it at one input. -/
def naturalDividesWrong : ChangeSpec := { name := "naturalDivides", fn := fun _ => fun
  | [d] => { results := [.lit (.bool false)], args := [d] }
  | _ => none }
def NaturalDividesWrongFalsely : Prop := naturalDividesRow.holds Try.pinned (OpenSpec.ofChange naturalDividesWrong)

/-- 'recordlinklaw10.NaturalLimits': WHATEVER THE INPUT: true; the input reads as it did. -/
def naturalLimitsSpec : ChangeSpec := { name := "naturalLimits", fn := fun _ => fun
  | [d] => { results := [.lit (.bool true)], args := [d] }
  | _ => none }
def naturalLimitsRow : OpenClaim := { program := "yteaijglfenedoaa", sum := "14207e034a72716e27faf1be2e42fcc72f054e5a92001b871c99beaccdb203d5", func := "recordlink/recordlinklaw10.NaturalLimits", spec := "naturalLimits", apart := false }
def NaturalLimitsSaid : Prop := naturalLimitsRow.holds Try.pinned (OpenSpec.ofChange naturalLimitsSpec)

/-- ITS FALSE NEIGHBOUR: 'it returns false'. Refute it at one input. -/
def naturalLimitsWrong : ChangeSpec := { name := "naturalLimits", fn := fun _ => fun
  | [d] => { results := [.lit (.bool false)], args := [d] }
  | _ => none }
def NaturalLimitsWrongFalsely : Prop := naturalLimitsRow.holds Try.pinned (OpenSpec.ofChange naturalLimitsWrong)

/-- 'recordlinklaw10.NaturalExact': WHATEVER THE INPUT: true; the input reads as it did. -/
def naturalExactSpec : ChangeSpec := { name := "naturalExact", fn := fun _ => fun
  | [d1, d2, d3, d4, d5] => { results := [.lit (.bool true)], args := [d1, d2, d3, d4, d5] }
  | _ => none }
def naturalExactRow : OpenClaim := { program := "yteaijglfenedoaa", sum := "14207e034a72716e27faf1be2e42fcc72f054e5a92001b871c99beaccdb203d5", func := "recordlink/recordlinklaw10.NaturalExact", spec := "naturalExact", apart := false }
def NaturalExactSaid : Prop := naturalExactRow.holds Try.pinned (OpenSpec.ofChange naturalExactSpec)

/-- ITS FALSE NEIGHBOUR: 'it returns false'. Refute it at one input. -/
def naturalExactWrong : ChangeSpec := { name := "naturalExact", fn := fun _ => fun
  | [d1, d2, d3, d4, d5] => { results := [.lit (.bool false)], args := [d1, d2, d3, d4, d5] }
  | _ => none }
def NaturalExactWrongFalsely : Prop := naturalExactRow.holds Try.pinned (OpenSpec.ofChange naturalExactWrong)

/- THE SECOND FORM. 'bulk': how many values and letters a reading holds, each counted each time it is reached (what is shared counts as often as it is met; a slice's spare places count too). A statement '..UptoSaid' is the law's where the arguments, and the package variables that the reading takes, are together of bulk at most 1048576: NARROWER than '..Said'. Prove '..Said' where nothing that the law and all that it calls make is longer than what came in: it says more and counts as full. Else prove '..UptoSaid'. A law counts once. -/
mutual
def uptoBulk {H : Type} : DataW H → Nat
  | .lit (.string bytes) => bytes.length + 1
  | .lit _ => 1
  | .nil => 1
  | .ptr d => uptoBulk d + 1
  | .slice elems spare => uptoBulkAll elems + uptoBulkAll spare + 1
  | .agg parts => uptoBulkAll parts + 1
  | .iface _ d => uptoBulk d + 1
  | .map entries => uptoBulkEntries entries + 1
  | .held _ => 1
def uptoBulkAll {H : Type} : List (DataW H) → Nat
  | [] => 0
  | d :: r => uptoBulk d + uptoBulkAll r
def uptoBulkEntries {H : Type} : List (Lit × DataW H) → Nat
  | [] => 0
  | x :: r => uptoBulkEntry x + uptoBulkEntries r
def uptoBulkEntry {H : Type} : Lit × DataW H → Nat
  | (.string bytes, d) => bytes.length + uptoBulk d + 1
  | (_, d) => uptoBulk d + 1
 end
def uptoSmall : (H : Type) → List (DataW H) → Bool := fun _ ds => decide (uptoBulkAll ds ≤ 1048576)
def OpenSpec.upto (s : _root_.Go.ChangeSpec) : _root_.Go.OpenSpec := { _root_.Go.OpenSpec.ofChange s with cond := some uptoSmall }

/-- 'recordlinklaw10.NaturalRing', WHERE WHAT IT READS IS OF BULK AT MOST 1048576: true; the input reads as it did. -/
def naturalRingUptoRow : OpenClaim := { program := "yteaijglfenedoaa", sum := "14207e034a72716e27faf1be2e42fcc72f054e5a92001b871c99beaccdb203d5", func := "recordlink/recordlinklaw10.NaturalRing", spec := "naturalRing", apart := false, narrowed := true }
def NaturalRingUptoSaid : Prop := naturalRingUptoRow.holds Try.pinned (OpenSpec.upto naturalRingSpec)

/-- 'recordlinklaw10.NaturalCommon', WHERE WHAT IT READS IS OF BULK AT MOST 1048576: true; the input reads as it did. -/
def naturalCommonUptoRow : OpenClaim := { program := "yteaijglfenedoaa", sum := "14207e034a72716e27faf1be2e42fcc72f054e5a92001b871c99beaccdb203d5", func := "recordlink/recordlinklaw10.NaturalCommon", spec := "naturalCommon", apart := false, narrowed := true }
def NaturalCommonUptoSaid : Prop := naturalCommonUptoRow.holds Try.pinned (OpenSpec.upto naturalCommonSpec)

/-- 'recordlinklaw10.NaturalInts', WHERE WHAT IT READS IS OF BULK AT MOST 1048576: true; the input reads as it did. -/
def naturalIntsUptoRow : OpenClaim := { program := "yteaijglfenedoaa", sum := "14207e034a72716e27faf1be2e42fcc72f054e5a92001b871c99beaccdb203d5", func := "recordlink/recordlinklaw10.NaturalInts", spec := "naturalInts", apart := false, narrowed := true }
def NaturalIntsUptoSaid : Prop := naturalIntsUptoRow.holds Try.pinned (OpenSpec.upto naturalIntsSpec)

/-- 'recordlinklaw10.NaturalTexts', WHERE WHAT IT READS IS OF BULK AT MOST 1048576: true; the input reads as it did. -/
def naturalTextsUptoRow : OpenClaim := { program := "yteaijglfenedoaa", sum := "14207e034a72716e27faf1be2e42fcc72f054e5a92001b871c99beaccdb203d5", func := "recordlink/recordlinklaw10.NaturalTexts", spec := "naturalTexts", apart := false, narrowed := true }
def NaturalTextsUptoSaid : Prop := naturalTextsUptoRow.holds Try.pinned (OpenSpec.upto naturalTextsSpec)

/-- 'recordlinklaw10.NaturalDivides', WHERE WHAT IT READS IS OF BULK AT MOST 1048576: true; the input reads as it did. -/
def naturalDividesUptoRow : OpenClaim := { program := "yteaijglfenedoaa", sum := "14207e034a72716e27faf1be2e42fcc72f054e5a92001b871c99beaccdb203d5", func := "recordlink/recordlinklaw10.NaturalDivides", spec := "naturalDivides", apart := false, narrowed := true }
def NaturalDividesUptoSaid : Prop := naturalDividesUptoRow.holds Try.pinned (OpenSpec.upto naturalDividesSpec)

/-- 'recordlinklaw10.NaturalLimits', WHERE WHAT IT READS IS OF BULK AT MOST 1048576: true; the input reads as it did. -/
def naturalLimitsUptoRow : OpenClaim := { program := "yteaijglfenedoaa", sum := "14207e034a72716e27faf1be2e42fcc72f054e5a92001b871c99beaccdb203d5", func := "recordlink/recordlinklaw10.NaturalLimits", spec := "naturalLimits", apart := false, narrowed := true }
def NaturalLimitsUptoSaid : Prop := naturalLimitsUptoRow.holds Try.pinned (OpenSpec.upto naturalLimitsSpec)

/-- 'recordlinklaw10.NaturalExact', WHERE WHAT IT READS IS OF BULK AT MOST 1048576: true; the input reads as it did. -/
def naturalExactUptoRow : OpenClaim := { program := "yteaijglfenedoaa", sum := "14207e034a72716e27faf1be2e42fcc72f054e5a92001b871c99beaccdb203d5", func := "recordlink/recordlinklaw10.NaturalExact", spec := "naturalExact", apart := false, narrowed := true }
def NaturalExactUptoSaid : Prop := naturalExactUptoRow.holds Try.pinned (OpenSpec.upto naturalExactSpec)

end Rows
end Go.Proofs.Yteaijglfenedoaa
