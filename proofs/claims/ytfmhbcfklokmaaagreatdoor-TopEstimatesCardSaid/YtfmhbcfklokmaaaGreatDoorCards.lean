/-
  DERIVED. GIVEN WITH THE SEED: THE CARDS: each row of YtfmhbcfklokmaaaGreatDoorRows.lean that lists a variable, with what it lists TIED to the program's text (the seventh form; the later family's looks); each row that meets fmt, with fmt's text TOLD by the authors' own Lean function (tested against real Go, not proved from fmt's source: count such statements apart). THE CARD IS WHAT COUNTS. Prove the row's statement (the work); the ties are given (YtfmhbcfklokmaaaGreatDoorTie.lean); close each card by the builder's one call (the guide's Derived/Test/ToyasCard.lean, 'card_holds'). Laid BY PROGRAM, IN A SANDBOX (cutbox-door.mjs). By AI agents, Wed Nov 11 2026. No macro, syntax, notation, axiom, sorry.
-/
import Derived.Test.YtfmhbcfklokmaaaGreatDoorRows
import GoSem.ClaimSeven
namespace Go.Proofs.YtfmhbcfklokmaaaGreatDoor
namespace Rows

/-- THE TIED CARD OF 'recordlinktop.TopEstimates'. -/
def topEstimatesCard : Claim7 := { stood := { row := topEstimatesRow, standIns := [], harness := (true, "05055d551187a0205c80423c817932c34dac9b7c35d38e16e76b99f75c736cd9"), looks := false }, kinds := [], alts := [], laidByText := true, laidKinds := [.data, .data, .data, .data, .pinned], laidTests := true, laidLooks := .later }
def TopEstimatesCardSaid : Prop := Claim7.holds Tryz.pinned (.plain (OpenSpec.ofChange topEstimatesSpec)) topEstimatesCard

/-- THE TIED CARD OF 'recordlinktop.TopEncodes'. -/
def topEncodesCard : Claim7 := { stood := { row := topEncodesRow, standIns := [], harness := (true, "05055d551187a0205c80423c817932c34dac9b7c35d38e16e76b99f75c736cd9"), looks := false }, kinds := [], alts := [], laidByText := true, laidKinds := [.data, .data, .data, .data, .pinned], laidTests := true, laidLooks := .later }
def TopEncodesCardSaid : Prop := Claim7.holds Tryz.pinned (.plain (OpenSpec.ofChange topEncodesSpec)) topEncodesCard

/-- THE SECOND FORM's CARD OF 'recordlinktop.TopEstimates'. -/
def topEstimatesUptoCard : Claim7 := { stood := { row := topEstimatesUptoRow, standIns := [], harness := (true, "05055d551187a0205c80423c817932c34dac9b7c35d38e16e76b99f75c736cd9"), looks := false }, kinds := [], alts := [], laidByText := true, laidKinds := [.data, .data, .data, .data, .pinned], laidTests := true, laidLooks := .later }
def TopEstimatesUptoCardSaid : Prop := Claim7.holds Tryz.pinned (.plain (OpenSpec.upto topEstimatesSpec)) topEstimatesUptoCard

/-- THE SECOND FORM's CARD OF 'recordlinktop.TopEncodes'. -/
def topEncodesUptoCard : Claim7 := { stood := { row := topEncodesUptoRow, standIns := [], harness := (true, "05055d551187a0205c80423c817932c34dac9b7c35d38e16e76b99f75c736cd9"), looks := false }, kinds := [], alts := [], laidByText := true, laidKinds := [.data, .data, .data, .data, .pinned], laidTests := true, laidLooks := .later }
def TopEncodesUptoCardSaid : Prop := Claim7.holds Tryz.pinned (.plain (OpenSpec.upto topEncodesSpec)) topEncodesUptoCard
end Rows
end Go.Proofs.YtfmhbcfklokmaaaGreatDoor
