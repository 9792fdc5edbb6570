/-
  DERIVED. GIVEN WITH THE SEED: THE CARDS: each row of YtnfoilblmhbobaaGreatDoorRows.lean that lists a variable, with what it lists TIED to the program's text (the seventh form; the later family's looks); each row that meets fmt, with fmt's text TOLD by the authors' own Lean function (tested against real Go, not proved from fmt's source: count such statements apart). THE CARD IS WHAT COUNTS. Prove the row's statement (the work); the ties are given (YtnfoilblmhbobaaGreatDoorTie.lean); close each card by the builder's one call (the guide's Derived/Test/ToyasCard.lean, 'card_holds'). Laid BY PROGRAM, IN A SANDBOX (cutbox-door.mjs). By AI agents, Wed Nov 11 2026. No macro, syntax, notation, axiom, sorry.
-/
import Derived.Test.YtnfoilblmhbobaaGreatDoorRows
import GoSem.ClaimSeven
namespace Go.Proofs.YtnfoilblmhbobaaGreatDoor
namespace Rows

/-- THE TIED CARD OF 'coreseclaw25.SessionTicks'. -/
def sessionTicksCard : Claim7 := { stood := { row := sessionTicksRow, standIns := [], harness := (true, "2ec2e80a687bcc4188c2c138440c851c8830e40bd63428060d270699c9c61ed0"), looks := false }, kinds := [], alts := [], laidByText := true, laidKinds := [.data, .pinned], laidTests := true, laidLooks := .later }
def SessionTicksCardSaid : Prop := Claim7.holds Tryz.pinned (.plain (OpenSpec.ofChange sessionTicksSpec)) sessionTicksCard

/-- THE SECOND FORM's CARD OF 'coreseclaw25.SessionTicks'. -/
def sessionTicksUptoCard : Claim7 := { stood := { row := sessionTicksUptoRow, standIns := [], harness := (true, "2ec2e80a687bcc4188c2c138440c851c8830e40bd63428060d270699c9c61ed0"), looks := false }, kinds := [], alts := [], laidByText := true, laidKinds := [.data, .pinned], laidTests := true, laidLooks := .later }
def SessionTicksUptoCardSaid : Prop := Claim7.holds Tryz.pinned (.plain (OpenSpec.upto sessionTicksSpec)) sessionTicksUptoCard
end Rows
end Go.Proofs.YtnfoilblmhbobaaGreatDoor
