/-
  DERIVED. GIVEN WITH THE SEED: THE CARDS: each row of YtgcjjhibdbafmaaGreatDoorRows.lean that lists a variable, with what it lists TIED to the program's text (the seventh form; the later family's looks); each row that meets fmt, with fmt's text TOLD by the authors' own Lean function (tested against real Go, not proved from fmt's source: count such statements apart). THE CARD IS WHAT COUNTS. Prove the row's statement (the work); the ties are given (YtgcjjhibdbafmaaGreatDoorTie.lean); close each card by the builder's one call (the guide's Derived/Test/ToyasCard.lean, 'card_holds'). Laid BY PROGRAM, IN A SANDBOX (cutbox-door.mjs). By AI agents, Wed Nov 11 2026. No macro, syntax, notation, axiom, sorry.
-/
import Derived.Test.YtgcjjhibdbafmaaGreatDoorRows
import GoSem.ClaimSeven
namespace Go.Proofs.YtgcjjhibdbafmaaGreatDoor
namespace Rows

/-- THE TIED CARD OF 'coreseclaw13.EnvelopeMacs'. -/
def envelopeMacsCard : Claim7 := { stood := { row := envelopeMacsRow, standIns := [], harness := (true, "ddaccf4878366aa0fe187e14fea373eb5886777080bfd0fe88c6870022746c0d"), looks := false }, kinds := [], alts := [], laidByText := true, laidKinds := [.data, .pinned], laidTests := true, laidLooks := .later }
def EnvelopeMacsCardSaid : Prop := Claim7.holds Tryz.pinned (.plain (OpenSpec.ofChange envelopeMacsSpec)) envelopeMacsCard

/-- THE SECOND FORM's CARD OF 'coreseclaw13.EnvelopeMacs'. -/
def envelopeMacsUptoCard : Claim7 := { stood := { row := envelopeMacsUptoRow, standIns := [], harness := (true, "ddaccf4878366aa0fe187e14fea373eb5886777080bfd0fe88c6870022746c0d"), looks := false }, kinds := [], alts := [], laidByText := true, laidKinds := [.data, .pinned], laidTests := true, laidLooks := .later }
def EnvelopeMacsUptoCardSaid : Prop := Claim7.holds Tryz.pinned (.plain (OpenSpec.upto envelopeMacsSpec)) envelopeMacsUptoCard
end Rows
end Go.Proofs.YtgcjjhibdbafmaaGreatDoor
