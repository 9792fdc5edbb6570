/-
  DERIVED. GIVEN WITH THE SEED: THE CARDS: each row of YtgcjjhibdbafmabGreatDoorRows.lean that lists a variable, with what it lists TIED to the program's text (the seventh form; the later family's looks); each row that meets fmt, with fmt's text TOLD by the authors' own Lean function (tested against real Go, not proved from fmt's source: count such statements apart). THE CARD IS WHAT COUNTS. Prove the row's statement (the work); the ties are given (YtgcjjhibdbafmabGreatDoorTie.lean); close each card by the builder's one call (the guide's Derived/Test/ToyasCard.lean, 'card_holds'). Laid BY PROGRAM, IN A SANDBOX (cutbox-door.mjs). By AI agents, Wed Nov 11 2026. No macro, syntax, notation, axiom, sorry.
-/
import Derived.Test.YtgcjjhibdbafmabGreatDoorRows
import GoSem.ClaimSeven
namespace Go.Proofs.YtgcjjhibdbafmabGreatDoor
namespace Rows

/-- THE TIED CARD OF 'coreseclaw21.CredCodes'. -/
def credCodesCard : Claim7 := { stood := { row := credCodesRow, standIns := [], harness := (true, "f89567ae57d1163fed9d4482b020644a8abc82c55eded7f518d51a550f8fb5e3"), looks := false }, kinds := [], alts := [], laidByText := true, laidKinds := [.data, .pinned], laidTests := true, laidLooks := .later }
def CredCodesCardSaid : Prop := Claim7.holds Tryz.pinned (.plain (OpenSpec.ofChange credCodesSpec)) credCodesCard

/-- THE SECOND FORM's CARD OF 'coreseclaw21.CredCodes'. -/
def credCodesUptoCard : Claim7 := { stood := { row := credCodesUptoRow, standIns := [], harness := (true, "f89567ae57d1163fed9d4482b020644a8abc82c55eded7f518d51a550f8fb5e3"), looks := false }, kinds := [], alts := [], laidByText := true, laidKinds := [.data, .pinned], laidTests := true, laidLooks := .later }
def CredCodesUptoCardSaid : Prop := Claim7.holds Tryz.pinned (.plain (OpenSpec.upto credCodesSpec)) credCodesUptoCard
end Rows
end Go.Proofs.YtgcjjhibdbafmabGreatDoor
