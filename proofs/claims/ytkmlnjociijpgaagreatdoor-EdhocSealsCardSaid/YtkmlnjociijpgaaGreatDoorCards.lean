/-
  DERIVED. GIVEN WITH THE SEED: THE CARDS: each row of YtkmlnjociijpgaaGreatDoorRows.lean that lists a variable, with what it lists TIED to the program's text (the seventh form; the later family's looks); each row that meets fmt, with fmt's text TOLD by the authors' own Lean function (tested against real Go, not proved from fmt's source: count such statements apart). THE CARD IS WHAT COUNTS. Prove the row's statement (the work); the ties are given (YtkmlnjociijpgaaGreatDoorTie.lean); close each card by the builder's one call (the guide's Derived/Test/ToyasCard.lean, 'card_holds'). Laid BY PROGRAM, IN A SANDBOX (cutbox-door.mjs). By AI agents, Wed Nov 11 2026. No macro, syntax, notation, axiom, sorry.
-/
import Derived.Test.YtkmlnjociijpgaaGreatDoorRows
import GoSem.ClaimSeven
namespace Go.Proofs.YtkmlnjociijpgaaGreatDoor
namespace Rows

/-- THE TIED CARD OF 'coreseclaw24.EdhocSeals'. -/
def edhocSealsCard : Claim7 := { stood := { row := edhocSealsRow, standIns := [], harness := (true, "081dd18a382378deda8bcdc42a209866b2e47e9a4d06804bd56646ec6a977a3e"), looks := false }, kinds := [], alts := [], laidByText := true, laidKinds := [.data, .pinned], laidTests := true, laidLooks := .later }
def EdhocSealsCardSaid : Prop := Claim7.holds Tryz.pinned (.plain (OpenSpec.ofChange edhocSealsSpec)) edhocSealsCard

/-- THE TIED CARD OF 'coreseclaw24.EdhocPlains'. -/
def edhocPlainsCard : Claim7 := { stood := { row := edhocPlainsRow, standIns := [], harness := (true, "081dd18a382378deda8bcdc42a209866b2e47e9a4d06804bd56646ec6a977a3e"), looks := false }, kinds := [], alts := [], laidByText := true, laidKinds := [.data, .pinned], laidTests := true, laidLooks := .later }
def EdhocPlainsCardSaid : Prop := Claim7.holds Tryz.pinned (.plain (OpenSpec.ofChange edhocPlainsSpec)) edhocPlainsCard

/-- THE TIED CARD OF 'coreseclaw24.EdhocBack'. -/
def edhocBackCard : Claim7 := { stood := { row := edhocBackRow, standIns := [], harness := (true, "081dd18a382378deda8bcdc42a209866b2e47e9a4d06804bd56646ec6a977a3e"), looks := false }, kinds := [], alts := [], laidByText := true, laidKinds := [.data, .pinned], laidTests := true, laidLooks := .later }
def EdhocBackCardSaid : Prop := Claim7.holds Tryz.pinned (.plain (OpenSpec.ofChange edhocBackSpec)) edhocBackCard

/-- THE SECOND FORM's CARD OF 'coreseclaw24.EdhocSeals'. -/
def edhocSealsUptoCard : Claim7 := { stood := { row := edhocSealsUptoRow, standIns := [], harness := (true, "081dd18a382378deda8bcdc42a209866b2e47e9a4d06804bd56646ec6a977a3e"), looks := false }, kinds := [], alts := [], laidByText := true, laidKinds := [.data, .pinned], laidTests := true, laidLooks := .later }
def EdhocSealsUptoCardSaid : Prop := Claim7.holds Tryz.pinned (.plain (OpenSpec.upto edhocSealsSpec)) edhocSealsUptoCard

/-- THE SECOND FORM's CARD OF 'coreseclaw24.EdhocPlains'. -/
def edhocPlainsUptoCard : Claim7 := { stood := { row := edhocPlainsUptoRow, standIns := [], harness := (true, "081dd18a382378deda8bcdc42a209866b2e47e9a4d06804bd56646ec6a977a3e"), looks := false }, kinds := [], alts := [], laidByText := true, laidKinds := [.data, .pinned], laidTests := true, laidLooks := .later }
def EdhocPlainsUptoCardSaid : Prop := Claim7.holds Tryz.pinned (.plain (OpenSpec.upto edhocPlainsSpec)) edhocPlainsUptoCard

/-- THE SECOND FORM's CARD OF 'coreseclaw24.EdhocBack'. -/
def edhocBackUptoCard : Claim7 := { stood := { row := edhocBackUptoRow, standIns := [], harness := (true, "081dd18a382378deda8bcdc42a209866b2e47e9a4d06804bd56646ec6a977a3e"), looks := false }, kinds := [], alts := [], laidByText := true, laidKinds := [.data, .pinned], laidTests := true, laidLooks := .later }
def EdhocBackUptoCardSaid : Prop := Claim7.holds Tryz.pinned (.plain (OpenSpec.upto edhocBackSpec)) edhocBackUptoCard
end Rows
end Go.Proofs.YtkmlnjociijpgaaGreatDoor
