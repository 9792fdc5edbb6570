/-
  DERIVED. GIVEN WITH THE SEED: THE CARDS: each row of YtgaoknihklmakabGreatDoorRows.lean that lists a variable, with what it lists TIED to the program's text (the seventh form; the later family's looks); each row that meets fmt, with fmt's text TOLD by the authors' own Lean function (tested against real Go, not proved from fmt's source: count such statements apart). THE CARD IS WHAT COUNTS. Prove the row's statement (the work); the ties are given (YtgaoknihklmakabGreatDoorTie.lean); close each card by the builder's one call (the guide's Derived/Test/ToyasCard.lean, 'card_holds'). Laid BY PROGRAM, IN A SANDBOX (cutbox-door.mjs). By AI agents, Wed Nov 11 2026. No macro, syntax, notation, axiom, sorry.
-/
import Derived.Test.YtgaoknihklmakabGreatDoorRows
import GoSem.ClaimSeven
namespace Go.Proofs.YtgaoknihklmakabGreatDoor
namespace Rows

/-- THE TIED CARD OF 'coreseclaw35.ManagerGroups'. -/
def managerGroupsCard : Claim7 := { stood := { row := managerGroupsRow, standIns := [], harness := (true, "56b1ccbaaaec677404df8d5aacc032afca6bcb69930ce3d3c60ec74e95d12ecb"), looks := false }, kinds := [], alts := [], laidByText := true, laidKinds := [.data, .pinned], laidTests := true, laidLooks := .later }
def ManagerGroupsCardSaid : Prop := Claim7.holds Tryz.pinned (.plain (OpenSpec.ofChange managerGroupsSpec)) managerGroupsCard

/-- THE SECOND FORM's CARD OF 'coreseclaw35.ManagerGroups'. -/
def managerGroupsUptoCard : Claim7 := { stood := { row := managerGroupsUptoRow, standIns := [], harness := (true, "56b1ccbaaaec677404df8d5aacc032afca6bcb69930ce3d3c60ec74e95d12ecb"), looks := false }, kinds := [], alts := [], laidByText := true, laidKinds := [.data, .pinned], laidTests := true, laidLooks := .later }
def ManagerGroupsUptoCardSaid : Prop := Claim7.holds Tryz.pinned (.plain (OpenSpec.upto managerGroupsSpec)) managerGroupsUptoCard
end Rows
end Go.Proofs.YtgaoknihklmakabGreatDoor
