/-
  DERIVED. GIVEN WITH THE SEED: THE CARDS: each row of YtgaoknihklmakaaGreatDoorRows.lean that lists a variable, with what it lists TIED to the program's text (the seventh form; the later family's looks); each row that meets fmt, with fmt's text TOLD by the authors' own Lean function (tested against real Go, not proved from fmt's source: count such statements apart). THE CARD IS WHAT COUNTS. Prove the row's statement (the work); the ties are given (YtgaoknihklmakaaGreatDoorTie.lean); close each card by the builder's one call (the guide's Derived/Test/ToyasCard.lean, 'card_holds'). Laid BY PROGRAM, IN A SANDBOX (cutbox-door.mjs). By AI agents, Wed Nov 11 2026. No macro, syntax, notation, axiom, sorry.
-/
import Derived.Test.YtgaoknihklmakaaGreatDoorRows
import GoSem.ClaimSeven
namespace Go.Proofs.YtgaoknihklmakaaGreatDoor
namespace Rows

/-- THE TIED CARD OF 'coreseclaw35.ManagerSenders'. -/
def managerSendersCard : Claim7 := { stood := { row := managerSendersRow, standIns := [], harness := (true, "86796cdb801ab411600e8267d632c5f2c14143a63bc1211b97148887ab93d0bb"), looks := false }, kinds := [], alts := [], laidByText := true, laidKinds := [.data, .pinned], laidTests := true, laidLooks := .later }
def ManagerSendersCardSaid : Prop := Claim7.holds Tryz.pinned (.plain (OpenSpec.ofChange managerSendersSpec)) managerSendersCard

/-- THE SECOND FORM's CARD OF 'coreseclaw35.ManagerSenders'. -/
def managerSendersUptoCard : Claim7 := { stood := { row := managerSendersUptoRow, standIns := [], harness := (true, "86796cdb801ab411600e8267d632c5f2c14143a63bc1211b97148887ab93d0bb"), looks := false }, kinds := [], alts := [], laidByText := true, laidKinds := [.data, .pinned], laidTests := true, laidLooks := .later }
def ManagerSendersUptoCardSaid : Prop := Claim7.holds Tryz.pinned (.plain (OpenSpec.upto managerSendersSpec)) managerSendersUptoCard
end Rows
end Go.Proofs.YtgaoknihklmakaaGreatDoor
