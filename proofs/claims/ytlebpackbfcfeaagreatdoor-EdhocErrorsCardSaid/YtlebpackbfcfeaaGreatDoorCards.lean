/-
  DERIVED. GIVEN WITH THE SEED: THE CARDS: each row of YtlebpackbfcfeaaGreatDoorRows.lean that lists a variable, with what it lists TIED to the program's text (the seventh form; the later family's looks); each row that meets fmt, with fmt's text TOLD by the authors' own Lean function (tested against real Go, not proved from fmt's source: count such statements apart). THE CARD IS WHAT COUNTS. Prove the row's statement (the work); the ties are given (YtlebpackbfcfeaaGreatDoorTie.lean); close each card by the builder's one call (the guide's Derived/Test/ToyasCard.lean, 'card_holds'). Laid BY PROGRAM, IN A SANDBOX (cutbox-door.mjs). By AI agents, Wed Nov 11 2026. No macro, syntax, notation, axiom, sorry.
-/
import Derived.Test.YtlebpackbfcfeaaGreatDoorRows
import GoSem.ClaimSeven
namespace Go.Proofs.YtlebpackbfcfeaaGreatDoor
namespace Rows

/-- THE TIED CARD OF 'coreseclaw24.EdhocErrors'. -/
def edhocErrorsCard : Claim7 := { stood := { row := edhocErrorsRow, standIns := [], harness := (true, "1cf647cecfe8ac171529bcbe37dfa6ba6e1b16282634c509645557fc0f5674ae"), looks := false }, kinds := [], alts := [], laidByText := true, laidKinds := [.data, .pinned], laidTests := true, laidLooks := .later }
def EdhocErrorsCardSaid : Prop := Claim7.holds Tryz.pinned (.plain (OpenSpec.ofChange edhocErrorsSpec)) edhocErrorsCard

/-- THE SECOND FORM's CARD OF 'coreseclaw24.EdhocErrors'. -/
def edhocErrorsUptoCard : Claim7 := { stood := { row := edhocErrorsUptoRow, standIns := [], harness := (true, "1cf647cecfe8ac171529bcbe37dfa6ba6e1b16282634c509645557fc0f5674ae"), looks := false }, kinds := [], alts := [], laidByText := true, laidKinds := [.data, .pinned], laidTests := true, laidLooks := .later }
def EdhocErrorsUptoCardSaid : Prop := Claim7.holds Tryz.pinned (.plain (OpenSpec.upto edhocErrorsSpec)) edhocErrorsUptoCard
end Rows
end Go.Proofs.YtlebpackbfcfeaaGreatDoor
