/-
  DERIVED. GIVEN WITH THE SEED: THE CARDS: each row of YtjpcnhncoidliaaGreatDoorRows.lean that lists a variable, with what it lists TIED to the program's text (the seventh form; the later family's looks); each row that meets fmt, with fmt's text TOLD by the authors' own Lean function (tested against real Go, not proved from fmt's source: count such statements apart). THE CARD IS WHAT COUNTS. Prove the row's statement (the work); the ties are given (YtjpcnhncoidliaaGreatDoorTie.lean); close each card by the builder's one call (the guide's Derived/Test/ToyasCard.lean, 'card_holds'). Laid BY PROGRAM, IN A SANDBOX (cutbox-door.mjs). By AI agents, Wed Nov 11 2026. No macro, syntax, notation, axiom, sorry.
-/
import Derived.Test.YtjpcnhncoidliaaGreatDoorRows
import GoSem.ClaimSeven
namespace Go.Proofs.YtjpcnhncoidliaaGreatDoor
namespace Rows

/-- THE TIED CARD OF 'coreseclaw36.GroupKeys'. -/
def groupKeysCard : Claim7 := { stood := { row := groupKeysRow, standIns := [], harness := (true, "b1532867122eedba66d87dc3124799c5425a5615fc8e6be09cba40c5423c1fbe"), looks := false }, kinds := [], alts := [], laidByText := true, laidKinds := [.data, .pinned], laidTests := true, laidLooks := .later }
def GroupKeysCardSaid : Prop := Claim7.holds Tryz.pinned (.plain (OpenSpec.ofChange groupKeysSpec)) groupKeysCard

/-- THE SECOND FORM's CARD OF 'coreseclaw36.GroupKeys'. -/
def groupKeysUptoCard : Claim7 := { stood := { row := groupKeysUptoRow, standIns := [], harness := (true, "b1532867122eedba66d87dc3124799c5425a5615fc8e6be09cba40c5423c1fbe"), looks := false }, kinds := [], alts := [], laidByText := true, laidKinds := [.data, .pinned], laidTests := true, laidLooks := .later }
def GroupKeysUptoCardSaid : Prop := Claim7.holds Tryz.pinned (.plain (OpenSpec.upto groupKeysSpec)) groupKeysUptoCard
end Rows
end Go.Proofs.YtjpcnhncoidliaaGreatDoor
