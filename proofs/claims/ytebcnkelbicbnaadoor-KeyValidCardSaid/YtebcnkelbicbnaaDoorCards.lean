/-
  DERIVED. GIVEN WITH THE SEED: THE CARDS: each row of YtebcnkelbicbnaaDoorRows.lean that lists a variable, with what it lists TIED to the program's text (the seventh form; the later family's looks); each row that meets fmt, with fmt's text TOLD by the authors' own Lean function (tested against real Go, not proved from fmt's source: count such statements apart). THE CARD IS WHAT COUNTS. Prove the row's statement (the work); the ties are given (YtebcnkelbicbnaaDoorTie.lean); close each card by the builder's one call (the guide's Derived/Test/ToyasCard.lean, 'card_holds'). Laid BY PROGRAM, IN A SANDBOX (cutbox-door.mjs). By AI agents, Wed Nov 11 2026. No macro, syntax, notation, axiom, sorry.
-/
import Derived.Test.YtebcnkelbicbnaaDoorRows
import GoSem.ClaimSeven
namespace Go.Proofs.YtebcnkelbicbnaaDoor
namespace Rows

/-- THE TIED CARD OF 'coreseclaw11.KeyValid'. -/
def keyValidCard : Claim7 := { stood := { row := keyValidRow, standIns := [], harness := (true, "7db26f4d62ee2c4fde8d2c34ad4aa22db76bac094a156663ae7931cdf9a1e5d6"), looks := false }, kinds := [], alts := [], laidByText := true, laidKinds := [.data, .pinned], laidTests := true, laidLooks := .later }
def KeyValidCardSaid : Prop := Claim7.holds Tryd.pinned (.plain (OpenSpec.ofChange keyValidSpec)) keyValidCard

/-- THE SECOND FORM's CARD OF 'coreseclaw11.KeyValid'. -/
def keyValidUptoCard : Claim7 := { stood := { row := keyValidUptoRow, standIns := [], harness := (true, "7db26f4d62ee2c4fde8d2c34ad4aa22db76bac094a156663ae7931cdf9a1e5d6"), looks := false }, kinds := [], alts := [], laidByText := true, laidKinds := [.data, .pinned], laidTests := true, laidLooks := .later }
def KeyValidUptoCardSaid : Prop := Claim7.holds Tryd.pinned (.plain (OpenSpec.upto keyValidSpec)) keyValidUptoCard
end Rows
end Go.Proofs.YtebcnkelbicbnaaDoor
