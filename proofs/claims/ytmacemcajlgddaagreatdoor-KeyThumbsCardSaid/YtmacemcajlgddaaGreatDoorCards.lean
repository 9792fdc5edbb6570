/-
  DERIVED. GIVEN WITH THE SEED: THE CARDS: each row of YtmacemcajlgddaaGreatDoorRows.lean that lists a variable, with what it lists TIED to the program's text (the seventh form; the later family's looks); each row that meets fmt, with fmt's text TOLD by the authors' own Lean function (tested against real Go, not proved from fmt's source: count such statements apart). THE CARD IS WHAT COUNTS. Prove the row's statement (the work); the ties are given (YtmacemcajlgddaaGreatDoorTie.lean); close each card by the builder's one call (the guide's Derived/Test/ToyasCard.lean, 'card_holds'). Laid BY PROGRAM, IN A SANDBOX (cutbox-door.mjs). By AI agents, Wed Nov 11 2026. No macro, syntax, notation, axiom, sorry.
-/
import Derived.Test.YtmacemcajlgddaaGreatDoorRows
import GoSem.ClaimSeven
namespace Go.Proofs.YtmacemcajlgddaaGreatDoor
namespace Rows

/-- THE TIED CARD OF 'coreseclaw11.KeyPublics'. -/
def keyPublicsCard : Claim7 := { stood := { row := keyPublicsRow, standIns := [], harness := (true, "b28b4171c62d594e82830b849efb2a773fc35dd459e37d5550c1cdb0c3288fe6"), looks := false }, kinds := [], alts := [], laidByText := true, laidKinds := [.data, .pinned], laidTests := true, laidLooks := .later }
def KeyPublicsCardSaid : Prop := Claim7.holds Tryz.pinned (.plain (OpenSpec.ofChange keyPublicsSpec)) keyPublicsCard

/-- THE TIED CARD OF 'coreseclaw11.KeyThumbs'. -/
def keyThumbsCard : Claim7 := { stood := { row := keyThumbsRow, standIns := [], harness := (true, "b28b4171c62d594e82830b849efb2a773fc35dd459e37d5550c1cdb0c3288fe6"), looks := false }, kinds := [], alts := [], laidByText := true, laidKinds := [.data, .pinned], laidTests := true, laidLooks := .later }
def KeyThumbsCardSaid : Prop := Claim7.holds Tryz.pinned (.plain (OpenSpec.ofChange keyThumbsSpec)) keyThumbsCard

/-- THE SECOND FORM's CARD OF 'coreseclaw11.KeyPublics'. -/
def keyPublicsUptoCard : Claim7 := { stood := { row := keyPublicsUptoRow, standIns := [], harness := (true, "b28b4171c62d594e82830b849efb2a773fc35dd459e37d5550c1cdb0c3288fe6"), looks := false }, kinds := [], alts := [], laidByText := true, laidKinds := [.data, .pinned], laidTests := true, laidLooks := .later }
def KeyPublicsUptoCardSaid : Prop := Claim7.holds Tryz.pinned (.plain (OpenSpec.upto keyPublicsSpec)) keyPublicsUptoCard

/-- THE SECOND FORM's CARD OF 'coreseclaw11.KeyThumbs'. -/
def keyThumbsUptoCard : Claim7 := { stood := { row := keyThumbsUptoRow, standIns := [], harness := (true, "b28b4171c62d594e82830b849efb2a773fc35dd459e37d5550c1cdb0c3288fe6"), looks := false }, kinds := [], alts := [], laidByText := true, laidKinds := [.data, .pinned], laidTests := true, laidLooks := .later }
def KeyThumbsUptoCardSaid : Prop := Claim7.holds Tryz.pinned (.plain (OpenSpec.upto keyThumbsSpec)) keyThumbsUptoCard
end Rows
end Go.Proofs.YtmacemcajlgddaaGreatDoor
