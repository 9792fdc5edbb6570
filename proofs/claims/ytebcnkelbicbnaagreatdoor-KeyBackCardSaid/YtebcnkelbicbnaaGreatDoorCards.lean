/-
  DERIVED. GIVEN WITH THE SEED: THE CARDS: each row of YtebcnkelbicbnaaGreatDoorRows.lean that lists a variable, with what it lists TIED to the program's text (the seventh form; the later family's looks); each row that meets fmt, with fmt's text TOLD by the authors' own Lean function (tested against real Go, not proved from fmt's source: count such statements apart). THE CARD IS WHAT COUNTS. Prove the row's statement (the work); the ties are given (YtebcnkelbicbnaaGreatDoorTie.lean); close each card by the builder's one call (the guide's Derived/Test/ToyasCard.lean, 'card_holds'). Laid BY PROGRAM, IN A SANDBOX (cutbox-door.mjs). By AI agents, Wed Nov 11 2026. No macro, syntax, notation, axiom, sorry.
-/
import Derived.Test.YtebcnkelbicbnaaGreatDoorRows
import GoSem.ClaimSeven
namespace Go.Proofs.YtebcnkelbicbnaaGreatDoor
namespace Rows

/-- THE TIED CARD OF 'coreseclaw11.KeyReads'. -/
def keyReadsCard : Claim7 := { stood := { row := keyReadsRow, standIns := [], harness := (true, "52d71487520516d9364545046b551f0bbb0ed5186bfd6eb6b512fdf38621b44e"), looks := false }, kinds := [], alts := [], laidByText := true, laidKinds := [.data, .pinned], laidTests := true, laidLooks := .later }
def KeyReadsCardSaid : Prop := Claim7.holds Tryz.pinned (.plain (OpenSpec.ofChange keyReadsSpec)) keyReadsCard

/-- THE TIED CARD OF 'coreseclaw11.KeyBack'. -/
def keyBackCard : Claim7 := { stood := { row := keyBackRow, standIns := [], harness := (true, "52d71487520516d9364545046b551f0bbb0ed5186bfd6eb6b512fdf38621b44e"), looks := false }, kinds := [], alts := [], laidByText := true, laidKinds := [.data, .pinned], laidTests := true, laidLooks := .later }
def KeyBackCardSaid : Prop := Claim7.holds Tryz.pinned (.plain (OpenSpec.ofChange keyBackSpec)) keyBackCard

/-- THE SECOND FORM's CARD OF 'coreseclaw11.KeyReads'. -/
def keyReadsUptoCard : Claim7 := { stood := { row := keyReadsUptoRow, standIns := [], harness := (true, "52d71487520516d9364545046b551f0bbb0ed5186bfd6eb6b512fdf38621b44e"), looks := false }, kinds := [], alts := [], laidByText := true, laidKinds := [.data, .pinned], laidTests := true, laidLooks := .later }
def KeyReadsUptoCardSaid : Prop := Claim7.holds Tryz.pinned (.plain (OpenSpec.upto keyReadsSpec)) keyReadsUptoCard

/-- THE SECOND FORM's CARD OF 'coreseclaw11.KeyBack'. -/
def keyBackUptoCard : Claim7 := { stood := { row := keyBackUptoRow, standIns := [], harness := (true, "52d71487520516d9364545046b551f0bbb0ed5186bfd6eb6b512fdf38621b44e"), looks := false }, kinds := [], alts := [], laidByText := true, laidKinds := [.data, .pinned], laidTests := true, laidLooks := .later }
def KeyBackUptoCardSaid : Prop := Claim7.holds Tryz.pinned (.plain (OpenSpec.upto keyBackSpec)) keyBackUptoCard
end Rows
end Go.Proofs.YtebcnkelbicbnaaGreatDoor
