/-
  DERIVED. GIVEN WITH THE SEED: THE CARDS: each row of YtnlinmoiakgedaaGreatDoorRows.lean that lists a variable, with what it lists TIED to the program's text (the seventh form; the later family's looks); each row that meets fmt, with fmt's text TOLD by the authors' own Lean function (tested against real Go, not proved from fmt's source: count such statements apart). THE CARD IS WHAT COUNTS. Prove the row's statement (the work); the ties are given (YtnlinmoiakgedaaGreatDoorTie.lean); close each card by the builder's one call (the guide's Derived/Test/ToyasCard.lean, 'card_holds'). Laid BY PROGRAM, IN A SANDBOX (cutbox-door.mjs). By AI agents, Wed Nov 11 2026. No macro, syntax, notation, axiom, sorry.
-/
import Derived.Test.YtnlinmoiakgedaaGreatDoorRows
import GoSem.ClaimSeven
namespace Go.Proofs.YtnlinmoiakgedaaGreatDoor
namespace Rows

/-- THE TIED CARD OF 'coreseclaw11.KeyReads'. -/
def keyReadsCard : Claim7 := { stood := { row := keyReadsRow, standIns := [], harness := (true, "e762a29b0873e69e53a2b3d0131dac1c5d98847e10968158ab00623a9e644754"), looks := false }, kinds := [], alts := [], laidByText := true, laidKinds := [.data, .pinned], laidTests := true, laidLooks := .later }
def KeyReadsCardSaid : Prop := Claim7.holds Tryz.pinned (.plain (OpenSpec.ofChange keyReadsSpec)) keyReadsCard

/-- THE SECOND FORM's CARD OF 'coreseclaw11.KeyReads'. -/
def keyReadsUptoCard : Claim7 := { stood := { row := keyReadsUptoRow, standIns := [], harness := (true, "e762a29b0873e69e53a2b3d0131dac1c5d98847e10968158ab00623a9e644754"), looks := false }, kinds := [], alts := [], laidByText := true, laidKinds := [.data, .pinned], laidTests := true, laidLooks := .later }
def KeyReadsUptoCardSaid : Prop := Claim7.holds Tryz.pinned (.plain (OpenSpec.upto keyReadsSpec)) keyReadsUptoCard
end Rows
end Go.Proofs.YtnlinmoiakgedaaGreatDoor
