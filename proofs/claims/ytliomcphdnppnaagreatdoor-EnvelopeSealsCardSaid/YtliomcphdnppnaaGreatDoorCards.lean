/-
  DERIVED. GIVEN WITH THE SEED: THE CARDS: each row of YtliomcphdnppnaaGreatDoorRows.lean that lists a variable, with what it lists TIED to the program's text (the seventh form; the later family's looks); each row that meets fmt, with fmt's text TOLD by the authors' own Lean function (tested against real Go, not proved from fmt's source: count such statements apart). THE CARD IS WHAT COUNTS. Prove the row's statement (the work); the ties are given (YtliomcphdnppnaaGreatDoorTie.lean); close each card by the builder's one call (the guide's Derived/Test/ToyasCard.lean, 'card_holds'). Laid BY PROGRAM, IN A SANDBOX (cutbox-door.mjs). By AI agents, Wed Nov 11 2026. No macro, syntax, notation, axiom, sorry.
-/
import Derived.Test.YtliomcphdnppnaaGreatDoorRows
import GoSem.ClaimSeven
namespace Go.Proofs.YtliomcphdnppnaaGreatDoor
namespace Rows

/-- THE TIED CARD OF 'coreseclaw13.EnvelopeSeals'. -/
def envelopeSealsCard : Claim7 := { stood := { row := envelopeSealsRow, standIns := [], harness := (true, "bc5275eec4cea47ffad954819437900b76acbbd2a4b597b85da1ac0a5ecd310e"), looks := false }, kinds := [], alts := [], laidByText := true, laidKinds := [.data, .pinned], laidTests := true, laidLooks := .later }
def EnvelopeSealsCardSaid : Prop := Claim7.holds Tryz.pinned (.plain (OpenSpec.ofChange envelopeSealsSpec)) envelopeSealsCard

/-- THE TIED CARD OF 'coreseclaw13.EnvelopeLayers'. -/
def envelopeLayersCard : Claim7 := { stood := { row := envelopeLayersRow, standIns := [], harness := (true, "bc5275eec4cea47ffad954819437900b76acbbd2a4b597b85da1ac0a5ecd310e"), looks := false }, kinds := [], alts := [], laidByText := true, laidKinds := [.data, .pinned], laidTests := true, laidLooks := .later }
def EnvelopeLayersCardSaid : Prop := Claim7.holds Tryz.pinned (.plain (OpenSpec.ofChange envelopeLayersSpec)) envelopeLayersCard

/-- THE TIED CARD OF 'coreseclaw13.EnvelopeBack'. -/
def envelopeBackCard : Claim7 := { stood := { row := envelopeBackRow, standIns := [], harness := (true, "bc5275eec4cea47ffad954819437900b76acbbd2a4b597b85da1ac0a5ecd310e"), looks := false }, kinds := [], alts := [], laidByText := true, laidKinds := [.data, .pinned], laidTests := true, laidLooks := .later }
def EnvelopeBackCardSaid : Prop := Claim7.holds Tryz.pinned (.plain (OpenSpec.ofChange envelopeBackSpec)) envelopeBackCard

/-- THE SECOND FORM's CARD OF 'coreseclaw13.EnvelopeSeals'. -/
def envelopeSealsUptoCard : Claim7 := { stood := { row := envelopeSealsUptoRow, standIns := [], harness := (true, "bc5275eec4cea47ffad954819437900b76acbbd2a4b597b85da1ac0a5ecd310e"), looks := false }, kinds := [], alts := [], laidByText := true, laidKinds := [.data, .pinned], laidTests := true, laidLooks := .later }
def EnvelopeSealsUptoCardSaid : Prop := Claim7.holds Tryz.pinned (.plain (OpenSpec.upto envelopeSealsSpec)) envelopeSealsUptoCard

/-- THE SECOND FORM's CARD OF 'coreseclaw13.EnvelopeLayers'. -/
def envelopeLayersUptoCard : Claim7 := { stood := { row := envelopeLayersUptoRow, standIns := [], harness := (true, "bc5275eec4cea47ffad954819437900b76acbbd2a4b597b85da1ac0a5ecd310e"), looks := false }, kinds := [], alts := [], laidByText := true, laidKinds := [.data, .pinned], laidTests := true, laidLooks := .later }
def EnvelopeLayersUptoCardSaid : Prop := Claim7.holds Tryz.pinned (.plain (OpenSpec.upto envelopeLayersSpec)) envelopeLayersUptoCard

/-- THE SECOND FORM's CARD OF 'coreseclaw13.EnvelopeBack'. -/
def envelopeBackUptoCard : Claim7 := { stood := { row := envelopeBackUptoRow, standIns := [], harness := (true, "bc5275eec4cea47ffad954819437900b76acbbd2a4b597b85da1ac0a5ecd310e"), looks := false }, kinds := [], alts := [], laidByText := true, laidKinds := [.data, .pinned], laidTests := true, laidLooks := .later }
def EnvelopeBackUptoCardSaid : Prop := Claim7.holds Tryz.pinned (.plain (OpenSpec.upto envelopeBackSpec)) envelopeBackUptoCard
end Rows
end Go.Proofs.YtliomcphdnppnaaGreatDoor
