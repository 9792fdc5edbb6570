/-
  DERIVED. GIVEN WITH THE SEED: THE CARDS: each row of YtdbhgngikglmcaaDoorRows.lean that lists a variable, with what it lists TIED to the program's text (the seventh form; the later family's looks); each row that meets fmt, with fmt's text TOLD by the authors' own Lean function (tested against real Go, not proved from fmt's source: count such statements apart). THE CARD IS WHAT COUNTS. Prove the row's statement (the work); the ties are given (YtdbhgngikglmcaaDoorTie.lean); close each card by the builder's one call (the guide's Derived/Test/ToyasCard.lean, 'card_holds'). Laid BY PROGRAM, IN A SANDBOX (cutbox-door.mjs). By AI agents, Wed Nov 11 2026. No macro, syntax, notation, axiom, sorry.
-/
import Derived.Test.YtdbhgngikglmcaaDoorRows
import GoSem.ClaimSeven
namespace Go.Proofs.YtdbhgngikglmcaaDoor
namespace Rows

/-- THE TIED CARD OF 'coreseclaw13.EnvelopeInputs'. -/
def envelopeInputsCard : Claim7 := { stood := { row := envelopeInputsRow, standIns := [], harness := (true, "364c3a55149bd97e80e59a68ffa90977203b412d020a75b7539bb69eddb032d5"), looks := false }, kinds := [], alts := [], laidByText := true, laidKinds := [.data, .pinned], laidTests := true, laidLooks := .later }
def EnvelopeInputsCardSaid : Prop := Claim7.holds Tryd.pinned (.plain (OpenSpec.ofChange envelopeInputsSpec)) envelopeInputsCard

/-- THE TIED CARD OF 'coreseclaw13.EnvelopeDistinct'. -/
def envelopeDistinctCard : Claim7 := { stood := { row := envelopeDistinctRow, standIns := [], harness := (true, "364c3a55149bd97e80e59a68ffa90977203b412d020a75b7539bb69eddb032d5"), looks := false }, kinds := [], alts := [], laidByText := true, laidKinds := [.data, .pinned], laidTests := true, laidLooks := .later }
def EnvelopeDistinctCardSaid : Prop := Claim7.holds Tryd.pinned (.plain (OpenSpec.ofChange envelopeDistinctSpec)) envelopeDistinctCard

/-- THE SECOND FORM's CARD OF 'coreseclaw13.EnvelopeInputs'. -/
def envelopeInputsUptoCard : Claim7 := { stood := { row := envelopeInputsUptoRow, standIns := [], harness := (true, "364c3a55149bd97e80e59a68ffa90977203b412d020a75b7539bb69eddb032d5"), looks := false }, kinds := [], alts := [], laidByText := true, laidKinds := [.data, .pinned], laidTests := true, laidLooks := .later }
def EnvelopeInputsUptoCardSaid : Prop := Claim7.holds Tryd.pinned (.plain (OpenSpec.upto envelopeInputsSpec)) envelopeInputsUptoCard

/-- THE SECOND FORM's CARD OF 'coreseclaw13.EnvelopeDistinct'. -/
def envelopeDistinctUptoCard : Claim7 := { stood := { row := envelopeDistinctUptoRow, standIns := [], harness := (true, "364c3a55149bd97e80e59a68ffa90977203b412d020a75b7539bb69eddb032d5"), looks := false }, kinds := [], alts := [], laidByText := true, laidKinds := [.data, .pinned], laidTests := true, laidLooks := .later }
def EnvelopeDistinctUptoCardSaid : Prop := Claim7.holds Tryd.pinned (.plain (OpenSpec.upto envelopeDistinctSpec)) envelopeDistinctUptoCard
end Rows
end Go.Proofs.YtdbhgngikglmcaaDoor
