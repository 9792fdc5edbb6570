/-
  DERIVED. GIVEN WITH THE SEED: THE CARDS: each row of YtlebpackbfcfeaaDoorRows.lean that lists a variable, with what it lists TIED to the program's text (the seventh form; the later family's looks); each row that meets fmt, with fmt's text TOLD by the authors' own Lean function (tested against real Go, not proved from fmt's source: count such statements apart). THE CARD IS WHAT COUNTS. Prove the row's statement (the work); the ties are given (YtlebpackbfcfeaaDoorTie.lean); close each card by the builder's one call (the guide's Derived/Test/ToyasCard.lean, 'card_holds'). Laid BY PROGRAM, IN A SANDBOX (cutbox-door.mjs). By AI agents, Wed Nov 11 2026. No macro, syntax, notation, axiom, sorry.
-/
import Derived.Test.YtlebpackbfcfeaaDoorRows
import GoSem.ClaimSeven
namespace Go.Proofs.YtlebpackbfcfeaaDoor
namespace Rows

/-- THE TIED CARD OF 'coreseclaw24.EdhocExts'. -/
def edhocExtsCard : Claim7 := { stood := { row := edhocExtsRow, standIns := [], harness := (true, "990f16720a4646aa0c50e4baef2ae3aa17bf4aefa86f81ba6777401da21f3e4b"), looks := false }, kinds := [], alts := [], laidByText := true, laidKinds := [.data, .pinned], laidTests := true, laidLooks := .later }
def EdhocExtsCardSaid : Prop := Claim7.holds Tryd.pinned (.plain (OpenSpec.ofChange edhocExtsSpec)) edhocExtsCard

/-- THE TIED CARD OF 'coreseclaw24.EdhocFirsts'. -/
def edhocFirstsCard : Claim7 := { stood := { row := edhocFirstsRow, standIns := [], harness := (true, "990f16720a4646aa0c50e4baef2ae3aa17bf4aefa86f81ba6777401da21f3e4b"), looks := false }, kinds := [], alts := [], laidByText := true, laidKinds := [.data, .pinned], laidTests := true, laidLooks := .later }
def EdhocFirstsCardSaid : Prop := Claim7.holds Tryd.pinned (.plain (OpenSpec.ofChange edhocFirstsSpec)) edhocFirstsCard

/-- THE TIED CARD OF 'coreseclaw24.EdhocSeconds'. -/
def edhocSecondsCard : Claim7 := { stood := { row := edhocSecondsRow, standIns := [], harness := (true, "990f16720a4646aa0c50e4baef2ae3aa17bf4aefa86f81ba6777401da21f3e4b"), looks := false }, kinds := [], alts := [], laidByText := true, laidKinds := [.data, .pinned], laidTests := true, laidLooks := .later }
def EdhocSecondsCardSaid : Prop := Claim7.holds Tryd.pinned (.plain (OpenSpec.ofChange edhocSecondsSpec)) edhocSecondsCard

/-- THE SECOND FORM's CARD OF 'coreseclaw24.EdhocExts'. -/
def edhocExtsUptoCard : Claim7 := { stood := { row := edhocExtsUptoRow, standIns := [], harness := (true, "990f16720a4646aa0c50e4baef2ae3aa17bf4aefa86f81ba6777401da21f3e4b"), looks := false }, kinds := [], alts := [], laidByText := true, laidKinds := [.data, .pinned], laidTests := true, laidLooks := .later }
def EdhocExtsUptoCardSaid : Prop := Claim7.holds Tryd.pinned (.plain (OpenSpec.upto edhocExtsSpec)) edhocExtsUptoCard

/-- THE SECOND FORM's CARD OF 'coreseclaw24.EdhocFirsts'. -/
def edhocFirstsUptoCard : Claim7 := { stood := { row := edhocFirstsUptoRow, standIns := [], harness := (true, "990f16720a4646aa0c50e4baef2ae3aa17bf4aefa86f81ba6777401da21f3e4b"), looks := false }, kinds := [], alts := [], laidByText := true, laidKinds := [.data, .pinned], laidTests := true, laidLooks := .later }
def EdhocFirstsUptoCardSaid : Prop := Claim7.holds Tryd.pinned (.plain (OpenSpec.upto edhocFirstsSpec)) edhocFirstsUptoCard

/-- THE SECOND FORM's CARD OF 'coreseclaw24.EdhocSeconds'. -/
def edhocSecondsUptoCard : Claim7 := { stood := { row := edhocSecondsUptoRow, standIns := [], harness := (true, "990f16720a4646aa0c50e4baef2ae3aa17bf4aefa86f81ba6777401da21f3e4b"), looks := false }, kinds := [], alts := [], laidByText := true, laidKinds := [.data, .pinned], laidTests := true, laidLooks := .later }
def EdhocSecondsUptoCardSaid : Prop := Claim7.holds Tryd.pinned (.plain (OpenSpec.upto edhocSecondsSpec)) edhocSecondsUptoCard
end Rows
end Go.Proofs.YtlebpackbfcfeaaDoor
