/-
  NARROWER THAN 'FOR EVERY INPUT', by the rows' own cells (each row's printed sentence says how): EdhocSeals: laid · EdhocPlains: laid · EdhocBack: laid.
  DERIVED. THE GIVEN ROWS OF THIS SEAT. 3 by the template 'for every input the law returns true; each argument reads behind the call as it read before'; 0 by the template 'total and deterministic' (their statements: YtkmlnjociijpgaaGreatDoorTotals.lean).
  GIVEN WITH THE SEED: the statements are not yours to turn. If you find one false, say at which input.
  Laid BY PROGRAM, IN A SANDBOX (cutbox-rows.mjs): the forced cells as the released guide's own fill.sh prints them over the translation 73076bee2c6e75e3… (all of the seat's roots in one cut). By AI agents, Wed Nov 11 2026. No macro, syntax, notation, axiom, sorry.
-/
import Derived.Test.YtkmlnjociijpgaaGreatDoorChecked
import GoSem.PinnedTables
import GoSem.Claim
import GoSem.ClaimJoined
import GoSem.ClaimMapViews
import Derived.JoinedTies
import Derived.KernelRfl
namespace Go.Proofs.YtkmlnjociijpgaaGreatDoor
/- THE CELL 'sum', in the pinned program and in every row, IS THE sha256 OF THE DUMP (.gsa) THAT YtkmlnjociijpgaaGreatDoorProg.lean LOADS. Nothing in Lean hashes anything: it is a label: what it is worth is what the hold of that sum in a sandbox is worth. -/
noncomputable def Tryz.pinned : Pinned := { name := "ytkmlnjociijpgaagreatdoor", sum := "73076bee2c6e75e31fa2ddfcc094d06e6ac22c8b1c2cd95541208c6cf44fe49d", checked := Tryz.checked }
namespace Rows
def none {H : Type} : Left H := { results := [], args := [] }

/- WHAT THE LISTED PACKAGE-LEVEL VARIABLES READ AS WHEN THE CALL BEGINS. Each datum BY PROGRAM (the guide's laid-datum.mjs) off the statement by which the dump's own 'gosem.cut.vars' lays the variable. In a bare row this is a premise. The card (YtkmlnjociijpgaaGreatDoorCards.lean) ties it to the program's text. -/
def laid_unicode_utf8_acceptRanges {H : Type} : DataW H := .agg [.agg [.lit (.int .u8 128), .lit (.int .u8 191)], .agg [.lit (.int .u8 160), .lit (.int .u8 191)], .agg [.lit (.int .u8 128), .lit (.int .u8 159)], .agg [.lit (.int .u8 144), .lit (.int .u8 191)], .agg [.lit (.int .u8 128), .lit (.int .u8 143)], .agg [.lit (.int .u8 0), .lit (.int .u8 0)], .agg [.lit (.int .u8 0), .lit (.int .u8 0)], .agg [.lit (.int .u8 0), .lit (.int .u8 0)], .agg [.lit (.int .u8 0), .lit (.int .u8 0)], .agg [.lit (.int .u8 0), .lit (.int .u8 0)], .agg [.lit (.int .u8 0), .lit (.int .u8 0)], .agg [.lit (.int .u8 0), .lit (.int .u8 0)], .agg [.lit (.int .u8 0), .lit (.int .u8 0)], .agg [.lit (.int .u8 0), .lit (.int .u8 0)], .agg [.lit (.int .u8 0), .lit (.int .u8 0)], .agg [.lit (.int .u8 0), .lit (.int .u8 0)]]
/-- One of Go's own tables, pinned by name: the form's constant. -/
def laid_unicode_utf8_first : DataW Unit := Go.Pinned.utf8First

/-- 'coreseclaw24.EdhocSeals': WHATEVER THE INPUT: true; the input reads as it did. -/
def edhocSealsSpec : ChangeSpec := { name := "edhocSeals", fn := fun _ => fun
  | [d1, d2, d3, d4, d5, d6, d7, d8, d9] => { results := [.lit (.bool true)], args := [d1, d2, d3, d4, d5, d6, d7, d8, d9] }
  | _ => none }
def edhocSealsRow : OpenClaim := { program := "ytkmlnjociijpgaagreatdoor", sum := "73076bee2c6e75e31fa2ddfcc094d06e6ac22c8b1c2cd95541208c6cf44fe49d", func := "coresec/coreseclaw24.EdhocSeals", spec := "edhocSeals", inPlace := ["math.Float64frombits", "math.Float64bits", "math.Float32frombits", "math.Float32bits", "internal/bytealg.Compare", "math.sqrt", "math.archFloor", "math.archTrunc", "math/bits.Add64", "math/bits.Sub64"], unfollowed := true, recurses := true, named := ["unicode/utf8.first", "unicode/utf8.acceptRanges"], apart := false, laid := [("unicode/utf8.acceptRanges", laid_unicode_utf8_acceptRanges), ("unicode/utf8.first", laid_unicode_utf8_first)] }
def EdhocSealsSaid : Prop := edhocSealsRow.holds Tryz.pinned (OpenSpec.ofChange edhocSealsSpec)

/-- ITS FALSE NEIGHBOUR: 'it returns false'. Refute it at one input. -/
def edhocSealsWrong : ChangeSpec := { name := "edhocSeals", fn := fun _ => fun
  | [d1, d2, d3, d4, d5, d6, d7, d8, d9] => { results := [.lit (.bool false)], args := [d1, d2, d3, d4, d5, d6, d7, d8, d9] }
  | _ => none }
def EdhocSealsWrongFalsely : Prop := edhocSealsRow.holds Tryz.pinned (OpenSpec.ofChange edhocSealsWrong)

/-- 'coreseclaw24.EdhocPlains': WHATEVER THE INPUT: true; the input reads as it did. -/
def edhocPlainsSpec : ChangeSpec := { name := "edhocPlains", fn := fun _ => fun
  | [d1, d2, d3, d4, d5, d6, d7] => { results := [.lit (.bool true)], args := [d1, d2, d3, d4, d5, d6, d7] }
  | _ => none }
def edhocPlainsRow : OpenClaim := { program := "ytkmlnjociijpgaagreatdoor", sum := "73076bee2c6e75e31fa2ddfcc094d06e6ac22c8b1c2cd95541208c6cf44fe49d", func := "coresec/coreseclaw24.EdhocPlains", spec := "edhocPlains", inPlace := ["math.Float64frombits", "math.Float64bits", "math.Float32frombits", "math.Float32bits", "internal/bytealg.Compare", "internal/reflectlite.ValueOf", "internal/reflectlite.Swapper", "(internal/reflectlite.Value).Len"], unfollowed := true, recurses := true, named := ["unicode/utf8.first", "unicode/utf8.acceptRanges"], apart := false, laid := [("unicode/utf8.acceptRanges", laid_unicode_utf8_acceptRanges), ("unicode/utf8.first", laid_unicode_utf8_first)] }
def EdhocPlainsSaid : Prop := edhocPlainsRow.holds Tryz.pinned (OpenSpec.ofChange edhocPlainsSpec)

/-- ITS FALSE NEIGHBOUR: 'it returns false'. Refute it at one input. -/
def edhocPlainsWrong : ChangeSpec := { name := "edhocPlains", fn := fun _ => fun
  | [d1, d2, d3, d4, d5, d6, d7] => { results := [.lit (.bool false)], args := [d1, d2, d3, d4, d5, d6, d7] }
  | _ => none }
def EdhocPlainsWrongFalsely : Prop := edhocPlainsRow.holds Tryz.pinned (OpenSpec.ofChange edhocPlainsWrong)

/-- 'coreseclaw24.EdhocBack': WHATEVER THE INPUT: true; the input reads as it did. -/
def edhocBackSpec : ChangeSpec := { name := "edhocBack", fn := fun _ => fun
  | [d1, d2, d3, d4] => { results := [.lit (.bool true)], args := [d1, d2, d3, d4] }
  | _ => none }
def edhocBackRow : OpenClaim := { program := "ytkmlnjociijpgaagreatdoor", sum := "73076bee2c6e75e31fa2ddfcc094d06e6ac22c8b1c2cd95541208c6cf44fe49d", func := "coresec/coreseclaw24.EdhocBack", spec := "edhocBack", inPlace := ["math.Float64frombits", "math.Float64bits", "math.Float32frombits", "math.Float32bits", "internal/bytealg.Compare", "internal/reflectlite.ValueOf", "internal/reflectlite.Swapper", "(internal/reflectlite.Value).Len"], unfollowed := true, recurses := true, named := ["unicode/utf8.first", "unicode/utf8.acceptRanges"], apart := false, laid := [("unicode/utf8.acceptRanges", laid_unicode_utf8_acceptRanges), ("unicode/utf8.first", laid_unicode_utf8_first)] }
def EdhocBackSaid : Prop := edhocBackRow.holds Tryz.pinned (OpenSpec.ofChange edhocBackSpec)

/-- ITS FALSE NEIGHBOUR: 'it returns false'. Refute it at one input. -/
def edhocBackWrong : ChangeSpec := { name := "edhocBack", fn := fun _ => fun
  | [d1, d2, d3, d4] => { results := [.lit (.bool false)], args := [d1, d2, d3, d4] }
  | _ => none }
def EdhocBackWrongFalsely : Prop := edhocBackRow.holds Tryz.pinned (OpenSpec.ofChange edhocBackWrong)

/- THE SECOND FORM. 'bulk': how many values and letters a reading holds, each counted each time it is reached (what is shared counts as often as it is met; a slice's spare places count too). A statement '..UptoSaid' is the law's where the arguments, and the package variables that the reading takes, are together of bulk at most 1048576: NARROWER than '..Said'. Prove '..Said' where nothing that the law and all that it calls make is longer than what came in: it says more and counts as full. Else prove '..UptoSaid'. A law counts once. -/
mutual
def uptoBulk {H : Type} : DataW H → Nat
  | .lit (.string bytes) => bytes.length + 1
  | .lit _ => 1
  | .nil => 1
  | .ptr d => uptoBulk d + 1
  | .slice elems spare => uptoBulkAll elems + uptoBulkAll spare + 1
  | .agg parts => uptoBulkAll parts + 1
  | .iface _ d => uptoBulk d + 1
  | .map entries => uptoBulkEntries entries + 1
  | .held _ => 1
def uptoBulkAll {H : Type} : List (DataW H) → Nat
  | [] => 0
  | d :: r => uptoBulk d + uptoBulkAll r
def uptoBulkEntries {H : Type} : List (Lit × DataW H) → Nat
  | [] => 0
  | x :: r => uptoBulkEntry x + uptoBulkEntries r
def uptoBulkEntry {H : Type} : Lit × DataW H → Nat
  | (.string bytes, d) => bytes.length + uptoBulk d + 1
  | (_, d) => uptoBulk d + 1
 end
def uptoSmall : (H : Type) → List (DataW H) → Bool := fun _ ds => decide (uptoBulkAll ds ≤ 1048576)
def OpenSpec.upto (s : _root_.Go.ChangeSpec) : _root_.Go.OpenSpec := { _root_.Go.OpenSpec.ofChange s with cond := some uptoSmall }

/-- 'coreseclaw24.EdhocSeals', WHERE WHAT IT READS IS OF BULK AT MOST 1048576: true; the input reads as it did. -/
def edhocSealsUptoRow : OpenClaim := { program := "ytkmlnjociijpgaagreatdoor", sum := "73076bee2c6e75e31fa2ddfcc094d06e6ac22c8b1c2cd95541208c6cf44fe49d", func := "coresec/coreseclaw24.EdhocSeals", spec := "edhocSeals", inPlace := ["math.Float64frombits", "math.Float64bits", "math.Float32frombits", "math.Float32bits", "internal/bytealg.Compare", "math.sqrt", "math.archFloor", "math.archTrunc", "math/bits.Add64", "math/bits.Sub64"], unfollowed := true, recurses := true, named := ["unicode/utf8.first", "unicode/utf8.acceptRanges"], apart := false, laid := [("unicode/utf8.acceptRanges", laid_unicode_utf8_acceptRanges), ("unicode/utf8.first", laid_unicode_utf8_first)], narrowed := true }
def EdhocSealsUptoSaid : Prop := edhocSealsUptoRow.holds Tryz.pinned (OpenSpec.upto edhocSealsSpec)

/-- 'coreseclaw24.EdhocPlains', WHERE WHAT IT READS IS OF BULK AT MOST 1048576: true; the input reads as it did. -/
def edhocPlainsUptoRow : OpenClaim := { program := "ytkmlnjociijpgaagreatdoor", sum := "73076bee2c6e75e31fa2ddfcc094d06e6ac22c8b1c2cd95541208c6cf44fe49d", func := "coresec/coreseclaw24.EdhocPlains", spec := "edhocPlains", inPlace := ["math.Float64frombits", "math.Float64bits", "math.Float32frombits", "math.Float32bits", "internal/bytealg.Compare", "internal/reflectlite.ValueOf", "internal/reflectlite.Swapper", "(internal/reflectlite.Value).Len"], unfollowed := true, recurses := true, named := ["unicode/utf8.first", "unicode/utf8.acceptRanges"], apart := false, laid := [("unicode/utf8.acceptRanges", laid_unicode_utf8_acceptRanges), ("unicode/utf8.first", laid_unicode_utf8_first)], narrowed := true }
def EdhocPlainsUptoSaid : Prop := edhocPlainsUptoRow.holds Tryz.pinned (OpenSpec.upto edhocPlainsSpec)

/-- 'coreseclaw24.EdhocBack', WHERE WHAT IT READS IS OF BULK AT MOST 1048576: true; the input reads as it did. -/
def edhocBackUptoRow : OpenClaim := { program := "ytkmlnjociijpgaagreatdoor", sum := "73076bee2c6e75e31fa2ddfcc094d06e6ac22c8b1c2cd95541208c6cf44fe49d", func := "coresec/coreseclaw24.EdhocBack", spec := "edhocBack", inPlace := ["math.Float64frombits", "math.Float64bits", "math.Float32frombits", "math.Float32bits", "internal/bytealg.Compare", "internal/reflectlite.ValueOf", "internal/reflectlite.Swapper", "(internal/reflectlite.Value).Len"], unfollowed := true, recurses := true, named := ["unicode/utf8.first", "unicode/utf8.acceptRanges"], apart := false, laid := [("unicode/utf8.acceptRanges", laid_unicode_utf8_acceptRanges), ("unicode/utf8.first", laid_unicode_utf8_first)], narrowed := true }
def EdhocBackUptoSaid : Prop := edhocBackUptoRow.holds Tryz.pinned (OpenSpec.upto edhocBackSpec)

end Rows
end Go.Proofs.YtkmlnjociijpgaaGreatDoor
