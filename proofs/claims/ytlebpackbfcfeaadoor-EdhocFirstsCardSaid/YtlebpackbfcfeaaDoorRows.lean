/-
  NARROWER THAN 'FOR EVERY INPUT', by the rows' own cells (each row's printed sentence says how): EdhocExts: laid · EdhocFirsts: laid · EdhocSeconds: laid.
  DERIVED. THE GIVEN ROWS OF THIS SEAT. 3 by the template 'for every input the law returns true; each argument reads behind the call as it read before'; 0 by the template 'total and deterministic' (their statements: YtlebpackbfcfeaaDoorTotals.lean).
  GIVEN WITH THE SEED: the statements are not yours to turn. If you find one false, say at which input.
  Laid BY PROGRAM, IN A SANDBOX (cutbox-rows.mjs): the forced cells as the released guide's own fill.sh prints them over the translation 2855cf76c8ba0f35… (all of the seat's roots in one cut). By AI agents, Wed Nov 11 2026. No macro, syntax, notation, axiom, sorry.
-/
import Derived.Test.YtlebpackbfcfeaaDoorChecked
import GoSem.PinnedTables
import GoSem.Claim
import GoSem.ClaimJoined
import GoSem.ClaimMapViews
import Derived.JoinedTies
import Derived.KernelRfl
namespace Go.Proofs.YtlebpackbfcfeaaDoor
/- THE CELL 'sum', in the pinned program and in every row, IS THE sha256 OF THE DUMP (.gsa) THAT YtlebpackbfcfeaaDoorProg.lean LOADS. Nothing in Lean hashes anything: it is a label: what it is worth is what the hold of that sum in a sandbox is worth. -/
noncomputable def Tryd.pinned : Pinned := { name := "ytlebpackbfcfeaadoor", sum := "2855cf76c8ba0f35c701ec21ae04b1a11aaf9b9a6c3ad7674050b597fd8e2e1f", checked := Tryd.checked }
namespace Rows
def none {H : Type} : Left H := { results := [], args := [] }

/- WHAT THE LISTED PACKAGE-LEVEL VARIABLES READ AS WHEN THE CALL BEGINS. Each datum BY PROGRAM (the guide's laid-datum.mjs) off the statement by which the dump's own 'gosem.cut.vars' lays the variable. In a bare row this is a premise. The card (YtlebpackbfcfeaaDoorCards.lean) ties it to the program's text. -/
def laid_unicode_utf8_acceptRanges {H : Type} : DataW H := .agg [.agg [.lit (.int .u8 128), .lit (.int .u8 191)], .agg [.lit (.int .u8 160), .lit (.int .u8 191)], .agg [.lit (.int .u8 128), .lit (.int .u8 159)], .agg [.lit (.int .u8 144), .lit (.int .u8 191)], .agg [.lit (.int .u8 128), .lit (.int .u8 143)], .agg [.lit (.int .u8 0), .lit (.int .u8 0)], .agg [.lit (.int .u8 0), .lit (.int .u8 0)], .agg [.lit (.int .u8 0), .lit (.int .u8 0)], .agg [.lit (.int .u8 0), .lit (.int .u8 0)], .agg [.lit (.int .u8 0), .lit (.int .u8 0)], .agg [.lit (.int .u8 0), .lit (.int .u8 0)], .agg [.lit (.int .u8 0), .lit (.int .u8 0)], .agg [.lit (.int .u8 0), .lit (.int .u8 0)], .agg [.lit (.int .u8 0), .lit (.int .u8 0)], .agg [.lit (.int .u8 0), .lit (.int .u8 0)], .agg [.lit (.int .u8 0), .lit (.int .u8 0)]]
/-- One of Go's own tables, pinned by name: the form's constant. -/
def laid_unicode_utf8_first : DataW Unit := Go.Pinned.utf8First

/-- 'coreseclaw24.EdhocExts': WHATEVER THE INPUT: true; the input reads as it did. -/
def edhocExtsSpec : ChangeSpec := { name := "edhocExts", fn := fun _ => fun
  | [d1, d2, d3, d4, d5] => { results := [.lit (.bool true)], args := [d1, d2, d3, d4, d5] }
  | _ => none }
def edhocExtsRow : OpenClaim := { program := "ytlebpackbfcfeaadoor", sum := "2855cf76c8ba0f35c701ec21ae04b1a11aaf9b9a6c3ad7674050b597fd8e2e1f", func := "coresec/coreseclaw24.EdhocExts", spec := "edhocExts", inPlace := ["math.Float64frombits", "math.Float64bits", "math.Float32frombits", "math.Float32bits", "internal/bytealg.Compare"], recurses := true, named := ["unicode/utf8.first", "unicode/utf8.acceptRanges"], apart := false, laid := [("unicode/utf8.acceptRanges", laid_unicode_utf8_acceptRanges), ("unicode/utf8.first", laid_unicode_utf8_first)] }
def EdhocExtsSaid : Prop := edhocExtsRow.holds Tryd.pinned (OpenSpec.ofChange edhocExtsSpec)

/-- ITS FALSE NEIGHBOUR: 'it returns false'. Refute it at one input. -/
def edhocExtsWrong : ChangeSpec := { name := "edhocExts", fn := fun _ => fun
  | [d1, d2, d3, d4, d5] => { results := [.lit (.bool false)], args := [d1, d2, d3, d4, d5] }
  | _ => none }
def EdhocExtsWrongFalsely : Prop := edhocExtsRow.holds Tryd.pinned (OpenSpec.ofChange edhocExtsWrong)

/-- 'coreseclaw24.EdhocFirsts': WHATEVER THE INPUT: true; the input reads as it did. -/
def edhocFirstsSpec : ChangeSpec := { name := "edhocFirsts", fn := fun _ => fun
  | [d1, d2, d3, d4, d5] => { results := [.lit (.bool true)], args := [d1, d2, d3, d4, d5] }
  | _ => none }
def edhocFirstsRow : OpenClaim := { program := "ytlebpackbfcfeaadoor", sum := "2855cf76c8ba0f35c701ec21ae04b1a11aaf9b9a6c3ad7674050b597fd8e2e1f", func := "coresec/coreseclaw24.EdhocFirsts", spec := "edhocFirsts", inPlace := ["math.Float64frombits", "math.Float64bits", "math.Float32frombits", "math.Float32bits", "internal/bytealg.Compare"], recurses := true, named := ["unicode/utf8.first", "unicode/utf8.acceptRanges"], apart := false, laid := [("unicode/utf8.acceptRanges", laid_unicode_utf8_acceptRanges), ("unicode/utf8.first", laid_unicode_utf8_first)] }
def EdhocFirstsSaid : Prop := edhocFirstsRow.holds Tryd.pinned (OpenSpec.ofChange edhocFirstsSpec)

/-- ITS FALSE NEIGHBOUR: 'it returns false'. Refute it at one input. -/
def edhocFirstsWrong : ChangeSpec := { name := "edhocFirsts", fn := fun _ => fun
  | [d1, d2, d3, d4, d5] => { results := [.lit (.bool false)], args := [d1, d2, d3, d4, d5] }
  | _ => none }
def EdhocFirstsWrongFalsely : Prop := edhocFirstsRow.holds Tryd.pinned (OpenSpec.ofChange edhocFirstsWrong)

/-- 'coreseclaw24.EdhocSeconds': WHATEVER THE INPUT: true; the input reads as it did. -/
def edhocSecondsSpec : ChangeSpec := { name := "edhocSeconds", fn := fun _ => fun
  | [d1, d2, d3, d4, d5, d6] => { results := [.lit (.bool true)], args := [d1, d2, d3, d4, d5, d6] }
  | _ => none }
def edhocSecondsRow : OpenClaim := { program := "ytlebpackbfcfeaadoor", sum := "2855cf76c8ba0f35c701ec21ae04b1a11aaf9b9a6c3ad7674050b597fd8e2e1f", func := "coresec/coreseclaw24.EdhocSeconds", spec := "edhocSeconds", inPlace := ["math.Float64frombits", "math.Float64bits", "math.Float32frombits", "math.Float32bits", "internal/bytealg.Compare"], recurses := true, named := ["unicode/utf8.first", "unicode/utf8.acceptRanges"], apart := false, laid := [("unicode/utf8.acceptRanges", laid_unicode_utf8_acceptRanges), ("unicode/utf8.first", laid_unicode_utf8_first)] }
def EdhocSecondsSaid : Prop := edhocSecondsRow.holds Tryd.pinned (OpenSpec.ofChange edhocSecondsSpec)

/-- ITS FALSE NEIGHBOUR: 'it returns false'. Refute it at one input. -/
def edhocSecondsWrong : ChangeSpec := { name := "edhocSeconds", fn := fun _ => fun
  | [d1, d2, d3, d4, d5, d6] => { results := [.lit (.bool false)], args := [d1, d2, d3, d4, d5, d6] }
  | _ => none }
def EdhocSecondsWrongFalsely : Prop := edhocSecondsRow.holds Tryd.pinned (OpenSpec.ofChange edhocSecondsWrong)

/- THE SECOND FORM. 'bulk': how many values and letters a reading holds, each counted each time it is reached (what is shared counts as often as it is met; a slice's spare places count too). A statement '..UptoSaid' is the law's where the arguments, and the package variables that the reading takes, are together of bulk at most 1048576: NARROWER than '..Said'. Prove '..Said' where nothing that the law and all that it calls make is longer than what came in: it says more and counts as full. Else prove '..UptoSaid'. A law counts once. -/
mutual
def uptoBulk {H : Type} : DataW H → Nat
  | .lit (.string bytes) => bytes.length + 1
  | .lit _ => 1
  | .nil => 1
  | .ptr d => uptoBulk d + 1
  | .slice elems spare => uptoBulkAll elems + uptoBulkAll spare + 1
  | .agg parts => uptoBulkAll parts + 1
  | .iface _ d => uptoBulk d + 1
  | .map entries => uptoBulkEntries entries + 1
  | .held _ => 1
def uptoBulkAll {H : Type} : List (DataW H) → Nat
  | [] => 0
  | d :: r => uptoBulk d + uptoBulkAll r
def uptoBulkEntries {H : Type} : List (Lit × DataW H) → Nat
  | [] => 0
  | x :: r => uptoBulkEntry x + uptoBulkEntries r
def uptoBulkEntry {H : Type} : Lit × DataW H → Nat
  | (.string bytes, d) => bytes.length + uptoBulk d + 1
  | (_, d) => uptoBulk d + 1
 end
def uptoSmall : (H : Type) → List (DataW H) → Bool := fun _ ds => decide (uptoBulkAll ds ≤ 1048576)
def OpenSpec.upto (s : _root_.Go.ChangeSpec) : _root_.Go.OpenSpec := { _root_.Go.OpenSpec.ofChange s with cond := some uptoSmall }

/-- 'coreseclaw24.EdhocExts', WHERE WHAT IT READS IS OF BULK AT MOST 1048576: true; the input reads as it did. -/
def edhocExtsUptoRow : OpenClaim := { program := "ytlebpackbfcfeaadoor", sum := "2855cf76c8ba0f35c701ec21ae04b1a11aaf9b9a6c3ad7674050b597fd8e2e1f", func := "coresec/coreseclaw24.EdhocExts", spec := "edhocExts", inPlace := ["math.Float64frombits", "math.Float64bits", "math.Float32frombits", "math.Float32bits", "internal/bytealg.Compare"], recurses := true, named := ["unicode/utf8.first", "unicode/utf8.acceptRanges"], apart := false, laid := [("unicode/utf8.acceptRanges", laid_unicode_utf8_acceptRanges), ("unicode/utf8.first", laid_unicode_utf8_first)], narrowed := true }
def EdhocExtsUptoSaid : Prop := edhocExtsUptoRow.holds Tryd.pinned (OpenSpec.upto edhocExtsSpec)

/-- 'coreseclaw24.EdhocFirsts', WHERE WHAT IT READS IS OF BULK AT MOST 1048576: true; the input reads as it did. -/
def edhocFirstsUptoRow : OpenClaim := { program := "ytlebpackbfcfeaadoor", sum := "2855cf76c8ba0f35c701ec21ae04b1a11aaf9b9a6c3ad7674050b597fd8e2e1f", func := "coresec/coreseclaw24.EdhocFirsts", spec := "edhocFirsts", inPlace := ["math.Float64frombits", "math.Float64bits", "math.Float32frombits", "math.Float32bits", "internal/bytealg.Compare"], recurses := true, named := ["unicode/utf8.first", "unicode/utf8.acceptRanges"], apart := false, laid := [("unicode/utf8.acceptRanges", laid_unicode_utf8_acceptRanges), ("unicode/utf8.first", laid_unicode_utf8_first)], narrowed := true }
def EdhocFirstsUptoSaid : Prop := edhocFirstsUptoRow.holds Tryd.pinned (OpenSpec.upto edhocFirstsSpec)

/-- 'coreseclaw24.EdhocSeconds', WHERE WHAT IT READS IS OF BULK AT MOST 1048576: true; the input reads as it did. -/
def edhocSecondsUptoRow : OpenClaim := { program := "ytlebpackbfcfeaadoor", sum := "2855cf76c8ba0f35c701ec21ae04b1a11aaf9b9a6c3ad7674050b597fd8e2e1f", func := "coresec/coreseclaw24.EdhocSeconds", spec := "edhocSeconds", inPlace := ["math.Float64frombits", "math.Float64bits", "math.Float32frombits", "math.Float32bits", "internal/bytealg.Compare"], recurses := true, named := ["unicode/utf8.first", "unicode/utf8.acceptRanges"], apart := false, laid := [("unicode/utf8.acceptRanges", laid_unicode_utf8_acceptRanges), ("unicode/utf8.first", laid_unicode_utf8_first)], narrowed := true }
def EdhocSecondsUptoSaid : Prop := edhocSecondsUptoRow.holds Tryd.pinned (OpenSpec.upto edhocSecondsSpec)

end Rows
end Go.Proofs.YtlebpackbfcfeaaDoor
