/-
  NARROWER THAN 'FOR EVERY INPUT', by the rows' own cells (each row's printed sentence says how): AnnotateOrigins: laid · AnnotateSteps: laid · LinelogChain: laid.
  DERIVED. THE GIVEN ROWS OF THIS SEAT. 3 by the template 'for every input the law returns true; each argument reads behind the call as it read before'; 0 by the template 'total and deterministic' (their statements: YtajdcggoplppdaaDoorTotals.lean).
  GIVEN WITH THE SEED: the statements are not yours to turn. If you find one false, say at which input.
  Laid BY PROGRAM, IN A SANDBOX (cutbox-rows.mjs): the forced cells as the released guide's own fill.sh prints them over the translation 852d7f4cc291353a… (all of the seat's roots in one cut). By AI agents, Wed Nov 11 2026. No macro, syntax, notation, axiom, sorry.
-/
import Derived.Test.YtajdcggoplppdaaDoorChecked
import GoSem.PinnedTables
import GoSem.Claim
import GoSem.ClaimJoined
import GoSem.ClaimMapViews
import Derived.JoinedTies
import Derived.KernelRfl
namespace Go.Proofs.YtajdcggoplppdaaDoor
/- THE CELL 'sum', in the pinned program and in every row, IS THE sha256 OF THE DUMP (.gsa) THAT YtajdcggoplppdaaDoorProg.lean LOADS. Nothing in Lean hashes anything: it is a label: what it is worth is what the hold of that sum in a sandbox is worth. -/
noncomputable def Tryd.pinned : Pinned := { name := "ytajdcggoplppdaadoor", sum := "852d7f4cc291353ab510d3bf1a690ab5adf552bfaa7afd75dec2e2052b82a4a2", checked := Tryd.checked }
namespace Rows
def none {H : Type} : Left H := { results := [], args := [] }

/- WHAT THE LISTED PACKAGE-LEVEL VARIABLES READ AS WHEN THE CALL BEGINS. Each datum BY PROGRAM (the guide's laid-datum.mjs) off the statement by which the dump's own 'gosem.cut.vars' lays the variable. In a bare row this is a premise. The card (YtajdcggoplppdaaDoorCards.lean) ties it to the program's text. -/
def laid_unicode_utf8_acceptRanges {H : Type} : DataW H := .agg [.agg [.lit (.int .u8 128), .lit (.int .u8 191)], .agg [.lit (.int .u8 160), .lit (.int .u8 191)], .agg [.lit (.int .u8 128), .lit (.int .u8 159)], .agg [.lit (.int .u8 144), .lit (.int .u8 191)], .agg [.lit (.int .u8 128), .lit (.int .u8 143)], .agg [.lit (.int .u8 0), .lit (.int .u8 0)], .agg [.lit (.int .u8 0), .lit (.int .u8 0)], .agg [.lit (.int .u8 0), .lit (.int .u8 0)], .agg [.lit (.int .u8 0), .lit (.int .u8 0)], .agg [.lit (.int .u8 0), .lit (.int .u8 0)], .agg [.lit (.int .u8 0), .lit (.int .u8 0)], .agg [.lit (.int .u8 0), .lit (.int .u8 0)], .agg [.lit (.int .u8 0), .lit (.int .u8 0)], .agg [.lit (.int .u8 0), .lit (.int .u8 0)], .agg [.lit (.int .u8 0), .lit (.int .u8 0)], .agg [.lit (.int .u8 0), .lit (.int .u8 0)]]
/-- One of Go's own tables, pinned by name: the form's constant. -/
def laid_unicode_utf8_first : DataW Unit := Go.Pinned.utf8First

/-- 'mergelenslaw31.AnnotateOrigins': WHATEVER THE INPUT: true; the input reads as it did. -/
def annotateOriginsSpec : ChangeSpec := { name := "annotateOrigins", fn := fun _ => fun
  | [d1, d2] => { results := [.lit (.bool true)], args := [d1, d2] }
  | _ => none }
def annotateOriginsRow : OpenClaim := { program := "ytajdcggoplppdaadoor", sum := "852d7f4cc291353ab510d3bf1a690ab5adf552bfaa7afd75dec2e2052b82a4a2", func := "mergelens/mergelenslaw31.AnnotateOrigins", spec := "annotateOrigins", inPlace := ["internal/bytealg.IndexByteString", "internal/bytealg.IndexString", "internal/bytealg.CountString"], unfollowed := true, recurses := true, named := ["internal/bytealg.MaxLen", "unicode/utf8.first", "unicode/utf8.acceptRanges"], apart := false, laid := [("unicode/utf8.acceptRanges", laid_unicode_utf8_acceptRanges), ("unicode/utf8.first", laid_unicode_utf8_first)] }
def AnnotateOriginsSaid : Prop := annotateOriginsRow.holds Tryd.pinned (OpenSpec.ofChange annotateOriginsSpec)

/-- ITS FALSE NEIGHBOUR: 'it returns false'. Refute it at one input. -/
def annotateOriginsWrong : ChangeSpec := { name := "annotateOrigins", fn := fun _ => fun
  | [d1, d2] => { results := [.lit (.bool false)], args := [d1, d2] }
  | _ => none }
def AnnotateOriginsWrongFalsely : Prop := annotateOriginsRow.holds Tryd.pinned (OpenSpec.ofChange annotateOriginsWrong)

/-- 'mergelenslaw31.AnnotateSteps': WHATEVER THE INPUT: true; the input reads as it did. -/
def annotateStepsSpec : ChangeSpec := { name := "annotateSteps", fn := fun _ => fun
  | [d1, d2, d3] => { results := [.lit (.bool true)], args := [d1, d2, d3] }
  | _ => none }
def annotateStepsRow : OpenClaim := { program := "ytajdcggoplppdaadoor", sum := "852d7f4cc291353ab510d3bf1a690ab5adf552bfaa7afd75dec2e2052b82a4a2", func := "mergelens/mergelenslaw31.AnnotateSteps", spec := "annotateSteps", inPlace := ["internal/bytealg.IndexByteString", "internal/bytealg.IndexString", "internal/bytealg.CountString"], unfollowed := true, recurses := true, named := ["internal/bytealg.MaxLen", "unicode/utf8.first", "unicode/utf8.acceptRanges"], apart := false, laid := [("unicode/utf8.acceptRanges", laid_unicode_utf8_acceptRanges), ("unicode/utf8.first", laid_unicode_utf8_first)] }
def AnnotateStepsSaid : Prop := annotateStepsRow.holds Tryd.pinned (OpenSpec.ofChange annotateStepsSpec)

/-- ITS FALSE NEIGHBOUR: 'it returns false'. Refute it at one input. -/
def annotateStepsWrong : ChangeSpec := { name := "annotateSteps", fn := fun _ => fun
  | [d1, d2, d3] => { results := [.lit (.bool false)], args := [d1, d2, d3] }
  | _ => none }
def AnnotateStepsWrongFalsely : Prop := annotateStepsRow.holds Tryd.pinned (OpenSpec.ofChange annotateStepsWrong)

/-- 'mergelenslaw30.LinelogChain': WHATEVER THE INPUT: true; the input reads as it did. -/
def linelogChainSpec : ChangeSpec := { name := "linelogChain", fn := fun _ => fun
  | [d1, d2, d3, d4] => { results := [.lit (.bool true)], args := [d1, d2, d3, d4] }
  | _ => none }
def linelogChainRow : OpenClaim := { program := "ytajdcggoplppdaadoor", sum := "852d7f4cc291353ab510d3bf1a690ab5adf552bfaa7afd75dec2e2052b82a4a2", func := "mergelens/mergelenslaw30.LinelogChain", spec := "linelogChain", inPlace := ["internal/bytealg.IndexByteString", "internal/bytealg.IndexString", "internal/bytealg.CountString"], unfollowed := true, recurses := true, named := ["internal/bytealg.MaxLen", "unicode/utf8.first", "unicode/utf8.acceptRanges"], apart := false, laid := [("unicode/utf8.acceptRanges", laid_unicode_utf8_acceptRanges), ("unicode/utf8.first", laid_unicode_utf8_first)] }
def LinelogChainSaid : Prop := linelogChainRow.holds Tryd.pinned (OpenSpec.ofChange linelogChainSpec)

/-- ITS FALSE NEIGHBOUR: 'it returns false'. Refute it at one input. -/
def linelogChainWrong : ChangeSpec := { name := "linelogChain", fn := fun _ => fun
  | [d1, d2, d3, d4] => { results := [.lit (.bool false)], args := [d1, d2, d3, d4] }
  | _ => none }
def LinelogChainWrongFalsely : Prop := linelogChainRow.holds Tryd.pinned (OpenSpec.ofChange linelogChainWrong)

/- THE SECOND FORM. 'bulk': how many values and letters a reading holds, each counted each time it is reached (what is shared counts as often as it is met; a slice's spare places count too). A statement '..UptoSaid' is the law's where the arguments, and the package variables that the reading takes, are together of bulk at most 1048576: NARROWER than '..Said'. Prove '..Said' where nothing that the law and all that it calls make is longer than what came in: it says more and counts as full. Else prove '..UptoSaid'. A law counts once. -/
mutual
def uptoBulk {H : Type} : DataW H → Nat
  | .lit (.string bytes) => bytes.length + 1
  | .lit _ => 1
  | .nil => 1
  | .ptr d => uptoBulk d + 1
  | .slice elems spare => uptoBulkAll elems + uptoBulkAll spare + 1
  | .agg parts => uptoBulkAll parts + 1
  | .iface _ d => uptoBulk d + 1
  | .map entries => uptoBulkEntries entries + 1
  | .held _ => 1
def uptoBulkAll {H : Type} : List (DataW H) → Nat
  | [] => 0
  | d :: r => uptoBulk d + uptoBulkAll r
def uptoBulkEntries {H : Type} : List (Lit × DataW H) → Nat
  | [] => 0
  | x :: r => uptoBulkEntry x + uptoBulkEntries r
def uptoBulkEntry {H : Type} : Lit × DataW H → Nat
  | (.string bytes, d) => bytes.length + uptoBulk d + 1
  | (_, d) => uptoBulk d + 1
 end
def uptoSmall : (H : Type) → List (DataW H) → Bool := fun _ ds => decide (uptoBulkAll ds ≤ 1048576)
def OpenSpec.upto (s : _root_.Go.ChangeSpec) : _root_.Go.OpenSpec := { _root_.Go.OpenSpec.ofChange s with cond := some uptoSmall }

/-- 'mergelenslaw31.AnnotateOrigins', WHERE WHAT IT READS IS OF BULK AT MOST 1048576: true; the input reads as it did. -/
def annotateOriginsUptoRow : OpenClaim := { program := "ytajdcggoplppdaadoor", sum := "852d7f4cc291353ab510d3bf1a690ab5adf552bfaa7afd75dec2e2052b82a4a2", func := "mergelens/mergelenslaw31.AnnotateOrigins", spec := "annotateOrigins", inPlace := ["internal/bytealg.IndexByteString", "internal/bytealg.IndexString", "internal/bytealg.CountString"], unfollowed := true, recurses := true, named := ["internal/bytealg.MaxLen", "unicode/utf8.first", "unicode/utf8.acceptRanges"], apart := false, laid := [("unicode/utf8.acceptRanges", laid_unicode_utf8_acceptRanges), ("unicode/utf8.first", laid_unicode_utf8_first)], narrowed := true }
def AnnotateOriginsUptoSaid : Prop := annotateOriginsUptoRow.holds Tryd.pinned (OpenSpec.upto annotateOriginsSpec)

/-- 'mergelenslaw31.AnnotateSteps', WHERE WHAT IT READS IS OF BULK AT MOST 1048576: true; the input reads as it did. -/
def annotateStepsUptoRow : OpenClaim := { program := "ytajdcggoplppdaadoor", sum := "852d7f4cc291353ab510d3bf1a690ab5adf552bfaa7afd75dec2e2052b82a4a2", func := "mergelens/mergelenslaw31.AnnotateSteps", spec := "annotateSteps", inPlace := ["internal/bytealg.IndexByteString", "internal/bytealg.IndexString", "internal/bytealg.CountString"], unfollowed := true, recurses := true, named := ["internal/bytealg.MaxLen", "unicode/utf8.first", "unicode/utf8.acceptRanges"], apart := false, laid := [("unicode/utf8.acceptRanges", laid_unicode_utf8_acceptRanges), ("unicode/utf8.first", laid_unicode_utf8_first)], narrowed := true }
def AnnotateStepsUptoSaid : Prop := annotateStepsUptoRow.holds Tryd.pinned (OpenSpec.upto annotateStepsSpec)

/-- 'mergelenslaw30.LinelogChain', WHERE WHAT IT READS IS OF BULK AT MOST 1048576: true; the input reads as it did. -/
def linelogChainUptoRow : OpenClaim := { program := "ytajdcggoplppdaadoor", sum := "852d7f4cc291353ab510d3bf1a690ab5adf552bfaa7afd75dec2e2052b82a4a2", func := "mergelens/mergelenslaw30.LinelogChain", spec := "linelogChain", inPlace := ["internal/bytealg.IndexByteString", "internal/bytealg.IndexString", "internal/bytealg.CountString"], unfollowed := true, recurses := true, named := ["internal/bytealg.MaxLen", "unicode/utf8.first", "unicode/utf8.acceptRanges"], apart := false, laid := [("unicode/utf8.acceptRanges", laid_unicode_utf8_acceptRanges), ("unicode/utf8.first", laid_unicode_utf8_first)], narrowed := true }
def LinelogChainUptoSaid : Prop := linelogChainUptoRow.holds Tryd.pinned (OpenSpec.upto linelogChainSpec)

end Rows
end Go.Proofs.YtajdcggoplppdaaDoor
