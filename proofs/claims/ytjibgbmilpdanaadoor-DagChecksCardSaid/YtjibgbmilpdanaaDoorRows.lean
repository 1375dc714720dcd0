/-
  NARROWER THAN 'FOR EVERY INPUT', by the rows' own cells (each row's printed sentence says how): DagChecks: laid · DagCycles: laid · DagLimits: laid · DagLists: laid · DagEnds: laid.
  DERIVED. THE GIVEN ROWS OF THIS SEAT. 5 by the template 'for every input the law returns true; each argument reads behind the call as it read before'; 0 by the template 'total and deterministic' (their statements: YtjibgbmilpdanaaDoorTotals.lean).
  GIVEN WITH THE SEED: the statements are not yours to turn. If you find one false, say at which input.
  Laid BY PROGRAM, IN A SANDBOX (cutbox-rows.mjs): the forced cells as the released guide's own fill.sh prints them over the translation 2bd188ea7f1084a5… (all of the seat's roots in one cut). By AI agents, Wed Nov 11 2026. No macro, syntax, notation, axiom, sorry.
-/
import Derived.Test.YtjibgbmilpdanaaDoorChecked
import GoSem.PinnedTables
import GoSem.Claim
import GoSem.ClaimJoined
import GoSem.ClaimMapViews
import Derived.JoinedTies
import Derived.KernelRfl
namespace Go.Proofs.YtjibgbmilpdanaaDoor
/- THE CELL 'sum', in the pinned program and in every row, IS THE sha256 OF THE DUMP (.gsa) THAT YtjibgbmilpdanaaDoorProg.lean LOADS. Nothing in Lean hashes anything: it is a label: what it is worth is what the hold of that sum in a sandbox is worth. -/
noncomputable def Tryd.pinned : Pinned := { name := "ytjibgbmilpdanaadoor", sum := "2bd188ea7f1084a5043922c0723cbd1c54f3e5376a89d0a6e4eac5000ed545b6", checked := Tryd.checked }
namespace Rows
def none {H : Type} : Left H := { results := [], args := [] }

/- WHAT THE LISTED PACKAGE-LEVEL VARIABLES READ AS WHEN THE CALL BEGINS. Each datum BY PROGRAM (the guide's laid-datum.mjs) off the statement by which the dump's own 'gosem.cut.vars' lays the variable. In a bare row this is a premise. The card (YtjibgbmilpdanaaDoorCards.lean) ties it to the program's text. -/
def laid_unicode_utf8_acceptRanges {H : Type} : DataW H := .agg [.agg [.lit (.int .u8 128), .lit (.int .u8 191)], .agg [.lit (.int .u8 160), .lit (.int .u8 191)], .agg [.lit (.int .u8 128), .lit (.int .u8 159)], .agg [.lit (.int .u8 144), .lit (.int .u8 191)], .agg [.lit (.int .u8 128), .lit (.int .u8 143)], .agg [.lit (.int .u8 0), .lit (.int .u8 0)], .agg [.lit (.int .u8 0), .lit (.int .u8 0)], .agg [.lit (.int .u8 0), .lit (.int .u8 0)], .agg [.lit (.int .u8 0), .lit (.int .u8 0)], .agg [.lit (.int .u8 0), .lit (.int .u8 0)], .agg [.lit (.int .u8 0), .lit (.int .u8 0)], .agg [.lit (.int .u8 0), .lit (.int .u8 0)], .agg [.lit (.int .u8 0), .lit (.int .u8 0)], .agg [.lit (.int .u8 0), .lit (.int .u8 0)], .agg [.lit (.int .u8 0), .lit (.int .u8 0)], .agg [.lit (.int .u8 0), .lit (.int .u8 0)]]
/-- One of Go's own tables, pinned by name: the form's constant. -/
def laid_unicode_utf8_first : DataW Unit := Go.Pinned.utf8First

/-- 'mergelenslaw23.DagChecks': WHATEVER THE INPUT: true; the input reads as it did. -/
def dagChecksSpec : ChangeSpec := { name := "dagChecks", fn := fun _ => fun
  | [d1, d2, d3, d4, d5, d6] => { results := [.lit (.bool true)], args := [d1, d2, d3, d4, d5, d6] }
  | _ => none }
def dagChecksRow : OpenClaim := { program := "ytjibgbmilpdanaadoor", sum := "2bd188ea7f1084a5043922c0723cbd1c54f3e5376a89d0a6e4eac5000ed545b6", func := "mergelens/mergelenslaw23.DagChecks", spec := "dagChecks", inPlace := ["internal/bytealg.IndexByteString", "internal/bytealg.IndexString", "internal/bytealg.CountString"], unfollowed := true, recurses := true, named := ["internal/bytealg.MaxLen", "unicode/utf8.first", "unicode/utf8.acceptRanges"], apart := false, laid := [("unicode/utf8.acceptRanges", laid_unicode_utf8_acceptRanges), ("unicode/utf8.first", laid_unicode_utf8_first)] }
def DagChecksSaid : Prop := dagChecksRow.holds Tryd.pinned (OpenSpec.ofChange dagChecksSpec)

/-- ITS FALSE NEIGHBOUR: 'it returns false'. Refute it at one input. -/
def dagChecksWrong : ChangeSpec := { name := "dagChecks", fn := fun _ => fun
  | [d1, d2, d3, d4, d5, d6] => { results := [.lit (.bool false)], args := [d1, d2, d3, d4, d5, d6] }
  | _ => none }
def DagChecksWrongFalsely : Prop := dagChecksRow.holds Tryd.pinned (OpenSpec.ofChange dagChecksWrong)

/-- 'mergelenslaw23.DagCycles': WHATEVER THE INPUT: true; the input reads as it did. -/
def dagCyclesSpec : ChangeSpec := { name := "dagCycles", fn := fun _ => fun
  | [d1, d2, d3, d4] => { results := [.lit (.bool true)], args := [d1, d2, d3, d4] }
  | _ => none }
def dagCyclesRow : OpenClaim := { program := "ytjibgbmilpdanaadoor", sum := "2bd188ea7f1084a5043922c0723cbd1c54f3e5376a89d0a6e4eac5000ed545b6", func := "mergelens/mergelenslaw23.DagCycles", spec := "dagCycles", inPlace := ["internal/bytealg.IndexByteString", "internal/bytealg.IndexString", "internal/bytealg.CountString"], unfollowed := true, recurses := true, named := ["internal/bytealg.MaxLen", "unicode/utf8.first", "unicode/utf8.acceptRanges"], apart := false, laid := [("unicode/utf8.acceptRanges", laid_unicode_utf8_acceptRanges), ("unicode/utf8.first", laid_unicode_utf8_first)] }
def DagCyclesSaid : Prop := dagCyclesRow.holds Tryd.pinned (OpenSpec.ofChange dagCyclesSpec)

/-- ITS FALSE NEIGHBOUR: 'it returns false'. Refute it at one input. -/
def dagCyclesWrong : ChangeSpec := { name := "dagCycles", fn := fun _ => fun
  | [d1, d2, d3, d4] => { results := [.lit (.bool false)], args := [d1, d2, d3, d4] }
  | _ => none }
def DagCyclesWrongFalsely : Prop := dagCyclesRow.holds Tryd.pinned (OpenSpec.ofChange dagCyclesWrong)

/-- 'mergelenslaw23.DagLimits': WHATEVER THE INPUT: true; the input reads as it did. -/
def dagLimitsSpec : ChangeSpec := { name := "dagLimits", fn := fun _ => fun
  | [d1, d2] => { results := [.lit (.bool true)], args := [d1, d2] }
  | _ => none }
def dagLimitsRow : OpenClaim := { program := "ytjibgbmilpdanaadoor", sum := "2bd188ea7f1084a5043922c0723cbd1c54f3e5376a89d0a6e4eac5000ed545b6", func := "mergelens/mergelenslaw23.DagLimits", spec := "dagLimits", inPlace := ["internal/bytealg.IndexByteString", "internal/bytealg.IndexString", "internal/bytealg.CountString"], unfollowed := true, recurses := true, named := ["internal/bytealg.MaxLen", "unicode/utf8.first", "unicode/utf8.acceptRanges"], apart := false, laid := [("unicode/utf8.acceptRanges", laid_unicode_utf8_acceptRanges), ("unicode/utf8.first", laid_unicode_utf8_first)] }
def DagLimitsSaid : Prop := dagLimitsRow.holds Tryd.pinned (OpenSpec.ofChange dagLimitsSpec)

/-- ITS FALSE NEIGHBOUR: 'it returns false'. Refute it at one input. -/
def dagLimitsWrong : ChangeSpec := { name := "dagLimits", fn := fun _ => fun
  | [d1, d2] => { results := [.lit (.bool false)], args := [d1, d2] }
  | _ => none }
def DagLimitsWrongFalsely : Prop := dagLimitsRow.holds Tryd.pinned (OpenSpec.ofChange dagLimitsWrong)

/-- 'mergelenslaw23.DagLists': WHATEVER THE INPUT: true; the input reads as it did. -/
def dagListsSpec : ChangeSpec := { name := "dagLists", fn := fun _ => fun
  | [d1, d2, d3] => { results := [.lit (.bool true)], args := [d1, d2, d3] }
  | _ => none }
def dagListsRow : OpenClaim := { program := "ytjibgbmilpdanaadoor", sum := "2bd188ea7f1084a5043922c0723cbd1c54f3e5376a89d0a6e4eac5000ed545b6", func := "mergelens/mergelenslaw23.DagLists", spec := "dagLists", inPlace := ["internal/bytealg.IndexByteString", "internal/bytealg.IndexString", "internal/bytealg.CountString"], unfollowed := true, recurses := true, named := ["internal/bytealg.MaxLen", "unicode/utf8.first", "unicode/utf8.acceptRanges"], apart := false, laid := [("unicode/utf8.acceptRanges", laid_unicode_utf8_acceptRanges), ("unicode/utf8.first", laid_unicode_utf8_first)] }
def DagListsSaid : Prop := dagListsRow.holds Tryd.pinned (OpenSpec.ofChange dagListsSpec)

/-- ITS FALSE NEIGHBOUR: 'it returns false'. Refute it at one input. -/
def dagListsWrong : ChangeSpec := { name := "dagLists", fn := fun _ => fun
  | [d1, d2, d3] => { results := [.lit (.bool false)], args := [d1, d2, d3] }
  | _ => none }
def DagListsWrongFalsely : Prop := dagListsRow.holds Tryd.pinned (OpenSpec.ofChange dagListsWrong)

/-- 'mergelenslaw23.DagEnds': WHATEVER THE INPUT: true; the input reads as it did. -/
def dagEndsSpec : ChangeSpec := { name := "dagEnds", fn := fun _ => fun
  | [d] => { results := [.lit (.bool true)], args := [d] }
  | _ => none }
def dagEndsRow : OpenClaim := { program := "ytjibgbmilpdanaadoor", sum := "2bd188ea7f1084a5043922c0723cbd1c54f3e5376a89d0a6e4eac5000ed545b6", func := "mergelens/mergelenslaw23.DagEnds", spec := "dagEnds", inPlace := ["internal/bytealg.IndexByteString", "internal/bytealg.IndexString", "internal/bytealg.CountString"], unfollowed := true, recurses := true, named := ["internal/bytealg.MaxLen", "unicode/utf8.first", "unicode/utf8.acceptRanges"], apart := false, laid := [("unicode/utf8.acceptRanges", laid_unicode_utf8_acceptRanges), ("unicode/utf8.first", laid_unicode_utf8_first)] }
def DagEndsSaid : Prop := dagEndsRow.holds Tryd.pinned (OpenSpec.ofChange dagEndsSpec)

/-- ITS FALSE NEIGHBOUR: 'it returns false'. Refute it at one input. -/
def dagEndsWrong : ChangeSpec := { name := "dagEnds", fn := fun _ => fun
  | [d] => { results := [.lit (.bool false)], args := [d] }
  | _ => none }
def DagEndsWrongFalsely : Prop := dagEndsRow.holds Tryd.pinned (OpenSpec.ofChange dagEndsWrong)

/- THE SECOND FORM. 'bulk': how many values and letters a reading holds, each counted each time it is reached (what is shared counts as often as it is met; a slice's spare places count too). A statement '..UptoSaid' is the law's where the arguments, and the package variables that the reading takes, are together of bulk at most 1048576: NARROWER than '..Said'. Prove '..Said' where nothing that the law and all that it calls make is longer than what came in: it says more and counts as full. Else prove '..UptoSaid'. A law counts once. -/
mutual
def uptoBulk {H : Type} : DataW H → Nat
  | .lit (.string bytes) => bytes.length + 1
  | .lit _ => 1
  | .nil => 1
  | .ptr d => uptoBulk d + 1
  | .slice elems spare => uptoBulkAll elems + uptoBulkAll spare + 1
  | .agg parts => uptoBulkAll parts + 1
  | .iface _ d => uptoBulk d + 1
  | .map entries => uptoBulkEntries entries + 1
  | .held _ => 1
def uptoBulkAll {H : Type} : List (DataW H) → Nat
  | [] => 0
  | d :: r => uptoBulk d + uptoBulkAll r
def uptoBulkEntries {H : Type} : List (Lit × DataW H) → Nat
  | [] => 0
  | x :: r => uptoBulkEntry x + uptoBulkEntries r
def uptoBulkEntry {H : Type} : Lit × DataW H → Nat
  | (.string bytes, d) => bytes.length + uptoBulk d + 1
  | (_, d) => uptoBulk d + 1
 end
def uptoSmall : (H : Type) → List (DataW H) → Bool := fun _ ds => decide (uptoBulkAll ds ≤ 1048576)
def OpenSpec.upto (s : _root_.Go.ChangeSpec) : _root_.Go.OpenSpec := { _root_.Go.OpenSpec.ofChange s with cond := some uptoSmall }

/-- 'mergelenslaw23.DagChecks', WHERE WHAT IT READS IS OF BULK AT MOST 1048576: true; the input reads as it did. -/
def dagChecksUptoRow : OpenClaim := { program := "ytjibgbmilpdanaadoor", sum := "2bd188ea7f1084a5043922c0723cbd1c54f3e5376a89d0a6e4eac5000ed545b6", func := "mergelens/mergelenslaw23.DagChecks", spec := "dagChecks", inPlace := ["internal/bytealg.IndexByteString", "internal/bytealg.IndexString", "internal/bytealg.CountString"], unfollowed := true, recurses := true, named := ["internal/bytealg.MaxLen", "unicode/utf8.first", "unicode/utf8.acceptRanges"], apart := false, laid := [("unicode/utf8.acceptRanges", laid_unicode_utf8_acceptRanges), ("unicode/utf8.first", laid_unicode_utf8_first)], narrowed := true }
def DagChecksUptoSaid : Prop := dagChecksUptoRow.holds Tryd.pinned (OpenSpec.upto dagChecksSpec)

/-- 'mergelenslaw23.DagCycles', WHERE WHAT IT READS IS OF BULK AT MOST 1048576: true; the input reads as it did. -/
def dagCyclesUptoRow : OpenClaim := { program := "ytjibgbmilpdanaadoor", sum := "2bd188ea7f1084a5043922c0723cbd1c54f3e5376a89d0a6e4eac5000ed545b6", func := "mergelens/mergelenslaw23.DagCycles", spec := "dagCycles", inPlace := ["internal/bytealg.IndexByteString", "internal/bytealg.IndexString", "internal/bytealg.CountString"], unfollowed := true, recurses := true, named := ["internal/bytealg.MaxLen", "unicode/utf8.first", "unicode/utf8.acceptRanges"], apart := false, laid := [("unicode/utf8.acceptRanges", laid_unicode_utf8_acceptRanges), ("unicode/utf8.first", laid_unicode_utf8_first)], narrowed := true }
def DagCyclesUptoSaid : Prop := dagCyclesUptoRow.holds Tryd.pinned (OpenSpec.upto dagCyclesSpec)

/-- 'mergelenslaw23.DagLimits', WHERE WHAT IT READS IS OF BULK AT MOST 1048576: true; the input reads as it did. -/
def dagLimitsUptoRow : OpenClaim := { program := "ytjibgbmilpdanaadoor", sum := "2bd188ea7f1084a5043922c0723cbd1c54f3e5376a89d0a6e4eac5000ed545b6", func := "mergelens/mergelenslaw23.DagLimits", spec := "dagLimits", inPlace := ["internal/bytealg.IndexByteString", "internal/bytealg.IndexString", "internal/bytealg.CountString"], unfollowed := true, recurses := true, named := ["internal/bytealg.MaxLen", "unicode/utf8.first", "unicode/utf8.acceptRanges"], apart := false, laid := [("unicode/utf8.acceptRanges", laid_unicode_utf8_acceptRanges), ("unicode/utf8.first", laid_unicode_utf8_first)], narrowed := true }
def DagLimitsUptoSaid : Prop := dagLimitsUptoRow.holds Tryd.pinned (OpenSpec.upto dagLimitsSpec)

/-- 'mergelenslaw23.DagLists', WHERE WHAT IT READS IS OF BULK AT MOST 1048576: true; the input reads as it did. -/
def dagListsUptoRow : OpenClaim := { program := "ytjibgbmilpdanaadoor", sum := "2bd188ea7f1084a5043922c0723cbd1c54f3e5376a89d0a6e4eac5000ed545b6", func := "mergelens/mergelenslaw23.DagLists", spec := "dagLists", inPlace := ["internal/bytealg.IndexByteString", "internal/bytealg.IndexString", "internal/bytealg.CountString"], unfollowed := true, recurses := true, named := ["internal/bytealg.MaxLen", "unicode/utf8.first", "unicode/utf8.acceptRanges"], apart := false, laid := [("unicode/utf8.acceptRanges", laid_unicode_utf8_acceptRanges), ("unicode/utf8.first", laid_unicode_utf8_first)], narrowed := true }
def DagListsUptoSaid : Prop := dagListsUptoRow.holds Tryd.pinned (OpenSpec.upto dagListsSpec)

/-- 'mergelenslaw23.DagEnds', WHERE WHAT IT READS IS OF BULK AT MOST 1048576: true; the input reads as it did. -/
def dagEndsUptoRow : OpenClaim := { program := "ytjibgbmilpdanaadoor", sum := "2bd188ea7f1084a5043922c0723cbd1c54f3e5376a89d0a6e4eac5000ed545b6", func := "mergelens/mergelenslaw23.DagEnds", spec := "dagEnds", inPlace := ["internal/bytealg.IndexByteString", "internal/bytealg.IndexString", "internal/bytealg.CountString"], unfollowed := true, recurses := true, named := ["internal/bytealg.MaxLen", "unicode/utf8.first", "unicode/utf8.acceptRanges"], apart := false, laid := [("unicode/utf8.acceptRanges", laid_unicode_utf8_acceptRanges), ("unicode/utf8.first", laid_unicode_utf8_first)], narrowed := true }
def DagEndsUptoSaid : Prop := dagEndsUptoRow.holds Tryd.pinned (OpenSpec.upto dagEndsSpec)

end Rows
end Go.Proofs.YtjibgbmilpdanaaDoor
