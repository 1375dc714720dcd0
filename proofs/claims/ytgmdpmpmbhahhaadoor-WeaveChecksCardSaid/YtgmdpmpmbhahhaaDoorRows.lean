/-
  NARROWER THAN 'FOR EVERY INPUT', by the rows' own cells (each row's printed sentence says how): WeaveMakes: laid · WeaveProjects: laid · WeaveMarks: laid · WeaveSame: laid · WeaveLimits: laid · WeaveChecks: laid.
  DERIVED. THE GIVEN ROWS OF THIS SEAT. 6 by the template 'for every input the law returns true; each argument reads behind the call as it read before'; 0 by the template 'total and deterministic' (their statements: YtgmdpmpmbhahhaaDoorTotals.lean).
  GIVEN WITH THE SEED: the statements are not yours to turn. If you find one false, say at which input.
  Laid BY PROGRAM, IN A SANDBOX (cutbox-rows.mjs): the forced cells as the released guide's own fill.sh prints them over the translation 32ec5db297a4aac0… (all of the seat's roots in one cut). By AI agents, Wed Nov 11 2026. No macro, syntax, notation, axiom, sorry.
-/
import Derived.Test.YtgmdpmpmbhahhaaDoorChecked
import GoSem.PinnedTables
import GoSem.Claim
import GoSem.ClaimJoined
import GoSem.ClaimMapViews
import Derived.JoinedTies
import Derived.KernelRfl
namespace Go.Proofs.YtgmdpmpmbhahhaaDoor
/- THE CELL 'sum', in the pinned program and in every row, IS THE sha256 OF THE DUMP (.gsa) THAT YtgmdpmpmbhahhaaDoorProg.lean LOADS. Nothing in Lean hashes anything: it is a label: what it is worth is what the hold of that sum in a sandbox is worth. -/
noncomputable def Tryd.pinned : Pinned := { name := "ytgmdpmpmbhahhaadoor", sum := "32ec5db297a4aac074fe859a1a8d8a44f9b7a28099a6581dae97c16021fcc5f0", checked := Tryd.checked }
namespace Rows
def none {H : Type} : Left H := { results := [], args := [] }

/- WHAT THE LISTED PACKAGE-LEVEL VARIABLES READ AS WHEN THE CALL BEGINS. Each datum BY PROGRAM (the guide's laid-datum.mjs) off the statement by which the dump's own 'gosem.cut.vars' lays the variable. In a bare row this is a premise. The card (YtgmdpmpmbhahhaaDoorCards.lean) ties it to the program's text. -/
def laid_unicode_utf8_acceptRanges {H : Type} : DataW H := .agg [.agg [.lit (.int .u8 128), .lit (.int .u8 191)], .agg [.lit (.int .u8 160), .lit (.int .u8 191)], .agg [.lit (.int .u8 128), .lit (.int .u8 159)], .agg [.lit (.int .u8 144), .lit (.int .u8 191)], .agg [.lit (.int .u8 128), .lit (.int .u8 143)], .agg [.lit (.int .u8 0), .lit (.int .u8 0)], .agg [.lit (.int .u8 0), .lit (.int .u8 0)], .agg [.lit (.int .u8 0), .lit (.int .u8 0)], .agg [.lit (.int .u8 0), .lit (.int .u8 0)], .agg [.lit (.int .u8 0), .lit (.int .u8 0)], .agg [.lit (.int .u8 0), .lit (.int .u8 0)], .agg [.lit (.int .u8 0), .lit (.int .u8 0)], .agg [.lit (.int .u8 0), .lit (.int .u8 0)], .agg [.lit (.int .u8 0), .lit (.int .u8 0)], .agg [.lit (.int .u8 0), .lit (.int .u8 0)], .agg [.lit (.int .u8 0), .lit (.int .u8 0)]]
/-- One of Go's own tables, pinned by name: the form's constant. -/
def laid_unicode_utf8_first : DataW Unit := Go.Pinned.utf8First

/-- 'mergelenslaw16.WeaveMakes': WHATEVER THE INPUT: true; the input reads as it did. -/
def weaveMakesSpec : ChangeSpec := { name := "weaveMakes", fn := fun _ => fun
  | [d1, d2, d3, d4] => { results := [.lit (.bool true)], args := [d1, d2, d3, d4] }
  | _ => none }
def weaveMakesRow : OpenClaim := { program := "ytgmdpmpmbhahhaadoor", sum := "32ec5db297a4aac074fe859a1a8d8a44f9b7a28099a6581dae97c16021fcc5f0", func := "mergelens/mergelenslaw16.WeaveMakes", spec := "weaveMakes", inPlace := ["internal/bytealg.CountString", "internal/bytealg.IndexByteString", "internal/bytealg.IndexString"], unfollowed := true, recurses := true, named := ["internal/bytealg.MaxLen", "unicode/utf8.first", "unicode/utf8.acceptRanges"], apart := false, laid := [("unicode/utf8.acceptRanges", laid_unicode_utf8_acceptRanges), ("unicode/utf8.first", laid_unicode_utf8_first)] }
def WeaveMakesSaid : Prop := weaveMakesRow.holds Tryd.pinned (OpenSpec.ofChange weaveMakesSpec)

/-- ITS FALSE NEIGHBOUR: 'it returns false'. Refute it at one input. -/
def weaveMakesWrong : ChangeSpec := { name := "weaveMakes", fn := fun _ => fun
  | [d1, d2, d3, d4] => { results := [.lit (.bool false)], args := [d1, d2, d3, d4] }
  | _ => none }
def WeaveMakesWrongFalsely : Prop := weaveMakesRow.holds Tryd.pinned (OpenSpec.ofChange weaveMakesWrong)

/-- 'mergelenslaw16.WeaveProjects': WHATEVER THE INPUT: true; the input reads as it did. -/
def weaveProjectsSpec : ChangeSpec := { name := "weaveProjects", fn := fun _ => fun
  | [d1, d2] => { results := [.lit (.bool true)], args := [d1, d2] }
  | _ => none }
def weaveProjectsRow : OpenClaim := { program := "ytgmdpmpmbhahhaadoor", sum := "32ec5db297a4aac074fe859a1a8d8a44f9b7a28099a6581dae97c16021fcc5f0", func := "mergelens/mergelenslaw16.WeaveProjects", spec := "weaveProjects", inPlace := ["internal/bytealg.CountString", "internal/bytealg.IndexByteString", "internal/bytealg.IndexString"], unfollowed := true, recurses := true, named := ["internal/bytealg.MaxLen", "unicode/utf8.first", "unicode/utf8.acceptRanges"], apart := false, laid := [("unicode/utf8.acceptRanges", laid_unicode_utf8_acceptRanges), ("unicode/utf8.first", laid_unicode_utf8_first)] }
def WeaveProjectsSaid : Prop := weaveProjectsRow.holds Tryd.pinned (OpenSpec.ofChange weaveProjectsSpec)

/-- ITS FALSE NEIGHBOUR: 'it returns false'. Refute it at one input. -/
def weaveProjectsWrong : ChangeSpec := { name := "weaveProjects", fn := fun _ => fun
  | [d1, d2] => { results := [.lit (.bool false)], args := [d1, d2] }
  | _ => none }
def WeaveProjectsWrongFalsely : Prop := weaveProjectsRow.holds Tryd.pinned (OpenSpec.ofChange weaveProjectsWrong)

/-- 'mergelenslaw16.WeaveMarks': WHATEVER THE INPUT: true; the input reads as it did. -/
def weaveMarksSpec : ChangeSpec := { name := "weaveMarks", fn := fun _ => fun
  | [d1, d2] => { results := [.lit (.bool true)], args := [d1, d2] }
  | _ => none }
def weaveMarksRow : OpenClaim := { program := "ytgmdpmpmbhahhaadoor", sum := "32ec5db297a4aac074fe859a1a8d8a44f9b7a28099a6581dae97c16021fcc5f0", func := "mergelens/mergelenslaw16.WeaveMarks", spec := "weaveMarks", inPlace := ["internal/bytealg.CountString", "internal/bytealg.IndexByteString", "internal/bytealg.IndexString"], unfollowed := true, recurses := true, named := ["internal/bytealg.MaxLen", "unicode/utf8.first", "unicode/utf8.acceptRanges"], apart := false, laid := [("unicode/utf8.acceptRanges", laid_unicode_utf8_acceptRanges), ("unicode/utf8.first", laid_unicode_utf8_first)] }
def WeaveMarksSaid : Prop := weaveMarksRow.holds Tryd.pinned (OpenSpec.ofChange weaveMarksSpec)

/-- ITS FALSE NEIGHBOUR: 'it returns false'. Refute it at one input. -/
def weaveMarksWrong : ChangeSpec := { name := "weaveMarks", fn := fun _ => fun
  | [d1, d2] => { results := [.lit (.bool false)], args := [d1, d2] }
  | _ => none }
def WeaveMarksWrongFalsely : Prop := weaveMarksRow.holds Tryd.pinned (OpenSpec.ofChange weaveMarksWrong)

/-- 'mergelenslaw16.WeaveSame': WHATEVER THE INPUT: true; the input reads as it did. -/
def weaveSameSpec : ChangeSpec := { name := "weaveSame", fn := fun _ => fun
  | [d1, d2] => { results := [.lit (.bool true)], args := [d1, d2] }
  | _ => none }
def weaveSameRow : OpenClaim := { program := "ytgmdpmpmbhahhaadoor", sum := "32ec5db297a4aac074fe859a1a8d8a44f9b7a28099a6581dae97c16021fcc5f0", func := "mergelens/mergelenslaw16.WeaveSame", spec := "weaveSame", inPlace := ["internal/bytealg.CountString", "internal/bytealg.IndexByteString", "internal/bytealg.IndexString"], unfollowed := true, recurses := true, named := ["internal/bytealg.MaxLen", "unicode/utf8.first", "unicode/utf8.acceptRanges"], apart := false, laid := [("unicode/utf8.acceptRanges", laid_unicode_utf8_acceptRanges), ("unicode/utf8.first", laid_unicode_utf8_first)] }
def WeaveSameSaid : Prop := weaveSameRow.holds Tryd.pinned (OpenSpec.ofChange weaveSameSpec)

/-- ITS FALSE NEIGHBOUR: 'it returns false'. Refute it at one input. -/
def weaveSameWrong : ChangeSpec := { name := "weaveSame", fn := fun _ => fun
  | [d1, d2] => { results := [.lit (.bool false)], args := [d1, d2] }
  | _ => none }
def WeaveSameWrongFalsely : Prop := weaveSameRow.holds Tryd.pinned (OpenSpec.ofChange weaveSameWrong)

/-- 'mergelenslaw16.WeaveLimits': WHATEVER THE INPUT: true; the input reads as it did. -/
def weaveLimitsSpec : ChangeSpec := { name := "weaveLimits", fn := fun _ => fun
  | [d1, d2] => { results := [.lit (.bool true)], args := [d1, d2] }
  | _ => none }
def weaveLimitsRow : OpenClaim := { program := "ytgmdpmpmbhahhaadoor", sum := "32ec5db297a4aac074fe859a1a8d8a44f9b7a28099a6581dae97c16021fcc5f0", func := "mergelens/mergelenslaw16.WeaveLimits", spec := "weaveLimits", inPlace := ["internal/bytealg.CountString", "internal/bytealg.IndexByteString", "internal/bytealg.IndexString"], unfollowed := true, recurses := true, named := ["internal/bytealg.MaxLen", "unicode/utf8.first", "unicode/utf8.acceptRanges"], apart := false, laid := [("unicode/utf8.acceptRanges", laid_unicode_utf8_acceptRanges), ("unicode/utf8.first", laid_unicode_utf8_first)] }
def WeaveLimitsSaid : Prop := weaveLimitsRow.holds Tryd.pinned (OpenSpec.ofChange weaveLimitsSpec)

/-- ITS FALSE NEIGHBOUR: 'it returns false'. Refute it at one input. -/
def weaveLimitsWrong : ChangeSpec := { name := "weaveLimits", fn := fun _ => fun
  | [d1, d2] => { results := [.lit (.bool false)], args := [d1, d2] }
  | _ => none }
def WeaveLimitsWrongFalsely : Prop := weaveLimitsRow.holds Tryd.pinned (OpenSpec.ofChange weaveLimitsWrong)

/-- 'mergelenslaw16.WeaveChecks': WHATEVER THE INPUT: true; the input reads as it did. -/
def weaveChecksSpec : ChangeSpec := { name := "weaveChecks", fn := fun _ => fun
  | [d1, d2, d3, d4, d5, d6] => { results := [.lit (.bool true)], args := [d1, d2, d3, d4, d5, d6] }
  | _ => none }
def weaveChecksRow : OpenClaim := { program := "ytgmdpmpmbhahhaadoor", sum := "32ec5db297a4aac074fe859a1a8d8a44f9b7a28099a6581dae97c16021fcc5f0", func := "mergelens/mergelenslaw16.WeaveChecks", spec := "weaveChecks", inPlace := ["internal/bytealg.CountString", "internal/bytealg.IndexByteString", "internal/bytealg.IndexString"], unfollowed := true, recurses := true, named := ["internal/bytealg.MaxLen", "unicode/utf8.first", "unicode/utf8.acceptRanges"], apart := false, laid := [("unicode/utf8.acceptRanges", laid_unicode_utf8_acceptRanges), ("unicode/utf8.first", laid_unicode_utf8_first)] }
def WeaveChecksSaid : Prop := weaveChecksRow.holds Tryd.pinned (OpenSpec.ofChange weaveChecksSpec)

/-- ITS FALSE NEIGHBOUR: 'it returns false'. Refute it at one input. -/
def weaveChecksWrong : ChangeSpec := { name := "weaveChecks", fn := fun _ => fun
  | [d1, d2, d3, d4, d5, d6] => { results := [.lit (.bool false)], args := [d1, d2, d3, d4, d5, d6] }
  | _ => none }
def WeaveChecksWrongFalsely : Prop := weaveChecksRow.holds Tryd.pinned (OpenSpec.ofChange weaveChecksWrong)

/- THE SECOND FORM. 'bulk': how many values and letters a reading holds, each counted each time it is reached (what is shared counts as often as it is met; a slice's spare places count too). A statement '..UptoSaid' is the law's where the arguments, and the package variables that the reading takes, are together of bulk at most 1048576: NARROWER than '..Said'. Prove '..Said' where nothing that the law and all that it calls make is longer than what came in: it says more and counts as full. Else prove '..UptoSaid'. A law counts once. -/
mutual
def uptoBulk {H : Type} : DataW H → Nat
  | .lit (.string bytes) => bytes.length + 1
  | .lit _ => 1
  | .nil => 1
  | .ptr d => uptoBulk d + 1
  | .slice elems spare => uptoBulkAll elems + uptoBulkAll spare + 1
  | .agg parts => uptoBulkAll parts + 1
  | .iface _ d => uptoBulk d + 1
  | .map entries => uptoBulkEntries entries + 1
  | .held _ => 1
def uptoBulkAll {H : Type} : List (DataW H) → Nat
  | [] => 0
  | d :: r => uptoBulk d + uptoBulkAll r
def uptoBulkEntries {H : Type} : List (Lit × DataW H) → Nat
  | [] => 0
  | x :: r => uptoBulkEntry x + uptoBulkEntries r
def uptoBulkEntry {H : Type} : Lit × DataW H → Nat
  | (.string bytes, d) => bytes.length + uptoBulk d + 1
  | (_, d) => uptoBulk d + 1
 end
def uptoSmall : (H : Type) → List (DataW H) → Bool := fun _ ds => decide (uptoBulkAll ds ≤ 1048576)
def OpenSpec.upto (s : _root_.Go.ChangeSpec) : _root_.Go.OpenSpec := { _root_.Go.OpenSpec.ofChange s with cond := some uptoSmall }

/-- 'mergelenslaw16.WeaveMakes', WHERE WHAT IT READS IS OF BULK AT MOST 1048576: true; the input reads as it did. -/
def weaveMakesUptoRow : OpenClaim := { program := "ytgmdpmpmbhahhaadoor", sum := "32ec5db297a4aac074fe859a1a8d8a44f9b7a28099a6581dae97c16021fcc5f0", func := "mergelens/mergelenslaw16.WeaveMakes", spec := "weaveMakes", inPlace := ["internal/bytealg.CountString", "internal/bytealg.IndexByteString", "internal/bytealg.IndexString"], unfollowed := true, recurses := true, named := ["internal/bytealg.MaxLen", "unicode/utf8.first", "unicode/utf8.acceptRanges"], apart := false, laid := [("unicode/utf8.acceptRanges", laid_unicode_utf8_acceptRanges), ("unicode/utf8.first", laid_unicode_utf8_first)], narrowed := true }
def WeaveMakesUptoSaid : Prop := weaveMakesUptoRow.holds Tryd.pinned (OpenSpec.upto weaveMakesSpec)

/-- 'mergelenslaw16.WeaveProjects', WHERE WHAT IT READS IS OF BULK AT MOST 1048576: true; the input reads as it did. -/
def weaveProjectsUptoRow : OpenClaim := { program := "ytgmdpmpmbhahhaadoor", sum := "32ec5db297a4aac074fe859a1a8d8a44f9b7a28099a6581dae97c16021fcc5f0", func := "mergelens/mergelenslaw16.WeaveProjects", spec := "weaveProjects", inPlace := ["internal/bytealg.CountString", "internal/bytealg.IndexByteString", "internal/bytealg.IndexString"], unfollowed := true, recurses := true, named := ["internal/bytealg.MaxLen", "unicode/utf8.first", "unicode/utf8.acceptRanges"], apart := false, laid := [("unicode/utf8.acceptRanges", laid_unicode_utf8_acceptRanges), ("unicode/utf8.first", laid_unicode_utf8_first)], narrowed := true }
def WeaveProjectsUptoSaid : Prop := weaveProjectsUptoRow.holds Tryd.pinned (OpenSpec.upto weaveProjectsSpec)

/-- 'mergelenslaw16.WeaveMarks', WHERE WHAT IT READS IS OF BULK AT MOST 1048576: true; the input reads as it did. -/
def weaveMarksUptoRow : OpenClaim := { program := "ytgmdpmpmbhahhaadoor", sum := "32ec5db297a4aac074fe859a1a8d8a44f9b7a28099a6581dae97c16021fcc5f0", func := "mergelens/mergelenslaw16.WeaveMarks", spec := "weaveMarks", inPlace := ["internal/bytealg.CountString", "internal/bytealg.IndexByteString", "internal/bytealg.IndexString"], unfollowed := true, recurses := true, named := ["internal/bytealg.MaxLen", "unicode/utf8.first", "unicode/utf8.acceptRanges"], apart := false, laid := [("unicode/utf8.acceptRanges", laid_unicode_utf8_acceptRanges), ("unicode/utf8.first", laid_unicode_utf8_first)], narrowed := true }
def WeaveMarksUptoSaid : Prop := weaveMarksUptoRow.holds Tryd.pinned (OpenSpec.upto weaveMarksSpec)

/-- 'mergelenslaw16.WeaveSame', WHERE WHAT IT READS IS OF BULK AT MOST 1048576: true; the input reads as it did. -/
def weaveSameUptoRow : OpenClaim := { program := "ytgmdpmpmbhahhaadoor", sum := "32ec5db297a4aac074fe859a1a8d8a44f9b7a28099a6581dae97c16021fcc5f0", func := "mergelens/mergelenslaw16.WeaveSame", spec := "weaveSame", inPlace := ["internal/bytealg.CountString", "internal/bytealg.IndexByteString", "internal/bytealg.IndexString"], unfollowed := true, recurses := true, named := ["internal/bytealg.MaxLen", "unicode/utf8.first", "unicode/utf8.acceptRanges"], apart := false, laid := [("unicode/utf8.acceptRanges", laid_unicode_utf8_acceptRanges), ("unicode/utf8.first", laid_unicode_utf8_first)], narrowed := true }
def WeaveSameUptoSaid : Prop := weaveSameUptoRow.holds Tryd.pinned (OpenSpec.upto weaveSameSpec)

/-- 'mergelenslaw16.WeaveLimits', WHERE WHAT IT READS IS OF BULK AT MOST 1048576: true; the input reads as it did. -/
def weaveLimitsUptoRow : OpenClaim := { program := "ytgmdpmpmbhahhaadoor", sum := "32ec5db297a4aac074fe859a1a8d8a44f9b7a28099a6581dae97c16021fcc5f0", func := "mergelens/mergelenslaw16.WeaveLimits", spec := "weaveLimits", inPlace := ["internal/bytealg.CountString", "internal/bytealg.IndexByteString", "internal/bytealg.IndexString"], unfollowed := true, recurses := true, named := ["internal/bytealg.MaxLen", "unicode/utf8.first", "unicode/utf8.acceptRanges"], apart := false, laid := [("unicode/utf8.acceptRanges", laid_unicode_utf8_acceptRanges), ("unicode/utf8.first", laid_unicode_utf8_first)], narrowed := true }
def WeaveLimitsUptoSaid : Prop := weaveLimitsUptoRow.holds Tryd.pinned (OpenSpec.upto weaveLimitsSpec)

/-- 'mergelenslaw16.WeaveChecks', WHERE WHAT IT READS IS OF BULK AT MOST 1048576: true; the input reads as it did. -/
def weaveChecksUptoRow : OpenClaim := { program := "ytgmdpmpmbhahhaadoor", sum := "32ec5db297a4aac074fe859a1a8d8a44f9b7a28099a6581dae97c16021fcc5f0", func := "mergelens/mergelenslaw16.WeaveChecks", spec := "weaveChecks", inPlace := ["internal/bytealg.CountString", "internal/bytealg.IndexByteString", "internal/bytealg.IndexString"], unfollowed := true, recurses := true, named := ["internal/bytealg.MaxLen", "unicode/utf8.first", "unicode/utf8.acceptRanges"], apart := false, laid := [("unicode/utf8.acceptRanges", laid_unicode_utf8_acceptRanges), ("unicode/utf8.first", laid_unicode_utf8_first)], narrowed := true }
def WeaveChecksUptoSaid : Prop := weaveChecksUptoRow.holds Tryd.pinned (OpenSpec.upto weaveChecksSpec)

end Rows
end Go.Proofs.YtgmdpmpmbhahhaaDoor
