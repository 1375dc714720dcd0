/-
  NARROWER THAN 'FOR EVERY INPUT', by the rows' own cells (each row's printed sentence says how): AnnotateBlames: laid · AnnotateRefuses: laid · LinelogLogs: laid · LinelogRefuses: laid · LinelogHandsDown: laid · LinelogLists: laid · AnnotateTracked: laid.
  DERIVED. THE GIVEN ROWS OF THIS SEAT. 7 by the template 'for every input the law returns true; each argument reads behind the call as it read before'; 0 by the template 'total and deterministic' (their statements: YtchgnhinilehiaaGreatDoorTotals.lean).
  GIVEN WITH THE SEED: the statements are not yours to turn. If you find one false, say at which input.
  Laid BY PROGRAM, IN A SANDBOX (cutbox-rows.mjs): the forced cells as the released guide's own fill.sh prints them over the translation be85d8b10d4fa21f… (all of the seat's roots in one cut). By AI agents, Wed Nov 11 2026. No macro, syntax, notation, axiom, sorry.
-/
import Derived.Test.YtchgnhinilehiaaGreatDoorChecked
import GoSem.PinnedTables
import GoSem.Claim
import GoSem.ClaimJoined
import GoSem.ClaimMapViews
import Derived.JoinedTies
import Derived.KernelRfl
namespace Go.Proofs.YtchgnhinilehiaaGreatDoor
/- THE CELL 'sum', in the pinned program and in every row, IS THE sha256 OF THE DUMP (.gsa) THAT YtchgnhinilehiaaGreatDoorProg.lean LOADS. Nothing in Lean hashes anything: it is a label: what it is worth is what the hold of that sum in a sandbox is worth. -/
noncomputable def Tryz.pinned : Pinned := { name := "ytchgnhinilehiaagreatdoor", sum := "be85d8b10d4fa21fac6ed1ba58f9d0c0828b91c12517e7be80e476e447b25b8e", checked := Tryz.checked }
namespace Rows
def none {H : Type} : Left H := { results := [], args := [] }

/- WHAT THE LISTED PACKAGE-LEVEL VARIABLES READ AS WHEN THE CALL BEGINS. Each datum BY PROGRAM (the guide's laid-datum.mjs) off the statement by which the dump's own 'gosem.cut.vars' lays the variable. In a bare row this is a premise. The card (YtchgnhinilehiaaGreatDoorCards.lean) ties it to the program's text. -/
def laid_unicode_utf8_acceptRanges {H : Type} : DataW H := .agg [.agg [.lit (.int .u8 128), .lit (.int .u8 191)], .agg [.lit (.int .u8 160), .lit (.int .u8 191)], .agg [.lit (.int .u8 128), .lit (.int .u8 159)], .agg [.lit (.int .u8 144), .lit (.int .u8 191)], .agg [.lit (.int .u8 128), .lit (.int .u8 143)], .agg [.lit (.int .u8 0), .lit (.int .u8 0)], .agg [.lit (.int .u8 0), .lit (.int .u8 0)], .agg [.lit (.int .u8 0), .lit (.int .u8 0)], .agg [.lit (.int .u8 0), .lit (.int .u8 0)], .agg [.lit (.int .u8 0), .lit (.int .u8 0)], .agg [.lit (.int .u8 0), .lit (.int .u8 0)], .agg [.lit (.int .u8 0), .lit (.int .u8 0)], .agg [.lit (.int .u8 0), .lit (.int .u8 0)], .agg [.lit (.int .u8 0), .lit (.int .u8 0)], .agg [.lit (.int .u8 0), .lit (.int .u8 0)], .agg [.lit (.int .u8 0), .lit (.int .u8 0)]]
/-- One of Go's own tables, pinned by name: the form's constant. -/
def laid_unicode_utf8_first : DataW Unit := Go.Pinned.utf8First

/-- 'mergelenslaw31.AnnotateBlames': WHATEVER THE INPUT: true; the input reads as it did. -/
def annotateBlamesSpec : ChangeSpec := { name := "annotateBlames", fn := fun _ => fun
  | [d1, d2, d3] => { results := [.lit (.bool true)], args := [d1, d2, d3] }
  | _ => none }
def annotateBlamesRow : OpenClaim := { program := "ytchgnhinilehiaagreatdoor", sum := "be85d8b10d4fa21fac6ed1ba58f9d0c0828b91c12517e7be80e476e447b25b8e", func := "mergelens/mergelenslaw31.AnnotateBlames", spec := "annotateBlames", inPlace := ["internal/bytealg.IndexByteString", "internal/bytealg.IndexString", "internal/bytealg.CountString"], unfollowed := true, recurses := true, named := ["internal/bytealg.MaxLen", "unicode/utf8.first", "unicode/utf8.acceptRanges"], apart := false, laid := [("unicode/utf8.acceptRanges", laid_unicode_utf8_acceptRanges), ("unicode/utf8.first", laid_unicode_utf8_first)] }
def AnnotateBlamesSaid : Prop := annotateBlamesRow.holds Tryz.pinned (OpenSpec.ofChange annotateBlamesSpec)

/-- ITS FALSE NEIGHBOUR: 'it returns false'. Refute it at one input. -/
def annotateBlamesWrong : ChangeSpec := { name := "annotateBlames", fn := fun _ => fun
  | [d1, d2, d3] => { results := [.lit (.bool false)], args := [d1, d2, d3] }
  | _ => none }
def AnnotateBlamesWrongFalsely : Prop := annotateBlamesRow.holds Tryz.pinned (OpenSpec.ofChange annotateBlamesWrong)

/-- 'mergelenslaw31.AnnotateRefuses': WHATEVER THE INPUT: true; the input reads as it did. -/
def annotateRefusesSpec : ChangeSpec := { name := "annotateRefuses", fn := fun _ => fun
  | [d1, d2, d3, d4, d5] => { results := [.lit (.bool true)], args := [d1, d2, d3, d4, d5] }
  | _ => none }
def annotateRefusesRow : OpenClaim := { program := "ytchgnhinilehiaagreatdoor", sum := "be85d8b10d4fa21fac6ed1ba58f9d0c0828b91c12517e7be80e476e447b25b8e", func := "mergelens/mergelenslaw31.AnnotateRefuses", spec := "annotateRefuses", inPlace := ["internal/bytealg.IndexByteString", "internal/bytealg.IndexString", "internal/bytealg.CountString"], unfollowed := true, recurses := true, named := ["internal/bytealg.MaxLen", "unicode/utf8.first", "unicode/utf8.acceptRanges"], apart := false, laid := [("unicode/utf8.acceptRanges", laid_unicode_utf8_acceptRanges), ("unicode/utf8.first", laid_unicode_utf8_first)] }
def AnnotateRefusesSaid : Prop := annotateRefusesRow.holds Tryz.pinned (OpenSpec.ofChange annotateRefusesSpec)

/-- ITS FALSE NEIGHBOUR: 'it returns false'. Refute it at one input. -/
def annotateRefusesWrong : ChangeSpec := { name := "annotateRefuses", fn := fun _ => fun
  | [d1, d2, d3, d4, d5] => { results := [.lit (.bool false)], args := [d1, d2, d3, d4, d5] }
  | _ => none }
def AnnotateRefusesWrongFalsely : Prop := annotateRefusesRow.holds Tryz.pinned (OpenSpec.ofChange annotateRefusesWrong)

/-- 'mergelenslaw30.LinelogLogs': WHATEVER THE INPUT: true; the input reads as it did. -/
def linelogLogsSpec : ChangeSpec := { name := "linelogLogs", fn := fun _ => fun
  | [d1, d2, d3, d4] => { results := [.lit (.bool true)], args := [d1, d2, d3, d4] }
  | _ => none }
def linelogLogsRow : OpenClaim := { program := "ytchgnhinilehiaagreatdoor", sum := "be85d8b10d4fa21fac6ed1ba58f9d0c0828b91c12517e7be80e476e447b25b8e", func := "mergelens/mergelenslaw30.LinelogLogs", spec := "linelogLogs", inPlace := ["internal/bytealg.IndexByteString", "internal/bytealg.IndexString", "internal/bytealg.CountString"], unfollowed := true, recurses := true, named := ["internal/bytealg.MaxLen", "unicode/utf8.first", "unicode/utf8.acceptRanges"], apart := false, laid := [("unicode/utf8.acceptRanges", laid_unicode_utf8_acceptRanges), ("unicode/utf8.first", laid_unicode_utf8_first)] }
def LinelogLogsSaid : Prop := linelogLogsRow.holds Tryz.pinned (OpenSpec.ofChange linelogLogsSpec)

/-- ITS FALSE NEIGHBOUR: 'it returns false'. Refute it at one input. -/
def linelogLogsWrong : ChangeSpec := { name := "linelogLogs", fn := fun _ => fun
  | [d1, d2, d3, d4] => { results := [.lit (.bool false)], args := [d1, d2, d3, d4] }
  | _ => none }
def LinelogLogsWrongFalsely : Prop := linelogLogsRow.holds Tryz.pinned (OpenSpec.ofChange linelogLogsWrong)

/-- 'mergelenslaw30.LinelogRefuses': WHATEVER THE INPUT: true; the input reads as it did. -/
def linelogRefusesSpec : ChangeSpec := { name := "linelogRefuses", fn := fun _ => fun
  | [d1, d2, d3, d4, d5] => { results := [.lit (.bool true)], args := [d1, d2, d3, d4, d5] }
  | _ => none }
def linelogRefusesRow : OpenClaim := { program := "ytchgnhinilehiaagreatdoor", sum := "be85d8b10d4fa21fac6ed1ba58f9d0c0828b91c12517e7be80e476e447b25b8e", func := "mergelens/mergelenslaw30.LinelogRefuses", spec := "linelogRefuses", inPlace := ["internal/bytealg.IndexByteString", "internal/bytealg.IndexString", "internal/bytealg.CountString"], unfollowed := true, recurses := true, named := ["internal/bytealg.MaxLen", "unicode/utf8.first", "unicode/utf8.acceptRanges"], apart := false, laid := [("unicode/utf8.acceptRanges", laid_unicode_utf8_acceptRanges), ("unicode/utf8.first", laid_unicode_utf8_first)] }
def LinelogRefusesSaid : Prop := linelogRefusesRow.holds Tryz.pinned (OpenSpec.ofChange linelogRefusesSpec)

/-- ITS FALSE NEIGHBOUR: 'it returns false'. Refute it at one input. -/
def linelogRefusesWrong : ChangeSpec := { name := "linelogRefuses", fn := fun _ => fun
  | [d1, d2, d3, d4, d5] => { results := [.lit (.bool false)], args := [d1, d2, d3, d4, d5] }
  | _ => none }
def LinelogRefusesWrongFalsely : Prop := linelogRefusesRow.holds Tryz.pinned (OpenSpec.ofChange linelogRefusesWrong)

/-- 'mergelenslaw30.LinelogHandsDown': WHATEVER THE INPUT: true; the input reads as it did. -/
def linelogHandsDownSpec : ChangeSpec := { name := "linelogHandsDown", fn := fun _ => fun
  | [d1, d2, d3, d4] => { results := [.lit (.bool true)], args := [d1, d2, d3, d4] }
  | _ => none }
def linelogHandsDownRow : OpenClaim := { program := "ytchgnhinilehiaagreatdoor", sum := "be85d8b10d4fa21fac6ed1ba58f9d0c0828b91c12517e7be80e476e447b25b8e", func := "mergelens/mergelenslaw30.LinelogHandsDown", spec := "linelogHandsDown", inPlace := ["internal/bytealg.IndexByteString", "internal/bytealg.IndexString", "internal/bytealg.CountString"], unfollowed := true, recurses := true, named := ["internal/bytealg.MaxLen", "unicode/utf8.first", "unicode/utf8.acceptRanges"], apart := false, laid := [("unicode/utf8.acceptRanges", laid_unicode_utf8_acceptRanges), ("unicode/utf8.first", laid_unicode_utf8_first)] }
def LinelogHandsDownSaid : Prop := linelogHandsDownRow.holds Tryz.pinned (OpenSpec.ofChange linelogHandsDownSpec)

/-- ITS FALSE NEIGHBOUR: 'it returns false'. Refute it at one input. -/
def linelogHandsDownWrong : ChangeSpec := { name := "linelogHandsDown", fn := fun _ => fun
  | [d1, d2, d3, d4] => { results := [.lit (.bool false)], args := [d1, d2, d3, d4] }
  | _ => none }
def LinelogHandsDownWrongFalsely : Prop := linelogHandsDownRow.holds Tryz.pinned (OpenSpec.ofChange linelogHandsDownWrong)

/-- 'mergelenslaw30.LinelogLists': WHATEVER THE INPUT: true; the input reads as it did. -/
def linelogListsSpec : ChangeSpec := { name := "linelogLists", fn := fun _ => fun
  | [d1, d2, d3, d4] => { results := [.lit (.bool true)], args := [d1, d2, d3, d4] }
  | _ => none }
def linelogListsRow : OpenClaim := { program := "ytchgnhinilehiaagreatdoor", sum := "be85d8b10d4fa21fac6ed1ba58f9d0c0828b91c12517e7be80e476e447b25b8e", func := "mergelens/mergelenslaw30.LinelogLists", spec := "linelogLists", inPlace := ["internal/bytealg.IndexByteString", "internal/bytealg.IndexString", "internal/bytealg.CountString"], unfollowed := true, recurses := true, named := ["internal/bytealg.MaxLen", "unicode/utf8.first", "unicode/utf8.acceptRanges"], apart := false, laid := [("unicode/utf8.acceptRanges", laid_unicode_utf8_acceptRanges), ("unicode/utf8.first", laid_unicode_utf8_first)] }
def LinelogListsSaid : Prop := linelogListsRow.holds Tryz.pinned (OpenSpec.ofChange linelogListsSpec)

/-- ITS FALSE NEIGHBOUR: 'it returns false'. Refute it at one input. -/
def linelogListsWrong : ChangeSpec := { name := "linelogLists", fn := fun _ => fun
  | [d1, d2, d3, d4] => { results := [.lit (.bool false)], args := [d1, d2, d3, d4] }
  | _ => none }
def LinelogListsWrongFalsely : Prop := linelogListsRow.holds Tryz.pinned (OpenSpec.ofChange linelogListsWrong)

/-- 'mergelenslaw31.AnnotateTracked': WHATEVER THE INPUT: true; the input reads as it did. -/
def annotateTrackedSpec : ChangeSpec := { name := "annotateTracked", fn := fun _ => fun
  | [d1, d2, d3] => { results := [.lit (.bool true)], args := [d1, d2, d3] }
  | _ => none }
def annotateTrackedRow : OpenClaim := { program := "ytchgnhinilehiaagreatdoor", sum := "be85d8b10d4fa21fac6ed1ba58f9d0c0828b91c12517e7be80e476e447b25b8e", func := "mergelens/mergelenslaw31.AnnotateTracked", spec := "annotateTracked", inPlace := ["internal/bytealg.IndexByteString", "internal/bytealg.IndexString", "internal/bytealg.CountString"], unfollowed := true, recurses := true, named := ["internal/bytealg.MaxLen", "unicode/utf8.first", "unicode/utf8.acceptRanges"], apart := false, laid := [("unicode/utf8.acceptRanges", laid_unicode_utf8_acceptRanges), ("unicode/utf8.first", laid_unicode_utf8_first)] }
def AnnotateTrackedSaid : Prop := annotateTrackedRow.holds Tryz.pinned (OpenSpec.ofChange annotateTrackedSpec)

/-- ITS FALSE NEIGHBOUR: 'it returns false'. Refute it at one input. -/
def annotateTrackedWrong : ChangeSpec := { name := "annotateTracked", fn := fun _ => fun
  | [d1, d2, d3] => { results := [.lit (.bool false)], args := [d1, d2, d3] }
  | _ => none }
def AnnotateTrackedWrongFalsely : Prop := annotateTrackedRow.holds Tryz.pinned (OpenSpec.ofChange annotateTrackedWrong)

/- THE SECOND FORM. 'bulk': how many values and letters a reading holds, each counted each time it is reached (what is shared counts as often as it is met; a slice's spare places count too). A statement '..UptoSaid' is the law's where the arguments, and the package variables that the reading takes, are together of bulk at most 1048576: NARROWER than '..Said'. Prove '..Said' where nothing that the law and all that it calls make is longer than what came in: it says more and counts as full. Else prove '..UptoSaid'. A law counts once. -/
mutual
def uptoBulk {H : Type} : DataW H → Nat
  | .lit (.string bytes) => bytes.length + 1
  | .lit _ => 1
  | .nil => 1
  | .ptr d => uptoBulk d + 1
  | .slice elems spare => uptoBulkAll elems + uptoBulkAll spare + 1
  | .agg parts => uptoBulkAll parts + 1
  | .iface _ d => uptoBulk d + 1
  | .map entries => uptoBulkEntries entries + 1
  | .held _ => 1
def uptoBulkAll {H : Type} : List (DataW H) → Nat
  | [] => 0
  | d :: r => uptoBulk d + uptoBulkAll r
def uptoBulkEntries {H : Type} : List (Lit × DataW H) → Nat
  | [] => 0
  | x :: r => uptoBulkEntry x + uptoBulkEntries r
def uptoBulkEntry {H : Type} : Lit × DataW H → Nat
  | (.string bytes, d) => bytes.length + uptoBulk d + 1
  | (_, d) => uptoBulk d + 1
 end
def uptoSmall : (H : Type) → List (DataW H) → Bool := fun _ ds => decide (uptoBulkAll ds ≤ 1048576)
def OpenSpec.upto (s : _root_.Go.ChangeSpec) : _root_.Go.OpenSpec := { _root_.Go.OpenSpec.ofChange s with cond := some uptoSmall }

/-- 'mergelenslaw31.AnnotateBlames', WHERE WHAT IT READS IS OF BULK AT MOST 1048576: true; the input reads as it did. -/
def annotateBlamesUptoRow : OpenClaim := { program := "ytchgnhinilehiaagreatdoor", sum := "be85d8b10d4fa21fac6ed1ba58f9d0c0828b91c12517e7be80e476e447b25b8e", func := "mergelens/mergelenslaw31.AnnotateBlames", spec := "annotateBlames", inPlace := ["internal/bytealg.IndexByteString", "internal/bytealg.IndexString", "internal/bytealg.CountString"], unfollowed := true, recurses := true, named := ["internal/bytealg.MaxLen", "unicode/utf8.first", "unicode/utf8.acceptRanges"], apart := false, laid := [("unicode/utf8.acceptRanges", laid_unicode_utf8_acceptRanges), ("unicode/utf8.first", laid_unicode_utf8_first)], narrowed := true }
def AnnotateBlamesUptoSaid : Prop := annotateBlamesUptoRow.holds Tryz.pinned (OpenSpec.upto annotateBlamesSpec)

/-- 'mergelenslaw31.AnnotateRefuses', WHERE WHAT IT READS IS OF BULK AT MOST 1048576: true; the input reads as it did. -/
def annotateRefusesUptoRow : OpenClaim := { program := "ytchgnhinilehiaagreatdoor", sum := "be85d8b10d4fa21fac6ed1ba58f9d0c0828b91c12517e7be80e476e447b25b8e", func := "mergelens/mergelenslaw31.AnnotateRefuses", spec := "annotateRefuses", inPlace := ["internal/bytealg.IndexByteString", "internal/bytealg.IndexString", "internal/bytealg.CountString"], unfollowed := true, recurses := true, named := ["internal/bytealg.MaxLen", "unicode/utf8.first", "unicode/utf8.acceptRanges"], apart := false, laid := [("unicode/utf8.acceptRanges", laid_unicode_utf8_acceptRanges), ("unicode/utf8.first", laid_unicode_utf8_first)], narrowed := true }
def AnnotateRefusesUptoSaid : Prop := annotateRefusesUptoRow.holds Tryz.pinned (OpenSpec.upto annotateRefusesSpec)

/-- 'mergelenslaw30.LinelogLogs', WHERE WHAT IT READS IS OF BULK AT MOST 1048576: true; the input reads as it did. -/
def linelogLogsUptoRow : OpenClaim := { program := "ytchgnhinilehiaagreatdoor", sum := "be85d8b10d4fa21fac6ed1ba58f9d0c0828b91c12517e7be80e476e447b25b8e", func := "mergelens/mergelenslaw30.LinelogLogs", spec := "linelogLogs", inPlace := ["internal/bytealg.IndexByteString", "internal/bytealg.IndexString", "internal/bytealg.CountString"], unfollowed := true, recurses := true, named := ["internal/bytealg.MaxLen", "unicode/utf8.first", "unicode/utf8.acceptRanges"], apart := false, laid := [("unicode/utf8.acceptRanges", laid_unicode_utf8_acceptRanges), ("unicode/utf8.first", laid_unicode_utf8_first)], narrowed := true }
def LinelogLogsUptoSaid : Prop := linelogLogsUptoRow.holds Tryz.pinned (OpenSpec.upto linelogLogsSpec)

/-- 'mergelenslaw30.LinelogRefuses', WHERE WHAT IT READS IS OF BULK AT MOST 1048576: true; the input reads as it did. -/
def linelogRefusesUptoRow : OpenClaim := { program := "ytchgnhinilehiaagreatdoor", sum := "be85d8b10d4fa21fac6ed1ba58f9d0c0828b91c12517e7be80e476e447b25b8e", func := "mergelens/mergelenslaw30.LinelogRefuses", spec := "linelogRefuses", inPlace := ["internal/bytealg.IndexByteString", "internal/bytealg.IndexString", "internal/bytealg.CountString"], unfollowed := true, recurses := true, named := ["internal/bytealg.MaxLen", "unicode/utf8.first", "unicode/utf8.acceptRanges"], apart := false, laid := [("unicode/utf8.acceptRanges", laid_unicode_utf8_acceptRanges), ("unicode/utf8.first", laid_unicode_utf8_first)], narrowed := true }
def LinelogRefusesUptoSaid : Prop := linelogRefusesUptoRow.holds Tryz.pinned (OpenSpec.upto linelogRefusesSpec)

/-- 'mergelenslaw30.LinelogHandsDown', WHERE WHAT IT READS IS OF BULK AT MOST 1048576: true; the input reads as it did. -/
def linelogHandsDownUptoRow : OpenClaim := { program := "ytchgnhinilehiaagreatdoor", sum := "be85d8b10d4fa21fac6ed1ba58f9d0c0828b91c12517e7be80e476e447b25b8e", func := "mergelens/mergelenslaw30.LinelogHandsDown", spec := "linelogHandsDown", inPlace := ["internal/bytealg.IndexByteString", "internal/bytealg.IndexString", "internal/bytealg.CountString"], unfollowed := true, recurses := true, named := ["internal/bytealg.MaxLen", "unicode/utf8.first", "unicode/utf8.acceptRanges"], apart := false, laid := [("unicode/utf8.acceptRanges", laid_unicode_utf8_acceptRanges), ("unicode/utf8.first", laid_unicode_utf8_first)], narrowed := true }
def LinelogHandsDownUptoSaid : Prop := linelogHandsDownUptoRow.holds Tryz.pinned (OpenSpec.upto linelogHandsDownSpec)

/-- 'mergelenslaw30.LinelogLists', WHERE WHAT IT READS IS OF BULK AT MOST 1048576: true; the input reads as it did. -/
def linelogListsUptoRow : OpenClaim := { program := "ytchgnhinilehiaagreatdoor", sum := "be85d8b10d4fa21fac6ed1ba58f9d0c0828b91c12517e7be80e476e447b25b8e", func := "mergelens/mergelenslaw30.LinelogLists", spec := "linelogLists", inPlace := ["internal/bytealg.IndexByteString", "internal/bytealg.IndexString", "internal/bytealg.CountString"], unfollowed := true, recurses := true, named := ["internal/bytealg.MaxLen", "unicode/utf8.first", "unicode/utf8.acceptRanges"], apart := false, laid := [("unicode/utf8.acceptRanges", laid_unicode_utf8_acceptRanges), ("unicode/utf8.first", laid_unicode_utf8_first)], narrowed := true }
def LinelogListsUptoSaid : Prop := linelogListsUptoRow.holds Tryz.pinned (OpenSpec.upto linelogListsSpec)

/-- 'mergelenslaw31.AnnotateTracked', WHERE WHAT IT READS IS OF BULK AT MOST 1048576: true; the input reads as it did. -/
def annotateTrackedUptoRow : OpenClaim := { program := "ytchgnhinilehiaagreatdoor", sum := "be85d8b10d4fa21fac6ed1ba58f9d0c0828b91c12517e7be80e476e447b25b8e", func := "mergelens/mergelenslaw31.AnnotateTracked", spec := "annotateTracked", inPlace := ["internal/bytealg.IndexByteString", "internal/bytealg.IndexString", "internal/bytealg.CountString"], unfollowed := true, recurses := true, named := ["internal/bytealg.MaxLen", "unicode/utf8.first", "unicode/utf8.acceptRanges"], apart := false, laid := [("unicode/utf8.acceptRanges", laid_unicode_utf8_acceptRanges), ("unicode/utf8.first", laid_unicode_utf8_first)], narrowed := true }
def AnnotateTrackedUptoSaid : Prop := annotateTrackedUptoRow.holds Tryz.pinned (OpenSpec.upto annotateTrackedSpec)

end Rows
end Go.Proofs.YtchgnhinilehiaaGreatDoor
