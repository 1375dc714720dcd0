/-
  NARROWER THAN 'FOR EVERY INPUT', by the rows' own cells (each row's printed sentence says how): WalkOrders: laid · WalkLevels: laid · WalkTopological: laid · WalkLatest: laid · WalkStarts: laid · WalkHeights: laid.
  DERIVED. THE GIVEN ROWS OF THIS SEAT. 6 by the template 'for every input the law returns true; each argument reads behind the call as it read before'; 0 by the template 'total and deterministic' (their statements: YtlkndcbimdcnpaaDoorTotals.lean).
  GIVEN WITH THE SEED: the statements are not yours to turn. If you find one false, say at which input.
  Laid BY PROGRAM, IN A SANDBOX (cutbox-rows.mjs): the forced cells as the released guide's own fill.sh prints them over the translation c22627f4aa082211… (all of the seat's roots in one cut). By AI agents, Wed Nov 11 2026. No macro, syntax, notation, axiom, sorry.
-/
import Derived.Test.YtlkndcbimdcnpaaDoorChecked
import GoSem.PinnedTables
import GoSem.Claim
import GoSem.ClaimJoined
import GoSem.ClaimMapViews
import Derived.JoinedTies
import Derived.KernelRfl
namespace Go.Proofs.YtlkndcbimdcnpaaDoor
/- THE CELL 'sum', in the pinned program and in every row, IS THE sha256 OF THE DUMP (.gsa) THAT YtlkndcbimdcnpaaDoorProg.lean LOADS. Nothing in Lean hashes anything: it is a label: what it is worth is what the hold of that sum in a sandbox is worth. -/
noncomputable def Tryd.pinned : Pinned := { name := "ytlkndcbimdcnpaadoor", sum := "c22627f4aa0822110ab1bf7dd5227f2807e5ab69c4d080e7753cef70f562477a", checked := Tryd.checked }
namespace Rows
def none {H : Type} : Left H := { results := [], args := [] }

/- WHAT THE LISTED PACKAGE-LEVEL VARIABLES READ AS WHEN THE CALL BEGINS. Each datum BY PROGRAM (the guide's laid-datum.mjs) off the statement by which the dump's own 'gosem.cut.vars' lays the variable. In a bare row this is a premise. The card (YtlkndcbimdcnpaaDoorCards.lean) ties it to the program's text. -/
def laid_unicode_utf8_acceptRanges {H : Type} : DataW H := .agg [.agg [.lit (.int .u8 128), .lit (.int .u8 191)], .agg [.lit (.int .u8 160), .lit (.int .u8 191)], .agg [.lit (.int .u8 128), .lit (.int .u8 159)], .agg [.lit (.int .u8 144), .lit (.int .u8 191)], .agg [.lit (.int .u8 128), .lit (.int .u8 143)], .agg [.lit (.int .u8 0), .lit (.int .u8 0)], .agg [.lit (.int .u8 0), .lit (.int .u8 0)], .agg [.lit (.int .u8 0), .lit (.int .u8 0)], .agg [.lit (.int .u8 0), .lit (.int .u8 0)], .agg [.lit (.int .u8 0), .lit (.int .u8 0)], .agg [.lit (.int .u8 0), .lit (.int .u8 0)], .agg [.lit (.int .u8 0), .lit (.int .u8 0)], .agg [.lit (.int .u8 0), .lit (.int .u8 0)], .agg [.lit (.int .u8 0), .lit (.int .u8 0)], .agg [.lit (.int .u8 0), .lit (.int .u8 0)], .agg [.lit (.int .u8 0), .lit (.int .u8 0)]]
/-- One of Go's own tables, pinned by name: the form's constant. -/
def laid_unicode_utf8_first : DataW Unit := Go.Pinned.utf8First

/-- 'mergelenslaw24.WalkOrders': WHATEVER THE INPUT: true; the input reads as it did. -/
def walkOrdersSpec : ChangeSpec := { name := "walkOrders", fn := fun _ => fun
  | [d1, d2] => { results := [.lit (.bool true)], args := [d1, d2] }
  | _ => none }
def walkOrdersRow : OpenClaim := { program := "ytlkndcbimdcnpaadoor", sum := "c22627f4aa0822110ab1bf7dd5227f2807e5ab69c4d080e7753cef70f562477a", func := "mergelens/mergelenslaw24.WalkOrders", spec := "walkOrders", inPlace := ["internal/bytealg.IndexByteString", "internal/bytealg.IndexString", "internal/bytealg.CountString"], unfollowed := true, recurses := true, named := ["internal/bytealg.MaxLen", "unicode/utf8.first", "unicode/utf8.acceptRanges"], apart := false, laid := [("unicode/utf8.acceptRanges", laid_unicode_utf8_acceptRanges), ("unicode/utf8.first", laid_unicode_utf8_first)] }
def WalkOrdersSaid : Prop := walkOrdersRow.holds Tryd.pinned (OpenSpec.ofChange walkOrdersSpec)

/-- ITS FALSE NEIGHBOUR: 'it returns false'. Refute it at one input. -/
def walkOrdersWrong : ChangeSpec := { name := "walkOrders", fn := fun _ => fun
  | [d1, d2] => { results := [.lit (.bool false)], args := [d1, d2] }
  | _ => none }
def WalkOrdersWrongFalsely : Prop := walkOrdersRow.holds Tryd.pinned (OpenSpec.ofChange walkOrdersWrong)

/-- 'mergelenslaw24.WalkLevels': WHATEVER THE INPUT: true; the input reads as it did. -/
def walkLevelsSpec : ChangeSpec := { name := "walkLevels", fn := fun _ => fun
  | [d1, d2] => { results := [.lit (.bool true)], args := [d1, d2] }
  | _ => none }
def walkLevelsRow : OpenClaim := { program := "ytlkndcbimdcnpaadoor", sum := "c22627f4aa0822110ab1bf7dd5227f2807e5ab69c4d080e7753cef70f562477a", func := "mergelens/mergelenslaw24.WalkLevels", spec := "walkLevels", inPlace := ["internal/bytealg.IndexByteString", "internal/bytealg.IndexString", "internal/bytealg.CountString"], unfollowed := true, recurses := true, named := ["internal/bytealg.MaxLen", "unicode/utf8.first", "unicode/utf8.acceptRanges"], apart := false, laid := [("unicode/utf8.acceptRanges", laid_unicode_utf8_acceptRanges), ("unicode/utf8.first", laid_unicode_utf8_first)] }
def WalkLevelsSaid : Prop := walkLevelsRow.holds Tryd.pinned (OpenSpec.ofChange walkLevelsSpec)

/-- ITS FALSE NEIGHBOUR: 'it returns false'. Refute it at one input. -/
def walkLevelsWrong : ChangeSpec := { name := "walkLevels", fn := fun _ => fun
  | [d1, d2] => { results := [.lit (.bool false)], args := [d1, d2] }
  | _ => none }
def WalkLevelsWrongFalsely : Prop := walkLevelsRow.holds Tryd.pinned (OpenSpec.ofChange walkLevelsWrong)

/-- 'mergelenslaw24.WalkTopological': WHATEVER THE INPUT: true; the input reads as it did. -/
def walkTopologicalSpec : ChangeSpec := { name := "walkTopological", fn := fun _ => fun
  | [d1, d2] => { results := [.lit (.bool true)], args := [d1, d2] }
  | _ => none }
def walkTopologicalRow : OpenClaim := { program := "ytlkndcbimdcnpaadoor", sum := "c22627f4aa0822110ab1bf7dd5227f2807e5ab69c4d080e7753cef70f562477a", func := "mergelens/mergelenslaw24.WalkTopological", spec := "walkTopological", inPlace := ["internal/bytealg.IndexByteString", "internal/bytealg.IndexString", "internal/bytealg.CountString"], unfollowed := true, recurses := true, named := ["internal/bytealg.MaxLen", "unicode/utf8.first", "unicode/utf8.acceptRanges"], apart := false, laid := [("unicode/utf8.acceptRanges", laid_unicode_utf8_acceptRanges), ("unicode/utf8.first", laid_unicode_utf8_first)] }
def WalkTopologicalSaid : Prop := walkTopologicalRow.holds Tryd.pinned (OpenSpec.ofChange walkTopologicalSpec)

/-- ITS FALSE NEIGHBOUR: 'it returns false'. Refute it at one input. -/
def walkTopologicalWrong : ChangeSpec := { name := "walkTopological", fn := fun _ => fun
  | [d1, d2] => { results := [.lit (.bool false)], args := [d1, d2] }
  | _ => none }
def WalkTopologicalWrongFalsely : Prop := walkTopologicalRow.holds Tryd.pinned (OpenSpec.ofChange walkTopologicalWrong)

/-- 'mergelenslaw24.WalkLatest': WHATEVER THE INPUT: true; the input reads as it did. -/
def walkLatestSpec : ChangeSpec := { name := "walkLatest", fn := fun _ => fun
  | [d1, d2] => { results := [.lit (.bool true)], args := [d1, d2] }
  | _ => none }
def walkLatestRow : OpenClaim := { program := "ytlkndcbimdcnpaadoor", sum := "c22627f4aa0822110ab1bf7dd5227f2807e5ab69c4d080e7753cef70f562477a", func := "mergelens/mergelenslaw24.WalkLatest", spec := "walkLatest", inPlace := ["internal/bytealg.IndexByteString", "internal/bytealg.IndexString", "internal/bytealg.CountString"], unfollowed := true, recurses := true, named := ["internal/bytealg.MaxLen", "unicode/utf8.first", "unicode/utf8.acceptRanges"], apart := false, laid := [("unicode/utf8.acceptRanges", laid_unicode_utf8_acceptRanges), ("unicode/utf8.first", laid_unicode_utf8_first)] }
def WalkLatestSaid : Prop := walkLatestRow.holds Tryd.pinned (OpenSpec.ofChange walkLatestSpec)

/-- ITS FALSE NEIGHBOUR: 'it returns false'. Refute it at one input. -/
def walkLatestWrong : ChangeSpec := { name := "walkLatest", fn := fun _ => fun
  | [d1, d2] => { results := [.lit (.bool false)], args := [d1, d2] }
  | _ => none }
def WalkLatestWrongFalsely : Prop := walkLatestRow.holds Tryd.pinned (OpenSpec.ofChange walkLatestWrong)

/-- 'mergelenslaw24.WalkStarts': WHATEVER THE INPUT: true; the input reads as it did. -/
def walkStartsSpec : ChangeSpec := { name := "walkStarts", fn := fun _ => fun
  | [d1, d2, d3] => { results := [.lit (.bool true)], args := [d1, d2, d3] }
  | _ => none }
def walkStartsRow : OpenClaim := { program := "ytlkndcbimdcnpaadoor", sum := "c22627f4aa0822110ab1bf7dd5227f2807e5ab69c4d080e7753cef70f562477a", func := "mergelens/mergelenslaw24.WalkStarts", spec := "walkStarts", inPlace := ["internal/bytealg.IndexByteString", "internal/bytealg.IndexString", "internal/bytealg.CountString"], unfollowed := true, recurses := true, named := ["internal/bytealg.MaxLen", "unicode/utf8.first", "unicode/utf8.acceptRanges"], apart := false, laid := [("unicode/utf8.acceptRanges", laid_unicode_utf8_acceptRanges), ("unicode/utf8.first", laid_unicode_utf8_first)] }
def WalkStartsSaid : Prop := walkStartsRow.holds Tryd.pinned (OpenSpec.ofChange walkStartsSpec)

/-- ITS FALSE NEIGHBOUR: 'it returns false'. Refute it at one input. -/
def walkStartsWrong : ChangeSpec := { name := "walkStarts", fn := fun _ => fun
  | [d1, d2, d3] => { results := [.lit (.bool false)], args := [d1, d2, d3] }
  | _ => none }
def WalkStartsWrongFalsely : Prop := walkStartsRow.holds Tryd.pinned (OpenSpec.ofChange walkStartsWrong)

/-- 'mergelenslaw24.WalkHeights': WHATEVER THE INPUT: true; the input reads as it did. -/
def walkHeightsSpec : ChangeSpec := { name := "walkHeights", fn := fun _ => fun
  | [d] => { results := [.lit (.bool true)], args := [d] }
  | _ => none }
def walkHeightsRow : OpenClaim := { program := "ytlkndcbimdcnpaadoor", sum := "c22627f4aa0822110ab1bf7dd5227f2807e5ab69c4d080e7753cef70f562477a", func := "mergelens/mergelenslaw24.WalkHeights", spec := "walkHeights", inPlace := ["internal/bytealg.IndexByteString", "internal/bytealg.IndexString", "internal/bytealg.CountString"], unfollowed := true, recurses := true, named := ["internal/bytealg.MaxLen", "unicode/utf8.first", "unicode/utf8.acceptRanges"], apart := false, laid := [("unicode/utf8.acceptRanges", laid_unicode_utf8_acceptRanges), ("unicode/utf8.first", laid_unicode_utf8_first)] }
def WalkHeightsSaid : Prop := walkHeightsRow.holds Tryd.pinned (OpenSpec.ofChange walkHeightsSpec)

/-- ITS FALSE NEIGHBOUR: 'it returns false'. Refute it at one input. -/
def walkHeightsWrong : ChangeSpec := { name := "walkHeights", fn := fun _ => fun
  | [d] => { results := [.lit (.bool false)], args := [d] }
  | _ => none }
def WalkHeightsWrongFalsely : Prop := walkHeightsRow.holds Tryd.pinned (OpenSpec.ofChange walkHeightsWrong)

/- THE SECOND FORM. 'bulk': how many values and letters a reading holds, each counted each time it is reached (what is shared counts as often as it is met; a slice's spare places count too). A statement '..UptoSaid' is the law's where the arguments, and the package variables that the reading takes, are together of bulk at most 1048576: NARROWER than '..Said'. Prove '..Said' where nothing that the law and all that it calls make is longer than what came in: it says more and counts as full. Else prove '..UptoSaid'. A law counts once. -/
mutual
def uptoBulk {H : Type} : DataW H → Nat
  | .lit (.string bytes) => bytes.length + 1
  | .lit _ => 1
  | .nil => 1
  | .ptr d => uptoBulk d + 1
  | .slice elems spare => uptoBulkAll elems + uptoBulkAll spare + 1
  | .agg parts => uptoBulkAll parts + 1
  | .iface _ d => uptoBulk d + 1
  | .map entries => uptoBulkEntries entries + 1
  | .held _ => 1
def uptoBulkAll {H : Type} : List (DataW H) → Nat
  | [] => 0
  | d :: r => uptoBulk d + uptoBulkAll r
def uptoBulkEntries {H : Type} : List (Lit × DataW H) → Nat
  | [] => 0
  | x :: r => uptoBulkEntry x + uptoBulkEntries r
def uptoBulkEntry {H : Type} : Lit × DataW H → Nat
  | (.string bytes, d) => bytes.length + uptoBulk d + 1
  | (_, d) => uptoBulk d + 1
 end
def uptoSmall : (H : Type) → List (DataW H) → Bool := fun _ ds => decide (uptoBulkAll ds ≤ 1048576)
def OpenSpec.upto (s : _root_.Go.ChangeSpec) : _root_.Go.OpenSpec := { _root_.Go.OpenSpec.ofChange s with cond := some uptoSmall }

/-- 'mergelenslaw24.WalkOrders', WHERE WHAT IT READS IS OF BULK AT MOST 1048576: true; the input reads as it did. -/
def walkOrdersUptoRow : OpenClaim := { program := "ytlkndcbimdcnpaadoor", sum := "c22627f4aa0822110ab1bf7dd5227f2807e5ab69c4d080e7753cef70f562477a", func := "mergelens/mergelenslaw24.WalkOrders", spec := "walkOrders", inPlace := ["internal/bytealg.IndexByteString", "internal/bytealg.IndexString", "internal/bytealg.CountString"], unfollowed := true, recurses := true, named := ["internal/bytealg.MaxLen", "unicode/utf8.first", "unicode/utf8.acceptRanges"], apart := false, laid := [("unicode/utf8.acceptRanges", laid_unicode_utf8_acceptRanges), ("unicode/utf8.first", laid_unicode_utf8_first)], narrowed := true }
def WalkOrdersUptoSaid : Prop := walkOrdersUptoRow.holds Tryd.pinned (OpenSpec.upto walkOrdersSpec)

/-- 'mergelenslaw24.WalkLevels', WHERE WHAT IT READS IS OF BULK AT MOST 1048576: true; the input reads as it did. -/
def walkLevelsUptoRow : OpenClaim := { program := "ytlkndcbimdcnpaadoor", sum := "c22627f4aa0822110ab1bf7dd5227f2807e5ab69c4d080e7753cef70f562477a", func := "mergelens/mergelenslaw24.WalkLevels", spec := "walkLevels", inPlace := ["internal/bytealg.IndexByteString", "internal/bytealg.IndexString", "internal/bytealg.CountString"], unfollowed := true, recurses := true, named := ["internal/bytealg.MaxLen", "unicode/utf8.first", "unicode/utf8.acceptRanges"], apart := false, laid := [("unicode/utf8.acceptRanges", laid_unicode_utf8_acceptRanges), ("unicode/utf8.first", laid_unicode_utf8_first)], narrowed := true }
def WalkLevelsUptoSaid : Prop := walkLevelsUptoRow.holds Tryd.pinned (OpenSpec.upto walkLevelsSpec)

/-- 'mergelenslaw24.WalkTopological', WHERE WHAT IT READS IS OF BULK AT MOST 1048576: true; the input reads as it did. -/
def walkTopologicalUptoRow : OpenClaim := { program := "ytlkndcbimdcnpaadoor", sum := "c22627f4aa0822110ab1bf7dd5227f2807e5ab69c4d080e7753cef70f562477a", func := "mergelens/mergelenslaw24.WalkTopological", spec := "walkTopological", inPlace := ["internal/bytealg.IndexByteString", "internal/bytealg.IndexString", "internal/bytealg.CountString"], unfollowed := true, recurses := true, named := ["internal/bytealg.MaxLen", "unicode/utf8.first", "unicode/utf8.acceptRanges"], apart := false, laid := [("unicode/utf8.acceptRanges", laid_unicode_utf8_acceptRanges), ("unicode/utf8.first", laid_unicode_utf8_first)], narrowed := true }
def WalkTopologicalUptoSaid : Prop := walkTopologicalUptoRow.holds Tryd.pinned (OpenSpec.upto walkTopologicalSpec)

/-- 'mergelenslaw24.WalkLatest', WHERE WHAT IT READS IS OF BULK AT MOST 1048576: true; the input reads as it did. -/
def walkLatestUptoRow : OpenClaim := { program := "ytlkndcbimdcnpaadoor", sum := "c22627f4aa0822110ab1bf7dd5227f2807e5ab69c4d080e7753cef70f562477a", func := "mergelens/mergelenslaw24.WalkLatest", spec := "walkLatest", inPlace := ["internal/bytealg.IndexByteString", "internal/bytealg.IndexString", "internal/bytealg.CountString"], unfollowed := true, recurses := true, named := ["internal/bytealg.MaxLen", "unicode/utf8.first", "unicode/utf8.acceptRanges"], apart := false, laid := [("unicode/utf8.acceptRanges", laid_unicode_utf8_acceptRanges), ("unicode/utf8.first", laid_unicode_utf8_first)], narrowed := true }
def WalkLatestUptoSaid : Prop := walkLatestUptoRow.holds Tryd.pinned (OpenSpec.upto walkLatestSpec)

/-- 'mergelenslaw24.WalkStarts', WHERE WHAT IT READS IS OF BULK AT MOST 1048576: true; the input reads as it did. -/
def walkStartsUptoRow : OpenClaim := { program := "ytlkndcbimdcnpaadoor", sum := "c22627f4aa0822110ab1bf7dd5227f2807e5ab69c4d080e7753cef70f562477a", func := "mergelens/mergelenslaw24.WalkStarts", spec := "walkStarts", inPlace := ["internal/bytealg.IndexByteString", "internal/bytealg.IndexString", "internal/bytealg.CountString"], unfollowed := true, recurses := true, named := ["internal/bytealg.MaxLen", "unicode/utf8.first", "unicode/utf8.acceptRanges"], apart := false, laid := [("unicode/utf8.acceptRanges", laid_unicode_utf8_acceptRanges), ("unicode/utf8.first", laid_unicode_utf8_first)], narrowed := true }
def WalkStartsUptoSaid : Prop := walkStartsUptoRow.holds Tryd.pinned (OpenSpec.upto walkStartsSpec)

/-- 'mergelenslaw24.WalkHeights', WHERE WHAT IT READS IS OF BULK AT MOST 1048576: true; the input reads as it did. -/
def walkHeightsUptoRow : OpenClaim := { program := "ytlkndcbimdcnpaadoor", sum := "c22627f4aa0822110ab1bf7dd5227f2807e5ab69c4d080e7753cef70f562477a", func := "mergelens/mergelenslaw24.WalkHeights", spec := "walkHeights", inPlace := ["internal/bytealg.IndexByteString", "internal/bytealg.IndexString", "internal/bytealg.CountString"], unfollowed := true, recurses := true, named := ["internal/bytealg.MaxLen", "unicode/utf8.first", "unicode/utf8.acceptRanges"], apart := false, laid := [("unicode/utf8.acceptRanges", laid_unicode_utf8_acceptRanges), ("unicode/utf8.first", laid_unicode_utf8_first)], narrowed := true }
def WalkHeightsUptoSaid : Prop := walkHeightsUptoRow.holds Tryd.pinned (OpenSpec.upto walkHeightsSpec)

end Rows
end Go.Proofs.YtlkndcbimdcnpaaDoor
