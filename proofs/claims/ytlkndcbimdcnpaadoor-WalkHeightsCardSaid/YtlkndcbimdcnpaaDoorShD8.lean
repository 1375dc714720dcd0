/-
  A world that bears the listed variables as the program's text lays them.
-/
import Derived.Deep.DeepHandedRow
import Derived.LaidLaws
import Derived.ProofKit
import Derived.Test.YtlkndcbimdcnpaaDoorCards
import Derived.Test.YtlkndcbimdcnpaaDoorTie
import Derived.WalkKit

set_option linter.unusedSimpArgs false
set_option linter.unusedVariables false
set_option linter.unnecessarySimpa false
set_option maxRecDepth 100000
namespace Go.Proofs.YtlkndcbimdcnpaaDoor
open Go

/-- the cells of a datum of numbers -/
def dcells : Nat → DataW Unit → List Value
  | n + 1, .agg ps => ps.flatMap (dcells n)
  | _, .lit (.int k v) => [.int k v]
  | _, _ => []

def layHeap (h : Array Obj) : Array Obj :=
  (h.modify 1 fun
    | .cells _ t frozen => .cells (dcells 3 Rows.laid_unicode_utf8_first).toArray t frozen
    | o => o).modify 2 fun
    | .cells _ t frozen => .cells (dcells 3 Rows.laid_unicode_utf8_acceptRanges).toArray t frozen
    | o => o

theorem gFirst : Tryd.prog.globalNamed "unicode/utf8.first" = some 1 := by kernel_rfl
theorem gAccept : Tryd.prog.globalNamed "unicode/utf8.acceptRanges" = some 2 := by kernel_rfl

theorem laid_met (os : Os) (args : Array Value) : laidMet Tryd.prog [("unicode/utf8.acceptRanges", Rows.laid_unicode_utf8_acceptRanges), ("unicode/utf8.first", Rows.laid_unicode_utf8_first)]
    (({ World.holding Tryd.prog os ⟨#[], #[], []⟩ with heap := layHeap (World.holding Tryd.prog os ⟨#[], #[], []⟩).heap } : World).forCall (fun _ _ => 0) ⟨#[], args, []⟩).memory :=
  laidMet_of_run' 8 (by kernel_rfl) (by kernel_rfl)

end Go.Proofs.YtlkndcbimdcnpaaDoor
