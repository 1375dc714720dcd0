/-
  A world that bears the listed variables as the program's text lays them.
-/
import Derived.Test.YtafcebkjmeinnaaGreatDoorAe3
import Derived.Deep.DeepHandedRow
import Derived.LaidLaws
import Derived.Lib.LaidU8
import Derived.ProofKit
import Derived.Test.YtafcebkjmeinnaaGreatDoorCards
import Derived.Test.YtafcebkjmeinnaaGreatDoorTie
import Derived.WalkKit

set_option linter.unusedSimpArgs false
set_option linter.unusedVariables false
set_option linter.unnecessarySimpa false
set_option maxRecDepth 100000
namespace Go.Proofs.YtafcebkjmeinnaaGreatDoor
open Go Go.AE

/-- the cells of a datum of numbers -/
def dcells : Nat → DataW Unit → List Value
  | n + 1, .agg ps => ps.flatMap (dcells n)
  | _, .lit (.int k v) => [.int k v]
  | _, _ => []

def lay1 (h : Array Obj) (g : Nat) (d : DataW Unit) : Array Obj := h.modify g fun
  | .cells _ t frozen => .cells (dcells 3 d).toArray t frozen
  | o => o

def layHeap (h : Array Obj) : Array Obj :=
  lay1 (lay1 (lay1 (lay1 (lay1 h 1 Rows.laid_unicode_utf8_first) 2 Rows.laid_unicode_utf8_acceptRanges) 3 Rows.laid_internal_strconv_uint64pow10) 4 Rows.laid_math_bits_deBruijn32tab) 5 Rows.laid_math_bits_deBruijn64tab

theorem laid_met (os : Os) (args : Array Value) : laidMet Tryz.prog [("math/bits.deBruijn32tab", Rows.laid_math_bits_deBruijn32tab), ("math/bits.deBruijn64tab", Rows.laid_math_bits_deBruijn64tab), ("internal/strconv.uint64pow10", Rows.laid_internal_strconv_uint64pow10), ("unicode/utf8.acceptRanges", Rows.laid_unicode_utf8_acceptRanges), ("unicode/utf8.first", Rows.laid_unicode_utf8_first)]
    (({ World.holding Tryz.prog os ⟨#[], #[], []⟩ with heap := layHeap (World.holding Tryz.prog os ⟨#[], #[], []⟩).heap } : World).forCall (fun _ _ => 0) ⟨#[], args, []⟩).memory :=
  laidMet_of_run' 8 (by kernel_rfl) (by kernel_rfl)

theorem pow_is : (Rows.laid_internal_strconv_uint64pow10 : DataW Unit) = Lib.tabData .u64 pow10Z := by kernel_rfl
theorem pow_arr : Tryz.prog.underlying 280 = some (.array 20 127) := by kernel_rfl

theorem powTab {W : World} (h : laidMetH Tryz.prog [("math/bits.deBruijn32tab", Rows.laid_math_bits_deBruijn32tab), ("math/bits.deBruijn64tab", Rows.laid_math_bits_deBruijn64tab), ("internal/strconv.uint64pow10", Rows.laid_internal_strconv_uint64pow10), ("unicode/utf8.acceptRanges", Rows.laid_unicode_utf8_acceptRanges), ("unicode/utf8.first", Rows.laid_unicode_utf8_first)] W) : powTabOk Tryz.prog W := by
  have h : laidMet Tryz.prog [("math/bits.deBruijn32tab", Rows.laid_math_bits_deBruijn32tab), ("math/bits.deBruijn64tab", Rows.laid_math_bits_deBruijn64tab), ("internal/strconv.uint64pow10", Rows.laid_internal_strconv_uint64pow10), ("unicode/utf8.acceptRanges", Rows.laid_unicode_utf8_acceptRanges), ("unicode/utf8.first", Rows.laid_unicode_utf8_first)] W := h
  have h3 : Lib.VarReads Tryz.prog W "internal/strconv.uint64pow10" Rows.laid_internal_strconv_uint64pow10 := Lib.laidMet.reads h (.tail _ (.tail _ (.head _)))
  obtain ⟨g, t, cs, fuel, p, hg, hty, hvar, hd⟩ := h3
  have g3 : Tryz.prog.globalNamed "internal/strconv.uint64pow10" = some 3 := by kernel_rfl
  have t3 : (Tryz.prog.globals[3]?).map (·.type) = some 280 := by kernel_rfl
  obtain rfl := Option.some.inj (g3.symm.trans hg)
  obtain rfl := Option.some.inj (t3.symm.trans hty)
  rw [pow_is] at hd
  have hcs := Lib.cells_of_tab pow_arr (e := 127) (by kernel_rfl) (by kernel_rfl) (by kernel_rfl) hd
  intro g' hg'
  obtain rfl := Option.some.inj (g3.symm.trans hg')
  refine ⟨of_decide_eq_true (by kernel_rfl), ?_⟩
  show W.var? Tryz.prog "internal/strconv.uint64pow10" = _
  rw [hvar, ← hcs]

end Go.Proofs.YtafcebkjmeinnaaGreatDoor
