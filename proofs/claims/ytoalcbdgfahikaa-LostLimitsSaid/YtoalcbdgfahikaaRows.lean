/-
  No cell of these rows narrows 'for every input' (looked for: loops, veiled, ifaces, maps, wideKeys, modest, calm, conditions, laid).
  DERIVED. THE GIVEN ROWS OF THIS SEAT. 10 by the template 'for every input the law returns true; each argument reads behind the call as it read before'; 0 by the template 'total and deterministic' (their statements: YtoalcbdgfahikaaTotals.lean).
  GIVEN WITH THE SEED: the statements are not yours to turn. If you find one false, say at which input.
  Laid BY PROGRAM, IN A SANDBOX (cutbox-rows.mjs): the forced cells as the released guide's own fill.sh prints them over the translation b48c6b251d9c7ed7… (all of the seat's roots in one cut). By AI agents, Wed Nov 11 2026. No macro, syntax, notation, axiom, sorry.
-/
import Derived.Test.YtoalcbdgfahikaaChecked
import GoSem.Claim
import GoSem.ClaimJoined
import GoSem.ClaimMapViews
import Derived.JoinedTies
import Derived.KernelRfl
namespace Go.Proofs.Ytoalcbdgfahikaa
/- THE CELL 'sum', in the pinned program and in every row, IS THE sha256 OF THE DUMP (.gsa) THAT YtoalcbdgfahikaaProg.lean LOADS. Nothing in Lean hashes anything: it is a label: what it is worth is what the hold of that sum in a sandbox is worth. -/
noncomputable def Try.pinned : Pinned := { name := "ytoalcbdgfahikaa", sum := "b48c6b251d9c7ed7358257ed9a23926fe3908782e736ab7ffbeb57d90af45ce5", checked := Try.checked }
namespace Rows
def none {H : Type} : Left H := { results := [], args := [] }

/-- 'mergelenslaw09.ShortestMetric': WHATEVER THE INPUT: true; the input reads as it did. -/
def shortestMetricSpec : ChangeSpec := { name := "shortestMetric", fn := fun _ => fun
  | [d1, d2] => { results := [.lit (.bool true)], args := [d1, d2] }
  | _ => none }
def shortestMetricRow : OpenClaim := { program := "ytoalcbdgfahikaa", sum := "b48c6b251d9c7ed7358257ed9a23926fe3908782e736ab7ffbeb57d90af45ce5", func := "mergelens/mergelenslaw09.ShortestMetric", spec := "shortestMetric", unfollowed := true, recurses := true, apart := false }
def ShortestMetricSaid : Prop := shortestMetricRow.holds Try.pinned (OpenSpec.ofChange shortestMetricSpec)

/-- ITS FALSE NEIGHBOUR: 'it returns false'. Refute it at one input. -/
def shortestMetricWrong : ChangeSpec := { name := "shortestMetric", fn := fun _ => fun
  | [d1, d2] => { results := [.lit (.bool false)], args := [d1, d2] }
  | _ => none }
def ShortestMetricWrongFalsely : Prop := shortestMetricRow.holds Try.pinned (OpenSpec.ofChange shortestMetricWrong)

/-- 'mergelenslaw09.ShortestPrefix': WHATEVER THE INPUT: true; the input reads as it did. -/
def shortestPrefixSpec : ChangeSpec := { name := "shortestPrefix", fn := fun _ => fun
  | [d1, d2, d3] => { results := [.lit (.bool true)], args := [d1, d2, d3] }
  | _ => none }
def shortestPrefixRow : OpenClaim := { program := "ytoalcbdgfahikaa", sum := "b48c6b251d9c7ed7358257ed9a23926fe3908782e736ab7ffbeb57d90af45ce5", func := "mergelens/mergelenslaw09.ShortestPrefix", spec := "shortestPrefix", unfollowed := true, recurses := true, apart := false }
def ShortestPrefixSaid : Prop := shortestPrefixRow.holds Try.pinned (OpenSpec.ofChange shortestPrefixSpec)

/-- ITS FALSE NEIGHBOUR: 'it returns false'. Refute it at one input. -/
def shortestPrefixWrong : ChangeSpec := { name := "shortestPrefix", fn := fun _ => fun
  | [d1, d2, d3] => { results := [.lit (.bool false)], args := [d1, d2, d3] }
  | _ => none }
def ShortestPrefixWrongFalsely : Prop := shortestPrefixRow.holds Try.pinned (OpenSpec.ofChange shortestPrefixWrong)

/-- 'mergelenslaw09.ShortestScripts': WHATEVER THE INPUT: true; the input reads as it did. -/
def shortestScriptsSpec : ChangeSpec := { name := "shortestScripts", fn := fun _ => fun
  | [d1, d2, d3, d4] => { results := [.lit (.bool true)], args := [d1, d2, d3, d4] }
  | _ => none }
def shortestScriptsRow : OpenClaim := { program := "ytoalcbdgfahikaa", sum := "b48c6b251d9c7ed7358257ed9a23926fe3908782e736ab7ffbeb57d90af45ce5", func := "mergelens/mergelenslaw09.ShortestScripts", spec := "shortestScripts", unfollowed := true, recurses := true, apart := false }
def ShortestScriptsSaid : Prop := shortestScriptsRow.holds Try.pinned (OpenSpec.ofChange shortestScriptsSpec)

/-- ITS FALSE NEIGHBOUR: 'it returns false'. Refute it at one input. -/
def shortestScriptsWrong : ChangeSpec := { name := "shortestScripts", fn := fun _ => fun
  | [d1, d2, d3, d4] => { results := [.lit (.bool false)], args := [d1, d2, d3, d4] }
  | _ => none }
def ShortestScriptsWrongFalsely : Prop := shortestScriptsRow.holds Try.pinned (OpenSpec.ofChange shortestScriptsWrong)

/-- 'mergelenslaw09.ShortestLeast': WHATEVER THE INPUT: true; the input reads as it did. -/
def shortestLeastSpec : ChangeSpec := { name := "shortestLeast", fn := fun _ => fun
  | [d1, d2, d3] => { results := [.lit (.bool true)], args := [d1, d2, d3] }
  | _ => none }
def shortestLeastRow : OpenClaim := { program := "ytoalcbdgfahikaa", sum := "b48c6b251d9c7ed7358257ed9a23926fe3908782e736ab7ffbeb57d90af45ce5", func := "mergelens/mergelenslaw09.ShortestLeast", spec := "shortestLeast", unfollowed := true, recurses := true, apart := false }
def ShortestLeastSaid : Prop := shortestLeastRow.holds Try.pinned (OpenSpec.ofChange shortestLeastSpec)

/-- ITS FALSE NEIGHBOUR: 'it returns false'. Refute it at one input. -/
def shortestLeastWrong : ChangeSpec := { name := "shortestLeast", fn := fun _ => fun
  | [d1, d2, d3] => { results := [.lit (.bool false)], args := [d1, d2, d3] }
  | _ => none }
def ShortestLeastWrongFalsely : Prop := shortestLeastRow.holds Try.pinned (OpenSpec.ofChange shortestLeastWrong)

/-- 'mergelenslaw09.ShortestLimits': WHATEVER THE INPUT: true; the input reads as it did. -/
def shortestLimitsSpec : ChangeSpec := { name := "shortestLimits", fn := fun _ => fun
  | [d] => { results := [.lit (.bool true)], args := [d] }
  | _ => none }
def shortestLimitsRow : OpenClaim := { program := "ytoalcbdgfahikaa", sum := "b48c6b251d9c7ed7358257ed9a23926fe3908782e736ab7ffbeb57d90af45ce5", func := "mergelens/mergelenslaw09.ShortestLimits", spec := "shortestLimits", unfollowed := true, recurses := true, apart := false }
def ShortestLimitsSaid : Prop := shortestLimitsRow.holds Try.pinned (OpenSpec.ofChange shortestLimitsSpec)

/-- ITS FALSE NEIGHBOUR: 'it returns false'. Refute it at one input. -/
def shortestLimitsWrong : ChangeSpec := { name := "shortestLimits", fn := fun _ => fun
  | [d] => { results := [.lit (.bool false)], args := [d] }
  | _ => none }
def ShortestLimitsWrongFalsely : Prop := shortestLimitsRow.holds Try.pinned (OpenSpec.ofChange shortestLimitsWrong)

/-- 'mergelenslaw15.LostCoalesces': WHATEVER THE INPUT: true; the input reads as it did. -/
def lostCoalescesSpec : ChangeSpec := { name := "lostCoalesces", fn := fun _ => fun
  | [d1, d2, d3] => { results := [.lit (.bool true)], args := [d1, d2, d3] }
  | _ => none }
def lostCoalescesRow : OpenClaim := { program := "ytoalcbdgfahikaa", sum := "b48c6b251d9c7ed7358257ed9a23926fe3908782e736ab7ffbeb57d90af45ce5", func := "mergelens/mergelenslaw15.LostCoalesces", spec := "lostCoalesces", unfollowed := true, recurses := true, apart := false }
def LostCoalescesSaid : Prop := lostCoalescesRow.holds Try.pinned (OpenSpec.ofChange lostCoalescesSpec)

/-- ITS FALSE NEIGHBOUR: 'it returns false'. Refute it at one input. -/
def lostCoalescesWrong : ChangeSpec := { name := "lostCoalesces", fn := fun _ => fun
  | [d1, d2, d3] => { results := [.lit (.bool false)], args := [d1, d2, d3] }
  | _ => none }
def LostCoalescesWrongFalsely : Prop := lostCoalescesRow.holds Try.pinned (OpenSpec.ofChange lostCoalescesWrong)

/-- 'mergelenslaw15.LostProjects': WHATEVER THE INPUT: true; the input reads as it did. -/
def lostProjectsSpec : ChangeSpec := { name := "lostProjects", fn := fun _ => fun
  | [d1, d2] => { results := [.lit (.bool true)], args := [d1, d2] }
  | _ => none }
def lostProjectsRow : OpenClaim := { program := "ytoalcbdgfahikaa", sum := "b48c6b251d9c7ed7358257ed9a23926fe3908782e736ab7ffbeb57d90af45ce5", func := "mergelens/mergelenslaw15.LostProjects", spec := "lostProjects", unfollowed := true, recurses := true, apart := false }
def LostProjectsSaid : Prop := lostProjectsRow.holds Try.pinned (OpenSpec.ofChange lostProjectsSpec)

/-- ITS FALSE NEIGHBOUR: 'it returns false'. Refute it at one input. -/
def lostProjectsWrong : ChangeSpec := { name := "lostProjects", fn := fun _ => fun
  | [d1, d2] => { results := [.lit (.bool false)], args := [d1, d2] }
  | _ => none }
def LostProjectsWrongFalsely : Prop := lostProjectsRow.holds Try.pinned (OpenSpec.ofChange lostProjectsWrong)

/-- 'mergelenslaw15.LostExact': WHATEVER THE INPUT: true; the input reads as it did. -/
def lostExactSpec : ChangeSpec := { name := "lostExact", fn := fun _ => fun
  | [d1, d2] => { results := [.lit (.bool true)], args := [d1, d2] }
  | _ => none }
def lostExactRow : OpenClaim := { program := "ytoalcbdgfahikaa", sum := "b48c6b251d9c7ed7358257ed9a23926fe3908782e736ab7ffbeb57d90af45ce5", func := "mergelens/mergelenslaw15.LostExact", spec := "lostExact", unfollowed := true, recurses := true, apart := false }
def LostExactSaid : Prop := lostExactRow.holds Try.pinned (OpenSpec.ofChange lostExactSpec)

/-- ITS FALSE NEIGHBOUR: 'it returns false'. Refute it at one input. -/
def lostExactWrong : ChangeSpec := { name := "lostExact", fn := fun _ => fun
  | [d1, d2] => { results := [.lit (.bool false)], args := [d1, d2] }
  | _ => none }
def LostExactWrongFalsely : Prop := lostExactRow.holds Try.pinned (OpenSpec.ofChange lostExactWrong)

/-- 'mergelenslaw15.LostCopies': WHATEVER THE INPUT: true; the input reads as it did. -/
def lostCopiesSpec : ChangeSpec := { name := "lostCopies", fn := fun _ => fun
  | [d1, d2] => { results := [.lit (.bool true)], args := [d1, d2] }
  | _ => none }
def lostCopiesRow : OpenClaim := { program := "ytoalcbdgfahikaa", sum := "b48c6b251d9c7ed7358257ed9a23926fe3908782e736ab7ffbeb57d90af45ce5", func := "mergelens/mergelenslaw15.LostCopies", spec := "lostCopies", unfollowed := true, recurses := true, apart := false }
def LostCopiesSaid : Prop := lostCopiesRow.holds Try.pinned (OpenSpec.ofChange lostCopiesSpec)

/-- ITS FALSE NEIGHBOUR: 'it returns false'. Refute it at one input. -/
def lostCopiesWrong : ChangeSpec := { name := "lostCopies", fn := fun _ => fun
  | [d1, d2] => { results := [.lit (.bool false)], args := [d1, d2] }
  | _ => none }
def LostCopiesWrongFalsely : Prop := lostCopiesRow.holds Try.pinned (OpenSpec.ofChange lostCopiesWrong)

/-- 'mergelenslaw15.LostLimits': WHATEVER THE INPUT: true; the input reads as it did. -/
def lostLimitsSpec : ChangeSpec := { name := "lostLimits", fn := fun _ => fun
  | [d1, d2] => { results := [.lit (.bool true)], args := [d1, d2] }
  | _ => none }
def lostLimitsRow : OpenClaim := { program := "ytoalcbdgfahikaa", sum := "b48c6b251d9c7ed7358257ed9a23926fe3908782e736ab7ffbeb57d90af45ce5", func := "mergelens/mergelenslaw15.LostLimits", spec := "lostLimits", unfollowed := true, recurses := true, apart := false }
def LostLimitsSaid : Prop := lostLimitsRow.holds Try.pinned (OpenSpec.ofChange lostLimitsSpec)

/-- ITS FALSE NEIGHBOUR: 'it returns false'. Refute it at one input. -/
def lostLimitsWrong : ChangeSpec := { name := "lostLimits", fn := fun _ => fun
  | [d1, d2] => { results := [.lit (.bool false)], args := [d1, d2] }
  | _ => none }
def LostLimitsWrongFalsely : Prop := lostLimitsRow.holds Try.pinned (OpenSpec.ofChange lostLimitsWrong)

/- THE SECOND FORM. 'bulk': how many values and letters a reading holds, each counted each time it is reached (what is shared counts as often as it is met; a slice's spare places count too). A statement '..UptoSaid' is the law's where the arguments, and the package variables that the reading takes, are together of bulk at most 1048576: NARROWER than '..Said'. Prove '..Said' where nothing that the law and all that it calls make is longer than what came in: it says more and counts as full. Else prove '..UptoSaid'. A law counts once. -/
mutual
def uptoBulk {H : Type} : DataW H → Nat
  | .lit (.string bytes) => bytes.length + 1
  | .lit _ => 1
  | .nil => 1
  | .ptr d => uptoBulk d + 1
  | .slice elems spare => uptoBulkAll elems + uptoBulkAll spare + 1
  | .agg parts => uptoBulkAll parts + 1
  | .iface _ d => uptoBulk d + 1
  | .map entries => uptoBulkEntries entries + 1
  | .held _ => 1
def uptoBulkAll {H : Type} : List (DataW H) → Nat
  | [] => 0
  | d :: r => uptoBulk d + uptoBulkAll r
def uptoBulkEntries {H : Type} : List (Lit × DataW H) → Nat
  | [] => 0
  | x :: r => uptoBulkEntry x + uptoBulkEntries r
def uptoBulkEntry {H : Type} : Lit × DataW H → Nat
  | (.string bytes, d) => bytes.length + uptoBulk d + 1
  | (_, d) => uptoBulk d + 1
 end
def uptoSmall : (H : Type) → List (DataW H) → Bool := fun _ ds => decide (uptoBulkAll ds ≤ 1048576)
def OpenSpec.upto (s : _root_.Go.ChangeSpec) : _root_.Go.OpenSpec := { _root_.Go.OpenSpec.ofChange s with cond := some uptoSmall }

/-- 'mergelenslaw09.ShortestMetric', WHERE WHAT IT READS IS OF BULK AT MOST 1048576: true; the input reads as it did. -/
def shortestMetricUptoRow : OpenClaim := { program := "ytoalcbdgfahikaa", sum := "b48c6b251d9c7ed7358257ed9a23926fe3908782e736ab7ffbeb57d90af45ce5", func := "mergelens/mergelenslaw09.ShortestMetric", spec := "shortestMetric", unfollowed := true, recurses := true, apart := false, narrowed := true }
def ShortestMetricUptoSaid : Prop := shortestMetricUptoRow.holds Try.pinned (OpenSpec.upto shortestMetricSpec)

/-- 'mergelenslaw09.ShortestPrefix', WHERE WHAT IT READS IS OF BULK AT MOST 1048576: true; the input reads as it did. -/
def shortestPrefixUptoRow : OpenClaim := { program := "ytoalcbdgfahikaa", sum := "b48c6b251d9c7ed7358257ed9a23926fe3908782e736ab7ffbeb57d90af45ce5", func := "mergelens/mergelenslaw09.ShortestPrefix", spec := "shortestPrefix", unfollowed := true, recurses := true, apart := false, narrowed := true }
def ShortestPrefixUptoSaid : Prop := shortestPrefixUptoRow.holds Try.pinned (OpenSpec.upto shortestPrefixSpec)

/-- 'mergelenslaw09.ShortestScripts', WHERE WHAT IT READS IS OF BULK AT MOST 1048576: true; the input reads as it did. -/
def shortestScriptsUptoRow : OpenClaim := { program := "ytoalcbdgfahikaa", sum := "b48c6b251d9c7ed7358257ed9a23926fe3908782e736ab7ffbeb57d90af45ce5", func := "mergelens/mergelenslaw09.ShortestScripts", spec := "shortestScripts", unfollowed := true, recurses := true, apart := false, narrowed := true }
def ShortestScriptsUptoSaid : Prop := shortestScriptsUptoRow.holds Try.pinned (OpenSpec.upto shortestScriptsSpec)

/-- 'mergelenslaw09.ShortestLeast', WHERE WHAT IT READS IS OF BULK AT MOST 1048576: true; the input reads as it did. -/
def shortestLeastUptoRow : OpenClaim := { program := "ytoalcbdgfahikaa", sum := "b48c6b251d9c7ed7358257ed9a23926fe3908782e736ab7ffbeb57d90af45ce5", func := "mergelens/mergelenslaw09.ShortestLeast", spec := "shortestLeast", unfollowed := true, recurses := true, apart := false, narrowed := true }
def ShortestLeastUptoSaid : Prop := shortestLeastUptoRow.holds Try.pinned (OpenSpec.upto shortestLeastSpec)

/-- 'mergelenslaw09.ShortestLimits', WHERE WHAT IT READS IS OF BULK AT MOST 1048576: true; the input reads as it did. -/
def shortestLimitsUptoRow : OpenClaim := { program := "ytoalcbdgfahikaa", sum := "b48c6b251d9c7ed7358257ed9a23926fe3908782e736ab7ffbeb57d90af45ce5", func := "mergelens/mergelenslaw09.ShortestLimits", spec := "shortestLimits", unfollowed := true, recurses := true, apart := false, narrowed := true }
def ShortestLimitsUptoSaid : Prop := shortestLimitsUptoRow.holds Try.pinned (OpenSpec.upto shortestLimitsSpec)

/-- 'mergelenslaw15.LostCoalesces', WHERE WHAT IT READS IS OF BULK AT MOST 1048576: true; the input reads as it did. -/
def lostCoalescesUptoRow : OpenClaim := { program := "ytoalcbdgfahikaa", sum := "b48c6b251d9c7ed7358257ed9a23926fe3908782e736ab7ffbeb57d90af45ce5", func := "mergelens/mergelenslaw15.LostCoalesces", spec := "lostCoalesces", unfollowed := true, recurses := true, apart := false, narrowed := true }
def LostCoalescesUptoSaid : Prop := lostCoalescesUptoRow.holds Try.pinned (OpenSpec.upto lostCoalescesSpec)

/-- 'mergelenslaw15.LostProjects', WHERE WHAT IT READS IS OF BULK AT MOST 1048576: true; the input reads as it did. -/
def lostProjectsUptoRow : OpenClaim := { program := "ytoalcbdgfahikaa", sum := "b48c6b251d9c7ed7358257ed9a23926fe3908782e736ab7ffbeb57d90af45ce5", func := "mergelens/mergelenslaw15.LostProjects", spec := "lostProjects", unfollowed := true, recurses := true, apart := false, narrowed := true }
def LostProjectsUptoSaid : Prop := lostProjectsUptoRow.holds Try.pinned (OpenSpec.upto lostProjectsSpec)

/-- 'mergelenslaw15.LostExact', WHERE WHAT IT READS IS OF BULK AT MOST 1048576: true; the input reads as it did. -/
def lostExactUptoRow : OpenClaim := { program := "ytoalcbdgfahikaa", sum := "b48c6b251d9c7ed7358257ed9a23926fe3908782e736ab7ffbeb57d90af45ce5", func := "mergelens/mergelenslaw15.LostExact", spec := "lostExact", unfollowed := true, recurses := true, apart := false, narrowed := true }
def LostExactUptoSaid : Prop := lostExactUptoRow.holds Try.pinned (OpenSpec.upto lostExactSpec)

/-- 'mergelenslaw15.LostCopies', WHERE WHAT IT READS IS OF BULK AT MOST 1048576: true; the input reads as it did. -/
def lostCopiesUptoRow : OpenClaim := { program := "ytoalcbdgfahikaa", sum := "b48c6b251d9c7ed7358257ed9a23926fe3908782e736ab7ffbeb57d90af45ce5", func := "mergelens/mergelenslaw15.LostCopies", spec := "lostCopies", unfollowed := true, recurses := true, apart := false, narrowed := true }
def LostCopiesUptoSaid : Prop := lostCopiesUptoRow.holds Try.pinned (OpenSpec.upto lostCopiesSpec)

/-- 'mergelenslaw15.LostLimits', WHERE WHAT IT READS IS OF BULK AT MOST 1048576: true; the input reads as it did. -/
def lostLimitsUptoRow : OpenClaim := { program := "ytoalcbdgfahikaa", sum := "b48c6b251d9c7ed7358257ed9a23926fe3908782e736ab7ffbeb57d90af45ce5", func := "mergelens/mergelenslaw15.LostLimits", spec := "lostLimits", unfollowed := true, recurses := true, apart := false, narrowed := true }
def LostLimitsUptoSaid : Prop := lostLimitsUptoRow.holds Try.pinned (OpenSpec.upto lostLimitsSpec)

end Rows
end Go.Proofs.Ytoalcbdgfahikaa
