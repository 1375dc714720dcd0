/-
  No cell of these rows narrows 'for every input' (looked for: loops, veiled, ifaces, maps, wideKeys, modest, calm, conditions, laid).
  DERIVED. THE GIVEN ROWS OF THIS SEAT. 5 by the template 'for every input the law returns true; each argument reads behind the call as it read before'; 0 by the template 'total and deterministic' (their statements: YtgmdpmpmbhahhaaTotals.lean).
  GIVEN WITH THE SEED: the statements are not yours to turn. If you find one false, say at which input.
  Laid BY PROGRAM, IN A SANDBOX (cutbox-rows.mjs): the forced cells as the released guide's own fill.sh prints them over the translation 1f471aecf8e2e12d… (all of the seat's roots in one cut). By AI agents, Wed Nov 11 2026. No macro, syntax, notation, axiom, sorry.
-/
import Derived.Test.YtgmdpmpmbhahhaaChecked
import GoSem.Claim
import GoSem.ClaimJoined
import GoSem.ClaimMapViews
import Derived.JoinedTies
import Derived.KernelRfl
namespace Go.Proofs.Ytgmdpmpmbhahhaa
/- THE CELL 'sum', in the pinned program and in every row, IS THE sha256 OF THE DUMP (.gsa) THAT YtgmdpmpmbhahhaaProg.lean LOADS. Nothing in Lean hashes anything: it is a label: what it is worth is what the hold of that sum in a sandbox is worth. -/
noncomputable def Try.pinned : Pinned := { name := "ytgmdpmpmbhahhaa", sum := "1f471aecf8e2e12d3c754a971a79b0d2fa3449ec20c88291d72b85acb4efdb0f", checked := Try.checked }
namespace Rows
def none {H : Type} : Left H := { results := [], args := [] }

/-- 'mergelenslaw17.InterestRuns': WHATEVER THE INPUT: true; the input reads as it did. -/
def interestRunsSpec : ChangeSpec := { name := "interestRuns", fn := fun _ => fun
  | [d1, d2, d3, d4] => { results := [.lit (.bool true)], args := [d1, d2, d3, d4] }
  | _ => none }
def interestRunsRow : OpenClaim := { program := "ytgmdpmpmbhahhaa", sum := "1f471aecf8e2e12d3c754a971a79b0d2fa3449ec20c88291d72b85acb4efdb0f", func := "mergelens/mergelenslaw17.InterestRuns", spec := "interestRuns", inPlace := ["internal/bytealg.IndexByteString", "internal/bytealg.IndexString"], unfollowed := true, recurses := true, named := ["internal/bytealg.MaxLen"], apart := false }
def InterestRunsSaid : Prop := interestRunsRow.holds Try.pinned (OpenSpec.ofChange interestRunsSpec)

/-- ITS FALSE NEIGHBOUR: 'it returns false'. Refute it at one input. -/
def interestRunsWrong : ChangeSpec := { name := "interestRuns", fn := fun _ => fun
  | [d1, d2, d3, d4] => { results := [.lit (.bool false)], args := [d1, d2, d3, d4] }
  | _ => none }
def InterestRunsWrongFalsely : Prop := interestRunsRow.holds Try.pinned (OpenSpec.ofChange interestRunsWrong)

/-- 'mergelenslaw17.InterestDense': WHATEVER THE INPUT: true; the input reads as it did. -/
def interestDenseSpec : ChangeSpec := { name := "interestDense", fn := fun _ => fun
  | [d1, d2, d3] => { results := [.lit (.bool true)], args := [d1, d2, d3] }
  | _ => none }
def interestDenseRow : OpenClaim := { program := "ytgmdpmpmbhahhaa", sum := "1f471aecf8e2e12d3c754a971a79b0d2fa3449ec20c88291d72b85acb4efdb0f", func := "mergelens/mergelenslaw17.InterestDense", spec := "interestDense", inPlace := ["internal/bytealg.IndexByteString", "internal/bytealg.IndexString"], unfollowed := true, recurses := true, named := ["internal/bytealg.MaxLen"], apart := false }
def InterestDenseSaid : Prop := interestDenseRow.holds Try.pinned (OpenSpec.ofChange interestDenseSpec)

/-- ITS FALSE NEIGHBOUR: 'it returns false'. Refute it at one input. -/
def interestDenseWrong : ChangeSpec := { name := "interestDense", fn := fun _ => fun
  | [d1, d2, d3] => { results := [.lit (.bool false)], args := [d1, d2, d3] }
  | _ => none }
def InterestDenseWrongFalsely : Prop := interestDenseRow.holds Try.pinned (OpenSpec.ofChange interestDenseWrong)

/-- 'mergelenslaw17.InterestHunks': WHATEVER THE INPUT: true; the input reads as it did. -/
def interestHunksSpec : ChangeSpec := { name := "interestHunks", fn := fun _ => fun
  | [d1, d2, d3, d4, d5] => { results := [.lit (.bool true)], args := [d1, d2, d3, d4, d5] }
  | _ => none }
def interestHunksRow : OpenClaim := { program := "ytgmdpmpmbhahhaa", sum := "1f471aecf8e2e12d3c754a971a79b0d2fa3449ec20c88291d72b85acb4efdb0f", func := "mergelens/mergelenslaw17.InterestHunks", spec := "interestHunks", inPlace := ["internal/bytealg.IndexByteString", "internal/bytealg.IndexString"], unfollowed := true, recurses := true, named := ["internal/bytealg.MaxLen"], apart := false }
def InterestHunksSaid : Prop := interestHunksRow.holds Try.pinned (OpenSpec.ofChange interestHunksSpec)

/-- ITS FALSE NEIGHBOUR: 'it returns false'. Refute it at one input. -/
def interestHunksWrong : ChangeSpec := { name := "interestHunks", fn := fun _ => fun
  | [d1, d2, d3, d4, d5] => { results := [.lit (.bool false)], args := [d1, d2, d3, d4, d5] }
  | _ => none }
def InterestHunksWrongFalsely : Prop := interestHunksRow.holds Try.pinned (OpenSpec.ofChange interestHunksWrong)

/-- 'mergelenslaw17.InterestRefuses': WHATEVER THE INPUT: true; the input reads as it did. -/
def interestRefusesSpec : ChangeSpec := { name := "interestRefuses", fn := fun _ => fun
  | [d1, d2, d3] => { results := [.lit (.bool true)], args := [d1, d2, d3] }
  | _ => none }
def interestRefusesRow : OpenClaim := { program := "ytgmdpmpmbhahhaa", sum := "1f471aecf8e2e12d3c754a971a79b0d2fa3449ec20c88291d72b85acb4efdb0f", func := "mergelens/mergelenslaw17.InterestRefuses", spec := "interestRefuses", inPlace := ["internal/bytealg.IndexByteString", "internal/bytealg.IndexString"], unfollowed := true, recurses := true, named := ["internal/bytealg.MaxLen"], apart := false }
def InterestRefusesSaid : Prop := interestRefusesRow.holds Try.pinned (OpenSpec.ofChange interestRefusesSpec)

/-- ITS FALSE NEIGHBOUR: 'it returns false'. Refute it at one input. -/
def interestRefusesWrong : ChangeSpec := { name := "interestRefuses", fn := fun _ => fun
  | [d1, d2, d3] => { results := [.lit (.bool false)], args := [d1, d2, d3] }
  | _ => none }
def InterestRefusesWrongFalsely : Prop := interestRefusesRow.holds Try.pinned (OpenSpec.ofChange interestRefusesWrong)

/-- 'mergelenslaw17.InterestCovers': WHATEVER THE INPUT: true; the input reads as it did. -/
def interestCoversSpec : ChangeSpec := { name := "interestCovers", fn := fun _ => fun
  | [d1, d2, d3, d4, d5] => { results := [.lit (.bool true)], args := [d1, d2, d3, d4, d5] }
  | _ => none }
def interestCoversRow : OpenClaim := { program := "ytgmdpmpmbhahhaa", sum := "1f471aecf8e2e12d3c754a971a79b0d2fa3449ec20c88291d72b85acb4efdb0f", func := "mergelens/mergelenslaw17.InterestCovers", spec := "interestCovers", inPlace := ["internal/bytealg.IndexByteString", "internal/bytealg.IndexString"], unfollowed := true, recurses := true, named := ["internal/bytealg.MaxLen"], apart := false }
def InterestCoversSaid : Prop := interestCoversRow.holds Try.pinned (OpenSpec.ofChange interestCoversSpec)

/-- ITS FALSE NEIGHBOUR: 'it returns false'. Refute it at one input. -/
def interestCoversWrong : ChangeSpec := { name := "interestCovers", fn := fun _ => fun
  | [d1, d2, d3, d4, d5] => { results := [.lit (.bool false)], args := [d1, d2, d3, d4, d5] }
  | _ => none }
def InterestCoversWrongFalsely : Prop := interestCoversRow.holds Try.pinned (OpenSpec.ofChange interestCoversWrong)

/- THE SECOND FORM. 'bulk': how many values and letters a reading holds, each counted each time it is reached (what is shared counts as often as it is met; a slice's spare places count too). A statement '..UptoSaid' is the law's where the arguments, and the package variables that the reading takes, are together of bulk at most 1048576: NARROWER than '..Said'. Prove '..Said' where nothing that the law and all that it calls make is longer than what came in: it says more and counts as full. Else prove '..UptoSaid'. A law counts once. -/
mutual
def uptoBulk {H : Type} : DataW H → Nat
  | .lit (.string bytes) => bytes.length + 1
  | .lit _ => 1
  | .nil => 1
  | .ptr d => uptoBulk d + 1
  | .slice elems spare => uptoBulkAll elems + uptoBulkAll spare + 1
  | .agg parts => uptoBulkAll parts + 1
  | .iface _ d => uptoBulk d + 1
  | .map entries => uptoBulkEntries entries + 1
  | .held _ => 1
def uptoBulkAll {H : Type} : List (DataW H) → Nat
  | [] => 0
  | d :: r => uptoBulk d + uptoBulkAll r
def uptoBulkEntries {H : Type} : List (Lit × DataW H) → Nat
  | [] => 0
  | x :: r => uptoBulkEntry x + uptoBulkEntries r
def uptoBulkEntry {H : Type} : Lit × DataW H → Nat
  | (.string bytes, d) => bytes.length + uptoBulk d + 1
  | (_, d) => uptoBulk d + 1
 end
def uptoSmall : (H : Type) → List (DataW H) → Bool := fun _ ds => decide (uptoBulkAll ds ≤ 1048576)
def OpenSpec.upto (s : _root_.Go.ChangeSpec) : _root_.Go.OpenSpec := { _root_.Go.OpenSpec.ofChange s with cond := some uptoSmall }

/-- 'mergelenslaw17.InterestRuns', WHERE WHAT IT READS IS OF BULK AT MOST 1048576: true; the input reads as it did. -/
def interestRunsUptoRow : OpenClaim := { program := "ytgmdpmpmbhahhaa", sum := "1f471aecf8e2e12d3c754a971a79b0d2fa3449ec20c88291d72b85acb4efdb0f", func := "mergelens/mergelenslaw17.InterestRuns", spec := "interestRuns", inPlace := ["internal/bytealg.IndexByteString", "internal/bytealg.IndexString"], unfollowed := true, recurses := true, named := ["internal/bytealg.MaxLen"], apart := false, narrowed := true }
def InterestRunsUptoSaid : Prop := interestRunsUptoRow.holds Try.pinned (OpenSpec.upto interestRunsSpec)

/-- 'mergelenslaw17.InterestDense', WHERE WHAT IT READS IS OF BULK AT MOST 1048576: true; the input reads as it did. -/
def interestDenseUptoRow : OpenClaim := { program := "ytgmdpmpmbhahhaa", sum := "1f471aecf8e2e12d3c754a971a79b0d2fa3449ec20c88291d72b85acb4efdb0f", func := "mergelens/mergelenslaw17.InterestDense", spec := "interestDense", inPlace := ["internal/bytealg.IndexByteString", "internal/bytealg.IndexString"], unfollowed := true, recurses := true, named := ["internal/bytealg.MaxLen"], apart := false, narrowed := true }
def InterestDenseUptoSaid : Prop := interestDenseUptoRow.holds Try.pinned (OpenSpec.upto interestDenseSpec)

/-- 'mergelenslaw17.InterestHunks', WHERE WHAT IT READS IS OF BULK AT MOST 1048576: true; the input reads as it did. -/
def interestHunksUptoRow : OpenClaim := { program := "ytgmdpmpmbhahhaa", sum := "1f471aecf8e2e12d3c754a971a79b0d2fa3449ec20c88291d72b85acb4efdb0f", func := "mergelens/mergelenslaw17.InterestHunks", spec := "interestHunks", inPlace := ["internal/bytealg.IndexByteString", "internal/bytealg.IndexString"], unfollowed := true, recurses := true, named := ["internal/bytealg.MaxLen"], apart := false, narrowed := true }
def InterestHunksUptoSaid : Prop := interestHunksUptoRow.holds Try.pinned (OpenSpec.upto interestHunksSpec)

/-- 'mergelenslaw17.InterestRefuses', WHERE WHAT IT READS IS OF BULK AT MOST 1048576: true; the input reads as it did. -/
def interestRefusesUptoRow : OpenClaim := { program := "ytgmdpmpmbhahhaa", sum := "1f471aecf8e2e12d3c754a971a79b0d2fa3449ec20c88291d72b85acb4efdb0f", func := "mergelens/mergelenslaw17.InterestRefuses", spec := "interestRefuses", inPlace := ["internal/bytealg.IndexByteString", "internal/bytealg.IndexString"], unfollowed := true, recurses := true, named := ["internal/bytealg.MaxLen"], apart := false, narrowed := true }
def InterestRefusesUptoSaid : Prop := interestRefusesUptoRow.holds Try.pinned (OpenSpec.upto interestRefusesSpec)

/-- 'mergelenslaw17.InterestCovers', WHERE WHAT IT READS IS OF BULK AT MOST 1048576: true; the input reads as it did. -/
def interestCoversUptoRow : OpenClaim := { program := "ytgmdpmpmbhahhaa", sum := "1f471aecf8e2e12d3c754a971a79b0d2fa3449ec20c88291d72b85acb4efdb0f", func := "mergelens/mergelenslaw17.InterestCovers", spec := "interestCovers", inPlace := ["internal/bytealg.IndexByteString", "internal/bytealg.IndexString"], unfollowed := true, recurses := true, named := ["internal/bytealg.MaxLen"], apart := false, narrowed := true }
def InterestCoversUptoSaid : Prop := interestCoversUptoRow.holds Try.pinned (OpenSpec.upto interestCoversSpec)

end Rows
end Go.Proofs.Ytgmdpmpmbhahhaa
