/-
  No cell of these rows narrows 'for every input' (looked for: loops, veiled, ifaces, maps, wideKeys, modest, calm, conditions, laid).
  DERIVED. THE GIVEN ROWS OF THIS SEAT. 4 by the template 'for every input the law returns true; each argument reads behind the call as it read before'; 0 by the template 'total and deterministic' (their statements: YtblhhmephhhpeaaTotals.lean).
  GIVEN WITH THE SEED: the statements are not yours to turn. If you find one false, say at which input.
  Laid BY PROGRAM, IN A SANDBOX (cutbox-rows.mjs): the forced cells as the released guide's own fill.sh prints them over the translation de3d07756918a4ee… (all of the seat's roots in one cut). By AI agents, Wed Nov 11 2026. No macro, syntax, notation, axiom, sorry.
-/
import Derived.Test.YtblhhmephhhpeaaChecked
import GoSem.Claim
import GoSem.ClaimJoined
import GoSem.ClaimMapViews
import Derived.JoinedTies
import Derived.KernelRfl
namespace Go.Proofs.Ytblhhmephhhpeaa
/- THE CELL 'sum', in the pinned program and in every row, IS THE sha256 OF THE DUMP (.gsa) THAT YtblhhmephhhpeaaProg.lean LOADS. Nothing in Lean hashes anything: it is a label: what it is worth is what the hold of that sum in a sandbox is worth. -/
noncomputable def Try.pinned : Pinned := { name := "ytblhhmephhhpeaa", sum := "de3d07756918a4ee0828dee152a8300af8dccb6c88982b62630d31d4a1326041", checked := Try.checked }
namespace Rows
def none {H : Type} : Left H := { results := [], args := [] }

/-- 'mergelenslaw03.InternNumbers': WHATEVER THE INPUT: true; the input reads as it did. -/
def internNumbersSpec : ChangeSpec := { name := "internNumbers", fn := fun _ => fun
  | [d1, d2] => { results := [.lit (.bool true)], args := [d1, d2] }
  | _ => none }
def internNumbersRow : OpenClaim := { program := "ytblhhmephhhpeaa", sum := "de3d07756918a4ee0828dee152a8300af8dccb6c88982b62630d31d4a1326041", func := "mergelens/mergelenslaw03.InternNumbers", spec := "internNumbers", apart := false }
def InternNumbersSaid : Prop := internNumbersRow.holds Try.pinned (OpenSpec.ofChange internNumbersSpec)

/-- ITS FALSE NEIGHBOUR: 'it returns false'. Refute it at one input. -/
def internNumbersWrong : ChangeSpec := { name := "internNumbers", fn := fun _ => fun
  | [d1, d2] => { results := [.lit (.bool false)], args := [d1, d2] }
  | _ => none }
def InternNumbersWrongFalsely : Prop := internNumbersRow.holds Try.pinned (OpenSpec.ofChange internNumbersWrong)

/-- 'mergelenslaw03.InternFirst': WHATEVER THE INPUT: true; the input reads as it did. -/
def internFirstSpec : ChangeSpec := { name := "internFirst", fn := fun _ => fun
  | [d1, d2] => { results := [.lit (.bool true)], args := [d1, d2] }
  | _ => none }
def internFirstRow : OpenClaim := { program := "ytblhhmephhhpeaa", sum := "de3d07756918a4ee0828dee152a8300af8dccb6c88982b62630d31d4a1326041", func := "mergelens/mergelenslaw03.InternFirst", spec := "internFirst", apart := false }
def InternFirstSaid : Prop := internFirstRow.holds Try.pinned (OpenSpec.ofChange internFirstSpec)

/-- ITS FALSE NEIGHBOUR: 'it returns false'. Refute it at one input. -/
def internFirstWrong : ChangeSpec := { name := "internFirst", fn := fun _ => fun
  | [d1, d2] => { results := [.lit (.bool false)], args := [d1, d2] }
  | _ => none }
def InternFirstWrongFalsely : Prop := internFirstRow.holds Try.pinned (OpenSpec.ofChange internFirstWrong)

/-- 'mergelenslaw03.InternSpells': WHATEVER THE INPUT: true; the input reads as it did. -/
def internSpellsSpec : ChangeSpec := { name := "internSpells", fn := fun _ => fun
  | [d1, d2, d3] => { results := [.lit (.bool true)], args := [d1, d2, d3] }
  | _ => none }
def internSpellsRow : OpenClaim := { program := "ytblhhmephhhpeaa", sum := "de3d07756918a4ee0828dee152a8300af8dccb6c88982b62630d31d4a1326041", func := "mergelens/mergelenslaw03.InternSpells", spec := "internSpells", apart := false }
def InternSpellsSaid : Prop := internSpellsRow.holds Try.pinned (OpenSpec.ofChange internSpellsSpec)

/-- ITS FALSE NEIGHBOUR: 'it returns false'. Refute it at one input. -/
def internSpellsWrong : ChangeSpec := { name := "internSpells", fn := fun _ => fun
  | [d1, d2, d3] => { results := [.lit (.bool false)], args := [d1, d2, d3] }
  | _ => none }
def InternSpellsWrongFalsely : Prop := internSpellsRow.holds Try.pinned (OpenSpec.ofChange internSpellsWrong)

/-- 'mergelenslaw03.InternExact': WHATEVER THE INPUT: true; the input reads as it did. -/
def internExactSpec : ChangeSpec := { name := "internExact", fn := fun _ => fun
  | [d1, d2, d3, d4, d5] => { results := [.lit (.bool true)], args := [d1, d2, d3, d4, d5] }
  | _ => none }
def internExactRow : OpenClaim := { program := "ytblhhmephhhpeaa", sum := "de3d07756918a4ee0828dee152a8300af8dccb6c88982b62630d31d4a1326041", func := "mergelens/mergelenslaw03.InternExact", spec := "internExact", apart := false }
def InternExactSaid : Prop := internExactRow.holds Try.pinned (OpenSpec.ofChange internExactSpec)

/-- ITS FALSE NEIGHBOUR: 'it returns false'. Refute it at one input. -/
def internExactWrong : ChangeSpec := { name := "internExact", fn := fun _ => fun
  | [d1, d2, d3, d4, d5] => { results := [.lit (.bool false)], args := [d1, d2, d3, d4, d5] }
  | _ => none }
def InternExactWrongFalsely : Prop := internExactRow.holds Try.pinned (OpenSpec.ofChange internExactWrong)

/- THE SECOND FORM. 'bulk': how many values and letters a reading holds, each counted each time it is reached (what is shared counts as often as it is met; a slice's spare places count too). A statement '..UptoSaid' is the law's where the arguments, and the package variables that the reading takes, are together of bulk at most 1048576: NARROWER than '..Said'. Prove '..Said' where nothing that the law and all that it calls make is longer than what came in: it says more and counts as full. Else prove '..UptoSaid'. A law counts once. -/
mutual
def uptoBulk {H : Type} : DataW H → Nat
  | .lit (.string bytes) => bytes.length + 1
  | .lit _ => 1
  | .nil => 1
  | .ptr d => uptoBulk d + 1
  | .slice elems spare => uptoBulkAll elems + uptoBulkAll spare + 1
  | .agg parts => uptoBulkAll parts + 1
  | .iface _ d => uptoBulk d + 1
  | .map entries => uptoBulkEntries entries + 1
  | .held _ => 1
def uptoBulkAll {H : Type} : List (DataW H) → Nat
  | [] => 0
  | d :: r => uptoBulk d + uptoBulkAll r
def uptoBulkEntries {H : Type} : List (Lit × DataW H) → Nat
  | [] => 0
  | x :: r => uptoBulkEntry x + uptoBulkEntries r
def uptoBulkEntry {H : Type} : Lit × DataW H → Nat
  | (.string bytes, d) => bytes.length + uptoBulk d + 1
  | (_, d) => uptoBulk d + 1
 end
def uptoSmall : (H : Type) → List (DataW H) → Bool := fun _ ds => decide (uptoBulkAll ds ≤ 1048576)
def OpenSpec.upto (s : _root_.Go.ChangeSpec) : _root_.Go.OpenSpec := { _root_.Go.OpenSpec.ofChange s with cond := some uptoSmall }

/-- 'mergelenslaw03.InternNumbers', WHERE WHAT IT READS IS OF BULK AT MOST 1048576: true; the input reads as it did. -/
def internNumbersUptoRow : OpenClaim := { program := "ytblhhmephhhpeaa", sum := "de3d07756918a4ee0828dee152a8300af8dccb6c88982b62630d31d4a1326041", func := "mergelens/mergelenslaw03.InternNumbers", spec := "internNumbers", apart := false, narrowed := true }
def InternNumbersUptoSaid : Prop := internNumbersUptoRow.holds Try.pinned (OpenSpec.upto internNumbersSpec)

/-- 'mergelenslaw03.InternFirst', WHERE WHAT IT READS IS OF BULK AT MOST 1048576: true; the input reads as it did. -/
def internFirstUptoRow : OpenClaim := { program := "ytblhhmephhhpeaa", sum := "de3d07756918a4ee0828dee152a8300af8dccb6c88982b62630d31d4a1326041", func := "mergelens/mergelenslaw03.InternFirst", spec := "internFirst", apart := false, narrowed := true }
def InternFirstUptoSaid : Prop := internFirstUptoRow.holds Try.pinned (OpenSpec.upto internFirstSpec)

/-- 'mergelenslaw03.InternSpells', WHERE WHAT IT READS IS OF BULK AT MOST 1048576: true; the input reads as it did. -/
def internSpellsUptoRow : OpenClaim := { program := "ytblhhmephhhpeaa", sum := "de3d07756918a4ee0828dee152a8300af8dccb6c88982b62630d31d4a1326041", func := "mergelens/mergelenslaw03.InternSpells", spec := "internSpells", apart := false, narrowed := true }
def InternSpellsUptoSaid : Prop := internSpellsUptoRow.holds Try.pinned (OpenSpec.upto internSpellsSpec)

/-- 'mergelenslaw03.InternExact', WHERE WHAT IT READS IS OF BULK AT MOST 1048576: true; the input reads as it did. -/
def internExactUptoRow : OpenClaim := { program := "ytblhhmephhhpeaa", sum := "de3d07756918a4ee0828dee152a8300af8dccb6c88982b62630d31d4a1326041", func := "mergelens/mergelenslaw03.InternExact", spec := "internExact", apart := false, narrowed := true }
def InternExactUptoSaid : Prop := internExactUptoRow.holds Try.pinned (OpenSpec.upto internExactSpec)

end Rows
end Go.Proofs.Ytblhhmephhhpeaa
