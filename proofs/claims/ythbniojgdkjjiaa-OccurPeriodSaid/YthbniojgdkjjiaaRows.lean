/-
  No cell of these rows narrows 'for every input' (looked for: loops, veiled, ifaces, maps, wideKeys, modest, calm, conditions, laid).
  DERIVED. THE GIVEN ROWS OF THIS SEAT. 6 by the template 'for every input the law returns true; each argument reads behind the call as it read before'; 0 by the template 'total and deterministic' (their statements: YthbniojgdkjjiaaTotals.lean).
  GIVEN WITH THE SEED: the statements are not yours to turn. If you find one false, say at which input.
  Laid BY PROGRAM, IN A SANDBOX (cutbox-rows.mjs): the forced cells as the released guide's own fill.sh prints them over the translation 481aa7408d141334… (all of the seat's roots in one cut). By AI agents, Wed Nov 11 2026. No macro, syntax, notation, axiom, sorry.
-/
import Derived.Test.YthbniojgdkjjiaaChecked
import GoSem.Claim
import GoSem.ClaimJoined
import GoSem.ClaimMapViews
import Derived.JoinedTies
import Derived.KernelRfl
namespace Go.Proofs.Ythbniojgdkjjiaa
/- THE CELL 'sum', in the pinned program and in every row, IS THE sha256 OF THE DUMP (.gsa) THAT YthbniojgdkjjiaaProg.lean LOADS. Nothing in Lean hashes anything: it is a label: what it is worth is what the hold of that sum in a sandbox is worth. -/
noncomputable def Try.pinned : Pinned := { name := "ythbniojgdkjjiaa", sum := "481aa7408d141334939508a7164f3b6c98ec258b0a06711fe1a826d90bf742b4", checked := Try.checked }
namespace Rows
def none {H : Type} : Left H := { results := [], args := [] }

/-- 'mergelenslaw07.OccurFinds': WHATEVER THE INPUT: true; the input reads as it did. -/
def occurFindsSpec : ChangeSpec := { name := "occurFinds", fn := fun _ => fun
  | [d1, d2, d3, d4] => { results := [.lit (.bool true)], args := [d1, d2, d3, d4] }
  | _ => none }
def occurFindsRow : OpenClaim := { program := "ythbniojgdkjjiaa", sum := "481aa7408d141334939508a7164f3b6c98ec258b0a06711fe1a826d90bf742b4", func := "mergelens/mergelenslaw07.OccurFinds", spec := "occurFinds", inPlace := ["internal/bytealg.IndexByteString", "internal/bytealg.IndexString"], named := ["internal/bytealg.MaxLen"], apart := false }
def OccurFindsSaid : Prop := occurFindsRow.holds Try.pinned (OpenSpec.ofChange occurFindsSpec)

/-- ITS FALSE NEIGHBOUR: 'it returns false'. Refute it at one input. -/
def occurFindsWrong : ChangeSpec := { name := "occurFinds", fn := fun _ => fun
  | [d1, d2, d3, d4] => { results := [.lit (.bool false)], args := [d1, d2, d3, d4] }
  | _ => none }
def OccurFindsWrongFalsely : Prop := occurFindsRow.holds Try.pinned (OpenSpec.ofChange occurFindsWrong)

/-- 'mergelenslaw07.OccurBorders': WHATEVER THE INPUT: true; the input reads as it did. -/
def occurBordersSpec : ChangeSpec := { name := "occurBorders", fn := fun _ => fun
  | [d1, d2] => { results := [.lit (.bool true)], args := [d1, d2] }
  | _ => none }
def occurBordersRow : OpenClaim := { program := "ythbniojgdkjjiaa", sum := "481aa7408d141334939508a7164f3b6c98ec258b0a06711fe1a826d90bf742b4", func := "mergelens/mergelenslaw07.OccurBorders", spec := "occurBorders", inPlace := ["internal/bytealg.IndexByteString", "internal/bytealg.IndexString"], named := ["internal/bytealg.MaxLen"], apart := false }
def OccurBordersSaid : Prop := occurBordersRow.holds Try.pinned (OpenSpec.ofChange occurBordersSpec)

/-- ITS FALSE NEIGHBOUR: 'it returns false'. Refute it at one input. -/
def occurBordersWrong : ChangeSpec := { name := "occurBorders", fn := fun _ => fun
  | [d1, d2] => { results := [.lit (.bool false)], args := [d1, d2] }
  | _ => none }
def OccurBordersWrongFalsely : Prop := occurBordersRow.holds Try.pinned (OpenSpec.ofChange occurBordersWrong)

/-- 'mergelenslaw07.OccurGreatest': WHATEVER THE INPUT: true; the input reads as it did. -/
def occurGreatestSpec : ChangeSpec := { name := "occurGreatest", fn := fun _ => fun
  | [d1, d2] => { results := [.lit (.bool true)], args := [d1, d2] }
  | _ => none }
def occurGreatestRow : OpenClaim := { program := "ythbniojgdkjjiaa", sum := "481aa7408d141334939508a7164f3b6c98ec258b0a06711fe1a826d90bf742b4", func := "mergelens/mergelenslaw07.OccurGreatest", spec := "occurGreatest", inPlace := ["internal/bytealg.IndexByteString", "internal/bytealg.IndexString"], named := ["internal/bytealg.MaxLen"], apart := false }
def OccurGreatestSaid : Prop := occurGreatestRow.holds Try.pinned (OpenSpec.ofChange occurGreatestSpec)

/-- ITS FALSE NEIGHBOUR: 'it returns false'. Refute it at one input. -/
def occurGreatestWrong : ChangeSpec := { name := "occurGreatest", fn := fun _ => fun
  | [d1, d2] => { results := [.lit (.bool false)], args := [d1, d2] }
  | _ => none }
def OccurGreatestWrongFalsely : Prop := occurGreatestRow.holds Try.pinned (OpenSpec.ofChange occurGreatestWrong)

/-- 'mergelenslaw07.OccurPeriod': WHATEVER THE INPUT: true; the input reads as it did. -/
def occurPeriodSpec : ChangeSpec := { name := "occurPeriod", fn := fun _ => fun
  | [d] => { results := [.lit (.bool true)], args := [d] }
  | _ => none }
def occurPeriodRow : OpenClaim := { program := "ythbniojgdkjjiaa", sum := "481aa7408d141334939508a7164f3b6c98ec258b0a06711fe1a826d90bf742b4", func := "mergelens/mergelenslaw07.OccurPeriod", spec := "occurPeriod", inPlace := ["internal/bytealg.IndexByteString", "internal/bytealg.IndexString"], named := ["internal/bytealg.MaxLen"], apart := false }
def OccurPeriodSaid : Prop := occurPeriodRow.holds Try.pinned (OpenSpec.ofChange occurPeriodSpec)

/-- ITS FALSE NEIGHBOUR: 'it returns false'. Refute it at one input. -/
def occurPeriodWrong : ChangeSpec := { name := "occurPeriod", fn := fun _ => fun
  | [d] => { results := [.lit (.bool false)], args := [d] }
  | _ => none }
def OccurPeriodWrongFalsely : Prop := occurPeriodRow.holds Try.pinned (OpenSpec.ofChange occurPeriodWrong)

/-- 'mergelenslaw07.OccurReplaces': WHATEVER THE INPUT: true; the input reads as it did. -/
def occurReplacesSpec : ChangeSpec := { name := "occurReplaces", fn := fun _ => fun
  | [d1, d2, d3, d4] => { results := [.lit (.bool true)], args := [d1, d2, d3, d4] }
  | _ => none }
def occurReplacesRow : OpenClaim := { program := "ythbniojgdkjjiaa", sum := "481aa7408d141334939508a7164f3b6c98ec258b0a06711fe1a826d90bf742b4", func := "mergelens/mergelenslaw07.OccurReplaces", spec := "occurReplaces", inPlace := ["internal/bytealg.IndexByteString", "internal/bytealg.IndexString", "internal/abi.NoEscape"], named := ["internal/bytealg.MaxLen"], apart := false }
def OccurReplacesSaid : Prop := occurReplacesRow.holds Try.pinned (OpenSpec.ofChange occurReplacesSpec)

/-- ITS FALSE NEIGHBOUR: 'it returns false'. Refute it at one input. -/
def occurReplacesWrong : ChangeSpec := { name := "occurReplaces", fn := fun _ => fun
  | [d1, d2, d3, d4] => { results := [.lit (.bool false)], args := [d1, d2, d3, d4] }
  | _ => none }
def OccurReplacesWrongFalsely : Prop := occurReplacesRow.holds Try.pinned (OpenSpec.ofChange occurReplacesWrong)

/-- 'mergelenslaw07.OccurCuts': WHATEVER THE INPUT: true; the input reads as it did. -/
def occurCutsSpec : ChangeSpec := { name := "occurCuts", fn := fun _ => fun
  | [d1, d2] => { results := [.lit (.bool true)], args := [d1, d2] }
  | _ => none }
def occurCutsRow : OpenClaim := { program := "ythbniojgdkjjiaa", sum := "481aa7408d141334939508a7164f3b6c98ec258b0a06711fe1a826d90bf742b4", func := "mergelens/mergelenslaw07.OccurCuts", spec := "occurCuts", inPlace := ["internal/bytealg.IndexByteString", "internal/bytealg.IndexString", "internal/abi.NoEscape"], named := ["internal/bytealg.MaxLen"], apart := false }
def OccurCutsSaid : Prop := occurCutsRow.holds Try.pinned (OpenSpec.ofChange occurCutsSpec)

/-- ITS FALSE NEIGHBOUR: 'it returns false'. Refute it at one input. -/
def occurCutsWrong : ChangeSpec := { name := "occurCuts", fn := fun _ => fun
  | [d1, d2] => { results := [.lit (.bool false)], args := [d1, d2] }
  | _ => none }
def OccurCutsWrongFalsely : Prop := occurCutsRow.holds Try.pinned (OpenSpec.ofChange occurCutsWrong)

/- THE SECOND FORM. 'bulk': how many values and letters a reading holds, each counted each time it is reached (what is shared counts as often as it is met; a slice's spare places count too). A statement '..UptoSaid' is the law's where the arguments, and the package variables that the reading takes, are together of bulk at most 1048576: NARROWER than '..Said'. Prove '..Said' where nothing that the law and all that it calls make is longer than what came in: it says more and counts as full. Else prove '..UptoSaid'. A law counts once. -/
mutual
def uptoBulk {H : Type} : DataW H → Nat
  | .lit (.string bytes) => bytes.length + 1
  | .lit _ => 1
  | .nil => 1
  | .ptr d => uptoBulk d + 1
  | .slice elems spare => uptoBulkAll elems + uptoBulkAll spare + 1
  | .agg parts => uptoBulkAll parts + 1
  | .iface _ d => uptoBulk d + 1
  | .map entries => uptoBulkEntries entries + 1
  | .held _ => 1
def uptoBulkAll {H : Type} : List (DataW H) → Nat
  | [] => 0
  | d :: r => uptoBulk d + uptoBulkAll r
def uptoBulkEntries {H : Type} : List (Lit × DataW H) → Nat
  | [] => 0
  | x :: r => uptoBulkEntry x + uptoBulkEntries r
def uptoBulkEntry {H : Type} : Lit × DataW H → Nat
  | (.string bytes, d) => bytes.length + uptoBulk d + 1
  | (_, d) => uptoBulk d + 1
 end
def uptoSmall : (H : Type) → List (DataW H) → Bool := fun _ ds => decide (uptoBulkAll ds ≤ 1048576)
def OpenSpec.upto (s : _root_.Go.ChangeSpec) : _root_.Go.OpenSpec := { _root_.Go.OpenSpec.ofChange s with cond := some uptoSmall }

/-- 'mergelenslaw07.OccurFinds', WHERE WHAT IT READS IS OF BULK AT MOST 1048576: true; the input reads as it did. -/
def occurFindsUptoRow : OpenClaim := { program := "ythbniojgdkjjiaa", sum := "481aa7408d141334939508a7164f3b6c98ec258b0a06711fe1a826d90bf742b4", func := "mergelens/mergelenslaw07.OccurFinds", spec := "occurFinds", inPlace := ["internal/bytealg.IndexByteString", "internal/bytealg.IndexString"], named := ["internal/bytealg.MaxLen"], apart := false, narrowed := true }
def OccurFindsUptoSaid : Prop := occurFindsUptoRow.holds Try.pinned (OpenSpec.upto occurFindsSpec)

/-- 'mergelenslaw07.OccurBorders', WHERE WHAT IT READS IS OF BULK AT MOST 1048576: true; the input reads as it did. -/
def occurBordersUptoRow : OpenClaim := { program := "ythbniojgdkjjiaa", sum := "481aa7408d141334939508a7164f3b6c98ec258b0a06711fe1a826d90bf742b4", func := "mergelens/mergelenslaw07.OccurBorders", spec := "occurBorders", inPlace := ["internal/bytealg.IndexByteString", "internal/bytealg.IndexString"], named := ["internal/bytealg.MaxLen"], apart := false, narrowed := true }
def OccurBordersUptoSaid : Prop := occurBordersUptoRow.holds Try.pinned (OpenSpec.upto occurBordersSpec)

/-- 'mergelenslaw07.OccurGreatest', WHERE WHAT IT READS IS OF BULK AT MOST 1048576: true; the input reads as it did. -/
def occurGreatestUptoRow : OpenClaim := { program := "ythbniojgdkjjiaa", sum := "481aa7408d141334939508a7164f3b6c98ec258b0a06711fe1a826d90bf742b4", func := "mergelens/mergelenslaw07.OccurGreatest", spec := "occurGreatest", inPlace := ["internal/bytealg.IndexByteString", "internal/bytealg.IndexString"], named := ["internal/bytealg.MaxLen"], apart := false, narrowed := true }
def OccurGreatestUptoSaid : Prop := occurGreatestUptoRow.holds Try.pinned (OpenSpec.upto occurGreatestSpec)

/-- 'mergelenslaw07.OccurPeriod', WHERE WHAT IT READS IS OF BULK AT MOST 1048576: true; the input reads as it did. -/
def occurPeriodUptoRow : OpenClaim := { program := "ythbniojgdkjjiaa", sum := "481aa7408d141334939508a7164f3b6c98ec258b0a06711fe1a826d90bf742b4", func := "mergelens/mergelenslaw07.OccurPeriod", spec := "occurPeriod", inPlace := ["internal/bytealg.IndexByteString", "internal/bytealg.IndexString"], named := ["internal/bytealg.MaxLen"], apart := false, narrowed := true }
def OccurPeriodUptoSaid : Prop := occurPeriodUptoRow.holds Try.pinned (OpenSpec.upto occurPeriodSpec)

/-- 'mergelenslaw07.OccurReplaces', WHERE WHAT IT READS IS OF BULK AT MOST 1048576: true; the input reads as it did. -/
def occurReplacesUptoRow : OpenClaim := { program := "ythbniojgdkjjiaa", sum := "481aa7408d141334939508a7164f3b6c98ec258b0a06711fe1a826d90bf742b4", func := "mergelens/mergelenslaw07.OccurReplaces", spec := "occurReplaces", inPlace := ["internal/bytealg.IndexByteString", "internal/bytealg.IndexString", "internal/abi.NoEscape"], named := ["internal/bytealg.MaxLen"], apart := false, narrowed := true }
def OccurReplacesUptoSaid : Prop := occurReplacesUptoRow.holds Try.pinned (OpenSpec.upto occurReplacesSpec)

/-- 'mergelenslaw07.OccurCuts', WHERE WHAT IT READS IS OF BULK AT MOST 1048576: true; the input reads as it did. -/
def occurCutsUptoRow : OpenClaim := { program := "ythbniojgdkjjiaa", sum := "481aa7408d141334939508a7164f3b6c98ec258b0a06711fe1a826d90bf742b4", func := "mergelens/mergelenslaw07.OccurCuts", spec := "occurCuts", inPlace := ["internal/bytealg.IndexByteString", "internal/bytealg.IndexString", "internal/abi.NoEscape"], named := ["internal/bytealg.MaxLen"], apart := false, narrowed := true }
def OccurCutsUptoSaid : Prop := occurCutsUptoRow.holds Try.pinned (OpenSpec.upto occurCutsSpec)

end Rows
end Go.Proofs.Ythbniojgdkjjiaa
