/-
  DERIVED. GIVEN WITH THE SEED: THE CARDS: each row of YtchgnhinilehiaaGreatDoorRows.lean that lists a variable, with what it lists TIED to the program's text (the seventh form; the later family's looks); each row that meets fmt, with fmt's text TOLD by the authors' own Lean function (tested against real Go, not proved from fmt's source: count such statements apart). THE CARD IS WHAT COUNTS. Prove the row's statement (the work); the ties are given (YtchgnhinilehiaaGreatDoorTie.lean); close each card by the builder's one call (the guide's Derived/Test/ToyasCard.lean, 'card_holds'). Laid BY PROGRAM, IN A SANDBOX (cutbox-door.mjs). By AI agents, Wed Nov 11 2026. No macro, syntax, notation, axiom, sorry.
-/
import Derived.Test.YtchgnhinilehiaaGreatDoorRows
import GoSem.ClaimSeven
namespace Go.Proofs.YtchgnhinilehiaaGreatDoor
namespace Rows

/-- THE TIED CARD OF 'mergelenslaw31.AnnotateBlames'. -/
def annotateBlamesCard : Claim7 := { stood := { row := annotateBlamesRow, standIns := [], harness := (true, "a6bfd1460a6ea079e6c7163f3e7d31513b36ce8bb79991315b1f5bbe3af85f09"), looks := true }, kinds := [], alts := [], laidByText := true, laidKinds := [.data, .pinned], laidTests := true, laidLooks := .later }
def AnnotateBlamesCardSaid : Prop := Claim7.holds Tryz.pinned (.plain (OpenSpec.ofChange annotateBlamesSpec)) annotateBlamesCard

/-- THE TIED CARD OF 'mergelenslaw31.AnnotateRefuses'. -/
def annotateRefusesCard : Claim7 := { stood := { row := annotateRefusesRow, standIns := [], harness := (true, "a6bfd1460a6ea079e6c7163f3e7d31513b36ce8bb79991315b1f5bbe3af85f09"), looks := true }, kinds := [], alts := [], laidByText := true, laidKinds := [.data, .pinned], laidTests := true, laidLooks := .later }
def AnnotateRefusesCardSaid : Prop := Claim7.holds Tryz.pinned (.plain (OpenSpec.ofChange annotateRefusesSpec)) annotateRefusesCard

/-- THE TIED CARD OF 'mergelenslaw30.LinelogLogs'. -/
def linelogLogsCard : Claim7 := { stood := { row := linelogLogsRow, standIns := [], harness := (true, "a6bfd1460a6ea079e6c7163f3e7d31513b36ce8bb79991315b1f5bbe3af85f09"), looks := true }, kinds := [], alts := [], laidByText := true, laidKinds := [.data, .pinned], laidTests := true, laidLooks := .later }
def LinelogLogsCardSaid : Prop := Claim7.holds Tryz.pinned (.plain (OpenSpec.ofChange linelogLogsSpec)) linelogLogsCard

/-- THE TIED CARD OF 'mergelenslaw30.LinelogRefuses'. -/
def linelogRefusesCard : Claim7 := { stood := { row := linelogRefusesRow, standIns := [], harness := (true, "a6bfd1460a6ea079e6c7163f3e7d31513b36ce8bb79991315b1f5bbe3af85f09"), looks := true }, kinds := [], alts := [], laidByText := true, laidKinds := [.data, .pinned], laidTests := true, laidLooks := .later }
def LinelogRefusesCardSaid : Prop := Claim7.holds Tryz.pinned (.plain (OpenSpec.ofChange linelogRefusesSpec)) linelogRefusesCard

/-- THE TIED CARD OF 'mergelenslaw30.LinelogHandsDown'. -/
def linelogHandsDownCard : Claim7 := { stood := { row := linelogHandsDownRow, standIns := [], harness := (true, "a6bfd1460a6ea079e6c7163f3e7d31513b36ce8bb79991315b1f5bbe3af85f09"), looks := true }, kinds := [], alts := [], laidByText := true, laidKinds := [.data, .pinned], laidTests := true, laidLooks := .later }
def LinelogHandsDownCardSaid : Prop := Claim7.holds Tryz.pinned (.plain (OpenSpec.ofChange linelogHandsDownSpec)) linelogHandsDownCard

/-- THE TIED CARD OF 'mergelenslaw30.LinelogLists'. -/
def linelogListsCard : Claim7 := { stood := { row := linelogListsRow, standIns := [], harness := (true, "a6bfd1460a6ea079e6c7163f3e7d31513b36ce8bb79991315b1f5bbe3af85f09"), looks := true }, kinds := [], alts := [], laidByText := true, laidKinds := [.data, .pinned], laidTests := true, laidLooks := .later }
def LinelogListsCardSaid : Prop := Claim7.holds Tryz.pinned (.plain (OpenSpec.ofChange linelogListsSpec)) linelogListsCard

/-- THE TIED CARD OF 'mergelenslaw31.AnnotateTracked'. -/
def annotateTrackedCard : Claim7 := { stood := { row := annotateTrackedRow, standIns := [], harness := (true, "a6bfd1460a6ea079e6c7163f3e7d31513b36ce8bb79991315b1f5bbe3af85f09"), looks := true }, kinds := [], alts := [], laidByText := true, laidKinds := [.data, .pinned], laidTests := true, laidLooks := .later }
def AnnotateTrackedCardSaid : Prop := Claim7.holds Tryz.pinned (.plain (OpenSpec.ofChange annotateTrackedSpec)) annotateTrackedCard

/-- THE SECOND FORM's CARD OF 'mergelenslaw31.AnnotateBlames'. -/
def annotateBlamesUptoCard : Claim7 := { stood := { row := annotateBlamesUptoRow, standIns := [], harness := (true, "a6bfd1460a6ea079e6c7163f3e7d31513b36ce8bb79991315b1f5bbe3af85f09"), looks := true }, kinds := [], alts := [], laidByText := true, laidKinds := [.data, .pinned], laidTests := true, laidLooks := .later }
def AnnotateBlamesUptoCardSaid : Prop := Claim7.holds Tryz.pinned (.plain (OpenSpec.upto annotateBlamesSpec)) annotateBlamesUptoCard

/-- THE SECOND FORM's CARD OF 'mergelenslaw31.AnnotateRefuses'. -/
def annotateRefusesUptoCard : Claim7 := { stood := { row := annotateRefusesUptoRow, standIns := [], harness := (true, "a6bfd1460a6ea079e6c7163f3e7d31513b36ce8bb79991315b1f5bbe3af85f09"), looks := true }, kinds := [], alts := [], laidByText := true, laidKinds := [.data, .pinned], laidTests := true, laidLooks := .later }
def AnnotateRefusesUptoCardSaid : Prop := Claim7.holds Tryz.pinned (.plain (OpenSpec.upto annotateRefusesSpec)) annotateRefusesUptoCard

/-- THE SECOND FORM's CARD OF 'mergelenslaw30.LinelogLogs'. -/
def linelogLogsUptoCard : Claim7 := { stood := { row := linelogLogsUptoRow, standIns := [], harness := (true, "a6bfd1460a6ea079e6c7163f3e7d31513b36ce8bb79991315b1f5bbe3af85f09"), looks := true }, kinds := [], alts := [], laidByText := true, laidKinds := [.data, .pinned], laidTests := true, laidLooks := .later }
def LinelogLogsUptoCardSaid : Prop := Claim7.holds Tryz.pinned (.plain (OpenSpec.upto linelogLogsSpec)) linelogLogsUptoCard

/-- THE SECOND FORM's CARD OF 'mergelenslaw30.LinelogRefuses'. -/
def linelogRefusesUptoCard : Claim7 := { stood := { row := linelogRefusesUptoRow, standIns := [], harness := (true, "a6bfd1460a6ea079e6c7163f3e7d31513b36ce8bb79991315b1f5bbe3af85f09"), looks := true }, kinds := [], alts := [], laidByText := true, laidKinds := [.data, .pinned], laidTests := true, laidLooks := .later }
def LinelogRefusesUptoCardSaid : Prop := Claim7.holds Tryz.pinned (.plain (OpenSpec.upto linelogRefusesSpec)) linelogRefusesUptoCard

/-- THE SECOND FORM's CARD OF 'mergelenslaw30.LinelogHandsDown'. -/
def linelogHandsDownUptoCard : Claim7 := { stood := { row := linelogHandsDownUptoRow, standIns := [], harness := (true, "a6bfd1460a6ea079e6c7163f3e7d31513b36ce8bb79991315b1f5bbe3af85f09"), looks := true }, kinds := [], alts := [], laidByText := true, laidKinds := [.data, .pinned], laidTests := true, laidLooks := .later }
def LinelogHandsDownUptoCardSaid : Prop := Claim7.holds Tryz.pinned (.plain (OpenSpec.upto linelogHandsDownSpec)) linelogHandsDownUptoCard

/-- THE SECOND FORM's CARD OF 'mergelenslaw30.LinelogLists'. -/
def linelogListsUptoCard : Claim7 := { stood := { row := linelogListsUptoRow, standIns := [], harness := (true, "a6bfd1460a6ea079e6c7163f3e7d31513b36ce8bb79991315b1f5bbe3af85f09"), looks := true }, kinds := [], alts := [], laidByText := true, laidKinds := [.data, .pinned], laidTests := true, laidLooks := .later }
def LinelogListsUptoCardSaid : Prop := Claim7.holds Tryz.pinned (.plain (OpenSpec.upto linelogListsSpec)) linelogListsUptoCard

/-- THE SECOND FORM's CARD OF 'mergelenslaw31.AnnotateTracked'. -/
def annotateTrackedUptoCard : Claim7 := { stood := { row := annotateTrackedUptoRow, standIns := [], harness := (true, "a6bfd1460a6ea079e6c7163f3e7d31513b36ce8bb79991315b1f5bbe3af85f09"), looks := true }, kinds := [], alts := [], laidByText := true, laidKinds := [.data, .pinned], laidTests := true, laidLooks := .later }
def AnnotateTrackedUptoCardSaid : Prop := Claim7.holds Tryz.pinned (.plain (OpenSpec.upto annotateTrackedSpec)) annotateTrackedUptoCard
end Rows
end Go.Proofs.YtchgnhinilehiaaGreatDoor
