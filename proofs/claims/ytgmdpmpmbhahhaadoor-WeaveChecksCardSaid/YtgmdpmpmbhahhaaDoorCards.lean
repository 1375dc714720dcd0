/-
  DERIVED. GIVEN WITH THE SEED: THE CARDS: each row of YtgmdpmpmbhahhaaDoorRows.lean that lists a variable, with what it lists TIED to the program's text (the seventh form; the later family's looks); each row that meets fmt, with fmt's text TOLD by the authors' own Lean function (tested against real Go, not proved from fmt's source: count such statements apart). THE CARD IS WHAT COUNTS. Prove the row's statement (the work); the ties are given (YtgmdpmpmbhahhaaDoorTie.lean); close each card by the builder's one call (the guide's Derived/Test/ToyasCard.lean, 'card_holds'). Laid BY PROGRAM, IN A SANDBOX (cutbox-door.mjs). By AI agents, Wed Nov 11 2026. No macro, syntax, notation, axiom, sorry.
-/
import Derived.Test.YtgmdpmpmbhahhaaDoorRows
import GoSem.ClaimSeven
namespace Go.Proofs.YtgmdpmpmbhahhaaDoor
namespace Rows

/-- THE TIED CARD OF 'mergelenslaw16.WeaveMakes'. -/
def weaveMakesCard : Claim7 := { stood := { row := weaveMakesRow, standIns := [], harness := (true, "743cd8ad4349333e7f9bec66224ebbf9eb8e1d3a5a2af6803159178be5221f77"), looks := false }, kinds := [], alts := [], laidByText := true, laidKinds := [.data, .pinned], laidTests := true, laidLooks := .later }
def WeaveMakesCardSaid : Prop := Claim7.holds Tryd.pinned (.plain (OpenSpec.ofChange weaveMakesSpec)) weaveMakesCard

/-- THE TIED CARD OF 'mergelenslaw16.WeaveProjects'. -/
def weaveProjectsCard : Claim7 := { stood := { row := weaveProjectsRow, standIns := [], harness := (true, "743cd8ad4349333e7f9bec66224ebbf9eb8e1d3a5a2af6803159178be5221f77"), looks := false }, kinds := [], alts := [], laidByText := true, laidKinds := [.data, .pinned], laidTests := true, laidLooks := .later }
def WeaveProjectsCardSaid : Prop := Claim7.holds Tryd.pinned (.plain (OpenSpec.ofChange weaveProjectsSpec)) weaveProjectsCard

/-- THE TIED CARD OF 'mergelenslaw16.WeaveMarks'. -/
def weaveMarksCard : Claim7 := { stood := { row := weaveMarksRow, standIns := [], harness := (true, "743cd8ad4349333e7f9bec66224ebbf9eb8e1d3a5a2af6803159178be5221f77"), looks := false }, kinds := [], alts := [], laidByText := true, laidKinds := [.data, .pinned], laidTests := true, laidLooks := .later }
def WeaveMarksCardSaid : Prop := Claim7.holds Tryd.pinned (.plain (OpenSpec.ofChange weaveMarksSpec)) weaveMarksCard

/-- THE TIED CARD OF 'mergelenslaw16.WeaveSame'. -/
def weaveSameCard : Claim7 := { stood := { row := weaveSameRow, standIns := [], harness := (true, "743cd8ad4349333e7f9bec66224ebbf9eb8e1d3a5a2af6803159178be5221f77"), looks := false }, kinds := [], alts := [], laidByText := true, laidKinds := [.data, .pinned], laidTests := true, laidLooks := .later }
def WeaveSameCardSaid : Prop := Claim7.holds Tryd.pinned (.plain (OpenSpec.ofChange weaveSameSpec)) weaveSameCard

/-- THE TIED CARD OF 'mergelenslaw16.WeaveLimits'. -/
def weaveLimitsCard : Claim7 := { stood := { row := weaveLimitsRow, standIns := [], harness := (true, "743cd8ad4349333e7f9bec66224ebbf9eb8e1d3a5a2af6803159178be5221f77"), looks := false }, kinds := [], alts := [], laidByText := true, laidKinds := [.data, .pinned], laidTests := true, laidLooks := .later }
def WeaveLimitsCardSaid : Prop := Claim7.holds Tryd.pinned (.plain (OpenSpec.ofChange weaveLimitsSpec)) weaveLimitsCard

/-- THE TIED CARD OF 'mergelenslaw16.WeaveChecks'. -/
def weaveChecksCard : Claim7 := { stood := { row := weaveChecksRow, standIns := [], harness := (true, "743cd8ad4349333e7f9bec66224ebbf9eb8e1d3a5a2af6803159178be5221f77"), looks := false }, kinds := [], alts := [], laidByText := true, laidKinds := [.data, .pinned], laidTests := true, laidLooks := .later }
def WeaveChecksCardSaid : Prop := Claim7.holds Tryd.pinned (.plain (OpenSpec.ofChange weaveChecksSpec)) weaveChecksCard

/-- THE SECOND FORM's CARD OF 'mergelenslaw16.WeaveMakes'. -/
def weaveMakesUptoCard : Claim7 := { stood := { row := weaveMakesUptoRow, standIns := [], harness := (true, "743cd8ad4349333e7f9bec66224ebbf9eb8e1d3a5a2af6803159178be5221f77"), looks := false }, kinds := [], alts := [], laidByText := true, laidKinds := [.data, .pinned], laidTests := true, laidLooks := .later }
def WeaveMakesUptoCardSaid : Prop := Claim7.holds Tryd.pinned (.plain (OpenSpec.upto weaveMakesSpec)) weaveMakesUptoCard

/-- THE SECOND FORM's CARD OF 'mergelenslaw16.WeaveProjects'. -/
def weaveProjectsUptoCard : Claim7 := { stood := { row := weaveProjectsUptoRow, standIns := [], harness := (true, "743cd8ad4349333e7f9bec66224ebbf9eb8e1d3a5a2af6803159178be5221f77"), looks := false }, kinds := [], alts := [], laidByText := true, laidKinds := [.data, .pinned], laidTests := true, laidLooks := .later }
def WeaveProjectsUptoCardSaid : Prop := Claim7.holds Tryd.pinned (.plain (OpenSpec.upto weaveProjectsSpec)) weaveProjectsUptoCard

/-- THE SECOND FORM's CARD OF 'mergelenslaw16.WeaveMarks'. -/
def weaveMarksUptoCard : Claim7 := { stood := { row := weaveMarksUptoRow, standIns := [], harness := (true, "743cd8ad4349333e7f9bec66224ebbf9eb8e1d3a5a2af6803159178be5221f77"), looks := false }, kinds := [], alts := [], laidByText := true, laidKinds := [.data, .pinned], laidTests := true, laidLooks := .later }
def WeaveMarksUptoCardSaid : Prop := Claim7.holds Tryd.pinned (.plain (OpenSpec.upto weaveMarksSpec)) weaveMarksUptoCard

/-- THE SECOND FORM's CARD OF 'mergelenslaw16.WeaveSame'. -/
def weaveSameUptoCard : Claim7 := { stood := { row := weaveSameUptoRow, standIns := [], harness := (true, "743cd8ad4349333e7f9bec66224ebbf9eb8e1d3a5a2af6803159178be5221f77"), looks := false }, kinds := [], alts := [], laidByText := true, laidKinds := [.data, .pinned], laidTests := true, laidLooks := .later }
def WeaveSameUptoCardSaid : Prop := Claim7.holds Tryd.pinned (.plain (OpenSpec.upto weaveSameSpec)) weaveSameUptoCard

/-- THE SECOND FORM's CARD OF 'mergelenslaw16.WeaveLimits'. -/
def weaveLimitsUptoCard : Claim7 := { stood := { row := weaveLimitsUptoRow, standIns := [], harness := (true, "743cd8ad4349333e7f9bec66224ebbf9eb8e1d3a5a2af6803159178be5221f77"), looks := false }, kinds := [], alts := [], laidByText := true, laidKinds := [.data, .pinned], laidTests := true, laidLooks := .later }
def WeaveLimitsUptoCardSaid : Prop := Claim7.holds Tryd.pinned (.plain (OpenSpec.upto weaveLimitsSpec)) weaveLimitsUptoCard

/-- THE SECOND FORM's CARD OF 'mergelenslaw16.WeaveChecks'. -/
def weaveChecksUptoCard : Claim7 := { stood := { row := weaveChecksUptoRow, standIns := [], harness := (true, "743cd8ad4349333e7f9bec66224ebbf9eb8e1d3a5a2af6803159178be5221f77"), looks := false }, kinds := [], alts := [], laidByText := true, laidKinds := [.data, .pinned], laidTests := true, laidLooks := .later }
def WeaveChecksUptoCardSaid : Prop := Claim7.holds Tryd.pinned (.plain (OpenSpec.upto weaveChecksSpec)) weaveChecksUptoCard
end Rows
end Go.Proofs.YtgmdpmpmbhahhaaDoor
