/-
  DERIVED. GIVEN WITH THE SEED: THE CARDS: each row of YtlkndcbimdcnpaaDoorRows.lean that lists a variable, with what it lists TIED to the program's text (the seventh form; the later family's looks); each row that meets fmt, with fmt's text TOLD by the authors' own Lean function (tested against real Go, not proved from fmt's source: count such statements apart). THE CARD IS WHAT COUNTS. Prove the row's statement (the work); the ties are given (YtlkndcbimdcnpaaDoorTie.lean); close each card by the builder's one call (the guide's Derived/Test/ToyasCard.lean, 'card_holds'). Laid BY PROGRAM, IN A SANDBOX (cutbox-door.mjs). By AI agents, Wed Nov 11 2026. No macro, syntax, notation, axiom, sorry.
-/
import Derived.Test.YtlkndcbimdcnpaaDoorRows
import GoSem.ClaimSeven
namespace Go.Proofs.YtlkndcbimdcnpaaDoor
namespace Rows

/-- THE TIED CARD OF 'mergelenslaw24.WalkOrders'. -/
def walkOrdersCard : Claim7 := { stood := { row := walkOrdersRow, standIns := [], harness := (true, "f27516fa32190ba151d0a427a9818274a0ca7deaef9d67ea806a5c20009840be"), looks := true }, kinds := [], alts := [], laidByText := true, laidKinds := [.data, .pinned], laidTests := true, laidLooks := .later }
def WalkOrdersCardSaid : Prop := Claim7.holds Tryd.pinned (.plain (OpenSpec.ofChange walkOrdersSpec)) walkOrdersCard

/-- THE TIED CARD OF 'mergelenslaw24.WalkLevels'. -/
def walkLevelsCard : Claim7 := { stood := { row := walkLevelsRow, standIns := [], harness := (true, "f27516fa32190ba151d0a427a9818274a0ca7deaef9d67ea806a5c20009840be"), looks := true }, kinds := [], alts := [], laidByText := true, laidKinds := [.data, .pinned], laidTests := true, laidLooks := .later }
def WalkLevelsCardSaid : Prop := Claim7.holds Tryd.pinned (.plain (OpenSpec.ofChange walkLevelsSpec)) walkLevelsCard

/-- THE TIED CARD OF 'mergelenslaw24.WalkTopological'. -/
def walkTopologicalCard : Claim7 := { stood := { row := walkTopologicalRow, standIns := [], harness := (true, "f27516fa32190ba151d0a427a9818274a0ca7deaef9d67ea806a5c20009840be"), looks := true }, kinds := [], alts := [], laidByText := true, laidKinds := [.data, .pinned], laidTests := true, laidLooks := .later }
def WalkTopologicalCardSaid : Prop := Claim7.holds Tryd.pinned (.plain (OpenSpec.ofChange walkTopologicalSpec)) walkTopologicalCard

/-- THE TIED CARD OF 'mergelenslaw24.WalkLatest'. -/
def walkLatestCard : Claim7 := { stood := { row := walkLatestRow, standIns := [], harness := (true, "f27516fa32190ba151d0a427a9818274a0ca7deaef9d67ea806a5c20009840be"), looks := true }, kinds := [], alts := [], laidByText := true, laidKinds := [.data, .pinned], laidTests := true, laidLooks := .later }
def WalkLatestCardSaid : Prop := Claim7.holds Tryd.pinned (.plain (OpenSpec.ofChange walkLatestSpec)) walkLatestCard

/-- THE TIED CARD OF 'mergelenslaw24.WalkStarts'. -/
def walkStartsCard : Claim7 := { stood := { row := walkStartsRow, standIns := [], harness := (true, "f27516fa32190ba151d0a427a9818274a0ca7deaef9d67ea806a5c20009840be"), looks := true }, kinds := [], alts := [], laidByText := true, laidKinds := [.data, .pinned], laidTests := true, laidLooks := .later }
def WalkStartsCardSaid : Prop := Claim7.holds Tryd.pinned (.plain (OpenSpec.ofChange walkStartsSpec)) walkStartsCard

/-- THE TIED CARD OF 'mergelenslaw24.WalkHeights'. -/
def walkHeightsCard : Claim7 := { stood := { row := walkHeightsRow, standIns := [], harness := (true, "f27516fa32190ba151d0a427a9818274a0ca7deaef9d67ea806a5c20009840be"), looks := true }, kinds := [], alts := [], laidByText := true, laidKinds := [.data, .pinned], laidTests := true, laidLooks := .later }
def WalkHeightsCardSaid : Prop := Claim7.holds Tryd.pinned (.plain (OpenSpec.ofChange walkHeightsSpec)) walkHeightsCard

/-- THE SECOND FORM's CARD OF 'mergelenslaw24.WalkOrders'. -/
def walkOrdersUptoCard : Claim7 := { stood := { row := walkOrdersUptoRow, standIns := [], harness := (true, "f27516fa32190ba151d0a427a9818274a0ca7deaef9d67ea806a5c20009840be"), looks := true }, kinds := [], alts := [], laidByText := true, laidKinds := [.data, .pinned], laidTests := true, laidLooks := .later }
def WalkOrdersUptoCardSaid : Prop := Claim7.holds Tryd.pinned (.plain (OpenSpec.upto walkOrdersSpec)) walkOrdersUptoCard

/-- THE SECOND FORM's CARD OF 'mergelenslaw24.WalkLevels'. -/
def walkLevelsUptoCard : Claim7 := { stood := { row := walkLevelsUptoRow, standIns := [], harness := (true, "f27516fa32190ba151d0a427a9818274a0ca7deaef9d67ea806a5c20009840be"), looks := true }, kinds := [], alts := [], laidByText := true, laidKinds := [.data, .pinned], laidTests := true, laidLooks := .later }
def WalkLevelsUptoCardSaid : Prop := Claim7.holds Tryd.pinned (.plain (OpenSpec.upto walkLevelsSpec)) walkLevelsUptoCard

/-- THE SECOND FORM's CARD OF 'mergelenslaw24.WalkTopological'. -/
def walkTopologicalUptoCard : Claim7 := { stood := { row := walkTopologicalUptoRow, standIns := [], harness := (true, "f27516fa32190ba151d0a427a9818274a0ca7deaef9d67ea806a5c20009840be"), looks := true }, kinds := [], alts := [], laidByText := true, laidKinds := [.data, .pinned], laidTests := true, laidLooks := .later }
def WalkTopologicalUptoCardSaid : Prop := Claim7.holds Tryd.pinned (.plain (OpenSpec.upto walkTopologicalSpec)) walkTopologicalUptoCard

/-- THE SECOND FORM's CARD OF 'mergelenslaw24.WalkLatest'. -/
def walkLatestUptoCard : Claim7 := { stood := { row := walkLatestUptoRow, standIns := [], harness := (true, "f27516fa32190ba151d0a427a9818274a0ca7deaef9d67ea806a5c20009840be"), looks := true }, kinds := [], alts := [], laidByText := true, laidKinds := [.data, .pinned], laidTests := true, laidLooks := .later }
def WalkLatestUptoCardSaid : Prop := Claim7.holds Tryd.pinned (.plain (OpenSpec.upto walkLatestSpec)) walkLatestUptoCard

/-- THE SECOND FORM's CARD OF 'mergelenslaw24.WalkStarts'. -/
def walkStartsUptoCard : Claim7 := { stood := { row := walkStartsUptoRow, standIns := [], harness := (true, "f27516fa32190ba151d0a427a9818274a0ca7deaef9d67ea806a5c20009840be"), looks := true }, kinds := [], alts := [], laidByText := true, laidKinds := [.data, .pinned], laidTests := true, laidLooks := .later }
def WalkStartsUptoCardSaid : Prop := Claim7.holds Tryd.pinned (.plain (OpenSpec.upto walkStartsSpec)) walkStartsUptoCard

/-- THE SECOND FORM's CARD OF 'mergelenslaw24.WalkHeights'. -/
def walkHeightsUptoCard : Claim7 := { stood := { row := walkHeightsUptoRow, standIns := [], harness := (true, "f27516fa32190ba151d0a427a9818274a0ca7deaef9d67ea806a5c20009840be"), looks := true }, kinds := [], alts := [], laidByText := true, laidKinds := [.data, .pinned], laidTests := true, laidLooks := .later }
def WalkHeightsUptoCardSaid : Prop := Claim7.holds Tryd.pinned (.plain (OpenSpec.upto walkHeightsSpec)) walkHeightsUptoCard
end Rows
end Go.Proofs.YtlkndcbimdcnpaaDoor
