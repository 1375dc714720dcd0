/-
  DERIVED. GIVEN WITH THE SEED: THE CARDS: each row of YtajdcggoplppdaaDoorRows.lean that lists a variable, with what it lists TIED to the program's text (the seventh form; the later family's looks); each row that meets fmt, with fmt's text TOLD by the authors' own Lean function (tested against real Go, not proved from fmt's source: count such statements apart). THE CARD IS WHAT COUNTS. Prove the row's statement (the work); the ties are given (YtajdcggoplppdaaDoorTie.lean); close each card by the builder's one call (the guide's Derived/Test/ToyasCard.lean, 'card_holds'). Laid BY PROGRAM, IN A SANDBOX (cutbox-door.mjs). By AI agents, Wed Nov 11 2026. No macro, syntax, notation, axiom, sorry.
-/
import Derived.Test.YtajdcggoplppdaaDoorRows
import GoSem.ClaimSeven
namespace Go.Proofs.YtajdcggoplppdaaDoor
namespace Rows

/-- THE TIED CARD OF 'mergelenslaw31.AnnotateOrigins'. -/
def annotateOriginsCard : Claim7 := { stood := { row := annotateOriginsRow, standIns := [], harness := (true, "09a18c8c2498085c8a212da77898201afd8806916b7b9ffddfaf8bad332e91dd"), looks := true }, kinds := [], alts := [], laidByText := true, laidKinds := [.data, .pinned], laidTests := true, laidLooks := .later }
def AnnotateOriginsCardSaid : Prop := Claim7.holds Tryd.pinned (.plain (OpenSpec.ofChange annotateOriginsSpec)) annotateOriginsCard

/-- THE TIED CARD OF 'mergelenslaw31.AnnotateSteps'. -/
def annotateStepsCard : Claim7 := { stood := { row := annotateStepsRow, standIns := [], harness := (true, "09a18c8c2498085c8a212da77898201afd8806916b7b9ffddfaf8bad332e91dd"), looks := true }, kinds := [], alts := [], laidByText := true, laidKinds := [.data, .pinned], laidTests := true, laidLooks := .later }
def AnnotateStepsCardSaid : Prop := Claim7.holds Tryd.pinned (.plain (OpenSpec.ofChange annotateStepsSpec)) annotateStepsCard

/-- THE TIED CARD OF 'mergelenslaw30.LinelogChain'. -/
def linelogChainCard : Claim7 := { stood := { row := linelogChainRow, standIns := [], harness := (true, "09a18c8c2498085c8a212da77898201afd8806916b7b9ffddfaf8bad332e91dd"), looks := true }, kinds := [], alts := [], laidByText := true, laidKinds := [.data, .pinned], laidTests := true, laidLooks := .later }
def LinelogChainCardSaid : Prop := Claim7.holds Tryd.pinned (.plain (OpenSpec.ofChange linelogChainSpec)) linelogChainCard

/-- THE SECOND FORM's CARD OF 'mergelenslaw31.AnnotateOrigins'. -/
def annotateOriginsUptoCard : Claim7 := { stood := { row := annotateOriginsUptoRow, standIns := [], harness := (true, "09a18c8c2498085c8a212da77898201afd8806916b7b9ffddfaf8bad332e91dd"), looks := true }, kinds := [], alts := [], laidByText := true, laidKinds := [.data, .pinned], laidTests := true, laidLooks := .later }
def AnnotateOriginsUptoCardSaid : Prop := Claim7.holds Tryd.pinned (.plain (OpenSpec.upto annotateOriginsSpec)) annotateOriginsUptoCard

/-- THE SECOND FORM's CARD OF 'mergelenslaw31.AnnotateSteps'. -/
def annotateStepsUptoCard : Claim7 := { stood := { row := annotateStepsUptoRow, standIns := [], harness := (true, "09a18c8c2498085c8a212da77898201afd8806916b7b9ffddfaf8bad332e91dd"), looks := true }, kinds := [], alts := [], laidByText := true, laidKinds := [.data, .pinned], laidTests := true, laidLooks := .later }
def AnnotateStepsUptoCardSaid : Prop := Claim7.holds Tryd.pinned (.plain (OpenSpec.upto annotateStepsSpec)) annotateStepsUptoCard

/-- THE SECOND FORM's CARD OF 'mergelenslaw30.LinelogChain'. -/
def linelogChainUptoCard : Claim7 := { stood := { row := linelogChainUptoRow, standIns := [], harness := (true, "09a18c8c2498085c8a212da77898201afd8806916b7b9ffddfaf8bad332e91dd"), looks := true }, kinds := [], alts := [], laidByText := true, laidKinds := [.data, .pinned], laidTests := true, laidLooks := .later }
def LinelogChainUptoCardSaid : Prop := Claim7.holds Tryd.pinned (.plain (OpenSpec.upto linelogChainSpec)) linelogChainUptoCard
end Rows
end Go.Proofs.YtajdcggoplppdaaDoor
