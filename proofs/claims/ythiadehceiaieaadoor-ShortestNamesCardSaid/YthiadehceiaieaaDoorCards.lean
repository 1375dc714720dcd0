/-
  DERIVED. GIVEN WITH THE SEED: THE CARDS: each row of YthiadehceiaieaaDoorRows.lean that lists a variable, with what it lists TIED to the program's text (the seventh form; the later family's looks); each row that meets fmt, with fmt's text TOLD by the authors' own Lean function (tested against real Go, not proved from fmt's source: count such statements apart). THE CARD IS WHAT COUNTS. Prove the row's statement (the work); the ties are given (YthiadehceiaieaaDoorTie.lean); close each card by the builder's one call (the guide's Derived/Test/ToyasCard.lean, 'card_holds'). Laid BY PROGRAM, IN A SANDBOX (cutbox-door.mjs). By AI agents, Wed Nov 11 2026. No macro, syntax, notation, axiom, sorry.
-/
import Derived.Test.YthiadehceiaieaaDoorRows
import GoSem.ClaimSeven
namespace Go.Proofs.YthiadehceiaieaaDoor
namespace Rows

/-- THE TIED CARD OF 'mergelenslaw09.ShortestBlobs'. -/
def shortestBlobsCard : Claim7 := { stood := { row := shortestBlobsRow, standIns := [], harness := (true, "786df00e56689567bef85a963085a0f5664751bf8488cd01da0355ed73833d1e"), looks := false }, kinds := [], alts := [], laidByText := true, laidKinds := [.data, .pinned], laidTests := true, laidLooks := .later }
def ShortestBlobsCardSaid : Prop := Claim7.holds Tryd.pinned (.plain (OpenSpec.ofChange shortestBlobsSpec)) shortestBlobsCard

/-- THE TIED CARD OF 'mergelenslaw09.ShortestNames'. -/
def shortestNamesCard : Claim7 := { stood := { row := shortestNamesRow, standIns := [], harness := (true, "786df00e56689567bef85a963085a0f5664751bf8488cd01da0355ed73833d1e"), looks := false }, kinds := [], alts := [], laidByText := true, laidKinds := [.data, .pinned], laidTests := true, laidLooks := .later }
def ShortestNamesCardSaid : Prop := Claim7.holds Tryd.pinned (.plain (OpenSpec.ofChange shortestNamesSpec)) shortestNamesCard

/-- THE SECOND FORM's CARD OF 'mergelenslaw09.ShortestBlobs'. -/
def shortestBlobsUptoCard : Claim7 := { stood := { row := shortestBlobsUptoRow, standIns := [], harness := (true, "786df00e56689567bef85a963085a0f5664751bf8488cd01da0355ed73833d1e"), looks := false }, kinds := [], alts := [], laidByText := true, laidKinds := [.data, .pinned], laidTests := true, laidLooks := .later }
def ShortestBlobsUptoCardSaid : Prop := Claim7.holds Tryd.pinned (.plain (OpenSpec.upto shortestBlobsSpec)) shortestBlobsUptoCard

/-- THE SECOND FORM's CARD OF 'mergelenslaw09.ShortestNames'. -/
def shortestNamesUptoCard : Claim7 := { stood := { row := shortestNamesUptoRow, standIns := [], harness := (true, "786df00e56689567bef85a963085a0f5664751bf8488cd01da0355ed73833d1e"), looks := false }, kinds := [], alts := [], laidByText := true, laidKinds := [.data, .pinned], laidTests := true, laidLooks := .later }
def ShortestNamesUptoCardSaid : Prop := Claim7.holds Tryd.pinned (.plain (OpenSpec.upto shortestNamesSpec)) shortestNamesUptoCard
end Rows
end Go.Proofs.YthiadehceiaieaaDoor
