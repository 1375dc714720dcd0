/-
  DERIVED. GIVEN WITH THE SEED: THE CARDS: each row of YtafcebkjmeinnaaGreatDoorRows.lean that lists a variable, with what it lists TIED to the program's text (the seventh form; the later family's looks); each row that meets fmt, with fmt's text TOLD by the authors' own Lean function (tested against real Go, not proved from fmt's source: count such statements apart). THE CARD IS WHAT COUNTS. Prove the row's statement (the work); the ties are given (YtafcebkjmeinnaaGreatDoorTie.lean); close each card by the builder's one call (the guide's Derived/Test/ToyasCard.lean, 'card_holds'). Laid BY PROGRAM, IN A SANDBOX (cutbox-door.mjs). By AI agents, Wed Nov 11 2026. No macro, syntax, notation, axiom, sorry.
-/
import Derived.Test.YtafcebkjmeinnaaGreatDoorRows
import GoSem.ClaimSeven
namespace Go.Proofs.YtafcebkjmeinnaaGreatDoor
namespace Rows

/-- THE TIED CARD OF 'mergelenstop.TopReverses'. -/
def topReversesCard : Claim7 := { stood := { row := topReversesRow, standIns := [], harness := (true, "0d17d2b5971fa3577ea387cde13f980015ffc275b526b9e2f9a74c53ae41459b"), looks := false }, kinds := [], alts := [], laidByText := true, laidKinds := [.data, .data, .data, .data, .pinned], laidTests := true, laidLooks := .later }
def TopReversesCardSaid : Prop := Claim7.holds Tryz.pinned (.plain (OpenSpec.ofChange topReversesSpec)) topReversesCard

/-- THE TIED CARD OF 'mergelenstop.TopChains'. -/
def topChainsCard : Claim7 := { stood := { row := topChainsRow, standIns := [], harness := (true, "0d17d2b5971fa3577ea387cde13f980015ffc275b526b9e2f9a74c53ae41459b"), looks := false }, kinds := [], alts := [], laidByText := true, laidKinds := [.data, .data, .data, .data, .pinned], laidTests := true, laidLooks := .later }
def TopChainsCardSaid : Prop := Claim7.holds Tryz.pinned (.plain (OpenSpec.ofChange topChainsSpec)) topChainsCard

/-- THE TIED CARD OF 'mergelenstop.TopRestores'. -/
def topRestoresCard : Claim7 := { stood := { row := topRestoresRow, standIns := [], harness := (true, "0d17d2b5971fa3577ea387cde13f980015ffc275b526b9e2f9a74c53ae41459b"), looks := false }, kinds := [], alts := [], laidByText := true, laidKinds := [.data, .data, .data, .data, .pinned], laidTests := true, laidLooks := .later }
def TopRestoresCardSaid : Prop := Claim7.holds Tryz.pinned (.plain (OpenSpec.ofChange topRestoresSpec)) topRestoresCard

/-- THE TIED CARD OF 'mergelenstop.TopReads'. -/
def topReadsCard : Claim7 := { stood := { row := topReadsRow, standIns := [], harness := (true, "0d17d2b5971fa3577ea387cde13f980015ffc275b526b9e2f9a74c53ae41459b"), looks := false }, kinds := [], alts := [], laidByText := true, laidKinds := [.data, .data, .data, .data, .pinned], laidTests := true, laidLooks := .later }
def TopReadsCardSaid : Prop := Claim7.holds Tryz.pinned (.plain (OpenSpec.ofChange topReadsSpec)) topReadsCard

/-- THE SECOND FORM's CARD OF 'mergelenstop.TopReverses'. -/
def topReversesUptoCard : Claim7 := { stood := { row := topReversesUptoRow, standIns := [], harness := (true, "0d17d2b5971fa3577ea387cde13f980015ffc275b526b9e2f9a74c53ae41459b"), looks := false }, kinds := [], alts := [], laidByText := true, laidKinds := [.data, .data, .data, .data, .pinned], laidTests := true, laidLooks := .later }
def TopReversesUptoCardSaid : Prop := Claim7.holds Tryz.pinned (.plain (OpenSpec.upto topReversesSpec)) topReversesUptoCard

/-- THE SECOND FORM's CARD OF 'mergelenstop.TopChains'. -/
def topChainsUptoCard : Claim7 := { stood := { row := topChainsUptoRow, standIns := [], harness := (true, "0d17d2b5971fa3577ea387cde13f980015ffc275b526b9e2f9a74c53ae41459b"), looks := false }, kinds := [], alts := [], laidByText := true, laidKinds := [.data, .data, .data, .data, .pinned], laidTests := true, laidLooks := .later }
def TopChainsUptoCardSaid : Prop := Claim7.holds Tryz.pinned (.plain (OpenSpec.upto topChainsSpec)) topChainsUptoCard

/-- THE SECOND FORM's CARD OF 'mergelenstop.TopRestores'. -/
def topRestoresUptoCard : Claim7 := { stood := { row := topRestoresUptoRow, standIns := [], harness := (true, "0d17d2b5971fa3577ea387cde13f980015ffc275b526b9e2f9a74c53ae41459b"), looks := false }, kinds := [], alts := [], laidByText := true, laidKinds := [.data, .data, .data, .data, .pinned], laidTests := true, laidLooks := .later }
def TopRestoresUptoCardSaid : Prop := Claim7.holds Tryz.pinned (.plain (OpenSpec.upto topRestoresSpec)) topRestoresUptoCard

/-- THE SECOND FORM's CARD OF 'mergelenstop.TopReads'. -/
def topReadsUptoCard : Claim7 := { stood := { row := topReadsUptoRow, standIns := [], harness := (true, "0d17d2b5971fa3577ea387cde13f980015ffc275b526b9e2f9a74c53ae41459b"), looks := false }, kinds := [], alts := [], laidByText := true, laidKinds := [.data, .data, .data, .data, .pinned], laidTests := true, laidLooks := .later }
def TopReadsUptoCardSaid : Prop := Claim7.holds Tryz.pinned (.plain (OpenSpec.upto topReadsSpec)) topReadsUptoCard
end Rows
end Go.Proofs.YtafcebkjmeinnaaGreatDoor
