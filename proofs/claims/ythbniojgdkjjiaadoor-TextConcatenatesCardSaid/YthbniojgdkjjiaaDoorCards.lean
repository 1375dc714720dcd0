/-
  DERIVED. GIVEN WITH THE SEED: THE CARDS: each row of YthbniojgdkjjiaaDoorRows.lean that lists a variable, with what it lists TIED to the program's text (the seventh form; the later family's looks); each row that meets fmt, with fmt's text TOLD by the authors' own Lean function (tested against real Go, not proved from fmt's source: count such statements apart). THE CARD IS WHAT COUNTS. Prove the row's statement (the work); the ties are given (YthbniojgdkjjiaaDoorTie.lean); close each card by the builder's one call (the guide's Derived/Test/ToyasCard.lean, 'card_holds'). Laid BY PROGRAM, IN A SANDBOX (cutbox-door.mjs). By AI agents, Wed Nov 11 2026. No macro, syntax, notation, axiom, sorry.
-/
import Derived.Test.YthbniojgdkjjiaaDoorRows
import GoSem.ClaimSeven
namespace Go.Proofs.YthbniojgdkjjiaaDoor
namespace Rows

/-- THE TIED CARD OF 'mergelenslaw02.TextSplits'. -/
def textSplitsCard : Claim7 := { stood := { row := textSplitsRow, standIns := [], harness := (true, "dbb93e8f5c332b542960983c2c95711b8ebf533ea2d6dcaa8a89298888470a7f"), looks := false }, kinds := [], alts := [], laidByText := true, laidKinds := [.data, .pinned], laidTests := true, laidLooks := .later }
def TextSplitsCardSaid : Prop := Claim7.holds Tryd.pinned (.plain (OpenSpec.ofChange textSplitsSpec)) textSplitsCard

/-- THE TIED CARD OF 'mergelenslaw02.TextJoins'. -/
def textJoinsCard : Claim7 := { stood := { row := textJoinsRow, standIns := [], harness := (true, "dbb93e8f5c332b542960983c2c95711b8ebf533ea2d6dcaa8a89298888470a7f"), looks := false }, kinds := [], alts := [], laidByText := true, laidKinds := [.data, .pinned], laidTests := true, laidLooks := .later }
def TextJoinsCardSaid : Prop := Claim7.holds Tryd.pinned (.plain (OpenSpec.ofChange textJoinsSpec)) textJoinsCard

/-- THE TIED CARD OF 'mergelenslaw02.TextRoundTrip'. -/
def textRoundTripCard : Claim7 := { stood := { row := textRoundTripRow, standIns := [], harness := (true, "dbb93e8f5c332b542960983c2c95711b8ebf533ea2d6dcaa8a89298888470a7f"), looks := false }, kinds := [], alts := [], laidByText := true, laidKinds := [.data, .pinned], laidTests := true, laidLooks := .later }
def TextRoundTripCardSaid : Prop := Claim7.holds Tryd.pinned (.plain (OpenSpec.ofChange textRoundTripSpec)) textRoundTripCard

/-- THE TIED CARD OF 'mergelenslaw02.TextLimits'. -/
def textLimitsCard : Claim7 := { stood := { row := textLimitsRow, standIns := [], harness := (true, "dbb93e8f5c332b542960983c2c95711b8ebf533ea2d6dcaa8a89298888470a7f"), looks := false }, kinds := [], alts := [], laidByText := true, laidKinds := [.data, .pinned], laidTests := true, laidLooks := .later }
def TextLimitsCardSaid : Prop := Claim7.holds Tryd.pinned (.plain (OpenSpec.ofChange textLimitsSpec)) textLimitsCard

/-- THE TIED CARD OF 'mergelenslaw02.TextConcatenates'. -/
def textConcatenatesCard : Claim7 := { stood := { row := textConcatenatesRow, standIns := [], harness := (true, "dbb93e8f5c332b542960983c2c95711b8ebf533ea2d6dcaa8a89298888470a7f"), looks := false }, kinds := [], alts := [], laidByText := true, laidKinds := [.data, .pinned], laidTests := true, laidLooks := .later }
def TextConcatenatesCardSaid : Prop := Claim7.holds Tryd.pinned (.plain (OpenSpec.ofChange textConcatenatesSpec)) textConcatenatesCard

/-- THE SECOND FORM's CARD OF 'mergelenslaw02.TextSplits'. -/
def textSplitsUptoCard : Claim7 := { stood := { row := textSplitsUptoRow, standIns := [], harness := (true, "dbb93e8f5c332b542960983c2c95711b8ebf533ea2d6dcaa8a89298888470a7f"), looks := false }, kinds := [], alts := [], laidByText := true, laidKinds := [.data, .pinned], laidTests := true, laidLooks := .later }
def TextSplitsUptoCardSaid : Prop := Claim7.holds Tryd.pinned (.plain (OpenSpec.upto textSplitsSpec)) textSplitsUptoCard

/-- THE SECOND FORM's CARD OF 'mergelenslaw02.TextJoins'. -/
def textJoinsUptoCard : Claim7 := { stood := { row := textJoinsUptoRow, standIns := [], harness := (true, "dbb93e8f5c332b542960983c2c95711b8ebf533ea2d6dcaa8a89298888470a7f"), looks := false }, kinds := [], alts := [], laidByText := true, laidKinds := [.data, .pinned], laidTests := true, laidLooks := .later }
def TextJoinsUptoCardSaid : Prop := Claim7.holds Tryd.pinned (.plain (OpenSpec.upto textJoinsSpec)) textJoinsUptoCard

/-- THE SECOND FORM's CARD OF 'mergelenslaw02.TextRoundTrip'. -/
def textRoundTripUptoCard : Claim7 := { stood := { row := textRoundTripUptoRow, standIns := [], harness := (true, "dbb93e8f5c332b542960983c2c95711b8ebf533ea2d6dcaa8a89298888470a7f"), looks := false }, kinds := [], alts := [], laidByText := true, laidKinds := [.data, .pinned], laidTests := true, laidLooks := .later }
def TextRoundTripUptoCardSaid : Prop := Claim7.holds Tryd.pinned (.plain (OpenSpec.upto textRoundTripSpec)) textRoundTripUptoCard

/-- THE SECOND FORM's CARD OF 'mergelenslaw02.TextLimits'. -/
def textLimitsUptoCard : Claim7 := { stood := { row := textLimitsUptoRow, standIns := [], harness := (true, "dbb93e8f5c332b542960983c2c95711b8ebf533ea2d6dcaa8a89298888470a7f"), looks := false }, kinds := [], alts := [], laidByText := true, laidKinds := [.data, .pinned], laidTests := true, laidLooks := .later }
def TextLimitsUptoCardSaid : Prop := Claim7.holds Tryd.pinned (.plain (OpenSpec.upto textLimitsSpec)) textLimitsUptoCard

/-- THE SECOND FORM's CARD OF 'mergelenslaw02.TextConcatenates'. -/
def textConcatenatesUptoCard : Claim7 := { stood := { row := textConcatenatesUptoRow, standIns := [], harness := (true, "dbb93e8f5c332b542960983c2c95711b8ebf533ea2d6dcaa8a89298888470a7f"), looks := false }, kinds := [], alts := [], laidByText := true, laidKinds := [.data, .pinned], laidTests := true, laidLooks := .later }
def TextConcatenatesUptoCardSaid : Prop := Claim7.holds Tryd.pinned (.plain (OpenSpec.upto textConcatenatesSpec)) textConcatenatesUptoCard
end Rows
end Go.Proofs.YthbniojgdkjjiaaDoor
