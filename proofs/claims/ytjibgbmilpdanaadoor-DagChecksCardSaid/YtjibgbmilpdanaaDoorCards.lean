/-
  DERIVED. GIVEN WITH THE SEED: THE CARDS: each row of YtjibgbmilpdanaaDoorRows.lean that lists a variable, with what it lists TIED to the program's text (the seventh form; the later family's looks); each row that meets fmt, with fmt's text TOLD by the authors' own Lean function (tested against real Go, not proved from fmt's source: count such statements apart). THE CARD IS WHAT COUNTS. Prove the row's statement (the work); the ties are given (YtjibgbmilpdanaaDoorTie.lean); close each card by the builder's one call (the guide's Derived/Test/ToyasCard.lean, 'card_holds'). Laid BY PROGRAM, IN A SANDBOX (cutbox-door.mjs). By AI agents, Wed Nov 11 2026. No macro, syntax, notation, axiom, sorry.
-/
import Derived.Test.YtjibgbmilpdanaaDoorRows
import GoSem.ClaimSeven
namespace Go.Proofs.YtjibgbmilpdanaaDoor
namespace Rows

/-- THE TIED CARD OF 'mergelenslaw23.DagChecks'. -/
def dagChecksCard : Claim7 := { stood := { row := dagChecksRow, standIns := [], harness := (true, "2a63f6502eb796fd7c36b35a091835cf6ebee1be78d24e166d5e0fe1b425653b"), looks := false }, kinds := [], alts := [], laidByText := true, laidKinds := [.data, .pinned], laidTests := true, laidLooks := .later }
def DagChecksCardSaid : Prop := Claim7.holds Tryd.pinned (.plain (OpenSpec.ofChange dagChecksSpec)) dagChecksCard

/-- THE TIED CARD OF 'mergelenslaw23.DagCycles'. -/
def dagCyclesCard : Claim7 := { stood := { row := dagCyclesRow, standIns := [], harness := (true, "2a63f6502eb796fd7c36b35a091835cf6ebee1be78d24e166d5e0fe1b425653b"), looks := false }, kinds := [], alts := [], laidByText := true, laidKinds := [.data, .pinned], laidTests := true, laidLooks := .later }
def DagCyclesCardSaid : Prop := Claim7.holds Tryd.pinned (.plain (OpenSpec.ofChange dagCyclesSpec)) dagCyclesCard

/-- THE TIED CARD OF 'mergelenslaw23.DagLimits'. -/
def dagLimitsCard : Claim7 := { stood := { row := dagLimitsRow, standIns := [], harness := (true, "2a63f6502eb796fd7c36b35a091835cf6ebee1be78d24e166d5e0fe1b425653b"), looks := false }, kinds := [], alts := [], laidByText := true, laidKinds := [.data, .pinned], laidTests := true, laidLooks := .later }
def DagLimitsCardSaid : Prop := Claim7.holds Tryd.pinned (.plain (OpenSpec.ofChange dagLimitsSpec)) dagLimitsCard

/-- THE TIED CARD OF 'mergelenslaw23.DagLists'. -/
def dagListsCard : Claim7 := { stood := { row := dagListsRow, standIns := [], harness := (true, "2a63f6502eb796fd7c36b35a091835cf6ebee1be78d24e166d5e0fe1b425653b"), looks := false }, kinds := [], alts := [], laidByText := true, laidKinds := [.data, .pinned], laidTests := true, laidLooks := .later }
def DagListsCardSaid : Prop := Claim7.holds Tryd.pinned (.plain (OpenSpec.ofChange dagListsSpec)) dagListsCard

/-- THE TIED CARD OF 'mergelenslaw23.DagEnds'. -/
def dagEndsCard : Claim7 := { stood := { row := dagEndsRow, standIns := [], harness := (true, "2a63f6502eb796fd7c36b35a091835cf6ebee1be78d24e166d5e0fe1b425653b"), looks := false }, kinds := [], alts := [], laidByText := true, laidKinds := [.data, .pinned], laidTests := true, laidLooks := .later }
def DagEndsCardSaid : Prop := Claim7.holds Tryd.pinned (.plain (OpenSpec.ofChange dagEndsSpec)) dagEndsCard

/-- THE SECOND FORM's CARD OF 'mergelenslaw23.DagChecks'. -/
def dagChecksUptoCard : Claim7 := { stood := { row := dagChecksUptoRow, standIns := [], harness := (true, "2a63f6502eb796fd7c36b35a091835cf6ebee1be78d24e166d5e0fe1b425653b"), looks := false }, kinds := [], alts := [], laidByText := true, laidKinds := [.data, .pinned], laidTests := true, laidLooks := .later }
def DagChecksUptoCardSaid : Prop := Claim7.holds Tryd.pinned (.plain (OpenSpec.upto dagChecksSpec)) dagChecksUptoCard

/-- THE SECOND FORM's CARD OF 'mergelenslaw23.DagCycles'. -/
def dagCyclesUptoCard : Claim7 := { stood := { row := dagCyclesUptoRow, standIns := [], harness := (true, "2a63f6502eb796fd7c36b35a091835cf6ebee1be78d24e166d5e0fe1b425653b"), looks := false }, kinds := [], alts := [], laidByText := true, laidKinds := [.data, .pinned], laidTests := true, laidLooks := .later }
def DagCyclesUptoCardSaid : Prop := Claim7.holds Tryd.pinned (.plain (OpenSpec.upto dagCyclesSpec)) dagCyclesUptoCard

/-- THE SECOND FORM's CARD OF 'mergelenslaw23.DagLimits'. -/
def dagLimitsUptoCard : Claim7 := { stood := { row := dagLimitsUptoRow, standIns := [], harness := (true, "2a63f6502eb796fd7c36b35a091835cf6ebee1be78d24e166d5e0fe1b425653b"), looks := false }, kinds := [], alts := [], laidByText := true, laidKinds := [.data, .pinned], laidTests := true, laidLooks := .later }
def DagLimitsUptoCardSaid : Prop := Claim7.holds Tryd.pinned (.plain (OpenSpec.upto dagLimitsSpec)) dagLimitsUptoCard

/-- THE SECOND FORM's CARD OF 'mergelenslaw23.DagLists'. -/
def dagListsUptoCard : Claim7 := { stood := { row := dagListsUptoRow, standIns := [], harness := (true, "2a63f6502eb796fd7c36b35a091835cf6ebee1be78d24e166d5e0fe1b425653b"), looks := false }, kinds := [], alts := [], laidByText := true, laidKinds := [.data, .pinned], laidTests := true, laidLooks := .later }
def DagListsUptoCardSaid : Prop := Claim7.holds Tryd.pinned (.plain (OpenSpec.upto dagListsSpec)) dagListsUptoCard

/-- THE SECOND FORM's CARD OF 'mergelenslaw23.DagEnds'. -/
def dagEndsUptoCard : Claim7 := { stood := { row := dagEndsUptoRow, standIns := [], harness := (true, "2a63f6502eb796fd7c36b35a091835cf6ebee1be78d24e166d5e0fe1b425653b"), looks := false }, kinds := [], alts := [], laidByText := true, laidKinds := [.data, .pinned], laidTests := true, laidLooks := .later }
def DagEndsUptoCardSaid : Prop := Claim7.holds Tryd.pinned (.plain (OpenSpec.upto dagEndsSpec)) dagEndsUptoCard
end Rows
end Go.Proofs.YtjibgbmilpdanaaDoor
