/-
  DERIVED. GIVEN WITH THE SEED: THE CARDS: each row of YtgnljjdcbfijnaaDoorRows.lean that lists a variable, with what it lists TIED to the program's text (the seventh form; the later family's looks); each row that meets fmt, with fmt's text TOLD by the authors' own Lean function (tested against real Go, not proved from fmt's source: count such statements apart). THE CARD IS WHAT COUNTS. Prove the row's statement (the work); the ties are given (YtgnljjdcbfijnaaDoorTie.lean); close each card by the builder's one call (the guide's Derived/Test/ToyasCard.lean, 'card_holds'). Laid BY PROGRAM, IN A SANDBOX (cutbox-door.mjs). By AI agents, Wed Nov 11 2026. No macro, syntax, notation, axiom, sorry.
-/
import Derived.Test.YtgnljjdcbfijnaaDoorRows
import GoSem.ClaimSeven
namespace Go.Proofs.YtgnljjdcbfijnaaDoor
namespace Rows

/-- THE TIED CARD OF 'coinagelaw38.StandardSpans'. -/
def standardSpansCard : Claim7 := { stood := { row := standardSpansRow, standIns := [], harness := (true, "80fcdf8a4b167250a416f858c0ce1e491d6f6921d0da2bf7906c05d5f2d61522"), looks := false }, kinds := [], alts := [], laidByText := true, laidKinds := [.data, .data, .data], laidTests := true, laidLooks := .later }
def StandardSpansCardSaid : Prop := Claim7.holds Tryd.pinned (.plain (OpenSpec.ofChange standardSpansSpec)) standardSpansCard

/-- THE TIED CARD OF 'coinagelaw38.StandardUnits'. -/
def standardUnitsCard : Claim7 := { stood := { row := standardUnitsRow, standIns := [], harness := (true, "80fcdf8a4b167250a416f858c0ce1e491d6f6921d0da2bf7906c05d5f2d61522"), looks := false }, kinds := [], alts := [], laidByText := true, laidKinds := [.data, .data, .data], laidTests := true, laidLooks := .later }
def StandardUnitsCardSaid : Prop := Claim7.holds Tryd.pinned (.plain (OpenSpec.ofChange standardUnitsSpec)) standardUnitsCard

/-- THE TIED CARD OF 'coinagelaw38.StandardNearest'. -/
def standardNearestCard : Claim7 := { stood := { row := standardNearestRow, standIns := [], harness := (true, "80fcdf8a4b167250a416f858c0ce1e491d6f6921d0da2bf7906c05d5f2d61522"), looks := false }, kinds := [], alts := [], laidByText := true, laidKinds := [.data, .data, .data], laidTests := true, laidLooks := .later }
def StandardNearestCardSaid : Prop := Claim7.holds Tryd.pinned (.plain (OpenSpec.ofChange standardNearestSpec)) standardNearestCard

/-- THE TIED CARD OF 'coinagelaw38.StandardErrors'. -/
def standardErrorsCard : Claim7 := { stood := { row := standardErrorsRow, standIns := [], harness := (true, "80fcdf8a4b167250a416f858c0ce1e491d6f6921d0da2bf7906c05d5f2d61522"), looks := false }, kinds := [], alts := [], laidByText := true, laidKinds := [.data, .data, .data], laidTests := true, laidLooks := .later }
def StandardErrorsCardSaid : Prop := Claim7.holds Tryd.pinned (.plain (OpenSpec.ofChange standardErrorsSpec)) standardErrorsCard

/-- THE TIED CARD OF 'coinagelaw38.StandardMore'. -/
def standardMoreCard : Claim7 := { stood := { row := standardMoreRow, standIns := [], harness := (true, "80fcdf8a4b167250a416f858c0ce1e491d6f6921d0da2bf7906c05d5f2d61522"), looks := false }, kinds := [], alts := [], laidByText := true, laidKinds := [.data, .data, .data], laidTests := true, laidLooks := .later }
def StandardMoreCardSaid : Prop := Claim7.holds Tryd.pinned (.plain (OpenSpec.ofChange standardMoreSpec)) standardMoreCard

/-- THE TIED CARD OF 'coinagelaw38.StandardAll'. -/
def standardAllCard : Claim7 := { stood := { row := standardAllRow, standIns := [], harness := (true, "80fcdf8a4b167250a416f858c0ce1e491d6f6921d0da2bf7906c05d5f2d61522"), looks := false }, kinds := [], alts := [], laidByText := true, laidKinds := [.data, .data, .data], laidTests := true, laidLooks := .later }
def StandardAllCardSaid : Prop := Claim7.holds Tryd.pinned (.plain (OpenSpec.ofChange standardAllSpec)) standardAllCard

/-- THE SECOND FORM's CARD OF 'coinagelaw38.StandardSpans'. -/
def standardSpansUptoCard : Claim7 := { stood := { row := standardSpansUptoRow, standIns := [], harness := (true, "80fcdf8a4b167250a416f858c0ce1e491d6f6921d0da2bf7906c05d5f2d61522"), looks := false }, kinds := [], alts := [], laidByText := true, laidKinds := [.data, .data, .data], laidTests := true, laidLooks := .later }
def StandardSpansUptoCardSaid : Prop := Claim7.holds Tryd.pinned (.plain (OpenSpec.upto standardSpansSpec)) standardSpansUptoCard

/-- THE SECOND FORM's CARD OF 'coinagelaw38.StandardUnits'. -/
def standardUnitsUptoCard : Claim7 := { stood := { row := standardUnitsUptoRow, standIns := [], harness := (true, "80fcdf8a4b167250a416f858c0ce1e491d6f6921d0da2bf7906c05d5f2d61522"), looks := false }, kinds := [], alts := [], laidByText := true, laidKinds := [.data, .data, .data], laidTests := true, laidLooks := .later }
def StandardUnitsUptoCardSaid : Prop := Claim7.holds Tryd.pinned (.plain (OpenSpec.upto standardUnitsSpec)) standardUnitsUptoCard

/-- THE SECOND FORM's CARD OF 'coinagelaw38.StandardNearest'. -/
def standardNearestUptoCard : Claim7 := { stood := { row := standardNearestUptoRow, standIns := [], harness := (true, "80fcdf8a4b167250a416f858c0ce1e491d6f6921d0da2bf7906c05d5f2d61522"), looks := false }, kinds := [], alts := [], laidByText := true, laidKinds := [.data, .data, .data], laidTests := true, laidLooks := .later }
def StandardNearestUptoCardSaid : Prop := Claim7.holds Tryd.pinned (.plain (OpenSpec.upto standardNearestSpec)) standardNearestUptoCard

/-- THE SECOND FORM's CARD OF 'coinagelaw38.StandardErrors'. -/
def standardErrorsUptoCard : Claim7 := { stood := { row := standardErrorsUptoRow, standIns := [], harness := (true, "80fcdf8a4b167250a416f858c0ce1e491d6f6921d0da2bf7906c05d5f2d61522"), looks := false }, kinds := [], alts := [], laidByText := true, laidKinds := [.data, .data, .data], laidTests := true, laidLooks := .later }
def StandardErrorsUptoCardSaid : Prop := Claim7.holds Tryd.pinned (.plain (OpenSpec.upto standardErrorsSpec)) standardErrorsUptoCard

/-- THE SECOND FORM's CARD OF 'coinagelaw38.StandardMore'. -/
def standardMoreUptoCard : Claim7 := { stood := { row := standardMoreUptoRow, standIns := [], harness := (true, "80fcdf8a4b167250a416f858c0ce1e491d6f6921d0da2bf7906c05d5f2d61522"), looks := false }, kinds := [], alts := [], laidByText := true, laidKinds := [.data, .data, .data], laidTests := true, laidLooks := .later }
def StandardMoreUptoCardSaid : Prop := Claim7.holds Tryd.pinned (.plain (OpenSpec.upto standardMoreSpec)) standardMoreUptoCard

/-- THE SECOND FORM's CARD OF 'coinagelaw38.StandardAll'. -/
def standardAllUptoCard : Claim7 := { stood := { row := standardAllUptoRow, standIns := [], harness := (true, "80fcdf8a4b167250a416f858c0ce1e491d6f6921d0da2bf7906c05d5f2d61522"), looks := false }, kinds := [], alts := [], laidByText := true, laidKinds := [.data, .data, .data], laidTests := true, laidLooks := .later }
def StandardAllUptoCardSaid : Prop := Claim7.holds Tryd.pinned (.plain (OpenSpec.upto standardAllSpec)) standardAllUptoCard
end Rows
end Go.Proofs.YtgnljjdcbfijnaaDoor
