/-
  DERIVED. GIVEN WITH THE SEED: THE CARDS: each row of YtgnljjdcbfijnaaGreatDoorRows.lean that lists a variable, with what it lists TIED to the program's text (the seventh form; the later family's looks); each row that meets fmt, with fmt's text TOLD by the authors' own Lean function (tested against real Go, not proved from fmt's source: count such statements apart). THE CARD IS WHAT COUNTS. Prove the row's statement (the work); the ties are given (YtgnljjdcbfijnaaGreatDoorTie.lean); close each card by the builder's one call (the guide's Derived/Test/ToyasCard.lean, 'card_holds'). Laid BY PROGRAM, IN A SANDBOX (cutbox-door.mjs). By AI agents, Wed Nov 11 2026. No macro, syntax, notation, axiom, sorry.
-/
import Derived.Test.YtgnljjdcbfijnaaGreatDoorRows
import GoSem.ClaimSeven
namespace Go.Proofs.YtgnljjdcbfijnaaGreatDoor
namespace Rows

/-- THE TIED CARD OF 'coinagelaw38.StandardFits'. -/
def standardFitsCard : Claim7 := { stood := { row := standardFitsRow, standIns := [], harness := (true, "8cece8e31173f059b089040eb7708acbfd4ce75c0b7ee116ef9d40f7c912f9db"), looks := false }, kinds := [], alts := [], laidByText := true, laidKinds := [.data, .data, .data], laidTests := true, laidLooks := .later }
def StandardFitsCardSaid : Prop := Claim7.holds Tryz.pinned (.plain (OpenSpec.ofChange standardFitsSpec)) standardFitsCard

/-- THE TIED CARD OF 'coinagelaw38.StandardScores'. -/
def standardScoresCard : Claim7 := { stood := { row := standardScoresRow, standIns := [], harness := (true, "8cece8e31173f059b089040eb7708acbfd4ce75c0b7ee116ef9d40f7c912f9db"), looks := false }, kinds := [], alts := [], laidByText := true, laidKinds := [.data, .data, .data], laidTests := true, laidLooks := .later }
def StandardScoresCardSaid : Prop := Claim7.holds Tryz.pinned (.plain (OpenSpec.ofChange standardScoresSpec)) standardScoresCard

/-- THE TIED CARD OF 'coinagelaw38.StandardCommon'. -/
def standardCommonCard : Claim7 := { stood := { row := standardCommonRow, standIns := [], harness := (true, "8cece8e31173f059b089040eb7708acbfd4ce75c0b7ee116ef9d40f7c912f9db"), looks := false }, kinds := [], alts := [], laidByText := true, laidKinds := [.data, .data, .data], laidTests := true, laidLooks := .later }
def StandardCommonCardSaid : Prop := Claim7.holds Tryz.pinned (.plain (OpenSpec.ofChange standardCommonSpec)) standardCommonCard

/-- THE TIED CARD OF 'coinagelaw38.StandardBest'. -/
def standardBestCard : Claim7 := { stood := { row := standardBestRow, standIns := [], harness := (true, "8cece8e31173f059b089040eb7708acbfd4ce75c0b7ee116ef9d40f7c912f9db"), looks := false }, kinds := [], alts := [], laidByText := true, laidKinds := [.data, .data, .data], laidTests := true, laidLooks := .later }
def StandardBestCardSaid : Prop := Claim7.holds Tryz.pinned (.plain (OpenSpec.ofChange standardBestSpec)) standardBestCard

/-- THE SECOND FORM's CARD OF 'coinagelaw38.StandardFits'. -/
def standardFitsUptoCard : Claim7 := { stood := { row := standardFitsUptoRow, standIns := [], harness := (true, "8cece8e31173f059b089040eb7708acbfd4ce75c0b7ee116ef9d40f7c912f9db"), looks := false }, kinds := [], alts := [], laidByText := true, laidKinds := [.data, .data, .data], laidTests := true, laidLooks := .later }
def StandardFitsUptoCardSaid : Prop := Claim7.holds Tryz.pinned (.plain (OpenSpec.upto standardFitsSpec)) standardFitsUptoCard

/-- THE SECOND FORM's CARD OF 'coinagelaw38.StandardScores'. -/
def standardScoresUptoCard : Claim7 := { stood := { row := standardScoresUptoRow, standIns := [], harness := (true, "8cece8e31173f059b089040eb7708acbfd4ce75c0b7ee116ef9d40f7c912f9db"), looks := false }, kinds := [], alts := [], laidByText := true, laidKinds := [.data, .data, .data], laidTests := true, laidLooks := .later }
def StandardScoresUptoCardSaid : Prop := Claim7.holds Tryz.pinned (.plain (OpenSpec.upto standardScoresSpec)) standardScoresUptoCard

/-- THE SECOND FORM's CARD OF 'coinagelaw38.StandardCommon'. -/
def standardCommonUptoCard : Claim7 := { stood := { row := standardCommonUptoRow, standIns := [], harness := (true, "8cece8e31173f059b089040eb7708acbfd4ce75c0b7ee116ef9d40f7c912f9db"), looks := false }, kinds := [], alts := [], laidByText := true, laidKinds := [.data, .data, .data], laidTests := true, laidLooks := .later }
def StandardCommonUptoCardSaid : Prop := Claim7.holds Tryz.pinned (.plain (OpenSpec.upto standardCommonSpec)) standardCommonUptoCard

/-- THE SECOND FORM's CARD OF 'coinagelaw38.StandardBest'. -/
def standardBestUptoCard : Claim7 := { stood := { row := standardBestUptoRow, standIns := [], harness := (true, "8cece8e31173f059b089040eb7708acbfd4ce75c0b7ee116ef9d40f7c912f9db"), looks := false }, kinds := [], alts := [], laidByText := true, laidKinds := [.data, .data, .data], laidTests := true, laidLooks := .later }
def StandardBestUptoCardSaid : Prop := Claim7.holds Tryz.pinned (.plain (OpenSpec.upto standardBestSpec)) standardBestUptoCard
end Rows
end Go.Proofs.YtgnljjdcbfijnaaGreatDoor
