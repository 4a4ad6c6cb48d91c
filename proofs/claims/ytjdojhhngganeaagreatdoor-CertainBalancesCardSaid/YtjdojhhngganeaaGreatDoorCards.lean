/-
  DERIVED. GIVEN WITH THE SEED: THE CARDS: each row of YtjdojhhngganeaaGreatDoorRows.lean that lists a variable, with what it lists TIED to the program's text (the seventh form; the later family's looks); each row that meets fmt, with fmt's text TOLD by the authors' own Lean function (tested against real Go, not proved from fmt's source: count such statements apart). THE CARD IS WHAT COUNTS. Prove the row's statement (the work); the ties are given (YtjdojhhngganeaaGreatDoorTie.lean); close each card by the builder's one call (the guide's Derived/Test/ToyasCard.lean, 'card_holds'). Laid BY PROGRAM, IN A SANDBOX (cutbox-door.mjs). By AI agents, Wed Nov 11 2026. No macro, syntax, notation, axiom, sorry.
-/
import Derived.Test.YtjdojhhngganeaaGreatDoorRows
import GoSem.ClaimSeven
namespace Go.Proofs.YtjdojhhngganeaaGreatDoor
namespace Rows

/-- THE TIED CARD OF 'coinagelaw24.CertainShares'. -/
def certainSharesCard : Claim7 := { stood := { row := certainSharesRow, standIns := [], harness := (true, "33d4b734716559b8a9ce68ed4f60faf7d1b29b4323c7908bb75c41609a0b876d"), looks := false }, kinds := [], alts := [], laidByText := true, laidKinds := [.data, .data, .data], laidTests := true, laidLooks := .later }
def CertainSharesCardSaid : Prop := Claim7.holds Tryz.pinned (.plain (OpenSpec.ofChange certainSharesSpec)) certainSharesCard

/-- THE TIED CARD OF 'coinagelaw24.CertainBalances'. -/
def certainBalancesCard : Claim7 := { stood := { row := certainBalancesRow, standIns := [], harness := (true, "33d4b734716559b8a9ce68ed4f60faf7d1b29b4323c7908bb75c41609a0b876d"), looks := false }, kinds := [], alts := [], laidByText := true, laidKinds := [.data, .data, .data], laidTests := true, laidLooks := .later }
def CertainBalancesCardSaid : Prop := Claim7.holds Tryz.pinned (.plain (OpenSpec.ofChange certainBalancesSpec)) certainBalancesCard

/-- THE TIED CARD OF 'coinagelaw24.CertainFollows'. -/
def certainFollowsCard : Claim7 := { stood := { row := certainFollowsRow, standIns := [], harness := (true, "33d4b734716559b8a9ce68ed4f60faf7d1b29b4323c7908bb75c41609a0b876d"), looks := false }, kinds := [], alts := [], laidByText := true, laidKinds := [.data, .data, .data], laidTests := true, laidLooks := .later }
def CertainFollowsCardSaid : Prop := Claim7.holds Tryz.pinned (.plain (OpenSpec.ofChange certainFollowsSpec)) certainFollowsCard

/-- THE TIED CARD OF 'coinagelaw24.CertainEither'. -/
def certainEitherCard : Claim7 := { stood := { row := certainEitherRow, standIns := [], harness := (true, "33d4b734716559b8a9ce68ed4f60faf7d1b29b4323c7908bb75c41609a0b876d"), looks := false }, kinds := [], alts := [], laidByText := true, laidKinds := [.data, .data, .data], laidTests := true, laidLooks := .later }
def CertainEitherCardSaid : Prop := Claim7.holds Tryz.pinned (.plain (OpenSpec.ofChange certainEitherSpec)) certainEitherCard

/-- THE TIED CARD OF 'coinagelaw24.CertainMeans'. -/
def certainMeansCard : Claim7 := { stood := { row := certainMeansRow, standIns := [], harness := (true, "33d4b734716559b8a9ce68ed4f60faf7d1b29b4323c7908bb75c41609a0b876d"), looks := false }, kinds := [], alts := [], laidByText := true, laidKinds := [.data, .data, .data], laidTests := true, laidLooks := .later }
def CertainMeansCardSaid : Prop := Claim7.holds Tryz.pinned (.plain (OpenSpec.ofChange certainMeansSpec)) certainMeansCard

/-- THE TIED CARD OF 'coinagelaw24.CertainReach'. -/
def certainReachCard : Claim7 := { stood := { row := certainReachRow, standIns := [], harness := (true, "33d4b734716559b8a9ce68ed4f60faf7d1b29b4323c7908bb75c41609a0b876d"), looks := false }, kinds := [], alts := [], laidByText := true, laidKinds := [.data, .data, .data], laidTests := true, laidLooks := .later }
def CertainReachCardSaid : Prop := Claim7.holds Tryz.pinned (.plain (OpenSpec.ofChange certainReachSpec)) certainReachCard

/-- THE TIED CARD OF 'coinagelaw24.CertainPlaces'. -/
def certainPlacesCard : Claim7 := { stood := { row := certainPlacesRow, standIns := [], harness := (true, "33d4b734716559b8a9ce68ed4f60faf7d1b29b4323c7908bb75c41609a0b876d"), looks := false }, kinds := [], alts := [], laidByText := true, laidKinds := [.data, .data, .data], laidTests := true, laidLooks := .later }
def CertainPlacesCardSaid : Prop := Claim7.holds Tryz.pinned (.plain (OpenSpec.ofChange certainPlacesSpec)) certainPlacesCard

/-- THE SECOND FORM's CARD OF 'coinagelaw24.CertainShares'. -/
def certainSharesUptoCard : Claim7 := { stood := { row := certainSharesUptoRow, standIns := [], harness := (true, "33d4b734716559b8a9ce68ed4f60faf7d1b29b4323c7908bb75c41609a0b876d"), looks := false }, kinds := [], alts := [], laidByText := true, laidKinds := [.data, .data, .data], laidTests := true, laidLooks := .later }
def CertainSharesUptoCardSaid : Prop := Claim7.holds Tryz.pinned (.plain (OpenSpec.upto certainSharesSpec)) certainSharesUptoCard

/-- THE SECOND FORM's CARD OF 'coinagelaw24.CertainBalances'. -/
def certainBalancesUptoCard : Claim7 := { stood := { row := certainBalancesUptoRow, standIns := [], harness := (true, "33d4b734716559b8a9ce68ed4f60faf7d1b29b4323c7908bb75c41609a0b876d"), looks := false }, kinds := [], alts := [], laidByText := true, laidKinds := [.data, .data, .data], laidTests := true, laidLooks := .later }
def CertainBalancesUptoCardSaid : Prop := Claim7.holds Tryz.pinned (.plain (OpenSpec.upto certainBalancesSpec)) certainBalancesUptoCard

/-- THE SECOND FORM's CARD OF 'coinagelaw24.CertainFollows'. -/
def certainFollowsUptoCard : Claim7 := { stood := { row := certainFollowsUptoRow, standIns := [], harness := (true, "33d4b734716559b8a9ce68ed4f60faf7d1b29b4323c7908bb75c41609a0b876d"), looks := false }, kinds := [], alts := [], laidByText := true, laidKinds := [.data, .data, .data], laidTests := true, laidLooks := .later }
def CertainFollowsUptoCardSaid : Prop := Claim7.holds Tryz.pinned (.plain (OpenSpec.upto certainFollowsSpec)) certainFollowsUptoCard

/-- THE SECOND FORM's CARD OF 'coinagelaw24.CertainEither'. -/
def certainEitherUptoCard : Claim7 := { stood := { row := certainEitherUptoRow, standIns := [], harness := (true, "33d4b734716559b8a9ce68ed4f60faf7d1b29b4323c7908bb75c41609a0b876d"), looks := false }, kinds := [], alts := [], laidByText := true, laidKinds := [.data, .data, .data], laidTests := true, laidLooks := .later }
def CertainEitherUptoCardSaid : Prop := Claim7.holds Tryz.pinned (.plain (OpenSpec.upto certainEitherSpec)) certainEitherUptoCard

/-- THE SECOND FORM's CARD OF 'coinagelaw24.CertainMeans'. -/
def certainMeansUptoCard : Claim7 := { stood := { row := certainMeansUptoRow, standIns := [], harness := (true, "33d4b734716559b8a9ce68ed4f60faf7d1b29b4323c7908bb75c41609a0b876d"), looks := false }, kinds := [], alts := [], laidByText := true, laidKinds := [.data, .data, .data], laidTests := true, laidLooks := .later }
def CertainMeansUptoCardSaid : Prop := Claim7.holds Tryz.pinned (.plain (OpenSpec.upto certainMeansSpec)) certainMeansUptoCard

/-- THE SECOND FORM's CARD OF 'coinagelaw24.CertainReach'. -/
def certainReachUptoCard : Claim7 := { stood := { row := certainReachUptoRow, standIns := [], harness := (true, "33d4b734716559b8a9ce68ed4f60faf7d1b29b4323c7908bb75c41609a0b876d"), looks := false }, kinds := [], alts := [], laidByText := true, laidKinds := [.data, .data, .data], laidTests := true, laidLooks := .later }
def CertainReachUptoCardSaid : Prop := Claim7.holds Tryz.pinned (.plain (OpenSpec.upto certainReachSpec)) certainReachUptoCard

/-- THE SECOND FORM's CARD OF 'coinagelaw24.CertainPlaces'. -/
def certainPlacesUptoCard : Claim7 := { stood := { row := certainPlacesUptoRow, standIns := [], harness := (true, "33d4b734716559b8a9ce68ed4f60faf7d1b29b4323c7908bb75c41609a0b876d"), looks := false }, kinds := [], alts := [], laidByText := true, laidKinds := [.data, .data, .data], laidTests := true, laidLooks := .later }
def CertainPlacesUptoCardSaid : Prop := Claim7.holds Tryz.pinned (.plain (OpenSpec.upto certainPlacesSpec)) certainPlacesUptoCard
end Rows
end Go.Proofs.YtjdojhhngganeaaGreatDoor
