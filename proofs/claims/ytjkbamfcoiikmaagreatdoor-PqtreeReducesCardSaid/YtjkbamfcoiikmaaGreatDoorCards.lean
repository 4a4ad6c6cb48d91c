/-
  DERIVED. GIVEN WITH THE SEED: THE CARDS: each row of YtjkbamfcoiikmaaGreatDoorRows.lean that lists a variable, with what it lists TIED to the program's text (the seventh form; the later family's looks); each row that meets fmt, with fmt's text TOLD by the authors' own Lean function (tested against real Go, not proved from fmt's source: count such statements apart). THE CARD IS WHAT COUNTS. Prove the row's statement (the work); the ties are given (YtjkbamfcoiikmaaGreatDoorTie.lean); close each card by the builder's one call (the guide's Derived/Test/ToyasCard.lean, 'card_holds'). Laid BY PROGRAM, IN A SANDBOX (cutbox-door.mjs). By AI agents, Wed Nov 11 2026. No macro, syntax, notation, axiom, sorry.
-/
import Derived.Test.YtjkbamfcoiikmaaGreatDoorRows
import GoSem.ClaimSeven
namespace Go.Proofs.YtjkbamfcoiikmaaGreatDoor
namespace Rows

/-- THE TIED CARD OF 'coinagelaw28.PqtreeReduces'. -/
def pqtreeReducesCard : Claim7 := { stood := { row := pqtreeReducesRow, standIns := [], harness := (true, "f6e133fdb7bec10be2539cb8bbaccee171d1690db4956c3c04e629a0e6230290"), looks := false }, kinds := [], alts := [], laidByText := true, laidKinds := [.data, .data, .data], laidTests := true, laidLooks := .later }
def PqtreeReducesCardSaid : Prop := Claim7.holds Tryz.pinned (.plain (OpenSpec.ofChange pqtreeReducesSpec)) pqtreeReducesCard

/-- THE TIED CARD OF 'coinagelaw28.PqtreeNested'. -/
def pqtreeNestedCard : Claim7 := { stood := { row := pqtreeNestedRow, standIns := [], harness := (true, "f6e133fdb7bec10be2539cb8bbaccee171d1690db4956c3c04e629a0e6230290"), looks := false }, kinds := [], alts := [], laidByText := true, laidKinds := [.data, .data, .data], laidTests := true, laidLooks := .later }
def PqtreeNestedCardSaid : Prop := Claim7.holds Tryz.pinned (.plain (OpenSpec.ofChange pqtreeNestedSpec)) pqtreeNestedCard

/-- THE TIED CARD OF 'coinagelaw28.PqtreeHas'. -/
def pqtreeHasCard : Claim7 := { stood := { row := pqtreeHasRow, standIns := [], harness := (true, "f6e133fdb7bec10be2539cb8bbaccee171d1690db4956c3c04e629a0e6230290"), looks := false }, kinds := [], alts := [], laidByText := true, laidKinds := [.data, .data, .data], laidTests := true, laidLooks := .later }
def PqtreeHasCardSaid : Prop := Claim7.holds Tryz.pinned (.plain (OpenSpec.ofChange pqtreeHasSpec)) pqtreeHasCard

/-- THE TIED CARD OF 'coinagelaw28.PqtreeOrders'. -/
def pqtreeOrdersCard : Claim7 := { stood := { row := pqtreeOrdersRow, standIns := [], harness := (true, "f6e133fdb7bec10be2539cb8bbaccee171d1690db4956c3c04e629a0e6230290"), looks := false }, kinds := [], alts := [], laidByText := true, laidKinds := [.data, .data, .data], laidTests := true, laidLooks := .later }
def PqtreeOrdersCardSaid : Prop := Claim7.holds Tryz.pinned (.plain (OpenSpec.ofChange pqtreeOrdersSpec)) pqtreeOrdersCard

/-- THE TIED CARD OF 'coinagelaw28.PqtreeConflicts'. -/
def pqtreeConflictsCard : Claim7 := { stood := { row := pqtreeConflictsRow, standIns := [], harness := (true, "f6e133fdb7bec10be2539cb8bbaccee171d1690db4956c3c04e629a0e6230290"), looks := false }, kinds := [], alts := [], laidByText := true, laidKinds := [.data, .data, .data], laidTests := true, laidLooks := .later }
def PqtreeConflictsCardSaid : Prop := Claim7.holds Tryz.pinned (.plain (OpenSpec.ofChange pqtreeConflictsSpec)) pqtreeConflictsCard

/-- THE SECOND FORM's CARD OF 'coinagelaw28.PqtreeReduces'. -/
def pqtreeReducesUptoCard : Claim7 := { stood := { row := pqtreeReducesUptoRow, standIns := [], harness := (true, "f6e133fdb7bec10be2539cb8bbaccee171d1690db4956c3c04e629a0e6230290"), looks := false }, kinds := [], alts := [], laidByText := true, laidKinds := [.data, .data, .data], laidTests := true, laidLooks := .later }
def PqtreeReducesUptoCardSaid : Prop := Claim7.holds Tryz.pinned (.plain (OpenSpec.upto pqtreeReducesSpec)) pqtreeReducesUptoCard

/-- THE SECOND FORM's CARD OF 'coinagelaw28.PqtreeNested'. -/
def pqtreeNestedUptoCard : Claim7 := { stood := { row := pqtreeNestedUptoRow, standIns := [], harness := (true, "f6e133fdb7bec10be2539cb8bbaccee171d1690db4956c3c04e629a0e6230290"), looks := false }, kinds := [], alts := [], laidByText := true, laidKinds := [.data, .data, .data], laidTests := true, laidLooks := .later }
def PqtreeNestedUptoCardSaid : Prop := Claim7.holds Tryz.pinned (.plain (OpenSpec.upto pqtreeNestedSpec)) pqtreeNestedUptoCard

/-- THE SECOND FORM's CARD OF 'coinagelaw28.PqtreeHas'. -/
def pqtreeHasUptoCard : Claim7 := { stood := { row := pqtreeHasUptoRow, standIns := [], harness := (true, "f6e133fdb7bec10be2539cb8bbaccee171d1690db4956c3c04e629a0e6230290"), looks := false }, kinds := [], alts := [], laidByText := true, laidKinds := [.data, .data, .data], laidTests := true, laidLooks := .later }
def PqtreeHasUptoCardSaid : Prop := Claim7.holds Tryz.pinned (.plain (OpenSpec.upto pqtreeHasSpec)) pqtreeHasUptoCard

/-- THE SECOND FORM's CARD OF 'coinagelaw28.PqtreeOrders'. -/
def pqtreeOrdersUptoCard : Claim7 := { stood := { row := pqtreeOrdersUptoRow, standIns := [], harness := (true, "f6e133fdb7bec10be2539cb8bbaccee171d1690db4956c3c04e629a0e6230290"), looks := false }, kinds := [], alts := [], laidByText := true, laidKinds := [.data, .data, .data], laidTests := true, laidLooks := .later }
def PqtreeOrdersUptoCardSaid : Prop := Claim7.holds Tryz.pinned (.plain (OpenSpec.upto pqtreeOrdersSpec)) pqtreeOrdersUptoCard

/-- THE SECOND FORM's CARD OF 'coinagelaw28.PqtreeConflicts'. -/
def pqtreeConflictsUptoCard : Claim7 := { stood := { row := pqtreeConflictsUptoRow, standIns := [], harness := (true, "f6e133fdb7bec10be2539cb8bbaccee171d1690db4956c3c04e629a0e6230290"), looks := false }, kinds := [], alts := [], laidByText := true, laidKinds := [.data, .data, .data], laidTests := true, laidLooks := .later }
def PqtreeConflictsUptoCardSaid : Prop := Claim7.holds Tryz.pinned (.plain (OpenSpec.upto pqtreeConflictsSpec)) pqtreeConflictsUptoCard
end Rows
end Go.Proofs.YtjkbamfcoiikmaaGreatDoor
