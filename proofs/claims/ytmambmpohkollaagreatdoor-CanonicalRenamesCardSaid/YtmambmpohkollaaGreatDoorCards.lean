/-
  DERIVED. GIVEN WITH THE SEED: THE CARDS: each row of YtmambmpohkollaaGreatDoorRows.lean that lists a variable, with what it lists TIED to the program's text (the seventh form; the later family's looks); each row that meets fmt, with fmt's text TOLD by the authors' own Lean function (tested against real Go, not proved from fmt's source: count such statements apart). THE CARD IS WHAT COUNTS. Prove the row's statement (the work); the ties are given (YtmambmpohkollaaGreatDoorTie.lean); close each card by the builder's one call (the guide's Derived/Test/ToyasCard.lean, 'card_holds'). Laid BY PROGRAM, IN A SANDBOX (cutbox-door.mjs). By AI agents, Wed Nov 11 2026. No macro, syntax, notation, axiom, sorry.
-/
import Derived.Test.YtmambmpohkollaaGreatDoorRows
import GoSem.ClaimSeven
namespace Go.Proofs.YtmambmpohkollaaGreatDoor
namespace Rows

/-- THE TIED CARD OF 'coinagelaw16.CanonicalCodes'. -/
def canonicalCodesCard : Claim7 := { stood := { row := canonicalCodesRow, standIns := [], harness := (true, "0f47df471d44b2e6b02d15e71b7d151754e51d4fce7f4646957e2267f4ae487d"), looks := false }, kinds := [], alts := [], laidByText := true, laidKinds := [.data, .data, .data], laidTests := true, laidLooks := .later }
def CanonicalCodesCardSaid : Prop := Claim7.holds Tryz.pinned (.plain (OpenSpec.ofChange canonicalCodesSpec)) canonicalCodesCard

/-- THE TIED CARD OF 'coinagelaw16.CanonicalMirrors'. -/
def canonicalMirrorsCard : Claim7 := { stood := { row := canonicalMirrorsRow, standIns := [], harness := (true, "0f47df471d44b2e6b02d15e71b7d151754e51d4fce7f4646957e2267f4ae487d"), looks := false }, kinds := [], alts := [], laidByText := true, laidKinds := [.data, .data, .data], laidTests := true, laidLooks := .later }
def CanonicalMirrorsCardSaid : Prop := Claim7.holds Tryz.pinned (.plain (OpenSpec.ofChange canonicalMirrorsSpec)) canonicalMirrorsCard

/-- THE TIED CARD OF 'coinagelaw16.CanonicalLeads'. -/
def canonicalLeadsCard : Claim7 := { stood := { row := canonicalLeadsRow, standIns := [], harness := (true, "0f47df471d44b2e6b02d15e71b7d151754e51d4fce7f4646957e2267f4ae487d"), looks := false }, kinds := [], alts := [], laidByText := true, laidKinds := [.data, .data, .data], laidTests := true, laidLooks := .later }
def CanonicalLeadsCardSaid : Prop := Claim7.holds Tryz.pinned (.plain (OpenSpec.ofChange canonicalLeadsSpec)) canonicalLeadsCard

/-- THE TIED CARD OF 'coinagelaw16.CanonicalMaps'. -/
def canonicalMapsCard : Claim7 := { stood := { row := canonicalMapsRow, standIns := [], harness := (true, "0f47df471d44b2e6b02d15e71b7d151754e51d4fce7f4646957e2267f4ae487d"), looks := false }, kinds := [], alts := [], laidByText := true, laidKinds := [.data, .data, .data], laidTests := true, laidLooks := .later }
def CanonicalMapsCardSaid : Prop := Claim7.holds Tryz.pinned (.plain (OpenSpec.ofChange canonicalMapsSpec)) canonicalMapsCard

/-- THE TIED CARD OF 'coinagelaw16.CanonicalRenames'. -/
def canonicalRenamesCard : Claim7 := { stood := { row := canonicalRenamesRow, standIns := [], harness := (true, "0f47df471d44b2e6b02d15e71b7d151754e51d4fce7f4646957e2267f4ae487d"), looks := false }, kinds := [], alts := [], laidByText := true, laidKinds := [.data, .data, .data], laidTests := true, laidLooks := .later }
def CanonicalRenamesCardSaid : Prop := Claim7.holds Tryz.pinned (.plain (OpenSpec.ofChange canonicalRenamesSpec)) canonicalRenamesCard

/-- THE SECOND FORM's CARD OF 'coinagelaw16.CanonicalCodes'. -/
def canonicalCodesUptoCard : Claim7 := { stood := { row := canonicalCodesUptoRow, standIns := [], harness := (true, "0f47df471d44b2e6b02d15e71b7d151754e51d4fce7f4646957e2267f4ae487d"), looks := false }, kinds := [], alts := [], laidByText := true, laidKinds := [.data, .data, .data], laidTests := true, laidLooks := .later }
def CanonicalCodesUptoCardSaid : Prop := Claim7.holds Tryz.pinned (.plain (OpenSpec.upto canonicalCodesSpec)) canonicalCodesUptoCard

/-- THE SECOND FORM's CARD OF 'coinagelaw16.CanonicalMirrors'. -/
def canonicalMirrorsUptoCard : Claim7 := { stood := { row := canonicalMirrorsUptoRow, standIns := [], harness := (true, "0f47df471d44b2e6b02d15e71b7d151754e51d4fce7f4646957e2267f4ae487d"), looks := false }, kinds := [], alts := [], laidByText := true, laidKinds := [.data, .data, .data], laidTests := true, laidLooks := .later }
def CanonicalMirrorsUptoCardSaid : Prop := Claim7.holds Tryz.pinned (.plain (OpenSpec.upto canonicalMirrorsSpec)) canonicalMirrorsUptoCard

/-- THE SECOND FORM's CARD OF 'coinagelaw16.CanonicalLeads'. -/
def canonicalLeadsUptoCard : Claim7 := { stood := { row := canonicalLeadsUptoRow, standIns := [], harness := (true, "0f47df471d44b2e6b02d15e71b7d151754e51d4fce7f4646957e2267f4ae487d"), looks := false }, kinds := [], alts := [], laidByText := true, laidKinds := [.data, .data, .data], laidTests := true, laidLooks := .later }
def CanonicalLeadsUptoCardSaid : Prop := Claim7.holds Tryz.pinned (.plain (OpenSpec.upto canonicalLeadsSpec)) canonicalLeadsUptoCard

/-- THE SECOND FORM's CARD OF 'coinagelaw16.CanonicalMaps'. -/
def canonicalMapsUptoCard : Claim7 := { stood := { row := canonicalMapsUptoRow, standIns := [], harness := (true, "0f47df471d44b2e6b02d15e71b7d151754e51d4fce7f4646957e2267f4ae487d"), looks := false }, kinds := [], alts := [], laidByText := true, laidKinds := [.data, .data, .data], laidTests := true, laidLooks := .later }
def CanonicalMapsUptoCardSaid : Prop := Claim7.holds Tryz.pinned (.plain (OpenSpec.upto canonicalMapsSpec)) canonicalMapsUptoCard

/-- THE SECOND FORM's CARD OF 'coinagelaw16.CanonicalRenames'. -/
def canonicalRenamesUptoCard : Claim7 := { stood := { row := canonicalRenamesUptoRow, standIns := [], harness := (true, "0f47df471d44b2e6b02d15e71b7d151754e51d4fce7f4646957e2267f4ae487d"), looks := false }, kinds := [], alts := [], laidByText := true, laidKinds := [.data, .data, .data], laidTests := true, laidLooks := .later }
def CanonicalRenamesUptoCardSaid : Prop := Claim7.holds Tryz.pinned (.plain (OpenSpec.upto canonicalRenamesSpec)) canonicalRenamesUptoCard
end Rows
end Go.Proofs.YtmambmpohkollaaGreatDoor
