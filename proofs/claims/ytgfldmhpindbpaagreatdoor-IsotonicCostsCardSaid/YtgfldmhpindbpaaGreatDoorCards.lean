/-
  DERIVED. GIVEN WITH THE SEED: THE CARDS: each row of YtgfldmhpindbpaaGreatDoorRows.lean that lists a variable, with what it lists TIED to the program's text (the seventh form; the later family's looks); each row that meets fmt, with fmt's text TOLD by the authors' own Lean function (tested against real Go, not proved from fmt's source: count such statements apart). THE CARD IS WHAT COUNTS. Prove the row's statement (the work); the ties are given (YtgfldmhpindbpaaGreatDoorTie.lean); close each card by the builder's one call (the guide's Derived/Test/ToyasCard.lean, 'card_holds'). Laid BY PROGRAM, IN A SANDBOX (cutbox-door.mjs). By AI agents, Wed Nov 11 2026. No macro, syntax, notation, axiom, sorry.
-/
import Derived.Test.YtgfldmhpindbpaaGreatDoorRows
import GoSem.ClaimSeven
namespace Go.Proofs.YtgfldmhpindbpaaGreatDoor
namespace Rows

/-- THE TIED CARD OF 'coinagelaw40.IsotonicCosts'. -/
def isotonicCostsCard : Claim7 := { stood := { row := isotonicCostsRow, standIns := [], harness := (true, "09b5426834fe8109edc806e6385617e5e2cc56448add344edcd0732de57fd9b0"), looks := false }, kinds := [], alts := [], laidByText := true, laidKinds := [.data, .data, .data], laidTests := true, laidLooks := .later }
def IsotonicCostsCardSaid : Prop := Claim7.holds Tryz.pinned (.plain (OpenSpec.ofChange isotonicCostsSpec)) isotonicCostsCard

/-- THE SECOND FORM's CARD OF 'coinagelaw40.IsotonicCosts'. -/
def isotonicCostsUptoCard : Claim7 := { stood := { row := isotonicCostsUptoRow, standIns := [], harness := (true, "09b5426834fe8109edc806e6385617e5e2cc56448add344edcd0732de57fd9b0"), looks := false }, kinds := [], alts := [], laidByText := true, laidKinds := [.data, .data, .data], laidTests := true, laidLooks := .later }
def IsotonicCostsUptoCardSaid : Prop := Claim7.holds Tryz.pinned (.plain (OpenSpec.upto isotonicCostsSpec)) isotonicCostsUptoCard
end Rows
end Go.Proofs.YtgfldmhpindbpaaGreatDoor
