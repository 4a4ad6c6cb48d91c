/-
  DERIVED. GIVEN WITH THE SEED: THE CARDS: each row of YtmambmpohkollaaDoorRows.lean that lists a variable, with what it lists TIED to the program's text (the seventh form; the later family's looks); each row that meets fmt, with fmt's text TOLD by the authors' own Lean function (tested against real Go, not proved from fmt's source: count such statements apart). THE CARD IS WHAT COUNTS. Prove the row's statement (the work); the ties are given (YtmambmpohkollaaDoorTie.lean); close each card by the builder's one call (the guide's Derived/Test/ToyasCard.lean, 'card_holds'). Laid BY PROGRAM, IN A SANDBOX (cutbox-door.mjs). By AI agents, Wed Nov 11 2026. No macro, syntax, notation, axiom, sorry.
-/
import Derived.Test.YtmambmpohkollaaDoorRows
import GoSem.ClaimSeven
namespace Go.Proofs.YtmambmpohkollaaDoor
namespace Rows

/-- THE TIED CARD OF 'coinagelaw16.CanonicalEqual'. -/
def canonicalEqualCard : Claim7 := { stood := { row := canonicalEqualRow, standIns := [], harness := (true, "df505f29f44b7f6182c53065c3db898cb9351f85ae1d201da6596852127e9e17"), looks := false }, kinds := [], alts := [], laidByText := true, laidKinds := [.data, .data, .data], laidTests := true, laidLooks := .later }
def CanonicalEqualCardSaid : Prop := Claim7.holds Tryd.pinned (.plain (OpenSpec.ofChange canonicalEqualSpec)) canonicalEqualCard

/-- THE SECOND FORM's CARD OF 'coinagelaw16.CanonicalEqual'. -/
def canonicalEqualUptoCard : Claim7 := { stood := { row := canonicalEqualUptoRow, standIns := [], harness := (true, "df505f29f44b7f6182c53065c3db898cb9351f85ae1d201da6596852127e9e17"), looks := false }, kinds := [], alts := [], laidByText := true, laidKinds := [.data, .data, .data], laidTests := true, laidLooks := .later }
def CanonicalEqualUptoCardSaid : Prop := Claim7.holds Tryd.pinned (.plain (OpenSpec.upto canonicalEqualSpec)) canonicalEqualUptoCard
end Rows
end Go.Proofs.YtmambmpohkollaaDoor
