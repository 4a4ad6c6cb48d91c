/-
  DERIVED. GIVEN WITH THE SEED: THE CARDS: each row of YtehoikaiakigfaaDoorRows.lean that lists a variable, with what it lists TIED to the program's text (the seventh form; the later family's looks); each row that meets fmt, with fmt's text TOLD by the authors' own Lean function (tested against real Go, not proved from fmt's source: count such statements apart). THE CARD IS WHAT COUNTS. Prove the row's statement (the work); the ties are given (YtehoikaiakigfaaDoorTie.lean); close each card by the builder's one call (the guide's Derived/Test/ToyasCard.lean, 'card_holds'). Laid BY PROGRAM, IN A SANDBOX (cutbox-door.mjs). By AI agents, Wed Nov 11 2026. No macro, syntax, notation, axiom, sorry.
-/
import Derived.Test.YtehoikaiakigfaaDoorRows
import GoSem.ClaimSeven
namespace Go.Proofs.YtehoikaiakigfaaDoor
namespace Rows

/-- THE TIED CARD OF 'coinagelaw40.IsotonicJoins'. -/
def isotonicJoinsCard : Claim7 := { stood := { row := isotonicJoinsRow, standIns := [], harness := (true, "a16b12ea26f03f50bd98b475f375d9cd93af1f0ff7b83c110830cff03640fa7d"), looks := false }, kinds := [], alts := [], laidByText := true, laidKinds := [.data, .data, .data], laidTests := true, laidLooks := .later }
def IsotonicJoinsCardSaid : Prop := Claim7.holds Tryd.pinned (.plain (OpenSpec.ofChange isotonicJoinsSpec)) isotonicJoinsCard

/-- THE SECOND FORM's CARD OF 'coinagelaw40.IsotonicJoins'. -/
def isotonicJoinsUptoCard : Claim7 := { stood := { row := isotonicJoinsUptoRow, standIns := [], harness := (true, "a16b12ea26f03f50bd98b475f375d9cd93af1f0ff7b83c110830cff03640fa7d"), looks := false }, kinds := [], alts := [], laidByText := true, laidKinds := [.data, .data, .data], laidTests := true, laidLooks := .later }
def IsotonicJoinsUptoCardSaid : Prop := Claim7.holds Tryd.pinned (.plain (OpenSpec.upto isotonicJoinsSpec)) isotonicJoinsUptoCard
end Rows
end Go.Proofs.YtehoikaiakigfaaDoor
