/-
  DERIVED. GIVEN WITH THE SEED: THE CARDS: each row of YtjkbamfcoiikmaaDoorRows.lean that lists a variable, with what it lists TIED to the program's text (the seventh form; the later family's looks); each row that meets fmt, with fmt's text TOLD by the authors' own Lean function (tested against real Go, not proved from fmt's source: count such statements apart). THE CARD IS WHAT COUNTS. Prove the row's statement (the work); the ties are given (YtjkbamfcoiikmaaDoorTie.lean); close each card by the builder's one call (the guide's Derived/Test/ToyasCard.lean, 'card_holds'). Laid BY PROGRAM, IN A SANDBOX (cutbox-door.mjs). By AI agents, Wed Nov 11 2026. No macro, syntax, notation, axiom, sorry.
-/
import Derived.Test.YtjkbamfcoiikmaaDoorRows
import GoSem.ClaimSeven
namespace Go.Proofs.YtjkbamfcoiikmaaDoor
namespace Rows

/-- THE TIED CARD OF 'coinagelaw28.PqtreeClones'. -/
def pqtreeClonesCard : Claim7 := { stood := { row := pqtreeClonesRow, standIns := [], harness := (true, "3f0898096da4a1209c7c829b4b066bd197f4f4d347d53eca84e78058d66f7d9d"), looks := false }, kinds := [], alts := [], laidByText := true, laidKinds := [.data, .data, .data], laidTests := true, laidLooks := .later }
def PqtreeClonesCardSaid : Prop := Claim7.holds Tryd.pinned (.plain (OpenSpec.ofChange pqtreeClonesSpec)) pqtreeClonesCard

/-- THE TIED CARD OF 'coinagelaw28.PqtreeAny'. -/
def pqtreeAnyCard : Claim7 := { stood := { row := pqtreeAnyRow, standIns := [], harness := (true, "3f0898096da4a1209c7c829b4b066bd197f4f4d347d53eca84e78058d66f7d9d"), looks := false }, kinds := [], alts := [], laidByText := true, laidKinds := [.data, .data, .data], laidTests := true, laidLooks := .later }
def PqtreeAnyCardSaid : Prop := Claim7.holds Tryd.pinned (.plain (OpenSpec.ofChange pqtreeAnySpec)) pqtreeAnyCard

/-- THE SECOND FORM's CARD OF 'coinagelaw28.PqtreeClones'. -/
def pqtreeClonesUptoCard : Claim7 := { stood := { row := pqtreeClonesUptoRow, standIns := [], harness := (true, "3f0898096da4a1209c7c829b4b066bd197f4f4d347d53eca84e78058d66f7d9d"), looks := false }, kinds := [], alts := [], laidByText := true, laidKinds := [.data, .data, .data], laidTests := true, laidLooks := .later }
def PqtreeClonesUptoCardSaid : Prop := Claim7.holds Tryd.pinned (.plain (OpenSpec.upto pqtreeClonesSpec)) pqtreeClonesUptoCard

/-- THE SECOND FORM's CARD OF 'coinagelaw28.PqtreeAny'. -/
def pqtreeAnyUptoCard : Claim7 := { stood := { row := pqtreeAnyUptoRow, standIns := [], harness := (true, "3f0898096da4a1209c7c829b4b066bd197f4f4d347d53eca84e78058d66f7d9d"), looks := false }, kinds := [], alts := [], laidByText := true, laidKinds := [.data, .data, .data], laidTests := true, laidLooks := .later }
def PqtreeAnyUptoCardSaid : Prop := Claim7.holds Tryd.pinned (.plain (OpenSpec.upto pqtreeAnySpec)) pqtreeAnyUptoCard
end Rows
end Go.Proofs.YtjkbamfcoiikmaaDoor
