/-
  DERIVED. GIVEN WITH THE SEED: THE CARDS: each row of YtgfldmhpindbpaaDoorRows.lean that lists a variable, with what it lists TIED to the program's text (the seventh form; the later family's looks); each row that meets fmt, with fmt's text TOLD by the authors' own Lean function (tested against real Go, not proved from fmt's source: count such statements apart). THE CARD IS WHAT COUNTS. Prove the row's statement (the work); the ties are given (YtgfldmhpindbpaaDoorTie.lean); close each card by the builder's one call (the guide's Derived/Test/ToyasCard.lean, 'card_holds'). Laid BY PROGRAM, IN A SANDBOX (cutbox-door.mjs). By AI agents, Wed Nov 11 2026. No macro, syntax, notation, axiom, sorry.
-/
import Derived.Test.YtgfldmhpindbpaaDoorRows
import GoSem.ClaimSeven
namespace Go.Proofs.YtgfldmhpindbpaaDoor
namespace Rows

/-- THE TIED CARD OF 'coinagelaw40.IsotonicJoins'. -/
def isotonicJoinsCard : Claim7 := { stood := { row := isotonicJoinsRow, standIns := [], harness := (true, "281a8c8311c19ebceb6f817d6777342cf7cb55e92aaec55f6587e052d312f73c"), looks := false }, kinds := [], alts := [], laidByText := true, laidKinds := [.data, .data, .data], laidTests := true, laidLooks := .later }
def IsotonicJoinsCardSaid : Prop := Claim7.holds Tryd.pinned (.plain (OpenSpec.ofChange isotonicJoinsSpec)) isotonicJoinsCard

/-- THE TIED CARD OF 'coinagelaw40.IsotonicTurns'. -/
def isotonicTurnsCard : Claim7 := { stood := { row := isotonicTurnsRow, standIns := [], harness := (true, "281a8c8311c19ebceb6f817d6777342cf7cb55e92aaec55f6587e052d312f73c"), looks := false }, kinds := [], alts := [], laidByText := true, laidKinds := [.data, .data, .data], laidTests := true, laidLooks := .later }
def IsotonicTurnsCardSaid : Prop := Claim7.holds Tryd.pinned (.plain (OpenSpec.ofChange isotonicTurnsSpec)) isotonicTurnsCard

/-- THE TIED CARD OF 'coinagelaw40.IsotonicBlocks'. -/
def isotonicBlocksCard : Claim7 := { stood := { row := isotonicBlocksRow, standIns := [], harness := (true, "281a8c8311c19ebceb6f817d6777342cf7cb55e92aaec55f6587e052d312f73c"), looks := false }, kinds := [], alts := [], laidByText := true, laidKinds := [.data, .data, .data], laidTests := true, laidLooks := .later }
def IsotonicBlocksCardSaid : Prop := Claim7.holds Tryd.pinned (.plain (OpenSpec.ofChange isotonicBlocksSpec)) isotonicBlocksCard

/-- THE TIED CARD OF 'coinagelaw40.IsotonicSums'. -/
def isotonicSumsCard : Claim7 := { stood := { row := isotonicSumsRow, standIns := [], harness := (true, "281a8c8311c19ebceb6f817d6777342cf7cb55e92aaec55f6587e052d312f73c"), looks := false }, kinds := [], alts := [], laidByText := true, laidKinds := [.data, .data, .data], laidTests := true, laidLooks := .later }
def IsotonicSumsCardSaid : Prop := Claim7.holds Tryd.pinned (.plain (OpenSpec.ofChange isotonicSumsSpec)) isotonicSumsCard

/-- THE TIED CARD OF 'coinagelaw40.IsotonicMoves'. -/
def isotonicMovesCard : Claim7 := { stood := { row := isotonicMovesRow, standIns := [], harness := (true, "281a8c8311c19ebceb6f817d6777342cf7cb55e92aaec55f6587e052d312f73c"), looks := false }, kinds := [], alts := [], laidByText := true, laidKinds := [.data, .data, .data], laidTests := true, laidLooks := .later }
def IsotonicMovesCardSaid : Prop := Claim7.holds Tryd.pinned (.plain (OpenSpec.ofChange isotonicMovesSpec)) isotonicMovesCard

/-- THE TIED CARD OF 'coinagelaw40.IsotonicLeast'. -/
def isotonicLeastCard : Claim7 := { stood := { row := isotonicLeastRow, standIns := [], harness := (true, "281a8c8311c19ebceb6f817d6777342cf7cb55e92aaec55f6587e052d312f73c"), looks := false }, kinds := [], alts := [], laidByText := true, laidKinds := [.data, .data, .data], laidTests := true, laidLooks := .later }
def IsotonicLeastCardSaid : Prop := Claim7.holds Tryd.pinned (.plain (OpenSpec.ofChange isotonicLeastSpec)) isotonicLeastCard

/-- THE SECOND FORM's CARD OF 'coinagelaw40.IsotonicJoins'. -/
def isotonicJoinsUptoCard : Claim7 := { stood := { row := isotonicJoinsUptoRow, standIns := [], harness := (true, "281a8c8311c19ebceb6f817d6777342cf7cb55e92aaec55f6587e052d312f73c"), looks := false }, kinds := [], alts := [], laidByText := true, laidKinds := [.data, .data, .data], laidTests := true, laidLooks := .later }
def IsotonicJoinsUptoCardSaid : Prop := Claim7.holds Tryd.pinned (.plain (OpenSpec.upto isotonicJoinsSpec)) isotonicJoinsUptoCard

/-- THE SECOND FORM's CARD OF 'coinagelaw40.IsotonicTurns'. -/
def isotonicTurnsUptoCard : Claim7 := { stood := { row := isotonicTurnsUptoRow, standIns := [], harness := (true, "281a8c8311c19ebceb6f817d6777342cf7cb55e92aaec55f6587e052d312f73c"), looks := false }, kinds := [], alts := [], laidByText := true, laidKinds := [.data, .data, .data], laidTests := true, laidLooks := .later }
def IsotonicTurnsUptoCardSaid : Prop := Claim7.holds Tryd.pinned (.plain (OpenSpec.upto isotonicTurnsSpec)) isotonicTurnsUptoCard

/-- THE SECOND FORM's CARD OF 'coinagelaw40.IsotonicBlocks'. -/
def isotonicBlocksUptoCard : Claim7 := { stood := { row := isotonicBlocksUptoRow, standIns := [], harness := (true, "281a8c8311c19ebceb6f817d6777342cf7cb55e92aaec55f6587e052d312f73c"), looks := false }, kinds := [], alts := [], laidByText := true, laidKinds := [.data, .data, .data], laidTests := true, laidLooks := .later }
def IsotonicBlocksUptoCardSaid : Prop := Claim7.holds Tryd.pinned (.plain (OpenSpec.upto isotonicBlocksSpec)) isotonicBlocksUptoCard

/-- THE SECOND FORM's CARD OF 'coinagelaw40.IsotonicSums'. -/
def isotonicSumsUptoCard : Claim7 := { stood := { row := isotonicSumsUptoRow, standIns := [], harness := (true, "281a8c8311c19ebceb6f817d6777342cf7cb55e92aaec55f6587e052d312f73c"), looks := false }, kinds := [], alts := [], laidByText := true, laidKinds := [.data, .data, .data], laidTests := true, laidLooks := .later }
def IsotonicSumsUptoCardSaid : Prop := Claim7.holds Tryd.pinned (.plain (OpenSpec.upto isotonicSumsSpec)) isotonicSumsUptoCard

/-- THE SECOND FORM's CARD OF 'coinagelaw40.IsotonicMoves'. -/
def isotonicMovesUptoCard : Claim7 := { stood := { row := isotonicMovesUptoRow, standIns := [], harness := (true, "281a8c8311c19ebceb6f817d6777342cf7cb55e92aaec55f6587e052d312f73c"), looks := false }, kinds := [], alts := [], laidByText := true, laidKinds := [.data, .data, .data], laidTests := true, laidLooks := .later }
def IsotonicMovesUptoCardSaid : Prop := Claim7.holds Tryd.pinned (.plain (OpenSpec.upto isotonicMovesSpec)) isotonicMovesUptoCard

/-- THE SECOND FORM's CARD OF 'coinagelaw40.IsotonicLeast'. -/
def isotonicLeastUptoCard : Claim7 := { stood := { row := isotonicLeastUptoRow, standIns := [], harness := (true, "281a8c8311c19ebceb6f817d6777342cf7cb55e92aaec55f6587e052d312f73c"), looks := false }, kinds := [], alts := [], laidByText := true, laidKinds := [.data, .data, .data], laidTests := true, laidLooks := .later }
def IsotonicLeastUptoCardSaid : Prop := Claim7.holds Tryd.pinned (.plain (OpenSpec.upto isotonicLeastSpec)) isotonicLeastUptoCard
end Rows
end Go.Proofs.YtgfldmhpindbpaaDoor
