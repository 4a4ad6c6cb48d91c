/-
  DERIVED. GIVEN WITH THE SEED: THE CARDS: each row of YtgikgmhifjjekaaDoorRows.lean that lists a variable, with what it lists TIED to the program's text (the seventh form; the later family's looks); each row that meets fmt, with fmt's text TOLD by the authors' own Lean function (tested against real Go, not proved from fmt's source: count such statements apart). THE CARD IS WHAT COUNTS. Prove the row's statement (the work); the ties are given (YtgikgmhifjjekaaDoorTie.lean); close each card by the builder's one call (the guide's Derived/Test/ToyasCard.lean, 'card_holds'). Laid BY PROGRAM, IN A SANDBOX (cutbox-door.mjs). By AI agents, Wed Nov 11 2026. No macro, syntax, notation, axiom, sorry.
-/
import Derived.Test.YtgikgmhifjjekaaDoorRows
import GoSem.ClaimSeven
namespace Go.Proofs.YtgikgmhifjjekaaDoor
namespace Rows

/-- THE TIED CARD OF 'coinagelaw45.IssueRing'. -/
def issueRingCard : Claim7 := { stood := { row := issueRingRow, standIns := [], harness := (true, "b0dde6e95a430a7e2ec9ab6c20c5b3e4f6f70a02853afc7c1b44c884ca412029"), looks := false }, kinds := [], alts := [], laidByText := true, laidKinds := [.data, .data, .data], laidTests := true, laidLooks := .later }
def IssueRingCardSaid : Prop := Claim7.holds Tryd.pinned (.plain (OpenSpec.ofChange issueRingSpec)) issueRingCard

/-- THE TIED CARD OF 'coinagelaw45.IssueFound'. -/
def issueFoundCard : Claim7 := { stood := { row := issueFoundRow, standIns := [], harness := (true, "b0dde6e95a430a7e2ec9ab6c20c5b3e4f6f70a02853afc7c1b44c884ca412029"), looks := false }, kinds := [], alts := [], laidByText := true, laidKinds := [.data, .data, .data], laidTests := true, laidLooks := .later }
def IssueFoundCardSaid : Prop := Claim7.holds Tryd.pinned (.plain (OpenSpec.ofChange issueFoundSpec)) issueFoundCard

/-- THE TIED CARD OF 'coinagelaw45.IssueContains'. -/
def issueContainsCard : Claim7 := { stood := { row := issueContainsRow, standIns := [], harness := (true, "b0dde6e95a430a7e2ec9ab6c20c5b3e4f6f70a02853afc7c1b44c884ca412029"), looks := false }, kinds := [], alts := [], laidByText := true, laidKinds := [.data, .data, .data], laidTests := true, laidLooks := .later }
def IssueContainsCardSaid : Prop := Claim7.holds Tryd.pinned (.plain (OpenSpec.ofChange issueContainsSpec)) issueContainsCard

/-- THE TIED CARD OF 'coinagelaw45.IssueNarrow'. -/
def issueNarrowCard : Claim7 := { stood := { row := issueNarrowRow, standIns := [], harness := (true, "b0dde6e95a430a7e2ec9ab6c20c5b3e4f6f70a02853afc7c1b44c884ca412029"), looks := false }, kinds := [], alts := [], laidByText := true, laidKinds := [.data, .data, .data], laidTests := true, laidLooks := .later }
def IssueNarrowCardSaid : Prop := Claim7.holds Tryd.pinned (.plain (OpenSpec.ofChange issueNarrowSpec)) issueNarrowCard

/-- THE TIED CARD OF 'coinagelaw45.IssueMeets'. -/
def issueMeetsCard : Claim7 := { stood := { row := issueMeetsRow, standIns := [], harness := (true, "b0dde6e95a430a7e2ec9ab6c20c5b3e4f6f70a02853afc7c1b44c884ca412029"), looks := false }, kinds := [], alts := [], laidByText := true, laidKinds := [.data, .data, .data], laidTests := true, laidLooks := .later }
def IssueMeetsCardSaid : Prop := Claim7.holds Tryd.pinned (.plain (OpenSpec.ofChange issueMeetsSpec)) issueMeetsCard

/-- THE SECOND FORM's CARD OF 'coinagelaw45.IssueRing'. -/
def issueRingUptoCard : Claim7 := { stood := { row := issueRingUptoRow, standIns := [], harness := (true, "b0dde6e95a430a7e2ec9ab6c20c5b3e4f6f70a02853afc7c1b44c884ca412029"), looks := false }, kinds := [], alts := [], laidByText := true, laidKinds := [.data, .data, .data], laidTests := true, laidLooks := .later }
def IssueRingUptoCardSaid : Prop := Claim7.holds Tryd.pinned (.plain (OpenSpec.upto issueRingSpec)) issueRingUptoCard

/-- THE SECOND FORM's CARD OF 'coinagelaw45.IssueFound'. -/
def issueFoundUptoCard : Claim7 := { stood := { row := issueFoundUptoRow, standIns := [], harness := (true, "b0dde6e95a430a7e2ec9ab6c20c5b3e4f6f70a02853afc7c1b44c884ca412029"), looks := false }, kinds := [], alts := [], laidByText := true, laidKinds := [.data, .data, .data], laidTests := true, laidLooks := .later }
def IssueFoundUptoCardSaid : Prop := Claim7.holds Tryd.pinned (.plain (OpenSpec.upto issueFoundSpec)) issueFoundUptoCard

/-- THE SECOND FORM's CARD OF 'coinagelaw45.IssueContains'. -/
def issueContainsUptoCard : Claim7 := { stood := { row := issueContainsUptoRow, standIns := [], harness := (true, "b0dde6e95a430a7e2ec9ab6c20c5b3e4f6f70a02853afc7c1b44c884ca412029"), looks := false }, kinds := [], alts := [], laidByText := true, laidKinds := [.data, .data, .data], laidTests := true, laidLooks := .later }
def IssueContainsUptoCardSaid : Prop := Claim7.holds Tryd.pinned (.plain (OpenSpec.upto issueContainsSpec)) issueContainsUptoCard

/-- THE SECOND FORM's CARD OF 'coinagelaw45.IssueNarrow'. -/
def issueNarrowUptoCard : Claim7 := { stood := { row := issueNarrowUptoRow, standIns := [], harness := (true, "b0dde6e95a430a7e2ec9ab6c20c5b3e4f6f70a02853afc7c1b44c884ca412029"), looks := false }, kinds := [], alts := [], laidByText := true, laidKinds := [.data, .data, .data], laidTests := true, laidLooks := .later }
def IssueNarrowUptoCardSaid : Prop := Claim7.holds Tryd.pinned (.plain (OpenSpec.upto issueNarrowSpec)) issueNarrowUptoCard

/-- THE SECOND FORM's CARD OF 'coinagelaw45.IssueMeets'. -/
def issueMeetsUptoCard : Claim7 := { stood := { row := issueMeetsUptoRow, standIns := [], harness := (true, "b0dde6e95a430a7e2ec9ab6c20c5b3e4f6f70a02853afc7c1b44c884ca412029"), looks := false }, kinds := [], alts := [], laidByText := true, laidKinds := [.data, .data, .data], laidTests := true, laidLooks := .later }
def IssueMeetsUptoCardSaid : Prop := Claim7.holds Tryd.pinned (.plain (OpenSpec.upto issueMeetsSpec)) issueMeetsUptoCard
end Rows
end Go.Proofs.YtgikgmhifjjekaaDoor
