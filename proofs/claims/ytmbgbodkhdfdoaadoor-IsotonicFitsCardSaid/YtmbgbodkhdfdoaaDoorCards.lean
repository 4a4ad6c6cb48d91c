/-
  DERIVED. GIVEN WITH THE SEED: THE CARDS: each row of YtmbgbodkhdfdoaaDoorRows.lean that lists a variable, with what it lists TIED to the program's text (the seventh form; the later family's looks); each row that meets fmt, with fmt's text TOLD by the authors' own Lean function (tested against real Go, not proved from fmt's source: count such statements apart). THE CARD IS WHAT COUNTS. Prove the row's statement (the work); the ties are given (YtmbgbodkhdfdoaaDoorTie.lean); close each card by the builder's one call (the guide's Derived/Test/ToyasCard.lean, 'card_holds'). Laid BY PROGRAM, IN A SANDBOX (cutbox-door.mjs). By AI agents, Wed Nov 11 2026. No macro, syntax, notation, axiom, sorry.
-/
import Derived.Test.YtmbgbodkhdfdoaaDoorRows
import GoSem.ClaimSeven
namespace Go.Proofs.YtmbgbodkhdfdoaaDoor
namespace Rows

/-- THE TIED CARD OF 'coinagelaw45.IssueSums'. -/
def issueSumsCard : Claim7 := { stood := { row := issueSumsRow, standIns := [], harness := (true, "17b71a463478eeeaf75e505eac68f93fee4c6f2da5531ed86d3b40fb0f8f785a"), looks := false }, kinds := [], alts := [], laidByText := true, laidKinds := [.data, .data, .data], laidTests := true, laidLooks := .later }
def IssueSumsCardSaid : Prop := Claim7.holds Tryd.pinned (.plain (OpenSpec.ofChange issueSumsSpec)) issueSumsCard

/-- THE TIED CARD OF 'coinagelaw45.IssueShares'. -/
def issueSharesCard : Claim7 := { stood := { row := issueSharesRow, standIns := [], harness := (true, "17b71a463478eeeaf75e505eac68f93fee4c6f2da5531ed86d3b40fb0f8f785a"), looks := false }, kinds := [], alts := [], laidByText := true, laidKinds := [.data, .data, .data], laidTests := true, laidLooks := .later }
def IssueSharesCardSaid : Prop := Claim7.holds Tryd.pinned (.plain (OpenSpec.ofChange issueSharesSpec)) issueSharesCard

/-- THE TIED CARD OF 'coinagelaw45.IssueScales'. -/
def issueScalesCard : Claim7 := { stood := { row := issueScalesRow, standIns := [], harness := (true, "17b71a463478eeeaf75e505eac68f93fee4c6f2da5531ed86d3b40fb0f8f785a"), looks := false }, kinds := [], alts := [], laidByText := true, laidKinds := [.data, .data, .data], laidTests := true, laidLooks := .later }
def IssueScalesCardSaid : Prop := Claim7.holds Tryd.pinned (.plain (OpenSpec.ofChange issueScalesSpec)) issueScalesCard

/-- THE TIED CARD OF 'coinagelaw40.IsotonicFits'. -/
def isotonicFitsCard : Claim7 := { stood := { row := isotonicFitsRow, standIns := [], harness := (true, "17b71a463478eeeaf75e505eac68f93fee4c6f2da5531ed86d3b40fb0f8f785a"), looks := false }, kinds := [], alts := [], laidByText := true, laidKinds := [.data, .data, .data], laidTests := true, laidLooks := .later }
def IsotonicFitsCardSaid : Prop := Claim7.holds Tryd.pinned (.plain (OpenSpec.ofChange isotonicFitsSpec)) isotonicFitsCard

/-- THE TIED CARD OF 'coinagelaw40.IsotonicPools'. -/
def isotonicPoolsCard : Claim7 := { stood := { row := isotonicPoolsRow, standIns := [], harness := (true, "17b71a463478eeeaf75e505eac68f93fee4c6f2da5531ed86d3b40fb0f8f785a"), looks := false }, kinds := [], alts := [], laidByText := true, laidKinds := [.data, .data, .data], laidTests := true, laidLooks := .later }
def IsotonicPoolsCardSaid : Prop := Claim7.holds Tryd.pinned (.plain (OpenSpec.ofChange isotonicPoolsSpec)) isotonicPoolsCard

/-- THE SECOND FORM's CARD OF 'coinagelaw45.IssueSums'. -/
def issueSumsUptoCard : Claim7 := { stood := { row := issueSumsUptoRow, standIns := [], harness := (true, "17b71a463478eeeaf75e505eac68f93fee4c6f2da5531ed86d3b40fb0f8f785a"), looks := false }, kinds := [], alts := [], laidByText := true, laidKinds := [.data, .data, .data], laidTests := true, laidLooks := .later }
def IssueSumsUptoCardSaid : Prop := Claim7.holds Tryd.pinned (.plain (OpenSpec.upto issueSumsSpec)) issueSumsUptoCard

/-- THE SECOND FORM's CARD OF 'coinagelaw45.IssueShares'. -/
def issueSharesUptoCard : Claim7 := { stood := { row := issueSharesUptoRow, standIns := [], harness := (true, "17b71a463478eeeaf75e505eac68f93fee4c6f2da5531ed86d3b40fb0f8f785a"), looks := false }, kinds := [], alts := [], laidByText := true, laidKinds := [.data, .data, .data], laidTests := true, laidLooks := .later }
def IssueSharesUptoCardSaid : Prop := Claim7.holds Tryd.pinned (.plain (OpenSpec.upto issueSharesSpec)) issueSharesUptoCard

/-- THE SECOND FORM's CARD OF 'coinagelaw45.IssueScales'. -/
def issueScalesUptoCard : Claim7 := { stood := { row := issueScalesUptoRow, standIns := [], harness := (true, "17b71a463478eeeaf75e505eac68f93fee4c6f2da5531ed86d3b40fb0f8f785a"), looks := false }, kinds := [], alts := [], laidByText := true, laidKinds := [.data, .data, .data], laidTests := true, laidLooks := .later }
def IssueScalesUptoCardSaid : Prop := Claim7.holds Tryd.pinned (.plain (OpenSpec.upto issueScalesSpec)) issueScalesUptoCard

/-- THE SECOND FORM's CARD OF 'coinagelaw40.IsotonicFits'. -/
def isotonicFitsUptoCard : Claim7 := { stood := { row := isotonicFitsUptoRow, standIns := [], harness := (true, "17b71a463478eeeaf75e505eac68f93fee4c6f2da5531ed86d3b40fb0f8f785a"), looks := false }, kinds := [], alts := [], laidByText := true, laidKinds := [.data, .data, .data], laidTests := true, laidLooks := .later }
def IsotonicFitsUptoCardSaid : Prop := Claim7.holds Tryd.pinned (.plain (OpenSpec.upto isotonicFitsSpec)) isotonicFitsUptoCard

/-- THE SECOND FORM's CARD OF 'coinagelaw40.IsotonicPools'. -/
def isotonicPoolsUptoCard : Claim7 := { stood := { row := isotonicPoolsUptoRow, standIns := [], harness := (true, "17b71a463478eeeaf75e505eac68f93fee4c6f2da5531ed86d3b40fb0f8f785a"), looks := false }, kinds := [], alts := [], laidByText := true, laidKinds := [.data, .data, .data], laidTests := true, laidLooks := .later }
def IsotonicPoolsUptoCardSaid : Prop := Claim7.holds Tryd.pinned (.plain (OpenSpec.upto isotonicPoolsSpec)) isotonicPoolsUptoCard
end Rows
end Go.Proofs.YtmbgbodkhdfdoaaDoor
