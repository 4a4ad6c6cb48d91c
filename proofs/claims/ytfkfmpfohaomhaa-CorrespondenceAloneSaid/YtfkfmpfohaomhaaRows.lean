/-
  No cell of these rows narrows 'for every input' (looked for: loops, veiled, ifaces, maps, wideKeys, modest, calm, conditions, laid).
  DERIVED. THE GIVEN ROWS OF THIS SEAT. 4 by the template 'for every input the law returns true; each argument reads behind the call as it read before'; 0 by the template 'total and deterministic' (their statements: YtfkfmpfohaomhaaTotals.lean).
  GIVEN WITH THE SEED: the statements are not yours to turn. If you find one false, say at which input.
  Laid BY PROGRAM, IN A SANDBOX (cutbox-rows.mjs): the forced cells as the released guide's own fill.sh prints them over the translation 88645dd01a950729… (all of the seat's roots in one cut). By AI agents, Wed Nov 11 2026. No macro, syntax, notation, axiom, sorry.
-/
import Derived.Test.YtfkfmpfohaomhaaChecked
import GoSem.Claim
import GoSem.ClaimJoined
import GoSem.ClaimMapViews
import Derived.JoinedTies
import Derived.KernelRfl
namespace Go.Proofs.Ytfkfmpfohaomhaa
/- THE CELL 'sum', in the pinned program and in every row, IS THE sha256 OF THE DUMP (.gsa) THAT YtfkfmpfohaomhaaProg.lean LOADS. Nothing in Lean hashes anything: it is a label: what it is worth is what the hold of that sum in a sandbox is worth. -/
noncomputable def Try.pinned : Pinned := { name := "ytfkfmpfohaomhaa", sum := "88645dd01a950729771e44a1eb55eef4c55049dccb2390adcc1b624a2395dfc6", checked := Try.checked }
namespace Rows
def none {H : Type} : Left H := { results := [], args := [] }

/-- 'coinagelaw18.CorrespondenceBest': WHATEVER THE INPUT: true; the input reads as it did. -/
def correspondenceBestSpec : ChangeSpec := { name := "correspondenceBest", fn := fun _ => fun
  | [d1, d2, d3] => { results := [.lit (.bool true)], args := [d1, d2, d3] }
  | _ => none }
def correspondenceBestRow : OpenClaim := { program := "ytfkfmpfohaomhaa", sum := "88645dd01a950729771e44a1eb55eef4c55049dccb2390adcc1b624a2395dfc6", func := "coinage/coinagelaw18.CorrespondenceBest", spec := "correspondenceBest", unfollowed := true, recurses := true, plainKeys := false, apart := false }
def CorrespondenceBestSaid : Prop := correspondenceBestRow.holds Try.pinned (OpenSpec.ofChange correspondenceBestSpec)

/-- ITS FALSE NEIGHBOUR: 'it returns false'. Refute it at one input. -/
def correspondenceBestWrong : ChangeSpec := { name := "correspondenceBest", fn := fun _ => fun
  | [d1, d2, d3] => { results := [.lit (.bool false)], args := [d1, d2, d3] }
  | _ => none }
def CorrespondenceBestWrongFalsely : Prop := correspondenceBestRow.holds Try.pinned (OpenSpec.ofChange correspondenceBestWrong)

/-- 'coinagelaw18.CorrespondenceGreatest': WHATEVER THE INPUT: true; the input reads as it did. -/
def correspondenceGreatestSpec : ChangeSpec := { name := "correspondenceGreatest", fn := fun _ => fun
  | [d1, d2, d3] => { results := [.lit (.bool true)], args := [d1, d2, d3] }
  | _ => none }
def correspondenceGreatestRow : OpenClaim := { program := "ytfkfmpfohaomhaa", sum := "88645dd01a950729771e44a1eb55eef4c55049dccb2390adcc1b624a2395dfc6", func := "coinage/coinagelaw18.CorrespondenceGreatest", spec := "correspondenceGreatest", unfollowed := true, recurses := true, plainKeys := false, apart := false }
def CorrespondenceGreatestSaid : Prop := correspondenceGreatestRow.holds Try.pinned (OpenSpec.ofChange correspondenceGreatestSpec)

/-- ITS FALSE NEIGHBOUR: 'it returns false'. Refute it at one input. -/
def correspondenceGreatestWrong : ChangeSpec := { name := "correspondenceGreatest", fn := fun _ => fun
  | [d1, d2, d3] => { results := [.lit (.bool false)], args := [d1, d2, d3] }
  | _ => none }
def CorrespondenceGreatestWrongFalsely : Prop := correspondenceGreatestRow.holds Try.pinned (OpenSpec.ofChange correspondenceGreatestWrong)

/-- 'coinagelaw18.CorrespondenceMatches': WHATEVER THE INPUT: true; the input reads as it did. -/
def correspondenceMatchesSpec : ChangeSpec := { name := "correspondenceMatches", fn := fun _ => fun
  | [d1, d2, d3] => { results := [.lit (.bool true)], args := [d1, d2, d3] }
  | _ => none }
def correspondenceMatchesRow : OpenClaim := { program := "ytfkfmpfohaomhaa", sum := "88645dd01a950729771e44a1eb55eef4c55049dccb2390adcc1b624a2395dfc6", func := "coinage/coinagelaw18.CorrespondenceMatches", spec := "correspondenceMatches", unfollowed := true, recurses := true, plainKeys := false, apart := false }
def CorrespondenceMatchesSaid : Prop := correspondenceMatchesRow.holds Try.pinned (OpenSpec.ofChange correspondenceMatchesSpec)

/-- ITS FALSE NEIGHBOUR: 'it returns false'. Refute it at one input. -/
def correspondenceMatchesWrong : ChangeSpec := { name := "correspondenceMatches", fn := fun _ => fun
  | [d1, d2, d3] => { results := [.lit (.bool false)], args := [d1, d2, d3] }
  | _ => none }
def CorrespondenceMatchesWrongFalsely : Prop := correspondenceMatchesRow.holds Try.pinned (OpenSpec.ofChange correspondenceMatchesWrong)

/-- 'coinagelaw18.CorrespondenceAlone': WHATEVER THE INPUT: true; the input reads as it did. -/
def correspondenceAloneSpec : ChangeSpec := { name := "correspondenceAlone", fn := fun _ => fun
  | [d1, d2, d3] => { results := [.lit (.bool true)], args := [d1, d2, d3] }
  | _ => none }
def correspondenceAloneRow : OpenClaim := { program := "ytfkfmpfohaomhaa", sum := "88645dd01a950729771e44a1eb55eef4c55049dccb2390adcc1b624a2395dfc6", func := "coinage/coinagelaw18.CorrespondenceAlone", spec := "correspondenceAlone", unfollowed := true, recurses := true, plainKeys := false, apart := false }
def CorrespondenceAloneSaid : Prop := correspondenceAloneRow.holds Try.pinned (OpenSpec.ofChange correspondenceAloneSpec)

/-- ITS FALSE NEIGHBOUR: 'it returns false'. Refute it at one input. -/
def correspondenceAloneWrong : ChangeSpec := { name := "correspondenceAlone", fn := fun _ => fun
  | [d1, d2, d3] => { results := [.lit (.bool false)], args := [d1, d2, d3] }
  | _ => none }
def CorrespondenceAloneWrongFalsely : Prop := correspondenceAloneRow.holds Try.pinned (OpenSpec.ofChange correspondenceAloneWrong)

/- THE SECOND FORM. 'bulk': how many values and letters a reading holds, each counted each time it is reached (what is shared counts as often as it is met; a slice's spare places count too). A statement '..UptoSaid' is the law's where the arguments, and the package variables that the reading takes, are together of bulk at most 1048576: NARROWER than '..Said'. Prove '..Said' where nothing that the law and all that it calls make is longer than what came in: it says more and counts as full. Else prove '..UptoSaid'. A law counts once. -/
mutual
def uptoBulk {H : Type} : DataW H → Nat
  | .lit (.string bytes) => bytes.length + 1
  | .lit _ => 1
  | .nil => 1
  | .ptr d => uptoBulk d + 1
  | .slice elems spare => uptoBulkAll elems + uptoBulkAll spare + 1
  | .agg parts => uptoBulkAll parts + 1
  | .iface _ d => uptoBulk d + 1
  | .map entries => uptoBulkEntries entries + 1
  | .held _ => 1
def uptoBulkAll {H : Type} : List (DataW H) → Nat
  | [] => 0
  | d :: r => uptoBulk d + uptoBulkAll r
def uptoBulkEntries {H : Type} : List (Lit × DataW H) → Nat
  | [] => 0
  | x :: r => uptoBulkEntry x + uptoBulkEntries r
def uptoBulkEntry {H : Type} : Lit × DataW H → Nat
  | (.string bytes, d) => bytes.length + uptoBulk d + 1
  | (_, d) => uptoBulk d + 1
 end
def uptoSmall : (H : Type) → List (DataW H) → Bool := fun _ ds => decide (uptoBulkAll ds ≤ 1048576)
def OpenSpec.upto (s : _root_.Go.ChangeSpec) : _root_.Go.OpenSpec := { _root_.Go.OpenSpec.ofChange s with cond := some uptoSmall }

/-- 'coinagelaw18.CorrespondenceBest', WHERE WHAT IT READS IS OF BULK AT MOST 1048576: true; the input reads as it did. -/
def correspondenceBestUptoRow : OpenClaim := { program := "ytfkfmpfohaomhaa", sum := "88645dd01a950729771e44a1eb55eef4c55049dccb2390adcc1b624a2395dfc6", func := "coinage/coinagelaw18.CorrespondenceBest", spec := "correspondenceBest", unfollowed := true, recurses := true, plainKeys := false, apart := false, narrowed := true }
def CorrespondenceBestUptoSaid : Prop := correspondenceBestUptoRow.holds Try.pinned (OpenSpec.upto correspondenceBestSpec)

/-- 'coinagelaw18.CorrespondenceGreatest', WHERE WHAT IT READS IS OF BULK AT MOST 1048576: true; the input reads as it did. -/
def correspondenceGreatestUptoRow : OpenClaim := { program := "ytfkfmpfohaomhaa", sum := "88645dd01a950729771e44a1eb55eef4c55049dccb2390adcc1b624a2395dfc6", func := "coinage/coinagelaw18.CorrespondenceGreatest", spec := "correspondenceGreatest", unfollowed := true, recurses := true, plainKeys := false, apart := false, narrowed := true }
def CorrespondenceGreatestUptoSaid : Prop := correspondenceGreatestUptoRow.holds Try.pinned (OpenSpec.upto correspondenceGreatestSpec)

/-- 'coinagelaw18.CorrespondenceMatches', WHERE WHAT IT READS IS OF BULK AT MOST 1048576: true; the input reads as it did. -/
def correspondenceMatchesUptoRow : OpenClaim := { program := "ytfkfmpfohaomhaa", sum := "88645dd01a950729771e44a1eb55eef4c55049dccb2390adcc1b624a2395dfc6", func := "coinage/coinagelaw18.CorrespondenceMatches", spec := "correspondenceMatches", unfollowed := true, recurses := true, plainKeys := false, apart := false, narrowed := true }
def CorrespondenceMatchesUptoSaid : Prop := correspondenceMatchesUptoRow.holds Try.pinned (OpenSpec.upto correspondenceMatchesSpec)

/-- 'coinagelaw18.CorrespondenceAlone', WHERE WHAT IT READS IS OF BULK AT MOST 1048576: true; the input reads as it did. -/
def correspondenceAloneUptoRow : OpenClaim := { program := "ytfkfmpfohaomhaa", sum := "88645dd01a950729771e44a1eb55eef4c55049dccb2390adcc1b624a2395dfc6", func := "coinage/coinagelaw18.CorrespondenceAlone", spec := "correspondenceAlone", unfollowed := true, recurses := true, plainKeys := false, apart := false, narrowed := true }
def CorrespondenceAloneUptoSaid : Prop := correspondenceAloneUptoRow.holds Try.pinned (OpenSpec.upto correspondenceAloneSpec)

end Rows
end Go.Proofs.Ytfkfmpfohaomhaa
