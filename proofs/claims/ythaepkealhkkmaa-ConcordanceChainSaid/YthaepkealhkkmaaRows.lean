/-
  No cell of these rows narrows 'for every input' (looked for: loops, veiled, ifaces, maps, wideKeys, modest, calm, conditions, laid).
  DERIVED. THE GIVEN ROWS OF THIS SEAT. 7 by the template 'for every input the law returns true; each argument reads behind the call as it read before'; 0 by the template 'total and deterministic' (their statements: YthaepkealhkkmaaTotals.lean).
  GIVEN WITH THE SEED: the statements are not yours to turn. If you find one false, say at which input.
  Laid BY PROGRAM, IN A SANDBOX (cutbox-rows.mjs): the forced cells as the released guide's own fill.sh prints them over the translation 76e59dba22b24a44… (all of the seat's roots in one cut). By AI agents, Wed Nov 11 2026. No macro, syntax, notation, axiom, sorry.
-/
import Derived.Test.YthaepkealhkkmaaChecked
import GoSem.Claim
import GoSem.ClaimJoined
import GoSem.ClaimMapViews
import Derived.JoinedTies
import Derived.KernelRfl
namespace Go.Proofs.Ythaepkealhkkmaa
/- THE CELL 'sum', in the pinned program and in every row, IS THE sha256 OF THE DUMP (.gsa) THAT YthaepkealhkkmaaProg.lean LOADS. Nothing in Lean hashes anything: it is a label: what it is worth is what the hold of that sum in a sandbox is worth. -/
noncomputable def Try.pinned : Pinned := { name := "ythaepkealhkkmaa", sum := "76e59dba22b24a4493ae314ab006a631d90921d9bd657317f4f45574805756a0", checked := Try.checked }
namespace Rows
def none {H : Type} : Left H := { results := [], args := [] }

/-- 'coinagelaw48.ConcordanceMatchesReference': WHATEVER THE INPUT: true; the input reads as it did. -/
def concordanceMatchesReferenceSpec : ChangeSpec := { name := "concordanceMatchesReference", fn := fun _ => fun
  | [d1, d2] => { results := [.lit (.bool true)], args := [d1, d2] }
  | _ => none }
def concordanceMatchesReferenceRow : OpenClaim := { program := "ythaepkealhkkmaa", sum := "76e59dba22b24a4493ae314ab006a631d90921d9bd657317f4f45574805756a0", func := "coinage/coinagelaw48.ConcordanceMatchesReference", spec := "concordanceMatchesReference", unfollowed := true, recurses := true, apart := false }
def ConcordanceMatchesReferenceSaid : Prop := concordanceMatchesReferenceRow.holds Try.pinned (OpenSpec.ofChange concordanceMatchesReferenceSpec)

/-- ITS FALSE NEIGHBOUR: 'it returns false'. Refute it at one input. -/
def concordanceMatchesReferenceWrong : ChangeSpec := { name := "concordanceMatchesReference", fn := fun _ => fun
  | [d1, d2] => { results := [.lit (.bool false)], args := [d1, d2] }
  | _ => none }
def ConcordanceMatchesReferenceWrongFalsely : Prop := concordanceMatchesReferenceRow.holds Try.pinned (OpenSpec.ofChange concordanceMatchesReferenceWrong)

/-- 'coinagelaw48.ConcordanceInverts': WHATEVER THE INPUT: true; the input reads as it did. -/
def concordanceInvertsSpec : ChangeSpec := { name := "concordanceInverts", fn := fun _ => fun
  | [d] => { results := [.lit (.bool true)], args := [d] }
  | _ => none }
def concordanceInvertsRow : OpenClaim := { program := "ythaepkealhkkmaa", sum := "76e59dba22b24a4493ae314ab006a631d90921d9bd657317f4f45574805756a0", func := "coinage/coinagelaw48.ConcordanceInverts", spec := "concordanceInverts", unfollowed := true, recurses := true, apart := false }
def ConcordanceInvertsSaid : Prop := concordanceInvertsRow.holds Try.pinned (OpenSpec.ofChange concordanceInvertsSpec)

/-- ITS FALSE NEIGHBOUR: 'it returns false'. Refute it at one input. -/
def concordanceInvertsWrong : ChangeSpec := { name := "concordanceInverts", fn := fun _ => fun
  | [d] => { results := [.lit (.bool false)], args := [d] }
  | _ => none }
def ConcordanceInvertsWrongFalsely : Prop := concordanceInvertsRow.holds Try.pinned (OpenSpec.ofChange concordanceInvertsWrong)

/-- 'coinagelaw48.ConcordanceJoins': WHATEVER THE INPUT: true; the input reads as it did. -/
def concordanceJoinsSpec : ChangeSpec := { name := "concordanceJoins", fn := fun _ => fun
  | [d1, d2] => { results := [.lit (.bool true)], args := [d1, d2] }
  | _ => none }
def concordanceJoinsRow : OpenClaim := { program := "ythaepkealhkkmaa", sum := "76e59dba22b24a4493ae314ab006a631d90921d9bd657317f4f45574805756a0", func := "coinage/coinagelaw48.ConcordanceJoins", spec := "concordanceJoins", unfollowed := true, recurses := true, apart := false }
def ConcordanceJoinsSaid : Prop := concordanceJoinsRow.holds Try.pinned (OpenSpec.ofChange concordanceJoinsSpec)

/-- ITS FALSE NEIGHBOUR: 'it returns false'. Refute it at one input. -/
def concordanceJoinsWrong : ChangeSpec := { name := "concordanceJoins", fn := fun _ => fun
  | [d1, d2] => { results := [.lit (.bool false)], args := [d1, d2] }
  | _ => none }
def ConcordanceJoinsWrongFalsely : Prop := concordanceJoinsRow.holds Try.pinned (OpenSpec.ofChange concordanceJoinsWrong)

/-- 'coinagelaw48.ConcordanceComposes': WHATEVER THE INPUT: true; the input reads as it did. -/
def concordanceComposesSpec : ChangeSpec := { name := "concordanceComposes", fn := fun _ => fun
  | [d1, d2, d3] => { results := [.lit (.bool true)], args := [d1, d2, d3] }
  | _ => none }
def concordanceComposesRow : OpenClaim := { program := "ythaepkealhkkmaa", sum := "76e59dba22b24a4493ae314ab006a631d90921d9bd657317f4f45574805756a0", func := "coinage/coinagelaw48.ConcordanceComposes", spec := "concordanceComposes", unfollowed := true, recurses := true, apart := false }
def ConcordanceComposesSaid : Prop := concordanceComposesRow.holds Try.pinned (OpenSpec.ofChange concordanceComposesSpec)

/-- ITS FALSE NEIGHBOUR: 'it returns false'. Refute it at one input. -/
def concordanceComposesWrong : ChangeSpec := { name := "concordanceComposes", fn := fun _ => fun
  | [d1, d2, d3] => { results := [.lit (.bool false)], args := [d1, d2, d3] }
  | _ => none }
def ConcordanceComposesWrongFalsely : Prop := concordanceComposesRow.holds Try.pinned (OpenSpec.ofChange concordanceComposesWrong)

/-- 'coinagelaw48.ConcordanceLinks': WHATEVER THE INPUT: true; the input reads as it did. -/
def concordanceLinksSpec : ChangeSpec := { name := "concordanceLinks", fn := fun _ => fun
  | [d1, d2, d3] => { results := [.lit (.bool true)], args := [d1, d2, d3] }
  | _ => none }
def concordanceLinksRow : OpenClaim := { program := "ythaepkealhkkmaa", sum := "76e59dba22b24a4493ae314ab006a631d90921d9bd657317f4f45574805756a0", func := "coinage/coinagelaw48.ConcordanceLinks", spec := "concordanceLinks", unfollowed := true, recurses := true, apart := false }
def ConcordanceLinksSaid : Prop := concordanceLinksRow.holds Try.pinned (OpenSpec.ofChange concordanceLinksSpec)

/-- ITS FALSE NEIGHBOUR: 'it returns false'. Refute it at one input. -/
def concordanceLinksWrong : ChangeSpec := { name := "concordanceLinks", fn := fun _ => fun
  | [d1, d2, d3] => { results := [.lit (.bool false)], args := [d1, d2, d3] }
  | _ => none }
def ConcordanceLinksWrongFalsely : Prop := concordanceLinksRow.holds Try.pinned (OpenSpec.ofChange concordanceLinksWrong)

/-- 'coinagelaw48.ConcordanceEditions': WHATEVER THE INPUT: true; the input reads as it did. -/
def concordanceEditionsSpec : ChangeSpec := { name := "concordanceEditions", fn := fun _ => fun
  | [d1, d2] => { results := [.lit (.bool true)], args := [d1, d2] }
  | _ => none }
def concordanceEditionsRow : OpenClaim := { program := "ythaepkealhkkmaa", sum := "76e59dba22b24a4493ae314ab006a631d90921d9bd657317f4f45574805756a0", func := "coinage/coinagelaw48.ConcordanceEditions", spec := "concordanceEditions", unfollowed := true, recurses := true, apart := false }
def ConcordanceEditionsSaid : Prop := concordanceEditionsRow.holds Try.pinned (OpenSpec.ofChange concordanceEditionsSpec)

/-- ITS FALSE NEIGHBOUR: 'it returns false'. Refute it at one input. -/
def concordanceEditionsWrong : ChangeSpec := { name := "concordanceEditions", fn := fun _ => fun
  | [d1, d2] => { results := [.lit (.bool false)], args := [d1, d2] }
  | _ => none }
def ConcordanceEditionsWrongFalsely : Prop := concordanceEditionsRow.holds Try.pinned (OpenSpec.ofChange concordanceEditionsWrong)

/-- 'coinagelaw48.ConcordanceChain': WHATEVER THE INPUT: true; the input reads as it did. -/
def concordanceChainSpec : ChangeSpec := { name := "concordanceChain", fn := fun _ => fun
  | [d1, d2, d3] => { results := [.lit (.bool true)], args := [d1, d2, d3] }
  | _ => none }
def concordanceChainRow : OpenClaim := { program := "ythaepkealhkkmaa", sum := "76e59dba22b24a4493ae314ab006a631d90921d9bd657317f4f45574805756a0", func := "coinage/coinagelaw48.ConcordanceChain", spec := "concordanceChain", unfollowed := true, recurses := true, apart := false }
def ConcordanceChainSaid : Prop := concordanceChainRow.holds Try.pinned (OpenSpec.ofChange concordanceChainSpec)

/-- ITS FALSE NEIGHBOUR: 'it returns false'. Refute it at one input. -/
def concordanceChainWrong : ChangeSpec := { name := "concordanceChain", fn := fun _ => fun
  | [d1, d2, d3] => { results := [.lit (.bool false)], args := [d1, d2, d3] }
  | _ => none }
def ConcordanceChainWrongFalsely : Prop := concordanceChainRow.holds Try.pinned (OpenSpec.ofChange concordanceChainWrong)

/- THE SECOND FORM. 'bulk': how many values and letters a reading holds, each counted each time it is reached (what is shared counts as often as it is met; a slice's spare places count too). A statement '..UptoSaid' is the law's where the arguments, and the package variables that the reading takes, are together of bulk at most 1048576: NARROWER than '..Said'. Prove '..Said' where nothing that the law and all that it calls make is longer than what came in: it says more and counts as full. Else prove '..UptoSaid'. A law counts once. -/
mutual
def uptoBulk {H : Type} : DataW H → Nat
  | .lit (.string bytes) => bytes.length + 1
  | .lit _ => 1
  | .nil => 1
  | .ptr d => uptoBulk d + 1
  | .slice elems spare => uptoBulkAll elems + uptoBulkAll spare + 1
  | .agg parts => uptoBulkAll parts + 1
  | .iface _ d => uptoBulk d + 1
  | .map entries => uptoBulkEntries entries + 1
  | .held _ => 1
def uptoBulkAll {H : Type} : List (DataW H) → Nat
  | [] => 0
  | d :: r => uptoBulk d + uptoBulkAll r
def uptoBulkEntries {H : Type} : List (Lit × DataW H) → Nat
  | [] => 0
  | x :: r => uptoBulkEntry x + uptoBulkEntries r
def uptoBulkEntry {H : Type} : Lit × DataW H → Nat
  | (.string bytes, d) => bytes.length + uptoBulk d + 1
  | (_, d) => uptoBulk d + 1
 end
def uptoSmall : (H : Type) → List (DataW H) → Bool := fun _ ds => decide (uptoBulkAll ds ≤ 1048576)
def OpenSpec.upto (s : _root_.Go.ChangeSpec) : _root_.Go.OpenSpec := { _root_.Go.OpenSpec.ofChange s with cond := some uptoSmall }

/-- 'coinagelaw48.ConcordanceMatchesReference', WHERE WHAT IT READS IS OF BULK AT MOST 1048576: true; the input reads as it did. -/
def concordanceMatchesReferenceUptoRow : OpenClaim := { program := "ythaepkealhkkmaa", sum := "76e59dba22b24a4493ae314ab006a631d90921d9bd657317f4f45574805756a0", func := "coinage/coinagelaw48.ConcordanceMatchesReference", spec := "concordanceMatchesReference", unfollowed := true, recurses := true, apart := false, narrowed := true }
def ConcordanceMatchesReferenceUptoSaid : Prop := concordanceMatchesReferenceUptoRow.holds Try.pinned (OpenSpec.upto concordanceMatchesReferenceSpec)

/-- 'coinagelaw48.ConcordanceInverts', WHERE WHAT IT READS IS OF BULK AT MOST 1048576: true; the input reads as it did. -/
def concordanceInvertsUptoRow : OpenClaim := { program := "ythaepkealhkkmaa", sum := "76e59dba22b24a4493ae314ab006a631d90921d9bd657317f4f45574805756a0", func := "coinage/coinagelaw48.ConcordanceInverts", spec := "concordanceInverts", unfollowed := true, recurses := true, apart := false, narrowed := true }
def ConcordanceInvertsUptoSaid : Prop := concordanceInvertsUptoRow.holds Try.pinned (OpenSpec.upto concordanceInvertsSpec)

/-- 'coinagelaw48.ConcordanceJoins', WHERE WHAT IT READS IS OF BULK AT MOST 1048576: true; the input reads as it did. -/
def concordanceJoinsUptoRow : OpenClaim := { program := "ythaepkealhkkmaa", sum := "76e59dba22b24a4493ae314ab006a631d90921d9bd657317f4f45574805756a0", func := "coinage/coinagelaw48.ConcordanceJoins", spec := "concordanceJoins", unfollowed := true, recurses := true, apart := false, narrowed := true }
def ConcordanceJoinsUptoSaid : Prop := concordanceJoinsUptoRow.holds Try.pinned (OpenSpec.upto concordanceJoinsSpec)

/-- 'coinagelaw48.ConcordanceComposes', WHERE WHAT IT READS IS OF BULK AT MOST 1048576: true; the input reads as it did. -/
def concordanceComposesUptoRow : OpenClaim := { program := "ythaepkealhkkmaa", sum := "76e59dba22b24a4493ae314ab006a631d90921d9bd657317f4f45574805756a0", func := "coinage/coinagelaw48.ConcordanceComposes", spec := "concordanceComposes", unfollowed := true, recurses := true, apart := false, narrowed := true }
def ConcordanceComposesUptoSaid : Prop := concordanceComposesUptoRow.holds Try.pinned (OpenSpec.upto concordanceComposesSpec)

/-- 'coinagelaw48.ConcordanceLinks', WHERE WHAT IT READS IS OF BULK AT MOST 1048576: true; the input reads as it did. -/
def concordanceLinksUptoRow : OpenClaim := { program := "ythaepkealhkkmaa", sum := "76e59dba22b24a4493ae314ab006a631d90921d9bd657317f4f45574805756a0", func := "coinage/coinagelaw48.ConcordanceLinks", spec := "concordanceLinks", unfollowed := true, recurses := true, apart := false, narrowed := true }
def ConcordanceLinksUptoSaid : Prop := concordanceLinksUptoRow.holds Try.pinned (OpenSpec.upto concordanceLinksSpec)

/-- 'coinagelaw48.ConcordanceEditions', WHERE WHAT IT READS IS OF BULK AT MOST 1048576: true; the input reads as it did. -/
def concordanceEditionsUptoRow : OpenClaim := { program := "ythaepkealhkkmaa", sum := "76e59dba22b24a4493ae314ab006a631d90921d9bd657317f4f45574805756a0", func := "coinage/coinagelaw48.ConcordanceEditions", spec := "concordanceEditions", unfollowed := true, recurses := true, apart := false, narrowed := true }
def ConcordanceEditionsUptoSaid : Prop := concordanceEditionsUptoRow.holds Try.pinned (OpenSpec.upto concordanceEditionsSpec)

/-- 'coinagelaw48.ConcordanceChain', WHERE WHAT IT READS IS OF BULK AT MOST 1048576: true; the input reads as it did. -/
def concordanceChainUptoRow : OpenClaim := { program := "ythaepkealhkkmaa", sum := "76e59dba22b24a4493ae314ab006a631d90921d9bd657317f4f45574805756a0", func := "coinage/coinagelaw48.ConcordanceChain", spec := "concordanceChain", unfollowed := true, recurses := true, apart := false, narrowed := true }
def ConcordanceChainUptoSaid : Prop := concordanceChainUptoRow.holds Try.pinned (OpenSpec.upto concordanceChainSpec)

end Rows
end Go.Proofs.Ythaepkealhkkmaa
