/-
  No cell of these rows narrows 'for every input' (looked for: loops, veiled, ifaces, maps, wideKeys, modest, calm, conditions, laid).
  DERIVED. THE GIVEN ROWS OF THIS SEAT. 3 by the template 'for every input the law returns true; each argument reads behind the call as it read before'; 0 by the template 'total and deterministic' (their statements: YtfkfmpfohaomhaaGreatTotals.lean).
  GIVEN WITH THE SEED: the statements are not yours to turn. If you find one false, say at which input.
  Laid BY PROGRAM, IN A SANDBOX (cutbox-rows.mjs): the forced cells as the released guide's own fill.sh prints them over the translation e291a6f585fe0a21… (all of the seat's roots in one cut). By AI agents, Wed Nov 11 2026. No macro, syntax, notation, axiom, sorry.
-/
import Derived.Test.YtfkfmpfohaomhaaGreatChecked
import GoSem.Claim
import GoSem.ClaimJoined
import GoSem.ClaimMapViews
import Derived.JoinedTies
import Derived.KernelRfl
namespace Go.Proofs.YtfkfmpfohaomhaaGreat
/- THE CELL 'sum', in the pinned program and in every row, IS THE sha256 OF THE DUMP (.gsa) THAT YtfkfmpfohaomhaaGreatProg.lean LOADS. Nothing in Lean hashes anything: it is a label: what it is worth is what the hold of that sum in a sandbox is worth. -/
noncomputable def Tryz.pinned : Pinned := { name := "ytfkfmpfohaomhaagreat", sum := "e291a6f585fe0a21f59c83a14ff5ca929abe41997c88935854db57b461d00266", checked := Tryz.checked }
namespace Rows
def none {H : Type} : Left H := { results := [], args := [] }

/-- 'coinagelaw18.CorrespondenceAgrees': WHATEVER THE INPUT: true; the input reads as it did. -/
def correspondenceAgreesSpec : ChangeSpec := { name := "correspondenceAgrees", fn := fun _ => fun
  | [d1, d2, d3] => { results := [.lit (.bool true)], args := [d1, d2, d3] }
  | _ => none }
def correspondenceAgreesRow : OpenClaim := { program := "ytfkfmpfohaomhaagreat", sum := "e291a6f585fe0a21f59c83a14ff5ca929abe41997c88935854db57b461d00266", func := "coinage/coinagelaw18.CorrespondenceAgrees", spec := "correspondenceAgrees", unfollowed := true, recurses := true, plainKeys := false, apart := false }
def CorrespondenceAgreesSaid : Prop := correspondenceAgreesRow.holds Tryz.pinned (OpenSpec.ofChange correspondenceAgreesSpec)

/-- ITS FALSE NEIGHBOUR: 'it returns false'. Refute it at one input. -/
def correspondenceAgreesWrong : ChangeSpec := { name := "correspondenceAgrees", fn := fun _ => fun
  | [d1, d2, d3] => { results := [.lit (.bool false)], args := [d1, d2, d3] }
  | _ => none }
def CorrespondenceAgreesWrongFalsely : Prop := correspondenceAgreesRow.holds Tryz.pinned (OpenSpec.ofChange correspondenceAgreesWrong)

/-- 'coinagelaw18.CorrespondenceTurns': WHATEVER THE INPUT: true; the input reads as it did. -/
def correspondenceTurnsSpec : ChangeSpec := { name := "correspondenceTurns", fn := fun _ => fun
  | [d1, d2, d3] => { results := [.lit (.bool true)], args := [d1, d2, d3] }
  | _ => none }
def correspondenceTurnsRow : OpenClaim := { program := "ytfkfmpfohaomhaagreat", sum := "e291a6f585fe0a21f59c83a14ff5ca929abe41997c88935854db57b461d00266", func := "coinage/coinagelaw18.CorrespondenceTurns", spec := "correspondenceTurns", unfollowed := true, recurses := true, plainKeys := false, apart := false }
def CorrespondenceTurnsSaid : Prop := correspondenceTurnsRow.holds Tryz.pinned (OpenSpec.ofChange correspondenceTurnsSpec)

/-- ITS FALSE NEIGHBOUR: 'it returns false'. Refute it at one input. -/
def correspondenceTurnsWrong : ChangeSpec := { name := "correspondenceTurns", fn := fun _ => fun
  | [d1, d2, d3] => { results := [.lit (.bool false)], args := [d1, d2, d3] }
  | _ => none }
def CorrespondenceTurnsWrongFalsely : Prop := correspondenceTurnsRow.holds Tryz.pinned (OpenSpec.ofChange correspondenceTurnsWrong)

/-- 'coinagelaw18.CorrespondenceOne': WHATEVER THE INPUT: true; the input reads as it did. -/
def correspondenceOneSpec : ChangeSpec := { name := "correspondenceOne", fn := fun _ => fun
  | [d1, d2, d3] => { results := [.lit (.bool true)], args := [d1, d2, d3] }
  | _ => none }
def correspondenceOneRow : OpenClaim := { program := "ytfkfmpfohaomhaagreat", sum := "e291a6f585fe0a21f59c83a14ff5ca929abe41997c88935854db57b461d00266", func := "coinage/coinagelaw18.CorrespondenceOne", spec := "correspondenceOne", unfollowed := true, recurses := true, plainKeys := false, apart := false }
def CorrespondenceOneSaid : Prop := correspondenceOneRow.holds Tryz.pinned (OpenSpec.ofChange correspondenceOneSpec)

/-- ITS FALSE NEIGHBOUR: 'it returns false'. Refute it at one input. -/
def correspondenceOneWrong : ChangeSpec := { name := "correspondenceOne", fn := fun _ => fun
  | [d1, d2, d3] => { results := [.lit (.bool false)], args := [d1, d2, d3] }
  | _ => none }
def CorrespondenceOneWrongFalsely : Prop := correspondenceOneRow.holds Tryz.pinned (OpenSpec.ofChange correspondenceOneWrong)

/- THE SECOND FORM. 'bulk': how many values and letters a reading holds, each counted each time it is reached (what is shared counts as often as it is met; a slice's spare places count too). A statement '..UptoSaid' is the law's where the arguments, and the package variables that the reading takes, are together of bulk at most 1048576: NARROWER than '..Said'. Prove '..Said' where nothing that the law and all that it calls make is longer than what came in: it says more and counts as full. Else prove '..UptoSaid'. A law counts once. -/
mutual
def uptoBulk {H : Type} : DataW H → Nat
  | .lit (.string bytes) => bytes.length + 1
  | .lit _ => 1
  | .nil => 1
  | .ptr d => uptoBulk d + 1
  | .slice elems spare => uptoBulkAll elems + uptoBulkAll spare + 1
  | .agg parts => uptoBulkAll parts + 1
  | .iface _ d => uptoBulk d + 1
  | .map entries => uptoBulkEntries entries + 1
  | .held _ => 1
def uptoBulkAll {H : Type} : List (DataW H) → Nat
  | [] => 0
  | d :: r => uptoBulk d + uptoBulkAll r
def uptoBulkEntries {H : Type} : List (Lit × DataW H) → Nat
  | [] => 0
  | x :: r => uptoBulkEntry x + uptoBulkEntries r
def uptoBulkEntry {H : Type} : Lit × DataW H → Nat
  | (.string bytes, d) => bytes.length + uptoBulk d + 1
  | (_, d) => uptoBulk d + 1
 end
def uptoSmall : (H : Type) → List (DataW H) → Bool := fun _ ds => decide (uptoBulkAll ds ≤ 1048576)
def OpenSpec.upto (s : _root_.Go.ChangeSpec) : _root_.Go.OpenSpec := { _root_.Go.OpenSpec.ofChange s with cond := some uptoSmall }

/-- 'coinagelaw18.CorrespondenceAgrees', WHERE WHAT IT READS IS OF BULK AT MOST 1048576: true; the input reads as it did. -/
def correspondenceAgreesUptoRow : OpenClaim := { program := "ytfkfmpfohaomhaagreat", sum := "e291a6f585fe0a21f59c83a14ff5ca929abe41997c88935854db57b461d00266", func := "coinage/coinagelaw18.CorrespondenceAgrees", spec := "correspondenceAgrees", unfollowed := true, recurses := true, plainKeys := false, apart := false, narrowed := true }
def CorrespondenceAgreesUptoSaid : Prop := correspondenceAgreesUptoRow.holds Tryz.pinned (OpenSpec.upto correspondenceAgreesSpec)

/-- 'coinagelaw18.CorrespondenceTurns', WHERE WHAT IT READS IS OF BULK AT MOST 1048576: true; the input reads as it did. -/
def correspondenceTurnsUptoRow : OpenClaim := { program := "ytfkfmpfohaomhaagreat", sum := "e291a6f585fe0a21f59c83a14ff5ca929abe41997c88935854db57b461d00266", func := "coinage/coinagelaw18.CorrespondenceTurns", spec := "correspondenceTurns", unfollowed := true, recurses := true, plainKeys := false, apart := false, narrowed := true }
def CorrespondenceTurnsUptoSaid : Prop := correspondenceTurnsUptoRow.holds Tryz.pinned (OpenSpec.upto correspondenceTurnsSpec)

/-- 'coinagelaw18.CorrespondenceOne', WHERE WHAT IT READS IS OF BULK AT MOST 1048576: true; the input reads as it did. -/
def correspondenceOneUptoRow : OpenClaim := { program := "ytfkfmpfohaomhaagreat", sum := "e291a6f585fe0a21f59c83a14ff5ca929abe41997c88935854db57b461d00266", func := "coinage/coinagelaw18.CorrespondenceOne", spec := "correspondenceOne", unfollowed := true, recurses := true, plainKeys := false, apart := false, narrowed := true }
def CorrespondenceOneUptoSaid : Prop := correspondenceOneUptoRow.holds Tryz.pinned (OpenSpec.upto correspondenceOneSpec)

end Rows
end Go.Proofs.YtfkfmpfohaomhaaGreat
