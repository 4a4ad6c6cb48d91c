/-
  NARROWER THAN 'FOR EVERY INPUT', by the rows' own cells (each row's printed sentence says how): CertainShares: laid · CertainBalances: laid · CertainFollows: laid · CertainEither: laid · CertainMeans: laid · CertainReach: laid · CertainPlaces: laid.
  DERIVED. THE GIVEN ROWS OF THIS SEAT. 7 by the template 'for every input the law returns true; each argument reads behind the call as it read before'; 0 by the template 'total and deterministic' (their statements: YtjdojhhngganeaaGreatDoorTotals.lean).
  GIVEN WITH THE SEED: the statements are not yours to turn. If you find one false, say at which input.
  Laid BY PROGRAM, IN A SANDBOX (cutbox-rows.mjs): the forced cells as the released guide's own fill.sh prints them over the translation f3e55c80fd0b555c… (all of the seat's roots in one cut). By AI agents, Wed Nov 11 2026. No macro, syntax, notation, axiom, sorry.
-/
import Derived.Test.YtjdojhhngganeaaGreatDoorChecked
import GoSem.Claim
import GoSem.ClaimJoined
import GoSem.ClaimMapViews
import Derived.JoinedTies
import Derived.KernelRfl
namespace Go.Proofs.YtjdojhhngganeaaGreatDoor
/- THE CELL 'sum', in the pinned program and in every row, IS THE sha256 OF THE DUMP (.gsa) THAT YtjdojhhngganeaaGreatDoorProg.lean LOADS. Nothing in Lean hashes anything: it is a label: what it is worth is what the hold of that sum in a sandbox is worth. -/
noncomputable def Tryz.pinned : Pinned := { name := "ytjdojhhngganeaagreatdoor", sum := "f3e55c80fd0b555c5a45de1f385e85c56b63a3a70d2b6da40597676f6f2e56c4", checked := Tryz.checked }
namespace Rows
def none {H : Type} : Left H := { results := [], args := [] }

/- WHAT THE LISTED PACKAGE-LEVEL VARIABLES READ AS WHEN THE CALL BEGINS. Each datum BY PROGRAM (the guide's laid-datum.mjs) off the statement by which the dump's own 'gosem.cut.vars' lays the variable. In a bare row this is a premise. The card (YtjdojhhngganeaaGreatDoorCards.lean) ties it to the program's text. -/
def laid_math_bits_deBruijn32tab {H : Type} : DataW H := .agg [.lit (.int .u8 0), .lit (.int .u8 1), .lit (.int .u8 28), .lit (.int .u8 2), .lit (.int .u8 29), .lit (.int .u8 14), .lit (.int .u8 24), .lit (.int .u8 3), .lit (.int .u8 30), .lit (.int .u8 22), .lit (.int .u8 20), .lit (.int .u8 15), .lit (.int .u8 25), .lit (.int .u8 17), .lit (.int .u8 4), .lit (.int .u8 8), .lit (.int .u8 31), .lit (.int .u8 27), .lit (.int .u8 13), .lit (.int .u8 23), .lit (.int .u8 21), .lit (.int .u8 19), .lit (.int .u8 16), .lit (.int .u8 7), .lit (.int .u8 26), .lit (.int .u8 12), .lit (.int .u8 18), .lit (.int .u8 6), .lit (.int .u8 11), .lit (.int .u8 5), .lit (.int .u8 10), .lit (.int .u8 9)]
def laid_math_bits_deBruijn64tab {H : Type} : DataW H := .agg [.lit (.int .u8 0), .lit (.int .u8 1), .lit (.int .u8 56), .lit (.int .u8 2), .lit (.int .u8 57), .lit (.int .u8 49), .lit (.int .u8 28), .lit (.int .u8 3), .lit (.int .u8 61), .lit (.int .u8 58), .lit (.int .u8 42), .lit (.int .u8 50), .lit (.int .u8 38), .lit (.int .u8 29), .lit (.int .u8 17), .lit (.int .u8 4), .lit (.int .u8 62), .lit (.int .u8 47), .lit (.int .u8 59), .lit (.int .u8 36), .lit (.int .u8 45), .lit (.int .u8 43), .lit (.int .u8 51), .lit (.int .u8 22), .lit (.int .u8 53), .lit (.int .u8 39), .lit (.int .u8 33), .lit (.int .u8 30), .lit (.int .u8 24), .lit (.int .u8 18), .lit (.int .u8 12), .lit (.int .u8 5), .lit (.int .u8 63), .lit (.int .u8 55), .lit (.int .u8 48), .lit (.int .u8 27), .lit (.int .u8 60), .lit (.int .u8 41), .lit (.int .u8 37), .lit (.int .u8 16), .lit (.int .u8 46), .lit (.int .u8 35), .lit (.int .u8 44), .lit (.int .u8 21), .lit (.int .u8 52), .lit (.int .u8 32), .lit (.int .u8 23), .lit (.int .u8 11), .lit (.int .u8 54), .lit (.int .u8 26), .lit (.int .u8 40), .lit (.int .u8 15), .lit (.int .u8 34), .lit (.int .u8 20), .lit (.int .u8 31), .lit (.int .u8 10), .lit (.int .u8 25), .lit (.int .u8 14), .lit (.int .u8 19), .lit (.int .u8 9), .lit (.int .u8 13), .lit (.int .u8 8), .lit (.int .u8 7), .lit (.int .u8 6)]
def laid_internal_strconv_uint64pow10 {H : Type} : DataW H := .agg [.lit (.int .u64 1), .lit (.int .u64 10), .lit (.int .u64 100), .lit (.int .u64 1000), .lit (.int .u64 10000), .lit (.int .u64 100000), .lit (.int .u64 1000000), .lit (.int .u64 10000000), .lit (.int .u64 100000000), .lit (.int .u64 1000000000), .lit (.int .u64 10000000000), .lit (.int .u64 100000000000), .lit (.int .u64 1000000000000), .lit (.int .u64 10000000000000), .lit (.int .u64 100000000000000), .lit (.int .u64 1000000000000000), .lit (.int .u64 10000000000000000), .lit (.int .u64 100000000000000000), .lit (.int .u64 1000000000000000000), .lit (.int .u64 10000000000000000000)]

/-- 'coinagelaw24.CertainShares': WHATEVER THE INPUT: true; the input reads as it did. -/
def certainSharesSpec : ChangeSpec := { name := "certainShares", fn := fun _ => fun
  | [d1, d2, d3] => { results := [.lit (.bool true)], args := [d1, d2, d3] }
  | _ => none }
def certainSharesRow : OpenClaim := { program := "ytjdojhhngganeaagreatdoor", sum := "f3e55c80fd0b555c5a45de1f385e85c56b63a3a70d2b6da40597676f6f2e56c4", func := "coinage/coinagelaw24.CertainShares", spec := "certainShares", inPlace := ["internal/abi.NoEscape", "internal/bytealg.MakeNoZero"], unfollowed := true, recurses := true, named := ["internal/strconv.uint64pow10", "math/bits.deBruijn32tab", "math/bits.deBruijn64tab"], apart := false, laid := [("math/bits.deBruijn32tab", laid_math_bits_deBruijn32tab), ("math/bits.deBruijn64tab", laid_math_bits_deBruijn64tab), ("internal/strconv.uint64pow10", laid_internal_strconv_uint64pow10)] }
def CertainSharesSaid : Prop := certainSharesRow.holds Tryz.pinned (OpenSpec.ofChange certainSharesSpec)

/-- ITS FALSE NEIGHBOUR: 'it returns false'. Refute it at one input. -/
def certainSharesWrong : ChangeSpec := { name := "certainShares", fn := fun _ => fun
  | [d1, d2, d3] => { results := [.lit (.bool false)], args := [d1, d2, d3] }
  | _ => none }
def CertainSharesWrongFalsely : Prop := certainSharesRow.holds Tryz.pinned (OpenSpec.ofChange certainSharesWrong)

/-- 'coinagelaw24.CertainBalances': WHATEVER THE INPUT: true; the input reads as it did. -/
def certainBalancesSpec : ChangeSpec := { name := "certainBalances", fn := fun _ => fun
  | [d1, d2] => { results := [.lit (.bool true)], args := [d1, d2] }
  | _ => none }
def certainBalancesRow : OpenClaim := { program := "ytjdojhhngganeaagreatdoor", sum := "f3e55c80fd0b555c5a45de1f385e85c56b63a3a70d2b6da40597676f6f2e56c4", func := "coinage/coinagelaw24.CertainBalances", spec := "certainBalances", inPlace := ["internal/abi.NoEscape", "internal/bytealg.MakeNoZero"], unfollowed := true, recurses := true, named := ["internal/strconv.uint64pow10", "math/bits.deBruijn32tab", "math/bits.deBruijn64tab"], apart := false, laid := [("math/bits.deBruijn32tab", laid_math_bits_deBruijn32tab), ("math/bits.deBruijn64tab", laid_math_bits_deBruijn64tab), ("internal/strconv.uint64pow10", laid_internal_strconv_uint64pow10)] }
def CertainBalancesSaid : Prop := certainBalancesRow.holds Tryz.pinned (OpenSpec.ofChange certainBalancesSpec)

/-- ITS FALSE NEIGHBOUR: 'it returns false'. Refute it at one input. -/
def certainBalancesWrong : ChangeSpec := { name := "certainBalances", fn := fun _ => fun
  | [d1, d2] => { results := [.lit (.bool false)], args := [d1, d2] }
  | _ => none }
def CertainBalancesWrongFalsely : Prop := certainBalancesRow.holds Tryz.pinned (OpenSpec.ofChange certainBalancesWrong)

/-- 'coinagelaw24.CertainFollows': WHATEVER THE INPUT: true; the input reads as it did. -/
def certainFollowsSpec : ChangeSpec := { name := "certainFollows", fn := fun _ => fun
  | [d1, d2] => { results := [.lit (.bool true)], args := [d1, d2] }
  | _ => none }
def certainFollowsRow : OpenClaim := { program := "ytjdojhhngganeaagreatdoor", sum := "f3e55c80fd0b555c5a45de1f385e85c56b63a3a70d2b6da40597676f6f2e56c4", func := "coinage/coinagelaw24.CertainFollows", spec := "certainFollows", inPlace := ["internal/abi.NoEscape", "internal/bytealg.MakeNoZero"], unfollowed := true, recurses := true, named := ["internal/strconv.uint64pow10", "math/bits.deBruijn32tab", "math/bits.deBruijn64tab"], apart := false, laid := [("math/bits.deBruijn32tab", laid_math_bits_deBruijn32tab), ("math/bits.deBruijn64tab", laid_math_bits_deBruijn64tab), ("internal/strconv.uint64pow10", laid_internal_strconv_uint64pow10)] }
def CertainFollowsSaid : Prop := certainFollowsRow.holds Tryz.pinned (OpenSpec.ofChange certainFollowsSpec)

/-- ITS FALSE NEIGHBOUR: 'it returns false'. Refute it at one input. -/
def certainFollowsWrong : ChangeSpec := { name := "certainFollows", fn := fun _ => fun
  | [d1, d2] => { results := [.lit (.bool false)], args := [d1, d2] }
  | _ => none }
def CertainFollowsWrongFalsely : Prop := certainFollowsRow.holds Tryz.pinned (OpenSpec.ofChange certainFollowsWrong)

/-- 'coinagelaw24.CertainEither': WHATEVER THE INPUT: true; the input reads as it did. -/
def certainEitherSpec : ChangeSpec := { name := "certainEither", fn := fun _ => fun
  | [d1, d2, d3] => { results := [.lit (.bool true)], args := [d1, d2, d3] }
  | _ => none }
def certainEitherRow : OpenClaim := { program := "ytjdojhhngganeaagreatdoor", sum := "f3e55c80fd0b555c5a45de1f385e85c56b63a3a70d2b6da40597676f6f2e56c4", func := "coinage/coinagelaw24.CertainEither", spec := "certainEither", inPlace := ["internal/abi.NoEscape", "internal/bytealg.MakeNoZero"], unfollowed := true, recurses := true, named := ["internal/strconv.uint64pow10", "math/bits.deBruijn32tab", "math/bits.deBruijn64tab"], apart := false, laid := [("math/bits.deBruijn32tab", laid_math_bits_deBruijn32tab), ("math/bits.deBruijn64tab", laid_math_bits_deBruijn64tab), ("internal/strconv.uint64pow10", laid_internal_strconv_uint64pow10)] }
def CertainEitherSaid : Prop := certainEitherRow.holds Tryz.pinned (OpenSpec.ofChange certainEitherSpec)

/-- ITS FALSE NEIGHBOUR: 'it returns false'. Refute it at one input. -/
def certainEitherWrong : ChangeSpec := { name := "certainEither", fn := fun _ => fun
  | [d1, d2, d3] => { results := [.lit (.bool false)], args := [d1, d2, d3] }
  | _ => none }
def CertainEitherWrongFalsely : Prop := certainEitherRow.holds Tryz.pinned (OpenSpec.ofChange certainEitherWrong)

/-- 'coinagelaw24.CertainMeans': WHATEVER THE INPUT: true; the input reads as it did. -/
def certainMeansSpec : ChangeSpec := { name := "certainMeans", fn := fun _ => fun
  | [d1, d2] => { results := [.lit (.bool true)], args := [d1, d2] }
  | _ => none }
def certainMeansRow : OpenClaim := { program := "ytjdojhhngganeaagreatdoor", sum := "f3e55c80fd0b555c5a45de1f385e85c56b63a3a70d2b6da40597676f6f2e56c4", func := "coinage/coinagelaw24.CertainMeans", spec := "certainMeans", inPlace := ["internal/abi.NoEscape", "internal/bytealg.MakeNoZero"], unfollowed := true, recurses := true, named := ["internal/strconv.uint64pow10", "math/bits.deBruijn32tab", "math/bits.deBruijn64tab"], apart := false, laid := [("math/bits.deBruijn32tab", laid_math_bits_deBruijn32tab), ("math/bits.deBruijn64tab", laid_math_bits_deBruijn64tab), ("internal/strconv.uint64pow10", laid_internal_strconv_uint64pow10)] }
def CertainMeansSaid : Prop := certainMeansRow.holds Tryz.pinned (OpenSpec.ofChange certainMeansSpec)

/-- ITS FALSE NEIGHBOUR: 'it returns false'. Refute it at one input. -/
def certainMeansWrong : ChangeSpec := { name := "certainMeans", fn := fun _ => fun
  | [d1, d2] => { results := [.lit (.bool false)], args := [d1, d2] }
  | _ => none }
def CertainMeansWrongFalsely : Prop := certainMeansRow.holds Tryz.pinned (OpenSpec.ofChange certainMeansWrong)

/-- 'coinagelaw24.CertainReach': WHATEVER THE INPUT: true; the input reads as it did. -/
def certainReachSpec : ChangeSpec := { name := "certainReach", fn := fun _ => fun
  | [d1, d2] => { results := [.lit (.bool true)], args := [d1, d2] }
  | _ => none }
def certainReachRow : OpenClaim := { program := "ytjdojhhngganeaagreatdoor", sum := "f3e55c80fd0b555c5a45de1f385e85c56b63a3a70d2b6da40597676f6f2e56c4", func := "coinage/coinagelaw24.CertainReach", spec := "certainReach", inPlace := ["internal/abi.NoEscape", "internal/bytealg.MakeNoZero"], unfollowed := true, recurses := true, named := ["internal/strconv.uint64pow10", "math/bits.deBruijn32tab", "math/bits.deBruijn64tab"], apart := false, laid := [("math/bits.deBruijn32tab", laid_math_bits_deBruijn32tab), ("math/bits.deBruijn64tab", laid_math_bits_deBruijn64tab), ("internal/strconv.uint64pow10", laid_internal_strconv_uint64pow10)] }
def CertainReachSaid : Prop := certainReachRow.holds Tryz.pinned (OpenSpec.ofChange certainReachSpec)

/-- ITS FALSE NEIGHBOUR: 'it returns false'. Refute it at one input. -/
def certainReachWrong : ChangeSpec := { name := "certainReach", fn := fun _ => fun
  | [d1, d2] => { results := [.lit (.bool false)], args := [d1, d2] }
  | _ => none }
def CertainReachWrongFalsely : Prop := certainReachRow.holds Tryz.pinned (OpenSpec.ofChange certainReachWrong)

/-- 'coinagelaw24.CertainPlaces': WHATEVER THE INPUT: true; the input reads as it did. -/
def certainPlacesSpec : ChangeSpec := { name := "certainPlaces", fn := fun _ => fun
  | [d1, d2, d3] => { results := [.lit (.bool true)], args := [d1, d2, d3] }
  | _ => none }
def certainPlacesRow : OpenClaim := { program := "ytjdojhhngganeaagreatdoor", sum := "f3e55c80fd0b555c5a45de1f385e85c56b63a3a70d2b6da40597676f6f2e56c4", func := "coinage/coinagelaw24.CertainPlaces", spec := "certainPlaces", inPlace := ["internal/abi.NoEscape", "internal/bytealg.MakeNoZero"], unfollowed := true, recurses := true, named := ["internal/strconv.uint64pow10", "math/bits.deBruijn32tab", "math/bits.deBruijn64tab"], apart := false, laid := [("math/bits.deBruijn32tab", laid_math_bits_deBruijn32tab), ("math/bits.deBruijn64tab", laid_math_bits_deBruijn64tab), ("internal/strconv.uint64pow10", laid_internal_strconv_uint64pow10)] }
def CertainPlacesSaid : Prop := certainPlacesRow.holds Tryz.pinned (OpenSpec.ofChange certainPlacesSpec)

/-- ITS FALSE NEIGHBOUR: 'it returns false'. Refute it at one input. -/
def certainPlacesWrong : ChangeSpec := { name := "certainPlaces", fn := fun _ => fun
  | [d1, d2, d3] => { results := [.lit (.bool false)], args := [d1, d2, d3] }
  | _ => none }
def CertainPlacesWrongFalsely : Prop := certainPlacesRow.holds Tryz.pinned (OpenSpec.ofChange certainPlacesWrong)

/- THE SECOND FORM. 'bulk': how many values and letters a reading holds, each counted each time it is reached (what is shared counts as often as it is met; a slice's spare places count too). A statement '..UptoSaid' is the law's where the arguments, and the package variables that the reading takes, are together of bulk at most 1048576: NARROWER than '..Said'. Prove '..Said' where nothing that the law and all that it calls make is longer than what came in: it says more and counts as full. Else prove '..UptoSaid'. A law counts once. -/
mutual
def uptoBulk {H : Type} : DataW H → Nat
  | .lit (.string bytes) => bytes.length + 1
  | .lit _ => 1
  | .nil => 1
  | .ptr d => uptoBulk d + 1
  | .slice elems spare => uptoBulkAll elems + uptoBulkAll spare + 1
  | .agg parts => uptoBulkAll parts + 1
  | .iface _ d => uptoBulk d + 1
  | .map entries => uptoBulkEntries entries + 1
  | .held _ => 1
def uptoBulkAll {H : Type} : List (DataW H) → Nat
  | [] => 0
  | d :: r => uptoBulk d + uptoBulkAll r
def uptoBulkEntries {H : Type} : List (Lit × DataW H) → Nat
  | [] => 0
  | x :: r => uptoBulkEntry x + uptoBulkEntries r
def uptoBulkEntry {H : Type} : Lit × DataW H → Nat
  | (.string bytes, d) => bytes.length + uptoBulk d + 1
  | (_, d) => uptoBulk d + 1
 end
def uptoSmall : (H : Type) → List (DataW H) → Bool := fun _ ds => decide (uptoBulkAll ds ≤ 1048576)
def OpenSpec.upto (s : _root_.Go.ChangeSpec) : _root_.Go.OpenSpec := { _root_.Go.OpenSpec.ofChange s with cond := some uptoSmall }

/-- 'coinagelaw24.CertainShares', WHERE WHAT IT READS IS OF BULK AT MOST 1048576: true; the input reads as it did. -/
def certainSharesUptoRow : OpenClaim := { program := "ytjdojhhngganeaagreatdoor", sum := "f3e55c80fd0b555c5a45de1f385e85c56b63a3a70d2b6da40597676f6f2e56c4", func := "coinage/coinagelaw24.CertainShares", spec := "certainShares", inPlace := ["internal/abi.NoEscape", "internal/bytealg.MakeNoZero"], unfollowed := true, recurses := true, named := ["internal/strconv.uint64pow10", "math/bits.deBruijn32tab", "math/bits.deBruijn64tab"], apart := false, laid := [("math/bits.deBruijn32tab", laid_math_bits_deBruijn32tab), ("math/bits.deBruijn64tab", laid_math_bits_deBruijn64tab), ("internal/strconv.uint64pow10", laid_internal_strconv_uint64pow10)], narrowed := true }
def CertainSharesUptoSaid : Prop := certainSharesUptoRow.holds Tryz.pinned (OpenSpec.upto certainSharesSpec)

/-- 'coinagelaw24.CertainBalances', WHERE WHAT IT READS IS OF BULK AT MOST 1048576: true; the input reads as it did. -/
def certainBalancesUptoRow : OpenClaim := { program := "ytjdojhhngganeaagreatdoor", sum := "f3e55c80fd0b555c5a45de1f385e85c56b63a3a70d2b6da40597676f6f2e56c4", func := "coinage/coinagelaw24.CertainBalances", spec := "certainBalances", inPlace := ["internal/abi.NoEscape", "internal/bytealg.MakeNoZero"], unfollowed := true, recurses := true, named := ["internal/strconv.uint64pow10", "math/bits.deBruijn32tab", "math/bits.deBruijn64tab"], apart := false, laid := [("math/bits.deBruijn32tab", laid_math_bits_deBruijn32tab), ("math/bits.deBruijn64tab", laid_math_bits_deBruijn64tab), ("internal/strconv.uint64pow10", laid_internal_strconv_uint64pow10)], narrowed := true }
def CertainBalancesUptoSaid : Prop := certainBalancesUptoRow.holds Tryz.pinned (OpenSpec.upto certainBalancesSpec)

/-- 'coinagelaw24.CertainFollows', WHERE WHAT IT READS IS OF BULK AT MOST 1048576: true; the input reads as it did. -/
def certainFollowsUptoRow : OpenClaim := { program := "ytjdojhhngganeaagreatdoor", sum := "f3e55c80fd0b555c5a45de1f385e85c56b63a3a70d2b6da40597676f6f2e56c4", func := "coinage/coinagelaw24.CertainFollows", spec := "certainFollows", inPlace := ["internal/abi.NoEscape", "internal/bytealg.MakeNoZero"], unfollowed := true, recurses := true, named := ["internal/strconv.uint64pow10", "math/bits.deBruijn32tab", "math/bits.deBruijn64tab"], apart := false, laid := [("math/bits.deBruijn32tab", laid_math_bits_deBruijn32tab), ("math/bits.deBruijn64tab", laid_math_bits_deBruijn64tab), ("internal/strconv.uint64pow10", laid_internal_strconv_uint64pow10)], narrowed := true }
def CertainFollowsUptoSaid : Prop := certainFollowsUptoRow.holds Tryz.pinned (OpenSpec.upto certainFollowsSpec)

/-- 'coinagelaw24.CertainEither', WHERE WHAT IT READS IS OF BULK AT MOST 1048576: true; the input reads as it did. -/
def certainEitherUptoRow : OpenClaim := { program := "ytjdojhhngganeaagreatdoor", sum := "f3e55c80fd0b555c5a45de1f385e85c56b63a3a70d2b6da40597676f6f2e56c4", func := "coinage/coinagelaw24.CertainEither", spec := "certainEither", inPlace := ["internal/abi.NoEscape", "internal/bytealg.MakeNoZero"], unfollowed := true, recurses := true, named := ["internal/strconv.uint64pow10", "math/bits.deBruijn32tab", "math/bits.deBruijn64tab"], apart := false, laid := [("math/bits.deBruijn32tab", laid_math_bits_deBruijn32tab), ("math/bits.deBruijn64tab", laid_math_bits_deBruijn64tab), ("internal/strconv.uint64pow10", laid_internal_strconv_uint64pow10)], narrowed := true }
def CertainEitherUptoSaid : Prop := certainEitherUptoRow.holds Tryz.pinned (OpenSpec.upto certainEitherSpec)

/-- 'coinagelaw24.CertainMeans', WHERE WHAT IT READS IS OF BULK AT MOST 1048576: true; the input reads as it did. -/
def certainMeansUptoRow : OpenClaim := { program := "ytjdojhhngganeaagreatdoor", sum := "f3e55c80fd0b555c5a45de1f385e85c56b63a3a70d2b6da40597676f6f2e56c4", func := "coinage/coinagelaw24.CertainMeans", spec := "certainMeans", inPlace := ["internal/abi.NoEscape", "internal/bytealg.MakeNoZero"], unfollowed := true, recurses := true, named := ["internal/strconv.uint64pow10", "math/bits.deBruijn32tab", "math/bits.deBruijn64tab"], apart := false, laid := [("math/bits.deBruijn32tab", laid_math_bits_deBruijn32tab), ("math/bits.deBruijn64tab", laid_math_bits_deBruijn64tab), ("internal/strconv.uint64pow10", laid_internal_strconv_uint64pow10)], narrowed := true }
def CertainMeansUptoSaid : Prop := certainMeansUptoRow.holds Tryz.pinned (OpenSpec.upto certainMeansSpec)

/-- 'coinagelaw24.CertainReach', WHERE WHAT IT READS IS OF BULK AT MOST 1048576: true; the input reads as it did. -/
def certainReachUptoRow : OpenClaim := { program := "ytjdojhhngganeaagreatdoor", sum := "f3e55c80fd0b555c5a45de1f385e85c56b63a3a70d2b6da40597676f6f2e56c4", func := "coinage/coinagelaw24.CertainReach", spec := "certainReach", inPlace := ["internal/abi.NoEscape", "internal/bytealg.MakeNoZero"], unfollowed := true, recurses := true, named := ["internal/strconv.uint64pow10", "math/bits.deBruijn32tab", "math/bits.deBruijn64tab"], apart := false, laid := [("math/bits.deBruijn32tab", laid_math_bits_deBruijn32tab), ("math/bits.deBruijn64tab", laid_math_bits_deBruijn64tab), ("internal/strconv.uint64pow10", laid_internal_strconv_uint64pow10)], narrowed := true }
def CertainReachUptoSaid : Prop := certainReachUptoRow.holds Tryz.pinned (OpenSpec.upto certainReachSpec)

/-- 'coinagelaw24.CertainPlaces', WHERE WHAT IT READS IS OF BULK AT MOST 1048576: true; the input reads as it did. -/
def certainPlacesUptoRow : OpenClaim := { program := "ytjdojhhngganeaagreatdoor", sum := "f3e55c80fd0b555c5a45de1f385e85c56b63a3a70d2b6da40597676f6f2e56c4", func := "coinage/coinagelaw24.CertainPlaces", spec := "certainPlaces", inPlace := ["internal/abi.NoEscape", "internal/bytealg.MakeNoZero"], unfollowed := true, recurses := true, named := ["internal/strconv.uint64pow10", "math/bits.deBruijn32tab", "math/bits.deBruijn64tab"], apart := false, laid := [("math/bits.deBruijn32tab", laid_math_bits_deBruijn32tab), ("math/bits.deBruijn64tab", laid_math_bits_deBruijn64tab), ("internal/strconv.uint64pow10", laid_internal_strconv_uint64pow10)], narrowed := true }
def CertainPlacesUptoSaid : Prop := certainPlacesUptoRow.holds Tryz.pinned (OpenSpec.upto certainPlacesSpec)

end Rows
end Go.Proofs.YtjdojhhngganeaaGreatDoor
