/-
  NARROWER THAN 'FOR EVERY INPUT', by the rows' own cells (each row's printed sentence says how): PqtreeReduces: laid · PqtreeNested: laid · PqtreeHas: laid · PqtreeOrders: laid · PqtreeConflicts: laid.
  DERIVED. THE GIVEN ROWS OF THIS SEAT. 5 by the template 'for every input the law returns true; each argument reads behind the call as it read before'; 0 by the template 'total and deterministic' (their statements: YtjkbamfcoiikmaaGreatDoorTotals.lean).
  GIVEN WITH THE SEED: the statements are not yours to turn. If you find one false, say at which input.
  Laid BY PROGRAM, IN A SANDBOX (cutbox-rows.mjs): the forced cells as the released guide's own fill.sh prints them over the translation 6b91cd2c55c89572… (all of the seat's roots in one cut). By AI agents, Wed Nov 11 2026. No macro, syntax, notation, axiom, sorry.
-/
import Derived.Test.YtjkbamfcoiikmaaGreatDoorChecked
import GoSem.Claim
import GoSem.ClaimJoined
import GoSem.ClaimMapViews
import Derived.JoinedTies
import Derived.KernelRfl
namespace Go.Proofs.YtjkbamfcoiikmaaGreatDoor
/- THE CELL 'sum', in the pinned program and in every row, IS THE sha256 OF THE DUMP (.gsa) THAT YtjkbamfcoiikmaaGreatDoorProg.lean LOADS. Nothing in Lean hashes anything: it is a label: what it is worth is what the hold of that sum in a sandbox is worth. -/
noncomputable def Tryz.pinned : Pinned := { name := "ytjkbamfcoiikmaagreatdoor", sum := "6b91cd2c55c89572015ae5f1fe45b39dbc2f48f1377b7771e63df108efc8c5e7", checked := Tryz.checked }
namespace Rows
def none {H : Type} : Left H := { results := [], args := [] }

/- WHAT THE LISTED PACKAGE-LEVEL VARIABLES READ AS WHEN THE CALL BEGINS. Each datum BY PROGRAM (the guide's laid-datum.mjs) off the statement by which the dump's own 'gosem.cut.vars' lays the variable. In a bare row this is a premise. The card (YtjkbamfcoiikmaaGreatDoorCards.lean) ties it to the program's text. -/
def laid_math_bits_deBruijn32tab {H : Type} : DataW H := .agg [.lit (.int .u8 0), .lit (.int .u8 1), .lit (.int .u8 28), .lit (.int .u8 2), .lit (.int .u8 29), .lit (.int .u8 14), .lit (.int .u8 24), .lit (.int .u8 3), .lit (.int .u8 30), .lit (.int .u8 22), .lit (.int .u8 20), .lit (.int .u8 15), .lit (.int .u8 25), .lit (.int .u8 17), .lit (.int .u8 4), .lit (.int .u8 8), .lit (.int .u8 31), .lit (.int .u8 27), .lit (.int .u8 13), .lit (.int .u8 23), .lit (.int .u8 21), .lit (.int .u8 19), .lit (.int .u8 16), .lit (.int .u8 7), .lit (.int .u8 26), .lit (.int .u8 12), .lit (.int .u8 18), .lit (.int .u8 6), .lit (.int .u8 11), .lit (.int .u8 5), .lit (.int .u8 10), .lit (.int .u8 9)]
def laid_math_bits_deBruijn64tab {H : Type} : DataW H := .agg [.lit (.int .u8 0), .lit (.int .u8 1), .lit (.int .u8 56), .lit (.int .u8 2), .lit (.int .u8 57), .lit (.int .u8 49), .lit (.int .u8 28), .lit (.int .u8 3), .lit (.int .u8 61), .lit (.int .u8 58), .lit (.int .u8 42), .lit (.int .u8 50), .lit (.int .u8 38), .lit (.int .u8 29), .lit (.int .u8 17), .lit (.int .u8 4), .lit (.int .u8 62), .lit (.int .u8 47), .lit (.int .u8 59), .lit (.int .u8 36), .lit (.int .u8 45), .lit (.int .u8 43), .lit (.int .u8 51), .lit (.int .u8 22), .lit (.int .u8 53), .lit (.int .u8 39), .lit (.int .u8 33), .lit (.int .u8 30), .lit (.int .u8 24), .lit (.int .u8 18), .lit (.int .u8 12), .lit (.int .u8 5), .lit (.int .u8 63), .lit (.int .u8 55), .lit (.int .u8 48), .lit (.int .u8 27), .lit (.int .u8 60), .lit (.int .u8 41), .lit (.int .u8 37), .lit (.int .u8 16), .lit (.int .u8 46), .lit (.int .u8 35), .lit (.int .u8 44), .lit (.int .u8 21), .lit (.int .u8 52), .lit (.int .u8 32), .lit (.int .u8 23), .lit (.int .u8 11), .lit (.int .u8 54), .lit (.int .u8 26), .lit (.int .u8 40), .lit (.int .u8 15), .lit (.int .u8 34), .lit (.int .u8 20), .lit (.int .u8 31), .lit (.int .u8 10), .lit (.int .u8 25), .lit (.int .u8 14), .lit (.int .u8 19), .lit (.int .u8 9), .lit (.int .u8 13), .lit (.int .u8 8), .lit (.int .u8 7), .lit (.int .u8 6)]
def laid_internal_strconv_uint64pow10 {H : Type} : DataW H := .agg [.lit (.int .u64 1), .lit (.int .u64 10), .lit (.int .u64 100), .lit (.int .u64 1000), .lit (.int .u64 10000), .lit (.int .u64 100000), .lit (.int .u64 1000000), .lit (.int .u64 10000000), .lit (.int .u64 100000000), .lit (.int .u64 1000000000), .lit (.int .u64 10000000000), .lit (.int .u64 100000000000), .lit (.int .u64 1000000000000), .lit (.int .u64 10000000000000), .lit (.int .u64 100000000000000), .lit (.int .u64 1000000000000000), .lit (.int .u64 10000000000000000), .lit (.int .u64 100000000000000000), .lit (.int .u64 1000000000000000000), .lit (.int .u64 10000000000000000000)]

/-- 'coinagelaw28.PqtreeReduces': WHATEVER THE INPUT: true; the input reads as it did. -/
def pqtreeReducesSpec : ChangeSpec := { name := "pqtreeReduces", fn := fun _ => fun
  | [d1, d2] => { results := [.lit (.bool true)], args := [d1, d2] }
  | _ => none }
def pqtreeReducesRow : OpenClaim := { program := "ytjkbamfcoiikmaagreatdoor", sum := "6b91cd2c55c89572015ae5f1fe45b39dbc2f48f1377b7771e63df108efc8c5e7", func := "coinage/coinagelaw28.PqtreeReduces", spec := "pqtreeReduces", inPlace := ["internal/abi.NoEscape", "internal/bytealg.MakeNoZero"], unfollowed := true, recurses := true, named := ["internal/strconv.uint64pow10", "math/bits.deBruijn32tab", "math/bits.deBruijn64tab"], apart := false, laid := [("math/bits.deBruijn32tab", laid_math_bits_deBruijn32tab), ("math/bits.deBruijn64tab", laid_math_bits_deBruijn64tab), ("internal/strconv.uint64pow10", laid_internal_strconv_uint64pow10)] }
def PqtreeReducesSaid : Prop := pqtreeReducesRow.holds Tryz.pinned (OpenSpec.ofChange pqtreeReducesSpec)

/-- ITS FALSE NEIGHBOUR: 'it returns false'. Refute it at one input. -/
def pqtreeReducesWrong : ChangeSpec := { name := "pqtreeReduces", fn := fun _ => fun
  | [d1, d2] => { results := [.lit (.bool false)], args := [d1, d2] }
  | _ => none }
def PqtreeReducesWrongFalsely : Prop := pqtreeReducesRow.holds Tryz.pinned (OpenSpec.ofChange pqtreeReducesWrong)

/-- 'coinagelaw28.PqtreeNested': WHATEVER THE INPUT: true; the input reads as it did. -/
def pqtreeNestedSpec : ChangeSpec := { name := "pqtreeNested", fn := fun _ => fun
  | [d] => { results := [.lit (.bool true)], args := [d] }
  | _ => none }
def pqtreeNestedRow : OpenClaim := { program := "ytjkbamfcoiikmaagreatdoor", sum := "6b91cd2c55c89572015ae5f1fe45b39dbc2f48f1377b7771e63df108efc8c5e7", func := "coinage/coinagelaw28.PqtreeNested", spec := "pqtreeNested", inPlace := ["internal/abi.NoEscape", "internal/bytealg.MakeNoZero"], unfollowed := true, recurses := true, named := ["internal/strconv.uint64pow10", "math/bits.deBruijn32tab", "math/bits.deBruijn64tab"], apart := false, laid := [("math/bits.deBruijn32tab", laid_math_bits_deBruijn32tab), ("math/bits.deBruijn64tab", laid_math_bits_deBruijn64tab), ("internal/strconv.uint64pow10", laid_internal_strconv_uint64pow10)] }
def PqtreeNestedSaid : Prop := pqtreeNestedRow.holds Tryz.pinned (OpenSpec.ofChange pqtreeNestedSpec)

/-- ITS FALSE NEIGHBOUR: 'it returns false'. Refute it at one input. -/
def pqtreeNestedWrong : ChangeSpec := { name := "pqtreeNested", fn := fun _ => fun
  | [d] => { results := [.lit (.bool false)], args := [d] }
  | _ => none }
def PqtreeNestedWrongFalsely : Prop := pqtreeNestedRow.holds Tryz.pinned (OpenSpec.ofChange pqtreeNestedWrong)

/-- 'coinagelaw28.PqtreeHas': WHATEVER THE INPUT: true; the input reads as it did. -/
def pqtreeHasSpec : ChangeSpec := { name := "pqtreeHas", fn := fun _ => fun
  | [d1, d2, d3] => { results := [.lit (.bool true)], args := [d1, d2, d3] }
  | _ => none }
def pqtreeHasRow : OpenClaim := { program := "ytjkbamfcoiikmaagreatdoor", sum := "6b91cd2c55c89572015ae5f1fe45b39dbc2f48f1377b7771e63df108efc8c5e7", func := "coinage/coinagelaw28.PqtreeHas", spec := "pqtreeHas", inPlace := ["internal/abi.NoEscape", "internal/bytealg.MakeNoZero"], unfollowed := true, recurses := true, named := ["internal/strconv.uint64pow10", "math/bits.deBruijn32tab", "math/bits.deBruijn64tab"], apart := false, laid := [("math/bits.deBruijn32tab", laid_math_bits_deBruijn32tab), ("math/bits.deBruijn64tab", laid_math_bits_deBruijn64tab), ("internal/strconv.uint64pow10", laid_internal_strconv_uint64pow10)] }
def PqtreeHasSaid : Prop := pqtreeHasRow.holds Tryz.pinned (OpenSpec.ofChange pqtreeHasSpec)

/-- ITS FALSE NEIGHBOUR: 'it returns false'. Refute it at one input. -/
def pqtreeHasWrong : ChangeSpec := { name := "pqtreeHas", fn := fun _ => fun
  | [d1, d2, d3] => { results := [.lit (.bool false)], args := [d1, d2, d3] }
  | _ => none }
def PqtreeHasWrongFalsely : Prop := pqtreeHasRow.holds Tryz.pinned (OpenSpec.ofChange pqtreeHasWrong)

/-- 'coinagelaw28.PqtreeOrders': WHATEVER THE INPUT: true; the input reads as it did. -/
def pqtreeOrdersSpec : ChangeSpec := { name := "pqtreeOrders", fn := fun _ => fun
  | [d1, d2] => { results := [.lit (.bool true)], args := [d1, d2] }
  | _ => none }
def pqtreeOrdersRow : OpenClaim := { program := "ytjkbamfcoiikmaagreatdoor", sum := "6b91cd2c55c89572015ae5f1fe45b39dbc2f48f1377b7771e63df108efc8c5e7", func := "coinage/coinagelaw28.PqtreeOrders", spec := "pqtreeOrders", inPlace := ["internal/abi.NoEscape", "internal/bytealg.MakeNoZero"], unfollowed := true, recurses := true, named := ["internal/strconv.uint64pow10", "math/bits.deBruijn32tab", "math/bits.deBruijn64tab"], apart := false, laid := [("math/bits.deBruijn32tab", laid_math_bits_deBruijn32tab), ("math/bits.deBruijn64tab", laid_math_bits_deBruijn64tab), ("internal/strconv.uint64pow10", laid_internal_strconv_uint64pow10)] }
def PqtreeOrdersSaid : Prop := pqtreeOrdersRow.holds Tryz.pinned (OpenSpec.ofChange pqtreeOrdersSpec)

/-- ITS FALSE NEIGHBOUR: 'it returns false'. Refute it at one input. -/
def pqtreeOrdersWrong : ChangeSpec := { name := "pqtreeOrders", fn := fun _ => fun
  | [d1, d2] => { results := [.lit (.bool false)], args := [d1, d2] }
  | _ => none }
def PqtreeOrdersWrongFalsely : Prop := pqtreeOrdersRow.holds Tryz.pinned (OpenSpec.ofChange pqtreeOrdersWrong)

/-- 'coinagelaw28.PqtreeConflicts': WHATEVER THE INPUT: true; the input reads as it did. -/
def pqtreeConflictsSpec : ChangeSpec := { name := "pqtreeConflicts", fn := fun _ => fun
  | [d1, d2, d3] => { results := [.lit (.bool true)], args := [d1, d2, d3] }
  | _ => none }
def pqtreeConflictsRow : OpenClaim := { program := "ytjkbamfcoiikmaagreatdoor", sum := "6b91cd2c55c89572015ae5f1fe45b39dbc2f48f1377b7771e63df108efc8c5e7", func := "coinage/coinagelaw28.PqtreeConflicts", spec := "pqtreeConflicts", inPlace := ["internal/abi.NoEscape", "internal/bytealg.MakeNoZero"], unfollowed := true, recurses := true, named := ["internal/strconv.uint64pow10", "math/bits.deBruijn32tab", "math/bits.deBruijn64tab"], apart := false, laid := [("math/bits.deBruijn32tab", laid_math_bits_deBruijn32tab), ("math/bits.deBruijn64tab", laid_math_bits_deBruijn64tab), ("internal/strconv.uint64pow10", laid_internal_strconv_uint64pow10)] }
def PqtreeConflictsSaid : Prop := pqtreeConflictsRow.holds Tryz.pinned (OpenSpec.ofChange pqtreeConflictsSpec)

/-- ITS FALSE NEIGHBOUR: 'it returns false'. Refute it at one input. -/
def pqtreeConflictsWrong : ChangeSpec := { name := "pqtreeConflicts", fn := fun _ => fun
  | [d1, d2, d3] => { results := [.lit (.bool false)], args := [d1, d2, d3] }
  | _ => none }
def PqtreeConflictsWrongFalsely : Prop := pqtreeConflictsRow.holds Tryz.pinned (OpenSpec.ofChange pqtreeConflictsWrong)

/- THE SECOND FORM. 'bulk': how many values and letters a reading holds, each counted each time it is reached (what is shared counts as often as it is met; a slice's spare places count too). A statement '..UptoSaid' is the law's where the arguments, and the package variables that the reading takes, are together of bulk at most 1048576: NARROWER than '..Said'. Prove '..Said' where nothing that the law and all that it calls make is longer than what came in: it says more and counts as full. Else prove '..UptoSaid'. A law counts once. -/
mutual
def uptoBulk {H : Type} : DataW H → Nat
  | .lit (.string bytes) => bytes.length + 1
  | .lit _ => 1
  | .nil => 1
  | .ptr d => uptoBulk d + 1
  | .slice elems spare => uptoBulkAll elems + uptoBulkAll spare + 1
  | .agg parts => uptoBulkAll parts + 1
  | .iface _ d => uptoBulk d + 1
  | .map entries => uptoBulkEntries entries + 1
  | .held _ => 1
def uptoBulkAll {H : Type} : List (DataW H) → Nat
  | [] => 0
  | d :: r => uptoBulk d + uptoBulkAll r
def uptoBulkEntries {H : Type} : List (Lit × DataW H) → Nat
  | [] => 0
  | x :: r => uptoBulkEntry x + uptoBulkEntries r
def uptoBulkEntry {H : Type} : Lit × DataW H → Nat
  | (.string bytes, d) => bytes.length + uptoBulk d + 1
  | (_, d) => uptoBulk d + 1
 end
def uptoSmall : (H : Type) → List (DataW H) → Bool := fun _ ds => decide (uptoBulkAll ds ≤ 1048576)
def OpenSpec.upto (s : _root_.Go.ChangeSpec) : _root_.Go.OpenSpec := { _root_.Go.OpenSpec.ofChange s with cond := some uptoSmall }

/-- 'coinagelaw28.PqtreeReduces', WHERE WHAT IT READS IS OF BULK AT MOST 1048576: true; the input reads as it did. -/
def pqtreeReducesUptoRow : OpenClaim := { program := "ytjkbamfcoiikmaagreatdoor", sum := "6b91cd2c55c89572015ae5f1fe45b39dbc2f48f1377b7771e63df108efc8c5e7", func := "coinage/coinagelaw28.PqtreeReduces", spec := "pqtreeReduces", inPlace := ["internal/abi.NoEscape", "internal/bytealg.MakeNoZero"], unfollowed := true, recurses := true, named := ["internal/strconv.uint64pow10", "math/bits.deBruijn32tab", "math/bits.deBruijn64tab"], apart := false, laid := [("math/bits.deBruijn32tab", laid_math_bits_deBruijn32tab), ("math/bits.deBruijn64tab", laid_math_bits_deBruijn64tab), ("internal/strconv.uint64pow10", laid_internal_strconv_uint64pow10)], narrowed := true }
def PqtreeReducesUptoSaid : Prop := pqtreeReducesUptoRow.holds Tryz.pinned (OpenSpec.upto pqtreeReducesSpec)

/-- 'coinagelaw28.PqtreeNested', WHERE WHAT IT READS IS OF BULK AT MOST 1048576: true; the input reads as it did. -/
def pqtreeNestedUptoRow : OpenClaim := { program := "ytjkbamfcoiikmaagreatdoor", sum := "6b91cd2c55c89572015ae5f1fe45b39dbc2f48f1377b7771e63df108efc8c5e7", func := "coinage/coinagelaw28.PqtreeNested", spec := "pqtreeNested", inPlace := ["internal/abi.NoEscape", "internal/bytealg.MakeNoZero"], unfollowed := true, recurses := true, named := ["internal/strconv.uint64pow10", "math/bits.deBruijn32tab", "math/bits.deBruijn64tab"], apart := false, laid := [("math/bits.deBruijn32tab", laid_math_bits_deBruijn32tab), ("math/bits.deBruijn64tab", laid_math_bits_deBruijn64tab), ("internal/strconv.uint64pow10", laid_internal_strconv_uint64pow10)], narrowed := true }
def PqtreeNestedUptoSaid : Prop := pqtreeNestedUptoRow.holds Tryz.pinned (OpenSpec.upto pqtreeNestedSpec)

/-- 'coinagelaw28.PqtreeHas', WHERE WHAT IT READS IS OF BULK AT MOST 1048576: true; the input reads as it did. -/
def pqtreeHasUptoRow : OpenClaim := { program := "ytjkbamfcoiikmaagreatdoor", sum := "6b91cd2c55c89572015ae5f1fe45b39dbc2f48f1377b7771e63df108efc8c5e7", func := "coinage/coinagelaw28.PqtreeHas", spec := "pqtreeHas", inPlace := ["internal/abi.NoEscape", "internal/bytealg.MakeNoZero"], unfollowed := true, recurses := true, named := ["internal/strconv.uint64pow10", "math/bits.deBruijn32tab", "math/bits.deBruijn64tab"], apart := false, laid := [("math/bits.deBruijn32tab", laid_math_bits_deBruijn32tab), ("math/bits.deBruijn64tab", laid_math_bits_deBruijn64tab), ("internal/strconv.uint64pow10", laid_internal_strconv_uint64pow10)], narrowed := true }
def PqtreeHasUptoSaid : Prop := pqtreeHasUptoRow.holds Tryz.pinned (OpenSpec.upto pqtreeHasSpec)

/-- 'coinagelaw28.PqtreeOrders', WHERE WHAT IT READS IS OF BULK AT MOST 1048576: true; the input reads as it did. -/
def pqtreeOrdersUptoRow : OpenClaim := { program := "ytjkbamfcoiikmaagreatdoor", sum := "6b91cd2c55c89572015ae5f1fe45b39dbc2f48f1377b7771e63df108efc8c5e7", func := "coinage/coinagelaw28.PqtreeOrders", spec := "pqtreeOrders", inPlace := ["internal/abi.NoEscape", "internal/bytealg.MakeNoZero"], unfollowed := true, recurses := true, named := ["internal/strconv.uint64pow10", "math/bits.deBruijn32tab", "math/bits.deBruijn64tab"], apart := false, laid := [("math/bits.deBruijn32tab", laid_math_bits_deBruijn32tab), ("math/bits.deBruijn64tab", laid_math_bits_deBruijn64tab), ("internal/strconv.uint64pow10", laid_internal_strconv_uint64pow10)], narrowed := true }
def PqtreeOrdersUptoSaid : Prop := pqtreeOrdersUptoRow.holds Tryz.pinned (OpenSpec.upto pqtreeOrdersSpec)

/-- 'coinagelaw28.PqtreeConflicts', WHERE WHAT IT READS IS OF BULK AT MOST 1048576: true; the input reads as it did. -/
def pqtreeConflictsUptoRow : OpenClaim := { program := "ytjkbamfcoiikmaagreatdoor", sum := "6b91cd2c55c89572015ae5f1fe45b39dbc2f48f1377b7771e63df108efc8c5e7", func := "coinage/coinagelaw28.PqtreeConflicts", spec := "pqtreeConflicts", inPlace := ["internal/abi.NoEscape", "internal/bytealg.MakeNoZero"], unfollowed := true, recurses := true, named := ["internal/strconv.uint64pow10", "math/bits.deBruijn32tab", "math/bits.deBruijn64tab"], apart := false, laid := [("math/bits.deBruijn32tab", laid_math_bits_deBruijn32tab), ("math/bits.deBruijn64tab", laid_math_bits_deBruijn64tab), ("internal/strconv.uint64pow10", laid_internal_strconv_uint64pow10)], narrowed := true }
def PqtreeConflictsUptoSaid : Prop := pqtreeConflictsUptoRow.holds Tryz.pinned (OpenSpec.upto pqtreeConflictsSpec)

end Rows
end Go.Proofs.YtjkbamfcoiikmaaGreatDoor
