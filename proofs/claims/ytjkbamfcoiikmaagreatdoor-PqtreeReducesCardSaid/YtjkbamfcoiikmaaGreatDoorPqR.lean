/- The library's sort of ints, and which orders are permutations: plain. -/
import Derived.Test.YtjkbamfcoiikmaaGreatDoorPqP
namespace Go.Fw
def srtI (l : List Int) : List Int := l.mergeSort fun x y => decide (x ≤ y)
end Go.Fw
namespace Go.Fw.Pq
open Go Go.Fw
/-- The least and the greatest place of an order at which a column of the row stands. -/
def rngR (R L : List Int) (n : Nat) : Nat → Int × Int
  | 0 => ((n : Int), -1)
  | i + 1 => if L.getD i 0 ∈ R then (if (i : Int) < (rngR R L n i).1 then (i : Int) else (rngR R L n i).1, (i : Int)) else rngR R L n i
def gapR (R L : List Int) (n : Nat) : Prop := (rngR R L n L.length).2 - (rngR R L n L.length).1 + 1 = (R.length : Int)
instance (R L : List Int) (n : Nat) : Decidable (gapR R L n) := by unfold gapR; infer_instance
/-- What Tree.Has answers. -/
def hasP (n : Nat) (W : List (List Int)) (L : List Int) : Prop := L.length = n ∧ ascR (srtI L) n ∧ ∀ R ∈ W, gapR R L n
instance (n : Nat) (W : List (List Int)) (L : List Int) : Decidable (hasP n W L) := by unfold hasP; infer_instance
end Go.Fw.Pq
namespace Go.Fw
end Go.Fw
