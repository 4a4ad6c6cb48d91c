/- Chapter 28: all orders of some columns, as the reference makes them; rows that stand together. Plain. -/
import Derived.Test.YtjkbamfcoiikmaaGreatDoorPqZ
namespace Go.Fw.Pq
open Go Go.RowKit Go.Fw
/-- An order continued by each of the first v columns that it does not have. -/
def ordX (p : List Nat) : Nat → List (List Nat)
  | 0 => []
  | v + 1 => ordX p v ++ (if v ∈ p then [] else [p ++ [v]])
def ordF (n : Nat) : Nat → List (List Nat)
  | 0 => [[]]
  | k + 1 => (ordF n k).flatMap fun p => ordX p n
def ordV (p : List Nat) (v : Nat) : List (List Int) := (ordX p v).map zs
def ordW (n : Nat) (F : List (List Nat)) (i : Nat) : List (List Int) := (F.take i).flatMap fun p => ordV p n
end Go.Fw.Pq
