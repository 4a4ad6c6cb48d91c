/- Where a list of columns can stop ascending. Plain. -/
import Derived.Test.YtjkbamfcoiikmaaGreatDoorPqKM
namespace Go.Fw.Pq
open Go Go.RowKit Go.Fw
theorem up4Z (l : List Int) (n i : Nat) : l.getD i 0 < 0 ∨ (0 ≤ l.getD i 0 ∧ (n : Int) - 1 < l.getD i 0) ∨ ((0 ≤ l.getD i 0 ∧ l.getD i 0 ≤ (n : Int) - 1) ∧ i = 0) ∨ ((0 ≤ l.getD i 0 ∧ l.getD i 0 ≤ (n : Int) - 1) ∧ 0 < i ∧ l.getD i 0 ≤ l.getD (i - 1) 0) ∨ ((0 ≤ l.getD i 0 ∧ l.getD i 0 ≤ (n : Int) - 1) ∧ 0 < i ∧ l.getD (i - 1) 0 < l.getD i 0) := by
  omega
theorem asc_no {l : List Int} {n i : Nat} (hi : i < l.length) (h : ¬ okA l n i) : decide (ascR l n) = false := decide_eq_false fun e => h (e i hi)
end Go.Fw.Pq
