/- Chapter 28: runs of a row in an order. Plain. -/
import Derived.Test.YtjkbamfcoiikmaaGreatDoorPqX
namespace Go.Fw.Pq
open Go Go.RowKit Go.Fw
/-- The runs of a row among the first columns of an order, and whether the last of them is in the row. -/
def runI (R L : List Int) : Nat → Nat × Bool
  | 0 => (0, false)
  | i + 1 => (if L.getD i 0 ∈ R ∧ (runI R L i).2 = false then (runI R L i).1 + 1 else (runI R L i).1, decide (L.getD i 0 ∈ R))
def runR (R L : List Int) : Nat := (runI R L L.length).1
/-- The sum of the gaps of the first rows. -/
def gapS (l : List Rw) (L : List Int) : Nat → Nat
  | 0 => 0
  | i + 1 => gapS l L i + (runR (l.getD i dR).L L - 1)
def valR (n : Nat) (l : List Rw) : Prop := ∀ i, i < l.length → ascR (l.getD i dR).L n
instance (n : Nat) (l : List Rw) : Decidable (valR n l) := by unfold valR; infer_instance
def runL (l : List Rw) (L : List Int) : List Int := l.map fun r => ((runR r.L L : Nat) : Int)
/-- An order of n columns. -/
def isOrd (n : Nat) (L : List Int) : Prop := ∃ p : List Nat, L = zs p ∧ p.Perm (List.range n)
theorem isOrd.len {n : Nat} {L : List Int} (h : isOrd n L) : L.length = n := by
  obtain ⟨p, rfl, hp⟩ := h
  rw [zs_length, hp.length_eq, List.length_range]
theorem isOrd.srt {n : Nat} {L : List Int} (h : isOrd n L) : srtI L = beg n := by
  obtain ⟨p, rfl, hp⟩ := h
  have h1 : (srtI (zs p)).Perm (beg n) := (srtI_perm _).trans (hp.map _)
  refine h1.eq_of_pairwise (fun _ _ _ _ h1 h2 => Int.le_antisymm h1 h2) (srtI_mono _) ?_
  unfold beg zs
  rw [List.pairwise_map]
  exact List.pairwise_le_range.imp fun h => by omega
theorem zs_get {l : List Nat} {j : Nat} (h : j < l.length) : (zs l).getD j 0 = ((l.getD j 0 : Nat) : Int) := by
  unfold zs
  rw [List.getD_eq_getElem?_getD, List.getElem?_map, List.getElem?_eq_getElem h, List.getD_eq_getElem?_getD, List.getElem?_eq_getElem h]; rfl
end Go.Fw.Pq
