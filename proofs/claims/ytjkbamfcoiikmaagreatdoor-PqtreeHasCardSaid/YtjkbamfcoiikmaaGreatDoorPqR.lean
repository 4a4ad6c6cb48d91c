/- The library's sort of ints, and which orders are permutations: plain. -/
import Derived.Test.YtjkbamfcoiikmaaGreatDoorPqP
namespace Go.Fw
def srtI (l : List Int) : List Int := l.mergeSort fun x y => decide (x ≤ y)
theorem srtI_len (l : List Int) : (srtI l).length = l.length := List.length_mergeSort _
theorem srtI_perm (l : List Int) : (srtI l).Perm l := List.mergeSort_perm _ _
theorem srtI_mono (l : List Int) : (srtI l).Pairwise (· ≤ ·) := by
  have h := List.pairwise_mergeSort (le := fun x y : Int => decide (x ≤ y)) (fun a b c h1 h2 => by
    rw [decide_eq_true_eq] at *; omega) (fun a b => by
    rcases Int.le_total a b with h | h <;> simp [h]) l
  exact h.imp fun h => by simpa using h
end Go.Fw
namespace Go.Fw.Pq
open Go Go.Fw
/-- The least and the greatest place of an order at which a column of the row stands. -/
def rngR (R L : List Int) (n : Nat) : Nat → Int × Int
  | 0 => ((n : Int), -1)
  | i + 1 => if L.getD i 0 ∈ R then (if (i : Int) < (rngR R L n i).1 then (i : Int) else (rngR R L n i).1, (i : Int)) else rngR R L n i
theorem rngR_bd (R L : List Int) (n : Nat) : ∀ i, 0 ≤ (rngR R L n i).1 ∧ (rngR R L n i).1 ≤ n ∧ -1 ≤ (rngR R L n i).2 ∧ (rngR R L n i).2 < i
  | 0 => ⟨by show (0 : Int) ≤ (n : Int); omega, Int.le_refl _, Int.le_refl _, by show (-1 : Int) < ((0 : Nat) : Int); omega⟩
  | i + 1 => by
    have h := rngR_bd R L n i
    unfold rngR
    split
    · refine ⟨?_, ?_, ?_, ?_⟩ <;> (try split) <;> (dsimp only; omega)
    · omega
def gapR (R L : List Int) (n : Nat) : Prop := (rngR R L n L.length).2 - (rngR R L n L.length).1 + 1 = (R.length : Int)
instance (R L : List Int) (n : Nat) : Decidable (gapR R L n) := by unfold gapR; infer_instance
/-- What Tree.Has answers. -/
def hasP (n : Nat) (W : List (List Int)) (L : List Int) : Prop := L.length = n ∧ ascR (srtI L) n ∧ ∀ R ∈ W, gapR R L n
instance (n : Nat) (W : List (List Int)) (L : List Int) : Decidable (hasP n W L) := by unfold hasP; infer_instance
theorem getDR_mem {l : List Rw} {r : Rw} (h : r ∈ l) : ∃ j, j < l.length ∧ l.getD j dR = r := by
  obtain ⟨j, hj, e⟩ := List.mem_iff_getElem.1 h
  exact ⟨j, hj, by rw [List.getD_eq_getElem?_getD, List.getElem?_eq_getElem hj]; exact e⟩
theorem hasP_yes {n : Nat} {l : List Rw} {L : List Int} (h1 : L.length = n) (h2 : ascR (srtI L) n) {k : Nat} (hk : l.length ≤ k) (h3 : ∀ j, j < k → j < l.length → gapR (l.getD j dR).L L n) : hasP n (Rls l) L :=
  ⟨h1, h2, fun R hR => by
    obtain ⟨r, hr, rfl⟩ := List.mem_map.1 hR
    obtain ⟨j, hj, rfl⟩ := getDR_mem hr
    exact h3 j (by omega) hj⟩
theorem hasP_no {n : Nat} {l : List Rw} {L : List Int} {k : Nat} (hk : k < l.length) (h : ¬ gapR (l.getD k dR).L L n) : ¬ hasP n (Rls l) L := fun c =>
  h (c.2.2 _ (List.mem_map.2 ⟨_, rw_mem hk, rfl⟩))
end Go.Fw.Pq
namespace Go.Fw
theorem memI_first {L : List Int} {x r : Int} (h : firstI (fun k => decide (x = L.getD k 0)) L.length r) : decide (0 ≤ r) = decide (x ∈ L) := by
  rw [any_of_first h]
  by_cases hx : x ∈ L
  · rw [decide_eq_true hx, List.any_eq_true]
    obtain ⟨j, hj, e⟩ := List.mem_iff_getElem.1 hx
    refine ⟨j, List.mem_range.2 hj, ?_⟩
    rw [List.getD_eq_getElem?_getD, List.getElem?_eq_getElem hj]
    simpa using e.symm
  · rw [decide_eq_false hx, List.any_eq_false]
    intro k hk
    have hk := List.mem_range.1 hk
    intro h
    have h := of_decide_eq_true h
    refine hx ?_
    rw [h, List.getD_eq_getElem?_getD, List.getElem?_eq_getElem hk]
    exact List.getElem_mem _
end Go.Fw
