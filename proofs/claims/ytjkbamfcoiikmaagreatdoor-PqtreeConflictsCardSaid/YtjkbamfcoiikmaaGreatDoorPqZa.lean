/- Chapter 28: all orders of some columns, as the reference makes them; rows that stand together. Plain. -/
import Derived.Test.YtjkbamfcoiikmaaGreatDoorPqZ
namespace Go.Fw.Pq
open Go Go.RowKit Go.Fw
theorem getI_mem {l : List Int} {j : Nat} (h : j < l.length) : l.getD j 0 ∈ l := by
  rw [List.getD_eq_getElem?_getD, List.getElem?_eq_getElem h]; exact List.getElem_mem h
theorem no_memI {L : List Int} {x : Int} (h : ∀ j, j < L.length → L.getD j 0 ≠ x) : x ∉ L := fun hx => by
  obtain ⟨j, hj, e⟩ := List.mem_iff_getElem.1 hx
  exact h j hj (by rw [List.getD_eq_getElem?_getD, List.getElem?_eq_getElem hj, e]; rfl)
/-- An order continued by each of the first v columns that it does not have. -/
def ordX (p : List Nat) : Nat → List (List Nat)
  | 0 => []
  | v + 1 => ordX p v ++ (if v ∈ p then [] else [p ++ [v]])
def ordF (n : Nat) : Nat → List (List Nat)
  | 0 => [[]]
  | k + 1 => (ordF n k).flatMap fun p => ordX p n
def ordV (p : List Nat) (v : Nat) : List (List Int) := (ordX p v).map zs
def ordW (n : Nat) (F : List (List Nat)) (i : Nat) : List (List Int) := (F.take i).flatMap fun p => ordV p n
theorem row_of {O : List Rw} {F : List (List Nat)} (h : Rls O = F.map zs) {i : Nat} (hi : i < O.length) : (O.getD i dR).L = zs (F.getD i []) := by
  have h1 : (Rls O)[i]? = (F.map zs)[i]? := by rw [h]
  have hl : O.length = F.length := by have := congrArg List.length h; rwa [List.length_map, List.length_map] at this
  rw [List.getElem?_map, List.getElem?_map, List.getElem?_eq_getElem hi, List.getElem?_eq_getElem (show i < F.length by omega)] at h1
  rw [List.getD_eq_getElem?_getD, List.getElem?_eq_getElem hi, List.getD_eq_getElem?_getD, List.getElem?_eq_getElem (show i < F.length by omega)]
  exact Option.some.inj h1
theorem len_of {O : List Rw} {F : List (List Nat)} (h : Rls O = F.map zs) : O.length = F.length := by
  have := congrArg List.length h; rwa [List.length_map, List.length_map] at this
theorem zs_mem {l : List Nat} {v : Nat} : ((v : Int) ∈ zs l) ↔ v ∈ l := by
  unfold zs
  rw [List.mem_map]
  exact ⟨fun ⟨x, hx, e⟩ => by obtain rfl : x = v := by omega
                              exact hx, fun h => ⟨v, h, rfl⟩⟩
theorem zs_snoc (l : List Nat) (v : Nat) : zs (l ++ [v]) = zs l ++ [(v : Int)] := by unfold zs; rw [List.map_append]; rfl
theorem ordV_no {O Q : List Rw} {F : List (List Nat)} {A : List (List Int)} {i v : Nat} (hO : Rls O = F.map zs) (hi : i < O.length) (h : (v : Int) ∈ (O.getD i dR).L) (hQ : Rls Q = A ++ ordV (F.getD i []) v) : Rls Q = A ++ ordV (F.getD i []) (v + 1) := by
  rw [row_of hO hi, zs_mem] at h
  rw [hQ]
  unfold ordV
  rw [ordX, if_pos h, List.append_nil]
theorem ordV_yes {O Q : List Rw} {F : List (List Nat)} {A : List (List Int)} {i v : Nat} {ad : Option Addr} {c : Nat} (hO : Rls O = F.map zs) (hi : i < O.length) (h : (v : Int) ∉ (O.getD i dR).L) (hQ : Rls Q = A ++ ordV (F.getD i []) v) : Rls (Q ++ [⟨ad, c, (O.getD i dR).L ++ [(v : Int)]⟩]) = A ++ ordV (F.getD i []) (v + 1) := by
  have h' := h
  rw [row_of hO hi, zs_mem] at h'
  rw [show Rls (Q ++ [(⟨ad, c, (O.getD i dR).L ++ [(v : Int)]⟩ : Rw)]) = Rls Q ++ [(O.getD i dR).L ++ [(v : Int)]] from List.map_append, hQ, row_of hO hi]
  unfold ordV
  rw [ordX, if_neg h', List.map_append, List.append_assoc]
  show _ = A ++ (_ ++ [zs (F.getD i [] ++ [v])])
  rw [zs_snoc]
theorem ordQ_end {n : Nat} {O : List Rw} {F : List (List Nat)} {i v : Nat} (hO : Rls O = F.map zs) (hi : i < O.length) (hv : n = v) : ordW n F i ++ ordV (F.getD i []) v = ordW n F (i + 1) := by
  subst hv
  have hl := len_of hO
  unfold ordW
  rw [List.take_add_one, List.getElem?_eq_getElem (show i < F.length by omega), List.flatMap_append, List.getD_eq_getElem?_getD, List.getElem?_eq_getElem (show i < F.length by omega)]
  simp
theorem ordF_end {n k i : Nat} {O : List Rw} (hO : Rls O = (ordF n k).map zs) (hi : O.length ≤ i) : ordW n (ordF n k) i = (ordF n (k + 1)).map zs := by
  have hl := len_of hO
  unfold ordW ordV
  rw [List.take_of_length_le (by omega), ordF, List.map_flatMap]
theorem getD_memF {F : List (List Nat)} {i : Nat} (h : i < F.length) : F.getD i [] ∈ F := by
  rw [List.getD_eq_getElem?_getD, List.getElem?_eq_getElem h]; exact List.getElem_mem _
theorem ordF_len : ∀ n, n ≤ 5 → ∀ k, k ≤ n → (ordF n k).length ≤ 120 := by decide +kernel
theorem ordF_rows : ∀ n, n ≤ 5 → ∀ k, k ≤ n → ∀ p ∈ ordF n k, p.length = k := by decide +kernel
end Go.Fw.Pq
