/- Chapter 16: what the references make: rows of matrices. Orders again. Plain. -/
import Derived.Test.YtmambmpohkollaaGreatDoorCnQ
namespace Go.Fw.Cn
open Go Go.RowKit Go.Fw
section
variable {R : List Int} {K : List Lk} {o : Int}
/-- A row of a matrix, its first k numbers done, of the next one the first j links. -/
def rwK (R : List Int) (K : List Lk) (o : Int) (k j : Nat) : List Int := (List.range R.length).map fun m => if m < k then (cntK K o (R.getD m 0) : Int) else if m = k then (cntK (K.take j) o (R.getD m 0) : Int) else 0
theorem rwK_len {k j : Nat} : (rwK R K o k j).length = R.length := by unfold rwK; rw [List.length_map, List.length_range]
theorem rwK_get {k j m : Nat} (h : m < R.length) : (rwK R K o k j).getD m 0 = if m < k then (cntK K o (R.getD m 0) : Int) else if m = k then (cntK (K.take j) o (R.getD m 0) : Int) else 0 := by
  unfold rwK
  rw [List.getD_eq_getElem?_getD, List.getElem?_map, List.getElem?_range h]; rfl
theorem and3 (a b : Prop) : ¬ a ∨ (a ∧ ¬ b) ∨ (a ∧ b) := by
  by_cases h1 : a <;> by_cases h2 : b <;> simp [h1, h2]
theorem cntK_nil (o r : Int) : cntK [] o r = 0 := rfl
theorem ext_I {L M : List Int} (hl : L.length = M.length) (h : ∀ j, j < L.length → L.getD j 0 = M.getD j 0) : L = M := list_eq_of hl h
theorem rwK_zero : rwK R K o 0 0 = List.replicate R.length 0 := by
  refine list_eq_of (by rw [rwK_len, List.length_replicate]) fun m hm => ?_
  rw [rwK_len] at hm
  rw [rwK_get hm, if_neg (Nat.not_lt_zero m), List.take_zero, cntK_nil, List.getD_eq_getElem?_getD, List.getElem?_replicate, if_pos hm]
  split <;> rfl
theorem rwK_all : rwK R K o R.length 0 = R.map fun r => (cntK K o r : Int) := by
  refine list_eq_of (by rw [rwK_len, List.length_map]) fun m hm => ?_
  rw [rwK_len] at hm
  rw [rwK_get hm, if_pos hm, List.getD_eq_getElem?_getD (l := R.map _), List.getElem?_map, List.getElem?_eq_getElem hm, getI_eq hm]; rfl
theorem rwK_next {k : Nat} : rwK R K o k K.length = rwK R K o (k + 1) 0 := by
  refine list_eq_of (by rw [rwK_len, rwK_len]) fun m hm => ?_
  rw [rwK_len] at hm
  rw [rwK_get hm, rwK_get hm, List.take_length, List.take_zero, cntK_nil]
  by_cases h1 : m < k
  · rw [if_pos h1, if_pos (by omega)]
  · by_cases h2 : m = k
    · rw [if_neg h1, if_pos h2, if_pos (by omega)]
    · rw [if_neg h1, if_neg h2, if_neg (by omega)]; split <;> rfl
theorem cnt_take {j : Nat} (hj : j < K.length) (r : Int) : cntK (K.take (j + 1)) o r = cntK (K.take j) o r + if (K.getD j dK).o = o ∧ (K.getD j dK).r = r then 1 else 0 := by
  rw [takeK_succ hj, cntK_snoc]
theorem rwK_yes {k j : Nat} (hk : k < R.length) (hj : j < K.length) (h : (K.getD j dK).o = o ∧ (K.getD j dK).r = R.getD k 0) : (rwK R K o k j).set k ((rwK R K o k j).getD k 0 + 1) = rwK R K o k (j + 1) := by
  refine list_eq_of (by rw [List.length_set, rwK_len, rwK_len]) fun m hm => ?_
  rw [List.length_set, rwK_len] at hm
  rw [rwK_get hm, getI_eq (by rw [List.length_set, rwK_len]; exact hm), List.getElem_set]
  by_cases e : k = m
  · subst e
    rw [if_pos rfl, rwK_get hk, if_neg (Nat.lt_irrefl k), if_pos rfl, if_neg (Nat.lt_irrefl k), if_pos rfl, cnt_take hj, if_pos h]; omega
  · rw [if_neg e, ← getI_eq (by rw [rwK_len]; exact hm), rwK_get hm]
    simp only [show ¬ m = k from fun c => e c.symm, if_false]
theorem rwK_no {k j : Nat} (_hk : k < R.length) (hj : j < K.length) (h : ¬ ((K.getD j dK).o = o ∧ (K.getD j dK).r = R.getD k 0)) : rwK R K o k j = rwK R K o k (j + 1) := by
  refine list_eq_of (by rw [rwK_len, rwK_len]) fun m hm => ?_
  rw [rwK_len] at hm
  rw [rwK_get hm, rwK_get hm]
  by_cases e : m = k
  · subst e
    rw [if_neg (Nat.lt_irrefl m), if_pos rfl, if_neg (Nat.lt_irrefl m), if_pos rfl, cnt_take hj, if_neg h, Nat.add_zero]
  · rw [if_neg e, if_neg e]
theorem rwK_val {k j : Nat} (hk : k < R.length) : 0 ≤ (rwK R K o k j).getD k 0 ∧ (rwK R K o k j).getD k 0 ≤ K.length := by
  rw [rwK_get hk, if_neg (Nat.lt_irrefl k), if_pos rfl]
  have := cntK_le (K.take j) o (R.getD k 0)
  rw [List.length_take] at this
  omega
theorem matG_take {O : List Int} {i : Nat} (hi : i < O.length) : (matG O R K).take (i + 1) = (matG O R K).take i ++ [R.map fun r => (cntK K (O.getD i 0) r : Int)] := by
  have h := take_succ_getD (l := matG O R K) (k := i) (by rw [matG_len]; exact hi)
  rw [h]
  congr 2
  unfold matG
  rw [List.getD_eq_getElem?_getD, List.getElem?_map, List.getElem?_eq_getElem hi, getI_eq hi]; rfl
end
section
variable {n : Nat} {p : List Nat}
theorem zs_getI {i : Nat} (h : i < p.length) : (zs p).getD i 0 = ((p.getD i 0 : Nat) : Int) := by
  unfold zs
  rw [List.getD_eq_getElem?_getD, List.getElem?_map, List.getElem?_eq_getElem h, List.getD_eq_getElem?_getD, List.getElem?_eq_getElem h]; rfl
theorem ordZ (hp : Pre n n p) {i : Nat} (h : i < n) : 0 ≤ (zs p).getD i 0 ∧ (zs p).getD i 0 < n := by
  rw [zs_getI (by rw [hp.len]; exact h)]
  have := hp.get h
  omega
theorem ordZ_ne (hp : Pre n n p) {i j : Nat} (h : i < n) (hj : j < i) : (zs p).getD i 0 ≠ (zs p).getD j 0 := by
  rw [zs_getI (by rw [hp.len]; exact h), zs_getI (by rw [hp.len]; omega)]
  intro e
  have := hp.inj h (by omega) (Int.ofNat.inj e)
  omega
end
end Go.Fw.Cn
