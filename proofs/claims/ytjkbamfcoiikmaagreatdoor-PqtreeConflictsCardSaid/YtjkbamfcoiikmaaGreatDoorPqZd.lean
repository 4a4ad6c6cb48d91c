/- Chapter 28: the search for an order in which all rows stand together. Plain. -/
import Derived.Test.YtjkbamfcoiikmaaGreatDoorPqZc
namespace Go.Fw.Pq
open Go Go.RowKit Go.Fw
/-- May a column come next, as far as a row goes? -/
def fitR (l : List Rw) (c : Nat) (lf : List Int) (i : Nat) : Prop := (c : Int) ∈ (l.getD i dR).L ∨ ¬ (0 < lf.getD i 0 ∧ lf.getD i 0 < ((l.getD i dR).L.length : Int))
instance (l : List Rw) (c : Nat) (lf : List Int) (i : Nat) : Decidable (fitR l c lf i) := by unfold fitR; infer_instance
def fitC (l : List Rw) (c : Nat) (lf : List Int) : Prop := ∀ i, i < l.length → fitR l c lf i
instance (l : List Rw) (c : Nat) (lf : List Int) : Decidable (fitC l c lf) := by unfold fitC; infer_instance
/-- What is left of each row behind a column, the first rows alone. -/
def nxtP (l : List Rw) (c : Nat) (lf : List Int) : Nat → List Int
  | 0 => lf
  | i + 1 => if (c : Int) ∈ (l.getD i dR).L then (nxtP l c lf i).set i (lf.getD i 0 - 1) else nxtP l c lf i
theorem nxtP_len (l : List Rw) (c : Nat) (lf : List Int) : ∀ i, (nxtP l c lf i).length = lf.length
  | 0 => rfl
  | i + 1 => by
    rw [nxtP]
    split
    · rw [List.length_set, nxtP_len]
    · exact nxtP_len l c lf i
theorem nxtP_hi (l : List Rw) (c : Nat) (lf : List Int) : ∀ i j, i ≤ j → (nxtP l c lf i).getD j 0 = lf.getD j 0
  | 0, _, _ => rfl
  | i + 1, j, h => by
    rw [nxtP]
    split
    · rw [List.getD_eq_getElem?_getD, List.getElem?_set_ne (by omega), ← List.getD_eq_getElem?_getD]
      exact nxtP_hi l c lf i j (by omega)
    · exact nxtP_hi l c lf i j (by omega)
theorem nxtP_get (l : List Rw) (c : Nat) (lf : List Int) : ∀ i j, j < i → j < lf.length → (nxtP l c lf i).getD j 0 = lf.getD j 0 - if (c : Int) ∈ (l.getD j dR).L then 1 else 0
  | i + 1, j, h, hj => by
    rw [nxtP]
    by_cases e : j = i
    · subst e
      split
      · rw [List.getD_eq_getElem?_getD, List.getElem?_set_self (by rw [nxtP_len]; exact hj)]; rfl
      · rw [nxtP_hi l c lf j j (Nat.le_refl _)]; omega
    · have ih := nxtP_get l c lf i j (by omega) hj
      by_cases hr : (c : Int) ∈ (l.getD i dR).L
      · rw [if_pos hr, List.getD_eq_getElem?_getD, List.getElem?_set_ne (by omega), ← List.getD_eq_getElem?_getD]; exact ih
      · rw [if_neg hr]; exact ih
abbrev nxtL (l : List Rw) (c : Nat) (lf : List Int) : List Int := nxtP l c lf l.length
/-- Is there an order that begins with some columns? -/
def fnd (n : Nat) (l : List Rw) : Nat → List Int → List Int → Bool
  | 0, _, _ => true
  | f + 1, b, lf => (List.range n).any fun c => decide ((c : Int) ∉ b ∧ fitC l c lf) && fnd n l f (b ++ [(c : Int)]) (nxtL l c lf)
def fndC (n : Nat) (l : List Rw) (f : Nat) (b lf : List Int) (c : Nat) : Bool := decide ((c : Int) ∉ b ∧ fitC l c lf) && fnd n l f (b ++ [(c : Int)]) (nxtL l c lf)
theorem fnd_none {n : Nat} {l : List Rw} {f : Nat} {b lf : List Int} (h : ∀ c, c < n → fndC n l f b lf c = false) : fnd n l (f + 1) b lf = false := by
  rw [fnd, List.any_eq_false]
  intro c hc
  rw [show (decide ((c : Int) ∉ b ∧ fitC l c lf) && fnd n l f (b ++ [(c : Int)]) (nxtL l c lf)) = false from h c (List.mem_range.1 hc)]
  exact Bool.false_ne_true
theorem fnd_some {n : Nat} {l : List Rw} {f : Nat} {b lf : List Int} {c : Nat} (hc : c < n) (h : fndC n l f b lf c = true) : fnd n l (f + 1) b lf = true := by
  rw [fnd, List.any_eq_true]
  exact ⟨c, List.mem_range.2 hc, h⟩
theorem fndC_of {n : Nat} {l : List Rw} {f : Nat} {b lf : List Int} {c : Nat} (h1 : (c : Int) ∉ b) (h2 : fitC l c lf) : fndC n l f b lf c = fnd n l f (b ++ [(c : Int)]) (nxtL l c lf) := by
  unfold fndC; rw [decide_eq_true ⟨h1, h2⟩, Bool.true_and]
theorem fndC_in {n : Nat} {l : List Rw} {f : Nat} {b lf : List Int} {c : Nat} (h1 : (c : Int) ∈ b) : fndC n l f b lf c = false := by
  unfold fndC; rw [decide_eq_false (fun e => e.1 h1), Bool.false_and]
theorem fndC_no {n : Nat} {l : List Rw} {f : Nat} {b lf : List Int} {c : Nat} (h2 : ¬ fitC l c lf) : fndC n l f b lf c = false := by
  unfold fndC; rw [decide_eq_false (fun e => h2 e.2), Bool.false_and]
end Go.Fw.Pq
namespace Go.Fw.Pq
open Go Go.RowKit Go.Fw
theorem fit_step {fb : Bool} {F : Nat → Prop} {i : Nat} (h : fb = true ↔ ∀ j, j < i → F j) (hi : F i) : fb = true ↔ ∀ j, j < i + 1 → F j :=
  h.trans ⟨fun e j hj => by
    by_cases c : j = i
    · subst c; exact hi
    · exact e j (by omega), fun e j hj => e j (by omega)⟩
theorem fit_stop {F : Nat → Prop} {i : Nat} (hi : ¬ F i) : false = true ↔ ∀ j, j < i + 1 → F j := ⟨fun e => (by cases e), fun e => absurd (e i (by omega)) hi⟩
theorem nxt_bd {l : List Rw} {c : Nat} {lf : List Int} {m : Nat} (hll : lf.length = l.length) (h : ∀ i, i < lf.length → -(m : Int) ≤ lf.getD i 0 ∧ lf.getD i 0 ≤ 1000000) : ∀ i, i < (nxtL l c lf).length → -((m + 1 : Nat) : Int) ≤ (nxtL l c lf).getD i 0 ∧ (nxtL l c lf).getD i 0 ≤ 1000000 := fun i hi => by
  rw [nxtP_len] at hi
  have h1 := h i hi
  rw [nxtP_get l c lf l.length i (by omega) hi]
  split <;> omega
end Go.Fw.Pq
namespace Go.Fw.Pq
open Go Go.RowKit Go.Fw
def lensL (l : List Rw) : List Int := l.map fun r => ((r.L.length : Nat) : Int)
theorem lensL_len (l : List Rw) : (lensL l).length = l.length := List.length_map _
theorem lensL_get {l : List Rw} {i : Nat} (h : i < l.length) : (lensL l).getD i 0 = (((l.getD i dR).L.length : Nat) : Int) := by
  unfold lensL
  rw [List.getD_eq_getElem?_getD, List.getElem?_map, List.getD_eq_getElem?_getD, List.getElem?_eq_getElem h]; rfl
theorem lensL_take {l : List Rw} {i : Nat} (h : i < l.length) : (lensL l).take (i + 1) = (lensL l).take i ++ [(((l.getD i dR).L.length : Nat) : Int)] := by
  rw [List.take_add_one, List.getElem?_eq_getElem (by rw [lensL_len]; exact h)]
  congr 1
  have := lensL_get h
  rw [List.getD_eq_getElem?_getD, List.getElem?_eq_getElem (by rw [lensL_len]; exact h)] at this
  exact congrArg (fun x => [x]) this
/-- May all rows stand together? -/
def posP (n : Nat) (l : List Rw) : Prop := valR n l ∧ fnd n l n [] (lensL l) = true
instance (n : Nat) (l : List Rw) : Decidable (posP n l) := by unfold posP; infer_instance
end Go.Fw.Pq
