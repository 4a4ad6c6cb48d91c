/- Chapter 28: the reference's tree behind a row, and what it asks of an order; plain. -/
import Derived.Test.YtjkbamfcoiikmaaGreatDoorRfA
import Derived.Test.YtjkbamfcoiikmaaGreatDoorPqR
namespace Go.Fw.Pq
open Go Go.RowKit Go.Fw
theorem inI_rowS {L : List Int} {n : Nat} (ha : ascR L n) : inI L = rowS (nr L) := by
  funext x
  unfold inI
  rw [Bool.eq_iff_iff, decide_eq_true_iff, rowS_iff]
  unfold nr
  rw [List.mem_map]
  constructor
  · intro hx; exact ⟨_, hx, by simp⟩
  · rintro ⟨y, hy, rfl⟩
    obtain ⟨i, hi, rfl⟩ := List.mem_iff_getElem.1 hy
    have := (ha i hi).1
    rw [List.getD_eq_getElem?_getD, List.getElem?_eq_getElem hi] at this
    have h0 : 0 ≤ L[i] := this
    rw [Int.toNat_of_nonneg h0]; exact hy
theorem redC_redR {n : Nat} {t : PT} {L : List Int} (h : Tn n t) (ha : ascR L n) : redC (inI L) t = redR (nr L) t := by
  rw [inI_rowS ha]
  unfold redC redR
  by_cases c : nr L = []
  · rw [if_pos c, if_pos ((st_zero h.ok).2 fun x _ => by rw [c]; rfl)]
  · rw [if_neg c, if_neg (h.st_ne (nr_lt ha) c)]
theorem refE_no {n : Nat} {t : PT} {t' : AT} {L : List Int} (h : Tn n t) (ha : ascR L n) (hr : RN t' false (redC (inI L) t)) : redE n t L = 10 ∧ redT n t L = t := by
  have e := hr.no rfl
  rw [redC_redR h ha] at e
  unfold redE redT
  rw [if_pos ha, if_pos ha, e]; exact ⟨rfl, rfl⟩
theorem refE_yes {n : Nat} {t : PT} {t' : AT} {L : List Int} (h : Tn n t) (ha : ascR L n) (hr : RN t' true (redC (inI L) t)) : redE n t L = 0 ∧ redT n t L = er t' ∧ Fit t' := by
  obtain ⟨hf, e⟩ := hr.yes rfl
  rw [redC_redR h ha] at e
  unfold redE redT
  rw [if_pos ha, if_pos ha, e]; exact ⟨rfl, rfl, hf⟩
theorem newT_er {n : Nat} {l : List AT} {t : AT} (h : l.map er = (List.range n).map .leaf) (he : grp (l.map er) = [er t]) : er t = newT n := by
  unfold newT; rw [← h, he]; rfl
/-! ## Reach -/
end Go.Fw.Pq
