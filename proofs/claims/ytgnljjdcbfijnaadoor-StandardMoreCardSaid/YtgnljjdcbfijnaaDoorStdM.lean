/- Chapter 38: common units, the result and its error. Plain. -/
import Derived.Test.YtgnljjdcbfijnaaDoorStdL
namespace Go.Fw
open Go Go.RowKit Go.Nat9

def comR (L : List Int) (tol m : Int) : List (Rat × Rat) := if comE L tol m = 0 then comL L tol m (L.length - 1) else []
theorem comR_no {L : List Int} {tol m : Int} (h : comE L tol m ≠ 0) : comR L tol m = [] := if_neg h
theorem comR_ok {L : List Int} {tol m : Int} (h : comE L tol m = 0) : comR L tol m = comL L tol m (L.length - 1) := if_pos h
theorem comE_chk {L : List Int} {tol m : Int} (h : chkE L ≠ 0) : comE L tol m = chkE L := if_pos h
theorem comE_lim {L : List Int} {tol m : Int} (h : chkE L = 0) (h2 : limE tol m ≠ 0) : comE L tol m = 2 := by
  unfold comE; rw [if_neg (fun e => e h), if_pos h2]
theorem comE_nil {L : List Int} {tol m : Int} (h : chkE L = 0) (h2 : limE tol m = 0) (h3 : L.length = 0) : comE L tol m = 7 := by
  unfold comE; rw [if_neg (fun e => e h), if_neg (fun e => e h2), if_pos h3]
theorem comE_ok {L : List Int} {tol m : Int} (h : chkE L = 0) (h2 : limE tol m = 0) (h3 : ¬ L.length = 0) : comE L tol m = 0 := by
  unfold comE; rw [if_neg (fun e => e h), if_neg (fun e => e h2), if_neg h3]
theorem first_no {L : List Int} {tol m : Int} (h : firstNZ [chkE L, limE tol m] ≠ 0) : comE L tol m = firstNZ [chkE L, limE tol m] := by
  by_cases h1 : chkE L = 0
  · by_cases h2 : limE tol m = 0
    · exfalso; apply h; simp [firstNZ, h1, h2]
    · rw [comE_lim h1 h2]
      have h3 : limE tol m = 2 := by
        by_cases hl : limOk tol m
        · exact absurd (limE_ok hl) h2
        · exact limE_no hl
      simp [firstNZ, h1, h3]
  · rw [comE_chk h1]; simp [firstNZ, h1]
theorem first_ok {L : List Int} {tol m : Int} (h : firstNZ [chkE L, limE tol m] = 0) : chkE L = 0 ∧ limE tol m = 0 := by
  by_cases h1 : chkE L = 0
  · refine ⟨h1, ?_⟩
    by_cases h2 : limE tol m = 0
    · exact h2
    · simp [firstNZ, h1, h2] at h
  · simp [firstNZ, h1] at h
theorem comE_zero {L : List Int} {tol m : Int} (h : comE L tol m = 0) : chkE L = 0 ∧ limE tol m = 0 ∧ ¬ L.length = 0 := by
  unfold comE at h
  split at h
  · contradiction
  · rename_i h1
    split at h
    · cases h
    · rename_i h2
      split at h
      · cases h
      · rename_i h3
        exact ⟨Classical.byContradiction h1, Classical.byContradiction h2, h3⟩
theorem comR_qs (L : List Int) (tol m : Int) : QS3 (comR L tol m) := by
  by_cases h : comE L tol m = 0
  · rw [comR_ok h]
    intro j
    rcases Nat.lt_or_ge j (comL L tol m (L.length - 1)).length with hj | hj
    · have := comL_qs (L := L) (tol := tol) (m := m) (i := L.length - 1) (x := (comL L tol m (L.length - 1)).getD j (0, 0)) (by
        rw [List.getD_eq_getElem?_getD, List.getElem?_eq_getElem hj]; exact List.getElem_mem hj)
      exact this
    · rw [List.getD_eq_getElem?_getD, List.getElem?_eq_none hj]
      exact ⟨qs_zero.mono (by decide), qs_zero.mono (by decide)⟩
  · rw [comR_no h]
    intro j
    simp only [List.getD_nil]
    exact ⟨qs_zero.mono (by decide), qs_zero.mono (by decide)⟩
theorem comL_qs3 (L : List Int) (tol m : Int) (i : Nat) : QS3 (comL L tol m i) := by
  intro j
  rcases Nat.lt_or_ge j (comL L tol m i).length with hj | hj
  · exact comL_qs (i := i) (x := (comL L tol m i).getD j (0, 0)) (by
      rw [List.getD_eq_getElem?_getD, List.getElem?_eq_getElem hj]; exact List.getElem_mem hj)
  · rw [List.getD_eq_getElem?_getD, List.getElem?_eq_none hj]
    exact ⟨qs_zero.mono (by decide), qs_zero.mono (by decide)⟩
theorem comL_len2 {L : List Int} {tol m : Int} (hc : chkE L = 0) (hl : limE tol m = 0) {i : Nat} (hi : i < L.length) : (comL L tol m i).length ≤ 1536 := by
  obtain ⟨h64, hw⟩ := chkE_zero hc
  have := comL_len hw (limE_zero.1 hl) hi
  omega
theorem comR_len (L : List Int) (tol m : Int) : (comR L tol m).length ≤ 1536 := by
  by_cases h : comE L tol m = 0
  · rw [comR_ok h]
    obtain ⟨h1, h2, h3⟩ := comE_zero h
    exact comL_len2 h1 h2 (by omega)
  · rw [comR_no h]; exact Nat.zero_le _
theorem getD_drop1 (L : List Int) (i : Nat) : (L.drop 1).getD i 0 = L.getD (i + 1) 0 := by
  rw [List.getD_eq_getElem?_getD, List.getD_eq_getElem?_getD, List.getElem?_drop, Nat.add_comm]
theorem comL_next {L : List Int} {tol m : Int} {i : Nat} {r s : List Se} {X : List (Rat × Rat)} (hr : r.map Se.qq = comL L tol m i) (hs : s.map Se.qq = spL (L.getD (i + 1) 0) tol m) (h : X = meetL (r.map Se.qq) (s.map Se.qq) r.length) : X = comL L tol m (i + 1) := by
  rw [comL, ← hr, ← hs, List.length_map]; exact h
end Go.Fw
