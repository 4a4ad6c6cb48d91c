/- Chapter 38: what Common has is what the Score says; what it has stays with wider terms. Plain. -/
import Derived.Test.YtgnljjdcbfijnaaDoorStdM
import Derived.Test.YtgnljjdcbfijnaaDoorStdH
namespace Go.Fw
open Go Go.RowKit Go.Nat9

section
variable {L : List Int} {tol m : Int} {q : Rat}
theorem comE_7 (h : comE L tol m = 7) : L.length = 0 := by
  unfold comE at h
  split at h
  · rename_i h1
    exfalso
    unfold chkE at h
    split at h
    · cases h
    · split at h <;> cases h
  · split at h
    · cases h
    · split at h
      · assumption
      · cases h
theorem comR_in (he : comE L tol m = 0) (hq : 0 < q) : inS (comR L tol m) q = true ↔ ∀ k, k < L.length → fits38 (L.getD k 0) q tol m = true := by
  obtain ⟨h1, h2, h3⟩ := comE_zero he
  obtain ⟨_, hw⟩ := chkE_zero h1
  rw [comR_ok he, comL_in hw (limE_zero.1 h2) hq (i := L.length - 1) (by omega)]
  exact ⟨fun h k hk => h k (by omega), fun h k hk => h k (by omega)⟩
theorem all_score (he : comE L tol m = 0) (hq : 0 < q) : scoE L q tol m = 0 ∧ inS (comR L tol m) q = decide (scoK L q tol m = ((L.length : Nat) : Int)) := by
  obtain ⟨h1, h2, h3⟩ := comE_zero he
  have hs : scoE L q tol m = 0 := by rw [scoE_lim (fun e => e h1) hq]; exact h2
  refine ⟨hs, ?_⟩
  rw [scoK_ok hs]
  have e : inS (comR L tol m) q = true ↔ scoN L q tol m L.length = ((L.length : Nat) : Int) := (comR_in he hq).trans scoN_all.symm
  cases hb : inS (comR L tol m) q with
  | true => rw [decide_eq_true (e.1 hb)]
  | false => rw [decide_eq_false (fun h => by rw [e.2 h] at hb; cases hb)]
theorem all_unit (he : comE L tol m = 0) (hq : ¬ 0 < q) : scoE L q tol m = 1 := scoE_unit (fun e => e (comE_zero he).1) hq
theorem com_apart (he : comE L tol m = 0) {l : List Se} (hl : l.map Se.qq = comR L tol m) : (∀ j, j < l.length → (l.getD j dS).lo.q ≤ (l.getD j dS).hi.q) ∧ (∀ j, j + 1 < l.length → (l.getD j dS).hi.q < (l.getD (j + 1) dS).lo.q) := by
  obtain ⟨h1, h2, h3⟩ := comE_zero he
  obtain ⟨_, hw⟩ := chkE_zero h1
  rw [comR_ok he] at hl
  have hn : (comL L tol m (L.length - 1)).length = l.length := by rw [← hl, List.length_map]
  refine ⟨fun j hj => ?_, fun j hj => ?_⟩
  · have := comL_ne hw (limE_zero.1 h2) (i := L.length - 1) (by omega) j (by omega)
    rw [← hl, qq_getD] at this
    exact this
  · have := comL_ord hw (limE_zero.1 h2) (i := L.length - 1) (by omega) j (j + 1) (by omega) (by omega)
    rw [← hl, qq_getD, qq_getD] at this
    exact this
theorem comL_pos (hw : ∀ k, k < L.length → wOk (L.getD k 0)) (hl : limOk tol m) : ∀ {i : Nat}, i < L.length → ∀ x ∈ comL L tol m i, 0 < x.1
  | 0, h, x, hx => by
    obtain ⟨j, hj, rfl⟩ := List.mem_iff_getElem.1 hx
    have hj' : j < (spL (L.getD 0 0) tol m).length := hj
    have := ((spL_si (spE_all (hw 0 h) hl)).1.el j hj').1
    rw [List.getD_eq_getElem?_getD, List.getElem?_eq_getElem hj'] at this
    exact this
  | i + 1, h, x, hx => by
    rw [comL, meetL_mem] at hx
    obtain ⟨k, hk, n, _, hm⟩ := hx
    have h1 := (meet1_mem hm).1.1
    have h2 := comL_pos hw hl (i := i) (by omega) ((comL L tol m i).getD k (0, 0)) (by
      rw [List.getD_eq_getElem?_getD, List.getElem?_eq_getElem hk]; exact List.getElem_mem hk)
    exact lt_le h2 h1
theorem fits_mono {w tol' m' : Int} (hw : wOk w) (hl : limOk tol m) (hl' : limOk tol' m') (ht : tol ≤ tol') (hm : m ≤ m') (hq : 0 < q) (h : fits38 w q tol m = true) : fits38 w q tol' m' = true := by
  rw [fits_iff hw hl hq] at h
  rw [fits_iff hw hl' hq]
  obtain ⟨k, h1, h2, h3, h4⟩ := h
  refine ⟨k, h1, by omega, Rat.le_trans ?_ h3, Rat.le_trans h4 ?_⟩
  · refine ofq_le h1 h1 (Int.mul_le_mul_of_nonneg_right ?_ (by omega))
    unfold mxo
    split <;> split <;> omega
  · exact ofq_le h1 h1 (Int.mul_le_mul_of_nonneg_right (by omega) (by omega))
theorem more_in {tol' m' : Int} (he : comE L tol m = 0) (he' : comE L tol' m' = 0) (ht : tol ≤ tol') (hm : m ≤ m') (hq : 0 < q) (h : inS (comR L tol m) q = true) : inS (comR L tol' m') q = true := by
  obtain ⟨h1, h2, h3⟩ := comE_zero he
  obtain ⟨_, hw⟩ := chkE_zero h1
  rw [comR_in he hq] at h
  rw [comR_in he' hq]
  exact fun k hk => fits_mono (hw k hk) (limE_zero.1 h2) (limE_zero.1 (comE_zero he').2.1) ht hm hq (h k hk)
theorem less_in (he : comE L tol m = 0) (he' : comE (L.drop 1) tol m = 0) (hq : 0 < q) (h : inS (comR L tol m) q = true) : inS (comR (L.drop 1) tol m) q = true := by
  rw [comR_in he hq] at h
  rw [comR_in he' hq]
  intro k hk
  rw [List.length_drop] at hk
  rw [getD_drop1]
  exact h (k + 1) (by omega)
theorem badW_no (hw : ∀ k, k < L.length → wOk (L.getD k 0)) : ¬ badW L = true := badW_miss hw
theorem comE_wide {tol' m' : Int} (he : comE L tol m = 0) (h : limOk tol' m') : comE L tol' m' = 0 := by
  obtain ⟨h1, h2, h3⟩ := comE_zero he
  exact comE_ok h1 (limE_ok h) h3
theorem comE_less (he : comE L tol m = 0) (h : 2 ≤ L.length) : comE (L.drop 1) tol m = 0 := by
  obtain ⟨h1, h2, h3⟩ := comE_zero he
  obtain ⟨h64, hw⟩ := chkE_zero h1
  refine comE_ok (chkE_ok (by rw [List.length_drop]; omega) (badW_no fun k hk => ?_)) h2 (by rw [List.length_drop]; omega)
  rw [List.length_drop] at hk
  rw [getD_drop1]
  exact hw (k + 1) (by omega)
/-- A span of Common, its ends and its middle. -/
theorem com_span (he : comE L tol m = 0) {l : List Se} (hl : l.map Se.qq = comR L tol m) {i : Nat} (hi : i < l.length) :
    let a := (l.getD i dS).lo.q
    let b := (l.getD i dS).hi.q
    let z := (a + b) * ofq 1 2
    ∀ u, (u = a ∨ u = z ∨ u = b) → 0 < u ∧ inS (comR L tol m) u = true := by
  intro a b z
  obtain ⟨h1, h2, h3⟩ := comE_zero he
  obtain ⟨_, hw⟩ := chkE_zero h1
  have hab : a ≤ b := (com_apart he hl).1 i hi
  have hmem : (a, b) ∈ comR L tol m := by
    rw [← hl, List.mem_map]
    refine ⟨l.getD i dS, ?_, rfl⟩
    rw [List.getD_eq_getElem?_getD, List.getElem?_eq_getElem hi]; exact List.getElem_mem hi
  have ha : 0 < a := by
    have hm := hmem
    rw [comR_ok he] at hm
    exact comL_pos hw (limE_zero.1 h2) (i := L.length - 1) (by omega) (a, b) hm
  have hz : z = (a + b) / 2 := by
    show (a + b) * ofq 1 2 = _
    rw [ofq_eq]
    show (a + b) * ((1 : Rat) / 2) = _
    grind
  have hin : ∀ u, a ≤ u → u ≤ b → 0 < u ∧ inS (comR L tol m) u = true := fun u h1 h2 => ⟨lt_le ha h1, inS_mem.2 ⟨(a, b), hmem, h1, h2⟩⟩
  rintro u (rfl | rfl | rfl)
  · exact hin _ Rat.le_refl hab
  · exact hin _ (by grind) (by grind)
  · exact hin _ hab Rat.le_refl
end
section
variable {P : Program} {Q : Exit → Act → World → Prop} {w0 : Ctx} {σ : List Res} {φ : List (Bool × VP)} {fr : Fr} {c : Code}
theorem JC_fes3 (x y z : Fe) (h1 : (true, vCells x.ad (u32s (fnum (some x.q)))) ∈ φ) (h2 : (true, vCells x.be (u32s (fden (some x.q)))) ∈ φ) (h3 : (true, vCells y.ad (u32s (fnum (some y.q)))) ∈ φ) (h4 : (true, vCells y.be (u32s (fden (some y.q)))) ∈ φ) (h5 : (true, vCells z.ad (u32s (fnum (some z.q)))) ∈ φ) (h6 : (true, vCells z.be (u32s (fden (some z.q)))) ∈ φ)
    (k : JC P c Q w0 σ ((true, vFes [x, y, z]) :: φ) fr) : JC P c Q w0 σ φ fr := by
  refine JC_addView (f := true) (p := vFes [x, y, z]) (fun w s u hu => ?_) k
  simp only [List.mem_cons, List.not_mem_nil, or_false] at hu
  rcases hu with rfl | rfl | rfl
  · exact ⟨s.views _ h1, s.views _ h2⟩
  · exact ⟨s.views _ h3, s.views _ h4⟩
  · exact ⟨s.views _ h5, s.views _ h6⟩
end
theorem fes3_get (x y z : Fe) {j : Nat} (h : j < 3) : ([x, y, z].getD j dF = x ∨ [x, y, z].getD j dF = y ∨ [x, y, z].getD j dF = z) ∧ [x, y, z].getD j dF ∈ [x, y, z] := by
  rcases (show j = 0 ∨ j = 1 ∨ j = 2 by omega) with rfl | rfl | rfl
  · exact ⟨.inl rfl, by simp⟩
  · exact ⟨.inr (.inl rfl), by simp⟩
  · exact ⟨.inr (.inr rfl), by simp⟩
end Go.Fw
