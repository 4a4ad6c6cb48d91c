/- Chapter 28: a row is refused just where no order has it besides the accepted ones. Plain. -/
import Derived.Test.YtjkbamfcoiikmaaGreatDoorPqZe
import Derived.Test.YtjkbamfcoiikmaaGreatDoorPqZu
namespace Go.Fw.Pq
open Go Go.RowKit Go.Fw
theorem getD_snoc {A : List Rw} {r : Rw} {i : Nat} (h : i < A.length) : (A ++ [r]).getD i dR = A.getD i dR := by
  rw [List.getD_eq_getElem?_getD, List.getElem?_append_left h, ← List.getD_eq_getElem?_getD]
theorem getD_snoc_last (A : List Rw) (r : Rw) : (A ++ [r]).getD A.length dR = r := by
  rw [List.getD_eq_getElem?_getD, List.getElem?_append_right (Nat.le_refl _), Nat.sub_self]; rfl
theorem pos_snoc {n : Nat} (hn : 0 < n) {l : List Rw} {t : PT} {W : List (List Int)} (hT : (t, W) = bT n (Rls l)) (r : Rw) : posP n ((accS n l).2 ++ [r]) ↔ ascR r.L n ∧ ∃ p, Fr t p ∧ Con (nr r.L) p := by
  obtain ⟨h1, h2⟩ := accS_ord hn l
  have e : (accS n l).1 = t := by rw [accS_bT, ← hT]
  rw [e] at h1
  rw [pos_iff]
  have hlen : ((accS n l).2 ++ [r]).length = (accS n l).2.length + 1 := by rw [List.length_append]; rfl
  have hv : valR n ((accS n l).2 ++ [r]) ↔ ascR r.L n := by
    constructor
    · intro h
      have := h (accS n l).2.length (by omega)
      rwa [getD_snoc_last] at this
    · intro h i hi
      rcases Nat.lt_or_ge i (accS n l).2.length with hi2 | hi2
      · rw [getD_snoc hi2]; exact h2 _ (rw_mem hi2)
      · obtain rfl : i = (accS n l).2.length := by omega
        rw [getD_snoc_last]; exact h
  rw [hv]
  refine and_congr_right fun _ => exists_congr fun p => ?_
  rw [h1.fr]
  constructor
  · rintro ⟨hp, h⟩
    refine ⟨⟨hp, fun x hx => ?_⟩, ?_⟩
    · obtain ⟨y, hy, rfl⟩ := List.mem_map.1 hx
      obtain ⟨j, hj, rfl⟩ := getDR_mem hy
      have := h j (by omega)
      rwa [getD_snoc hj] at this
    · have := h (accS n l).2.length (by omega)
      rwa [getD_snoc_last] at this
  · rintro ⟨⟨hp, h⟩, hr⟩
    refine ⟨hp, fun i hi => ?_⟩
    rcases Nat.lt_or_ge i (accS n l).2.length with hi2 | hi2
    · rw [getD_snoc hi2]; exact h _ (List.mem_map.2 ⟨_, rw_mem hi2, rfl⟩)
    · obtain rfl : i = (accS n l).2.length := by omega
      rw [getD_snoc_last]; exact hr
/-- What the statement on conflicts asks. -/
theorem conf_cases {n : Nat} (hn : 0 < n) {l : List Rw} {t : PT} {W : List (List Int)} (hT : (t, W) = bT n (Rls l)) (r : Rw) :
    (¬ ascR r.L n ∧ redE n t r.L = 1 ∧ redT n t r.L = t ∧ ¬ posP n ((accS n l).2 ++ [r])) ∨ (ascR r.L n ∧ redE n t r.L = 10 ∧ redT n t r.L = t ∧ ¬ posP n ((accS n l).2 ++ [r])) ∨
    (ascR r.L n ∧ redE n t r.L = 0 ∧ posP n ((accS n l).2 ++ [r]) ∧ cntT (redT n t r.L) ≤ cntT t ∧ (∀ r' : Rw, r'.L = r.L → gapS [r'] (zs (fstT (redT n t r.L))) [r'].length = 0) ∧ (fstT (redT n t r.L)).Perm (List.range n)) := by
  have h1 := (bT_ord hn (Rls l)).1
  rw [← hT] at h1
  have h1 : OrdOf n t (W.map nr) := h1
  have hp := pos_snoc hn hT r
  by_cases ha : ascR r.L n
  · refine .inr ?_
    cases e : redR (nr r.L) t with
    | none =>
      refine .inl ⟨ha, by unfold redE; rw [if_pos ha, e], by unfold redT; rw [if_pos ha, e]; rfl, fun h => ?_⟩
      obtain ⟨_, p, hf, hc⟩ := hp.1 h
      obtain ⟨t', e2, _⟩ := (redR_ok h1.tn (nr_lt ha) p).1 ⟨hf, hc⟩
      rw [e] at e2; cases e2
    | some t' =>
      have eT := redT_of ha e
      have h2 := h1.step (nr_lt ha) e
      have hfst := (fst_least h2.tn.ok h2.tn.nodup).1
      have hF := (redR_ok h1.tn (nr_lt ha) (fstT t')).2 ⟨t', e, hfst⟩
      refine .inr ⟨ha, redE_of ha e, hp.2 ⟨ha, _, hF.1, hF.2⟩, ?_, ?_, ?_⟩
      · rw [eT]
        exact cnt_le h2.tn.ok h2.tn.nodup fun p hp => ((redR_ok h1.tn (nr_lt ha) p).2 ⟨t', e, hp⟩).1
      · intro r' er
        rw [eT]
        refine (gapS_one (n := n) (by rw [er]; exact ha)).2 ?_
        rw [er]; exact hF.2
      · rw [eT]; exact ((h2.fr _).1 hfst).1
  · obtain ⟨e1, e2, _⟩ := red_bad (t := t) (W := W) ha
    exact .inl ⟨ha, e1, e2, fun h => ha (hp.1 h).1⟩
end Go.Fw.Pq
