/- Chapter 48: the laws of concordances. Plain. -/
import Derived.Test.YthaepkealhkkmaaCcC
namespace Go.Fw
open Go Go.RowKit

theorem lukR_len (l : List Pr) (n : Int) : (lukR l n).length ≤ 128 := by
  by_cases h : validC l
  · rw [lukR_ok h]; have := lukL_len l n l.length; have := h.2; omega
  · rw [lukR_no h]; exact Nat.zero_le _
theorem asc_invR (l : List Pr) : Asc (invR l) := by
  by_cases h : validC l
  · rw [invR_ok h]; exact asc_srt _
  · rw [invR_no h]; exact List.Pairwise.nil
theorem inv_inv {l : List Pr} (h : validC l) : invR (invR l) = l := Asc.ext (asc_invR _) h.asc fun x => by
  rw [mem_invR (valid_inv h), mem_invR h]
theorem exB_inv {l : List Pr} (h : validC l) : exB (invR l) = exB l := by
  unfold exB
  rw [lumR_ok (valid_inv h), inv_inv h, lumR_ok h]
  exact decide_eq_decide.2 ⟨fun e => ⟨h, e.2.2, e.2.1⟩, fun e => ⟨valid_inv h, e.2.2, e.2.1⟩⟩
theorem sort_congr {a b : List Pr} (h : ∀ x, x ∈ a ↔ x ∈ b) : sortR a = sortR b ∧ sortE a = sortE b := by
  have := srt_congr h
  unfold sortR sortE
  rw [this]; exact ⟨rfl, rfl⟩
theorem both_swap (l m : List Pr) : bothR m l (m ++ l) = bothR l m (l ++ m) ∧ bothE m l (m ++ l) = bothE l m (l ++ m) := by
  have hc := sort_congr (a := m ++ l) (b := l ++ m) (fun x => by rw [List.mem_append, List.mem_append]; exact Or.comm)
  unfold bothR bothE
  rw [hc.1, hc.2]
  by_cases h : validC l ∧ validC m
  · rw [if_pos h, if_pos h.symm, if_pos h, if_pos h.symm]; exact ⟨rfl, rfl⟩
  · rw [if_neg h, if_neg h, if_neg (fun e => h e.symm), if_neg (fun e => h e.symm)]; exact ⟨rfl, rfl⟩
theorem both_len (l m R : List Pr) : (bothR l m R).length ≤ 128 := by
  unfold bothR; split
  · exact sort_len _
  · exact Nat.zero_le _
/-! ## Compositions -/
abbrev coR (l m : List Pr) : List Pr := bothR l m (cmpL l m l.length)
abbrev coE (l m : List Pr) : Int := bothE l m (cmpL l m l.length)
theorem co_ok {l m : List Pr} (h : coE l m = 0) : validC l ∧ validC m ∧ coR l m = srt (cmpL l m l.length) ∧ (srt (cmpL l m l.length)).length ≤ 128 := by
  unfold coE bothE at h
  by_cases hv : validC l ∧ validC m
  · rw [if_pos hv] at h
    unfold sortE at h
    by_cases hl : (srt (cmpL l m l.length)).length ≤ 128
    · exact ⟨hv.1, hv.2, by rw [coR, (both_ok hv).1, (sortR_ok hl).1], hl⟩
    · rw [if_neg hl] at h; exact absurd h (by decide)
  · rw [if_neg hv] at h; exact absurd h (by decide)
theorem co_no {l m : List Pr} (h : coE l m ≠ 0) : coR l m = [] := by
  unfold coR bothR
  unfold coE bothE at h
  by_cases hv : validC l ∧ validC m
  · rw [if_pos hv] at h
    unfold sortE at h
    unfold sortR
    rw [if_pos hv]
    by_cases hl : (srt (cmpL l m l.length)).length ≤ 128
    · rw [if_pos hl] at h; exact absurd rfl h
    · rw [if_neg hl]
  · rw [if_neg hv]
theorem mem_co {l m : List Pr} (h : coE l m = 0) {x : Pr} : x ∈ coR l m ↔ ∃ b, (x.1, b) ∈ l ∧ (b, x.2) ∈ m := by
  rw [(co_ok h).2.2.1, mem_srt, mem_cmp]
theorem valid_co {l m : List Pr} (h : coE l m = 0) : validC (coR l m) := by
  obtain ⟨hl, hm, he, hn⟩ := co_ok h
  rw [he]
  refine validC_of (asc_srt _) (fun x hx => ?_) hn
  rw [mem_srt, mem_cmp] at hx
  obtain ⟨b, h1, h2⟩ := hx
  exact ⟨(hl.num h1).1, (hm.num h2).2⟩
theorem co_assoc {l m k : List Pr} (h1 : coE l m = 0) (h2 : coE m k = 0) : coR (coR l m) k = coR l (coR m k) ∧ coE (coR l m) k = coE l (coR m k) := by
  have ha : validC (coR l m) ∧ validC k := ⟨valid_co h1, (co_ok h2).2.1⟩
  have hb : validC l ∧ validC (coR m k) := ⟨(co_ok h1).1, valid_co h2⟩
  have hc := sort_congr (a := cmpL (coR l m) k (coR l m).length) (b := cmpL l (coR m k) l.length) (fun x => by
    rw [mem_cmp, mem_cmp]
    constructor
    · rintro ⟨b, hx, hy⟩
      rw [mem_co h1] at hx
      obtain ⟨a, h3, h4⟩ := hx
      exact ⟨a, h3, (mem_co h2).2 ⟨b, h4, hy⟩⟩
    · rintro ⟨b, hx, hy⟩
      rw [mem_co h2] at hy
      obtain ⟨a, h3, h4⟩ := hy
      exact ⟨a, (mem_co h1).2 ⟨b, hx, h3⟩, h4⟩)
  exact ⟨(both_ok ha).1.trans (hc.1.trans (both_ok hb).1.symm), (both_ok ha).2.trans (hc.2.trans (both_ok hb).2.symm)⟩
theorem co_inv {l m : List Pr} (h : coE l m = 0) : coR (invR m) (invR l) = invR (coR l m) ∧ coE (invR m) (invR l) = 0 := by
  obtain ⟨hl, hm, he, hn⟩ := co_ok h
  have hv : validC (invR m) ∧ validC (invR l) := ⟨valid_inv hm, valid_inv hl⟩
  have hs : srt (cmpL (invR m) (invR l) (invR m).length) = invR (coR l m) := srt_eq (asc_invR _) fun x => by
    rw [mem_invR (valid_co h), mem_co h, mem_cmp]
    constructor
    · rintro ⟨b, h1, h2⟩; exact ⟨b, (mem_invR hm).2 h2, (mem_invR hl).2 h1⟩
    · rintro ⟨b, h1, h2⟩; exact ⟨b, (mem_invR hl).1 h2, (mem_invR hm).1 h1⟩
  have hlen : (srt (cmpL (invR m) (invR l) (invR m).length)).length ≤ 128 := by rw [hs]; exact invR_len _
  exact ⟨by rw [coR, (both_ok hv).1, (sortR_ok hlen).1, hs], by rw [coE, (both_ok hv).2, (sortR_ok hlen).2]⟩
/-! ## Where a number leads -/
theorem mem_lukL {l : List Pr} {n x : Int} : ∀ {i : Nat}, i ≤ l.length → (x ∈ lukL l n i ↔ ∃ j, j < i ∧ l.getD j dP = (n, x))
  | 0, _ => by simp [lukL]
  | i + 1, hi => by
    have ih := mem_lukL (l := l) (n := n) (x := x) (i := i) (by omega)
    rw [lukL]
    split
    · rename_i h
      rw [List.mem_append, ih, List.mem_singleton]
      constructor
      · rintro (⟨j, hj, e⟩ | e)
        · exact ⟨j, by omega, e⟩
        · exact ⟨i, by omega, Prod.ext h e.symm⟩
      · rintro ⟨j, hj, e⟩
        by_cases hji : j = i
        · subst hji; exact .inr (congrArg Prod.snd e).symm
        · exact .inl ⟨j, by omega, e⟩
    · rename_i h
      rw [ih]
      constructor
      · rintro ⟨j, hj, e⟩; exact ⟨j, by omega, e⟩
      · rintro ⟨j, hj, e⟩
        by_cases hji : j = i
        · subst hji; exact absurd (congrArg Prod.fst e) h
        · exact ⟨j, by omega, e⟩
theorem mem_lukR {l : List Pr} (h : validC l) {n x : Int} : x ∈ lukR l n ↔ (n, x) ∈ l := by
  rw [lukR_ok h, mem_lukL (Nat.le_refl _)]
  constructor
  · rintro ⟨j, hj, e⟩; rw [← e]; exact getD_mem2 hj
  · intro hx
    obtain ⟨j, hj, e⟩ := List.mem_iff_getElem.1 hx
    exact ⟨j, hj, by rw [List.getD_eq_getElem?_getD, List.getElem?_eq_getElem hj]; exact e⟩
theorem asc_lukL {l : List Pr} (h : Asc l) {n : Int} : ∀ {i : Nat}, i ≤ l.length → AscI (lukL l n i)
  | 0, _ => List.Pairwise.nil
  | i + 1, hi => by
    have ih := asc_lukL h (n := n) (i := i) (by omega)
    rw [lukL]
    split
    · rename_i hn
      refine List.pairwise_append.2 ⟨ih, List.pairwise_singleton _ _, fun x hx y hy => ?_⟩
      obtain rfl := List.mem_singleton.1 hy
      obtain ⟨j, hj, e⟩ := (mem_lukL (by omega)).1 hx
      have := List.pairwise_iff_getElem.1 h j i (by omega) (by omega) hj
      have e1 : l[j] = (n, x) := by rw [← e, List.getD_eq_getElem?_getD, List.getElem?_eq_getElem (by omega)]; rfl
      have e2 : l[i] = l.getD i dP := by rw [List.getD_eq_getElem?_getD, List.getElem?_eq_getElem (by omega)]; rfl
      rw [e1, e2] at this
      rcases this with h1 | h1
      · simp only at h1; omega
      · exact h1.2
    · exact ih
theorem asc_lukR (l : List Pr) (n : Int) : AscI (lukR l n) := by
  by_cases h : validC l
  · rw [lukR_ok h]; exact asc_lukL h.asc (Nat.le_refl _)
  · rw [lukR_no h]; exact List.Pairwise.nil
theorem ascI_getD {L : List Int} (h : AscI L) {i : Nat} (h0 : 0 < i) (hi : i < L.length) : L.getD (i - 1) 0 < L.getD i 0 := by
  have := List.pairwise_iff_getElem.1 h (i - 1) i (by omega) hi (by omega)
  rw [List.getD_eq_getElem?_getD, List.getD_eq_getElem?_getD, List.getElem?_eq_getElem hi, List.getElem?_eq_getElem (by omega)]
  exact this
/-- Where the numbers of a list lead. -/
def allL (m : List Pr) (L : List Int) : Nat → List Int
  | 0 => []
  | i + 1 => allL m L i ++ lukR m (L.getD i 0)
theorem allL_len (m : List Pr) (L : List Int) : ∀ i, (allL m L i).length ≤ i * 128
  | 0 => Nat.le_refl _
  | i + 1 => by
    have := allL_len m L i
    have := lukR_len m (L.getD i 0)
    rw [allL, List.length_append]; omega
theorem mem_allL {m : List Pr} {L : List Int} {x : Int} : ∀ {i : Nat}, x ∈ allL m L i ↔ ∃ j, j < i ∧ x ∈ lukR m (L.getD j 0)
  | 0 => by simp [allL]
  | i + 1 => by
    have ih := mem_allL (m := m) (L := L) (x := x) (i := i)
    rw [allL, List.mem_append, ih]
    constructor
    · rintro (⟨j, hj, e⟩ | e)
      · exact ⟨j, by omega, e⟩
      · exact ⟨i, by omega, e⟩
    · rintro ⟨j, hj, e⟩
      by_cases hji : j = i
      · subst hji; exact .inr e
      · exact .inl ⟨j, by omega, e⟩
theorem leads {l m : List Pr} (h : coE l m = 0) {n x : Int} : x ∈ lukR (coR l m) n ↔ x ∈ allL m (lukR l n) (lukR l n).length := by
  obtain ⟨hl, hm, _, _⟩ := co_ok h
  rw [mem_lukR (valid_co h), mem_co h, mem_allL]
  constructor
  · rintro ⟨b, h1, h2⟩
    have hb := (mem_lukR hl).2 h1
    obtain ⟨j, hj, e⟩ := List.mem_iff_getElem.1 hb
    refine ⟨j, hj, ?_⟩
    rw [List.getD_eq_getElem?_getD, List.getElem?_eq_getElem hj]
    show x ∈ lukR m (lukR l n)[j]
    rw [e]; exact (mem_lukR hm).2 h2
  · rintro ⟨j, hj, hx⟩
    exact ⟨_, (mem_lukR hl).1 (getD_memI hj), (mem_lukR hm).1 hx⟩
theorem co_valE {l m : List Pr} (h : coE l m = 0) : valE l = 0 ∧ valE m = 0 ∧ valE (coR l m) = 0 := ⟨valE_ok (co_ok h).1, valE_ok (co_ok h).2.1, valE_ok (valid_co h)⟩
end Go.Fw
