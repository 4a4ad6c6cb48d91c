/- Chapter 38: common units: the fold over the weights. Plain. -/
import Derived.Test.YtgnljjdcbfijnaaDoorStdK
namespace Go.Fw
open Go Go.RowKit Go.Nat9

def comL (L : List Int) (tol m : Int) : Nat → List (Rat × Rat)
  | 0 => spL (L.getD 0 0) tol m
  | i + 1 => meetL (comL L tol m i) (spL (L.getD (i + 1) 0) tol m) (comL L tol m i).length
def comE (L : List Int) (tol m : Int) : Int := if chkE L ≠ 0 then chkE L else if limE tol m ≠ 0 then 2 else if L.length = 0 then 7 else 0
theorem spE_all {w tol m : Int} (hw : wOk w) (hl : limOk tol m) : spE w tol m = 0 := by rw [spE_lim hw]; exact limE_ok hl
theorem comL_ord {L : List Int} {tol m : Int} (hw : ∀ k, k < L.length → wOk (L.getD k 0)) (hl : limOk tol m) : ∀ {i : Nat}, i < L.length → OrdX (comL L tol m i)
  | 0, h => (spL_si (spE_all (hw 0 h) hl)).1.ordX
  | i + 1, h => (meetL_ord (comL_ord hw hl (i := i) (by omega)) (spL_si (spE_all (hw (i + 1) h) hl)).1.ordX (Nat.le_refl _)).ordX
theorem comL_in {L : List Int} {tol m : Int} {q : Rat} (hw : ∀ k, k < L.length → wOk (L.getD k 0)) (hl : limOk tol m) (hq : 0 < q) : ∀ {i : Nat}, i < L.length → (inS (comL L tol m i) q = true ↔ ∀ k, k ≤ i → fits38 (L.getD k 0) q tol m = true)
  | 0, h => by
    have e := fits38_ok (spE_all (hw 0 h) hl) hq
    constructor
    · intro hi k hk
      obtain rfl : k = 0 := by omega
      rw [e]; exact hi
    · intro hi; have := hi 0 (Nat.le_refl _); rw [e] at this; exact this
  | i + 1, h => by
    have e := fits38_ok (spE_all (hw (i + 1) h) hl) hq
    have ih := comL_in hw hl hq (i := i) (by omega)
    rw [comL, meetL_in, Bool.and_eq_true, ih, ← e]
    constructor
    · rintro ⟨h1, h2⟩ k hk
      by_cases hki : k = i + 1
      · subst hki; exact h2
      · exact h1 k (by omega)
    · intro h1; exact ⟨fun k hk => h1 k (by omega), h1 (i + 1) (Nat.le_refl _)⟩
theorem comL_qs {L : List Int} {tol m : Int} : ∀ {i : Nat} {x : Rat × Rat}, x ∈ comL L tol m i → qs x.1 3 ∧ qs x.2 3
  | 0, x, h => by
    have h : x ∈ spL (L.getD 0 0) tol m := h
    obtain ⟨j, hj, rfl⟩ := List.mem_iff_getElem.1 h
    have e := qs_spL (L.getD 0 0) tol m j
    rw [List.getD_eq_getElem?_getD, List.getElem?_eq_getElem hj] at e
    exact e
  | i + 1, x, h => by
    obtain ⟨k, hk, n, hn, hm⟩ := meetL_mem.1 h
    have hA : ((comL L tol m i).getD k (0, 0)) ∈ comL L tol m i := by
      rw [List.getD_eq_getElem?_getD, List.getElem?_eq_getElem hk]; exact List.getElem_mem hk
    have h1 := comL_qs (i := i) hA
    have h2 := qs_spL (L.getD (i + 1) 0) tol m n
    by_cases hc : (if ((comL L tol m i).getD k (0, 0)).1 < ((spL (L.getD (i + 1) 0) tol m).getD n (0, 0)).1 then ((spL (L.getD (i + 1) 0) tol m).getD n (0, 0)).1 else ((comL L tol m i).getD k (0, 0)).1) ≤ (if ((spL (L.getD (i + 1) 0) tol m).getD n (0, 0)).2 < ((comL L tol m i).getD k (0, 0)).2 then ((spL (L.getD (i + 1) 0) tol m).getD n (0, 0)).2 else ((comL L tol m i).getD k (0, 0)).2)
    · rw [meet1_yes rfl rfl hc, List.mem_singleton] at hm
      subst hm
      refine ⟨?_, ?_⟩
      · show qs (if _ then _ else _) 3
        split
        · exact h2.1
        · exact h1.1
      · show qs (if _ then _ else _) 3
        split
        · exact h2.2
        · exact h1.2
    · rw [meet1_no rfl rfl hc] at hm; cases hm
/-- of two ordered lists at most as many spans meet as both have -/
def cnt (B : List (Rat × Rat)) (t : Rat) : Nat → Nat
  | 0 => 0
  | j + 1 => if (B.getD j (0, 0)).1 ≤ t then cnt B t j + 1 else cnt B t j
theorem cnt_le (B : List (Rat × Rat)) (t : Rat) : ∀ j, cnt B t j ≤ j
  | 0 => Nat.le_refl _
  | j + 1 => by have := cnt_le B t j; rw [cnt]; split <;> omega
def flg (B : List (Rat × Rat)) (a t : Rat) : Nat → Nat
  | 0 => 0
  | j + 1 => if (B.getD j (0, 0)).1 ≤ t ∧ a ≤ (B.getD j (0, 0)).2 then 1 else flg B a t j
theorem flg_le (B : List (Rat × Rat)) (a t : Rat) : ∀ j, flg B a t j ≤ 1
  | 0 => Nat.zero_le _
  | j + 1 => by have := flg_le B a t j; rw [flg]; split <;> omega
theorem flg_one {B : List (Rat × Rat)} {a t : Rat} : ∀ {j : Nat}, flg B a t j ≠ 0 → ∃ k, k < j ∧ a ≤ (B.getD k (0, 0)).2
  | 0, h => absurd rfl h
  | j + 1, h => by
    rw [flg] at h
    split at h
    · rename_i e; exact ⟨j, by omega, e.2⟩
    · obtain ⟨k, hk, e⟩ := flg_one h
      exact ⟨k, by omega, e⟩
theorem meetI_cnt {S : List (Rat × Rat)} {a : Rat × Rat} {B : List (Rat × Rat)} {t : Rat} (hB : OrdX B) (ht : t < a.1) (ha : a.1 ≤ a.2) : ∀ {j : Nat}, j ≤ B.length → (meetI S a B j).length + cnt B t j ≤ S.length + cnt B a.2 j + flg B a.1 t j
  | 0, _ => Nat.le_refl _
  | j + 1, hj => by
    have ih := meetI_cnt (S := S) hB ht ha (j := j) (by omega)
    have hl := meet1_len a (B.getD j (0, 0))
    have hf := flg_le B a.1 t j
    rw [meetI, List.length_append, cnt, cnt, flg]
    have hta : t ≤ a.2 := Rat.le_trans (Rat.le_of_lt ht) ha
    by_cases h0 : (meet1 a (B.getD j (0, 0))).length = 0
    · by_cases h1 : (B.getD j (0, 0)).1 ≤ t
      · rw [if_pos h1, if_pos (Rat.le_trans h1 hta)]
        split <;> omega
      · rw [if_neg h1]
        split <;> split <;> omega
    · obtain ⟨x, hx⟩ : ∃ x, x ∈ meet1 a (B.getD j (0, 0)) := List.exists_mem_of_length_pos (by omega)
      obtain ⟨⟨_, b1⟩, ⟨a2, b2⟩, hx2⟩ := meet1_mem hx
      obtain ⟨⟨c1, _⟩, _, _⟩ := meet1_mem hx
      have e1 : (B.getD j (0, 0)).1 ≤ a.2 := Rat.le_trans b1 (Rat.le_trans hx2 a2)
      have e2 : a.1 ≤ (B.getD j (0, 0)).2 := Rat.le_trans c1 (Rat.le_trans hx2 b2)
      rw [if_pos e1]
      by_cases h1 : (B.getD j (0, 0)).1 ≤ t
      · rw [if_pos h1, if_pos ⟨h1, e2⟩]
        have : flg B a.1 t j = 0 := Classical.byContradiction fun e => by
          obtain ⟨k, hk, hk2⟩ := flg_one e
          have h3 := lt_le (hB k j hk (by omega)) h1
          exact absurd h3 (Rat.not_lt.2 (Rat.le_trans (Rat.le_of_lt ht) hk2))
        omega
      · rw [if_neg h1]
        split <;> omega
theorem meetL_cnt {A B : List (Rat × Rat)} (hA : OrdX A) (hA2 : ∀ i, i < A.length → (A.getD i (0, 0)).1 ≤ (A.getD i (0, 0)).2) (hB : OrdX B) : ∀ {i : Nat}, i < A.length → (meetL A B (i + 1)).length ≤ i + 1 + cnt B (A.getD i (0, 0)).2 B.length
  | 0, hi => by
    have h := meetI_cnt (S := []) (a := A.getD 0 (0, 0)) (t := (A.getD 0 (0, 0)).1 - 1) hB (by grind) (hA2 0 hi) (Nat.le_refl _)
    have hf := flg_le B (A.getD 0 (0, 0)).1 ((A.getD 0 (0, 0)).1 - 1) B.length
    rw [meetL]
    show (meetI [] (A.getD 0 (0, 0)) B B.length).length ≤ _
    rw [List.length_nil] at h
    omega
  | i + 1, hi => by
    have ih := meetL_cnt hA hA2 hB (i := i) (by omega)
    have h := meetI_cnt (S := meetL A B (i + 1)) (a := A.getD (i + 1) (0, 0)) (t := (A.getD i (0, 0)).2) hB (hA i (i + 1) (by omega) hi) (hA2 (i + 1) hi) (Nat.le_refl _)
    have hf := flg_le B (A.getD (i + 1) (0, 0)).1 (A.getD i (0, 0)).2 B.length
    rw [meetL]
    omega
theorem meetL_sum {A B : List (Rat × Rat)} (hA : OrdX A) (hA2 : ∀ i, i < A.length → (A.getD i (0, 0)).1 ≤ (A.getD i (0, 0)).2) (hB : OrdX B) : (meetL A B A.length).length ≤ A.length + B.length := by
  rcases Nat.eq_zero_or_pos A.length with h | h
  · rw [h]; exact Nat.zero_le _
  · have e := meetL_cnt hA hA2 hB (i := A.length - 1) (by omega)
    have c := cnt_le B (A.getD (A.length - 1) (0, 0)).2 B.length
    rw [show A.length - 1 + 1 = A.length from by omega] at e
    omega
theorem comL_ne {L : List Int} {tol m : Int} (hw : ∀ k, k < L.length → wOk (L.getD k 0)) (hl : limOk tol m) : ∀ {i : Nat}, i < L.length → ∀ j, j < (comL L tol m i).length → ((comL L tol m i).getD j (0, 0)).1 ≤ ((comL L tol m i).getD j (0, 0)).2
  | 0, h, j, hj => ((spL_si (spE_all (hw 0 h) hl)).1.el j hj).2.1
  | i + 1, _, j, hj => by
    have hm : ((comL L tol m (i + 1)).getD j (0, 0)) ∈ comL L tol m (i + 1) := by
      rw [List.getD_eq_getElem?_getD, List.getElem?_eq_getElem hj]; exact List.getElem_mem hj
    exact meetL_ne (i := (comL L tol m i).length) hm
theorem comL_len {L : List Int} {tol m : Int} (hw : ∀ k, k < L.length → wOk (L.getD k 0)) (hl : limOk tol m) : ∀ {i : Nat}, i < L.length → (comL L tol m i).length ≤ 24 * (i + 1)
  | 0, _ => spL_len _ _ _
  | i + 1, h => by
    have ih := comL_len hw hl (i := i) (by omega)
    have e := meetL_sum (comL_ord hw hl (i := i) (by omega)) (comL_ne hw hl (i := i) (by omega)) (spL_si (spE_all (hw (i + 1) h) hl)).1.ordX
    have e2 := spL_len (L.getD (i + 1) 0) tol m
    rw [comL]
    omega
end Go.Fw
