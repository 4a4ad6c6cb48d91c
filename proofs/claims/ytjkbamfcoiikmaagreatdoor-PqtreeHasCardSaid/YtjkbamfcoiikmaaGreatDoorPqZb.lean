/- Chapter 28: when a row stands together: by its runs, and by its least and greatest place. Plain. -/
import Derived.Test.YtjkbamfcoiikmaaGreatDoorPqZa
namespace Go.Fw.Pq
open Go Go.RowKit Go.Fw
/-! ## Runs -/
def runF (S : Nat → Bool) : Bool → List Nat → Nat
  | _, [] => 0
  | b, x :: p => (if S x = true ∧ b = false then 1 else 0) + runF S (S x) p
theorem row_mem {R : List Int} {n x : Nat} (ha : ascR R n) : ((x : Int) ∈ R) ↔ rowS (nr R) x = true := by
  unfold rowS nr
  rw [List.contains_iff_mem, List.mem_map]
  constructor
  · exact fun h => ⟨(x : Int), h, by simp⟩
  · rintro ⟨y, hy, e⟩
    obtain ⟨i, hi, rfl⟩ := List.mem_iff_getElem.1 hy
    have := ha i hi
    unfold okA at this
    rw [List.getD_eq_getElem?_getD, List.getElem?_eq_getElem hi] at this
    have h0 : 0 ≤ R[i] := this.1
    have : (x : Int) = R[i] := by omega
    rw [this]; exact hy
/-! ## The least and the greatest place -/
/-- What the first and the last place of a row say of the beginning of an order. -/
def Spl (S : Nat → Bool) (n : Nat) (q : List Nat) (x : Int × Int) : Prop :=
  (x = ((n : Int), -1) ∧ non S q) ∨ ∃ a m c, q = a ++ m ++ c ∧ non S a ∧ non S c ∧ m ≠ [] ∧ (∀ y, m.head? = some y → S y = true) ∧ (∀ y, m.getLast? = some y → S y = true) ∧ x = ((a.length : Int), (a.length + m.length : Int) - 1)
theorem rng_spl {R : List Int} {n : Nat} {p : List Nat} (ha : ascR R n) (hp : p.length ≤ n) : ∀ i, i ≤ p.length → Spl (rowS (nr R)) n (p.take i) (rngR R (zs p) n i)
  | 0, _ => .inl ⟨rfl, by rw [List.take_zero]; exact non_nil⟩
  | i + 1, h => by
    have ih := rng_spl ha hp i (by omega)
    have hx : (zs p).getD i 0 = ((p[i] : Nat) : Int) := by rw [zs_get (by omega), List.getD_eq_getElem?_getD, List.getElem?_eq_getElem (show i < p.length by omega)]; rfl
    have hm := row_mem (x := p[i]) ha
    rw [rngR, hx, List.take_add_one, List.getElem?_eq_getElem (show i < p.length by omega)]
    show Spl _ n (p.take i ++ [p[i]]) _
    have hl : (p.take i).length = i := by rw [List.length_take]; omega
    by_cases hr : ((p[i] : Nat) : Int) ∈ R
    · rw [if_pos hr]
      have hs := hm.1 hr
      rcases ih with ⟨e, hn⟩ | ⟨a, m, c, e, hna, hnc, hm0, hh, hlast, ex⟩
      · rw [e]
        refine .inr ⟨p.take i, [p[i]], [], by rw [List.append_nil], hn, non_nil, by simp, fun y hy => ?_, fun y hy => ?_, ?_⟩
        · cases hy; exact hs
        · cases hy; exact hs
        · dsimp only
          rw [if_pos (show ((i : Nat) : Int) < (n : Int) by omega), hl]
          simp
      · rw [ex]
        have hle : a.length + m.length + c.length = i := by rw [← hl, e, List.length_append, List.length_append]
        have hmp := List.length_pos_iff.2 hm0
        refine .inr ⟨a, m ++ c ++ [p[i]], [], by rw [e]; simp, hna, non_nil, by simp, fun y hy => ?_, fun y hy => ?_, ?_⟩
        · cases m with
          | nil => exact absurd rfl hm0
          | cons z m => exact hh y hy
        · rw [List.getLast?_append] at hy
          have : y = p[i] := by simpa using hy.symm
          rw [this]; exact hs
        · dsimp only
          rw [if_neg (by omega)]
          simp only [List.length_append, List.length_singleton]
          congr 1
          omega
    · have hf : rowS (nr R) p[i] = false := Bool.eq_false_iff.2 fun e => hr (hm.2 e)
      have hnx : non (rowS (nr R)) [p[i]] := fun y hy => by rw [List.mem_singleton.1 hy]; exact hf
      rw [if_neg hr]
      rcases ih with ⟨e, hn⟩ | ⟨a, m, c, e, hna, hnc, hm0, hh, hlast, ex⟩
      · exact .inl ⟨e, (non_app).2 ⟨hn, hnx⟩⟩
      · exact .inr ⟨a, m, c ++ [p[i]], by rw [e]; simp, hna, (non_app).2 ⟨hnc, hnx⟩, hm0, hh, hlast, ex⟩
theorem at_app {u v w l : List Nat} (e : l = u ++ v ++ w) {k : Nat} (h : k < l.length) : (l[k] ∈ u ∧ k < u.length) ∨ (l[k] ∈ v ∧ u.length ≤ k ∧ k < u.length + v.length) ∨ (l[k] ∈ w ∧ u.length + v.length ≤ k) := by
  subst e
  by_cases h1 : k < u.length
  · refine .inl ⟨?_, h1⟩
    rw [List.getElem_append_left (by rw [List.length_append]; omega), List.getElem_append_left h1]
    exact List.getElem_mem _
  · by_cases h2 : k < u.length + v.length
    · refine .inr (.inl ⟨?_, by omega, h2⟩)
      rw [List.getElem_append_left (by rw [List.length_append]; omega), List.getElem_append_right (by omega)]
      exact List.getElem_mem _
    · refine .inr (.inr ⟨?_, by omega⟩)
      rw [List.getElem_append_right (by rw [List.length_append]; omega)]
      exact List.getElem_mem _
theorem mid_al {S : Nat → Bool} {a m c : List Nat} (hc : Cn S (a ++ m ++ c)) (hh : ∀ y, m.head? = some y → S y = true) (hl : ∀ y, m.getLast? = some y → S y = true) : al S m := by
  obtain ⟨u, v, w, e, hu, hv, hw⟩ := hc
  obtain ⟨l, el⟩ : ∃ l, l = a ++ m ++ c := ⟨_, rfl⟩
  have el2 : l = u ++ v ++ w := el.trans e
  have hlen : l.length = a.length + m.length + c.length := by rw [el, List.length_append, List.length_append]
  have hm : ∀ i (hi : i < m.length), l[a.length + i]'(by omega) = m[i] := fun i hi => by
    subst el
    rw [List.getElem_append_left (by rw [List.length_append]; omega), List.getElem_append_right (by omega)]
    congr 1; omega
  have key : ∀ i (hi : i < m.length), S m[i] = true → u.length ≤ a.length + i ∧ a.length + i < u.length + v.length := fun i hi hs => by
    rcases at_app el2 (show a.length + i < l.length by omega) with ⟨h1, _⟩ | ⟨_, h2⟩ | ⟨h1, _⟩
    · rw [hm i hi] at h1
      have := hu _ h1
      rw [hs] at this; cases this
    · exact h2
    · rw [hm i hi] at h1
      have := hw _ h1
      rw [hs] at this; cases this
  intro y hy
  obtain ⟨i, hi, rfl⟩ := List.mem_iff_getElem.1 hy
  have k0 := key 0 (by omega) (hh _ (by rw [List.head?_eq_getElem?, List.getElem?_eq_getElem (show 0 < m.length by omega)]))
  have k1 := key (m.length - 1) (by omega) (hl _ (by rw [List.getLast?_eq_getElem?, List.getElem?_eq_getElem (show m.length - 1 < m.length by omega)]))
  rcases at_app el2 (show a.length + i < l.length by omega) with ⟨_, h2⟩ | ⟨h1, _⟩ | ⟨_, h2⟩
  · omega
  · rw [hm i hi] at h1; exact hv _ h1
  · omega
theorem filter_non {S : Nat → Bool} {l : List Nat} (h : non S l) : l.filter S = [] := List.filter_eq_nil_iff.2 fun x hx => by rw [h x hx]; exact Bool.false_ne_true
theorem nr_nodup {R : List Int} {n : Nat} (ha : ascR R n) : (nr R).Nodup := by
  have hp : R.Pairwise (· < ·) := by
    rw [List.pairwise_iff_getElem]
    have : ∀ d i j (hi : i < R.length) (hj : j < R.length), j = i + 1 + d → R[i] < R[j] := fun d => by
      induction d with
      | zero =>
        intro i j hi hj e
        subst e
        have := (ha (i + 1 + 0) hj).2.2
        rw [List.getD_eq_getElem?_getD, List.getElem?_eq_getElem (show i + 1 + 0 - 1 < R.length by omega), List.getD_eq_getElem?_getD, List.getElem?_eq_getElem hj] at this
        rcases this with h | h
        · omega
        · exact h
      | succ d ih =>
        intro i j hi hj e
        have h1 := ih i (i + 1 + d) hi (by omega) rfl
        have := (ha j hj).2.2
        rw [List.getD_eq_getElem?_getD, List.getElem?_eq_getElem (show j - 1 < R.length by omega), List.getD_eq_getElem?_getD, List.getElem?_eq_getElem hj] at this
        rcases this with h | h
        · omega
        · have h3 : R[j - 1] = R[i + 1 + d] := by congr 1; omega
          have h : R[j - 1] < R[j] := h
          omega
    exact fun i j hi hj h => this (j - i - 1) i j hi hj (by omega)
  unfold nr
  rw [List.Nodup, List.pairwise_map]
  refine (List.pairwise_and_iff.2 ⟨hp, List.pairwise_of_forall_mem_list (r := fun x y => 0 ≤ x ∧ 0 ≤ y) fun x hx y hy => ?_⟩).imp fun h => by omega
  obtain ⟨i, hi, rfl⟩ := List.mem_iff_getElem.1 hx
  obtain ⟨j, hj, rfl⟩ := List.mem_iff_getElem.1 hy
  have h1 := (ha i hi).1
  have h2 := (ha j hj).1
  rw [List.getD_eq_getElem?_getD, List.getElem?_eq_getElem hi] at h1
  rw [List.getD_eq_getElem?_getD, List.getElem?_eq_getElem hj] at h2
  exact ⟨h1, h2⟩
theorem gapR_Con {R : List Int} {n : Nat} {p : List Nat} (ha : ascR R n) (h0 : R ≠ []) (hp : p.Perm (List.range n)) : gapR R (zs p) n ↔ Con (nr R) p := by
  have hpl : p.length = n := by rw [hp.length_eq, List.length_range]
  have hs := rng_spl (p := p) ha (by omega) p.length (Nat.le_refl _)
  rw [List.take_length] at hs
  have hmem : ∀ x, rowS (nr R) x = true ↔ x ∈ nr R := fun x => by unfold rowS; rw [List.contains_iff_mem]
  have hcnt : (p.filter (rowS (nr R))).length = R.length := by
    have h1 : (p.filter (rowS (nr R))).Perm (nr R) := by
      refine (List.perm_ext_iff_of_nodup ((hp.nodup_iff.2 List.nodup_range).filter _) (nr_nodup ha)).2 fun x => ?_
      rw [List.mem_filter, hmem]
      exact ⟨fun h => h.2, fun h => ⟨hp.mem_iff.2 (List.mem_range.2 (nr_lt ha x h)), h⟩⟩
    rw [h1.length_eq]; exact List.length_map _
  unfold gapR
  rw [zs_length]
  rcases hs with ⟨_, hn⟩ | ⟨a, m, c, e, hna, hnc, hm0, hh, hlast, ex⟩
  · rw [filter_non hn] at hcnt
    exact absurd (List.eq_nil_of_length_eq_zero hcnt.symm) h0
  · have hcm : (m.filter (rowS (nr R))).length = R.length := by
      rw [e, List.filter_append, List.filter_append, filter_non hna, filter_non hnc] at hcnt
      simpa using hcnt
    rw [ex]
    have h1 : ((a.length : Int) + m.length - 1 - a.length + 1 = R.length) ↔ m.length = (m.filter (rowS (nr R))).length := by omega
    show ((a.length : Int) + m.length - 1 - a.length + 1 = R.length) ↔ _
    rw [h1]
    constructor
    · intro h
      have hal : al (rowS (nr R)) m := List.length_filter_eq_length_iff.1 h.symm
      exact ⟨a, m, c, e, hna, hal, hnc⟩
    · intro h
      have h : Cn (rowS (nr R)) p := h
      rw [e] at h
      exact (List.length_filter_eq_length_iff.2 (mid_al h hh hlast)).symm
end Go.Fw.Pq
