/- Chapter 28: rows that are beginnings. Plain. -/
import Derived.Test.YtjkbamfcoiikmaaGreatDoorPqR
namespace Go.Fw.Pq
open Go Go.RowKit Go.Fw
/-- The beginning of i columns. -/
abbrev beg (i : Nat) : List Int := zs (List.range i)
theorem beg_len (i : Nat) : (beg i).length = i := by rw [zs_length, List.length_range]
theorem nr_zs (l : List Nat) : nr (zs l) = l := by
  unfold nr zs
  rw [List.map_map]
  exact (List.map_congr_left fun x _ => rfl).trans (List.map_id _)
def nstT (k i : Nat) : TS := bT k ((List.range i).map fun j => beg (j + 1))
theorem nstT_succ (k i : Nat) : nstT k (i + 1) = stp k (nstT k i) (beg (i + 1)) := by
  unfold nstT
  rw [List.range_succ, List.map_append]
  exact bT_snoc _ _ _
theorem beg_con (k i : Nat) (h : i ≤ k) : Con (List.range i) (List.range k) := by
  obtain ⟨d, rfl⟩ : ∃ d, k = i + d := ⟨k - i, by omega⟩
  refine ⟨[], List.range i, (List.range d).map (i + ·), by rw [List.range_add]; rfl, non_nil, fun x hx => ?_, fun x hx => ?_⟩
  · unfold rowS; rw [List.contains_iff_mem]; exact hx
  · obtain ⟨y, _, rfl⟩ := List.mem_map.1 hx
    unfold rowS
    rw [Bool.eq_false_iff]
    intro hc
    rw [List.contains_iff_mem, List.mem_range] at hc
    omega
theorem least_sorted : ∀ {l m : List Nat}, l.Pairwise (· ≤ ·) → m.Perm l → LE l m
  | [], m, _, h => .inl (by rw [h.eq_nil])
  | a :: l, m, hp, h => by
    cases m with
    | nil => exact absurd h.symm.eq_nil (by simp)
    | cons b m =>
      have hp' := List.pairwise_cons.1 hp
      have hb : b ∈ a :: l := h.mem_iff.1 List.mem_cons_self
      by_cases e : b = a
      · subst e
        rcases least_sorted hp'.2 (List.perm_cons b |>.1 h) with h1 | h1
        · exact .inl (by rw [h1])
        · exact .inr (LL.cons_iff.2 (.inr ⟨rfl, h1⟩))
      · rcases List.mem_cons.1 hb with h1 | h1
        · exact absurd h1 e
        · have := hp'.1 b h1
          exact .inr (LL.cons_iff.2 (.inl (by omega)))
theorem fst_range {n : Nat} {t : PT} (h : Tn n t) (hf : Fr t (List.range n)) : fstT t = List.range n :=
  (fst_unique h.ok h.nodup hf fun _ hm => least_sorted (List.pairwise_le_range) ((Fr_perm hm).trans h.lvs)).symm
theorem asc_zs {l : List Nat} {n : Nat} (hp : l.Pairwise (· < ·)) (hl : ∀ x ∈ l, x < n) : ascR (zs l) n := fun i hi => by
  rw [zs_length] at hi
  have hg : ∀ j, j < l.length → (zs l).getD j 0 = ((l.getD j 0 : Nat) : Int) := fun j hj => by
    unfold zs
    rw [List.getD_eq_getElem?_getD, List.getElem?_map, List.getElem?_eq_getElem hj, List.getD_eq_getElem?_getD, List.getElem?_eq_getElem hj]; rfl
  have hm : l.getD i 0 < n := hl _ (by rw [List.getD_eq_getElem?_getD, List.getElem?_eq_getElem hi]; exact List.getElem_mem _)
  unfold okA
  rw [hg i hi]
  refine ⟨by omega, by omega, ?_⟩
  rcases Nat.eq_zero_or_pos i with h0 | h0
  · exact .inl h0
  · refine .inr ?_
    rw [hg (i - 1) (by omega)]
    have := List.pairwise_iff_getElem.1 hp (i - 1) i (by omega) hi (by omega)
    have g1 : l.getD i 0 = l[i] := by rw [List.getD_eq_getElem?_getD, List.getElem?_eq_getElem hi]; rfl
    have g2 : l.getD (i - 1) 0 = l[i - 1] := by rw [List.getD_eq_getElem?_getD, List.getElem?_eq_getElem (show i - 1 < l.length by omega)]; rfl
    rw [g1, g2]
    omega
theorem srtI_zs {l : List Nat} (hp : l.Pairwise (· ≤ ·)) : srtI (zs l) = zs l := by
  refine ((srtI_perm (zs l))).eq_of_pairwise (fun _ _ _ _ h1 h2 => Int.le_antisymm h1 h2) (srtI_mono _) ?_
  unfold zs
  rw [List.pairwise_map]
  exact hp.imp fun h => by omega
/-- A tree after some beginnings. -/
structure NstI (k i : Nat) (t : PT) (W : List (List Int)) : Prop where
  ht : t = (nstT k i).1
  hw : W = (nstT k i).2
  ord : ∃ S, OrdOf k t S
  fr : Fr t (List.range k)
  row : ∀ R ∈ W, ∃ j, j < k ∧ R = beg (j + 1)
theorem NstI.new {k : Nat} (h : 0 < k) : NstI k 0 (newT k) [] := ⟨rfl, rfl, ⟨[], OrdOf.new h⟩, (newT_Fr h _).2 (.refl _), fun _ hR => by cases hR⟩
theorem NstI.step {k i : Nat} {t t' : PT} {W W' : List (List Int)} {e : Int} (h : NstI k i t W) (hi : i < k) (hx : Nxt k t W (beg (i + 1)) e t' W') : e = 0 ∧ NstI k (i + 1) t' W' := by
  obtain ⟨S, hS⟩ := h.ord
  have hlt : ∀ c ∈ List.range (i + 1), c < k := fun c hc => by have := List.mem_range.1 hc; omega
  have ha : ascR (beg (i + 1)) k := asc_zs List.pairwise_lt_range hlt
  have hc := beg_con k (i + 1) hi
  obtain ⟨u, e1⟩ := hS.ok hlt h.fr hc
  have e2 : redR (nr (beg (i + 1))) t = some u := by rw [nr_zs]; exact e1
  have et : t' = u := hx.ht.trans (redT_of ha e2)
  refine ⟨hx.he.trans (redE_of ha e2), ?_, ?_, ?_, ?_, ?_⟩
  · rw [nstT_succ, hx.ht, h.ht]; rfl
  · rw [nstT_succ, hx.hw, h.hw, h.ht]; rfl
  · rw [et]; exact ⟨_, hS.step hlt e1⟩
  · rw [et]
    obtain ⟨v, e3, hv⟩ := (redR_ok hS.tn hlt _).1 ⟨h.fr, hc⟩
    rw [e1] at e3; cases e3; exact hv
  · intro R hR
    rw [hx.hw] at hR
    unfold redW at hR
    split at hR
    · rcases List.mem_append.1 hR with hR | hR
      · exact h.row R hR
      · exact ⟨i, hi, List.mem_singleton.1 hR⟩
    · exact h.row R hR
theorem NstI.tn {k i : Nat} {t : PT} {W : List (List Int)} (h : NstI k i t W) : Tn k t := by obtain ⟨S, hS⟩ := h.ord; exact hS.tn
theorem nst_cnt : ∀ k, k < 17 → 0 < k → cntT (nstT k k).1 = 2 ^ (k - 1) := by decide +kernel
theorem nst_gap : ∀ k, k < 17 → ∀ j, j < k → gapR (beg (j + 1)) (beg k) k := by decide +kernel
theorem NstI.done {k : Nat} {t : PT} {W : List (List Int)} (h : NstI k k t W) (h0 : 0 < k) (hk : k ≤ 16) : cntT t = 2 ^ (k - 1) ∧ fstT t = List.range k ∧ hasP k W (beg k) := by
  refine ⟨by rw [h.ht]; exact nst_cnt k (by omega) h0, fst_range h.tn h.fr, beg_len k, ?_, fun R hR => ?_⟩
  · rw [srtI_zs List.pairwise_le_range]
    exact asc_zs List.pairwise_lt_range fun x hx => List.mem_range.1 hx
  · obtain ⟨j, hj, rfl⟩ := h.row R hR
    exact nst_gap k (by omega) j hj
end Go.Fw.Pq
