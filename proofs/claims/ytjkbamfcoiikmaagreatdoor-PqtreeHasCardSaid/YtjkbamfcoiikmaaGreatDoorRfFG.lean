/- Chapter 28: whether a list is an order of all columns; plain. -/
import Derived.Test.YtjkbamfcoiikmaaGreatDoorPqZ
import Derived.Test.YtjkbamfcoiikmaaGreatDoorRfE
import Derived.Test.YtjkbamfcoiikmaaGreatDoorPqZc
namespace Go.Fw.Pq
open Go Go.RowKit Go.Fw
def ordOk (n : Nat) (L : List Int) (i : Nat) : Prop := ∀ j, j < i → (0 ≤ L.getD j 0 ∧ L.getD j 0 < (n : Int)) ∧ ∀ k, k < j → L.getD j 0 ≠ L.getD k 0
theorem ordOk.zero (n : Nat) (L : List Int) : ordOk n L 0 := fun j hj => absurd hj (Nat.not_lt_zero j)
theorem ordOk.step {n : Nat} {L : List Int} {i : Nat} (h : ordOk n L i) (h1 : 0 ≤ L.getD i 0) (h2 : L.getD i 0 < (n : Int)) (h3 : ∀ k, k < i → L.getD i 0 ≠ L.getD k 0) : ordOk n L (i + 1) := fun j hj => by
  rcases Nat.lt_or_ge j i with c | c
  · exact h j c
  · obtain rfl : j = i := by omega
    exact ⟨⟨h1, h2⟩, h3⟩
theorem perm_range {n : Nat} {p : List Nat} (nd : p.Nodup) (hl : p.length = n) (hs : ∀ x ∈ p, x < n) : p.Perm (List.range n) := by
  refine (List.perm_ext_iff_of_nodup nd List.nodup_range).2 fun a => ?_
  rw [List.mem_range]
  refine ⟨hs a, fun ha => Classical.byContradiction fun hn => ?_⟩
  have := sub_length (l := a :: p) (m := List.range n) (List.nodup_cons.2 ⟨hn, nd⟩) fun y hy => by
    rw [List.mem_range]
    rcases List.mem_cons.1 hy with rfl | hy
    · exact ha
    · exact hs y hy
  rw [List.length_cons, List.length_range] at this
  omega
theorem ordOk.ord {n i : Nat} {L : List Int} (h : ordOk n L i) (hi : n ≤ i) (hl : L.length = n) : isOrd n L := by
  have hget : ∀ j (hj : j < L.length), L.getD j 0 = L[j] := fun j hj => by rw [List.getD_eq_getElem?_getD, List.getElem?_eq_getElem hj]; rfl
  refine ⟨L.map Int.toNat, ?_, perm_range ?_ (by rw [List.length_map]; exact hl) fun x hx => ?_⟩
  · unfold zs
    rw [List.map_map]
    refine (List.map_id L).symm.trans (List.map_congr_left fun x hx => ?_)
    obtain ⟨j, hj, rfl⟩ := List.mem_iff_getElem.1 hx
    have := (h j (by omega)).1.1
    rw [hget j hj] at this
    show L[j] = ((L[j].toNat : Nat) : Int)
    omega
  · unfold List.Nodup
    rw [List.pairwise_map, List.pairwise_iff_getElem]
    intro a b ha hb hab e
    have h1 := h b (by omega)
    have h2 := h a (by omega)
    have h3 := h1.2 a hab
    rw [hget a ha, hget b hb] at *
    omega
  · obtain ⟨y, hy, rfl⟩ := List.mem_map.1 hx
    obtain ⟨j, hj, rfl⟩ := List.mem_iff_getElem.1 hy
    have := (h j (by omega)).1
    rw [hget j hj] at this
    omega
theorem isOrd.bd {n i : Nat} {L : List Int} (h : isOrd n L) (hi : i < L.length) : 0 ≤ L.getD i 0 ∧ L.getD i 0 < (n : Int) := by
  obtain ⟨p, rfl, hp⟩ := h
  rw [zs_length] at hi
  rw [zsA_get hi]
  have := List.mem_range.1 (hp.mem_iff.1 (List.getElem_mem hi))
  omega
theorem isOrd.inj {n i j : Nat} {L : List Int} (h : isOrd n L) (hi : i < L.length) (hj : j < L.length) (e : L.getD i 0 = L.getD j 0) : i = j := by
  obtain ⟨p, rfl, hp⟩ := h
  rw [zs_length] at hi hj
  rw [zsA_get hi, zsA_get hj] at e
  exact (List.getElem_inj (hp.nodup_iff.2 List.nodup_range)).1 (by omega)
end Go.Fw.Pq

/- Chapter 28: what Has answers, the program's and the reference's; plain. -/
namespace Go.Fw.Pq
open Go Go.RowKit Go.Fw
theorem asc_lt {L : List Int} {n : Nat} (h : ascR L n) {i : Nat} : ∀ {j : Nat}, i < j → j < L.length → L.getD i 0 < L.getD j 0
  | 0, h1, _ => absurd h1 (Nat.not_lt_zero _)
  | j + 1, h1, h2 => by
    have h3 : L.getD j 0 < L.getD (j + 1) 0 := (h (j + 1) h2).2.2.resolve_left (by omega)
    by_cases c : i = j
    · subst c; exact h3
    · have := asc_lt h (i := i) (j := j) (by omega) (by omega); omega
theorem has_ord {n : Nat} {W : List (List Int)} {L : List Int} (h : hasP n W L) : isOrd n L := by
  obtain ⟨h1, h2, _⟩ := h
  have hp := srtI_perm L
  have hs : (srtI L).Nodup := by
    unfold List.Nodup
    rw [List.pairwise_iff_getElem]
    intro i j hi hj hij e
    have := asc_lt h2 hij hj
    rw [List.getD_eq_getElem?_getD, List.getElem?_eq_getElem hi, List.getD_eq_getElem?_getD, List.getElem?_eq_getElem hj] at this
    have this : (srtI L)[i] < (srtI L)[j] := this
    omega
  have hL : L.Nodup := hp.nodup_iff.1 hs
  refine ordOk.ord (i := n) (fun j hj => ⟨?_, fun k hk e => ?_⟩) (Nat.le_refl _) h1
  · have hm : L.getD j 0 ∈ srtI L := hp.mem_iff.2 (getI_in (by omega))
    obtain ⟨i, hi, e⟩ := List.mem_iff_getElem.1 hm
    have := h2 i hi
    unfold okA at this
    rw [List.getD_eq_getElem?_getD (l := srtI L), List.getElem?_eq_getElem hi] at this
    have h3 : 0 ≤ (srtI L)[i] ∧ (srtI L)[i] < (n : Int) := ⟨this.1, this.2.1⟩
    rw [e] at h3; exact h3
  · rw [List.getD_eq_getElem?_getD, List.getElem?_eq_getElem (by omega), List.getD_eq_getElem?_getD, List.getElem?_eq_getElem (by omega)] at e
    have : j = k := (List.getElem_inj hL).1 e
    omega
theorem Tn.alw {n : Nat} {t : AT} {p : List Nat} (hf : Fit t) (ht : Tn n (er t)) (hp : p.Perm (List.range n)) : AlwH p t :=
  ⟨hp.nodup_iff.2 List.nodup_range, hf, ht.lvs.nodup_iff.2 List.nodup_range, fun _ hx => hp.mem_iff.2 (ht.lvs.mem_iff.1 hx)⟩
theorem zs_inj {p q : List Nat} (h : zs p = zs q) : p = q := by
  have := congrArg (List.map Int.toNat) h
  unfold zs at this
  rw [List.map_map, List.map_map] at this
  have e : (Int.toNat ∘ fun (n : Nat) => (n : Int)) = id := funext fun n => rfl
  rw [e, List.map_id, List.map_id] at this
  exact this
/-- What the reference's Has answers. -/
def refH (n : Nat) (t : PT) (L : List Int) : Prop := ∃ p : List Nat, L = zs p ∧ p.Perm (List.range n) ∧ Fr t p
theorem ref_fin {n : Nat} {t : PT} {p : List Nat} {b : Bool} (ht : Tn n t) (hp : p.Perm (List.range n)) (hb : b = true ↔ Fits p t) : b = true ↔ refH n t (zs p) := by
  rw [hb, fits_root (hp.trans ht.lvs.symm)]
  exact ⟨fun h => ⟨p, rfl, hp, h⟩, fun ⟨q, e, _, hq⟩ => by rw [zs_inj e]; exact hq⟩
theorem has_ref {n : Nat} (hn : 0 < n) {l : List (List Int)} {t : PT} {W : List (List Int)} (hT : (t, W) = bT n l) {L : List Int} {b : Bool} (hb : b = true ↔ refH n t L) : decide (hasP n W L) = b := by
  have : hasP n W L ↔ b = true := by
    rw [hb]
    constructor
    · intro h
      obtain ⟨p, rfl, hp⟩ := has_ord h
      exact ⟨p, rfl, hp, (has_iff hn hT hp).1 h⟩
    · rintro ⟨p, rfl, hp, hF⟩
      exact (has_iff hn hT hp).2 hF
  cases b with
  | true => exact decide_eq_true (this.2 rfl)
  | false => exact decide_eq_false fun h => Bool.false_ne_true (this.1 h)
theorem has_fst {n : Nat} (hn : 0 < n) {l : List (List Int)} {t : PT} {W : List (List Int)} (hT : (t, W) = bT n l) (ht : Tn n t) : hasP n W (zs (fstT t)) ∧ refH n t (zs (fstT t)) := by
  have hF := (fst_least ht.ok ht.nodup).1
  have hp : (fstT t).Perm (List.range n) := (Fr_perm hF).trans ht.lvs
  exact ⟨(has_iff hn hT hp).2 hF, _, rfl, hp, hF⟩
theorem load3 {a b c d : Value} (m : Nat) (v : Value) (h : [b, c, d][m]? = some v) : [a, b, c, d][1 + m]? = some v := by
  rw [Nat.add_comm]; exact h
theorem ref_step {n i : Nat} {l : List Rw} {t t' : PT} (h : t = (bT n (Rls (l.take i))).1) (hi : i < l.length) (h' : t' = redT n t (l.getD i dR).L) : t' = (bT n (Rls (l.take (i + 1)))).1 := by
  rw [Rls_take hi, bT_snoc, h', h]; rfl
theorem ref_zero {n : Nat} {l : List Rw} {t : PT} (h : t = newT n) : t = (bT n (Rls (l.take 0))).1 := by rw [List.take_zero, h]; rfl
theorem ref_end {n i : Nat} {l : List Rw} {t u : PT} {W : List (List Int)} (h : t = (bT n (Rls (l.take i))).1) (hi : l.length ≤ i) (hT : (u, W) = bT n (Rls l)) : t = u := by
  rw [List.take_of_length_le hi] at h
  rw [h, ← hT]
end Go.Fw.Pq
