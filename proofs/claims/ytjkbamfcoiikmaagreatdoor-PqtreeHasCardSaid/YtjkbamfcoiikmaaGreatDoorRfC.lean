/- Chapter 28: what the reference asks of an order (contiguous, in turn) holds exactly for the orders of the tree. Plain. -/
import Derived.Test.YtjkbamfcoiikmaaGreatDoorPqFJ
namespace Go.Fw.Pq
open Go
def At (p : List Nat) (o : Nat) (l : List Nat) : Prop := ∀ i, i < l.length → p[o + i]? = l[i]?
theorem At.app {p l m : List Nat} {o : Nat} (h : At p o l) (h' : At p (o + l.length) m) : At p o (l ++ m) := fun i hi => by
  by_cases c : i < l.length
  · rw [List.getElem?_append_left c]; exact h i c
  · rw [List.getElem?_append_right (by omega)]
    rw [List.length_append] at hi
    have := h' (i - l.length) (by omega)
    rw [← this]; congr 1; omega
theorem At.left {p l m : List Nat} {o : Nat} (h : At p o (l ++ m)) : At p o l := fun i hi => by
  rw [h i (by rw [List.length_append]; omega), List.getElem?_append_left hi]
theorem At.right {p l m : List Nat} {o : Nat} (h : At p o (l ++ m)) : At p (o + l.length) m := fun i hi => by
  have := h (l.length + i) (by rw [List.length_append]; omega)
  rw [List.getElem?_append_right (by omega)] at this
  rw [Nat.add_assoc, this]; congr 1; omega
theorem at_idx {p : List Nat} {x : Nat} (h : x ∈ p) : p[p.idxOf x]? = some x := by
  have h1 := List.idxOf_lt_length_of_mem h
  rw [List.getElem?_eq_getElem h1]
  exact congrArg some (List.getElem_idxOf h1)
theorem idx_at {p : List Nat} (nd : p.Nodup) {i x : Nat} (h : p[i]? = some x) : x ∈ p ∧ p.idxOf x = i := by
  have hm := List.mem_of_getElem? h
  refine ⟨hm, ?_⟩
  have h1 := at_idx hm
  obtain ⟨hi, e⟩ := List.getElem?_eq_some_iff.1 h
  obtain ⟨hj, e2⟩ := List.getElem?_eq_some_iff.1 h1
  exact (List.getElem_inj nd).1 (e2.trans e.symm)
/-- All leaves of a list stand together, from a place on. -/
def Rng (p A : List Nat) (o : Nat) : Prop := ∀ x, x ∈ A ↔ x ∈ p ∧ o ≤ p.idxOf x ∧ p.idxOf x < o + A.length
theorem At.rng {p l A : List Nat} {o : Nat} (nd : p.Nodup) (h : At p o l) (hp : l.Perm A) : Rng p A o := fun x => by
  rw [← hp.mem_iff, ← hp.length_eq]
  constructor
  · intro hx
    obtain ⟨i, hi⟩ := List.mem_iff_getElem?.1 hx
    have hl := (List.getElem?_eq_some_iff.1 hi).1
    have h1 := h i hl
    rw [hi] at h1
    obtain ⟨h2, h3⟩ := idx_at nd h1
    exact ⟨h2, by omega, by omega⟩
  · rintro ⟨hx, h1, h2⟩
    have h3 := h (p.idxOf x - o) (by omega)
    rw [show o + (p.idxOf x - o) = p.idxOf x from by omega, at_idx hx] at h3
    exact List.mem_of_getElem? h3.symm
def Fits (p : List Nat) (t : PT) : Prop := ∃ o l, At p o l ∧ Fr t l
theorem Fits.rng {p : List Nat} {t : PT} (nd : p.Nodup) (h : Fits p t) : ∃ o l, At p o l ∧ Fr t l ∧ Rng p (lvs t) o :=
  let ⟨o, l, h1, h2⟩ := h
  ⟨o, l, h1, h2, h1.rng nd (Fr_perm h2)⟩
/-- The least and the greatest place. -/
structure Rch (p A : List Nat) (lo hi : Nat) : Prop where
  low : ∃ x ∈ A, p.idxOf x = lo
  high : ∃ x ∈ A, p.idxOf x = hi
  btw : ∀ x ∈ A, lo ≤ p.idxOf x ∧ p.idxOf x ≤ hi
theorem Rch.le {p A : List Nat} {lo hi : Nat} (h : Rch p A lo hi) : lo ≤ hi := by
  obtain ⟨x, hx, e⟩ := h.low
  have := h.btw x hx; omega
theorem Rch.app {p A B : List Nat} {a b c d : Nat} (h : Rch p A a b) (h' : Rch p B c d) : Rch p (A ++ B) (min a c) (max b d) where
  low := by
    obtain ⟨x, hx, e⟩ := h.low
    obtain ⟨y, hy, e'⟩ := h'.low
    by_cases c' : a ≤ c
    · exact ⟨x, List.mem_append_left _ hx, by omega⟩
    · exact ⟨y, List.mem_append_right _ hy, by omega⟩
  high := by
    obtain ⟨x, hx, e⟩ := h.high
    obtain ⟨y, hy, e'⟩ := h'.high
    by_cases c' : d ≤ b
    · exact ⟨x, List.mem_append_left _ hx, by omega⟩
    · exact ⟨y, List.mem_append_right _ hy, by omega⟩
  btw := fun x hx => by
    rcases List.mem_append.1 hx with hx | hx
    · have := h.btw x hx; omega
    · have := h'.btw x hx; omega
theorem Rch.uniq {p A : List Nat} {a b c d : Nat} (h : Rch p A a b) (h' : Rch p A c d) : a = c ∧ b = d := by
  obtain ⟨x, hx, e⟩ := h.low
  obtain ⟨y, hy, e'⟩ := h'.low
  obtain ⟨z, hz, f⟩ := h.high
  obtain ⟨u, hu, f'⟩ := h'.high
  have := h.btw y hy; have := h'.btw x hx; have := h.btw u hu; have := h'.btw z hz
  omega
theorem Rch.rng {p A : List Nat} {lo hi : Nat} (na : A.Nodup) (hs : ∀ x ∈ A, x ∈ p) (h : Rch p A lo hi) (hc : hi - lo + 1 = A.length) : Rng p A lo := fun x => by
  constructor
  · intro hx
    have h1 := h.btw x hx
    exact ⟨hs x hx, h1.1, by omega⟩
  · rintro ⟨hx, h1, h2⟩
    refine Classical.byContradiction fun hn => ?_
    have hle := h.le
    have hmem : ∀ y ∈ x :: A, y ∈ p ∧ lo ≤ p.idxOf y ∧ p.idxOf y < lo + A.length := fun y hy => by
      rcases List.mem_cons.1 hy with rfl | hy
      · exact ⟨hx, h1, h2⟩
      · have := h.btw y hy; exact ⟨hs y hy, by omega, by omega⟩
    have hnd : ((x :: A).map p.idxOf).Nodup := by
      have h3 : (x :: A).Nodup := List.nodup_cons.2 ⟨hn, na⟩
      unfold List.Nodup at h3 ⊢
      rw [List.pairwise_map]
      refine List.Pairwise.imp_of_mem (fun {a b} ha hb hne e => hne ?_) h3
      have ea := at_idx (hmem a ha).1
      have eb := at_idx (hmem b hb).1
      rw [e, eb] at ea
      exact (Option.some.inj ea).symm
    have := sub_length (m := List.range' lo A.length) hnd fun y hy => by
      obtain ⟨z, hz, rfl⟩ := List.mem_map.1 hy
      rw [List.mem_range'_1]
      exact (hmem z hz).2
    rw [List.length_map, List.length_cons, List.length_range'] at this
    omega
theorem Rng.rch {p A : List Nat} {o : Nat} (hs : ∀ i, o ≤ i → i < o + A.length → ∃ x ∈ A, p.idxOf x = i) (h0 : A ≠ []) (h : Rng p A o) : Rch p A o (o + A.length - 1) where
  low := hs o (Nat.le_refl _) (by have := List.length_pos_iff.2 h0; omega)
  high := hs _ (by have := List.length_pos_iff.2 h0; omega) (by have := List.length_pos_iff.2 h0; omega)
  btw := fun x hx => by have := (h x).1 hx; omega
theorem At.rch {p l A : List Nat} {o : Nat} (nd : p.Nodup) (h : At p o l) (hp : l.Perm A) (h0 : A ≠ []) : Rch p A o (o + A.length - 1) :=
  Rng.rch (fun i h1 h2 => by
    rw [← hp.length_eq] at h2
    have h3 := h (i - o) (by omega)
    rw [show o + (i - o) = i from by omega, List.getElem?_eq_getElem (l := l) (by omega)] at h3
    exact ⟨l[i - o]'(by omega), hp.mem_iff.1 (List.getElem_mem _), (idx_at nd h3).2⟩) h0 (h.rng nd hp)
/-- All of one kid ahead of all of the other one. -/
def Bef (p A B : List Nat) : Prop := ∀ x ∈ A, ∀ y ∈ B, p.idxOf x < p.idxOf y
theorem Rch.bef {p A B : List Nat} {a b c d : Nat} (h : Rch p A a b) (h' : Rch p B c d) : b < c ↔ Bef p A B := by
  constructor
  · intro hl x hx y hy
    have := h.btw x hx; have := h'.btw y hy; omega
  · intro hb
    obtain ⟨x, hx, e⟩ := h.high
    obtain ⟨y, hy, e'⟩ := h'.low
    have := hb x hx y hy; omega
theorem At.bef {p l m A B : List Nat} {o : Nat} (nd : p.Nodup) (h : At p o (l ++ m)) (hl : l.Perm A) (hm : m.Perm B) : Bef p A B := fun x hx y hy => by
  have h1 := (h.left.rng nd hl x).1 hx
  have h2 := (h.right.rng nd hm y).1 hy
  have := hl.length_eq
  omega
def chain (p : List Nat) (ks : List PT) : Prop := ∀ i, i < ks.length - 1 → Bef p (lvs (ks.getD i default)) (lvs (ks.getD (i + 1) default))
theorem kid_rng {p : List Nat} {k : PT} {rest ks : List PT} {o : Nat} (nd : p.Nodup) (hn : (ks.flatMap lvs).Nodup) (hp : ks.Perm (k :: rest)) (hR : Rng p (ks.flatMap lvs) o) {lk : List Nat} (hk : At p o lk) (hf : Fr k lk) :
    Rng p (rest.flatMap lvs) (o + lk.length) ∧ o + (ks.flatMap lvs).length = o + lk.length + (rest.flatMap lvs).length := by
  have pm : (ks.flatMap lvs).Perm (lvs k ++ rest.flatMap lvs) := by have := hp.flatMap_right lvs; rwa [List.flatMap_cons] at this
  have hl : (ks.flatMap lvs).length = lk.length + (rest.flatMap lvs).length := by rw [pm.length_eq, List.length_append, (Fr_perm hf).length_eq]
  have hn2 := pm.nodup_iff.1 hn
  rw [List.nodup_append] at hn2
  have hK := hk.rng nd (Fr_perm hf)
  have e := (Fr_perm hf).length_eq
  refine ⟨fun x => ?_, by omega⟩
  have h1 := hR x
  have h2 := hK x
  rw [pm.mem_iff, List.mem_append] at h1
  constructor
  · intro hx
    have h3 := h1.1 (.inr hx)
    have h4 : x ∉ lvs k := fun hc => hn2.2.2 x hc x hx rfl
    refine ⟨h3.1, ?_, by omega⟩
    refine Classical.byContradiction fun hc => h4 (h2.2 ⟨h3.1, by omega, by omega⟩)
  · rintro ⟨hx, h3, h4⟩
    rcases h1.2 ⟨hx, by omega, by omega⟩ with h5 | h5
    · have := h2.1 h5; omega
    · exact h5
theorem flat_ne {ks : List PT} (ok : ∀ k ∈ ks, Ok k) (h : ks ≠ []) : ks.flatMap lvs ≠ [] := by
  match ks, h with
  | k :: ks, _ =>
    intro e
    rw [List.flatMap_cons] at e
    exact (ok k List.mem_cons_self).lvs_ne (List.append_eq_nil_iff.1 e).1
/-- The kid that holds the first place starts there. -/
theorem kid_first {p : List Nat} {ks : List PT} {k : PT} {o : Nat} (nd : p.Nodup) (ok : ∀ k ∈ ks, Ok k) (hk : k ∈ ks) (hF : Fits p k) (hR : Rng p (ks.flatMap lvs) o) {x : Nat} (hx : x ∈ lvs k) (hi : p.idxOf x = o) : ∃ lk, At p o lk ∧ Fr k lk := by
  obtain ⟨o', l, h1, h2, h3⟩ := hF.rng nd
  have h4 := (h3 x).1 hx
  have hne := Fr_ne (ok k hk) h2
  have hpos := List.length_pos_iff.2 hne
  have h5 := h1 0 hpos
  rw [List.getElem?_eq_getElem hpos, Nat.add_zero] at h5
  have h6 : l[0] ∈ lvs k := (Fr_perm h2).mem_iff.1 (List.getElem_mem hpos)
  have h7 := (hR l[0]).1 (List.mem_flatMap.2 ⟨k, hk, h6⟩)
  have h8 := (idx_at nd h5).2
  have : o' = o := by omega
  subst this
  exact ⟨l, h1, h2⟩
theorem any_of {p : List Nat} (nd : p.Nodup) : ∀ (n : Nat) {ks : List PT} {o : Nat}, ks.length = n → (∀ k ∈ ks, Ok k) → (∀ k ∈ ks, Fits p k) → (ks.flatMap lvs).Nodup → o + (ks.flatMap lvs).length ≤ p.length → Rng p (ks.flatMap lvs) o →
    ∃ ks' l, ks'.Perm ks ∧ At p o l ∧ FrL ks' l
  | 0, ks, o, hl, _, _, _, _, _ => by
    obtain rfl := List.length_eq_zero_iff.1 hl
    exact ⟨[], [], .refl _, (fun i hi => absurd hi (Nat.not_lt_zero _)), rfl⟩
  | n + 1, ks, o, hl, ok, hF, hn, hb, hR => by
    have hne := flat_ne ok (by rintro rfl; simp at hl)
    have hpos := List.length_pos_iff.2 hne
    have ho : o < p.length := by omega
    have he : p[o]? = some p[o] := List.getElem?_eq_getElem ho
    obtain ⟨hm, hi⟩ := idx_at nd he
    obtain ⟨k, hk, hx⟩ := List.mem_flatMap.1 ((hR p[o]).2 ⟨hm, by omega, by omega⟩)
    obtain ⟨lk, h1, h2⟩ := kid_first nd ok hk (hF k hk) hR hx hi
    obtain ⟨A, B, rfl⟩ := List.append_of_mem hk
    have hp : (A ++ k :: B).Perm (k :: (A ++ B)) := List.perm_middle
    obtain ⟨h3, h4⟩ := kid_rng nd hn hp hR h1 h2
    have hsub : ∀ x ∈ A ++ B, x ∈ A ++ k :: B := fun x hx => hp.mem_iff.2 (List.mem_cons_of_mem _ hx)
    have hn2 : ((A ++ B).flatMap lvs).Nodup := by
      have := (hp.flatMap_right lvs).nodup_iff.1 hn
      rw [List.flatMap_cons, List.nodup_append] at this
      exact this.2.1
    obtain ⟨ks', l, g1, g2, g3⟩ := any_of nd n (ks := A ++ B) (o := o + lk.length) (by simp at hl ⊢; omega) (fun x hx => ok x (hsub x hx)) (fun x hx => hF x (hsub x hx)) hn2 (by omega) h3
    exact ⟨k :: ks', lk ++ l, (g1.cons k).trans hp.symm, h1.app g2, lk, l, rfl, h2, g3⟩
theorem chain_first {p : List Nat} : ∀ {ks : List PT} {k : PT}, chain p (k :: ks) → (∀ x ∈ k :: ks, Ok x) → ∀ k' ∈ ks, Bef p (lvs k) (lvs k')
  | [], _, _, _ => fun _ h => by cases h
  | k2 :: ks, k, h, ok => fun k' hk' => by
    have h0 := h 0 (by simp)
    have h0 : Bef p (lvs k) (lvs k2) := h0
    have ih : ∀ k' ∈ ks, Bef p (lvs k2) (lvs k') := chain_first (fun i hi => h (i + 1) (by simp only [List.length_cons] at hi ⊢; omega)) fun x hx => ok x (List.mem_cons_of_mem _ hx)
    rcases List.mem_cons.1 hk' with rfl | hk'
    · exact h0
    · intro x hx y hy
      have hne := (ok k2 (List.mem_cons_of_mem _ List.mem_cons_self)).lvs_ne
      match hz : lvs k2, hne with
      | z :: _, _ =>
        have h1 := h0 x hx z (by rw [hz]; exact List.mem_cons_self)
        have h2 := ih k' hk' z (by rw [hz]; exact List.mem_cons_self) y hy
        omega
theorem line_of {p : List Nat} (nd : p.Nodup) : ∀ {ks : List PT} {o : Nat}, chain p ks → (∀ k ∈ ks, Ok k) → (∀ k ∈ ks, Fits p k) → (ks.flatMap lvs).Nodup → o + (ks.flatMap lvs).length ≤ p.length → Rng p (ks.flatMap lvs) o →
    ∃ l, At p o l ∧ FrL ks l
  | [], o, _, _, _, _, _, _ => ⟨[], (fun i hi => absurd hi (Nat.not_lt_zero _)), rfl⟩
  | k :: ks, o, hc, ok, hF, hn, hb, hR => by
    have hne := flat_ne ok (List.cons_ne_nil k ks)
    have hpos := List.length_pos_iff.2 hne
    have ho : o < p.length := by omega
    have he : p[o]? = some p[o] := List.getElem?_eq_getElem ho
    obtain ⟨hm, hi⟩ := idx_at nd he
    have hx : p[o] ∈ lvs k := by
      obtain ⟨k', hk', hx⟩ := List.mem_flatMap.1 ((hR p[o]).2 ⟨hm, by omega, by omega⟩)
      rcases List.mem_cons.1 hk' with rfl | hk'
      · exact hx
      · have hne := (ok k List.mem_cons_self).lvs_ne
        match hz : lvs k, hne with
        | z :: _, _ =>
          have hz2 : z ∈ lvs k := by rw [hz]; exact List.mem_cons_self
          have h1 := chain_first hc ok k' hk' z hz2 p[o] hx
          have h2 := (hR z).1 (List.mem_flatMap.2 ⟨k, List.mem_cons_self, hz2⟩)
          omega
    obtain ⟨lk, h1, h2⟩ := kid_first nd ok List.mem_cons_self (hF k List.mem_cons_self) hR hx hi
    obtain ⟨h3, h4⟩ := kid_rng nd hn (.refl _) hR h1 h2
    have hn2 : (ks.flatMap lvs).Nodup := by
      rw [List.flatMap_cons, List.nodup_append] at hn
      exact hn.2.1
    obtain ⟨l, g2, g3⟩ := line_of nd (ks := ks) (o := o + lk.length) (fun i hi => hc (i + 1) (by simp only [List.length_cons]; omega)) (fun x hx => ok x (List.mem_cons_of_mem _ hx)) (fun x hx => hF x (List.mem_cons_of_mem _ hx)) hn2 (by omega) h3
    exact ⟨lk ++ l, h1.app g2, lk, l, rfl, h2, g3⟩
theorem FrL_fits {p : List Nat} : ∀ {ks : List PT} {o : Nat} {l : List Nat}, At p o l → FrL ks l → ∀ k ∈ ks, Fits p k
  | [], _, _, _, _ => fun _ h => by cases h
  | k :: ks, o, l, h, hf => by
    obtain ⟨a, b, rfl, ha, hb⟩ := hf
    intro k' hk'
    rcases List.mem_cons.1 hk' with rfl | hk'
    · exact ⟨o, a, h.left, ha⟩
    · exact FrL_fits h.right hb k' hk'
theorem FrL_chain {p : List Nat} (nd : p.Nodup) : ∀ {ks : List PT} {o : Nat} {l : List Nat}, At p o l → FrL ks l → chain p ks
  | [], _, _, _, _ => fun i hi => absurd hi (Nat.not_lt_zero _)
  | [k], _, _, _, _ => fun i hi => absurd hi (Nat.not_lt_zero _)
  | k :: k2 :: ks, o, l, h, hf => by
    obtain ⟨a, b, rfl, ha, hb⟩ := hf
    intro i hi
    match i with
    | 0 =>
      obtain ⟨c, d, rfl, hc, hd⟩ := hb
      rw [← List.append_assoc] at h
      exact h.left.bef nd (Fr_perm ha) (Fr_perm hc)
    | i + 1 => exact FrL_chain nd h.right hb i (by simp only [List.length_cons] at hi ⊢; omega)
theorem At.le {p l : List Nat} {o : Nat} (h : At p o l) (h0 : l ≠ []) : o + l.length ≤ p.length := by
  have hp := List.length_pos_iff.2 h0
  have h1 := h (l.length - 1) (by omega)
  rw [List.getElem?_eq_getElem (l := l) (by omega)] at h1
  have := (List.getElem?_eq_some_iff.1 h1).1
  omega
def down (p : List Nat) (ks : List PT) : Prop := ∀ i, i < ks.length - 1 → Bef p (lvs (ks.getD (i + 1) default)) (lvs (ks.getD i default))
theorem getD_revP {l : List PT} {i : Nat} (h : i < l.length) : l.reverse.getD i default = l.getD (l.length - 1 - i) default := by
  rw [List.getD_eq_getElem?_getD, List.getElem?_reverse h, List.getD_eq_getElem?_getD]
theorem down_rev {p : List Nat} {ks : List PT} : down p ks ↔ chain p ks.reverse := by
  have hr : ks.reverse.length = ks.length := List.length_reverse
  constructor
  · intro h i hi
    rw [hr] at hi
    rw [getD_revP (by omega), getD_revP (by omega)]
    have := h (ks.length - 1 - (i + 1)) (by omega)
    rwa [show ks.length - 1 - (i + 1) + 1 = ks.length - 1 - i from by omega] at this
  · intro h i hi
    have := h (ks.length - 1 - (i + 1)) (by omega)
    rw [getD_revP (by omega), getD_revP (by omega)] at this
    rwa [show ks.length - 1 - (ks.length - 1 - (i + 1)) = i + 1 from by omega, show ks.length - 1 - (ks.length - 1 - (i + 1) + 1) = i from by omega] at this
/-- A node allows an order exactly if its leaves stand together, its kids allow it, and a line's kids follow each other in it. -/
theorem fits_nd {p : List Nat} (nd : p.Nodup) {q : Bool} {ks : List PT} (ok : Ok (.nd q ks)) (hn : (lvs (.nd q ks)).Nodup) (hs : ∀ x ∈ lvs (.nd q ks), x ∈ p) {lo hi : Nat} (hR : Rch p (lvs (.nd q ks)) lo hi) :
    Fits p (.nd q ks) ↔ hi - lo + 1 = (lvs (.nd q ks)).length ∧ (∀ k ∈ ks, Fits p k) ∧ (q = false ∨ chain p ks ∨ down p ks) := by
  have hk := ok.kids
  have h2 := ok.two
  have hne : ks.flatMap lvs ≠ [] := flat_ne hk (by rintro rfl; simp at h2)
  constructor
  · rintro ⟨o, l, h1, hf⟩
    have h3 := hR.uniq (h1.rch nd (Fr_perm hf) (by rw [lvs_nd]; exact hne))
    have hpos := List.length_pos_iff.2 hne
    refine ⟨by rw [h3.1, h3.2, lvs_nd]; omega, ?_⟩
    cases q with
    | true =>
      rcases (Fr_Q ks l).1 hf with hf | hf
      · exact ⟨FrL_fits h1 hf, .inr (.inl (FrL_chain nd h1 hf))⟩
      · exact ⟨fun k hk => FrL_fits h1 hf k (List.mem_reverse.2 hk), .inr (.inr (down_rev.2 (FrL_chain nd h1 hf)))⟩
    | false =>
      obtain ⟨ks', hp, hf⟩ := (Fr_P ks l).1 hf
      exact ⟨fun k hk => FrL_fits h1 hf k (hp.mem_iff.2 hk), .inl rfl⟩
  · rintro ⟨hc, hF, hq⟩
    have hG := hR.rng hn hs hc
    have hb : lo + (lvs (.nd q ks)).length ≤ p.length := by
      obtain ⟨y, hy, e⟩ := hR.high
      have := List.idxOf_lt_length_of_mem (hs y hy)
      have := hR.le
      omega
    rw [lvs_nd] at hn hG hb
    cases q with
    | false =>
      obtain ⟨ks', l, hp, h1, h3⟩ := any_of nd _ rfl hk hF hn hb hG
      exact ⟨lo, l, h1, (Fr_P ks l).2 ⟨ks', hp, h3⟩⟩
    | true =>
      rcases hq.resolve_left (by simp) with hq | hq
      · obtain ⟨l, h1, h3⟩ := line_of nd hq hk hF hn hb hG
        exact ⟨lo, l, h1, (Fr_Q ks l).2 (.inl h3)⟩
      · have pm : (ks.reverse.flatMap lvs).Perm (ks.flatMap lvs) := (List.reverse_perm ks).flatMap_right lvs
        obtain ⟨l, h1, h3⟩ := line_of nd (o := lo) (down_rev.1 hq) (fun k hk' => hk k (List.mem_reverse.1 hk')) (fun k hk' => hF k (List.mem_reverse.1 hk')) (pm.nodup_iff.2 hn) (by rw [pm.length_eq]; exact hb) (fun x => by rw [pm.mem_iff, pm.length_eq]; exact hG x)
        exact ⟨lo, l, h1, (Fr_Q ks l).2 (.inr h3)⟩
theorem fits_leaf {p : List Nat} {n : Nat} (h : n ∈ p) : Fits p (.leaf n) := ⟨p.idxOf n, [n], fun i hi => by
  obtain rfl : i = 0 := by simp at hi; exact hi
  rw [Nat.add_zero, at_idx h]; rfl, rfl⟩
theorem fits_root {p : List Nat} {t : PT} (h : p.Perm (lvs t)) : Fits p t ↔ Fr t p := by
  constructor
  · rintro ⟨o, l, h1, hf⟩
    have e : l.length = p.length := by rw [(Fr_perm hf).length_eq, h.length_eq]
    by_cases c : l = []
    · subst c
      obtain rfl := List.length_eq_zero_iff.1 e.symm
      exact hf
    · have := h1.le c
      obtain rfl : o = 0 := by omega
      have : l = p := List.ext_getElem? fun i => by
        by_cases hi : i < l.length
        · have := h1 i hi
          rw [Nat.zero_add] at this
          exact this.symm
        · rw [List.getElem?_eq_none (by omega), List.getElem?_eq_none (by omega)]
      rw [← this]; exact hf
  · exact fun hf => ⟨0, p, fun i _ => by rw [Nat.zero_add], hf⟩
end Go.Fw.Pq
