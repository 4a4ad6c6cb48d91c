/- Chapter 28: the reference's own sorts: the first order, the text. -/
import Derived.Test.YtjkbamfcoiikmaaGreatDoorPqO
import Derived.Test.YtjkbamfcoiikmaaGreatDoorRfA
namespace Go.Fw.Pq
open Go Go.RowKit Go.Fw
/-- Whether one list of numbers stands before another one. -/
def LsR (a b : List Int) (r : Bool) : Prop :=
  (∃ i, i < a.length ∧ i < b.length ∧ (∀ j, j < i → a.getD j 0 = b.getD j 0) ∧ a.getD i 0 ≠ b.getD i 0 ∧ (r = true ↔ a.getD i 0 < b.getD i 0)) ∨
    ((∀ j, j < a.length → j < b.length → a.getD j 0 = b.getD j 0) ∧ (r = true ↔ a.length < b.length))
theorem LsR.head {a b : List Int} {r : Bool} (h : LsR a b r) (ha : a ≠ []) (hb : b ≠ []) (hne : hdI a ≠ hdI b) : r = true ↔ hdI a < hdI b := by
  rw [← hdI_getD, ← hdI_getD] at *
  have la := List.length_pos_iff.2 ha
  have lb := List.length_pos_iff.2 hb
  rcases h with ⟨i, h1, h2, h3, h4, h5⟩ | ⟨h1, _⟩
  · cases i with
    | zero => exact h5
    | succ i => exact absurd (h3 0 (by omega)) hne
  · exact absurd (h1 0 la lb) hne
theorem LsR.same {a : List Int} {r : Bool} (h : LsR a a r) : r = false := by
  rcases h with ⟨i, _, _, _, h4, _⟩ | ⟨_, h⟩
  · exact absurd rfl h4
  · cases r with
    | false => rfl
    | true => exact absurd (h.1 rfl) (Nat.lt_irrefl _)
structure HdD (l : List Rw) : Prop where
  ne : ∀ r ∈ l, r.L ≠ []
  nd : (l.map fun r => hdI r.L).Nodup
theorem HdD.inj {l : List Rw} (h : HdD l) {i j : Nat} (hi : i < l.length) (hj : j < l.length) (e : hdI (l.getD i dR).L = hdI (l.getD j dR).L) : i = j := by
  have h1 := h.nd
  refine (List.getElem_inj (h₀ := by rw [List.length_map]; exact hi) (h₁ := by rw [List.length_map]; exact hj) h1).1 ?_
  rw [List.getElem_map, List.getElem_map]
  rw [List.getD_eq_getElem?_getD, List.getD_eq_getElem?_getD, List.getElem?_eq_getElem hi, List.getElem?_eq_getElem hj] at e
  exact e
theorem HdD.lt {l : List Rw} (h : HdD l) {i j : Nat} (hi : i < l.length) (hj : j < l.length) {r : Bool} (hr : LsR (l.getD i dR).L (l.getD j dR).L r) : r = true ↔ hdI (l.getD i dR).L < hdI (l.getD j dR).L := by
  by_cases c : i = j
  · subst c
    rw [hr.same]
    exact ⟨fun h => absurd h (by decide), fun h => absurd h (Int.lt_irrefl _)⟩
  · exact hr.head (h.ne _ (rw_mem hi)) (h.ne _ (rw_mem hj)) fun e => c (h.inj hi hj e)
def Mn (l : List Rw) (k i : Nat) : Prop := k < l.length ∧ ∀ j, j < i → hdI (l.getD k dR).L ≤ hdI (l.getD j dR).L
theorem Mn.yes {l : List Rw} {k i : Nat} (h : Mn l k i) (hi : i < l.length) (hl : hdI (l.getD i dR).L < hdI (l.getD k dR).L) : Mn l i (i + 1) := ⟨hi, fun j hj => by
  by_cases c : j = i
  · subst c; exact Int.le_refl _
  · have := h.2 j (by omega); omega⟩
theorem Mn.no {l : List Rw} {k i : Nat} (h : Mn l k i) (hl : ¬ hdI (l.getD i dR).L < hdI (l.getD k dR).L) : Mn l k (i + 1) := ⟨h.1, fun j hj => by
  by_cases c : j = i
  · subst c; omega
  · exact h.2 j (by omega)⟩
theorem splitR {l : List Rw} {k : Nat} (h : k < l.length) : l = l.take k ++ l.getD k dR :: l.drop (k + 1) := by
  rw [List.getD_eq_getElem?_getD, List.getElem?_eq_getElem h, Option.getD_some, ← List.drop_eq_getElem_cons h, List.take_append_drop]
structure SS (P D l : List Rw) : Prop where
  perm : (D ++ l).Perm P
  le : ∀ d ∈ D, ∀ x ∈ l, hdI d.L ≤ hdI x.L
  srt : D.Pairwise fun a b => hdI a.L ≤ hdI b.L
theorem SS.zero (P : List Rw) : SS P [] P := ⟨.refl _, (fun _ h => by cases h), .nil⟩
theorem SS.step {P D l : List Rw} {k : Nat} (h : SS P D l) (hk : Mn l k l.length) : SS P (D ++ [l.getD k dR]) (l.take k ++ l.drop (k + 1)) := by
  have hs := splitR hk.1
  have hsub : ∀ x ∈ l.take k ++ l.drop (k + 1), x ∈ l := fun x hx => (List.mem_append.1 hx).elim List.mem_of_mem_take List.mem_of_mem_drop
  refine ⟨?_, fun d hd x hx => ?_, ?_⟩
  · refine List.Perm.trans ?_ h.perm
    rw [List.append_assoc]
    refine List.Perm.append_left D ?_
    conv => rhs; rw [hs]
    rw [List.singleton_append]
    exact List.perm_middle.symm
  · rcases List.mem_append.1 hd with hd | hd
    · exact h.le d hd x (hsub x hx)
    · rw [List.mem_singleton.1 hd]
      obtain ⟨j, hj, rfl⟩ := List.mem_iff_getElem.1 (hsub x hx)
      have := hk.2 j hj
      rw [List.getD_eq_getElem?_getD (i := j), List.getElem?_eq_getElem hj] at this
      exact this
  · rw [List.pairwise_append]
    exact ⟨h.srt, List.pairwise_singleton _ _, fun a ha b hb => by
      rw [List.mem_singleton.1 hb]
      exact h.le a ha _ (rw_mem hk.1)⟩
theorem SS.done {P D : List Rw} (h : SS P D []) : D.Perm P ∧ ∀ i j, i < j → j < D.length → hdI (D.getD i dR).L ≤ hdI (D.getD j dR).L := by
  have hp := h.perm
  rw [List.append_nil] at hp
  refine ⟨hp, fun i j hij hj => ?_⟩
  have := List.pairwise_iff_getElem.1 h.srt i j (by omega) hj hij
  rw [List.getD_eq_getElem?_getD, List.getElem?_eq_getElem (show i < D.length by omega), List.getD_eq_getElem?_getD, List.getElem?_eq_getElem hj]
  exact this
theorem SS.mem {P D l : List Rw} (h : SS P D l) {r : Rw} (hr : r ∈ l) : r ∈ P := h.perm.mem_iff.1 (List.mem_append_right _ hr)
theorem SS.hd {P D l : List Rw} (h : SS P D l) (hP : HdD P) : HdD l := ⟨fun r hr => hP.ne r (h.mem hr), by
  have := (h.perm.map fun r => hdI r.L).nodup_iff.2 hP.nd
  rw [List.map_append, List.nodup_append] at this
  exact this.2.1⟩
theorem SS.sm {P D l : List Rw} (h : SS P D l) : Pq.sm D + Pq.sm l = Pq.sm P := by
  have := (h.perm.flatMap_right Rw.L).length_eq
  rw [List.flatMap_append, List.length_append] at this
  exact this
theorem SS.lenD {P D l : List Rw} (h : SS P D l) : D.length + l.length = P.length := by rw [← h.perm.length_eq, List.length_append]
theorem sm_get {l : List Rw} {k : Nat} (h : k < l.length) : (l.getD k dR).L.length + sm (l.take k ++ l.drop (k + 1)) = sm l := by
  conv => rhs; rw [splitR h]
  unfold sm
  rw [List.flatMap_append, List.flatMap_append, List.flatMap_cons, List.length_append, List.length_append, List.length_append]; omega
theorem hd_nodup {f : PT → Nat} (hf : ∀ k, Ok k → (lvs k).Nodup → f k ∈ lvs k) : ∀ {l : List PT}, (∀ k ∈ l, Ok k) → (l.flatMap lvs).Nodup → (l.map f).Nodup
  | [], _, _ => .nil
  | k :: l, ok, h => by
    rw [List.flatMap_cons, List.nodup_append] at h
    rw [List.map_cons, List.nodup_cons]
    refine ⟨fun hm => ?_, hd_nodup hf (fun x hx => ok x (List.mem_cons_of_mem _ hx)) h.2.1⟩
    obtain ⟨k', hk', e⟩ := List.mem_map.1 hm
    have n' := kid_nodup h.2.1 k' hk'
    exact h.2.2 _ (hf k (ok k List.mem_cons_self) h.1) _ (List.mem_flatMap.2 ⟨k', hk', hf k' (ok k' (List.mem_cons_of_mem _ hk')) n'⟩) e.symm
theorem PI.hd {ks : List AT} {P : List Rw} (h : PI ks ks.length P) (hf : ∀ k ∈ ks, Fit k) (hn : ((ks.map er).flatMap lvs).Nodup) : HdD P := by
  have hk : ∀ k ∈ ks, (lvs (er k)).Nodup := fun k hk => kid_nodup hn _ (List.mem_map_of_mem hk)
  refine ⟨fun r hr => h.ne hf hk hr, ?_⟩
  have hp := h.eq
  rw [some_all] at hp
  have e : (P.map fun r => hdI r.L) = ((ks.map er).map Pq.hd).map (fun n : Nat => (n : Int)) := by
    rw [show (fun r : Rw => hdI r.L) = hdI ∘ Rw.L from rfl, ← List.map_map, hp, List.map_map, List.map_map, List.map_map]
    refine List.map_congr_left fun k _ => ?_
    exact hdI_zs
  rw [e]
  have := hd_nodup (f := Pq.hd) (fun k o n => hd_mem o (fst_least o n).1) (okM hf) hn
  unfold List.Nodup at this ⊢
  rw [List.pairwise_map]
  exact this.imp fun hne e => hne (by omega)
/-! ## Sorting by the least leaf, by exchanging neighbours -/
abbrev lsA (t : AT) : Nat := lst (er t)
def IO (m : List AT) (i : Nat) : Prop := ∀ a b, a < b → b < i → lsA (m.getD a default) ≤ lsA (m.getD b default)
def II (m : List AT) (i k : Nat) : Prop := k ≤ i ∧ ∀ a b, a < b → b ≤ i → b ≠ k → lsA (m.getD a default) ≤ lsA (m.getD b default)
theorem II.zero {m : List AT} {i : Nat} (h : IO m i) : II m i i := ⟨Nat.le_refl _, fun a b h1 h2 h3 => h a b h1 (by omega)⟩
theorem II.stop0 {m : List AT} {i k : Nat} (h : II m i k) (hk : k = 0) : IO m (i + 1) := fun a b h1 h2 => h.2 a b h1 (by omega) (by omega)
theorem II.stop {m : List AT} {i k : Nat} (h : II m i k) (hk : 0 < k) (hn : ¬ lsA (m.getD k default) < lsA (m.getD (k - 1) default)) : IO m (i + 1) := fun a b h1 h2 => by
  by_cases c : b = k
  · subst c
    by_cases c2 : a = b - 1
    · subst c2; omega
    · have := h.2 a (b - 1) (by omega) (by have := h.1; omega) (by omega); omega
  · exact h.2 a b h1 (by omega) c
theorem II.swap {m : List AT} {i k : Nat} (h : II m i k) (hi : i < m.length) (hk : 0 < k) (hl : lsA (m.getD k default) < lsA (m.getD (k - 1) default)) : II ((m.set k (m.getD (k - 1) default)).set (k - 1) (m.getD k default)) i (k - 1) := by
  have hki := h.1
  refine ⟨by omega, fun a b h1 h2 h3 => ?_⟩
  have g : ∀ j, ((m.set k (m.getD (k - 1) default)).set (k - 1) (m.getD k default)).getD j default = if k - 1 = j then m.getD k default else if k = j then m.getD (k - 1) default else m.getD j default := fun j => by
    rw [getD_setA _ _ _ _ (by rw [List.length_set]; omega), getD_setA _ _ _ _ (by omega)]
  rw [g a, g b, if_neg (show ¬ k - 1 = b by omega)]
  by_cases c : k = b
  · rw [if_pos c]
    by_cases c2 : k - 1 = a
    · rw [if_pos c2]; omega
    · rw [if_neg c2, if_neg (by omega)]
      exact h.2 a (k - 1) (by omega) (by omega) (by omega)
  · rw [if_neg c]
    by_cases c2 : k - 1 = a
    · rw [if_pos c2]
      exact h.2 k b (by omega) h2 (by omega)
    · rw [if_neg c2]
      by_cases c3 : k = a
      · rw [if_pos c3]
        exact h.2 (k - 1) b (by omega) h2 (by omega)
      · rw [if_neg c3]
        exact h.2 a b h1 h2 (by omega)
theorem swap_perm : ∀ (k : Nat) (m : List AT), k + 1 < m.length → ((m.set (k + 1) (m.getD k default)).set k (m.getD (k + 1) default)).Perm m
  | _, [], h => absurd h (by simp)
  | _, [_], h => absurd h (by simp)
  | 0, a :: b :: m, _ => .swap a b m
  | k + 1, a :: b :: m, h => (swap_perm k (b :: m) (by simp only [List.length_cons] at h ⊢; omega)).cons a
theorem swap_perm' {k : Nat} {m : List AT} (hk : 0 < k) (h : k < m.length) : ((m.set k (m.getD (k - 1) default)).set (k - 1) (m.getD k default)).Perm m := by
  have := swap_perm (k - 1) m (by omega)
  rwa [show k - 1 + 1 = k from by omega] at this
end Go.Fw.Pq
