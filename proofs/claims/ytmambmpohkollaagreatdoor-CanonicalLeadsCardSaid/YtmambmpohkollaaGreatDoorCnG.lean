/- Chapter 16: maps of matrices: the first one and their number, as the program and as the reference find them. Plain. -/
import Derived.Test.YtmambmpohkollaaGreatDoorCnF
namespace Go.Fw.Cn
open Go Go.RowKit Go.Fw
theorem ordF_head (n : Nat) : ∀ k, k ≤ n → (ordF n k).head? = some (List.range k)
  | 0, _ => rfl
  | k + 1, h => by
    have ih := ordF_head n k (by omega)
    obtain ⟨L, hL⟩ : ∃ L, ordF n k = List.range k :: L := by
      cases e : ordF n k with
      | nil => rw [e] at ih; cases ih
      | cons a L => rw [e] at ih; rw [List.head?_cons] at ih; exact ⟨L, by rw [Option.some.inj ih]⟩
    rw [ordF, hL, List.flatMap_cons, List.head?_append]
    have : (ext n (List.range k)).head? = some (List.range k ++ [k]) := by
      unfold ext
      rw [List.head?_map, List.head?_filter, show n = k + (n - k) by omega, List.range_add, List.find?_append, List.find?_eq_none.2 (fun u hu => by simpa using hu), Option.none_or]
      obtain ⟨m, hm⟩ : ∃ m, n - k = m + 1 := ⟨n - k - 1, by omega⟩
      rw [hm, List.range_succ_eq_map, List.map_cons, List.find?_cons_of_pos (by simp)]
      rfl
    rw [this, List.range_succ]; rfl
theorem ordF_first (n : Nat) : (ordF n n).getD 0 [] = List.range n := by
  have := ordF_head n n (Nat.le_refl _)
  cases e : ordF n n with
  | nil => rw [e] at this; cases this
  | cons a L => rw [e] at this; simpa using this
theorem pre_range (n : Nat) : Pre n n (List.range n) := pre_of_perm (.refl _)
theorem hdtl : ∀ {D D' : List (List Int)}, (∀ c ∈ D, c ≠ []) → (∀ c ∈ D', c ≠ []) → hd D = hd D' → tl D = tl D' → D = D'
  | [], [], _, _, _, _ => rfl
  | [], _ :: _, _, _, h, _ => by simp [hd] at h
  | _ :: _, [], _, _, h, _ => by simp [hd] at h
  | a :: D, b :: D', h1, h2, h3, h4 => by
    have e1 : a.headD 0 = b.headD 0 := (List.cons.inj h3).1
    have e2 : a.tail = b.tail := (List.cons.inj h4).1
    have ha := h1 a List.mem_cons_self
    have hb := h2 b List.mem_cons_self
    cases a with
    | nil => exact absurd rfl ha
    | cons x a =>
      cases b with
      | nil => exact absurd rfl hb
      | cons y b =>
        have e1 : x = y := e1
        have e2 : a = b := e2
        rw [e1, e2, hdtl (fun c hc => h1 c (List.mem_cons_of_mem _ hc)) (fun c hc => h2 c (List.mem_cons_of_mem _ hc)) (List.cons.inj h3).2 (List.cons.inj h4).2]
theorem fl_inj : ∀ {h : Nat} {D D' : List (List Int)}, (∀ c ∈ D, c.length = h) → (∀ c ∈ D', c.length = h) → D.length = D'.length → fl h D = fl h D' → D = D'
  | 0, D, D', h1, h2, hl, _ => by
    refine List.ext_getElem hl fun i a b => ?_
    rw [List.eq_nil_of_length_eq_zero (h1 _ (List.getElem_mem a)), List.eq_nil_of_length_eq_zero (h2 _ (List.getElem_mem b))]
  | h + 1, D, D', h1, h2, hl, he => by
    rw [fl, fl] at he
    obtain ⟨e1, e2⟩ := List.append_inj he (by rw [hd_len, hd_len, hl])
    have ht : ∀ {E : List (List Int)}, (∀ c ∈ E, c.length = h + 1) → ∀ c ∈ tl E, c.length = h := fun hE c hc => by
      obtain ⟨x, hx, rfl⟩ := List.mem_map.1 hc
      rw [List.length_tail, hE x hx]; rfl
    exact hdtl (fun c hc e => by have := h1 c hc; rw [e] at this; cases this) (fun c hc e => by have := h2 c hc; rw [e] at this; cases this) e1 (fl_inj (ht h1) (ht h2) (by rw [tl_len, tl_len, hl]) e2)
/-- A map from X to Y: the orders of rows and of columns lead the one matrix to the other one. -/
def mp (X Y : List (List Int)) (w : Nat) (p q : List Nat) : Prop := wr Y p q = wr X (List.range X.length) (List.range w)
instance (X Y : List (List Int)) (w : Nat) (p q : List Nat) : Decidable (mp X Y w p q) := inferInstanceAs (Decidable (_ = _))
section
variable {X Y : List (List Int)} {w : Nat}
theorem colP_range (M : List (List Int)) (w : Nat) (p : List Nat) : colP M w p = (List.range w).map fun c => colV M c p := rfl
theorem mp_good {p q : List Nat} (hp : Pre X.length X.length p) (hq : Pre w w q) : mp X Y w p q ↔ good (colP Y w p) (colP X w (List.range X.length)) q := by
  unfold mp good
  rw [hq.len, show List.take w (colP X w (List.range X.length)) = colP X w (List.range X.length) from List.take_of_length_le (by rw [colP_len]; exact Nat.le_refl _)]
  have hq2 : q.map (fun v => (colP Y w p).getD v []) = q.map fun c => colV Y c p := List.map_congr_left fun v hv => colP_get (hq.lt v hv)
  rw [hq2, colP_range]
  have h1 := fl_cols Y q p
  have h2 := fl_cols X (List.range w) (List.range X.length)
  rw [hp.len] at h1
  rw [List.length_range] at h2
  unfold wr
  rw [hp.len, hq.len, List.length_range, List.length_range, ← h1, ← h2]
  constructor
  · intro h
    refine fl_inj (h := X.length) (fun c hc => ?_) (fun c hc => ?_) (by rw [List.length_map, List.length_map, hq.len, List.length_range]) (List.cons.inj (List.cons.inj h).2).2
    · obtain ⟨v, _, rfl⟩ := List.mem_map.1 hc; rw [colV_len, hp.len]
    · obtain ⟨v, _, rfl⟩ := List.mem_map.1 hc; rw [colV_len, List.length_range]
  · intro h; rw [h]
/-! ## The first map -/
def FM (X Y : List (List Int)) (w : Nat) : Option (List Nat × List Nat) → Prop
  | none => ∀ i k, i < (ordF X.length X.length).length → k < (ordF w w).length → ¬ mp X Y w ((ordF X.length X.length).getD i []) ((ordF w w).getD k [])
  | some (p, q) => ∃ i k, i < (ordF X.length X.length).length ∧ k < (ordF w w).length ∧ p = (ordF X.length X.length).getD i [] ∧ q = (ordF w w).getD k [] ∧ mp X Y w p q ∧
      ∀ i' k', k' < (ordF w w).length → (i' < i ∨ i' = i ∧ k' < k) → ¬ mp X Y w ((ordF X.length X.length).getD i' []) ((ordF w w).getD k' [])
theorem FM.uniq : ∀ {o o' : Option (List Nat × List Nat)}, FM X Y w o → FM X Y w o' → o = o'
  | none, none, _, _ => rfl
  | none, some (p, q), h, ⟨i, k, h1, h2, h3, h4, h5, _⟩ => absurd (by rw [← h3, ← h4]; exact h5) (h i k h1 h2)
  | some (p, q), none, ⟨i, k, h1, h2, h3, h4, h5, _⟩, h => absurd (by rw [← h3, ← h4]; exact h5) (h i k h1 h2)
  | some (p, q), some (p', q'), ⟨i, k, h1, h2, h3, h4, h5, h6⟩, ⟨i', k', h1', h2', h3', h4', h5', h6'⟩ => by
    have e : i = i' ∧ k = k' := by
      rcases Nat.lt_trichotomy i i' with h | h | h
      · exact absurd (by rw [← h3, ← h4]; exact h5) (h6' i k h2 (.inl h))
      · rcases Nat.lt_trichotomy k k' with h' | h' | h'
        · exact absurd (by rw [← h3, ← h4]; exact h5) (h6' i k h2 (.inr ⟨h, h'⟩))
        · exact ⟨h, h'⟩
        · exact absurd (by rw [← h3', ← h4']; exact h5') (h6 i' k' h2' (.inr ⟨h.symm, h'⟩))
      · exact absurd (by rw [← h3', ← h4']; exact h5') (h6 i' k' h2' (.inl h))
    rw [h3, h4, h3', h4', e.1, e.2]
theorem FM.mp {p q : List Nat} (h : FM X Y w (some (p, q))) : Pre X.length X.length p ∧ Pre w w q ∧ mp X Y w p q := by
  obtain ⟨i, k, h1, h2, rfl, rfl, h5, _⟩ := h
  exact ⟨ord_get h1, ord_get h2, h5⟩
theorem FM.none_iff {o : Option (List Nat × List Nat)} (h : FM X Y w o) : o = none ↔ ∀ p q, Pre X.length X.length p → Pre w w q → ¬ Cn.mp X Y w p q := by
  constructor
  · rintro rfl p q hp hq hm
    obtain ⟨i, hi, e1⟩ := List.mem_iff_getElem.1 (mem_ordF.2 hp)
    obtain ⟨k, hk, e2⟩ := List.mem_iff_getElem.1 (mem_ordF.2 hq)
    refine h i k hi hk ?_
    rw [List.getD_eq_getElem?_getD, List.getElem?_eq_getElem hi, List.getD_eq_getElem?_getD, List.getElem?_eq_getElem hk]
    rw [← e1, ← e2] at hm; exact hm
  · intro h2
    cases o with
    | none => rfl
    | some x =>
      obtain ⟨p, q⟩ := x
      obtain ⟨a, b, c⟩ := h.mp
      exact absurd c (h2 p q a b)
/-- One step of the program's search for a map. -/
def mpS (X Y : List (List Int)) (w : Nat) (s : Option (List Nat × List Nat)) (p : List Nat) : Option (List Nat × List Nat) × Bool :=
  match mt (colP Y w p) (colP X w (List.range X.length)) w w with
  | some q => (some (p, q), false)
  | none => (s, true)
theorem mt_G {p : List Nat} : mt (colP Y w p) (colP X w (List.range X.length)) w w = (G (colP Y w p) (colP X w (List.range X.length)) w w).head? :=
  mt_head (colP_len _ _ _) (by rw [colP_len]; exact Nat.le_refl _)
theorem G_mp {p : List Nat} (hp : Pre X.length X.length p) : G (colP Y w p) (colP X w (List.range X.length)) w w = (ordF w w).filter fun q => decide (mp X Y w p q) := by
  rw [G_eq (by rw [colP_len]; exact Nat.le_refl _)]
  exact List.filter_congr fun q hq => decide_eq_decide.2 (mp_good hp (mem_ordF.1 hq)).symm
theorem mt_none {p : List Nat} (hp : Pre X.length X.length p) (h : mt (colP Y w p) (colP X w (List.range X.length)) w w = none) : ∀ k, k < (ordF w w).length → ¬ mp X Y w p ((ordF w w).getD k []) := by
  rw [mt_G, G_mp hp, List.head?_eq_none_iff, List.filter_eq_nil_iff] at h
  intro k hk hm
  rw [List.getD_eq_getElem?_getD, List.getElem?_eq_getElem hk] at hm
  exact h _ (List.getElem_mem hk) (decide_eq_true hm)
theorem find_first {α : Type} {p : α → Bool} : ∀ {l : List α} {a : α} (d : α), l.find? p = some a → ∃ k, k < l.length ∧ l.getD k d = a ∧ p a = true ∧ ∀ j, j < k → p (l.getD j d) = false
  | [], _, _, h => by cases h
  | b :: l, a, d, h => by
    rw [List.find?_cons] at h
    split at h
    · rename_i hb
      cases h
      exact ⟨0, by simp, rfl, hb, fun j hj => absurd hj (Nat.not_lt_zero _)⟩
    · rename_i hb
      obtain ⟨k, h1, h2, h3, h4⟩ := find_first d h
      refine ⟨k + 1, by simpa using h1, by simpa using h2, h3, fun j hj => ?_⟩
      cases j with
      | zero => exact hb
      | succ j => simpa using h4 j (by omega)
theorem mt_some {p q : List Nat} (hp : Pre X.length X.length p) (h : mt (colP Y w p) (colP X w (List.range X.length)) w w = some q) : ∃ k, k < (ordF w w).length ∧ q = (ordF w w).getD k [] ∧ mp X Y w p q ∧ ∀ k', k' < k → ¬ mp X Y w p ((ordF w w).getD k' []) := by
  rw [mt_G, G_mp hp, List.head?_filter] at h
  obtain ⟨k, h1, h2, h3, h4⟩ := find_first [] h
  exact ⟨k, h1, h2.symm, of_decide_eq_true h3, fun k' hk' => of_decide_eq_false (h4 k' hk')⟩
theorem mpS_fold : ∀ {L L0 : List (List Nat)}, L0 ++ L = ordF X.length X.length → (∀ i k, i < L0.length → k < (ordF w w).length → ¬ mp X Y w ((ordF X.length X.length).getD i []) ((ordF w w).getD k [])) →
    ∃ o, foldS (mpS X Y w) none L = (o, o.isNone) ∧ FM X Y w o
  | [], L0, e, h => ⟨none, rfl, fun i k hi hk => h i k (by rw [← e, List.append_nil] at hi; exact hi) hk⟩
  | p :: L, L0, e, h => by
    have hi : L0.length < (ordF X.length X.length).length := by rw [← e]; simp
    have hp0 : (ordF X.length X.length).getD L0.length [] = p := by rw [← e]; simp
    have hp : Pre X.length X.length p := by rw [← hp0]; exact ord_get hi
    cases hm : mt (colP Y w p) (colP X w (List.range X.length)) w w with
    | none =>
      have hs : mpS X Y w none p = (none, true) := by unfold mpS; rw [hm]
      obtain ⟨o, h1, h2⟩ := mpS_fold (L := L) (L0 := L0 ++ [p]) (by rw [← e]; simp) fun i k hi hk => by
        rcases Nat.lt_or_ge i L0.length with h3 | h3
        · exact h i k h3 hk
        · have : i = L0.length := by rw [List.length_append] at hi; simp at hi; omega
          rw [this, hp0]; exact mt_none hp hm k hk
      exact ⟨o, by rw [foldS, hs, if_pos rfl]; exact h1, h2⟩
    | some q =>
      have hs : mpS X Y w none p = (some (p, q), false) := by unfold mpS; rw [hm]
      obtain ⟨k, h1, h2, h3, h4⟩ := mt_some hp hm
      refine ⟨some (p, q), by rw [foldS, hs, if_neg Bool.false_ne_true]; rfl, L0.length, k, hi, h1, hp0.symm, h2, h3, fun i' k' hk' hh => ?_⟩
      rcases hh with hh | ⟨rfl, hh⟩
      · exact h i' k' hh hk'
      · rw [hp0]; exact h4 k' hh
theorem mpS_all (X Y : List (List Int)) (w : Nat) : ∃ o, foldS (mpS X Y w) none (ordF X.length X.length) = (o, o.isNone) ∧ FM X Y w o :=
  mpS_fold (L0 := []) rfl fun i _ hi => absurd hi (Nat.not_lt_zero i)
/-! ## How many -/
def nmP (X Y : List (List Int)) (w : Nat) (p : List Nat) : Nat := ((ordF w w).filter fun q => decide (mp X Y w p q)).length
/-- The number of maps. -/
def nM (X Y : List (List Int)) (w : Nat) : Nat := ((ordF X.length X.length).map (nmP X Y w)).sum
def syS (X : List (List Int)) (w : Nat) (n : Nat) (p : List Nat) : Nat × Bool :=
  (if (mt (colP X w p) (colP X w (List.range X.length)) w w).isSome then n + facA (colP X w (List.range X.length)) (colP X w (List.range X.length)).length else n, true)
theorem facA_pos (l : List (List Int)) : ∀ i, 0 < facA l i
  | 0 => Nat.one_pos
  | i + 1 => Nat.mul_pos (facA_pos l i) (by omega)
theorem syS_eq {p : List Nat} (hp : Pre X.length X.length p) (n : Nat) : syS X w n p = (n + nmP X X w p, true) := by
  unfold syS nmP
  have h1 := mt_G (X := X) (Y := X) (w := w) (p := p)
  have h2 := G_mp (X := X) (Y := X) (w := w) hp
  rw [← h2]
  by_cases hc : (colP X w p).Perm (colP X w (List.range X.length))
  · have h3 := G_all (n := w) (colP_len X w p) hc
    rw [colP_len] at h3
    have h4 := facA_pos (colP X w (List.range X.length)) w
    have h5 : (G (colP X w p) (colP X w (List.range X.length)) w w).head?.isSome = true := by
      cases e : G (colP X w p) (colP X w (List.range X.length)) w w with
      | nil => rw [e] at h3; simp at h3; omega
      | cons a l => rfl
    rw [h1, if_pos h5, colP_len, h3]
  · have h3 : G (colP X w p) (colP X w (List.range X.length)) w w = [] := by
      cases e : G (colP X w p) (colP X w (List.range X.length)) w w with
      | nil => rfl
      | cons q l => exact absurd (G_perm (n := w) (p := q) (colP_len _ _ _) (colP_len _ _ _) (by rw [colP_len, e]; exact List.mem_cons_self)) hc
    rw [h1, h3]; rfl
theorem syS_fold : ∀ {L : List (List Nat)} (n : Nat), (∀ p ∈ L, Pre X.length X.length p) → foldS (syS X w) n L = (n + (L.map (nmP X X w)).sum, true)
  | [], _, _ => rfl
  | p :: L, n, h => by
    rw [foldS, syS_eq (h p List.mem_cons_self), if_pos rfl, syS_fold _ fun q hq => h q (List.mem_cons_of_mem _ hq), List.map_cons, List.sum_cons, Nat.add_assoc]
theorem syS_all (X : List (List Int)) (w : Nat) : foldS (syS X w) 0 (ordF X.length X.length) = (nM X X w, true) := by
  rw [syS_fold 0 fun p hp => mem_ordF.1 hp, Nat.zero_add]; rfl
/-- Where the reference stands: what it has counted, and the first map of what it has seen. -/
def nTo (X Y : List (List Int)) (w i k : Nat) : Nat := (((ordF X.length X.length).take i).map (nmP X Y w)).sum + (((ordF w w).take k).filter fun q => decide (mp X Y w ((ordF X.length X.length).getD i []) q)).length
theorem nTo_zero : nTo X Y w 0 0 = 0 := by unfold nTo; simp
theorem takeL_succ {l : List (List Nat)} {k : Nat} (h : k < l.length) : l.take (k + 1) = l.take k ++ [l.getD k []] := by
  rw [List.take_add_one, List.getD_eq_getElem?_getD, List.getElem?_eq_getElem h]; rfl
theorem nTo_step {i k : Nat} (hk : k < (ordF w w).length) : nTo X Y w i (k + 1) = nTo X Y w i k + if mp X Y w ((ordF X.length X.length).getD i []) ((ordF w w).getD k []) then 1 else 0 := by
  unfold nTo
  rw [takeL_succ hk, List.filter_append, List.length_append, ← Nat.add_assoc]
  congr 1
  by_cases hm : mp X Y w ((ordF X.length X.length).getD i []) ((ordF w w).getD k [])
  · rw [if_pos hm, List.filter_cons_of_pos (p := fun q => decide (mp X Y w ((ordF X.length X.length).getD i []) q)) (decide_eq_true hm)]; rfl
  · rw [if_neg hm, List.filter_cons_of_neg (p := fun q => decide (mp X Y w ((ordF X.length X.length).getD i []) q)) (by simpa using hm)]; rfl
theorem nTo_row {i : Nat} (hi : i < (ordF X.length X.length).length) : nTo X Y w (i + 1) 0 = nTo X Y w i (ordF w w).length := by
  unfold nTo
  rw [takeL_succ hi, List.map_append, List.sum_append, List.take_length, List.take_zero]
  simp [nmP]
theorem nTo_all : nTo X Y w (ordF X.length X.length).length 0 = nM X Y w := by
  unfold nTo nM
  rw [List.take_length, List.take_zero]; simp
def FTo (X Y : List (List Int)) (w i k : Nat) : Option (List Nat × List Nat) → Prop
  | none => ∀ i' k', i' < (ordF X.length X.length).length → k' < (ordF w w).length → (i' < i ∨ i' = i ∧ k' < k) → ¬ mp X Y w ((ordF X.length X.length).getD i' []) ((ordF w w).getD k' [])
  | some x => FM X Y w (some x)
theorem FTo.zero : FTo X Y w 0 0 none := fun _ _ _ _ h => by omega
theorem FTo.no {i k : Nat} {o : Option (List Nat × List Nat)} (h : FTo X Y w i k o) (hm : ¬ mp X Y w ((ordF X.length X.length).getD i []) ((ordF w w).getD k [])) : FTo X Y w i (k + 1) o := by
  cases o with
  | some x => exact h
  | none =>
    intro i' k' h1 h2 h3
    by_cases e : i' = i ∧ k' = k
    · rw [e.1, e.2]; exact hm
    · exact h i' k' h1 h2 (by omega)
theorem FTo.yes {i k : Nat} (h : FTo X Y w i k none) (hi : i < (ordF X.length X.length).length) (hk : k < (ordF w w).length) (hm : mp X Y w ((ordF X.length X.length).getD i []) ((ordF w w).getD k [])) :
    FTo X Y w i (k + 1) (some ((ordF X.length X.length).getD i [], (ordF w w).getD k [])) :=
  ⟨i, k, hi, hk, rfl, rfl, hm, fun i' k' h1 h2 => h i' k' (by omega) h1 h2⟩
theorem FTo.keep {i k i' k' : Nat} {x : List Nat × List Nat} (h : FTo X Y w i k (some x)) : FTo X Y w i' k' (some x) := h
theorem FTo.row {i : Nat} {o : Option (List Nat × List Nat)} (h : FTo X Y w i (ordF w w).length o) : FTo X Y w (i + 1) 0 o := by
  cases o with
  | some x => exact h
  | none => exact fun i' k' h1 h2 h3 => h i' k' h1 h2 (by omega)
theorem FTo.done {o : Option (List Nat × List Nat)} (h : FTo X Y w (ordF X.length X.length).length 0 o) : FM X Y w o := by
  cases o with
  | some x => exact h
  | none => exact fun i k hi hk => h i k hi hk (.inl hi)
theorem sum_zero : ∀ {l : List Nat}, (∀ x ∈ l, x = 0) → l.sum = 0
  | [], _ => rfl
  | a :: l, h => by rw [List.sum_cons, h a List.mem_cons_self, sum_zero fun x hx => h x (List.mem_cons_of_mem _ hx)]
theorem FTo.cnt {i k : Nat} {o : Option (List Nat × List Nat)} (h : FTo X Y w i k o) (hi : i < (ordF X.length X.length).length) (hk : k ≤ (ordF w w).length) (ho : ∀ x, o = some x → 0 < nTo X Y w i k) : nTo X Y w i k = 0 ↔ o = none := by
  cases o with
  | some x => exact ⟨fun e => absurd e (by have := ho x rfl; omega), fun e => by cases e⟩
  | none =>
    refine ⟨fun _ => rfl, fun _ => ?_⟩
    unfold nTo
    have h1 : (((ordF X.length X.length).take i).map (nmP X Y w)).sum = 0 := by
      refine sum_zero fun x hx => ?_
      obtain ⟨p, hp, rfl⟩ := List.mem_map.1 hx
      obtain ⟨j, hj, e⟩ := List.mem_iff_getElem.1 hp
      rw [List.length_take] at hj
      unfold nmP
      rw [List.length_eq_zero_iff, List.filter_eq_nil_iff]
      intro q hq hd
      obtain ⟨l, hl, e2⟩ := List.mem_iff_getElem.1 hq
      refine h j l (by omega) hl (.inl (by omega)) ?_
      rw [List.getD_eq_getElem?_getD, List.getElem?_eq_getElem (by omega), List.getD_eq_getElem?_getD, List.getElem?_eq_getElem hl]
      rw [List.getElem_take] at e
      rw [← e, ← e2] at hd
      exact of_decide_eq_true hd
    rw [h1, Nat.zero_add, List.length_eq_zero_iff, List.filter_eq_nil_iff]
    intro q hq hd
    obtain ⟨l, hl, e2⟩ := List.mem_iff_getElem.1 hq
    rw [List.length_take] at hl
    refine h i l hi (by omega) (.inr ⟨rfl, by omega⟩) ?_
    rw [List.getD_eq_getElem?_getD (l := ordF w w), List.getElem?_eq_getElem (show l < (ordF w w).length by omega)]
    rw [List.getElem_take] at e2
    rw [← e2] at hd
    exact of_decide_eq_true hd
end
end Go.Fw.Cn
