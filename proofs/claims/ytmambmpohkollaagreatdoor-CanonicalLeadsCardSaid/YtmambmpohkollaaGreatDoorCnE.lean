/- Chapter 16: what the program finds while it matches columns, counts equal ones, makes columns; orders visited one after the other. Plain. -/
import Derived.Test.YtmambmpohkollaaGreatDoorCnD
namespace Go.Fw.Cn
open Go Go.RowKit Go.Fw
theorem list_eq_of {L M : List Int} (hl : L.length = M.length) (h : ∀ j, j < L.length → L.getD j 0 = M.getD j 0) : L = M :=
  List.ext_getElem hl fun j h1 h2 => by
    have := h j h1
    rwa [List.getD_eq_getElem?_getD, List.getD_eq_getElem?_getD, List.getElem?_eq_getElem h1, List.getElem?_eq_getElem h2] at this
/-- Where the search for a column stands: k is equal, the ones before it that are equal are taken. -/
structure MK (C : List (List Int)) (x : List Int) (o : List Nat) (k : Nat) : Prop where
  lt : k < C.length
  eq : C.getD k [] = x
  bef : ∀ j, j < k → C.getD j [] = x → j ∈ o
theorem MK.step {C : List (List Int)} {x : List Int} {o : List Nat} {k r : Nat} (h : MK C x o k) (hk : k ∈ o) (h1 : r < (C.drop (k + 1)).length) (h2 : (C.drop (k + 1)).getD r [] = x) (h3 : ∀ j, j < r → (C.drop (k + 1)).getD j [] ≠ x) : MK C x o (k + (1 + r)) := by
  have hd : ∀ j, (C.drop (k + 1)).getD j [] = C.getD (k + (1 + j)) [] := fun j => by
    rw [List.getD_eq_getElem?_getD, List.getElem?_drop, List.getD_eq_getElem?_getD, show k + 1 + j = k + (1 + j) by omega]
  rw [List.length_drop] at h1
  refine ⟨by omega, by rw [← hd]; exact h2, fun j hj e => ?_⟩
  rcases Nat.lt_trichotomy j k with h4 | rfl | h4
  · exact h.bef j h4 e
  · exact hk
  · obtain ⟨i, rfl⟩ : ∃ i, j = k + (1 + i) := ⟨j - k - 1, by omega⟩
    rw [← hd] at e
    exact absurd e (h3 i (by omega))
theorem MK.none {C : List (List Int)} {x : List Int} {o : List Nat} {k : Nat} (h : MK C x o k) (hk : k ∈ o) (h3 : ∀ j, j < (C.drop (k + 1)).length → (C.drop (k + 1)).getD j [] ≠ x) : ∀ j, j < C.length → C.getD j [] = x → j ∈ o := by
  have hd : ∀ j, (C.drop (k + 1)).getD j [] = C.getD (k + (1 + j)) [] := fun j => by
    rw [List.getD_eq_getElem?_getD, List.getElem?_drop, List.getD_eq_getElem?_getD, show k + 1 + j = k + (1 + j) by omega]
  intro j hj e
  rcases Nat.lt_trichotomy j k with h4 | rfl | h4
  · exact h.bef j h4 e
  · exact hk
  · obtain ⟨i, rfl⟩ : ∃ i, j = k + (1 + i) := ⟨j - k - 1, by omega⟩
    rw [← hd] at e
    exact absurd e (h3 i (by rw [List.length_drop]; omega))
/-- What matching has found after i columns. -/
def MI (C own : List (List Int)) (i : Nat) (o : List Nat) : Prop := mt C own C.length i = some o ∧ o.length = i
theorem mt_len {C own : List (List Int)} {n : Nat} : ∀ {i : Nat} {o : List Nat}, mt C own n i = some o → o.length = i
  | 0, o, h => by cases h; rfl
  | i + 1, o, h => by
    rw [mt, Option.bind_eq_some_iff] at h
    obtain ⟨p, h1, h2⟩ := h
    rw [Option.map_eq_some_iff] at h2
    obtain ⟨v, _, rfl⟩ := h2
    rw [List.length_append, mt_len h1]; rfl
theorem MI.zero (C own : List (List Int)) : MI C own 0 [] := ⟨rfl, rfl⟩
theorem MI.step {C own : List (List Int)} {i k : Nat} {o : List Nat} (h : MI C own i o) (hk : MK C (own.getD i []) o k) (ho : k ∉ o) : MI C own (i + 1) (o ++ [k]) := by
  have h2 := h.2
  refine ⟨?_, by rw [List.length_append, h.2]; rfl⟩
  rw [mt, h.1, Option.bind_some, gx_first hk.lt (by unfold gv; rw [h2, hk.eq]; simp [ho]) (fun u hu => by
    unfold gv
    rw [h2]
    by_cases e : C.getD u [] = own.getD i []
    · simp [hk.bef u hu e]
    · rw [decide_eq_false (p := C.getD u [] = own.getD i []) e, Bool.and_false])]
  rfl
theorem MI.no {C own : List (List Int)} {i : Nat} {o : List Nat} (h : MI C own i o) (hn : ∀ j, j < C.length → C.getD j [] = own.getD i [] → j ∈ o) : ∀ {m}, i < m → mt C own C.length m = none := by
  have h2 := h.2
  intro m hm
  induction m with
  | zero => omega
  | succ m ih =>
    rcases Nat.lt_or_ge i m with h3 | h3
    · rw [mt, ih h3]; rfl
    · obtain rfl : i = m := by omega
      rw [mt, h.1, Option.bind_some, gx_none (fun u hu => by
        unfold gv
        rw [h2]
        by_cases e : C.getD u [] = own.getD i []
        · simp [hn u hu e]
        · rw [decide_eq_false (p := C.getD u [] = own.getD i []) e, Bool.and_false])]
      rfl
/-- The same with rows in memory: the index may be -1. -/
def KI (B : List Rw) (x : List Int) (o : List Nat) (r : Int) : Prop := (r = -1 ∧ ∀ j, j < (Rls B).length → (Rls B).getD j [] ≠ x) ∨ ∃ k : Nat, r = k ∧ MK (Rls B) x o k
theorem Rls_len (l : List Rw) : (Rls l).length = l.length := List.length_map _
theorem KI.of {B : List Rw} {x : List Int} {o : List Nat} {r : Int} (h : firstI (fun j => decide (x = (B.getD j dR).L)) B.length r) : KI B x o r := by
  rcases h with ⟨rfl, h⟩ | ⟨k, hk, rfl, h1, h2⟩
  · refine .inl ⟨rfl, fun j hj e => ?_⟩
    rw [Rls_len] at hj
    rw [← Rls_get hj] at e
    exact absurd e.symm (of_decide_eq_false (h j hj))
  · refine .inr ⟨k, rfl, by rw [Rls_len]; exact hk, by rw [← Rls_get hk]; exact (of_decide_eq_true h1).symm, fun j hj e => ?_⟩
    rw [← Rls_get (by omega)] at e
    exact absurd e.symm (of_decide_eq_false (h2 j hj))
theorem KI.le {B : List Rw} {x : List Int} {o : List Nat} {r : Int} (h : KI B x o r) : -1 ≤ r ∧ r < B.length := by
  rcases h with ⟨rfl, _⟩ | ⟨k, rfl, h⟩
  · omega
  · have := h.lt; rw [Rls_len] at this; omega
theorem KI.three {B : List Rw} {x : List Int} {o : List Nat} {r : Int} (h : KI B x o r) : (r = -1 ∧ ∀ j, j < (Rls B).length → (Rls B).getD j [] = x → j ∈ o) ∨ (∃ k : Nat, r = k ∧ MK (Rls B) x o k ∧ k ∈ o) ∨ (∃ k : Nat, r = k ∧ MK (Rls B) x o k ∧ k ∉ o) := by
  rcases h with ⟨rfl, h⟩ | ⟨k, rfl, h⟩
  · exact .inl ⟨rfl, fun j hj e => absurd e (h j hj)⟩
  · by_cases hk : k ∈ o
    · exact .inr (.inl ⟨k, rfl, h, hk⟩)
    · exact .inr (.inr ⟨k, rfl, h, hk⟩)
theorem drop_rls (B : List Rw) (k : Nat) : (Rls B).drop k = Rls (B.drop k) := List.map_drop.symm
theorem KI.next {B : List Rw} {x : List Int} {o : List Nat} {k : Nat} {r : Int} (h : MK (Rls B) x o k) (hk : k ∈ o) (hr : firstI (fun j => decide (x = ((B.drop (k + 1)).getD j dR).L)) (B.drop (k + 1)).length r) (h0 : ¬ r < 0) : KI B x o ((k : Int) + (1 + r)) := by
  rcases hr with ⟨rfl, _⟩ | ⟨m, hm, rfl, h1, h2⟩
  · omega
  · refine .inr ⟨k + (1 + m), by omega, h.step hk (by rw [drop_rls, Rls_len]; exact hm) (by rw [drop_rls, ← Rls_get hm]; exact (of_decide_eq_true h1).symm) fun j hj e => ?_⟩
    rw [drop_rls, ← Rls_get (by omega)] at e
    exact absurd e.symm (of_decide_eq_false (h2 j hj))
theorem KI.stop {B : List Rw} {x : List Int} {o : List Nat} {k : Nat} {r : Int} (h : MK (Rls B) x o k) (hk : k ∈ o) (hr : firstI (fun j => decide (x = ((B.drop (k + 1)).getD j dR).L)) (B.drop (k + 1)).length r) (h0 : r < 0) : ∀ j, j < (Rls B).length → (Rls B).getD j [] = x → j ∈ o := by
  rcases hr with ⟨rfl, hn⟩ | ⟨m, hm, rfl, h1, h2⟩
  · refine h.none hk fun j hj e => ?_
    rw [drop_rls, Rls_len] at hj
    rw [drop_rls, ← Rls_get hj] at e
    exact absurd e.symm (of_decide_eq_false (hn j hj))
  · omega
theorem MI.noR {A B : List Rw} {i : Nat} {o : List Nat} (h : MI (Rls B) (Rls A) i o) (hi : i < A.length) (hn : ∀ j, j < (Rls B).length → (Rls B).getD j [] = (A.getD i dR).L → j ∈ o) : mt (Rls B) (Rls A) B.length A.length = none := by
  rw [Rls_get hi] at hn
  have := h.no hn hi
  rwa [Rls_len] at this
theorem MI.all {A B : List Rw} {i : Nat} {o : List Nat} (h : MI (Rls B) (Rls A) i o) (hi : A.length = i) : mt (Rls B) (Rls A) B.length A.length = some o := by
  have := h.1
  rwa [Rls_len, ← hi] at this
theorem MI.stepR {A B : List Rw} {i k : Nat} {o : List Nat} (h : MI (Rls B) (Rls A) i o) (hi : i < A.length) (hk : MK (Rls B) (A.getD i dR).L o k) (ho : k ∉ o) : MI (Rls B) (Rls A) (i + 1) (o ++ [k]) :=
  h.step (by rw [← Rls_get hi]; exact hk) ho
theorem first_lt {p : Nat → Bool} {n : Nat} {r : Int} (h : firstI p n r) : -1 ≤ r ∧ r < n := by
  rcases h with ⟨rfl, _⟩ | ⟨j, hj, rfl, _⟩ <;> omega
/-! ## Columns -/
def colV (M : List (List Int)) (c : Nat) (p : List Nat) : List Int := p.map fun r => (M.getD r []).getD c 0
def colP (M : List (List Int)) (w : Nat) (p : List Nat) : List (List Int) := (List.range w).map fun c => colV M c p
theorem colP_len (M : List (List Int)) (w : Nat) (p : List Nat) : (colP M w p).length = w := by unfold colP; rw [List.length_map, List.length_range]
theorem colV_len (M : List (List Int)) (c : Nat) (p : List Nat) : (colV M c p).length = p.length := by unfold colV; rw [List.length_map]
theorem colP_get {M : List (List Int)} {w : Nat} {p : List Nat} {c : Nat} (h : c < w) : (colP M w p).getD c [] = colV M c p := by
  unfold colP
  rw [List.getD_eq_getElem?_getD, List.getElem?_map, List.getElem?_range h]; rfl
theorem colP_all {M : List (List Int)} {w : Nat} {p : List Nat} {x : List Int} (h : x ∈ colP M w p) : x.length = p.length := by
  unfold colP at h
  obtain ⟨c, _, rfl⟩ := List.mem_map.1 h
  exact colV_len M c p
theorem rws_replicate (n : Nat) : List.replicate n (.slice none 0 0 : Value) = rws (List.replicate n dR) := by
  rw [rws, List.map_replicate]; rfl
theorem plain_step {n i : Nat} (h : i < n) : (zs (List.range i) ++ List.replicate (n - i) 0).set i (i : Int) = zs (List.range (i + 1)) ++ List.replicate (n - (i + 1)) 0 := by
  rw [List.range_succ, zs_snoc]
  obtain ⟨m, hm⟩ : ∃ m, n - i = m + 1 := ⟨n - i - 1, by omega⟩
  have hl : (zs (List.range i)).length = i := by rw [zs_length, List.length_range]
  rw [hm, show n - (i + 1) = m by omega, List.replicate_succ, List.set_append_right _ _ (by omega), hl, Nat.sub_self, List.append_assoc]
  rfl
theorem count_take {l : List (List Int)} {j : Nat} (h : j < l.length) (x : List Int) : (l.take (j + 1)).count x = (l.take j).count x + if l.getD j [] = x then 1 else 0 := by
  rw [take_succ_getD h, List.count_append, List.count_singleton]
  simp only [beq_iff_eq]
theorem facA_le (l : List (List Int)) (hl : l.length ≤ 6) : ∀ {i}, i ≤ l.length → facA l i ≤ 7 ^ i
  | 0, _ => Nat.le_refl _
  | i + 1, h => by
    rw [facA, Nat.pow_succ]
    have h1 := facA_le l hl (i := i) (by omega)
    have h2 : (l.take i).count (l.getD i []) ≤ (l.take i).length := List.count_le_length
    rw [List.length_take] at h2
    exact Nat.mul_le_mul h1 (by omega)
theorem facA_small (l : List (List Int)) (hl : l.length ≤ 6) {i : Nat} (h : i < l.length) {k : Nat} (hk : k ≤ 7) : facA l i * k ≤ 117649 := by
  have h1 := facA_le l hl (i := i) (by omega)
  have h2 : 7 ^ i ≤ 7 ^ 5 := Nat.pow_le_pow_right (by decide) (by omega)
  exact Nat.le_trans (Nat.mul_le_mul (Nat.le_trans h1 h2) hk) (by decide)
/-- Columns while they are made: the first c are whole, the others empty. -/
structure CO (M : List (List Int)) (w : Nat) (p : List Nat) (c : Nat) (D : List Rw) : Prop where
  len : D.length = w
  ok : ∀ j, j < c → (D.getD j dR).L = colV M j p
  nil : ∀ j, c ≤ j → j < w → D.getD j dR = dR
theorem CO.zero (M : List (List Int)) (w : Nat) (p : List Nat) : CO M w p 0 (List.replicate w dR) :=
  ⟨List.length_replicate, fun j h => absurd h (Nat.not_lt_zero _), fun j _ h => by rw [List.getD_eq_getElem?_getD, List.getElem?_replicate, if_pos h]; rfl⟩
theorem CO.step {M : List (List Int)} {w : Nat} {p : List Nat} {c : Nat} {D : List Rw} (h : CO M w p c D) (hc : c < w) {r : Rw} (hr : r.L = colV M c p) : CO M w p (c + 1) (D.set c r) :=
  ⟨by rw [List.length_set]; exact h.len, fun j hj => by
    rw [getD_setR _ _ _ _ (by rw [h.len]; exact hc)]
    by_cases e : c = j
    · subst e; rw [if_pos rfl]; exact hr
    · rw [if_neg e]; exact h.ok j (by omega), fun j h1 h2 => by
    rw [getD_setR _ _ _ _ (by rw [h.len]; exact hc), if_neg (by omega)]
    exact h.nil j (by omega) h2⟩
theorem CO.done {M : List (List Int)} {w : Nat} {p : List Nat} {c : Nat} {D : List Rw} (h : CO M w p c D) (hc : w ≤ c) : Rls D = colP M w p := by
  refine List.ext_getElem (by rw [Rls_len, h.len, colP_len]) fun j h1 h2 => ?_
  have h3 : j < D.length := by rwa [Rls_len] at h1
  have e1 : (Rls D)[j] = (D.getD j dR).L := by
    rw [List.getElem_map, List.getD_eq_getElem?_getD, List.getElem?_eq_getElem h3]; rfl
  have e2 : (colP M w p)[j] = colV M j p := by
    have h4 := colP_get (M := M) (p := p) (show j < w by rw [h.len] at h3; exact h3)
    rwa [List.getD_eq_getElem?_getD, List.getElem?_eq_getElem h2] at h4
  rw [e1, e2, h.ok j (by rw [h.len] at h3; omega)]
theorem colV_snoc {M : List (List Int)} {c k : Nat} {p : List Nat} (h : k < p.length) : colV M c (p.take (k + 1)) = colV M c (p.take k) ++ [(M.getD (p.getD k 0) []).getD c 0] := by
  unfold colV
  rw [List.take_add_one, List.getElem?_eq_getElem h, List.map_append, List.getD_eq_getElem?_getD (l := p), List.getElem?_eq_getElem h]; rfl
theorem set_set (D : List Rw) (c : Nat) (x y : Rw) : (D.set c x).set c y = D.set c y := List.set_set ..
theorem set_self {M : List (List Int)} {w : Nat} {p : List Nat} {c : Nat} {D : List Rw} (h : CO M w p c D) (hc : c < w) : D.set c dR = D := by
  refine List.ext_getElem (by rw [List.length_set]) fun j h1 h2 => ?_
  rw [List.getElem_set]
  split
  · rename_i e
    subst e
    have := h.nil c (Nat.le_refl _) hc
    rw [List.getD_eq_getElem?_getD, List.getElem?_eq_getElem h2] at this
    exact this.symm
  · rfl
/-! ## Orders visited one after the other, until one says no -/
def foldS {S : Type} (step : S → List Nat → S × Bool) : S → List (List Nat) → S × Bool
  | s, [] => (s, true)
  | s, p :: L => if (step s p).2 = true then foldS step (step s p).1 L else ((step s p).1, false)
theorem foldS_app {S : Type} (step : S → List Nat → S × Bool) : ∀ (A B : List (List Nat)) (s : S), foldS step s (A ++ B) = if (foldS step s A).2 = true then foldS step (foldS step s A).1 B else ((foldS step s A).1, false)
  | [], _, _ => by rw [foldS, if_pos rfl]; rfl
  | p :: A, B, s => by
    rw [List.cons_append, foldS, foldS]
    split
    · exact foldS_app step A B _
    · rw [if_neg Bool.false_ne_true]
theorem foldS_one {S : Type} (step : S → List Nat → S × Bool) (s : S) (p : List Nat) : foldS step s [p] = step s p := by
  rw [foldS]
  split
  · rename_i h; rw [foldS, ← h]
  · rename_i h; rw [← Bool.eq_false_iff.2 h]
/-- What stands behind a beginning and one of the first i numbers. -/
def dfI (n f : Nat) (p : List Nat) (i : Nat) : List (List Nat) := ((List.range i).filter fun v => decide (v ∉ p)).flatMap fun v => dfs n f (p ++ [v])
theorem dfI_all (n f : Nat) (p : List Nat) : dfs n (f + 1) p = dfI n f p n := by
  unfold dfs dfI ext
  rw [List.flatMap_map]
theorem dfI_yes {n f i : Nat} {p : List Nat} (h : i ∉ p) : dfI n f p (i + 1) = dfI n f p i ++ dfs n f (p ++ [i]) := by
  unfold dfI
  rw [List.range_succ, List.filter_append, List.flatMap_append, List.filter_cons_of_pos (by simpa using h)]
  simp
theorem dfI_no {n f i : Nat} {p : List Nat} (h : i ∈ p) : dfI n f p (i + 1) = dfI n f p i := by
  unfold dfI
  rw [List.range_succ, List.filter_append, List.flatMap_append, List.filter_cons_of_neg (by simpa using h)]
  simp
theorem dfI_more {n f : Nat} {p : List Nat} {i j : Nat} (h : i ≤ j) : ∃ B, dfI n f p j = dfI n f p i ++ B := by
  obtain ⟨m, rfl⟩ : ∃ m, j = i + m := ⟨j - i, by omega⟩
  unfold dfI
  rw [List.range_add, List.filter_append, List.flatMap_append]
  exact ⟨_, rfl⟩
/-- Where the visit stands. -/
def VI {S : Type} (step : S → List Nat → S × Bool) (n f : Nat) (p : List Nat) (s0 : S) (i : Nat) (s : S) : Prop := foldS step s0 (dfI n f p i) = (s, true)
theorem VI.zero {S : Type} (step : S → List Nat → S × Bool) (n f : Nat) (p : List Nat) (s0 : S) : VI step n f p s0 0 s0 := rfl
section
variable {S : Type} {step : S → List Nat → S × Bool} {n f : Nat} {p : List Nat} {s0 : S} {i : Nat} {s : S}
theorem VI.skip (h : VI step n f p s0 i s) (hi : i ∈ p) : VI step n f p s0 (i + 1) s := by
  unfold VI at *; rw [dfI_no hi]; exact h
theorem VI.go (h : VI step n f p s0 i s) (hi : i ∉ p) (hs : (foldS step s (dfs n f (p ++ [i]))).2 = true) : VI step n f p s0 (i + 1) (foldS step s (dfs n f (p ++ [i]))).1 := by
  unfold VI at *
  rw [dfI_yes hi, foldS_app, h, if_pos rfl, ← hs]
theorem VI.stop (h : VI step n f p s0 i s) (hi : i ∉ p) (hn : i < n) (hs : (foldS step s (dfs n f (p ++ [i]))).2 = false) : foldS step s0 (dfs n (f + 1) p) = ((foldS step s (dfs n f (p ++ [i]))).1, false) := by
  unfold VI at h
  obtain ⟨B, hB⟩ := dfI_more (n := n) (f := f) (p := p) (show i + 1 ≤ n from hn)
  have h1 : foldS step s0 (dfI n f p (i + 1)) = ((foldS step s (dfs n f (p ++ [i]))).1, false) := by
    rw [dfI_yes hi, foldS_app, h, if_pos rfl, ← hs]
  rw [dfI_all, hB, foldS_app, h1, if_neg Bool.false_ne_true]
theorem VI.done (h : VI step n f p s0 i s) (hi : i = n) : foldS step s0 (dfs n (f + 1) p) = (s, true) := by
  subst hi; rw [dfI_all]; exact h
end
end Go.Fw.Cn
