/- Chapter 16: different numbers in their order; links and their dies; valid graphs and their matrices. Plain. -/
import Derived.Test.YtmambmpohkollaaGreatDoorCnI
import Derived.Test.YtmambmpohkollaaGreatDoorCnP
namespace Go.Fw.Cn
open Go Go.RowKit Go.Fw
def oL (K : List Lk) (i : Nat) : List Int := (K.take i).map Lk.o
def rL (K : List Lk) (i : Nat) : List Int := (K.take i).map Lk.r
theorem takeK_succ {l : List Lk} {i : Nat} (h : i < l.length) : l.take (i + 1) = l.take i ++ [l.getD i dK] := by
  rw [List.take_add_one, List.getD_eq_getElem?_getD, List.getElem?_eq_getElem h]; rfl
theorem oL_step {K : List Lk} {i : Nat} (h : i < K.length) : oL K i ++ [(K.getD i dK).o] = oL K (i + 1) := by unfold oL; rw [takeK_succ h, List.map_append]; rfl
theorem rL_step {K : List Lk} {i : Nat} (h : i < K.length) : rL K i ++ [(K.getD i dK).r] = rL K (i + 1) := by unfold rL; rw [takeK_succ h, List.map_append]; rfl
theorem oL_len {K : List Lk} {i : Nat} (h : i ≤ K.length) : (oL K i).length = i := by unfold oL; rw [List.length_map, List.length_take, Nat.min_eq_left h]
theorem rL_len {K : List Lk} {i : Nat} (h : i ≤ K.length) : (rL K i).length = i := by unfold rL; rw [List.length_map, List.length_take, Nat.min_eq_left h]
theorem oL_sl {K : List Lk} {i : Nat} (h : i < K.length) : (oL K i).length + 1 = (oL K (i + 1)).length := by rw [oL_len (by omega), oL_len (by omega)]
theorem rL_sl {K : List Lk} {i : Nat} (h : i < K.length) : (rL K i).length + 1 = (rL K (i + 1)).length := by rw [rL_len (by omega), rL_len (by omega)]
theorem oL_all (K : List Lk) : oL K K.length = K.map Lk.o := by unfold oL; rw [List.take_length]
theorem rL_all (K : List Lk) : rL K K.length = K.map Lk.r := by unfold rL; rw [List.take_length]
/-- The different numbers of a list, in their order. -/
def distI (L : List Int) : List Int := cpG (0 : Int) (srtI L) (srtI L).length
theorem distI_len (L : List Int) : (distI L).length ≤ L.length :=
  Nat.le_trans (cpG_len (z := (0 : Int)) (srtI L) (srtI L).length) (Nat.le_of_eq (srtI_len L))
theorem srtI_sorted (L : List Int) : (srtI L).Pairwise fun a b => a ≤ b := by
  have h := List.pairwise_mergeSort (le := fun x y : Int => decide (x ≤ y)) (fun a b c h1 h2 => by rw [decide_eq_true_eq] at *; omega) (fun a b => by rw [Bool.or_eq_true, decide_eq_true_eq, decide_eq_true_eq]; omega) L
  exact h.imp fun h => by rwa [decide_eq_true_eq] at h
theorem srtI_mem {L : List Int} {x : Int} : x ∈ srtI L ↔ x ∈ L := List.mem_mergeSort
theorem getI_eq {l : List Int} {i : Nat} (h : i < l.length) : l.getD i 0 = l[i] := by rw [List.getD_eq_getElem?_getD, List.getElem?_eq_getElem h]; rfl
theorem cpG_ascP {d : List Int} (hd : d.Pairwise fun a b => a ≤ b) : ∀ {i : Nat}, i ≤ d.length → (cpG 0 d i).Pairwise fun a b => a < b
  | 0, _ => List.Pairwise.nil
  | i + 1, hi => by
    have ih := cpG_ascP hd (i := i) (by omega)
    have hle : ∀ a b, a < b → b < d.length → d.getD a 0 ≤ d.getD b 0 := fun a b hab hb => by
      rw [getI_eq (by omega), getI_eq hb]
      exact List.pairwise_iff_getElem.1 hd a b (by omega) hb hab
    rw [cpG]
    split
    · exact ih
    · rename_i hne
      refine List.pairwise_append.2 ⟨ih, List.pairwise_singleton _ _, ?_⟩
      intro x hx y hy
      obtain rfl := List.mem_singleton.1 hy
      obtain ⟨j, hj, rfl⟩ := cpG_mem.1 hx
      have h1 := hle j i hj (by omega)
      rcases Int.lt_or_eq_of_le h1 with e | e
      · exact e
      · exfalso
        apply hne
        refine ⟨by omega, ?_⟩
        by_cases hji : j = i - 1
        · rw [← hji, e]
        · have h2 := hle j (i - 1) (by omega) (by omega)
          have h3 := hle (i - 1) i (by omega) (by omega)
          omega
theorem distI_asc (L : List Int) : ascI (distI L) := by
  have h := cpG_ascP (srtI_sorted L) (i := (srtI L).length) (Nat.le_refl _)
  intro i j hij hj
  have hj' : j < (cpG 0 (srtI L) (srtI L).length).length := hj
  show (cpG 0 (srtI L) (srtI L).length).getD i 0 < (cpG 0 (srtI L) (srtI L).length).getD j 0
  rw [getI_eq (by omega), getI_eq hj']
  exact List.pairwise_iff_getElem.1 h i j (by omega) hj' hij
theorem distI_mem {L : List Int} {x : Int} : x ∈ distI L ↔ x ∈ L := by
  show x ∈ cpG 0 (srtI L) (srtI L).length ↔ _
  rw [cpG_mem, ← srtI_mem (L := L)]
  constructor
  · rintro ⟨j, hj, rfl⟩; exact getI_mem hj
  · intro h
    obtain ⟨j, hj, e⟩ := mem_getI h
    exact ⟨j, hj, e⟩
theorem asc_nodup {L : List Int} (h : ascI L) : L.Nodup := by
  refine List.pairwise_iff_getElem.2 fun i j hi hj hij e => ?_
  have := h i j hij hj
  rw [getI_eq hi, getI_eq hj, e] at this
  omega
theorem sub_lenI {l m : List Int} (nd : l.Nodup) (hs : ∀ x ∈ l, x ∈ m) : l.length ≤ m.length := by
  induction l generalizing m with
  | nil => exact Nat.zero_le _
  | cons a l ih =>
    obtain ⟨h1, h2⟩ := List.nodup_cons.1 nd
    have ha := hs a List.mem_cons_self
    have := ih (m := m.erase a) h2 fun x hx => (List.mem_erase_of_ne fun e : x = a => h1 (e ▸ hx)).2 (hs x (List.mem_cons_of_mem _ hx))
    rw [List.length_erase_of_mem ha] at this
    have := List.length_pos_of_mem ha
    rw [List.length_cons]; omega
theorem asc_ext {l m : List Int} (hl : ascI l) (hm : ascI m) (h : ∀ x, x ∈ l ↔ x ∈ m) : l = m := by
  have hlen : l.length = m.length := Nat.le_antisymm (sub_lenI (asc_nodup hl) fun x hx => (h x).1 hx) (sub_lenI (asc_nodup hm) fun x hx => (h x).2 hx)
  have hp : l.Perm m := (List.perm_ext_iff_of_nodup (asc_nodup hl) (asc_nodup hm)).2 h
  have toP : ∀ {k : List Int}, ascI k → k.Pairwise fun a b => a < b := fun {k} hk => List.pairwise_iff_getElem.2 fun i j hi hj hij => by
    have := hk i j hij hj
    rwa [getI_eq hi, getI_eq hj] at this
  exact hp.eq_of_pairwise (fun a b _ _ h1 h2 => by omega) (toP hl) (toP hm)
/-- All of a list's numbers are in an ascending one: as many different ones as that has exactly if it has no others. -/
theorem dist_len_iff {L O : List Int} (hO : ascI O) (h : ∀ x ∈ L, x ∈ O) : (distI L).length = O.length ↔ ∀ x ∈ O, x ∈ L := by
  constructor
  · intro he x hx
    refine Classical.byContradiction fun hn => ?_
    have h1 := sub_lenI (l := x :: distI L) (m := O) (List.nodup_cons.2 ⟨fun hm => hn (distI_mem.1 hm), asc_nodup (distI_asc L)⟩) fun y hy => by
      rcases List.mem_cons.1 hy with rfl | hy
      · exact hx
      · exact h y (distI_mem.1 hy)
    rw [List.length_cons] at h1
    omega
  · intro he
    rw [asc_ext (distI_asc L) hO fun x => ⟨fun hx => h x (distI_mem.1 hx), fun hx => distI_mem.2 (he x hx)⟩]
/-! ## Valid graphs -/
def lkA (O R : List Int) (K : List Lk) (i : Nat) : Prop := 1 ≤ (K.getD i dK).id ∧ (K.getD i dK).id ≤ 9999 ∧ (i = 0 ∨ (K.getD (i - 1) dK).id < (K.getD i dK).id) ∧ (K.getD i dK).o ∈ O ∧ (K.getD i dK).r ∈ R
instance (O R : List Int) (K : List Lk) (i : Nat) : Decidable (lkA O R K i) := by unfold lkA; infer_instance
def valG (O R : List Int) (K : List Lk) : Prop := (nmL O ∧ O.length ≤ 32) ∧ (nmL R ∧ R.length ≤ 32) ∧ K.length ≤ 64 ∧ (∀ i, i < K.length → lkA O R K i) ∧ (∀ x ∈ O, x ∈ K.map Lk.o) ∧ ∀ x ∈ R, x ∈ K.map Lk.r
instance (O R : List Int) (K : List Lk) : Decidable (valG O R K) := by unfold valG; infer_instance
theorem getK_mem {l : List Lk} {j : Nat} (h : j < l.length) : l.getD j dK ∈ l := by
  rw [List.getD_eq_getElem?_getD, List.getElem?_eq_getElem h]; exact List.getElem_mem h
theorem mem_getK {l : List Lk} {x : Lk} (h : x ∈ l) : ∃ j, j < l.length ∧ l.getD j dK = x := by
  obtain ⟨j, hj, e⟩ := List.mem_iff_getElem.1 h
  exact ⟨j, hj, by rw [List.getD_eq_getElem?_getD, List.getElem?_eq_getElem hj, e]; rfl⟩
theorem lkA_step {O R : List Int} {K : List Lk} {i : Nat} (h : ∀ j, j < i → lkA O R K j) (h2 : lkA O R K i) : ∀ j, j < i + 1 → lkA O R K j := fun j hj => by
  by_cases e : j = i
  · subst e; exact h2
  · exact h j (by omega)
theorem lk9 (O R : List Int) (K : List Lk) (i : Nat) :
    (K.getD i dK).id < 1 ∨ (¬ (K.getD i dK).id < 1 ∧ 9999 < (K.getD i dK).id) ∨ (¬ (K.getD i dK).id < 1 ∧ ¬ 9999 < (K.getD i dK).id ∧ (0 : Int) < (i : Int) ∧ (K.getD i dK).id ≤ (K.getD (i - 1) dK).id) ∨
    (¬ (K.getD i dK).id < 1 ∧ ¬ 9999 < (K.getD i dK).id ∧ ¬ (0 : Int) < (i : Int) ∧ (K.getD i dK).o ∉ O) ∨ (¬ (K.getD i dK).id < 1 ∧ ¬ 9999 < (K.getD i dK).id ∧ (0 : Int) < (i : Int) ∧ ¬ (K.getD i dK).id ≤ (K.getD (i - 1) dK).id ∧ (K.getD i dK).o ∉ O) ∨
    (¬ (K.getD i dK).id < 1 ∧ ¬ 9999 < (K.getD i dK).id ∧ ¬ (0 : Int) < (i : Int) ∧ (K.getD i dK).o ∈ O ∧ (K.getD i dK).r ∉ R) ∨ (¬ (K.getD i dK).id < 1 ∧ ¬ 9999 < (K.getD i dK).id ∧ (0 : Int) < (i : Int) ∧ ¬ (K.getD i dK).id ≤ (K.getD (i - 1) dK).id ∧ (K.getD i dK).o ∈ O ∧ (K.getD i dK).r ∉ R) ∨
    (¬ (K.getD i dK).id < 1 ∧ ¬ 9999 < (K.getD i dK).id ∧ ¬ (0 : Int) < (i : Int) ∧ (K.getD i dK).o ∈ O ∧ (K.getD i dK).r ∈ R) ∨ (¬ (K.getD i dK).id < 1 ∧ ¬ 9999 < (K.getD i dK).id ∧ (0 : Int) < (i : Int) ∧ ¬ (K.getD i dK).id ≤ (K.getD (i - 1) dK).id ∧ (K.getD i dK).o ∈ O ∧ (K.getD i dK).r ∈ R) := by
  by_cases h1 : (K.getD i dK).o ∈ O <;> by_cases h2 : (K.getD i dK).r ∈ R <;> simp only [h1, h2, not_true_eq_false, not_false_eq_true, and_true, and_false, or_false, false_or] <;> omega
/-! ## Matrices -/
def cntK (K : List Lk) (o r : Int) : Nat := (K.filter fun k => decide (k.o = o ∧ k.r = r)).length
def matG (O R : List Int) (K : List Lk) : List (List Int) := O.map fun o => R.map fun r => (cntK K o r : Int)
theorem matG_len (O R : List Int) (K : List Lk) : (matG O R K).length = O.length := List.length_map _
theorem matG_row {O R : List Int} {K : List Lk} {x : List Int} (h : x ∈ matG O R K) : x.length = R.length := by
  obtain ⟨o, _, rfl⟩ := List.mem_map.1 h
  exact List.length_map _
theorem cntK_le (K : List Lk) (o r : Int) : cntK K o r ≤ K.length := List.length_filter_le _ _
theorem matG_get {O R : List Int} {K : List Lk} {a b : Nat} (ha : a < O.length) (hb : b < R.length) : ((matG O R K).getD a []).getD b 0 = (cntK K (O.getD a 0) (R.getD b 0) : Int) := by
  unfold matG
  rw [List.getD_eq_getElem?_getD (l := O.map _), List.getElem?_map, List.getElem?_eq_getElem ha]
  show (R.map _).getD b 0 = _
  rw [List.getD_eq_getElem?_getD, List.getElem?_map, List.getElem?_eq_getElem hb, getI_eq ha, getI_eq hb]; rfl
theorem cntK_snoc (K : List Lk) (k : Lk) (o r : Int) : cntK (K ++ [k]) o r = cntK K o r + if k.o = o ∧ k.r = r then 1 else 0 := by
  unfold cntK
  rw [List.filter_append, List.length_append]
  congr 1
  by_cases h : k.o = o ∧ k.r = r
  · rw [if_pos h, List.filter_cons_of_pos (by simpa using h)]; rfl
  · rw [if_neg h, List.filter_cons_of_neg (by simpa using h)]; rfl
theorem matG_nil (O R : List Int) : matG O R [] = List.replicate O.length (List.replicate R.length 0) := by
  unfold matG
  rw [show (fun o => R.map fun r => ((cntK [] o r : Nat) : Int)) = fun _ => List.replicate R.length 0 from funext fun o => by rw [show (fun r => ((cntK [] o r : Nat) : Int)) = fun _ => 0 from rfl, List.map_const'], List.map_const']
/-- One link more. -/
theorem matG_step {O R : List Int} {K : List Lk} {k : Lk} (hO : ascI O) (hR : ascI R) (ho : k.o ∈ O) (hr : k.r ∈ R) :
    matG O R (K ++ [k]) = (matG O R K).set (bsI k.o O) (((matG O R K).getD (bsI k.o O) []).set (bsI k.r R) ((((matG O R K).getD (bsI k.o O) []).getD (bsI k.r R) 0) + 1)) := by
  obtain ⟨h1, h2⟩ := bsI_get hO ho
  obtain ⟨h3, h4⟩ := bsI_get hR hr
  refine List.ext_getElem (by rw [List.length_set, matG_len, matG_len]) fun a ha _ => ?_
  have ha' : a < O.length := by rwa [matG_len] at ha
  have hrow : ∀ (K : List Lk) (x : Nat), x < O.length → (matG O R K).getD x [] ∈ matG O R K := fun K x hx => by
    rw [List.getD_eq_getElem?_getD, List.getElem?_eq_getElem (by rw [matG_len]; exact hx)]; exact List.getElem_mem _
  have hg : ∀ (K : List Lk) (x : Nat) (hx : x < (matG O R K).length), (matG O R K)[x] = (matG O R K).getD x [] := fun K x hx => by
    rw [List.getD_eq_getElem?_getD, List.getElem?_eq_getElem hx]; rfl
  rw [List.getElem_set]
  split
  · rename_i e
    subst e
    rw [hg]
    refine List.ext_getElem (by rw [List.length_set, matG_row (hrow _ _ h1), matG_row (hrow _ _ h1)]) fun b hb _ => ?_
    have hb' : b < R.length := by rwa [matG_row (hrow _ _ h1)] at hb
    rw [← getI_eq hb, matG_get h1 hb', cntK_snoc, List.getElem_set]
    by_cases e2 : bsI k.r R = b
    · subst e2
      rw [if_pos (show k.o = O.getD (bsI k.o O) 0 ∧ k.r = R.getD (bsI k.r R) 0 from ⟨h2.symm, h4.symm⟩), if_pos rfl, matG_get h1 h3]; omega
    · rw [if_neg e2, ← getI_eq (by rw [matG_row (hrow _ _ h1)]; exact hb'), matG_get h1 hb', if_neg (fun c => e2 (by rw [c.2]; exact bsI_inj hR hb'))]
      omega
  · rename_i e
    rw [hg, hg]
    refine List.ext_getElem (by rw [matG_row (hrow _ _ ha'), matG_row (hrow _ _ ha')]) fun b hb _ => ?_
    have hb' : b < R.length := by rwa [matG_row (hrow _ _ ha')] at hb
    rw [← getI_eq hb, ← getI_eq (by rw [matG_row (hrow _ _ ha')]; exact hb'), matG_get ha' hb', matG_get ha' hb', cntK_snoc, if_neg (fun c => e (by rw [c.1]; exact bsI_inj hO ha'))]
    omega
theorem valG_iff {O R : List Int} {K : List Lk} (h1 : nmL O ∧ O.length ≤ 32) (h2 : nmL R ∧ R.length ≤ 32) (h3 : K.length ≤ 64) (h4 : ∀ i, i < K.length → lkA O R K i) : valG O R K ↔ (distI (K.map Lk.o)).length = O.length ∧ (distI (K.map Lk.r)).length = R.length := by
  rw [dist_len_iff h1.1.asc fun x hx => ?_, dist_len_iff h2.1.asc fun x hx => ?_]
  · exact ⟨fun h => h.2.2.2.2, fun h => ⟨h1, h2, h3, h4, h⟩⟩
  · obtain ⟨k, hk, rfl⟩ := List.mem_map.1 hx
    obtain ⟨j, hj, rfl⟩ := mem_getK hk
    exact (h4 j hj).2.2.2.2
  · obtain ⟨k, hk, rfl⟩ := List.mem_map.1 hx
    obtain ⟨j, hj, rfl⟩ := mem_getK hk
    exact (h4 j hj).2.2.2.1
end Go.Fw.Cn