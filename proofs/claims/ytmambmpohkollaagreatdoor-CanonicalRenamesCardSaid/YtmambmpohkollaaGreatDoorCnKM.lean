/- Chapter 16: different numbers in their order; links and their dies; valid graphs and their matrices. Plain. -/
import Derived.Test.YtmambmpohkollaaGreatDoorCnDI
import Derived.Test.YtmambmpohkollaaGreatDoorCnP
import Derived.Test.YtmambmpohkollaaGreatDoorFwEE
namespace Go.Fw.Cn
open Go Go.RowKit Go.Fw
def oL (K : List Lk) (i : Nat) : List Int := (K.take i).map Lk.o
def rL (K : List Lk) (i : Nat) : List Int := (K.take i).map Lk.r
theorem takeK_succ {l : List Lk} {i : Nat} (h : i < l.length) : l.take (i + 1) = l.take i ++ [l.getD i dK] := by
  rw [List.take_add_one, List.getD_eq_getElem?_getD, List.getElem?_eq_getElem h]; rfl
theorem oL_step {K : List Lk} {i : Nat} (h : i < K.length) : oL K i ++ [(K.getD i dK).o] = oL K (i + 1) := by unfold oL; rw [takeK_succ h, List.map_append]; rfl
theorem rL_step {K : List Lk} {i : Nat} (h : i < K.length) : rL K i ++ [(K.getD i dK).r] = rL K (i + 1) := by unfold rL; rw [takeK_succ h, List.map_append]; rfl
theorem oL_len {K : List Lk} {i : Nat} (h : i ≤ K.length) : (oL K i).length = i := by unfold oL; rw [List.length_map, List.length_take, Nat.min_eq_left h]
theorem rL_len {K : List Lk} {i : Nat} (h : i ≤ K.length) : (rL K i).length = i := by unfold rL; rw [List.length_map, List.length_take, Nat.min_eq_left h]
theorem oL_sl {K : List Lk} {i : Nat} (h : i < K.length) : (oL K i).length + 1 = (oL K (i + 1)).length := by rw [oL_len (by omega), oL_len (by omega)]
theorem rL_sl {K : List Lk} {i : Nat} (h : i < K.length) : (rL K i).length + 1 = (rL K (i + 1)).length := by rw [rL_len (by omega), rL_len (by omega)]
theorem oL_all (K : List Lk) : oL K K.length = K.map Lk.o := by unfold oL; rw [List.take_length]
theorem rL_all (K : List Lk) : rL K K.length = K.map Lk.r := by unfold rL; rw [List.take_length]
/-- The different numbers of a list, in their order. -/
def distI (L : List Int) : List Int := cpG (0 : Int) (srtI L) (srtI L).length
theorem distI_len (L : List Int) : (distI L).length ≤ L.length :=
  Nat.le_trans (cpG_len (z := (0 : Int)) (srtI L) (srtI L).length) (Nat.le_of_eq (srtI_len L))
theorem srtI_sorted (L : List Int) : (srtI L).Pairwise fun a b => a ≤ b := by
  have h := List.pairwise_mergeSort (le := fun x y : Int => decide (x ≤ y)) (fun a b c h1 h2 => by rw [decide_eq_true_eq] at *; omega) (fun a b => by rw [Bool.or_eq_true, decide_eq_true_eq, decide_eq_true_eq]; omega) L
  exact h.imp fun h => by rwa [decide_eq_true_eq] at h
theorem srtI_mem {L : List Int} {x : Int} : x ∈ srtI L ↔ x ∈ L := List.mem_mergeSort
theorem getI_eq {l : List Int} {i : Nat} (h : i < l.length) : l.getD i 0 = l[i] := by rw [List.getD_eq_getElem?_getD, List.getElem?_eq_getElem h]; rfl
theorem cpG_ascP {d : List Int} (hd : d.Pairwise fun a b => a ≤ b) : ∀ {i : Nat}, i ≤ d.length → (cpG 0 d i).Pairwise fun a b => a < b
  | 0, _ => List.Pairwise.nil
  | i + 1, hi => by
    have ih := cpG_ascP hd (i := i) (by omega)
    have hle : ∀ a b, a < b → b < d.length → d.getD a 0 ≤ d.getD b 0 := fun a b hab hb => by
      rw [getI_eq (by omega), getI_eq hb]
      exact List.pairwise_iff_getElem.1 hd a b (by omega) hb hab
    rw [cpG]
    split
    · exact ih
    · rename_i hne
      refine List.pairwise_append.2 ⟨ih, List.pairwise_singleton _ _, ?_⟩
      intro x hx y hy
      obtain rfl := List.mem_singleton.1 hy
      obtain ⟨j, hj, rfl⟩ := cpG_mem.1 hx
      have h1 := hle j i hj (by omega)
      rcases Int.lt_or_eq_of_le h1 with e | e
      · exact e
      · exfalso
        apply hne
        refine ⟨by omega, ?_⟩
        by_cases hji : j = i - 1
        · rw [← hji, e]
        · have h2 := hle j (i - 1) (by omega) (by omega)
          have h3 := hle (i - 1) i (by omega) (by omega)
          omega
theorem distI_asc (L : List Int) : ascI (distI L) := by
  have h := cpG_ascP (srtI_sorted L) (i := (srtI L).length) (Nat.le_refl _)
  intro i j hij hj
  have hj' : j < (cpG 0 (srtI L) (srtI L).length).length := hj
  show (cpG 0 (srtI L) (srtI L).length).getD i 0 < (cpG 0 (srtI L) (srtI L).length).getD j 0
  rw [getI_eq (by omega), getI_eq hj']
  exact List.pairwise_iff_getElem.1 h i j (by omega) hj' hij
theorem distI_mem {L : List Int} {x : Int} : x ∈ distI L ↔ x ∈ L := by
  show x ∈ cpG 0 (srtI L) (srtI L).length ↔ _
  rw [cpG_mem, ← srtI_mem (L := L)]
  constructor
  · rintro ⟨j, hj, rfl⟩; exact getI_mem hj
  · intro h
    obtain ⟨j, hj, e⟩ := mem_getI h
    exact ⟨j, hj, e⟩
theorem asc_nodup {L : List Int} (h : ascI L) : L.Nodup := by
  refine List.pairwise_iff_getElem.2 fun i j hi hj hij e => ?_
  have := h i j hij hj
  rw [getI_eq hi, getI_eq hj, e] at this
  omega
theorem sub_lenI {l m : List Int} (nd : l.Nodup) (hs : ∀ x ∈ l, x ∈ m) : l.length ≤ m.length := by
  induction l generalizing m with
  | nil => exact Nat.zero_le _
  | cons a l ih =>
    obtain ⟨h1, h2⟩ := List.nodup_cons.1 nd
    have ha := hs a List.mem_cons_self
    have := ih (m := m.erase a) h2 fun x hx => (List.mem_erase_of_ne fun e : x = a => h1 (e ▸ hx)).2 (hs x (List.mem_cons_of_mem _ hx))
    rw [List.length_erase_of_mem ha] at this
    have := List.length_pos_of_mem ha
    rw [List.length_cons]; omega
theorem asc_ext {l m : List Int} (hl : ascI l) (hm : ascI m) (h : ∀ x, x ∈ l ↔ x ∈ m) : l = m := by
  have hlen : l.length = m.length := Nat.le_antisymm (sub_lenI (asc_nodup hl) fun x hx => (h x).1 hx) (sub_lenI (asc_nodup hm) fun x hx => (h x).2 hx)
  have hp : l.Perm m := (List.perm_ext_iff_of_nodup (asc_nodup hl) (asc_nodup hm)).2 h
  have toP : ∀ {k : List Int}, ascI k → k.Pairwise fun a b => a < b := fun {k} hk => List.pairwise_iff_getElem.2 fun i j hi hj hij => by
    have := hk i j hij hj
    rwa [getI_eq hi, getI_eq hj] at this
  exact hp.eq_of_pairwise (fun a b _ _ h1 h2 => by omega) (toP hl) (toP hm)
/-- All of a list's numbers are in an ascending one: as many different ones as that has exactly if it has no others. -/
theorem dist_len_iff {L O : List Int} (hO : ascI O) (h : ∀ x ∈ L, x ∈ O) : (distI L).length = O.length ↔ ∀ x ∈ O, x ∈ L := by
  constructor
  · intro he x hx
    refine Classical.byContradiction fun hn => ?_
    have h1 := sub_lenI (l := x :: distI L) (m := O) (List.nodup_cons.2 ⟨fun hm => hn (distI_mem.1 hm), asc_nodup (distI_asc L)⟩) fun y hy => by
      rcases List.mem_cons.1 hy with rfl | hy
      · exact hx
      · exact h y (distI_mem.1 hy)
    rw [List.length_cons] at h1
    omega
  · intro he
    rw [asc_ext (distI_asc L) hO fun x => ⟨fun hx => h x (distI_mem.1 hx), fun hx => distI_mem.2 (he x hx)⟩]
/-! ## Valid graphs -/
def lkA (O R : List Int) (K : List Lk) (i : Nat) : Prop := 1 ≤ (K.getD i dK).id ∧ (K.getD i dK).id ≤ 9999 ∧ (i = 0 ∨ (K.getD (i - 1) dK).id < (K.getD i dK).id) ∧ (K.getD i dK).o ∈ O ∧ (K.getD i dK).r ∈ R
instance (O R : List Int) (K : List Lk) (i : Nat) : Decidable (lkA O R K i) := by unfold lkA; infer_instance
def valG (O R : List Int) (K : List Lk) : Prop := (nmL O ∧ O.length ≤ 32) ∧ (nmL R ∧ R.length ≤ 32) ∧ K.length ≤ 64 ∧ (∀ i, i < K.length → lkA O R K i) ∧ (∀ x ∈ O, x ∈ K.map Lk.o) ∧ ∀ x ∈ R, x ∈ K.map Lk.r
instance (O R : List Int) (K : List Lk) : Decidable (valG O R K) := by unfold valG; infer_instance
theorem getK_mem {l : List Lk} {j : Nat} (h : j < l.length) : l.getD j dK ∈ l := by
  rw [List.getD_eq_getElem?_getD, List.getElem?_eq_getElem h]; exact List.getElem_mem h
theorem mem_getK {l : List Lk} {x : Lk} (h : x ∈ l) : ∃ j, j < l.length ∧ l.getD j dK = x := by
  obtain ⟨j, hj, e⟩ := List.mem_iff_getElem.1 h
  exact ⟨j, hj, by rw [List.getD_eq_getElem?_getD, List.getElem?_eq_getElem hj, e]; rfl⟩
theorem lkA_step {O R : List Int} {K : List Lk} {i : Nat} (h : ∀ j, j < i → lkA O R K j) (h2 : lkA O R K i) : ∀ j, j < i + 1 → lkA O R K j := fun j hj => by
  by_cases e : j = i
  · subst e; exact h2
  · exact h j (by omega)
theorem lk9 (O R : List Int) (K : List Lk) (i : Nat) :
    (K.getD i dK).id < 1 ∨ (¬ (K.getD i dK).id < 1 ∧ 9999 < (K.getD i dK).id) ∨ (¬ (K.getD i dK).id < 1 ∧ ¬ 9999 < (K.getD i dK).id ∧ (0 : Int) < (i : Int) ∧ (K.getD i dK).id ≤ (K.getD (i - 1) dK).id) ∨
    (¬ (K.getD i dK).id < 1 ∧ ¬ 9999 < (K.getD i dK).id ∧ ¬ (0 : Int) < (i : Int) ∧ (K.getD i dK).o ∉ O) ∨ (¬ (K.getD i dK).id < 1 ∧ ¬ 9999 < (K.getD i dK).id ∧ (0 : Int) < (i : Int) ∧ ¬ (K.getD i dK).id ≤ (K.getD (i - 1) dK).id ∧ (K.getD i dK).o ∉ O) ∨
    (¬ (K.getD i dK).id < 1 ∧ ¬ 9999 < (K.getD i dK).id ∧ ¬ (0 : Int) < (i : Int) ∧ (K.getD i dK).o ∈ O ∧ (K.getD i dK).r ∉ R) ∨ (¬ (K.getD i dK).id < 1 ∧ ¬ 9999 < (K.getD i dK).id ∧ (0 : Int) < (i : Int) ∧ ¬ (K.getD i dK).id ≤ (K.getD (i - 1) dK).id ∧ (K.getD i dK).o ∈ O ∧ (K.getD i dK).r ∉ R) ∨
    (¬ (K.getD i dK).id < 1 ∧ ¬ 9999 < (K.getD i dK).id ∧ ¬ (0 : Int) < (i : Int) ∧ (K.getD i dK).o ∈ O ∧ (K.getD i dK).r ∈ R) ∨ (¬ (K.getD i dK).id < 1 ∧ ¬ 9999 < (K.getD i dK).id ∧ (0 : Int) < (i : Int) ∧ ¬ (K.getD i dK).id ≤ (K.getD (i - 1) dK).id ∧ (K.getD i dK).o ∈ O ∧ (K.getD i dK).r ∈ R) := by
  by_cases h1 : (K.getD i dK).o ∈ O <;> by_cases h2 : (K.getD i dK).r ∈ R <;> simp only [h1, h2, not_true_eq_false, not_false_eq_true, and_true, and_false, or_false, false_or] <;> omega
/-! ## Matrices -/
def cntK (K : List Lk) (o r : Int) : Nat := (K.filter fun k => decide (k.o = o ∧ k.r = r)).length
def matG (O R : List Int) (K : List Lk) : List (List Int) := O.map fun o => R.map fun r => (cntK K o r : Int)
theorem matG_len (O R : List Int) (K : List Lk) : (matG O R K).length = O.length := List.length_map _
theorem matG_row {O R : List Int} {K : List Lk} {x : List Int} (h : x ∈ matG O R K) : x.length = R.length := by
  obtain ⟨o, _, rfl⟩ := List.mem_map.1 h
  exact List.length_map _
theorem cntK_le (K : List Lk) (o r : Int) : cntK K o r ≤ K.length := List.length_filter_le _ _
theorem matG_get {O R : List Int} {K : List Lk} {a b : Nat} (ha : a < O.length) (hb : b < R.length) : ((matG O R K).getD a []).getD b 0 = (cntK K (O.getD a 0) (R.getD b 0) : Int) := by
  unfold matG
  rw [List.getD_eq_getElem?_getD (l := O.map _), List.getElem?_map, List.getElem?_eq_getElem ha]
  show (R.map _).getD b 0 = _
  rw [List.getD_eq_getElem?_getD, List.getElem?_map, List.getElem?_eq_getElem hb, getI_eq ha, getI_eq hb]; rfl
theorem cntK_snoc (K : List Lk) (k : Lk) (o r : Int) : cntK (K ++ [k]) o r = cntK K o r + if k.o = o ∧ k.r = r then 1 else 0 := by
  unfold cntK
  rw [List.filter_append, List.length_append]
  congr 1
  by_cases h : k.o = o ∧ k.r = r
  · rw [if_pos h, List.filter_cons_of_pos (by simpa using h)]; rfl
  · rw [if_neg h, List.filter_cons_of_neg (by simpa using h)]; rfl
theorem matG_nil (O R : List Int) : matG O R [] = List.replicate O.length (List.replicate R.length 0) := by
  unfold matG
  rw [show (fun o => R.map fun r => ((cntK [] o r : Nat) : Int)) = fun _ => List.replicate R.length 0 from funext fun o => by rw [show (fun r => ((cntK [] o r : Nat) : Int)) = fun _ => 0 from rfl, List.map_const'], List.map_const']
/-- One link more. -/
theorem matG_step {O R : List Int} {K : List Lk} {k : Lk} (hO : ascI O) (hR : ascI R) (ho : k.o ∈ O) (hr : k.r ∈ R) :
    matG O R (K ++ [k]) = (matG O R K).set (bsI k.o O) (((matG O R K).getD (bsI k.o O) []).set (bsI k.r R) ((((matG O R K).getD (bsI k.o O) []).getD (bsI k.r R) 0) + 1)) := by
  obtain ⟨h1, h2⟩ := bsI_get hO ho
  obtain ⟨h3, h4⟩ := bsI_get hR hr
  refine List.ext_getElem (by rw [List.length_set, matG_len, matG_len]) fun a ha _ => ?_
  have ha' : a < O.length := by rwa [matG_len] at ha
  have hrow : ∀ (K : List Lk) (x : Nat), x < O.length → (matG O R K).getD x [] ∈ matG O R K := fun K x hx => by
    rw [List.getD_eq_getElem?_getD, List.getElem?_eq_getElem (by rw [matG_len]; exact hx)]; exact List.getElem_mem _
  have hg : ∀ (K : List Lk) (x : Nat) (hx : x < (matG O R K).length), (matG O R K)[x] = (matG O R K).getD x [] := fun K x hx => by
    rw [List.getD_eq_getElem?_getD, List.getElem?_eq_getElem hx]; rfl
  rw [List.getElem_set]
  split
  · rename_i e
    subst e
    rw [hg]
    refine List.ext_getElem (by rw [List.length_set, matG_row (hrow _ _ h1), matG_row (hrow _ _ h1)]) fun b hb _ => ?_
    have hb' : b < R.length := by rwa [matG_row (hrow _ _ h1)] at hb
    rw [← getI_eq hb, matG_get h1 hb', cntK_snoc, List.getElem_set]
    by_cases e2 : bsI k.r R = b
    · subst e2
      rw [if_pos (show k.o = O.getD (bsI k.o O) 0 ∧ k.r = R.getD (bsI k.r R) 0 from ⟨h2.symm, h4.symm⟩), if_pos rfl, matG_get h1 h3]; omega
    · rw [if_neg e2, ← getI_eq (by rw [matG_row (hrow _ _ h1)]; exact hb'), matG_get h1 hb', if_neg (fun c => e2 (by rw [c.2]; exact bsI_inj hR hb'))]
      omega
  · rename_i e
    rw [hg, hg]
    refine List.ext_getElem (by rw [matG_row (hrow _ _ ha'), matG_row (hrow _ _ ha')]) fun b hb _ => ?_
    have hb' : b < R.length := by rwa [matG_row (hrow _ _ ha')] at hb
    rw [← getI_eq hb, ← getI_eq (by rw [matG_row (hrow _ _ ha')]; exact hb'), matG_get ha' hb', matG_get ha' hb', cntK_snoc, if_neg (fun c => e (by rw [c.1]; exact bsI_inj hO ha'))]
    omega
theorem valG_iff {O R : List Int} {K : List Lk} (h1 : nmL O ∧ O.length ≤ 32) (h2 : nmL R ∧ R.length ≤ 32) (h3 : K.length ≤ 64) (h4 : ∀ i, i < K.length → lkA O R K i) : valG O R K ↔ (distI (K.map Lk.o)).length = O.length ∧ (distI (K.map Lk.r)).length = R.length := by
  rw [dist_len_iff h1.1.asc fun x hx => ?_, dist_len_iff h2.1.asc fun x hx => ?_]
  · exact ⟨fun h => h.2.2.2.2, fun h => ⟨h1, h2, h3, h4, h⟩⟩
  · obtain ⟨k, hk, rfl⟩ := List.mem_map.1 hx
    obtain ⟨j, hj, rfl⟩ := mem_getK hk
    exact (h4 j hj).2.2.2.2
  · obtain ⟨k, hk, rfl⟩ := List.mem_map.1 hx
    obtain ⟨j, hj, rfl⟩ := mem_getK hk
    exact (h4 j hj).2.2.2.1
end Go.Fw.Cn
/- Chapter 16: as many own rows as there are: what is owned has a tail whose length turns. -/
namespace Go.Fw
open Go Go.RowKit
section
variable {P : Program} {Q : Exit → Act → World → Prop} {w0 : Ctx} {σ σ' σp : List Res} {φ φ' : List (Bool × VP)} {fr fr' : Fr} {ops : Array Oper} {rest : List Oper}
/-- A loop whose own resources have a tail. -/
def NextW {ι : Type} (w0 : Ctx) (σp : List Res) (φ : List (Bool × VP)) (fr : Fr) (C : ι → Prop) (μ : ι → Nat) (ov : (Nat → Value) → ι → List (Option Value)) (os : ι → List (Option Res)) (tl : ι → List Res) (fv : ι → List (Bool × VP)) (n : Nat)
    (Q : Exit → Act → World → Prop) : Exit → Act → World → Prop :=
  Next w0 (fun i : (Nat → Value) × ι => C i.2) (fun i => μ i.2) (fun i => mix σp (os i.2) ++ tl i.2) (fun i => fv i.2 ++ φ) (fun i => mixF fr (ov i.1 i.2)) n Q
theorem JC_loopW {c : Code} (σp : List Res) (ι : Type) (C : ι → Prop) (μ : ι → Nat) (ov : (Nat → Value) → ι → List (Option Value)) (os : ι → List (Option Res)) (tl : ι → List Res) (fv : ι → List (Bool × VP)) (i0 : ι)
    (hfr : mixF fr (ov (look fr) i0) = fr) (hC : C i0) (hσ : mix σp (os i0) ++ tl i0 = σ) (hφ : ∀ p ∈ fv i0, p ∈ φ)
    (round : ∀ u i, C i → JC P c (NextW w0 σp φ fr C μ ov os tl fv (μ i) Q) w0 (mix σp (os i) ++ tl i) (fv i ++ φ) (mixF fr (ov u i))) : JC P (.loop c) Q w0 σ φ fr :=
  JC_loop ((Nat → Value) × ι) (fun i => C i.2) (fun i => μ i.2) (fun i => mix σp (os i.2) ++ tl i.2) (fun i => fv i.2 ++ φ) (fun i => mixF fr (ov i.1 i.2)) (look fr, i0) hfr.symm hC
    (fun w s => by
      simp only [hσ]
      exact s.weaken fun p hp => by
        rcases List.mem_append.1 hp with hp | hp
        · exact hφ p hp
        · exact hp)
    (fun i hC => round i.1 i.2 hC)
theorem JE_nextW {ι : Type} {C : ι → Prop} {μ : ι → Nat} {ov : (Nat → Value) → ι → List (Option Value)} {os : ι → List (Option Res)} {tl : ι → List Res} {fv : ι → List (Bool × VP)} {n : Nat} (i : ι)
    (hfr : mixF fr (ov (look fr') i) = fr') (hC : C i) (hμ : μ i < n) (hσ : mix σp (os i) ++ tl i = σ') (hφ : ∀ p ∈ fv i ++ φ, p ∈ φ') : JE (NextW w0 σp φ fr C μ ov os tl fv n Q) .normal w0 σ' φ' fr' :=
  JE_next (look fr', i) hfr.symm hC hμ fun w s => by
    show St w0 w (mix σp (os i) ++ tl i) (fv i ++ φ)
    rw [hσ]
    exact s.weaken hφ
theorem JE_nextW_exit {ι : Type} {C : ι → Prop} {μ : ι → Nat} {ov : (Nat → Value) → ι → List (Option Value)} {os : ι → List (Option Res)} {tl : ι → List Res} {fv : ι → List (Bool × VP)} {n : Nat} {id : Nat}
    (h : JE Q (.exit id) w0 σ' φ' fr') : JE (NextW w0 σp φ fr C μ ov os tl fv n Q) (.exit id) w0 σ' φ' fr' := fun w st => h w st
theorem JE_nextW_ret {ι : Type} {C : ι → Prop} {μ : ι → Nat} {ov : (Nat → Value) → ι → List (Option Value)} {os : ι → List (Option Res)} {tl : ι → List Res} {fv : ι → List (Bool × VP)} {n : Nat}
    (h : JE Q .ret w0 σ' φ' fr') : JE (NextW w0 σp φ fr C μ ov os tl fv n Q) .ret w0 σ' φ' fr' := fun w st => h w st
theorem JC_loopK {c : Code} (k : Nat) (ι : Type) (C : ι → Prop) (μ : ι → Nat) (ov : (Nat → Value) → ι → List (Option Value)) (os : ι → List (Option Res)) (tl : ι → List Res) (fv : ι → List (Bool × VP)) (i0 : ι)
    (hfr : mixF fr (ov (look fr) i0) = fr) (hC : C i0) (hσ : mix (σ.take k) (os i0) ++ tl i0 = σ) (hφ : ∀ p ∈ fv i0, p ∈ φ)
    (round : ∀ u i, C i → JC P c (NextW w0 (σ.take k) φ fr C μ ov os tl fv (μ i) Q) w0 (mix (σ.take k) (os i) ++ tl i) (fv i ++ φ) (mixF fr (ov u i))) : JC P (.loop c) Q w0 σ φ fr :=
  JC_loopW (σ.take k) ι C μ ov os tl fv i0 hfr hC hσ hφ round
/-- The last resource is put to place k. -/
theorem JL_ins {r : Res} (k : Nat) (h : JL P ops Q w0 (σ.take k ++ r :: σ.drop k) φ rest fr) : JL P ops Q w0 (σ ++ [r]) φ rest fr :=
  JL_conv (fun _ s => s.perm (by
    have h1 : (σ.take k ++ r :: σ.drop k).Perm (r :: σ) := by
      have h2 := List.perm_middle (a := r) (l₁ := σ.take k) (l₂ := σ.drop k)
      rwa [List.take_append_drop] at h2
    exact h1.trans (List.perm_append_singleton r σ).symm)) h
end
theorem JE_ownCap {Q : Exit → Act → World → Prop} {e : Exit} {w0 : Ctx} {σ : List Res} {φ : List (Bool × VP)} {fr : Fr} {ad : Option Addr} {n cap sz : Nat} {E : TypeId} {xs : List Value} (i : Nat) (h : Nth σ i (osl ad n cap E sz xs))
    (k : n ≤ cap ∧ cap ≤ 9223372036854775807 → JE Q e w0 σ φ fr) : JE Q e w0 σ φ fr := JE_fact (fun _ s => osl_cap (s.own _ h.mem)) k
end Go.Fw
namespace Go.Fw.Cn
open Go Go.RowKit Go.Fw
theorem i64sDrop {X : Nat → Prop} {w : World} {ad : Option Addr} {l : List Int} (c k : Nat) (hc : l.length ≤ c) (h : (vCells ad (i64s l)).holds X w) : (vCells (subAd ad c k 1) (i64s (l.drop k))).holds X w := by
  intro j u hj
  have hj' : (i64s l)[k + j]? = some u := by
    unfold i64s at hj ⊢
    rw [List.map_drop, List.getElem?_drop] at hj
    exact hj
  obtain ⟨b, o, he, hX, hcell⟩ := h (k + j) u hj'
  have hlt : k + j < l.length := by
    have := (List.getElem?_eq_some_iff.1 hj').1
    rwa [i64s_length] at this
  subst he
  unfold subAd
  split
  · rename_i e; omega
  · exact ⟨b, o + k * 1, by simp [Addr.add], hX, by rw [Nat.mul_one, Nat.add_assoc]; exact hcell⟩
abbrev rwR (E : TypeId) (r : Rw) : Res := osl r.ad r.L.length r.cap E 1 (i64s r.L)
def rwO (E : TypeId) (D : List Rw) : List Res := D.map (rwR E)
theorem Nth_rwO {E : TypeId} : ∀ {D : List Rw} {i : Nat}, i < D.length → Nth (rwO E D) i (rwR E (D.getD i dR))
  | [], _, h => by cases h
  | _ :: _, 0, _ => rfl
  | _ :: D, i + 1, h => by
    have := Nth_rwO (E := E) (D := D) (i := i) (by simpa using h)
    simpa [rwO, Nth] using this
theorem updL_rwO {E : TypeId} : ∀ {D : List Rw} {i : Nat} {r : Rw}, i < D.length → updL (rwO E D) i (rwR E r) = rwO E (D.set i r)
  | [], _, _, h => by cases h
  | _ :: _, 0, _, _ => rfl
  | d :: D, i + 1, r, h => by
    show rwR E d :: updL (rwO E D) i (rwR E r) = rwR E d :: rwO E (D.set i r)
    rw [updL_rwO (by simpa using h)]
section
variable {P : Program} {Q : Exit → Act → World → Prop} {w0 : Ctx} {σ1 : List Res} {φ : List (Bool × VP)} {fr : Go.Fw.Fr} {ops : Array Oper} {lo : List Oper} {c : Code} {E : TypeId} {D : List Rw}
theorem JL_rowIn (r : Rw) {n : Nat} (hn : r.L.length = n) (h : JL P ops Q w0 (σ1 ++ rwO E (D ++ [r])) φ lo fr) : JL P ops Q w0 ((σ1 ++ rwO E D) ++ [osl r.ad n r.cap E 1 (i64s r.L)]) φ lo fr := by
  subst hn
  have e : (σ1 ++ rwO E D) ++ [rwR E r] = σ1 ++ rwO E (D ++ [r]) := by unfold rwO; rw [List.map_append, List.append_assoc]; rfl
  rw [e]; exact h
theorem Nth_app {α : Type} : ∀ (l : List α) {m : List α} {i : Nat} {r : α}, Nth m i r → Nth (l ++ m) (l.length + i) r
  | [], _, _, _, h => by rw [List.length_nil, Nat.zero_add]; exact h
  | a :: l, m, i, r, h => by
    rw [List.length_cons, show l.length + 1 + i = (l.length + i) + 1 by omega]
    exact Nth_app l h
theorem updL_app {α : Type} : ∀ (l m : List α) (i : Nat) (r : α), updL (l ++ m) (l.length + i) r = l ++ updL m i r
  | [], _, _, _ => by rw [List.length_nil, Nat.zero_add]; rfl
  | a :: l, m, i, r => by
    rw [List.length_cons, show l.length + 1 + i = (l.length + i) + 1 by omega]
    show a :: updL (l ++ m) (l.length + i) r = _
    rw [updL_app l m i r]; rfl
theorem Reads.row (σ1 : List Res) (E : TypeId) {i : Nat} (hi : i < D.length) : Reads w0 (σ1 ++ rwO E D) φ (D.getD i dR).ad (i64s (D.getD i dR).L) := fun _ s =>
  ⟨_, own_cells (s.own (rwR E (D.getD i dR)) (List.mem_append_right _ (List.mem_map.2 ⟨_, rw_mem hi, rfl⟩)))⟩
theorem JL_storeRow {T : TypeId} {x y : Operand} {j : Nat} {a : Int} {ty : TypeId} {pos : String} {aft : Array Edge} (σ1 : List Res) (i : Nat) (hi : i < D.length) (hT : tyOf P T = some (false, 1)) (hx : Ev fr x (ptrAt (D.getD i dR).ad j)) (hy : Ev fr y (.int .i64 a)) (hj : j < (D.getD i dR).L.length)
    (k : JL P ops Q w0 (σ1 ++ rwO E (D.set i ⟨(D.getD i dR).ad, (D.getD i dR).cap, (D.getD i dR).L.set j a⟩)) φ lo fr) : JL P ops Q w0 (σ1 ++ rwO E D) φ (⟨none, .store T x y, ty, pos, aft, none⟩ :: lo) fr := by
  refine JL_storeI (σ1.length + i) hT hx hy (Nth_app σ1 (Nth_rwO hi)) hj ?_
  rw [updL_app]
  have e := updL_rwO (E := E) (D := D) (r := ⟨(D.getD i dR).ad, (D.getD i dR).cap, (D.getD i dR).L.set j a⟩) hi
  have e2 : rwR E ⟨(D.getD i dR).ad, (D.getD i dR).cap, (D.getD i dR).L.set j a⟩ = osl (D.getD i dR).ad (D.getD i dR).L.length (D.getD i dR).cap E 1 (i64s ((D.getD i dR).L.set j a)) := by
    show osl _ ((D.getD i dR).L.set j a).length _ _ _ _ = _
    rw [List.length_set]
  rw [← e2, e]; exact k
theorem rws_same {i : Nat} {r : Rw} (hi : i < D.length) (hr : r.v = (D.getD i dR).v) : rws (D.set i r) = rws D := by
  rw [← rws_set, hr]
  refine List.ext_getElem (by rw [setAll, setAll, updL_set, List.length_set]) fun a h1 h2 => ?_
  simp only [setAll, updL_set]
  rw [List.getElem_set]
  split
  · rename_i e
    subst e
    have := rws_get (l := D) hi
    rw [List.getElem?_eq_getElem (by rw [rws_length]; exact hi)] at this
    exact (Option.some.inj this).symm
  · rfl
theorem St.giveRows {w : World} (s : St w0 w (σ1 ++ rwO E D) φ) : St w0 w σ1 ((true, vRws D) :: φ) := by
  refine (s.dropRes (List.sublist_append_left _ _)).addView fun r hr => ?_
  have hm : rwR E r ∈ σ1 ++ rwO E D := List.mem_append_right _ (List.mem_map.2 ⟨r, hr, rfl⟩)
  refine (own_cells (s.own _ hm)).mono (fun _ _ _ => rfl) fun k _ hX e => ?_
  have hk : (rwR E r).key = some k := by
    cases hra : r.ad with
    | none => rw [hra] at e; cases e
    | some a => rw [hra] at e; show (Value.slice r.ad r.L.length r.cap).ownBlock = some k; rw [hra]; exact e
  rcases hX with ⟨q, hq, hqk⟩ | ⟨_, hY⟩
  · exact (List.pairwise_append.1 s.dist).2.2 q hq _ (List.mem_map.2 ⟨r, hr, rfl⟩) k hqk hk
  · have h1 := s.fresh _ hm k hk
    have h2 := w0.hY k hY
    omega
theorem JC_giveRows (h : JC P c Q w0 σ1 ((true, vRws D) :: φ) fr) : JC P c Q w0 (σ1 ++ rwO E D) φ fr := JC_conv (fun _ s => St.giveRows s) h
theorem JC_noRows (E : TypeId) (h : JC P c Q w0 (σ1 ++ rwO E []) φ fr) : JC P c Q w0 σ1 φ fr := by
  have e : σ1 ++ rwO E [] = σ1 := List.append_nil _
  rwa [e] at h
end
end Go.Fw.Cn

/- Chapter 16: errors of graphs; bounds of the number of maps; what a map is found to be. Plain. -/
namespace Go.Fw.Cn
open Go Go.RowKit Go.Fw
/-- The error of a graph that is to be written. -/
def errG (O R : List Int) (K : List Lk) : Int := if valG O R K then (if 6 < O.length ∨ 6 < R.length then 6 else 0) else 1
theorem errG_0 {O R : List Int} {K : List Lk} : errG O R K = 0 ↔ valG O R K ∧ O.length ≤ 6 ∧ R.length ≤ 6 := by
  unfold errG
  by_cases h1 : valG O R K
  · rw [if_pos h1]
    by_cases h2 : 6 < O.length ∨ 6 < R.length
    · rw [if_pos h2]; exact ⟨fun h => absurd h (by decide), fun h => by omega⟩
    · rw [if_neg h2]; exact ⟨fun _ => ⟨h1, by omega, by omega⟩, fun _ => rfl⟩
  · rw [if_neg h1]; exact ⟨fun h => absurd h (by decide), fun h => absurd h.1 h1⟩
theorem errG_1 {O R : List Int} {K : List Lk} (h : ¬ valG O R K) : errG O R K = 1 := if_neg h
theorem errG_6 {O R : List Int} {K : List Lk} (h : valG O R K) (h2 : 6 < O.length ∨ 6 < R.length) : errG O R K = 6 := by unfold errG; rw [if_pos h, if_pos h2]
theorem errG_ok {O R : List Int} {K : List Lk} (h : valG O R K) (h2 : ¬ (6 < O.length ∨ 6 < R.length)) : errG O R K = 0 := by unfold errG; rw [if_pos h, if_neg h2]
theorem valG_nw {O R : List Int} {K : List Lk} (h : valG O R K) (h0 : O.length = 0) : R.length = 0 := by
  cases R with
  | nil => rfl
  | cons x R =>
    obtain ⟨k, hk, _⟩ := List.mem_map.1 (h.2.2.2.2.2 x List.mem_cons_self)
    obtain ⟨j, hj, rfl⟩ := mem_getK hk
    have := (h.2.2.2.1 j hj).2.2.2.1
    rw [List.eq_nil_of_length_eq_zero h0] at this
    cases this
theorem matG_rows {O R : List Int} {K : List Lk} {D : List Rw} (h : Rls D = matG O R K) : D.length = O.length ∧ ∀ r ∈ D, r.L.length = R.length := by
  refine ⟨by rw [← Rls_len, h, matG_len], fun r hr => ?_⟩
  have : r.L ∈ Rls D := List.mem_map.2 ⟨r, hr, rfl⟩
  rw [h] at this
  exact matG_row this
theorem len_flatMap_le {α β : Type} {f : α → List β} {c : Nat} : ∀ {l : List α}, (∀ a ∈ l, (f a).length ≤ c) → (l.flatMap f).length ≤ l.length * c
  | [], _ => by simp
  | a :: l, h => by
    rw [List.flatMap_cons, List.length_append, List.length_cons, Nat.succ_mul]
    have h1 := h a List.mem_cons_self
    have h2 := len_flatMap_le fun b hb => h b (List.mem_cons_of_mem _ hb)
    omega
theorem ordF_len_le (n : Nat) : ∀ k, (ordF n k).length ≤ n ^ k
  | 0 => Nat.le_refl _
  | k + 1 => by
    rw [ordF, Nat.pow_succ]
    refine Nat.le_trans (len_flatMap_le (c := n) fun p _ => ?_) (Nat.mul_le_mul (ordF_len_le n k) (Nat.le_refl _))
    unfold ext
    rw [List.length_map]
    exact Nat.le_trans (List.length_filter_le _ _) (by rw [List.length_range]; exact Nat.le_refl _)
theorem sum_le {c : Nat} : ∀ {l : List Nat}, (∀ x ∈ l, x ≤ c) → l.sum ≤ l.length * c
  | [], _ => by simp
  | a :: l, h => by
    rw [List.sum_cons, List.length_cons, Nat.succ_mul]
    have h1 := h a List.mem_cons_self
    have h2 := sum_le fun b hb => h b (List.mem_cons_of_mem _ hb)
    omega
theorem pow6 {n : Nat} (h : n ≤ 6) : n ^ n ≤ 46656 := by
  have h1 : n ^ n ≤ 6 ^ n := Nat.pow_le_pow_left h n
  have h2 : 6 ^ n ≤ 6 ^ 6 := Nat.pow_le_pow_right (by decide) h
  exact Nat.le_trans h1 (Nat.le_trans h2 (by decide))
theorem nM_le {X Y : List (List Int)} {w : Nat} (hX : X.length ≤ 6) (hw : w ≤ 6) : nM X Y w ≤ 46656 * 46656 := by
  unfold nM
  refine Nat.le_trans (sum_le (c := 46656) fun x hx => ?_) (Nat.mul_le_mul ?_ (Nat.le_refl _))
  · obtain ⟨p, _, rfl⟩ := List.mem_map.1 hx
    exact Nat.le_trans (List.length_filter_le _ _) (Nat.le_trans (ordF_len_le w w) (pow6 hw))
  · rw [List.length_map]
    exact Nat.le_trans (ordF_len_le _ _) (pow6 hX)
theorem nM_wr {X Y : List (List Int)} {w : Nat} (hX : X.length ≤ 6) (hw : w ≤ 6) : wr64 (nM X Y w) = nM X Y w := wr64_small (by have := nM_le (Y := Y) hX hw; omega)
/-- What Map answers. -/
def bigG (O R : List Int) : Prop := 6 < O.length ∨ 6 < R.length
def MapS (O R : List Int) (K : List Lk) (O' R' : List Int) (K' : List Lk) (o : Option (List Nat × List Nat)) (e : Int) : Prop :=
  (¬ (valG O R K ∧ valG O' R' K') ∧ o = none ∧ e = 1) ∨ (valG O R K ∧ valG O' R' K' ∧ (bigG O R ∨ bigG O' R') ∧ o = none ∧ e = 6) ∨
  (valG O R K ∧ valG O' R' K' ∧ ¬ bigG O R ∧ ¬ bigG O' R' ∧ (O.length ≠ O'.length ∨ R.length ≠ R'.length) ∧ o = none ∧ e = 7) ∨
  (valG O R K ∧ valG O' R' K' ∧ ¬ bigG O R ∧ ¬ bigG O' R' ∧ O.length = O'.length ∧ R.length = R'.length ∧ FM (matG O R K) (matG O' R' K') R.length o ∧ e = mErr o)
theorem MapS.uniq {O R O' R' : List Int} {K K' : List Lk} {o o2 : Option (List Nat × List Nat)} {e e2 : Int} (h : MapS O R K O' R' K' o e) (h2 : MapS O R K O' R' K' o2 e2) : o = o2 ∧ e = e2 := by
  rcases h with ⟨a, b, c⟩ | ⟨a1, a2, a, b, c⟩ | ⟨a1, a2, a3, a4, a, b, c⟩ | ⟨a1, a2, a3, a4, a5, a6, b, c⟩ <;>
  rcases h2 with ⟨a', b', c'⟩ | ⟨a1', a2', a', b', c'⟩ | ⟨a1', a2', a3', a4', a', b', c'⟩ | ⟨a1', a2', a3', a4', a5', a6', b', c'⟩
  · exact ⟨b.trans b'.symm, c.trans c'.symm⟩
  · exact absurd ⟨a1', a2'⟩ a
  · exact absurd ⟨a1', a2'⟩ a
  · exact absurd ⟨a1', a2'⟩ a
  · exact absurd ⟨a1, a2⟩ a'
  · exact ⟨b.trans b'.symm, c.trans c'.symm⟩
  · exact absurd a (fun h => h.elim a3' a4')
  · exact absurd a (fun h => h.elim a3' a4')
  · exact absurd ⟨a1, a2⟩ a'
  · exact absurd a' (fun h => h.elim a3 a4)
  · exact ⟨b.trans b'.symm, c.trans c'.symm⟩
  · omega
  · exact absurd ⟨a1, a2⟩ a'
  · exact absurd a' (fun h => h.elim a3 a4)
  · omega
  · obtain rfl := b.uniq b'
    exact ⟨rfl, c.trans c'.symm⟩
end Go.Fw.Cn
