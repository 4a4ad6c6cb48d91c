/- Chapter 18: the studies exchanged; agreement 1. Plain. -/
import Derived.Test.YtfkfmpfohaomhaaGreatCoN
namespace Go.Fw
open Go Go.RowKit Go.Nat9
theorem cp_pr {a b : List Spc} {side : Int} (h : errP a b side = 0) (i : Nat) : ((cpS a b side).getD i dC).2 = (prsS a b side).getD i dP := by
  rw [← cpS_pr h, List.getD_eq_getElem?_getD, List.getD_eq_getElem?_getD, List.getElem?_map]
  cases (cpS a b side)[i]? <;> rfl
/-! ## Exchanged -/
abbrev swP (p : Pr) : Pr := (p.2, p.1)
theorem swP_swP (p : Pr) : swP (swP p) = p := rfl
theorem findS_some_iff {b : List Spc} {x : Int} : (findS b x).isSome = true ↔ x ∈ idsS b := by
  unfold findS idsS
  rw [List.find?_isSome, List.mem_map]
  constructor
  · rintro ⟨s, hs, h⟩; exact ⟨s, hs, of_decide_eq_true h⟩
  · rintro ⟨s, hs, h⟩; exact ⟨s, hs, decide_eq_true h⟩
theorem errC_symm {a b : List Spc} (h : errC a b = 0) : errC b a = 0 := by
  have key : errS a = 0 ∧ errS b = 0 := by
    unfold errC at h
    by_cases h1 : errS a ≠ 0
    · rw [if_pos h1] at h; exact absurd h h1
    · rw [if_neg h1] at h; exact ⟨Classical.not_not.1 h1, h⟩
  exact errC_of key.2 key.1
theorem comS_asc {a b : List Spc} (h : errC a b = 0) : AscI (comS a b) := by
  have hn : (comS a b).Nodup := by
    rw [comS_yes h]
    exact (srtI_perm _).symm.nodup ((errC_ids h).1.sublist List.filter_sublist)
  have hm : (comS a b).Pairwise (· ≤ ·) := by rw [comS_yes h]; exact srtI_mono _
  refine List.pairwise_iff_getElem.2 fun i j hi hj hij => ?_
  have h1 := List.pairwise_iff_getElem.1 hm i j hi hj hij
  have h2 := List.pairwise_iff_getElem.1 hn i j hi hj hij
  omega
theorem comS_swap {a b : List Spc} (h : errC a b = 0) : comS b a = comS a b := by
  refine AscI.ext (comS_asc (errC_symm h)) (comS_asc h) fun x => ?_
  rw [mem_com (errC_symm h), mem_com h, findS_some_iff, findS_some_iff]
  exact ⟨fun h => ⟨h.2, h.1⟩, fun h => ⟨h.2, h.1⟩⟩
theorem errP_swap {a b : List Spc} {side : Int} (h : errC a b = 0) : errP b a side = errP a b side := by
  unfold errP
  rw [h, errC_symm h]
theorem prsS_swap {a b : List Spc} {side : Int} (h : errC a b = 0) : prsS b a side = (prsS a b side).map swP := by
  unfold prsS
  rw [errP_swap h, comS_swap h]
  split
  · rw [List.map_map]; rfl
  · rfl
theorem mtS_nodup (a b : List Spc) (side : Int) : (mtS a b side).Nodup := asc_nodup (asc_srt _)
theorem mem_mt_swap {a b : List Spc} {side : Int} (h : errC a b = 0) {p : Pr} : p ∈ mtS b a side ↔ swP p ∈ mtS a b side := by
  unfold mtS
  rw [mem_srt, mem_srt, prsS_swap h, List.mem_map]
  constructor
  · rintro ⟨q, hq, rfl⟩; exact hq
  · intro hq; exact ⟨swP p, hq, rfl⟩
theorem mt_swap_len {a b : List Spc} {side : Int} (h : errC a b = 0) : (mtS b a side).length = (mtS a b side).length := by
  have h1 : (mtS b a side).Perm ((mtS a b side).map swP) := by
    refine (List.perm_ext_iff_of_nodup (mtS_nodup b a side) ?_).2 fun p => ?_
    · exact List.Pairwise.map swP (fun x y (hxy : x ≠ y) e => hxy (by rw [← swP_swP x, ← swP_swP y, show swP x = swP y from e])) (mtS_nodup a b side)
    · rw [mem_mt_swap h, List.mem_map]
      constructor
      · intro hq; exact ⟨swP p, hq, rfl⟩
      · rintro ⟨q, hq, rfl⟩; exact hq
  rw [h1.length_eq, List.length_map]
theorem getD_mapP {f : Pr → Pr} {l : List Pr} {i : Nat} (h : i < l.length) : (l.map f).getD i dP = f (l.getD i dP) := by
  rw [List.getD_eq_getElem?_getD, List.getElem?_map, getD_some h]; rfl
theorem agRow_swap {l : List Pr} {i : Nat} (hi : i < l.length) : ∀ k, k ≤ i → agRow (l.map swP) i k = agRow l i k
  | 0, _ => rfl
  | k + 1, hk => by
    rw [agRow, agRow, agRow_swap hi k (by omega), getD_mapP hi, getD_mapP (by omega)]
    congr 1
    by_cases h : decide ((l.getD i dP).1 = (l.getD k dP).1) = decide ((l.getD i dP).2 = (l.getD k dP).2)
    · rw [if_pos h, if_pos h.symm]
    · rw [if_neg h, if_neg fun e => h e.symm]
theorem agS_swap {l : List Pr} : ∀ i, i ≤ l.length → agS (l.map swP) i = agS l i
  | 0, _ => rfl
  | i + 1, h => by rw [agS, agS, agS_swap i (by omega), agRow_swap (by omega) i (Nat.le_refl _)]
theorem errG_swap {a b : List Spc} {side : Int} (h : errC a b = 0) : errG b a side = errG a b side := by
  unfold errG
  rw [errP_swap h, prsS_swap h, List.length_map]
theorem agO_swap {a b : List Spc} {side : Int} (h : errC a b = 0) : agO b a side = agO a b side := by
  unfold agO
  rw [errG_swap h, prsS_swap h, List.length_map, agS_swap _ (Nat.le_refl _)]
theorem errB_swap {a b : List Spc} {side : Int} (h : errC a b = 0) : errB b a side = errB a b side := by
  unfold errB
  rw [errP_swap h, prsS_swap h, List.map_map, List.map_map]
  by_cases h1 : errP a b side ≠ 0
  · rw [if_pos h1, if_pos h1]
  · rw [if_neg h1, if_neg h1]
    by_cases h2 : 7 < ndI ((prsS a b side).map (·.1)) ∨ 7 < ndI ((prsS a b side).map (·.2))
    · rw [if_pos h2, if_pos (show 7 < ndI ((prsS a b side).map ((·.1) ∘ swP)) ∨ 7 < ndI ((prsS a b side).map ((·.2) ∘ swP)) from h2.symm)]
    · rw [if_neg h2, if_neg (show ¬ (7 < ndI ((prsS a b side).map ((·.1) ∘ swP)) ∨ 7 < ndI ((prsS a b side).map ((·.2) ∘ swP))) from fun h3 => h2 h3.symm)]
theorem count_swap (l : List Pr) (p : Pr) : (l.map swP).count (swP p) = l.count p := by
  induction l with
  | nil => rfl
  | cons q l ih =>
    rw [List.map_cons, List.count_cons, List.count_cons, ih]
    congr 1
    by_cases h : q = p
    · subst h; simp
    · have h1 : (q == p) = false := by simpa using h
      have h2 : (swP q == swP p) = false := by simpa using fun e1 e2 => h (Prod.ext e2 e1)
      rw [h1, h2]
theorem sumW_swap (l : List Pr) : ∀ t : List Pr, sumW (wtP (l.map swP)) (t.map swP) = sumW (wtP l) t
  | [] => rfl
  | p :: t => by
    rw [List.map_cons, sumW, sumW, sumW_swap l t]
    congr 1
    show getM 0 (swP p) (cntM (l.map swP)) = getM 0 p (cntM l)
    rw [cntM_get, cntM_get, count_swap]
theorem matchP_swap {t : List Pr} (h : matchP t) : matchP (t.map swP) := List.Pairwise.map swP (fun _ _ hxy => ⟨hxy.2, hxy.1⟩) h
theorem bst_swap_le (l : List Pr) : sumW (wtP l) (bstL l) ≤ sumW (wtP (l.map swP)) (bstL (l.map swP)) := by
  rw [← sumW_swap l (bstL l)]
  have h := goB_spec (W := wtP l) (srt l)
  refine bst_max (matchP_swap h.2.1) fun p hp => ?_
  obtain ⟨q, hq, rfl⟩ := List.mem_map.1 hp
  exact mem_srt.2 (List.mem_map.2 ⟨q, mem_srt.1 (h.1.subset hq), rfl⟩)
theorem map_swap (l : List Pr) : (l.map swP).map swP = l := by
  rw [List.map_map]
  exact (List.map_congr_left fun x _ => rfl).trans (List.map_id _)
theorem bstN_swap {a b : List Spc} {side : Int} (h : errC a b = 0) : bstN b a side = bstN a b side := by
  unfold bstN
  rw [errB_swap h, prsS_swap h]
  split
  · refine Int.le_antisymm ?_ (bst_swap_le _)
    have := bst_swap_le ((prsS a b side).map swP)
    rwa [map_swap] at this
  · rfl
theorem lmpS_swap {a b : List Spc} {side : Int} (h : errC a b = 0) : lmpS b a side = splS a b side := if_neg (by rw [errC_symm h]; simp)
theorem foundCases (f : Bool) (p q : Pr) : f = true ∨ (f = false ∧ p = q) ∨ (f = false ∧ ¬ p = q) := by
  cases f with
  | true => exact .inl rfl
  | false =>
    by_cases h : p = q
    · exact .inr (.inl ⟨rfl, h⟩)
    · exact .inr (.inr ⟨rfl, h⟩)
theorem any_step {n : List Pr} {j : Nat} (h : j < n.length) (q : Pr) : (n.take (j + 1)).any (fun p => decide (p = q)) = ((n.take j).any (fun p => decide (p = q)) || decide (n.getD j dP = q)) := by
  rw [takeP_succ h, List.any_append]; simp
theorem any_all {n : List Pr} {q : Pr} (h : q ∈ n) : n.any (fun p => decide (p = q)) = true := List.any_eq_true.2 ⟨q, h, decide_eq_true rfl⟩
/-! ## Agreement 1 -/
/-- neither splits nor lumps -/
def clnB (a b : List Spc) (side : Int) : Bool := decide (splS a b side = [] ∧ lmpS a b side = [])
theorem splS_nil {a b : List Spc} {side : Int} : splS a b side = [] ↔ ((mtS a b side).map (fun x : Pr => x.1)).Nodup := by
  unfold splS
  rw [List.nodup_iff_count]
  constructor
  · intro h x
    refine Classical.byContradiction fun hc => ?_
    have : x ∈ spK ((mtS a b side).map (fun x : Pr => x.1)) := mem_spK.2 (by omega)
    rw [h] at this; cases this
  · intro h
    refine List.eq_nil_iff_forall_not_mem.2 fun x hx => ?_
    have h1 := mem_spK.1 hx
    have h2 : List.count x ((mtS a b side).map (fun x : Pr => x.1)) ≤ 1 := h x
    omega
theorem nodup_map_of {l : List Pr} {f : Pr → Int} (hl : l.Nodup) : (l.map f).Nodup ↔ ∀ x ∈ l, ∀ y ∈ l, f x = f y → x = y := by
  constructor
  · intro h x hx y hy e
    obtain ⟨i, hi⟩ := List.mem_iff_getElem?.1 hx
    obtain ⟨j, hj⟩ := List.mem_iff_getElem?.1 hy
    have e1 : (l.map f)[i]? = some (f x) := by rw [List.getElem?_map, hi]; rfl
    have e2 : (l.map f)[j]? = some (f x) := by rw [List.getElem?_map, hj, e]; rfl
    have hlt := (List.getElem?_eq_some_iff.1 e1).1
    have : i = j := (List.getElem?_inj hlt h).1 (e1.trans e2.symm)
    subst this
    rw [hi] at hj; exact Option.some.inj hj
  · intro h
    refine List.pairwise_map.2 (List.Pairwise.imp_of_mem (fun {x y} hx hy hne e => hne (h x hx y hy e)) hl)
/-- what 'clean' says of the pairs -/
theorem cln_iff {a b : List Spc} {side : Int} (h : errP a b side = 0) : clnB a b side = true ↔ ∀ p ∈ prsS a b side, ∀ q ∈ prsS a b side, (p.1 = q.1 ↔ p.2 = q.2) := by
  have hc := errP_errC (fun h' => h' h)
  unfold clnB
  rw [decide_eq_true_iff, (lmp_ok (fun h' => h' h)).1, splS_nil, splS_nil, nodup_map_of (mtS_nodup a b side), nodup_map_of (mtS_nodup b a side)]
  constructor
  · rintro ⟨h1, h2⟩ p hp q hq
    constructor
    · intro e; rw [h1 p (mem_srt.2 hp) q (mem_srt.2 hq) e]
    · intro e
      have h3 := h2 (swP p) ((mem_mt_swap hc).2 (mem_srt.2 hp)) (swP q) ((mem_mt_swap hc).2 (mem_srt.2 hq)) e
      have : p = q := by rw [← swP_swP p, ← swP_swP q, h3]
      rw [this]
  · intro h
    refine ⟨fun x hx y hy e => ?_, fun x hx y hy e => ?_⟩
    · exact Prod.ext e ((h x (mem_srt.1 hx) y (mem_srt.1 hy)).1 e)
    · have hx' := mem_srt.1 ((mem_mt_swap hc).1 hx)
      have hy' := mem_srt.1 ((mem_mt_swap hc).1 hy)
      exact Prod.ext e ((h (swP x) hx' (swP y) hy').2 e)
theorem sumW_nodup {l : List Pr} : ∀ {t : List Pr}, t.Nodup → sumW (wtP l) t = ((l.filter fun p => decide (p ∈ t)).length : Int) := fun {t} ht => by
  have e : sumW (wtP l) t = sumW (fun p => (l.count p : Int)) t := sumW_congr (fun p => cntM_get l p) t
  rw [e, sum_both]
  induction l with
  | nil => rfl
  | cons q l ih =>
    rw [List.map_cons, List.sum_cons, ih (sumW_congr (fun p => cntM_get l p) t), List.filter_cons]
    by_cases hq : q ∈ t
    · rw [if_pos (decide_eq_true hq), List.length_cons, show List.count q t = 1 from Nat.le_antisymm (List.nodup_iff_count.1 ht q) (List.count_pos_iff.2 hq)]
      omega
    · rw [if_neg (by rw [decide_eq_false hq]; simp), List.count_eq_zero.2 hq]
      omega
theorem sumW_le_len {l t : List Pr} (ht : t.Nodup) : sumW (wtP l) t ≤ (l.length : Int) := by
  rw [sumW_nodup ht]
  have := List.length_filter_le (fun p => decide (p ∈ t)) l
  omega
theorem bst_len_iff {a b : List Spc} {side : Int} (h : errP a b side = 0) (hb : errB a b side = 0) : bstN a b side ≤ ((comS a b).length : Int) ∧ (bstN a b side = ((comS a b).length : Int) ↔ clnB a b side = true) := by
  have hc := errP_errC (fun h' => h' h)
  have hl : (prsS a b side).length = (comS a b).length := by rw [prsS_yes h, List.length_map]
  have hs := goB_spec (W := wtP (prsS a b side)) (srt (prsS a b side))
  have hn : (bstL (prsS a b side)).Nodup := matchP_nodup hs.2.1
  rw [(bst_yes hb).2, ← hl]
  refine ⟨sumW_le_len hn, ?_⟩
  rw [cln_iff h]
  constructor
  · intro he p hp q hq
    rw [sumW_nodup hn] at he
    have hall : ∀ x ∈ prsS a b side, x ∈ bstL (prsS a b side) := by
      have h2 : (prsS a b side).filter (fun p => decide (p ∈ bstL (prsS a b side))) = prsS a b side := (List.filter_sublist).eq_of_length (by omega)
      intro x hx
      have := List.filter_eq_self.1 h2 x hx
      exact of_decide_eq_true this
    by_cases hpq : p = q
    · subst hpq; simp
    · have hm : matchP (bstL (prsS a b side)) := hs.2.1
      have key : p.1 ≠ q.1 ∧ p.2 ≠ q.2 := by
        have hp' := hall p hp
        have hq' := hall q hq
        obtain ⟨i, hi⟩ := List.mem_iff_getElem?.1 hp'
        obtain ⟨j, hj⟩ := List.mem_iff_getElem?.1 hq'
        obtain ⟨hi1, hi2⟩ := List.getElem?_eq_some_iff.1 hi
        obtain ⟨hj1, hj2⟩ := List.getElem?_eq_some_iff.1 hj
        rcases Nat.lt_trichotomy i j with hij | hij | hij
        · have := List.pairwise_iff_getElem.1 hm i j hi1 hj1 hij
          rw [hi2, hj2] at this
          exact this
        · subst hij
          rw [hi] at hj; exact absurd (Option.some.inj hj) hpq
        · have := List.pairwise_iff_getElem.1 hm j i hj1 hi1 hij
          rw [hi2, hj2] at this
          exact ⟨fun e => this.1 e.symm, fun e => this.2 e.symm⟩
      exact ⟨fun e => absurd e key.1, fun e => absurd e key.2⟩
  · intro hcl
    refine Int.le_antisymm (sumW_le_len hn) ?_
    have hm : matchP (srt (prsS a b side)) := by
      refine List.Pairwise.imp_of_mem (fun {x y} hx hy (hne : x ≠ y) => ?_) (asc_nodup (asc_srt (prsS a b side)))
      have hi := hcl x (mem_srt.1 hx) y (mem_srt.1 hy)
      exact ⟨fun e => hne (Prod.ext e (hi.1 e)), fun e => hne (Prod.ext (hi.2 e) e)⟩
    have h1 := bst_max (l := prsS a b side) hm fun p hp => hp
    rw [sumW_nodup (asc_nodup (asc_srt _))] at h1
    have h2 : (prsS a b side).filter (fun p => decide (p ∈ srt (prsS a b side))) = prsS a b side := List.filter_eq_self.2 fun x hx => decide_eq_true (mem_srt.2 hx)
    rw [h2] at h1
    exact h1
theorem agRow_full {l : List Pr} {i : Nat} : ∀ {k : Nat}, agRow l i k = k ↔ ∀ j, j < k → decide ((l.getD i dP).1 = (l.getD j dP).1) = decide ((l.getD i dP).2 = (l.getD j dP).2)
  | 0 => by simp [agRow]
  | k + 1 => by
    have ih := agRow_full (l := l) (i := i) (k := k)
    have hb := agRow_in l i k
    rw [agRow]
    constructor
    · intro h j hj
      by_cases hc : decide ((l.getD i dP).1 = (l.getD k dP).1) = decide ((l.getD i dP).2 = (l.getD k dP).2)
      · rw [if_pos hc] at h
        rcases Nat.lt_or_eq_of_le (Nat.le_of_lt_succ hj) with hj' | rfl
        · exact ih.1 (by omega) j hj'
        · exact hc
      · rw [if_neg hc] at h; omega
    · intro h
      rw [if_pos (h k (by omega)), ih.2 fun j hj => h j (by omega)]; omega
theorem agS_full {l : List Pr} : ∀ {i : Nat}, agS l i = alS i ↔ ∀ j, j < i → ∀ k, k < j → decide ((l.getD j dP).1 = (l.getD k dP).1) = decide ((l.getD j dP).2 = (l.getD k dP).2)
  | 0 => by simp [agS, alS]
  | i + 1 => by
    have ih := agS_full (l := l) (i := i)
    have h1 := agS_in l i
    have h2 := agRow_in l i i
    rw [agS, alS]
    constructor
    · intro h j hj
      rcases Nat.lt_or_eq_of_le (Nat.le_of_lt_succ hj) with hj' | rfl
      · exact ih.1 (by omega) j hj'
      · exact agRow_full.1 (by omega)
    · intro h
      rw [ih.2 fun j hj => h j (by omega), agRow_full.2 (h i (by omega))]
theorem agS_cln {a b : List Spc} {side : Int} (h : errP a b side = 0) : agS (prsS a b side) (prsS a b side).length = alS (prsS a b side).length ↔ clnB a b side = true := by
  rw [agS_full, cln_iff h]
  have hd : ∀ (p q : Pr), (decide (p.1 = q.1) = decide (p.2 = q.2)) ↔ (p.1 = q.1 ↔ p.2 = q.2) := fun p q => decide_eq_decide
  constructor
  · intro hh p hp q hq
    obtain ⟨i, hi⟩ := List.mem_iff_getElem?.1 hp
    obtain ⟨j, hj⟩ := List.mem_iff_getElem?.1 hq
    have hi1 := (List.getElem?_eq_some_iff.1 hi).1
    have hj1 := (List.getElem?_eq_some_iff.1 hj).1
    have ep : (prsS a b side).getD i dP = p := by rw [List.getD_eq_getElem?_getD, hi]; rfl
    have eq : (prsS a b side).getD j dP = q := by rw [List.getD_eq_getElem?_getD, hj]; rfl
    rcases Nat.lt_trichotomy i j with hij | hij | hij
    · have := (hd _ _).1 (hh j hj1 i hij)
      rw [ep, eq] at this
      exact ⟨fun e => (this.1 e.symm).symm, fun e => (this.2 e.symm).symm⟩
    · subst hij
      rw [hi] at hj
      rw [Option.some.inj hj]; simp
    · have := (hd _ _).1 (hh i hi1 j hij)
      rw [ep, eq] at this
      exact this
  · intro hh j hj k hk
    exact (hd _ _).2 (hh _ (getD_mem2 hj) _ (getD_mem2 (by omega)))
theorem alS_pos : ∀ {i : Nat}, 2 ≤ i → 0 < alS i
  | i + 1, h => by
    have h1 : 0 ≤ alS i := by
      have := agS_in [] i; omega
    rw [alS]; omega
/-- the agreement beside 1 -/
theorem ag_one {x y : Int} (h0 : 0 ≤ x) (hxy : x ≤ y) (hy : 0 < y) : cmpQ (ofq x y) (ofq 1 1) ≤ 0 ∧ (cmpQ (ofq x y) (ofq 1 1) = 0 ↔ x = y) := by
  have hy' : (0 : Rat) < (y : Rat) := by exact_mod_cast hy
  have e1 : ofq 1 1 = 1 := by decide +kernel
  rw [e1, ofq_eq]
  have hne : ¬ (1 : Rat) < (x : Rat) / (y : Rat) := by
    rw [Rat.lt_div_iff hy', Rat.one_mul]
    intro h
    have : y < x := by exact_mod_cast h
    omega
  have h0' := h0
  unfold cmpQ
  by_cases hlt : (x : Rat) / (y : Rat) < 1
  · rw [if_pos hlt]
    refine ⟨by decide, ⟨fun h => absurd h (by decide), fun e => ?_⟩⟩
    subst e
    rw [Rat.div_lt_iff hy', Rat.one_mul] at hlt
    exact absurd hlt Rat.lt_irrefl
  · rw [if_neg hlt, if_neg hne]
    refine ⟨by decide, ⟨fun _ => ?_, fun _ => rfl⟩⟩
    refine Classical.byContradiction fun hc => hlt ?_
    rw [Rat.div_lt_iff hy', Rat.one_mul]
    have : x < y := by omega
    exact_mod_cast this
end Go.Fw
namespace Go.Fw
open Go Go.RowKit Go.Nat9
theorem dec_eq_bool {p : Prop} [Decidable p] {b : Bool} (h : p ↔ b = true) : decide p = b := by
  cases b with
  | true => exact decide_eq_true (h.2 rfl)
  | false => exact decide_eq_false fun hp => absurd (h.1 hp) (by decide)
theorem errP_two {a b : List Spc} {side : Int} (h : side = 0 ∨ side = 1) : errP a b side = errC a b := by
  unfold errP
  by_cases hc : errC a b ≠ 0
  · rw [if_pos hc]
  · rw [if_neg hc, if_neg (by omega)]; exact (Classical.not_not.1 hc).symm
theorem err_sum {a b : List Spc} (h : errC a b ≠ 0) : errS a + errS b ≠ 0 := by
  have h1 := errS_le a
  have h2 := errS_le b
  unfold errC at h
  split at h <;> omega
theorem errB_06 {a b : List Spc} {side : Int} (h : errP a b side = 0) (h2 : ¬ errB a b side = 0) : errB a b side = 6 := by
  unfold errB at h2 ⊢
  rw [if_neg (by rw [h]; simp)] at h2 ⊢
  split at h2
  · rename_i hc; rw [if_pos hc]
  · exact absurd rfl h2
theorem cln_len {a b : List Spc} {side : Int} (h1 : (((splS a b side).length : Nat) : Int) = 0) (h2 : (((lmpS a b side).length : Nat) : Int) = 0) : true = clnB a b side :=
  (decide_eq_true ⟨List.length_eq_zero_iff.1 (by omega), List.length_eq_zero_iff.1 (by omega)⟩).symm
theorem cln_no1 {a b : List Spc} {side : Int} (h1 : ¬ (((splS a b side).length : Nat) : Int) = 0) : false = clnB a b side := (decide_eq_false fun h => h1 (by rw [h.1]; rfl)).symm
theorem cln_no2 {a b : List Spc} {side : Int} (h2 : ¬ (((lmpS a b side).length : Nat) : Int) = 0) : false = clnB a b side := (decide_eq_false fun h => h2 (by rw [h.2]; rfl)).symm
theorem cln_small {a b : List Spc} {side : Int} (h : errP a b side = 0) (hl : (prsS a b side).length < 2) : clnB a b side = true := by
  refine (cln_iff h).2 fun p hp q hq => ?_
  have : p = q := by
    match hm : prsS a b side, hl with
    | [], _ => rw [hm] at hp; cases hp
    | [x], _ => rw [hm] at hp hq; rw [List.mem_singleton.1 hp, List.mem_singleton.1 hq]
  rw [this]; simp
theorem prs_com {a b : List Spc} {side : Int} (h : errP a b side = 0) : (prsS a b side).length = (comS a b).length := by rw [prsS_yes h, List.length_map]
theorem ag_cmp {a b : List Spc} {side : Int} (h : errP a b side = 0) (hl : ¬ (prsS a b side).length < 2) : cmpQ (fval (agO a b side)) (ofq 1 1) ≤ 0 ∧ (cmpQ (fval (agO a b side)) (ofq 1 1) = 0 ↔ clnB a b side = true) := by
  rw [agO_yes (errG_0 (fun h' => h' h) hl), ← agS_cln h]
  have h1 := agS_in (prsS a b side) (prsS a b side).length
  exact ag_one h1.1 h1.2 (alS_pos (by omega))
theorem qs_agS (a b : List Spc) (side : Int) (ha : a.length ≤ 1000) : qs (fval (agO a b side)) 1000000 := by
  unfold agO
  split
  · have hl := prsS_len a b side
    have hag := agS_in (prsS a b side) (prsS a b side).length
    have hal := alS_in (prsS a b side).length
    have h := qs_ofq (n := agS (prsS a b side) (prsS a b side).length) (d := alS (prsS a b side).length) (by omega) (by omega)
    exact ⟨Nat.le_trans h.1 (by decide), Nat.le_trans h.2 (by decide)⟩
  · exact ⟨Nat.le_trans qs_zero.1 (by decide), Nat.le_trans qs_zero.2 (by decide)⟩
end Go.Fw
