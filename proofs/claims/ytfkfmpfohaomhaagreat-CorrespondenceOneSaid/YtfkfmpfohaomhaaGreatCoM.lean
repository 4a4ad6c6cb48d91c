/- Chapter 18: no assignment weighs more. Plain. -/
import Derived.Test.YtfkfmpfohaomhaaGreatCoGL
namespace Go.Fw
open Go Go.RowKit
def u8c (L : List Nat) : List Value := L.map fun k => .int .u8 ((k : Nat) : Int)
theorem u8c_len (L : List Nat) : (u8c L).length = L.length := List.length_map _
theorem u8c_get {L : List Nat} {k : Nat} (h : k < L.length) : (u8c L)[k]? = some (.int .u8 ((L.getD k 0 : Nat) : Int)) := by
  unfold u8c
  rw [List.getElem?_map, List.getElem?_eq_getElem h, List.getD_eq_getElem?_getD, List.getElem?_eq_getElem h]; rfl
theorem u8_lt {L : List Nat} (h : ∀ x ∈ L, x < 256) {k : Nat} (hk : k < L.length) : L.getD k 0 < 256 := by
  rw [List.getD_eq_getElem?_getD, List.getElem?_eq_getElem hk]
  exact h _ (List.getElem_mem hk)
theorem asc_sub : ∀ {m l : List Pr}, Asc l → Asc m → (∀ x ∈ l, x ∈ m) → l.Sublist m
  | [], l, _, _, h => by
    cases l with
    | nil => exact List.Sublist.slnil
    | cons x l => exact absurd (h x List.mem_cons_self) List.not_mem_nil
  | y :: m, [], _, _, _ => List.nil_sublist _
  | y :: m, x :: l, hl, hm, h => by
    have hl' := List.pairwise_cons.1 hl
    have hm' := List.pairwise_cons.1 hm
    rcases List.mem_cons.1 (h x List.mem_cons_self) with rfl | hx
    · refine (asc_sub hl'.2 hm'.2 fun z hz => ?_).cons_cons x
      rcases List.mem_cons.1 (h z (List.mem_cons_of_mem _ hz)) with rfl | hz'
      · exact absurd (hl'.1 z hz) (ltP.irr z)
      · exact hz'
    · refine (asc_sub hl hm'.2 fun z hz => ?_).cons y
      rcases List.mem_cons.1 (h z hz) with rfl | hz'
      · exfalso
        have h1 := hm'.1 x hx
        rcases List.mem_cons.1 hz with rfl | hz2
        · exact ltP.irr _ h1
        · exact ltP.asymm h1 (hl'.1 z hz2)
      · exact hz'
theorem asc_nodup {l : List Pr} (h : Asc l) : l.Nodup := List.Pairwise.imp (S := fun a b => a ≠ b) (fun {a b} (hpq : ltP a b) (e : a = b) => ltP.irr b (by rw [e] at hpq; exact hpq)) h
theorem matchP_nodup {l : List Pr} (h : matchP l) : l.Nodup := h.imp fun hpq e => hpq.1 (by rw [e])
theorem sumW_perm {W : Pr → Int} {l m : List Pr} (h : l.Perm m) : sumW W l = sumW W m := by
  induction h with
  | nil => rfl
  | cons x _ ih => rw [sumW, sumW, ih]
  | swap x y l => rw [sumW, sumW, sumW, sumW]; omega
  | trans _ _ ih1 ih2 => rw [ih1, ih2]
theorem matchP_perm {l m : List Pr} (h : l.Perm m) (hl : matchP l) : matchP m := h.pairwise hl fun hpq => ⟨fun e => hpq.1 e.symm, fun e => hpq.2 e.symm⟩
/-- an assignment in any order weighs at most as much as the best one -/
theorem bst_max {l t : List Pr} (hm : matchP t) (hs : ∀ p ∈ t, p ∈ srt l) : sumW (wtP l) t ≤ sumW (wtP l) (bstL l) := by
  have hp : (srt t).Perm t := (List.perm_ext_iff_of_nodup (asc_nodup (asc_srt t)) (matchP_nodup hm)).2 fun x => mem_srt
  rw [← sumW_perm hp]
  refine (goB_spec (W := wtP l) (srt l)).2.2 (srt t) (asc_sub (asc_srt t) (asc_srt l) fun x hx => hs x (mem_srt.1 hx)) (matchP_perm hp.symm hm)
/-! ## The weight, as the loops count it -/
def wcell (t : List Pr) (x y : Spc) : Int := if x.id = y.id then (t.count (x.ob, y.ob) : Int) else 0
def wrow (b : List Spc) (t : List Pr) (x : Spc) (k : Nat) : Int := ((b.take k).map (wcell t x)).sum
def wT (a b : List Spc) (t : List Pr) (i : Nat) : Int := ((a.take i).map fun x => wrow b t x b.length).sum
theorem sum_takeS {f : Spc → Int} {l : List Spc} {i : Nat} (h : i < l.length) : ((l.take (i + 1)).map f).sum = ((l.take i).map f).sum + f (l.getD i dS) := by
  rw [takeS_succ h, List.map_append, List.sum_append]; simp
theorem wrow_succ {b : List Spc} {t : List Pr} {x : Spc} {k : Nat} (h : k < b.length) : wrow b t x (k + 1) = wrow b t x k + wcell t x (b.getD k dS) := sum_takeS h
theorem wT_succ {a b : List Spc} {t : List Pr} {i : Nat} (h : i < a.length) : wT a b t (i + 1) = wT a b t i + wrow b t (a.getD i dS) b.length := sum_takeS h
theorem wcell_in (t : List Pr) (x y : Spc) (h : t.length ≤ 20) : 0 ≤ wcell t x y ∧ wcell t x y ≤ 20 := by
  unfold wcell
  split
  · have := List.count_le_length (a := (x.ob, y.ob)) (l := t); omega
  · omega
theorem wrow_in {b : List Spc} {t : List Pr} {x : Spc} (h : t.length ≤ 20) : ∀ k, k ≤ b.length → 0 ≤ wrow b t x k ∧ wrow b t x k ≤ 20 * k
  | 0, _ => by unfold wrow; simp
  | k + 1, hk => by
    have ih := wrow_in (b := b) (x := x) h k (by omega)
    have h2 := wcell_in t x (b.getD k dS) h
    rw [wrow_succ (by omega)]; omega
theorem wT_in {a b : List Spc} {t : List Pr} (h : t.length ≤ 20) (hb : b.length ≤ 100) : ∀ i, i ≤ a.length → 0 ≤ wT a b t i ∧ wT a b t i ≤ 2000 * i
  | 0, _ => by unfold wT; simp
  | i + 1, hi => by
    have ih := wT_in (a := a) h hb i (by omega)
    have h2 := wrow_in (b := b) (x := a.getD i dS) h b.length (Nat.le_refl _)
    rw [wT_succ (by omega)]; omega
theorem wrow_one {b : List Spc} {t : List Pr} {x : Spc} (hn : (idsS b).Nodup) : wrow b t x b.length = if (findS b x.id).isSome = true then (t.count (x.ob, ((findS b x.id).getD dS).ob) : Int) else 0 := by
  unfold wrow
  rw [List.take_length]
  induction b with
  | nil => simp [findS]
  | cons y b ih =>
    have hn' := List.nodup_cons.1 hn
    rw [List.map_cons, List.sum_cons, ih hn'.2]
    unfold findS
    rw [List.find?_cons]
    unfold wcell
    by_cases h : x.id = y.id
    · have h2 : decide (y.id = x.id) = true := decide_eq_true h.symm
      have hno : List.find? (fun s => decide (s.id = x.id)) b = none := by
        rw [List.find?_eq_none]
        intro s hs e
        exact hn'.1 (by show y.id ∈ _; rw [← h, ← of_decide_eq_true e]; exact List.mem_map.2 ⟨s, hs, rfl⟩)
      rw [if_pos h, h2, hno]; simp
    · have h2 : decide (y.id = x.id) = false := decide_eq_false fun e => h e.symm
      rw [if_neg h, h2]; simp
theorem sum_filter (f : Int → Int) (P : Int → Bool) : ∀ L : List Int, ((L.filter P).map f).sum = (L.map fun x => if P x = true then f x else 0).sum
  | [] => rfl
  | x :: L => by
    rw [List.filter_cons, List.map_cons, List.sum_cons, ← sum_filter f P L]
    split
    · rw [List.map_cons, List.sum_cons]
    · omega
theorem sum_perm {l m : List Int} (h : l.Perm m) : l.sum = m.sum := by
  induction h with
  | nil => rfl
  | cons x _ ih => rw [List.sum_cons, List.sum_cons, ih]
  | swap x y l => rw [List.sum_cons, List.sum_cons, List.sum_cons, List.sum_cons]; omega
  | trans _ _ ih1 ih2 => rw [ih1, ih2]
theorem wT_all {a b : List Spc} {t : List Pr} (h : errP a b 0 = 0) : wT a b t a.length = sumW (wtP (prsS a b 0)) t := by
  have hc := errP_errC (a := a) (b := b) (side := 0) (fun h' => h' h)
  obtain ⟨ha, hb⟩ := errC_ids hc
  have e1 : sumW (wtP (prsS a b 0)) t = sumW (fun p => ((prsS a b 0).count p : Int)) t := sumW_congr (fun p => cntM_get _ p) t
  rw [e1, sum_both, prsS_yes h, comS_yes hc, List.map_map, sum_perm ((srtI_perm _).map _)]
  unfold comI
  rw [sum_filter]
  unfold wT idsS
  rw [List.take_length, List.map_map]
  congr 1
  refine List.map_congr_left fun x hx => ?_
  rw [wrow_one hb]
  simp only [Function.comp]
  split
  · show ((t.count (x.ob, _) : Nat) : Int) = ((t.count (dieS ((findS a x.id).getD dS) 0, _) : Nat) : Int)
    rw [findS_self ha hx]; rfl
  · rfl
theorem tripCases (x y : Spc) (p : Pr) : (x.id = y.id ∧ x.ob = p.1 ∧ y.ob = p.2) ∨ (x.id = y.id ∧ x.ob = p.1 ∧ ¬ y.ob = p.2) ∨ (x.id = y.id ∧ ¬ x.ob = p.1) ∨ ¬ x.id = y.id := by
  by_cases h1 : x.id = y.id
  · by_cases h2 : x.ob = p.1
    · by_cases h3 : y.ob = p.2
      · exact .inl ⟨h1, h2, h3⟩
      · exact .inr (.inl ⟨h1, h2, h3⟩)
    · exact .inr (.inr (.inl ⟨h1, h2⟩))
  · exact .inr (.inr (.inr h1))
def wpart (t : List Pr) (x y : Spc) (j : Nat) : Int := if x.id = y.id then ((t.take j).count (x.ob, y.ob) : Int) else 0
theorem wpart_zero (t : List Pr) (x y : Spc) : wpart t x y 0 = 0 := by unfold wpart; simp
theorem wpart_all (t : List Pr) (x y : Spc) : wpart t x y t.length = wcell t x y := by unfold wpart wcell; rw [List.take_length]
theorem wpart_yes {t : List Pr} {x y : Spc} {j : Nat} (h : j < t.length) (h1 : x.id = y.id) (h2 : x.ob = (t.getD j dP).1) (h3 : y.ob = (t.getD j dP).2) : wpart t x y (j + 1) = wpart t x y j + 1 := by
  unfold wpart; rw [if_pos h1, if_pos h1, count_take h, if_pos (Prod.ext h2 h3)]; rfl
theorem wpart_no {t : List Pr} {x y : Spc} {j : Nat} (h : j < t.length) (h1 : ¬ (x.id = y.id ∧ x.ob = (t.getD j dP).1 ∧ y.ob = (t.getD j dP).2)) : wpart t x y (j + 1) = wpart t x y j := by
  unfold wpart
  by_cases h2 : x.id = y.id
  · rw [if_pos h2, if_pos h2, count_take h, if_neg (fun e => h1 ⟨h2, congrArg Prod.fst e, congrArg Prod.snd e⟩)]; rfl
  · rw [if_neg h2, if_neg h2]
theorem wpart_in (t : List Pr) (x y : Spc) (j : Nat) (h : t.length ≤ 20) : 0 ≤ wpart t x y j ∧ wpart t x y j ≤ 20 := by
  unfold wpart
  split
  · have := List.count_le_length (a := (x.ob, y.ob)) (l := t.take j)
    rw [List.length_take] at this; omega
  · omega
theorem matchP_snoc {t : List Pr} {p : Pr} (h : matchP t) (hc : ¬ clashP t p = true) : matchP (t ++ [p]) := List.pairwise_append.2 ⟨h, List.pairwise_singleton _ _, fun a ha b hb => by
  obtain rfl := List.mem_singleton.1 hb
  exact clashP_false.1 hc a ha⟩
theorem in_snoc {t m : List Pr} {p : Pr} (h : ∀ x ∈ t, x ∈ m) (hp : p ∈ m) : ∀ x ∈ t ++ [p], x ∈ m := fun x hx => (List.mem_append.1 hx).elim (h x) fun hx => by rw [List.mem_singleton.1 hx]; exact hp
end Go.Fw
