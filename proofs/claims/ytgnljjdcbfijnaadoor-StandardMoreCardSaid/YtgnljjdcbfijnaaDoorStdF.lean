/- Chapter 38: the union of the spans; errors and scores. Plain. -/
import Derived.Test.YtgnljjdcbfijnaaDoorStdE
namespace Go.Fw
open Go Go.RowKit Go.Nat9

theorem inS_iff {S : List (Rat × Rat)} {q : Rat} : inS S q = true ↔ ∃ j, j < S.length ∧ (S.getD j (0, 0)).1 ≤ q ∧ q ≤ (S.getD j (0, 0)).2 := by
  unfold inS
  rw [List.any_eq_true]
  constructor
  · rintro ⟨x, hx, hd⟩
    obtain ⟨j, hj, rfl⟩ := List.mem_iff_getElem.1 hx
    refine ⟨j, hj, ?_⟩
    rw [List.getD_eq_getElem?_getD, List.getElem?_eq_getElem hj]
    exact of_decide_eq_true hd
  · rintro ⟨j, hj, hd⟩
    rw [List.getD_eq_getElem?_getD, List.getElem?_eq_getElem hj] at hd
    exact ⟨S[j], List.getElem_mem hj, decide_eq_true hd⟩
theorem inS_sstep {S : List (Rat × Rat)} {lo hi q : Rat} (hlo : ∀ j, j < S.length → (S.getD j (0, 0)).1 ≤ lo) (hhi : ∀ j, j < S.length → (S.getD j (0, 0)).2 ≤ hi) : inS (sstep S lo hi) q = true ↔ inS S q = true ∨ (lo ≤ q ∧ q ≤ hi) := by
  rw [inS_iff, inS_iff]
  unfold sstep
  split
  · rename_i hc
    have hn : S.length - 1 < S.length := by omega
    rw [List.length_set]
    constructor
    · rintro ⟨j, hj, h⟩
      rw [getD_setP _ _ _ _ hn] at h
      by_cases e : S.length - 1 = j
      · rw [if_pos e] at h
        by_cases h2 : q ≤ (S.getD (S.length - 1) (0, 0)).2
        · exact .inl ⟨S.length - 1, hn, h.1, h2⟩
        · exact .inr ⟨Rat.le_trans hc.2 (Rat.le_of_lt (Rat.not_le.1 h2)), h.2⟩
      · rw [if_neg e] at h; exact .inl ⟨j, hj, h⟩
    · rintro (⟨j, hj, h⟩ | h)
      · refine ⟨j, hj, ?_⟩
        rw [getD_setP _ _ _ _ hn]
        split
        · rename_i e
          subst e
          exact ⟨h.1, Rat.le_trans h.2 (hhi _ hn)⟩
        · exact h
      · refine ⟨S.length - 1, hn, ?_⟩
        rw [getD_setP _ _ _ _ hn, if_pos rfl]
        exact ⟨Rat.le_trans (hlo _ hn) h.1, h.2⟩
  · rw [List.length_append, List.length_cons, List.length_nil]
    constructor
    · rintro ⟨j, hj, h⟩
      rw [getD_snocP] at h
      by_cases e : j < S.length
      · rw [if_pos e] at h; exact .inl ⟨j, e, h⟩
      · rw [if_neg e, if_pos (by omega)] at h; exact .inr h
    · rintro (⟨j, hj, h⟩ | h)
      · refine ⟨j, by omega, ?_⟩
        rw [getD_snocP, if_pos hj]; exact h
      · refine ⟨S.length, by omega, ?_⟩
        rw [getD_snocP, if_neg (Nat.lt_irrefl _), if_pos rfl]; exact h
theorem hi_step {S : List (Rat × Rat)} {lo hi : Rat} {B C : Rat → Prop} (h : ∀ j, j < S.length → B (S.getD j (0, 0)).2) (hC : ∀ x, B x → C x) (hl : C hi) : ∀ j, j < (sstep S lo hi).length → C ((sstep S lo hi).getD j (0, 0)).2 := by
  intro j hj
  unfold sstep at hj ⊢
  split
  · rename_i hc
    rw [if_pos hc, List.length_set] at hj
    rw [getD_setP _ _ _ _ (by omega)]
    split
    · exact hl
    · exact hC _ (h j hj)
  · rename_i hc
    rw [if_neg hc, List.length_append, List.length_cons, List.length_nil] at hj
    rw [getD_snocP]
    split
    · rename_i e; exact hC _ (h j e)
    · rw [if_pos (by omega)]; exact hl
theorem hi_spR {w tol m : Int} (hw : wOk w) (hl : limOk tol m) : ∀ {i : Nat}, i ≤ m.toNat → ∀ j, j < (spR w tol m i).length → ∀ k, 1 ≤ k → k ≤ m - (i : Int) → ((spR w tol m i).getD j (0, 0)).2 ≤ shi w tol k
  | 0, _ => fun j hj => absurd hj (Nat.not_lt_zero _)
  | i + 1, hi => by
    have ih := hi_spR hw hl (i := i) (by omega)
    obtain ⟨ht, h1, h2⟩ := hl
    obtain ⟨w1, w2⟩ := hw
    exact hi_step (B := fun x => ∀ k, 1 ≤ k → k ≤ m - (i : Int) → x ≤ shi w tol k) (C := fun x => ∀ k, 1 ≤ k → k ≤ m - ((i + 1 : Nat) : Int) → x ≤ shi w tol k) ih (fun x hB k k1 k2 => hB k k1 (by omega)) (fun k k1 k2 => ofq_le (by omega) k1 (Int.mul_le_mul_of_nonneg_left (by omega) (by omega)))
theorem in_spR {w tol m : Int} {q : Rat} (hw : wOk w) (hl : limOk tol m) : ∀ {i : Nat}, i ≤ m.toNat → (inS (spR w tol m i) q = true ↔ ∃ k, m - (i : Int) < k ∧ k ≤ m ∧ slo w tol k ≤ q ∧ q ≤ shi w tol k)
  | 0, _ => by
    constructor
    · intro h; cases h
    · rintro ⟨k, h1, h2, _⟩; omega
  | i + 1, hi => by
    have ih := in_spR (q := q) hw hl (i := i) (by omega)
    have hs := si_spR hw hl (i := i) (by omega)
    have hh := hi_spR hw hl (i := i) (by omega)
    rw [spR, inS_sstep (fun j hj => (hs.el j hj).2.2 _ (by omega) (by omega)) (fun j hj => hh j hj _ (by omega) (by omega)), ih]
    constructor
    · rintro (⟨k, h1, h2, h⟩ | h)
      · exact ⟨k, by omega, h2, h⟩
      · exact ⟨m - i, by omega, by omega, h⟩
    · rintro ⟨k, h1, h2, h⟩
      by_cases e : k = m - i
      · subst e; exact .inr h
      · exact .inl ⟨k, by omega, h2, h⟩
theorem fits_iff {w tol m : Int} {q : Rat} (hw : wOk w) (hl : limOk tol m) (hq : 0 < q) : fits38 w q tol m = true ↔ ∃ k, 1 ≤ k ∧ k ≤ m ∧ slo w tol k ≤ q ∧ q ≤ shi w tol k := by
  have he : spE w tol m = 0 := by rw [spE_lim hw]; exact limE_ok hl
  rw [fits38_ok he hq, spL_ok he, in_spR hw hl (Nat.le_refl _)]
  have hm := hl.2.1
  constructor
  · rintro ⟨k, h1, h2, h⟩; exact ⟨k, by omega, h2, h⟩
  · rintro ⟨k, h1, h2, h⟩; exact ⟨k, by omega, h2, h⟩
theorem ofq_le_iff {a k : Int} {q : Rat} (hk : 1 ≤ k) : ofq a k ≤ q ↔ (a : Rat) ≤ q * (k : Rat) := by
  rw [← Rat.not_lt, ofq_eq, Rat.lt_div_iff (castP hk), Rat.not_lt]
theorem le_ofq_iff {a k : Int} {q : Rat} (hk : 1 ≤ k) : q ≤ ofq a k ↔ q * (k : Rat) ≤ (a : Rat) := by
  rw [← Rat.not_lt, ofq_eq, Rat.div_lt_iff (castP hk), Rat.not_lt]
theorem ofq_int (n : Int) : ofq n 1 = (n : Rat) := by rw [ofq_eq]; show (n : Rat) / 1 = _; grind
theorem mxo_le {a : Int} {x : Rat} (hx : 1 ≤ x) : ((mxo a : Int) : Rat) ≤ x ↔ (a : Rat) ≤ x := by
  unfold mxo
  split
  · rename_i h
    have h1 : (a : Rat) ≤ ((1 : Int) : Rat) := Rat.intCast_le_intCast.2 (by omega)
    exact ⟨fun h2 => Rat.le_trans h1 h2, fun _ => hx⟩
  · exact Iff.rfl
theorem absq_le {x t : Rat} : absq x ≤ t ↔ x ≤ t ∧ -t ≤ x := by
  unfold absq
  split
  · rename_i h; constructor
    · intro h2; exact ⟨by grind, by grind⟩
    · rintro ⟨h2, h3⟩; grind
  · rename_i h; constructor
    · intro h2; exact ⟨h2, by grind⟩
    · rintro ⟨h2, h3⟩; exact h2
/-- with a unit of one or more, a span holds the unit where the multiple is near -/
theorem near_span {w tol k : Int} {q : Rat} (hq : 1 ≤ q) (hk : 1 ≤ k) : (slo w tol k ≤ q ∧ q ≤ shi w tol k) ↔ absq (offX w q k) ≤ ofq tol 1 := by
  unfold slo shi offX
  have hk1 : (1 : Rat) ≤ (k : Rat) := by rw [show (1 : Rat) = ((1 : Int) : Rat) from rfl]; exact Rat.intCast_le_intCast.2 hk
  have h1 : 1 ≤ q * (k : Rat) := by
    have h2 := Rat.mul_le_mul_of_nonneg_right hq (Rat.le_trans (show (0 : Rat) ≤ 1 by decide) hk1)
    rw [Rat.one_mul] at h2
    exact Rat.le_trans hk1 h2
  rw [ofq_le_iff hk, le_ofq_iff hk, mxo_le h1, absq_le, ofq_int, ofq_int, ofq_int, Rat.intCast_sub, Rat.intCast_add]
  generalize hX : q * (k : Rat) = X
  have e : (k : Rat) * q = X := by rw [← hX]; grind
  rw [e]
  constructor
  · rintro ⟨a, b⟩; exact ⟨by grind, by grind⟩
  · rintro ⟨a, b⟩; exact ⟨by grind, by grind⟩
def offR (w : Int) (u : Rat) (m : Int) : Rat := (mulR w u (m.toNat - 1)).2
theorem fits_near {w tol m : Int} {q : Rat} (hw : wOk w) (hl : limOk tol m) (hq : 1 ≤ q) : fits38 w q tol m = true ↔ absq (offR w q m) ≤ ofq tol 1 := by
  have h0 : 0 < q := lt_le (by decide) hq
  have hN := near_mulR w q (m.toNat - 1)
  have hm := hl.2.1
  rw [show ((m.toNat - 1 + 1 : Nat) : Int) = m from by omega] at hN
  rw [fits_iff hw hl h0]
  constructor
  · rintro ⟨k, h1, h2, h⟩
    exact Rat.le_trans (hN.best k h1 h2).1 ((near_span hq h1).1 h)
  · intro h
    refine ⟨_, hN.lo, hN.hi, (near_span hq hN.lo).2 ?_⟩
    show absq (ofq w 1 - ofq _ 1 * q) ≤ _
    rw [← hN.eq]
    exact h
def badW (L : List Int) : Bool := (List.range L.length).any fun k => !decide (wOk (L.getD k 0))
def chkE (L : List Int) : Int := if 64 < L.length then 6 else if badW L = true then 1 else 0
theorem chkE_long {L : List Int} (h : 64 < L.length) : chkE L = 6 := if_pos h
theorem chkE_bad {L : List Int} (h : ¬ 64 < L.length) (h2 : badW L = true) : chkE L = 1 := by unfold chkE; rw [if_neg h, if_pos h2]
theorem chkE_ok {L : List Int} (h : ¬ 64 < L.length) (h2 : ¬ badW L = true) : chkE L = 0 := by unfold chkE; rw [if_neg h, if_neg h2]
theorem chkE_zero {L : List Int} (h : chkE L = 0) : L.length ≤ 64 ∧ ∀ k, k < L.length → wOk (L.getD k 0) := by
  unfold chkE at h
  split at h
  · cases h
  · rename_i h1
    split at h
    · cases h
    · rename_i h2
      refine ⟨by omega, fun k hk => Classical.byContradiction fun hc => h2 ?_⟩
      rw [badW, List.any_eq_true]
      exact ⟨k, List.mem_range.2 hk, by rw [decide_eq_false hc]; rfl⟩
def errE (L : List Int) (u : Rat) (m : Int) : Int := if chkE L ≠ 0 then chkE L else if 0 < u then (if limE 0 m ≠ 0 then 2 else if L.length = 0 then 7 else 0) else 1
def errR (L : List Int) (u : Rat) (m : Int) : Nat → Rat
  | 0 => ofq 0 1
  | i + 1 => if errR L u m i < absq (offR (L.getD i 0) u m) then absq (offR (L.getD i 0) u m) else errR L u m i
def errO (L : List Int) (u : Rat) (m : Int) : Option Rat := if errE L u m = 0 then some (errR L u m L.length) else none
theorem errE_chk {L : List Int} {u : Rat} {m : Int} (h : chkE L ≠ 0) : errE L u m = chkE L := if_pos h
theorem errE_unit {L : List Int} {u : Rat} {m : Int} (h : ¬ chkE L ≠ 0) (h2 : ¬ 0 < u) : errE L u m = 1 := by unfold errE; rw [if_neg h, if_neg h2]
theorem errE_lim {L : List Int} {u : Rat} {m : Int} (h : ¬ chkE L ≠ 0) (h2 : 0 < u) (h3 : limE 0 m ≠ 0) : errE L u m = 2 := by unfold errE; rw [if_neg h, if_pos h2, if_pos h3]
theorem errE_nil {L : List Int} {u : Rat} {m : Int} (h : ¬ chkE L ≠ 0) (h2 : 0 < u) (h3 : ¬ limE 0 m ≠ 0) (h4 : L.length = 0) : errE L u m = 7 := by unfold errE; rw [if_neg h, if_pos h2, if_neg h3, if_pos h4]
theorem errE_ok {L : List Int} {u : Rat} {m : Int} (h : ¬ chkE L ≠ 0) (h2 : 0 < u) (h3 : ¬ limE 0 m ≠ 0) (h4 : ¬ L.length = 0) : errE L u m = 0 := by unfold errE; rw [if_neg h, if_pos h2, if_neg h3, if_neg h4]
theorem errO_no {L : List Int} {u : Rat} {m : Int} (h : errE L u m ≠ 0) : errO L u m = none := if_neg h
theorem errO_ok {L : List Int} {u : Rat} {m : Int} (h : errE L u m = 0) : errO L u m = some (errR L u m L.length) := if_pos h
theorem errR_up {L : List Int} {u : Rat} {m : Int} {i : Nat} (h : errR L u m i < absq (offR (L.getD i 0) u m)) : errR L u m (i + 1) = absq (offR (L.getD i 0) u m) := if_pos h
theorem errR_no {L : List Int} {u : Rat} {m : Int} {i : Nat} (h : ¬ errR L u m i < absq (offR (L.getD i 0) u m)) : errR L u m (i + 1) = errR L u m i := if_neg h
theorem qs_errR {L : List Int} {u : Rat} {m : Int} (hw : ∀ k, k < L.length → wOk (L.getD k 0)) (hu : qs u 5) (hm : m ≤ 24) : ∀ {i : Nat}, i ≤ L.length → qs (errR L u m i) 12
  | 0, _ => (qs_ofi (by decide)).mono (by decide)
  | i + 1, hi => by
    rw [errR]
    split
    · exact qs_absq (qs_mulR (hw i (by omega)) hu (by omega))
    · exact qs_errR hw hu hm (by omega)
theorem errR_le {L : List Int} {u : Rat} {m tol : Int} (ht : 0 ≤ tol) : ∀ {i : Nat}, errR L u m i ≤ ofq tol 1 ↔ ∀ j, j < i → absq (offR (L.getD j 0) u m) ≤ ofq tol 1
  | 0 => ⟨fun _ j hj => absurd hj (Nat.not_lt_zero _), fun _ => ofq_le (by decide) (by decide) (by omega)⟩
  | i + 1 => by
    have ih := errR_le (L := L) (u := u) (m := m) ht (i := i)
    rw [errR]
    split
    · rename_i h
      constructor
      · intro h2 j hj
        by_cases e : j = i
        · subst e; exact h2
        · exact ih.1 (Rat.le_trans (Rat.le_of_lt h) h2) j (by omega)
      · intro h2; exact h2 i (by omega)
    · rename_i h
      constructor
      · intro h2 j hj
        by_cases e : j = i
        · subst e; exact Rat.le_trans (Rat.not_lt.1 h) h2
        · exact ih.1 h2 j (by omega)
      · intro h2; exact ih.2 fun j hj => h2 j (by omega)
def scoE (L : List Int) (u : Rat) (tol m : Int) : Int := if chkE L ≠ 0 then chkE L else if 0 < u then limE tol m else 1
def scoN (L : List Int) (u : Rat) (tol m : Int) : Nat → Int
  | 0 => 0
  | i + 1 => if fits38 (L.getD i 0) u tol m = true then scoN L u tol m i + 1 else scoN L u tol m i
def scoK (L : List Int) (u : Rat) (tol m : Int) : Int := if scoE L u tol m = 0 then scoN L u tol m L.length else 0
theorem scoE_chk {L : List Int} {u : Rat} {tol m : Int} (h : chkE L ≠ 0) : scoE L u tol m = chkE L := if_pos h
theorem scoE_unit {L : List Int} {u : Rat} {tol m : Int} (h : ¬ chkE L ≠ 0) (h2 : ¬ 0 < u) : scoE L u tol m = 1 := by unfold scoE; rw [if_neg h, if_neg h2]
theorem scoE_lim {L : List Int} {u : Rat} {tol m : Int} (h : ¬ chkE L ≠ 0) (h2 : 0 < u) : scoE L u tol m = limE tol m := by unfold scoE; rw [if_neg h, if_pos h2]
theorem scoK_no {L : List Int} {u : Rat} {tol m : Int} (h : scoE L u tol m ≠ 0) : scoK L u tol m = 0 := if_neg h
theorem scoK_ok {L : List Int} {u : Rat} {tol m : Int} (h : scoE L u tol m = 0) : scoK L u tol m = scoN L u tol m L.length := if_pos h
theorem scoN_hit {L : List Int} {u : Rat} {tol m : Int} {i : Nat} (h : fits38 (L.getD i 0) u tol m = true) : scoN L u tol m (i + 1) = scoN L u tol m i + 1 := if_pos h
theorem scoN_miss {L : List Int} {u : Rat} {tol m : Int} {i : Nat} (h : ¬ fits38 (L.getD i 0) u tol m = true) : scoN L u tol m (i + 1) = scoN L u tol m i := if_neg h
theorem scoN_in (L : List Int) (u : Rat) (tol m : Int) : ∀ i : Nat, 0 ≤ scoN L u tol m i ∧ scoN L u tol m i ≤ i
  | 0 => ⟨Int.le_refl _, Int.le_refl _⟩
  | i + 1 => by have := scoN_in L u tol m i; rw [scoN]; split <;> omega
theorem scoN_all {L : List Int} {u : Rat} {tol m : Int} : ∀ {i : Nat}, scoN L u tol m i = i ↔ ∀ j, j < i → fits38 (L.getD j 0) u tol m = true
  | 0 => ⟨fun _ j hj => absurd hj (Nat.not_lt_zero _), fun _ => rfl⟩
  | i + 1 => by
    have ih := scoN_all (L := L) (u := u) (tol := tol) (m := m) (i := i)
    have hb := scoN_in L u tol m i
    rw [scoN]
    split
    · rename_i h
      constructor
      · intro h2 j hj
        by_cases e : j = i
        · subst e; exact h
        · exact ih.1 (by omega) j (by omega)
      · intro h2
        have := ih.2 fun j hj => h2 j (by omega)
        omega
    · rename_i h
      constructor
      · intro h2; omega
      · intro h2; exact absurd (h2 i (by omega)) h
theorem errors_ok {L : List Int} {u : Rat} {tol m : Int} (h : scoE L u tol m = 0) (hu : 1 ≤ u) : (cmpQ (errR L u m L.length) (ofq tol 1) ≤ 0) ↔ scoN L u tol m L.length = (L.length : Int) := by
  have h0 : 0 < u := lt_le (by decide) hu
  have hc : ¬ chkE L ≠ 0 := fun e => by rw [scoE_chk e] at h; exact e h
  rw [scoE_lim hc h0] at h
  have hl := limE_zero.1 h
  obtain ⟨hn, hw⟩ := chkE_zero (Classical.byContradiction hc)
  rw [cmpQ_le, errR_le hl.1.1, scoN_all]
  constructor
  · intro e j hj; exact (fits_near (hw j hj) hl hu).2 (e j hj)
  · intro e j hj; exact (fits_near (hw j hj) hl hu).1 (e j hj)
def fewB (nw : Nat) (l : List Fi) : Bool := decide (nw ≤ 70 ∧ l.length ≤ 40 ∧ ∀ i, i < l.length → (l.getD i dI).n ≤ 3 ∧ (l.getD i dI).m ≤ 3)
end Go.Fw
