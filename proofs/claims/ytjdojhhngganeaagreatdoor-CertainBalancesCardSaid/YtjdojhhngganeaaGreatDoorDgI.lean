/- Chapter 24: the shares count sequences; what is shared, what is open. Plain. -/
import Derived.Test.YtjdojhhngganeaaGreatDoorDgH
namespace Go.Fw
open Go Go.RowKit Go.Nat9

/-! ## One more arc -/
theorem dgC_of {n : Int} {a : List Pr} (hn : 0 ≤ n ∧ n ≤ 24) (ha : Asc a) (h : ∀ p ∈ a, (0 ≤ p.1 ∧ p.1 < n) ∧ (0 ≤ p.2 ∧ p.2 < n) ∧ p.1 ≠ p.2) : dgC n a := by
  refine ⟨hn, fun i hi => ⟨h _ (getD_mem2 hi), fun h0 => ?_⟩⟩
  have := List.pairwise_iff_getElem.1 ha (i - 1) i (by omega) hi (by omega)
  rw [List.getD_eq_getElem?_getD, List.getD_eq_getElem?_getD, List.getElem?_eq_getElem hi, List.getElem?_eq_getElem (by omega)]
  exact this
theorem mem_more {a : List Pr} {i j : Int} {p : Pr} : p ∈ moreA a i j ↔ p ∈ a ∨ p = (i, j) := by
  unfold moreA
  rw [mem_srt, List.mem_append, List.mem_singleton]
theorem dgC_more {n : Nat} {a : List Pr} (h : dgC n a) {i j : Nat} (hi : i < n) (hj : j < n) (hne : i ≠ j) : dgC n (moreA a i j) := by
  refine dgC_of h.1 (asc_srt _) fun p hp => ?_
  rcases mem_more.1 hp with hp | rfl
  · obtain ⟨f, t, e, h1, h2, h3⟩ := arc_ends h hp
    rw [e]; exact ⟨⟨by simp only; omega, by simp only; omega⟩, ⟨by simp only; omega, by simp only; omega⟩, by simp only; omega⟩
  · exact ⟨⟨by simp only; omega, by simp only; omega⟩, ⟨by simp only; omega, by simp only; omega⟩, by simp only; omega⟩
theorem rdA_more {a : List Pr} {i j s v : Nat} : rdA (moreA a i j) s v = (rdA a s v && (decide (v ≠ j) || s.testBit i)) := by
  rw [Bool.eq_iff_iff, Bool.and_eq_true, rdA_iff, rdA_iff, Bool.or_eq_true, decide_eq_true_eq]
  constructor
  · rintro ⟨h1, h2⟩
    refine ⟨⟨h1, fun p hp => h2 p (mem_more.2 (.inl hp))⟩, ?_⟩
    by_cases e : v = j
    · have := h2 ((i : Int), (j : Int)) (mem_more.2 (.inr rfl)) (by simp only; omega)
      exact .inr (by simpa using this)
    · exact .inl e
  · rintro ⟨⟨h1, h2⟩, h3⟩
    refine ⟨h1, fun p hp hpv => ?_⟩
    rcases mem_more.1 hp with hp | rfl
    · exact h2 p hp hpv
    · simp only at hpv
      rcases h3 with h3 | h3
      · omega
      · simpa using h3
/-- One stands before another, behind a set. -/
def ob (i j : Nat) : Nat → List Nat → Bool
  | _, [] => true
  | s, v :: p => (decide (v ≠ j) || s.testBit i) && ob i j (s ||| 2 ^ v) p
theorem sq_more {n : Nat} {a : List Pr} {i j : Nat} : ∀ {k s : Nat}, sq n (rdA (moreA a i j)) k s = (sq n (rdA a) k s).filter (ob i j s)
  | 0, s => rfl
  | k + 1, s => by
    rw [sq, sq, List.filter_flatMap]
    refine congrArg List.flatten (List.map_congr_left fun v _ => ?_)
    rw [rdA_more]
    by_cases hr : rdA a s v = true
    · rw [if_pos hr, hr, Bool.true_and]
      by_cases hc : (decide (v ≠ j) || s.testBit i) = true
      · rw [if_pos hc, sq_more, List.filter_map]
        congr 1
        refine List.filter_congr fun p _ => ?_
        show _ = ob i j s (v :: p)
        rw [ob, hc, Bool.true_and]
      · rw [if_neg hc, List.filter_map]
        symm
        rw [List.map_eq_nil_iff, List.filter_eq_nil_iff]
        intro p _ h
        have h' : ob i j s (v :: p) = true := h
        rw [ob, Bool.eq_false_iff.2 hc] at h'
        cases h'
    · rw [if_neg hr, Bool.eq_false_iff.2 hr]; rfl
theorem ob_in {i j : Nat} : ∀ {p : List Nat} {s : Nat}, s.testBit i = true → ob i j s p = true
  | [], _, _ => rfl
  | v :: p, s, h => by
    rw [ob, h, Bool.or_true, Bool.true_and]
    exact ob_in (by rw [Nat.testBit_or, h]; rfl)
theorem ob_idx {i j : Nat} (hne : i ≠ j) : ∀ {p : List Nat} {s : Nat}, s.testBit i = false → j ∈ p → ob i j s p = decide (p.idxOf i < p.idxOf j)
  | v :: p, s, h, hj => by
    rw [ob, h, Bool.or_false, List.idxOf_cons, List.idxOf_cons]
    by_cases e : v = j
    · subst e
      simp
    · have e2 : (v == j) = false := by simpa using e
      rw [e2, decide_eq_true e, Bool.true_and]
      by_cases e3 : v = i
      · subst e3
        rw [ob_in (by rw [Nat.testBit_or, Nat.testBit_two_pow]; simp)]
        simp
      · have e4 : (v == i) = false := by simpa using e3
        rw [e4]
        have hj' : j ∈ p := by
          rcases List.mem_cons.1 hj with h | h
          · exact absurd h.symm e
          · exact h
        rw [ob_idx hne (p := p) (by rw [Nat.testBit_or, Nat.testBit_two_pow, h]; simpa using e3) hj']
        simp
/-- How many sequences have one before the other. -/
def befN (n : Nat) (a : List Pr) (i j : Nat) : Nat := ((seqsL n a).filter fun p => decide (p.idxOf i < p.idxOf j)).length
theorem seqs_more {n : Nat} {a : List Pr} {i j : Nat} (hj : j < n) (hne : i ≠ j) : seqsL n (moreA a i j) = (seqsL n a).filter fun p => decide (p.idxOf i < p.idxOf j) := by
  unfold seqsL
  rw [sq_more]
  refine List.filter_congr fun p hp => ?_
  exact ob_idx hne (Nat.zero_testBit _) (((seq_all hp).2.2.2 j).2 hj)
theorem cntN_len {n : Nat} {a : List Pr} (h : dgC n a) (hn : n ≤ 10) : cntN n a = ((seqsL n a).length : Int) := by
  by_cases hc : cycC n a
  · rw [cntN_ok (seqE_ok h (by omega) hc), Int.toNat_natCast, ways_zero h hn]
  · rw [cntN_no (by rw [seqE_cyc h (by omega) hc]; decide), seqs_cyc h (fun e => hc ⟨h, by rw [Int.toNat_natCast]; exact e⟩)]; rfl
theorem cnt_more {n : Nat} {a : List Pr} (h : dgC n a) (hn : n ≤ 10) {i j : Nat} (hi : i < n) (hj : j < n) (hne : i ≠ j) : cntN n (moreA a i j) = ((befN n a i j : Nat) : Int) := by
  rw [cntN_len (dgC_more h hi hj hne) hn, seqs_more hj hne]; rfl
theorem filter_split {α : Type} (P : α → Bool) : ∀ l : List α, (l.filter P).length + (l.filter fun x => !P x).length = l.length
  | [] => rfl
  | x :: l => by
    have ih := filter_split P l
    rw [List.filter_cons, List.filter_cons, List.length_cons]
    cases P x <;> simp <;> omega
theorem bef_both {n : Nat} {a : List Pr} {i j : Nat} (hi : i < n) (hj : j < n) (hne : i ≠ j) : befN n a i j + befN n a j i = (seqsL n a).length := by
  unfold befN
  rw [← filter_split (fun p => decide (p.idxOf i < p.idxOf j)) (seqsL n a)]
  congr 1
  refine congrArg List.length (List.filter_congr fun p hp => ?_)
  have hm := (seq_all hp).2.2.2
  have h1 := (hm i).2 hi
  have h2 := (hm j).2 hj
  have hx : p.idxOf i ≠ p.idxOf j := fun e => hne (by
    have e1 := List.getElem_idxOf (List.idxOf_lt_length_of_mem h1)
    have e2 := List.getElem_idxOf (List.idxOf_lt_length_of_mem h2)
    rw [← e1, ← e2]; simp only [e])
  rw [← decide_not]
  exact decide_eq_decide.2 (by omega)
/-- None has one before the other exactly if that reaches this. -/
theorem bef_zero {n : Nat} {a : List Pr} (h : dgC n a) (hc : acyL (reachL n a)) {i j : Nat} (hi : i < n) (hj : j < n) (hne : i ≠ j) : befN n a i j = 0 ↔ rc n a j i := by
  unfold befN
  rw [List.length_eq_zero_iff, List.filter_eq_nil_iff]
  constructor
  · intro h0
    refine Decidable.byContradiction fun hr => ?_
    obtain ⟨p, q, h1, h3⟩ := seq_high h hc hj
    refine h0 _ h1 (decide_eq_true ?_)
    have hip : i ∈ p := (h3 i).2 ⟨hi, hne, hr⟩
    have hjp : j ∉ p := fun e => ((h3 j).1 e).2.1 rfl
    rw [List.idxOf_append, if_pos hip, List.idxOf_append, if_neg hjp]
    have := List.idxOf_lt_length_of_mem hip
    omega
  · intro hr p hp h1
    have := seq_rc h hp hr
    have := of_decide_eq_true h1
    omega
theorem seqs_pos {n : Nat} {a : List Pr} (h : dgC n a) (hc : acyL (reachL n a)) : 0 < (seqsL n a).length := by
  obtain ⟨p, h1, h2, _⟩ := way_to h hc (clo_full h) (by have : 0 < 2 ^ n := Nat.pow_pos (by decide); omega) (k := n) (s := 0) (Nat.pow_pos (by decide)) (fun p _ hp => by rw [Nat.zero_testBit] at hp; cases hp) (fun v hv => by rw [Nat.zero_testBit] at hv; cases hv) (by rw [bc_top, bc_zero, Nat.zero_add])
  exact List.length_pos_of_mem (mem_sq.2 ⟨h2, h1⟩)
/-! ## The share of two directions -/
structure Cert (n : Nat) (a : List Pr) : Prop where
  dg : dgC n a
  ten : n ≤ 10
  acy : acyL (reachL n a)
theorem cert_of {n : Int} {a : List Pr} (h : seqE n a = 0) : ∃ m : Nat, n = (m : Int) ∧ Cert m a := by
  obtain ⟨hd, hn, hc⟩ := seqE_zero h
  obtain ⟨m, rfl⟩ : ∃ m : Nat, n = (m : Int) := ⟨n.toNat, by have := hd.1.1; omega⟩
  exact ⟨m, rfl, hd, by omega, by have := hc.2; rw [Int.toNat_natCast] at this; exact this⟩
theorem Cert.ok {n : Nat} {a : List Pr} (h : Cert n a) : seqE n a = 0 := seqE_ok h.dg (by have := h.ten; omega) ⟨h.dg, by rw [Int.toNat_natCast]; exact h.acy⟩
theorem shQ_eq {n : Nat} {a : List Pr} (h : Cert n a) {i j : Nat} (hi : i < n) (hj : j < n) (hne : i ≠ j) : shQ n a i j = ((befN n a i j : Nat) : Rat) / (((seqsL n a).length : Nat) : Rat) := by
  unfold shQ
  rw [cnt_more h.dg h.ten hi hj hne, cntN_len h.dg h.ten, ofq_eq]; rfl
theorem shQ_both {n : Nat} {a : List Pr} (h : Cert n a) {i j : Nat} (hi : i < n) (hj : j < n) (hne : i ≠ j) : shQ n a i j + shQ n a j i = ofq 1 1 := by
  rw [shQ_eq h hi hj hne, shQ_eq h hj hi (fun e => hne e.symm), Rat.div_def, Rat.div_def, ← Rat.add_mul, ← Rat.natCast_add, bef_both hi hj hne]
  have h0 : (((seqsL n a).length : Nat) : Rat) ≠ 0 := by
    have := seqs_pos h.dg h.acy
    exact fun e => by have := Rat.natCast_eq_zero_iff.1 e; omega
  rw [Rat.mul_inv_cancel _ h0]
  decide +kernel
theorem shQ_zero {n : Nat} {a : List Pr} (h : Cert n a) {i j : Nat} (hi : i < n) (hj : j < n) (hne : i ≠ j) : sgnQ (shQ n a i j) = 0 ↔ rc n a j i := by
  rw [← bef_zero h.dg h.acy hi hj hne]
  unfold sgnQ
  rw [cmpQ_zero, shQ_eq h hi hj hne]
  have h0 : (((seqsL n a).length : Nat) : Rat) ≠ 0 := by
    have := seqs_pos h.dg h.acy
    exact fun e => by have := Rat.natCast_eq_zero_iff.1 e; omega
  constructor
  · intro e
    rw [Rat.div_def, Rat.mul_eq_zero] at e
    rcases e with e | e
    · exact Rat.natCast_eq_zero_iff.1 e
    · have h1 := Rat.mul_inv_cancel _ h0
      rw [e, Rat.mul_zero] at h1
      exact absurd h1 (by decide)
  · intro e
    rw [e]
    simp [Rat.div_def, Rat.zero_mul]
/-! ## The lists -/
theorem mem_lstJ {r : List Nat} {i : Nat} {p : Pr} : ∀ {k : Nat}, p ∈ lstJ r i k ↔ ∃ j, j < k ∧ i ≠ j ∧ (r.getD i 0).testBit j = true ∧ p = ((i : Int), (j : Int))
  | 0 => by simp [lstJ]
  | k + 1 => by
    have ih := mem_lstJ (r := r) (i := i) (p := p) (k := k)
    rw [lstJ]
    by_cases hc : i ≠ k ∧ (r.getD i 0).testBit k = true
    · rw [if_pos hc, List.mem_append, ih, List.mem_singleton]
      constructor
      · rintro (⟨j, h1, h2⟩ | h)
        · exact ⟨j, by omega, h2⟩
        · exact ⟨k, by omega, hc.1, hc.2, h⟩
      · rintro ⟨j, h1, h2, h3, h4⟩
        by_cases e : j = k
        · subst e; exact .inr h4
        · exact .inl ⟨j, by omega, h2, h3, h4⟩
    · rw [if_neg hc, ih]
      constructor
      · rintro ⟨j, h1, h2⟩; exact ⟨j, by omega, h2⟩
      · rintro ⟨j, h1, h2, h3, h4⟩
        refine ⟨j, ?_, h2, h3, h4⟩
        rcases Nat.lt_or_ge j k with e | e
        · exact e
        · exact absurd ⟨by rw [show k = j from by omega]; exact h2, by rw [show k = j from by omega]; exact h3⟩ hc
theorem mem_lstL {r : List Nat} {p : Pr} : ∀ {k : Nat}, p ∈ lstL r k ↔ ∃ i, i < k ∧ p ∈ lstJ r i r.length
  | 0 => by simp [lstL]
  | k + 1 => by
    rw [lstL, List.mem_append, mem_lstL]
    constructor
    · rintro (⟨i, h1, h2⟩ | h)
      · exact ⟨i, by omega, h2⟩
      · exact ⟨k, by omega, h⟩
    · rintro ⟨i, h1, h2⟩
      by_cases e : i = k
      · subst e; exact .inr h2
      · exact .inl ⟨i, by omega, h2⟩
theorem mem_shr {n : Nat} {a : List Pr} (h : Cert n a) {i j : Nat} (hi : i < n) (hj : j < n) (hne : i ≠ j) : ((i : Int), (j : Int)) ∈ shrR n a ↔ rc n a i j := by
  rw [shr_ok h.ok, (cls_ok h.dg).1, Int.toNat_natCast]
  unfold clsL
  rw [mem_lstL]
  constructor
  · rintro ⟨i', h1, h2⟩
    obtain ⟨j', h3, h4, h5, h6⟩ := mem_lstJ.1 h2
    rw [Prod.mk.injEq] at h6
    rw [show i = i' from by omega, show j = j' from by omega]; exact h5
  · intro hr
    exact ⟨i, hi, mem_lstJ.2 ⟨j, by rw [reachL_len]; exact hj, hne, hr, rfl⟩⟩
theorem rchC_iff {n : Nat} {a : List Pr} (h : dgC n a) {i j : Nat} (hi : i < n) (hj : j < n) : rchC n a i j ↔ rc n a i j := by
  have := rch_eq h hi hj
  unfold rc
  rw [← this, decide_eq_true_eq]
theorem mem_opJ {n : Int} {a : List Pr} {i : Nat} {p : Pr} : ∀ {t : Nat}, p ∈ opJ n a i t ↔ ∃ s, s < t ∧ p = ((i : Int), ((i + 1 + s : Nat) : Int)) ∧ ¬ rchC n a (i : Int) ((i + 1 + s : Nat) : Int) ∧ ¬ rchC n a ((i + 1 + s : Nat) : Int) (i : Int)
  | 0 => by simp [opJ]
  | t + 1 => by
    refine ⟨opJ_in, ?_⟩
    rintro ⟨s, h1, h2, h3⟩
    rw [opJ]
    by_cases e : s = t
    · subst e; rw [if_pos h3]; exact List.mem_append_right _ (List.mem_singleton.2 h2)
    · have := mem_opJ.2 ⟨s, show s < t by omega, h2, h3⟩
      split
      · exact List.mem_append_left _ this
      · exact this
theorem mem_opL {n : Int} {m : Nat} {a : List Pr} {i j : Nat} (hij : i < j) (hj : j < m) (h : ¬ rchC n a (i : Int) (j : Int) ∧ ¬ rchC n a (j : Int) (i : Int)) : ∀ {k : Nat}, i < k → ((i : Int), (j : Int)) ∈ opL n m a k
  | k + 1, hk => by
    rw [opL]
    by_cases e : i = k
    · subst e
      exact List.mem_append_right _ (mem_opJ.2 ⟨j - (i + 1), by omega, by rw [show i + 1 + (j - (i + 1)) = j from by omega], by rw [show i + 1 + (j - (i + 1)) = j from by omega]; exact h⟩)
    · exact List.mem_append_left _ (mem_opL hij hj h (by omega))
theorem mem_opn {n : Nat} {a : List Pr} (h : Cert n a) {i j : Nat} (hij : i < j) (hj : j < n) : ((i : Int), (j : Int)) ∈ opnR n a ↔ ¬ rc n a i j ∧ ¬ rc n a j i := by
  rw [opn_ok h.ok, Int.toNat_natCast, ← rchC_iff h.dg (by omega) hj, ← rchC_iff h.dg hj (by omega)]
  constructor
  · intro hm
    obtain ⟨i', j', h1, h2, h3, h4, h5⟩ := opL_in hm
    rw [Prod.mk.injEq] at h4
    rw [h4.1, h4.2]; exact h5
  · intro hc; exact mem_opL hij hj hc (by omega)
/-- Whether a pair is one of the first so many. -/
def hasP (s : List Pr) (p : Pr) : Nat → Bool
  | 0 => false
  | k + 1 => hasP s p k || decide (s.getD k dP = p)
theorem hasP_t {s : List Pr} {p : Pr} {k : Nat} (h : hasP s p k = true) : hasP s p (k + 1) = true := by rw [hasP, h]; rfl
theorem hasP_f {s : List Pr} {p : Pr} {k : Nat} (h : hasP s p k = false) : hasP s p (k + 1) = decide (s.getD k dP = p) := by rw [hasP, h]; rfl
theorem hasP_iff {s : List Pr} {p : Pr} : ∀ {k : Nat}, hasP s p k = true ↔ ∃ j, j < k ∧ s.getD j dP = p
  | 0 => by simp [hasP]
  | k + 1 => by
    rw [hasP, Bool.or_eq_true, hasP_iff, decide_eq_true_eq]
    constructor
    · rintro (⟨j, h1, h2⟩ | h)
      · exact ⟨j, by omega, h2⟩
      · exact ⟨k, by omega, h⟩
    · rintro ⟨j, h1, h2⟩
      by_cases e : j = k
      · subst e; exact .inr h2
      · exact .inl ⟨j, by omega, h2⟩
theorem hasP_mem {s : List Pr} {p : Pr} : hasP s p s.length = decide (p ∈ s) := by
  rw [Bool.eq_iff_iff, hasP_iff, decide_eq_true_eq]
  constructor
  · rintro ⟨j, h1, h2⟩; rw [← h2]; exact getD_mem2 h1
  · intro h
    obtain ⟨j, hj, e⟩ := List.mem_iff_getElem.1 h
    exact ⟨j, hj, by rw [List.getD_eq_getElem?_getD, List.getElem?_eq_getElem hj, e]; rfl⟩
theorem either3 {n : Nat} {a : List Pr} (h : Cert n a) {i j : Nat} (hi : i < n) (hj : j < n) (hne : i ≠ j) {b1 b2 b3 : Bool} (h1 : hasP (shrR n a) ((i : Int), (j : Int)) (shrR n a).length = b1) (h2 : hasP (shrR n a) ((j : Int), (i : Int)) (shrR n a).length = b2)
    (h3 : hasP (opnR n a) (min (i : Int) (j : Int), max (i : Int) (j : Int)) (opnR n a).length = b3) :
    (b1 = true ∧ b2 = false ∧ b3 = false ∧ decide (sgnQ (shQ n a j i) = 0) = true ∧ decide (sgnQ (shQ n a i j) = 0) = false) ∨ (b1 = false ∧ b2 = true ∧ b3 = false ∧ decide (sgnQ (shQ n a j i) = 0) = false ∧ decide (sgnQ (shQ n a i j) = 0) = true) ∨ (b1 = false ∧ b2 = false ∧ b3 = true ∧ decide (sgnQ (shQ n a j i) = 0) = false ∧ decide (sgnQ (shQ n a i j) = 0) = false) := by
  rw [hasP_mem] at h1 h2 h3
  have e1 : decide (((i : Int), (j : Int)) ∈ shrR n a) = decide (rc n a i j) := decide_eq_decide.2 (mem_shr h hi hj hne)
  have e2 : decide (((j : Int), (i : Int)) ∈ shrR n a) = decide (rc n a j i) := decide_eq_decide.2 (mem_shr h hj hi (fun e => hne e.symm))
  have z1 : decide (sgnQ (shQ n a j i) = 0) = decide (rc n a i j) := decide_eq_decide.2 (shQ_zero h hj hi (fun e => hne e.symm))
  have z2 : decide (sgnQ (shQ n a i j) = 0) = decide (rc n a j i) := decide_eq_decide.2 (shQ_zero h hi hj hne)
  have e3 : decide ((min (i : Int) (j : Int), max (i : Int) (j : Int)) ∈ opnR n a) = decide (¬ rc n a i j ∧ ¬ rc n a j i) := by
    rcases Nat.lt_or_gt_of_ne hne with e | e
    · rw [show min (i : Int) (j : Int) = i from by omega, show max (i : Int) (j : Int) = j from by omega]
      exact decide_eq_decide.2 (mem_opn h e hj)
    · rw [show min (i : Int) (j : Int) = j from by omega, show max (i : Int) (j : Int) = i from by omega]
      exact decide_eq_decide.2 ((mem_opn h e hi).trans And.comm)
  rw [e1] at h1
  rw [e2] at h2
  rw [e3] at h3
  rw [z1, z2, ← h1, ← h2, ← h3]
  by_cases c1 : rc n a i j
  · by_cases c2 : rc n a j i
    · exact absurd (rc_trans h.dg c1 c2) (acy_rc.1 h.acy i)
    · left; simp [c1, c2]
  · by_cases c2 : rc n a j i
    · right; left; simp [c1, c2]
    · right; right; simp [c1, c2]
end Go.Fw
