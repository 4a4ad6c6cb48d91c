/- Chapter 24: mean places are sums of shares. Plain. -/
import Derived.Test.YtjdojhhngganeaaGreatDoorDgL
namespace Go.Fw
open Go Go.RowKit Go.Nat9

/-- The sum of a list of places, each times its index. -/
def sumP (L : List Int) : Nat → Int
  | 0 => 0
  | k + 1 => sumP L k + (k : Int) * L.getD k 0
/-- What the sequences give a vertex as places, in all. -/
def posS (n : Nat) (a : List Pr) (v : Nat) : Nat := ls (fun p => p.idxOf v) (seqsL n a)
theorem sumP_sm {n : Nat} {a : List Pr} {v : Nat} : ∀ {k : Nat}, k ≤ n → sumP (placeL n a v) k = ((sm (fun k => k * plc n a v k) k : Nat) : Int)
  | 0, _ => rfl
  | k + 1, h => by
    rw [sumP, sumP_sm (by omega), placeL_at (by omega), sm, Int.natCast_add, Int.natCast_mul]
theorem posS_sm {n : Nat} {a : List Pr} {v : Nat} (hv : v < n) : posS n a v = sm (fun k => k * plc n a v k) n := by
  unfold posS
  rw [fib (f := fun p : List Nat => p.idxOf v) (g := fun k => k) (N := n) (fun p hp => by
    obtain ⟨_, hl, _, hm⟩ := seq_all hp
    have := List.idxOf_lt_length_of_mem ((hm v).2 hv)
    omega)]
  exact sm_congr fun k _ => Nat.mul_comm _ _
theorem sumP_full {n : Nat} {a : List Pr} {v : Nat} (hv : v < n) : sumP (placeL n a v) n = ((posS n a v : Nat) : Int) := by rw [sumP_sm (Nat.le_refl _), posS_sm hv]
theorem sumP_in {n : Nat} {a : List Pr} (hn : n ≤ 10) {v : Nat} : ∀ {k : Nat}, k ≤ n → 0 ≤ sumP (placeL n a v) k ∧ sumP (placeL n a v) k ≤ (k : Int) * 100000000000
  | 0, _ => ⟨Int.le_refl _, by rw [sumP]; omega⟩
  | k + 1, h => by
    have ih := sumP_in hn (a := a) (v := v) (k := k) (by omega)
    have h1 := plc_le (a := a) hn v k
    rw [sumP, placeL_at (by omega), ← Int.natCast_mul]
    have h2 : k * plc n a v k ≤ 10 * 10000000000 := Nat.mul_le_mul (by omega) h1
    omega
theorem mean_step {n : Nat} {a : List Pr} (hn : n ≤ 10) {v k : Nat} (hk : k < n) : ∃ p : Nat, (k : Int) * (placeL n a v).getD k 0 = (p : Int) ∧ p ≤ 100000000000 := by
  refine ⟨k * plc n a v k, by rw [placeL_at hk, Int.natCast_mul], ?_⟩
  exact Nat.mul_le_mul (show k ≤ 10 by omega) (plc_le hn v k)
/-! ## The mean -/
def meanQ (n : Nat) (a : List Pr) (v : Nat) : Rat := ofq (posS n a v : Nat) (seqsL n a).length
def meanE (n : Int) (a : List Pr) (i : Int) : Int := plcE n a i
def meanO (n : Int) (a : List Pr) (i : Int) : Option Rat := if plcE n a i = 0 then some (meanQ n.toNat a i.toNat) else none
theorem mean_no {n i : Int} {a : List Pr} (h : ¬ seqE n a = 0) : meanO n a i = none ∧ meanE n a i = seqE n a := ⟨by unfold meanO; rw [(plc_no h).2, if_neg h], (plc_no h).2⟩
theorem mean_bad {n i : Int} {a : List Pr} (h : ¬ plcE n a i = 0) : meanO n a i = none ∧ meanE n a i = plcE n a i := ⟨by unfold meanO; rw [if_neg h], rfl⟩
theorem mean_ok {n i : Nat} {a : List Pr} (h : Cert n a) (h2 : i < n) : meanO n a i = some (meanQ n a i) ∧ meanE n a i = 0 := by
  have := (plc_ok h h2).2
  exact ⟨by unfold meanO; rw [this, if_pos rfl, Int.toNat_natCast, Int.toNat_natCast], this⟩
theorem plcE_ok {n i : Int} {a : List Pr} (h : plcE n a i = 0) : ∃ m k : Nat, n = (m : Int) ∧ i = (k : Int) ∧ k < m ∧ Cert m a := by
  have h0 : seqE n a = 0 := by
    unfold plcE at h
    by_cases e : seqE n a = 0
    · exact e
    · rw [if_neg e] at h; exact absurd h e
  have h1 : 0 ≤ i ∧ i < n := by
    unfold plcE at h
    rw [if_pos h0] at h
    by_cases e : 0 ≤ i ∧ i < n
    · exact e
    · rw [if_neg e] at h; cases h
  obtain ⟨m, rfl, hC⟩ := cert_of h0
  exact ⟨m, i.toNat, rfl, by omega, by omega, hC⟩
theorem seqs_le {n : Nat} {a : List Pr} (hn : n ≤ 10) : (seqsL n a).length ≤ 10000000000 := Nat.le_trans (sq_len_le _ _ _ _) (pow_le10 hn (Nat.le_refl _))
theorem posS_le {n : Nat} {a : List Pr} (hn : n ≤ 10) {v : Nat} (hv : v < n) : posS n a v ≤ 1000000000000 := by
  have h1 := sumP_full (a := a) hv
  have h2 := (sumP_in hn (a := a) (v := v) (Nat.le_refl n)).2
  omega
/-! ## Sums of shares -/
/-- A fraction over the number of sequences. -/
def ovQ (n : Nat) (a : List Pr) (x : Nat) : Rat := ofq (x : Nat) (seqsL n a).length
theorem qs_ovQ {n : Nat} {a : List Pr} (hn : n ≤ 10) {x : Nat} (hx : x ≤ 1000000000000000) : qs (ovQ n a x) 3 := by
  have := seqs_le (a := a) hn
  exact qs_ofq _ _ (by omega) (by omega)
theorem ovQ_eq (n : Nat) (a : List Pr) (x : Nat) : ovQ n a x = (x : Rat) / (((seqsL n a).length : Nat) : Rat) := by
  unfold ovQ; rw [ofq_eq]; rfl
theorem ovQ_add (n : Nat) (a : List Pr) (x y : Nat) : ovQ n a x + ovQ n a y = ovQ n a (x + y) := by
  rw [ovQ_eq, ovQ_eq, ovQ_eq, Rat.div_def, Rat.div_def, Rat.div_def, ← Rat.add_mul, ← Rat.natCast_add]
theorem ovQ_zero (n : Nat) (a : List Pr) : ofq 0 1 = ovQ n a 0 := by
  rw [ovQ_eq, Rat.div_def, show ((0 : Nat) : Rat) = 0 from rfl, Rat.zero_mul]; decide +kernel
theorem shQ_ov {n : Nat} {a : List Pr} (h : Cert n a) {i j : Nat} (hi : i < n) (hj : j < n) (hne : i ≠ j) : shQ n a i j = ovQ n a (befN n a i j) := by
  rw [shQ_eq h hi hj hne, ovQ_eq]
theorem meanQ_ov (n : Nat) (a : List Pr) (v : Nat) : meanQ n a v = ovQ n a (posS n a v) := rfl
/-- The sums that the law makes. -/
def sumB (n : Nat) (a : List Pr) (v : Nat) : Nat → Nat := sm fun u => if u = v then 0 else befN n a u v
theorem befN_le {n : Nat} {a : List Pr} (hn : n ≤ 10) (i j : Nat) : befN n a i j ≤ 10000000000 := by
  unfold befN
  exact Nat.le_trans (List.length_filter_le _ _) (seqs_le hn)
theorem sumB_next {n : Nat} {a : List Pr} {v k : Nat} (h : ¬ k = v) : sumB n a v (k + 1) = sumB n a v k + befN n a k v := by
  unfold sumB; rw [sm, if_neg h]
theorem sumB_skip {n : Nat} {a : List Pr} {v k : Nat} (h : k = v) : sumB n a v (k + 1) = sumB n a v k := by
  unfold sumB; rw [sm, if_pos h, Nat.add_zero]
theorem sumB_leB {n B : Nat} {a : List Pr} {v : Nat} (hB : ∀ u, befN n a u v ≤ B) : ∀ k, sumB n a v k ≤ k * B
  | 0 => Nat.zero_le _
  | k + 1 => by
    have ih := sumB_leB hB k
    have h2 := hB k
    rw [Nat.succ_mul]
    by_cases c : k = v
    · rw [sumB_skip c]; omega
    · rw [sumB_next c]; omega
theorem sumB_le {n : Nat} {a : List Pr} (hn : n ≤ 10) (v k : Nat) : sumB n a v k ≤ k * 10000000000 := sumB_leB (fun u => befN_le hn u v) k
theorem idx_count {n : Nat} {p : List Nat} (hl : p.length = n) (hnd : p.Nodup) (hm : ∀ v, v ∈ p ↔ v < n) {v : Nat} (hv : v < n) : sm (fun u => if u = v then 0 else if p.idxOf u < p.idxOf v then 1 else 0) n = p.idxOf v := by
  -- those before v are the first so many of the list
  have e : sm (fun u => if u = v then 0 else if p.idxOf u < p.idxOf v then 1 else 0) n = ((List.range n).filter fun u => decide (p.idxOf u < p.idxOf v)).length := by
    have hs : ∀ k, sm (fun u => if u = v then 0 else if p.idxOf u < p.idxOf v then 1 else 0) k = ((List.range k).filter fun u => decide (p.idxOf u < p.idxOf v)).length := by
      intro k
      induction k with
      | zero => rfl
      | succ k ih =>
        rw [sm, ih, List.range_succ, List.filter_append, List.length_append, List.filter_cons, List.filter_nil]
        by_cases c : k = v
        · subst c
          rw [if_pos rfl, if_neg (by simp)]; rfl
        · rw [if_neg c]
          by_cases d : p.idxOf k < p.idxOf v
          · rw [if_pos d, if_pos (decide_eq_true d)]; rfl
          · rw [if_neg d, if_neg (by simpa using d)]; rfl
    exact hs n
  rw [e]
  have hvl := List.idxOf_lt_length_of_mem ((hm v).2 hv)
  apply Nat.le_antisymm
  · have := nodup_len (l := (List.range n).filter fun u => decide (p.idxOf u < p.idxOf v)) (c := p.take (p.idxOf v)) (range_filter_nodup _ _) (fun u hu => by
      obtain ⟨h1, h2⟩ := List.mem_filter.1 hu
      exact mem_take_idx ((hm u).2 (List.mem_range.1 h1)) (of_decide_eq_true h2))
    rw [List.length_take] at this
    omega
  · have := nodup_len (l := p.take (p.idxOf v)) (c := (List.range n).filter fun u => decide (p.idxOf u < p.idxOf v)) (hnd.sublist (List.take_sublist _ _)) (fun u hu => by
      have hup := List.mem_of_mem_take hu
      refine List.mem_filter.2 ⟨List.mem_range.2 ((hm u).1 hup), decide_eq_true ?_⟩
      obtain ⟨k, hk, e⟩ := List.mem_iff_getElem.1 hu
      rw [List.length_take] at hk
      rw [List.getElem_take] at e
      have : p.idxOf u = k := by rw [← e]; exact hnd.idxOf_getElem k (by omega)
      omega)
    rw [List.length_take] at this
    omega
theorem sumB_full {n : Nat} {a : List Pr} {v : Nat} (hv : v < n) : sumB n a v n = posS n a v := by
  unfold sumB posS
  have e : ∀ u, u < n → (if u = v then 0 else befN n a u v) = ls (fun p => if u = v then 0 else if p.idxOf u < p.idxOf v then 1 else 0) (seqsL n a) := by
    intro u _
    by_cases c : u = v
    · simp only [if_pos c]
      rw [ls_const, Nat.mul_zero]
    · simp only [if_neg c]
      unfold befN
      rw [ls_filter]
      exact ls_congr fun p _ => by
        by_cases d : p.idxOf u < p.idxOf v
        · rw [if_pos (decide_eq_true d), if_pos d]
        · rw [if_neg (by simpa using d), if_neg d]
  rw [sm_congr e, ← ls_sm]
  refine ls_congr fun p hp => ?_
  obtain ⟨_, hl, hnd, hm⟩ := seq_all hp
  exact idx_count hl hnd hm hv
/-- All means. -/
def sumM (n : Nat) (a : List Pr) : Nat → Nat := sm (posS n a)
theorem sumM_leB {n B : Nat} {a : List Pr} (hB : ∀ v, v < n → posS n a v ≤ B) : ∀ {k : Nat}, k ≤ n → sumM n a k ≤ k * B
  | 0, _ => Nat.zero_le _
  | k + 1, h => by
    have ih := sumM_leB hB (k := k) (by omega)
    have h2 := hB k (by omega)
    have e : sumM n a (k + 1) = sumM n a k + posS n a k := rfl
    rw [Nat.succ_mul, e]; omega
theorem sumM_le {n : Nat} {a : List Pr} (hn : n ≤ 10) {k : Nat} (hk : k ≤ n) : sumM n a k ≤ k * 1000000000000 := sumM_leB (fun _ hv => posS_le hn hv) hk
theorem sumM_next (n : Nat) (a : List Pr) (k : Nat) : sumM n a (k + 1) = sumM n a k + posS n a k := rfl
theorem tri : ∀ n : Nat, 2 * sm (fun k => k) n = n * (n - 1)
  | 0 => rfl
  | n + 1 => by
    have ih := tri n
    rw [sm, Nat.mul_add, ih, Nat.add_sub_cancel]
    cases n with
    | zero => rfl
    | succ m => rw [Nat.add_sub_cancel, Nat.mul_comm (m + 1 + 1), show m + 1 + 1 = m + 2 from rfl, Nat.mul_add (m + 1) m 2, Nat.mul_comm (m + 1) 2]
theorem ls_idx {n : Nat} {p : List Nat} (hl : p.length = n) (hnd : p.Nodup) (hm : ∀ v, v ∈ p ↔ v < n) : sm (fun v => p.idxOf v) n = sm (fun k => k) n := by
  -- each place is taken once
  have e1 : ∀ v, v < n → p.idxOf v = sm (fun k => if p.idxOf v = k then k else 0) n := fun v hv => by
    have hvl := List.idxOf_lt_length_of_mem ((hm v).2 hv)
    rw [sm_one (t := p.idxOf v) (by omega) (fun i _ hi => if_neg (fun e => hi e.symm)), if_pos rfl]
  have hsw : ∀ (f : Nat → Nat → Nat) (k m : Nat), sm (fun v => sm (f v) k) m = sm (fun j => sm (fun v => f v j) m) k := by
    intro f k m
    induction m with
    | zero => rw [sm, sm_zero]; intro i _; rfl
    | succ m ih => rw [sm, ih, ← sm_add]; rfl
  rw [sm_congr e1, hsw]
  refine sm_congr fun k hk => ?_
  have hk' : k < p.length := by omega
  have hx : p[k] < n := (hm _).1 (List.getElem_mem hk')
  have hi : p.idxOf p[k] = k := hnd.idxOf_getElem k hk'
  rw [sm_one (t := p[k]) hx (fun v hv hne => if_neg fun e => hne ?_), if_pos hi]
  have := List.getElem_idxOf (List.idxOf_lt_length_of_mem ((hm v).2 hv))
  rw [← this]; simp only [e]
theorem sumM_full {n : Nat} {a : List Pr} : 2 * sumM n a n = (seqsL n a).length * (n * (n - 1)) := by
  unfold sumM
  have e : sm (posS n a) n = ls (fun p => sm (fun v => p.idxOf v) n) (seqsL n a) := by
    rw [ls_sm]; rfl
  rw [e, ls_congr (g := fun _ => sm (fun k => k) n) (fun p hp => by
    obtain ⟨_, hl, hnd, hm⟩ := seq_all hp
    exact ls_idx hl hnd hm), ls_const, ← tri, Nat.mul_left_comm]
theorem all_means {n : Nat} {a : List Pr} (h : Cert n a) : ovQ n a (sumM n a n) = ofq ((n * (n - 1) / 2 : Nat) : Int) 1 := by
  have h0 : (((seqsL n a).length : Nat) : Rat) ≠ 0 := by
    have := seqs_pos h.dg h.acy
    exact fun e => by have := Rat.natCast_eq_zero_iff.1 e; omega
  have h1 := sumM_full (n := n) (a := a)
  have h2 : sumM n a n = (n * (n - 1) / 2) * (seqsL n a).length := by
    have ht := tri n
    rw [← ht] at h1 ⊢
    rw [Nat.mul_div_cancel_left _ (by decide)]
    have : 2 * sumM n a n = 2 * (sm (fun k => k) n * (seqsL n a).length) := by
      rw [h1, ← Nat.mul_assoc, Nat.mul_comm _ 2, Nat.mul_assoc, Nat.mul_comm (seqsL n a).length]
    omega
  rw [ovQ_eq, h2, Rat.natCast_mul, Rat.div_def, Rat.mul_assoc, Rat.mul_inv_cancel _ h0, Rat.mul_one, ofq_eq]
  show _ = ((n * (n - 1) / 2 : Nat) : Rat) / 1
  rw [Rat.div_def, show (1 : Rat)⁻¹ = 1 from by decide +kernel, Rat.mul_one]
theorem mul_pred {m : Nat} (h : m ≤ 10) : ∃ P : Nat, (m : Int) * ((m : Int) - 1) = (P : Int) ∧ P = m * (m - 1) ∧ P ≤ 100 := by
  refine ⟨m * (m - 1), ?_, rfl, Nat.le_trans (Nat.mul_le_mul h (show m - 1 ≤ 10 by omega)) (by decide)⟩
  cases m with
  | zero => rfl
  | succ k => rw [Int.natCast_mul, Nat.add_sub_cancel, show ((k + 1 : Nat) : Int) - 1 = (k : Int) from by omega]
theorem few3 (n : Int) : n ≤ 5 ∨ (¬ n ≤ 5 ∧ 10 < n) ∨ (¬ n ≤ 5 ∧ ¬ 10 < n) := by omega
end Go.Fw
