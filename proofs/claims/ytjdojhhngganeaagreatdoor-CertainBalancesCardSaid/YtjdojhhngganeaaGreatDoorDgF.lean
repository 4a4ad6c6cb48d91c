/- Chapter 24: sequences as lists; how many there are. Plain. -/
import Derived.Test.YtjdojhhngganeaaGreatDoorDgD
namespace Go.Fw
open Go Go.RowKit

/-! ## Lists of steps -/
/-- The lists of some steps that are ready one after the other, from a set on. -/
def sq (n : Nat) (rd : Nat → Nat → Bool) : Nat → Nat → List (List Nat)
  | 0, _ => [[]]
  | k + 1, s => (List.range n).flatMap fun v => if rd s v = true then (sq n rd k (s ||| 2 ^ v)).map (v :: ·) else []
/-- How many of them begin with one of the first so many. -/
def sqP (n : Nat) (rd : Nat → Nat → Bool) (k s v : Nat) : Nat := ((List.range v).flatMap fun u => if rd s u = true then (sq n rd k (s ||| 2 ^ u)).map (u :: ·) else []).length
theorem sqP_zero (n : Nat) (rd : Nat → Nat → Bool) (k s : Nat) : sqP n rd k s 0 = 0 := rfl
theorem sqP_succ (n : Nat) (rd : Nat → Nat → Bool) (k s v : Nat) : sqP n rd k s (v + 1) = sqP n rd k s v + if rd s v = true then (sq n rd k (s ||| 2 ^ v)).length else 0 := by
  unfold sqP
  rw [List.range_succ, List.flatMap_append, List.length_append, List.flatMap_cons, List.flatMap_nil, List.append_nil]
  split <;> simp
theorem sqP_full (n : Nat) (rd : Nat → Nat → Bool) (k s : Nat) : sqP n rd k s n = (sq n rd (k + 1) s).length := rfl
theorem sq_len_le (n : Nat) (rd : Nat → Nat → Bool) : ∀ k s, (sq n rd k s).length ≤ n ^ k
  | 0, _ => Nat.le_refl _
  | k + 1, s => by
    have h : ∀ v, sqP n rd k s v ≤ v * n ^ k := by
      intro v
      induction v with
      | zero => exact Nat.zero_le _
      | succ v ih =>
        have := sq_len_le n rd k (s ||| 2 ^ v)
        rw [sqP_succ, Nat.succ_mul]; split <;> omega
    rw [← sqP_full, Nat.pow_succ, Nat.mul_comm]; exact h n
theorem sqP_le (n : Nat) (rd : Nat → Nat → Bool) (k s : Nat) : ∀ v, sqP n rd k s v ≤ v * n ^ k := by
  intro v
  induction v with
  | zero => exact Nat.zero_le _
  | succ v ih =>
    have := sq_len_le n rd k (s ||| 2 ^ v)
    rw [sqP_succ, Nat.succ_mul]; split <;> omega
theorem sq_congr {n : Nat} {rd rd' : Nat → Nat → Bool} (h : ∀ s v, v < n → rd s v = rd' s v) : ∀ k s, sq n rd k s = sq n rd' k s
  | 0, _ => rfl
  | k + 1, s => by
    rw [sq, sq]
    refine congrArg List.flatten (List.map_congr_left fun v hv => ?_)
    rw [h s v (List.mem_range.1 hv), sq_congr h k]

/-! ## How many bits a set has -/
def bc (n s : Nat) : Nat := ((List.range n).filter fun v => s.testBit v).length
theorem bc_le (n s : Nat) : bc n s ≤ n := by
  unfold bc
  exact Nat.le_trans (List.length_filter_le _ _) (by rw [List.length_range]; exact Nat.le_refl _)
theorem bc_zero (n : Nat) : bc n 0 = 0 := by
  unfold bc
  rw [List.length_eq_zero_iff, List.filter_eq_nil_iff]
  intro v _; simp
theorem bc_succ (n s : Nat) : bc (n + 1) s = bc n s + if s.testBit n = true then 1 else 0 := by
  unfold bc
  rw [List.range_succ, List.filter_append, List.length_append, List.filter_cons, List.filter_nil]
  split <;> rfl
theorem bc_congr {s t : Nat} : ∀ {n : Nat}, (∀ v, v < n → s.testBit v = t.testBit v) → bc n s = bc n t
  | 0, _ => rfl
  | n + 1, h => by rw [bc_succ, bc_succ, bc_congr (n := n) (fun v hv => h v (by omega)), h n (by omega)]
theorem bc_all {s : Nat} : ∀ {n : Nat}, bc n s = n → ∀ v, v < n → s.testBit v = true
  | 0, _, v, hv => by omega
  | n + 1, h, v, hv => by
    rw [bc_succ] at h
    have := bc_le n s
    split at h
    · rename_i h1
      rcases Nat.lt_or_ge v n with e | e
      · exact bc_all (n := n) (by omega) v e
      · rw [show v = n from by omega]; exact h1
    · omega
theorem bc_or {n s v : Nat} (hv : v < n) (h : s.testBit v = false) : bc n (s ||| 2 ^ v) = bc n s + 1 := by
  induction n with
  | zero => omega
  | succ n ih =>
    rw [bc_succ, bc_succ, Nat.testBit_or, Nat.testBit_two_pow]
    by_cases e : v = n
    · subst e
      rw [show bc v (s ||| 2 ^ v) = bc v s from bc_congr fun u hu => by rw [Nat.testBit_or, Nat.testBit_two_pow, show decide (v = u) = false from decide_eq_false (by omega), Bool.or_false]]
      simp [h]
    · rw [ih (by omega), show decide (v = n) = false from decide_eq_false e, Bool.or_false]; omega
theorem bc_full {n s : Nat} (hs : s < 2 ^ n) (h : bc n s = n) : s = 2 ^ n - 1 := by
  apply Nat.eq_of_testBit_eq
  intro v
  rw [Nat.testBit_two_pow_sub_one]
  by_cases hv : v < n
  · rw [bc_all h v hv, decide_eq_true hv]
  · rw [decide_eq_false hv, Nat.testBit_lt_two_pow (Nat.lt_of_lt_of_le hs (Nat.pow_le_pow_right (by decide) (by omega)))]
theorem bc_top (n : Nat) : bc n (2 ^ n - 1) = n := by
  have : ∀ m, m ≤ n → bc m (2 ^ n - 1) = m := by
    intro m
    induction m with
    | zero => intro _; rfl
    | succ m ih =>
      intro hm
      rw [bc_succ, ih (by omega), Nat.testBit_two_pow_sub_one, if_pos (decide_eq_true (show m < n by omega))]
  exact this n (Nat.le_refl _)
theorem or_gt {s v : Nat} (h : s.testBit v = false) : s < s ||| 2 ^ v := by
  have h1 : s ≤ s ||| 2 ^ v := Nat.left_le_or
  rcases Nat.lt_or_ge s (s ||| 2 ^ v) with e | e
  · exact e
  · have : s = s ||| 2 ^ v := by omega
    have h2 : (s ||| 2 ^ v).testBit v = true := by rw [Nat.testBit_or, Nat.testBit_two_pow]; simp
    rw [← this, h] at h2; cases h2

/-! ## The table of sequences holds their numbers -/
theorem pow_le10 {n k : Nat} (hn : n ≤ 10) (hk : k ≤ n) : n ^ k ≤ 10000000000 := by
  rcases Nat.eq_zero_or_pos n with e | e
  · subst e; rw [show k = 0 from by omega]; decide
  · exact Nat.le_trans (Nat.pow_le_pow_right e hk) (Nat.le_trans (Nat.pow_le_pow_left hn n) (Nat.le_trans (Nat.pow_le_pow_right (n := 10) (by decide) hn) (by decide)))
theorem w64_in {x : Int} (h : -9223372036854775808 ≤ x ∧ x ≤ 9223372036854775807) : w64 x = x := IntWalk.i64_in _ h
theorem rdy_bit {need : List Nat} {s v : Nat} (h : rdy need s v = true) : s.testBit v = false := by
  unfold rdy at h
  simp only [Bool.and_eq_true, Bool.not_eq_true'] at h
  exact h.1
theorem getD_setI (r : List Int) (i j : Nat) (x : Int) : (r.set i x).getD j 0 = if i = j ∧ j < r.length then x else r.getD j 0 := by
  rw [List.getD_eq_getElem?_getD, List.getD_eq_getElem?_getD, List.getElem?_set]
  by_cases h : i = j
  · subst h
    by_cases h2 : i < r.length
    · rw [if_pos rfl, if_pos h2, if_pos ⟨rfl, h2⟩]; rfl
    · rw [if_pos rfl, if_neg h2, if_neg (fun e => h2 e.2), List.getElem?_eq_none (by omega)]
  · rw [if_neg h, if_neg (fun e => h e.1)]
/-- One set's entry. -/
theorem wayV_at {need : List Nat} {n s k : Nat} {W : List Int} (hn : n ≤ 10) (hk : k + 1 ≤ n) (hs : s < W.length) (h0 : W.getD s 0 = 0)
    (hW : ∀ v, v < n → rdy need s v = true → W.getD (s ||| 2 ^ v) 0 = ((sq n (rdy need) k (s ||| 2 ^ v)).length : Int)) :
    ∀ v, v ≤ n → (wayV need s W v).getD s 0 = ((sqP n (rdy need) k s v : Nat) : Int) ∧ ∀ t, t ≠ s → (wayV need s W v).getD t 0 = W.getD t 0
  | 0, _ => ⟨by rw [wayV, h0, sqP_zero]; rfl, fun _ _ => rfl⟩
  | v + 1, hv => by
    obtain ⟨h1, h2⟩ := wayV_at hn hk hs h0 hW v (by omega)
    have hl : s < (wayV need s W v).length := by rw [wayV_len]; exact hs
    by_cases hr : rdy need s v = true
    · rw [wayV, if_pos hr]
      refine ⟨?_, fun t ht => by rw [getD_setI, if_neg (fun e => ht e.1.symm)]; exact h2 t ht⟩
      have hgt := or_gt (rdy_bit hr)
      rw [getD_setI, if_pos ⟨rfl, hl⟩, h1, h2 _ (by omega), hW v (by omega) hr, sqP_succ, if_pos hr]
      have hb := sqP_le n (rdy need) k s (v + 1)
      have hp : n ^ k * n = n ^ (k + 1) := (Nat.pow_succ ..).symm
      have hm : (v + 1) * n ^ k ≤ n * n ^ k := Nat.mul_le_mul_right _ hv
      have := pow_le10 hn hk
      rw [Nat.mul_comm n] at hm
      rw [sqP_succ, if_pos hr] at hb
      rw [w64_in ⟨by omega, by omega⟩]
      omega
    · rw [wayV, if_neg hr]
      exact ⟨by rw [h1, sqP_succ, if_neg hr]; rfl, h2⟩
theorem wayS_at {need : List Nat} {n N : Nat} (hn : n ≤ 10) (hN : 2 ^ n = N) : ∀ k, k ≤ N - 1 → ∀ s, s < N →
    (N - 1 - k ≤ s → (wayS need n N k).getD s 0 = ((sq n (rdy need) (n - bc n s) s).length : Int)) ∧ (s < N - 1 - k → (wayS need n N k).getD s 0 = 0)
  | 0, _, s, hs => by
    have hN1 := pow10 hn hN
    rw [wayS, getD_setI, List.length_replicate]
    have hz : (List.replicate N (0 : Int)).getD s 0 = 0 := by
      rw [List.getD_eq_getElem?_getD, List.getElem?_replicate]; split <;> rfl
    refine ⟨fun h => ?_, fun h => by rw [if_neg (by omega), hz]⟩
    have e : s = 2 ^ n - 1 := by omega
    rw [if_pos ⟨by omega, hs⟩, e, bc_top, Nat.sub_self]; rfl
  | k + 1, hk, s, hs => by
    have hN1 := pow10 hn hN
    have ih := wayS_at (need := need) hn hN k (by omega)
    have hc : N - 2 - k < N := by omega
    have hbl := bc_le n (N - 2 - k)
    have hbn : bc n (N - 2 - k) ≠ n := fun e => by have := bc_full (by omega) e; omega
    have hbor : ∀ v, v < n → rdy need (N - 2 - k) v = true → bc n ((N - 2 - k) ||| 2 ^ v) = bc n (N - 2 - k) + 1 := fun v hv hr => bc_or hv (rdy_bit hr)
    obtain ⟨h1, h2⟩ := wayV_at (need := need) (n := n) (s := N - 2 - k) (k := n - bc n (N - 2 - k) - 1) (W := wayS need n N k) hn (by omega) (by rw [wayS_len]; omega) ((ih _ hc).2 (by omega))
      (fun v hv hr => by
        have hgt := or_gt (rdy_bit hr)
        have hlt : (N - 2 - k) ||| 2 ^ v < N := or_in hN hc hv
        rw [(ih _ hlt).1 (by omega), hbor v hv hr, show n - (bc n (N - 2 - k) + 1) = n - bc n (N - 2 - k) - 1 from by omega]) n (Nat.le_refl _)
    rw [wayS]
    by_cases e : s = N - 2 - k
    · refine ⟨fun _ => ?_, fun h => by omega⟩
      rw [e, h1, sqP_full, show n - bc n (N - 2 - k) - 1 + 1 = n - bc n (N - 2 - k) from by omega]
    · rw [h2 s e]
      exact ⟨fun h => (ih s hs).1 (by omega), fun h => (ih s hs).2 (by omega)⟩
theorem ways_at {n : Nat} {a : List Pr} (hn : n ≤ 10) {s : Nat} (hs : s < 2 ^ n) : (waysL n a).getD s 0 = ((sq n (rdy (needL n a)) (n - bc n s) s).length : Int) := by
  unfold waysL
  exact (wayS_at hn rfl _ (Nat.le_refl _) s hs).1 (by omega)

/-! ## Ready: what has to stand before stands -/
def rdA (a : List Pr) (s v : Nat) : Bool := !s.testBit v && decide (∀ p ∈ a, p.2 = (v : Int) → s.testBit p.1.toNat = true)
theorem rdA_iff {a : List Pr} {s v : Nat} : rdA a s v = true ↔ s.testBit v = false ∧ ∀ p ∈ a, p.2 = (v : Int) → s.testBit p.1.toNat = true := by
  unfold rdA; simp
theorem prv_bits {n : Nat} {a : List Pr} (h : dgC n a) {z : List Nat} (hz : z.length = n) (hz0 : ∀ i, z.getD i 0 = 0) {f v : Nat} (hv : v < n) : ∀ {k : Nat}, k ≤ a.length →
    (((prv a z k).getD v 0).testBit f = true ↔ ∃ j, j < k ∧ a.getD j dP = ((f : Int), (v : Int)))
  | 0, _ => by
    rw [prv, hz0]; simp
  | k + 1, hk => by
    have ih := prv_bits h hz hz0 (f := f) hv (k := k) (by omega)
    obtain ⟨f', t, e, h1, h2, _⟩ := h.at (i := k) (by omega)
    rw [prv_at e, getD_set, prv_len, hz]
    have hsp : (∃ j, j < k + 1 ∧ a.getD j dP = ((f : Int), (v : Int))) ↔ (∃ j, j < k ∧ a.getD j dP = ((f : Int), (v : Int))) ∨ (f' = f ∧ t = v) := by
      constructor
      · rintro ⟨j, hj, he⟩
        by_cases ej : j = k
        · subst ej; rw [e, Prod.mk.injEq] at he; exact .inr ⟨by omega, by omega⟩
        · exact .inl ⟨j, by omega, he⟩
      · rintro (⟨j, hj, he⟩ | ⟨rfl, rfl⟩)
        · exact ⟨j, by omega, he⟩
        · exact ⟨k, by omega, e⟩
    rw [hsp, ← ih]
    by_cases et : t = v
    · subst et
      rw [if_pos ⟨rfl, hv⟩, Nat.testBit_or, Nat.testBit_two_pow]
      simp
    · rw [if_neg (fun e => et e.1)]
      simp [et]
theorem rdy_eq {n : Nat} {a : List Pr} (h : dgC n a) {s v : Nat} (hv : v < n) : rdy (needL n a) s v = rdA a s v := by
  rw [Bool.eq_iff_iff, rdA_iff]
  unfold rdy
  rw [Bool.and_eq_true, Bool.not_eq_true', decide_eq_true_eq]
  refine and_congr_right fun _ => ?_
  have hb := fun f => prv_bits h (z := List.replicate n 0) List.length_replicate (fun i => by rw [List.getD_eq_getElem?_getD, List.getElem?_replicate]; split <;> rfl) (f := f) hv (Nat.le_refl _)
  constructor
  · intro h0 p hp hpv
    obtain ⟨j, hj, e⟩ := List.mem_iff_getElem.1 hp
    obtain ⟨f, t, e2, h1, h2, _⟩ := h.at hj
    have e3 : a.getD j dP = p := by rw [List.getD_eq_getElem?_getD, List.getElem?_eq_getElem hj, e]; rfl
    have hf := (hb f).2 ⟨j, hj, by rw [e2]; rw [← e3, e2] at hpv; exact Prod.ext rfl hpv⟩
    have h3 := congrArg (fun x => x.testBit f) h0
    simp only [testBit_bdiff, Nat.zero_testBit] at h3
    have hf' : ((needL n a).getD v 0).testBit f = true := hf
    rw [hf', Bool.true_and, Bool.not_eq_false'] at h3
    rw [← e3, e2]
    simpa using h3
  · intro h0
    apply Nat.eq_of_testBit_eq
    intro f
    rw [testBit_bdiff, Nat.zero_testBit]
    cases hc : ((needL n a).getD v 0).testBit f with
    | false => rfl
    | true =>
      obtain ⟨j, hj, e⟩ := (hb f).1 hc
      have hm : ((f : Int), (v : Int)) ∈ a := by rw [← e]; exact getD_mem2 hj
      have := h0 _ hm rfl
      simp only [Int.toNat_natCast] at this
      rw [this]; rfl
/-- All sequences. -/
def seqsL (n : Nat) (a : List Pr) : List (List Nat) := sq n (rdA a) n 0
theorem ways_seq {n : Nat} {a : List Pr} (h : dgC n a) (hn : n ≤ 10) {s : Nat} (hs : s < 2 ^ n) : (waysL n a).getD s 0 = ((sq n (rdA a) (n - bc n s) s).length : Int) := by
  rw [ways_at hn hs, sq_congr (fun s v hv => rdy_eq h hv)]
theorem ways_zero {n : Nat} {a : List Pr} (h : dgC n a) (hn : n ≤ 10) : (waysL n a).getD 0 0 = ((seqsL n a).length : Int) := by
  rw [ways_seq h hn (Nat.pow_pos (by decide)), bc_zero]; rfl
end Go.Fw
