/- Chapter 24: the reference of the sequences, as its walks ask. Plain. -/
import Derived.Test.YtjdojhhngganeaaGreatDoorDgM
namespace Go.Fw
open Go Go.RowKit Go.Nat9

theorem rdA_no1 {a : List Pr} {s v : Nat} (h : ((s >>> v &&& 1 : Nat) : Int) ≠ 0) : rdA a s v = false :=
  Bool.eq_false_iff.2 fun e => by have := (rdA_iff.1 e).1; rw [(bit_iff s v).1 h] at this; cases this
theorem rdA_no2 {a : List Pr} {s v i f t : Nat} (hi : i < a.length) (he : a.getD i dP = ((f : Int), (t : Int))) (ht : (t : Int) = (v : Int)) (h : ((s >>> f &&& 1 : Nat) : Int) = 0) : rdA a s v = false :=
  Bool.eq_false_iff.2 fun e => by
    have := (rdA_iff.1 e).2 _ (getD_mem2 hi) (by rw [he]; exact ht)
    rw [he] at this
    simp only [Int.toNat_natCast] at this
    rw [(bit_zero s f).1 h] at this; cases this
theorem rdA_yes {a : List Pr} {s v : Nat} (h0 : ¬ ((s >>> v &&& 1 : Nat) : Int) ≠ 0) (h : ∀ j, j < a.length → (a.getD j dP).2 = (v : Int) → s.testBit (a.getD j dP).1.toNat = true) : rdA a s v = true := by
  refine rdA_iff.2 ⟨(bit_zero s v).1 (by omega), fun p hp => ?_⟩
  obtain ⟨j, hj, e⟩ := List.mem_iff_getElem.1 hp
  have := h j hj
  rw [List.getD_eq_getElem?_getD, List.getElem?_eq_getElem hj, e] at this
  exact this
theorem rdA_next {a : List Pr} {s v i : Nat} (h : ∀ j, j < i → (a.getD j dP).2 = (v : Int) → s.testBit (a.getD j dP).1.toNat = true) (hi : (a.getD i dP).2 = (v : Int) → s.testBit (a.getD i dP).1.toNat = true) : ∀ j, j < i + 1 → (a.getD j dP).2 = (v : Int) → s.testBit (a.getD j dP).1.toNat = true := fun j hj => by
  by_cases e : j = i
  · subst e; exact hi
  · exact h j (by omega)
theorem rdA_step {a : List Pr} {s v i f t : Nat} (he : a.getD i dP = ((f : Int), (t : Int))) (h : ¬ (t : Int) = (v : Int) ∨ ¬ ((s >>> f &&& 1 : Nat) : Int) = 0) : (a.getD i dP).2 = (v : Int) → s.testBit (a.getD i dP).1.toNat = true := by
  rw [he]
  intro e
  rcases h with h | h
  · exact absurd e h
  · simp only [Int.toNat_natCast]; exact (bit_iff s f).1 h
/-- a list that is fresh -/
def SETI (r : List Int) (v : Value) (φo : List VP) : Prop := ∃ (ad : Option Addr) (c : Nat), v = .slice ad r.length c ∧ φo = [vCells ad (i64s r)]
theorem wayV_y {n : Nat} {a : List Pr} (h : dgC n a) {s b : Nat} {W X : List Int} (hb : b < n) (hX : wayV (needL n a) s W b = X) (hr : rdA a s b = true) : wayV (needL n a) s W (b + 1) = X.set s (w64 (X.getD s 0 + X.getD (s ||| 2 ^ b) 0)) := by
  rw [wayV, hX, if_pos (by rw [rdy_eq h hb]; exact hr)]
theorem wayV_n {n : Nat} {a : List Pr} (h : dgC n a) {s b : Nat} {W X : List Int} (hb : b < n) (hX : wayV (needL n a) s W b = X) (hr : rdA a s b = false) : wayV (needL n a) s W (b + 1) = X := by
  rw [wayV, hX, if_neg (by rw [rdy_eq h hb, hr]; decide)]
theorem bc_step (s j : Nat) : ((bc j s : Nat) : Int) + ((s >>> j &&& 1 : Nat) : Int) = ((bc (j + 1) s : Nat) : Int) := by
  rw [bc_succ]
  have h1 := and1_le s j
  cases h : s.testBit j with
  | true =>
    have := (bit_iff s j).2 h
    rw [if_pos rfl]; omega
  | false =>
    have := (bit_zero s j).2 h
    rw [if_neg (by decide)]; omega
where
  and1_le (s j : Nat) : (s >>> j &&& 1) ≤ 1 := by rw [Nat.and_one_is_mod]; omega
/-! ## The first and the last place that are met -/
theorem low_zero {n : Nat} {a : List Pr} (h : Cert n a) {v x : Nat} (hv : v < n) (hx : x ≤ ancN n a v) (h0 : (placeL n a v).getD x 0 = 0) : x + 1 ≤ ancN n a v := by
  have hlh := low_high h hv
  obtain ⟨p, h1, h2⟩ := seq_at_low h hv
  have hp : 0 < plc n a v (ancN n a v) := plc_pos.2 ⟨p, h1, h2⟩
  rcases Nat.lt_or_ge x (ancN n a v) with e | e
  · exact e
  · rw [placeL_at (by omega), show x = ancN n a v from by omega] at h0; omega
theorem low_stop {n : Nat} {a : List Pr} (h : Cert n a) {v x : Nat} (hv : v < n) (hx : x ≤ ancN n a v) (h0 : ¬ (placeL n a v).getD x 0 = 0) : x = ancN n a v := by
  have hlh := low_high h hv
  rw [placeL_at (by omega)] at h0
  obtain ⟨p, g1, g2⟩ := plc_pos.1 (show 0 < plc n a v x by omega)
  have := (seq_room h.dg g1 hv).1
  omega
theorem high_zero {n : Nat} {a : List Pr} (h : Cert n a) {v y : Nat} (hv : v < n) (hy : n ≤ y + 1 + dscN n a v) (hyn : y < n) (h0 : (placeL n a v).getD y 0 = 0) : 1 ≤ y ∧ n ≤ (y - 1) + 1 + dscN n a v := by
  have hlh := low_high h hv
  obtain ⟨p, h1, h2⟩ := seq_at_high h hv
  have hp : 0 < plc n a v (n - 1 - dscN n a v) := plc_pos.2 ⟨p, h1, by omega⟩
  rw [placeL_at hyn] at h0
  have hne : y ≠ n - 1 - dscN n a v := fun e => by rw [← e] at hp; omega
  omega
theorem high_stop {n : Nat} {a : List Pr} (h : Cert n a) {v y : Nat} (hv : v < n) (hy : n ≤ y + 1 + dscN n a v) (hyn : y < n) (h0 : ¬ (placeL n a v).getD y 0 = 0) : (y : Int) = (n : Int) - 1 - ((dscN n a v : Nat) : Int) := by
  rw [placeL_at hyn] at h0
  obtain ⟨p, g1, g2⟩ := plc_pos.1 (show 0 < plc n a v y by omega)
  have := (seq_room h.dg g1 hv).2
  omega
theorem fixR_len (n : Int) (a : List Pr) : (fixR n a).length ≤ 10 := by
  by_cases h : seqE n a = 0
  · obtain ⟨m, rfl, hC⟩ := cert_of h
    have := fixP_len m a m
    have := hC.ten
    rw [fix_ok hC]; omega
  · rw [fix_no h]; exact Nat.zero_le _
theorem lowR_len (n : Int) (a : List Pr) : (lowR n a).length ≤ 10 ∧ (higR n a).length ≤ 10 := by
  by_cases h : seqE n a = 0
  · obtain ⟨m, rfl, hC⟩ := cert_of h
    have := hC.ten
    rw [(low_ok hC).1, (low_ok hC).2, lowP_len, higP_len]; exact ⟨by omega, by omega⟩
  · rw [(low_no h).1, (low_no h).2]; exact ⟨Nat.zero_le _, Nat.zero_le _⟩
theorem qs_mean (n : Int) (a : List Pr) (i : Int) : qs (fval (meanO n a i)) 3 := by
  by_cases h : plcE n a i = 0
  · obtain ⟨m, k, rfl, rfl, hk, hC⟩ := plcE_ok h
    rw [(mean_ok hC hk).1]
    have h1 := seqs_le (a := a) hC.ten
    have h2 := posS_le (a := a) hC.ten hk
    exact qs_ofq _ _ (by omega) (by omega)
  · rw [(mean_bad h).1]
    exact (qs_small (q := 0) (by decide) (by decide)).mono (by decide)
end Go.Fw
