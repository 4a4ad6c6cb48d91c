/- Chapter 38: the nearest multiple is the nearest, and scales. Plain. -/
import Derived.Test.YtgnljjdcbfijnaaDoorStdD
namespace Go.Fw
open Go Go.RowKit Go.Nat9

theorem val3 : ∀ {L : List Nat}, U32 L → L.length ≤ 3 → val L < 10000000000000000000000000000
  | [], _, _ => by decide
  | [a], hu, _ => by have := hu a (by simp); simp only [val]; omega
  | [a, b], hu, _ => by have := hu a (by simp); have := hu b (by simp); simp only [val]; omega
  | [a, b, c], hu, _ => by have := hu a (by simp); have := hu b (by simp); have := hu c (by simp); simp only [val]; omega
  | _ :: _ :: _ :: _ :: _, _, h => absurd h (by simp)
theorem raw_qs {s : Bool} {L M : List Nat} (h1 : U32 L) (h2 : L.length ≤ 3) (h3 : U32 M) (h4 : M.length ≤ 3) : qs (mkq s (val L) (val M)) 4 :=
  qs_mkq _ (limbsOf_len_of_lt (Nat.lt_trans (val3 h1 h2) (by decide))) (limbsOf_len_of_lt (Nat.lt_trans (val3 h3 h4) (by decide))) (by decide)
theorem raw_scaled {s : Bool} {L M : List Nat} {t : Int} (h1 : U32 L) (h2 : L.length ≤ 3) (h3 : U32 M) (h4 : M.length ≤ 3) (ht : 1 ≤ t ∧ t ≤ 10) : qs (mkq s (val L) (val M) * ofq t 1) 4 := by
  unfold ofq
  rw [← mkq_mul]
  have k1 := Nat.mul_le_mul (Nat.le_of_lt (val3 h1 h2)) (show t.natAbs ≤ 10 by omega)
  have k2 := Nat.mul_le_mul (Nat.le_of_lt (val3 h3 h4)) (show (1 : Int).natAbs ≤ 1 by decide)
  exact qs_mkq _ (limbsOf_len_of_lt (Nat.lt_of_le_of_lt k1 (by decide))) (limbsOf_len_of_lt (Nat.lt_of_le_of_lt k2 (by decide))) (by decide)
theorem qs_small {n : Int} (h : n.natAbs < 1000000000) : qs (ofq n 1) 1 := qs_mkq _ (limbsOf_len_of_lt (by omega)) (limbsOf_len_of_lt (by decide)) (Nat.le_refl _)
theorem lt_le {a b c : Rat} (h : a < b) (h2 : b ≤ c) : a < c := Rat.not_le.1 fun e => absurd h (Rat.not_lt.2 (Rat.le_trans h2 e))
theorem absq_nn (x : Rat) : 0 ≤ absq x := by
  unfold absq
  split
  · rename_i h; exact Rat.le_of_lt (by have := Rat.neg_lt_neg h; simpa using this)
  · rename_i h; exact Rat.not_lt.1 h
theorem absq_sq (x : Rat) : absq x * absq x = x * x := by
  unfold absq
  split
  · grind
  · rfl
theorem sq_le {x y : Rat} (h : absq x ≤ absq y) : x * x ≤ y * y := by
  rw [← absq_sq x, ← absq_sq y]
  exact Rat.le_trans (Rat.mul_le_mul_of_nonneg_left h (absq_nn x)) (Rat.mul_le_mul_of_nonneg_right h (absq_nn y))
theorem sq_lt {x y : Rat} (h : absq x < absq y) : x * x < y * y := by
  rw [← absq_sq x, ← absq_sq y]
  have h0 := absq_nn x
  generalize absq x = a at *
  generalize absq y = b at *
  have h1 : 0 < b - a := (Rat.lt_iff_sub_pos a b).1 h
  have h2 : 0 < b := Rat.not_le.1 fun e => absurd h (Rat.not_lt.2 (Rat.le_trans e h0))
  have h3 : 0 < b + a := by grind
  have h4 := Rat.mul_pos h1 h3
  rw [Rat.lt_iff_sub_pos, show b * b - a * a = (b - a) * (b + a) from by grind]
  exact h4
theorem absq_mul {x t : Rat} (ht : 0 < t) : absq (x * t) = absq x * t := by
  unfold absq
  by_cases h : x < 0
  · have h1 : x * t < 0 := by
      have h2 : 0 < -x := by grind
      have h3 := Rat.mul_pos h2 ht
      have h4 : -x * t = -(x * t) := by grind
      rw [h4] at h3
      grind
    rw [if_pos h, if_pos h1]; grind
  · have h1 : ¬ x * t < 0 := Rat.not_lt.2 (Rat.mul_nonneg (Rat.not_lt.1 h) (Rat.le_of_lt ht))
    rw [if_neg h, if_neg h1]
theorem mul_lt_iff {a b t : Rat} (ht : 0 < t) : a * t < b * t ↔ a < b := by
  constructor
  · intro h
    exact Rat.not_le.1 fun e => absurd h (Rat.not_lt.2 (Rat.mul_le_mul_of_nonneg_right e (Rat.le_of_lt ht)))
  · intro h
    rw [Rat.lt_iff_sub_pos] at h ⊢
    have := Rat.mul_pos h ht
    rwa [show (b - a) * t = b * t - a * t from by grind] at this
def imod (a y : Int) : Int := if a.tmod y < 0 then a.tmod y + y else a.tmod y
theorem imod_neg {a y : Int} (h : a.tmod y < 0) : imod a y = a.tmod y + y := if_pos h
theorem imod_pos {a y : Int} (h : ¬ a.tmod y < 0) : imod a y = a.tmod y := if_neg h
theorem imod_in {a y : Int} (hy : 0 < y) : 0 ≤ imod a y ∧ imod a y < y := by
  have h1 := Int.lt_tmod_of_pos a hy
  have h2 := Int.tmod_lt_of_pos a hy
  unfold imod
  split <;> omega
def offX (w : Int) (u : Rat) (k : Int) : Rat := ofq w 1 - ofq k 1 * u
structure Near (w : Int) (u : Rat) (n k : Int) (r : Rat) : Prop where
  eq : r = ofq w 1 - ofq k 1 * u
  lo : 1 ≤ k
  hi : k ≤ n
  best : ∀ j : Int, 1 ≤ j → j ≤ n → absq r ≤ absq (offX w u j) ∧ (j < k → absq r < absq (offX w u j))
theorem near_mulR (w : Int) (u : Rat) : ∀ i : Nat, Near w u ((i + 1 : Nat) : Int) (mulR w u i).1 (mulR w u i).2
  | 0 => by
    have e : ofq w 1 - u = ofq w 1 - ofq 1 1 * u := by rw [show ofq 1 1 = 1 from by decide +kernel, Rat.one_mul]
    refine ⟨e, Int.le_refl _, Int.le_refl _, fun j h1 h2 => ?_⟩
    obtain rfl : j = 1 := by omega
    refine ⟨?_, fun h => absurd h (Int.lt_irrefl _)⟩
    show absq (ofq w 1 - u) ≤ absq (ofq w 1 - ofq 1 1 * u)
    rw [e]; exact Rat.le_refl
  | i + 1 => by
    have ih := near_mulR w u i
    rw [mulR]
    split
    · rename_i hc
      refine ⟨rfl, by omega, by omega, fun j h1 h2 => ?_⟩
      by_cases hj : j = ((i + 2 : Nat) : Int)
      · subst hj; exact ⟨Rat.le_refl, fun h => absurd h (Int.lt_irrefl _)⟩
      · have h3 := lt_le hc (ih.best j h1 (by omega)).1
        exact ⟨Rat.le_of_lt h3, fun _ => h3⟩
    · rename_i hc
      have hk := ih.hi
      refine ⟨ih.eq, ih.lo, by omega, fun j h1 h2 => ?_⟩
      by_cases hj : j = ((i + 2 : Nat) : Int)
      · subst hj; exact ⟨Rat.not_lt.1 hc, fun h => by omega⟩
      · exact ih.best j h1 (by omega)
theorem near_law {w M : Int} {u : Rat} (hw : wOk w) (hu : 0 < u) (hq : qs u 5) (hM : 1 ≤ M ∧ M ≤ 24) : ∃ k r, mulE w u M = 0 ∧ mulK w u M = k ∧ mulO w u M = some r ∧ Near w u M k r ∧ qs r 12 := by
  have hE : mulE w u M = 0 := by rw [mulE_lim hw hu]; exact limE_ok ⟨by decide, hM⟩
  refine ⟨_, _, hE, mulK_ok hE, mulO_ok hE, ?_, qs_mulR hw hq (by omega)⟩
  have h := near_mulR w u (M.toNat - 1)
  rwa [show ((M.toNat - 1 + 1 : Nat) : Int) = M from by omega] at h
theorem mulR_scale {w s : Int} {u t : Rat} (ht : 0 < t) (hw : ofq (s * w) 1 = ofq w 1 * t) : ∀ i : Nat, mulR (s * w) (u * t) i = ((mulR w u i).1, (mulR w u i).2 * t)
  | 0 => by
    show ((1 : Int), ofq (s * w) 1 - u * t) = (1, (ofq w 1 - u) * t)
    rw [hw, show ofq w 1 * t - u * t = (ofq w 1 - u) * t from by grind]
  | i + 1 => by
    have hx : mulX (s * w) (u * t) i = mulX w u i * t := by unfold mulX; rw [hw]; grind
    rw [mulR, mulR, mulR_scale ht hw i, hx]
    show (if absq (mulX w u i * t) < absq ((mulR w u i).2 * t) then _ else _) = _
    rw [absq_mul ht, absq_mul ht]
    by_cases h : absq (mulX w u i) < absq (mulR w u i).2
    · rw [if_pos h, if_pos ((mul_lt_iff ht).2 h)]
    · rw [if_neg h, if_neg (fun e => h ((mul_lt_iff ht).1 e))]
theorem near_scaled {w M s : Int} {u r : Rat} {k : Int} (hw : wOk w) (hw2 : wOk (s * w)) (hu : 0 < u) (hs : 1 ≤ s) (hM : 1 ≤ M ∧ M ≤ 24) (hK : mulK w u M = k) (hO : mulO w u M = some r) :
    mulE (s * w) (u * ofq s 1) M = 0 ∧ mulK (s * w) (u * ofq s 1) M = k ∧ mulO (s * w) (u * ofq s 1) M = some (r * ofq s 1) := by
  have ht : 0 < ofq s 1 := ofq_pos hs (by decide)
  have hE : mulE w u M = 0 := by rw [mulE_lim hw hu]; exact limE_ok ⟨by decide, hM⟩
  have hE2 : mulE (s * w) (u * ofq s 1) M = 0 := by rw [mulE_lim hw2 (Rat.mul_pos hu ht)]; exact limE_ok ⟨by decide, hM⟩
  have e := mulR_scale (w := w) (s := s) (u := u) ht (by rw [ofq_eq, ofq_eq, ofq_eq, Rat.intCast_mul]; grind) (M.toNat - 1)
  rw [mulK_ok hE] at hK
  rw [mulO_ok hE] at hO
  have hO := Option.some.inj hO
  rw [mulK_ok hE2, mulO_ok hE2, e, hK, hO]
  exact ⟨hE2, rfl, rfl⟩
theorem near_sq {w n k j : Int} {u r : Rat} (h : Near w u n k r) (h1 : 1 ≤ j) (h2 : j ≤ n) : r * r ≤ (ofq w 1 - ofq j 1 * u) * (ofq w 1 - ofq j 1 * u) ∧ (j < k → (ofq w 1 - ofq j 1 * u) * (ofq w 1 - ofq j 1 * u) ≠ r * r) := by
  obtain ⟨a, b⟩ := h.best j h1 h2
  refine ⟨sq_le a, fun hj e => ?_⟩
  have := sq_lt (b hj)
  unfold offX at this
  rw [e] at this
  exact absurd this Rat.lt_irrefl
end Go.Fw
