/- Chapter 38: the reference's Fits and Multiple say the same. Plain. -/
import Derived.Test.YtgnljjdcbfijnaaDoorStdF
namespace Go.Fw
open Go Go.RowKit Go.Nat9

theorem fits38_bad {w tol m : Int} {q : Rat} (h : ¬ wOk w ∨ ¬ 0 < q ∨ ¬ limOk tol m) : fits38 w q tol m = false := by
  by_cases hw : wOk w
  · by_cases hq : 0 < q
    · refine fits38_no (.inl ?_)
      rw [spE_lim hw, limE_no (h.elim (fun e => absurd hw e) fun e => e.elim (fun e => absurd hq e) id)]
      decide
    · exact fits38_no (.inr hq)
  · exact fits38_no (.inl (by rw [spE_w hw]; decide))
theorem slo_iff {w tol k : Int} {q : Rat} (hk : 1 ≤ k) : slo w tol k ≤ q ↔ ofq (mxo (w - tol)) 1 ≤ ofq k 1 * q := by
  unfold slo
  rw [ofq_le_iff hk, ofq_int, ofq_int, show (k : Rat) * q = q * (k : Rat) from by grind]
theorem shi_iff {w tol k : Int} {q : Rat} (hk : 1 ≤ k) : q ≤ shi w tol k ↔ ofq k 1 * q ≤ ofq (w + tol) 1 := by
  unfold shi
  rw [le_ofq_iff hk, ofq_int, ofq_int, show (k : Rat) * q = q * (k : Rat) from by grind]
def miss38 (w tol : Int) (q : Rat) (k : Nat) : Prop := ∀ j : Int, 1 ≤ j → j < (k : Int) → ¬ (ofq (mxo (w - tol)) 1 ≤ ofq j 1 * q ∧ ofq j 1 * q ≤ ofq (w + tol) 1)
theorem miss_one (w tol : Int) (q : Rat) : miss38 w tol q 1 := fun j h1 h2 => by omega
theorem miss_next {w tol : Int} {q : Rat} {k : Nat} (h : miss38 w tol q k) (hk : ¬ (ofq (mxo (w - tol)) 1 ≤ ofq ((k : Nat) : Int) 1 * q ∧ ofq ((k : Nat) : Int) 1 * q ≤ ofq (w + tol) 1)) : miss38 w tol q (k + 1) := fun j h1 h2 => by
  by_cases e : j = (k : Int)
  · subst e; exact hk
  · exact h j h1 (by omega)
theorem fits_hit {w tol m : Int} {q : Rat} {k : Nat} (hw : wOk w) (hl : limOk tol m) (hq : 0 < q) (h1 : 1 ≤ k) (h2 : (k : Int) ≤ m) (ha : ofq (mxo (w - tol)) 1 ≤ ofq ((k : Nat) : Int) 1 * q) (hb : ofq ((k : Nat) : Int) 1 * q ≤ ofq (w + tol) 1) : fits38 w q tol m = true :=
  (fits_iff hw hl hq).2 ⟨k, by omega, h2, (slo_iff (by omega)).2 ha, (shi_iff (by omega)).2 hb⟩
theorem fits_miss {w tol m : Int} {q : Rat} {k : Nat} (hw : wOk w) (hl : limOk tol m) (hq : 0 < q) (h : miss38 w tol q k) (h2 : m < (k : Int)) : fits38 w q tol m = false := by
  rw [← Bool.not_eq_true]
  intro e
  obtain ⟨j, h3, h4, h5, h6⟩ := (fits_iff hw hl hq).1 e
  exact h j h3 (by omega) ⟨(slo_iff h3).1 h5, (shi_iff h3).1 h6⟩
abbrev rmX (w : Int) (u : Rat) (i : Nat) : Rat := ofq w 1 - ofq ((i + 1 : Nat) : Int) 1 * u
def rmR (w : Int) (u : Rat) : Nat → Int × Option Rat
  | 0 => (0, none)
  | i + 1 => ((mulR w u i).1, some (mulR w u i).2)
theorem rmR_one (w : Int) (u : Rat) : rmR w u 1 = (((0 + 1 : Nat) : Int), some (rmX w u 0)) := by
  show ((1 : Int), some (ofq w 1 - u)) = (1, some (ofq w 1 - ofq 1 1 * u))
  rw [show ofq 1 1 = 1 from by decide +kernel, Rat.one_mul]
theorem rmR_pick {w : Int} {u : Rat} {i : Nat} {k : Int} {q : Rat} (h0 : 0 < i) (h : rmR w u i = (k, some q)) (hc : absq (rmX w u i) < absq q) : rmR w u (i + 1) = (((i + 1 : Nat) : Int), some (rmX w u i)) := by
  obtain ⟨i, rfl⟩ : ∃ j, i = j + 1 := ⟨i - 1, by omega⟩
  rw [rmR] at h
  obtain ⟨h1, h2⟩ := Prod.mk.inj h
  have h2 := Option.some.inj h2
  rw [rmR, mulR_pick (k := k) (q := q) (by rw [← h1, ← h2]) hc]
  rfl
theorem rmR_hold {w : Int} {u : Rat} {i : Nat} {k : Int} {q : Rat} (h0 : 0 < i) (h : rmR w u i = (k, some q)) (hc : ¬ absq (rmX w u i) < absq q) : rmR w u (i + 1) = (k, some q) := by
  obtain ⟨i, rfl⟩ : ∃ j, i = j + 1 := ⟨i - 1, by omega⟩
  rw [rmR] at h
  obtain ⟨h1, h2⟩ := Prod.mk.inj h
  have h2 := Option.some.inj h2
  rw [rmR, mulR_hold (k := k) (q := q) (by rw [← h1, ← h2]) hc]
theorem rmR_some {w : Int} {u : Rat} {i : Nat} {k : Int} {o : Option Rat} (h0 : 0 < i) (h : rmR w u i = (k, o)) : ∃ q, o = some q ∧ q = (mulR w u (i - 1)).2 := by
  obtain ⟨i, rfl⟩ : ∃ j, i = j + 1 := ⟨i - 1, by omega⟩
  rw [rmR] at h
  exact ⟨_, (Prod.mk.inj h).2.symm, rfl⟩
theorem rmR_done {w : Int} {u : Rat} {m : Int} {i : Nat} {k : Int} {o : Option Rat} (hm : 1 ≤ m) (hi : i = m.toNat) (h : rmR w u i = (k, o)) (he : mulE w u m = 0) : mulK w u m = k ∧ mulO w u m = o := by
  rw [mulK_ok he, mulO_ok he]
  obtain ⟨j, rfl⟩ : ∃ j, i = j + 1 := ⟨i - 1, by omega⟩
  rw [rmR] at h
  rw [← hi, Nat.add_sub_cancel]
  exact ⟨(Prod.mk.inj h).1, (Prod.mk.inj h).2⟩
theorem mulE_bad {w : Int} {u : Rat} {m : Int} (h : ¬ wOk w ∨ sgnQ u ≤ 0) : mulE w u m = 1 := mulE_no (h.elim .inl fun e => .inr fun e2 => absurd (sgn_pos.2 e2) (Int.not_lt.2 e))
end Go.Fw
