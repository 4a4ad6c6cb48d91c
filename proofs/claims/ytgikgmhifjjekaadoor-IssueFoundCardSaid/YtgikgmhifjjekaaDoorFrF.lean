/- Survival in narrower spans, and the share of found coins. No program here. -/
import Derived.Test.YtgikgmhifjjekaaDoorFrE
namespace Go.Nat9

theorem qs_svH {p q : Rat} {a b c : Nat} (hp : qs p a) (hq : qs q b) (h : a + b ≤ c) : qs (svH p q) c := by
  unfold svH
  split
  · exact qs_one.mono (by have := hp.one; omega)
  · exact qs_dvq hp hq h
theorem sgn_ne {q : Rat} (h : ¬ sgnQ q = 0) : ¬ q = 0 := fun e => h (cmpQ_zero.2 e)
theorem svE_zero {q1 q2 q3 q4 : Rat} (h : svE q1 q2 q3 q4 = 0) : v2 q1 q2 q3 q4 = true ∧ ¬ q3 = 0 ∧ ¬ oneQ < fval (dvq q1 q4) ∧ svV q1 q2 q3 q4 = true := by
  unfold svE at h
  split at h
  · rename_i hv
    split at h
    · exact absurd h (by decide)
    · rename_i hz
      split at h
      · exact absurd h (by decide)
      · rename_i hc
        refine ⟨hv, hz, hc, ?_⟩
        unfold svV
        rw [hv, decide_eq_false hz, decide_eq_false hc]; rfl
  · exact absurd h (by decide)
theorem svH_le {p q : Rat} : svH p q ≤ fval (dvq p q) ∧ svH p q ≤ 1 := by
  unfold svH
  rw [oneQ_eq]
  split <;> constructor <;> grind
theorem svH_ge {p q r : Rat} (h1 : r ≤ 1) (h2 : r ≤ fval (dvq p q)) : r ≤ svH p q := by
  unfold svH
  rw [oneQ_eq]
  split <;> grind
/-- What a byte's two places give of a span. -/
theorem ins_pair {p q : Rat} (h : vld p q = true) (j k : Nat) : vld (ins p q (min (j % 9) (k % 9))) (ins p q (max (j % 9) (k % 9))) = true ∧ p ≤ ins p q (min (j % 9) (k % 9)) ∧ ins p q (max (j % 9) (k % 9)) ≤ q := by
  rw [vld_iff] at *
  have h1 := ins_ge h.2 (min (j % 9) (k % 9))
  exact ⟨⟨Rat.le_trans h.1 h1, ins_mono h.2 (by omega)⟩, h1, ins_le h.2 _⟩
section
variable {p q r s a b c d : Rat} (h1 : vld p q = true) (h2 : vld r s = true) (ha : vld a b = true) (hc : vld c d = true) (l1 : p ≤ a) (l2 : b ≤ q) (l3 : r ≤ c) (l4 : d ≤ s)
include h1 h2 ha hc l1 l2 l3 l4
theorem narrow_sum : (hasb (fval (onv (v2 p q r s) (p + r))) (fval (onv (v2 p q r s) (q + s))) (fval (onv (v2 a b c d) (a + c))) && hasb (fval (onv (v2 p q r s) (p + r))) (fval (onv (v2 p q r s) (q + s))) (fval (onv (v2 a b c d) (b + d)))) = true := by
  simp only [v2_t h1 h2, v2_t ha hc, onv_t, fval_some]
  rw [Bool.and_eq_true, hasb_iff, hasb_iff]
  rw [vld_iff] at h1 h2 ha hc
  exact ⟨⟨by grind, by grind⟩, by grind, by grind⟩
theorem narrow_prod : (hasb (fval (onv (v2 p q r s) (p * r))) (fval (onv (v2 p q r s) (q * s))) (fval (onv (v2 a b c d) (a * c))) && hasb (fval (onv (v2 p q r s) (p * r))) (fval (onv (v2 p q r s) (q * s))) (fval (onv (v2 a b c d) (b * d)))) = true := by
  simp only [v2_t h1 h2, v2_t ha hc, onv_t, fval_some]
  rw [Bool.and_eq_true, hasb_iff, hasb_iff]
  rw [vld_iff] at h1 h2 ha hc
  have a0 : 0 ≤ b := Rat.le_trans ha.1 ha.2
  have c0 : 0 ≤ d := Rat.le_trans hc.1 hc.2
  exact ⟨⟨mul_le_mul' h1.1 l1 h2.1 l3, mul_le_mul' ha.1 (Rat.le_trans ha.2 l2) hc.1 (Rat.le_trans hc.2 l4)⟩, mul_le_mul' h1.1 (Rat.le_trans l1 ha.2) h2.1 (Rat.le_trans l3 hc.2), mul_le_mul' a0 l2 c0 l4⟩
theorem narrow_surv (e1 : svE p q r s = 0) (e2 : svE a b c d = 0) : (hasb (fval (onv (svV p q r s) (fval (dvq p s)))) (fval (onv (svV p q r s) (svH q r))) (fval (onv (svV a b c d) (fval (dvq a d)))) && hasb (fval (onv (svV p q r s) (fval (dvq p s)))) (fval (onv (svV p q r s) (svH q r))) (fval (onv (svV a b c d) (svH b c)))) = true := by
  obtain ⟨_, z1, _, t1⟩ := svE_zero e1
  obtain ⟨_, z2, n2, t2⟩ := svE_zero e2
  obtain ⟨r0, s0, s1⟩ := vld_pos h2 z1
  obtain ⟨c0, d0, d1⟩ := vld_pos hc z2
  simp only [t1, t2, onv_t, fval_some]
  rw [Bool.and_eq_true, hasb_iff, hasb_iff]
  rw [vld_iff] at h1 h2 ha hc
  rw [oneQ_eq, Rat.not_lt] at n2
  have k1 : fval (dvq p s) ≤ fval (dvq a d) := by rw [dv_div s1, dv_div d1]; exact div_le_div h1.1 l1 d0 l4
  have k2 : fval (dvq a d) ≤ fval (dvq b c) := by rw [dv_div d1, dv_div z2]; exact div_le_div ha.1 ha.2 c0 hc.2
  have k3 : fval (dvq b c) ≤ fval (dvq q r) := by rw [dv_div z2, dv_div z1]; exact div_le_div (Rat.le_trans ha.1 ha.2) l2 r0 l3
  have k4 := svH_ge n2 k2
  refine ⟨⟨k1, svH_ge n2 (Rat.le_trans k2 k3)⟩, Rat.le_trans k1 k4, svH_ge svH_le.2 (Rat.le_trans svH_le.1 k3)⟩
end
section
variable {q1 q2 q3 q4 : Rat} (h1 : vld q1 q2 = true) (h2 : vld q3 q4 = true)
include h1 h2
theorem found_zero (h : sgnQ q3 = 0) : svE q1 q2 q3 q4 = 12 := by
  unfold svE; rw [v2_t h1 h2, if_pos rfl, if_pos (cmpQ_zero.1 h)]
theorem found_le (h : ¬ sgnQ q3 = 0) (hq : q1 ≤ q4) : svE q1 q2 q3 q4 = 0 := by
  obtain ⟨_, s0, s1⟩ := vld_pos h2 (sgn_ne h)
  have hn : ¬ oneQ < fval (dvq q1 q4) := by rw [oneQ_eq, dv_div s1, Rat.not_lt]; exact div_le_one s0 hq
  unfold svE; rw [v2_t h1 h2, if_pos rfl, if_neg (sgn_ne h), if_neg hn]
theorem found_ten (h : ¬ sgnQ q3 = 0) (h0 : ¬ svE q1 q2 q3 q4 = 0) : svE q1 q2 q3 q4 = 10 ∧ 0 < cmpQ q1 q4 := by
  have hq : ¬ q1 ≤ q4 := fun hq => h0 (found_le h1 h2 h hq)
  obtain ⟨_, s0, s1⟩ := vld_pos h2 (sgn_ne h)
  have hc : oneQ < fval (dvq q1 q4) := by
    rw [oneQ_eq, dv_div s1, ← Rat.not_le]; exact fun c => hq (le_of_div_le_one s0 c)
  refine ⟨?_, cmpQ_pos.2 (Rat.not_le.1 hq)⟩
  unfold svE; rw [v2_t h1 h2, if_pos rfl, if_neg (sgn_ne h), if_pos hc]
theorem found_ok {j k : Nat} (h : ¬ sgnQ q3 = 0) (hc : ¬ 0 < cmpQ (ins q1 q2 j) (ins q3 q4 k)) : svE q1 q2 q3 q4 = 0 := by
  have hx : ins q1 q2 j ≤ ins q3 q4 k := by rw [cmpQ_pos] at hc; exact Rat.not_lt.1 hc
  have a1 := (vld_iff.1 h1).2
  have a2 := (vld_iff.1 h2).2
  exact found_le h1 h2 h (Rat.le_trans (ins_ge a1 j) (Rat.le_trans hx (ins_le a2 k)))
omit h1 in
theorem found_dve (h : ¬ sgnQ q3 = 0) (k : Nat) : dve (ins q3 q4 k) = 0 := by
  have h3 := (vld_pos h2 (sgn_ne h)).1
  have h4 := ins_ge (vld_iff.1 h2).2 k
  unfold dve; rw [if_neg (by grind)]
theorem found_has {j k : Nat} (h : ¬ sgnQ q3 = 0) (hc : ¬ 0 < cmpQ (ins q1 q2 j) (ins q3 q4 k)) : hasb (fval (onv (svV q1 q2 q3 q4) (fval (dvq q1 q4)))) (fval (onv (svV q1 q2 q3 q4) (svH q2 q3))) (fval (dvq (ins q1 q2 j) (ins q3 q4 k))) = true := by
  obtain ⟨_, z, _, t⟩ := svE_zero (found_ok h1 h2 h hc)
  have hx : ins q1 q2 j ≤ ins q3 q4 k := by rw [cmpQ_pos] at hc; exact Rat.not_lt.1 hc
  obtain ⟨r0, s0, s1⟩ := vld_pos h2 z
  rw [t, onv_t, onv_t, fval_some, fval_some, hasb_iff]
  rw [vld_iff] at h1 h2
  have a1 := ins_ge h1.2 j
  have a2 := ins_le h1.2 j
  have a3 := ins_ge h2.2 k
  have a4 := ins_le h2.2 k
  have y0 : 0 < ins q3 q4 k := by grind
  have y1 : ¬ ins q3 q4 k = 0 := by grind
  have x0 := Rat.le_trans h1.1 a1
  refine ⟨?_, svH_ge ?_ ?_⟩
  · rw [dv_div s1, dv_div y1]; exact div_le_div h1.1 a1 y0 a4
  · rw [dv_div y1]; exact div_le_one y0 hx
  · rw [dv_div y1, dv_div z]; exact div_le_div x0 a2 r0 a3
theorem found_sgn {j k : Nat} (h : ¬ sgnQ q3 = 0) (hc : ¬ 0 < cmpQ (ins q1 q2 j) (ins q3 q4 k)) : 0 ≤ sgnQ (fval (onv (svV q1 q2 q3 q4) (fval (dvq q1 q4)))) := by
  obtain ⟨_, z, _, t⟩ := svE_zero (found_ok h1 h2 h hc)
  obtain ⟨r0, s0, s1⟩ := vld_pos h2 z
  rw [t, onv_t, fval_some, dv_div s1]
  refine cmpQ_ge.2 ?_
  rw [Rat.div_def]
  exact Rat.mul_nonneg (vld_iff.1 h1).1 (Rat.le_of_lt (Rat.inv_pos.2 s0))
theorem found_cmp {j k : Nat} (h : ¬ sgnQ q3 = 0) (hc : ¬ 0 < cmpQ (ins q1 q2 j) (ins q3 q4 k)) : cmpQ (fval (onv (svV q1 q2 q3 q4) (svH q2 q3))) (ofq 1 1) ≤ 0 := by
  obtain ⟨_, z, _, t⟩ := svE_zero (found_ok h1 h2 h hc)
  rw [t, onv_t, fval_some]
  refine cmpQ_le.2 ?_
  rw [show ofq 1 1 = 1 from oneQ_eq]
  exact svH_le.2
end
end Go.Nat9
