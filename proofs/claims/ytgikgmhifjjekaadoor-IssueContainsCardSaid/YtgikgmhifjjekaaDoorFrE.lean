/- What the laws of chapter 45 without the reference say, in rational numbers. No program here. -/
import Derived.Test.YtgikgmhifjjekaaDoorFrD
namespace Go.Nat9

def hasb (p q x : Rat) : Bool := decide (p ≤ x) && decide (x ≤ q)
theorem hasb_iff {p q x : Rat} : hasb p q x = true ↔ p ≤ x ∧ x ≤ q := by unfold hasb; simp
theorem hasb_t {p q x : Rat} (h : cmpQ p x ≤ 0) : hasb p q x = decide (cmpQ x q ≤ 0) := by
  have h1 : p ≤ x := cmpQ_le.1 h
  unfold hasb
  rw [decide_eq_true h1, Bool.true_and, Bool.eq_iff_iff, decide_eq_true_iff, decide_eq_true_iff]
  exact cmpQ_le.symm
theorem hasb_f {p q x : Rat} (h : ¬ cmpQ p x ≤ 0) : hasb p q x = false := by
  have h1 : ¬ p ≤ x := fun c => h (cmpQ_le.2 c)
  unfold hasb
  rw [decide_eq_false h1, Bool.false_and]
def ins (p q : Rat) (k : Nat) : Rat := p + ofq ((k % 9 : Nat) : Int) 8 * (q - p)
theorem eighth (k : Nat) : 0 ≤ ofq ((k % 9 : Nat) : Int) 8 ∧ ofq ((k % 9 : Nat) : Int) 8 ≤ 1 := by
  have h : k % 9 < 9 := Nat.mod_lt _ (by decide)
  generalize k % 9 = m at h
  match m, h with
  | 0, _ => exact ⟨by decide +kernel, by decide +kernel⟩
  | 1, _ => exact ⟨by decide +kernel, by decide +kernel⟩
  | 2, _ => exact ⟨by decide +kernel, by decide +kernel⟩
  | 3, _ => exact ⟨by decide +kernel, by decide +kernel⟩
  | 4, _ => exact ⟨by decide +kernel, by decide +kernel⟩
  | 5, _ => exact ⟨by decide +kernel, by decide +kernel⟩
  | 6, _ => exact ⟨by decide +kernel, by decide +kernel⟩
  | 7, _ => exact ⟨by decide +kernel, by decide +kernel⟩
  | 8, _ => exact ⟨by decide +kernel, by decide +kernel⟩
theorem eighth_mono {j k : Nat} (h : j % 9 ≤ k % 9) : ofq ((j % 9 : Nat) : Int) 8 ≤ ofq ((k % 9 : Nat) : Int) 8 := by
  rw [ofq_eq, ofq_eq, Rat.div_def, Rat.div_def]
  exact Rat.mul_le_mul_of_nonneg_right (by rw [Rat.intCast_le_intCast]; omega) (by decide +kernel)
theorem ins_ge {p q : Rat} (h : p ≤ q) (k : Nat) : p ≤ ins p q k := by
  have h1 : 0 ≤ ofq ((k % 9 : Nat) : Int) 8 * (q - p) := Rat.mul_nonneg (eighth k).1 ((Rat.le_iff_sub_nonneg p q).1 h)
  unfold ins; grind
theorem ins_le {p q : Rat} (h : p ≤ q) (k : Nat) : ins p q k ≤ q := by
  have h1 : ofq ((k % 9 : Nat) : Int) 8 * (q - p) ≤ 1 * (q - p) := Rat.mul_le_mul_of_nonneg_right (eighth k).2 ((Rat.le_iff_sub_nonneg p q).1 h)
  unfold ins; grind
theorem ins_mono {p q : Rat} (h : p ≤ q) {j k : Nat} (hjk : j % 9 ≤ k % 9) : ins p q j ≤ ins p q k := by
  have h1 : ofq ((j % 9 : Nat) : Int) 8 * (q - p) ≤ ofq ((k % 9 : Nat) : Int) 8 * (q - p) := Rat.mul_le_mul_of_nonneg_right (eighth_mono hjk) ((Rat.le_iff_sub_nonneg p q).1 h)
  unfold ins; grind
theorem qs_ins {p q : Rat} {a b c : Nat} (hp : qs p a) (hq : qs q b) (k : Nat) (h : 2 * a + b + 5 ≤ c) : qs (ins p q k) c := by
  unfold ins
  have h1 := qs_ofq ((k % 9 : Nat) : Int) 8 (by have := Nat.mod_lt k (by decide : 9 > 0); omega) (by decide)
  exact hp.add (h1.mul (hq.sub hp (Nat.le_refl _)) (Nat.le_refl _)) (by omega)
theorem v2_t {p q r s : Rat} (h1 : vld p q = true) (h2 : vld r s = true) : v2 p q r s = true := by unfold v2; rw [h1, h2]; rfl
theorem mul_le_mul' {a b c d : Rat} (ha : 0 ≤ a) (hab : a ≤ b) (hc : 0 ≤ c) (hcd : c ≤ d) : a * c ≤ b * d :=
  Rat.le_trans (Rat.mul_le_mul_of_nonneg_right hab hc) (Rat.mul_le_mul_of_nonneg_left hcd (Rat.le_trans ha hab))
theorem vld_add {p q r s : Rat} (h1 : vld p q = true) (h2 : vld r s = true) : vld (p + r) (q + s) = true := by
  rw [vld_iff] at *
  exact ⟨by grind, by grind⟩
theorem vld_mul {p q r s : Rat} (h1 : vld p q = true) (h2 : vld r s = true) : vld (p * r) (q * s) = true := by
  rw [vld_iff] at *
  exact ⟨Rat.mul_nonneg h1.1 h2.1, mul_le_mul' h1.1 h1.2 h2.1 h2.2⟩
theorem div_le_div {a b c d : Rat} (ha : 0 ≤ a) (hab : a ≤ b) (hc : 0 < c) (hcd : c ≤ d) : a / d ≤ b / c := by
  have hd : 0 < d := by grind
  have i1 : 0 < c⁻¹ := Rat.inv_pos.2 hc
  have i2 : 0 < d⁻¹ := Rat.inv_pos.2 hd
  have hc0 : c ≠ 0 := by grind
  have hd0 : d ≠ 0 := by grind
  have u1 : c * d⁻¹ ≤ d * d⁻¹ := Rat.mul_le_mul_of_nonneg_right hcd (Rat.le_of_lt i2)
  rw [Rat.mul_inv_cancel _ hd0] at u1
  have u2 : c⁻¹ * (c * d⁻¹) ≤ c⁻¹ * 1 := Rat.mul_le_mul_of_nonneg_left u1 (Rat.le_of_lt i1)
  rw [← Rat.mul_assoc, Rat.inv_mul_cancel _ hc0, Rat.one_mul, Rat.mul_one] at u2
  rw [Rat.div_def, Rat.div_def]
  exact mul_le_mul' ha hab (Rat.le_of_lt i2) u2
theorem div_le_one {a b : Rat} (hb : 0 < b) (h : a ≤ b) : a / b ≤ 1 := by
  rw [← Rat.not_lt, Rat.lt_div_iff hb, Rat.not_lt, Rat.one_mul]; exact h
theorem le_of_div_le_one {a b : Rat} (hb : 0 < b) (h : a / b ≤ 1) : a ≤ b := by
  rw [← Rat.not_lt, Rat.lt_div_iff hb, Rat.not_lt, Rat.one_mul] at h; exact h
/-- Survival, where both spans are valid and the least number of coins is not 0. -/
theorem dv_div {p q : Rat} (h : ¬ q = 0) : fval (dvq p q) = p / q := by rw [dvq, if_neg h]; rfl
theorem vld_pos {p q : Rat} (h : vld p q = true) (h0 : ¬ p = 0) : 0 < p ∧ 0 < q ∧ ¬ q = 0 := by
  rw [vld_iff] at h
  have h1 : 0 < p := Rat.lt_of_le_of_ne h.1 (fun e => h0 e.symm)
  exact ⟨h1, by grind, by grind⟩
theorem mlo_comm (p q : Rat) : mlo p q = mlo q p := by unfold mlo; split <;> split <;> grind
theorem mhi_comm (p q : Rat) : mhi p q = mhi q p := by unfold mhi; split <;> split <;> grind
section
variable {q1 q2 q3 q4 : Rat} (h1 : vld q1 q2 = true) (h2 : vld q3 q4 = true)
include h1 h2
theorem mtV_iff : mtV q1 q2 q3 q4 = true ↔ q1 ≤ q4 ∧ q3 ≤ q2 := by
  unfold mtV
  rw [v2_t h1 h2, Bool.true_and, vld_iff]
  rw [vld_iff] at h1 h2
  unfold mlo mhi
  split <;> split <;> grind
theorem mtV_comm : mtV q1 q2 q3 q4 = mtV q3 q4 q1 q2 := by
  rw [Bool.eq_iff_iff, mtV_iff h1 h2, mtV_iff h2 h1]; exact And.comm
theorem meets_no (h : (!mtV q1 q2 q3 q4) = true) (k : Nat) : ¬ hasb q3 q4 (ins q1 q2 k) = true := by
  intro c
  have hm : ¬ mtV q1 q2 q3 q4 = true := by intro e; rw [e] at h; cases h
  rw [mtV_iff h1 h2] at hm
  rw [hasb_iff] at c
  rw [vld_iff] at h1 h2
  have := ins_ge h1.2 k
  have := ins_le h1.2 k
  grind
theorem meets_no1 (h : (!mtV q1 q2 q3 q4) = true) : ¬ hasb q3 q4 q1 = true := by
  intro c
  have hm : ¬ mtV q1 q2 q3 q4 = true := by intro e; rw [e] at h; cases h
  rw [mtV_iff h1 h2] at hm
  rw [hasb_iff] at c
  rw [vld_iff] at h1 h2
  grind
theorem meets_no2 (h : (!mtV q1 q2 q3 q4) = true) : ¬ hasb q1 q2 q3 = true := by
  intro c
  have hm : ¬ mtV q1 q2 q3 q4 = true := by intro e; rw [e] at h; cases h
  rw [mtV_iff h1 h2] at hm
  rw [hasb_iff] at c
  rw [vld_iff] at h1 h2
  grind
omit h1 h2 in
theorem mt_true (h : (!mtV q1 q2 q3 q4) = false) : mtV q1 q2 q3 q4 = true := by simpa using h
omit h2 in
theorem meets_same (h : (!mtV q1 q2 q3 q4) = false) (k : Nat) : (hasb (fval (onv (mtV q1 q2 q3 q4) (mlo q1 q3))) (fval (onv (mtV q1 q2 q3 q4) (mhi q2 q4))) (ins q1 q2 k) == hasb q3 q4 (ins q1 q2 k)) = true := by
  have hm := mt_true h
  rw [hm, onv_t, onv_t, fval_some, fval_some, beq_iff_eq, Bool.eq_iff_iff, hasb_iff, hasb_iff]
  rw [vld_iff] at h1
  have := ins_ge h1.2 k
  have := ins_le h1.2 k
  unfold mlo mhi
  split <;> split <;> grind
theorem meets_in1 (h : (!mtV q1 q2 q3 q4) = false) : (hasb q1 q2 (fval (onv (mtV q1 q2 q3 q4) (mlo q1 q3))) && hasb q1 q2 (fval (onv (mtV q1 q2 q3 q4) (mhi q2 q4)))) = true := by
  have hm := mt_true h
  rw [hm, onv_t, onv_t, fval_some, fval_some, Bool.and_eq_true, hasb_iff, hasb_iff]
  rw [mtV_iff h1 h2] at hm
  rw [vld_iff] at h1 h2
  unfold mlo mhi
  split <;> split <;> grind
theorem meets_in2 (h : (!mtV q1 q2 q3 q4) = false) : (hasb q3 q4 (fval (onv (mtV q1 q2 q3 q4) (mlo q1 q3))) && hasb q3 q4 (fval (onv (mtV q1 q2 q3 q4) (mhi q2 q4)))) = true := by
  have hm := mt_true h
  rw [hm, onv_t, onv_t, fval_some, fval_some, Bool.and_eq_true, hasb_iff, hasb_iff]
  rw [mtV_iff h1 h2] at hm
  rw [vld_iff] at h1 h2
  unfold mlo mhi
  split <;> split <;> grind
theorem contains_sum (j k : Nat) : hasb (fval (onv (v2 q1 q2 q3 q4) (q1 + q3))) (fval (onv (v2 q1 q2 q3 q4) (q2 + q4))) (ins q1 q2 j + ins q3 q4 k) = true := by
  rw [v2_t h1 h2, onv_t, onv_t, fval_some, fval_some, hasb_iff]
  rw [vld_iff] at h1 h2
  have := ins_ge h1.2 j
  have := ins_le h1.2 j
  have := ins_ge h2.2 k
  have := ins_le h2.2 k
  exact ⟨by grind, by grind⟩
theorem contains_prod (j k : Nat) : hasb (fval (onv (v2 q1 q2 q3 q4) (q1 * q3))) (fval (onv (v2 q1 q2 q3 q4) (q2 * q4))) (ins q1 q2 j * ins q3 q4 k) = true := by
  rw [v2_t h1 h2, onv_t, onv_t, fval_some, fval_some, hasb_iff]
  rw [vld_iff] at h1 h2
  have a1 := ins_ge h1.2 j
  have a2 := ins_le h1.2 j
  have a3 := ins_ge h2.2 k
  have a4 := ins_le h2.2 k
  exact ⟨mul_le_mul' h1.1 a1 h2.1 a3, mul_le_mul' (Rat.le_trans h1.1 a1) a2 (Rat.le_trans h2.1 a3) a4⟩
end
end Go.Nat9
