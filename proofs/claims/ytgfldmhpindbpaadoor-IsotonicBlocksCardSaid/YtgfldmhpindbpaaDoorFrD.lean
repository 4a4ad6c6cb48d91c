/- Spans of fractions as plain numbers: what the functions of issue and of its reference compute. No program here. -/
import Derived.Test.YtgfldmhpindbpaaDoorFrA
namespace Go.Nat9

def vld (p q : Rat) : Bool := decide (0 ≤ p) && decide (p ≤ q)
theorem vld_t {p q : Rat} (h : 0 ≤ sgnQ p) : vld p q = decide (cmpQ p q ≤ 0) := by
  have h1 : 0 ≤ p := cmpQ_ge.1 h
  unfold vld
  rw [decide_eq_true h1, Bool.true_and, Bool.eq_iff_iff, decide_eq_true_iff, decide_eq_true_iff]
  exact cmpQ_le.symm
theorem vld_f {p q : Rat} (h : ¬ 0 ≤ sgnQ p) : vld p q = false := by
  have h1 : ¬ 0 ≤ p := fun c => h (cmpQ_ge.2 c)
  unfold vld
  rw [decide_eq_false h1, Bool.false_and]
theorem vld_iff {p q : Rat} : vld p q = true ↔ 0 ≤ p ∧ p ≤ q := by unfold vld; simp
def v2 (p1 p2 p3 p4 : Rat) : Bool := vld p1 p2 && vld p3 p4
def onv (b : Bool) (q : Rat) : Option Rat := if b then some q else none
def er1 (b : Bool) : Int := if b then 0 else 1
theorem onv_t (q : Rat) : onv true q = some q := rfl
theorem onv_f (q : Rat) : onv false q = none := rfl
theorem qs_onv {b : Bool} {q : Rat} {K : Nat} (h : qs q K) : qs (fval (onv b q)) K := by
  cases b with
  | true => exact h
  | false => exact qs.mono qs_zero h.one
theorem qs_dvq {p q : Rat} {a b c : Nat} (hp : qs p a) (hq : qs q b) (h : a + b ≤ c) : qs (fval (dvq p q)) c := by
  unfold dvq
  split
  · exact qs.mono qs_zero (by have := hp.one; omega)
  · exact hp.div hq h
def oneQ : Rat := ofq 1 1
theorem oneQ_eq : oneQ = 1 := by decide +kernel
/-- Survival: whether there is a span, and the error. -/
def svV (q1 q2 q3 q4 : Rat) : Bool := v2 q1 q2 q3 q4 && (!decide (q3 = 0) && !decide (oneQ < fval (dvq q1 q4)))
def svE (q1 q2 q3 q4 : Rat) : Int := if v2 q1 q2 q3 q4 then (if q3 = 0 then 12 else if oneQ < fval (dvq q1 q4) then 10 else 0) else 1
def svH (q2 q3 : Rat) : Rat := if oneQ < fval (dvq q2 q3) then oneQ else fval (dvq q2 q3)
/-- Meet. -/
def mlo (p q : Rat) : Rat := if p < q then q else p
def mhi (p q : Rat) : Rat := if q < p then q else p
def mtV (q1 q2 q3 q4 : Rat) : Bool := v2 q1 q2 q3 q4 && vld (mlo q1 q3) (mhi q2 q4)
/-- Bullion. -/
def blV (q1 q2 q3 q4 q5 q6 : Rat) : Bool := (v2 q1 q2 q3 q4 && vld q5 q6) && !decide (oneQ < q6)
def tm (b : Bool) (p q : Rat) : Rat := fval (onv b (p * q))
def thou : Rat := ofq 1 1000
def bl1 (q1 q2 q3 q4 : Rat) : Rat := tm (v2 q1 q2 q3 q4) q1 q3
def bl2 (q1 q2 q3 q4 : Rat) : Rat := tm (v2 q1 q2 q3 q4) q2 q4
def bl3 (q1 q2 q3 q4 q5 q6 : Rat) : Rat := bl1 (bl1 q1 q2 q3 q4) (bl2 q1 q2 q3 q4) q5 q6
def bl4 (q1 q2 q3 q4 q5 q6 : Rat) : Rat := bl2 (bl1 q1 q2 q3 q4) (bl2 q1 q2 q3 q4) q5 q6
def blW (q1 q2 q3 q4 q5 q6 : Rat) : Bool := v2 (bl3 q1 q2 q3 q4 q5 q6) (bl4 q1 q2 q3 q4 q5 q6) thou thou
def blO (q1 q2 q3 q4 q5 q6 : Rat) : Option Rat × Option Rat × Int :=
  if v2 q1 q2 q3 q4 && vld q5 q6 then
    (if oneQ < q6 then (none, none, 2)
     else (onv (blW q1 q2 q3 q4 q5 q6) (bl3 q1 q2 q3 q4 q5 q6 * thou), onv (blW q1 q2 q3 q4 q5 q6) (bl4 q1 q2 q3 q4 q5 q6 * thou), er1 (blW q1 q2 q3 q4 q5 q6)))
  else (none, none, 1)
theorem qs_one : qs oneQ 1 := by rw [oneQ_eq]; exact qs_small (by decide) (by decide)
theorem qs_thou : qs thou 3 := qs_ofq 1 1000 (by decide) (by decide)
theorem qs_tm {b : Bool} {p q : Rat} {x y c : Nat} (hp : qs p x) (hq : qs q y) (h : x + y ≤ c) : qs (tm b p q) c := qs_onv (hp.mul hq h)
/-- In the reference's Survival the quotients make a valid span, and Meet with 0 to 1 is as here. -/
theorem sv_meet {q1 q2 q3 q4 : Rat} (hv : v2 q1 q2 q3 q4 = true) (h0 : ¬ q3 = 0) :
    mtV (fval (dvq q1 q4)) (fval (dvq q2 q3)) (ofq 0 1) (ofq 1 1) = !decide (oneQ < fval (dvq q1 q4)) ∧
    mlo (fval (dvq q1 q4)) (ofq 0 1) = fval (dvq q1 q4) ∧ mhi (fval (dvq q2 q3)) (ofq 1 1) = svH q2 q3 := by
  unfold v2 at hv
  rw [Bool.and_eq_true, vld_iff, vld_iff] at hv
  obtain ⟨⟨a1, a2⟩, a3, a4⟩ := hv
  have h3 : 0 < q3 := Rat.lt_of_le_of_ne a3 (fun e => h0 e.symm)
  have h4 : 0 < q4 := by grind
  have h40 : ¬ q4 = 0 := by grind
  have e1 : fval (dvq q1 q4) = q1 / q4 := by rw [dvq, if_neg h40]; rfl
  have e2 : fval (dvq q2 q3) = q2 / q3 := by rw [dvq, if_neg h0]; rfl
  have i4 : 0 < q4⁻¹ := Rat.inv_pos.2 h4
  have i3 : 0 < q3⁻¹ := Rat.inv_pos.2 h3
  have p1 : 0 ≤ q1 / q4 := by rw [Rat.div_def]; exact Rat.mul_nonneg a1 (Rat.le_of_lt i4)
  have p2 : q1 / q4 ≤ q2 / q3 := by
    have t1 : q1 / q4 ≤ q1 / q3 := by
      rw [Rat.div_def, Rat.div_def]
      refine Rat.mul_le_mul_of_nonneg_left ?_ a1
      have u1 : q3 * q4⁻¹ ≤ q4 * q4⁻¹ := Rat.mul_le_mul_of_nonneg_right a4 (Rat.le_of_lt i4)
      rw [Rat.mul_inv_cancel _ h40] at u1
      have u2 : q3⁻¹ * (q3 * q4⁻¹) ≤ q3⁻¹ * 1 := Rat.mul_le_mul_of_nonneg_left u1 (Rat.le_of_lt i3)
      rw [← Rat.mul_assoc, Rat.inv_mul_cancel _ h0, Rat.one_mul, Rat.mul_one] at u2
      exact u2
    have t2 : q1 / q3 ≤ q2 / q3 := by
      rw [Rat.div_def, Rat.div_def]; exact Rat.mul_le_mul_of_nonneg_right a2 (Rat.le_of_lt i3)
    exact Rat.le_trans t1 t2
  have z0 : ofq 0 1 = 0 := by decide +kernel
  have z1 : ofq 1 1 = 1 := by decide +kernel
  rw [e1, oneQ_eq]
  have l1 : mlo (q1 / q4) (ofq 0 1) = q1 / q4 := by rw [mlo, z0, if_neg (Rat.not_lt.2 p1)]
  have l2 : mhi (q2 / q3) (ofq 1 1) = if 1 < q2 / q3 then 1 else q2 / q3 := by rw [mhi, z1]
  refine ⟨?_, l1, ?_⟩
  · rw [e2, mtV, l1, l2, z0, z1]
    have v : v2 (q1 / q4) (q2 / q3) 0 1 = true := by
      unfold v2; rw [Bool.and_eq_true, vld_iff, vld_iff]; exact ⟨⟨p1, p2⟩, by decide, by decide⟩
    rw [v, Bool.true_and, Bool.eq_iff_iff, vld_iff]
    simp only [Bool.not_eq_true', decide_eq_false_iff_not, Rat.not_lt]
    constructor
    · rintro ⟨_, h⟩
      split at h <;> grind
    · intro h
      refine ⟨p1, ?_⟩
      split <;> grind
  · rw [e2, l2, svH, oneQ_eq, e2]
end Go.Nat9

/-! Sizes of what laws compare. No program here. -/
namespace Go.Nat9
theorem qs_mlo {p q : Rat} {K : Nat} (hp : qs p K) (hq : qs q K) : qs (mlo p q) K := by unfold mlo; split <;> assumption
theorem qs_mhi {p q : Rat} {K : Nat} (hp : qs p K) (hq : qs q K) : qs (mhi p q) K := by unfold mhi; split <;> assumption
end Go.Nat9
