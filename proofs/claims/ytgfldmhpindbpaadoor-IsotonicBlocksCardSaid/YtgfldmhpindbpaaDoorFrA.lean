/- Plain facts on fractions: the rational number of a sign and two naturals, its canonical form, its order, its size. No program here. -/
import Derived.Test.YtgfldmhpindbpaaDoorNatC
namespace Go.Nat9

def sgI (s : Bool) (x : Nat) : Int := if s then -(x : Int) else (x : Int)
theorem sgI_natAbs (s : Bool) (x : Nat) : (sgI s x).natAbs = x := by cases s <;> simp [sgI]
def mkq (s : Bool) (x y : Nat) : Rat := mkRat (sgI s x) y
theorem mkq_zl (s : Bool) (y : Nat) : mkq s 0 y = 0 := by cases s <;> simp [mkq, sgI]
theorem mkq_zr (s : Bool) (x : Nat) : mkq s x 0 = 0 := by simp [mkq]
theorem mkq_num (s : Bool) (x y : Nat) (hy : 0 < y) : (mkq s x y).num.natAbs = x / Nat.gcd x y := by
  have hd : ((Nat.gcd x y : Nat) : Int) ∣ (x : Int) := Int.natCast_dvd_natCast.2 (Nat.gcd_dvd_left _ _)
  unfold mkq
  rw [Rat.num_mkRat, if_neg (by omega), sgI_natAbs, Nat.gcd_comm]
  cases s
  · show ((x : Int) / _).natAbs = _
    rw [← Int.natCast_ediv, Int.natAbs_natCast]
  · show ((-(x : Int)) / _).natAbs = _
    rw [Int.neg_ediv_of_dvd hd, Int.natAbs_neg, ← Int.natCast_ediv, Int.natAbs_natCast]
theorem mkq_den (s : Bool) (x y : Nat) (hy : 0 < y) : (mkq s x y).den = y / Nat.gcd x y := by
  unfold mkq
  rw [Rat.den_mkRat, if_neg (by omega), sgI_natAbs, Nat.gcd_comm]
theorem mkq_lt0 (s : Bool) {x y : Nat} (hx : 0 < x) (hy : 0 < y) : decide (mkq s x y < 0) = s := by
  have hd : ((Nat.gcd x y : Nat) : Int) ∣ (x : Int) := Int.natCast_dvd_natCast.2 (Nat.gcd_dvd_left _ _)
  have hg : 0 < Nat.gcd x y := Nat.gcd_pos_of_pos_left _ hx
  have hq : 0 < x / Nat.gcd x y := Nat.div_pos (Nat.le_of_dvd hx (Nat.gcd_dvd_left _ _)) hg
  have e : (mkq s x y).num = sgI s (x / Nat.gcd x y) := by
    unfold mkq
    rw [Rat.num_mkRat, if_neg (by omega), sgI_natAbs, Nat.gcd_comm]
    cases s
    · show (x : Int) / _ = _
      rw [← Int.natCast_ediv]; rfl
    · show (-(x : Int)) / _ = _
      rw [Int.neg_ediv_of_dvd hd, ← Int.natCast_ediv]; rfl
  have h0 : (0 : Rat) ≤ mkq s x y ↔ 0 ≤ sgI s (x / Nat.gcd x y) := by rw [← Rat.num_nonneg, e]
  have h1 : mkq s x y < 0 ↔ ¬ (0 ≤ sgI s (x / Nat.gcd x y)) := by rw [← Rat.not_le, h0]
  rw [Bool.eq_iff_iff, decide_eq_true_iff, h1]
  generalize x / Nat.gcd x y = z at hq
  cases s <;> simp [sgI] <;> omega
theorem mkq_self (q : Rat) : mkq (decide (q < 0)) q.num.natAbs q.den = q := by
  have h : sgI (decide (q < 0)) q.num.natAbs = q.num := by
    unfold sgI
    by_cases h : q < 0
    · have h1 : ¬ 0 ≤ q.num := by rw [Rat.num_nonneg, Rat.not_le]; exact h
      rw [if_pos (by simpa using h)]; omega
    · have h1 : 0 ≤ q.num := by rw [Rat.num_nonneg]; exact Rat.not_lt.1 h
      rw [if_neg (by simpa using h)]; omega
  unfold mkq; rw [h, Rat.mkRat_self]
theorem mkq_mul (s t : Bool) (x y u v : Nat) : mkq (s != t) (x * u) (y * v) = mkq s x y * mkq t u v := by
  unfold mkq; rw [Rat.mkRat_mul_mkRat]
  congr 1
  cases s <;> cases t <;> simp [sgI, Int.neg_mul, Int.mul_neg]
theorem mkq_neg (s : Bool) (x y : Nat) : mkq (!s) x y = - mkq s x y := by
  unfold mkq; rw [Rat.neg_mkRat]; congr 1; cases s <;> simp [sgI]
theorem mkq_inv (s : Bool) (x y : Nat) : mkq s y x = (mkq s x y)⁻¹ := by
  unfold mkq
  rw [← Rat.divInt_ofNat, ← Rat.divInt_ofNat, Rat.inv_divInt]
  cases s
  · rfl
  · show Rat.divInt (-(y : Int)) (x : Int) = Rat.divInt (y : Int) (-(x : Int))
    rw [Rat.divInt_neg']
theorem mkq_add (s : Bool) (x u : Nat) {y v : Nat} (hy : 0 < y) (hv : 0 < v) : mkq s (x * v + u * y) (y * v) = mkq s x y + mkq s u v := by
  unfold mkq; rw [Rat.mkRat_add_mkRat _ _ (by omega) (by omega)]
  congr 1
  cases s <;> simp [sgI, Int.neg_mul, Int.neg_add]
theorem mkq_add_ge (s t : Bool) (x u : Nat) {y v : Nat} (hst : s ≠ t) (hy : 0 < y) (hv : 0 < v) (h : u * y ≤ x * v) : mkq s (x * v - u * y) (y * v) = mkq s x y + mkq t u v := by
  unfold mkq; rw [Rat.mkRat_add_mkRat _ _ (by omega) (by omega)]
  congr 1
  obtain ⟨d, hd⟩ := Nat.le.dest h
  rw [← hd, Nat.add_sub_cancel_left]
  have e : (x : Int) * (v : Int) = u * y + d := by rw [← Int.natCast_mul, ← hd, Int.natCast_add, Int.natCast_mul]
  cases s <;> cases t
  · exact (hst rfl).elim
  · simp only [sgI, Bool.false_eq_true, if_false, if_true, Int.neg_mul, e]; omega
  · simp only [sgI, Bool.false_eq_true, if_false, if_true, Int.neg_mul, e]; omega
  · exact (hst rfl).elim
theorem mkq_add_le (s t : Bool) (x u : Nat) {y v : Nat} (hst : s ≠ t) (hy : 0 < y) (hv : 0 < v) (h : x * v ≤ u * y) : mkq t (u * y - x * v) (y * v) = mkq s x y + mkq t u v := by
  rw [Rat.add_comm, Nat.mul_comm y v]; exact mkq_add_ge t s u x (fun h => hst h.symm) hv hy h
theorem mkq_eq0 {s : Bool} {x y : Nat} : mkq s x y = 0 ↔ x = 0 ∨ y = 0 := by
  constructor
  · intro h
    rcases Nat.eq_zero_or_pos y with h0 | h0
    · exact .inr h0
    · left
      rw [mkq, Rat.mkRat_eq_zero (by omega)] at h
      have := sgI_natAbs s x
      rw [h] at this; simpa using this.symm
  · rintro (h | h)
    · rw [h, mkq_zl]
    · rw [h, mkq_zr]

/-- The order of two numbers: -1, 0, 1. -/
def cmpQ (p q : Rat) : Int := if p < q then -1 else if q < p then 1 else 0
def sgnQ (q : Rat) : Int := cmpQ q 0
theorem cmpQ_neg {p q : Rat} : cmpQ p q < 0 ↔ p < q := by
  unfold cmpQ; split
  · simp [*]
  · split <;> simp [*]
theorem cmpQ_pos {p q : Rat} : 0 < cmpQ p q ↔ q < p := by
  unfold cmpQ; split
  · rename_i h; simp; exact Rat.not_lt.2 (Rat.le_of_lt h)
  · split <;> simp [*]
theorem cmpQ_le {p q : Rat} : cmpQ p q ≤ 0 ↔ p ≤ q := by rw [← Rat.not_lt, ← cmpQ_pos]; omega
theorem cmpQ_ge {p q : Rat} : 0 ≤ cmpQ p q ↔ q ≤ p := by rw [← Rat.not_lt, ← cmpQ_neg]; omega
theorem cmpQ_zero {p q : Rat} : cmpQ p q = 0 ↔ p = q := by
  constructor
  · intro h; exact Rat.le_antisymm (cmpQ_le.1 (by omega)) (cmpQ_ge.1 (by omega))
  · rintro rfl; unfold cmpQ; rw [if_neg Rat.lt_irrefl, if_neg Rat.lt_irrefl]
theorem cmpQ_lt {p q : Rat} (h : p < q) : cmpQ p q = -1 := by unfold cmpQ; rw [if_pos h]
theorem cmpQ_gt {p q : Rat} (h : q < p) : cmpQ p q = 1 := by unfold cmpQ; rw [if_neg (Rat.not_lt.2 (Rat.le_of_lt h)), if_pos h]
theorem cmpQ_rng (p q : Rat) : -1 ≤ cmpQ p q ∧ cmpQ p q ≤ 1 := by
  unfold cmpQ; split
  · omega
  · split <;> omega
theorem cmpQ_sub (p q : Rat) : sgnQ (p - q) = cmpQ p q := by
  have h1 : p - q < 0 ↔ p < q := by rw [Rat.lt_iff_sub_pos p q, Rat.lt_iff_sub_pos (p - q) 0, Rat.sub_eq_add_neg 0, Rat.neg_sub, Rat.zero_add]
  have h2 : 0 < p - q ↔ q < p := (Rat.lt_iff_sub_pos q p).symm
  unfold sgnQ cmpQ; simp only [h1, h2]
theorem sgnQ_mkq (s : Bool) (x y : Nat) : sgnQ (mkq s x y) = if x = 0 ∨ y = 0 then 0 else if s then -1 else 1 := by
  by_cases h : x = 0 ∨ y = 0
  · rw [if_pos h, mkq_eq0.2 h]; exact cmpQ_zero.2 rfl
  · rw [if_neg h]
    have hl := mkq_lt0 s (x := x) (y := y) (by omega) (by omega)
    have h0 : mkq s x y ≠ 0 := fun e => h (mkq_eq0.1 e)
    cases s
    · refine cmpQ_gt (Rat.lt_of_le_of_ne (Rat.not_lt.1 (by simpa using hl)) (fun e => h0 e.symm))
    · exact cmpQ_lt (by simpa using hl)
theorem natq_lt {x y u v : Nat} (hy : 0 < y) (hv : 0 < v) : mkq false x y < mkq false u v ↔ x * v < u * y := by
  have e1 : ∀ a b : Nat, mkq false a b = (a : Rat) / (b : Rat) := fun a b => by
    show mkRat (a : Int) b = _
    rw [Rat.mkRat_eq_div, Rat.intCast_natCast]
  rw [e1, e1, Rat.div_lt_iff (Rat.natCast_pos.2 hy), Rat.div_def, Rat.mul_assoc, Rat.mul_comm _ (y : Rat), ← Rat.mul_assoc, ← Rat.div_def, Rat.lt_div_iff (Rat.natCast_pos.2 hv), ← Rat.natCast_mul, ← Rat.natCast_mul, Rat.natCast_lt_natCast]
theorem mkq_true (x y : Nat) : mkq true x y = - mkq false x y := mkq_neg false x y
theorem cmpN_cases (n m : Nat) : (n < m ∧ cmpN n m = -1) ∨ (m < n ∧ cmpN n m = 1) ∨ (n = m ∧ cmpN n m = 0) := by
  rcases Nat.lt_trichotomy n m with h | h | h
  · exact .inl ⟨h, cmpN_lt h⟩
  · exact .inr (.inr ⟨h, cmpN_eq h⟩)
  · exact .inr (.inl ⟨h, cmpN_gt h⟩)
theorem cmpQ_of {s t : Bool} {x y u v : Nat} (h : sgnQ (mkq s x y) = sgnQ (mkq t u v)) (h0 : sgnQ (mkq s x y) ≠ 0) : sgnQ (mkq s x y) * cmpN (x * v) (u * y) = cmpQ (mkq s x y) (mkq t u v) := by
  have h1 := sgnQ_mkq s x y
  have h2 := sgnQ_mkq t u v
  by_cases c1 : x = 0 ∨ y = 0
  · rw [if_pos c1] at h1; exact (h0 h1).elim
  by_cases c2 : u = 0 ∨ v = 0
  · rw [if_pos c2] at h2; rw [h2] at h; exact (h0 h).elim
  rw [if_neg c1] at h1
  rw [if_neg c2] at h2
  have hst : s = t := by
    rw [h1, h2] at h
    cases s <;> cases t <;> simp at h <;> rfl
  subst hst
  rw [h1]
  have hy : 0 < y := by omega
  have hv : 0 < v := by omega
  have a1 := natq_lt (x := x) (u := u) hy hv
  have a2 := natq_lt (x := u) (u := x) hv hy
  have a3 : x * v = u * y → mkq false x y = mkq false u v := fun e => Rat.le_antisymm (Rat.not_lt.1 (fun c => by rw [a2] at c; omega)) (Rat.not_lt.1 (fun c => by rw [a1] at c; omega))
  cases s
  · rcases cmpN_cases (x * v) (u * y) with ⟨e, e2⟩ | ⟨e, e2⟩ | ⟨e, e2⟩ <;> rw [e2]
    · rw [cmpQ_lt (a1.2 e)]; rfl
    · rw [cmpQ_gt (a2.2 e)]; rfl
    · rw [cmpQ_zero.2 (a3 e)]; rfl
  · rw [mkq_true, mkq_true]
    rcases cmpN_cases (x * v) (u * y) with ⟨e, e2⟩ | ⟨e, e2⟩ | ⟨e, e2⟩ <;> rw [e2]
    · rw [cmpQ_gt (Rat.neg_lt_neg (a1.2 e))]; rfl
    · rw [cmpQ_lt (Rat.neg_lt_neg (a2.2 e))]; rfl
    · rw [cmpQ_zero.2 (by rw [a3 e])]; rfl

/-- The number has few limbs. -/
def qs (q : Rat) (K : Nat) : Prop := (limbsOf q.num.natAbs).length ≤ K ∧ (limbsOf q.den).length ≤ K
theorem qs.mono {q : Rat} {a b : Nat} (h : qs q a) (hab : a ≤ b) : qs q b := ⟨Nat.le_trans h.1 hab, Nat.le_trans h.2 hab⟩
theorem limbsOf_one_len : (limbsOf 1).length ≤ 1 := limbsOf_len_of_lt (by decide)
theorem qs_mkq (s : Bool) {x y K : Nat} (h1 : (limbsOf x).length ≤ K) (h2 : (limbsOf y).length ≤ K) (h3 : 1 ≤ K) : qs (mkq s x y) K := by
  rcases Nat.eq_zero_or_pos y with h0 | h0
  · subst h0; rw [mkq_zr]; exact ⟨by show (limbsOf 0).length ≤ K; rw [limbsOf_zero]; exact Nat.zero_le _, Nat.le_trans limbsOf_one_len h3⟩
  · refine ⟨?_, ?_⟩
    · rw [mkq_num s x y h0]; exact Nat.le_trans (len_limbsOf_le (Nat.div_le_self _ _)) h1
    · rw [mkq_den s x y h0]; exact Nat.le_trans (len_limbsOf_le (Nat.div_le_self _ _)) h2
theorem limbsOf_den_pos (q : Rat) : 1 ≤ (limbsOf q.den).length := limbsOf_len_pos (Nat.pos_of_ne_zero q.den_nz)
theorem qs.one {q : Rat} {K : Nat} (h : qs q K) : 1 ≤ K := Nat.le_trans (limbsOf_den_pos q) h.2
theorem qs.mul {p q : Rat} {a b c : Nat} (hp : qs p a) (hq : qs q b) (h : a + b ≤ c) : qs (p * q) c := by
  have := hp.one
  rw [← mkq_self p, ← mkq_self q, ← mkq_mul]
  refine qs_mkq _ (Nat.le_trans (len_limbsOf_mul _ _) ?_) (Nat.le_trans (len_limbsOf_mul _ _) ?_) (by omega)
  · have := hp.1; have := hq.1; omega
  · have := hp.2; have := hq.2; omega
theorem mkRat_mkq (n : Int) (d : Nat) : mkRat n d = mkq (decide (n < 0)) n.natAbs d := by
  unfold mkq sgI
  by_cases h : n < 0
  · rw [if_pos (by simpa using h)]; congr 1; omega
  · rw [if_neg (by simpa using h)]; congr 1; omega
theorem qs.add {p q : Rat} {a b c : Nat} (hp : qs p a) (hq : qs q b) (h : a + b + 1 ≤ c) : qs (p + q) c := by
  have hp1 := hp.1; have hp2 := hp.2; have hq1 := hq.1; have hq2 := hq.2
  rw [Rat.add_def', mkRat_mkq]
  refine qs_mkq _ (Nat.le_trans (len_limbsOf_le (m := p.num.natAbs * q.den + q.num.natAbs * p.den) ?_) ?_) (Nat.le_trans (len_limbsOf_mul _ _) (by omega)) (by omega)
  · refine Nat.le_trans (Int.natAbs_add_le _ _) ?_
    rw [Int.natAbs_mul, Int.natAbs_mul, Int.natAbs_natCast, Int.natAbs_natCast]; exact Nat.le_refl _
  · refine Nat.le_trans (len_limbsOf_add _ _) ?_
    have e1 := len_limbsOf_mul p.num.natAbs q.den
    have e2 := len_limbsOf_mul q.num.natAbs p.den
    omega
theorem qs.neg {q : Rat} {K : Nat} (h : qs q K) : qs (-q) K := by
  refine ⟨?_, h.2⟩
  rw [Rat.neg_num, Int.natAbs_neg]; exact h.1
theorem qs.sub {p q : Rat} {a b c : Nat} (hp : qs p a) (hq : qs q b) (h : a + b + 1 ≤ c) : qs (p - q) c := by rw [Rat.sub_eq_add_neg]; exact hp.add hq.neg h
theorem qs.inv {q : Rat} {K : Nat} (h : qs q K) : qs q⁻¹ K := by
  rw [← mkq_self q, ← mkq_inv]; exact qs_mkq _ h.2 h.1 h.one
theorem qs.div {p q : Rat} {a b c : Nat} (hp : qs p a) (hq : qs q b) (h : a + b ≤ c) : qs (p / q) c := by rw [Rat.div_def]; exact hp.mul hq.inv h
theorem qs_zero : qs 0 1 := ⟨by show (limbsOf 0).length ≤ 1; rw [limbsOf_zero]; exact Nat.zero_le _, limbsOf_one_len⟩
theorem qs_small {q : Rat} (h1 : q.num.natAbs < 1000000000) (h2 : q.den < 1000000000) : qs q 1 := ⟨limbsOf_len_of_lt h1, limbsOf_len_of_lt h2⟩

/-- The parts of the canonical form of a number; of the zero value of the type, for none. -/
def fneg : Option Rat → Bool | none => false | some q => decide (q < 0)
def fnum : Option Rat → List Nat | none => [] | some q => limbsOf q.num.natAbs
def fden : Option Rat → List Nat | none => [] | some q => limbsOf q.den
def fval : Option Rat → Rat | none => 0 | some q => q
theorem fval_some (q : Rat) : fval (some q) = q := rfl
theorem some_zero : fneg (some 0) = false ∧ fnum (some 0) = limbsOf 0 ∧ fden (some 0) = limbsOf 1 := ⟨by decide, rfl, rfl⟩
theorem some_mkq0 {s : Bool} {x y : Nat} (h : x = 0 ∨ y = 0) : mkq s x y = 0 := mkq_eq0.2 h
theorem some_mkq {s : Bool} {x y : Nat} (hx : 0 < x) (hy : 0 < y) : fneg (some (mkq s x y)) = s ∧ fnum (some (mkq s x y)) = limbsOf (x / Nat.gcd x y) ∧ fden (some (mkq s x y)) = limbsOf (y / Nat.gcd x y) :=
  ⟨mkq_lt0 s hx hy, by show limbsOf _ = _; rw [mkq_num s x y hy], by show limbsOf _ = _; rw [mkq_den s x y hy]⟩
theorem cmpN_dec (x : Nat) : decide (cmpN x 0 = 0) = decide (x = 0) := by rw [Bool.eq_iff_iff, decide_eq_true_iff, decide_eq_true_iff]; exact cmpN_zero
theorem den_pos (q : Rat) : 0 < q.den := Nat.pos_of_ne_zero q.den_nz
theorem fneg_zero : fneg (some 0) = false := by decide
theorem fnum_zero : fnum (some 0) = [] := limbsOf_zero
theorem fden_zero : fden (some 0) = limbsOf 1 := rfl
theorem qadd_same {p q : Rat} (h : fneg (some p) = fneg (some q)) : mkq (fneg (some p)) (p.num.natAbs * q.den + q.num.natAbs * p.den) (p.den * q.den) = p + q := by
  rw [mkq_add _ _ _ (den_pos p) (den_pos q)]
  conv => lhs; arg 2; rw [h]
  exact congr (congrArg (· + ·) (mkq_self p)) (mkq_self q)
theorem qadd_ge {p q : Rat} (h : fneg (some p) ≠ fneg (some q)) (hle : q.num.natAbs * p.den ≤ p.num.natAbs * q.den) : mkq (fneg (some p)) (p.num.natAbs * q.den - q.num.natAbs * p.den) (p.den * q.den) = p + q := by
  rw [mkq_add_ge _ _ _ _ h (den_pos p) (den_pos q) hle]
  exact congr (congrArg (· + ·) (mkq_self p)) (mkq_self q)
theorem qadd_le {p q : Rat} (h : fneg (some p) ≠ fneg (some q)) (hle : p.num.natAbs * q.den ≤ q.num.natAbs * p.den) : mkq (fneg (some q)) (q.num.natAbs * p.den - p.num.natAbs * q.den) (p.den * q.den) = p + q := by
  rw [mkq_add_le _ _ _ _ h (den_pos p) (den_pos q) hle]
  exact congr (congrArg (· + ·) (mkq_self p)) (mkq_self q)
theorem num_natAbs_zero {q : Rat} (h : q.num.natAbs = 0) : q = 0 := Rat.num_eq_zero.1 (by omega)
theorem sgnQ_num0 {q : Rat} (h : q.num.natAbs = 0) : sgnQ q = 0 := cmpQ_zero.2 (num_natAbs_zero h)
theorem sgnQ_ne {q : Rat} (h0 : ¬ q.num.natAbs = 0) : sgnQ q = if fneg (some q) then -1 else 1 := by
  by_cases h : q < 0
  · rw [if_pos (by show decide (q < 0) = true; simpa using h)]; exact cmpQ_lt h
  · rw [if_neg (by show ¬ decide (q < 0) = true; simpa using h)]
    exact cmpQ_gt (Rat.lt_of_le_of_ne (Rat.not_lt.1 h) (fun e => h0 (by rw [← e]; rfl)))
theorem sgn_lt {p q : Rat} (h : sgnQ p < sgnQ q) : cmpQ p q = -1 := by
  refine cmpQ_lt ?_
  have h1 := cmpQ_rng p 0
  have h2 := cmpQ_rng q 0
  unfold sgnQ at h
  by_cases hp : p < 0
  · have : 0 ≤ q := cmpQ_ge.1 (by have := cmpQ_lt hp; omega)
    grind
  · have h3 : 0 ≤ cmpQ p 0 := cmpQ_ge.2 (Rat.not_lt.1 hp)
    have h4 : 0 < q := cmpQ_pos.1 (by omega)
    have h5 : p ≤ 0 := cmpQ_le.1 (by omega)
    grind
theorem cmpQ_swap (p q : Rat) : cmpQ q p = - cmpQ p q := by
  unfold cmpQ
  by_cases h : p < q
  · have h2 : ¬ q < p := Rat.not_lt.2 (Rat.le_of_lt h)
    rw [if_neg h2, if_pos h]; simp [h]
  · by_cases h2 : q < p
    · simp [h, h2]
    · simp [h, h2]
theorem sgn_gt {p q : Rat} (h : sgnQ q < sgnQ p) : cmpQ p q = 1 := by rw [cmpQ_swap, sgn_lt h]; rfl
theorem sgn_zero {p q : Rat} (h1 : sgnQ p = 0) (h2 : sgnQ q = 0) : cmpQ p q = 0 := cmpQ_zero.2 ((cmpQ_zero.1 h1).trans (cmpQ_zero.1 h2).symm)
/-- The quotient of two integers, and a quotient that may not be. -/
def ofq (n d : Int) : Rat := mkq ((decide (n < 0)) != (decide (d < 0))) n.natAbs d.natAbs
def dvq (p q : Rat) : Option Rat := if q = 0 then none else some (p / q)
def dve (q : Rat) : Int := if q = 0 then 12 else 0
theorem qs_ofq (n d : Int) (hn : n.natAbs < 1000000000 ^ 3) (hd : d.natAbs < 1000000000 ^ 3) : qs (ofq n d) 3 := qs_mkq _ (limbsOf_len_of_lt hn) (limbsOf_len_of_lt hd) (by omega)
theorem ofq_eq (n d : Int) : ofq n d = (n : Rat) / (d : Rat) := by
  unfold ofq mkq
  rcases Int.lt_or_le n 0 with hn | hn <;> rcases Int.lt_or_le d 0 with hd | hd
  · have e : (sgI ((decide (n < 0)) != (decide (d < 0))) n.natAbs) = -n := by simp [sgI, hn, hd]; omega
    rw [e, Rat.mkRat_eq_div, ← Rat.intCast_natCast, show ((d.natAbs : Nat) : Int) = -d from by omega, Rat.intCast_neg, Rat.intCast_neg]
    simp [Rat.div_def]
    grind
  · have e : (sgI ((decide (n < 0)) != (decide (d < 0))) n.natAbs) = n := by simp [sgI, hn, Int.not_lt.2 hd]; omega
    rw [e, Rat.mkRat_eq_div, ← Rat.intCast_natCast, show ((d.natAbs : Nat) : Int) = d from by omega]
  · have e : (sgI ((decide (n < 0)) != (decide (d < 0))) n.natAbs) = -n := by simp [sgI, hd, Int.not_lt.2 hn]; omega
    rw [e, Rat.mkRat_eq_div, ← Rat.intCast_natCast, show ((d.natAbs : Nat) : Int) = -d from by omega, Rat.intCast_neg, Rat.intCast_neg]
    simp [Rat.div_def]
    grind
  · have e : (sgI ((decide (n < 0)) != (decide (d < 0))) n.natAbs) = n := by simp [sgI, Int.not_lt.2 hd, Int.not_lt.2 hn]; omega
    rw [e, Rat.mkRat_eq_div, ← Rat.intCast_natCast, show ((d.natAbs : Nat) : Int) = d from by omega]
end Go.Nat9
