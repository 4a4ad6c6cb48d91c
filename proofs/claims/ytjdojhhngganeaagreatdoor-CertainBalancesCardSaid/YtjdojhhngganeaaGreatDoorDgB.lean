/- Chapter 24: sequences, counted; what is open; shares. Plain. -/
import Derived.Test.YtjdojhhngganeaaGreatDoorDgA
namespace Go.Fw
open Go Go.RowKit

/-- What has to stand before each. -/
def prv (a : List Pr) (z : List Nat) : Nat → List Nat
  | 0 => z
  | k + 1 => (prv a z k).set (a.getD k dP).2.toNat ((prv a z k).getD (a.getD k dP).2.toNat 0 ||| 2 ^ (a.getD k dP).1.toNat)
theorem prv_len (a : List Pr) (z : List Nat) : ∀ k, (prv a z k).length = z.length
  | 0 => rfl
  | k + 1 => by rw [prv, List.length_set, prv_len a z k]
theorem prv_bnd {n : Nat} {a : List Pr} (h : dgC n a) {z : List Nat} (hz : bnd n z) : ∀ {k : Nat}, k ≤ a.length → bnd n (prv a z k)
  | 0, _ => hz
  | k + 1, hk => by
    have ih := prv_bnd h hz (k := k) (by omega)
    obtain ⟨f, t, e, h1, _, _⟩ := h.at (i := k) (by omega)
    rw [prv, e]
    exact bnd_set ih (or_lt n (ih _) (pow_lt n (by simpa using h1)))
theorem prv_at {a : List Pr} {z : List Nat} {k f t : Nat} (e : a.getD k dP = ((f : Int), (t : Int))) : prv a z (k + 1) = (prv a z k).set t ((prv a z k).getD t 0 ||| 2 ^ f) := by
  rw [prv, e]; rfl
def needL (n : Nat) (a : List Pr) : List Nat := prv a (List.replicate n 0) a.length
theorem needL_len (n : Nat) (a : List Pr) : (needL n a).length = n := by unfold needL; rw [prv_len, List.length_replicate]
theorem needL_bnd {n : Nat} {a : List Pr} (h : dgC n a) : bnd n (needL n a) := prv_bnd h (bnd_zero n) (Nat.le_refl _)
/-- Whether one may follow a set. -/
def rdy (need : List Nat) (set v : Nat) : Bool := !set.testBit v && decide (bdiff (need.getD v 0) set = 0)
abbrev w64 (x : Int) : Int := IntKind.i64.wrap x
def wayV (need : List Nat) (set : Nat) (W : List Int) : Nat → List Int
  | 0 => W
  | v + 1 => if rdy need set v = true then (wayV need set W v).set set (w64 ((wayV need set W v).getD set 0 + (wayV need set W v).getD (set ||| 2 ^ v) 0)) else wayV need set W v
def wayS (need : List Nat) (n N : Nat) : Nat → List Int
  | 0 => (List.replicate N (0 : Int)).set (N - 1) 1
  | k + 1 => wayV need (N - 2 - k) (wayS need n N k) n
theorem wayV_len (need : List Nat) (set : Nat) (W : List Int) : ∀ v, (wayV need set W v).length = W.length
  | 0 => rfl
  | v + 1 => by
    have := wayV_len need set W v
    rw [wayV]; split
    · rw [List.length_set, this]
    · exact this
theorem wayS_len (need : List Nat) (n N : Nat) : ∀ k, (wayS need n N k).length = N
  | 0 => by rw [wayS, List.length_set, List.length_replicate]
  | k + 1 => by rw [wayS, wayV_len, wayS_len need n N k]
def waysL (n : Nat) (a : List Pr) : List Int := wayS (needL n a) n (2 ^ n) (2 ^ n - 1)
theorem waysL_len (n : Nat) (a : List Pr) : (waysL n a).length = 2 ^ n := wayS_len _ _ _ _
theorem rdy_t {need : List Nat} {set v : Nat} (h : ((set >>> v &&& 1 : Nat) : Int) = 0) : decide (((bdiff (need.getD v 0) set : Nat) : Int) = 0) = rdy need set v := by
  unfold rdy
  rw [(bit_zero set v).1 h, Bool.not_false, Bool.true_and]
  exact decide_eq_decide.2 (by omega)
theorem rdy_f {need : List Nat} {set v : Nat} (h : ¬ ((set >>> v &&& 1 : Nat) : Int) = 0) : rdy need set v = false := by
  unfold rdy
  rw [(bit_iff set v).1 h]; rfl
theorem pow10 {n N : Nat} (hn : n ≤ 10) (hN : 2 ^ n = N) : 1 ≤ N ∧ N ≤ 1024 := by
  subst hN
  exact ⟨Nat.pow_pos (by decide), Nat.pow_le_pow_right (n := 2) (by decide) hn⟩
def seqE (n : Int) (a : List Pr) : Int := if ¬ dgC n a then 1 else if 10 < n then 6 else if ¬ cycC n a then 11 else 0
def cntN (n : Int) (a : List Pr) : Int := if seqE n a = 0 then (waysL n.toNat a).getD 0 0 else 0
theorem seqE_dg {n : Int} {a : List Pr} (h : ¬ dgC n a) : seqE n a = 1 := if_pos h
theorem seqE_full {n : Int} {a : List Pr} (h : dgC n a) (h2 : 10 < n) : seqE n a = 6 := by unfold seqE; rw [if_neg (fun e => e h), if_pos h2]
theorem seqE_cyc {n : Int} {a : List Pr} (h : dgC n a) (h2 : ¬ 10 < n) (h3 : ¬ cycC n a) : seqE n a = 11 := by unfold seqE; rw [if_neg (fun e => e h), if_neg h2, if_pos h3]
theorem seqE_ok {n : Int} {a : List Pr} (h : dgC n a) (h2 : ¬ 10 < n) (h3 : cycC n a) : seqE n a = 0 := by unfold seqE; rw [if_neg (fun e => e h), if_neg h2, if_neg (fun e => e h3)]
theorem seqE_zero {n : Int} {a : List Pr} (h : seqE n a = 0) : dgC n a ∧ n ≤ 10 ∧ cycC n a := by
  unfold seqE at h
  by_cases h1 : dgC n a
  · rw [if_neg (fun e => e h1)] at h
    by_cases h2 : 10 < n
    · rw [if_pos h2] at h; cases h
    · rw [if_neg h2] at h
      by_cases h3 : cycC n a
      · exact ⟨h1, by omega, h3⟩
      · rw [if_pos h3] at h; cases h
  · rw [if_pos h1] at h; cases h
theorem cntN_ok {n : Int} {a : List Pr} (h : seqE n a = 0) : cntN n a = (waysL n.toNat a).getD 0 0 := if_pos h
theorem cntN_no {n : Int} {a : List Pr} (h : seqE n a ≠ 0) : cntN n a = 0 := if_neg h
end Go.Fw
