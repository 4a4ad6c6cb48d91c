/- Chapter 24: the reference's table, row by row; the table of sequences. Plain. -/
import Derived.Test.YtjdojhhngganeaaGreatDoorDgC
namespace Go.Fw
open Go Go.RowKit
theorem NthL_all (cs : List Value) : NthL cs 0 cs := NthL_self cs cs [] rfl
theorem bb2 (a b : Bool) : a = false ∨ (a = true ∧ b = false) ∨ (a = true ∧ b = true) := by cases a <;> cases b <;> simp
theorem mid_f {m : Nat} {r r3 : List Nat} {i j : Nat} (e : midR m r i j = r3) (hi : i < r.length) (h : (r3.getD i 0).testBit m = false) : midR m r i (j + 1) = r3 := by
  rw [midR_next hi, if_neg, e]
  intro h2
  rw [← e, midR_row] at h
  rw [h] at h2; exact absurd h2.1 (by decide)
theorem mid_g {m : Nat} {r r3 : List Nat} {i j : Nat} (e : midR m r i j = r3) (hi : i < r.length) (h : (r3.getD m 0).testBit j = false) : midR m r i (j + 1) = r3 := by
  rw [midR_next hi, if_neg, e]
  intro h2
  rw [← e, midR_col] at h
  rw [h] at h2; exact absurd h2.2 (by decide)
theorem mid_t {m : Nat} {r r3 : List Nat} {i j : Nat} (e : midR m r i j = r3) (hi : i < r.length) (h1 : (r3.getD i 0).testBit m = true) (h2 : (r3.getD m 0).testBit j = true) : midR m r i (j + 1) = r3.set i (r3.getD i 0 ||| 2 ^ j) := by
  rw [midR_next hi, if_pos, e]
  rw [← e, midR_row] at h1
  rw [← e, midR_col] at h2
  exact ⟨h1, h2⟩
theorem mid_row {n m : Nat} {r1 r2 r3 : List Nat} {i j : Nat} (hb : bnd n r2) (hr2 : rchI m r1 i = r2) (hj : j = n) (e : midR m r2 i j = r3) : rchI m r1 (i + 1) = r3 := by
  rw [rchI, hr2, ← e, hj, midR_full hb]
theorem tb_at {r : List Nat} {i j : Nat} {q : Bool} (hi : i < 24) (hj : j < 24) (h : (r.getD i 0).testBit j = q) : (tb r)[0 + i * 24 + j * 1]? = some (.bool q) := by
  rw [Nat.zero_add, Nat.mul_one, tb_get r hi hj, h]
theorem tb_put {r : List Nat} {i j : Nat} (hi : i < r.length) (hr : r.length ≤ 24) (hj : j < 24) : (tb r).set (0 + i * 24 + j * 1) (.bool true) = tb (r.set i (r.getD i 0 ||| 2 ^ j)) := by
  rw [Nat.zero_add, Nat.mul_one]; exact tb_set hi hr hj
/-- The table of sequences as a value. -/
def TBL (n : Nat) (need : List Nat) (W : List Int) (v : Value) (φo : List VP) : Prop := ∃ (ad1 : Option Addr) (c1 : Nat) (ad2 : Option Addr) (c2 : Nat), v = .agg #[.int .i64 (n : Nat), .slice ad1 n c1, .slice ad2 W.length c2] ∧ φo = [vCells ad1 (i64s (nI need)), vCells ad2 (i64s W)]
theorem or_in {n N s v : Nat} (hN : 2 ^ n = N) (hs : s < N) (hv : v < n) : s ||| 2 ^ v < N := by
  subst hN; exact or_lt n hs (pow_lt n hv)
theorem pow_in {n N v : Nat} (hN : 2 ^ n = N) (hv : v < n) : 2 ^ v < N := by subst hN; exact pow_lt n hv
def shrR (n : Int) (a : List Pr) : List Pr := if seqE n a = 0 then clsR n a else []
theorem shr_ok {n : Int} {a : List Pr} (h : seqE n a = 0) : shrR n a = clsR n a := if_pos h
theorem shr_no {n : Int} {a : List Pr} (h : seqE n a ≠ 0) : shrR n a = [] := if_neg h
theorem ways_end {n N k : Nat} {a : List Pr} {r : List Nat} {W : List Int} (hN : 2 ^ n = N) (hr : needL n a = r) (hW : wayS r n N k = W) (hk : k = N - 1) : waysL n a = W := by
  unfold waysL; rw [hr, hN, ← hk]; exact hW
end Go.Fw
