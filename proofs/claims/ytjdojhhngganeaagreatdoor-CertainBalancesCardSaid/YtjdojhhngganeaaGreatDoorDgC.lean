/- Chapter 24: what the walks ask. Plain. -/
import Derived.Test.YtjdojhhngganeaaGreatDoorDgB
namespace Go.Fw
open Go Go.RowKit
theorem many3 (n : Int) : n ≤ 8 ∨ (¬ n ≤ 8 ∧ 10 < n) ∨ (¬ n ≤ 8 ∧ ¬ 10 < n) := by omega
theorem rch6 (n : Int) (l : List Pr) (a b : Int) : ¬ dgC n l ∨ (dgC n l ∧ a < 0) ∨ (dgC n l ∧ 0 ≤ a ∧ n ≤ a) ∨ (dgC n l ∧ 0 ≤ a ∧ a < n ∧ b < 0) ∨ (dgC n l ∧ 0 ≤ a ∧ a < n ∧ 0 ≤ b ∧ n ≤ b) ∨ (dgC n l ∧ 0 ≤ a ∧ a < n ∧ 0 ≤ b ∧ b < n) := by
  by_cases h : dgC n l
  · right
    rcases (show a < 0 ∨ (0 ≤ a ∧ n ≤ a) ∨ (0 ≤ a ∧ a < n ∧ b < 0) ∨ (0 ≤ a ∧ a < n ∧ 0 ≤ b ∧ n ≤ b) ∨ (0 ≤ a ∧ a < n ∧ 0 ≤ b ∧ b < n) by omega) with e | e | e | e | e
    · exact .inl ⟨h, e⟩
    · exact .inr (.inl ⟨h, e⟩)
    · exact .inr (.inr (.inl ⟨h, e⟩))
    · exact .inr (.inr (.inr (.inl ⟨h, e⟩)))
    · exact .inr (.inr (.inr (.inr ⟨h, e⟩)))
  · exact .inl h
theorem rch_eq {m : Nat} {l : List Pr} {i j : Nat} (h : dgC m l) (hi : i < m) (hj : j < m) : decide (rchC m l i j) = ((reachL m l).getD i 0).testBit j := by
  cases hb : ((reachL m l).getD i 0).testBit j with
  | true => exact decide_eq_true ⟨h, ⟨by omega, by omega⟩, ⟨by omega, by omega⟩, hb⟩
  | false =>
    refine decide_eq_false fun e => ?_
    have h1 : ((reachL m l).getD i 0).testBit j = true := e.2.2.2
    rw [hb] at h1
    cases h1
end Go.Fw
