/- Chapter 38: spans apart; a number in spans. Plain. -/
import Derived.Test.YtgnljjdcbfijnaaDoorFrT
namespace Go.Fw
open Go Go.RowKit Go.Nat9

theorem inS_hit {l : List Se} {k : Nat} {q : Rat} (hk : k < l.length) (h1 : (l.getD k dS).lo.q ≤ q) (h2 : q ≤ (l.getD k dS).hi.q) : inS (l.map Se.qq) q = true := by
  rw [inS_range, List.any_eq_true]
  exact ⟨k, List.mem_range.2 hk, decide_eq_true ⟨h1, h2⟩⟩
theorem inS_miss {l : List Se} {q : Rat} (h : ∀ j, j < l.length → decide ((l.getD j dS).lo.q ≤ q ∧ q ≤ (l.getD j dS).hi.q) = false) : inS (l.map Se.qq) q = false := by
  rw [inS_range, List.any_eq_false]
  intro j hj
  rw [h j (List.mem_range.1 hj)]; simp
end Go.Fw
