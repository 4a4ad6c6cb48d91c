/- The laws of chapter 40: arguments opened. -/
import Derived.Test.YtjdojhhngganeaaGreatDoorLwA
namespace Go.Fw
open Go Go.RowKit Go.Nat9 Go.Proofs Go.ChangeShapes Go.WideShapes Go.ChangeAt
section
variable {H : Type} {P : Program} {enc : TypeId × Value → H} {w : World} {base : Nat} {sp : Nat → Bool} {held : Bool}
end
end Go.Fw
namespace Go.Proofs.YtjdojhhngganeaaGreatDoor
open Go Go.RowKit Go.Nat9 Go.Fw Go.ChangeShapes Go.WideShapes Go.ChangeAt
theorem c3 : Tryz.prog.cellsOf 3 = 1 := by kernel_rfl
theorem laidOut : laidOutB Tryz.prog = true := by kernel_rfl
theorem own : ownKnob Tryz.prog.godebug = none := by kernel_rfl
theorem i64_of_wf {n : Int} (h : (Lit.int .i64 n).wf = true) : -9223372036854775808 ≤ n ∧ n ≤ 9223372036854775807 := by
  simp only [Lit.wf, Bool.and_eq_true, decide_eq_true_eq, IntKind.min, IntKind.max, IntKind.bits, IntKind.signed] at h
  simp at h
  omega
section
variable {H : Type} {enc : TypeId × Value → H} {w : World} {base : Nat} {sp : Nat → Bool} {held : Bool} {r : Reach} {b0 : Nat} {v : Value} {d : DataW H} {p : List MemPlace}
theorem cell_int {fuel : Nat} {c : Value} {x : DataW H × List MemPlace} (h : DataW.trod enc Tryz.prog w base sp held fuel 3 [c] = some x) : ∃ k : Int, c = .int .i64 k ∧ -9223372036854775808 ≤ k ∧ k ≤ 9223372036854775807 := by
  obtain ⟨n, hc, _, hw⟩ := DataW.trod_int Tryz.underlying3 h
  simp only [List.cons.injEq, and_true] at hc
  have := i64_of_wf hw
  exact ⟨n, hc, this.1, this.2⟩
set_option maxRecDepth 20000 in
theorem open_intV (hv : Value.okWide Tryz.prog w r b0 3 v) (h : DataW.Trod enc Tryz.prog w base sp held 3 v d p) : ∃ k : Int, v = .int .i64 k ∧ -9223372036854775808 ≤ k ∧ k ≤ 9223372036854775807 := by
  obtain ⟨n, rfl, _, _, hw⟩ := open_int Tryz.underlying3 hv h
  have := i64_of_wf hw
  exact ⟨n, rfl, this.1, this.2⟩
end
end Go.Proofs.YtjdojhhngganeaaGreatDoor
