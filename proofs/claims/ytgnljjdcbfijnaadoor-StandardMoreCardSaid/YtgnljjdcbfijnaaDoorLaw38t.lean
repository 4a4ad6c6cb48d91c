/- The laws of chapter 38: terms opened. -/
import Derived.Test.YtgnljjdcbfijnaaDoorLaw40
namespace Go.Proofs.YtgnljjdcbfijnaaDoor
open Go Go.RowKit Go.Nat9 Go.Fw Go.ChangeShapes Go.WideShapes Go.ChangeAt
theorem cTerms : Tryd.prog.cellsOf 23 = 2 := by kernel_rfl
section
variable {H : Type} {enc : TypeId × Value → H} {w : World} {base : Nat} {sp : Nat → Bool} {held : Bool} {r : Reach} {b0 : Nat} {v : Value} {d : DataW H} {p : List MemPlace}
set_option maxRecDepth 20000 in
theorem open_terms (hv : Value.okWide Tryd.prog w r b0 23 v) (h : DataW.Trod enc Tryd.prog w base sp held 23 v d p) : ∃ i j : Int, v = .agg #[.int .i64 i, .int .i64 j] ∧ -9223372036854775808 ≤ i ∧ i ≤ 9223372036854775807 ∧ -9223372036854775808 ≤ j ∧ j ≤ 9223372036854775807 := by
  obtain ⟨cs, rfl, hsz⟩ := okWide_struct Tryd.underlying23 hv
  rw [cTerms] at hsz
  obtain ⟨c0, c1, rfl⟩ := Go.Joins.array2 hsz
  obtain ⟨fuel, hf⟩ := h
  obtain ⟨xs, n, _, _, _, hlen, hf⟩ := DataW.trod_struct Tryd.underlying23 hf
  have h0 : DataW.trod enc Tryd.prog w base sp held n 3 (List.take (Tryd.prog.cellsOf 3) (List.drop 0 [c0, c1])) = xs[0]? := by
    have h := hf 0 _ rfl
    exact h
  have h1 : DataW.trod enc Tryd.prog w base sp held n 3 (List.take (Tryd.prog.cellsOf 3) (List.drop 1 [c0, c1])) = xs[1]? := by
    have h := hf 1 _ rfl
    exact h
  rw [List.getElem?_eq_getElem (by rw [hlen]; decide), c3] at h0 h1
  obtain ⟨i, rfl, i1, i2⟩ := cell_int (c := c0) h0
  obtain ⟨j, rfl, j1, j2⟩ := cell_int (c := c1) h1
  exact ⟨i, j, rfl, i1, i2, j1, j2⟩
end
end Go.Proofs.YtgnljjdcbfijnaaDoor
