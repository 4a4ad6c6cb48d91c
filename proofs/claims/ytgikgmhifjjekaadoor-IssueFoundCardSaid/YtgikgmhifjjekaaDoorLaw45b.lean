/- The laws of chapter 45 with bytes: arguments opened. -/
import Derived.Test.YtgikgmhifjjekaaDoorLaw45
namespace Go.Proofs.YtgikgmhifjjekaaDoor
open Go Go.RowKit Go.Nat9 Go.Fw Go.ChangeShapes Go.WideShapes Go.ChangeAt

theorem c5 : Tryd.prog.cellsOf 5 = 1 := by kernel_rfl
theorem cA2 : Tryd.prog.cellsOf 37 = 2 := by kernel_rfl
theorem cA4 : Tryd.prog.cellsOf 47 = 4 := by kernel_rfl
theorem u8_of {n : Int} (h : (Lit.int .u8 n).wf = true) : ∃ k : Nat, n = (k : Int) ∧ k < 256 := by
  simp only [Lit.wf, Bool.and_eq_true, decide_eq_true_eq, IntKind.min, IntKind.max, IntKind.bits, IntKind.signed] at h
  simp at h
  exact ⟨n.toNat, by omega, by omega⟩
theorem okWide_array {P : Program} {w : World} {r : Reach} {base n : Nat} {t e : TypeId} {v : Value} (ht : P.underlying t = some (.array n e)) (h : Value.okWide P w r base t v) : ∃ cs, v = .agg cs ∧ cs.size = P.cellsOf t := by
  simp only [Value.okWide, ht] at h
  obtain ⟨cs, h1, h2, _⟩ := h
  exact ⟨cs, h1, h2⟩
section
variable {H : Type} {enc : TypeId × Value → H} {w : World} {base : Nat} {sp : Nat → Bool} {held : Bool} {r : Reach} {b0 : Nat} {v : Value} {d : DataW H} {p : List MemPlace}
set_option maxRecDepth 20000 in
theorem open_u8 (hv : Value.okWide Tryd.prog w r b0 5 v) (h : DataW.Trod enc Tryd.prog w base sp held 5 v d p) : ∃ k : Nat, v = .int .u8 (k : Nat) ∧ k < 256 := by
  obtain ⟨n, rfl, _, _, hw⟩ := open_int Tryd.underlying5 hv h
  obtain ⟨k, rfl, hk⟩ := u8_of hw
  exact ⟨k, rfl, hk⟩
theorem cell_u8 {fuel : Nat} {c : Value} {x : DataW H × List MemPlace} (h : DataW.trod enc Tryd.prog w base sp held fuel 5 [c] = some x) : ∃ k : Nat, c = .int .u8 (k : Nat) ∧ k < 256 := by
  obtain ⟨n, hc, _, hw⟩ := DataW.trod_int Tryd.underlying5 h
  obtain ⟨k, rfl, hk⟩ := u8_of hw
  simp only [List.cons.injEq, and_true] at hc
  exact ⟨k, hc, hk⟩
set_option maxRecDepth 20000 in
theorem open_u8x2 (hv : Value.okWide Tryd.prog w r b0 37 v) (h : DataW.Trod enc Tryd.prog w base sp held 37 v d p) : ∃ a b : Nat, v = .agg #[.int .u8 (a : Nat), .int .u8 (b : Nat)] ∧ a < 256 ∧ b < 256 := by
  obtain ⟨cs, rfl, hsz⟩ := okWide_array Tryd.underlying37 hv
  rw [cA2] at hsz
  obtain ⟨c0, c1, rfl⟩ := Go.Joins.array2 hsz
  obtain ⟨fuel, hf⟩ := h
  obtain ⟨xs, m, _, _, _, hlen, he⟩ := DataW.trod_array Tryd.underlying37 hf
  have h0 := he 0 (by decide)
  have h1 := he 1 (by decide)
  rw [List.getElem?_eq_getElem (by rw [hlen]; decide), c5] at h0 h1
  obtain ⟨a, rfl, ha⟩ := cell_u8 (c := c0) h0
  obtain ⟨b, rfl, hb⟩ := cell_u8 (c := c1) h1
  exact ⟨a, b, rfl, ha, hb⟩
set_option maxRecDepth 20000 in
theorem open_u8x4 (hv : Value.okWide Tryd.prog w r b0 47 v) (h : DataW.Trod enc Tryd.prog w base sp held 47 v d p) : ∃ a b c e : Nat, v = .agg #[.int .u8 (a : Nat), .int .u8 (b : Nat), .int .u8 (c : Nat), .int .u8 (e : Nat)] ∧ a < 256 ∧ b < 256 ∧ c < 256 ∧ e < 256 := by
  obtain ⟨cs, rfl, hsz⟩ := okWide_array Tryd.underlying47 hv
  rw [cA4] at hsz
  obtain ⟨c0, c1, c2, c3, rfl⟩ := Go.Joins.array4 hsz
  obtain ⟨fuel, hf⟩ := h
  obtain ⟨xs, m, _, _, _, hlen, he⟩ := DataW.trod_array Tryd.underlying47 hf
  have h0 := he 0 (by decide)
  have h1 := he 1 (by decide)
  have h2 := he 2 (by decide)
  have h3 := he 3 (by decide)
  rw [List.getElem?_eq_getElem (by rw [hlen]; decide), c5] at h0 h1 h2 h3
  obtain ⟨a, rfl, ha⟩ := cell_u8 (c := c0) h0
  obtain ⟨b, rfl, hb⟩ := cell_u8 (c := c1) h1
  obtain ⟨c, rfl, hc⟩ := cell_u8 (c := c2) h2
  obtain ⟨e, rfl, hee⟩ := cell_u8 (c := c3) h3
  exact ⟨a, b, c, e, rfl, ha, hb, hc, hee⟩
end
end Go.Proofs.YtgikgmhifjjekaaDoor
