/- The laws of chapter 45: arguments opened; the row's step for two spans. -/
import Derived.Test.YtgikgmhifjjekaaDoorLawA
namespace Go.Proofs.YtgikgmhifjjekaaDoor
open Go Go.RowKit Go.Nat9 Go.Fw Go.ChangeShapes Go.WideShapes Go.ChangeAt

theorem c28 : Tryd.prog.cellsOf 28 = 6 := by kernel_rfl
theorem c26 : Tryd.prog.cellsOf 26 = 3 := by kernel_rfl
theorem c24 : Tryd.prog.cellsOf 24 = 1 := by kernel_rfl
theorem c22 : Tryd.prog.cellsOf 22 = 1 := by kernel_rfl
theorem c87 : Tryd.prog.cellsOf 82 = 1 := by kernel_rfl
theorem c4 : Tryd.prog.cellsOf 4 = 1 := by kernel_rfl
theorem laidOut : laidOutB Tryd.prog = true := by kernel_rfl
theorem own : ownKnob Tryd.prog.godebug = none := by kernel_rfl

section
variable {H : Type} {enc : TypeId × Value → H} {w : World} {base : Nat} {sp : Nat → Bool} {held : Bool}
theorem open_nat {fuel : Nat} {v : Value} {x : DataW H × List MemPlace} (h : DataW.trod enc Tryd.prog w base sp held fuel 24 [v] = some x) :
    ∃ (ad : Option Addr) (n c : Nat) (L : List Nat), v = .slice ad n c ∧ L.length = n ∧ U32 L ∧ CellsAt (fun _ => False) w ad (u32s L) := by
  obtain ⟨xs, n, _, _, _, hlen, hf⟩ := DataW.trod_struct Tryd.underlying24 h
  have h0 : DataW.trod enc Tryd.prog w base sp held n 22 (List.take (Tryd.prog.cellsOf 22) (List.drop 0 [v])) = xs[0]? := by
    have h := hf 0 _ rfl
    exact h
  rw [List.getElem?_eq_getElem (by rw [hlen]; decide), c22] at h0
  exact open_u32s Tryd.underlying22 Tryd.underlying82 c87 h0
theorem open_frac {fuel : Nat} {v0 v1 v2 : Value} {x : DataW H × List MemPlace} (h : DataW.trod enc Tryd.prog w base sp held fuel 26 [v0, v1, v2] = some x) :
    ∃ (s : Bool) (ad : Option Addr) (n c : Nat) (L : List Nat) (be : Option Addr) (m e : Nat) (M : List Nat), v0 = .bool s ∧ v1 = .slice ad n c ∧ v2 = .slice be m e ∧ RIn n L m M ∧ CellsAt (fun _ => False) w ad (u32s L) ∧ CellsAt (fun _ => False) w be (u32s M) := by
  obtain ⟨xs, n, _, _, _, hlen, hf⟩ := DataW.trod_struct Tryd.underlying26 h
  have h0 : DataW.trod enc Tryd.prog w base sp held n 4 (List.take (Tryd.prog.cellsOf 4) (List.drop 0 [v0, v1, v2])) = xs[0]? := by
    have h := hf 0 _ rfl
    exact h
  have h1 : DataW.trod enc Tryd.prog w base sp held n 24 (List.take (Tryd.prog.cellsOf 24) (List.drop 1 [v0, v1, v2])) = xs[1]? := by
    have h := hf 1 _ rfl
    exact h
  have h2 : DataW.trod enc Tryd.prog w base sp held n 24 (List.take (Tryd.prog.cellsOf 24) (List.drop 2 [v0, v1, v2])) = xs[2]? := by
    have h := hf 2 _ rfl
    exact h
  rw [List.getElem?_eq_getElem (by rw [hlen]; decide), c4] at h0
  rw [List.getElem?_eq_getElem (by rw [hlen]; decide), c24] at h1 h2
  obtain ⟨s, hs, _⟩ := DataW.trod_bool Tryd.underlying4 h0
  obtain ⟨ad, n1, c, L, rfl, l1, u1, g1⟩ := open_nat h1
  obtain ⟨be, m1, e, M, rfl, l2, u2, g2⟩ := open_nat h2
  simp only [List.drop_zero, List.take_succ_cons, List.take_zero, List.cons.injEq, and_true] at hs
  exact ⟨s, ad, n1, c, L, be, m1, e, M, hs, rfl, rfl, ⟨l1, u1, l2, u2⟩, g1, g2⟩
set_option maxRecDepth 20000 in
theorem open_span {r : Reach} {b0 : Nat} {v : Value} {d : DataW H} {p : List MemPlace} (hv : Value.okWide Tryd.prog w r b0 28 v) (h : DataW.Trod enc Tryd.prog w base sp held 28 v d p) :
    ∃ (s1 : Bool) (ad1 : Option Addr) (n1 c1 : Nat) (L1 : List Nat) (be1 : Option Addr) (m1 e1 : Nat) (M1 : List Nat) (s2 : Bool) (ad2 : Option Addr) (n2 c2 : Nat) (L2 : List Nat) (be2 : Option Addr) (m2 e2 : Nat) (M2 : List Nat),
      v = .agg #[.bool s1, .slice ad1 n1 c1, .slice be1 m1 e1, .bool s2, .slice ad2 n2 c2, .slice be2 m2 e2] ∧ RIn n1 L1 m1 M1 ∧ RIn n2 L2 m2 M2 ∧
      (∀ q ∈ [vCells ad1 (u32s L1), vCells be1 (u32s M1), vCells ad2 (u32s L2), vCells be2 (u32s M2)], q.holds (fun _ => False) w) := by
  obtain ⟨cs, rfl, hsz⟩ := okWide_struct Tryd.underlying28 hv
  rw [c28] at hsz
  obtain ⟨c0, c1, c2, c3, c4, c5, rfl⟩ := array6 hsz
  obtain ⟨fuel, hf⟩ := h
  obtain ⟨xs, n, _, _, _, hlen, hf⟩ := DataW.trod_struct Tryd.underlying28 hf
  have h0 : DataW.trod enc Tryd.prog w base sp held n 26 (List.take (Tryd.prog.cellsOf 26) (List.drop 0 [c0, c1, c2, c3, c4, c5])) = xs[0]? := by
    have h := hf 0 _ rfl
    exact h
  have h1 : DataW.trod enc Tryd.prog w base sp held n 26 (List.take (Tryd.prog.cellsOf 26) (List.drop 3 [c0, c1, c2, c3, c4, c5])) = xs[1]? := by
    have h := hf 1 _ rfl
    exact h
  rw [List.getElem?_eq_getElem (by rw [hlen]; decide), c26] at h0 h1
  obtain ⟨s1, ad1, n1, k1, L1, be1, m1, e1, M1, rfl, rfl, rfl, r1, g1, g2⟩ := open_frac (v0 := c0) (v1 := c1) (v2 := c2) h0
  obtain ⟨s2, ad2, n2, k2, L2, be2, m2, e2, M2, rfl, rfl, rfl, r2, g3, g4⟩ := open_frac (v0 := c3) (v1 := c4) (v2 := c5) h1
  refine ⟨s1, ad1, n1, k1, L1, be1, m1, e1, M1, s2, ad2, n2, k2, L2, be2, m2, e2, M2, rfl, r1, r2, ?_⟩
  intro q hq
  simp only [List.mem_cons, List.not_mem_nil, or_false] at hq
  rcases hq with rfl | rfl | rfl | rfl
  · exact g1
  · exact g2
  · exact g3
  · exact g4
set_option maxRecDepth 20000 in
theorem open_fracV {r : Reach} {b0 : Nat} {v : Value} {d : DataW H} {p : List MemPlace} (hv : Value.okWide Tryd.prog w r b0 26 v) (h : DataW.Trod enc Tryd.prog w base sp held 26 v d p) :
    ∃ (s : Bool) (ad : Option Addr) (n c : Nat) (L : List Nat) (be : Option Addr) (m e : Nat) (M : List Nat), v = .agg #[.bool s, .slice ad n c, .slice be m e] ∧ RIn n L m M ∧ (∀ q ∈ [vCells ad (u32s L), vCells be (u32s M)], q.holds (fun _ => False) w) := by
  obtain ⟨cs, rfl, hsz⟩ := okWide_struct Tryd.underlying26 hv
  rw [c26] at hsz
  obtain ⟨c0, c1, c2, rfl⟩ := Go.Joins.array3 hsz
  obtain ⟨fuel, hf⟩ := h
  obtain ⟨s, ad, n, c, L, be, m, e, M, rfl, rfl, rfl, r, g1, g2⟩ := open_frac (v0 := c0) (v1 := c1) (v2 := c2) hf
  refine ⟨s, ad, n, c, L, be, m, e, M, rfl, r, ?_⟩
  intro q hq
  simp only [List.mem_cons, List.not_mem_nil, or_false] at hq
  rcases hq with rfl | rfl
  · exact g1
  · exact g2
end
end Go.Proofs.YtgikgmhifjjekaaDoor
