/- The laws of chapter 40: lists of fractions opened. -/
import Derived.Test.YtgnljjdcbfijnaaDoorLaw40
import Derived.Test.YtgnljjdcbfijnaaDoorLwA
import Derived.Test.YtgnljjdcbfijnaaDoorFrL
namespace Go.Proofs.YtgnljjdcbfijnaaDoor
open Go Go.RowKit Go.Nat9 Go.Fw Go.ChangeShapes Go.WideShapes Go.ChangeAt
theorem c26 : Tryd.prog.cellsOf 35 = 3 := by kernel_rfl
theorem c24 : Tryd.prog.cellsOf 33 = 1 := by kernel_rfl
theorem c22 : Tryd.prog.cellsOf 31 = 1 := by kernel_rfl
theorem c87 : Tryd.prog.cellsOf 101 = 1 := by kernel_rfl
theorem c4 : Tryd.prog.cellsOf 4 = 1 := by kernel_rfl
section
variable {H : Type} {enc : TypeId × Value → H} {w : World} {base : Nat} {sp : Nat → Bool} {held : Bool}
theorem open_nat {fuel : Nat} {v : Value} {x : DataW H × List MemPlace} (h : DataW.trod enc Tryd.prog w base sp held fuel 33 [v] = some x) :
    ∃ (ad : Option Addr) (n c : Nat) (L : List Nat), v = .slice ad n c ∧ L.length = n ∧ U32 L ∧ CellsAt (fun _ => False) w ad (u32s L) := by
  obtain ⟨xs, n, _, _, _, hlen, hf⟩ := DataW.trod_struct Tryd.underlying33 h
  have h0 : DataW.trod enc Tryd.prog w base sp held n 31 (List.take (Tryd.prog.cellsOf 31) (List.drop 0 [v])) = xs[0]? := by
    have h := hf 0 _ rfl
    exact h
  rw [List.getElem?_eq_getElem (by rw [hlen]; decide), c22] at h0
  exact open_u32s Tryd.underlying31 Tryd.underlying101 c87 h0
theorem open_fi {fuel : Nat} {cs : List Value} {x : DataW H × List MemPlace} (hl : cs.length = 3) (h : DataW.trod enc Tryd.prog w base sp held fuel 35 cs = some x) :
    ∃ y : Fi, cs = rc y ∧ (y.raw ∧ CellsAt (fun _ => False) w y.ad (u32s y.L) ∧ CellsAt (fun _ => False) w y.be (u32s y.M)) := by
  obtain ⟨v0, v1, v2, rfl⟩ : ∃ a b c, cs = [a, b, c] := by
    match cs, hl with
    | [a, b, c], _ => exact ⟨a, b, c, rfl⟩
  obtain ⟨xs, n, _, _, _, hlen, hf⟩ := DataW.trod_struct Tryd.underlying35 h
  have h0 : DataW.trod enc Tryd.prog w base sp held n 4 (List.take (Tryd.prog.cellsOf 4) (List.drop 0 [v0, v1, v2])) = xs[0]? := by
    have h := hf 0 _ rfl
    exact h
  have h1 : DataW.trod enc Tryd.prog w base sp held n 33 (List.take (Tryd.prog.cellsOf 33) (List.drop 1 [v0, v1, v2])) = xs[1]? := by
    have h := hf 1 _ rfl
    exact h
  have h2 : DataW.trod enc Tryd.prog w base sp held n 33 (List.take (Tryd.prog.cellsOf 33) (List.drop 2 [v0, v1, v2])) = xs[2]? := by
    have h := hf 2 _ rfl
    exact h
  rw [List.getElem?_eq_getElem (by rw [hlen]; decide), c4] at h0
  rw [List.getElem?_eq_getElem (by rw [hlen]; decide), c24] at h1 h2
  obtain ⟨s, hs, _⟩ := DataW.trod_bool Tryd.underlying4 h0
  obtain ⟨ad, n1, c, L, rfl, l1, u1, g1⟩ := open_nat h1
  obtain ⟨be, m1, e, M, rfl, l2, u2, g2⟩ := open_nat h2
  simp only [List.drop_zero, List.take_succ_cons, List.take_zero, List.cons.injEq, and_true] at hs
  subst hs
  exact ⟨⟨s, ad, n1, c, L, be, m1, e, M⟩, rfl, ⟨l1, u1, l2, u2⟩, g1, g2⟩
instance : Inhabited Fi := ⟨dI⟩
set_option maxRecDepth 20000 in
theorem open_fracV {r : Reach} {b0 : Nat} {v : Value} {d : DataW H} {p : List MemPlace} (hv : Value.okWide Tryd.prog w r b0 35 v) (h : DataW.Trod enc Tryd.prog w base sp held 35 v d p) :
    ∃ (s : Bool) (ad : Option Addr) (n c : Nat) (L : List Nat) (be : Option Addr) (m e : Nat) (M : List Nat), v = .agg #[.bool s, .slice ad n c, .slice be m e] ∧ RIn n L m M ∧ (∀ q ∈ [vCells ad (u32s L), vCells be (u32s M)], q.holds (fun _ => False) w) := by
  obtain ⟨cs, rfl, hsz⟩ := okWide_struct Tryd.underlying35 hv
  rw [c26] at hsz
  obtain ⟨c0, c1, c2, rfl⟩ := Go.Joins.array3 hsz
  obtain ⟨fuel, hf⟩ := h
  obtain ⟨y, hy, r, g1, g2⟩ := open_fi (cs := [c0, c1, c2]) rfl hf
  simp only [rc, List.cons.injEq, and_true] at hy
  obtain ⟨rfl, rfl, rfl⟩ := hy
  refine ⟨y.s, y.ad, y.n, y.c, y.L, y.be, y.m, y.e, y.M, rfl, r, ?_⟩
  intro q hq
  simp only [List.mem_cons, List.not_mem_nil, or_false] at hq
  rcases hq with rfl | rfl
  · exact g1
  · exact g2
-- open_fiV
set_option maxRecDepth 20000 in
theorem open_frs {r : Reach} {b0 : Nat} {v : Value} {d : DataW H} {p : List MemPlace} (hv : Value.okWide Tryd.prog w r b0 61 v) (h : DataW.Trod enc Tryd.prog w base sp held 61 v d p) :
    ∃ (ad : Option Addr) (c : Nat) (l : List Fi), v = .slice ad l.length c ∧ (∀ x ∈ l, x.raw) ∧ l.length ≤ 9223372036854775807 ∧ (∀ q ∈ [vCells ad (rcells l), vFis l], q.holds (fun _ => False) w) := by
  obtain ⟨a, len, cap, rfl⟩ := okWide_slice Tryd.underlying61 hv
  obtain ⟨fuel, hf⟩ := h
  obtain ⟨ad, c, l, hs, hn, hg, hc⟩ := open_rows Tryd.underlying61 c26 (by decide) rc_len (fun _ _ _ hl h => open_fi hl h) hf
  refine ⟨ad, c, l, hs, fun x hx => (hg x hx).1, hn, ?_⟩
  intro q hq
  simp only [List.mem_cons, List.not_mem_nil, or_false] at hq
  rcases hq with rfl | rfl
  · exact hc
  · exact fun x hx => (hg x hx).2
end
end Go.Proofs.YtgnljjdcbfijnaaDoor
